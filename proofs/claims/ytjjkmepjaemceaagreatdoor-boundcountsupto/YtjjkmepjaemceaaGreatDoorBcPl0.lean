/- Plain laws: what the plain functions answer. -/
import Derived.Test.YtjjkmepjaemceaaGreatDoorBcDef
namespace Go.Ab
open Go
theorem Ap {α β:Type} (a:α) (f:α->Option β):(some a).bind f=f a:=rfl
theorem Cv {α:Type} {l:List α} {i:Nat} (h:i<l.length):l[i]? = some l[i]:=List.getElem?_eq_getElem h
theorem Cq {α:Type} {l:List α} {i:Nat} {a:α} (h:l[i]? = some a):a∈l:=List.mem_of_getElem? h
theorem Dl (a b:Bool):((a&&b)=true)=(a=true/\b=true):=Bool.and_eq_true a b
theorem Dr:(!true)=false:=rfl
theorem Gm {S E R:Type} {step:S->Option (S⊕E)} {s:S} {J:E->Option R} {r:R} (c:S->Prop) (m:S->Nat) (b:E->Prop) (h:c s)
  (f:∀s,c s->(∃s',step s=some (.inl s')/\c s'/\m s' < m s)\/(∃e,step s=some (.inr e)/\b e)) (g:∀e,b e->J e=some r):(Bc step s).bind J=some r:=by
 obtain ⟨e,h1,h2⟩:=Rt c m b f s h
 rw [h1]; exact g e h2
theorem E3 {S E R:Type} {step:S->Option (S⊕E)} {s:S} {J:E->Option R} {Q:R->Prop} (c:S->Prop) (m:S->Nat) (b:E->Prop) (h:c s)
  (f:∀s,c s->(∃s',step s=some (.inl s')/\c s'/\m s' < m s)\/(∃e,step s=some (.inr e)/\b e)) (g:∀e,b e->∃r,J e=some r/\Q r):∃r,(Bc step s).bind J=some r/\Q r:=by
 obtain ⟨e,h1,h2⟩:=Rt c m b f s h
 rw [h1]; exact g e h2
theorem Xz {S E:Type} {X:Option (S⊕E)} {Q:S->Prop} (h:∃r,X=some r/\∃s',r = .inl s'/\Q s'):∃s',X=some (.inl s')/\Q s':=by
 obtain ⟨r,h1,s',rfl,h2⟩:=h
 exact ⟨s',h1,h2⟩
theorem Arz {S E:Type} {X:Option (S⊕E)} {Q:E->Prop} (h:∃r,X=some r/\∃e,r = .inr e/\Q e):∃e,X=some (.inr e)/\Q e:=by
 obtain ⟨r,h1,s',rfl,h2⟩:=h
 exact ⟨s',h1,h2⟩
theorem Abo {A R:Type} {X:Option R} (f:A->R) {Q:A->Prop} (h:∃r,X=some r/\∃a,r=f a/\Q a):∃a,X=some (f a)/\Q a:=by
 obtain ⟨r,h1,a,rfl,h2⟩:=h
 exact ⟨a,h1,h2⟩
theorem Ar0 {A R:Type} {X:Option A} {f g:A->Option R} (h:∀a,f a=g a):X.bind f=X.bind g:=by
 have:f=g:=funext h
 rw [this]
theorem Abp {α β:Type} {c:Prop} [Decidable c] (a b:Option α) (f:α->Option β):(if c then a else b).bind f=if c then a.bind f else b.bind f:=by split <;> rfl
theorem Cl {n:Int} (h1 : -9223372036854775808<=n) (h2:n<=9223372036854775807):IntKind.i64.wrap n=n:=by
 have e:IntKind.i64.wrap n=if 9223372036854775808<=n % 18446744073709551616 then n % 18446744073709551616-18446744073709551616 else n % 18446744073709551616:=by
  simp [IntKind.wrap,IntKind.bits,IntKind.signed]
 rw [e]; split <;> omega
theorem C6 {n:Int} (h1:0<=n) (h2:n<=18446744073709551615):IntKind.u64.wrap n=n:=by
 have e:IntKind.u64.wrap n=n % 18446744073709551616:=by simp [IntKind.wrap,IntKind.bits,IntKind.signed]
 rw [e]; omega
theorem E4 {n:Int} (h1:0<=n) (h2:n<=4294967295):IntKind.u32.wrap n=n:=by
 have e:IntKind.u32.wrap n=n % 4294967296:=by simp [IntKind.wrap,IntKind.bits,IntKind.signed]
 rw [e]; omega
theorem Df {α:Type} {l:List α} {i:Int} {n:Nat} (hi:i=n) (h:n<l.length):Au l i=some l[n]:=by
 subst hi; simp [Au,h]
theorem Cs {α:Type} {l:List α} {i:Int} {n:Nat} {x:α} (hi:i=n) (h:l[n]? = some x):Au l i=some x:=by
 subst hi; simp [Au,h]
theorem Hm {α:Type} {l:List α} {i:Int} {n:Nat} (hi:i=n) (x:α):Dy l i x=l.set n x:=by
 subst hi; simp [Dy]
theorem Dw {α:Type} {b:Nat} {xs ys:List α} (h:(xs.length+ys.length)*b<=140737488355328):Cr b xs ys=some (xs++ys):=by
 simp [Cr,h]
theorem Ko {α:Type} {b:Nat} {len f:Int} {z:α} {n c:Nat} (h1:len=n) (h2:f=c) (h3:n<=c) (g:b*c<=281474976710656) (h:c<=140737488355328):Fy b len f z=some (List.replicate n z):=by
 subst h1; subst h2
 have a1:(0:Int)<=(n:Int):=by omega
 have a2:(n:Int)<=(c:Int):=by omega
 have a3:(c:Int)<=140737488355328:=by omega
 simp [Fy,a2,a3,g]
theorem Abq {α:Type} {b:Nat} {f:Int} {z:α} {c:Nat} (h2:f=c) (h:b*c<=281474976710656) (g:c<=140737488355328):Fy b 0 f z=some []:=by
 exact Ko (len:=0) (n:=0) (c:=c) rfl h2 (by omega) h g
theorem Cg {a b:Int} (h:a≠b):(a==b)=false:=by simpa using h
theorem Ct {a b:Int} (h:a=b):(a==b)=true:=by simpa using h
theorem C7 {a b:Int} (h:a≠b):(a != b)=true:=by simpa using h
theorem C0 {a b:Int} (h:a=b):(a != b)=false:=by simpa using h
theorem A4 {p:Prop} [Decidable p] (h:p):decide p=true:=decide_eq_true h
theorem A8 {p:Prop} [Decidable p] (h:¬p):decide p=false:=decide_eq_false h
theorem Vf {α:Type} {l:List α} {hi:Int} {n:Nat} (h:hi=n) (b:n<=l.length):Gw l 0 hi=some (l.take n):=by
 subst h
 have:(n:Int)<=(l.length:Int):=by omega
 simp [Gw,this]
theorem Im {a b:Int} (ha:0<=a) (hb:0<b):F4 a b=some (a % b):=by
 have:b≠0:=by omega
 simp [F4,this,Int.tmod_eq_emod_of_nonneg ha]
theorem Je {a b:Int} (ha:0<=a) (c:a<=18446744073709551615) (hb:0<b):Fi .u64 a b=some (a / b):=by
 have:b≠0:=by omega
 have h1:0<=a / b:=Int.ediv_nonneg ha (by omega)
 have h2:a / b<=a:=Int.ediv_le_self _ ha
 simp [Fi,this,Int.tdiv_eq_ediv_of_nonneg ha]
 exact C6 h1 (by omega)
theorem Abr {a b:Int} (ha:0<=a) (c:a<=4294967295) (hb:0<b):Fi .u32 a b=some (a / b):=by
 have:b≠0:=by omega
 have h1:0<=a / b:=Int.ediv_nonneg ha (by omega)
 have h2:a / b<=a:=Int.ediv_le_self _ ha
 simp [Fi,this,Int.tdiv_eq_ediv_of_nonneg ha]
 exact E4 h1 (by omega)
def A0:List Int->Int
 | []=>0
 | d::l=>d+1000000000*A0 l
def Cb (l:List Int):Prop:=∀d∈l,0<=d/\d<1000000000
def Ju (l:List Int):Prop:=∀d∈l,0<=d/\d<4294967296
def Can (l:List Int):Prop:=Cb l/\∀h:l≠[],l.getLast h≠0
def Ar (n:Nat):List Int:=if h:n=0 then [] else ((n % 1000000000:Nat):Int)::Ar (n / 1000000000)
termination_by n
decreasing_by exact Nat.div_lt_self (by omega) (by decide)
theorem Fb:Ar 0 = []:=by rw [Ar]; simp
theorem Kp {n:Nat} (h:n≠0):Ar n=((n % 1000000000:Nat):Int)::Ar (n / 1000000000):=by rw [Ar]; simp [h]
theorem Cb.nil:Cb []:=fun _ h=>by cases h
theorem Cb.append {l m:List Int} (h:Cb l) (h':Cb m):Cb (l++m):=by
 intro d hd
 rcases List.mem_append.1 hd with hd | hd
 .exact h d hd
 .exact h' d hd
theorem Cb.one {d:Int} (h:0<=d) (h':d<1000000000):Cb [d]:=by
 intro x hx; simp at hx; subst hx; exact ⟨h,h'⟩
theorem Cb.snoc {l:List Int} {d:Int} (h:Cb l) (hd:0<=d) (b:d<1000000000):Cb (l++[d]):=h.append (Cb.one hd b)
theorem Cb.take {l:List Int} (h:Cb l) (k:Nat):Cb (l.take k):=fun d hd=>h d (List.mem_of_mem_take hd)
theorem Cb.drop {l:List Int} (h:Cb l) (k:Nat):Cb (l.drop k):=fun d hd=>h d (List.mem_of_mem_drop hd)
theorem Cb.get {l:List Int} (h:Cb l) {i:Nat} (hi:i<l.length):0<=l[i]/\l[i]<1000000000:=h _ (List.getElem_mem hi)
theorem Cb.set {l:List Int} (h:Cb l) (i:Nat) {d:Int} (hd:0<=d) (b:d<1000000000):Cb (l.set i d):=by
 intro x hx
 rcases List.mem_or_eq_of_mem_set hx with hx | rfl
 .exact h x hx
 .exact ⟨hd,b⟩
theorem Cb.replicate (n:Nat):Cb (List.replicate n 0):=by
 intro d hd
 have:=List.eq_of_mem_replicate hd
 subst this; decide
theorem Cb.tail {d:Int} {l:List Int} (h:Cb (d::l)):Cb l:=fun x hx=>h x (by simp [hx])
theorem Cb.u32 {l:List Int} (h:Cb l):Ju l:=fun d hd=>by have:=h d hd; omega
theorem Ahw (l m:List Int):A0 (l++m)=A0 l+1000000000 ^ l.length*A0 m:=by
 induction l with
 | nil=>simp [A0]
 | cons d l ih=>simp only [List.cons_append,A0,ih,List.length_cons,Int.pow_succ]; grind
theorem Ip (l:List Int) (d:Int):A0 (l++[d])=A0 l+1000000000 ^ l.length*d:=by rw [Ahw]; simp [A0]
theorem E5 (l:List Int) {k:Nat} (h:k<l.length):A0 (l.take (k+1))=A0 (l.take k)+1000000000 ^ k*l[k]:=by
 rw [List.take_succ_eq_append_getElem h,Ip]
 simp [Nat.min_eq_left (Nat.le_of_lt h)]
theorem X0 (n:Nat):A0 (List.replicate n 0)=0:=by
 induction n with
 | zero=>rfl
 | succ n ih=>simp [List.replicate_succ,A0,ih]
theorem L3 (l:List Int) (k:Nat) (h:k<=l.length):A0 l=A0 (l.take k)+1000000000 ^ k*A0 (l.drop k):=by
 have e:=Ahw (l.take k) (l.drop k)
 rw [List.take_append_drop] at e
 rw [e,List.length_take,Nat.min_eq_left h]
theorem Jv (l:List Int) {i:Nat} (h:i<l.length) (d:Int):A0 (l.set i d)=A0 l+1000000000 ^ i*(d-l[i]):=by
 induction l generalizing i with
 | nil=>simp at h
 | cons x l ih=>
  cases i with
  | zero=>simp [A0]; omega
  | succ i=>
   have hi:i<l.length:=by simpa using h
   simp only [List.set_cons_succ,A0,ih hi,List.getElem_cons_succ,Int.pow_succ]
   grind
theorem Fz {l:List Int} (h:Ju l):0<=A0 l:=by
 induction l with
 | nil=>simp [A0]
 | cons d l ih=>
  have h1:=h d (by simp)
  have h2:=ih (fun x hx=>h x (by simp [hx]))
  simp only [A0]; omega
theorem Iq (n:Nat):(0:Int)<1000000000 ^ n:=Int.pow_pos (by decide)
theorem H9 {l:List Int} (h:Cb l):A0 l<1000000000 ^ l.length:=by
 induction l with
 | nil=>simp [A0]
 | cons d l ih=>
  have h1:=h d (by simp)
  have h2:=ih h.tail
  simp only [A0,List.length_cons,Int.pow_succ]
  omega
theorem En (n:Nat):A0 (Ar n)=n:=by
 induction n using Nat.strongRecOn with
 | _ n ih=>
  by_cases h:n=0
  .subst h; rw [Fb]; rfl
  .rw [Kp h,A0,ih (n / 1000000000) (Nat.div_lt_self (by omega) (by decide))]
   omega
theorem Eb (n:Nat):Cb (Ar n):=by
 induction n using Nat.strongRecOn with
 | _ n ih=>
  by_cases h:n=0
  .subst h; rw [Fb]; exact Cb.nil
  .rw [Kp h]
   intro d hd
   simp at hd
   rcases hd with rfl | hd
   .omega
   .exact ih (n / 1000000000) (Nat.div_lt_self (by omega) (by decide)) d hd
theorem G6 {n:Nat} (h:n≠0):Ar n≠[]:=by rw [Kp h]; simp
theorem X1 (n:Nat):Can (Ar n):=by
 refine ⟨Eb n,?_⟩
 induction n using Nat.strongRecOn with
 | _ n ih=>
  intro b
  have h:n≠0:=fun e=>b (by rw [e]; exact Fb)
  have hc:=Kp h
  by_cases h2:n / 1000000000=0
  .have c:Ar n = [((n % 1000000000:Nat):Int)]:=by rw [hc,h2,Fb]
   simp only [c,List.getLast_singleton]
   omega
  .have:=ih (n / 1000000000) (Nat.div_lt_self (by omega) (by decide)) (G6 h2)
   simp only [hc]
   rwa [List.getLast_cons (G6 h2)]
theorem Abs {l:List Int} (h:Can l):Ar (A0 l).toNat=l:=by
 induction l with
 | nil=>exact Fb
 | cons d l ih=>
  obtain ⟨h1,h2⟩:=h
  have hd:=h1 d (by simp)
  have g:Can l:=by
   refine ⟨h1.tail,fun b=>?_⟩
   have:=h2 (by simp)
   rwa [List.getLast_cons b] at this
  have f:=Fz (h1.tail).u32
  have b:(A0 (d::l)).toNat≠0:=by
   intro e
   simp only [A0] at e
   have c:d=0:=by omega
   have f:A0 l=0:=by omega
   have:l = []:=by rw [<-ih g,f]; exact Fb
   subst this
   exact h2 (by simp) (by simpa using c)
  rw [Kp b]
  simp only [A0]
  have j:((d+1000000000*A0 l).toNat % 1000000000:Nat)=d.toNat:=by omega
  have i:(d+1000000000*A0 l).toNat / 1000000000=(A0 l).toNat:=by omega
  rw [j,i,ih g]
  congr 1; omega
theorem X2 {l:List Int} {n:Nat} (h:Can l) (b:A0 l=n):l=Ar n:=by
 rw [<-Abs h,b]; rfl
def Gc:List Int->List Int
 | []=>[]
 | d::l=>match Gc l with
  | []=>if d=0 then [] else [d]
  | x::m=>d::x::m
theorem Ar1 (l:List Int):Gc (l++[0])=Gc l:=by
 induction l with
 | nil=>rfl
 | cons d l ih=>simp only [List.cons_append,Gc,ih]
theorem Ar2 {l:List Int} {d:Int} (h:d≠0):Gc (l++[d])=l++[d]:=by
 induction l with
 | nil=>simp [Gc,h]
 | cons x l ih=>
  simp only [List.cons_append,Gc,ih]
  cases l with
  | nil=>rfl
  | cons y l=>rfl
theorem Ahx {l:List Int} (h:Cb l):Can (Gc l)/\A0 (Gc l)=A0 l:=by
 induction l with
 | nil=>exact ⟨⟨Cb.nil,fun h=>(h rfl).elim⟩,rfl⟩
 | cons d l ih=>
  obtain ⟨⟨i1,i2⟩,i3⟩:=ih h.tail
  have hd:=h d (by simp)
  simp only [Gc]
  cases c:Gc l with
  | nil=>
   rw [c] at i3
   simp only [A0] at i3
   simp only []
   by_cases b:d=0
   .rw [if_pos b]
    refine ⟨⟨Cb.nil,fun h=>(h rfl).elim⟩,?_⟩
    simp only [A0]; rw [<-i3]; omega
   .rw [if_neg b]
    refine ⟨⟨Cb.one hd.1 hd.2,fun _=>by simpa using b⟩,?_⟩
    simp only [A0]; rw [<-i3]
  | cons x m=>
   rw [c] at i1 i2 i3
   simp only []
   refine ⟨⟨?_,fun _=>?_⟩,?_⟩
   .intro y hy
    rcases List.mem_cons.1 hy with rfl | hy
    .exact hd
    .exact i1 y hy
   .rw [List.getLast_cons (by simp)]; exact i2 (by simp)
   .simp only [A0] at i3 ⊢; rw [i3]
theorem Jf {l:List Int} {n:Nat} (h:Cb l) (b:A0 l=n):Gc l=Ar n:=by
 obtain ⟨h1,h2⟩:=Ahx h
 exact X2 h1 (h2.trans b)
theorem Ar3 {l:List Int} (h:Can l):Gc l=l:=by
 obtain ⟨h1,h2⟩:=Ahx h.1
 rw [<-Abs h1,h2,Abs h]
def B1 (n:Nat):Nat:=(Ar n).length
theorem Vg:B1 0=0:=by simp [B1,Fb]
theorem L5 (n:Nat):n<1000000000 ^ B1 n:=by
 have:=H9 (Eb n)
 rw [En] at this
 have e:((1000000000 ^ B1 n:Nat):Int)=1000000000 ^ B1 n:=by simp
 unfold B1 at *
 omega
theorem Kq {n k:Nat} (h:n<1000000000 ^ k):B1 n<=k:=by
 induction k generalizing n with
 | zero=>simp at h; subst h; simp [Vg]
 | succ k ih=>
  by_cases b:n=0
  .subst b; simp [Vg]
  .unfold B1
   rw [Kp b,List.length_cons]
   have:n / 1000000000<1000000000 ^ k:=by
    rw [Nat.div_lt_iff_lt_mul (by decide)]; rwa [Nat.pow_succ] at h
   have:=ih this
   unfold B1 at this; omega
theorem Hf {m n:Nat} (h:m<=n):B1 m<=B1 n:=Kq (Nat.lt_of_le_of_lt h (L5 n))
theorem Ahy {n k:Nat} (h:k<B1 n):1000000000 ^ k<=n:=by
 rcases Nat.lt_or_ge n (1000000000 ^ k) with h' | h'
 .have:=Kq h'; omega
 .exact h'
theorem Abt (m n:Nat):B1 (m+n)<=max (B1 m) (B1 n)+1:=by
 apply Kq
 have h1:=L5 m
 have h2:=L5 n
 have h3:1000000000 ^ B1 m<=1000000000 ^ max (B1 m) (B1 n):=Nat.pow_le_pow_right (by decide) (Nat.le_max_left _ _)
 have b:1000000000 ^ B1 n<=1000000000 ^ max (B1 m) (B1 n):=Nat.pow_le_pow_right (by decide) (Nat.le_max_right _ _)
 rw [Nat.pow_succ]
 omega
theorem Gt (m n:Nat):B1 (m*n)<=B1 m+B1 n:=by
 apply Kq
 rw [Nat.pow_add]
 exact Nat.mul_lt_mul_of_lt_of_le (L5 m) (Nat.le_of_lt (L5 n)) (Nat.pow_pos (by decide))
theorem Abu (m n:Nat):B1 (m / n)<=B1 m:=Hf (Nat.div_le_self _ _)
theorem Ahz {m n:Nat} (h:B1 m<B1 n):m<n:=Nat.lt_of_lt_of_le (L5 m) (Ahy h)
theorem Ah0 {l m:List Int} (g:Cb l) {k:Nat} (hk:k<l.length) (b:k<m.length) (f:Cb m) (hd:l.drop (k+1)=m.drop (k+1)) (c:l[k]<m[k]):A0 l<A0 m:=by
 have j:=L3 l (k+1) hk
 have i:=L3 m (k+1) b
 rw [E5 l hk] at j
 rw [E5 m b,<-hd] at i
 have h3:=H9 (g.take k)
 have q:=Fz ((f.take k).u32)
 rw [List.length_take,Nat.min_eq_left (Nat.le_of_lt hk)] at h3
 have h:1000000000 ^ k*(l[k]+1)<=1000000000 ^ k*m[k]:=Int.mul_le_mul_of_nonneg_left c (Int.le_of_lt (Iq k))
 rw [Int.mul_add] at h
 omega
end Go.Ab
namespace Go.Ab
open Go
theorem Oj {S E R:Type} {step:S->Option (S⊕E)} {s0:S} {J:E->Option R} {r:R} (n:Nat) (b:Nat->S) (g:s0=b 0)
  (c:∀j,j<n->step (b j)=some (.inl (b (j+1)))) (f:∃e,step (b n)=some (.inr e)/\J e=some r):(Bc step s0).bind J=some r:=by
 have key:∀m,m<=n->Bc step (b 0)=Bc step (b m):=by
  intro m
  induction m with
  | zero=>intro _; rfl
  | succ m ih=>intro h; rw [ih (by omega),I2 (c m (by omega))]
 obtain ⟨e,h1,h2⟩:=f
 rw [g,key n (Nat.le_refl _),E9 h1]
 exact h2
theorem D3 {j n:Nat} (h:j<n) (b:n<4611686018427387904):Al ((j:Int)+1)=((j+1:Nat):Int):=by
 rw [Al,Cl] <;> omega
theorem Ah1 {α:Type} {l:List α} {p:α×Nat->Bool} (h:l.zipIdx.all p=false):∃j x,l[j]? = some x/\p (x,j)=false/\∀i y,i<j->l[i]? = some y->p (y,i)=true:=by
 have key:∀(n:Nat),(∀i y,i<n->l[i]? = some y->p (y,i)=true)\/∃j x,j<n/\l[j]? = some x/\p (x,j)=false/\∀i y,i<j->l[i]? = some y->p (y,i)=true:=by
  intro n
  induction n with
  | zero=>exact .inl (fun i y h=>by omega)
  | succ n ih=>
   rcases ih with ih | ⟨j,x,h1,h2,h3,b⟩
   .cases hx:l[n]? with
    | none=>exact .inl (fun i y hi hy=>by
      rcases Nat.lt_or_ge i n with h | h
      .exact ih i y h hy
      .have:i=n:=by omega
       subst this; rw [hx] at hy; cases hy)
    | some x=>
     cases hp:p (x,n) with
     | true=>exact .inl (fun i y hi hy=>by
       rcases Nat.lt_or_ge i n with h | h
       .exact ih i y h hy
       .have:i=n:=by omega
        subst this; rw [hx] at hy; cases hy; exact hp)
     | false=>exact .inr ⟨n,x,by omega,hx,hp,ih⟩
   .exact .inr ⟨j,x,by omega,h2,h3,b⟩
 rcases key l.length with hk | ⟨j,x,h1,h2,h3,b⟩
 .exfalso
  have:l.zipIdx.all p=true:=by
   rw [List.all_eq_true]
   rintro ⟨y,i⟩ hy
   have:=List.mk_mem_zipIdx_iff_getElem?.1 hy
   have hi:i<l.length:=by
    rcases Nat.lt_or_ge i l.length with h | h
    .exact h
    .rw [List.getElem?_eq_none h] at this; cases this
   exact hk i y hi this
  rw [this] at h; cases h
 .exact ⟨j,x,h2,h3,b⟩
theorem Hg {α:Type} {l:List α} {p:α×Nat->Bool} (h:l.zipIdx.all p=true) {j:Nat} {x:α} (hx:l[j]? = some x):p (x,j)=true :=
 List.all_eq_true.1 h _ (List.mk_mem_zipIdx_iff_getElem?.2 hx)
theorem Vh {α:Type} {l:List α} {p:α×Nat->Bool} (h:∀j x,l[j]? = some x->p (x,j)=true):l.zipIdx.all p=true:=by
 rw [List.all_eq_true]
 rintro ⟨y,i⟩ hy
 exact h i y (List.mk_mem_zipIdx_iff_getElem?.1 hy)
theorem Kr {S E R α:Type} {step:S->Option (S⊕E)} {s0:S} {J:E->Option R} {rt rf:R} (l:List α) (p:α×Nat->Bool) (b:Nat->S) (f:s0=b 0) (q:l.length<4611686018427387904)
  (g:∀(j:Nat) (x:α),l[j]? = some x->(∀i y,i<j->l[i]? = some y->p (y,i)=true)->decide ((j:Int)<(l.length:Int))=true->Au l (j:Int)=some x->Al ((j:Int)+1)=((j+1:Nat):Int) ->
   (p (x,j)=true->step (b j)=some (.inl (b (j+1))))/\(p (x,j)=false->∃e,step (b j)=some (.inr e)/\J e=some rf))
  (s:decide ((l.length:Int)<(l.length:Int))=false->l.zipIdx.all p=true->∃e,step (b l.length)=some (.inr e)/\J e=some rt):(Bc step s0).bind J=some (bif l.zipIdx.all p then rt else rf):=by
 have c:∀(j:Nat) (x:α),l[j]? = some x->(∀i y,i<j->l[i]? = some y->p (y,i)=true)->_:=fun j x hx hy=>
  have hj:j<l.length:=by
   rcases Nat.lt_or_ge j l.length with h | h
   .exact h
   .rw [List.getElem?_eq_none h] at hx; cases hx
  g j x hx hy (A4 (by omega)) (Cs rfl hx) (D3 hj q)
 cases hb:l.zipIdx.all p with
 | true=>
  refine Oj l.length b f (fun j hj=>?_) (s (by simp) hb)
  have hx:l[j]? = some l[j]:=Cv hj
  exact (c j _ hx (fun i y _ hy=>Hg hb hy)).1 (Hg hb hx)
 | false=>
  obtain ⟨j,x,h1,h2,h3⟩:=Ah1 hb
  refine Oj j b f (fun i hi=>?_) ((c j x h1 h3).2 h2)
  have hj:j<l.length:=by
   rcases Nat.lt_or_ge j l.length with h | h
   .exact h
   .rw [List.getElem?_eq_none h] at h1; cases h1
  have hx:l[i]? = some l[i]:=Cv (by omega)
  exact (c i _ hx (fun k y hk hy=>h3 k y (by omega) hy)).1 (h3 i _ hi hx)
theorem X3 {α:Type} (l:List α) (p:α->Bool):l.zipIdx.all (fun q=>p q.1)=l.all p:=by
 cases h:l.all p with
 | true=>
  exact Vh fun j x hx=>List.all_eq_true.1 h _ (Cq hx)
 | false=>
  cases h':l.zipIdx.all (fun q=>p q.1) with
  | false=>rfl
  | true=>
   rw [<-h]; symm
   rw [List.all_eq_true]
   intro x hx
   obtain ⟨j,hj⟩:=List.getElem?_of_mem hx
   exact Hg h' hj
theorem Jw {S E R α:Type} {step:S->Option (S⊕E)} {s0:S} {J:E->Option R} {rt rf:R} (l:List α) (p:α->Bool) (b:Nat->S) (i:s0=b 0) (f:l.length<4611686018427387904)
  (c:∀(j:Nat) (x:α),l[j]? = some x->decide ((j:Int)<(l.length:Int))=true->Au l (j:Int)=some x->Al ((j:Int)+1)=((j+1:Nat):Int) ->
   (p x=true->step (b j)=some (.inl (b (j+1))))/\(p x=false->∃e,step (b j)=some (.inr e)/\J e=some rf))
  (g:decide ((l.length:Int)<(l.length:Int))=false->∃e,step (b l.length)=some (.inr e)/\J e=some rt):(Bc step s0).bind J=some (bif l.all p then rt else rf):=by
 rw [<-X3 l p]
 exact Kr l (fun q=>p q.1) b i f (fun j x hx _=>c j x hx) (fun h _=>g h)
theorem F6 {S E R α:Type} {step:S->Option (S⊕E)} {s0:S} {J:E->Option R} {r:R} (l:List α) (b:Nat->S) (h:s0=b 0) (f:l.length<4611686018427387904)
  (c:∀(j:Nat) (x:α),j<l.length->l[j]? = some x->decide ((j:Int)<(l.length:Int))=true->Au l (j:Int)=some x->Al ((j:Int)+1)=((j+1:Nat):Int)->step (b j)=some (.inl (b (j+1))))
  (g:decide ((l.length:Int)<(l.length:Int))=false->∃e,step (b l.length)=some (.inr e)/\J e=some r):(Bc step s0).bind J=some r:=by
 refine Oj l.length b h (fun j hj=>?_) (g (by simp))
 have hx:l[j]? = some l[j]:=Cv hj
 exact c j _ hj hx (A4 (by omega)) (Cs rfl hx) (D3 hj f)
theorem D7 {α:Type} {l:List α} {j:Nat} {x:α} (h:l[j]? = some x):l.take (j+1)=l.take j++[x]:=by
 rw [List.take_add_one,h]; rfl
theorem Em {α:Type} {l:List α} {j:Nat} {x:α} (h:l[j]? = some x):j<l.length:=by
 rcases Nat.lt_or_ge j l.length with h' | h'
 .exact h'
 .rw [List.getElem?_eq_none h'] at h; cases h
theorem Jx (b:Bool):(bif b then true else false)=b:=by cases b <;> rfl
theorem Ar4 (b:Bool):(bif b then false else true) = !b:=by cases b <;> rfl
theorem Q2 {A R:Type} {X:Option A} {f:A->Option R} {y:R} {Q:A->Prop} (h:∃r,X=some r/\Q r) (b:∀r,Q r->f r=some y):X.bind f=some y:=by
 obtain ⟨r,h1,h2⟩:=h
 rw [h1]; exact b r h2
theorem Abv {α:Type} (l:List α) (p:α->Bool) {step:Int->Option (Int⊕(Int⊕Unit))} {J:Int⊕Unit->Option Int} (k:l.length<4611686018427387904)
  (g:∀(j:Nat) (x:α),x∈l->decide ((j:Int)<(l.length:Int))=true->Au l (j:Int)=some x->Al ((j:Int)+1)=((j+1:Nat):Int) ->
   step (j:Int)=bif p x then some (.inr (.inl (j:Int))) else some (.inl ((j+1:Nat):Int)))
  (q:decide ((l.length:Int)<(l.length:Int))=false->step (l.length:Int)=some (.inr (.inr ())))
  (c:∀i,J (.inl i)=some i) (b:J (.inr ())=some (-1)):∃i,(Bc step 0).bind J=some i/\decide (i>=0)=l.any p:=by
 have key:(Bc step 0).bind (fun z=>(J z).bind fun i=>some (decide (i>=0)))=some (bif l.all (fun x=>!p x) then false else true):=by
  refine Jw l (fun x=>!p x) (fun j=>(j:Int)) rfl k (fun j x hx h1 h2 h3=>?_) (fun h=>⟨.inr (),q h,by rw [b]; rfl⟩)
  have h:=g j x (Cq hx) h1 h2 h3
  simp only [h]
  cases p x with
  | true=>exact ⟨(fun h=>by cases h),fun _=>⟨.inl (j:Int),rfl,by simp only [c,Ap]; rw [A4 (by omega)]⟩⟩
  | false=>exact ⟨fun _=>rfl,fun h=>by cases h⟩
 have e:l.any p=(bif l.all (fun x=>!p x) then false else true):=by
  rw [Ar4,List.not_all_eq_any_not]; simp
 rw [e]
 cases f:Bc step 0 with
 | none=>rw [f] at key; cases key
 | some z=>
  rw [f,Ap] at key
  rw [Ap]
  cases hi:J z with
  | none=>rw [hi] at key; cases key
  | some i=>
   rw [hi,Ap] at key
   exact ⟨i,rfl,Option.some.inj key⟩
theorem Vi {S E R α M:Type} {step:S->Option (S⊕E)} {s0:S} {J:E->Option R} (l:List α) (p:α×Nat->Bool) (b:Nat->M->S) (I:M->Prop) (z A:R->Prop) (g:M) (U:s0=b 0 g) (h:I g) (D:l.length<4611686018427387904)
  (B:∀(j:Nat) (x:α) (m:M),I m->l[j]? = some x->(∀i y,i<j->l[i]? = some y->p (y,i)=true)->decide ((j:Int)<(l.length:Int))=true->Au l (j:Int)=some x->Al ((j:Int)+1)=((j+1:Nat):Int) ->
   (p (x,j)=true->∃f,step (b j m)=some (.inl (b (j+1) f))/\I f)/\(p (x,j)=false->∃e,step (b j m)=some (.inr e)/\∃r,J e=some r/\A r))
  (G:∀m,I m->decide ((l.length:Int)<(l.length:Int))=false->l.zipIdx.all p=true->∃e,step (b l.length m)=some (.inr e)/\∃r,J e=some r/\z r) :
  ∃r,(Bc step s0).bind J=some r/\((l.zipIdx.all p=true/\z r)\/(l.zipIdx.all p=false/\A r)):=by
 have c:∀(j:Nat) (x:α) (m:M),I m->l[j]? = some x->(∀i y,i<j->l[i]? = some y->p (y,i)=true)->_:=fun j x m L hx hy=>
  have hj:j<l.length:=Em hx
  B j x m L hx hy (A4 (by omega)) (Cs rfl hx) (D3 hj D)
 have key:∀n,n<=l.length->(∀i y,i<n->l[i]? = some y->p (y,i)=true)->∃m,I m/\Bc step s0=Bc step (b n m):=by
  intro n
  induction n with
  | zero=>intro _ _; exact ⟨g,h,by rw [U]⟩
  | succ n ih=>
   intro V hy
   obtain ⟨m,h1,h2⟩:=ih (by omega) (fun i y hi=>hy i y (by omega))
   have hx:l[n]? = some l[n]:=Cv (by omega)
   obtain ⟨f,h3,k⟩:=(c n _ m h1 hx (fun i y hi=>hy i y (by omega))).1 (hy n _ (by omega) hx)
   exact ⟨f,k,by rw [h2,I2 h3]⟩
 cases hb:l.zipIdx.all p with
 | true=>
  obtain ⟨m,h1,h2⟩:=key l.length (Nat.le_refl _) (fun i y _ hy=>Hg hb hy)
  obtain ⟨e,u,r,s,q⟩:=G m h1 (by simp) hb
  exact ⟨r,by rw [h2,E9 u]; exact s,.inl ⟨rfl,q⟩⟩
 | false=>
  obtain ⟨j,x,h1,h2,h3⟩:=Ah1 hb
  obtain ⟨m,k,N⟩:=key j (Nat.le_of_lt (Em h1)) h3
  obtain ⟨e,u,r,s,q⟩:=(c j x m k h1 h3).2 h2
  exact ⟨r,by rw [N,E9 u]; exact s,.inr ⟨rfl,q⟩⟩
end Go.Ab
namespace Go.Ab
open Go
theorem Ok (l:List Int) (g:l.length<4611686018427387904):H7 l=some (Gc l):=by
 unfold H7
 refine Gm (fun v=>∃k:Nat,v=k/\k<=l.length/\Gc (l.take k)=Gc l) (fun v=>v.toNat) (fun v=>∃k:Nat,v=k/\k<=l.length/\l.take k=Gc l) ⟨l.length,rfl,Nat.le_refl _,by simp⟩ ?_ ?_
 .rintro v ⟨k,rfl,hk,b⟩
  cases k with
  | zero=>exact .inr ⟨0,rfl,0,rfl,by omega,by simpa [Gc] using b⟩
  | succ j=>
   have f:Al (((j+1:Nat):Int)-1)=(j:Int):=by rw [Al,Cl] <;> omega
   have hj:j<l.length:=by omega
   have hp:decide (((j+1:Nat):Int)>0)=true:=A4 (by omega)
   simp only [hp,cond_true,f,Df rfl hj,Ap]
   rw [List.take_succ_eq_append_getElem hj] at b
   by_cases c:l[j]=0
   .rw [c,Ar1] at b
    exact .inl ⟨j,by rw [Ct c]; rfl,⟨j,rfl,by omega,b⟩,by omega⟩
   .rw [Ar2 c] at b
    exact .inr ⟨((j+1:Nat):Int),by rw [Cg c]; rfl,j+1,rfl,by omega,by rw [List.take_succ_eq_append_getElem hj]; exact b⟩
 .rintro v ⟨k,rfl,hk,b⟩
  rw [Vf rfl hk,b]; rfl
theorem Ah2 (l:List Int) (hd:Ju l) (D:l.length<1099511627776):P2 l=some (Ar (A0 l).toNat):=by
 unfold P2
 have f:Al ((l.length:Int)+1)=((l.length+1:Nat):Int):=by rw [Al,Cl] <;> omega
 rw [f,Abq rfl (by omega) (by omega)]
 simp only [Ap]
 refine Gm (fun (c,i,o)=>∃k:Nat,i=k/\k<=l.length/\o.length=k/\Cb o/\0<=c/\c<5/\A0 o+1000000000 ^ k*c=A0 (l.take k))
  (fun (_,i,_)=>l.length-i.toNat) (fun (c,o)=>o.length=l.length/\Cb o/\0<=c/\c<5/\A0 o+1000000000 ^ l.length*c=A0 l)
  ⟨0,rfl,by omega,rfl,Cb.nil,by omega,by omega,by simp [A0]⟩ ?_ ?_
 .rintro ⟨c,i,o⟩ ⟨k,rfl,hk,g,b,q,hc,u⟩
  rcases Nat.lt_or_ge k l.length with h | h
  .have hx:=hd l[k] (List.getElem_mem h)
   refine .inl ⟨((l[k]+c) / 1000000000,((k+1:Nat):Int),o++[(l[k]+c) % 1000000000]),?_,⟨k+1,rfl,by omega,by simp [g],b.snoc (by omega) (by omega),by omega,by omega,?_⟩,by simp; omega⟩
   .have A:Bd l[k]=l[k]:=C6 (by omega) (by omega)
    have z:Bd (l[k]+c)=l[k]+c:=C6 (by omega) (by omega)
    have s:Bt ((l[k]+c) % 1000000000)=(l[k]+c) % 1000000000:=E4 (by omega) (by omega)
    have y:Al ((k:Int)+1)=((k+1:Nat):Int):=by rw [Al,Cl] <;> omega
    have x:decide ((k:Int)<(l.length:Int))=true:=by simpa using h
    simp only [x,cond_true,Df rfl h,Ap,A,z,Im (show 0<=l[k]+c by omega) (show (0:Int)<1000000000 by decide),s,Dw (show (o.length+[(l[k]+c) % 1000000000].length)*4<=_ by simp; omega),Je (show 0<=l[k]+c by omega) (show l[k]+c<=_ by omega) (show (0:Int)<1000000000 by decide),y]
   .rw [E5 l h,<-u,Ip,g,Int.pow_succ]
    have:=Int.mul_ediv_add_emod (l[k]+c) 1000000000
    grind
  .have j:k=l.length:=by omega
   subst j
   refine .inr ⟨(c,o),by simp,g,b,q,hc,by simpa using u⟩
 .rintro ⟨c,o⟩ ⟨h2,h3,I,G,E⟩
  have B:=Fz hd
  by_cases hc:c>0
  .have s:Bt c=c:=E4 (by omega) (by omega)
   simp only [decide_eq_true hc,cond_true,s,Dw (show (o.length+[c].length)*4<=_ by simp; omega),Ap,Ok (o++[c]) (by simp; omega)]
   rw [Jf (h3.snoc (by omega) (by omega)) (n:=(A0 l).toNat) (by rw [Ip,h2]; omega)]
  .have:c=0:=by omega
   subst this
   simp only [Int.lt_irrefl,gt_iff_lt,decide_false,cond_false,Ok o (by omega),Ap]
   rw [Jf h3 (n:=(A0 l).toNat) (by omega)]
end Go.Ab
namespace Go.Ab
open Go
theorem Q3 {n:Nat} (h:n<18446744073709551616):B1 n<=3:=Kq (Nat.lt_of_lt_of_le h (by decide))
theorem Ol (n:Nat) (h:n<18446744073709551616):Lw n=some (Ar n):=by
 unfold Lw
 have b:=Q3 h
 unfold B1 at b
 refine Gm (fun (w,o)=>∃k:Nat,w=k/\k<=n/\o++Ar k=Ar n) (fun (w,_)=>w.toNat) (fun o=>o=Ar n) ⟨n,rfl,Nat.le_refl _,by simp⟩ ?_ (by rintro o rfl; rfl)
 rintro ⟨w,o⟩ ⟨k,rfl,hk,c⟩
 by_cases f:k=0
 .subst f
  rw [Fb,List.append_nil] at c
  exact .inr ⟨o,by simp,c⟩
 .have g:o.length<=3:=by rw [<-c] at b; simp at b; omega
  refine .inl ⟨(((k / 1000000000:Nat):Int),o++[((k % 1000000000:Nat):Int)]),?_,⟨k / 1000000000,rfl,by omega,by rw [List.append_assoc]; rw [Kp f] at c; exact c⟩,by simp; omega⟩
  have q:decide ((k:Int)>0)=true:=A4 (by omega)
  have l:F4 (k:Int) 1000000000=some ((k % 1000000000:Nat):Int):=by rw [Im (by omega) (by decide)]; rfl
  have j:Bt ((k % 1000000000:Nat):Int)=((k % 1000000000:Nat):Int):=E4 (by omega) (by omega)
  have i:Fi .u64 (k:Int) 1000000000=some ((k / 1000000000:Nat):Int):=by rw [Je (by omega) (by omega) (by decide)]; rfl
  simp only [q,cond_true,l,Ap,j,Dw (show (o.length+[((k % 1000000000:Nat):Int)].length)*4<=_ by simp; omega),i]
def Ev (m n:Nat):Int:=if m<n then -1 else if n<m then 1 else 0
theorem Th (m n:Nat) (h:B1 m<1099511627776) (g:B1 n<1099511627776):Mp (Ar m) (Ar n)=some (Ev m n):=by
 unfold Mp
 unfold B1 at h g
 by_cases i:(Ar m).length=(Ar n).length
 .rw [C0 (by omega:((Ar m).length:Int)=(Ar n).length),cond_false]
  have f:Al (((Ar m).length:Int)-1)=((Ar m).length:Int)-1:=by rw [Al,Cl] <;> omega
  rw [f]
  refine Gm (fun v=>∃k:Nat,v=(k:Int)-1/\k<=(Ar m).length/\(Ar m).drop k=(Ar n).drop k) (fun v=>(v+1).toNat)
   (fun e=>match e with | .inl r=>r=Ev m n | .inr _=>m=n) ⟨(Ar m).length,rfl,Nat.le_refl _,by rw [List.drop_length,i,List.drop_length]⟩ ?_ ?_
  .rintro v ⟨k,rfl,hk,hd⟩
   cases k with
   | zero=>
    refine .inr ⟨.inr (),by simp,?_⟩
    have:Ar m=Ar n:=by simpa using hd
    have:=congrArg A0 this
    rw [En,En] at this
    show m=n
    omega
   | succ j=>
    have hj:j<(Ar m).length:=by omega
    have hj':j<(Ar n).length:=by omega
    have q:((j+1:Nat):Int)-1=(j:Int):=by omega
    have l:decide ((j:Int)>=0)=true:=A4 (by omega)
    simp only [q,l,cond_true,Df rfl hj,Df rfl hj',Ap]
    rcases Int.lt_trichotomy (Ar m)[j] (Ar n)[j] with b | heq | hgt
    .refine .inr ⟨.inl (-1),by rw [A4 b]; rfl,?_⟩
     have:=Ah0 (Eb m) hj hj' (Eb n) hd b
     rw [En,En] at this
     show (-1:Int)=Ev m n
     rw [Ev,if_pos (by omega)]
    .refine .inl ⟨(j:Int)-1,?_,⟨j,rfl,by omega,?_⟩,by omega⟩
     .rw [A8 (by omega:¬(Ar m)[j]<(Ar n)[j]),cond_false,A8 (by omega:¬(Ar m)[j]>(Ar n)[j]),cond_false]
      rw [Al,Cl (by omega) (by omega)]
     .rw [List.drop_eq_getElem_cons hj,List.drop_eq_getElem_cons hj',hd,heq]
    .refine .inr ⟨.inl 1,by rw [A8 (by omega:¬(Ar m)[j]<(Ar n)[j]),cond_false,A4 (by omega:(Ar m)[j]>(Ar n)[j])]; rfl,?_⟩
     have:=Ah0 (Eb n) hj' hj (Eb m) hd.symm hgt
     rw [En,En] at this
     show (1:Int)=Ev m n
     rw [Ev,if_neg (by omega),if_pos (by omega)]
  .rintro (e | e) c
   .simp only at c ⊢; rw [c]
   .simp only at c ⊢; rw [Ev,if_neg (by omega),if_neg (by omega)]
 .rw [C7 (by omega:((Ar m).length:Int)≠(Ar n).length),cond_true]
  by_cases b:(Ar m).length<(Ar n).length
  .rw [A4 (by omega:((Ar m).length:Int)<(Ar n).length),cond_true]
   have:=Ahz (m:=m) (n:=n) b
   rw [Ev,if_pos this]
  .rw [A8 (by omega:¬((Ar m).length:Int)<(Ar n).length),cond_false]
   have:=Ahz (m:=n) (n:=m) (by unfold B1; omega)
   rw [Ev,if_neg (by omega),if_pos this]
theorem Abw {l:List Int} (h:Cb l) (c:l≠[]->1000000000 ^ (l.length-1)<=A0 l):Can l:=by
 refine ⟨h,fun b g=>?_⟩
 have h1:=c b
 have e:=List.dropLast_concat_getLast b
 have h2:Cb l.dropLast:=fun d hd=>h d (List.dropLast_subset l hd)
 have h3:=H9 h2
 rw [List.length_dropLast] at h3
 have f:=congrArg A0 e
 rw [Ip,g] at f
 omega
theorem Ia (l:List Int) {k:Nat} (h:l.length<=k):A0 (l.take k)=A0 l:=by rw [List.take_of_length_le h]
theorem Ah3 (a b:List Int) (ha:Cb a) (hb:Cb b) (hl:a.length<1099511627776) (hab:b.length<=a.length) (U:a≠[]->1000000000 ^ (a.length-1)<=A0 a) :
  ((Fy 4 0 (Al ((a.length:Int)+1)) (0:Int)).bind fun o3=>
 (Bc (S:=(Int×Int×(List Int))) (E:=(Int×(List Int))) (fun (v20,v21,u)=>
 bif (decide (v21<(a.length:Int))) then (
 (Au a v21).bind fun v23=>
 (show Option Int from
 bif (decide (v21<(b.length:Int))) then (
 (Au b v21).bind fun v24=>
 some (Bt ((Bt (v23+v20))+v24))
 )
 else (
 some (Bt (v23+v20))
 )
 ).bind fun v25=>
 (Fi .u32 v25 1000000000).bind fun v26=>
 (F4 v25 1000000000).bind fun f=>
 (Cr 4 u [f]).bind fun g=>
 some (.inl (v26,(Al (v21+1)),g))
 )
 else (
 some (.inr (v20,u))
 )
  ) (0,0,o3)).bind fun (l,q)=>
 bif (decide (l>(0:Int))) then (
 (Cr 4 q [l]).bind fun J=>
 some J
 )
 else (
 some q
 ))=some (Ar (A0 a+A0 b).toNat):=by
 have A:Al ((a.length:Int)+1)=((a.length+1:Nat):Int):=by rw [Al,Cl] <;> omega
 rw [A,Abq rfl (by omega) (by omega)]
 simp only [Ap]
 have a7:=Fz ha.u32
 have a6:=Fz hb.u32
 refine Gm (fun (c,i,o)=>∃k:Nat,i=k/\k<=a.length/\o.length=k/\Cb o/\0<=c/\c<=1/\A0 o+1000000000 ^ k*c=A0 (a.take k)+A0 (b.take k))
  (fun (_,i,_)=>a.length-i.toNat) (fun (c,o)=>o.length=a.length/\Cb o/\0<=c/\c<=1/\A0 o+1000000000 ^ a.length*c=A0 a+A0 b)
  ⟨0,rfl,by omega,rfl,Cb.nil,by omega,by omega,by simp [A0]⟩ ?_ ?_
 .rintro ⟨c,i,o⟩ ⟨k,rfl,hk,M,z,V,hc,L⟩
  rcases Nat.lt_or_ge k a.length with h | h
  .have hx:=ha.get h
   have e4:Al ((k:Int)+1)=((k+1:Nat):Int):=by rw [Al,Cl] <;> omega
   have e5:decide ((k:Int)<(a.length:Int))=true:=A4 (by omega)
   have step:∀s:Int,0<=s->s<2000000000->(show Option Int from bif (decide ((k:Int)<(b.length:Int))) then ((Au b k).bind fun v24=>some (Bt ((Bt (a[k]+c))+v24))) else some (Bt (a[k]+c)))=some s ->
     A0 (a.take (k+1))+A0 (b.take (k+1))=A0 (a.take k)+A0 (b.take k)+1000000000 ^ k*(s-c) ->
     (∃s',(bif (decide ((k:Int)<(a.length:Int))) then (
 (Au a k).bind fun v23=>
 (show Option Int from
 bif (decide ((k:Int)<(b.length:Int))) then (
 (Au b k).bind fun v24=>
 some (Bt ((Bt (v23+c))+v24))
 )
 else (
 some (Bt (v23+c))
 )
 ).bind fun v25=>
 (Fi .u32 v25 1000000000).bind fun v26=>
 (F4 v25 1000000000).bind fun f=>
 (Cr 4 o [f]).bind fun g=>
 some (.inl (v26,(Al ((k:Int)+1)),g))
 )
 else (
 some (.inr (c,o))
 ))=some (Sum.inl s':(Int×Int×List Int)⊕(Int×List Int))/\(∃j:Nat,s'.2.1=j/\j<=a.length/\s'.2.2.length=j/\Cb s'.2.2/\0<=s'.1/\s'.1<=1/\A0 s'.2.2+1000000000 ^ j*s'.1=A0 (a.take j)+A0 (b.take j))/\a.length-s'.2.1.toNat<a.length-(k:Int).toNat):=by
    intro s y a1 hs x
    refine ⟨(s / 1000000000,((k+1:Nat):Int),o++[s % 1000000000]),?_,⟨k+1,rfl,by omega,by simp [M],z.snoc (by omega) (by omega),by simp; omega,by simp; omega,?_⟩,by simp; omega⟩
    .rw [e5,cond_true,Df rfl h,Ap,hs,Ap,Abr y (by omega) (by decide),Ap,Im y (by decide),Ap,Dw (by simp; omega),Ap,e4]
    .rw [x,<-L,Ip,M,Int.pow_succ]
     have:=Int.mul_ediv_add_emod s 1000000000
     grind
   refine .inl ?_
   rcases Nat.lt_or_ge k b.length with hb' | hb'
   .have hy:=hb.get hb'
    obtain ⟨s',I,G,D⟩:=step (a[k]+c+b[k]) (by omega) (by omega) (by
     have B:Bt (a[k]+c)=a[k]+c:=E4 (by omega) (by omega)
     have Y:Bt (a[k]+c+b[k])=a[k]+c+b[k]:=E4 (by omega) (by omega)
     show (bif (decide ((k:Int)<(b.length:Int))) then _ else _)=_
     rw [A4 (by omega:(k:Int)<(b.length:Int)),cond_true,Df rfl hb',Ap,B,Y]) (by rw [E5 a h,E5 b hb']; grind)
    exact ⟨s',I,G,D⟩
   .obtain ⟨s',I,G,D⟩:=step (a[k]+c) (by omega) (by omega) (by
     have B:Bt (a[k]+c)=a[k]+c:=E4 (by omega) (by omega)
     show (bif (decide ((k:Int)<(b.length:Int))) then _ else _)=_
     rw [A8 (by omega:¬(k:Int)<(b.length:Int)),cond_false,B]) (by rw [E5 a h,Ia b hb',Ia b (by omega)]; grind)
    exact ⟨s',I,G,D⟩
  .have R:k=a.length:=by omega
   subst R
   refine .inr ⟨(c,o),by simp,M,z,V,hc,?_⟩
   rw [List.take_length,Ia b hab] at L
   exact L
 .rintro ⟨c,o⟩ ⟨h2,h3,h4,h5,h6⟩
  simp only []
  by_cases hc:c>0
  .have:c=1:=by omega
   subst this
   rw [A4 hc,cond_true,Dw (by simp; omega),Ap]
   congr 1
   refine X2 (Abw (h3.snoc (by omega) (by omega)) fun _=>?_) (by rw [Ip,h2]; omega)
   rw [Ip,h2]
   have:=Fz h3.u32
   simp [h2]; omega
  .have:c=0:=by omega
   subst this
   rw [A8 hc,cond_false]
   congr 1
   refine X2 (Abw h3 fun N=>?_) (by omega)
   have X:a≠[]:=by intro e; rw [e] at h2; exact N (List.length_eq_zero_iff.1 h2)
   have:=U X
   rw [h2]; omega
theorem X4 {n:Nat} (h:Ar n≠[]):1000000000 ^ ((Ar n).length-1)<=A0 (Ar n):=by
 rw [En]
 have h1:(Ar n).length≠0:=fun e=>h (List.length_eq_zero_iff.1 e)
 have:=Ahy (n:=n) (k:=(Ar n).length-1) (by unfold B1; omega)
 have e:((1000000000 ^ ((Ar n).length-1):Nat):Int)=1000000000 ^ ((Ar n).length-1):=by rw [Int.natCast_pow]; rfl
 omega
theorem Ar5 (m n:Nat) (c:B1 m<1099511627776) (b:B1 n<1099511627776):Sj (Ar m) (Ar n)=some (Ar (m+n)):=by
 unfold Sj
 unfold B1 at c b
 by_cases f:(Ar m).length<(Ar n).length
 .simp only [A4 (by omega:((Ar m).length:Int)<(Ar n).length),cond_true,Ap]
  have:=Ah3 (Ar n) (Ar m) (Eb n) (Eb m) b (by omega) X4
  rw [En,En] at this
  rw [show m+n=((n:Int)+(m:Int)).toNat by omega]
  exact this
 .simp only [A8 (by omega:¬((Ar m).length:Int)<(Ar n).length),cond_false,Ap]
  have:=Ah3 (Ar m) (Ar n) (Eb m) (Eb n) c (by omega) X4
  rw [En,En] at this
  rw [show m+n=((m:Int)+(n:Int)).toNat by omega]
  exact this
end Go.Ab
namespace Go.Ab
open Go
theorem Ir {k n:Nat} (h:k<n) (b:n<4611686018427387904):Al ((k:Int)+1)=((k+1:Nat):Int):=by rw [Al,Cl] <;> omega
theorem Ah4 (m n:Nat) (X:B1 m<1099511627776) (B:n<=m):P3 (Ar m) (Ar n)=some (Ar (m-n)):=by
 unfold P3
 have E:(Ar n).length<=(Ar m).length:=Hf B
 unfold B1 at X
 rw [Abq rfl (by omega) (by omega)]
 simp only [Ap]
 have ha:=Eb m
 have hb:=Eb n
 refine Gm (fun (c,i,o)=>∃k:Nat,i=k/\k<=(Ar m).length/\o.length=k/\Cb o/\0<=c/\c<=1/\A0 o=A0 ((Ar m).take k)-A0 ((Ar n).take k)+1000000000 ^ k*c)
  (fun (_,i,_)=>(Ar m).length-i.toNat) (fun o=>∃c:Int,o.length=(Ar m).length/\Cb o/\0<=c/\c<=1/\A0 o=(m:Int)-n+1000000000 ^ (Ar m).length*c)
  ⟨0,rfl,by omega,rfl,Cb.nil,by omega,by omega,by simp [A0]⟩ ?_ ?_
 .rintro ⟨c,i,o⟩ ⟨k,rfl,hk,l,g,I,hc,q⟩
  rcases Nat.lt_or_ge k (Ar m).length with h | h
  .have hx:=ha.get h
   have R:=Ir h (by omega)
   have N:decide ((k:Int)<((Ar m).length:Int))=true:=A4 (by omega)
   have L:Al (Ar m)[k]=(Ar m)[k]:=Cl (by omega) (by omega)
   have J:Al ((Ar m)[k]-c)=(Ar m)[k]-c:=Cl (by omega) (by omega)
   have key:∀s:Int,-1000000001<=s->s<1000000000->A0 ((Ar m).take (k+1))-A0 ((Ar n).take (k+1))=A0 ((Ar m).take k)-A0 ((Ar n).take k)+1000000000 ^ k*(s+c) ->
     ∃(f:Int) (d:Int),(bif decide (s<0) then ((Cr 4 o [(Bt (Al (s+1000000000)))]).bind fun A=>some (Sum.inl (1,(Al ((k:Int)+1)),A))) else ((Cr 4 o [(Bt s)]).bind fun z=>some (Sum.inl (0,(Al ((k:Int)+1)),z))))=some (Sum.inl (f,((k+1:Nat):Int),o++[d]):(Int×Int×List Int)⊕List Int) /\
      (-1000000000<=s->(∃j:Nat,((k+1:Nat):Int)=j/\j<=(Ar m).length/\(o++[d]).length=j/\Cb (o++[d])/\0<=f/\f<=1/\A0 (o++[d])=A0 ((Ar m).take j)-A0 ((Ar n).take j)+1000000000 ^ j*f)):=by
    intro s h1 h2 b
    by_cases M:s<0
    .refine ⟨1,Bt (Al (s+1000000000)),by rw [A4 M,cond_true,Dw (by simp; omega),Ap,R],fun h3=>?_⟩
     have V:Al (s+1000000000)=s+1000000000:=Cl (by omega) (by omega)
     have u:Bt (s+1000000000)=s+1000000000:=E4 (by omega) (by omega)
     rw [V,u]
     refine ⟨k+1,rfl,by omega,by simp [l],g.snoc (by omega) (by omega),by omega,by omega,?_⟩
     rw [b,Ip,l,q,Int.pow_succ]; grind
    .refine ⟨0,Bt s,by rw [A8 M,cond_false,Dw (by simp; omega),Ap,R],fun h3=>?_⟩
     have u:Bt s=s:=E4 (by omega) (by omega)
     rw [u]
     refine ⟨k+1,rfl,by omega,by simp [l],g.snoc (by omega) (by omega),by omega,by omega,?_⟩
     rw [b,Ip,l,q,Int.pow_succ]; grind
   refine .inl ?_
   rcases Nat.lt_or_ge k (Ar n).length with hb' | hb'
   .have hy:=hb.get hb'
    have U:Al (Ar n)[k]=(Ar n)[k]:=Cl (by omega) (by omega)
    have S:Al ((Ar m)[k]-c-(Ar n)[k])=(Ar m)[k]-c-(Ar n)[k]:=Cl (by omega) (by omega)
    obtain ⟨f,d,y,x⟩:=key ((Ar m)[k]-c-(Ar n)[k]) (by omega) (by omega) (by rw [E5 _ h,E5 _ hb']; grind)
    refine ⟨(f,((k+1:Nat):Int),o++[d]),?_,x (by omega),by simp; omega⟩
    rw [<-y]
    simp only [N,cond_true,Df rfl h,Ap,L,J,A4 (by omega:(k:Int)<((Ar n).length:Int)),Df rfl hb',U,S]
   .obtain ⟨f,d,y,x⟩:=key ((Ar m)[k]-c) (by omega) (by omega) (by rw [E5 _ h,Ia (Ar n) hb',Ia (Ar n) (by omega)]; grind)
    refine ⟨(f,((k+1:Nat):Int),o++[d]),?_,x (by omega),by simp; omega⟩
    rw [<-y]
    simp only [N,cond_true,Df rfl h,Ap,L,J,A8 (by omega:¬(k:Int)<((Ar n).length:Int)),cond_false]
  .have G:k=(Ar m).length:=by omega
   subst G
   refine .inr ⟨o,by simp,c,l,g,I,hc,?_⟩
   rw [List.take_length,Ia _ E,En,En] at q
   exact q
 .rintro o ⟨c,h2,h3,h4,h5,Y⟩
  have D:=H9 h3
  rw [h2] at D
  have hp:=Iq (Ar m).length
  have:c=0:=by
   rcases Int.lt_or_le 0 c with hc | hc
   .have:c=1:=by omega
    subst this
    omega
   .omega
  subst this
  rw [Ok o (by omega),Ap,Jf h3 (n:=m-n) (by omega)]
theorem Abx (m d:Nat) (N:B1 m<1099511627776) (hd:0<d) (R:d<4294967296):N7 (Ar m) d=some (Ar (m / d),((m % d:Nat):Int)):=by
 unfold N7
 unfold B1 at N
 rw [Ko rfl rfl (Nat.le_refl _) (by omega) (by omega)]
 simp only [Ap]
 have ha:=Eb m
 have J:Al (((Ar m).length:Int)-1)=((Ar m).length:Int)-1:=by rw [Al,Cl] <;> omega
 rw [J]
 refine Gm (fun (r,i,o)=>∃k:Nat,i=(k:Int)-1/\k<=(Ar m).length/\o.length=(Ar m).length/\Cb o/\0<=r/\r<d/\A0 (o.drop k)*d+r=A0 ((Ar m).drop k))
  (fun (_,i,_)=>(i+1).toNat) (fun (r,o)=>o.length=(Ar m).length/\Cb o/\0<=r/\r<d/\A0 o*d+r=m)
  ⟨(Ar m).length,rfl,Nat.le_refl _,by simp,Cb.replicate _,by omega,by omega,by simp [A0]⟩ ?_ ?_
 .rintro ⟨r,i,o⟩ ⟨k,rfl,hk,A,g,s,M,z⟩
  cases k with
  | zero=>exact .inr ⟨(r,o),by simp,A,g,s,M,by simpa [En] using z⟩
  | succ j=>
   have hj:j<(Ar m).length:=by omega
   have h:j<o.length:=by omega
   have hx:=ha.get hj
   have Y:((j+1:Nat):Int)-1=(j:Int):=by omega
   have X:decide ((j:Int)>=0)=true:=A4 (by omega)
   have I:Bd (r*1000000000)=r*1000000000:=C6 (by omega) (by omega)
   have G:Bd (Ar m)[j]=(Ar m)[j]:=C6 (by omega) (by omega)
   have E:Bd (r*1000000000+(Ar m)[j])=r*1000000000+(Ar m)[j]:=C6 (by omega) (by omega)
   have b:(0:Int)<(d:Int):=by omega
   have c:0<=r*1000000000+(Ar m)[j]:=by omega
   have f:0<=(r*1000000000+(Ar m)[j]) / (d:Int):=Int.ediv_nonneg c (by omega)
   have u:(r*1000000000+(Ar m)[j]) / (d:Int)<1000000000:=by
    apply Int.ediv_lt_of_lt_mul b
    have:(r+1)*1000000000<=d*1000000000:=Int.mul_le_mul_of_nonneg_right (by omega) (by decide)
    omega
   have D:Bt ((r*1000000000+(Ar m)[j]) / (d:Int))=(r*1000000000+(Ar m)[j]) / (d:Int):=E4 f (by omega)
   have y:=Int.emod_nonneg (r*1000000000+(Ar m)[j]) (by omega:(d:Int)≠0)
   have x:=Int.emod_lt_of_pos (r*1000000000+(Ar m)[j]) b
   have B:Al ((j:Int)-1)=(j:Int)-1:=by rw [Al,Cl] <;> omega
   refine .inl ⟨((r*1000000000+(Ar m)[j]) % (d:Int),(j:Int)-1,o.set j ((r*1000000000+(Ar m)[j]) / (d:Int))),?_,⟨j,rfl,by omega,by simpa using A,g.set _ f u,y,x,?_⟩,by simp⟩
   .simp only [Y,X,cond_true,Df rfl hj,Df rfl h,Ap,I,G,E,Je c (by omega) b,Im c b,D,B,Hm rfl]
   .have d1:(o.set j ((r*1000000000+(Ar m)[j]) / (d:Int))).drop j=((r*1000000000+(Ar m)[j]) / (d:Int))::o.drop (j+1):=by
     rw [List.drop_eq_getElem_cons (by simpa using h),List.drop_set_of_lt (by omega)]; simp
    rw [d1,List.drop_eq_getElem_cons hj]
    simp only [A0]
    rw [<-z]
    have:=Int.mul_ediv_add_emod (r*1000000000+(Ar m)[j]) (d:Int)
    grind
 .rintro ⟨r,o⟩ ⟨h2,h3,V,U,S⟩
  simp only []
  have L:=Fz h3.u32
  have l:((m / d:Nat):Int)=A0 o/\((m % d:Nat):Int)=r:=by
   have b:(0:Int)<(d:Int):=by omega
   have e:=Int.ediv_emod_unique b (r:=r) (q:=A0 o) (a:=(m:Int))
   have:=e.2 ⟨by rw [<-S]; grind,V,U⟩
   exact ⟨by rw [Int.natCast_ediv]; exact this.1,by rw [Int.natCast_emod]; exact this.2⟩
  rw [Ok o (by omega),Ap,Jf h3 l.1.symm,l.2]
end Go.Ab
namespace Go.Ab
open Go
theorem X5 {x y:Int} (hx:0<=x) (c:x<1000000000) (hy:0<=y) (b:y<1000000000):0<=x*y/\x*y<=999999998000000001:=by
 refine ⟨Int.mul_nonneg hx hy,?_⟩
 have h1:x*y<=999999999*y:=Int.mul_le_mul_of_nonneg_right (by omega) hy
 omega
theorem Vj (m n:Nat) (hm:B1 m<549755813888) (hn:B1 n<549755813888):Jp (Ar m) (Ar n)=some (Ar (m*n)):=by
 unfold Jp
 unfold B1 at hm hn
 by_cases hz:m=0\/n=0
 .have:(show Option Bool from bif (((Ar m).length:Int)==(0:Int)) then some true else some (((Ar n).length:Int)==(0:Int)))=some true:=by
   show (bif (((Ar m).length:Int)==(0:Int)) then some true else some (((Ar n).length:Int)==(0:Int)))=some true
   by_cases h:m=0
   .subst h; rw [Fb]; rfl
   .have y:n=0:=by omega
    subst y
    rw [Cg (by have:=G6 h; have:(Ar m).length≠0:=fun e=>this (List.length_eq_zero_iff.1 e); omega),Fb]; rfl
  rw [this,Ap,cond_true]
  have:m*n=0:=by rcases hz with rfl | rfl <;> simp
  rw [this,Fb]
 .have I:m≠0:=by omega
  have y:n≠0:=by omega
  have aa:(Ar m).length≠0:=fun e=>G6 I (List.length_eq_zero_iff.1 e)
  have a8:(Ar n).length≠0:=fun e=>G6 y (List.length_eq_zero_iff.1 e)
  simp only [Cg (by omega:((Ar m).length:Int)≠0),Cg (by omega:((Ar n).length:Int)≠0),cond_false,Ap]
  have hw:Al (((Ar m).length:Int)+((Ar n).length:Int))=(((Ar m).length+(Ar n).length:Nat):Int):=by rw [Al,Cl] <;> omega
  rw [hw,Ko rfl rfl (Nat.le_refl _) (by omega) (by omega)]
  simp only [Ap]
  have ha:=Eb m
  have hb:=Eb n
  refine Gm (fun (i,o)=>∃k:Nat,i=k/\k<=(Ar m).length/\o.length=(Ar m).length+(Ar n).length/\Cb o/\o.drop (k+(Ar n).length)=List.replicate ((Ar m).length-k) 0/\A0 o=A0 ((Ar m).take k)*n)
   (fun (i,_)=>(Ar m).length-i.toNat) (fun o=>o.length=(Ar m).length+(Ar n).length/\Cb o/\A0 o=((m*n:Nat):Int))
   ⟨0,rfl,by omega,by simp,Cb.replicate _,by rw [List.drop_replicate]; congr 1; omega,by simp [X0,A0]⟩ ?_ ?_
  .rintro ⟨i,o⟩ ⟨k,rfl,hk,R,D,L,G⟩
   rcases Nat.lt_or_ge k (Ar m).length with h | h
   .have hx:=ha.get h
    have e4:=Ir h (by omega)
    have e5:decide ((k:Int)<((Ar m).length:Int))=true:=A4 (by omega)
    simp only [e5,cond_true]
    refine .inl (Xz (E3 (fun (c,j,o')=>∃q:Nat,j=q/\q<=(Ar n).length/\o'.length=(Ar m).length+(Ar n).length/\Cb o'/\o'.drop (k+(Ar n).length)=List.replicate ((Ar m).length-k) 0/\0<=c/\c<1000000000 /\
      A0 o' + 1000000000 ^ (k+q)*c=A0 o+1000000000 ^ k*((Ar m)[k]*A0 ((Ar n).take q)))
     (fun (_,j,_)=>(Ar n).length-j.toNat) (fun (c,j,o')=>o'.length=(Ar m).length+(Ar n).length/\Cb o'/\o'.drop (k+(Ar n).length)=List.replicate ((Ar m).length-k) 0/\0<=c/\c<1000000000 /\
      A0 o' + 1000000000 ^ (k+(Ar n).length)*c=A0 o+1000000000 ^ k*((Ar m)[k]*n))
     ⟨0,rfl,by omega,R,D,L,by omega,by omega,by simp [A0]⟩ ?_ ?_))
    .rintro ⟨c,j,o'⟩ ⟨q,rfl,hq,l,b,f,z,hc,x⟩
     rcases Nat.lt_or_ge q (Ar n).length with hq' | hq'
     .have hy:=hb.get hq'
      have g:k+q<o'.length:=by omega
      have a1:=b.get g
      have a6:=X5 hx.1 hx.2 hy.1 hy.2
      have Y:Bd (Ar m)[k]=(Ar m)[k]:=C6 (by omega) (by omega)
      have X:Bd (Ar n)[q]=(Ar n)[q]:=C6 (by omega) (by omega)
      have V:Bd ((Ar m)[k]*(Ar n)[q])=(Ar m)[k]*(Ar n)[q]:=C6 (by omega) (by omega)
      have U:Bd o'[k+q]=o'[k+q]:=C6 (by omega) (by omega)
      have S:Bd ((Ar m)[k]*(Ar n)[q]+o'[k+q])=(Ar m)[k]*(Ar n)[q]+o'[k+q]:=C6 (by omega) (by omega)
      have N:Bd ((Ar m)[k]*(Ar n)[q]+o'[k+q]+c)=(Ar m)[k]*(Ar n)[q]+o'[k+q]+c:=C6 (by omega) (by omega)
      have e6:=Ir hq' (by omega)
      have e7:decide ((q:Int)<((Ar n).length:Int))=true:=A4 (by omega)
      have M:Al ((k:Int)+(q:Int))=((k+q:Nat):Int):=by rw [Al,Cl] <;> omega
      generalize hs:(Ar m)[k]*(Ar n)[q]+o'[k+q]+c=s at N
      have A:0<=s:=by omega
      have a7:s<1000000000000000000:=by omega
      have E:Bt (s % 1000000000)=s % 1000000000:=E4 (by omega) (by omega)
      refine .inl ⟨(s / 1000000000,((q+1:Nat):Int),o'.set (k+q) (s % 1000000000)),?_,⟨q+1,rfl,by omega,by simpa using l,b.set _ (by omega) (by omega),?_,by omega,by omega,?_⟩,by simp; omega⟩
      .simp only [e7,cond_true,Df rfl h,Df rfl hq',M,Df rfl g,Ap,Y,X,V,U,S,hs,N,Im A (show (0:Int)<1000000000 by decide),Je A (show s<=_ by omega) (show (0:Int)<1000000000 by decide),E,e6,Hm rfl]
      .rw [List.drop_set_of_lt (by omega)]; exact f
      .rw [Jv _ g,E5 _ hq']
       have:=Int.mul_ediv_add_emod s 1000000000
       have p1:(1000000000:Int) ^ (k+(q+1))=1000000000 ^ (k+q)*1000000000:=by rw [<-Nat.add_assoc,Int.pow_succ]
       have p2:(1000000000:Int) ^ (k+q)=1000000000 ^ k*1000000000 ^ q:=Int.pow_add ..
       rw [p1]
       grind
     .have:q=(Ar n).length:=by omega
      subst this
      refine .inr ⟨(c,_,o'),by simp; rfl,l,b,f,z,hc,?_⟩
      rw [List.take_length,En] at x
      exact x
    .rintro ⟨c,j,o'⟩ ⟨l,b,f,z,hc,x⟩
     have M:Al ((k:Int)+((Ar n).length:Int))=((k+(Ar n).length:Nat):Int):=by rw [Al,Cl] <;> omega
     have g:k+(Ar n).length<o'.length:=by omega
     have E:Bt c=c:=E4 (by omega) (by omega)
     have u:o'[k+(Ar n).length]=0:=by
      have:=congrArg List.head? f
      rw [List.head?_drop,Cv g] at this
      have B:(List.replicate ((Ar m).length-k) (0:Int)).head? = some 0:=by
       cases hh:(Ar m).length-k with
       | zero=>omega
       | succ t=>rfl
      rw [B] at this
      exact Option.some.inj this
     refine ⟨_,by simp only [M,Df rfl g,Ap,E,e4,Hm rfl]; rfl,_,rfl,⟨k+1,rfl,by omega,by simpa using l,b.set _ z hc,?_,?_⟩,by simp; omega⟩
     .rw [List.drop_set_of_lt (by omega),show k+1+(Ar n).length=(k+(Ar n).length)+1 by omega,<-List.drop_drop,f,List.drop_replicate]
      congr 1
     .rw [Jv _ g,u,E5 _ h,Int.add_mul,<-G]
      grind
   .have J:k=(Ar m).length:=by omega
    subst J
    refine .inr ⟨o,by simp,R,D,?_⟩
    rw [List.take_length,En] at G
    rw [G]; simp
  .rintro o ⟨h2,h3,h4⟩
   rw [Ok o (by omega),Ap,Jf h3 h4]
theorem Ah5 (a:List Int) (m:Nat) (ha:Cb a) (X:a.length<1099511627776) (V:m<1000000000) :
  ∃o,Qk a m=some o/\o.length=a.length+1/\Cb o/\A0 o=A0 a*m:=by
 unfold Qk
 have u:Al ((a.length:Int)+1)=((a.length+1:Nat):Int):=by rw [Al,Cl] <;> omega
 rw [u,Ko rfl rfl (Nat.le_refl _) (by omega) (by omega)]
 simp only [Ap]
 refine E3 (fun (c,i,o)=>∃k:Nat,i=k/\k<=a.length/\o.length=a.length+1/\Cb o/\o.drop k=List.replicate (a.length+1-k) 0/\0<=c/\c<1000000000/\A0 o+1000000000 ^ k*c=A0 (a.take k)*m)
  (fun (_,i,_)=>a.length-i.toNat) (fun (c,o)=>o.length=a.length+1/\Cb o/\o.drop a.length = [0]/\0<=c/\c<1000000000/\A0 o+1000000000 ^ a.length*c=A0 a*m)
  ⟨0,rfl,by omega,by simp,Cb.replicate _,by simp,by omega,by omega,by simp [A0,X0]⟩ ?_ ?_
 .rintro ⟨c,i,o⟩ ⟨k,rfl,hk,B,q,g,z,hc,I⟩
  rcases Nat.lt_or_ge k a.length with h | h
  .have hx:=ha.get h
   have f:k<o.length:=by omega
   have G:=X5 hx.1 hx.2 (show (0:Int)<=m by omega) (by omega)
   have U:=Ir h (by omega)
   have S:decide ((k:Int)<(a.length:Int))=true:=A4 (by omega)
   have E:Bd a[k]=a[k]:=C6 (by omega) (by omega)
   have D:Bd (a[k]*(m:Int))=a[k]*m:=C6 (by omega) (by omega)
   have A:Bd (a[k]*(m:Int)+c)=a[k]*m+c:=C6 (by omega) (by omega)
   have b:o[k]=0:=by
    have:=congrArg List.head? g
    rw [List.head?_drop,Cv f] at this
    have l:(List.replicate (a.length+1-k) (0:Int)).head? = some 0:=by
     cases Y:a.length+1-k with
     | zero=>omega
     | succ t=>rfl
    rw [l] at this
    exact Option.some.inj this
   generalize L:a[k]*(m:Int)+c=s at A
   have j:0<=s:=by omega
   have J:s<1000000000000000000:=by omega
   have x:Bt (s % 1000000000)=s % 1000000000:=E4 (by omega) (by omega)
   refine .inl ⟨(s / 1000000000,((k+1:Nat):Int),o.set k (s % 1000000000)),?_,⟨k+1,rfl,by omega,by simpa using B,q.set _ (by omega) (by omega),?_,by omega,by omega,?_⟩,by simp; omega⟩
   .simp only [S,cond_true,Df rfl h,Df rfl f,Ap,E,D,L,A,Im j (show (0:Int)<1000000000 by decide),Je j (show s<=_ by omega) (show (0:Int)<1000000000 by decide),x,U,Hm rfl]
   .rw [List.drop_set_of_lt (by omega),<-List.drop_drop,g,List.drop_replicate]; congr 1
   .rw [Jv _ f,b,E5 _ h,Int.pow_succ]
    have:=Int.mul_ediv_add_emod s 1000000000
    grind
  .have y:k=a.length:=by omega
   subst y
   refine .inr ⟨(c,o),by simp,B,q,by rw [g]; simp,z,hc,by rwa [List.take_length] at I⟩
 .rintro ⟨c,o⟩ ⟨h2,h3,g,R,N,M⟩
  have f:a.length<o.length:=by omega
  have x:Bt c=c:=E4 (by omega) (by omega)
  have b:o[a.length]=0:=by
   have:=congrArg List.head? g
   rw [List.head?_drop,Cv f] at this
   exact Option.some.inj this
  refine ⟨o.set a.length c,by simp only [Df rfl f,Ap,x,Hm rfl],by simpa using h2,h3.set _ R N,?_⟩
  rw [Jv _ f,b,<-M]; grind
end Go.Ab
namespace Go.Ab
open Go
theorem Om {α:Type} {l:List α} {off n:Nat} {i:Int} {k:Nat} (hi:i=k) (hk:k<n) (h:off+k<l.length):Ii l off n i=some l[off+k]:=by
 subst hi
 have h1:(0:Int)<=(k:Int):=by omega
 have h2:(k:Int)<(n:Int):=by omega
 simp [Ii,hk,h]
theorem Ar6 {P j k tb hb V U q g B:Int} (i:0<P) (x:V=j+P*tb) (l:0<=j) (y:U=k+P*hb) (s:k<P) (u:q*V<=U) (c:0<=g) (h:hb<g*tb) (b:0<=tb):q<g:=by
 rcases Int.lt_or_le q g with h' | h'
 .exact h'
 .exfalso
  have f:0<=V:=by
   have:=Int.mul_nonneg (Int.le_of_lt i) b
   omega
  have h1:g*V<=q*V:=Int.mul_le_mul_of_nonneg_right h' f
  have h2:g*(P*tb)<=g*V:=Int.mul_le_mul_of_nonneg_left (by omega) c
  have h3:P*(hb+1)<=P*(g*tb):=Int.mul_le_mul_of_nonneg_left (by omega) (Int.le_of_lt i)
  have A:g*(P*tb)=P*(g*tb):=by grind
  have z:P*(hb+1)=P*hb+P:=by grind
  omega
theorem Ah6 {P j k tb hb V U q g:Int} (i:0<P) (A:V=j+P*tb) (s:j<P) (B:U=k+P*hb) (u:0<=k) (z:U<(q+1)*V) (l:0<=g) (hgt:g<=tb+1) (h:g*tb<=hb) (b:0<V):g<=q+1:=by
 rcases Int.lt_or_le (q+1) g with h' | h'
 .exfalso
  have f:0<=g-1:=by
   rcases Int.lt_or_le g 1 with h2 | h2
   .have:g=0:=by omega
    subst this
    have c:q+1<0:=h'
    have:(q+1)*V<0:=Int.mul_neg_of_neg_of_pos c b
    have y:0<=hb:=by simpa using h
    have:=Int.mul_nonneg (Int.le_of_lt i) y
    omega
   .omega
  have h1:(q+1)*V<=(g-1)*V:=Int.mul_le_mul_of_nonneg_right (by omega) (Int.le_of_lt b)
  have x:P*(tb+1)=P*tb+P:=by grind
  have h2:(g-1)*V<=(g-1)*(P*(tb+1)):=Int.mul_le_mul_of_nonneg_left (by omega) f
  have h3:(g-1)*(P*(tb+1))=P*(g*tb+(g-tb-1)):=by grind
  have D:P*(g*tb+(g-tb-1))<=P*hb:=Int.mul_le_mul_of_nonneg_left (by omega) (Int.le_of_lt i)
  omega
 .exact h'
theorem Ar7 {A C:Type} {X:Option (A×C)} {Q:A->C->Prop} (h:∃r,X=some r/\Q r.1 r.2):∃q o,X=some (q,o)/\Q q o:=by
 obtain ⟨⟨a,c⟩,h1,h2⟩:=h
 exact ⟨a,c,h1,h2⟩
theorem al1 {g t r h:Int} (k:g*t+r=h):(g-1)*t+(r+t)=h:=by grind
theorem al2 {o P s x b p d:Int} (e:s-1000000000*d=x-b-p):o+P*(s-x)-P*1000000000*d=(o-P*b)-P*p:=by grind
theorem al3 (b X K g A y:Int):b-X*(g*A)-X*K*(g*y)=b-X*(g*(A+K*y)):=by grind
theorem al4 {u X W N c U b g V:Int} (h:u+X*(W+N*c-U)-X*N*b=u-X*(g*V)):X*(U-g*V)=X*(W+N*(c-b)):=by grind
theorem al5 (u X q:Int):u-X*q-u=X*(-q):=by grind
theorem al6 {o P x b r:Int} (h:o-P*b=r):o+P*(x-b-x)=r:=by grind
theorem al7 {b X K c s x y o A:Int} (g:x+y+c=s) (f:1000000000*(s / 1000000000)+s % 1000000000=s) (h:b+X*K*c=o+X*A):b+X*K*(s % 1000000000-x)+X*K*1000000000*(s / 1000000000)=o+X*(A+K*y):=by grind
theorem al8 {o X N b u q V W f U c:Int} (h1:o-X*N*b=u-X*((q+1)*V)) (h2:u+X*(W+N*f-U)+X*N*c=o+X*V):X*(U-q*V)=X*(W+N*(f-b+c)):=by grind
theorem al9 {g P c o X V b u q f:Int} (h1:g+P*c=o+X*V) (h2:o-P*b=u-X*((q+1)*V)) (h3:f=b-c):g+P*(0-f)=u-X*(q*V):=by grind
theorem gtb {g t r h x:Int} (k:g*t+r=h):g*(t*1000000000+x)=(h-r)*1000000000+g*x:=by subst k; grind
theorem Aby {k:Nat} {x y:Int} (h:(1000000000:Int) ^ k*x=1000000000 ^ k*y):x=y:=Int.eq_of_mul_eq_mul_left (by have:=Iq k; omega) h
theorem Ah7 {o u:List Int} {off:Nat} (c:off<=o.length) (b:off<=u.length) (h:o.take off=u.take off):A0 o-A0 u=1000000000 ^ off*(A0 (o.drop off)-A0 (u.drop off)):=by
 rw [L3 o off c,L3 u off b,h]; grind
theorem X6 {l:List Int} (h:Cb l) (k:Nat):0<=A0 (l.drop k):=Fz (h.drop k).u32
theorem Ar8 {D:List Int} (b:Cb D) {n:Nat} (h2:2<=n) (i:n<D.length) (g:A0 D<1000000000 ^ (n+1)) :
  A0 D=A0 (D.take (n-2))+1000000000 ^ (n-2)*((D[n]*1000000000+D[n-1])*1000000000+D[n-2]):=by
 have e:=L3 D (n+1) i
 have j:A0 (D.drop (n+1))=0:=by
  have x:=X6 b (n+1)
  have u:=Fz ((b.take (n+1)).u32)
  rcases Int.lt_or_le 0 (A0 (D.drop (n+1))) with h | h
  .have:(1000000000:Int) ^ (n+1)*1<=1000000000 ^ (n+1)*A0 (D.drop (n+1)):=Int.mul_le_mul_of_nonneg_left h (Int.le_of_lt (Iq _))
   omega
  .omega
 rw [j,Int.mul_zero,Int.add_zero] at e
 obtain ⟨t,rfl⟩:∃t,n=t+2:=⟨n-2,by omega⟩
 have s:=E5 D (k:=t) (by omega)
 have q:=E5 D (k:=t+1) (by omega)
 have l:=E5 D (k:=t+2) (by omega)
 have f:(1000000000:Int) ^ (t+1)=1000000000 ^ t*1000000000:=Int.pow_succ ..
 have c:(1000000000:Int) ^ (t+2)=1000000000 ^ (t+1)*1000000000:=Int.pow_succ ..
 have i1:t+2-2=t:=rfl
 have i2:t+2-1=t+1:=rfl
 simp only [i1,i2]
 rw [e,l,q,s,c,f]
 grind
theorem Ar9 {v:List Int} {n:Nat} (h2:2<=n) (g:v.length=n) :
  A0 v=A0 (v.take (n-2))+1000000000 ^ (n-2)*(v[n-1]*1000000000+v[n-2]):=by
 obtain ⟨t,rfl⟩:∃t,n=t+2:=⟨n-2,by omega⟩
 have f:=E5 v (k:=t) (by omega)
 have b:=E5 v (k:=t+1) (by omega)
 have e:v.take (t+1+1)=v:=List.take_of_length_le (by omega)
 rw [e] at b
 have c:(1000000000:Int) ^ (t+1)=1000000000 ^ t*1000000000:=Int.pow_succ ..
 have i1:t+2-2=t:=rfl
 have i2:t+2-1=t+1:=rfl
 simp only [i1,i2]
 rw [b,f,c]
 grind
set_option maxHeartbeats 1000000 in
theorem Asa (v u:List Int) (off n:Nat) (hv:Cb v) (hu:Cb u) (hn:v.length=n) (h2:2<=n) (bu:n<1099511627776) (bl:500000000<=v[n-1]) (X:off+n<u.length) (hT:A0 (u.drop off)<A0 v*1000000000) :
  ∃q o,S2 off (n+1) v u=some (q,o)/\o.length=u.length/\Cb o/\0<=q/\q<1000000000/\A0 o=A0 u-1000000000 ^ off*(q*A0 v)/\0<=A0 (o.drop off)/\A0 (o.drop off)<A0 v:=by
 have b6:=H9 hv
 rw [hn] at b6
 have bz:(u.drop off).length=u.length-off:=List.length_drop
 have A:=hu.drop off
 have bk:=Fz A.u32
 have b8:A0 (u.drop off)<1000000000 ^ (n+1):=by rw [Int.pow_succ]; omega
 have ac:=Ar8 A h2 (by omega) b8
 have ao:=Ar9 h2 hn
 have gd:∀i (h:i<(u.drop off).length),(u.drop off)[i]=u[off+i]'(by omega):=fun i h=>List.getElem_drop
 rw [gd,gd,gd] at ac
 have bo:=hu.get (i:=off+n) (by omega)
 have bq:=hu.get (i:=off+(n-1)) (by omega)
 have bp:=hu.get (i:=off+(n-2)) (by omega)
 have br:=hv.get (i:=n-1) (by omega)
 have ae:=hv.get (i:=n-2) (by omega)
 have hP:=Iq (n-2)
 have b7:=Fz ((hv.take (n-2)).u32)
 have ab:=H9 (hv.take (n-2))
 rw [List.length_take,Nat.min_eq_left (by omega)] at ab
 have ba:=Fz ((A.take (n-2)).u32)
 have b9:=H9 (A.take (n-2))
 rw [List.length_take,Nat.min_eq_left (by omega)] at b9
 have y:0<A0 v:=by
  have:(1000000000:Int) ^ (n-2)*1<=1000000000 ^ (n-2)*(v[n-1]*1000000000+v[n-2]):=Int.mul_le_mul_of_nonneg_left (by omega) (Int.le_of_lt hP)
  omega
 generalize hq:A0 (u.drop off) / A0 v=q
 have bf:q*A0 v<=A0 (u.drop off):=by rw [<-hq]; exact Int.ediv_mul_le _ (by omega)
 have ar:A0 (u.drop off)<(q+1)*A0 v:=by
  rw [<-hq]
  have:=Int.lt_ediv_add_one_mul_self (A0 (u.drop off)) y
  exact this
 have ah:0<=q:=by rw [<-hq]; exact Int.ediv_nonneg bk (by omega)
 have bd:q<1000000000:=by rw [<-hq]; exact Int.ediv_lt_of_lt_mul y (by rw [Int.mul_comm]; exact hT)
 have l:(0:Int)<v[n-1]:=by omega
 generalize ak:u[off+n]*1000000000+u[off+(n-1)]=head at ac
 have am:0<=head:=by omega
 have bw:head<=v[n-1]*1000000000+v[n-2]:=by
  rcases Int.lt_or_le (v[n-1]*1000000000+v[n-2]) head with h | h
  .exfalso
   have a1:(1000000000:Int) ^ (n-2)*((v[n-1]*1000000000+v[n-2]+1)*1000000000)<=1000000000 ^ (n-2)*(head*1000000000+u[off+(n-2)]):=Int.mul_le_mul_of_nonneg_left (by omega) (Int.le_of_lt hP)
   have a2:A0 v*1000000000<(1000000000 ^ (n-2)*(v[n-1]*1000000000+v[n-2]+1))*1000000000:=by
    have:(1000000000:Int) ^ (n-2)*(v[n-1]*1000000000+v[n-2]+1)=1000000000 ^ (n-2)*(v[n-1]*1000000000+v[n-2])+1000000000 ^ (n-2):=by grind
    omega
   have a3:((1000000000:Int) ^ (n-2)*(v[n-1]*1000000000+v[n-2]+1))*1000000000=1000000000 ^ (n-2)*((v[n-1]*1000000000+v[n-2]+1)*1000000000):=by grind
   omega
  .exact h
 have bx:0<=head / v[n-1]:=Int.ediv_nonneg am (by omega)
 have bi:head / v[n-1]<=1000000001:=by
  have:head / v[n-1]<1000000002:=Int.ediv_lt_of_lt_mul l (by omega)
  omega
 have bc:=Int.emod_nonneg head (by omega:v[n-1]≠0)
 have bs:=Int.emod_lt_of_pos head l
 have bj:=Int.mul_ediv_add_emod head v[n-1]
 unfold S2
 have w1:Al ((v.length:Int)-1)=((n-1:Nat):Int):=by rw [Al,Cl] <;> omega
 have w2:Al ((v.length:Int)-2)=((n-2:Nat):Int):=by rw [Al,Cl] <;> omega
 have w3:(v.length:Int)=((n:Nat):Int):=by omega
 have x1:Bd u[off+n]=u[off+n]:=C6 (by omega) (by omega)
 have x2:Bd (u[off+n]*1000000000)=u[off+n]*1000000000:=C6 (by omega) (by omega)
 have x3:Bd u[off+(n-1)]=u[off+(n-1)]:=C6 (by omega) (by omega)
 have x4:Bd (u[off+n]*1000000000+u[off+(n-1)])=head:=by rw [Bd,C6 (by omega) (by omega),ak]
 have x5:Bd v[n-1]=v[n-1]:=C6 (by omega) (by omega)
 have x6:Bd v[n-2]=v[n-2]:=C6 (by omega) (by omega)
 have x7:Bd u[off+(n-2)]=u[off+(n-2)]:=C6 (by omega) (by omega)
 rw [w1,w2,Df rfl (by omega:n-1<v.length),Ap,Df rfl (by omega:n-2<v.length),Ap,w3,Om rfl (by omega:n<n+1) (by omega),Ap,Om rfl (by omega:n-1<n+1) (by omega),Ap,x1,x2,x3,x4,x5,x6,Je am (by omega) l,Ap,Im am l,Ap]
 refine Ar7 (E3 (fun (g,rest)=>g*v[n-1]+rest=head/\0<=rest/\rest<2000000000/\q<=g/\g<=1000000001) (fun (g,_)=>g.toNat) (fun g=>q<=g/\g<=q+1/\g<=1000000000)
  ⟨by rw [Int.mul_comm]; exact bj,bc,by omega,?_,bi⟩ ?_ ?_)
 .
  rcases Int.lt_or_le (head / v[n-1]) q with h | h
  .exfalso
   have a1:(head / v[n-1]+1)*v[n-1]<=q*v[n-1]:=Int.mul_le_mul_of_nonneg_right (by omega) (by omega)
   have a2:head<(head / v[n-1]+1)*v[n-1]:=Int.lt_ediv_add_one_mul_self head l
   have a3:q*(1000000000 ^ (n-2)*(v[n-1]*1000000000+v[n-2]))<=q*A0 v:=Int.mul_le_mul_of_nonneg_left (by omega) ah
   have a4:(1000000000:Int) ^ (n-2)*((head+1)*1000000000)<=1000000000 ^ (n-2)*(q*(v[n-1]*1000000000+v[n-2])):=by
    apply Int.mul_le_mul_of_nonneg_left _ (Int.le_of_lt hP)
    have b1:(head+1)*1000000000<=q*v[n-1]*1000000000:=by omega
    have b2:0<=q*v[n-2]:=Int.mul_nonneg ah ae.1
    have b3:q*(v[n-1]*1000000000+v[n-2])=q*v[n-1]*1000000000+q*v[n-2]:=by grind
    omega
   have a5:q*((1000000000:Int) ^ (n-2)*(v[n-1]*1000000000+v[n-2]))=1000000000 ^ (n-2)*(q*(v[n-1]*1000000000+v[n-2])):=by grind
   have a6:(1000000000:Int) ^ (n-2)*((head+1)*1000000000)=1000000000 ^ (n-2)*(head*1000000000)+1000000000 ^ (n-2)*1000000000:=by grind
   have a7:(1000000000:Int) ^ (n-2)*(head*1000000000+u[off+(n-2)])=1000000000 ^ (n-2)*(head*1000000000)+1000000000 ^ (n-2)*u[off+(n-2)]:=by grind
   have a8:(1000000000:Int) ^ (n-2)*(u[off+(n-2)]+1)<=1000000000 ^ (n-2)*1000000000:=Int.mul_le_mul_of_nonneg_left (by omega) (Int.le_of_lt hP)
   have a9:(1000000000:Int) ^ (n-2)*(u[off+(n-2)]+1)=1000000000 ^ (n-2)*u[off+(n-2)]+1000000000 ^ (n-2):=by grind
   omega
  .exact h
 .rintro ⟨g,rest⟩ ⟨k1,k2,k3,k4,k5⟩
  have S:0<=g:=by omega
  have w4:Bd (v[n-1])=v[n-1]:=x5
  have ag:∀(hgt:q<g),(some (Sum.inl ((Bd (g-1)),(Bd (rest+v[n-1])))):Option ((Int×Int)⊕Int))=some (.inl (g-1,rest+v[n-1])):=by
   intro hgt
   rw [show Bd (g-1)=g-1 from C6 (by omega) (by omega),show Bd (rest+v[n-1])=rest+v[n-1] from C6 (by omega) (by omega)]
  have stay:∀(hr:rest<1000000000) (hgt:q<g),(g-1)*v[n-1]+(rest+v[n-1])=head/\0<=rest+v[n-1]/\rest+v[n-1]<2000000000/\q<=g-1/\g-1<=1000000001:=by
   intro hr hgt
   exact ⟨al1 k1,by omega,by omega,by omega,by omega⟩
  by_cases hr:rest<1000000000
  .by_cases Y:g>=1000000000
   .refine .inl ⟨(g-1,rest+v[n-1]),?_,stay hr (by omega),by simp; omega⟩
    simp only [A4 hr,cond_true,A4 Y,Ap]
    exact ag (by omega)
   .have bn:=X5 S (by omega) ae.1 ae.2
    have y1:Bd (g*v[n-2])=g*v[n-2]:=C6 (by omega) (by omega)
    have y2:Bd (rest*1000000000)=rest*1000000000:=C6 (by omega) (by omega)
    have y3:Bd (rest*1000000000+u[off+(n-2)])=rest*1000000000+u[off+(n-2)]:=C6 (by omega) (by omega)
    have ay:g*(v[n-1]*1000000000+v[n-2])=(head-rest)*1000000000+g*v[n-2]:=gtb k1
    simp only [A4 hr,cond_true,A8 Y,cond_false,Om rfl (by omega:n-2<n+1) (by omega:off+(n-2)<u.length),Ap,y1,x7,y2,y3]
    by_cases af:g*v[n-2]>rest*1000000000+u[off+(n-2)]
    .have hgt:q<g:=Ar6 (P:=1000000000 ^ (n-2)) (tb:=v[n-1]*1000000000+v[n-2]) (hb:=head*1000000000+u[off+(n-2)]) (B:=0) hP ao b7 ac b9 bf S (by omega) (by omega)
     refine .inl ⟨(g-1,rest+v[n-1]),?_,stay hr hgt,by simp; omega⟩
     rw [A4 af,cond_true]
     exact ag hgt
    .refine .inr ⟨g,by rw [A8 af,cond_false],k4,?_,by omega⟩
     exact Ah6 (P:=1000000000 ^ (n-2)) (tb:=v[n-1]*1000000000+v[n-2]) (hb:=head*1000000000+u[off+(n-2)]) hP ao ab ac ba ar S (by omega) (by omega) y
  .refine .inr ⟨g,by simp only [A8 hr,cond_false,Ap],k4,?_⟩
   have Y:g<=1000000000:=by
    rcases Int.lt_or_le 1000000000 g with h | h
    .exfalso
     have:g=1000000001:=by omega
     subst this
     omega
    .exact h
   refine ⟨?_,Y⟩
   have ay:g*(v[n-1]*1000000000+v[n-2])=(head-rest)*1000000000+g*v[n-2]:=gtb k1
   have bm:g*v[n-2]<=1000000000*v[n-2]:=Int.mul_le_mul_of_nonneg_right Y ae.1
   exact Ah6 (P:=1000000000 ^ (n-2)) (tb:=v[n-1]*1000000000+v[n-2]) (hb:=head*1000000000+u[off+(n-2)]) hP ao ab ac ba ar S (by omega) (by omega) y
 .rintro g ⟨k1,k2,k3⟩
  have S:0<=g:=by omega
  refine E3 (fun (b,i,o)=>∃k:Nat,i=k/\k<=n/\o.length=u.length/\Cb o/\o.take off=u.take off/\o.drop (off+k)=u.drop (off+k)/\0<=b/\b<=1000000001/\A0 o-1000000000 ^ (off+k)*b=A0 u-1000000000 ^ off*(g*A0 (v.take k)))
   (fun (_,i,_)=>n-i.toNat) (fun (b,o)=>o.length=u.length/\Cb o/\o.take off=u.take off/\o.drop (off+n)=u.drop (off+n)/\0<=b/\b<=1000000001/\A0 o-1000000000 ^ (off+n)*b=A0 u-1000000000 ^ off*(g*A0 v))
   ⟨0,rfl,by omega,rfl,hu,rfl,rfl,by omega,by omega,by simp [A0]⟩ ?_ ?_
  .rintro ⟨b,i,o⟩ ⟨k,rfl,hk,ho,I,M,L,b5,b4,f⟩
   rcases Nat.lt_or_ge k n with h | h
   .have E:off+k<o.length:=by omega
    have J:k<v.length:=by omega
    have hx:=I.get E
    have hy:=hv.get J
    have e4:=Ir h (by omega)
    have e5:decide ((k:Int)<(n:Int))=true:=A4 (by omega)
    have av:0<=g*v[k]:=Int.mul_nonneg S hy.1
    have bt:g*v[k]<=1000000000*v[k]:=Int.mul_le_mul_of_nonneg_right k3 hy.1
    have y1:Bd v[k]=v[k]:=C6 (by omega) (by omega)
    have y2:Bd (g*v[k])=g*v[k]:=C6 (by omega) (by omega)
    have y3:Al o[off+k]=o[off+k]:=Cl (by omega) (by omega)
    generalize au:g*v[k]=p at *
    have y4:Al (o[off+k]-b)=o[off+k]-b:=Cl (by omega) (by omega)
    have y5:Al (p % 1000000000)=p % 1000000000:=Cl (by omega) (by omega)
    have y6:Al (o[off+k]-b-p % 1000000000)=o[off+k]-b-p % 1000000000:=Cl (by omega) (by omega)
    have y7:Al (p / 1000000000)=p / 1000000000:=Cl (by omega) (by omega)
    simp only [e5,cond_true,Om rfl (by omega:k<n+1) E,Df rfl J,Ap,y1,y2,au,y3,y4,Im av (show (0:Int)<1000000000 by decide),Je av (show p<=_ by omega) (show (0:Int)<1000000000 by decide),y5,y6,y7]
    refine .inl (Xz (E3 (fun (b',s)=>∃t:Nat,b'=p / 1000000000+t/\s=o[off+k]-b-p % 1000000000+t*1000000000/\s<1000000000/\t<=3) (fun (_,s)=>(-s).toNat)
     (fun (b',s)=>∃t:Nat,b'=p / 1000000000+t/\s=o[off+k]-b-p % 1000000000+t*1000000000/\s<1000000000/\0<=s/\t<=2) ⟨0,by simp,by simp,by omega,by omega⟩ ?_ ?_))
    .rintro ⟨b',s⟩ ⟨t,rfl,hs,ad,ht⟩
     by_cases G:s<0
     .refine .inl ⟨(p / 1000000000+(t+1:Nat),s+1000000000),?_,⟨t+1,rfl,by rw [hs]; simp; omega,by omega,by omega⟩,by simp; omega⟩
      rw [A4 G,cond_true,show Al (p / 1000000000+(t:Int)+1)=p / 1000000000+((t+1:Nat):Int) by rw [Al,Cl] <;> omega,show Al (s+1000000000)=s+1000000000 from Cl (by omega) (by omega)]
     .exact .inr ⟨(p / 1000000000+t,s),by rw [A8 G,cond_false],t,rfl,hs,ad,by omega,by omega⟩
    .rintro ⟨b',s⟩ ⟨t,rfl,hs,ad,G,ht⟩
     have y8:Bt s=s:=E4 (by omega) (by omega)
     refine ⟨.inl (p / 1000000000+t,((k+1:Nat):Int),o.set (off+k) s),by simp only [Om rfl (by omega:k<n+1) E,Ap,y8,e4]; rw [Hm (n:=off+k) (by omega)],_,rfl,⟨k+1,rfl,by omega,by simpa using ho,I.set _ G ad,?_,?_,by omega,by omega,?_⟩,by simp; omega⟩
     .rw [List.take_set_of_le (by omega)]; exact M
     .rw [List.drop_set_of_lt (by omega),show off+(k+1)=(off+k)+1 by omega,<-List.drop_drop,L,List.drop_drop]
     .rw [Jv _ E,E5 v J,show off+(k+1)=(off+k)+1 by omega,Int.pow_succ]
      have ax:=Int.mul_ediv_add_emod p 1000000000
      have pa:(1000000000:Int) ^ (off+k)=1000000000 ^ off*1000000000 ^ k:=Int.pow_add ..
      have eA:s-1000000000*(p / 1000000000+(t:Int))=o[off+k]-b-p:=by rw [hs]; omega
      rw [al2 eA,f,<-au,pa]
      exact al3 _ _ _ _ _ _
   .have aj:k=n:=by omega
    subst aj
    refine .inr ⟨(b,o),by simp,ho,I,M,L,b5,b4,?_⟩
    rw [List.take_of_length_le (by omega)] at f
    exact f
  .rintro ⟨b,o⟩ ⟨ho,I,M,L,b5,b4,f⟩
   have hV:=y
   have ai:off+n<o.length:=by omega
   have aw:o[off+n]=u[off+n]:=by
    have:=congrArg List.head? L
    rw [List.head?_drop,List.head?_drop,Cv ai,Cv X] at this
    exact Option.some.inj this
   have hE:A0 (u.drop (off+n))=u[off+n]:=by
    have a1:=L3 (u.drop off) (n+1) (by omega)
    have a2:=Fz (((hu.drop off).take (n+1)).u32)
    have a3:=X6 (hu.drop off) (n+1)
    have a4:A0 ((u.drop off).drop (n+1))=0:=by
     rcases Int.lt_or_le 0 (A0 ((u.drop off).drop (n+1))) with h | h
     .have:(1000000000:Int) ^ (n+1)*1<=1000000000 ^ (n+1)*A0 ((u.drop off).drop (n+1)):=Int.mul_le_mul_of_nonneg_left h (Int.le_of_lt (Iq _))
      omega
     .omega
    rw [List.drop_eq_getElem_cons X]
    simp only [A0]
    rw [List.drop_drop,show off+(n+1)=off+n+1 by omega] at a4
    rw [a4]; omega
   have main:∀o':List Int,o'.length=u.length->Cb o'->o'.take off=u.take off->o'.drop (off+n)=u.drop (off+n)->0<=A0 ((o'.drop off).take n)/\A0 ((o'.drop off).take n)<1000000000 ^ n /\
     A0 o'=A0 u+1000000000 ^ off*(A0 ((o'.drop off).take n)+1000000000 ^ n*u[off+n]-A0 (u.drop off)):=by
    intro o' l1 l2 l3 l4
    have a1:=L3 (o'.drop off) n (by rw [List.length_drop]; omega)
    rw [List.drop_drop,l4,hE] at a1
    have a2:=Ah7 (by omega) (by omega) l3
    refine ⟨Fz (((l2.drop off).take n).u32),?_,by rw [<-a1]; omega⟩
    have:=H9 ((l2.drop off).take n)
    rw [List.length_take,List.length_drop,Nat.min_eq_left (by omega)] at this
    exact this
   obtain ⟨m1,m2,m3⟩:=main o ho I M L
   have pa:(1000000000:Int) ^ (off+n)=1000000000 ^ off*1000000000 ^ n:=Int.pow_add ..
   have star:A0 (u.drop off)-g*A0 v=A0 ((o.drop off).take n)+1000000000 ^ n*(u[off+n]-b):=by
    apply Aby (k:=off)
    rw [m3,pa] at f
    exact al4 f
   have y1:Al u[off+n]=u[off+n]:=Cl (by omega) (by omega)
   have y2:Al (u[off+n]-b)=u[off+n]-b:=Cl (by omega) (by omega)
   have ap:=Iq n
   have fin:∀(U:List Int) (x:Int) (j:List Int),U=j.set (off+n) x->j.length=u.length->Cb j->0<=x->x<1000000000->j.take off=u.take off->A0 U=A0 u-1000000000 ^ off*(q*A0 v) ->
     U.length=u.length/\Cb U/\0<=q/\q<1000000000/\A0 U=A0 u-1000000000 ^ off*(q*A0 v)/\0<=A0 (U.drop off)/\A0 (U.drop off)<A0 v:=by
    intro U x j e l1 l2 x0 x1 l3 aq
    have L4:U.length=u.length:=by rw [e]; simpa using l1
    have T4:U.take off=u.take off:=by rw [e,List.take_set_of_le (by omega)]; exact l3
    have hp:=Ah7 (by omega) (by omega) T4
    have hd:A0 (U.drop off)=A0 (u.drop off)-q*A0 v:=by
     have:A0 (U.drop off)-A0 (u.drop off) = - (q*A0 v):=by
      apply Aby (k:=off)
      rw [<-hp,aq]; exact al5 _ _ _
     omega
    have be:(q+1)*A0 v=q*A0 v+A0 v:=by grind
    exact ⟨L4,by rw [e]; exact l2.set _ x0 x1,ah,bd,aq,by omega,by omega⟩
   simp only [Om rfl (by omega:n<n+1) ai,aw,Ap,y1,y2]
   by_cases z:u[off+n]-b>=0
   .have bv:g*A0 v<=A0 (u.drop off):=by
     have:=Int.mul_nonneg (Int.le_of_lt ap) z
     omega
    have R:g=q:=by
     rcases Int.lt_or_le q g with h | h
     .exfalso
      have:(q+1)*A0 v<=g*A0 v:=Int.mul_le_mul_of_nonneg_right (by omega) (by omega)
      omega
     .omega
    have y3:Bt (u[off+n]-b)=u[off+n]-b:=E4 (by omega) (by omega)
    have y4:Bt g=g:=E4 (by omega) (by omega)
    rw [A4 z,cond_true,y3,y4,Hm (n:=off+n) (by omega)]
    refine ⟨_,rfl,?_⟩
    rw [R]
    refine fin _ (u[off+n]-b) o rfl ho I z (by omega) M ?_
    rw [Jv _ ai,aw]
    rw [R] at f
    exact al6 f
   .have R:g=q+1:=by
     have h1:1000000000 ^ n*(u[off+n]-b)<=1000000000 ^ n*(-1):=Int.mul_le_mul_of_nonneg_left (by omega) (Int.le_of_lt ap)
     rcases Int.lt_or_le q g with h | h
     .omega
     .exfalso
      have:g*A0 v<=q*A0 v:=Int.mul_le_mul_of_nonneg_right h (by omega)
      omega
    rw [A8 z,cond_false]
    refine E3 (fun (c,i,j)=>∃k:Nat,i=k/\k<=n/\j.length=u.length/\Cb j/\j.take off=u.take off/\j.drop (off+k)=o.drop (off+k)/\0<=c/\c<=1/\A0 j+1000000000 ^ (off+k)*c=A0 o+1000000000 ^ off*A0 (v.take k))
     (fun (_,i,_)=>n-i.toNat) (fun (c,j)=>j.length=u.length/\Cb j/\j.take off=u.take off/\j.drop (off+n)=o.drop (off+n)/\0<=c/\c<=1/\A0 j+1000000000 ^ (off+n)*c=A0 o+1000000000 ^ off*A0 v)
     ⟨0,rfl,by omega,ho,I,M,rfl,by omega,by omega,by simp [A0]⟩ ?_ ?_
    .rintro ⟨c,i,j⟩ ⟨k,rfl,hk,h3,N,V,aa,b0,az,D⟩
     rcases Nat.lt_or_ge k n with h | h
     .have E:off+k<j.length:=by omega
      have J:k<v.length:=by omega
      have hx:=N.get E
      have hy:=hv.get J
      have e4:=Ir h (by omega)
      have e5:decide ((k:Int)<(n:Int))=true:=A4 (by omega)
      have z1:Bt (j[off+k]+v[k])=j[off+k]+v[k]:=E4 (by omega) (by omega)
      have z2:Bt (j[off+k]+v[k]+c)=j[off+k]+v[k]+c:=E4 (by omega) (by omega)
      generalize hs:j[off+k]+v[k]+c=s at z2
      have G:0<=s:=by omega
      have ad:s<2000000000:=by omega
      refine .inl ⟨(s / 1000000000,((k+1:Nat):Int),j.set (off+k) (s % 1000000000)),?_,⟨k+1,rfl,by omega,by simpa using h3,N.set _ (by omega) (by omega),?_,?_,by omega,by omega,?_⟩,by simp; omega⟩
      .simp only [e5,cond_true,Om rfl (by omega:k<n+1) E,Df rfl J,Ap,z1,hs,z2,Abr G (show s<=_ by omega) (show (0:Int)<1000000000 by decide),Im G (show (0:Int)<1000000000 by decide),e4]
       rw [Hm (n:=off+k) (by omega)]
      .rw [List.take_set_of_le (by omega)]; exact V
      .rw [List.drop_set_of_lt (by omega),show off+(k+1)=(off+k)+1 by omega,<-List.drop_drop,aa,List.drop_drop]
      .rw [Jv _ E,E5 v J,show off+(k+1)=(off+k)+1 by omega,Int.pow_succ]
       have ax:=Int.mul_ediv_add_emod s 1000000000
       have pk:(1000000000:Int) ^ (off+k)=1000000000 ^ off*1000000000 ^ k:=Int.pow_add ..
       rw [pk] at D ⊢
       exact al7 hs ax D
     .have aj:k=n:=by omega
      subst aj
      refine .inr ⟨(c,j),by simp,h3,N,V,aa,b0,az,?_⟩
      rw [List.take_of_length_le (by omega)] at D
      exact D
    .rintro ⟨c,j⟩ ⟨h3,N,V,aa,b0,az,D⟩
     have hn3:off+n<j.length:=by omega
     obtain ⟨r1,r2,r3⟩:=main j h3 N V (aa.trans L)
     have bg:j[off+n]=u[off+n]:=by
      have:=congrArg List.head? (aa.trans L)
      rw [List.head?_drop,List.head?_drop,Cv hn3,Cv X] at this
      exact Option.some.inj this
     have bb:A0 (u.drop off)-q*A0 v=A0 ((j.drop off).take n)+1000000000 ^ n*(u[off+n]-b+c):=by
      apply Aby (k:=off)
      rw [r3,pa] at D
      rw [R] at f
      rw [pa] at f
      exact al8 f D
     have bh:u[off+n]-b+c=0:=by
      have be:(q+1)*A0 v=q*A0 v+A0 v:=by grind
      rcases Int.lt_or_le (u[off+n]-b+c) 0 with h | h
      .exfalso
       have h1:1000000000 ^ n*(u[off+n]-b+c)<=1000000000 ^ n*(-1):=Int.mul_le_mul_of_nonneg_left (by omega) (Int.le_of_lt ap)
       omega
      .omega
     have y5:Al c=c:=Cl (by omega) (by omega)
     have y6:Al (u[off+n]-b+c)=0:=by rw [bh]; rfl
     have y7:Bt (0:Int)=0:=rfl
     have y8:Bd (g-1)=q:=by rw [R,Bd,C6 (by omega) (by omega)]; omega
     have y9:Bt q=q:=E4 (by omega) (by omega)
     simp only [Om rfl (by omega:n<n+1) hn3,Ap,y5,y6,y7,y8,y9]
     rw [Hm (n:=off+n) (by omega)]
     refine ⟨_,rfl,?_⟩
     refine fin _ 0 j rfl h3 N (by omega) (by omega) V ?_
     rw [Jv _ hn3,bg]
     rw [R] at f
     exact al9 D f (by omega)
end Go.Ab
namespace Go.Ab
open Go
theorem Asb (a:List Int) (m:Int):Xo a m=Qk a m:=rfl
theorem Asc {t d r:Int} (g:1<=t) (b:t<1000000000) (hd:d*(t+1)+r=1000000000) (i:0<=r) (c:r<=t):500000000<=d*t:=by
 have f:0<=d:=by
  rcases Int.lt_or_le d 0 with h | h
  .exfalso
   have:d*(t+1)<=(-1)*(t+1):=Int.mul_le_mul_of_nonneg_right (by omega) (by omega)
   omega
  .exact h
 have e:d*(t+1)=d*t+d:=by grind
 rcases Int.lt_or_le t 2 with h | h
 .have:t=1:=by omega
  subst this
  omega
 .rcases Int.lt_or_le d 2 with h2 | h2
  .have:d=0\/d=1:=by omega
   rcases this with rfl | rfl <;> omega
  .have h3:2*(t-1)<=d*(t-1):=Int.mul_le_mul_of_nonneg_right h2 (by omega)
   have j:d*(t-1)=d*t-d:=by grind
   omega
theorem bl1 (P t d:Int):P*t*d=P*(d*t):=by grind
theorem bl2 {u o X q V K Q S:Int} (h:o=u-X*(q*V)) (b:u+V*(X*1000000000)*Q=S):o+V*X*(q+1000000000*Q)=S:=by grind
set_option maxHeartbeats 1000000 in
theorem Abz (m n:Nat) (hm:B1 m<274877906944) (hn:B1 n<274877906944) (G:n≠0):N5 (Ar m) (Ar n)=some (Ar (m / n),Ar (m % n)):=by
 unfold N5
 rw [Th m n (by omega) (by omega),Ap]
 unfold B1 at hm hn
 by_cases g:m<n
 .rw [show Ev m n = -1 by rw [Ev,if_pos g],A4 (by decide:(-1:Int)<0),cond_true,Dw (by simp; omega),Ap,Nat.div_eq_of_lt g,Nat.mod_eq_of_lt g,Fb]; rfl
 .rw [A8 (show ¬Ev m n<0 by rw [Ev,if_neg g]; split <;> decide),cond_false]
  have bc:(Ar n).length<=(Ar m).length:=Hf (by omega)
  have b0:(Ar n).length≠0:=fun e=>G6 G (List.length_eq_zero_iff.1 e)
  by_cases h1:(Ar n).length=1
  .rw [Ct (by omega:((Ar n).length:Int)=1),cond_true]
   have a7:n<1000000000:=by
    have:=L5 n
    rw [show B1 n=1 from h1] at this
    simpa using this
   have ao:Ar n = [(n:Int)]:=by
    rw [Kp G,Nat.div_eq_of_lt a7,Fb,Nat.mod_eq_of_lt a7]
   rw [ao,show Au [(n:Int)] 0=some (n:Int) from rfl,Ap,show Bd (n:Int)=n from C6 (by omega) (by omega),Abx m n (by unfold B1; omega) (by omega) (by omega),Ap]
   have az:m % n<n:=Nat.mod_lt _ (by omega)
   rw [Ol (m % n) (by omega),Ap]
  .rw [Cg (by omega:((Ar n).length:Int)≠1),cond_false]
   generalize hL:(Ar n).length=L at *
   generalize hA:(Ar m).length=A at *
   have w1:Al ((L:Int)-1)=((L-1:Nat):Int):=by rw [Al,Cl] <;> omega
   have hi:L-1<(Ar n).length:=by omega
   have ht:=(Eb n).get hi
   have ax:(Ar n)[L-1]≠0:=by
    have:=(X1 n).2 (G6 G)
    rw [List.getLast_eq_getElem] at this
    simpa [hL] using this
   generalize y:(Ar n)[L-1]=t at *
   have w2:Bd t=t:=C6 (by omega) (by omega)
   have w3:Bd (t+1)=t+1:=C6 (by omega) (by omega)
   rw [w1,Df rfl hi,y,Ap,w2,w3,Je (by decide) (by decide) (by omega),Ap]
   have U:=Int.mul_ediv_add_emod 1000000000 (t+1)
   have ai:=Int.emod_nonneg 1000000000 (by omega:t+1≠0)
   have b9:=Int.emod_lt_of_pos 1000000000 (by omega:0<t+1)
   have ar:1<=1000000000 / (t+1):=by
    rcases Int.lt_or_le (1000000000 / (t+1)) 1 with h | h
    .exfalso
     have:(t+1)*(1000000000 / (t+1))<=(t+1)*0:=Int.mul_le_mul_of_nonneg_left (by omega) (by omega)
     omega
    .exact h
   have aq:1000000000 / (t+1)<=500000000:=by
    have:=Int.ediv_lt_of_lt_mul (a:=1000000000) (b:=500000001) (c:=t+1) (by omega) (by omega)
    omega
   obtain ⟨d,hd⟩:∃d:Nat,1000000000 / (t+1)=(d:Int):=⟨(1000000000 / (t+1)).toNat,by omega⟩
   rw [hd] at U ar aq ⊢
   obtain ⟨u,ah,E,S,R⟩:=Ah5 (Ar m) d (Eb m) (by omega) (by omega)
   obtain ⟨v0,ag,af,D,b7⟩:=Ah5 (Ar n) d (Eb n) (by omega) (by omega)
   rw [ah,Ap,Asb,ag,Ap,En] at *
   rw [hL] at af
   rw [hA] at E
   rw [Vf rfl (by omega:L<=v0.length),Ap]
   have x:=Iq (L-1)
   have pL:(1000000000:Int) ^ L=1000000000 ^ (L-1)*1000000000:=by rw [<-Int.pow_succ]; congr 1; omega
   have Y:=E5 (Ar n) hi
   rw [List.take_of_length_le (by omega),En,y] at Y
   have ay:=Fz (((Eb n).take (L-1)).u32)
   have a6:=H9 ((Eb n).take (L-1))
   rw [List.length_take,hL,Nat.min_eq_left (by omega)] at a6
   have bb:(n:Int)*d<1000000000 ^ L:=by
    have a1:(n:Int)*d<(1000000000 ^ (L-1)*(t+1))*d:=Int.mul_lt_mul_of_pos_right (by
     have:(1000000000:Int) ^ (L-1)*(t+1)=1000000000 ^ (L-1)*t+1000000000 ^ (L-1):=by grind
     omega) (by omega)
    have a2:(1000000000 ^ (L-1)*(t+1))*(d:Int)=1000000000 ^ (L-1)*((t+1)*d):=by grind
    have a3:(1000000000:Int) ^ (L-1)*((t+1)*d)<=1000000000 ^ (L-1)*1000000000:=Int.mul_le_mul_of_nonneg_left (by omega) (Int.le_of_lt x)
    omega
   have M:A0 (v0.take L)=(n:Int)*d:=by
    have e:=L3 v0 L (by omega)
    have z:A0 (v0.drop L)=0:=by
     have a1:=X6 D L
     have a2:=Fz ((D.take L).u32)
     rcases Int.lt_or_le 0 (A0 (v0.drop L)) with h | h
     .have:(1000000000:Int) ^ L*1<=1000000000 ^ L*A0 (v0.drop L):=Int.mul_le_mul_of_nonneg_left h (Int.le_of_lt (Iq _))
      omega
     .omega
    rw [z] at e; omega
   have I:(v0.take L).length=L:=by rw [List.length_take]; omega
   have f:=D.take L
   have J:L-1<(v0.take L).length:=by omega
   have am:500000000<=(d:Int)*t:=Asc (r:=1000000000 % (t+1)) (by omega) (by omega) (by rw [Int.mul_comm]; exact U) ai (by omega)
   have l:500000000<=(v0.take L)[L-1]:=by
    have e:=E5 (v0.take L) J
    rw [List.take_of_length_le (by omega),M] at e
    have b1:=H9 (f.take (L-1))
    rw [List.length_take,I,Nat.min_eq_left (by omega)] at b1
    have b2:(1000000000:Int) ^ (L-1)*t*d<=n*d:=Int.mul_le_mul_of_nonneg_right (by omega) (by omega)
    have b3:(1000000000:Int) ^ (L-1)*500000000<=1000000000 ^ (L-1)*(d*t):=Int.mul_le_mul_of_nonneg_left am (Int.le_of_lt x)
    rw [bl1] at b2
    rcases Int.lt_or_le (v0.take L)[L-1] 500000000 with h | h
    .exfalso
     have b4:(1000000000:Int) ^ (L-1)*((v0.take L)[L-1]+1)<=1000000000 ^ (L-1)*500000000:=Int.mul_le_mul_of_nonneg_left (by omega) (Int.le_of_lt x)
     have b5:(1000000000:Int) ^ (L-1)*((v0.take L)[L-1]+1)=1000000000 ^ (L-1)*(v0.take L)[L-1]+1000000000 ^ (L-1):=by grind
     omega
    .exact h
   generalize b6:v0.take L=v at *
   have w4:Al ((A:Int)-(L:Int))=((A-L:Nat):Int):=by rw [Al,Cl] <;> omega
   have w5:Al (((A-L:Nat):Int)+1)=((A-L+1:Nat):Int):=by rw [Al,Cl] <;> omega
   rw [w4,w5,Ko rfl rfl (Nat.le_refl _) (by omega) (by omega),Ap,E]
   have b8:=Fz S.u32
   have au:(0:Int)<(n:Int)*d:=Int.mul_pos (by omega) (by omega)
   refine Gm (fun (i,w,q)=>∃k:Nat,i=(k:Int)-1/\k<=A-L+1/\w.length=A+1/\Cb w/\q.length=A-L+1/\Cb q/\A0 w<A0 v*1000000000 ^ k/\A0 w+A0 v*1000000000 ^ k*A0 (q.drop k)=(m:Int)*d)
    (fun (i,_,_)=>(i+1).toNat) (fun (w,q)=>w.length=A+1/\Cb w/\q.length=A-L+1/\Cb q/\A0 w<A0 v/\A0 w+A0 v*A0 q=(m:Int)*d)
    ⟨A-L+1,by omega,Nat.le_refl _,E,S,by simp,Cb.replicate _,?_,by rw [List.drop_of_length_le (by simp)]; simp [A0,R]⟩ ?_ ?_
   .
    have ak:(m:Int)<1000000000 ^ A:=by
     have:=H9 (Eb m)
     rwa [En,hA] at this
    have a1:(m:Int)*d<1000000000 ^ A*500000000:=by
     have c1:(m:Int)*d<=m*500000000:=Int.mul_le_mul_of_nonneg_left (by omega) (by omega)
     have c2:(m:Int)*500000000<1000000000 ^ A*500000000:=Int.mul_lt_mul_of_pos_right ak (by decide)
     omega
    have a2:(1000000000:Int) ^ (L-1)*500000000<=A0 v:=by
     have e:=E5 v J
     rw [List.take_of_length_le (by omega)] at e
     have b1:=Fz ((f.take (L-1)).u32)
     have b3:(1000000000:Int) ^ (L-1)*500000000<=1000000000 ^ (L-1)*v[L-1]:=Int.mul_le_mul_of_nonneg_left l (Int.le_of_lt x)
     omega
    have a3:(1000000000:Int) ^ (L-1)*500000000*1000000000 ^ (A-L+1)<=A0 v*1000000000 ^ (A-L+1):=Int.mul_le_mul_of_nonneg_right a2 (Int.le_of_lt (Iq _))
    have a4:(1000000000:Int) ^ (L-1)*500000000*1000000000 ^ (A-L+1)=1000000000 ^ A*500000000:=by
     have:(1000000000:Int) ^ A=1000000000 ^ (L-1)*1000000000 ^ (A-L+1):=by rw [<-Int.pow_add]; congr 1; omega
     rw [this]; grind
    rw [R]; omega
   .rintro ⟨i,w,q⟩ ⟨k,rfl,hk,ad,B,X,V,a8,s⟩
    cases k with
    | zero=>exact .inr ⟨(w,q),by simp,ad,B,X,V,by simpa using a8,by simpa using s⟩
    | succ j=>
     have e0:((j+1:Nat):Int)-1=(j:Int):=by omega
     have e1:decide ((j:Int)>=0)=true:=A4 (by omega)
     have w6:Al ((j:Int)+(L:Int))=((j+L:Nat):Int):=by rw [Al,Cl] <;> omega
     have w7:Al (((j+L:Nat):Int)+1)=((j+L+1:Nat):Int):=by rw [Al,Cl] <;> omega
     have sA:Uh (A+1) (j:Int) ((j+L+1:Nat):Int)=some (j,j+L+1):=by
      have c1:(0:Int)<=(j:Int):=by omega
      have c2:(j:Int)<=((j+L+1:Nat):Int):=by omega
      have c3:((j+L+1:Nat):Int)<=((A+1:Nat):Int):=by omega
      have c4:(j:Int)=0\/(j:Int)<((j+L+1:Nat):Int):=by omega
      rw [Uh,if_pos ⟨c1,c2,c3,c4⟩]; rfl
     have av:A0 (w.drop j)<A0 v*1000000000:=by
      have s1:=L3 w j (by omega)
      have s2:=Fz ((B.take j).u32)
      rcases Int.lt_or_le (A0 (w.drop j)) (A0 v*1000000000) with h | h
      .exact h
      .exfalso
       have:(1000000000:Int) ^ j*(A0 v*1000000000)<=1000000000 ^ j*A0 (w.drop j):=Int.mul_le_mul_of_nonneg_left h (Int.le_of_lt (Iq _))
       have e:A0 v*(1000000000:Int) ^ (j+1)=1000000000 ^ j*(A0 v*1000000000):=by rw [Int.pow_succ]; grind
       omega
     obtain ⟨qd,o,r1,r2,r3,r4,r5,r6,r7,r8⟩:=Asa v w j L f B I (by omega) (by omega) l (by omega) av
     have aa:j<q.length:=by omega
     have w8:Al ((j:Int)-1)=(j:Int)-1:=by rw [Al,Cl] <;> omega
     have lG:Ui (A+1) o=some ():=by rw [Ui,if_pos (by omega)]
     refine .inl ⟨((j:Int)-1,o,q.set j qd),?_,⟨j,rfl,by omega,by omega,r3,by simpa using X,V.set _ r4 r5,?_,?_⟩,by simp⟩
     .simp only [e0,e1,cond_true,w6,w7,sA,Ap,Nat.zero_add,show j+L+1-j=L+1 by omega,r1,lG,Df rfl aa,w8,Hm rfl]
     .have s1:=L3 o j (by omega)
      have s2:=H9 (r3.take j)
      rw [List.length_take,Nat.min_eq_left (by omega)] at s2
      have:(1000000000:Int) ^ j*(A0 (o.drop j)+1)<=1000000000 ^ j*A0 v:=Int.mul_le_mul_of_nonneg_left (by omega) (Int.le_of_lt (Iq _))
      have e:(1000000000:Int) ^ j*(A0 (o.drop j)+1)=1000000000 ^ j*A0 (o.drop j)+1000000000 ^ j:=by grind
      rw [Int.mul_comm (A0 v)]; omega
     .have d1:(q.set j qd).drop j=qd::q.drop (j+1):=by
       rw [List.drop_eq_getElem_cons (by simpa using aa),List.drop_set_of_lt (by omega)]; simp
      rw [d1]
      simp only [A0]
      rw [Int.pow_succ] at s
      exact bl2 (K:=0) r6 s
   .rintro ⟨w,q⟩ ⟨h2,h3,h4,h5,h6,h7⟩
    rw [M] at h6 h7
    have ae:=Fz h3.u32
    have ba:=Fz h5.u32
    have N:=(Int.ediv_emod_unique au (r:=A0 w) (q:=A0 q) (a:=(m:Int)*d)).2 ⟨by rw [<-h7],ae,h6⟩
    have ap:(m*d) / (n*d)=m / n:=Nat.mul_div_mul_right m n (by omega)
    have aj:(m*d) % (n*d)=(m % n)*d:=Nat.mul_mod_mul_right d m n
    have aw:A0 q=((m / n:Nat):Int):=by
     rw [<-N.1,<-ap]; simp
    have ab:A0 w=(((m % n)*d:Nat):Int):=by
     rw [<-N.2,<-aj]; simp
    have ac:B1 ((m % n)*d)<1099511627776:=by
     have g:=H9 h3
     have:B1 ((m % n)*d)<=A+1:=by
      apply Kq
      rw [h2,ab] at g
      have e:((1000000000 ^ (A+1):Nat):Int)=1000000000 ^ (A+1):=by rw [Int.natCast_pow]; rfl
      omega
     omega
    dsimp only
    rw [Ok w (by omega),Ap,Jf h3 ab,Abx _ d ac (by omega) (by omega),Ap,Ok q (by omega),Ap,Jf h5 aw,Nat.mul_div_cancel _ (by omega)]
end Go.Ab
namespace Go.Ab
open Go
theorem Ah8 {n:Nat} (h:B1 n<=2):n<1000000000000000000:=by
 have h1:=L5 n
 have h2:1000000000 ^ B1 n<=1000000000 ^ 2:=Nat.pow_le_pow_right (by decide) h
 omega
theorem Ah9 (n:Nat) (h:B1 n<=2):Qj (Ar n)=some ((n:Int),true):=by
 unfold Qj
 unfold B1 at h
 have ha:=Eb n
 refine Gm (fun (w,i)=>∃k:Nat,i=k/\k<=(Ar n).length/\w=A0 ((Ar n).drop ((Ar n).length-k))) (fun (_,i)=>(Ar n).length-i.toNat)
  (fun e=>match e with | .inl _=>False | .inr w=>w=n) ⟨0,rfl,by omega,by simp [A0]⟩ ?_ ?_
 .rintro ⟨w,i⟩ ⟨k,rfl,hk,rfl⟩
  rcases Nat.lt_or_ge k (Ar n).length with c | hge
  .have A:decide ((k:Int)<((Ar n).length:Int))=true:=A4 (by omega)
   have u:Al (((Ar n).length:Int)-1)=((Ar n).length:Int)-1:=by rw [Al,Cl] <;> omega
   have s:Al (((Ar n).length:Int)-1-(k:Int))=(((Ar n).length-1-k:Nat):Int):=by rw [Al,Cl] <;> omega
   have hj:(Ar n).length-1-k<(Ar n).length:=by omega
   have hx:=ha.get hj
   have y:=X6 ha ((Ar n).length-k)
   have b:=H9 (ha.drop ((Ar n).length-k))
   rw [List.length_drop,show (Ar n).length-((Ar n).length-k)=k by omega] at b
   have x:(1000000000:Int) ^ k<=1000000000:=by
    have:k=0\/k=1:=by omega
    rcases this with rfl | rfl <;> decide
   have q:Bd (Ar n)[(Ar n).length-1-k]=(Ar n)[(Ar n).length-1-k]:=C6 (by omega) (by omega)
   have l:Bd (18446744073709551615-(Ar n)[(Ar n).length-1-k])=18446744073709551615-(Ar n)[(Ar n).length-1-k]:=C6 (by omega) (by omega)
   have j:Bd (A0 ((Ar n).drop ((Ar n).length-k))*1000000000)=A0 ((Ar n).drop ((Ar n).length-k))*1000000000:=C6 (by omega) (by omega)
   have g:Bd (A0 ((Ar n).drop ((Ar n).length-k))*1000000000+(Ar n)[(Ar n).length-1-k])=A0 ((Ar n).drop ((Ar n).length-k))*1000000000+(Ar n)[(Ar n).length-1-k]:=C6 (by omega) (by omega)
   have z:=Ir c (by omega)
   have hc:¬A0 ((Ar n).drop ((Ar n).length-k))>(18446744073709551615-(Ar n)[(Ar n).length-1-k]) / 1000000000:=by omega
   refine .inl ⟨(A0 ((Ar n).drop ((Ar n).length-k))*1000000000+(Ar n)[(Ar n).length-1-k],((k+1:Nat):Int)),?_,⟨k+1,rfl,by omega,?_⟩,by simp; omega⟩
   .simp only [A,cond_true,u,s,Df rfl hj,Ap,q,l,Je (show 0<=18446744073709551615-(Ar n)[(Ar n).length-1-k] by omega) (show 18446744073709551615-(Ar n)[(Ar n).length-1-k]<=_ by omega) (show (0:Int)<1000000000 by decide),A8 hc,cond_false,j,g,z]
   .have hd:(Ar n).drop ((Ar n).length-(k+1))=(Ar n)[(Ar n).length-1-k]::(Ar n).drop ((Ar n).length-k):=by
     rw [show (Ar n).length-(k+1)=(Ar n).length-1-k by omega,List.drop_eq_getElem_cons hj]
     congr 2; omega
    rw [hd]; simp only [A0]; omega
  .have:k=(Ar n).length:=by omega
   subst this
   refine .inr ⟨.inr _,by simp; rfl,?_⟩
   exact En n
 .rintro (e | e) f
  .exact f.elim
  .simp only at f ⊢; rw [f]
theorem Asd (m n:Nat) (A:B1 m<274877906944) (z:B1 n<274877906944):Sr (Ar m) (Ar n)=some (Ar (Nat.gcd m n)):=by
 unfold Sr
 refine Gm (fun (a,b)=>∃x y:Nat,a=Ar x/\b=Ar y/\B1 x<274877906944/\B1 y<274877906944/\Nat.gcd x y=Nat.gcd m n) (fun (_,b)=>(A0 b).toNat)
  (fun e=>match e with | .inl r=>r=Ar (Nat.gcd m n) | .inr r=>r=Ar (Nat.gcd m n)) ⟨m,n,rfl,rfl,A,z,rfl⟩ ?_ ?_
 .rintro ⟨a,b⟩ ⟨x,y,rfl,rfl,hx,hy,k⟩
  by_cases c:y=0
  .subst c
   refine .inr ⟨.inr (Ar x),by rw [Fb]; rfl,?_⟩
   show Ar x=_
   rw [<-k,Nat.gcd_zero_right]
  .have B:(Ar y).length≠0:=fun e=>G6 c (List.length_eq_zero_iff.1 e)
   have l:decide (((Ar y).length:Int)>0)=true:=A4 (by omega)
   by_cases h2:B1 x<=2/\B1 y<=2
   .have i:=Ah8 h2.1
    have h:=Ah8 h2.2
    unfold B1 at h2
    simp only [l,cond_true,A4 (by omega:((Ar x).length:Int)<=2),A4 (by omega:((Ar y).length:Int)<=2),Ap,Ah9 x h2.1,Ah9 y h2.2]
    refine .inr (Arz (E3 (fun (p,q)=>∃u v:Nat,p=u/\q=v/\u<1000000000000000000/\v<1000000000000000000/\Nat.gcd u v=Nat.gcd m n) (fun (_,q)=>q.toNat) (fun (p,q)=>p=((Nat.gcd m n:Nat):Int)/\Nat.gcd m n<1000000000000000000)
     ⟨x,y,rfl,rfl,i,h,k⟩ ?_ ?_))
    .rintro ⟨p,q⟩ ⟨u,v,rfl,rfl,hu,s,f⟩
     by_cases j:v=0
     .subst j
      refine .inr ⟨((u:Int),(0:Int)),rfl,?_⟩
      rw [Nat.gcd_zero_right] at f
      exact ⟨by rw [f],by omega⟩
     .refine .inl ⟨((v:Int),((u % v:Nat):Int)),?_,⟨v,u % v,rfl,rfl,s,by have:=Nat.mod_lt u (by omega:v>0); omega,?_⟩,?_⟩
      .simp only [A4 (by omega:(v:Int)>0),cond_true,Im (by omega:(0:Int)<=u) (by omega:(0:Int)<v),Ap]; rfl
      .rw [<-f,Nat.gcd_comm v,<-Nat.gcd_rec,Nat.gcd_comm]
      .have:=Nat.mod_lt u (by omega:v>0); simp only [Int.toNat_natCast]; exact this
    .rintro ⟨p,q⟩ ⟨rfl,D⟩
     dsimp only
     rw [Ol _ (by omega)]
     exact ⟨_,rfl,_,rfl,rfl⟩
   .refine .inl ⟨(Ar y,Ar (x % y)),?_,⟨y,x % y,rfl,rfl,hy,by have:=Hf (Nat.mod_le x y); omega,?_⟩,?_⟩
    .have:(bif (decide (((Ar x).length:Int)<=(2:Int))) then some (decide (((Ar y).length:Int)<=(2:Int))) else some false)=some false:=by
      unfold B1 at h2
      by_cases hc:(Ar x).length<=2
      .rw [A4 (by omega:((Ar x).length:Int)<=2),cond_true,A8 (by omega:¬((Ar y).length:Int)<=2)]
      .rw [A8 (by omega:¬((Ar x).length:Int)<=2),cond_false]
     simp only [l,cond_true]
     rw [this,Ap,cond_false,Abz x y hx hy c,Ap]
    .rw [<-k,Nat.gcd_comm y,<-Nat.gcd_rec,Nat.gcd_comm]
    .simp only [En]
     have:=Nat.mod_lt x (by omega:y>0)
     omega
 .rintro (e | e) g
  .simp only at g ⊢; rw [g]
  .simp only at g ⊢; rw [g]
theorem Ti:Ar 1 = [1]:=by rw [Kp (by decide),show 1 / 1000000000=0 by decide,Fb]; rfl
theorem Ab0 (n:Nat):N4 (Ar n)=some (decide (n=1)):=by
 unfold N4
 by_cases c:n=0
 .subst c; rw [Fb]; rfl
 .rw [Kp c]
  by_cases h1:n / 1000000000=0
  .rw [h1,Fb]
   have e:Au [((n % 1000000000:Nat):Int)] 0=some ((n % 1000000000:Nat):Int):=rfl
   simp only [List.length_singleton,e,Ap]
   have:(((1:Nat):Int)==(1:Int))=true:=rfl
   rw [this,cond_true]
   congr 1
   by_cases b:n=1
   .subst b; rfl
   .rw [Cg (by omega),A8 b]
  .have f:(Ar (n / 1000000000)).length≠0:=fun e=>G6 h1 (List.length_eq_zero_iff.1 e)
   rw [Cg (by simp; omega),cond_false,A8 (by omega)]
def Bp (b:Bool) (n d:Nat):A1:=if n=0 then ⟨false,[],[1]⟩ else ⟨b,Ar (n / Nat.gcd n d),Ar (d / Nat.gcd n d)⟩
theorem Q4 (b:Bool) (n d:Nat) (i:B1 n<274877906944) (hd:B1 d<274877906944):Lo ⟨b,Ar n,Ar d⟩=some (Bp b n d):=by
 unfold Lo Ux
 dsimp only
 by_cases h:n=0
 .subst h; rw [Fb]; rfl
 .have j:(Ar n).length≠0:=fun e=>G6 h (List.length_eq_zero_iff.1 e)
  rw [Cg (by omega),cond_false,Ab0,Ap,Bp,if_neg h]
  by_cases h1:d=1
  .subst h1
   rw [A4 rfl,cond_true]
   simp
  .rw [A8 h1,cond_false,Asd n d i hd,Ap,Ab0,Ap]
   by_cases g:Nat.gcd n d=1
   .rw [A4 g,cond_true,g]; simp
   .have f:Nat.gcd n d≠0:=by
     have:=Nat.gcd_pos_of_pos_left d (by omega:0<n); omega
    have c:B1 (Nat.gcd n d)<274877906944:=by
     have:=Hf (Nat.gcd_le_left d (by omega:0<n)); omega
    rw [A8 g,cond_false,Abz n _ i c f,Ap,Abz d _ hd c f,Ap]; rfl
def nv (a:A1):Nat:=if (A0 a.Num).toNat=0\/(A0 a.Den).toNat=0 then 0 else (A0 a.Num).toNat
def dv (a:A1):Nat:=if (A0 a.Num).toNat=0\/(A0 a.Den).toNat=0 then 1 else (A0 a.Den).toNat
def sv (a:A1):Bool:=if (A0 a.Num).toNat=0\/(A0 a.Den).toNat=0 then false else a.Neg
structure RB (k:Nat) (a:A1):Prop where
 num:Ju a.Num
 den:Ju a.Den
 nl:a.Num.length<=k
 dl:a.Den.length<=k
theorem Ase {l:List Int} (h:Ju l):A0 l<=5*1000000000 ^ l.length-5:=by
 induction l with
 | nil=>simp [A0]
 | cons d l ih=>
  have h1:=h d (by simp)
  have h2:=ih (fun x hx=>h x (by simp [hx]))
  simp only [A0,List.length_cons]
  rw [Int.pow_succ]
  omega
theorem Asf {l:List Int} (h:Ju l):A0 l<1000000000 ^ (l.length+1):=by
 have h1:=Ase h
 have hp:=Iq l.length
 rw [Int.pow_succ]
 omega
theorem X7 {l:List Int} (h:Ju l):B1 (A0 l).toNat<=l.length+1:=by
 apply Kq
 have h1:=Asf h
 have h2:=Fz h
 have e:((1000000000 ^ (l.length+1):Nat):Int)=1000000000 ^ (l.length+1):=by rw [Int.natCast_pow]; rfl
 omega
theorem RB.mono {j k:Nat} {a:A1} (h:RB j a) (hk:j<=k):RB k a:=⟨h.num,h.den,by have:=h.nl; omega,by have:=h.dl; omega⟩
theorem Is:B1 1=1:=by unfold B1; rw [Ti]; rfl
theorem RB.nv {k:Nat} {a:A1} (h:RB k a):B1 (nv a)<=k+1:=by
 unfold Ab.nv
 split
 .simp [Vg]
 .have:=X7 h.num; have:=h.nl; omega
theorem RB.dv {k:Nat} {a:A1} (h:RB k a):B1 (dv a)<=k+1:=by
 unfold Ab.dv
 split
 .simp [Is]
 .have:=X7 h.den; have:=h.dl; omega
theorem Hn (a:A1):dv a≠0:=by
 unfold dv; split
 .decide
 .omega
theorem Tj (a:A1) (k:Nat) (h:RB k a) (hk:k<274877906900):I8 a=some ⟨sv a,Ar (nv a),Ar (dv a)⟩:=by
 unfold I8
 have h1:=h.nl
 have h2:=h.dl
 rw [Ah2 _ h.num (by omega),Ap,Ah2 _ h.den (by omega),Ap]
 unfold nv dv sv
 generalize (A0 a.Num).toNat=x
 generalize (A0 a.Den).toNat=y
 by_cases hx:x=0
 .subst hx
  simp only [Fb,true_or,if_true,Ti]; rfl
 .have c:(Ar x).length≠0:=fun e=>G6 hx (List.length_eq_zero_iff.1 e)
  by_cases hy:y=0
  .subst hy
   simp only [Fb,or_true,if_true,Ti,Cg (by omega:((Ar x).length:Int)≠0),cond_false]; rfl
  .have b:(Ar y).length≠0:=fun e=>G6 hy (List.length_eq_zero_iff.1 e)
   simp only [hx,hy,or_self,if_false,Cg (by omega:((Ar x).length:Int)≠0),cond_false,Cg (by omega:((Ar y).length:Int)≠0),Ap]
end Go.Ab
namespace Go.Ab
open Go
theorem Asg (a:A1) (k:Nat) (h:RB k a) (hk:k<274877906900):Ln a=some (Bp (sv a) (nv a) (dv a)):=by
 unfold Ln
 have h1:=h.nv
 have h2:=h.dv
 rw [Tj a k h hk,Ap,Q4 _ _ _ (by omega) (by omega)]; rfl
def Mz (s:Bool) (n:Nat):Int:=if n=0 then 0 else if s then -1 else 1
theorem Ash (s:Bool) (n:Nat) (d:List Int):Nr ⟨s,Ar n,d⟩=some (Mz s n):=by
 unfold Nr Mz
 dsimp only
 by_cases h:n=0
 .subst h; rw [Fb]; rfl
 .have b:(Ar n).length≠0:=fun e=>G6 h (List.length_eq_zero_iff.1 e)
  rw [Cg (by omega),cond_false,if_neg h]
  cases s <;> rfl
theorem Asi (a:A1) (k:Nat) (h:RB k a) (hk:k<274877906900):Ml a=some (Mz (sv a) (nv a)):=by
 unfold Ml
 rw [Tj a k h hk,Ap,Ash]; rfl
theorem Ab1 (z:Int) (h1 : -9223372036854775808<=z) (h2:z<=9223372036854775807):Nq z=some (Ar z.natAbs):=by
 unfold Nq
 by_cases h:z<0
 .have e:Bd z=z+18446744073709551616:=by
   have:IntKind.u64.wrap z=z % 18446744073709551616:=by simp [IntKind.wrap,IntKind.bits,IntKind.signed]
   rw [Bd,this]; omega
  have b:Bd (0-(z+18446744073709551616))=((z.natAbs:Nat):Int):=by
   have:IntKind.u64.wrap (0-(z+18446744073709551616))=(0-(z+18446744073709551616)) % 18446744073709551616:=by simp [IntKind.wrap,IntKind.bits,IntKind.signed]
   rw [Bd,this]; omega
  rw [A4 h,cond_true,e,b,Ol _ (by omega)]; rfl
 .have b:Bd z=((z.natAbs:Nat):Int):=by rw [Bd,C6 (by omega) (by omega)]; omega
  rw [A8 h,cond_false,b,Ol _ (by omega)]; rfl
theorem X8 (z:Int) (h1 : -9223372036854775808<=z) (h2:z<=9223372036854775807):G5 z=some (Bp (decide (z<0)) z.natAbs 1):=by
 unfold G5
 have:=Q3 (n:=z.natAbs) (by omega)
 rw [Ab1 z h1 h2,Ap,<-Ti,Q4 _ _ _ (by omega) (by rw [Is]; decide)]; rfl
theorem Asj (x y:Int) (h1 : -9223372036854775808<=x) (h2:x<=9223372036854775807) (h3 : -9223372036854775808<=y) (b:y<=9223372036854775807) (hy:y≠0):Pw x y=some (Bp (decide (x<0) != decide (y<0)) x.natAbs y.natAbs):=by
 unfold Pw
 have a1:=Q3 (n:=x.natAbs) (by omega)
 have a2:=Q3 (n:=y.natAbs) (by omega)
 rw [Cg hy,cond_false,Ab1 x h1 h2,Ap,Ab1 y h3 b,Ap,Q4 _ _ _ (by omega) (by omega)]; rfl
theorem Aia (a b:A1) (j k:Nat) (ha:RB j a) (hb:RB k b) (hj:j<68719476736) (hk:k<68719476736):Ll a b=some (Bp (sv a != sv b) (nv a*nv b) (dv a*dv b)):=by
 unfold Ll
 have h1:=ha.nv
 have h2:=ha.dv
 have h3:=hb.nv
 have g:=hb.dv
 have f:=Gt (nv a) (nv b)
 have c:=Gt (dv a) (dv b)
 rw [Tj a j ha (by omega),Ap,Tj b k hb (by omega),Ap]
 dsimp only
 rw [Vj _ _ (by omega) (by omega),Ap,Vj _ _ (by omega) (by omega),Ap,Q4 _ _ _ (by omega) (by omega)]; rfl
def Ks (s1:Bool) (c g:Nat) (s2:Bool) (b f:Nat):Bool:=if s1=s2 then s1 else if b*g<=c*f then s1 else s2
def Ho (s1:Bool) (c g:Nat) (s2:Bool) (b f:Nat):Nat:=if s1=s2 then c*f+b*g else if b*g<=c*f then c*f-b*g else b*g-c*f
theorem Ask (a b:A1) (j k:Nat) (ha:RB j a) (hb:RB k b) (hj:j<68719476736) (hk:k<68719476736) :
  Lm a b=some (Bp (Ks (sv a) (nv a) (dv a) (sv b) (nv b) (dv b)) (Ho (sv a) (nv a) (dv a) (sv b) (nv b) (dv b)) (dv a*dv b)):=by
 unfold Lm Us
 have h1:=ha.nv
 have h2:=ha.dv
 have h3:=hb.nv
 have s:=hb.dv
 have q:=Gt (nv a) (dv b)
 have l:=Gt (nv b) (dv a)
 have i:=Gt (dv a) (dv b)
 have h:=Abt (nv a*dv b) (nv b*dv a)
 have g:=Hf (Nat.sub_le (nv a*dv b) (nv b*dv a))
 have f:=Hf (Nat.sub_le (nv b*dv a) (nv a*dv b))
 rw [Tj a j ha (by omega),Ap,Tj b k hb (by omega),Ap]
 dsimp only
 rw [Vj _ _ (by omega) (by omega),Ap,Vj _ _ (by omega) (by omega),Ap,Vj _ _ (by omega) (by omega),Ap]
 by_cases c:sv a=sv b
 .have e:(sv a==sv b)=true:=by rw [c]; exact beq_self_eq_true _
  rw [e,cond_true,Ar5 _ _ (by omega) (by omega),Ap,Ap,Q4 _ _ _ (by omega) (by omega),Ks,Ho,if_pos c,if_pos c]; rfl
 .have e:(sv a==sv b)=false:=by simpa using c
  rw [e,cond_false,Th _ _ (by omega) (by omega),Ap,Ks,Ho,if_neg c,if_neg c]
  by_cases hc:nv b*dv a<=nv a*dv b
  .rw [A4 (show Ev (nv a*dv b) (nv b*dv a)>=0 by rw [Ev,if_neg (by omega)]; split <;> decide),cond_true,Ah4 _ _ (by omega) hc,Ap,Ap,Q4 _ _ _ (by omega) (by omega),if_pos hc,if_pos hc]; rfl
  .rw [A8 (show ¬Ev (nv a*dv b) (nv b*dv a)>=0 by rw [Ev,if_pos (by omega)]; decide),cond_false,Ah4 _ _ (by omega) (by omega),Ap,Ap,Q4 _ _ _ (by omega) (by omega),if_neg hc,if_neg hc]; rfl
theorem Vk (s:Bool) (d:Nat):Bp s 0 d=⟨false,[],[1]⟩:=by simp [Bp]
theorem Ib (s:Bool) (n d k:Nat) (b:B1 n<=k) (hd:B1 d<=k) (hk:1<=k):RB k (Bp s n d):=by
 unfold Bp
 split
 .refine ⟨(fun _ h=>by cases h),(fun x h=>?_),by simp,by simpa using hk⟩
  simp at h; subst h; decide
 .have h1:=Abu n (Nat.gcd n d)
  have h2:=Abu d (Nat.gcd n d)
  unfold B1 at *
  exact ⟨(Eb _).u32,(Eb _).u32,by simp only; omega,by simp only; omega⟩
theorem Tk (s:Bool) (n d:Nat) (hd:d≠0):nv (Bp s n d)=n / Nat.gcd n d/\dv (Bp s n d)=d / Nat.gcd n d/\(n≠0->sv (Bp s n d)=s)/\(n=0->sv (Bp s n d)=false):=by
 by_cases f:n=0
 .subst f
  rw [Vk]
  have c:d / Nat.gcd 0 d=1:=by rw [Nat.gcd_zero_left]; exact Nat.div_self (by omega)
  refine ⟨by simp [nv,A0],?_,fun h=>(h rfl).elim,fun _=>by simp [sv,A0]⟩
  rw [c]; simp [dv,A0]
 .have g:0<Nat.gcd n d:=Nat.gcd_pos_of_pos_left d (by omega)
  have h1:n / Nat.gcd n d≠0:=by
   have:=Nat.div_pos (Nat.gcd_le_left d (by omega:0<n)) g; omega
  have h2:d / Nat.gcd n d≠0:=by
   have:=Nat.div_pos (Nat.gcd_le_right n (by omega:0<d)) g; omega
  have e:Bp s n d=⟨s,Ar (n / Nat.gcd n d),Ar (d / Nat.gcd n d)⟩:=by simp [Bp,f]
  have b:(A0 (Ar (n / Nat.gcd n d))).toNat=n / Nat.gcd n d:=by rw [En]; rfl
  have v2:(A0 (Ar (d / Nat.gcd n d))).toNat=d / Nat.gcd n d:=by rw [En]; rfl
  rw [e]
  have hc:¬(n / Nat.gcd n d=0\/d / Nat.gcd n d=0):=by omega
  refine ⟨?_,?_,fun _=>?_,fun h=>(f h).elim⟩
  .simp only [nv,b,v2,if_neg hc]
  .simp only [dv,b,v2,if_neg hc]
  .simp only [sv,b,v2,if_neg hc]
theorem Vl (s:Bool) (n d k:Nat) (hk:k≠0):Bp s (k*n) (k*d)=Bp s n d:=by
 unfold Bp
 by_cases h:n=0
 .subst h; simp
 .have h1:k*n≠0:=Nat.mul_ne_zero hk h
  rw [if_neg h1,if_neg h,Nat.gcd_mul_left,Nat.mul_div_mul_left _ _ (by omega),Nat.mul_div_mul_left _ _ (by omega)]
theorem Ab2 {s t:Bool} {n d:Nat} (h:n≠0->s=t):Bp s n d=Bp t n d:=by
 unfold Bp
 by_cases b:n=0
 .simp [b]
 .rw [h b]
end Go.Ab
namespace Go.Ab
open Go
theorem Aib (l:List Int):H8 l=(H7 l).bind fun v=>Cr 4 [] v:=by
 unfold H8 H7
 generalize Bc _ _=x
 cases x with
 | none=>rfl
 | some v=>
  simp only [Ap]
  cases Gw l 0 v with
  | none=>rfl
  | some y=>
   simp only [Ap]
   cases Cr 4 [] y <;> rfl
theorem Asl (l:List Int):(Gc l).length<=l.length:=by
 induction l with
 | nil=>simp [Gc]
 | cons d l ih=>
  simp only [Gc]
  cases b:Gc l with
  | nil=>simp only []; split <;> simp
  | cons x m=>rw [b] at ih; simpa using ih
theorem Q5 (l:List Int) (b:l.length<2199023255552):H8 l=some (Gc l):=by
 have:=Asl l
 rw [Aib,Ok l (by omega),Ap,Dw (by simp; omega)]; rfl
theorem Aic (l:List Int) (hd:Ju l) (B:l.length<1099511627776):Px l=some (Ar (A0 l).toNat):=by
 unfold Px
 refine Gm (fun (c,i,o)=>∃k:Nat,i=k/\k<=l.length/\o.length=k/\Cb o/\0<=c/\c<5/\A0 o+1000000000 ^ k*c=A0 (l.take k))
  (fun (_,i,_)=>l.length-i.toNat) (fun (c,o)=>o.length=l.length/\Cb o/\0<=c/\c<5/\A0 o+1000000000 ^ l.length*c=A0 l)
  ⟨0,rfl,by omega,rfl,Cb.nil,by omega,by omega,by simp [A0]⟩ ?_ ?_
 .rintro ⟨c,i,o⟩ ⟨k,rfl,hk,f,b,j,hc,s⟩
  rcases Nat.lt_or_ge k l.length with h | h
  .have hx:=hd l[k] (List.getElem_mem h)
   refine .inl ⟨((c+l[k]) / 1000000000,((k+1:Nat):Int),o++[(c+l[k]) % 1000000000]),?_,⟨k+1,rfl,by omega,by simp [f],b.snoc (by omega) (by omega),by omega,by omega,?_⟩,by simp; omega⟩
   .have z:Bd l[k]=l[k]:=C6 (by omega) (by omega)
    have y:Bd (c+l[k])=c+l[k]:=C6 (by omega) (by omega)
    have q:Bt ((c+l[k]) % 1000000000)=(c+l[k]) % 1000000000:=E4 (by omega) (by omega)
    have x:=Ir h (by omega)
    have u:decide ((k:Int)<(l.length:Int))=true:=by simpa using h
    simp only [u,cond_true,Df rfl h,Ap,z,y,Im (show 0<=c+l[k] by omega) (show (0:Int)<1000000000 by decide),q,Dw (show (o.length+[(c+l[k]) % 1000000000].length)*4<=_ by simp; omega),Je (show 0<=c+l[k] by omega) (show c+l[k]<=_ by omega) (show (0:Int)<1000000000 by decide),x]
   .rw [E5 l h,<-s,Ip,f,Int.pow_succ]
    have:=Int.mul_ediv_add_emod (c+l[k]) 1000000000
    grind
  .have g:k=l.length:=by omega
   subst g
   refine .inr ⟨(c,o),by simp,f,b,j,hc,by simpa using s⟩
 .rintro ⟨c,o⟩ ⟨h2,h3,G,E,D⟩
  have A:=Fz hd
  by_cases hc:c>0
  .have q:Bt c=c:=E4 (by omega) (by omega)
   simp only [decide_eq_true hc,cond_true,q,Dw (show (o.length+[c].length)*4<=_ by simp; omega),Ap,Q5 (o++[c]) (by simp; omega)]
   rw [Jf (h3.snoc (by omega) (by omega)) (n:=(A0 l).toNat) (by rw [Ip,h2]; omega)]
  .have:c=0:=by omega
   subst this
   simp only [Int.lt_irrefl,gt_iff_lt,decide_false,cond_false,Q5 o (by omega),Ap]
   rw [Jf h3 (n:=(A0 l).toNat) (by omega)]
theorem X9 (n:Int):Jn n=Lw n:=rfl
theorem Ya (a b:List Int):Mn a b=Mp a b:=rfl
theorem Asm (m d:Nat) (f:B1 m<1099511627776) (hd:0<d) (b:d<4294967296):Sp (Ar m) d=some (Ar (m / d),((m % d:Nat):Int)):=by
 have h:=Abx m d f hd b
 unfold N7 at h
 unfold Sp
 unfold B1 at f
 rw [Ko rfl rfl (Nat.le_refl _) (by omega) (by omega)] at h ⊢
 simp only [Ap] at h ⊢
 revert h
 generalize Bc _ _=x
 cases x with
 | none=>intro h; cases h
 | some v=>
  obtain ⟨r,o⟩:=v
  simp only [Ap]
  intro h
  rw [Aib]
  cases c:H7 o with
  | none=>rw [c] at h; cases h
  | some y=>
   rw [c] at h
   simp only [Ap] at h ⊢
   have hy:y=Ar (m / d):=congrArg Prod.fst (Option.some.inj h)
   have:=Abu m d
   unfold B1 at this
   rw [Dw (by rw [hy]; simp; omega)]
   exact h
theorem Yb (m n:Nat) (X:B1 m<1099511627776) (G:n<=m):Mo (Ar m) (Ar n)=some (Ar (m-n)):=by
 unfold Mo
 have J:(Ar n).length<=(Ar m).length:=Hf G
 unfold B1 at X
 rw [Ko rfl rfl (Nat.le_refl _) (by omega) (by omega)]
 simp only [Ap]
 have ha:=Eb m
 have hb:=Eb n
 refine Gm (fun (c,i,o)=>∃k:Nat,i=k/\k<=(Ar m).length/\o.length=(Ar m).length/\Cb o/\o.drop k=List.replicate ((Ar m).length-k) 0/\0<=c/\c<=1/\A0 o=A0 ((Ar m).take k)-A0 ((Ar n).take k)+1000000000 ^ k*c)
  (fun (_,i,_)=>(Ar m).length-i.toNat) (fun o=>∃c:Int,o.length=(Ar m).length/\Cb o/\0<=c/\c<=1/\A0 o=(m:Int)-n+1000000000 ^ (Ar m).length*c)
  ⟨0,rfl,by omega,by simp,Cb.replicate _,by simp,by omega,by omega,by simp [A0,X0]⟩ ?_ ?_
 .rintro ⟨c,i,o⟩ ⟨k,rfl,hk,E,u,y,M,hc,z⟩
  rcases Nat.lt_or_ge k (Ar m).length with h | h
  .have hx:=ha.get h
   have f:k<o.length:=by omega
   have S:=Ir h (by omega)
   have R:decide ((k:Int)<((Ar m).length:Int))=true:=A4 (by omega)
   have b:o[k]=0:=by
    have:=congrArg List.head? y
    rw [List.head?_drop,Cv f] at this
    have x:(List.replicate ((Ar m).length-k) (0:Int)).head? = some 0:=by
     cases Y:(Ar m).length-k with
     | zero=>omega
     | succ t=>rfl
    rw [x] at this
    exact Option.some.inj this
   have key:∀s:Int,0<=s->s<=1000000000->A0 ((Ar m).take (k+1))-A0 ((Ar n).take (k+1))=A0 ((Ar m).take k)-A0 ((Ar n).take k)+1000000000 ^ k*((Ar m)[k]-s+c) ->
     ∃(l d:Int),(bif (decide ((Ar m)[k]>=s)) then (some (Sum.inl (0,((k+1:Nat):Int),(Dy o (k:Int) (Bt ((Ar m)[k]-s)))))) else (some (Sum.inl (1,((k+1:Nat):Int),(Dy o (k:Int) (Bt ((Bt ((Ar m)[k]+1000000000))-s)))))):Option ((Int×Int×List Int)⊕List Int))=some (.inl (l,((k+1:Nat):Int),o.set k d)) /\
      (∃q:Nat,((k+1:Nat):Int)=q/\q<=(Ar m).length/\(o.set k d).length=(Ar m).length/\Cb (o.set k d)/\(o.set k d).drop q=List.replicate ((Ar m).length-q) 0/\0<=l/\l<=1/\A0 (o.set k d)=A0 ((Ar m).take q)-A0 ((Ar n).take q)+1000000000 ^ q*l):=by
    intro s h1 h2 g
    have j:∀d:Int,(o.set k d).drop (k+1)=List.replicate ((Ar m).length-(k+1)) 0:=by
     intro d
     rw [List.drop_set_of_lt (by omega),<-List.drop_drop,y,List.drop_replicate]; congr 1
    by_cases N:(Ar m)[k]>=s
    .have A:Bt ((Ar m)[k]-s)=(Ar m)[k]-s:=E4 (by omega) (by omega)
     refine ⟨0,(Ar m)[k]-s,by rw [A4 N,cond_true,A,Hm rfl],k+1,rfl,by omega,by simpa using E,u.set _ (by omega) (by omega),j _,by omega,by omega,?_⟩
     rw [Jv _ f,b,g,z]; grind
    .have A:Bt ((Ar m)[k]+1000000000)=(Ar m)[k]+1000000000:=E4 (by omega) (by omega)
     have V:Bt ((Ar m)[k]+1000000000-s)=(Ar m)[k]+1000000000-s:=E4 (by omega) (by omega)
     refine ⟨1,(Ar m)[k]+1000000000-s,by rw [A8 N,cond_false,A,V,Hm rfl],k+1,rfl,by omega,by simpa using E,u.set _ (by omega) (by omega),j _,by omega,by omega,?_⟩
     rw [Jv _ f,b,g,z,Int.pow_succ]; grind
   refine .inl ?_
   rcases Nat.lt_or_ge k (Ar n).length with hb' | hb'
   .have hy:=hb.get hb'
    have U:Bt (c+(Ar n)[k])=c+(Ar n)[k]:=E4 (by omega) (by omega)
    obtain ⟨l,d,D,B⟩:=key (c+(Ar n)[k]) (by omega) (by omega) (by rw [E5 _ h,E5 _ hb']; grind)
    refine ⟨(l,((k+1:Nat):Int),o.set k d),?_,B,by simp; omega⟩
    rw [<-D]
    simp only [R,cond_true,Df rfl h,Df rfl f,Ap,A4 (by omega:(k:Int)<((Ar n).length:Int)),Df rfl hb',U,S]
   .obtain ⟨l,d,D,B⟩:=key c (by omega) (by omega) (by rw [E5 _ h,Ia (Ar n) hb',Ia (Ar n) (by omega)]; grind)
    refine ⟨(l,((k+1:Nat):Int),o.set k d),?_,B,by simp; omega⟩
    rw [<-D]
    simp only [R,cond_true,Df rfl h,Df rfl f,Ap,A8 (by omega:¬(k:Int)<((Ar n).length:Int)),cond_false,S]
  .have L:k=(Ar m).length:=by omega
   subst L
   refine .inr ⟨o,by simp,c,E,u,M,hc,?_⟩
   rw [List.take_length,Ia _ J,En,En] at z
   exact z
 .rintro o ⟨c,h2,h3,h4,h5,h6⟩
  have I:=H9 h3
  rw [h2] at I
  have hp:=Iq (Ar m).length
  have:c=0:=by
   rcases Int.lt_or_le 0 c with hc | hc
   .have:c=1:=by omega
    subst this
    omega
   .omega
  subst this
  rw [Q5 o (by omega),Ap,Jf h3 (n:=m-n) (by omega)]
end Go.Ab
namespace Go.Ab
open Go
theorem Asn {o:List Int} {k n:Nat} (hk:k<o.length) (h:o.drop k=List.replicate n 0):o[k]=0:=by
 have:=congrArg List.head? h
 rw [List.head?_drop,Cv hk] at this
 cases n with
 | zero=>simp at this
 | succ t=>exact Option.some.inj this
theorem cl1 {o X K c s x y A w:Int} (g:c+x+w=s) (f:w=y*A) (b:1000000000*(s / 1000000000)+s % 1000000000=s) (z V:Int) (h:o+X*K*c=z+X*(y*V)):o+X*K*(s % 1000000000-x)+X*K*1000000000*(s / 1000000000)=z+X*(y*(V+K*A)):=by grind
set_option maxHeartbeats 1000000 in
theorem On (m n:Nat) (hm:B1 m<274877906944) (hn:B1 n<274877906944):H6 (Ar m) (Ar n)=some (Ar (m*n)):=by
  unfold H6
  unfold B1 at hm hn
  have hw:Al (((Ar m).length:Int)+((Ar n).length:Int))=(((Ar m).length+(Ar n).length:Nat):Int):=by rw [Al,Cl] <;> omega
  have M:Al ((((Ar m).length+(Ar n).length:Nat):Int)+1)=(((Ar m).length+(Ar n).length+1:Nat):Int):=by rw [Al,Cl] <;> omega
  rw [hw,M,Ko rfl rfl (Nat.le_refl _) (by omega) (by omega)]
  simp only [Ap]
  have ha:=Eb m
  have hb:=Eb n
  have D:A0 (Ar n)=n:=En n
  generalize Ar n=b at *
  generalize hL:b.length=L at *
  refine Gm (fun (i,o)=>∃k:Nat,i=k/\k<=(Ar m).length/\o.length=(Ar m).length+L+1/\Cb o/\o.drop (k+L)=List.replicate ((Ar m).length+1-k) 0/\A0 o=A0 ((Ar m).take k)*n)
    (fun (i,_)=>(Ar m).length-i.toNat) (fun o=>o.length=(Ar m).length+L+1/\Cb o/\A0 o=((m*n:Nat):Int))
    ⟨0,rfl,by omega,by simp,Cb.replicate _,by rw [List.drop_replicate]; congr 1; omega,by simp [X0,A0]⟩ ?_ ?_
  . rintro ⟨i,o⟩ ⟨k,rfl,hk,ho,G,U,N⟩
    rcases Nat.lt_or_ge k (Ar m).length with h | h
    . have hx:=ha.get h
      have e4:=Ir h (by omega)
      have e5:decide ((k:Int)<((Ar m).length:Int))=true:=A4 (by omega)
      simp only [e5,cond_true]
      have X:Au (Ar m) (k:Int)=some (Ar m)[k]:=Df rfl h
      generalize J:(Ar m)[k]=x at *
      refine .inl (Xz (E3 (fun (c,j,o')=>∃q:Nat,j=q/\o'.length=(Ar m).length+L+1/\Cb o'/\0<=c/\c<1000000000 /\
          ((q<=L/\o'.drop (k+L)=List.replicate ((Ar m).length+1-k) 0/\A0 o' + 1000000000 ^ (k+q)*c=A0 o+1000000000 ^ k*(x*A0 (b.take q))) \/
           (q=L+1/\c=0/\o'.drop (k+1+L)=List.replicate ((Ar m).length+1-(k+1)) 0/\A0 o'=A0 o+1000000000 ^ k*(x*n))))
        (fun (_,j,_)=>L+1-j.toNat) (fun (c,j,o')=>o'.length=(Ar m).length+L+1/\Cb o'/\o'.drop (k+1+L)=List.replicate ((Ar m).length+1-(k+1)) 0/\A0 o'=A0 o+1000000000 ^ k*(x*n))
        ⟨0,rfl,ho,G,by omega,by omega,.inl ⟨by omega,U,by simp [A0]⟩⟩ ?_ ?_))
      . rintro ⟨c,j,o'⟩ ⟨q,rfl,u,g,A,hc,hq⟩
        rcases hq with ⟨hq,f,l⟩ | ⟨rfl,rfl,f,l⟩
        . have e8:Al ((k:Int)+(q:Int))=((k+q:Nat):Int):=by rw [Al,Cl] <;> omega
          have e6:Al ((q:Int)+1)=((q+1:Nat):Int):=Ir (Nat.lt_succ_self q) (by omega)
          have y:k+q<o'.length:=by omega
          have a1:=g.get y
          have w4:Bd o'[k+q]=o'[k+q]:=C6 (by omega) (by omega)
          have w5:Bd (c+o'[k+q])=c+o'[k+q]:=C6 (by omega) (by omega)
          have p1:(1000000000:Int) ^ (k+(q+1))=1000000000 ^ (k+q)*1000000000:=by rw [<-Nat.add_assoc,Int.pow_succ]
          have p2:(1000000000:Int) ^ (k+q)=1000000000 ^ k*1000000000 ^ q:=Int.pow_add ..
          rcases Nat.lt_or_ge q L with hq' | hq'
          . have B:q<b.length:=by omega
            have hy:=hb.get B
            have a6:=X5 hx.1 hx.2 hy.1 hy.2
            have w1:Bd x=x:=C6 (by omega) (by omega)
            have w2:Bd b[q]=b[q]:=C6 (by omega) (by omega)
            have w3:Bd (x*b[q])=x*b[q]:=C6 (by omega) (by omega)
            have Y:Bd (c+o'[k+q]+x*b[q])=c+o'[k+q]+x*b[q]:=C6 (by omega) (by omega)
            generalize hs:c+o'[k+q]+x*b[q]=s at Y
            have E:0<=s:=by omega
            have a7:s<1000000000000000000:=by omega
            have w7:Bt (s % 1000000000)=s % 1000000000:=E4 (by omega) (by omega)
            refine .inl ⟨(s / 1000000000,((q+1:Nat):Int),o'.set (k+q) (s % 1000000000)),?_,⟨q+1,rfl,by simpa using u,g.set _ (by omega) (by omega),by omega,by omega,.inl ⟨by omega,?_,?_⟩⟩,by simp; omega⟩
            . simp only [A4 (by omega:(q:Int)<(L:Int)),cond_true,Ap,e8,Df rfl y,X,Df rfl B,w1,w2,w3,w4,w5,hs,Y,Im E (show (0:Int)<1000000000 by decide),Je E (show s<=_ by omega) (show (0:Int)<1000000000 by decide),w7,e6,Hm rfl]
            . rw [List.drop_set_of_lt (by omega)]; exact f
            . rw [Jv _ y,E5 _ B,p1,p2]
              rw [p2] at l
              exact cl1 hs rfl (Int.mul_ediv_add_emod s 1000000000) _ _ l
          . have R:q=L:=by omega
            subst R
            by_cases V:c>0
            . have z:o'[k+q]=0:=Asn y f
              refine .inl ⟨(0,((q+1:Nat):Int),o'.set (k+q) c),?_,⟨q+1,rfl,by simpa using u,g.set _ (by omega) (by omega),by omega,by omega,.inr ⟨rfl,rfl,?_,?_⟩⟩,by simp⟩
              . have w8:Bt c=c:=E4 (by omega) (by omega)
                have w9:Bd c=c:=C6 (by omega) (by omega)
                simp only [A8 (by omega:¬(q:Int)<(q:Int)),cond_false,A4 V,cond_true,Ap,e8,Df rfl y,z,show Bd (0:Int)=0 from rfl,Int.add_zero,w9,Im A (show (0:Int)<1000000000 by decide),Je A (show c<=_ by omega) (show (0:Int)<1000000000 by decide),Int.emod_eq_of_lt A hc,Int.ediv_eq_zero_of_lt A hc,w8,e6,Hm rfl]
              . rw [List.drop_set_of_lt (by omega),show k+1+q=(k+q)+1 by omega,<-List.drop_drop,f,List.drop_replicate]; congr 1
              . rw [Jv _ y,z,Int.sub_zero]
                rw [List.take_of_length_le (by omega),D] at l
                omega
            . have I:c=0:=by omega
              subst I
              refine .inr ⟨(0,(q:Int),o'),?_,u,g,?_,?_⟩
              . simp only [A8 (by omega:¬(q:Int)<(q:Int)),cond_false,Ap,show decide ((0:Int)>0)=false from rfl]
              . rw [show k+1+q=(k+q)+1 by omega,<-List.drop_drop,f,List.drop_replicate]; congr 1
              . rw [List.take_of_length_le (by omega),D] at l
                omega
        . refine .inr ⟨(0,((L+1:Nat):Int),o'),?_,u,g,f,l⟩
          simp only [A8 (by omega:¬((L+1:Nat):Int)<(L:Int)),cond_false,Ap,show decide ((0:Int)>0)=false from rfl]
      . rintro ⟨c,j,o'⟩ ⟨u,g,f,l⟩
        refine ⟨_,by simp only [e4],(((k+1:Nat):Int),o'),rfl,⟨k+1,rfl,by omega,u,g,f,?_⟩,by simp; omega⟩
        rw [l,E5 _ h,Int.add_mul,<-N,J]; grind
    . have S:k=(Ar m).length:=by omega
      subst S
      refine .inr ⟨o,by simp,ho,G,?_⟩
      rw [List.take_length,En] at N
      rw [N]; simp
  . rintro o ⟨h2,h3,h4⟩
    rw [Q5 o (by omega),Ap,Jf h3 h4]
theorem Aso (m n:Nat) (V:B1 m<274877906944) (U:B1 n<274877906944):Sd (Ar m) (Ar n)=some (Ar (m+n)):=by
 unfold Sd
 unfold B1 at V U
 have ha:=Eb m
 have hb:=Eb n
 have I:A0 (Ar m)=m:=En m
 have G:A0 (Ar n)=n:=En n
 have L:=X4 (n:=m)
 have J:=X4 (n:=n)
 generalize Ar m=a at *
 generalize Ar n=b at *
 generalize hM:max a.length b.length=M
 refine Gm (fun (c,i,o)=>∃k:Nat,i=k/\o.length=k/\Cb o/\0<=c/\c<=1/\((k<=M/\A0 o+1000000000 ^ k*c=A0 (a.take k)+A0 (b.take k))\/(k=M+1/\c=0/\A0 o=m+n/\1000000000 ^ M<=A0 o)))
  (fun (_,i,_)=>M+1-i.toNat) (fun o=>Cb o/\A0 o=m+n/\(o≠[]->1000000000 ^ (o.length-1)<=A0 o))
  ⟨0,rfl,rfl,Cb.nil,by omega,by omega,.inl ⟨by omega,by simp [A0]⟩⟩ ?_ ?_
 .rintro ⟨c,i,o⟩ ⟨k,rfl,l,h,Y,hc,hk⟩
  rcases hk with ⟨hk,x⟩ | ⟨rfl,rfl,x,hp⟩
  .have e4:Al ((k:Int)+1)=((k+1:Nat):Int):=Ir (Nat.lt_succ_self k) (by omega)
   have step:∀s:Int,0<=s->s<2000000000 ->
     ((Fi .u32 s 1000000000).bind fun D=>(F4 s 1000000000).bind fun B=>(Cr 4 o [B]).bind fun E=>some (Sum.inl (D,(Al ((k:Int)+1)),E)))=some (Sum.inl (s / 1000000000,((k+1:Nat):Int),o++[s % 1000000000]):(Int×Int×List Int)⊕List Int):=by
    intro s h1 h2
    rw [Abr h1 (by omega) (by decide),Ap,Im h1 (by decide),Ap,Dw (by simp; omega),Ap,e4]
   have g:∀s:Int,0<=s->s<2000000000->k<M->A0 (a.take (k+1))+A0 (b.take (k+1))=A0 (a.take k)+A0 (b.take k)+1000000000 ^ k*(s-c) ->
     (∃q:Nat,((k+1:Nat):Int)=q/\(o++[s % 1000000000]).length=q/\Cb (o++[s % 1000000000])/\0<=s / 1000000000/\s / 1000000000<=1/\((q<=M/\A0 (o++[s % 1000000000])+1000000000 ^ q*(s / 1000000000)=A0 (a.take q)+A0 (b.take q))\/(q=M+1/\s / 1000000000=0/\A0 (o++[s % 1000000000])=m+n/\1000000000 ^ M<=A0 (o++[s % 1000000000])))):=by
    intro s h1 h2 y u
    refine ⟨k+1,rfl,by simp [l],h.snoc (by omega) (by omega),by omega,by omega,.inl ⟨by omega,?_⟩⟩
    rw [u,<-x,Ip,l,Int.pow_succ]
    have:=Int.mul_ediv_add_emod s 1000000000
    grind
   by_cases j:k<a.length
   .have hx:=ha.get j
    have S:Bt (c+a[k])=c+a[k]:=E4 (by omega) (by omega)
    by_cases f:k<b.length
    .have hy:=hb.get f
     have A:Bt (c+a[k]+b[k])=c+a[k]+b[k]:=E4 (by omega) (by omega)
     refine .inl ⟨((c+a[k]+b[k]) / 1000000000,((k+1:Nat):Int),o++[(c+a[k]+b[k]) % 1000000000]),?_,g (c+a[k]+b[k]) (by omega) (by omega) (by omega) (by rw [E5 a j,E5 b f]; grind),by simp; omega⟩
     rw [<-step (c+a[k]+b[k]) (by omega) (by omega)]
     simp only [A4 (by omega:(k:Int)<(a.length:Int)),A4 (by omega:(k:Int)<(b.length:Int)),cond_true,Ap,Df rfl j,Df rfl f,S,A]
    .refine .inl ⟨((c+a[k]) / 1000000000,((k+1:Nat):Int),o++[(c+a[k]) % 1000000000]),?_,g (c+a[k]) (by omega) (by omega) (by omega) (by rw [E5 a j,Ia b (by omega),Ia b (by omega)]; grind),by simp; omega⟩
     rw [<-step (c+a[k]) (by omega) (by omega)]
     simp only [A4 (by omega:(k:Int)<(a.length:Int)),A8 (by omega:¬(k:Int)<(b.length:Int)),cond_true,cond_false,Ap,Df rfl j,S]
   .by_cases f:k<b.length
    .have hy:=hb.get f
     have A:Bt (c+b[k])=c+b[k]:=E4 (by omega) (by omega)
     refine .inl ⟨((c+b[k]) / 1000000000,((k+1:Nat):Int),o++[(c+b[k]) % 1000000000]),?_,g (c+b[k]) (by omega) (by omega) (by omega) (by rw [E5 b f,Ia a (by omega),Ia a (by omega)]; grind),by simp; omega⟩
     rw [<-step (c+b[k]) (by omega) (by omega)]
     simp only [A8 (by omega:¬(k:Int)<(a.length:Int)),A4 (by omega:(k:Int)<(b.length:Int)),cond_true,cond_false,Ap,Df rfl f,A]
    .have y:k=M:=by omega
     subst y
     rw [Ia a (by omega),Ia b (by omega),I,G] at x
     by_cases a1:c>0
     .have R:c=1:=by omega
      subst R
      refine .inl ⟨((1:Int) / 1000000000,((k+1:Nat):Int),o++[(1:Int) % 1000000000]),?_,⟨k+1,rfl,by simp [l],h.snoc (by decide) (by decide),by decide,by decide,.inr ⟨rfl,rfl,?_,?_⟩⟩,by simp⟩
      .rw [<-step 1 (by omega) (by omega)]
       simp only [A8 (by omega:¬(k:Int)<(a.length:Int)),A8 (by omega:¬(k:Int)<(b.length:Int)),cond_false,Ap,show decide ((1:Int)>0)=true from rfl,cond_true]
      .rw [Ip,l]; exact x
      .rw [Ip,l,show (1:Int) % 1000000000=1 from rfl]
       have:=Fz h.u32
       omega
     .have z:c=0:=by omega
      subst z
      refine .inr ⟨o,?_,h,by omega,fun N=>?_⟩
      .simp only [A8 (by omega:¬(k:Int)<(a.length:Int)),A8 (by omega:¬(k:Int)<(b.length:Int)),cond_false,Ap,show decide ((0:Int)>0)=false from rfl]
      .have X:k≠0:=by
        intro e; rw [e] at l; exact N (List.length_eq_zero_iff.1 l)
       rcases Nat.le_total a.length b.length with hab | hab
       .have:k=b.length:=by omega
        have h1:=J (by intro e; rw [e] at this; simp at this; omega)
        rw [l,this]; omega
       .have:k=a.length:=by omega
        have h1:=L (by intro e; rw [e] at this; simp at this; omega)
        rw [l,this]; omega
  .refine .inr ⟨o,?_,h,x,fun _=>by rw [l]; simpa using hp⟩
   simp only [A8 (by omega:¬((M+1:Nat):Int)<(a.length:Int)),A8 (by omega:¬((M+1:Nat):Int)<(b.length:Int)),cond_false,Ap,show decide ((0:Int)>0)=false from rfl]
 .rintro o ⟨h1,h2,h3⟩
  congr 1
  exact X2 (Abw h1 h3) (by rw [h2]; simp)
end Go.Ab
