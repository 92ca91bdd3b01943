/- Plain laws: what the plain functions answer. -/
import Derived.Test.YtidkdnlhdbbbjaaGreatDoorAzDef
namespace Go.Ab
open Go
theorem Ae {α β:Type} (a:α) (f:α->Option β):(some a).bind f=f a:=rfl
theorem Ck {α:Type} {l:List α} {i:Nat} (h:i<l.length):l[i]? = some l[i]:=List.getElem?_eq_getElem h
theorem Cx {α:Type} {l:List α} {i:Nat} {a:α} (h:l[i]? = some a):a∈l:=List.mem_of_getElem? h
theorem Dq (a b:Bool):((a&&b)=true)=(a=true/\b=true):=Bool.and_eq_true a b
theorem bnt:(!true)=false:=rfl
theorem Gp {S E R:Type} {step:S->Option (S⊕E)} {s:S} {J:E->Option R} {r:R} (c:S->Prop) (m:S->Nat) (b:E->Prop) (h0:c s)
  (f:∀s,c s->(∃s',step s=some (.inl s')/\c s'/\m s' < m s)\/(∃e,step s=some (.inr e)/\b e)) (g:∀e,b e->J e=some r):(Ak step s).bind J=some r:=by
 obtain ⟨e,h1,h2⟩:=Lc c m b f s h0
 rw [h1]; exact g e h2
theorem Ew {S E R:Type} {step:S->Option (S⊕E)} {s:S} {J:E->Option R} {Q:R->Prop} (c:S->Prop) (m:S->Nat) (b:E->Prop) (h0:c s)
  (f:∀s,c s->(∃s',step s=some (.inl s')/\c s'/\m s' < m s)\/(∃e,step s=some (.inr e)/\b e)) (g:∀e,b e->∃r,J e=some r/\Q r):∃r,(Ak step s).bind J=some r/\Q r:=by
 obtain ⟨e,h1,h2⟩:=Lc c m b f s h0
 rw [h1]; exact g e h2
theorem Xn {S E:Type} {X:Option (S⊕E)} {Q:S->Prop} (h:∃r,X=some r/\∃s',r = .inl s'/\Q s'):∃s',X=some (.inl s')/\Q s':=by
 obtain ⟨r,h1,s',rfl,h2⟩:=h
 exact ⟨s',h1,h2⟩
theorem Aq8 {S E:Type} {X:Option (S⊕E)} {Q:E->Prop} (h:∃r,X=some r/\∃e,r = .inr e/\Q e):∃e,X=some (.inr e)/\Q e:=by
 obtain ⟨r,h1,s',rfl,h2⟩:=h
 exact ⟨s',h1,h2⟩
theorem Xo {A R:Type} {X:Option R} (f:A->R) {Q:A->Prop} (h:∃r,X=some r/\∃a,r=f a/\Q a):∃a,X=some (f a)/\Q a:=by
 obtain ⟨r,h1,a,rfl,h2⟩:=h
 exact ⟨a,h1,h2⟩
theorem Aq9 {α β:Type} {c:Prop} [Decidable c] (a b:Option α) (f:α->Option β):(if c then a else b).bind f=if c then a.bind f else b.bind f:=by split <;> rfl
theorem Bo {n:Int} (h1 : -9223372036854775808<=n) (h2:n<=9223372036854775807):IntKind.i64.wrap n=n:=by
 have e:IntKind.i64.wrap n=if 9223372036854775808<=n % 18446744073709551616 then n % 18446744073709551616-18446744073709551616 else n % 18446744073709551616:=by
  simp [IntKind.wrap,IntKind.bits,IntKind.signed]
 rw [e]; split <;> omega
theorem Cq {n:Int} (h1:0<=n) (h2:n<=18446744073709551615):IntKind.u64.wrap n=n:=by
 have e:IntKind.u64.wrap n=n % 18446744073709551616:=by simp [IntKind.wrap,IntKind.bits,IntKind.signed]
 rw [e]; omega
theorem Ef {n:Int} (h1:0<=n) (h2:n<=4294967295):IntKind.u32.wrap n=n:=by
 have e:IntKind.u32.wrap n=n % 4294967296:=by simp [IntKind.wrap,IntKind.bits,IntKind.signed]
 rw [e]; omega
theorem Dc {α:Type} {l:List α} {i:Int} {n:Nat} (b:i=n) (h:n<l.length):Ag l i=some l[n]:=by
 subst b; simp [Ag,h]
theorem Cd {α:Type} {l:List α} {i:Int} {n:Nat} {x:α} (b:i=n) (h:l[n]? = some x):Ag l i=some x:=by
 subst b; simp [Ag,h]
theorem Ahj {α:Type} {l:List α} {i:Int} (h:i<0\/(l.length:Int)<=i):Ag l i=none:=by
 unfold Ag
 split
 .rw [List.getElem?_eq_none]; omega
 .rfl
theorem Ey {α:Type} {l:List α} {i:Int} {n:Nat} (b:i=n) (x:α):B9 l i x=l.set n x:=by
 subst b; simp [B9]
theorem Dm {α:Type} {b:Nat} {xs ys:List α} (h:(xs.length+ys.length)*b<=140737488355328):B8 b xs ys=some (xs++ys):=by
 simp [B8,h]
theorem Hw {α:Type} {b:Nat} {len f:Int} {z:α} {n c:Nat} (h1:len=n) (h2:f=c) (h3:n<=c) (g:b*c<=281474976710656) (h:c<=140737488355328):Eb b len f z=some (List.replicate n z):=by
 subst h1; subst h2
 have a1:(0:Int)<=(n:Int):=by omega
 have a2:(n:Int)<=(c:Int):=by omega
 have a3:(c:Int)<=140737488355328:=by omega
 simp [Eb,a2,a3,g]
theorem Abk {α:Type} {b:Nat} {f:Int} {z:α} {c:Nat} (h2:f=c) (h:b*c<=281474976710656) (g:c<=140737488355328):Eb b 0 f z=some []:=by
 exact Hw (len:=0) (n:=0) (c:=c) rfl h2 (by omega) h g
theorem Cu {a b:Int} (h:a≠b):(a==b)=false:=by simpa using h
theorem Ez {a b:Int} (h:a=b):(a==b)=true:=by simpa using h
theorem E9 {a b:Int} (h:a≠b):(a != b)=true:=by simpa using h
theorem Ge {a b:Int} (h:a=b):(a != b)=false:=by simpa using h
theorem Al {p:Prop} [Decidable p] (h:p):decide p=true:=decide_eq_true h
theorem Ar {p:Prop} [Decidable p] (h:¬p):decide p=false:=decide_eq_false h
theorem Xp {α:Type} {l:List α} {b:Int} {n:Nat} (h:b=n) (c:n<=l.length):Fz l 0 b=some (l.take n):=by
 subst h
 have:(n:Int)<=(l.length:Int):=by omega
 simp [Fz,this]
theorem Ic {a b:Int} (ha:0<=a) (hb:0<b):E8 a b=some (a % b):=by
 have:b≠0:=by omega
 simp [E8,this,Int.tmod_eq_emod_of_nonneg ha]
theorem I3 {a b:Int} (ha:0<=a) (ha':a<=18446744073709551615) (hb:0<b):Eu .u64 a b=some (a / b):=by
 have:b≠0:=by omega
 have h1:0<=a / b:=Int.ediv_nonneg ha (by omega)
 have h2:a / b<=a:=Int.ediv_le_self _ ha
 simp [Eu,this,Int.tdiv_eq_ediv_of_nonneg ha]
 exact Cq h1 (by omega)
theorem Abl {a b:Int} (ha:0<=a) (ha':a<=4294967295) (hb:0<b):Eu .u32 a b=some (a / b):=by
 have:b≠0:=by omega
 have h1:0<=a / b:=Int.ediv_nonneg ha (by omega)
 have h2:a / b<=a:=Int.ediv_le_self _ ha
 simp [Eu,this,Int.tdiv_eq_ediv_of_nonneg ha]
 exact Ef h1 (by omega)
def Ah:List Int->Int
 | []=>0
 | d::l=>d+1000000000*Ah l
def Bk (l:List Int):Prop:=∀d∈l,0<=d/\d<1000000000
def Kd (l:List Int):Prop:=∀d∈l,0<=d/\d<4294967296
def Can (l:List Int):Prop:=Bk l/\∀h:l≠[],l.getLast h≠0
def Ad (n:Nat):List Int:=if h:n=0 then [] else ((n % 1000000000:Nat):Int)::Ad (n / 1000000000)
termination_by n
decreasing_by exact Nat.div_lt_self (by omega) (by decide)
theorem Eh:Ad 0 = []:=by rw [Ad]; simp
theorem Ke {n:Nat} (h:n≠0):Ad n=((n % 1000000000:Nat):Int)::Ad (n / 1000000000):=by rw [Ad]; simp [h]
theorem Bk.nil:Bk []:=fun _ h=>by cases h
theorem Bk.append {l m:List Int} (h:Bk l) (h':Bk m):Bk (l++m):=by
 intro d hd
 rcases List.mem_append.1 hd with hd | hd
 .exact h d hd
 .exact h' d hd
theorem Bk.one {d:Int} (h:0<=d) (h':d<1000000000):Bk [d]:=by
 intro x hx; simp at hx; subst hx; exact ⟨h,h'⟩
theorem Bk.snoc {l:List Int} {d:Int} (h:Bk l) (hd:0<=d) (b:d<1000000000):Bk (l++[d]):=h.append (Bk.one hd b)
theorem Bk.take {l:List Int} (h:Bk l) (k:Nat):Bk (l.take k):=fun d hd=>h d (List.mem_of_mem_take hd)
theorem Bk.drop {l:List Int} (h:Bk l) (k:Nat):Bk (l.drop k):=fun d hd=>h d (List.mem_of_mem_drop hd)
theorem Bk.get {l:List Int} (h:Bk l) {i:Nat} (b:i<l.length):0<=l[i]/\l[i]<1000000000:=h _ (List.getElem_mem b)
theorem Bk.set {l:List Int} (h:Bk l) (i:Nat) {d:Int} (hd:0<=d) (b:d<1000000000):Bk (l.set i d):=by
 intro x hx
 rcases List.mem_or_eq_of_mem_set hx with hx | rfl
 .exact h x hx
 .exact ⟨hd,b⟩
theorem Bk.replicate (n:Nat):Bk (List.replicate n 0):=by
 intro d hd
 have:=List.eq_of_mem_replicate hd
 subst this; decide
theorem Bk.tail {d:Int} {l:List Int} (h:Bk (d::l)):Bk l:=fun x hx=>h x (by simp [hx])
theorem Bk.u32 {l:List Int} (h:Bk l):Kd l:=fun d hd=>by have:=h d hd; omega
theorem Ahk (l m:List Int):Ah (l++m)=Ah l+1000000000 ^ l.length*Ah m:=by
 induction l with
 | nil=>simp [Ah]
 | cons d l ih=>simp only [List.cons_append,Ah,ih,List.length_cons,Int.pow_succ]; grind
theorem Ie (l:List Int) (d:Int):Ah (l++[d])=Ah l+1000000000 ^ l.length*d:=by rw [Ahk]; simp [Ah]
theorem Eg (l:List Int) {k:Nat} (h:k<l.length):Ah (l.take (k+1))=Ah (l.take k)+1000000000 ^ k*l[k]:=by
 rw [List.take_succ_eq_append_getElem h,Ie]
 simp [Nat.min_eq_left (Nat.le_of_lt h)]
theorem Xq (n:Nat):Ah (List.replicate n 0)=0:=by
 induction n with
 | zero=>rfl
 | succ n ih=>simp [List.replicate_succ,Ah,ih]
theorem K1 (l:List Int) (k:Nat) (h:k<=l.length):Ah l=Ah (l.take k)+1000000000 ^ k*Ah (l.drop k):=by
 have e:=Ahk (l.take k) (l.drop k)
 rw [List.take_append_drop] at e
 rw [e,List.length_take,Nat.min_eq_left h]
theorem Jp (l:List Int) {i:Nat} (h:i<l.length) (d:Int):Ah (l.set i d)=Ah l+1000000000 ^ i*(d-l[i]):=by
 induction l generalizing i with
 | nil=>simp at h
 | cons x l ih=>
  cases i with
  | zero=>simp [Ah]; omega
  | succ i=>
   have b:i<l.length:=by simpa using h
   simp only [List.set_cons_succ,Ah,ih b,List.getElem_cons_succ,Int.pow_succ]
   grind
theorem Fh {l:List Int} (h:Kd l):0<=Ah l:=by
 induction l with
 | nil=>simp [Ah]
 | cons d l ih=>
  have h1:=h d (by simp)
  have h2:=ih (fun x hx=>h x (by simp [hx]))
  simp only [Ah]; omega
theorem Ig (n:Nat):(0:Int)<1000000000 ^ n:=Int.pow_pos (by decide)
theorem Hx {l:List Int} (h:Bk l):Ah l<1000000000 ^ l.length:=by
 induction l with
 | nil=>simp [Ah]
 | cons d l ih=>
  have h1:=h d (by simp)
  have h2:=ih h.tail
  simp only [Ah,List.length_cons,Int.pow_succ]
  omega
theorem D1 (n:Nat):Ah (Ad n)=n:=by
 induction n using Nat.strongRecOn with
 | _ n ih=>
  by_cases h:n=0
  .subst h; rw [Eh]; rfl
  .rw [Ke h,Ah,ih (n / 1000000000) (Nat.div_lt_self (by omega) (by decide))]
   omega
theorem Du (n:Nat):Bk (Ad n):=by
 induction n using Nat.strongRecOn with
 | _ n ih=>
  by_cases h:n=0
  .subst h; rw [Eh]; exact Bk.nil
  .rw [Ke h]
   intro d hd
   simp at hd
   rcases hd with rfl | hd
   .omega
   .exact ih (n / 1000000000) (Nat.div_lt_self (by omega) (by decide)) d hd
theorem Gq {n:Nat} (h:n≠0):Ad n≠[]:=by rw [Ke h]; simp
theorem Xr (n:Nat):Can (Ad n):=by
 refine ⟨Du n,?_⟩
 induction n using Nat.strongRecOn with
 | _ n ih=>
  intro b
  have h:n≠0:=fun e=>b (by rw [e]; exact Eh)
  have hc:=Ke h
  by_cases h2:n / 1000000000=0
  .have c:Ad n = [((n % 1000000000:Nat):Int)]:=by rw [hc,h2,Eh]
   simp only [c,List.getLast_singleton]
   omega
  .have:=ih (n / 1000000000) (Nat.div_lt_self (by omega) (by decide)) (Gq h2)
   simp only [hc]
   rwa [List.getLast_cons (Gq h2)]
theorem Abm {l:List Int} (h:Can l):Ad (Ah l).toNat=l:=by
 induction l with
 | nil=>exact Eh
 | cons d l ih=>
  obtain ⟨h1,h2⟩:=h
  have hd:=h1 d (by simp)
  have g:Can l:=by
   refine ⟨h1.tail,fun b=>?_⟩
   have:=h2 (by simp)
   rwa [List.getLast_cons b] at this
  have f:=Fh (h1.tail).u32
  have b:(Ah (d::l)).toNat≠0:=by
   intro e
   simp only [Ah] at e
   have c:d=0:=by omega
   have f:Ah l=0:=by omega
   have:l = []:=by rw [<-ih g,f]; exact Eh
   subst this
   exact h2 (by simp) (by simpa using c)
  rw [Ke b]
  simp only [Ah]
  have j:((d+1000000000*Ah l).toNat % 1000000000:Nat)=d.toNat:=by omega
  have i:(d+1000000000*Ah l).toNat / 1000000000=(Ah l).toNat:=by omega
  rw [j,i,ih g]
  congr 1; omega
theorem Xs {l:List Int} {n:Nat} (h:Can l) (b:Ah l=n):l=Ad n:=by
 rw [<-Abm h,b]; rfl
def Fx:List Int->List Int
 | []=>[]
 | d::l=>match Fx l with
  | []=>if d=0 then [] else [d]
  | x::m=>d::x::m
theorem Ara (l:List Int):Fx (l++[0])=Fx l:=by
 induction l with
 | nil=>rfl
 | cons d l ih=>simp only [List.cons_append,Fx,ih]
theorem Arb {l:List Int} {d:Int} (h:d≠0):Fx (l++[d])=l++[d]:=by
 induction l with
 | nil=>simp [Fx,h]
 | cons x l ih=>
  simp only [List.cons_append,Fx,ih]
  cases l with
  | nil=>rfl
  | cons y l=>rfl
theorem Ahl {l:List Int} (h:Bk l):Can (Fx l)/\Ah (Fx l)=Ah l:=by
 induction l with
 | nil=>exact ⟨⟨Bk.nil,fun h=>(h rfl).elim⟩,rfl⟩
 | cons d l ih=>
  obtain ⟨⟨i1,i2⟩,i3⟩:=ih h.tail
  have hd:=h d (by simp)
  simp only [Fx]
  cases ht:Fx l with
  | nil=>
   rw [ht] at i3
   simp only [Ah] at i3
   simp only []
   by_cases b:d=0
   .rw [if_pos b]
    refine ⟨⟨Bk.nil,fun h=>(h rfl).elim⟩,?_⟩
    simp only [Ah]; rw [<-i3]; omega
   .rw [if_neg b]
    refine ⟨⟨Bk.one hd.1 hd.2,fun _=>by simpa using b⟩,?_⟩
    simp only [Ah]; rw [<-i3]
  | cons x m=>
   rw [ht] at i1 i2 i3
   simp only []
   refine ⟨⟨?_,fun _=>?_⟩,?_⟩
   .intro y hy
    rcases List.mem_cons.1 hy with rfl | hy
    .exact hd
    .exact i1 y hy
   .rw [List.getLast_cons (by simp)]; exact i2 (by simp)
   .simp only [Ah] at i3 ⊢; rw [i3]
theorem I4 {l:List Int} {n:Nat} (h:Bk l) (b:Ah l=n):Fx l=Ad n:=by
 obtain ⟨h1,h2⟩:=Ahl h
 exact Xs h1 (h2.trans b)
theorem Arc {l:List Int} (h:Can l):Fx l=l:=by
 obtain ⟨h1,h2⟩:=Ahl h.1
 rw [<-Abm h1,h2,Abm h]
def A6 (n:Nat):Nat:=(Ad n).length
theorem Xt:A6 0=0:=by simp [A6,Eh]
theorem K2 (n:Nat):n<1000000000 ^ A6 n:=by
 have:=Hx (Du n)
 rw [D1] at this
 have e:((1000000000 ^ A6 n:Nat):Int)=1000000000 ^ A6 n:=by simp
 unfold A6 at *
 omega
theorem Ih {n k:Nat} (h:n<1000000000 ^ k):A6 n<=k:=by
 induction k generalizing n with
 | zero=>simp at h; subst h; simp [Xt]
 | succ k ih=>
  by_cases h0:n=0
  .subst h0; simp [Xt]
  .unfold A6
   rw [Ke h0,List.length_cons]
   have:n / 1000000000<1000000000 ^ k:=by
    rw [Nat.div_lt_iff_lt_mul (by decide)]; rwa [Nat.pow_succ] at h
   have:=ih this
   unfold A6 at this; omega
theorem Gr {m n:Nat} (h:m<=n):A6 m<=A6 n:=Ih (Nat.lt_of_le_of_lt h (K2 n))
theorem Ahm {n k:Nat} (h:k<A6 n):1000000000 ^ k<=n:=by
 rcases Nat.lt_or_ge n (1000000000 ^ k) with h' | h'
 .have:=Ih h'; omega
 .exact h'
theorem Xu (m n:Nat):A6 (m+n)<=max (A6 m) (A6 n)+1:=by
 apply Ih
 have h1:=K2 m
 have h2:=K2 n
 have h3:1000000000 ^ A6 m<=1000000000 ^ max (A6 m) (A6 n):=Nat.pow_le_pow_right (by decide) (Nat.le_max_left _ _)
 have b:1000000000 ^ A6 n<=1000000000 ^ max (A6 m) (A6 n):=Nat.pow_le_pow_right (by decide) (Nat.le_max_right _ _)
 rw [Nat.pow_succ]
 omega
theorem G5 (m n:Nat):A6 (m*n)<=A6 m+A6 n:=by
 apply Ih
 rw [Nat.pow_add]
 exact Nat.mul_lt_mul_of_lt_of_le (K2 m) (Nat.le_of_lt (K2 n)) (Nat.pow_pos (by decide))
theorem Abn (m n:Nat):A6 (m / n)<=A6 m:=Gr (Nat.div_le_self _ _)
theorem Ahn {m n:Nat} (h:A6 m<A6 n):m<n:=Nat.lt_of_lt_of_le (K2 m) (Ahm h)
theorem Aho {l m:List Int} (g:Bk l) {k:Nat} (hk:k<l.length) (b:k<m.length) (f:Bk m) (hd:l.drop (k+1)=m.drop (k+1)) (c:l[k]<m[k]):Ah l<Ah m:=by
 have j:=K1 l (k+1) hk
 have i:=K1 m (k+1) b
 rw [Eg l hk] at j
 rw [Eg m b,<-hd] at i
 have h3:=Hx (g.take k)
 have q:=Fh ((f.take k).u32)
 rw [List.length_take,Nat.min_eq_left (Nat.le_of_lt hk)] at h3
 have h:1000000000 ^ k*(l[k]+1)<=1000000000 ^ k*m[k]:=Int.mul_le_mul_of_nonneg_left c (Int.le_of_lt (Ig k))
 rw [Int.mul_add] at h
 omega
end Go.Ab
namespace Go.Ab
open Go
theorem Gt {S E R:Type} {step:S->Option (S⊕E)} {s0:S} {J:E->Option R} {r:R} (n:Nat) (b:Nat->S) (h0:s0=b 0)
  (c:∀j,j<n->step (b j)=some (.inl (b (j+1)))) (f:∃e,step (b n)=some (.inr e)/\J e=some r):(Ak step s0).bind J=some r:=by
 have key:∀m,m<=n->Ak step (b 0)=Ak step (b m):=by
  intro m
  induction m with
  | zero=>intro _; rfl
  | succ m ih=>intro h; rw [ih (by omega),Hc (c m (by omega))]
 obtain ⟨e,h1,h2⟩:=f
 rw [h0,key n (Nat.le_refl _),Ea h1]
 exact h2
theorem Dj {j n:Nat} (h:j<n) (b:n<4611686018427387904):Ac ((j:Int)+1)=((j+1:Nat):Int):=by
 rw [Ac,Bo] <;> omega
theorem Ahp {α:Type} {l:List α} {p:α×Nat->Bool} (h:l.zipIdx.all p=false):∃j x,l[j]? = some x/\p (x,j)=false/\∀i y,i<j->l[i]? = some y->p (y,i)=true:=by
 have key:∀(n:Nat),(∀i y,i<n->l[i]? = some y->p (y,i)=true)\/∃j x,j<n/\l[j]? = some x/\p (x,j)=false/\∀i y,i<j->l[i]? = some y->p (y,i)=true:=by
  intro n
  induction n with
  | zero=>exact .inl (fun i y h=>by omega)
  | succ n ih=>
   rcases ih with ih | ⟨j,x,h1,h2,h3,c⟩
   .cases hx:l[n]? with
    | none=>exact .inl (fun i y b hy=>by
      rcases Nat.lt_or_ge i n with h | h
      .exact ih i y h hy
      .have:i=n:=by omega
       subst this; rw [hx] at hy; cases hy)
    | some x=>
     cases hp:p (x,n) with
     | true=>exact .inl (fun i y b hy=>by
       rcases Nat.lt_or_ge i n with h | h
       .exact ih i y h hy
       .have:i=n:=by omega
        subst this; rw [hx] at hy; cases hy; exact hp)
     | false=>exact .inr ⟨n,x,by omega,hx,hp,ih⟩
   .exact .inr ⟨j,x,by omega,h2,h3,c⟩
 rcases key l.length with hk | ⟨j,x,h1,h2,h3,c⟩
 .exfalso
  have:l.zipIdx.all p=true:=by
   rw [List.all_eq_true]
   rintro ⟨y,i⟩ hy
   have:=List.mk_mem_zipIdx_iff_getElem?.1 hy
   have b:i<l.length:=by
    rcases Nat.lt_or_ge i l.length with h | h
    .exact h
    .rw [List.getElem?_eq_none h] at this; cases this
   exact hk i y b this
  rw [this] at h; cases h
 .exact ⟨j,x,h2,h3,c⟩
theorem Jq {α:Type} {l:List α} {p:α×Nat->Bool} (h:l.zipIdx.all p=true) {j:Nat} {x:α} (hx:l[j]? = some x):p (x,j)=true :=
 List.all_eq_true.1 h _ (List.mk_mem_zipIdx_iff_getElem?.2 hx)
theorem Ahq {α:Type} {l:List α} {p:α×Nat->Bool} (h:∀j x,l[j]? = some x->p (x,j)=true):l.zipIdx.all p=true:=by
 rw [List.all_eq_true]
 rintro ⟨y,i⟩ hy
 exact h i y (List.mk_mem_zipIdx_iff_getElem?.1 hy)
theorem Tv {S E R α:Type} {step:S->Option (S⊕E)} {s0:S} {J:E->Option R} {rt rf:R} (l:List α) (p:α×Nat->Bool) (b:Nat->S) (h0:s0=b 0) (g:l.length<4611686018427387904)
  (f:∀(j:Nat) (x:α),l[j]? = some x->(∀i y,i<j->l[i]? = some y->p (y,i)=true)->decide ((j:Int)<(l.length:Int))=true->Ag l (j:Int)=some x->Ac ((j:Int)+1)=((j+1:Nat):Int) ->
   (p (x,j)=true->step (b j)=some (.inl (b (j+1))))/\(p (x,j)=false->∃e,step (b j)=some (.inr e)/\J e=some rf))
  (s:decide ((l.length:Int)<(l.length:Int))=false->l.zipIdx.all p=true->∃e,step (b l.length)=some (.inr e)/\J e=some rt):(Ak step s0).bind J=some (bif l.zipIdx.all p then rt else rf):=by
 have c:∀(j:Nat) (x:α),l[j]? = some x->(∀i y,i<j->l[i]? = some y->p (y,i)=true)->_:=fun j x hx hy=>
  have hj:j<l.length:=by
   rcases Nat.lt_or_ge j l.length with h | h
   .exact h
   .rw [List.getElem?_eq_none h] at hx; cases hx
  f j x hx hy (Al (by omega)) (Cd rfl hx) (Dj hj g)
 cases hb:l.zipIdx.all p with
 | true=>
  refine Gt l.length b h0 (fun j hj=>?_) (s (by simp) hb)
  have hx:l[j]? = some l[j]:=Ck hj
  exact (c j _ hx (fun i y _ hy=>Jq hb hy)).1 (Jq hb hx)
 | false=>
  obtain ⟨j,x,h1,h2,h3⟩:=Ahp hb
  refine Gt j b h0 (fun i q=>?_) ((c j x h1 h3).2 h2)
  have hj:j<l.length:=by
   rcases Nat.lt_or_ge j l.length with h | h
   .exact h
   .rw [List.getElem?_eq_none h] at h1; cases h1
  have hx:l[i]? = some l[i]:=Ck (by omega)
  exact (c i _ hx (fun k y hk hy=>h3 k y (by omega) hy)).1 (h3 i _ q hx)
theorem Xv {α:Type} (l:List α) (p:α->Bool):l.zipIdx.all (fun q=>p q.1)=l.all p:=by
 cases h:l.all p with
 | true=>
  exact Ahq fun j x hx=>List.all_eq_true.1 h _ (Cx hx)
 | false=>
  cases h':l.zipIdx.all (fun q=>p q.1) with
  | false=>rfl
  | true=>
   rw [<-h]; symm
   rw [List.all_eq_true]
   intro x hx
   obtain ⟨j,hj⟩:=List.getElem?_of_mem hx
   exact Jq h' hj
theorem Xw {S E R α:Type} {step:S->Option (S⊕E)} {s0:S} {J:E->Option R} {rt rf:R} (l:List α) (p:α->Bool) (b:Nat->S) (h0:s0=b 0) (f:l.length<4611686018427387904)
  (c:∀(j:Nat) (x:α),l[j]? = some x->decide ((j:Int)<(l.length:Int))=true->Ag l (j:Int)=some x->Ac ((j:Int)+1)=((j+1:Nat):Int) ->
   (p x=true->step (b j)=some (.inl (b (j+1))))/\(p x=false->∃e,step (b j)=some (.inr e)/\J e=some rf))
  (g:decide ((l.length:Int)<(l.length:Int))=false->∃e,step (b l.length)=some (.inr e)/\J e=some rt):(Ak step s0).bind J=some (bif l.all p then rt else rf):=by
 rw [<-Xv l p]
 exact Tv l (fun q=>p q.1) b h0 f (fun j x hx _=>c j x hx) (fun h _=>g h)
theorem I5 {S E R α:Type} {step:S->Option (S⊕E)} {s0:S} {J:E->Option R} {r:R} (l:List α) (b:Nat->S) (h0:s0=b 0) (f:l.length<4611686018427387904)
  (c:∀(j:Nat) (x:α),j<l.length->l[j]? = some x->decide ((j:Int)<(l.length:Int))=true->Ag l (j:Int)=some x->Ac ((j:Int)+1)=((j+1:Nat):Int)->step (b j)=some (.inl (b (j+1))))
  (g:decide ((l.length:Int)<(l.length:Int))=false->∃e,step (b l.length)=some (.inr e)/\J e=some r):(Ak step s0).bind J=some r:=by
 refine Gt l.length b h0 (fun j hj=>?_) (g (by simp))
 have hx:l[j]? = some l[j]:=Ck hj
 exact c j _ hj hx (Al (by omega)) (Cd rfl hx) (Dj hj f)
theorem Dr {α:Type} {l:List α} {j:Nat} {x:α} (h:l[j]? = some x):l.take (j+1)=l.take j++[x]:=by
 rw [List.take_add_one,h]; rfl
theorem Ep {α:Type} {l:List α} {j:Nat} {x:α} (h:l[j]? = some x):j<l.length:=by
 rcases Nat.lt_or_ge j l.length with h' | h'
 .exact h'
 .rw [List.getElem?_eq_none h'] at h; cases h
theorem Xx (b:Bool):(bif b then true else false)=b:=by cases b <;> rfl
theorem Ard (b:Bool):(bif b then false else true) = !b:=by cases b <;> rfl
theorem Ahr {A R:Type} {X:Option A} {f:A->Option R} {y:R} {Q:A->Prop} (h:∃r,X=some r/\Q r) (b:∀r,Q r->f r=some y):X.bind f=some y:=by
 obtain ⟨r,h1,h2⟩:=h
 rw [h1]; exact b r h2
theorem Ahs {α:Type} (l:List α) (p:α->Bool) {step:Int->Option (Int⊕(Int⊕Unit))} {J:Int⊕Unit->Option Int} (q:l.length<4611686018427387904)
  (k:∀(j:Nat) (x:α),x∈l->decide ((j:Int)<(l.length:Int))=true->Ag l (j:Int)=some x->Ac ((j:Int)+1)=((j+1:Nat):Int) ->
   step (j:Int)=bif p x then some (.inr (.inl (j:Int))) else some (.inl ((j+1:Nat):Int)))
  (s:decide ((l.length:Int)<(l.length:Int))=false->step (l.length:Int)=some (.inr (.inr ())))
  (c:∀i,J (.inl i)=some i) (b:J (.inr ())=some (-1)):∃i,(Ak step 0).bind J=some i/\decide (i>=0)=l.any p:=by
 have key:(Ak step 0).bind (fun z=>(J z).bind fun i=>some (decide (i>=0)))=some (bif l.all (fun x=>!p x) then false else true):=by
  refine Xw l (fun x=>!p x) (fun j=>(j:Int)) rfl q (fun j x hx h1 h2 h3=>?_) (fun h=>⟨.inr (),s h,by rw [b]; rfl⟩)
  have h:=k j x (Cx hx) h1 h2 h3
  simp only [h]
  cases p x with
  | true=>exact ⟨(fun h=>by cases h),fun _=>⟨.inl (j:Int),rfl,by simp only [c,Ae]; rw [Al (by omega)]⟩⟩
  | false=>exact ⟨fun _=>rfl,fun h=>by cases h⟩
 have e:l.any p=(bif l.all (fun x=>!p x) then false else true):=by
  rw [Ard,List.not_all_eq_any_not]; simp
 rw [e]
 cases f:Ak step 0 with
 | none=>rw [f] at key; cases key
 | some z=>
  rw [f,Ae] at key
  rw [Ae]
  cases g:J z with
  | none=>rw [g] at key; cases key
  | some i=>
   rw [g,Ae] at key
   exact ⟨i,rfl,Option.some.inj key⟩
theorem Abo {S E R α M:Type} {step:S->Option (S⊕E)} {s0:S} {J:E->Option R} (l:List α) (p:α×Nat->Bool) (b:Nat->M->S) (I:M->Prop) (z A:R->Prop) (g:M) (h0:s0=b 0 g) (h:I g) (D:l.length<4611686018427387904)
  (B:∀(j:Nat) (x:α) (m:M),I m->l[j]? = some x->(∀i y,i<j->l[i]? = some y->p (y,i)=true)->decide ((j:Int)<(l.length:Int))=true->Ag l (j:Int)=some x->Ac ((j:Int)+1)=((j+1:Nat):Int) ->
   (p (x,j)=true->∃f,step (b j m)=some (.inl (b (j+1) f))/\I f)/\(p (x,j)=false->∃e,step (b j m)=some (.inr e)/\∃r,J e=some r/\A r))
  (L:∀m,I m->decide ((l.length:Int)<(l.length:Int))=false->l.zipIdx.all p=true->∃e,step (b l.length m)=some (.inr e)/\∃r,J e=some r/\z r) :
  ∃r,(Ak step s0).bind J=some r/\((l.zipIdx.all p=true/\z r)\/(l.zipIdx.all p=false/\A r)):=by
 have c:∀(j:Nat) (x:α) (m:M),I m->l[j]? = some x->(∀i y,i<j->l[i]? = some y->p (y,i)=true)->_:=fun j x m N hx hy=>
  have hj:j<l.length:=Ep hx
  B j x m N hx hy (Al (by omega)) (Cd rfl hx) (Dj hj D)
 have key:∀n,n<=l.length->(∀i y,i<n->l[i]? = some y->p (y,i)=true)->∃m,I m/\Ak step s0=Ak step (b n m):=by
  intro n
  induction n with
  | zero=>intro _ _; exact ⟨g,h,by rw [h0]⟩
  | succ n ih=>
   intro V hy
   obtain ⟨m,h1,h2⟩:=ih (by omega) (fun i y G=>hy i y (by omega))
   have hx:l[n]? = some l[n]:=Ck (by omega)
   obtain ⟨f,h3,k⟩:=(c n _ m h1 hx (fun i y G=>hy i y (by omega))).1 (hy n _ (by omega) hx)
   exact ⟨f,k,by rw [h2,Hc h3]⟩
 cases hb:l.zipIdx.all p with
 | true=>
  obtain ⟨m,h1,h2⟩:=key l.length (Nat.le_refl _) (fun i y _ hy=>Jq hb hy)
  obtain ⟨e,u,r,s,q⟩:=L m h1 (by simp) hb
  exact ⟨r,by rw [h2,Ea u]; exact s,.inl ⟨rfl,q⟩⟩
 | false=>
  obtain ⟨j,x,h1,h2,h3⟩:=Ahp hb
  obtain ⟨m,k,U⟩:=key j (Nat.le_of_lt (Ep h1)) h3
  obtain ⟨e,u,r,s,q⟩:=(c j x m k h1 h3).2 h2
  exact ⟨r,by rw [U,Ea u]; exact s,.inr ⟨rfl,q⟩⟩
end Go.Ab
namespace Go.Ab
open Go
theorem M2 (l:List Int) (b:l.length<4611686018427387904):Ia l=some (Fx l):=by
 unfold Ia
 refine Gp (fun v=>∃k:Nat,v=k/\k<=l.length/\Fx (l.take k)=Fx l) (fun v=>v.toNat) (fun v=>∃k:Nat,v=k/\k<=l.length/\l.take k=Fx l) ⟨l.length,rfl,Nat.le_refl _,by simp⟩ ?_ ?_
 .rintro v ⟨k,rfl,hk,ht⟩
  cases k with
  | zero=>exact .inr ⟨0,rfl,0,rfl,by omega,by simpa [Fx] using ht⟩
  | succ j=>
   have hw:Ac (((j+1:Nat):Int)-1)=(j:Int):=by rw [Ac,Bo] <;> omega
   have hj:j<l.length:=by omega
   have hp:decide (((j+1:Nat):Int)>0)=true:=Al (by omega)
   simp only [hp,cond_true,hw,Dc rfl hj,Ae]
   rw [List.take_succ_eq_append_getElem hj] at ht
   by_cases h0:l[j]=0
   .rw [h0,Ara] at ht
    exact .inl ⟨j,by rw [Ez h0]; rfl,⟨j,rfl,by omega,ht⟩,by omega⟩
   .rw [Arb h0] at ht
    exact .inr ⟨((j+1:Nat):Int),by rw [Cu h0]; rfl,j+1,rfl,by omega,by rw [List.take_succ_eq_append_getElem hj]; exact ht⟩
 .rintro v ⟨k,rfl,hk,ht⟩
  rw [Xp rfl hk,ht]; rfl
theorem Aht (l:List Int) (hd:Kd l) (D:l.length<1099511627776):P5 l=some (Ad (Ah l).toNat):=by
 unfold P5
 have f:Ac ((l.length:Int)+1)=((l.length+1:Nat):Int):=by rw [Ac,Bo] <;> omega
 rw [f,Abk rfl (by omega) (by omega)]
 simp only [Ae]
 refine Gp (fun (c,i,o)=>∃k:Nat,i=k/\k<=l.length/\o.length=k/\Bk o/\0<=c/\c<5/\Ah o+1000000000 ^ k*c=Ah (l.take k))
  (fun (_,i,_)=>l.length-i.toNat) (fun (c,o)=>o.length=l.length/\Bk o/\0<=c/\c<5/\Ah o+1000000000 ^ l.length*c=Ah l)
  ⟨0,rfl,by omega,rfl,Bk.nil,by omega,by omega,by simp [Ah]⟩ ?_ ?_
 .rintro ⟨c,i,o⟩ ⟨k,rfl,hk,g,b,q,hc,u⟩
  rcases Nat.lt_or_ge k l.length with h | h
  .have hx:=hd l[k] (List.getElem_mem h)
   refine .inl ⟨((l[k]+c) / 1000000000,((k+1:Nat):Int),o++[(l[k]+c) % 1000000000]),?_,⟨k+1,rfl,by omega,by simp [g],b.snoc (by omega) (by omega),by omega,by omega,?_⟩,by simp; omega⟩
   .have A:Ap l[k]=l[k]:=Cq (by omega) (by omega)
    have z:Ap (l[k]+c)=l[k]+c:=Cq (by omega) (by omega)
    have s:Bw ((l[k]+c) % 1000000000)=(l[k]+c) % 1000000000:=Ef (by omega) (by omega)
    have y:Ac ((k:Int)+1)=((k+1:Nat):Int):=by rw [Ac,Bo] <;> omega
    have x:decide ((k:Int)<(l.length:Int))=true:=by simpa using h
    simp only [x,cond_true,Dc rfl h,Ae,A,z,Ic (show 0<=l[k]+c by omega) (show (0:Int)<1000000000 by decide),s,Dm (show (o.length+[(l[k]+c) % 1000000000].length)*4<=_ by simp; omega),I3 (show 0<=l[k]+c by omega) (show l[k]+c<=_ by omega) (show (0:Int)<1000000000 by decide),y]
   .rw [Eg l h,<-u,Ie,g,Int.pow_succ]
    have:=Int.mul_ediv_add_emod (l[k]+c) 1000000000
    grind
  .have j:k=l.length:=by omega
   subst j
   refine .inr ⟨(c,o),by simp,g,b,q,hc,by simpa using u⟩
 .rintro ⟨c,o⟩ ⟨h2,h3,I,G,E⟩
  have B:=Fh hd
  by_cases hc:c>0
  .have s:Bw c=c:=Ef (by omega) (by omega)
   simp only [decide_eq_true hc,cond_true,s,Dm (show (o.length+[c].length)*4<=_ by simp; omega),Ae,M2 (o++[c]) (by simp; omega)]
   rw [I4 (h3.snoc (by omega) (by omega)) (n:=(Ah l).toNat) (by rw [Ie,h2]; omega)]
  .have:c=0:=by omega
   subst this
   simp only [Int.lt_irrefl,gt_iff_lt,decide_false,cond_false,M2 o (by omega),Ae]
   rw [I4 h3 (n:=(Ah l).toNat) (by omega)]
end Go.Ab
namespace Go.Ab
open Go
theorem Qy {n:Nat} (h:n<18446744073709551616):A6 n<=3:=Ih (Nat.lt_of_lt_of_le h (by decide))
theorem Qz (n:Nat) (h:n<18446744073709551616):Lt n=some (Ad n):=by
 unfold Lt
 have b:=Qy h
 unfold A6 at b
 refine Gp (fun (w,o)=>∃k:Nat,w=k/\k<=n/\o++Ad k=Ad n) (fun (w,_)=>w.toNat) (fun o=>o=Ad n) ⟨n,rfl,Nat.le_refl _,by simp⟩ ?_ (by rintro o rfl; rfl)
 rintro ⟨w,o⟩ ⟨k,rfl,hk,c⟩
 by_cases h0:k=0
 .subst h0
  rw [Eh,List.append_nil] at c
  exact .inr ⟨o,by simp,c⟩
 .have f:o.length<=3:=by rw [<-c] at b; simp at b; omega
  refine .inl ⟨(((k / 1000000000:Nat):Int),o++[((k % 1000000000:Nat):Int)]),?_,⟨k / 1000000000,rfl,by omega,by rw [List.append_assoc]; rw [Ke h0] at c; exact c⟩,by simp; omega⟩
  have l:decide ((k:Int)>0)=true:=Al (by omega)
  have j:E8 (k:Int) 1000000000=some ((k % 1000000000:Nat):Int):=by rw [Ic (by omega) (by decide)]; rfl
  have i:Bw ((k % 1000000000:Nat):Int)=((k % 1000000000:Nat):Int):=Ef (by omega) (by omega)
  have g:Eu .u64 (k:Int) 1000000000=some ((k / 1000000000:Nat):Int):=by rw [I3 (by omega) (by omega) (by decide)]; rfl
  simp only [l,cond_true,j,Ae,i,Dm (show (o.length+[((k % 1000000000:Nat):Int)].length)*4<=_ by simp; omega),g]
def D8 (m n:Nat):Int:=if m<n then -1 else if n<m then 1 else 0
theorem Q2 (m n:Nat) (g:A6 m<1099511627776) (f:A6 n<1099511627776):Nz (Ad m) (Ad n)=some (D8 m n):=by
 unfold Nz
 unfold A6 at g f
 by_cases h:(Ad m).length=(Ad n).length
 .rw [Ge (by omega:((Ad m).length:Int)=(Ad n).length),cond_false]
  have hw:Ac (((Ad m).length:Int)-1)=((Ad m).length:Int)-1:=by rw [Ac,Bo] <;> omega
  rw [hw]
  refine Gp (fun v=>∃k:Nat,v=(k:Int)-1/\k<=(Ad m).length/\(Ad m).drop k=(Ad n).drop k) (fun v=>(v+1).toNat)
   (fun e=>match e with | .inl r=>r=D8 m n | .inr _=>m=n) ⟨(Ad m).length,rfl,Nat.le_refl _,by rw [List.drop_length,h,List.drop_length]⟩ ?_ ?_
  .rintro v ⟨k,rfl,hk,hd⟩
   cases k with
   | zero=>
    refine .inr ⟨.inr (),by simp,?_⟩
    have:Ad m=Ad n:=by simpa using hd
    have:=congrArg Ah this
    rw [D1,D1] at this
    show m=n
    omega
   | succ j=>
    have hj:j<(Ad m).length:=by omega
    have hj':j<(Ad n).length:=by omega
    have l:((j+1:Nat):Int)-1=(j:Int):=by omega
    have i:decide ((j:Int)>=0)=true:=Al (by omega)
    simp only [l,i,cond_true,Dc rfl hj,Dc rfl hj',Ae]
    rcases Int.lt_trichotomy (Ad m)[j] (Ad n)[j] with b | heq | hgt
    .refine .inr ⟨.inl (-1),by rw [Al b]; rfl,?_⟩
     have:=Aho (Du m) hj hj' (Du n) hd b
     rw [D1,D1] at this
     show (-1:Int)=D8 m n
     rw [D8,if_pos (by omega)]
    .refine .inl ⟨(j:Int)-1,?_,⟨j,rfl,by omega,?_⟩,by omega⟩
     .rw [Ar (by omega:¬(Ad m)[j]<(Ad n)[j]),cond_false,Ar (by omega:¬(Ad m)[j]>(Ad n)[j]),cond_false]
      rw [Ac,Bo (by omega) (by omega)]
     .rw [List.drop_eq_getElem_cons hj,List.drop_eq_getElem_cons hj',hd,heq]
    .refine .inr ⟨.inl 1,by rw [Ar (by omega:¬(Ad m)[j]<(Ad n)[j]),cond_false,Al (by omega:(Ad m)[j]>(Ad n)[j])]; rfl,?_⟩
     have:=Aho (Du n) hj' hj (Du m) hd.symm hgt
     rw [D1,D1] at this
     show (1:Int)=D8 m n
     rw [D8,if_neg (by omega),if_pos (by omega)]
  .rintro (e | e) c
   .simp only at c ⊢; rw [c]
   .simp only at c ⊢; rw [D8,if_neg (by omega),if_neg (by omega)]
 .rw [E9 (by omega:((Ad m).length:Int)≠(Ad n).length),cond_true]
  by_cases b:(Ad m).length<(Ad n).length
  .rw [Al (by omega:((Ad m).length:Int)<(Ad n).length),cond_true]
   have:=Ahn (m:=m) (n:=n) b
   rw [D8,if_pos this]
  .rw [Ar (by omega:¬((Ad m).length:Int)<(Ad n).length),cond_false]
   have:=Ahn (m:=n) (n:=m) (by unfold A6; omega)
   rw [D8,if_neg (by omega),if_pos this]
theorem Abp {l:List Int} (h:Bk l) (c:l≠[]->1000000000 ^ (l.length-1)<=Ah l):Can l:=by
 refine ⟨h,fun b h0=>?_⟩
 have h1:=c b
 have e:=List.dropLast_concat_getLast b
 have h2:Bk l.dropLast:=fun d hd=>h d (List.dropLast_subset l hd)
 have h3:=Hx h2
 rw [List.length_dropLast] at h3
 have f:=congrArg Ah e
 rw [Ie,h0] at f
 omega
theorem Hy (l:List Int) {k:Nat} (h:l.length<=k):Ah (l.take k)=Ah l:=by rw [List.take_of_length_le h]
theorem Ahu (a b:List Int) (ha:Bk a) (hb:Bk b) (hl:a.length<1099511627776) (hab:b.length<=a.length) (U:a≠[]->1000000000 ^ (a.length-1)<=Ah a) :
  ((Eb 4 0 (Ac ((a.length:Int)+1)) (0:Int)).bind fun Z=>
 (Ak (S:=(Int×Int×(List Int))) (E:=(Int×(List Int))) (fun (v20,v21,u)=>
 bif (decide (v21<(a.length:Int))) then (
 (Ag a v21).bind fun v23=>
 (show Option Int from
 bif (decide (v21<(b.length:Int))) then (
 (Ag b v21).bind fun v24=>
 some (Bw ((Bw (v23+v20))+v24))
 )
 else (
 some (Bw (v23+v20))
 )
 ).bind fun v25=>
 (Eu .u32 v25 1000000000).bind fun v26=>
 (E8 v25 1000000000).bind fun f=>
 (B8 4 u [f]).bind fun g=>
 some (.inl (v26,(Ac (v21+1)),g))
 )
 else (
 some (.inr (v20,u))
 )
  ) (0,0,Z)).bind fun (l,q)=>
 bif (decide (l>(0:Int))) then (
 (B8 4 q [l]).bind fun J=>
 some J
 )
 else (
 some q
 ))=some (Ad (Ah a+Ah b).toNat):=by
 have A:Ac ((a.length:Int)+1)=((a.length+1:Nat):Int):=by rw [Ac,Bo] <;> omega
 rw [A,Abk rfl (by omega) (by omega)]
 simp only [Ae]
 have a7:=Fh ha.u32
 have a6:=Fh hb.u32
 refine Gp (fun (c,i,o)=>∃k:Nat,i=k/\k<=a.length/\o.length=k/\Bk o/\0<=c/\c<=1/\Ah o+1000000000 ^ k*c=Ah (a.take k)+Ah (b.take k))
  (fun (_,i,_)=>a.length-i.toNat) (fun (c,o)=>o.length=a.length/\Bk o/\0<=c/\c<=1/\Ah o+1000000000 ^ a.length*c=Ah a+Ah b)
  ⟨0,rfl,by omega,rfl,Bk.nil,by omega,by omega,by simp [Ah]⟩ ?_ ?_
 .rintro ⟨c,i,o⟩ ⟨k,rfl,hk,M,z,V,hc,L⟩
  rcases Nat.lt_or_ge k a.length with h | h
  .have hx:=ha.get h
   have e4:Ac ((k:Int)+1)=((k+1:Nat):Int):=by rw [Ac,Bo] <;> omega
   have e5:decide ((k:Int)<(a.length:Int))=true:=Al (by omega)
   have step:∀s:Int,0<=s->s<2000000000->(show Option Int from bif (decide ((k:Int)<(b.length:Int))) then ((Ag b k).bind fun v24=>some (Bw ((Bw (a[k]+c))+v24))) else some (Bw (a[k]+c)))=some s ->
     Ah (a.take (k+1))+Ah (b.take (k+1))=Ah (a.take k)+Ah (b.take k)+1000000000 ^ k*(s-c) ->
     (∃s',(bif (decide ((k:Int)<(a.length:Int))) then (
 (Ag a k).bind fun v23=>
 (show Option Int from
 bif (decide ((k:Int)<(b.length:Int))) then (
 (Ag b k).bind fun v24=>
 some (Bw ((Bw (v23+c))+v24))
 )
 else (
 some (Bw (v23+c))
 )
 ).bind fun v25=>
 (Eu .u32 v25 1000000000).bind fun v26=>
 (E8 v25 1000000000).bind fun f=>
 (B8 4 o [f]).bind fun g=>
 some (.inl (v26,(Ac ((k:Int)+1)),g))
 )
 else (
 some (.inr (c,o))
 ))=some (Sum.inl s':(Int×Int×List Int)⊕(Int×List Int))/\(∃j:Nat,s'.2.1=j/\j<=a.length/\s'.2.2.length=j/\Bk s'.2.2/\0<=s'.1/\s'.1<=1/\Ah s'.2.2+1000000000 ^ j*s'.1=Ah (a.take j)+Ah (b.take j))/\a.length-s'.2.1.toNat<a.length-(k:Int).toNat):=by
    intro s y a1 hs x
    refine ⟨(s / 1000000000,((k+1:Nat):Int),o++[s % 1000000000]),?_,⟨k+1,rfl,by omega,by simp [M],z.snoc (by omega) (by omega),by simp; omega,by simp; omega,?_⟩,by simp; omega⟩
    .rw [e5,cond_true,Dc rfl h,Ae,hs,Ae,Abl y (by omega) (by decide),Ae,Ic y (by decide),Ae,Dm (by simp; omega),Ae,e4]
    .rw [x,<-L,Ie,M,Int.pow_succ]
     have:=Int.mul_ediv_add_emod s 1000000000
     grind
   refine .inl ?_
   rcases Nat.lt_or_ge k b.length with hb' | hb'
   .have hy:=hb.get hb'
    obtain ⟨s',I,G,D⟩:=step (a[k]+c+b[k]) (by omega) (by omega) (by
     have B:Bw (a[k]+c)=a[k]+c:=Ef (by omega) (by omega)
     have Y:Bw (a[k]+c+b[k])=a[k]+c+b[k]:=Ef (by omega) (by omega)
     show (bif (decide ((k:Int)<(b.length:Int))) then _ else _)=_
     rw [Al (by omega:(k:Int)<(b.length:Int)),cond_true,Dc rfl hb',Ae,B,Y]) (by rw [Eg a h,Eg b hb']; grind)
    exact ⟨s',I,G,D⟩
   .obtain ⟨s',I,G,D⟩:=step (a[k]+c) (by omega) (by omega) (by
     have B:Bw (a[k]+c)=a[k]+c:=Ef (by omega) (by omega)
     show (bif (decide ((k:Int)<(b.length:Int))) then _ else _)=_
     rw [Ar (by omega:¬(k:Int)<(b.length:Int)),cond_false,B]) (by rw [Eg a h,Hy b hb',Hy b (by omega)]; grind)
    exact ⟨s',I,G,D⟩
  .have R:k=a.length:=by omega
   subst R
   refine .inr ⟨(c,o),by simp,M,z,V,hc,?_⟩
   rw [List.take_length,Hy b hab] at L
   exact L
 .rintro ⟨c,o⟩ ⟨h2,h3,h4,h5,h6⟩
  simp only []
  by_cases hc:c>0
  .have:c=1:=by omega
   subst this
   rw [Al hc,cond_true,Dm (by simp; omega),Ae]
   congr 1
   refine Xs (Abp (h3.snoc (by omega) (by omega)) fun _=>?_) (by rw [Ie,h2]; omega)
   rw [Ie,h2]
   have:=Fh h3.u32
   simp [h2]; omega
  .have:c=0:=by omega
   subst this
   rw [Ar hc,cond_false]
   congr 1
   refine Xs (Abp h3 fun N=>?_) (by omega)
   have X:a≠[]:=by intro e; rw [e] at h2; exact N (List.length_eq_zero_iff.1 h2)
   have:=U X
   rw [h2]; omega
theorem Xy {n:Nat} (h:Ad n≠[]):1000000000 ^ ((Ad n).length-1)<=Ah (Ad n):=by
 rw [D1]
 have h1:(Ad n).length≠0:=fun e=>h (List.length_eq_zero_iff.1 e)
 have:=Ahm (n:=n) (k:=(Ad n).length-1) (by unfold A6; omega)
 have e:((1000000000 ^ ((Ad n).length-1):Nat):Int)=1000000000 ^ ((Ad n).length-1):=by rw [Int.natCast_pow]; rfl
 omega
theorem Are (m n:Nat) (c:A6 m<1099511627776) (b:A6 n<1099511627776):S0 (Ad m) (Ad n)=some (Ad (m+n)):=by
 unfold S0
 unfold A6 at c b
 by_cases f:(Ad m).length<(Ad n).length
 .simp only [Al (by omega:((Ad m).length:Int)<(Ad n).length),cond_true,Ae]
  have:=Ahu (Ad n) (Ad m) (Du n) (Du m) b (by omega) Xy
  rw [D1,D1] at this
  rw [show m+n=((n:Int)+(m:Int)).toNat by omega]
  exact this
 .simp only [Ar (by omega:¬((Ad m).length:Int)<(Ad n).length),cond_false,Ae]
  have:=Ahu (Ad m) (Ad n) (Du m) (Du n) c (by omega) Xy
  rw [D1,D1] at this
  rw [show m+n=((m:Int)+(n:Int)).toNat by omega]
  exact this
end Go.Ab
namespace Go.Ab
open Go
theorem I6 {k n:Nat} (h:k<n) (b:n<4611686018427387904):Ac ((k:Int)+1)=((k+1:Nat):Int):=by rw [Ac,Bo] <;> omega
theorem Ahv (m n:Nat) (X:A6 m<1099511627776) (B:n<=m):P6 (Ad m) (Ad n)=some (Ad (m-n)):=by
 unfold P6
 have E:(Ad n).length<=(Ad m).length:=Gr B
 unfold A6 at X
 rw [Abk rfl (by omega) (by omega)]
 simp only [Ae]
 have ha:=Du m
 have hb:=Du n
 refine Gp (fun (c,i,o)=>∃k:Nat,i=k/\k<=(Ad m).length/\o.length=k/\Bk o/\0<=c/\c<=1/\Ah o=Ah ((Ad m).take k)-Ah ((Ad n).take k)+1000000000 ^ k*c)
  (fun (_,i,_)=>(Ad m).length-i.toNat) (fun o=>∃c:Int,o.length=(Ad m).length/\Bk o/\0<=c/\c<=1/\Ah o=(m:Int)-n+1000000000 ^ (Ad m).length*c)
  ⟨0,rfl,by omega,rfl,Bk.nil,by omega,by omega,by simp [Ah]⟩ ?_ ?_
 .rintro ⟨c,i,o⟩ ⟨k,rfl,hk,l,g,I,hc,q⟩
  rcases Nat.lt_or_ge k (Ad m).length with h | h
  .have hx:=ha.get h
   have R:=I6 h (by omega)
   have N:decide ((k:Int)<((Ad m).length:Int))=true:=Al (by omega)
   have L:Ac (Ad m)[k]=(Ad m)[k]:=Bo (by omega) (by omega)
   have J:Ac ((Ad m)[k]-c)=(Ad m)[k]-c:=Bo (by omega) (by omega)
   have key:∀s:Int,-1000000001<=s->s<1000000000->Ah ((Ad m).take (k+1))-Ah ((Ad n).take (k+1))=Ah ((Ad m).take k)-Ah ((Ad n).take k)+1000000000 ^ k*(s+c) ->
     ∃(f:Int) (d:Int),(bif decide (s<0) then ((B8 4 o [(Bw (Ac (s+1000000000)))]).bind fun A=>some (Sum.inl (1,(Ac ((k:Int)+1)),A))) else ((B8 4 o [(Bw s)]).bind fun z=>some (Sum.inl (0,(Ac ((k:Int)+1)),z))))=some (Sum.inl (f,((k+1:Nat):Int),o++[d]):(Int×Int×List Int)⊕List Int) /\
      (-1000000000<=s->(∃j:Nat,((k+1:Nat):Int)=j/\j<=(Ad m).length/\(o++[d]).length=j/\Bk (o++[d])/\0<=f/\f<=1/\Ah (o++[d])=Ah ((Ad m).take j)-Ah ((Ad n).take j)+1000000000 ^ j*f)):=by
    intro s h1 h2 b
    by_cases M:s<0
    .refine ⟨1,Bw (Ac (s+1000000000)),by rw [Al M,cond_true,Dm (by simp; omega),Ae,R],fun h3=>?_⟩
     have V:Ac (s+1000000000)=s+1000000000:=Bo (by omega) (by omega)
     have u:Bw (s+1000000000)=s+1000000000:=Ef (by omega) (by omega)
     rw [V,u]
     refine ⟨k+1,rfl,by omega,by simp [l],g.snoc (by omega) (by omega),by omega,by omega,?_⟩
     rw [b,Ie,l,q,Int.pow_succ]; grind
    .refine ⟨0,Bw s,by rw [Ar M,cond_false,Dm (by simp; omega),Ae,R],fun h3=>?_⟩
     have u:Bw s=s:=Ef (by omega) (by omega)
     rw [u]
     refine ⟨k+1,rfl,by omega,by simp [l],g.snoc (by omega) (by omega),by omega,by omega,?_⟩
     rw [b,Ie,l,q,Int.pow_succ]; grind
   refine .inl ?_
   rcases Nat.lt_or_ge k (Ad n).length with hb' | hb'
   .have hy:=hb.get hb'
    have U:Ac (Ad n)[k]=(Ad n)[k]:=Bo (by omega) (by omega)
    have S:Ac ((Ad m)[k]-c-(Ad n)[k])=(Ad m)[k]-c-(Ad n)[k]:=Bo (by omega) (by omega)
    obtain ⟨f,d,y,x⟩:=key ((Ad m)[k]-c-(Ad n)[k]) (by omega) (by omega) (by rw [Eg _ h,Eg _ hb']; grind)
    refine ⟨(f,((k+1:Nat):Int),o++[d]),?_,x (by omega),by simp; omega⟩
    rw [<-y]
    simp only [N,cond_true,Dc rfl h,Ae,L,J,Al (by omega:(k:Int)<((Ad n).length:Int)),Dc rfl hb',U,S]
   .obtain ⟨f,d,y,x⟩:=key ((Ad m)[k]-c) (by omega) (by omega) (by rw [Eg _ h,Hy (Ad n) hb',Hy (Ad n) (by omega)]; grind)
    refine ⟨(f,((k+1:Nat):Int),o++[d]),?_,x (by omega),by simp; omega⟩
    rw [<-y]
    simp only [N,cond_true,Dc rfl h,Ae,L,J,Ar (by omega:¬(k:Int)<((Ad n).length:Int)),cond_false]
  .have G:k=(Ad m).length:=by omega
   subst G
   refine .inr ⟨o,by simp,c,l,g,I,hc,?_⟩
   rw [List.take_length,Hy _ E,D1,D1] at q
   exact q
 .rintro o ⟨c,h2,h3,h4,Z,Y⟩
  have D:=Hx h3
  rw [h2] at D
  have hp:=Ig (Ad m).length
  have:c=0:=by
   rcases Int.lt_or_le 0 c with hc | hc
   .have:c=1:=by omega
    subst this
    omega
   .omega
  subst this
  rw [M2 o (by omega),Ae,I4 h3 (n:=m-n) (by omega)]
theorem Abq (m d:Nat) (M:A6 m<1099511627776) (hd:0<d) (N:d<4294967296):Of (Ad m) d=some (Ad (m / d),((m % d:Nat):Int)):=by
 unfold Of
 unfold A6 at M
 rw [Hw rfl rfl (Nat.le_refl _) (by omega) (by omega)]
 simp only [Ae]
 have ha:=Du m
 have hw:Ac (((Ad m).length:Int)-1)=((Ad m).length:Int)-1:=by rw [Ac,Bo] <;> omega
 rw [hw]
 refine Gp (fun (r,i,o)=>∃k:Nat,i=(k:Int)-1/\k<=(Ad m).length/\o.length=(Ad m).length/\Bk o/\0<=r/\r<d/\Ah (o.drop k)*d+r=Ah ((Ad m).drop k))
  (fun (_,i,_)=>(i+1).toNat) (fun (r,o)=>o.length=(Ad m).length/\Bk o/\0<=r/\r<d/\Ah o*d+r=m)
  ⟨(Ad m).length,rfl,Nat.le_refl _,by simp,Bk.replicate _,by omega,by omega,by simp [Ah]⟩ ?_ ?_
 .rintro ⟨r,i,o⟩ ⟨k,rfl,hk,A,g,s,L,z⟩
  cases k with
  | zero=>exact .inr ⟨(r,o),by simp,A,g,s,L,by simpa [D1] using z⟩
  | succ j=>
   have hj:j<(Ad m).length:=by omega
   have h:j<o.length:=by omega
   have hx:=ha.get hj
   have X:((j+1:Nat):Int)-1=(j:Int):=by omega
   have V:decide ((j:Int)>=0)=true:=Al (by omega)
   have I:Ap (r*1000000000)=r*1000000000:=Cq (by omega) (by omega)
   have G:Ap (Ad m)[j]=(Ad m)[j]:=Cq (by omega) (by omega)
   have E:Ap (r*1000000000+(Ad m)[j])=r*1000000000+(Ad m)[j]:=Cq (by omega) (by omega)
   have b:(0:Int)<(d:Int):=by omega
   have c:0<=r*1000000000+(Ad m)[j]:=by omega
   have f:0<=(r*1000000000+(Ad m)[j]) / (d:Int):=Int.ediv_nonneg c (by omega)
   have u:(r*1000000000+(Ad m)[j]) / (d:Int)<1000000000:=by
    apply Int.ediv_lt_of_lt_mul b
    have:(r+1)*1000000000<=d*1000000000:=Int.mul_le_mul_of_nonneg_right (by omega) (by decide)
    omega
   have D:Bw ((r*1000000000+(Ad m)[j]) / (d:Int))=(r*1000000000+(Ad m)[j]) / (d:Int):=Ef f (by omega)
   have y:=Int.emod_nonneg (r*1000000000+(Ad m)[j]) (by omega:(d:Int)≠0)
   have x:=Int.emod_lt_of_pos (r*1000000000+(Ad m)[j]) b
   have B:Ac ((j:Int)-1)=(j:Int)-1:=by rw [Ac,Bo] <;> omega
   refine .inl ⟨((r*1000000000+(Ad m)[j]) % (d:Int),(j:Int)-1,o.set j ((r*1000000000+(Ad m)[j]) / (d:Int))),?_,⟨j,rfl,by omega,by simpa using A,g.set _ f u,y,x,?_⟩,by simp⟩
   .simp only [X,V,cond_true,Dc rfl hj,Dc rfl h,Ae,I,G,E,I3 c (by omega) b,Ic c b,D,B,Ey rfl]
   .have d1:(o.set j ((r*1000000000+(Ad m)[j]) / (d:Int))).drop j=((r*1000000000+(Ad m)[j]) / (d:Int))::o.drop (j+1):=by
     rw [List.drop_eq_getElem_cons (by simpa using h),List.drop_set_of_lt (by omega)]; simp
    rw [d1,List.drop_eq_getElem_cons hj]
    simp only [Ah]
    rw [<-z]
    have:=Int.mul_ediv_add_emod (r*1000000000+(Ad m)[j]) (d:Int)
    grind
 .rintro ⟨r,o⟩ ⟨h2,h3,U,S,R⟩
  simp only []
  have J:=Fh h3.u32
  have l:((m / d:Nat):Int)=Ah o/\((m % d:Nat):Int)=r:=by
   have b:(0:Int)<(d:Int):=by omega
   have e:=Int.ediv_emod_unique b (r:=r) (q:=Ah o) (a:=(m:Int))
   have:=e.2 ⟨by rw [<-R]; grind,U,S⟩
   exact ⟨by rw [Int.natCast_ediv]; exact this.1,by rw [Int.natCast_emod]; exact this.2⟩
  rw [M2 o (by omega),Ae,I4 h3 l.1.symm,l.2]
end Go.Ab
namespace Go.Ab
open Go
theorem Xz {x y:Int} (hx:0<=x) (c:x<1000000000) (hy:0<=y) (b:y<1000000000):0<=x*y/\x*y<=999999998000000001:=by
 refine ⟨Int.mul_nonneg hx hy,?_⟩
 have h1:x*y<=999999999*y:=Int.mul_le_mul_of_nonneg_right (by omega) hy
 omega
theorem Tw (m n:Nat) (hm:A6 m<549755813888) (hn:A6 n<549755813888):Ln (Ad m) (Ad n)=some (Ad (m*n)):=by
 unfold Ln
 unfold A6 at hm hn
 by_cases hz:m=0\/n=0
 .have:(show Option Bool from bif (((Ad m).length:Int)==(0:Int)) then some true else some (((Ad n).length:Int)==(0:Int)))=some true:=by
   show (bif (((Ad m).length:Int)==(0:Int)) then some true else some (((Ad n).length:Int)==(0:Int)))=some true
   by_cases h:m=0
   .subst h; rw [Eh]; rfl
   .have y:n=0:=by omega
    subst y
    rw [Cu (by have:=Gq h; have:(Ad m).length≠0:=fun e=>this (List.length_eq_zero_iff.1 e); omega),Eh]; rfl
  rw [this,Ae,cond_true]
  have:m*n=0:=by rcases hz with rfl | rfl <;> simp
  rw [this,Eh]
 .have I:m≠0:=by omega
  have y:n≠0:=by omega
  have aa:(Ad m).length≠0:=fun e=>Gq I (List.length_eq_zero_iff.1 e)
  have a8:(Ad n).length≠0:=fun e=>Gq y (List.length_eq_zero_iff.1 e)
  simp only [Cu (by omega:((Ad m).length:Int)≠0),Cu (by omega:((Ad n).length:Int)≠0),cond_false,Ae]
  have hw:Ac (((Ad m).length:Int)+((Ad n).length:Int))=(((Ad m).length+(Ad n).length:Nat):Int):=by rw [Ac,Bo] <;> omega
  rw [hw,Hw rfl rfl (Nat.le_refl _) (by omega) (by omega)]
  simp only [Ae]
  have ha:=Du m
  have hb:=Du n
  refine Gp (fun (i,o)=>∃k:Nat,i=k/\k<=(Ad m).length/\o.length=(Ad m).length+(Ad n).length/\Bk o/\o.drop (k+(Ad n).length)=List.replicate ((Ad m).length-k) 0/\Ah o=Ah ((Ad m).take k)*n)
   (fun (i,_)=>(Ad m).length-i.toNat) (fun o=>o.length=(Ad m).length+(Ad n).length/\Bk o/\Ah o=((m*n:Nat):Int))
   ⟨0,rfl,by omega,by simp,Bk.replicate _,by rw [List.drop_replicate]; congr 1; omega,by simp [Xq,Ah]⟩ ?_ ?_
  .rintro ⟨i,o⟩ ⟨k,rfl,hk,R,D,L,G⟩
   rcases Nat.lt_or_ge k (Ad m).length with h | h
   .have hx:=ha.get h
    have e4:=I6 h (by omega)
    have e5:decide ((k:Int)<((Ad m).length:Int))=true:=Al (by omega)
    simp only [e5,cond_true]
    refine .inl (Xn (Ew (fun (c,j,o')=>∃q:Nat,j=q/\q<=(Ad n).length/\o'.length=(Ad m).length+(Ad n).length/\Bk o'/\o'.drop (k+(Ad n).length)=List.replicate ((Ad m).length-k) 0/\0<=c/\c<1000000000 /\
      Ah o' + 1000000000 ^ (k+q)*c=Ah o+1000000000 ^ k*((Ad m)[k]*Ah ((Ad n).take q)))
     (fun (_,j,_)=>(Ad n).length-j.toNat) (fun (c,j,o')=>o'.length=(Ad m).length+(Ad n).length/\Bk o'/\o'.drop (k+(Ad n).length)=List.replicate ((Ad m).length-k) 0/\0<=c/\c<1000000000 /\
      Ah o' + 1000000000 ^ (k+(Ad n).length)*c=Ah o+1000000000 ^ k*((Ad m)[k]*n))
     ⟨0,rfl,by omega,R,D,L,by omega,by omega,by simp [Ah]⟩ ?_ ?_))
    .rintro ⟨c,j,o'⟩ ⟨q,rfl,hq,l,b,f,z,hc,x⟩
     rcases Nat.lt_or_ge q (Ad n).length with hq' | hq'
     .have hy:=hb.get hq'
      have g:k+q<o'.length:=by omega
      have a1:=b.get g
      have a6:=Xz hx.1 hx.2 hy.1 hy.2
      have Y:Ap (Ad m)[k]=(Ad m)[k]:=Cq (by omega) (by omega)
      have X:Ap (Ad n)[q]=(Ad n)[q]:=Cq (by omega) (by omega)
      have V:Ap ((Ad m)[k]*(Ad n)[q])=(Ad m)[k]*(Ad n)[q]:=Cq (by omega) (by omega)
      have U:Ap o'[k+q]=o'[k+q]:=Cq (by omega) (by omega)
      have S:Ap ((Ad m)[k]*(Ad n)[q]+o'[k+q])=(Ad m)[k]*(Ad n)[q]+o'[k+q]:=Cq (by omega) (by omega)
      have N:Ap ((Ad m)[k]*(Ad n)[q]+o'[k+q]+c)=(Ad m)[k]*(Ad n)[q]+o'[k+q]+c:=Cq (by omega) (by omega)
      have e6:=I6 hq' (by omega)
      have e7:decide ((q:Int)<((Ad n).length:Int))=true:=Al (by omega)
      have M:Ac ((k:Int)+(q:Int))=((k+q:Nat):Int):=by rw [Ac,Bo] <;> omega
      generalize hs:(Ad m)[k]*(Ad n)[q]+o'[k+q]+c=s at N
      have A:0<=s:=by omega
      have a7:s<1000000000000000000:=by omega
      have E:Bw (s % 1000000000)=s % 1000000000:=Ef (by omega) (by omega)
      refine .inl ⟨(s / 1000000000,((q+1:Nat):Int),o'.set (k+q) (s % 1000000000)),?_,⟨q+1,rfl,by omega,by simpa using l,b.set _ (by omega) (by omega),?_,by omega,by omega,?_⟩,by simp; omega⟩
      .simp only [e7,cond_true,Dc rfl h,Dc rfl hq',M,Dc rfl g,Ae,Y,X,V,U,S,hs,N,Ic A (show (0:Int)<1000000000 by decide),I3 A (show s<=_ by omega) (show (0:Int)<1000000000 by decide),E,e6,Ey rfl]
      .rw [List.drop_set_of_lt (by omega)]; exact f
      .rw [Jp _ g,Eg _ hq']
       have:=Int.mul_ediv_add_emod s 1000000000
       have Z:(1000000000:Int) ^ (k+(q+1))=1000000000 ^ (k+q)*1000000000:=by rw [<-Nat.add_assoc,Int.pow_succ]
       have p2:(1000000000:Int) ^ (k+q)=1000000000 ^ k*1000000000 ^ q:=Int.pow_add ..
       rw [Z]
       grind
     .have:q=(Ad n).length:=by omega
      subst this
      refine .inr ⟨(c,_,o'),by simp; rfl,l,b,f,z,hc,?_⟩
      rw [List.take_length,D1] at x
      exact x
    .rintro ⟨c,j,o'⟩ ⟨l,b,f,z,hc,x⟩
     have M:Ac ((k:Int)+((Ad n).length:Int))=((k+(Ad n).length:Nat):Int):=by rw [Ac,Bo] <;> omega
     have g:k+(Ad n).length<o'.length:=by omega
     have E:Bw c=c:=Ef (by omega) (by omega)
     have u:o'[k+(Ad n).length]=0:=by
      have:=congrArg List.head? f
      rw [List.head?_drop,Ck g] at this
      have B:(List.replicate ((Ad m).length-k) (0:Int)).head? = some 0:=by
       cases hh:(Ad m).length-k with
       | zero=>omega
       | succ t=>rfl
      rw [B] at this
      exact Option.some.inj this
     refine ⟨_,by simp only [M,Dc rfl g,Ae,E,e4,Ey rfl]; rfl,_,rfl,⟨k+1,rfl,by omega,by simpa using l,b.set _ z hc,?_,?_⟩,by simp; omega⟩
     .rw [List.drop_set_of_lt (by omega),show k+1+(Ad n).length=(k+(Ad n).length)+1 by omega,<-List.drop_drop,f,List.drop_replicate]
      congr 1
     .rw [Jp _ g,u,Eg _ h,Int.add_mul,<-G]
      grind
   .have J:k=(Ad m).length:=by omega
    subst J
    refine .inr ⟨o,by simp,R,D,?_⟩
    rw [List.take_length,D1] at G
    rw [G]; simp
  .rintro o ⟨h2,h3,h4⟩
   rw [M2 o (by omega),Ae,I4 h3 h4]
theorem Ahw (a:List Int) (m:Nat) (ha:Bk a) (X:a.length<1099511627776) (V:m<1000000000) :
  ∃o,Qk a m=some o/\o.length=a.length+1/\Bk o/\Ah o=Ah a*m:=by
 unfold Qk
 have u:Ac ((a.length:Int)+1)=((a.length+1:Nat):Int):=by rw [Ac,Bo] <;> omega
 rw [u,Hw rfl rfl (Nat.le_refl _) (by omega) (by omega)]
 simp only [Ae]
 refine Ew (fun (c,i,o)=>∃k:Nat,i=k/\k<=a.length/\o.length=a.length+1/\Bk o/\o.drop k=List.replicate (a.length+1-k) 0/\0<=c/\c<1000000000/\Ah o+1000000000 ^ k*c=Ah (a.take k)*m)
  (fun (_,i,_)=>a.length-i.toNat) (fun (c,o)=>o.length=a.length+1/\Bk o/\o.drop a.length = [0]/\0<=c/\c<1000000000/\Ah o+1000000000 ^ a.length*c=Ah a*m)
  ⟨0,rfl,by omega,by simp,Bk.replicate _,by simp,by omega,by omega,by simp [Ah,Xq]⟩ ?_ ?_
 .rintro ⟨c,i,o⟩ ⟨k,rfl,hk,B,q,g,z,hc,I⟩
  rcases Nat.lt_or_ge k a.length with h | h
  .have hx:=ha.get h
   have f:k<o.length:=by omega
   have G:=Xz hx.1 hx.2 (show (0:Int)<=m by omega) (by omega)
   have U:=I6 h (by omega)
   have S:decide ((k:Int)<(a.length:Int))=true:=Al (by omega)
   have E:Ap a[k]=a[k]:=Cq (by omega) (by omega)
   have D:Ap (a[k]*(m:Int))=a[k]*m:=Cq (by omega) (by omega)
   have A:Ap (a[k]*(m:Int)+c)=a[k]*m+c:=Cq (by omega) (by omega)
   have b:o[k]=0:=by
    have:=congrArg List.head? g
    rw [List.head?_drop,Ck f] at this
    have l:(List.replicate (a.length+1-k) (0:Int)).head? = some 0:=by
     cases Y:a.length+1-k with
     | zero=>omega
     | succ t=>rfl
    rw [l] at this
    exact Option.some.inj this
   generalize L:a[k]*(m:Int)+c=s at A
   have j:0<=s:=by omega
   have J:s<1000000000000000000:=by omega
   have x:Bw (s % 1000000000)=s % 1000000000:=Ef (by omega) (by omega)
   refine .inl ⟨(s / 1000000000,((k+1:Nat):Int),o.set k (s % 1000000000)),?_,⟨k+1,rfl,by omega,by simpa using B,q.set _ (by omega) (by omega),?_,by omega,by omega,?_⟩,by simp; omega⟩
   .simp only [S,cond_true,Dc rfl h,Dc rfl f,Ae,E,D,L,A,Ic j (show (0:Int)<1000000000 by decide),I3 j (show s<=_ by omega) (show (0:Int)<1000000000 by decide),x,U,Ey rfl]
   .rw [List.drop_set_of_lt (by omega),<-List.drop_drop,g,List.drop_replicate]; congr 1
   .rw [Jp _ f,b,Eg _ h,Int.pow_succ]
    have:=Int.mul_ediv_add_emod s 1000000000
    grind
  .have y:k=a.length:=by omega
   subst y
   refine .inr ⟨(c,o),by simp,B,q,by rw [g]; simp,z,hc,by rwa [List.take_length] at I⟩
 .rintro ⟨c,o⟩ ⟨h2,h3,g,R,N,M⟩
  have f:a.length<o.length:=by omega
  have x:Bw c=c:=Ef (by omega) (by omega)
  have b:o[a.length]=0:=by
   have:=congrArg List.head? g
   rw [List.head?_drop,Ck f] at this
   exact Option.some.inj this
  refine ⟨o.set a.length c,by simp only [Dc rfl f,Ae,x,Ey rfl],by simpa using h2,h3.set _ R N,?_⟩
  rw [Jp _ f,b,<-M]; grind
end Go.Ab
namespace Go.Ab
open Go
theorem M3 {α:Type} {l:List α} {off n:Nat} {i:Int} {k:Nat} (b:i=k) (hk:k<n) (h:off+k<l.length):Hs l off n i=some l[off+k]:=by
 subst b
 have h1:(0:Int)<=(k:Int):=by omega
 have h2:(k:Int)<(n:Int):=by omega
 simp [Hs,hk,h]
theorem Arf {P j k tb hb V U q g B:Int} (i:0<P) (u:V=j+P*tb) (l:0<=j) (x:U=k+P*hb) (s:k<P) (hq:q*V<=U) (c:0<=g) (h:hb<g*tb) (b:0<=tb):q<g:=by
 rcases Int.lt_or_le q g with h' | h'
 .exact h'
 .exfalso
  have f:0<=V:=by
   have:=Int.mul_nonneg (Int.le_of_lt i) b
   omega
  have h1:g*V<=q*V:=Int.mul_le_mul_of_nonneg_right h' f
  have h2:g*(P*tb)<=g*V:=Int.mul_le_mul_of_nonneg_left (by omega) c
  have h3:P*(hb+1)<=P*(g*tb):=Int.mul_le_mul_of_nonneg_left (by omega) (Int.le_of_lt i)
  have z:g*(P*tb)=P*(g*tb):=by grind
  have y:P*(hb+1)=P*hb+P:=by grind
  omega
theorem Ahx {P j k tb hb V U q g:Int} (i:0<P) (y:V=j+P*tb) (s:j<P) (z:U=k+P*hb) (u:0<=k) (hq:U<(q+1)*V) (l:0<=g) (hgt:g<=tb+1) (h:g*tb<=hb) (b:0<V):g<=q+1:=by
 rcases Int.lt_or_le (q+1) g with h' | h'
 .exfalso
  have f:0<=g-1:=by
   rcases Int.lt_or_le g 1 with h2 | h2
   .have:g=0:=by omega
    subst this
    have c:q+1<0:=h'
    have:(q+1)*V<0:=Int.mul_neg_of_neg_of_pos c b
    have h0:0<=hb:=by simpa using h
    have:=Int.mul_nonneg (Int.le_of_lt i) h0
    omega
   .omega
  have h1:(q+1)*V<=(g-1)*V:=Int.mul_le_mul_of_nonneg_right (by omega) (Int.le_of_lt b)
  have x:P*(tb+1)=P*tb+P:=by grind
  have h2:(g-1)*V<=(g-1)*(P*(tb+1)):=Int.mul_le_mul_of_nonneg_left (by omega) f
  have h3:(g-1)*(P*(tb+1))=P*(g*tb+(g-tb-1)):=by grind
  have A:P*(g*tb+(g-tb-1))<=P*hb:=Int.mul_le_mul_of_nonneg_left (by omega) (Int.le_of_lt i)
  omega
 .exact h'
theorem Arg {A C:Type} {X:Option (A×C)} {Q:A->C->Prop} (h:∃r,X=some r/\Q r.1 r.2):∃q o,X=some (q,o)/\Q q o:=by
 obtain ⟨⟨a,c⟩,h1,h2⟩:=h
 exact ⟨a,c,h1,h2⟩
theorem al1 {g t r h:Int} (k:g*t+r=h):(g-1)*t+(r+t)=h:=by grind
theorem al2 {o P s x b p d:Int} (e:s-1000000000*d=x-b-p):o+P*(s-x)-P*1000000000*d=(o-P*b)-P*p:=by grind
theorem al3 (b X K g A y:Int):b-X*(g*A)-X*K*(g*y)=b-X*(g*(A+K*y)):=by grind
theorem al4 {u X W N c U b g V:Int} (h:u+X*(W+N*c-U)-X*N*b=u-X*(g*V)):X*(U-g*V)=X*(W+N*(c-b)):=by grind
theorem al5 (u X q:Int):u-X*q-u=X*(-q):=by grind
theorem al6 {o P x b r:Int} (h:o-P*b=r):o+P*(x-b-x)=r:=by grind
theorem al7 {b X K c s x y o A:Int} (g:x+y+c=s) (f:1000000000*(s / 1000000000)+s % 1000000000=s) (h:b+X*K*c=o+X*A):b+X*K*(s % 1000000000-x)+X*K*1000000000*(s / 1000000000)=o+X*(A+K*y):=by grind
theorem al8 {o X N b u q V W f U c:Int} (h1:o-X*N*b=u-X*((q+1)*V)) (h2:u+X*(W+N*f-U)+X*N*c=o+X*V):X*(U-q*V)=X*(W+N*(f-b+c)):=by grind
theorem al9 {g P c o X V b u q f:Int} (h1:g+P*c=o+X*V) (h2:o-P*b=u-X*((q+1)*V)) (h3:f=b-c):g+P*(0-f)=u-X*(q*V):=by grind
theorem gtb {g t r h x:Int} (k:g*t+r=h):g*(t*1000000000+x)=(h-r)*1000000000+g*x:=by subst k; grind
theorem Abr {k:Nat} {x y:Int} (h:(1000000000:Int) ^ k*x=1000000000 ^ k*y):x=y:=Int.eq_of_mul_eq_mul_left (by have:=Ig k; omega) h
theorem Ahy {o u:List Int} {off:Nat} (b:off<=o.length) (hu:off<=u.length) (h:o.take off=u.take off):Ah o-Ah u=1000000000 ^ off*(Ah (o.drop off)-Ah (u.drop off)):=by
 rw [K1 o off b,K1 u off hu,h]; grind
theorem X0 {l:List Int} (h:Bk l) (k:Nat):0<=Ah (l.drop k):=Fh (h.drop k).u32
theorem Arh {D:List Int} (b:Bk D) {n:Nat} (h2:2<=n) (i:n<D.length) (g:Ah D<1000000000 ^ (n+1)) :
  Ah D=Ah (D.take (n-2))+1000000000 ^ (n-2)*((D[n]*1000000000+D[n-1])*1000000000+D[n-2]):=by
 have e:=K1 D (n+1) i
 have h0:Ah (D.drop (n+1))=0:=by
  have s:=X0 b (n+1)
  have ht:=Fh ((b.take (n+1)).u32)
  rcases Int.lt_or_le 0 (Ah (D.drop (n+1))) with h | h
  .have:(1000000000:Int) ^ (n+1)*1<=1000000000 ^ (n+1)*Ah (D.drop (n+1)):=Int.mul_le_mul_of_nonneg_left h (Int.le_of_lt (Ig _))
   omega
  .omega
 rw [h0,Int.mul_zero,Int.add_zero] at e
 obtain ⟨t,rfl⟩:∃t,n=t+2:=⟨n-2,by omega⟩
 have q:=Eg D (k:=t) (by omega)
 have l:=Eg D (k:=t+1) (by omega)
 have j:=Eg D (k:=t+2) (by omega)
 have f:(1000000000:Int) ^ (t+1)=1000000000 ^ t*1000000000:=Int.pow_succ ..
 have c:(1000000000:Int) ^ (t+2)=1000000000 ^ (t+1)*1000000000:=Int.pow_succ ..
 have i1:t+2-2=t:=rfl
 have i2:t+2-1=t+1:=rfl
 simp only [i1,i2]
 rw [e,j,l,q,c,f]
 grind
theorem Ari {v:List Int} {n:Nat} (h2:2<=n) (g:v.length=n) :
  Ah v=Ah (v.take (n-2))+1000000000 ^ (n-2)*(v[n-1]*1000000000+v[n-2]):=by
 obtain ⟨t,rfl⟩:∃t,n=t+2:=⟨n-2,by omega⟩
 have f:=Eg v (k:=t) (by omega)
 have b:=Eg v (k:=t+1) (by omega)
 have e:v.take (t+1+1)=v:=List.take_of_length_le (by omega)
 rw [e] at b
 have c:(1000000000:Int) ^ (t+1)=1000000000 ^ t*1000000000:=Int.pow_succ ..
 have i1:t+2-2=t:=rfl
 have i2:t+2-1=t+1:=rfl
 simp only [i1,i2]
 rw [b,f,c]
 grind
set_option maxHeartbeats 1000000 in
theorem Arj (v u:List Int) (off n:Nat) (hv:Bk v) (hu:Bk u) (hn:v.length=n) (h2:2<=n) (bz:n<1099511627776) (bn:500000000<=v[n-1]) (X:off+n<u.length) (hT:Ah (u.drop off)<Ah v*1000000000) :
  ∃q o,Tg off (n+1) v u=some (q,o)/\o.length=u.length/\Bk o/\0<=q/\q<1000000000/\Ah o=Ah u-1000000000 ^ off*(q*Ah v)/\0<=Ah (o.drop off)/\Ah (o.drop off)<Ah v:=by
 have b7:=Hx hv
 rw [hn] at b7
 have c3:(u.drop off).length=u.length-off:=List.length_drop
 have A:=hu.drop off
 have bm:=Fh A.u32
 have b9:Ah (u.drop off)<1000000000 ^ (n+1):=by rw [Int.pow_succ]; omega
 have ab:=Arh A h2 (by omega) b9
 have ao:=Ari h2 hn
 have gd:∀i (h:i<(u.drop off).length),(u.drop off)[i]=u[off+i]'(by omega):=fun i h=>List.getElem_drop
 rw [gd,gd,gd] at ab
 have bq:=hu.get (i:=off+n) (by omega)
 have bt:=hu.get (i:=off+(n-1)) (by omega)
 have br:=hu.get (i:=off+(n-2)) (by omega)
 have bu:=hv.get (i:=n-1) (by omega)
 have ad:=hv.get (i:=n-2) (by omega)
 have hP:=Ig (n-2)
 have b8:=Fh ((hv.take (n-2)).u32)
 have aa:=Hx (hv.take (n-2))
 rw [List.length_take,Nat.min_eq_left (by omega)] at aa
 have bb:=Fh ((A.take (n-2)).u32)
 have ba:=Hx (A.take (n-2))
 rw [List.length_take,Nat.min_eq_left (by omega)] at ba
 have y:0<Ah v:=by
  have:(1000000000:Int) ^ (n-2)*1<=1000000000 ^ (n-2)*(v[n-1]*1000000000+v[n-2]):=Int.mul_le_mul_of_nonneg_left (by omega) (Int.le_of_lt hP)
  omega
 generalize hq:Ah (u.drop off) / Ah v=q
 have bh:q*Ah v<=Ah (u.drop off):=by rw [<-hq]; exact Int.ediv_mul_le _ (by omega)
 have ar:Ah (u.drop off)<(q+1)*Ah v:=by
  rw [<-hq]
  have:=Int.lt_ediv_add_one_mul_self (Ah (u.drop off)) y
  exact this
 have ag:0<=q:=by rw [<-hq]; exact Int.ediv_nonneg bm (by omega)
 have bf:q<1000000000:=by rw [<-hq]; exact Int.ediv_lt_of_lt_mul y (by rw [Int.mul_comm]; exact hT)
 have l:(0:Int)<v[n-1]:=by omega
 generalize ak:u[off+n]*1000000000+u[off+(n-1)]=head at ab
 have am:0<=head:=by omega
 have c1:head<=v[n-1]*1000000000+v[n-2]:=by
  rcases Int.lt_or_le (v[n-1]*1000000000+v[n-2]) head with h | h
  .exfalso
   have a1:(1000000000:Int) ^ (n-2)*((v[n-1]*1000000000+v[n-2]+1)*1000000000)<=1000000000 ^ (n-2)*(head*1000000000+u[off+(n-2)]):=Int.mul_le_mul_of_nonneg_left (by omega) (Int.le_of_lt hP)
   have a2:Ah v*1000000000<(1000000000 ^ (n-2)*(v[n-1]*1000000000+v[n-2]+1))*1000000000:=by
    have:(1000000000:Int) ^ (n-2)*(v[n-1]*1000000000+v[n-2]+1)=1000000000 ^ (n-2)*(v[n-1]*1000000000+v[n-2])+1000000000 ^ (n-2):=by grind
    omega
   have a3:((1000000000:Int) ^ (n-2)*(v[n-1]*1000000000+v[n-2]+1))*1000000000=1000000000 ^ (n-2)*((v[n-1]*1000000000+v[n-2]+1)*1000000000):=by grind
   omega
  .exact h
 have c2:0<=head / v[n-1]:=Int.ediv_nonneg am (by omega)
 have bk:head / v[n-1]<=1000000001:=by
  have:head / v[n-1]<1000000002:=Int.ediv_lt_of_lt_mul l (by omega)
  omega
 have be:=Int.emod_nonneg head (by omega:v[n-1]≠0)
 have bw:=Int.emod_lt_of_pos head l
 have bl:=Int.mul_ediv_add_emod head v[n-1]
 unfold Tg
 have w1:Ac ((v.length:Int)-1)=((n-1:Nat):Int):=by rw [Ac,Bo] <;> omega
 have w2:Ac ((v.length:Int)-2)=((n-2:Nat):Int):=by rw [Ac,Bo] <;> omega
 have w3:(v.length:Int)=((n:Nat):Int):=by omega
 have x1:Ap u[off+n]=u[off+n]:=Cq (by omega) (by omega)
 have x2:Ap (u[off+n]*1000000000)=u[off+n]*1000000000:=Cq (by omega) (by omega)
 have x3:Ap u[off+(n-1)]=u[off+(n-1)]:=Cq (by omega) (by omega)
 have x4:Ap (u[off+n]*1000000000+u[off+(n-1)])=head:=by rw [Ap,Cq (by omega) (by omega),ak]
 have x5:Ap v[n-1]=v[n-1]:=Cq (by omega) (by omega)
 have x6:Ap v[n-2]=v[n-2]:=Cq (by omega) (by omega)
 have x7:Ap u[off+(n-2)]=u[off+(n-2)]:=Cq (by omega) (by omega)
 rw [w1,w2,Dc rfl (by omega:n-1<v.length),Ae,Dc rfl (by omega:n-2<v.length),Ae,w3,M3 rfl (by omega:n<n+1) (by omega),Ae,M3 rfl (by omega:n-1<n+1) (by omega),Ae,x1,x2,x3,x4,x5,x6,I3 am (by omega) l,Ae,Ic am l,Ae]
 refine Arg (Ew (fun (g,rest)=>g*v[n-1]+rest=head/\0<=rest/\rest<2000000000/\q<=g/\g<=1000000001) (fun (g,_)=>g.toNat) (fun g=>q<=g/\g<=q+1/\g<=1000000000)
  ⟨by rw [Int.mul_comm]; exact bl,be,by omega,?_,bk⟩ ?_ ?_)
 .
  rcases Int.lt_or_le (head / v[n-1]) q with h | h
  .exfalso
   have a1:(head / v[n-1]+1)*v[n-1]<=q*v[n-1]:=Int.mul_le_mul_of_nonneg_right (by omega) (by omega)
   have a2:head<(head / v[n-1]+1)*v[n-1]:=Int.lt_ediv_add_one_mul_self head l
   have a3:q*(1000000000 ^ (n-2)*(v[n-1]*1000000000+v[n-2]))<=q*Ah v:=Int.mul_le_mul_of_nonneg_left (by omega) ag
   have a4:(1000000000:Int) ^ (n-2)*((head+1)*1000000000)<=1000000000 ^ (n-2)*(q*(v[n-1]*1000000000+v[n-2])):=by
    apply Int.mul_le_mul_of_nonneg_left _ (Int.le_of_lt hP)
    have b1:(head+1)*1000000000<=q*v[n-1]*1000000000:=by omega
    have b2:0<=q*v[n-2]:=Int.mul_nonneg ag ad.1
    have b3:q*(v[n-1]*1000000000+v[n-2])=q*v[n-1]*1000000000+q*v[n-2]:=by grind
    omega
   have a5:q*((1000000000:Int) ^ (n-2)*(v[n-1]*1000000000+v[n-2]))=1000000000 ^ (n-2)*(q*(v[n-1]*1000000000+v[n-2])):=by grind
   have a6:(1000000000:Int) ^ (n-2)*((head+1)*1000000000)=1000000000 ^ (n-2)*(head*1000000000)+1000000000 ^ (n-2)*1000000000:=by grind
   have a7:(1000000000:Int) ^ (n-2)*(head*1000000000+u[off+(n-2)])=1000000000 ^ (n-2)*(head*1000000000)+1000000000 ^ (n-2)*u[off+(n-2)]:=by grind
   have a8:(1000000000:Int) ^ (n-2)*(u[off+(n-2)]+1)<=1000000000 ^ (n-2)*1000000000:=Int.mul_le_mul_of_nonneg_left (by omega) (Int.le_of_lt hP)
   have a9:(1000000000:Int) ^ (n-2)*(u[off+(n-2)]+1)=1000000000 ^ (n-2)*u[off+(n-2)]+1000000000 ^ (n-2):=by grind
   omega
  .exact h
 .rintro ⟨g,rest⟩ ⟨k1,k2,k3,k4,k5⟩
  have S:0<=g:=by omega
  have w4:Ap (v[n-1])=v[n-1]:=x5
  have af:∀(hgt:q<g),(some (Sum.inl ((Ap (g-1)),(Ap (rest+v[n-1])))):Option ((Int×Int)⊕Int))=some (.inl (g-1,rest+v[n-1])):=by
   intro hgt
   rw [show Ap (g-1)=g-1 from Cq (by omega) (by omega),show Ap (rest+v[n-1])=rest+v[n-1] from Cq (by omega) (by omega)]
  have stay:∀(hr:rest<1000000000) (hgt:q<g),(g-1)*v[n-1]+(rest+v[n-1])=head/\0<=rest+v[n-1]/\rest+v[n-1]<2000000000/\q<=g-1/\g-1<=1000000001:=by
   intro hr hgt
   exact ⟨al1 k1,by omega,by omega,by omega,by omega⟩
  by_cases hr:rest<1000000000
  .by_cases Y:g>=1000000000
   .refine .inl ⟨(g-1,rest+v[n-1]),?_,stay hr (by omega),by simp; omega⟩
    simp only [Al hr,cond_true,Al Y,Ae]
    exact af (by omega)
   .have bp:=Xz S (by omega) ad.1 ad.2
    have y1:Ap (g*v[n-2])=g*v[n-2]:=Cq (by omega) (by omega)
    have y2:Ap (rest*1000000000)=rest*1000000000:=Cq (by omega) (by omega)
    have y3:Ap (rest*1000000000+u[off+(n-2)])=rest*1000000000+u[off+(n-2)]:=Cq (by omega) (by omega)
    have az:g*(v[n-1]*1000000000+v[n-2])=(head-rest)*1000000000+g*v[n-2]:=gtb k1
    simp only [Al hr,cond_true,Ar Y,cond_false,M3 rfl (by omega:n-2<n+1) (by omega:off+(n-2)<u.length),Ae,y1,x7,y2,y3]
    by_cases ae:g*v[n-2]>rest*1000000000+u[off+(n-2)]
    .have hgt:q<g:=Arf (P:=1000000000 ^ (n-2)) (tb:=v[n-1]*1000000000+v[n-2]) (hb:=head*1000000000+u[off+(n-2)]) (B:=0) hP ao b8 ab ba bh S (by omega) (by omega)
     refine .inl ⟨(g-1,rest+v[n-1]),?_,stay hr hgt,by simp; omega⟩
     rw [Al ae,cond_true]
     exact af hgt
    .refine .inr ⟨g,by rw [Ar ae,cond_false],k4,?_,by omega⟩
     exact Ahx (P:=1000000000 ^ (n-2)) (tb:=v[n-1]*1000000000+v[n-2]) (hb:=head*1000000000+u[off+(n-2)]) hP ao aa ab bb ar S (by omega) (by omega) y
  .refine .inr ⟨g,by simp only [Ar hr,cond_false,Ae],k4,?_⟩
   have Y:g<=1000000000:=by
    rcases Int.lt_or_le 1000000000 g with h | h
    .exfalso
     have:g=1000000001:=by omega
     subst this
     omega
    .exact h
   refine ⟨?_,Y⟩
   have az:g*(v[n-1]*1000000000+v[n-2])=(head-rest)*1000000000+g*v[n-2]:=gtb k1
   have bo:g*v[n-2]<=1000000000*v[n-2]:=Int.mul_le_mul_of_nonneg_right Y ad.1
   exact Ahx (P:=1000000000 ^ (n-2)) (tb:=v[n-1]*1000000000+v[n-2]) (hb:=head*1000000000+u[off+(n-2)]) hP ao aa ab bb ar S (by omega) (by omega) y
 .rintro g ⟨k1,k2,k3⟩
  have S:0<=g:=by omega
  refine Ew (fun (b,i,o)=>∃k:Nat,i=k/\k<=n/\o.length=u.length/\Bk o/\o.take off=u.take off/\o.drop (off+k)=u.drop (off+k)/\0<=b/\b<=1000000001/\Ah o-1000000000 ^ (off+k)*b=Ah u-1000000000 ^ off*(g*Ah (v.take k)))
   (fun (_,i,_)=>n-i.toNat) (fun (b,o)=>o.length=u.length/\Bk o/\o.take off=u.take off/\o.drop (off+n)=u.drop (off+n)/\0<=b/\b<=1000000001/\Ah o-1000000000 ^ (off+n)*b=Ah u-1000000000 ^ off*(g*Ah v))
   ⟨0,rfl,by omega,rfl,hu,rfl,rfl,by omega,by omega,by simp [Ah]⟩ ?_ ?_
  .rintro ⟨b,i,o⟩ ⟨k,rfl,hk,ho,I,M,L,b6,b5,f⟩
   rcases Nat.lt_or_ge k n with h | h
   .have E:off+k<o.length:=by omega
    have J:k<v.length:=by omega
    have hx:=I.get E
    have hy:=hv.get J
    have e4:=I6 h (by omega)
    have e5:decide ((k:Int)<(n:Int))=true:=Al (by omega)
    have av:0<=g*v[k]:=Int.mul_nonneg S hy.1
    have bx:g*v[k]<=1000000000*v[k]:=Int.mul_le_mul_of_nonneg_right k3 hy.1
    have y1:Ap v[k]=v[k]:=Cq (by omega) (by omega)
    have y2:Ap (g*v[k])=g*v[k]:=Cq (by omega) (by omega)
    have y3:Ac o[off+k]=o[off+k]:=Bo (by omega) (by omega)
    generalize au:g*v[k]=p at *
    have y4:Ac (o[off+k]-b)=o[off+k]-b:=Bo (by omega) (by omega)
    have y5:Ac (p % 1000000000)=p % 1000000000:=Bo (by omega) (by omega)
    have y6:Ac (o[off+k]-b-p % 1000000000)=o[off+k]-b-p % 1000000000:=Bo (by omega) (by omega)
    have y7:Ac (p / 1000000000)=p / 1000000000:=Bo (by omega) (by omega)
    simp only [e5,cond_true,M3 rfl (by omega:k<n+1) E,Dc rfl J,Ae,y1,y2,au,y3,y4,Ic av (show (0:Int)<1000000000 by decide),I3 av (show p<=_ by omega) (show (0:Int)<1000000000 by decide),y5,y6,y7]
    refine .inl (Xn (Ew (fun (b',s)=>∃t:Nat,b'=p / 1000000000+t/\s=o[off+k]-b-p % 1000000000+t*1000000000/\s<1000000000/\t<=3) (fun (_,s)=>(-s).toNat)
     (fun (b',s)=>∃t:Nat,b'=p / 1000000000+t/\s=o[off+k]-b-p % 1000000000+t*1000000000/\s<1000000000/\0<=s/\t<=2) ⟨0,by simp,by simp,by omega,by omega⟩ ?_ ?_))
    .rintro ⟨b',s⟩ ⟨t,rfl,hs,ac,ht⟩
     by_cases G:s<0
     .refine .inl ⟨(p / 1000000000+(t+1:Nat),s+1000000000),?_,⟨t+1,rfl,by rw [hs]; simp; omega,by omega,by omega⟩,by simp; omega⟩
      rw [Al G,cond_true,show Ac (p / 1000000000+(t:Int)+1)=p / 1000000000+((t+1:Nat):Int) by rw [Ac,Bo] <;> omega,show Ac (s+1000000000)=s+1000000000 from Bo (by omega) (by omega)]
     .exact .inr ⟨(p / 1000000000+t,s),by rw [Ar G,cond_false],t,rfl,hs,ac,by omega,by omega⟩
    .rintro ⟨b',s⟩ ⟨t,rfl,hs,ac,G,ht⟩
     have y8:Bw s=s:=Ef (by omega) (by omega)
     refine ⟨.inl (p / 1000000000+t,((k+1:Nat):Int),o.set (off+k) s),by simp only [M3 rfl (by omega:k<n+1) E,Ae,y8,e4]; rw [Ey (n:=off+k) (by omega)],_,rfl,⟨k+1,rfl,by omega,by simpa using ho,I.set _ G ac,?_,?_,by omega,by omega,?_⟩,by simp; omega⟩
     .rw [List.take_set_of_le (by omega)]; exact M
     .rw [List.drop_set_of_lt (by omega),show off+(k+1)=(off+k)+1 by omega,<-List.drop_drop,L,List.drop_drop]
     .rw [Jp _ E,Eg v J,show off+(k+1)=(off+k)+1 by omega,Int.pow_succ]
      have ay:=Int.mul_ediv_add_emod p 1000000000
      have pa:(1000000000:Int) ^ (off+k)=1000000000 ^ off*1000000000 ^ k:=Int.pow_add ..
      have eA:s-1000000000*(p / 1000000000+(t:Int))=o[off+k]-b-p:=by rw [hs]; omega
      rw [al2 eA,f,<-au,pa]
      exact al3 _ _ _ _ _ _
   .have aj:k=n:=by omega
    subst aj
    refine .inr ⟨(b,o),by simp,ho,I,M,L,b6,b5,?_⟩
    rw [List.take_of_length_le (by omega)] at f
    exact f
  .rintro ⟨b,o⟩ ⟨ho,I,M,L,b6,b5,f⟩
   have hV:=y
   have ah:off+n<o.length:=by omega
   have ax:o[off+n]=u[off+n]:=by
    have:=congrArg List.head? L
    rw [List.head?_drop,List.head?_drop,Ck ah,Ck X] at this
    exact Option.some.inj this
   have hE:Ah (u.drop (off+n))=u[off+n]:=by
    have a1:=K1 (u.drop off) (n+1) (by omega)
    have a2:=Fh (((hu.drop off).take (n+1)).u32)
    have a3:=X0 (hu.drop off) (n+1)
    have a4:Ah ((u.drop off).drop (n+1))=0:=by
     rcases Int.lt_or_le 0 (Ah ((u.drop off).drop (n+1))) with h | h
     .have:(1000000000:Int) ^ (n+1)*1<=1000000000 ^ (n+1)*Ah ((u.drop off).drop (n+1)):=Int.mul_le_mul_of_nonneg_left h (Int.le_of_lt (Ig _))
      omega
     .omega
    rw [List.drop_eq_getElem_cons X]
    simp only [Ah]
    rw [List.drop_drop,show off+(n+1)=off+n+1 by omega] at a4
    rw [a4]; omega
   have main:∀o':List Int,o'.length=u.length->Bk o'->o'.take off=u.take off->o'.drop (off+n)=u.drop (off+n)->0<=Ah ((o'.drop off).take n)/\Ah ((o'.drop off).take n)<1000000000 ^ n /\
     Ah o'=Ah u+1000000000 ^ off*(Ah ((o'.drop off).take n)+1000000000 ^ n*u[off+n]-Ah (u.drop off)):=by
    intro o' l1 l2 l3 l4
    have a1:=K1 (o'.drop off) n (by rw [List.length_drop]; omega)
    rw [List.drop_drop,l4,hE] at a1
    have a2:=Ahy (by omega) (by omega) l3
    refine ⟨Fh (((l2.drop off).take n).u32),?_,by rw [<-a1]; omega⟩
    have:=Hx ((l2.drop off).take n)
    rw [List.length_take,List.length_drop,Nat.min_eq_left (by omega)] at this
    exact this
   obtain ⟨m1,m2,m3⟩:=main o ho I M L
   have pa:(1000000000:Int) ^ (off+n)=1000000000 ^ off*1000000000 ^ n:=Int.pow_add ..
   have star:Ah (u.drop off)-g*Ah v=Ah ((o.drop off).take n)+1000000000 ^ n*(u[off+n]-b):=by
    apply Abr (k:=off)
    rw [m3,pa] at f
    exact al4 f
   have y1:Ac u[off+n]=u[off+n]:=Bo (by omega) (by omega)
   have y2:Ac (u[off+n]-b)=u[off+n]-b:=Bo (by omega) (by omega)
   have ap:=Ig n
   have fin:∀(U:List Int) (x:Int) (j:List Int),U=j.set (off+n) x->j.length=u.length->Bk j->0<=x->x<1000000000->j.take off=u.take off->Ah U=Ah u-1000000000 ^ off*(q*Ah v) ->
     U.length=u.length/\Bk U/\0<=q/\q<1000000000/\Ah U=Ah u-1000000000 ^ off*(q*Ah v)/\0<=Ah (U.drop off)/\Ah (U.drop off)<Ah v:=by
    intro U x j e l1 l2 x0 x1 l3 aq
    have L4:U.length=u.length:=by rw [e]; simpa using l1
    have T4:U.take off=u.take off:=by rw [e,List.take_set_of_le (by omega)]; exact l3
    have hp:=Ahy (by omega) (by omega) T4
    have hd:Ah (U.drop off)=Ah (u.drop off)-q*Ah v:=by
     have:Ah (U.drop off)-Ah (u.drop off) = - (q*Ah v):=by
      apply Abr (k:=off)
      rw [<-hp,aq]; exact al5 _ _ _
     omega
    have bg:(q+1)*Ah v=q*Ah v+Ah v:=by grind
    exact ⟨L4,by rw [e]; exact l2.set _ x0 x1,ag,bf,aq,by omega,by omega⟩
   simp only [M3 rfl (by omega:n<n+1) ah,ax,Ae,y1,y2]
   by_cases z:u[off+n]-b>=0
   .have c0:g*Ah v<=Ah (u.drop off):=by
     have:=Int.mul_nonneg (Int.le_of_lt ap) z
     omega
    have R:g=q:=by
     rcases Int.lt_or_le q g with h | h
     .exfalso
      have:(q+1)*Ah v<=g*Ah v:=Int.mul_le_mul_of_nonneg_right (by omega) (by omega)
      omega
     .omega
    have y3:Bw (u[off+n]-b)=u[off+n]-b:=Ef (by omega) (by omega)
    have y4:Bw g=g:=Ef (by omega) (by omega)
    rw [Al z,cond_true,y3,y4,Ey (n:=off+n) (by omega)]
    refine ⟨_,rfl,?_⟩
    rw [R]
    refine fin _ (u[off+n]-b) o rfl ho I z (by omega) M ?_
    rw [Jp _ ah,ax]
    rw [R] at f
    exact al6 f
   .have R:g=q+1:=by
     have h1:1000000000 ^ n*(u[off+n]-b)<=1000000000 ^ n*(-1):=Int.mul_le_mul_of_nonneg_left (by omega) (Int.le_of_lt ap)
     rcases Int.lt_or_le q g with h | h
     .omega
     .exfalso
      have:g*Ah v<=q*Ah v:=Int.mul_le_mul_of_nonneg_right h (by omega)
      omega
    rw [Ar z,cond_false]
    refine Ew (fun (c,i,j)=>∃k:Nat,i=k/\k<=n/\j.length=u.length/\Bk j/\j.take off=u.take off/\j.drop (off+k)=o.drop (off+k)/\0<=c/\c<=1/\Ah j+1000000000 ^ (off+k)*c=Ah o+1000000000 ^ off*Ah (v.take k))
     (fun (_,i,_)=>n-i.toNat) (fun (c,j)=>j.length=u.length/\Bk j/\j.take off=u.take off/\j.drop (off+n)=o.drop (off+n)/\0<=c/\c<=1/\Ah j+1000000000 ^ (off+n)*c=Ah o+1000000000 ^ off*Ah v)
     ⟨0,rfl,by omega,ho,I,M,rfl,by omega,by omega,by simp [Ah]⟩ ?_ ?_
    .rintro ⟨c,i,j⟩ ⟨k,rfl,hk,h3,N,V,Z,b4,b0,D⟩
     rcases Nat.lt_or_ge k n with h | h
     .have E:off+k<j.length:=by omega
      have J:k<v.length:=by omega
      have hx:=N.get E
      have hy:=hv.get J
      have e4:=I6 h (by omega)
      have e5:decide ((k:Int)<(n:Int))=true:=Al (by omega)
      have z1:Bw (j[off+k]+v[k])=j[off+k]+v[k]:=Ef (by omega) (by omega)
      have z2:Bw (j[off+k]+v[k]+c)=j[off+k]+v[k]+c:=Ef (by omega) (by omega)
      generalize hs:j[off+k]+v[k]+c=s at z2
      have G:0<=s:=by omega
      have ac:s<2000000000:=by omega
      refine .inl ⟨(s / 1000000000,((k+1:Nat):Int),j.set (off+k) (s % 1000000000)),?_,⟨k+1,rfl,by omega,by simpa using h3,N.set _ (by omega) (by omega),?_,?_,by omega,by omega,?_⟩,by simp; omega⟩
      .simp only [e5,cond_true,M3 rfl (by omega:k<n+1) E,Dc rfl J,Ae,z1,hs,z2,Abl G (show s<=_ by omega) (show (0:Int)<1000000000 by decide),Ic G (show (0:Int)<1000000000 by decide),e4]
       rw [Ey (n:=off+k) (by omega)]
      .rw [List.take_set_of_le (by omega)]; exact V
      .rw [List.drop_set_of_lt (by omega),show off+(k+1)=(off+k)+1 by omega,<-List.drop_drop,Z,List.drop_drop]
      .rw [Jp _ E,Eg v J,show off+(k+1)=(off+k)+1 by omega,Int.pow_succ]
       have ay:=Int.mul_ediv_add_emod s 1000000000
       have pk:(1000000000:Int) ^ (off+k)=1000000000 ^ off*1000000000 ^ k:=Int.pow_add ..
       rw [pk] at D ⊢
       exact al7 hs ay D
     .have aj:k=n:=by omega
      subst aj
      refine .inr ⟨(c,j),by simp,h3,N,V,Z,b4,b0,?_⟩
      rw [List.take_of_length_le (by omega)] at D
      exact D
    .rintro ⟨c,j⟩ ⟨h3,N,V,Z,b4,b0,D⟩
     have ai:off+n<j.length:=by omega
     obtain ⟨r1,r2,r3⟩:=main j h3 N V (Z.trans L)
     have bi:j[off+n]=u[off+n]:=by
      have:=congrArg List.head? (Z.trans L)
      rw [List.head?_drop,List.head?_drop,Ck ai,Ck X] at this
      exact Option.some.inj this
     have bd:Ah (u.drop off)-q*Ah v=Ah ((j.drop off).take n)+1000000000 ^ n*(u[off+n]-b+c):=by
      apply Abr (k:=off)
      rw [r3,pa] at D
      rw [R] at f
      rw [pa] at f
      exact al8 f D
     have bj:u[off+n]-b+c=0:=by
      have bg:(q+1)*Ah v=q*Ah v+Ah v:=by grind
      rcases Int.lt_or_le (u[off+n]-b+c) 0 with h | h
      .exfalso
       have h1:1000000000 ^ n*(u[off+n]-b+c)<=1000000000 ^ n*(-1):=Int.mul_le_mul_of_nonneg_left (by omega) (Int.le_of_lt ap)
       omega
      .omega
     have y5:Ac c=c:=Bo (by omega) (by omega)
     have y6:Ac (u[off+n]-b+c)=0:=by rw [bj]; rfl
     have y7:Bw (0:Int)=0:=rfl
     have y8:Ap (g-1)=q:=by rw [R,Ap,Cq (by omega) (by omega)]; omega
     have y9:Bw q=q:=Ef (by omega) (by omega)
     simp only [M3 rfl (by omega:n<n+1) ai,Ae,y5,y6,y7,y8,y9]
     rw [Ey (n:=off+n) (by omega)]
     refine ⟨_,rfl,?_⟩
     refine fin _ 0 j rfl h3 N (by omega) (by omega) V ?_
     rw [Jp _ ai,bi]
     rw [R] at f
     exact al9 D f (by omega)
end Go.Ab
namespace Go.Ab
open Go
theorem Ark (a:List Int) (m:Int):Abc a m=Qk a m:=rfl
theorem Arl {t d r:Int} (ht:1<=t) (ht':t<1000000000) (hd:d*(t+1)+r=1000000000) (f:0<=r) (b:r<=t):500000000<=d*t:=by
 have c:0<=d:=by
  rcases Int.lt_or_le d 0 with h | h
  .exfalso
   have:d*(t+1)<=(-1)*(t+1):=Int.mul_le_mul_of_nonneg_right (by omega) (by omega)
   omega
  .exact h
 have e:d*(t+1)=d*t+d:=by grind
 rcases Int.lt_or_le t 2 with h | h
 .have:t=1:=by omega
  subst this
  omega
 .rcases Int.lt_or_le d 2 with h2 | h2
  .have:d=0\/d=1:=by omega
   rcases this with rfl | rfl <;> omega
  .have h3:2*(t-1)<=d*(t-1):=Int.mul_le_mul_of_nonneg_right h2 (by omega)
   have g:d*(t-1)=d*t-d:=by grind
   omega
theorem bl1 (P t d:Int):P*t*d=P*(d*t):=by grind
theorem bl2 {u o X q V K Q S:Int} (h:o=u-X*(q*V)) (b:u+V*(X*1000000000)*Q=S):o+V*X*(q+1000000000*Q)=S:=by grind
set_option maxHeartbeats 1000000 in
theorem Abs (m n:Nat) (hm:A6 m<274877906944) (hn:A6 n<274877906944) (G:n≠0):Oa (Ad m) (Ad n)=some (Ad (m / n),Ad (m % n)):=by
 unfold Oa
 rw [Q2 m n (by omega) (by omega),Ae]
 unfold A6 at hm hn
 by_cases g:m<n
 .rw [show D8 m n = -1 by rw [D8,if_pos g],Al (by decide:(-1:Int)<0),cond_true,Dm (by simp; omega),Ae,Nat.div_eq_of_lt g,Nat.mod_eq_of_lt g,Eh]; rfl
 .rw [Ar (show ¬D8 m n<0 by rw [D8,if_neg g]; split <;> decide),cond_false]
  have bd:(Ad n).length<=(Ad m).length:=Gr (by omega)
  have b0:(Ad n).length≠0:=fun e=>Gq G (List.length_eq_zero_iff.1 e)
  by_cases h1:(Ad n).length=1
  .rw [Ez (by omega:((Ad n).length:Int)=1),cond_true]
   have a6:n<1000000000:=by
    have:=K2 n
    rw [show A6 n=1 from h1] at this
    simpa using this
   have am:Ad n = [(n:Int)]:=by
    rw [Ke G,Nat.div_eq_of_lt a6,Eh,Nat.mod_eq_of_lt a6]
   rw [am,show Ag [(n:Int)] 0=some (n:Int) from rfl,Ae,show Ap (n:Int)=n from Cq (by omega) (by omega),Abq m n (by unfold A6; omega) (by omega) (by omega),Ae]
   have az:m % n<n:=Nat.mod_lt _ (by omega)
   rw [Qz (m % n) (by omega),Ae]
  .rw [Cu (by omega:((Ad n).length:Int)≠1),cond_false]
   generalize hL:(Ad n).length=L at *
   generalize hA:(Ad m).length=A at *
   have w1:Ac ((L:Int)-1)=((L-1:Nat):Int):=by rw [Ac,Bo] <;> omega
   have hi:L-1<(Ad n).length:=by omega
   have ht:=(Du n).get hi
   have ax:(Ad n)[L-1]≠0:=by
    have:=(Xr n).2 (Gq G)
    rw [List.getLast_eq_getElem] at this
    simpa [hL] using this
   generalize y:(Ad n)[L-1]=t at *
   have w2:Ap t=t:=Cq (by omega) (by omega)
   have w3:Ap (t+1)=t+1:=Cq (by omega) (by omega)
   rw [w1,Dc rfl hi,y,Ae,w2,w3,I3 (by decide) (by decide) (by omega),Ae]
   have U:=Int.mul_ediv_add_emod 1000000000 (t+1)
   have ah:=Int.emod_nonneg 1000000000 (by omega:t+1≠0)
   have b9:=Int.emod_lt_of_pos 1000000000 (by omega:0<t+1)
   have aq:1<=1000000000 / (t+1):=by
    rcases Int.lt_or_le (1000000000 / (t+1)) 1 with h | h
    .exfalso
     have:(t+1)*(1000000000 / (t+1))<=(t+1)*0:=Int.mul_le_mul_of_nonneg_left (by omega) (by omega)
     omega
    .exact h
   have ap:1000000000 / (t+1)<=500000000:=by
    have:=Int.ediv_lt_of_lt_mul (a:=1000000000) (b:=500000001) (c:=t+1) (by omega) (by omega)
    omega
   obtain ⟨d,hd⟩:∃d:Nat,1000000000 / (t+1)=(d:Int):=⟨(1000000000 / (t+1)).toNat,by omega⟩
   rw [hd] at U aq ap ⊢
   obtain ⟨u,ag,E,S,R⟩:=Ahw (Ad m) d (Du m) (by omega) (by omega)
   obtain ⟨v0,af,ae,D,b7⟩:=Ahw (Ad n) d (Du n) (by omega) (by omega)
   rw [ag,Ae,Ark,af,Ae,D1] at *
   rw [hL] at ae
   rw [hA] at E
   rw [Xp rfl (by omega:L<=v0.length),Ae]
   have x:=Ig (L-1)
   have pL:(1000000000:Int) ^ L=1000000000 ^ (L-1)*1000000000:=by rw [<-Int.pow_succ]; congr 1; omega
   have Y:=Eg (Ad n) hi
   rw [List.take_of_length_le (by omega),D1,y] at Y
   have ay:=Fh (((Du n).take (L-1)).u32)
   have Z:=Hx ((Du n).take (L-1))
   rw [List.length_take,hL,Nat.min_eq_left (by omega)] at Z
   have bb:(n:Int)*d<1000000000 ^ L:=by
    have a1:(n:Int)*d<(1000000000 ^ (L-1)*(t+1))*d:=Int.mul_lt_mul_of_pos_right (by
     have:(1000000000:Int) ^ (L-1)*(t+1)=1000000000 ^ (L-1)*t+1000000000 ^ (L-1):=by grind
     omega) (by omega)
    have a2:(1000000000 ^ (L-1)*(t+1))*(d:Int)=1000000000 ^ (L-1)*((t+1)*d):=by grind
    have a3:(1000000000:Int) ^ (L-1)*((t+1)*d)<=1000000000 ^ (L-1)*1000000000:=Int.mul_le_mul_of_nonneg_left (by omega) (Int.le_of_lt x)
    omega
   have M:Ah (v0.take L)=(n:Int)*d:=by
    have e:=K1 v0 L (by omega)
    have z:Ah (v0.drop L)=0:=by
     have a1:=X0 D L
     have a2:=Fh ((D.take L).u32)
     rcases Int.lt_or_le 0 (Ah (v0.drop L)) with h | h
     .have:(1000000000:Int) ^ L*1<=1000000000 ^ L*Ah (v0.drop L):=Int.mul_le_mul_of_nonneg_left h (Int.le_of_lt (Ig _))
      omega
     .omega
    rw [z] at e; omega
   have I:(v0.take L).length=L:=by rw [List.length_take]; omega
   have f:=D.take L
   have J:L-1<(v0.take L).length:=by omega
   have ak:500000000<=(d:Int)*t:=Arl (r:=1000000000 % (t+1)) (by omega) (by omega) (by rw [Int.mul_comm]; exact U) ah (by omega)
   have l:500000000<=(v0.take L)[L-1]:=by
    have e:=Eg (v0.take L) J
    rw [List.take_of_length_le (by omega),M] at e
    have b1:=Hx (f.take (L-1))
    rw [List.length_take,I,Nat.min_eq_left (by omega)] at b1
    have b2:(1000000000:Int) ^ (L-1)*t*d<=n*d:=Int.mul_le_mul_of_nonneg_right (by omega) (by omega)
    have b3:(1000000000:Int) ^ (L-1)*500000000<=1000000000 ^ (L-1)*(d*t):=Int.mul_le_mul_of_nonneg_left ak (Int.le_of_lt x)
    rw [bl1] at b2
    rcases Int.lt_or_le (v0.take L)[L-1] 500000000 with h | h
    .exfalso
     have b4:(1000000000:Int) ^ (L-1)*((v0.take L)[L-1]+1)<=1000000000 ^ (L-1)*500000000:=Int.mul_le_mul_of_nonneg_left (by omega) (Int.le_of_lt x)
     have b5:(1000000000:Int) ^ (L-1)*((v0.take L)[L-1]+1)=1000000000 ^ (L-1)*(v0.take L)[L-1]+1000000000 ^ (L-1):=by grind
     omega
    .exact h
   generalize b6:v0.take L=v at *
   have w4:Ac ((A:Int)-(L:Int))=((A-L:Nat):Int):=by rw [Ac,Bo] <;> omega
   have w5:Ac (((A-L:Nat):Int)+1)=((A-L+1:Nat):Int):=by rw [Ac,Bo] <;> omega
   rw [w4,w5,Hw rfl rfl (Nat.le_refl _) (by omega) (by omega),Ae,E]
   have b8:=Fh S.u32
   have ar:(0:Int)<(n:Int)*d:=Int.mul_pos (by omega) (by omega)
   refine Gp (fun (i,w,q)=>∃k:Nat,i=(k:Int)-1/\k<=A-L+1/\w.length=A+1/\Bk w/\q.length=A-L+1/\Bk q/\Ah w<Ah v*1000000000 ^ k/\Ah w+Ah v*1000000000 ^ k*Ah (q.drop k)=(m:Int)*d)
    (fun (i,_,_)=>(i+1).toNat) (fun (w,q)=>w.length=A+1/\Bk w/\q.length=A-L+1/\Bk q/\Ah w<Ah v/\Ah w+Ah v*Ah q=(m:Int)*d)
    ⟨A-L+1,by omega,Nat.le_refl _,E,S,by simp,Bk.replicate _,?_,by rw [List.drop_of_length_le (by simp)]; simp [Ah,R]⟩ ?_ ?_
   .
    have aj:(m:Int)<1000000000 ^ A:=by
     have:=Hx (Du m)
     rwa [D1,hA] at this
    have a1:(m:Int)*d<1000000000 ^ A*500000000:=by
     have c1:(m:Int)*d<=m*500000000:=Int.mul_le_mul_of_nonneg_left (by omega) (by omega)
     have c2:(m:Int)*500000000<1000000000 ^ A*500000000:=Int.mul_lt_mul_of_pos_right aj (by decide)
     omega
    have a2:(1000000000:Int) ^ (L-1)*500000000<=Ah v:=by
     have e:=Eg v J
     rw [List.take_of_length_le (by omega)] at e
     have b1:=Fh ((f.take (L-1)).u32)
     have b3:(1000000000:Int) ^ (L-1)*500000000<=1000000000 ^ (L-1)*v[L-1]:=Int.mul_le_mul_of_nonneg_left l (Int.le_of_lt x)
     omega
    have a3:(1000000000:Int) ^ (L-1)*500000000*1000000000 ^ (A-L+1)<=Ah v*1000000000 ^ (A-L+1):=Int.mul_le_mul_of_nonneg_right a2 (Int.le_of_lt (Ig _))
    have a4:(1000000000:Int) ^ (L-1)*500000000*1000000000 ^ (A-L+1)=1000000000 ^ A*500000000:=by
     have:(1000000000:Int) ^ A=1000000000 ^ (L-1)*1000000000 ^ (A-L+1):=by rw [<-Int.pow_add]; congr 1; omega
     rw [this]; grind
    rw [R]; omega
   .rintro ⟨i,w,q⟩ ⟨k,rfl,hk,ac,B,X,V,a7,s⟩
    cases k with
    | zero=>exact .inr ⟨(w,q),by simp,ac,B,X,V,by simpa using a7,by simpa using s⟩
    | succ j=>
     have e0:((j+1:Nat):Int)-1=(j:Int):=by omega
     have e1:decide ((j:Int)>=0)=true:=Al (by omega)
     have w6:Ac ((j:Int)+(L:Int))=((j+L:Nat):Int):=by rw [Ac,Bo] <;> omega
     have w7:Ac (((j+L:Nat):Int)+1)=((j+L+1:Nat):Int):=by rw [Ac,Bo] <;> omega
     have sA:R8 (A+1) (j:Int) ((j+L+1:Nat):Int)=some (j,j+L+1):=by
      have c1:(0:Int)<=(j:Int):=by omega
      have c2:(j:Int)<=((j+L+1:Nat):Int):=by omega
      have c3:((j+L+1:Nat):Int)<=((A+1:Nat):Int):=by omega
      have c4:(j:Int)=0\/(j:Int)<((j+L+1:Nat):Int):=by omega
      rw [R8,if_pos ⟨c1,c2,c3,c4⟩]; rfl
     have au:Ah (w.drop j)<Ah v*1000000000:=by
      have s1:=K1 w j (by omega)
      have s2:=Fh ((B.take j).u32)
      rcases Int.lt_or_le (Ah (w.drop j)) (Ah v*1000000000) with h | h
      .exact h
      .exfalso
       have:(1000000000:Int) ^ j*(Ah v*1000000000)<=1000000000 ^ j*Ah (w.drop j):=Int.mul_le_mul_of_nonneg_left h (Int.le_of_lt (Ig _))
       have e:Ah v*(1000000000:Int) ^ (j+1)=1000000000 ^ j*(Ah v*1000000000):=by rw [Int.pow_succ]; grind
       omega
     obtain ⟨qd,o,r1,r2,r3,r4,r5,r6,r7,r8⟩:=Arj v w j L f B I (by omega) (by omega) l (by omega) au
     have a8:j<q.length:=by omega
     have w8:Ac ((j:Int)-1)=(j:Int)-1:=by rw [Ac,Bo] <;> omega
     have lG:E7 (A+1) o=some ():=by rw [E7,if_pos (by omega)]
     refine .inl ⟨((j:Int)-1,o,q.set j qd),?_,⟨j,rfl,by omega,by omega,r3,by simpa using X,V.set _ r4 r5,?_,?_⟩,by simp⟩
     .simp only [e0,e1,cond_true,w6,w7,sA,Ae,Nat.zero_add,show j+L+1-j=L+1 by omega,r1,lG,Dc rfl a8,w8,Ey rfl]
     .have s1:=K1 o j (by omega)
      have s2:=Hx (r3.take j)
      rw [List.length_take,Nat.min_eq_left (by omega)] at s2
      have:(1000000000:Int) ^ j*(Ah (o.drop j)+1)<=1000000000 ^ j*Ah v:=Int.mul_le_mul_of_nonneg_left (by omega) (Int.le_of_lt (Ig _))
      have e:(1000000000:Int) ^ j*(Ah (o.drop j)+1)=1000000000 ^ j*Ah (o.drop j)+1000000000 ^ j:=by grind
      rw [Int.mul_comm (Ah v)]; omega
     .have d1:(q.set j qd).drop j=qd::q.drop (j+1):=by
       rw [List.drop_eq_getElem_cons (by simpa using a8),List.drop_set_of_lt (by omega)]; simp
      rw [d1]
      simp only [Ah]
      rw [Int.pow_succ] at s
      exact bl2 (K:=0) r6 s
   .rintro ⟨w,q⟩ ⟨h2,h3,h4,h5,h6,h7⟩
    rw [M] at h6 h7
    have ad:=Fh h3.u32
    have ba:=Fh h5.u32
    have N:=(Int.ediv_emod_unique ar (r:=Ah w) (q:=Ah q) (a:=(m:Int)*d)).2 ⟨by rw [<-h7],ad,h6⟩
    have ao:(m*d) / (n*d)=m / n:=Nat.mul_div_mul_right m n (by omega)
    have ai:(m*d) % (n*d)=(m % n)*d:=Nat.mul_mod_mul_right d m n
    have av:Ah q=((m / n:Nat):Int):=by
     rw [<-N.1,<-ao]; simp
    have aa:Ah w=(((m % n)*d:Nat):Int):=by
     rw [<-N.2,<-ai]; simp
    have ab:A6 ((m % n)*d)<1099511627776:=by
     have g:=Hx h3
     have:A6 ((m % n)*d)<=A+1:=by
      apply Ih
      rw [h2,aa] at g
      have e:((1000000000 ^ (A+1):Nat):Int)=1000000000 ^ (A+1):=by rw [Int.natCast_pow]; rfl
      omega
     omega
    dsimp only
    rw [M2 w (by omega),Ae,I4 h3 aa,Abq _ d ab (by omega) (by omega),Ae,M2 q (by omega),Ae,I4 h5 av,Nat.mul_div_cancel _ (by omega)]
end Go.Ab
namespace Go.Ab
open Go
theorem Ahz {n:Nat} (h:A6 n<=2):n<1000000000000000000:=by
 have h1:=K2 n
 have h2:1000000000 ^ A6 n<=1000000000 ^ 2:=Nat.pow_le_pow_right (by decide) h
 omega
theorem Ah0 (n:Nat) (h:A6 n<=2):Qj (Ad n)=some ((n:Int),true):=by
 unfold Qj
 unfold A6 at h
 have ha:=Du n
 refine Gp (fun (w,i)=>∃k:Nat,i=k/\k<=(Ad n).length/\w=Ah ((Ad n).drop ((Ad n).length-k))) (fun (_,i)=>(Ad n).length-i.toNat)
  (fun e=>match e with | .inl _=>False | .inr w=>w=n) ⟨0,rfl,by omega,by simp [Ah]⟩ ?_ ?_
 .rintro ⟨w,i⟩ ⟨k,rfl,hk,rfl⟩
  rcases Nat.lt_or_ge k (Ad n).length with c | hge
  .have A:decide ((k:Int)<((Ad n).length:Int))=true:=Al (by omega)
   have u:Ac (((Ad n).length:Int)-1)=((Ad n).length:Int)-1:=by rw [Ac,Bo] <;> omega
   have s:Ac (((Ad n).length:Int)-1-(k:Int))=(((Ad n).length-1-k:Nat):Int):=by rw [Ac,Bo] <;> omega
   have hj:(Ad n).length-1-k<(Ad n).length:=by omega
   have hx:=ha.get hj
   have y:=X0 ha ((Ad n).length-k)
   have b:=Hx (ha.drop ((Ad n).length-k))
   rw [List.length_drop,show (Ad n).length-((Ad n).length-k)=k by omega] at b
   have x:(1000000000:Int) ^ k<=1000000000:=by
    have:k=0\/k=1:=by omega
    rcases this with rfl | rfl <;> decide
   have q:Ap (Ad n)[(Ad n).length-1-k]=(Ad n)[(Ad n).length-1-k]:=Cq (by omega) (by omega)
   have l:Ap (18446744073709551615-(Ad n)[(Ad n).length-1-k])=18446744073709551615-(Ad n)[(Ad n).length-1-k]:=Cq (by omega) (by omega)
   have j:Ap (Ah ((Ad n).drop ((Ad n).length-k))*1000000000)=Ah ((Ad n).drop ((Ad n).length-k))*1000000000:=Cq (by omega) (by omega)
   have g:Ap (Ah ((Ad n).drop ((Ad n).length-k))*1000000000+(Ad n)[(Ad n).length-1-k])=Ah ((Ad n).drop ((Ad n).length-k))*1000000000+(Ad n)[(Ad n).length-1-k]:=Cq (by omega) (by omega)
   have z:=I6 c (by omega)
   have hc:¬Ah ((Ad n).drop ((Ad n).length-k))>(18446744073709551615-(Ad n)[(Ad n).length-1-k]) / 1000000000:=by omega
   refine .inl ⟨(Ah ((Ad n).drop ((Ad n).length-k))*1000000000+(Ad n)[(Ad n).length-1-k],((k+1:Nat):Int)),?_,⟨k+1,rfl,by omega,?_⟩,by simp; omega⟩
   .simp only [A,cond_true,u,s,Dc rfl hj,Ae,q,l,I3 (show 0<=18446744073709551615-(Ad n)[(Ad n).length-1-k] by omega) (show 18446744073709551615-(Ad n)[(Ad n).length-1-k]<=_ by omega) (show (0:Int)<1000000000 by decide),Ar hc,cond_false,j,g,z]
   .have hd:(Ad n).drop ((Ad n).length-(k+1))=(Ad n)[(Ad n).length-1-k]::(Ad n).drop ((Ad n).length-k):=by
     rw [show (Ad n).length-(k+1)=(Ad n).length-1-k by omega,List.drop_eq_getElem_cons hj]
     congr 2; omega
    rw [hd]; simp only [Ah]; omega
  .have:k=(Ad n).length:=by omega
   subst this
   refine .inr ⟨.inr _,by simp; rfl,?_⟩
   exact D1 n
 .rintro (e | e) f
  .exact f.elim
  .simp only at f ⊢; rw [f]
theorem Arm (m n:Nat) (A:A6 m<274877906944) (z:A6 n<274877906944):Td (Ad m) (Ad n)=some (Ad (Nat.gcd m n)):=by
 unfold Td
 refine Gp (fun (a,b)=>∃x y:Nat,a=Ad x/\b=Ad y/\A6 x<274877906944/\A6 y<274877906944/\Nat.gcd x y=Nat.gcd m n) (fun (_,b)=>(Ah b).toNat)
  (fun e=>match e with | .inl r=>r=Ad (Nat.gcd m n) | .inr r=>r=Ad (Nat.gcd m n)) ⟨m,n,rfl,rfl,A,z,rfl⟩ ?_ ?_
 .rintro ⟨a,b⟩ ⟨x,y,rfl,rfl,hx,hy,k⟩
  by_cases c:y=0
  .subst c
   refine .inr ⟨.inr (Ad x),by rw [Eh]; rfl,?_⟩
   show Ad x=_
   rw [<-k,Nat.gcd_zero_right]
  .have B:(Ad y).length≠0:=fun e=>Gq c (List.length_eq_zero_iff.1 e)
   have l:decide (((Ad y).length:Int)>0)=true:=Al (by omega)
   by_cases h2:A6 x<=2/\A6 y<=2
   .have i:=Ahz h2.1
    have h:=Ahz h2.2
    unfold A6 at h2
    simp only [l,cond_true,Al (by omega:((Ad x).length:Int)<=2),Al (by omega:((Ad y).length:Int)<=2),Ae,Ah0 x h2.1,Ah0 y h2.2]
    refine .inr (Aq8 (Ew (fun (p,q)=>∃u v:Nat,p=u/\q=v/\u<1000000000000000000/\v<1000000000000000000/\Nat.gcd u v=Nat.gcd m n) (fun (_,q)=>q.toNat) (fun (p,q)=>p=((Nat.gcd m n:Nat):Int)/\Nat.gcd m n<1000000000000000000)
     ⟨x,y,rfl,rfl,i,h,k⟩ ?_ ?_))
    .rintro ⟨p,q⟩ ⟨u,v,rfl,rfl,hu,s,f⟩
     by_cases j:v=0
     .subst j
      refine .inr ⟨((u:Int),(0:Int)),rfl,?_⟩
      rw [Nat.gcd_zero_right] at f
      exact ⟨by rw [f],by omega⟩
     .refine .inl ⟨((v:Int),((u % v:Nat):Int)),?_,⟨v,u % v,rfl,rfl,s,by have:=Nat.mod_lt u (by omega:v>0); omega,?_⟩,?_⟩
      .simp only [Al (by omega:(v:Int)>0),cond_true,Ic (by omega:(0:Int)<=u) (by omega:(0:Int)<v),Ae]; rfl
      .rw [<-f,Nat.gcd_comm v,<-Nat.gcd_rec,Nat.gcd_comm]
      .have:=Nat.mod_lt u (by omega:v>0); simp only [Int.toNat_natCast]; exact this
    .rintro ⟨p,q⟩ ⟨rfl,D⟩
     dsimp only
     rw [Qz _ (by omega)]
     exact ⟨_,rfl,_,rfl,rfl⟩
   .refine .inl ⟨(Ad y,Ad (x % y)),?_,⟨y,x % y,rfl,rfl,hy,by have:=Gr (Nat.mod_le x y); omega,?_⟩,?_⟩
    .have:(bif (decide (((Ad x).length:Int)<=(2:Int))) then some (decide (((Ad y).length:Int)<=(2:Int))) else some false)=some false:=by
      unfold A6 at h2
      by_cases hc:(Ad x).length<=2
      .rw [Al (by omega:((Ad x).length:Int)<=2),cond_true,Ar (by omega:¬((Ad y).length:Int)<=2)]
      .rw [Ar (by omega:¬((Ad x).length:Int)<=2),cond_false]
     simp only [l,cond_true]
     rw [this,Ae,cond_false,Abs x y hx hy c,Ae]
    .rw [<-k,Nat.gcd_comm y,<-Nat.gcd_rec,Nat.gcd_comm]
    .simp only [D1]
     have:=Nat.mod_lt x (by omega:y>0)
     omega
 .rintro (e | e) g
  .simp only at g ⊢; rw [g]
  .simp only at g ⊢; rw [g]
theorem Tx:Ad 1 = [1]:=by rw [Ke (by decide),show 1 / 1000000000=0 by decide,Eh]; rfl
theorem Abt (n:Nat):N9 (Ad n)=some (decide (n=1)):=by
 unfold N9
 by_cases h0:n=0
 .subst h0; rw [Eh]; rfl
 .rw [Ke h0]
  by_cases h1:n / 1000000000=0
  .rw [h1,Eh]
   have e:Ag [((n % 1000000000:Nat):Int)] 0=some ((n % 1000000000:Nat):Int):=rfl
   simp only [List.length_singleton,e,Ae]
   have:(((1:Nat):Int)==(1:Int))=true:=rfl
   rw [this,cond_true]
   congr 1
   by_cases b:n=1
   .subst b; rfl
   .rw [Cu (by omega),Ar b]
  .have c:(Ad (n / 1000000000)).length≠0:=fun e=>Gq h1 (List.length_eq_zero_iff.1 e)
   rw [Cu (by simp; omega),cond_false,Ar (by omega)]
def Bi (b:Bool) (n d:Nat):Aq:=if n=0 then ⟨false,[],[1]⟩ else ⟨b,Ad (n / Nat.gcd n d),Ad (d / Nat.gcd n d)⟩
theorem Ot (b:Bool) (n d:Nat) (h:A6 n<274877906944) (hd:A6 d<274877906944):Lm ⟨b,Ad n,Ad d⟩=some (Bi b n d):=by
 unfold Lm Wo
 dsimp only
 by_cases h0:n=0
 .subst h0; rw [Eh]; rfl
 .have i:(Ad n).length≠0:=fun e=>Gq h0 (List.length_eq_zero_iff.1 e)
  rw [Cu (by omega),cond_false,Abt,Ae,Bi,if_neg h0]
  by_cases h1:d=1
  .subst h1
   rw [Al rfl,cond_true]
   simp
  .rw [Ar h1,cond_false,Arm n d h hd,Ae,Abt,Ae]
   by_cases g:Nat.gcd n d=1
   .rw [Al g,cond_true,g]; simp
   .have f:Nat.gcd n d≠0:=by
     have:=Nat.gcd_pos_of_pos_left d (by omega:0<n); omega
    have c:A6 (Nat.gcd n d)<274877906944:=by
     have:=Gr (Nat.gcd_le_left d (by omega:0<n)); omega
    rw [Ar g,cond_false,Abs n _ h c f,Ae,Abs d _ hd c f,Ae]; rfl
def nv (a:Aq):Nat:=if (Ah a.Num).toNat=0\/(Ah a.Den).toNat=0 then 0 else (Ah a.Num).toNat
def dv (a:Aq):Nat:=if (Ah a.Num).toNat=0\/(Ah a.Den).toNat=0 then 1 else (Ah a.Den).toNat
def sv (a:Aq):Bool:=if (Ah a.Num).toNat=0\/(Ah a.Den).toNat=0 then false else a.Neg
structure RB (k:Nat) (a:Aq):Prop where
 num:Kd a.Num
 den:Kd a.Den
 nl:a.Num.length<=k
 dl:a.Den.length<=k
theorem Arn {l:List Int} (h:Kd l):Ah l<=5*1000000000 ^ l.length-5:=by
 induction l with
 | nil=>simp [Ah]
 | cons d l ih=>
  have h1:=h d (by simp)
  have h2:=ih (fun x hx=>h x (by simp [hx]))
  simp only [Ah,List.length_cons]
  rw [Int.pow_succ]
  omega
theorem Aro {l:List Int} (h:Kd l):Ah l<1000000000 ^ (l.length+1):=by
 have h1:=Arn h
 have hp:=Ig l.length
 rw [Int.pow_succ]
 omega
theorem X1 {l:List Int} (h:Kd l):A6 (Ah l).toNat<=l.length+1:=by
 apply Ih
 have h1:=Aro h
 have h2:=Fh h
 have e:((1000000000 ^ (l.length+1):Nat):Int)=1000000000 ^ (l.length+1):=by rw [Int.natCast_pow]; rfl
 omega
theorem RB.mono {j k:Nat} {a:Aq} (h:RB j a) (hk:j<=k):RB k a:=⟨h.num,h.den,by have:=h.nl; omega,by have:=h.dl; omega⟩
theorem M4:A6 1=1:=by unfold A6; rw [Tx]; rfl
theorem RB.nv {k:Nat} {a:Aq} (h:RB k a):A6 (nv a)<=k+1:=by
 unfold Ab.nv
 split
 .simp [Xt]
 .have:=X1 h.num; have:=h.nl; omega
theorem RB.dv {k:Nat} {a:Aq} (h:RB k a):A6 (dv a)<=k+1:=by
 unfold Ab.dv
 split
 .simp [M4]
 .have:=X1 h.den; have:=h.dl; omega
theorem E2 (a:Aq):dv a≠0:=by
 unfold dv; split
 .decide
 .omega
theorem Q3 (a:Aq) (k:Nat) (h:RB k a) (hk:k<274877906900):Kv a=some ⟨sv a,Ad (nv a),Ad (dv a)⟩:=by
 unfold Kv
 have h1:=h.nl
 have h2:=h.dl
 rw [Aht _ h.num (by omega),Ae,Aht _ h.den (by omega),Ae]
 unfold nv dv sv
 generalize (Ah a.Num).toNat=x
 generalize (Ah a.Den).toNat=y
 by_cases hx:x=0
 .subst hx
  simp only [Eh,true_or,if_true,Tx]; rfl
 .have c:(Ad x).length≠0:=fun e=>Gq hx (List.length_eq_zero_iff.1 e)
  by_cases hy:y=0
  .subst hy
   simp only [Eh,or_true,if_true,Tx,Cu (by omega:((Ad x).length:Int)≠0),cond_false]; rfl
  .have b:(Ad y).length≠0:=fun e=>Gq hy (List.length_eq_zero_iff.1 e)
   simp only [hx,hy,or_self,if_false,Cu (by omega:((Ad x).length:Int)≠0),cond_false,Cu (by omega:((Ad y).length:Int)≠0),Ae]
end Go.Ab
namespace Go.Ab
open Go
theorem Abu (a:Aq) (k:Nat) (h:RB k a) (hk:k<274877906900):Lo a=some (Bi (sv a) (nv a) (dv a)):=by
 unfold Lo
 have h1:=h.nv
 have h2:=h.dv
 rw [Q3 a k h hk,Ae,Ot _ _ _ (by omega) (by omega)]; rfl
def G6 (s:Bool) (n:Nat):Int:=if n=0 then 0 else if s then -1 else 1
theorem Arp (s:Bool) (n:Nat) (d:List Int):Sv ⟨s,Ad n,d⟩=some (G6 s n):=by
 unfold Sv G6
 dsimp only
 by_cases h:n=0
 .subst h; rw [Eh]; rfl
 .have b:(Ad n).length≠0:=fun e=>Gq h (List.length_eq_zero_iff.1 e)
  rw [Cu (by omega),cond_false,if_neg h]
  cases s <;> rfl
theorem Abv (a:Aq) (k:Nat) (h:RB k a) (hk:k<274877906900):G1 a=some (G6 (sv a) (nv a)):=by
 unfold G1
 rw [Q3 a k h hk,Ae,Arp]; rfl
theorem Abw (z:Int) (h1 : -9223372036854775808<=z) (h2:z<=9223372036854775807):Nu z=some (Ad z.natAbs):=by
 unfold Nu
 by_cases h:z<0
 .have e:Ap z=z+18446744073709551616:=by
   have:IntKind.u64.wrap z=z % 18446744073709551616:=by simp [IntKind.wrap,IntKind.bits,IntKind.signed]
   rw [Ap,this]; omega
  have b:Ap (0-(z+18446744073709551616))=((z.natAbs:Nat):Int):=by
   have:IntKind.u64.wrap (0-(z+18446744073709551616))=(0-(z+18446744073709551616)) % 18446744073709551616:=by simp [IntKind.wrap,IntKind.bits,IntKind.signed]
   rw [Ap,this]; omega
  rw [Al h,cond_true,e,b,Qz _ (by omega)]; rfl
 .have b:Ap z=((z.natAbs:Nat):Int):=by rw [Ap,Cq (by omega) (by omega)]; omega
  rw [Ar h,cond_false,b,Qz _ (by omega)]; rfl
theorem Ty (z:Int) (h1 : -9223372036854775808<=z) (h2:z<=9223372036854775807):Fq z=some (Bi (decide (z<0)) z.natAbs 1):=by
 unfold Fq
 have:=Qy (n:=z.natAbs) (by omega)
 rw [Abw z h1 h2,Ae,<-Tx,Ot _ _ _ (by omega) (by rw [M4]; decide)]; rfl
theorem Arq (x y:Int) (h1 : -9223372036854775808<=x) (h2:x<=9223372036854775807) (h3 : -9223372036854775808<=y) (b:y<=9223372036854775807) (hy:y≠0):Nv x y=some (Bi (decide (x<0) != decide (y<0)) x.natAbs y.natAbs):=by
 unfold Nv
 have a1:=Qy (n:=x.natAbs) (by omega)
 have a2:=Qy (n:=y.natAbs) (by omega)
 rw [Cu hy,cond_false,Abw x h1 h2,Ae,Abw y h3 b,Ae,Ot _ _ _ (by omega) (by omega)]; rfl
theorem Abx (a b:Aq) (j k:Nat) (ha:RB j a) (hb:RB k b) (hj:j<68719476736) (hk:k<68719476736):Gn a b=some (Bi (sv a != sv b) (nv a*nv b) (dv a*dv b)):=by
 unfold Gn
 have h1:=ha.nv
 have h2:=ha.dv
 have h3:=hb.nv
 have g:=hb.dv
 have f:=G5 (nv a) (nv b)
 have c:=G5 (dv a) (dv b)
 rw [Q3 a j ha (by omega),Ae,Q3 b k hb (by omega),Ae]
 dsimp only
 rw [Tw _ _ (by omega) (by omega),Ae,Tw _ _ (by omega) (by omega),Ae,Ot _ _ _ (by omega) (by omega)]; rfl
def Kf (b:Bool) (g i:Nat) (c:Bool) (f h:Nat):Bool:=if b=c then b else if f*i<=g*h then b else c
def I7 (i:Bool) (c g:Nat) (h:Bool) (b f:Nat):Nat:=if i=h then c*f+b*g else if b*g<=c*f then c*f-b*g else b*g-c*f
theorem Aby (a b:Aq) (j k:Nat) (ha:RB j a) (hb:RB k b) (hj:j<68719476736) (hk:k<68719476736) :
  Lj a b=some (Bi (Kf (sv a) (nv a) (dv a) (sv b) (nv b) (dv b)) (I7 (sv a) (nv a) (dv a) (sv b) (nv b) (dv b)) (dv a*dv b)):=by
 unfold Lj Wk
 have h1:=ha.nv
 have h2:=ha.dv
 have h3:=hb.nv
 have s:=hb.dv
 have q:=G5 (nv a) (dv b)
 have l:=G5 (nv b) (dv a)
 have i:=G5 (dv a) (dv b)
 have h:=Xu (nv a*dv b) (nv b*dv a)
 have g:=Gr (Nat.sub_le (nv a*dv b) (nv b*dv a))
 have f:=Gr (Nat.sub_le (nv b*dv a) (nv a*dv b))
 rw [Q3 a j ha (by omega),Ae,Q3 b k hb (by omega),Ae]
 dsimp only
 rw [Tw _ _ (by omega) (by omega),Ae,Tw _ _ (by omega) (by omega),Ae,Tw _ _ (by omega) (by omega),Ae]
 by_cases c:sv a=sv b
 .have e:(sv a==sv b)=true:=by rw [c]; exact beq_self_eq_true _
  rw [e,cond_true,Are _ _ (by omega) (by omega),Ae,Ae,Ot _ _ _ (by omega) (by omega),Kf,I7,if_pos c,if_pos c]; rfl
 .have e:(sv a==sv b)=false:=by simpa using c
  rw [e,cond_false,Q2 _ _ (by omega) (by omega),Ae,Kf,I7,if_neg c,if_neg c]
  by_cases hc:nv b*dv a<=nv a*dv b
  .rw [Al (show D8 (nv a*dv b) (nv b*dv a)>=0 by rw [D8,if_neg (by omega)]; split <;> decide),cond_true,Ahv _ _ (by omega) hc,Ae,Ae,Ot _ _ _ (by omega) (by omega),if_pos hc,if_pos hc]; rfl
  .rw [Ar (show ¬D8 (nv a*dv b) (nv b*dv a)>=0 by rw [D8,if_pos (by omega)]; decide),cond_false,Ahv _ _ (by omega) (by omega),Ae,Ae,Ot _ _ _ (by omega) (by omega),if_neg hc,if_neg hc]; rfl
theorem Tz (s:Bool) (d:Nat):Bi s 0 d=⟨false,[],[1]⟩:=by simp [Bi]
theorem Lv (s:Bool) (n d k:Nat) (b:A6 n<=k) (hd:A6 d<=k) (hk:1<=k):RB k (Bi s n d):=by
 unfold Bi
 split
 .refine ⟨(fun _ h=>by cases h),(fun x h=>?_),by simp,by simpa using hk⟩
  simp at h; subst h; decide
 .have h1:=Abn n (Nat.gcd n d)
  have h2:=Abn d (Nat.gcd n d)
  unfold A6 at *
  exact ⟨(Du _).u32,(Du _).u32,by simp only; omega,by simp only; omega⟩
theorem T0 (s:Bool) (n d:Nat) (hd:d≠0):nv (Bi s n d)=n / Nat.gcd n d/\dv (Bi s n d)=d / Nat.gcd n d/\(n≠0->sv (Bi s n d)=s)/\(n=0->sv (Bi s n d)=false):=by
 by_cases h0:n=0
 .subst h0
  rw [Tz]
  have c:d / Nat.gcd 0 d=1:=by rw [Nat.gcd_zero_left]; exact Nat.div_self (by omega)
  refine ⟨by simp [nv,Ah],?_,fun h=>(h rfl).elim,fun _=>by simp [sv,Ah]⟩
  rw [c]; simp [dv,Ah]
 .have f:0<Nat.gcd n d:=Nat.gcd_pos_of_pos_left d (by omega)
  have h1:n / Nat.gcd n d≠0:=by
   have:=Nat.div_pos (Nat.gcd_le_left d (by omega:0<n)) f; omega
  have h2:d / Nat.gcd n d≠0:=by
   have:=Nat.div_pos (Nat.gcd_le_right n (by omega:0<d)) f; omega
  have e:Bi s n d=⟨s,Ad (n / Nat.gcd n d),Ad (d / Nat.gcd n d)⟩:=by simp [Bi,h0]
  have b:(Ah (Ad (n / Nat.gcd n d))).toNat=n / Nat.gcd n d:=by rw [D1]; rfl
  have v2:(Ah (Ad (d / Nat.gcd n d))).toNat=d / Nat.gcd n d:=by rw [D1]; rfl
  rw [e]
  have hc:¬(n / Nat.gcd n d=0\/d / Nat.gcd n d=0):=by omega
  refine ⟨?_,?_,fun _=>?_,fun h=>(h0 h).elim⟩
  .simp only [nv,b,v2,if_neg hc]
  .simp only [dv,b,v2,if_neg hc]
  .simp only [sv,b,v2,if_neg hc]
theorem Ou (s:Bool) (n d k:Nat) (hk:k≠0):Bi s (k*n) (k*d)=Bi s n d:=by
 unfold Bi
 by_cases h:n=0
 .subst h; simp
 .have h1:k*n≠0:=Nat.mul_ne_zero hk h
  rw [if_neg h1,if_neg h,Nat.gcd_mul_left,Nat.mul_div_mul_left _ _ (by omega),Nat.mul_div_mul_left _ _ (by omega)]
theorem Ah1 {s t:Bool} {n d:Nat} (h:n≠0->s=t):Bi s n d=Bi t n d:=by
 unfold Bi
 by_cases h0:n=0
 .simp [h0]
 .rw [h h0]
end Go.Ab
namespace Go.Ab
open Go
theorem Ah2 (l:List Int):I2 l=(Ia l).bind fun v=>B8 4 [] v:=by
 unfold I2 Ia
 generalize Ak _ _=x
 cases x with
 | none=>rfl
 | some v=>
  simp only [Ae]
  cases Fz l 0 v with
  | none=>rfl
  | some y=>
   simp only [Ae]
   cases B8 4 [] y <;> rfl
theorem Arr (l:List Int):(Fx l).length<=l.length:=by
 induction l with
 | nil=>simp [Fx]
 | cons d l ih=>
  simp only [Fx]
  cases ht:Fx l with
  | nil=>simp only []; split <;> simp
  | cons x m=>rw [ht] at ih; simpa using ih
theorem Ov (l:List Int) (b:l.length<2199023255552):I2 l=some (Fx l):=by
 have:=Arr l
 rw [Ah2,M2 l (by omega),Ae,Dm (by simp; omega)]; rfl
theorem Ah3 (l:List Int) (hd:Kd l) (B:l.length<1099511627776):S3 l=some (Ad (Ah l).toNat):=by
 unfold S3
 refine Gp (fun (c,i,o)=>∃k:Nat,i=k/\k<=l.length/\o.length=k/\Bk o/\0<=c/\c<5/\Ah o+1000000000 ^ k*c=Ah (l.take k))
  (fun (_,i,_)=>l.length-i.toNat) (fun (c,o)=>o.length=l.length/\Bk o/\0<=c/\c<5/\Ah o+1000000000 ^ l.length*c=Ah l)
  ⟨0,rfl,by omega,rfl,Bk.nil,by omega,by omega,by simp [Ah]⟩ ?_ ?_
 .rintro ⟨c,i,o⟩ ⟨k,rfl,hk,f,b,j,hc,s⟩
  rcases Nat.lt_or_ge k l.length with h | h
  .have hx:=hd l[k] (List.getElem_mem h)
   refine .inl ⟨((c+l[k]) / 1000000000,((k+1:Nat):Int),o++[(c+l[k]) % 1000000000]),?_,⟨k+1,rfl,by omega,by simp [f],b.snoc (by omega) (by omega),by omega,by omega,?_⟩,by simp; omega⟩
   .have z:Ap l[k]=l[k]:=Cq (by omega) (by omega)
    have y:Ap (c+l[k])=c+l[k]:=Cq (by omega) (by omega)
    have q:Bw ((c+l[k]) % 1000000000)=(c+l[k]) % 1000000000:=Ef (by omega) (by omega)
    have x:=I6 h (by omega)
    have u:decide ((k:Int)<(l.length:Int))=true:=by simpa using h
    simp only [u,cond_true,Dc rfl h,Ae,z,y,Ic (show 0<=c+l[k] by omega) (show (0:Int)<1000000000 by decide),q,Dm (show (o.length+[(c+l[k]) % 1000000000].length)*4<=_ by simp; omega),I3 (show 0<=c+l[k] by omega) (show c+l[k]<=_ by omega) (show (0:Int)<1000000000 by decide),x]
   .rw [Eg l h,<-s,Ie,f,Int.pow_succ]
    have:=Int.mul_ediv_add_emod (c+l[k]) 1000000000
    grind
  .have g:k=l.length:=by omega
   subst g
   refine .inr ⟨(c,o),by simp,f,b,j,hc,by simpa using s⟩
 .rintro ⟨c,o⟩ ⟨h2,h3,G,E,D⟩
  have A:=Fh hd
  by_cases hc:c>0
  .have q:Bw c=c:=Ef (by omega) (by omega)
   simp only [decide_eq_true hc,cond_true,q,Dm (show (o.length+[c].length)*4<=_ by simp; omega),Ae,Ov (o++[c]) (by simp; omega)]
   rw [I4 (h3.snoc (by omega) (by omega)) (n:=(Ah l).toNat) (by rw [Ie,h2]; omega)]
  .have:c=0:=by omega
   subst this
   simp only [Int.lt_irrefl,gt_iff_lt,decide_false,cond_false,Ov o (by omega),Ae]
   rw [I4 h3 (n:=(Ah l).toNat) (by omega)]
theorem Ah4 (n:Int):Qc n=Lt n:=rfl
theorem X2 (a b:List Int):N1 a b=Nz a b:=rfl
theorem Ars (m d:Nat) (c:A6 m<1099511627776) (hd:0<d) (b:d<4294967296):Wu (Ad m) d=some (Ad (m / d),((m % d:Nat):Int)):=by
 have h:=Abq m d c hd b
 unfold Of at h
 unfold Wu
 unfold A6 at c
 rw [Hw rfl rfl (Nat.le_refl _) (by omega) (by omega)] at h ⊢
 simp only [Ae] at h ⊢
 revert h
 generalize Ak _ _=x
 cases x with
 | none=>intro h; cases h
 | some v=>
  obtain ⟨r,o⟩:=v
  simp only [Ae]
  intro h
  rw [Ah2]
  cases ht:Ia o with
  | none=>rw [ht] at h; cases h
  | some y=>
   rw [ht] at h
   simp only [Ae] at h ⊢
   have hy:y=Ad (m / d):=congrArg Prod.fst (Option.some.inj h)
   have:=Abn m d
   unfold A6 at this
   rw [Dm (by rw [hy]; simp; omega)]
   exact h
theorem X3 (m n:Nat) (X:A6 m<1099511627776) (G:n<=m):N2 (Ad m) (Ad n)=some (Ad (m-n)):=by
 unfold N2
 have J:(Ad n).length<=(Ad m).length:=Gr G
 unfold A6 at X
 rw [Hw rfl rfl (Nat.le_refl _) (by omega) (by omega)]
 simp only [Ae]
 have ha:=Du m
 have hb:=Du n
 refine Gp (fun (c,i,o)=>∃k:Nat,i=k/\k<=(Ad m).length/\o.length=(Ad m).length/\Bk o/\o.drop k=List.replicate ((Ad m).length-k) 0/\0<=c/\c<=1/\Ah o=Ah ((Ad m).take k)-Ah ((Ad n).take k)+1000000000 ^ k*c)
  (fun (_,i,_)=>(Ad m).length-i.toNat) (fun o=>∃c:Int,o.length=(Ad m).length/\Bk o/\0<=c/\c<=1/\Ah o=(m:Int)-n+1000000000 ^ (Ad m).length*c)
  ⟨0,rfl,by omega,by simp,Bk.replicate _,by simp,by omega,by omega,by simp [Ah,Xq]⟩ ?_ ?_
 .rintro ⟨c,i,o⟩ ⟨k,rfl,hk,E,u,y,M,hc,z⟩
  rcases Nat.lt_or_ge k (Ad m).length with h | h
  .have hx:=ha.get h
   have f:k<o.length:=by omega
   have S:=I6 h (by omega)
   have R:decide ((k:Int)<((Ad m).length:Int))=true:=Al (by omega)
   have b:o[k]=0:=by
    have:=congrArg List.head? y
    rw [List.head?_drop,Ck f] at this
    have x:(List.replicate ((Ad m).length-k) (0:Int)).head? = some 0:=by
     cases Y:(Ad m).length-k with
     | zero=>omega
     | succ t=>rfl
    rw [x] at this
    exact Option.some.inj this
   have key:∀s:Int,0<=s->s<=1000000000->Ah ((Ad m).take (k+1))-Ah ((Ad n).take (k+1))=Ah ((Ad m).take k)-Ah ((Ad n).take k)+1000000000 ^ k*((Ad m)[k]-s+c) ->
     ∃(l d:Int),(bif (decide ((Ad m)[k]>=s)) then (some (Sum.inl (0,((k+1:Nat):Int),(B9 o (k:Int) (Bw ((Ad m)[k]-s)))))) else (some (Sum.inl (1,((k+1:Nat):Int),(B9 o (k:Int) (Bw ((Bw ((Ad m)[k]+1000000000))-s)))))):Option ((Int×Int×List Int)⊕List Int))=some (.inl (l,((k+1:Nat):Int),o.set k d)) /\
      (∃q:Nat,((k+1:Nat):Int)=q/\q<=(Ad m).length/\(o.set k d).length=(Ad m).length/\Bk (o.set k d)/\(o.set k d).drop q=List.replicate ((Ad m).length-q) 0/\0<=l/\l<=1/\Ah (o.set k d)=Ah ((Ad m).take q)-Ah ((Ad n).take q)+1000000000 ^ q*l):=by
    intro s h1 h2 g
    have j:∀d:Int,(o.set k d).drop (k+1)=List.replicate ((Ad m).length-(k+1)) 0:=by
     intro d
     rw [List.drop_set_of_lt (by omega),<-List.drop_drop,y,List.drop_replicate]; congr 1
    by_cases N:(Ad m)[k]>=s
    .have A:Bw ((Ad m)[k]-s)=(Ad m)[k]-s:=Ef (by omega) (by omega)
     refine ⟨0,(Ad m)[k]-s,by rw [Al N,cond_true,A,Ey rfl],k+1,rfl,by omega,by simpa using E,u.set _ (by omega) (by omega),j _,by omega,by omega,?_⟩
     rw [Jp _ f,b,g,z]; grind
    .have A:Bw ((Ad m)[k]+1000000000)=(Ad m)[k]+1000000000:=Ef (by omega) (by omega)
     have V:Bw ((Ad m)[k]+1000000000-s)=(Ad m)[k]+1000000000-s:=Ef (by omega) (by omega)
     refine ⟨1,(Ad m)[k]+1000000000-s,by rw [Ar N,cond_false,A,V,Ey rfl],k+1,rfl,by omega,by simpa using E,u.set _ (by omega) (by omega),j _,by omega,by omega,?_⟩
     rw [Jp _ f,b,g,z,Int.pow_succ]; grind
   refine .inl ?_
   rcases Nat.lt_or_ge k (Ad n).length with hb' | hb'
   .have hy:=hb.get hb'
    have U:Bw (c+(Ad n)[k])=c+(Ad n)[k]:=Ef (by omega) (by omega)
    obtain ⟨l,d,D,B⟩:=key (c+(Ad n)[k]) (by omega) (by omega) (by rw [Eg _ h,Eg _ hb']; grind)
    refine ⟨(l,((k+1:Nat):Int),o.set k d),?_,B,by simp; omega⟩
    rw [<-D]
    simp only [R,cond_true,Dc rfl h,Dc rfl f,Ae,Al (by omega:(k:Int)<((Ad n).length:Int)),Dc rfl hb',U,S]
   .obtain ⟨l,d,D,B⟩:=key c (by omega) (by omega) (by rw [Eg _ h,Hy (Ad n) hb',Hy (Ad n) (by omega)]; grind)
    refine ⟨(l,((k+1:Nat):Int),o.set k d),?_,B,by simp; omega⟩
    rw [<-D]
    simp only [R,cond_true,Dc rfl h,Dc rfl f,Ae,Ar (by omega:¬(k:Int)<((Ad n).length:Int)),cond_false,S]
  .have L:k=(Ad m).length:=by omega
   subst L
   refine .inr ⟨o,by simp,c,E,u,M,hc,?_⟩
   rw [List.take_length,Hy _ J,D1,D1] at z
   exact z
 .rintro o ⟨c,h2,h3,h4,h5,Z⟩
  have I:=Hx h3
  rw [h2] at I
  have hp:=Ig (Ad m).length
  have:c=0:=by
   rcases Int.lt_or_le 0 c with hc | hc
   .have:c=1:=by omega
    subst this
    omega
   .omega
  subst this
  rw [Ov o (by omega),Ae,I4 h3 (n:=m-n) (by omega)]
end Go.Ab
namespace Go.Ab
open Go
theorem Art {o:List Int} {k n:Nat} (hk:k<o.length) (h:o.drop k=List.replicate n 0):o[k]=0:=by
 have:=congrArg List.head? h
 rw [List.head?_drop,Ck hk] at this
 cases n with
 | zero=>simp at this
 | succ t=>exact Option.some.inj this
theorem cl1 {o X K c s x y A w:Int} (f:c+x+w=s) (hw:w=y*A) (b:1000000000*(s / 1000000000)+s % 1000000000=s) (z V:Int) (h:o+X*K*c=z+X*(y*V)):o+X*K*(s % 1000000000-x)+X*K*1000000000*(s / 1000000000)=z+X*(y*(V+K*A)):=by grind
set_option maxHeartbeats 1000000 in
theorem X4 (m n:Nat) (hm:A6 m<274877906944) (hn:A6 n<274877906944):Lu (Ad m) (Ad n)=some (Ad (m*n)):=by
  unfold Lu
  unfold A6 at hm hn
  have hw:Ac (((Ad m).length:Int)+((Ad n).length:Int))=(((Ad m).length+(Ad n).length:Nat):Int):=by rw [Ac,Bo] <;> omega
  have M:Ac ((((Ad m).length+(Ad n).length:Nat):Int)+1)=(((Ad m).length+(Ad n).length+1:Nat):Int):=by rw [Ac,Bo] <;> omega
  rw [hw,M,Hw rfl rfl (Nat.le_refl _) (by omega) (by omega)]
  simp only [Ae]
  have ha:=Du m
  have hb:=Du n
  have D:Ah (Ad n)=n:=D1 n
  generalize Ad n=b at *
  generalize hL:b.length=L at *
  refine Gp (fun (i,o)=>∃k:Nat,i=k/\k<=(Ad m).length/\o.length=(Ad m).length+L+1/\Bk o/\o.drop (k+L)=List.replicate ((Ad m).length+1-k) 0/\Ah o=Ah ((Ad m).take k)*n)
    (fun (i,_)=>(Ad m).length-i.toNat) (fun o=>o.length=(Ad m).length+L+1/\Bk o/\Ah o=((m*n:Nat):Int))
    ⟨0,rfl,by omega,by simp,Bk.replicate _,by rw [List.drop_replicate]; congr 1; omega,by simp [Xq,Ah]⟩ ?_ ?_
  . rintro ⟨i,o⟩ ⟨k,rfl,hk,ho,G,U,N⟩
    rcases Nat.lt_or_ge k (Ad m).length with h | h
    . have hx:=ha.get h
      have e4:=I6 h (by omega)
      have e5:decide ((k:Int)<((Ad m).length:Int))=true:=Al (by omega)
      simp only [e5,cond_true]
      have X:Ag (Ad m) (k:Int)=some (Ad m)[k]:=Dc rfl h
      generalize J:(Ad m)[k]=x at *
      refine .inl (Xn (Ew (fun (c,j,o')=>∃q:Nat,j=q/\o'.length=(Ad m).length+L+1/\Bk o'/\0<=c/\c<1000000000 /\
          ((q<=L/\o'.drop (k+L)=List.replicate ((Ad m).length+1-k) 0/\Ah o' + 1000000000 ^ (k+q)*c=Ah o+1000000000 ^ k*(x*Ah (b.take q))) \/
           (q=L+1/\c=0/\o'.drop (k+1+L)=List.replicate ((Ad m).length+1-(k+1)) 0/\Ah o'=Ah o+1000000000 ^ k*(x*n))))
        (fun (_,j,_)=>L+1-j.toNat) (fun (c,j,o')=>o'.length=(Ad m).length+L+1/\Bk o'/\o'.drop (k+1+L)=List.replicate ((Ad m).length+1-(k+1)) 0/\Ah o'=Ah o+1000000000 ^ k*(x*n))
        ⟨0,rfl,ho,G,by omega,by omega,.inl ⟨by omega,U,by simp [Ah]⟩⟩ ?_ ?_))
      . rintro ⟨c,j,o'⟩ ⟨q,rfl,u,g,A,hc,hq⟩
        rcases hq with ⟨hq,f,l⟩ | ⟨rfl,rfl,f,l⟩
        . have e8:Ac ((k:Int)+(q:Int))=((k+q:Nat):Int):=by rw [Ac,Bo] <;> omega
          have e6:Ac ((q:Int)+1)=((q+1:Nat):Int):=I6 (Nat.lt_succ_self q) (by omega)
          have y:k+q<o'.length:=by omega
          have a1:=g.get y
          have w4:Ap o'[k+q]=o'[k+q]:=Cq (by omega) (by omega)
          have w5:Ap (c+o'[k+q])=c+o'[k+q]:=Cq (by omega) (by omega)
          have p1:(1000000000:Int) ^ (k+(q+1))=1000000000 ^ (k+q)*1000000000:=by rw [<-Nat.add_assoc,Int.pow_succ]
          have Z:(1000000000:Int) ^ (k+q)=1000000000 ^ k*1000000000 ^ q:=Int.pow_add ..
          rcases Nat.lt_or_ge q L with hq' | hq'
          . have B:q<b.length:=by omega
            have hy:=hb.get B
            have a6:=Xz hx.1 hx.2 hy.1 hy.2
            have w1:Ap x=x:=Cq (by omega) (by omega)
            have w2:Ap b[q]=b[q]:=Cq (by omega) (by omega)
            have w3:Ap (x*b[q])=x*b[q]:=Cq (by omega) (by omega)
            have Y:Ap (c+o'[k+q]+x*b[q])=c+o'[k+q]+x*b[q]:=Cq (by omega) (by omega)
            generalize hs:c+o'[k+q]+x*b[q]=s at Y
            have E:0<=s:=by omega
            have a7:s<1000000000000000000:=by omega
            have w7:Bw (s % 1000000000)=s % 1000000000:=Ef (by omega) (by omega)
            refine .inl ⟨(s / 1000000000,((q+1:Nat):Int),o'.set (k+q) (s % 1000000000)),?_,⟨q+1,rfl,by simpa using u,g.set _ (by omega) (by omega),by omega,by omega,.inl ⟨by omega,?_,?_⟩⟩,by simp; omega⟩
            . simp only [Al (by omega:(q:Int)<(L:Int)),cond_true,Ae,e8,Dc rfl y,X,Dc rfl B,w1,w2,w3,w4,w5,hs,Y,Ic E (show (0:Int)<1000000000 by decide),I3 E (show s<=_ by omega) (show (0:Int)<1000000000 by decide),w7,e6,Ey rfl]
            . rw [List.drop_set_of_lt (by omega)]; exact f
            . rw [Jp _ y,Eg _ B,p1,Z]
              rw [Z] at l
              exact cl1 hs rfl (Int.mul_ediv_add_emod s 1000000000) _ _ l
          . have R:q=L:=by omega
            subst R
            by_cases V:c>0
            . have z:o'[k+q]=0:=Art y f
              refine .inl ⟨(0,((q+1:Nat):Int),o'.set (k+q) c),?_,⟨q+1,rfl,by simpa using u,g.set _ (by omega) (by omega),by omega,by omega,.inr ⟨rfl,rfl,?_,?_⟩⟩,by simp⟩
              . have w8:Bw c=c:=Ef (by omega) (by omega)
                have w9:Ap c=c:=Cq (by omega) (by omega)
                simp only [Ar (by omega:¬(q:Int)<(q:Int)),cond_false,Al V,cond_true,Ae,e8,Dc rfl y,z,show Ap (0:Int)=0 from rfl,Int.add_zero,w9,Ic A (show (0:Int)<1000000000 by decide),I3 A (show c<=_ by omega) (show (0:Int)<1000000000 by decide),Int.emod_eq_of_lt A hc,Int.ediv_eq_zero_of_lt A hc,w8,e6,Ey rfl]
              . rw [List.drop_set_of_lt (by omega),show k+1+q=(k+q)+1 by omega,<-List.drop_drop,f,List.drop_replicate]; congr 1
              . rw [Jp _ y,z,Int.sub_zero]
                rw [List.take_of_length_le (by omega),D] at l
                omega
            . have I:c=0:=by omega
              subst I
              refine .inr ⟨(0,(q:Int),o'),?_,u,g,?_,?_⟩
              . simp only [Ar (by omega:¬(q:Int)<(q:Int)),cond_false,Ae,show decide ((0:Int)>0)=false from rfl]
              . rw [show k+1+q=(k+q)+1 by omega,<-List.drop_drop,f,List.drop_replicate]; congr 1
              . rw [List.take_of_length_le (by omega),D] at l
                omega
        . refine .inr ⟨(0,((L+1:Nat):Int),o'),?_,u,g,f,l⟩
          simp only [Ar (by omega:¬((L+1:Nat):Int)<(L:Int)),cond_false,Ae,show decide ((0:Int)>0)=false from rfl]
      . rintro ⟨c,j,o'⟩ ⟨u,g,f,l⟩
        refine ⟨_,by simp only [e4],(((k+1:Nat):Int),o'),rfl,⟨k+1,rfl,by omega,u,g,f,?_⟩,by simp; omega⟩
        rw [l,Eg _ h,Int.add_mul,<-N,J]; grind
    . have S:k=(Ad m).length:=by omega
      subst S
      refine .inr ⟨o,by simp,ho,G,?_⟩
      rw [List.take_length,D1] at N
      rw [N]; simp
  . rintro o ⟨h2,h3,h4⟩
    rw [Ov o (by omega),Ae,I4 h3 h4]
theorem Aru (m n:Nat) (V:A6 m<274877906944) (U:A6 n<274877906944):Wr (Ad m) (Ad n)=some (Ad (m+n)):=by
 unfold Wr
 unfold A6 at V U
 have ha:=Du m
 have hb:=Du n
 have I:Ah (Ad m)=m:=D1 m
 have G:Ah (Ad n)=n:=D1 n
 have L:=Xy (n:=m)
 have J:=Xy (n:=n)
 generalize Ad m=a at *
 generalize Ad n=b at *
 generalize hM:max a.length b.length=M
 refine Gp (fun (c,i,o)=>∃k:Nat,i=k/\o.length=k/\Bk o/\0<=c/\c<=1/\((k<=M/\Ah o+1000000000 ^ k*c=Ah (a.take k)+Ah (b.take k))\/(k=M+1/\c=0/\Ah o=m+n/\1000000000 ^ M<=Ah o)))
  (fun (_,i,_)=>M+1-i.toNat) (fun o=>Bk o/\Ah o=m+n/\(o≠[]->1000000000 ^ (o.length-1)<=Ah o))
  ⟨0,rfl,rfl,Bk.nil,by omega,by omega,.inl ⟨by omega,by simp [Ah]⟩⟩ ?_ ?_
 .rintro ⟨c,i,o⟩ ⟨k,rfl,l,h,Y,hc,hk⟩
  rcases hk with ⟨hk,x⟩ | ⟨rfl,rfl,x,hp⟩
  .have e4:Ac ((k:Int)+1)=((k+1:Nat):Int):=I6 (Nat.lt_succ_self k) (by omega)
   have step:∀s:Int,0<=s->s<2000000000 ->
     ((Eu .u32 s 1000000000).bind fun D=>(E8 s 1000000000).bind fun B=>(B8 4 o [B]).bind fun E=>some (Sum.inl (D,(Ac ((k:Int)+1)),E)))=some (Sum.inl (s / 1000000000,((k+1:Nat):Int),o++[s % 1000000000]):(Int×Int×List Int)⊕List Int):=by
    intro s h1 h2
    rw [Abl h1 (by omega) (by decide),Ae,Ic h1 (by decide),Ae,Dm (by simp; omega),Ae,e4]
   have g:∀s:Int,0<=s->s<2000000000->k<M->Ah (a.take (k+1))+Ah (b.take (k+1))=Ah (a.take k)+Ah (b.take k)+1000000000 ^ k*(s-c) ->
     (∃q:Nat,((k+1:Nat):Int)=q/\(o++[s % 1000000000]).length=q/\Bk (o++[s % 1000000000])/\0<=s / 1000000000/\s / 1000000000<=1/\((q<=M/\Ah (o++[s % 1000000000])+1000000000 ^ q*(s / 1000000000)=Ah (a.take q)+Ah (b.take q))\/(q=M+1/\s / 1000000000=0/\Ah (o++[s % 1000000000])=m+n/\1000000000 ^ M<=Ah (o++[s % 1000000000])))):=by
    intro s h1 h2 y u
    refine ⟨k+1,rfl,by simp [l],h.snoc (by omega) (by omega),by omega,by omega,.inl ⟨by omega,?_⟩⟩
    rw [u,<-x,Ie,l,Int.pow_succ]
    have:=Int.mul_ediv_add_emod s 1000000000
    grind
   by_cases j:k<a.length
   .have hx:=ha.get j
    have S:Bw (c+a[k])=c+a[k]:=Ef (by omega) (by omega)
    by_cases f:k<b.length
    .have hy:=hb.get f
     have A:Bw (c+a[k]+b[k])=c+a[k]+b[k]:=Ef (by omega) (by omega)
     refine .inl ⟨((c+a[k]+b[k]) / 1000000000,((k+1:Nat):Int),o++[(c+a[k]+b[k]) % 1000000000]),?_,g (c+a[k]+b[k]) (by omega) (by omega) (by omega) (by rw [Eg a j,Eg b f]; grind),by simp; omega⟩
     rw [<-step (c+a[k]+b[k]) (by omega) (by omega)]
     simp only [Al (by omega:(k:Int)<(a.length:Int)),Al (by omega:(k:Int)<(b.length:Int)),cond_true,Ae,Dc rfl j,Dc rfl f,S,A]
    .refine .inl ⟨((c+a[k]) / 1000000000,((k+1:Nat):Int),o++[(c+a[k]) % 1000000000]),?_,g (c+a[k]) (by omega) (by omega) (by omega) (by rw [Eg a j,Hy b (by omega),Hy b (by omega)]; grind),by simp; omega⟩
     rw [<-step (c+a[k]) (by omega) (by omega)]
     simp only [Al (by omega:(k:Int)<(a.length:Int)),Ar (by omega:¬(k:Int)<(b.length:Int)),cond_true,cond_false,Ae,Dc rfl j,S]
   .by_cases f:k<b.length
    .have hy:=hb.get f
     have A:Bw (c+b[k])=c+b[k]:=Ef (by omega) (by omega)
     refine .inl ⟨((c+b[k]) / 1000000000,((k+1:Nat):Int),o++[(c+b[k]) % 1000000000]),?_,g (c+b[k]) (by omega) (by omega) (by omega) (by rw [Eg b f,Hy a (by omega),Hy a (by omega)]; grind),by simp; omega⟩
     rw [<-step (c+b[k]) (by omega) (by omega)]
     simp only [Ar (by omega:¬(k:Int)<(a.length:Int)),Al (by omega:(k:Int)<(b.length:Int)),cond_true,cond_false,Ae,Dc rfl f,A]
    .have y:k=M:=by omega
     subst y
     rw [Hy a (by omega),Hy b (by omega),I,G] at x
     by_cases Z:c>0
     .have R:c=1:=by omega
      subst R
      refine .inl ⟨((1:Int) / 1000000000,((k+1:Nat):Int),o++[(1:Int) % 1000000000]),?_,⟨k+1,rfl,by simp [l],h.snoc (by decide) (by decide),by decide,by decide,.inr ⟨rfl,rfl,?_,?_⟩⟩,by simp⟩
      .rw [<-step 1 (by omega) (by omega)]
       simp only [Ar (by omega:¬(k:Int)<(a.length:Int)),Ar (by omega:¬(k:Int)<(b.length:Int)),cond_false,Ae,show decide ((1:Int)>0)=true from rfl,cond_true]
      .rw [Ie,l]; exact x
      .rw [Ie,l,show (1:Int) % 1000000000=1 from rfl]
       have:=Fh h.u32
       omega
     .have z:c=0:=by omega
      subst z
      refine .inr ⟨o,?_,h,by omega,fun N=>?_⟩
      .simp only [Ar (by omega:¬(k:Int)<(a.length:Int)),Ar (by omega:¬(k:Int)<(b.length:Int)),cond_false,Ae,show decide ((0:Int)>0)=false from rfl]
      .have X:k≠0:=by
        intro e; rw [e] at l; exact N (List.length_eq_zero_iff.1 l)
       rcases Nat.le_total a.length b.length with hab | hab
       .have:k=b.length:=by omega
        have h1:=J (by intro e; rw [e] at this; simp at this; omega)
        rw [l,this]; omega
       .have:k=a.length:=by omega
        have h1:=L (by intro e; rw [e] at this; simp at this; omega)
        rw [l,this]; omega
  .refine .inr ⟨o,?_,h,x,fun _=>by rw [l]; simpa using hp⟩
   simp only [Ar (by omega:¬((M+1:Nat):Int)<(a.length:Int)),Ar (by omega:¬((M+1:Nat):Int)<(b.length:Int)),cond_false,Ae,show decide ((0:Int)>0)=false from rfl]
 .rintro o ⟨h1,h2,h3⟩
  congr 1
  exact Xs (Abp h1 h3) (by rw [h2]; simp)
end Go.Ab
