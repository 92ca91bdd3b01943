/- Plain laws: what the plain functions answer. -/
import Derived.Test.YtpedagkdpokpkaaGreatDoorWaDef
namespace Go.Ab
open Go
theorem Ad {α β:Type} (a:α) (f:α->Option β):(some a).bind f=f a:=rfl
theorem B7 {α:Type} {l:List α} {i:Nat} (h:i<l.length):l[i]? = some l[i]:=List.getElem?_eq_getElem h
theorem Ct {α:Type} {l:List α} {i:Nat} {a:α} (h:l[i]? = some a):a∈l:=List.mem_of_getElem? h
theorem C9 (a b:Bool):((a&&b)=true)=(a=true/\b=true):=Bool.and_eq_true a b
theorem D6:(!true)=false:=rfl
theorem Ho {S E R:Type} {step:S->Option (S⊕E)} {s:S} {J:E->Option R} {r:R} (c:S->Prop) (m:S->Nat) (b:E->Prop) (h0:c s)
  (f:∀s,c s->(∃s',step s=some (.inl s')/\c s'/\m s' < m s)\/(∃e,step s=some (.inr e)/\b e)) (g:∀e,b e->J e=some r):(Am step s).bind J=some r:=by
 obtain ⟨e,h1,h2⟩:=I2 c m b f s h0
 rw [h1]; exact g e h2
theorem Fb {S E R:Type} {step:S->Option (S⊕E)} {s:S} {J:E->Option R} {Q:R->Prop} (c:S->Prop) (m:S->Nat) (b:E->Prop) (h0:c s)
  (f:∀s,c s->(∃s',step s=some (.inl s')/\c s'/\m s' < m s)\/(∃e,step s=some (.inr e)/\b e)) (g:∀e,b e->∃r,J e=some r/\Q r):∃r,(Am step s).bind J=some r/\Q r:=by
 obtain ⟨e,h1,h2⟩:=I2 c m b f s h0
 rw [h1]; exact g e h2
theorem Aae {S E:Type} {X:Option (S⊕E)} {Q:S->Prop} (h:∃r,X=some r/\∃s',r = .inl s'/\Q s'):∃s',X=some (.inl s')/\Q s':=by
 obtain ⟨r,h1,s',rfl,h2⟩:=h
 exact ⟨s',h1,h2⟩
theorem Avs {S E:Type} {X:Option (S⊕E)} {Q:E->Prop} (h:∃r,X=some r/\∃e,r = .inr e/\Q e):∃e,X=some (.inr e)/\Q e:=by
 obtain ⟨r,h1,s',rfl,h2⟩:=h
 exact ⟨s',h1,h2⟩
theorem Aaf {A R:Type} {X:Option R} (f:A->R) {Q:A->Prop} (h:∃r,X=some r/\∃a,r=f a/\Q a):∃a,X=some (f a)/\Q a:=by
 obtain ⟨r,h1,a,rfl,h2⟩:=h
 exact ⟨a,h1,h2⟩
theorem Avt {α β:Type} {c:Prop} [Decidable c] (a b:Option α) (f:α->Option β):(if c then a else b).bind f=if c then a.bind f else b.bind f:=by split <;> rfl
theorem Bx {n:Int} (h1 : -9223372036854775808<=n) (h2:n<=9223372036854775807):IntKind.i64.wrap n=n:=by
 have e:IntKind.i64.wrap n=if 9223372036854775808<=n % 18446744073709551616 then n % 18446744073709551616-18446744073709551616 else n % 18446744073709551616:=by
  simp [IntKind.wrap,IntKind.bits,IntKind.signed]
 rw [e]; split <;> omega
theorem C7 {n:Int} (h1:0<=n) (h2:n<=18446744073709551615):IntKind.u64.wrap n=n:=by
 have e:IntKind.u64.wrap n=n % 18446744073709551616:=by simp [IntKind.wrap,IntKind.bits,IntKind.signed]
 rw [e]; omega
theorem Ff {n:Int} (h1:0<=n) (h2:n<=4294967295):IntKind.u32.wrap n=n:=by
 have e:IntKind.u32.wrap n=n % 4294967296:=by simp [IntKind.wrap,IntKind.bits,IntKind.signed]
 rw [e]; omega
theorem Dp {α:Type} {l:List α} {i:Int} {n:Nat} (b:i=n) (h:n<l.length):Ag l i=some l[n]:=by
 subst b; simp [Ag,h]
theorem Cj {α:Type} {l:List α} {i:Int} {n:Nat} {x:α} (b:i=n) (h:l[n]? = some x):Ag l i=some x:=by
 subst b; simp [Ag,h]
theorem Ak0 {α:Type} {l:List α} {i:Int} (h:i<0\/(l.length:Int)<=i):Ag l i=none:=by
 unfold Ag
 split
 .rw [List.getElem?_eq_none]; omega
 .rfl
theorem Fq {α:Type} {l:List α} {i:Int} {n:Nat} (b:i=n) (x:α):Cr l i x=l.set n x:=by
 subst b; simp [Cr]
theorem Dj {α:Type} {b:Nat} {xs ys:List α} (h:(xs.length+ys.length)*b<=140737488355328):Ce b xs ys=some (xs++ys):=by
 simp [Ce,h]
theorem Is {α:Type} {b:Nat} {len f:Int} {z:α} {n c:Nat} (h1:len=n) (h2:f=c) (h3:n<=c) (g:b*c<=281474976710656) (h:c<=140737488355328):E9 b len f z=some (List.replicate n z):=by
 subst h1; subst h2
 have a1:(0:Int)<=(n:Int):=by omega
 have a2:(n:Int)<=(c:Int):=by omega
 have a3:(c:Int)<=140737488355328:=by omega
 simp [E9,a2,a3,g]
theorem Aen {α:Type} {b:Nat} {f:Int} {z:α} {c:Nat} (h2:f=c) (h:b*c<=281474976710656) (g:c<=140737488355328):E9 b 0 f z=some []:=by
 exact Is (len:=0) (n:=0) (c:=c) rfl h2 (by omega) h g
theorem Cv {a b:Int} (h:a≠b):(a==b)=false:=by simpa using h
theorem Es {a b:Int} (h:a=b):(a==b)=true:=by simpa using h
theorem Et {a b:Int} (h:a≠b):(a != b)=true:=by simpa using h
theorem Fc {a b:Int} (h:a=b):(a != b)=false:=by simpa using h
theorem Al {p:Prop} [Decidable p] (h:p):decide p=true:=decide_eq_true h
theorem Aq {p:Prop} [Decidable p] (h:¬p):decide p=false:=decide_eq_false h
theorem Aag {α:Type} {l:List α} {b:Int} {n:Nat} (h:b=n) (c:n<=l.length):D1 l 0 b=some (l.take n):=by
 subst h
 have:(n:Int)<=(l.length:Int):=by omega
 simp [D1,this]
theorem Jb {a b:Int} (ha:0<=a) (hb:0<b):Ge a b=some (a % b):=by
 have:b≠0:=by omega
 simp [Ge,this,Int.tmod_eq_emod_of_nonneg ha]
theorem J4 {a b:Int} (ha:0<=a) (ha':a<=18446744073709551615) (hb:0<b):Ft .u64 a b=some (a / b):=by
 have:b≠0:=by omega
 have h1:0<=a / b:=Int.ediv_nonneg ha (by omega)
 have h2:a / b<=a:=Int.ediv_le_self _ ha
 simp [Ft,this,Int.tdiv_eq_ediv_of_nonneg ha]
 exact C7 h1 (by omega)
theorem Aeo {a b:Int} (ha:0<=a) (ha':a<=4294967295) (hb:0<b):Ft .u32 a b=some (a / b):=by
 have:b≠0:=by omega
 have h1:0<=a / b:=Int.ediv_nonneg ha (by omega)
 have h2:a / b<=a:=Int.ediv_le_self _ ha
 simp [Ft,this,Int.tdiv_eq_ediv_of_nonneg ha]
 exact Ff h1 (by omega)
def Ai:List Int->Int
 | []=>0
 | d::l=>d+1000000000*Ai l
def Bw (l:List Int):Prop:=∀d∈l,0<=d/\d<1000000000
def J5 (l:List Int):Prop:=∀d∈l,0<=d/\d<4294967296
def Can (l:List Int):Prop:=Bw l/\∀h:l≠[],l.getLast h≠0
def Ae (n:Nat):List Int:=if h:n=0 then [] else ((n % 1000000000:Nat):Int)::Ae (n / 1000000000)
termination_by n
decreasing_by exact Nat.div_lt_self (by omega) (by decide)
theorem Fi:Ae 0 = []:=by rw [Ae]; simp
theorem Lq {n:Nat} (h:n≠0):Ae n=((n % 1000000000:Nat):Int)::Ae (n / 1000000000):=by rw [Ae]; simp [h]
theorem Bw.nil:Bw []:=fun _ h=>by cases h
theorem Bw.append {l m:List Int} (h:Bw l) (h':Bw m):Bw (l++m):=by
 intro d hd
 rcases List.mem_append.1 hd with hd | hd
 .exact h d hd
 .exact h' d hd
theorem Bw.one {d:Int} (h:0<=d) (h':d<1000000000):Bw [d]:=by
 intro x hx; simp at hx; subst hx; exact ⟨h,h'⟩
theorem Bw.snoc {l:List Int} {d:Int} (h:Bw l) (hd:0<=d) (b:d<1000000000):Bw (l++[d]):=h.append (Bw.one hd b)
theorem Bw.take {l:List Int} (h:Bw l) (k:Nat):Bw (l.take k):=fun d hd=>h d (List.mem_of_mem_take hd)
theorem Bw.drop {l:List Int} (h:Bw l) (k:Nat):Bw (l.drop k):=fun d hd=>h d (List.mem_of_mem_drop hd)
theorem Bw.get {l:List Int} (h:Bw l) {i:Nat} (b:i<l.length):0<=l[i]/\l[i]<1000000000:=h _ (List.getElem_mem b)
theorem Bw.set {l:List Int} (h:Bw l) (i:Nat) {d:Int} (hd:0<=d) (b:d<1000000000):Bw (l.set i d):=by
 intro x hx
 rcases List.mem_or_eq_of_mem_set hx with hx | rfl
 .exact h x hx
 .exact ⟨hd,b⟩
theorem Bw.replicate (n:Nat):Bw (List.replicate n 0):=by
 intro d hd
 have:=List.eq_of_mem_replicate hd
 subst this; decide
theorem Bw.tail {d:Int} {l:List Int} (h:Bw (d::l)):Bw l:=fun x hx=>h x (by simp [hx])
theorem Bw.u32 {l:List Int} (h:Bw l):J5 l:=fun d hd=>by have:=h d hd; omega
theorem Ak1 (l m:List Int):Ai (l++m)=Ai l+1000000000 ^ l.length*Ai m:=by
 induction l with
 | nil=>simp [Ai]
 | cons d l ih=>simp only [List.cons_append,Ai,ih,List.length_cons,Int.pow_succ]; grind
theorem Jc (l:List Int) (d:Int):Ai (l++[d])=Ai l+1000000000 ^ l.length*d:=by rw [Ak1]; simp [Ai]
theorem Fg (l:List Int) {k:Nat} (h:k<l.length):Ai (l.take (k+1))=Ai (l.take k)+1000000000 ^ k*l[k]:=by
 rw [List.take_succ_eq_append_getElem h,Jc]
 simp [Nat.min_eq_left (Nat.le_of_lt h)]
theorem Aah (n:Nat):Ai (List.replicate n 0)=0:=by
 induction n with
 | zero=>rfl
 | succ n ih=>simp [List.replicate_succ,Ai,ih]
theorem Mo (l:List Int) (k:Nat) (h:k<=l.length):Ai l=Ai (l.take k)+1000000000 ^ k*Ai (l.drop k):=by
 have e:=Ak1 (l.take k) (l.drop k)
 rw [List.take_append_drop] at e
 rw [e,List.length_take,Nat.min_eq_left h]
theorem Ku (l:List Int) {i:Nat} (h:i<l.length) (d:Int):Ai (l.set i d)=Ai l+1000000000 ^ i*(d-l[i]):=by
 induction l generalizing i with
 | nil=>simp at h
 | cons x l ih=>
  cases i with
  | zero=>simp [Ai]; omega
  | succ i=>
   have b:i<l.length:=by simpa using h
   simp only [List.set_cons_succ,Ai,ih b,List.getElem_cons_succ,Int.pow_succ]
   grind
theorem F8 {l:List Int} (h:J5 l):0<=Ai l:=by
 induction l with
 | nil=>simp [Ai]
 | cons d l ih=>
  have h1:=h d (by simp)
  have h2:=ih (fun x hx=>h x (by simp [hx]))
  simp only [Ai]; omega
theorem Jd (n:Nat):(0:Int)<1000000000 ^ n:=Int.pow_pos (by decide)
theorem It {l:List Int} (h:Bw l):Ai l<1000000000 ^ l.length:=by
 induction l with
 | nil=>simp [Ai]
 | cons d l ih=>
  have h1:=h d (by simp)
  have h2:=ih h.tail
  simp only [Ai,List.length_cons,Int.pow_succ]
  omega
theorem Eu (n:Nat):Ai (Ae n)=n:=by
 induction n using Nat.strongRecOn with
 | _ n ih=>
  by_cases h:n=0
  .subst h; rw [Fi]; rfl
  .rw [Lq h,Ai,ih (n / 1000000000) (Nat.div_lt_self (by omega) (by decide))]
   omega
theorem Ee (n:Nat):Bw (Ae n):=by
 induction n using Nat.strongRecOn with
 | _ n ih=>
  by_cases h:n=0
  .subst h; rw [Fi]; exact Bw.nil
  .rw [Lq h]
   intro d hd
   simp at hd
   rcases hd with rfl | hd
   .omega
   .exact ih (n / 1000000000) (Nat.div_lt_self (by omega) (by decide)) d hd
theorem Hq {n:Nat} (h:n≠0):Ae n≠[]:=by rw [Lq h]; simp
theorem Aai (n:Nat):Can (Ae n):=by
 refine ⟨Ee n,?_⟩
 induction n using Nat.strongRecOn with
 | _ n ih=>
  intro b
  have h:n≠0:=fun e=>b (by rw [e]; exact Fi)
  have hc:=Lq h
  by_cases h2:n / 1000000000=0
  .have c:Ae n = [((n % 1000000000:Nat):Int)]:=by rw [hc,h2,Fi]
   simp only [c,List.getLast_singleton]
   omega
  .have:=ih (n / 1000000000) (Nat.div_lt_self (by omega) (by decide)) (Hq h2)
   simp only [hc]
   rwa [List.getLast_cons (Hq h2)]
theorem Aep {l:List Int} (h:Can l):Ae (Ai l).toNat=l:=by
 induction l with
 | nil=>exact Fi
 | cons d l ih=>
  obtain ⟨h1,h2⟩:=h
  have hd:=h1 d (by simp)
  have g:Can l:=by
   refine ⟨h1.tail,fun b=>?_⟩
   have:=h2 (by simp)
   rwa [List.getLast_cons b] at this
  have f:=F8 (h1.tail).u32
  have b:(Ai (d::l)).toNat≠0:=by
   intro e
   simp only [Ai] at e
   have c:d=0:=by omega
   have f:Ai l=0:=by omega
   have:l = []:=by rw [<-ih g,f]; exact Fi
   subst this
   exact h2 (by simp) (by simpa using c)
  rw [Lq b]
  simp only [Ai]
  have j:((d+1000000000*Ai l).toNat % 1000000000:Nat)=d.toNat:=by omega
  have i:(d+1000000000*Ai l).toNat / 1000000000=(Ai l).toNat:=by omega
  rw [j,i,ih g]
  congr 1; omega
theorem Aaj {l:List Int} {n:Nat} (h:Can l) (b:Ai l=n):l=Ae n:=by
 rw [<-Aep h,b]; rfl
def Gm:List Int->List Int
 | []=>[]
 | d::l=>match Gm l with
  | []=>if d=0 then [] else [d]
  | x::m=>d::x::m
theorem Avu (l:List Int):Gm (l++[0])=Gm l:=by
 induction l with
 | nil=>rfl
 | cons d l ih=>simp only [List.cons_append,Gm,ih]
theorem Avv {l:List Int} {d:Int} (h:d≠0):Gm (l++[d])=l++[d]:=by
 induction l with
 | nil=>simp [Gm,h]
 | cons x l ih=>
  simp only [List.cons_append,Gm,ih]
  cases l with
  | nil=>rfl
  | cons y l=>rfl
theorem Ak2 {l:List Int} (h:Bw l):Can (Gm l)/\Ai (Gm l)=Ai l:=by
 induction l with
 | nil=>exact ⟨⟨Bw.nil,fun h=>(h rfl).elim⟩,rfl⟩
 | cons d l ih=>
  obtain ⟨⟨i1,i2⟩,i3⟩:=ih h.tail
  have hd:=h d (by simp)
  simp only [Gm]
  cases ht:Gm l with
  | nil=>
   rw [ht] at i3
   simp only [Ai] at i3
   simp only []
   by_cases b:d=0
   .rw [if_pos b]
    refine ⟨⟨Bw.nil,fun h=>(h rfl).elim⟩,?_⟩
    simp only [Ai]; rw [<-i3]; omega
   .rw [if_neg b]
    refine ⟨⟨Bw.one hd.1 hd.2,fun _=>by simpa using b⟩,?_⟩
    simp only [Ai]; rw [<-i3]
  | cons x m=>
   rw [ht] at i1 i2 i3
   simp only []
   refine ⟨⟨?_,fun _=>?_⟩,?_⟩
   .intro y hy
    rcases List.mem_cons.1 hy with rfl | hy
    .exact hd
    .exact i1 y hy
   .rw [List.getLast_cons (by simp)]; exact i2 (by simp)
   .simp only [Ai] at i3 ⊢; rw [i3]
theorem J6 {l:List Int} {n:Nat} (h:Bw l) (b:Ai l=n):Gm l=Ae n:=by
 obtain ⟨h1,h2⟩:=Ak2 h
 exact Aaj h1 (h2.trans b)
theorem Avw {l:List Int} (h:Can l):Gm l=l:=by
 obtain ⟨h1,h2⟩:=Ak2 h.1
 rw [<-Aep h1,h2,Aep h]
def Bd (n:Nat):Nat:=(Ae n).length
theorem Ws:Bd 0=0:=by simp [Bd,Fi]
theorem Mp (n:Nat):n<1000000000 ^ Bd n:=by
 have:=It (Ee n)
 rw [Eu] at this
 have e:((1000000000 ^ Bd n:Nat):Int)=1000000000 ^ Bd n:=by simp
 unfold Bd at *
 omega
theorem Je {n k:Nat} (h:n<1000000000 ^ k):Bd n<=k:=by
 induction k generalizing n with
 | zero=>simp at h; subst h; simp [Ws]
 | succ k ih=>
  by_cases h0:n=0
  .subst h0; simp [Ws]
  .unfold Bd
   rw [Lq h0,List.length_cons]
   have:n / 1000000000<1000000000 ^ k:=by
    rw [Nat.div_lt_iff_lt_mul (by decide)]; rwa [Nat.pow_succ] at h
   have:=ih this
   unfold Bd at this; omega
theorem Gn {m n:Nat} (h:m<=n):Bd m<=Bd n:=Je (Nat.lt_of_le_of_lt h (Mp n))
theorem Ak3 {n k:Nat} (h:k<Bd n):1000000000 ^ k<=n:=by
 rcases Nat.lt_or_ge n (1000000000 ^ k) with h' | h'
 .have:=Je h'; omega
 .exact h'
theorem Ts (m n:Nat):Bd (m+n)<=max (Bd m) (Bd n)+1:=by
 apply Je
 have h1:=Mp m
 have h2:=Mp n
 have h3:1000000000 ^ Bd m<=1000000000 ^ max (Bd m) (Bd n):=Nat.pow_le_pow_right (by decide) (Nat.le_max_left _ _)
 have b:1000000000 ^ Bd n<=1000000000 ^ max (Bd m) (Bd n):=Nat.pow_le_pow_right (by decide) (Nat.le_max_right _ _)
 rw [Nat.pow_succ]
 omega
theorem Gp (m n:Nat):Bd (m*n)<=Bd m+Bd n:=by
 apply Je
 rw [Nat.pow_add]
 exact Nat.mul_lt_mul_of_lt_of_le (Mp m) (Nat.le_of_lt (Mp n)) (Nat.pow_pos (by decide))
theorem Aeq (m n:Nat):Bd (m / n)<=Bd m:=Gn (Nat.div_le_self _ _)
theorem Ak4 {m n:Nat} (h:Bd m<Bd n):m<n:=Nat.lt_of_lt_of_le (Mp m) (Ak3 h)
theorem Ak5 {l m:List Int} (f:Bw l) {k:Nat} (hk:k<l.length) (b:k<m.length) (hm:Bw m) (hd:l.drop (k+1)=m.drop (k+1)) (c:l[k]<m[k]):Ai l<Ai m:=by
 have i:=Mo l (k+1) hk
 have h:=Mo m (k+1) b
 rw [Fg l hk] at i
 rw [Fg m b,<-hd] at h
 have h3:=It (f.take k)
 have j:=F8 ((hm.take k).u32)
 rw [List.length_take,Nat.min_eq_left (Nat.le_of_lt hk)] at h3
 have g:1000000000 ^ k*(l[k]+1)<=1000000000 ^ k*m[k]:=Int.mul_le_mul_of_nonneg_left c (Int.le_of_lt (Jd k))
 rw [Int.mul_add] at g
 omega
end Go.Ab
namespace Go.Ab
open Go
theorem G3 {S E R:Type} {step:S->Option (S⊕E)} {s0:S} {J:E->Option R} {r:R} (n:Nat) (b:Nat->S) (h0:s0=b 0)
  (c:∀j,j<n->step (b j)=some (.inl (b (j+1)))) (f:∃e,step (b n)=some (.inr e)/\J e=some r):(Am step s0).bind J=some r:=by
 have key:∀m,m<=n->Am step (b 0)=Am step (b m):=by
  intro m
  induction m with
  | zero=>intro _; rfl
  | succ m ih=>intro h; rw [ih (by omega),Ha (c m (by omega))]
 obtain ⟨e,h1,h2⟩:=f
 rw [h0,key n (Nat.le_refl _),D0 h1]
 exact h2
theorem Db {j n:Nat} (h:j<n) (b:n<4611686018427387904):Ac ((j:Int)+1)=((j+1:Nat):Int):=by
 rw [Ac,Bx] <;> omega
theorem Ak6 {α:Type} {l:List α} {p:α×Nat->Bool} (h:l.zipIdx.all p=false):∃j x,l[j]? = some x/\p (x,j)=false/\∀i y,i<j->l[i]? = some y->p (y,i)=true:=by
 have key:∀(n:Nat),(∀i y,i<n->l[i]? = some y->p (y,i)=true)\/∃j x,j<n/\l[j]? = some x/\p (x,j)=false/\∀i y,i<j->l[i]? = some y->p (y,i)=true:=by
  intro n
  induction n with
  | zero=>exact .inl (fun i y h=>by omega)
  | succ n ih=>
   rcases ih with ih | ⟨j,x,h1,h2,h3,c⟩
   .cases hx:l[n]? with
    | none=>exact .inl (fun i y b hy=>by
      rcases Nat.lt_or_ge i n with h | h
      .exact ih i y h hy
      .have:i=n:=by omega
       subst this; rw [hx] at hy; cases hy)
    | some x=>
     cases hp:p (x,n) with
     | true=>exact .inl (fun i y b hy=>by
       rcases Nat.lt_or_ge i n with h | h
       .exact ih i y h hy
       .have:i=n:=by omega
        subst this; rw [hx] at hy; cases hy; exact hp)
     | false=>exact .inr ⟨n,x,by omega,hx,hp,ih⟩
   .exact .inr ⟨j,x,by omega,h2,h3,c⟩
 rcases key l.length with hk | ⟨j,x,h1,h2,h3,c⟩
 .exfalso
  have:l.zipIdx.all p=true:=by
   rw [List.all_eq_true]
   rintro ⟨y,i⟩ hy
   have:=List.mk_mem_zipIdx_iff_getElem?.1 hy
   have b:i<l.length:=by
    rcases Nat.lt_or_ge i l.length with h | h
    .exact h
    .rw [List.getElem?_eq_none h] at this; cases this
   exact hk i y b this
  rw [this] at h; cases h
 .exact ⟨j,x,h2,h3,c⟩
theorem Jf {α:Type} {l:List α} {p:α×Nat->Bool} (h:l.zipIdx.all p=true) {j:Nat} {x:α} (hx:l[j]? = some x):p (x,j)=true :=
 List.all_eq_true.1 h _ (List.mk_mem_zipIdx_iff_getElem?.2 hx)
theorem Ak7 {α:Type} {l:List α} {p:α×Nat->Bool} (h:∀j x,l[j]? = some x->p (x,j)=true):l.zipIdx.all p=true:=by
 rw [List.all_eq_true]
 rintro ⟨y,i⟩ hy
 exact h i y (List.mk_mem_zipIdx_iff_getElem?.1 hy)
theorem Tt {S E R α:Type} {step:S->Option (S⊕E)} {s0:S} {J:E->Option R} {rt rf:R} (l:List α) (p:α×Nat->Bool) (b:Nat->S) (h0:s0=b 0) (g:l.length<4611686018427387904)
  (f:∀(j:Nat) (x:α),l[j]? = some x->(∀i y,i<j->l[i]? = some y->p (y,i)=true)->decide ((j:Int)<(l.length:Int))=true->Ag l (j:Int)=some x->Ac ((j:Int)+1)=((j+1:Nat):Int) ->
   (p (x,j)=true->step (b j)=some (.inl (b (j+1))))/\(p (x,j)=false->∃e,step (b j)=some (.inr e)/\J e=some rf))
  (s:decide ((l.length:Int)<(l.length:Int))=false->l.zipIdx.all p=true->∃e,step (b l.length)=some (.inr e)/\J e=some rt):(Am step s0).bind J=some (bif l.zipIdx.all p then rt else rf):=by
 have c:∀(j:Nat) (x:α),l[j]? = some x->(∀i y,i<j->l[i]? = some y->p (y,i)=true)->_:=fun j x hx hy=>
  have hj:j<l.length:=by
   rcases Nat.lt_or_ge j l.length with h | h
   .exact h
   .rw [List.getElem?_eq_none h] at hx; cases hx
  f j x hx hy (Al (by omega)) (Cj rfl hx) (Db hj g)
 cases hb:l.zipIdx.all p with
 | true=>
  refine G3 l.length b h0 (fun j hj=>?_) (s (by simp) hb)
  have hx:l[j]? = some l[j]:=B7 hj
  exact (c j _ hx (fun i y _ hy=>Jf hb hy)).1 (Jf hb hx)
 | false=>
  obtain ⟨j,x,h1,h2,h3⟩:=Ak6 hb
  refine G3 j b h0 (fun i q=>?_) ((c j x h1 h3).2 h2)
  have hj:j<l.length:=by
   rcases Nat.lt_or_ge j l.length with h | h
   .exact h
   .rw [List.getElem?_eq_none h] at h1; cases h1
  have hx:l[i]? = some l[i]:=B7 (by omega)
  exact (c i _ hx (fun k y hk hy=>h3 k y (by omega) hy)).1 (h3 i _ q hx)
theorem Aak {α:Type} (l:List α) (p:α->Bool):l.zipIdx.all (fun q=>p q.1)=l.all p:=by
 cases h:l.all p with
 | true=>
  exact Ak7 fun j x hx=>List.all_eq_true.1 h _ (Ct hx)
 | false=>
  cases h':l.zipIdx.all (fun q=>p q.1) with
  | false=>rfl
  | true=>
   rw [<-h]; symm
   rw [List.all_eq_true]
   intro x hx
   obtain ⟨j,hj⟩:=List.getElem?_of_mem hx
   exact Jf h' hj
theorem Ig {S E R α:Type} {step:S->Option (S⊕E)} {s0:S} {J:E->Option R} {rt rf:R} (l:List α) (p:α->Bool) (b:Nat->S) (h0:s0=b 0) (f:l.length<4611686018427387904)
  (c:∀(j:Nat) (x:α),l[j]? = some x->decide ((j:Int)<(l.length:Int))=true->Ag l (j:Int)=some x->Ac ((j:Int)+1)=((j+1:Nat):Int) ->
   (p x=true->step (b j)=some (.inl (b (j+1))))/\(p x=false->∃e,step (b j)=some (.inr e)/\J e=some rf))
  (g:decide ((l.length:Int)<(l.length:Int))=false->∃e,step (b l.length)=some (.inr e)/\J e=some rt):(Am step s0).bind J=some (bif l.all p then rt else rf):=by
 rw [<-Aak l p]
 exact Tt l (fun q=>p q.1) b h0 f (fun j x hx _=>c j x hx) (fun h _=>g h)
theorem Iu {S E R α:Type} {step:S->Option (S⊕E)} {s0:S} {J:E->Option R} {r:R} (l:List α) (b:Nat->S) (h0:s0=b 0) (f:l.length<4611686018427387904)
  (c:∀(j:Nat) (x:α),j<l.length->l[j]? = some x->decide ((j:Int)<(l.length:Int))=true->Ag l (j:Int)=some x->Ac ((j:Int)+1)=((j+1:Nat):Int)->step (b j)=some (.inl (b (j+1))))
  (g:decide ((l.length:Int)<(l.length:Int))=false->∃e,step (b l.length)=some (.inr e)/\J e=some r):(Am step s0).bind J=some r:=by
 refine G3 l.length b h0 (fun j hj=>?_) (g (by simp))
 have hx:l[j]? = some l[j]:=B7 hj
 exact c j _ hj hx (Al (by omega)) (Cj rfl hx) (Db hj f)
theorem Dk {α:Type} {l:List α} {j:Nat} {x:α} (h:l[j]? = some x):l.take (j+1)=l.take j++[x]:=by
 rw [List.take_add_one,h]; rfl
theorem Fd {α:Type} {l:List α} {j:Nat} {x:α} (h:l[j]? = some x):j<l.length:=by
 rcases Nat.lt_or_ge j l.length with h' | h'
 .exact h'
 .rw [List.getElem?_eq_none h'] at h; cases h
theorem Kv (b:Bool):(bif b then true else false)=b:=by cases b <;> rfl
theorem Avx (b:Bool):(bif b then false else true) = !b:=by cases b <;> rfl
theorem Ak8 {A R:Type} {X:Option A} {f:A->Option R} {y:R} {Q:A->Prop} (h:∃r,X=some r/\Q r) (b:∀r,Q r->f r=some y):X.bind f=some y:=by
 obtain ⟨r,h1,h2⟩:=h
 rw [h1]; exact b r h2
theorem Aer {α:Type} (l:List α) (p:α->Bool) {step:Int->Option (Int⊕(Int⊕Unit))} {J:Int⊕Unit->Option Int} (q:l.length<4611686018427387904)
  (k:∀(j:Nat) (x:α),x∈l->decide ((j:Int)<(l.length:Int))=true->Ag l (j:Int)=some x->Ac ((j:Int)+1)=((j+1:Nat):Int) ->
   step (j:Int)=bif p x then some (.inr (.inl (j:Int))) else some (.inl ((j+1:Nat):Int)))
  (s:decide ((l.length:Int)<(l.length:Int))=false->step (l.length:Int)=some (.inr (.inr ())))
  (c:∀i,J (.inl i)=some i) (b:J (.inr ())=some (-1)):∃i,(Am step 0).bind J=some i/\decide (i>=0)=l.any p:=by
 have key:(Am step 0).bind (fun z=>(J z).bind fun i=>some (decide (i>=0)))=some (bif l.all (fun x=>!p x) then false else true):=by
  refine Ig l (fun x=>!p x) (fun j=>(j:Int)) rfl q (fun j x hx h1 h2 h3=>?_) (fun h=>⟨.inr (),s h,by rw [b]; rfl⟩)
  have h:=k j x (Ct hx) h1 h2 h3
  simp only [h]
  cases p x with
  | true=>exact ⟨(fun h=>by cases h),fun _=>⟨.inl (j:Int),rfl,by simp only [c,Ad]; rw [Al (by omega)]⟩⟩
  | false=>exact ⟨fun _=>rfl,fun h=>by cases h⟩
 have e:l.any p=(bif l.all (fun x=>!p x) then false else true):=by
  rw [Avx,List.not_all_eq_any_not]; simp
 rw [e]
 cases f:Am step 0 with
 | none=>rw [f] at key; cases key
 | some z=>
  rw [f,Ad] at key
  rw [Ad]
  cases g:J z with
  | none=>rw [g] at key; cases key
  | some i=>
   rw [g,Ad] at key
   exact ⟨i,rfl,Option.some.inj key⟩
theorem Aes {S E R α M:Type} {step:S->Option (S⊕E)} {s0:S} {J:E->Option R} (l:List α) (p:α×Nat->Bool) (b:Nat->M->S) (I:M->Prop) (z A:R->Prop) (g:M) (h0:s0=b 0 g) (h:I g) (D:l.length<4611686018427387904)
  (B:∀(j:Nat) (x:α) (m:M),I m->l[j]? = some x->(∀i y,i<j->l[i]? = some y->p (y,i)=true)->decide ((j:Int)<(l.length:Int))=true->Ag l (j:Int)=some x->Ac ((j:Int)+1)=((j+1:Nat):Int) ->
   (p (x,j)=true->∃f,step (b j m)=some (.inl (b (j+1) f))/\I f)/\(p (x,j)=false->∃e,step (b j m)=some (.inr e)/\∃r,J e=some r/\A r))
  (L:∀m,I m->decide ((l.length:Int)<(l.length:Int))=false->l.zipIdx.all p=true->∃e,step (b l.length m)=some (.inr e)/\∃r,J e=some r/\z r) :
  ∃r,(Am step s0).bind J=some r/\((l.zipIdx.all p=true/\z r)\/(l.zipIdx.all p=false/\A r)):=by
 have c:∀(j:Nat) (x:α) (m:M),I m->l[j]? = some x->(∀i y,i<j->l[i]? = some y->p (y,i)=true)->_:=fun j x m N hx hy=>
  have hj:j<l.length:=Fd hx
  B j x m N hx hy (Al (by omega)) (Cj rfl hx) (Db hj D)
 have key:∀n,n<=l.length->(∀i y,i<n->l[i]? = some y->p (y,i)=true)->∃m,I m/\Am step s0=Am step (b n m):=by
  intro n
  induction n with
  | zero=>intro _ _; exact ⟨g,h,by rw [h0]⟩
  | succ n ih=>
   intro V hy
   obtain ⟨m,h1,h2⟩:=ih (by omega) (fun i y G=>hy i y (by omega))
   have hx:l[n]? = some l[n]:=B7 (by omega)
   obtain ⟨f,h3,k⟩:=(c n _ m h1 hx (fun i y G=>hy i y (by omega))).1 (hy n _ (by omega) hx)
   exact ⟨f,k,by rw [h2,Ha h3]⟩
 cases hb:l.zipIdx.all p with
 | true=>
  obtain ⟨m,h1,h2⟩:=key l.length (Nat.le_refl _) (fun i y _ hy=>Jf hb hy)
  obtain ⟨e,u,r,s,q⟩:=L m h1 (by simp) hb
  exact ⟨r,by rw [h2,D0 u]; exact s,.inl ⟨rfl,q⟩⟩
 | false=>
  obtain ⟨j,x,h1,h2,h3⟩:=Ak6 hb
  obtain ⟨m,k,U⟩:=key j (Nat.le_of_lt (Fd h1)) h3
  obtain ⟨e,u,r,s,q⟩:=(c j x m k h1 h3).2 h2
  exact ⟨r,by rw [U,D0 u]; exact s,.inr ⟨rfl,q⟩⟩
end Go.Ab
namespace Go.Ab
open Go
theorem Oz (l:List Int) (b:l.length<4611686018427387904):I7 l=some (Gm l):=by
 unfold I7
 refine Ho (fun v=>∃k:Nat,v=k/\k<=l.length/\Gm (l.take k)=Gm l) (fun v=>v.toNat) (fun v=>∃k:Nat,v=k/\k<=l.length/\l.take k=Gm l) ⟨l.length,rfl,Nat.le_refl _,by simp⟩ ?_ ?_
 .rintro v ⟨k,rfl,hk,ht⟩
  cases k with
  | zero=>exact .inr ⟨0,rfl,0,rfl,by omega,by simpa [Gm] using ht⟩
  | succ j=>
   have hw:Ac (((j+1:Nat):Int)-1)=(j:Int):=by rw [Ac,Bx] <;> omega
   have hj:j<l.length:=by omega
   have hp:decide (((j+1:Nat):Int)>0)=true:=Al (by omega)
   simp only [hp,cond_true,hw,Dp rfl hj,Ad]
   rw [List.take_succ_eq_append_getElem hj] at ht
   by_cases h0:l[j]=0
   .rw [h0,Avu] at ht
    exact .inl ⟨j,by rw [Es h0]; rfl,⟨j,rfl,by omega,ht⟩,by omega⟩
   .rw [Avv h0] at ht
    exact .inr ⟨((j+1:Nat):Int),by rw [Cv h0]; rfl,j+1,rfl,by omega,by rw [List.take_succ_eq_append_getElem hj]; exact ht⟩
 .rintro v ⟨k,rfl,hk,ht⟩
  rw [Aag rfl hk,ht]; rfl
theorem Ak9 (l:List Int) (hd:J5 l) (B:l.length<1099511627776):S3 l=some (Ae (Ai l).toNat):=by
 unfold S3
 have f:Ac ((l.length:Int)+1)=((l.length+1:Nat):Int):=by rw [Ac,Bx] <;> omega
 rw [f,Aen rfl (by omega) (by omega)]
 simp only [Ad]
 refine Ho (fun (c,i,o)=>∃k:Nat,i=k/\k<=l.length/\o.length=k/\Bw o/\0<=c/\c<5/\Ai o+1000000000 ^ k*c=Ai (l.take k))
  (fun (_,i,_)=>l.length-i.toNat) (fun (c,o)=>o.length=l.length/\Bw o/\0<=c/\c<5/\Ai o+1000000000 ^ l.length*c=Ai l)
  ⟨0,rfl,by omega,rfl,Bw.nil,by omega,by omega,by simp [Ai]⟩ ?_ ?_
 .rintro ⟨c,i,o⟩ ⟨k,rfl,hk,g,b,q,hc,u⟩
  rcases Nat.lt_or_ge k l.length with h | h
  .have hx:=hd l[k] (List.getElem_mem h)
   refine .inl ⟨((l[k]+c) / 1000000000,((k+1:Nat):Int),o++[(l[k]+c) % 1000000000]),?_,⟨k+1,rfl,by omega,by simp [g],b.snoc (by omega) (by omega),by omega,by omega,?_⟩,by simp; omega⟩
   .have z:Ax l[k]=l[k]:=C7 (by omega) (by omega)
    have y:Ax (l[k]+c)=l[k]+c:=C7 (by omega) (by omega)
    have s:Cf ((l[k]+c) % 1000000000)=(l[k]+c) % 1000000000:=Ff (by omega) (by omega)
    have e4:Ac ((k:Int)+1)=((k+1:Nat):Int):=by rw [Ac,Bx] <;> omega
    have x:decide ((k:Int)<(l.length:Int))=true:=by simpa using h
    simp only [x,cond_true,Dp rfl h,Ad,z,y,Jb (show 0<=l[k]+c by omega) (show (0:Int)<1000000000 by decide),s,Dj (show (o.length+[(l[k]+c) % 1000000000].length)*4<=_ by simp; omega),J4 (show 0<=l[k]+c by omega) (show l[k]+c<=_ by omega) (show (0:Int)<1000000000 by decide),e4]
   .rw [Fg l h,<-u,Jc,g,Int.pow_succ]
    have:=Int.mul_ediv_add_emod (l[k]+c) 1000000000
    grind
  .have j:k=l.length:=by omega
   subst j
   refine .inr ⟨(c,o),by simp,g,b,q,hc,by simpa using u⟩
 .rintro ⟨c,o⟩ ⟨h2,h3,G,E,D⟩
  have A:=F8 hd
  by_cases hc:c>0
  .have s:Cf c=c:=Ff (by omega) (by omega)
   simp only [decide_eq_true hc,cond_true,s,Dj (show (o.length+[c].length)*4<=_ by simp; omega),Ad,Oz (o++[c]) (by simp; omega)]
   rw [J6 (h3.snoc (by omega) (by omega)) (n:=(Ai l).toNat) (by rw [Jc,h2]; omega)]
  .have:c=0:=by omega
   subst this
   simp only [Int.lt_irrefl,gt_iff_lt,decide_false,cond_false,Oz o (by omega),Ad]
   rw [J6 h3 (n:=(Ai l).toNat) (by omega)]
end Go.Ab
namespace Go.Ab
open Go
theorem Q4 {n:Nat} (h:n<18446744073709551616):Bd n<=3:=Je (Nat.lt_of_lt_of_le h (by decide))
theorem Tu (n:Nat) (h:n<18446744073709551616):Nk n=some (Ae n):=by
 unfold Nk
 have b:=Q4 h
 unfold Bd at b
 refine Ho (fun (w,o)=>∃k:Nat,w=k/\k<=n/\o++Ae k=Ae n) (fun (w,_)=>w.toNat) (fun o=>o=Ae n) ⟨n,rfl,Nat.le_refl _,by simp⟩ ?_ (by rintro o rfl; rfl)
 rintro ⟨w,o⟩ ⟨k,rfl,hk,c⟩
 by_cases h0:k=0
 .subst h0
  rw [Fi,List.append_nil] at c
  exact .inr ⟨o,by simp,c⟩
 .have f:o.length<=3:=by rw [<-c] at b; simp at b; omega
  refine .inl ⟨(((k / 1000000000:Nat):Int),o++[((k % 1000000000:Nat):Int)]),?_,⟨k / 1000000000,rfl,by omega,by rw [List.append_assoc]; rw [Lq h0] at c; exact c⟩,by simp; omega⟩
  have j:decide ((k:Int)>0)=true:=Al (by omega)
  have i:Ge (k:Int) 1000000000=some ((k % 1000000000:Nat):Int):=by rw [Jb (by omega) (by decide)]; rfl
  have g:Cf ((k % 1000000000:Nat):Int)=((k % 1000000000:Nat):Int):=Ff (by omega) (by omega)
  have e4:Ft .u64 (k:Int) 1000000000=some ((k / 1000000000:Nat):Int):=by rw [J4 (by omega) (by omega) (by decide)]; rfl
  simp only [j,cond_true,i,Ad,g,Dj (show (o.length+[((k % 1000000000:Nat):Int)].length)*4<=_ by simp; omega),e4]
def Eh (m n:Nat):Int:=if m<n then -1 else if n<m then 1 else 0
theorem Q5 (m n:Nat) (hm:Bd m<1099511627776) (f:Bd n<1099511627776):Qd (Ae m) (Ae n)=some (Eh m n):=by
 unfold Qd
 unfold Bd at hm f
 by_cases g:(Ae m).length=(Ae n).length
 .rw [Fc (by omega:((Ae m).length:Int)=(Ae n).length),cond_false]
  have hw:Ac (((Ae m).length:Int)-1)=((Ae m).length:Int)-1:=by rw [Ac,Bx] <;> omega
  rw [hw]
  refine Ho (fun v=>∃k:Nat,v=(k:Int)-1/\k<=(Ae m).length/\(Ae m).drop k=(Ae n).drop k) (fun v=>(v+1).toNat)
   (fun e=>match e with | .inl r=>r=Eh m n | .inr _=>m=n) ⟨(Ae m).length,rfl,Nat.le_refl _,by rw [List.drop_length,g,List.drop_length]⟩ ?_ ?_
  .rintro v ⟨k,rfl,hk,hd⟩
   cases k with
   | zero=>
    refine .inr ⟨.inr (),by simp,?_⟩
    have:Ae m=Ae n:=by simpa using hd
    have:=congrArg Ai this
    rw [Eu,Eu] at this
    show m=n
    omega
   | succ j=>
    have hj:j<(Ae m).length:=by omega
    have hj':j<(Ae n).length:=by omega
    have i:((j+1:Nat):Int)-1=(j:Int):=by omega
    have h:decide ((j:Int)>=0)=true:=Al (by omega)
    simp only [i,h,cond_true,Dp rfl hj,Dp rfl hj',Ad]
    rcases Int.lt_trichotomy (Ae m)[j] (Ae n)[j] with b | heq | hgt
    .refine .inr ⟨.inl (-1),by rw [Al b]; rfl,?_⟩
     have:=Ak5 (Ee m) hj hj' (Ee n) hd b
     rw [Eu,Eu] at this
     show (-1:Int)=Eh m n
     rw [Eh,if_pos (by omega)]
    .refine .inl ⟨(j:Int)-1,?_,⟨j,rfl,by omega,?_⟩,by omega⟩
     .rw [Aq (by omega:¬(Ae m)[j]<(Ae n)[j]),cond_false,Aq (by omega:¬(Ae m)[j]>(Ae n)[j]),cond_false]
      rw [Ac,Bx (by omega) (by omega)]
     .rw [List.drop_eq_getElem_cons hj,List.drop_eq_getElem_cons hj',hd,heq]
    .refine .inr ⟨.inl 1,by rw [Aq (by omega:¬(Ae m)[j]<(Ae n)[j]),cond_false,Al (by omega:(Ae m)[j]>(Ae n)[j])]; rfl,?_⟩
     have:=Ak5 (Ee n) hj' hj (Ee m) hd.symm hgt
     rw [Eu,Eu] at this
     show (1:Int)=Eh m n
     rw [Eh,if_neg (by omega),if_pos (by omega)]
  .rintro (e | e) c
   .simp only at c ⊢; rw [c]
   .simp only at c ⊢; rw [Eh,if_neg (by omega),if_neg (by omega)]
 .rw [Et (by omega:((Ae m).length:Int)≠(Ae n).length),cond_true]
  by_cases b:(Ae m).length<(Ae n).length
  .rw [Al (by omega:((Ae m).length:Int)<(Ae n).length),cond_true]
   have:=Ak4 (m:=m) (n:=n) b
   rw [Eh,if_pos this]
  .rw [Aq (by omega:¬((Ae m).length:Int)<(Ae n).length),cond_false]
   have:=Ak4 (m:=n) (n:=m) (by unfold Bd; omega)
   rw [Eh,if_neg (by omega),if_pos this]
theorem Aet {l:List Int} (h:Bw l) (c:l≠[]->1000000000 ^ (l.length-1)<=Ai l):Can l:=by
 refine ⟨h,fun b h0=>?_⟩
 have h1:=c b
 have e:=List.dropLast_concat_getLast b
 have h2:Bw l.dropLast:=fun d hd=>h d (List.dropLast_subset l hd)
 have h3:=It h2
 rw [List.length_dropLast] at h3
 have f:=congrArg Ai e
 rw [Jc,h0] at f
 omega
theorem Iv (l:List Int) {k:Nat} (h:l.length<=k):Ai (l.take k)=Ai l:=by rw [List.take_of_length_le h]
theorem Ala (a b:List Int) (ha:Bw a) (hb:Bw b) (hl:a.length<1099511627776) (hab:b.length<=a.length) (U:a≠[]->1000000000 ^ (a.length-1)<=Ai a) :
  ((E9 4 0 (Ac ((a.length:Int)+1)) (0:Int)).bind fun Z=>
 (Am (S:=(Int×Int×(List Int))) (E:=(Int×(List Int))) (fun (v20,v21,u)=>
 bif (decide (v21<(a.length:Int))) then (
 (Ag a v21).bind fun v23=>
 (show Option Int from
 bif (decide (v21<(b.length:Int))) then (
 (Ag b v21).bind fun v24=>
 some (Cf ((Cf (v23+v20))+v24))
 )
 else (
 some (Cf (v23+v20))
 )
 ).bind fun v25=>
 (Ft .u32 v25 1000000000).bind fun v26=>
 (Ge v25 1000000000).bind fun f=>
 (Ce 4 u [f]).bind fun g=>
 some (.inl (v26,(Ac (v21+1)),g))
 )
 else (
 some (.inr (v20,u))
 )
  ) (0,0,Z)).bind fun (l,q)=>
 bif (decide (l>(0:Int))) then (
 (Ce 4 q [l]).bind fun J=>
 some J
 )
 else (
 some q
 ))=some (Ae (Ai a+Ai b).toNat):=by
 have A:Ac ((a.length:Int)+1)=((a.length+1:Nat):Int):=by rw [Ac,Bx] <;> omega
 rw [A,Aen rfl (by omega) (by omega)]
 simp only [Ad]
 have a7:=F8 ha.u32
 have a6:=F8 hb.u32
 refine Ho (fun (c,i,o)=>∃k:Nat,i=k/\k<=a.length/\o.length=k/\Bw o/\0<=c/\c<=1/\Ai o+1000000000 ^ k*c=Ai (a.take k)+Ai (b.take k))
  (fun (_,i,_)=>a.length-i.toNat) (fun (c,o)=>o.length=a.length/\Bw o/\0<=c/\c<=1/\Ai o+1000000000 ^ a.length*c=Ai a+Ai b)
  ⟨0,rfl,by omega,rfl,Bw.nil,by omega,by omega,by simp [Ai]⟩ ?_ ?_
 .rintro ⟨c,i,o⟩ ⟨k,rfl,hk,M,z,V,hc,L⟩
  rcases Nat.lt_or_ge k a.length with h | h
  .have hx:=ha.get h
   have e4:Ac ((k:Int)+1)=((k+1:Nat):Int):=by rw [Ac,Bx] <;> omega
   have e5:decide ((k:Int)<(a.length:Int))=true:=Al (by omega)
   have step:∀s:Int,0<=s->s<2000000000->(show Option Int from bif (decide ((k:Int)<(b.length:Int))) then ((Ag b k).bind fun v24=>some (Cf ((Cf (a[k]+c))+v24))) else some (Cf (a[k]+c)))=some s ->
     Ai (a.take (k+1))+Ai (b.take (k+1))=Ai (a.take k)+Ai (b.take k)+1000000000 ^ k*(s-c) ->
     (∃s',(bif (decide ((k:Int)<(a.length:Int))) then (
 (Ag a k).bind fun v23=>
 (show Option Int from
 bif (decide ((k:Int)<(b.length:Int))) then (
 (Ag b k).bind fun v24=>
 some (Cf ((Cf (v23+c))+v24))
 )
 else (
 some (Cf (v23+c))
 )
 ).bind fun v25=>
 (Ft .u32 v25 1000000000).bind fun v26=>
 (Ge v25 1000000000).bind fun f=>
 (Ce 4 o [f]).bind fun g=>
 some (.inl (v26,(Ac ((k:Int)+1)),g))
 )
 else (
 some (.inr (c,o))
 ))=some (Sum.inl s':(Int×Int×List Int)⊕(Int×List Int))/\(∃j:Nat,s'.2.1=j/\j<=a.length/\s'.2.2.length=j/\Bw s'.2.2/\0<=s'.1/\s'.1<=1/\Ai s'.2.2+1000000000 ^ j*s'.1=Ai (a.take j)+Ai (b.take j))/\a.length-s'.2.1.toNat<a.length-(k:Int).toNat):=by
    intro s y a1 hs x
    refine ⟨(s / 1000000000,((k+1:Nat):Int),o++[s % 1000000000]),?_,⟨k+1,rfl,by omega,by simp [M],z.snoc (by omega) (by omega),by simp; omega,by simp; omega,?_⟩,by simp; omega⟩
    .rw [e5,cond_true,Dp rfl h,Ad,hs,Ad,Aeo y (by omega) (by decide),Ad,Jb y (by decide),Ad,Dj (by simp; omega),Ad,e4]
    .rw [x,<-L,Jc,M,Int.pow_succ]
     have:=Int.mul_ediv_add_emod s 1000000000
     grind
   refine .inl ?_
   rcases Nat.lt_or_ge k b.length with hb' | hb'
   .have hy:=hb.get hb'
    obtain ⟨s',I,G,D⟩:=step (a[k]+c+b[k]) (by omega) (by omega) (by
     have B:Cf (a[k]+c)=a[k]+c:=Ff (by omega) (by omega)
     have Y:Cf (a[k]+c+b[k])=a[k]+c+b[k]:=Ff (by omega) (by omega)
     show (bif (decide ((k:Int)<(b.length:Int))) then _ else _)=_
     rw [Al (by omega:(k:Int)<(b.length:Int)),cond_true,Dp rfl hb',Ad,B,Y]) (by rw [Fg a h,Fg b hb']; grind)
    exact ⟨s',I,G,D⟩
   .obtain ⟨s',I,G,D⟩:=step (a[k]+c) (by omega) (by omega) (by
     have B:Cf (a[k]+c)=a[k]+c:=Ff (by omega) (by omega)
     show (bif (decide ((k:Int)<(b.length:Int))) then _ else _)=_
     rw [Aq (by omega:¬(k:Int)<(b.length:Int)),cond_false,B]) (by rw [Fg a h,Iv b hb',Iv b (by omega)]; grind)
    exact ⟨s',I,G,D⟩
  .have R:k=a.length:=by omega
   subst R
   refine .inr ⟨(c,o),by simp,M,z,V,hc,?_⟩
   rw [List.take_length,Iv b hab] at L
   exact L
 .rintro ⟨c,o⟩ ⟨h2,h3,h4,h5,h6⟩
  simp only []
  by_cases hc:c>0
  .have:c=1:=by omega
   subst this
   rw [Al hc,cond_true,Dj (by simp; omega),Ad]
   congr 1
   refine Aaj (Aet (h3.snoc (by omega) (by omega)) fun _=>?_) (by rw [Jc,h2]; omega)
   rw [Jc,h2]
   have:=F8 h3.u32
   simp [h2]; omega
  .have:c=0:=by omega
   subst this
   rw [Aq hc,cond_false]
   congr 1
   refine Aaj (Aet h3 fun N=>?_) (by omega)
   have X:a≠[]:=by intro e; rw [e] at h2; exact N (List.length_eq_zero_iff.1 h2)
   have:=U X
   rw [h2]; omega
theorem Aal {n:Nat} (h:Ae n≠[]):1000000000 ^ ((Ae n).length-1)<=Ai (Ae n):=by
 rw [Eu]
 have h1:(Ae n).length≠0:=fun e=>h (List.length_eq_zero_iff.1 e)
 have:=Ak3 (n:=n) (k:=(Ae n).length-1) (by unfold Bd; omega)
 have e:((1000000000 ^ ((Ae n).length-1):Nat):Int)=1000000000 ^ ((Ae n).length-1):=by rw [Int.natCast_pow]; rfl
 omega
theorem Alb (m n:Nat) (hm:Bd m<1099511627776) (b:Bd n<1099511627776):V4 (Ae m) (Ae n)=some (Ae (m+n)):=by
 unfold V4
 unfold Bd at hm b
 by_cases c:(Ae m).length<(Ae n).length
 .simp only [Al (by omega:((Ae m).length:Int)<(Ae n).length),cond_true,Ad]
  have:=Ala (Ae n) (Ae m) (Ee n) (Ee m) b (by omega) Aal
  rw [Eu,Eu] at this
  rw [show m+n=((n:Int)+(m:Int)).toNat by omega]
  exact this
 .simp only [Aq (by omega:¬((Ae m).length:Int)<(Ae n).length),cond_false,Ad]
  have:=Ala (Ae m) (Ae n) (Ee m) (Ee n) hm (by omega) Aal
  rw [Eu,Eu] at this
  rw [show m+n=((m:Int)+(n:Int)).toNat by omega]
  exact this
end Go.Ab
namespace Go.Ab
open Go
theorem J7 {k n:Nat} (h:k<n) (b:n<4611686018427387904):Ac ((k:Int)+1)=((k+1:Nat):Int):=by rw [Ac,Bx] <;> omega
theorem Aam (m n:Nat) (hm:Bd m<1099511627776) (B:n<=m):S9 (Ae m) (Ae n)=some (Ae (m-n)):=by
 unfold S9
 have E:(Ae n).length<=(Ae m).length:=Gn B
 unfold Bd at hm
 rw [Aen rfl (by omega) (by omega)]
 simp only [Ad]
 have ha:=Ee m
 have hb:=Ee n
 refine Ho (fun (c,i,o)=>∃k:Nat,i=k/\k<=(Ae m).length/\o.length=k/\Bw o/\0<=c/\c<=1/\Ai o=Ai ((Ae m).take k)-Ai ((Ae n).take k)+1000000000 ^ k*c)
  (fun (_,i,_)=>(Ae m).length-i.toNat) (fun o=>∃c:Int,o.length=(Ae m).length/\Bw o/\0<=c/\c<=1/\Ai o=(m:Int)-n+1000000000 ^ (Ae m).length*c)
  ⟨0,rfl,by omega,rfl,Bw.nil,by omega,by omega,by simp [Ai]⟩ ?_ ?_
 .rintro ⟨c,i,o⟩ ⟨k,rfl,hk,l,g,I,hc,q⟩
  rcases Nat.lt_or_ge k (Ae m).length with h | h
  .have hx:=ha.get h
   have e4:=J7 h (by omega)
   have N:decide ((k:Int)<((Ae m).length:Int))=true:=Al (by omega)
   have L:Ac (Ae m)[k]=(Ae m)[k]:=Bx (by omega) (by omega)
   have J:Ac ((Ae m)[k]-c)=(Ae m)[k]-c:=Bx (by omega) (by omega)
   have key:∀s:Int,-1000000001<=s->s<1000000000->Ai ((Ae m).take (k+1))-Ai ((Ae n).take (k+1))=Ai ((Ae m).take k)-Ai ((Ae n).take k)+1000000000 ^ k*(s+c) ->
     ∃(f:Int) (d:Int),(bif decide (s<0) then ((Ce 4 o [(Cf (Ac (s+1000000000)))]).bind fun A=>some (Sum.inl (1,(Ac ((k:Int)+1)),A))) else ((Ce 4 o [(Cf s)]).bind fun z=>some (Sum.inl (0,(Ac ((k:Int)+1)),z))))=some (Sum.inl (f,((k+1:Nat):Int),o++[d]):(Int×Int×List Int)⊕List Int) /\
      (-1000000000<=s->(∃j:Nat,((k+1:Nat):Int)=j/\j<=(Ae m).length/\(o++[d]).length=j/\Bw (o++[d])/\0<=f/\f<=1/\Ai (o++[d])=Ai ((Ae m).take j)-Ai ((Ae n).take j)+1000000000 ^ j*f)):=by
    intro s h1 h2 b
    by_cases M:s<0
    .refine ⟨1,Cf (Ac (s+1000000000)),by rw [Al M,cond_true,Dj (by simp; omega),Ad,e4],fun h3=>?_⟩
     have U:Ac (s+1000000000)=s+1000000000:=Bx (by omega) (by omega)
     have u:Cf (s+1000000000)=s+1000000000:=Ff (by omega) (by omega)
     rw [U,u]
     refine ⟨k+1,rfl,by omega,by simp [l],g.snoc (by omega) (by omega),by omega,by omega,?_⟩
     rw [b,Jc,l,q,Int.pow_succ]; grind
    .refine ⟨0,Cf s,by rw [Aq M,cond_false,Dj (by simp; omega),Ad,e4],fun h3=>?_⟩
     have u:Cf s=s:=Ff (by omega) (by omega)
     rw [u]
     refine ⟨k+1,rfl,by omega,by simp [l],g.snoc (by omega) (by omega),by omega,by omega,?_⟩
     rw [b,Jc,l,q,Int.pow_succ]; grind
   refine .inl ?_
   rcases Nat.lt_or_ge k (Ae n).length with hb' | hb'
   .have hy:=hb.get hb'
    have S:Ac (Ae n)[k]=(Ae n)[k]:=Bx (by omega) (by omega)
    have R:Ac ((Ae m)[k]-c-(Ae n)[k])=(Ae m)[k]-c-(Ae n)[k]:=Bx (by omega) (by omega)
    obtain ⟨f,d,y,x⟩:=key ((Ae m)[k]-c-(Ae n)[k]) (by omega) (by omega) (by rw [Fg _ h,Fg _ hb']; grind)
    refine ⟨(f,((k+1:Nat):Int),o++[d]),?_,x (by omega),by simp; omega⟩
    rw [<-y]
    simp only [N,cond_true,Dp rfl h,Ad,L,J,Al (by omega:(k:Int)<((Ae n).length:Int)),Dp rfl hb',S,R]
   .obtain ⟨f,d,y,x⟩:=key ((Ae m)[k]-c) (by omega) (by omega) (by rw [Fg _ h,Iv (Ae n) hb',Iv (Ae n) (by omega)]; grind)
    refine ⟨(f,((k+1:Nat):Int),o++[d]),?_,x (by omega),by simp; omega⟩
    rw [<-y]
    simp only [N,cond_true,Dp rfl h,Ad,L,J,Aq (by omega:¬(k:Int)<((Ae n).length:Int)),cond_false]
  .have G:k=(Ae m).length:=by omega
   subst G
   refine .inr ⟨o,by simp,c,l,g,I,hc,?_⟩
   rw [List.take_length,Iv _ E,Eu,Eu] at q
   exact q
 .rintro o ⟨c,h2,h3,Y,X,V⟩
  have D:=It h3
  rw [h2] at D
  have hp:=Jd (Ae m).length
  have:c=0:=by
   rcases Int.lt_or_le 0 c with hc | hc
   .have:c=1:=by omega
    subst this
    omega
   .omega
  subst this
  rw [Oz o (by omega),Ad,J6 h3 (n:=m-n) (by omega)]
theorem Aeu (m d:Nat) (hm:Bd m<1099511627776) (hd:0<d) (M:d<4294967296):Qq (Ae m) d=some (Ae (m / d),((m % d:Nat):Int)):=by
 unfold Qq
 unfold Bd at hm
 rw [Is rfl rfl (Nat.le_refl _) (by omega) (by omega)]
 simp only [Ad]
 have ha:=Ee m
 have hw:Ac (((Ae m).length:Int)-1)=((Ae m).length:Int)-1:=by rw [Ac,Bx] <;> omega
 rw [hw]
 refine Ho (fun (r,i,o)=>∃k:Nat,i=(k:Int)-1/\k<=(Ae m).length/\o.length=(Ae m).length/\Bw o/\0<=r/\r<d/\Ai (o.drop k)*d+r=Ai ((Ae m).drop k))
  (fun (_,i,_)=>(i+1).toNat) (fun (r,o)=>o.length=(Ae m).length/\Bw o/\0<=r/\r<d/\Ai o*d+r=m)
  ⟨(Ae m).length,rfl,Nat.le_refl _,by simp,Bw.replicate _,by omega,by omega,by simp [Ai]⟩ ?_ ?_
 .rintro ⟨r,i,o⟩ ⟨k,rfl,hk,A,g,s,L,z⟩
  cases k with
  | zero=>exact .inr ⟨(r,o),by simp,A,g,s,L,by simpa [Eu] using z⟩
  | succ j=>
   have hj:j<(Ae m).length:=by omega
   have h:j<o.length:=by omega
   have hx:=ha.get hj
   have V:((j+1:Nat):Int)-1=(j:Int):=by omega
   have U:decide ((j:Int)>=0)=true:=Al (by omega)
   have I:Ax (r*1000000000)=r*1000000000:=C7 (by omega) (by omega)
   have G:Ax (Ae m)[j]=(Ae m)[j]:=C7 (by omega) (by omega)
   have E:Ax (r*1000000000+(Ae m)[j])=r*1000000000+(Ae m)[j]:=C7 (by omega) (by omega)
   have b:(0:Int)<(d:Int):=by omega
   have c:0<=r*1000000000+(Ae m)[j]:=by omega
   have f:0<=(r*1000000000+(Ae m)[j]) / (d:Int):=Int.ediv_nonneg c (by omega)
   have u:(r*1000000000+(Ae m)[j]) / (d:Int)<1000000000:=by
    apply Int.ediv_lt_of_lt_mul b
    have:(r+1)*1000000000<=d*1000000000:=Int.mul_le_mul_of_nonneg_right (by omega) (by decide)
    omega
   have D:Cf ((r*1000000000+(Ae m)[j]) / (d:Int))=(r*1000000000+(Ae m)[j]) / (d:Int):=Ff f (by omega)
   have y:=Int.emod_nonneg (r*1000000000+(Ae m)[j]) (by omega:(d:Int)≠0)
   have x:=Int.emod_lt_of_pos (r*1000000000+(Ae m)[j]) b
   have B:Ac ((j:Int)-1)=(j:Int)-1:=by rw [Ac,Bx] <;> omega
   refine .inl ⟨((r*1000000000+(Ae m)[j]) % (d:Int),(j:Int)-1,o.set j ((r*1000000000+(Ae m)[j]) / (d:Int))),?_,⟨j,rfl,by omega,by simpa using A,g.set _ f u,y,x,?_⟩,by simp⟩
   .simp only [V,U,cond_true,Dp rfl hj,Dp rfl h,Ad,I,G,E,J4 c (by omega) b,Jb c b,D,B,Fq rfl]
   .have d1:(o.set j ((r*1000000000+(Ae m)[j]) / (d:Int))).drop j=((r*1000000000+(Ae m)[j]) / (d:Int))::o.drop (j+1):=by
     rw [List.drop_eq_getElem_cons (by simpa using h),List.drop_set_of_lt (by omega)]; simp
    rw [d1,List.drop_eq_getElem_cons hj]
    simp only [Ai]
    rw [<-z]
    have:=Int.mul_ediv_add_emod (r*1000000000+(Ae m)[j]) (d:Int)
    grind
 .rintro ⟨r,o⟩ ⟨h2,h3,S,R,N⟩
  simp only []
  have J:=F8 h3.u32
  have l:((m / d:Nat):Int)=Ai o/\((m % d:Nat):Int)=r:=by
   have b:(0:Int)<(d:Int):=by omega
   have e:=Int.ediv_emod_unique b (r:=r) (q:=Ai o) (a:=(m:Int))
   have:=e.2 ⟨by rw [<-N]; grind,S,R⟩
   exact ⟨by rw [Int.natCast_ediv]; exact this.1,by rw [Int.natCast_emod]; exact this.2⟩
  rw [Oz o (by omega),Ad,J6 h3 l.1.symm,l.2]
end Go.Ab
namespace Go.Ab
open Go
theorem Aan {x y:Int} (hx:0<=x) (c:x<1000000000) (hy:0<=y) (b:y<1000000000):0<=x*y/\x*y<=999999998000000001:=by
 refine ⟨Int.mul_nonneg hx hy,?_⟩
 have h1:x*y<=999999999*y:=Int.mul_le_mul_of_nonneg_right (by omega) hy
 omega
theorem O0 (m n:Nat) (hm:Bd m<549755813888) (hn:Bd n<549755813888):Nj (Ae m) (Ae n)=some (Ae (m*n)):=by
 unfold Nj
 unfold Bd at hm hn
 by_cases hz:m=0\/n=0
 .have:(show Option Bool from bif (((Ae m).length:Int)==(0:Int)) then some true else some (((Ae n).length:Int)==(0:Int)))=some true:=by
   show (bif (((Ae m).length:Int)==(0:Int)) then some true else some (((Ae n).length:Int)==(0:Int)))=some true
   by_cases h:m=0
   .subst h; rw [Fi]; rfl
   .have y:n=0:=by omega
    subst y
    rw [Cv (by have:=Hq h; have:(Ae m).length≠0:=fun e=>this (List.length_eq_zero_iff.1 e); omega),Fi]; rfl
  rw [this,Ad,cond_true]
  have:m*n=0:=by rcases hz with rfl | rfl <;> simp
  rw [this,Fi]
 .have I:m≠0:=by omega
  have y:n≠0:=by omega
  have aa:(Ae m).length≠0:=fun e=>Hq I (List.length_eq_zero_iff.1 e)
  have a8:(Ae n).length≠0:=fun e=>Hq y (List.length_eq_zero_iff.1 e)
  simp only [Cv (by omega:((Ae m).length:Int)≠0),Cv (by omega:((Ae n).length:Int)≠0),cond_false,Ad]
  have hw:Ac (((Ae m).length:Int)+((Ae n).length:Int))=(((Ae m).length+(Ae n).length:Nat):Int):=by rw [Ac,Bx] <;> omega
  rw [hw,Is rfl rfl (Nat.le_refl _) (by omega) (by omega)]
  simp only [Ad]
  have ha:=Ee m
  have hb:=Ee n
  refine Ho (fun (i,o)=>∃k:Nat,i=k/\k<=(Ae m).length/\o.length=(Ae m).length+(Ae n).length/\Bw o/\o.drop (k+(Ae n).length)=List.replicate ((Ae m).length-k) 0/\Ai o=Ai ((Ae m).take k)*n)
   (fun (i,_)=>(Ae m).length-i.toNat) (fun o=>o.length=(Ae m).length+(Ae n).length/\Bw o/\Ai o=((m*n:Nat):Int))
   ⟨0,rfl,by omega,by simp,Bw.replicate _,by rw [List.drop_replicate]; congr 1; omega,by simp [Aah,Ai]⟩ ?_ ?_
  .rintro ⟨i,o⟩ ⟨k,rfl,hk,R,D,L,G⟩
   rcases Nat.lt_or_ge k (Ae m).length with h | h
   .have hx:=ha.get h
    have e4:=J7 h (by omega)
    have e5:decide ((k:Int)<((Ae m).length:Int))=true:=Al (by omega)
    simp only [e5,cond_true]
    refine .inl (Aae (Fb (fun (c,j,o')=>∃q:Nat,j=q/\q<=(Ae n).length/\o'.length=(Ae m).length+(Ae n).length/\Bw o'/\o'.drop (k+(Ae n).length)=List.replicate ((Ae m).length-k) 0/\0<=c/\c<1000000000 /\
      Ai o' + 1000000000 ^ (k+q)*c=Ai o+1000000000 ^ k*((Ae m)[k]*Ai ((Ae n).take q)))
     (fun (_,j,_)=>(Ae n).length-j.toNat) (fun (c,j,o')=>o'.length=(Ae m).length+(Ae n).length/\Bw o'/\o'.drop (k+(Ae n).length)=List.replicate ((Ae m).length-k) 0/\0<=c/\c<1000000000 /\
      Ai o' + 1000000000 ^ (k+(Ae n).length)*c=Ai o+1000000000 ^ k*((Ae m)[k]*n))
     ⟨0,rfl,by omega,R,D,L,by omega,by omega,by simp [Ai]⟩ ?_ ?_))
    .rintro ⟨c,j,o'⟩ ⟨q,rfl,hq,l,b,f,z,hc,x⟩
     rcases Nat.lt_or_ge q (Ae n).length with hq' | hq'
     .have hy:=hb.get hq'
      have g:k+q<o'.length:=by omega
      have a1:=b.get g
      have a6:=Aan hx.1 hx.2 hy.1 hy.2
      have Y:Ax (Ae m)[k]=(Ae m)[k]:=C7 (by omega) (by omega)
      have X:Ax (Ae n)[q]=(Ae n)[q]:=C7 (by omega) (by omega)
      have V:Ax ((Ae m)[k]*(Ae n)[q])=(Ae m)[k]*(Ae n)[q]:=C7 (by omega) (by omega)
      have U:Ax o'[k+q]=o'[k+q]:=C7 (by omega) (by omega)
      have S:Ax ((Ae m)[k]*(Ae n)[q]+o'[k+q])=(Ae m)[k]*(Ae n)[q]+o'[k+q]:=C7 (by omega) (by omega)
      have N:Ax ((Ae m)[k]*(Ae n)[q]+o'[k+q]+c)=(Ae m)[k]*(Ae n)[q]+o'[k+q]+c:=C7 (by omega) (by omega)
      have e6:=J7 hq' (by omega)
      have e7:decide ((q:Int)<((Ae n).length:Int))=true:=Al (by omega)
      have M:Ac ((k:Int)+(q:Int))=((k+q:Nat):Int):=by rw [Ac,Bx] <;> omega
      generalize hs:(Ae m)[k]*(Ae n)[q]+o'[k+q]+c=s at N
      have A:0<=s:=by omega
      have a7:s<1000000000000000000:=by omega
      have E:Cf (s % 1000000000)=s % 1000000000:=Ff (by omega) (by omega)
      refine .inl ⟨(s / 1000000000,((q+1:Nat):Int),o'.set (k+q) (s % 1000000000)),?_,⟨q+1,rfl,by omega,by simpa using l,b.set _ (by omega) (by omega),?_,by omega,by omega,?_⟩,by simp; omega⟩
      .simp only [e7,cond_true,Dp rfl h,Dp rfl hq',M,Dp rfl g,Ad,Y,X,V,U,S,hs,N,Jb A (show (0:Int)<1000000000 by decide),J4 A (show s<=_ by omega) (show (0:Int)<1000000000 by decide),E,e6,Fq rfl]
      .rw [List.drop_set_of_lt (by omega)]; exact f
      .rw [Ku _ g,Fg _ hq']
       have:=Int.mul_ediv_add_emod s 1000000000
       have Z:(1000000000:Int) ^ (k+(q+1))=1000000000 ^ (k+q)*1000000000:=by rw [<-Nat.add_assoc,Int.pow_succ]
       have p2:(1000000000:Int) ^ (k+q)=1000000000 ^ k*1000000000 ^ q:=Int.pow_add ..
       rw [Z]
       grind
     .have:q=(Ae n).length:=by omega
      subst this
      refine .inr ⟨(c,_,o'),by simp; rfl,l,b,f,z,hc,?_⟩
      rw [List.take_length,Eu] at x
      exact x
    .rintro ⟨c,j,o'⟩ ⟨l,b,f,z,hc,x⟩
     have M:Ac ((k:Int)+((Ae n).length:Int))=((k+(Ae n).length:Nat):Int):=by rw [Ac,Bx] <;> omega
     have g:k+(Ae n).length<o'.length:=by omega
     have E:Cf c=c:=Ff (by omega) (by omega)
     have u:o'[k+(Ae n).length]=0:=by
      have:=congrArg List.head? f
      rw [List.head?_drop,B7 g] at this
      have B:(List.replicate ((Ae m).length-k) (0:Int)).head? = some 0:=by
       cases hh:(Ae m).length-k with
       | zero=>omega
       | succ t=>rfl
      rw [B] at this
      exact Option.some.inj this
     refine ⟨_,by simp only [M,Dp rfl g,Ad,E,e4,Fq rfl]; rfl,_,rfl,⟨k+1,rfl,by omega,by simpa using l,b.set _ z hc,?_,?_⟩,by simp; omega⟩
     .rw [List.drop_set_of_lt (by omega),show k+1+(Ae n).length=(k+(Ae n).length)+1 by omega,<-List.drop_drop,f,List.drop_replicate]
      congr 1
     .rw [Ku _ g,u,Fg _ h,Int.add_mul,<-G]
      grind
   .have J:k=(Ae m).length:=by omega
    subst J
    refine .inr ⟨o,by simp,R,D,?_⟩
    rw [List.take_length,Eu] at G
    rw [G]; simp
  .rintro o ⟨h2,h3,h4⟩
   rw [Oz o (by omega),Ad,J6 h3 h4]
theorem Alc (a:List Int) (m:Nat) (ha:Bw a) (U:a.length<1099511627776) (hm:m<1000000000) :
  ∃o,Th a m=some o/\o.length=a.length+1/\Bw o/\Ai o=Ai a*m:=by
 unfold Th
 have u:Ac ((a.length:Int)+1)=((a.length+1:Nat):Int):=by rw [Ac,Bx] <;> omega
 rw [u,Is rfl rfl (Nat.le_refl _) (by omega) (by omega)]
 simp only [Ad]
 refine Fb (fun (c,i,o)=>∃k:Nat,i=k/\k<=a.length/\o.length=a.length+1/\Bw o/\o.drop k=List.replicate (a.length+1-k) 0/\0<=c/\c<1000000000/\Ai o+1000000000 ^ k*c=Ai (a.take k)*m)
  (fun (_,i,_)=>a.length-i.toNat) (fun (c,o)=>o.length=a.length+1/\Bw o/\o.drop a.length = [0]/\0<=c/\c<1000000000/\Ai o+1000000000 ^ a.length*c=Ai a*m)
  ⟨0,rfl,by omega,by simp,Bw.replicate _,by simp,by omega,by omega,by simp [Ai,Aah]⟩ ?_ ?_
 .rintro ⟨c,i,o⟩ ⟨k,rfl,hk,B,q,g,z,hc,I⟩
  rcases Nat.lt_or_ge k a.length with h | h
  .have hx:=ha.get h
   have f:k<o.length:=by omega
   have G:=Aan hx.1 hx.2 (show (0:Int)<=m by omega) (by omega)
   have e4:=J7 h (by omega)
   have S:decide ((k:Int)<(a.length:Int))=true:=Al (by omega)
   have E:Ax a[k]=a[k]:=C7 (by omega) (by omega)
   have D:Ax (a[k]*(m:Int))=a[k]*m:=C7 (by omega) (by omega)
   have A:Ax (a[k]*(m:Int)+c)=a[k]*m+c:=C7 (by omega) (by omega)
   have b:o[k]=0:=by
    have:=congrArg List.head? g
    rw [List.head?_drop,B7 f] at this
    have l:(List.replicate (a.length+1-k) (0:Int)).head? = some 0:=by
     cases V:a.length+1-k with
     | zero=>omega
     | succ t=>rfl
    rw [l] at this
    exact Option.some.inj this
   generalize L:a[k]*(m:Int)+c=s at A
   have j:0<=s:=by omega
   have J:s<1000000000000000000:=by omega
   have x:Cf (s % 1000000000)=s % 1000000000:=Ff (by omega) (by omega)
   refine .inl ⟨(s / 1000000000,((k+1:Nat):Int),o.set k (s % 1000000000)),?_,⟨k+1,rfl,by omega,by simpa using B,q.set _ (by omega) (by omega),?_,by omega,by omega,?_⟩,by simp; omega⟩
   .simp only [S,cond_true,Dp rfl h,Dp rfl f,Ad,E,D,L,A,Jb j (show (0:Int)<1000000000 by decide),J4 j (show s<=_ by omega) (show (0:Int)<1000000000 by decide),x,e4,Fq rfl]
   .rw [List.drop_set_of_lt (by omega),<-List.drop_drop,g,List.drop_replicate]; congr 1
   .rw [Ku _ f,b,Fg _ h,Int.pow_succ]
    have:=Int.mul_ediv_add_emod s 1000000000
    grind
  .have y:k=a.length:=by omega
   subst y
   refine .inr ⟨(c,o),by simp,B,q,by rw [g]; simp,z,hc,by rwa [List.take_length] at I⟩
 .rintro ⟨c,o⟩ ⟨h2,h3,g,R,N,M⟩
  have f:a.length<o.length:=by omega
  have x:Cf c=c:=Ff (by omega) (by omega)
  have b:o[a.length]=0:=by
   have:=congrArg List.head? g
   rw [List.head?_drop,B7 f] at this
   exact Option.some.inj this
  refine ⟨o.set a.length c,by simp only [Dp rfl f,Ad,x,Fq rfl],by simpa using h2,h3.set _ R N,?_⟩
  rw [Ku _ f,b,<-M]; grind
end Go.Ab
namespace Go.Ab
open Go
theorem O1 {α:Type} {l:List α} {off n:Nat} {i:Int} {k:Nat} (b:i=k) (hk:k<n) (h:off+k<l.length):F0 l off n i=some l[off+k]:=by
 subst b
 have h1:(0:Int)<=(k:Int):=by omega
 have h2:(k:Int)<(n:Int):=by omega
 simp [F0,hk,h]
theorem Avy {P j k tb hb V U q g B:Int} (i:0<P) (u:V=j+P*tb) (l:0<=j) (x:U=k+P*hb) (s:k<P) (hq:q*V<=U) (c:0<=g) (h:hb<g*tb) (b:0<=tb):q<g:=by
 rcases Int.lt_or_le q g with h' | h'
 .exact h'
 .exfalso
  have f:0<=V:=by
   have:=Int.mul_nonneg (Int.le_of_lt i) b
   omega
  have h1:g*V<=q*V:=Int.mul_le_mul_of_nonneg_right h' f
  have h2:g*(P*tb)<=g*V:=Int.mul_le_mul_of_nonneg_left (by omega) c
  have h3:P*(hb+1)<=P*(g*tb):=Int.mul_le_mul_of_nonneg_left (by omega) (Int.le_of_lt i)
  have z:g*(P*tb)=P*(g*tb):=by grind
  have y:P*(hb+1)=P*hb+P:=by grind
  omega
theorem Ald {P j k tb hb V U q g:Int} (i:0<P) (y:V=j+P*tb) (s:j<P) (z:U=k+P*hb) (u:0<=k) (hq:U<(q+1)*V) (l:0<=g) (hgt:g<=tb+1) (h:g*tb<=hb) (b:0<V):g<=q+1:=by
 rcases Int.lt_or_le (q+1) g with h' | h'
 .exfalso
  have f:0<=g-1:=by
   rcases Int.lt_or_le g 1 with h2 | h2
   .have:g=0:=by omega
    subst this
    have c:q+1<0:=h'
    have:(q+1)*V<0:=Int.mul_neg_of_neg_of_pos c b
    have h0:0<=hb:=by simpa using h
    have:=Int.mul_nonneg (Int.le_of_lt i) h0
    omega
   .omega
  have h1:(q+1)*V<=(g-1)*V:=Int.mul_le_mul_of_nonneg_right (by omega) (Int.le_of_lt b)
  have x:P*(tb+1)=P*tb+P:=by grind
  have h2:(g-1)*V<=(g-1)*(P*(tb+1)):=Int.mul_le_mul_of_nonneg_left (by omega) f
  have h3:(g-1)*(P*(tb+1))=P*(g*tb+(g-tb-1)):=by grind
  have A:P*(g*tb+(g-tb-1))<=P*hb:=Int.mul_le_mul_of_nonneg_left (by omega) (Int.le_of_lt i)
  omega
 .exact h'
theorem Avz {A C:Type} {X:Option (A×C)} {Q:A->C->Prop} (h:∃r,X=some r/\Q r.1 r.2):∃q o,X=some (q,o)/\Q q o:=by
 obtain ⟨⟨a,c⟩,h1,h2⟩:=h
 exact ⟨a,c,h1,h2⟩
theorem al1 {g t r h:Int} (k:g*t+r=h):(g-1)*t+(r+t)=h:=by grind
theorem al2 {o P s x b p d:Int} (e:s-1000000000*d=x-b-p):o+P*(s-x)-P*1000000000*d=(o-P*b)-P*p:=by grind
theorem al3 (b X K g A y:Int):b-X*(g*A)-X*K*(g*y)=b-X*(g*(A+K*y)):=by grind
theorem al4 {u X W N c U b g V:Int} (h:u+X*(W+N*c-U)-X*N*b=u-X*(g*V)):X*(U-g*V)=X*(W+N*(c-b)):=by grind
theorem al5 (u X q:Int):u-X*q-u=X*(-q):=by grind
theorem al6 {o P x b r:Int} (h:o-P*b=r):o+P*(x-b-x)=r:=by grind
theorem al7 {b X K c s x y o A:Int} (g:x+y+c=s) (f:1000000000*(s / 1000000000)+s % 1000000000=s) (h:b+X*K*c=o+X*A):b+X*K*(s % 1000000000-x)+X*K*1000000000*(s / 1000000000)=o+X*(A+K*y):=by grind
theorem al8 {o X N b u q V W f U c:Int} (h1:o-X*N*b=u-X*((q+1)*V)) (h2:u+X*(W+N*f-U)+X*N*c=o+X*V):X*(U-q*V)=X*(W+N*(f-b+c)):=by grind
theorem al9 {g P c o X V b u q f:Int} (h1:g+P*c=o+X*V) (h2:o-P*b=u-X*((q+1)*V)) (h3:f=b-c):g+P*(0-f)=u-X*(q*V):=by grind
theorem gtb {g t r h x:Int} (k:g*t+r=h):g*(t*1000000000+x)=(h-r)*1000000000+g*x:=by subst k; grind
theorem Aev {k:Nat} {x y:Int} (h:(1000000000:Int) ^ k*x=1000000000 ^ k*y):x=y:=Int.eq_of_mul_eq_mul_left (by have:=Jd k; omega) h
theorem Ale {o u:List Int} {off:Nat} (b:off<=o.length) (hu:off<=u.length) (h:o.take off=u.take off):Ai o-Ai u=1000000000 ^ off*(Ai (o.drop off)-Ai (u.drop off)):=by
 rw [Mo o off b,Mo u off hu,h]; grind
theorem Aao {l:List Int} (h:Bw l) (k:Nat):0<=Ai (l.drop k):=F8 (h.drop k).u32
theorem Av0 {D:List Int} (b:Bw D) {n:Nat} (h2:2<=n) (i:n<D.length) (g:Ai D<1000000000 ^ (n+1)) :
  Ai D=Ai (D.take (n-2))+1000000000 ^ (n-2)*((D[n]*1000000000+D[n-1])*1000000000+D[n-2]):=by
 have e:=Mo D (n+1) i
 have h0:Ai (D.drop (n+1))=0:=by
  have s:=Aao b (n+1)
  have ht:=F8 ((b.take (n+1)).u32)
  rcases Int.lt_or_le 0 (Ai (D.drop (n+1))) with h | h
  .have:(1000000000:Int) ^ (n+1)*1<=1000000000 ^ (n+1)*Ai (D.drop (n+1)):=Int.mul_le_mul_of_nonneg_left h (Int.le_of_lt (Jd _))
   omega
  .omega
 rw [h0,Int.mul_zero,Int.add_zero] at e
 obtain ⟨t,rfl⟩:∃t,n=t+2:=⟨n-2,by omega⟩
 have q:=Fg D (k:=t) (by omega)
 have l:=Fg D (k:=t+1) (by omega)
 have j:=Fg D (k:=t+2) (by omega)
 have f:(1000000000:Int) ^ (t+1)=1000000000 ^ t*1000000000:=Int.pow_succ ..
 have c:(1000000000:Int) ^ (t+2)=1000000000 ^ (t+1)*1000000000:=Int.pow_succ ..
 have i1:t+2-2=t:=rfl
 have i2:t+2-1=t+1:=rfl
 simp only [i1,i2]
 rw [e,j,l,q,c,f]
 grind
theorem Av1 {v:List Int} {n:Nat} (h2:2<=n) (g:v.length=n) :
  Ai v=Ai (v.take (n-2))+1000000000 ^ (n-2)*(v[n-1]*1000000000+v[n-2]):=by
 obtain ⟨t,rfl⟩:∃t,n=t+2:=⟨n-2,by omega⟩
 have f:=Fg v (k:=t) (by omega)
 have b:=Fg v (k:=t+1) (by omega)
 have e:v.take (t+1+1)=v:=List.take_of_length_le (by omega)
 rw [e] at b
 have c:(1000000000:Int) ^ (t+1)=1000000000 ^ t*1000000000:=Int.pow_succ ..
 have i1:t+2-2=t:=rfl
 have i2:t+2-1=t+1:=rfl
 simp only [i1,i2]
 rw [b,f,c]
 grind
set_option maxHeartbeats 1000000 in
theorem Av2 (v u:List Int) (off n:Nat) (hv:Bw v) (hu:Bw u) (hn:v.length=n) (h2:2<=n) (bz:n<1099511627776) (bo:500000000<=v[n-1]) (X:off+n<u.length) (hT:Ai (u.drop off)<Ai v*1000000000) :
  ∃q o,Wh off (n+1) v u=some (q,o)/\o.length=u.length/\Bw o/\0<=q/\q<1000000000/\Ai o=Ai u-1000000000 ^ off*(q*Ai v)/\0<=Ai (o.drop off)/\Ai (o.drop off)<Ai v:=by
 have b7:=It hv
 rw [hn] at b7
 have c3:(u.drop off).length=u.length-off:=List.length_drop
 have A:=hu.drop off
 have bn:=F8 A.u32
 have b9:Ai (u.drop off)<1000000000 ^ (n+1):=by rw [Int.pow_succ]; omega
 have ab:=Av0 A h2 (by omega) b9
 have ao:=Av1 h2 hn
 have gd:∀i (h:i<(u.drop off).length),(u.drop off)[i]=u[off+i]'(by omega):=fun i h=>List.getElem_drop
 rw [gd,gd,gd] at ab
 have br:=hu.get (i:=off+n) (by omega)
 have bu:=hu.get (i:=off+(n-1)) (by omega)
 have bt:=hu.get (i:=off+(n-2)) (by omega)
 have bv:=hv.get (i:=n-1) (by omega)
 have ad:=hv.get (i:=n-2) (by omega)
 have hP:=Jd (n-2)
 have b8:=F8 ((hv.take (n-2)).u32)
 have aa:=It (hv.take (n-2))
 rw [List.length_take,Nat.min_eq_left (by omega)] at aa
 have bb:=F8 ((A.take (n-2)).u32)
 have ba:=It (A.take (n-2))
 rw [List.length_take,Nat.min_eq_left (by omega)] at ba
 have y:0<Ai v:=by
  have:(1000000000:Int) ^ (n-2)*1<=1000000000 ^ (n-2)*(v[n-1]*1000000000+v[n-2]):=Int.mul_le_mul_of_nonneg_left (by omega) (Int.le_of_lt hP)
  omega
 generalize hq:Ai (u.drop off) / Ai v=q
 have bi:q*Ai v<=Ai (u.drop off):=by rw [<-hq]; exact Int.ediv_mul_le _ (by omega)
 have ar:Ai (u.drop off)<(q+1)*Ai v:=by
  rw [<-hq]
  have:=Int.lt_ediv_add_one_mul_self (Ai (u.drop off)) y
  exact this
 have ag:0<=q:=by rw [<-hq]; exact Int.ediv_nonneg bn (by omega)
 have bg:q<1000000000:=by rw [<-hq]; exact Int.ediv_lt_of_lt_mul y (by rw [Int.mul_comm]; exact hT)
 have l:(0:Int)<v[n-1]:=by omega
 generalize ak:u[off+n]*1000000000+u[off+(n-1)]=head at ab
 have am:0<=head:=by omega
 have c1:head<=v[n-1]*1000000000+v[n-2]:=by
  rcases Int.lt_or_le (v[n-1]*1000000000+v[n-2]) head with h | h
  .exfalso
   have a1:(1000000000:Int) ^ (n-2)*((v[n-1]*1000000000+v[n-2]+1)*1000000000)<=1000000000 ^ (n-2)*(head*1000000000+u[off+(n-2)]):=Int.mul_le_mul_of_nonneg_left (by omega) (Int.le_of_lt hP)
   have a2:Ai v*1000000000<(1000000000 ^ (n-2)*(v[n-1]*1000000000+v[n-2]+1))*1000000000:=by
    have:(1000000000:Int) ^ (n-2)*(v[n-1]*1000000000+v[n-2]+1)=1000000000 ^ (n-2)*(v[n-1]*1000000000+v[n-2])+1000000000 ^ (n-2):=by grind
    omega
   have a3:((1000000000:Int) ^ (n-2)*(v[n-1]*1000000000+v[n-2]+1))*1000000000=1000000000 ^ (n-2)*((v[n-1]*1000000000+v[n-2]+1)*1000000000):=by grind
   omega
  .exact h
 have c2:0<=head / v[n-1]:=Int.ediv_nonneg am (by omega)
 have bl:head / v[n-1]<=1000000001:=by
  have:head / v[n-1]<1000000002:=Int.ediv_lt_of_lt_mul l (by omega)
  omega
 have bf:=Int.emod_nonneg head (by omega:v[n-1]≠0)
 have bw:=Int.emod_lt_of_pos head l
 have bm:=Int.mul_ediv_add_emod head v[n-1]
 unfold Wh
 have w1:Ac ((v.length:Int)-1)=((n-1:Nat):Int):=by rw [Ac,Bx] <;> omega
 have w2:Ac ((v.length:Int)-2)=((n-2:Nat):Int):=by rw [Ac,Bx] <;> omega
 have w3:(v.length:Int)=((n:Nat):Int):=by omega
 have x1:Ax u[off+n]=u[off+n]:=C7 (by omega) (by omega)
 have x2:Ax (u[off+n]*1000000000)=u[off+n]*1000000000:=C7 (by omega) (by omega)
 have x3:Ax u[off+(n-1)]=u[off+(n-1)]:=C7 (by omega) (by omega)
 have x4:Ax (u[off+n]*1000000000+u[off+(n-1)])=head:=by rw [Ax,C7 (by omega) (by omega),ak]
 have x5:Ax v[n-1]=v[n-1]:=C7 (by omega) (by omega)
 have x6:Ax v[n-2]=v[n-2]:=C7 (by omega) (by omega)
 have x7:Ax u[off+(n-2)]=u[off+(n-2)]:=C7 (by omega) (by omega)
 rw [w1,w2,Dp rfl (by omega:n-1<v.length),Ad,Dp rfl (by omega:n-2<v.length),Ad,w3,O1 rfl (by omega:n<n+1) (by omega),Ad,O1 rfl (by omega:n-1<n+1) (by omega),Ad,x1,x2,x3,x4,x5,x6,J4 am (by omega) l,Ad,Jb am l,Ad]
 refine Avz (Fb (fun (g,rest)=>g*v[n-1]+rest=head/\0<=rest/\rest<2000000000/\q<=g/\g<=1000000001) (fun (g,_)=>g.toNat) (fun g=>q<=g/\g<=q+1/\g<=1000000000)
  ⟨by rw [Int.mul_comm]; exact bm,bf,by omega,?_,bl⟩ ?_ ?_)
 .
  rcases Int.lt_or_le (head / v[n-1]) q with h | h
  .exfalso
   have a1:(head / v[n-1]+1)*v[n-1]<=q*v[n-1]:=Int.mul_le_mul_of_nonneg_right (by omega) (by omega)
   have a2:head<(head / v[n-1]+1)*v[n-1]:=Int.lt_ediv_add_one_mul_self head l
   have a3:q*(1000000000 ^ (n-2)*(v[n-1]*1000000000+v[n-2]))<=q*Ai v:=Int.mul_le_mul_of_nonneg_left (by omega) ag
   have a4:(1000000000:Int) ^ (n-2)*((head+1)*1000000000)<=1000000000 ^ (n-2)*(q*(v[n-1]*1000000000+v[n-2])):=by
    apply Int.mul_le_mul_of_nonneg_left _ (Int.le_of_lt hP)
    have b1:(head+1)*1000000000<=q*v[n-1]*1000000000:=by omega
    have b2:0<=q*v[n-2]:=Int.mul_nonneg ag ad.1
    have b3:q*(v[n-1]*1000000000+v[n-2])=q*v[n-1]*1000000000+q*v[n-2]:=by grind
    omega
   have a5:q*((1000000000:Int) ^ (n-2)*(v[n-1]*1000000000+v[n-2]))=1000000000 ^ (n-2)*(q*(v[n-1]*1000000000+v[n-2])):=by grind
   have a6:(1000000000:Int) ^ (n-2)*((head+1)*1000000000)=1000000000 ^ (n-2)*(head*1000000000)+1000000000 ^ (n-2)*1000000000:=by grind
   have a7:(1000000000:Int) ^ (n-2)*(head*1000000000+u[off+(n-2)])=1000000000 ^ (n-2)*(head*1000000000)+1000000000 ^ (n-2)*u[off+(n-2)]:=by grind
   have a8:(1000000000:Int) ^ (n-2)*(u[off+(n-2)]+1)<=1000000000 ^ (n-2)*1000000000:=Int.mul_le_mul_of_nonneg_left (by omega) (Int.le_of_lt hP)
   have a9:(1000000000:Int) ^ (n-2)*(u[off+(n-2)]+1)=1000000000 ^ (n-2)*u[off+(n-2)]+1000000000 ^ (n-2):=by grind
   omega
  .exact h
 .rintro ⟨g,rest⟩ ⟨k1,k2,k3,k4,k5⟩
  have S:0<=g:=by omega
  have w4:Ax (v[n-1])=v[n-1]:=x5
  have af:∀(hgt:q<g),(some (Sum.inl ((Ax (g-1)),(Ax (rest+v[n-1])))):Option ((Int×Int)⊕Int))=some (.inl (g-1,rest+v[n-1])):=by
   intro hgt
   rw [show Ax (g-1)=g-1 from C7 (by omega) (by omega),show Ax (rest+v[n-1])=rest+v[n-1] from C7 (by omega) (by omega)]
  have stay:∀(hr:rest<1000000000) (hgt:q<g),(g-1)*v[n-1]+(rest+v[n-1])=head/\0<=rest+v[n-1]/\rest+v[n-1]<2000000000/\q<=g-1/\g-1<=1000000001:=by
   intro hr hgt
   exact ⟨al1 k1,by omega,by omega,by omega,by omega⟩
  by_cases hr:rest<1000000000
  .by_cases Y:g>=1000000000
   .refine .inl ⟨(g-1,rest+v[n-1]),?_,stay hr (by omega),by simp; omega⟩
    simp only [Al hr,cond_true,Al Y,Ad]
    exact af (by omega)
   .have bq:=Aan S (by omega) ad.1 ad.2
    have y1:Ax (g*v[n-2])=g*v[n-2]:=C7 (by omega) (by omega)
    have y2:Ax (rest*1000000000)=rest*1000000000:=C7 (by omega) (by omega)
    have y3:Ax (rest*1000000000+u[off+(n-2)])=rest*1000000000+u[off+(n-2)]:=C7 (by omega) (by omega)
    have az:g*(v[n-1]*1000000000+v[n-2])=(head-rest)*1000000000+g*v[n-2]:=gtb k1
    simp only [Al hr,cond_true,Aq Y,cond_false,O1 rfl (by omega:n-2<n+1) (by omega:off+(n-2)<u.length),Ad,y1,x7,y2,y3]
    by_cases ae:g*v[n-2]>rest*1000000000+u[off+(n-2)]
    .have hgt:q<g:=Avy (P:=1000000000 ^ (n-2)) (tb:=v[n-1]*1000000000+v[n-2]) (hb:=head*1000000000+u[off+(n-2)]) (B:=0) hP ao b8 ab ba bi S (by omega) (by omega)
     refine .inl ⟨(g-1,rest+v[n-1]),?_,stay hr hgt,by simp; omega⟩
     rw [Al ae,cond_true]
     exact af hgt
    .refine .inr ⟨g,by rw [Aq ae,cond_false],k4,?_,by omega⟩
     exact Ald (P:=1000000000 ^ (n-2)) (tb:=v[n-1]*1000000000+v[n-2]) (hb:=head*1000000000+u[off+(n-2)]) hP ao aa ab bb ar S (by omega) (by omega) y
  .refine .inr ⟨g,by simp only [Aq hr,cond_false,Ad],k4,?_⟩
   have Y:g<=1000000000:=by
    rcases Int.lt_or_le 1000000000 g with h | h
    .exfalso
     have:g=1000000001:=by omega
     subst this
     omega
    .exact h
   refine ⟨?_,Y⟩
   have az:g*(v[n-1]*1000000000+v[n-2])=(head-rest)*1000000000+g*v[n-2]:=gtb k1
   have bp:g*v[n-2]<=1000000000*v[n-2]:=Int.mul_le_mul_of_nonneg_right Y ad.1
   exact Ald (P:=1000000000 ^ (n-2)) (tb:=v[n-1]*1000000000+v[n-2]) (hb:=head*1000000000+u[off+(n-2)]) hP ao aa ab bb ar S (by omega) (by omega) y
 .rintro g ⟨k1,k2,k3⟩
  have S:0<=g:=by omega
  refine Fb (fun (b,i,o)=>∃k:Nat,i=k/\k<=n/\o.length=u.length/\Bw o/\o.take off=u.take off/\o.drop (off+k)=u.drop (off+k)/\0<=b/\b<=1000000001/\Ai o-1000000000 ^ (off+k)*b=Ai u-1000000000 ^ off*(g*Ai (v.take k)))
   (fun (_,i,_)=>n-i.toNat) (fun (b,o)=>o.length=u.length/\Bw o/\o.take off=u.take off/\o.drop (off+n)=u.drop (off+n)/\0<=b/\b<=1000000001/\Ai o-1000000000 ^ (off+n)*b=Ai u-1000000000 ^ off*(g*Ai v))
   ⟨0,rfl,by omega,rfl,hu,rfl,rfl,by omega,by omega,by simp [Ai]⟩ ?_ ?_
  .rintro ⟨b,i,o⟩ ⟨k,rfl,hk,ho,I,M,L,b6,b5,f⟩
   rcases Nat.lt_or_ge k n with h | h
   .have E:off+k<o.length:=by omega
    have J:k<v.length:=by omega
    have hx:=I.get E
    have hy:=hv.get J
    have e4:=J7 h (by omega)
    have e5:decide ((k:Int)<(n:Int))=true:=Al (by omega)
    have av:0<=g*v[k]:=Int.mul_nonneg S hy.1
    have bx:g*v[k]<=1000000000*v[k]:=Int.mul_le_mul_of_nonneg_right k3 hy.1
    have y1:Ax v[k]=v[k]:=C7 (by omega) (by omega)
    have y2:Ax (g*v[k])=g*v[k]:=C7 (by omega) (by omega)
    have y3:Ac o[off+k]=o[off+k]:=Bx (by omega) (by omega)
    generalize au:g*v[k]=p at *
    have y4:Ac (o[off+k]-b)=o[off+k]-b:=Bx (by omega) (by omega)
    have y5:Ac (p % 1000000000)=p % 1000000000:=Bx (by omega) (by omega)
    have y6:Ac (o[off+k]-b-p % 1000000000)=o[off+k]-b-p % 1000000000:=Bx (by omega) (by omega)
    have y7:Ac (p / 1000000000)=p / 1000000000:=Bx (by omega) (by omega)
    simp only [e5,cond_true,O1 rfl (by omega:k<n+1) E,Dp rfl J,Ad,y1,y2,au,y3,y4,Jb av (show (0:Int)<1000000000 by decide),J4 av (show p<=_ by omega) (show (0:Int)<1000000000 by decide),y5,y6,y7]
    refine .inl (Aae (Fb (fun (b',s)=>∃t:Nat,b'=p / 1000000000+t/\s=o[off+k]-b-p % 1000000000+t*1000000000/\s<1000000000/\t<=3) (fun (_,s)=>(-s).toNat)
     (fun (b',s)=>∃t:Nat,b'=p / 1000000000+t/\s=o[off+k]-b-p % 1000000000+t*1000000000/\s<1000000000/\0<=s/\t<=2) ⟨0,by simp,by simp,by omega,by omega⟩ ?_ ?_))
    .rintro ⟨b',s⟩ ⟨t,rfl,hs,ac,ht⟩
     by_cases G:s<0
     .refine .inl ⟨(p / 1000000000+(t+1:Nat),s+1000000000),?_,⟨t+1,rfl,by rw [hs]; simp; omega,by omega,by omega⟩,by simp; omega⟩
      rw [Al G,cond_true,show Ac (p / 1000000000+(t:Int)+1)=p / 1000000000+((t+1:Nat):Int) by rw [Ac,Bx] <;> omega,show Ac (s+1000000000)=s+1000000000 from Bx (by omega) (by omega)]
     .exact .inr ⟨(p / 1000000000+t,s),by rw [Aq G,cond_false],t,rfl,hs,ac,by omega,by omega⟩
    .rintro ⟨b',s⟩ ⟨t,rfl,hs,ac,G,ht⟩
     have y8:Cf s=s:=Ff (by omega) (by omega)
     refine ⟨.inl (p / 1000000000+t,((k+1:Nat):Int),o.set (off+k) s),by simp only [O1 rfl (by omega:k<n+1) E,Ad,y8,e4]; rw [Fq (n:=off+k) (by omega)],_,rfl,⟨k+1,rfl,by omega,by simpa using ho,I.set _ G ac,?_,?_,by omega,by omega,?_⟩,by simp; omega⟩
     .rw [List.take_set_of_le (by omega)]; exact M
     .rw [List.drop_set_of_lt (by omega),show off+(k+1)=(off+k)+1 by omega,<-List.drop_drop,L,List.drop_drop]
     .rw [Ku _ E,Fg v J,show off+(k+1)=(off+k)+1 by omega,Int.pow_succ]
      have ay:=Int.mul_ediv_add_emod p 1000000000
      have pa:(1000000000:Int) ^ (off+k)=1000000000 ^ off*1000000000 ^ k:=Int.pow_add ..
      have eA:s-1000000000*(p / 1000000000+(t:Int))=o[off+k]-b-p:=by rw [hs]; omega
      rw [al2 eA,f,<-au,pa]
      exact al3 _ _ _ _ _ _
   .have aj:k=n:=by omega
    subst aj
    refine .inr ⟨(b,o),by simp,ho,I,M,L,b6,b5,?_⟩
    rw [List.take_of_length_le (by omega)] at f
    exact f
  .rintro ⟨b,o⟩ ⟨ho,I,M,L,b6,b5,f⟩
   have hV:=y
   have ah:off+n<o.length:=by omega
   have ax:o[off+n]=u[off+n]:=by
    have:=congrArg List.head? L
    rw [List.head?_drop,List.head?_drop,B7 ah,B7 X] at this
    exact Option.some.inj this
   have hE:Ai (u.drop (off+n))=u[off+n]:=by
    have a1:=Mo (u.drop off) (n+1) (by omega)
    have a2:=F8 (((hu.drop off).take (n+1)).u32)
    have a3:=Aao (hu.drop off) (n+1)
    have a4:Ai ((u.drop off).drop (n+1))=0:=by
     rcases Int.lt_or_le 0 (Ai ((u.drop off).drop (n+1))) with h | h
     .have:(1000000000:Int) ^ (n+1)*1<=1000000000 ^ (n+1)*Ai ((u.drop off).drop (n+1)):=Int.mul_le_mul_of_nonneg_left h (Int.le_of_lt (Jd _))
      omega
     .omega
    rw [List.drop_eq_getElem_cons X]
    simp only [Ai]
    rw [List.drop_drop,show off+(n+1)=off+n+1 by omega] at a4
    rw [a4]; omega
   have main:∀o':List Int,o'.length=u.length->Bw o'->o'.take off=u.take off->o'.drop (off+n)=u.drop (off+n)->0<=Ai ((o'.drop off).take n)/\Ai ((o'.drop off).take n)<1000000000 ^ n /\
     Ai o'=Ai u+1000000000 ^ off*(Ai ((o'.drop off).take n)+1000000000 ^ n*u[off+n]-Ai (u.drop off)):=by
    intro o' l1 l2 l3 l4
    have a1:=Mo (o'.drop off) n (by rw [List.length_drop]; omega)
    rw [List.drop_drop,l4,hE] at a1
    have a2:=Ale (by omega) (by omega) l3
    refine ⟨F8 (((l2.drop off).take n).u32),?_,by rw [<-a1]; omega⟩
    have:=It ((l2.drop off).take n)
    rw [List.length_take,List.length_drop,Nat.min_eq_left (by omega)] at this
    exact this
   obtain ⟨m1,m2,m3⟩:=main o ho I M L
   have pa:(1000000000:Int) ^ (off+n)=1000000000 ^ off*1000000000 ^ n:=Int.pow_add ..
   have star:Ai (u.drop off)-g*Ai v=Ai ((o.drop off).take n)+1000000000 ^ n*(u[off+n]-b):=by
    apply Aev (k:=off)
    rw [m3,pa] at f
    exact al4 f
   have y1:Ac u[off+n]=u[off+n]:=Bx (by omega) (by omega)
   have y2:Ac (u[off+n]-b)=u[off+n]-b:=Bx (by omega) (by omega)
   have ap:=Jd n
   have fin:∀(U:List Int) (x:Int) (j:List Int),U=j.set (off+n) x->j.length=u.length->Bw j->0<=x->x<1000000000->j.take off=u.take off->Ai U=Ai u-1000000000 ^ off*(q*Ai v) ->
     U.length=u.length/\Bw U/\0<=q/\q<1000000000/\Ai U=Ai u-1000000000 ^ off*(q*Ai v)/\0<=Ai (U.drop off)/\Ai (U.drop off)<Ai v:=by
    intro U x j e l1 l2 x0 x1 l3 aq
    have L4:U.length=u.length:=by rw [e]; simpa using l1
    have T4:U.take off=u.take off:=by rw [e,List.take_set_of_le (by omega)]; exact l3
    have hp:=Ale (by omega) (by omega) T4
    have hd:Ai (U.drop off)=Ai (u.drop off)-q*Ai v:=by
     have:Ai (U.drop off)-Ai (u.drop off) = - (q*Ai v):=by
      apply Aev (k:=off)
      rw [<-hp,aq]; exact al5 _ _ _
     omega
    have bh:(q+1)*Ai v=q*Ai v+Ai v:=by grind
    exact ⟨L4,by rw [e]; exact l2.set _ x0 x1,ag,bg,aq,by omega,by omega⟩
   simp only [O1 rfl (by omega:n<n+1) ah,ax,Ad,y1,y2]
   by_cases z:u[off+n]-b>=0
   .have c0:g*Ai v<=Ai (u.drop off):=by
     have:=Int.mul_nonneg (Int.le_of_lt ap) z
     omega
    have R:g=q:=by
     rcases Int.lt_or_le q g with h | h
     .exfalso
      have:(q+1)*Ai v<=g*Ai v:=Int.mul_le_mul_of_nonneg_right (by omega) (by omega)
      omega
     .omega
    have y3:Cf (u[off+n]-b)=u[off+n]-b:=Ff (by omega) (by omega)
    have y4:Cf g=g:=Ff (by omega) (by omega)
    rw [Al z,cond_true,y3,y4,Fq (n:=off+n) (by omega)]
    refine ⟨_,rfl,?_⟩
    rw [R]
    refine fin _ (u[off+n]-b) o rfl ho I z (by omega) M ?_
    rw [Ku _ ah,ax]
    rw [R] at f
    exact al6 f
   .have R:g=q+1:=by
     have h1:1000000000 ^ n*(u[off+n]-b)<=1000000000 ^ n*(-1):=Int.mul_le_mul_of_nonneg_left (by omega) (Int.le_of_lt ap)
     rcases Int.lt_or_le q g with h | h
     .omega
     .exfalso
      have:g*Ai v<=q*Ai v:=Int.mul_le_mul_of_nonneg_right h (by omega)
      omega
    rw [Aq z,cond_false]
    refine Fb (fun (c,i,j)=>∃k:Nat,i=k/\k<=n/\j.length=u.length/\Bw j/\j.take off=u.take off/\j.drop (off+k)=o.drop (off+k)/\0<=c/\c<=1/\Ai j+1000000000 ^ (off+k)*c=Ai o+1000000000 ^ off*Ai (v.take k))
     (fun (_,i,_)=>n-i.toNat) (fun (c,j)=>j.length=u.length/\Bw j/\j.take off=u.take off/\j.drop (off+n)=o.drop (off+n)/\0<=c/\c<=1/\Ai j+1000000000 ^ (off+n)*c=Ai o+1000000000 ^ off*Ai v)
     ⟨0,rfl,by omega,ho,I,M,rfl,by omega,by omega,by simp [Ai]⟩ ?_ ?_
    .rintro ⟨c,i,j⟩ ⟨k,rfl,hk,h3,N,V,Z,b4,b0,D⟩
     rcases Nat.lt_or_ge k n with h | h
     .have E:off+k<j.length:=by omega
      have J:k<v.length:=by omega
      have hx:=N.get E
      have hy:=hv.get J
      have e4:=J7 h (by omega)
      have e5:decide ((k:Int)<(n:Int))=true:=Al (by omega)
      have z1:Cf (j[off+k]+v[k])=j[off+k]+v[k]:=Ff (by omega) (by omega)
      have z2:Cf (j[off+k]+v[k]+c)=j[off+k]+v[k]+c:=Ff (by omega) (by omega)
      generalize hs:j[off+k]+v[k]+c=s at z2
      have G:0<=s:=by omega
      have ac:s<2000000000:=by omega
      refine .inl ⟨(s / 1000000000,((k+1:Nat):Int),j.set (off+k) (s % 1000000000)),?_,⟨k+1,rfl,by omega,by simpa using h3,N.set _ (by omega) (by omega),?_,?_,by omega,by omega,?_⟩,by simp; omega⟩
      .simp only [e5,cond_true,O1 rfl (by omega:k<n+1) E,Dp rfl J,Ad,z1,hs,z2,Aeo G (show s<=_ by omega) (show (0:Int)<1000000000 by decide),Jb G (show (0:Int)<1000000000 by decide),e4]
       rw [Fq (n:=off+k) (by omega)]
      .rw [List.take_set_of_le (by omega)]; exact V
      .rw [List.drop_set_of_lt (by omega),show off+(k+1)=(off+k)+1 by omega,<-List.drop_drop,Z,List.drop_drop]
      .rw [Ku _ E,Fg v J,show off+(k+1)=(off+k)+1 by omega,Int.pow_succ]
       have ay:=Int.mul_ediv_add_emod s 1000000000
       have pk:(1000000000:Int) ^ (off+k)=1000000000 ^ off*1000000000 ^ k:=Int.pow_add ..
       rw [pk] at D ⊢
       exact al7 hs ay D
     .have aj:k=n:=by omega
      subst aj
      refine .inr ⟨(c,j),by simp,h3,N,V,Z,b4,b0,?_⟩
      rw [List.take_of_length_le (by omega)] at D
      exact D
    .rintro ⟨c,j⟩ ⟨h3,N,V,Z,b4,b0,D⟩
     have ai:off+n<j.length:=by omega
     obtain ⟨r1,r2,r3⟩:=main j h3 N V (Z.trans L)
     have bj:j[off+n]=u[off+n]:=by
      have:=congrArg List.head? (Z.trans L)
      rw [List.head?_drop,List.head?_drop,B7 ai,B7 X] at this
      exact Option.some.inj this
     have be:Ai (u.drop off)-q*Ai v=Ai ((j.drop off).take n)+1000000000 ^ n*(u[off+n]-b+c):=by
      apply Aev (k:=off)
      rw [r3,pa] at D
      rw [R] at f
      rw [pa] at f
      exact al8 f D
     have bk:u[off+n]-b+c=0:=by
      have bh:(q+1)*Ai v=q*Ai v+Ai v:=by grind
      rcases Int.lt_or_le (u[off+n]-b+c) 0 with h | h
      .exfalso
       have h1:1000000000 ^ n*(u[off+n]-b+c)<=1000000000 ^ n*(-1):=Int.mul_le_mul_of_nonneg_left (by omega) (Int.le_of_lt ap)
       omega
      .omega
     have y5:Ac c=c:=Bx (by omega) (by omega)
     have y6:Ac (u[off+n]-b+c)=0:=by rw [bk]; rfl
     have y7:Cf (0:Int)=0:=rfl
     have y8:Ax (g-1)=q:=by rw [R,Ax,C7 (by omega) (by omega)]; omega
     have y9:Cf q=q:=Ff (by omega) (by omega)
     simp only [O1 rfl (by omega:n<n+1) ai,Ad,y5,y6,y7,y8,y9]
     rw [Fq (n:=off+n) (by omega)]
     refine ⟨_,rfl,?_⟩
     refine fin _ 0 j rfl h3 N (by omega) (by omega) V ?_
     rw [Ku _ ai,bj]
     rw [R] at f
     exact al9 D f (by omega)
end Go.Ab
namespace Go.Ab
open Go
theorem Av3 (a:List Int) (m:Int):Aec a m=Th a m:=rfl
theorem Av4 {t d r:Int} (ht:1<=t) (ht':t<1000000000) (hd:d*(t+1)+r=1000000000) (f:0<=r) (b:r<=t):500000000<=d*t:=by
 have c:0<=d:=by
  rcases Int.lt_or_le d 0 with h | h
  .exfalso
   have:d*(t+1)<=(-1)*(t+1):=Int.mul_le_mul_of_nonneg_right (by omega) (by omega)
   omega
  .exact h
 have e:d*(t+1)=d*t+d:=by grind
 rcases Int.lt_or_le t 2 with h | h
 .have:t=1:=by omega
  subst this
  omega
 .rcases Int.lt_or_le d 2 with h2 | h2
  .have:d=0\/d=1:=by omega
   rcases this with rfl | rfl <;> omega
  .have h3:2*(t-1)<=d*(t-1):=Int.mul_le_mul_of_nonneg_right h2 (by omega)
   have g:d*(t-1)=d*t-d:=by grind
   omega
theorem bl1 (P t d:Int):P*t*d=P*(d*t):=by grind
theorem bl2 {u o X q V K Q S:Int} (h:o=u-X*(q*V)) (b:u+V*(X*1000000000)*Q=S):o+V*X*(q+1000000000*Q)=S:=by grind
set_option maxHeartbeats 1000000 in
theorem Aew (m n:Nat) (hm:Bd m<274877906944) (hn:Bd n<274877906944) (G:n≠0):Qm (Ae m) (Ae n)=some (Ae (m / n),Ae (m % n)):=by
 unfold Qm
 rw [Q5 m n (by omega) (by omega),Ad]
 unfold Bd at hm hn
 by_cases g:m<n
 .rw [show Eh m n = -1 by rw [Eh,if_pos g],Al (by decide:(-1:Int)<0),cond_true,Dj (by simp; omega),Ad,Nat.div_eq_of_lt g,Nat.mod_eq_of_lt g,Fi]; rfl
 .rw [Aq (show ¬Eh m n<0 by rw [Eh,if_neg g]; split <;> decide),cond_false]
  have be:(Ae n).length<=(Ae m).length:=Gn (by omega)
  have b0:(Ae n).length≠0:=fun e=>Hq G (List.length_eq_zero_iff.1 e)
  by_cases h1:(Ae n).length=1
  .rw [Es (by omega:((Ae n).length:Int)=1),cond_true]
   have a6:n<1000000000:=by
    have:=Mp n
    rw [show Bd n=1 from h1] at this
    simpa using this
   have am:Ae n = [(n:Int)]:=by
    rw [Lq G,Nat.div_eq_of_lt a6,Fi,Nat.mod_eq_of_lt a6]
   rw [am,show Ag [(n:Int)] 0=some (n:Int) from rfl,Ad,show Ax (n:Int)=n from C7 (by omega) (by omega),Aeu m n (by unfold Bd; omega) (by omega) (by omega),Ad]
   have az:m % n<n:=Nat.mod_lt _ (by omega)
   rw [Tu (m % n) (by omega),Ad]
  .rw [Cv (by omega:((Ae n).length:Int)≠1),cond_false]
   generalize hL:(Ae n).length=L at *
   generalize hA:(Ae m).length=A at *
   have w1:Ac ((L:Int)-1)=((L-1:Nat):Int):=by rw [Ac,Bx] <;> omega
   have hi:L-1<(Ae n).length:=by omega
   have ht:=(Ee n).get hi
   have ax:(Ae n)[L-1]≠0:=by
    have:=(Aai n).2 (Hq G)
    rw [List.getLast_eq_getElem] at this
    simpa [hL] using this
   generalize y:(Ae n)[L-1]=t at *
   have w2:Ax t=t:=C7 (by omega) (by omega)
   have w3:Ax (t+1)=t+1:=C7 (by omega) (by omega)
   rw [w1,Dp rfl hi,y,Ad,w2,w3,J4 (by decide) (by decide) (by omega),Ad]
   have U:=Int.mul_ediv_add_emod 1000000000 (t+1)
   have ah:=Int.emod_nonneg 1000000000 (by omega:t+1≠0)
   have b9:=Int.emod_lt_of_pos 1000000000 (by omega:0<t+1)
   have aq:1<=1000000000 / (t+1):=by
    rcases Int.lt_or_le (1000000000 / (t+1)) 1 with h | h
    .exfalso
     have:(t+1)*(1000000000 / (t+1))<=(t+1)*0:=Int.mul_le_mul_of_nonneg_left (by omega) (by omega)
     omega
    .exact h
   have ap:1000000000 / (t+1)<=500000000:=by
    have:=Int.ediv_lt_of_lt_mul (a:=1000000000) (b:=500000001) (c:=t+1) (by omega) (by omega)
    omega
   obtain ⟨d,hd⟩:∃d:Nat,1000000000 / (t+1)=(d:Int):=⟨(1000000000 / (t+1)).toNat,by omega⟩
   rw [hd] at U aq ap ⊢
   obtain ⟨u,ag,E,S,R⟩:=Alc (Ae m) d (Ee m) (by omega) (by omega)
   obtain ⟨v0,af,ae,D,b7⟩:=Alc (Ae n) d (Ee n) (by omega) (by omega)
   rw [ag,Ad,Av3,af,Ad,Eu] at *
   rw [hL] at ae
   rw [hA] at E
   rw [Aag rfl (by omega:L<=v0.length),Ad]
   have x:=Jd (L-1)
   have pL:(1000000000:Int) ^ L=1000000000 ^ (L-1)*1000000000:=by rw [<-Int.pow_succ]; congr 1; omega
   have Y:=Fg (Ae n) hi
   rw [List.take_of_length_le (by omega),Eu,y] at Y
   have ay:=F8 (((Ee n).take (L-1)).u32)
   have Z:=It ((Ee n).take (L-1))
   rw [List.length_take,hL,Nat.min_eq_left (by omega)] at Z
   have bb:(n:Int)*d<1000000000 ^ L:=by
    have a1:(n:Int)*d<(1000000000 ^ (L-1)*(t+1))*d:=Int.mul_lt_mul_of_pos_right (by
     have:(1000000000:Int) ^ (L-1)*(t+1)=1000000000 ^ (L-1)*t+1000000000 ^ (L-1):=by grind
     omega) (by omega)
    have a2:(1000000000 ^ (L-1)*(t+1))*(d:Int)=1000000000 ^ (L-1)*((t+1)*d):=by grind
    have a3:(1000000000:Int) ^ (L-1)*((t+1)*d)<=1000000000 ^ (L-1)*1000000000:=Int.mul_le_mul_of_nonneg_left (by omega) (Int.le_of_lt x)
    omega
   have M:Ai (v0.take L)=(n:Int)*d:=by
    have e:=Mo v0 L (by omega)
    have z:Ai (v0.drop L)=0:=by
     have a1:=Aao D L
     have a2:=F8 ((D.take L).u32)
     rcases Int.lt_or_le 0 (Ai (v0.drop L)) with h | h
     .have:(1000000000:Int) ^ L*1<=1000000000 ^ L*Ai (v0.drop L):=Int.mul_le_mul_of_nonneg_left h (Int.le_of_lt (Jd _))
      omega
     .omega
    rw [z] at e; omega
   have I:(v0.take L).length=L:=by rw [List.length_take]; omega
   have f:=D.take L
   have J:L-1<(v0.take L).length:=by omega
   have ak:500000000<=(d:Int)*t:=Av4 (r:=1000000000 % (t+1)) (by omega) (by omega) (by rw [Int.mul_comm]; exact U) ah (by omega)
   have l:500000000<=(v0.take L)[L-1]:=by
    have e:=Fg (v0.take L) J
    rw [List.take_of_length_le (by omega),M] at e
    have b1:=It (f.take (L-1))
    rw [List.length_take,I,Nat.min_eq_left (by omega)] at b1
    have b2:(1000000000:Int) ^ (L-1)*t*d<=n*d:=Int.mul_le_mul_of_nonneg_right (by omega) (by omega)
    have b3:(1000000000:Int) ^ (L-1)*500000000<=1000000000 ^ (L-1)*(d*t):=Int.mul_le_mul_of_nonneg_left ak (Int.le_of_lt x)
    rw [bl1] at b2
    rcases Int.lt_or_le (v0.take L)[L-1] 500000000 with h | h
    .exfalso
     have b4:(1000000000:Int) ^ (L-1)*((v0.take L)[L-1]+1)<=1000000000 ^ (L-1)*500000000:=Int.mul_le_mul_of_nonneg_left (by omega) (Int.le_of_lt x)
     have b5:(1000000000:Int) ^ (L-1)*((v0.take L)[L-1]+1)=1000000000 ^ (L-1)*(v0.take L)[L-1]+1000000000 ^ (L-1):=by grind
     omega
    .exact h
   generalize b6:v0.take L=v at *
   have w4:Ac ((A:Int)-(L:Int))=((A-L:Nat):Int):=by rw [Ac,Bx] <;> omega
   have w5:Ac (((A-L:Nat):Int)+1)=((A-L+1:Nat):Int):=by rw [Ac,Bx] <;> omega
   rw [w4,w5,Is rfl rfl (Nat.le_refl _) (by omega) (by omega),Ad,E]
   have b8:=F8 S.u32
   have ar:(0:Int)<(n:Int)*d:=Int.mul_pos (by omega) (by omega)
   refine Ho (fun (i,w,q)=>∃k:Nat,i=(k:Int)-1/\k<=A-L+1/\w.length=A+1/\Bw w/\q.length=A-L+1/\Bw q/\Ai w<Ai v*1000000000 ^ k/\Ai w+Ai v*1000000000 ^ k*Ai (q.drop k)=(m:Int)*d)
    (fun (i,_,_)=>(i+1).toNat) (fun (w,q)=>w.length=A+1/\Bw w/\q.length=A-L+1/\Bw q/\Ai w<Ai v/\Ai w+Ai v*Ai q=(m:Int)*d)
    ⟨A-L+1,by omega,Nat.le_refl _,E,S,by simp,Bw.replicate _,?_,by rw [List.drop_of_length_le (by simp)]; simp [Ai,R]⟩ ?_ ?_
   .
    have aj:(m:Int)<1000000000 ^ A:=by
     have:=It (Ee m)
     rwa [Eu,hA] at this
    have a1:(m:Int)*d<1000000000 ^ A*500000000:=by
     have c1:(m:Int)*d<=m*500000000:=Int.mul_le_mul_of_nonneg_left (by omega) (by omega)
     have c2:(m:Int)*500000000<1000000000 ^ A*500000000:=Int.mul_lt_mul_of_pos_right aj (by decide)
     omega
    have a2:(1000000000:Int) ^ (L-1)*500000000<=Ai v:=by
     have e:=Fg v J
     rw [List.take_of_length_le (by omega)] at e
     have b1:=F8 ((f.take (L-1)).u32)
     have b3:(1000000000:Int) ^ (L-1)*500000000<=1000000000 ^ (L-1)*v[L-1]:=Int.mul_le_mul_of_nonneg_left l (Int.le_of_lt x)
     omega
    have a3:(1000000000:Int) ^ (L-1)*500000000*1000000000 ^ (A-L+1)<=Ai v*1000000000 ^ (A-L+1):=Int.mul_le_mul_of_nonneg_right a2 (Int.le_of_lt (Jd _))
    have a4:(1000000000:Int) ^ (L-1)*500000000*1000000000 ^ (A-L+1)=1000000000 ^ A*500000000:=by
     have:(1000000000:Int) ^ A=1000000000 ^ (L-1)*1000000000 ^ (A-L+1):=by rw [<-Int.pow_add]; congr 1; omega
     rw [this]; grind
    rw [R]; omega
   .rintro ⟨i,w,q⟩ ⟨k,rfl,hk,ac,B,X,V,a7,s⟩
    cases k with
    | zero=>exact .inr ⟨(w,q),by simp,ac,B,X,V,by simpa using a7,by simpa using s⟩
    | succ j=>
     have e0:((j+1:Nat):Int)-1=(j:Int):=by omega
     have e1:decide ((j:Int)>=0)=true:=Al (by omega)
     have w6:Ac ((j:Int)+(L:Int))=((j+L:Nat):Int):=by rw [Ac,Bx] <;> omega
     have w7:Ac (((j+L:Nat):Int)+1)=((j+L+1:Nat):Int):=by rw [Ac,Bx] <;> omega
     have sA:N7 (A+1) (j:Int) ((j+L+1:Nat):Int)=some (j,j+L+1):=by
      have c1:(0:Int)<=(j:Int):=by omega
      have c2:(j:Int)<=((j+L+1:Nat):Int):=by omega
      have c3:((j+L+1:Nat):Int)<=((A+1:Nat):Int):=by omega
      have c4:(j:Int)=0\/(j:Int)<((j+L+1:Nat):Int):=by omega
      rw [N7,if_pos ⟨c1,c2,c3,c4⟩]; rfl
     have au:Ai (w.drop j)<Ai v*1000000000:=by
      have s1:=Mo w j (by omega)
      have s2:=F8 ((B.take j).u32)
      rcases Int.lt_or_le (Ai (w.drop j)) (Ai v*1000000000) with h | h
      .exact h
      .exfalso
       have:(1000000000:Int) ^ j*(Ai v*1000000000)<=1000000000 ^ j*Ai (w.drop j):=Int.mul_le_mul_of_nonneg_left h (Int.le_of_lt (Jd _))
       have e:Ai v*(1000000000:Int) ^ (j+1)=1000000000 ^ j*(Ai v*1000000000):=by rw [Int.pow_succ]; grind
       omega
     obtain ⟨qd,o,r1,r2,r3,r4,r5,r6,r7,r8⟩:=Av2 v w j L f B I (by omega) (by omega) l (by omega) au
     have a8:j<q.length:=by omega
     have w8:Ac ((j:Int)-1)=(j:Int)-1:=by rw [Ac,Bx] <;> omega
     have lG:Fm (A+1) o=some ():=by rw [Fm,if_pos (by omega)]
     refine .inl ⟨((j:Int)-1,o,q.set j qd),?_,⟨j,rfl,by omega,by omega,r3,by simpa using X,V.set _ r4 r5,?_,?_⟩,by simp⟩
     .simp only [e0,e1,cond_true,w6,w7,sA,Ad,Nat.zero_add,show j+L+1-j=L+1 by omega,r1,lG,Dp rfl a8,w8,Fq rfl]
     .have s1:=Mo o j (by omega)
      have s2:=It (r3.take j)
      rw [List.length_take,Nat.min_eq_left (by omega)] at s2
      have:(1000000000:Int) ^ j*(Ai (o.drop j)+1)<=1000000000 ^ j*Ai v:=Int.mul_le_mul_of_nonneg_left (by omega) (Int.le_of_lt (Jd _))
      have e:(1000000000:Int) ^ j*(Ai (o.drop j)+1)=1000000000 ^ j*Ai (o.drop j)+1000000000 ^ j:=by grind
      rw [Int.mul_comm (Ai v)]; omega
     .have d1:(q.set j qd).drop j=qd::q.drop (j+1):=by
       rw [List.drop_eq_getElem_cons (by simpa using a8),List.drop_set_of_lt (by omega)]; simp
      rw [d1]
      simp only [Ai]
      rw [Int.pow_succ] at s
      exact bl2 (K:=0) r6 s
   .rintro ⟨w,q⟩ ⟨h2,h3,h4,h5,h6,h7⟩
    rw [M] at h6 h7
    have ad:=F8 h3.u32
    have ba:=F8 h5.u32
    have N:=(Int.ediv_emod_unique ar (r:=Ai w) (q:=Ai q) (a:=(m:Int)*d)).2 ⟨by rw [<-h7],ad,h6⟩
    have ao:(m*d) / (n*d)=m / n:=Nat.mul_div_mul_right m n (by omega)
    have ai:(m*d) % (n*d)=(m % n)*d:=Nat.mul_mod_mul_right d m n
    have av:Ai q=((m / n:Nat):Int):=by
     rw [<-N.1,<-ao]; simp
    have aa:Ai w=(((m % n)*d:Nat):Int):=by
     rw [<-N.2,<-ai]; simp
    have ab:Bd ((m % n)*d)<1099511627776:=by
     have g:=It h3
     have:Bd ((m % n)*d)<=A+1:=by
      apply Je
      rw [h2,aa] at g
      have e:((1000000000 ^ (A+1):Nat):Int)=1000000000 ^ (A+1):=by rw [Int.natCast_pow]; rfl
      omega
     omega
    dsimp only
    rw [Oz w (by omega),Ad,J6 h3 aa,Aeu _ d ab (by omega) (by omega),Ad,Oz q (by omega),Ad,J6 h5 av,Nat.mul_div_cancel _ (by omega)]
end Go.Ab
namespace Go.Ab
open Go
theorem Alf {n:Nat} (h:Bd n<=2):n<1000000000000000000:=by
 have h1:=Mp n
 have h2:1000000000 ^ Bd n<=1000000000 ^ 2:=Nat.pow_le_pow_right (by decide) h
 omega
theorem Alg (n:Nat) (h:Bd n<=2):Tg (Ae n)=some ((n:Int),true):=by
 unfold Tg
 unfold Bd at h
 have ha:=Ee n
 refine Ho (fun (w,i)=>∃k:Nat,i=k/\k<=(Ae n).length/\w=Ai ((Ae n).drop ((Ae n).length-k))) (fun (_,i)=>(Ae n).length-i.toNat)
  (fun e=>match e with | .inl _=>False | .inr w=>w=n) ⟨0,rfl,by omega,by simp [Ai]⟩ ?_ ?_
 .rintro ⟨w,i⟩ ⟨k,rfl,hk,rfl⟩
  rcases Nat.lt_or_ge k (Ae n).length with c | hge
  .have z:decide ((k:Int)<((Ae n).length:Int))=true:=Al (by omega)
   have u:Ac (((Ae n).length:Int)-1)=((Ae n).length:Int)-1:=by rw [Ac,Bx] <;> omega
   have s:Ac (((Ae n).length:Int)-1-(k:Int))=(((Ae n).length-1-k:Nat):Int):=by rw [Ac,Bx] <;> omega
   have hj:(Ae n).length-1-k<(Ae n).length:=by omega
   have hx:=ha.get hj
   have y:=Aao ha ((Ae n).length-k)
   have b:=It (ha.drop ((Ae n).length-k))
   rw [List.length_drop,show (Ae n).length-((Ae n).length-k)=k by omega] at b
   have x:(1000000000:Int) ^ k<=1000000000:=by
    have:k=0\/k=1:=by omega
    rcases this with rfl | rfl <;> decide
   have q:Ax (Ae n)[(Ae n).length-1-k]=(Ae n)[(Ae n).length-1-k]:=C7 (by omega) (by omega)
   have l:Ax (18446744073709551615-(Ae n)[(Ae n).length-1-k])=18446744073709551615-(Ae n)[(Ae n).length-1-k]:=C7 (by omega) (by omega)
   have j:Ax (Ai ((Ae n).drop ((Ae n).length-k))*1000000000)=Ai ((Ae n).drop ((Ae n).length-k))*1000000000:=C7 (by omega) (by omega)
   have g:Ax (Ai ((Ae n).drop ((Ae n).length-k))*1000000000+(Ae n)[(Ae n).length-1-k])=Ai ((Ae n).drop ((Ae n).length-k))*1000000000+(Ae n)[(Ae n).length-1-k]:=C7 (by omega) (by omega)
   have e4:=J7 c (by omega)
   have hc:¬Ai ((Ae n).drop ((Ae n).length-k))>(18446744073709551615-(Ae n)[(Ae n).length-1-k]) / 1000000000:=by omega
   refine .inl ⟨(Ai ((Ae n).drop ((Ae n).length-k))*1000000000+(Ae n)[(Ae n).length-1-k],((k+1:Nat):Int)),?_,⟨k+1,rfl,by omega,?_⟩,by simp; omega⟩
   .simp only [z,cond_true,u,s,Dp rfl hj,Ad,q,l,J4 (show 0<=18446744073709551615-(Ae n)[(Ae n).length-1-k] by omega) (show 18446744073709551615-(Ae n)[(Ae n).length-1-k]<=_ by omega) (show (0:Int)<1000000000 by decide),Aq hc,cond_false,j,g,e4]
   .have hd:(Ae n).drop ((Ae n).length-(k+1))=(Ae n)[(Ae n).length-1-k]::(Ae n).drop ((Ae n).length-k):=by
     rw [show (Ae n).length-(k+1)=(Ae n).length-1-k by omega,List.drop_eq_getElem_cons hj]
     congr 2; omega
    rw [hd]; simp only [Ai]; omega
  .have:k=(Ae n).length:=by omega
   subst this
   refine .inr ⟨.inr _,by simp; rfl,?_⟩
   exact Eu n
 .rintro (e | e) f
  .exact f.elim
  .simp only at f ⊢; rw [f]
theorem Av5 (m n:Nat) (hm:Bd m<274877906944) (z:Bd n<274877906944):Wa (Ae m) (Ae n)=some (Ae (Nat.gcd m n)):=by
 unfold Wa
 refine Ho (fun (a,b)=>∃x y:Nat,a=Ae x/\b=Ae y/\Bd x<274877906944/\Bd y<274877906944/\Nat.gcd x y=Nat.gcd m n) (fun (_,b)=>(Ai b).toNat)
  (fun e=>match e with | .inl r=>r=Ae (Nat.gcd m n) | .inr r=>r=Ae (Nat.gcd m n)) ⟨m,n,rfl,rfl,hm,z,rfl⟩ ?_ ?_
 .rintro ⟨a,b⟩ ⟨x,y,rfl,rfl,hx,hy,k⟩
  by_cases c:y=0
  .subst c
   refine .inr ⟨.inr (Ae x),by rw [Fi]; rfl,?_⟩
   show Ae x=_
   rw [<-k,Nat.gcd_zero_right]
  .have A:(Ae y).length≠0:=fun e=>Hq c (List.length_eq_zero_iff.1 e)
   have l:decide (((Ae y).length:Int)>0)=true:=Al (by omega)
   by_cases h2:Bd x<=2/\Bd y<=2
   .have i:=Alf h2.1
    have h:=Alf h2.2
    unfold Bd at h2
    simp only [l,cond_true,Al (by omega:((Ae x).length:Int)<=2),Al (by omega:((Ae y).length:Int)<=2),Ad,Alg x h2.1,Alg y h2.2]
    refine .inr (Avs (Fb (fun (p,q)=>∃u v:Nat,p=u/\q=v/\u<1000000000000000000/\v<1000000000000000000/\Nat.gcd u v=Nat.gcd m n) (fun (_,q)=>q.toNat) (fun (p,q)=>p=((Nat.gcd m n:Nat):Int)/\Nat.gcd m n<1000000000000000000)
     ⟨x,y,rfl,rfl,i,h,k⟩ ?_ ?_))
    .rintro ⟨p,q⟩ ⟨u,v,rfl,rfl,hu,s,f⟩
     by_cases j:v=0
     .subst j
      refine .inr ⟨((u:Int),(0:Int)),rfl,?_⟩
      rw [Nat.gcd_zero_right] at f
      exact ⟨by rw [f],by omega⟩
     .refine .inl ⟨((v:Int),((u % v:Nat):Int)),?_,⟨v,u % v,rfl,rfl,s,by have:=Nat.mod_lt u (by omega:v>0); omega,?_⟩,?_⟩
      .simp only [Al (by omega:(v:Int)>0),cond_true,Jb (by omega:(0:Int)<=u) (by omega:(0:Int)<v),Ad]; rfl
      .rw [<-f,Nat.gcd_comm v,<-Nat.gcd_rec,Nat.gcd_comm]
      .have:=Nat.mod_lt u (by omega:v>0); simp only [Int.toNat_natCast]; exact this
    .rintro ⟨p,q⟩ ⟨rfl,B⟩
     dsimp only
     rw [Tu _ (by omega)]
     exact ⟨_,rfl,_,rfl,rfl⟩
   .refine .inl ⟨(Ae y,Ae (x % y)),?_,⟨y,x % y,rfl,rfl,hy,by have:=Gn (Nat.mod_le x y); omega,?_⟩,?_⟩
    .have:(bif (decide (((Ae x).length:Int)<=(2:Int))) then some (decide (((Ae y).length:Int)<=(2:Int))) else some false)=some false:=by
      unfold Bd at h2
      by_cases hc:(Ae x).length<=2
      .rw [Al (by omega:((Ae x).length:Int)<=2),cond_true,Aq (by omega:¬((Ae y).length:Int)<=2)]
      .rw [Aq (by omega:¬((Ae x).length:Int)<=2),cond_false]
     simp only [l,cond_true]
     rw [this,Ad,cond_false,Aew x y hx hy c,Ad]
    .rw [<-k,Nat.gcd_comm y,<-Nat.gcd_rec,Nat.gcd_comm]
    .simp only [Eu]
     have:=Nat.mod_lt x (by omega:y>0)
     omega
 .rintro (e | e) g
  .simp only at g ⊢; rw [g]
  .simp only at g ⊢; rw [g]
theorem Wt:Ae 1 = [1]:=by rw [Lq (by decide),show 1 / 1000000000=0 by decide,Fi]; rfl
theorem Aex (n:Nat):Ql (Ae n)=some (decide (n=1)):=by
 unfold Ql
 by_cases h0:n=0
 .subst h0; rw [Fi]; rfl
 .rw [Lq h0]
  by_cases h1:n / 1000000000=0
  .rw [h1,Fi]
   have e:Ag [((n % 1000000000:Nat):Int)] 0=some ((n % 1000000000:Nat):Int):=rfl
   simp only [List.length_singleton,e,Ad]
   have:(((1:Nat):Int)==(1:Int))=true:=rfl
   rw [this,cond_true]
   congr 1
   by_cases b:n=1
   .subst b; rfl
   .rw [Cv (by omega),Aq b]
  .have c:(Ae (n / 1000000000)).length≠0:=fun e=>Hq h1 (List.length_eq_zero_iff.1 e)
   rw [Cv (by simp; omega),cond_false,Aq (by omega)]
def Bt (b:Bool) (n d:Nat):Ak:=if n=0 then ⟨false,[],[1]⟩ else ⟨b,Ae (n / Nat.gcd n d),Ae (d / Nat.gcd n d)⟩
theorem Mq (b:Bool) (n d:Nat) (h:Bd n<274877906944) (hd:Bd d<274877906944):Mh ⟨b,Ae n,Ae d⟩=some (Bt b n d):=by
 unfold Mh Zn
 dsimp only
 by_cases h0:n=0
 .subst h0; rw [Fi]; rfl
 .have i:(Ae n).length≠0:=fun e=>Hq h0 (List.length_eq_zero_iff.1 e)
  rw [Cv (by omega),cond_false,Aex,Ad,Bt,if_neg h0]
  by_cases h1:d=1
  .subst h1
   rw [Al rfl,cond_true]
   simp
  .rw [Aq h1,cond_false,Av5 n d h hd,Ad,Aex,Ad]
   by_cases g:Nat.gcd n d=1
   .rw [Al g,cond_true,g]; simp
   .have f:Nat.gcd n d≠0:=by
     have:=Nat.gcd_pos_of_pos_left d (by omega:0<n); omega
    have c:Bd (Nat.gcd n d)<274877906944:=by
     have:=Gn (Nat.gcd_le_left d (by omega:0<n)); omega
    rw [Aq g,cond_false,Aew n _ h c f,Ad,Aew d _ hd c f,Ad]; rfl
def nv (a:Ak):Nat:=if (Ai a.Num).toNat=0\/(Ai a.Den).toNat=0 then 0 else (Ai a.Num).toNat
def dv (a:Ak):Nat:=if (Ai a.Num).toNat=0\/(Ai a.Den).toNat=0 then 1 else (Ai a.Den).toNat
def sv (a:Ak):Bool:=if (Ai a.Num).toNat=0\/(Ai a.Den).toNat=0 then false else a.Neg
structure RB (k:Nat) (a:Ak):Prop where
 num:J5 a.Num
 den:J5 a.Den
 nl:a.Num.length<=k
 dl:a.Den.length<=k
theorem Av6 {l:List Int} (h:J5 l):Ai l<=5*1000000000 ^ l.length-5:=by
 induction l with
 | nil=>simp [Ai]
 | cons d l ih=>
  have h1:=h d (by simp)
  have h2:=ih (fun x hx=>h x (by simp [hx]))
  simp only [Ai,List.length_cons]
  rw [Int.pow_succ]
  omega
theorem Av7 {l:List Int} (h:J5 l):Ai l<1000000000 ^ (l.length+1):=by
 have h1:=Av6 h
 have hp:=Jd l.length
 rw [Int.pow_succ]
 omega
theorem Aap {l:List Int} (h:J5 l):Bd (Ai l).toNat<=l.length+1:=by
 apply Je
 have h1:=Av7 h
 have h2:=F8 h
 have e:((1000000000 ^ (l.length+1):Nat):Int)=1000000000 ^ (l.length+1):=by rw [Int.natCast_pow]; rfl
 omega
theorem RB.mono {j k:Nat} {a:Ak} (h:RB j a) (hk:j<=k):RB k a:=⟨h.num,h.den,by have:=h.nl; omega,by have:=h.dl; omega⟩
theorem Mr:Bd 1=1:=by unfold Bd; rw [Wt]; rfl
theorem RB.nv {k:Nat} {a:Ak} (h:RB k a):Bd (nv a)<=k+1:=by
 unfold Ab.nv
 split
 .simp [Ws]
 .have:=Aap h.num; have:=h.nl; omega
theorem RB.dv {k:Nat} {a:Ak} (h:RB k a):Bd (dv a)<=k+1:=by
 unfold Ab.dv
 split
 .simp [Mr]
 .have:=Aap h.den; have:=h.dl; omega
theorem E6 (a:Ak):dv a≠0:=by
 unfold dv; split
 .decide
 .omega
theorem O2 (a:Ak) (k:Nat) (h:RB k a) (hk:k<274877906900):Km a=some ⟨sv a,Ae (nv a),Ae (dv a)⟩:=by
 unfold Km
 have h1:=h.nl
 have h2:=h.dl
 rw [Ak9 _ h.num (by omega),Ad,Ak9 _ h.den (by omega),Ad]
 unfold nv dv sv
 generalize (Ai a.Num).toNat=x
 generalize (Ai a.Den).toNat=y
 by_cases hx:x=0
 .subst hx
  simp only [Fi,true_or,if_true,Wt]; rfl
 .have c:(Ae x).length≠0:=fun e=>Hq hx (List.length_eq_zero_iff.1 e)
  by_cases hy:y=0
  .subst hy
   simp only [Fi,or_true,if_true,Wt,Cv (by omega:((Ae x).length:Int)≠0),cond_false]; rfl
  .have b:(Ae y).length≠0:=fun e=>Hq hy (List.length_eq_zero_iff.1 e)
   simp only [hx,hy,or_self,if_false,Cv (by omega:((Ae x).length:Int)≠0),cond_false,Cv (by omega:((Ae y).length:Int)≠0),Ad]
end Go.Ab
namespace Go.Ab
open Go
theorem Aey (a:Ak) (k:Nat) (h:RB k a) (hk:k<274877906900):Nd a=some (Bt (sv a) (nv a) (dv a)):=by
 unfold Nd
 have h1:=h.nv
 have h2:=h.dv
 rw [O2 a k h hk,Ad,Mq _ _ _ (by omega) (by omega)]; rfl
def H4 (s:Bool) (n:Nat):Int:=if n=0 then 0 else if s then -1 else 1
theorem Av8 (s:Bool) (n:Nat) (d:List Int):Va ⟨s,Ae n,d⟩=some (H4 s n):=by
 unfold Va H4
 dsimp only
 by_cases h:n=0
 .subst h; rw [Fi]; rfl
 .have b:(Ae n).length≠0:=fun e=>Hq h (List.length_eq_zero_iff.1 e)
  rw [Cv (by omega),cond_false,if_neg h]
  cases s <;> rfl
theorem Aez (a:Ak) (k:Nat) (h:RB k a) (hk:k<274877906900):F7 a=some (H4 (sv a) (nv a)):=by
 unfold F7
 rw [O2 a k h hk,Ad,Av8]; rfl
theorem Ae0 (z:Int) (h1 : -9223372036854775808<=z) (h2:z<=9223372036854775807):P9 z=some (Ae z.natAbs):=by
 unfold P9
 by_cases h:z<0
 .have e:Ax z=z+18446744073709551616:=by
   have:IntKind.u64.wrap z=z % 18446744073709551616:=by simp [IntKind.wrap,IntKind.bits,IntKind.signed]
   rw [Ax,this]; omega
  have b:Ax (0-(z+18446744073709551616))=((z.natAbs:Nat):Int):=by
   have:IntKind.u64.wrap (0-(z+18446744073709551616))=(0-(z+18446744073709551616)) % 18446744073709551616:=by simp [IntKind.wrap,IntKind.bits,IntKind.signed]
   rw [Ax,this]; omega
  rw [Al h,cond_true,e,b,Tu _ (by omega)]; rfl
 .have b:Ax z=((z.natAbs:Nat):Int):=by rw [Ax,C7 (by omega) (by omega)]; omega
  rw [Aq h,cond_false,b,Tu _ (by omega)]; rfl
theorem Tv (z:Int) (h1 : -9223372036854775808<=z) (h2:z<=9223372036854775807):Ep z=some (Bt (decide (z<0)) z.natAbs 1):=by
 unfold Ep
 have:=Q4 (n:=z.natAbs) (by omega)
 rw [Ae0 z h1 h2,Ad,<-Wt,Mq _ _ _ (by omega) (by rw [Mr]; decide)]; rfl
theorem Av9 (x y:Int) (h1 : -9223372036854775808<=x) (h2:x<=9223372036854775807) (h3 : -9223372036854775808<=y) (b:y<=9223372036854775807) (hy:y≠0):Qw x y=some (Bt (decide (x<0) != decide (y<0)) x.natAbs y.natAbs):=by
 unfold Qw
 have a1:=Q4 (n:=x.natAbs) (by omega)
 have a2:=Q4 (n:=y.natAbs) (by omega)
 rw [Cv hy,cond_false,Ae0 x h1 h2,Ad,Ae0 y h3 b,Ad,Mq _ _ _ (by omega) (by omega)]; rfl
theorem Ae1 (a b:Ak) (j k:Nat) (ha:RB j a) (hb:RB k b) (hj:j<68719476736) (hk:k<68719476736):Gi a b=some (Bt (sv a != sv b) (nv a*nv b) (dv a*dv b)):=by
 unfold Gi
 have h1:=ha.nv
 have h2:=ha.dv
 have h3:=hb.nv
 have g:=hb.dv
 have f:=Gp (nv a) (nv b)
 have c:=Gp (dv a) (dv b)
 rw [O2 a j ha (by omega),Ad,O2 b k hb (by omega),Ad]
 dsimp only
 rw [O0 _ _ (by omega) (by omega),Ad,O0 _ _ (by omega) (by omega),Ad,Mq _ _ _ (by omega) (by omega)]; rfl
def Jg (b:Bool) (g i:Nat) (c:Bool) (f h:Nat):Bool:=if b=c then b else if f*i<=g*h then b else c
def H5 (i:Bool) (c g:Nat) (h:Bool) (b f:Nat):Nat:=if i=h then c*f+b*g else if b*g<=c*f then c*f-b*g else b*g-c*f
theorem Ae2 (a b:Ak) (j k:Nat) (ha:RB j a) (hb:RB k b) (hj:j<68719476736) (hk:k<68719476736) :
  Na a b=some (Bt (Jg (sv a) (nv a) (dv a) (sv b) (nv b) (dv b)) (H5 (sv a) (nv a) (dv a) (sv b) (nv b) (dv b)) (dv a*dv b)):=by
 unfold Na S6
 have h1:=ha.nv
 have h2:=ha.dv
 have h3:=hb.nv
 have s:=hb.dv
 have q:=Gp (nv a) (dv b)
 have l:=Gp (nv b) (dv a)
 have i:=Gp (dv a) (dv b)
 have h:=Ts (nv a*dv b) (nv b*dv a)
 have g:=Gn (Nat.sub_le (nv a*dv b) (nv b*dv a))
 have f:=Gn (Nat.sub_le (nv b*dv a) (nv a*dv b))
 rw [O2 a j ha (by omega),Ad,O2 b k hb (by omega),Ad]
 dsimp only
 rw [O0 _ _ (by omega) (by omega),Ad,O0 _ _ (by omega) (by omega),Ad,O0 _ _ (by omega) (by omega),Ad]
 by_cases c:sv a=sv b
 .have e:(sv a==sv b)=true:=by rw [c]; exact beq_self_eq_true _
  rw [e,cond_true,Alb _ _ (by omega) (by omega),Ad,Ad,Mq _ _ _ (by omega) (by omega),Jg,H5,if_pos c,if_pos c]; rfl
 .have e:(sv a==sv b)=false:=by simpa using c
  rw [e,cond_false,Q5 _ _ (by omega) (by omega),Ad,Jg,H5,if_neg c,if_neg c]
  by_cases hc:nv b*dv a<=nv a*dv b
  .rw [Al (show Eh (nv a*dv b) (nv b*dv a)>=0 by rw [Eh,if_neg (by omega)]; split <;> decide),cond_true,Aam _ _ (by omega) hc,Ad,Ad,Mq _ _ _ (by omega) (by omega),if_pos hc,if_pos hc]; rfl
  .rw [Aq (show ¬Eh (nv a*dv b) (nv b*dv a)>=0 by rw [Eh,if_pos (by omega)]; decide),cond_false,Aam _ _ (by omega) (by omega),Ad,Ad,Mq _ _ _ (by omega) (by omega),if_neg hc,if_neg hc]; rfl
theorem Wu (s:Bool) (d:Nat):Bt s 0 d=⟨false,[],[1]⟩:=by simp [Bt]
theorem Lr (s:Bool) (n d k:Nat) (b:Bd n<=k) (hd:Bd d<=k) (hk:1<=k):RB k (Bt s n d):=by
 unfold Bt
 split
 .refine ⟨(fun _ h=>by cases h),(fun x h=>?_),by simp,by simpa using hk⟩
  simp at h; subst h; decide
 .have h1:=Aeq n (Nat.gcd n d)
  have h2:=Aeq d (Nat.gcd n d)
  unfold Bd at *
  exact ⟨(Ee _).u32,(Ee _).u32,by simp only; omega,by simp only; omega⟩
theorem Wv (s:Bool) (n d:Nat) (hd:d≠0):nv (Bt s n d)=n / Nat.gcd n d/\dv (Bt s n d)=d / Nat.gcd n d/\(n≠0->sv (Bt s n d)=s)/\(n=0->sv (Bt s n d)=false):=by
 by_cases h0:n=0
 .subst h0
  rw [Wu]
  have c:d / Nat.gcd 0 d=1:=by rw [Nat.gcd_zero_left]; exact Nat.div_self (by omega)
  refine ⟨by simp [nv,Ai],?_,fun h=>(h rfl).elim,fun _=>by simp [sv,Ai]⟩
  rw [c]; simp [dv,Ai]
 .have f:0<Nat.gcd n d:=Nat.gcd_pos_of_pos_left d (by omega)
  have h1:n / Nat.gcd n d≠0:=by
   have:=Nat.div_pos (Nat.gcd_le_left d (by omega:0<n)) f; omega
  have h2:d / Nat.gcd n d≠0:=by
   have:=Nat.div_pos (Nat.gcd_le_right n (by omega:0<d)) f; omega
  have e:Bt s n d=⟨s,Ae (n / Nat.gcd n d),Ae (d / Nat.gcd n d)⟩:=by simp [Bt,h0]
  have b:(Ai (Ae (n / Nat.gcd n d))).toNat=n / Nat.gcd n d:=by rw [Eu]; rfl
  have v2:(Ai (Ae (d / Nat.gcd n d))).toNat=d / Nat.gcd n d:=by rw [Eu]; rfl
  rw [e]
  have hc:¬(n / Nat.gcd n d=0\/d / Nat.gcd n d=0):=by omega
  refine ⟨?_,?_,fun _=>?_,fun h=>(h0 h).elim⟩
  .simp only [nv,b,v2,if_neg hc]
  .simp only [dv,b,v2,if_neg hc]
  .simp only [sv,b,v2,if_neg hc]
theorem Q6 (s:Bool) (n d k:Nat) (hk:k≠0):Bt s (k*n) (k*d)=Bt s n d:=by
 unfold Bt
 by_cases h:n=0
 .subst h; simp
 .have h1:k*n≠0:=Nat.mul_ne_zero hk h
  rw [if_neg h1,if_neg h,Nat.gcd_mul_left,Nat.mul_div_mul_left _ _ (by omega),Nat.mul_div_mul_left _ _ (by omega)]
theorem Alh {s t:Bool} {n d:Nat} (h:n≠0->s=t):Bt s n d=Bt t n d:=by
 unfold Bt
 by_cases h0:n=0
 .simp [h0]
 .rw [h h0]
end Go.Ab
namespace Go.Ab
open Go
theorem Ali (l:List Int):I6 l=(I7 l).bind fun v=>Ce 4 [] v:=by
 unfold I6 I7
 generalize Am _ _=x
 cases x with
 | none=>rfl
 | some v=>
  simp only [Ad]
  cases D1 l 0 v with
  | none=>rfl
  | some y=>
   simp only [Ad]
   cases Ce 4 [] y <;> rfl
theorem Awa (l:List Int):(Gm l).length<=l.length:=by
 induction l with
 | nil=>simp [Gm]
 | cons d l ih=>
  simp only [Gm]
  cases ht:Gm l with
  | nil=>simp only []; split <;> simp
  | cons x m=>rw [ht] at ih; simpa using ih
theorem Q7 (l:List Int) (b:l.length<2199023255552):I6 l=some (Gm l):=by
 have:=Awa l
 rw [Ali,Oz l (by omega),Ad,Dj (by simp; omega)]; rfl
theorem Alj (l:List Int) (hd:J5 l) (A:l.length<1099511627776):Sz l=some (Ae (Ai l).toNat):=by
 unfold Sz
 refine Ho (fun (c,i,o)=>∃k:Nat,i=k/\k<=l.length/\o.length=k/\Bw o/\0<=c/\c<5/\Ai o+1000000000 ^ k*c=Ai (l.take k))
  (fun (_,i,_)=>l.length-i.toNat) (fun (c,o)=>o.length=l.length/\Bw o/\0<=c/\c<5/\Ai o+1000000000 ^ l.length*c=Ai l)
  ⟨0,rfl,by omega,rfl,Bw.nil,by omega,by omega,by simp [Ai]⟩ ?_ ?_
 .rintro ⟨c,i,o⟩ ⟨k,rfl,hk,f,b,j,hc,s⟩
  rcases Nat.lt_or_ge k l.length with h | h
  .have hx:=hd l[k] (List.getElem_mem h)
   refine .inl ⟨((c+l[k]) / 1000000000,((k+1:Nat):Int),o++[(c+l[k]) % 1000000000]),?_,⟨k+1,rfl,by omega,by simp [f],b.snoc (by omega) (by omega),by omega,by omega,?_⟩,by simp; omega⟩
   .have y:Ax l[k]=l[k]:=C7 (by omega) (by omega)
    have x:Ax (c+l[k])=c+l[k]:=C7 (by omega) (by omega)
    have q:Cf ((c+l[k]) % 1000000000)=(c+l[k]) % 1000000000:=Ff (by omega) (by omega)
    have e4:=J7 h (by omega)
    have u:decide ((k:Int)<(l.length:Int))=true:=by simpa using h
    simp only [u,cond_true,Dp rfl h,Ad,y,x,Jb (show 0<=c+l[k] by omega) (show (0:Int)<1000000000 by decide),q,Dj (show (o.length+[(c+l[k]) % 1000000000].length)*4<=_ by simp; omega),J4 (show 0<=c+l[k] by omega) (show c+l[k]<=_ by omega) (show (0:Int)<1000000000 by decide),e4]
   .rw [Fg l h,<-s,Jc,f,Int.pow_succ]
    have:=Int.mul_ediv_add_emod (c+l[k]) 1000000000
    grind
  .have g:k=l.length:=by omega
   subst g
   refine .inr ⟨(c,o),by simp,f,b,j,hc,by simpa using s⟩
 .rintro ⟨c,o⟩ ⟨h2,h3,E,D,B⟩
  have z:=F8 hd
  by_cases hc:c>0
  .have q:Cf c=c:=Ff (by omega) (by omega)
   simp only [decide_eq_true hc,cond_true,q,Dj (show (o.length+[c].length)*4<=_ by simp; omega),Ad,Q7 (o++[c]) (by simp; omega)]
   rw [J6 (h3.snoc (by omega) (by omega)) (n:=(Ai l).toNat) (by rw [Jc,h2]; omega)]
  .have:c=0:=by omega
   subst this
   simp only [Int.lt_irrefl,gt_iff_lt,decide_false,cond_false,Q7 o (by omega),Ad]
   rw [J6 h3 (n:=(Ai l).toNat) (by omega)]
theorem Alk (n:Int):M8 n=Nk n:=rfl
theorem Aaq (a b:List Int):Og a b=Qd a b:=rfl
theorem Awb (m d:Nat) (hm:Bd m<1099511627776) (hd:0<d) (b:d<4294967296):Vy (Ae m) d=some (Ae (m / d),((m % d:Nat):Int)):=by
 have h:=Aeu m d hm hd b
 unfold Qq at h
 unfold Vy
 unfold Bd at hm
 rw [Is rfl rfl (Nat.le_refl _) (by omega) (by omega)] at h ⊢
 simp only [Ad] at h ⊢
 revert h
 generalize Am _ _=x
 cases x with
 | none=>intro h; cases h
 | some v=>
  obtain ⟨r,o⟩:=v
  simp only [Ad]
  intro h
  rw [Ali]
  cases ht:I7 o with
  | none=>rw [ht] at h; cases h
  | some y=>
   rw [ht] at h
   simp only [Ad] at h ⊢
   have hy:y=Ae (m / d):=congrArg Prod.fst (Option.some.inj h)
   have:=Aeq m d
   unfold Bd at this
   rw [Dj (by rw [hy]; simp; omega)]
   exact h
theorem Aar (m n:Nat) (hm:Bd m<1099511627776) (G:n<=m):Oh (Ae m) (Ae n)=some (Ae (m-n)):=by
 unfold Oh
 have J:(Ae n).length<=(Ae m).length:=Gn G
 unfold Bd at hm
 rw [Is rfl rfl (Nat.le_refl _) (by omega) (by omega)]
 simp only [Ad]
 have ha:=Ee m
 have hb:=Ee n
 refine Ho (fun (c,i,o)=>∃k:Nat,i=k/\k<=(Ae m).length/\o.length=(Ae m).length/\Bw o/\o.drop k=List.replicate ((Ae m).length-k) 0/\0<=c/\c<=1/\Ai o=Ai ((Ae m).take k)-Ai ((Ae n).take k)+1000000000 ^ k*c)
  (fun (_,i,_)=>(Ae m).length-i.toNat) (fun o=>∃c:Int,o.length=(Ae m).length/\Bw o/\0<=c/\c<=1/\Ai o=(m:Int)-n+1000000000 ^ (Ae m).length*c)
  ⟨0,rfl,by omega,by simp,Bw.replicate _,by simp,by omega,by omega,by simp [Ai,Aah]⟩ ?_ ?_
 .rintro ⟨c,i,o⟩ ⟨k,rfl,hk,E,u,y,M,hc,z⟩
  rcases Nat.lt_or_ge k (Ae m).length with h | h
  .have hx:=ha.get h
   have f:k<o.length:=by omega
   have e4:=J7 h (by omega)
   have R:decide ((k:Int)<((Ae m).length:Int))=true:=Al (by omega)
   have b:o[k]=0:=by
    have:=congrArg List.head? y
    rw [List.head?_drop,B7 f] at this
    have x:(List.replicate ((Ae m).length-k) (0:Int)).head? = some 0:=by
     cases V:(Ae m).length-k with
     | zero=>omega
     | succ t=>rfl
    rw [x] at this
    exact Option.some.inj this
   have key:∀s:Int,0<=s->s<=1000000000->Ai ((Ae m).take (k+1))-Ai ((Ae n).take (k+1))=Ai ((Ae m).take k)-Ai ((Ae n).take k)+1000000000 ^ k*((Ae m)[k]-s+c) ->
     ∃(l d:Int),(bif (decide ((Ae m)[k]>=s)) then (some (Sum.inl (0,((k+1:Nat):Int),(Cr o (k:Int) (Cf ((Ae m)[k]-s)))))) else (some (Sum.inl (1,((k+1:Nat):Int),(Cr o (k:Int) (Cf ((Cf ((Ae m)[k]+1000000000))-s)))))):Option ((Int×Int×List Int)⊕List Int))=some (.inl (l,((k+1:Nat):Int),o.set k d)) /\
      (∃q:Nat,((k+1:Nat):Int)=q/\q<=(Ae m).length/\(o.set k d).length=(Ae m).length/\Bw (o.set k d)/\(o.set k d).drop q=List.replicate ((Ae m).length-q) 0/\0<=l/\l<=1/\Ai (o.set k d)=Ai ((Ae m).take q)-Ai ((Ae n).take q)+1000000000 ^ q*l):=by
    intro s h1 h2 g
    have j:∀d:Int,(o.set k d).drop (k+1)=List.replicate ((Ae m).length-(k+1)) 0:=by
     intro d
     rw [List.drop_set_of_lt (by omega),<-List.drop_drop,y,List.drop_replicate]; congr 1
    by_cases N:(Ae m)[k]>=s
    .have A:Cf ((Ae m)[k]-s)=(Ae m)[k]-s:=Ff (by omega) (by omega)
     refine ⟨0,(Ae m)[k]-s,by rw [Al N,cond_true,A,Fq rfl],k+1,rfl,by omega,by simpa using E,u.set _ (by omega) (by omega),j _,by omega,by omega,?_⟩
     rw [Ku _ f,b,g,z]; grind
    .have A:Cf ((Ae m)[k]+1000000000)=(Ae m)[k]+1000000000:=Ff (by omega) (by omega)
     have U:Cf ((Ae m)[k]+1000000000-s)=(Ae m)[k]+1000000000-s:=Ff (by omega) (by omega)
     refine ⟨1,(Ae m)[k]+1000000000-s,by rw [Aq N,cond_false,A,U,Fq rfl],k+1,rfl,by omega,by simpa using E,u.set _ (by omega) (by omega),j _,by omega,by omega,?_⟩
     rw [Ku _ f,b,g,z,Int.pow_succ]; grind
   refine .inl ?_
   rcases Nat.lt_or_ge k (Ae n).length with hb' | hb'
   .have hy:=hb.get hb'
    have S:Cf (c+(Ae n)[k])=c+(Ae n)[k]:=Ff (by omega) (by omega)
    obtain ⟨l,d,D,B⟩:=key (c+(Ae n)[k]) (by omega) (by omega) (by rw [Fg _ h,Fg _ hb']; grind)
    refine ⟨(l,((k+1:Nat):Int),o.set k d),?_,B,by simp; omega⟩
    rw [<-D]
    simp only [R,cond_true,Dp rfl h,Dp rfl f,Ad,Al (by omega:(k:Int)<((Ae n).length:Int)),Dp rfl hb',S,e4]
   .obtain ⟨l,d,D,B⟩:=key c (by omega) (by omega) (by rw [Fg _ h,Iv (Ae n) hb',Iv (Ae n) (by omega)]; grind)
    refine ⟨(l,((k+1:Nat):Int),o.set k d),?_,B,by simp; omega⟩
    rw [<-D]
    simp only [R,cond_true,Dp rfl h,Dp rfl f,Ad,Aq (by omega:¬(k:Int)<((Ae n).length:Int)),cond_false,e4]
  .have L:k=(Ae m).length:=by omega
   subst L
   refine .inr ⟨o,by simp,c,E,u,M,hc,?_⟩
   rw [List.take_length,Iv _ J,Eu,Eu] at z
   exact z
 .rintro o ⟨c,h2,h3,Z,Y,X⟩
  have I:=It h3
  rw [h2] at I
  have hp:=Jd (Ae m).length
  have:c=0:=by
   rcases Int.lt_or_le 0 c with hc | hc
   .have:c=1:=by omega
    subst this
    omega
   .omega
  subst this
  rw [Q7 o (by omega),Ad,J6 h3 (n:=m-n) (by omega)]
end Go.Ab
namespace Go.Ab
open Go
theorem Awc {o:List Int} {k n:Nat} (hk:k<o.length) (h:o.drop k=List.replicate n 0):o[k]=0:=by
 have:=congrArg List.head? h
 rw [List.head?_drop,B7 hk] at this
 cases n with
 | zero=>simp at this
 | succ t=>exact Option.some.inj this
theorem cl1 {o X K c s x y A w:Int} (f:c+x+w=s) (hw:w=y*A) (b:1000000000*(s / 1000000000)+s % 1000000000=s) (z V:Int) (h:o+X*K*c=z+X*(y*V)):o+X*K*(s % 1000000000-x)+X*K*1000000000*(s / 1000000000)=z+X*(y*(V+K*A)):=by grind
set_option maxHeartbeats 1000000 in
theorem Aas (m n:Nat) (hm:Bd m<274877906944) (hn:Bd n<274877906944):Mj (Ae m) (Ae n)=some (Ae (m*n)):=by
  unfold Mj
  unfold Bd at hm hn
  have hw:Ac (((Ae m).length:Int)+((Ae n).length:Int))=(((Ae m).length+(Ae n).length:Nat):Int):=by rw [Ac,Bx] <;> omega
  have M:Ac ((((Ae m).length+(Ae n).length:Nat):Int)+1)=(((Ae m).length+(Ae n).length+1:Nat):Int):=by rw [Ac,Bx] <;> omega
  rw [hw,M,Is rfl rfl (Nat.le_refl _) (by omega) (by omega)]
  simp only [Ad]
  have ha:=Ee m
  have hb:=Ee n
  have D:Ai (Ae n)=n:=Eu n
  generalize Ae n=b at *
  generalize hL:b.length=L at *
  refine Ho (fun (i,o)=>∃k:Nat,i=k/\k<=(Ae m).length/\o.length=(Ae m).length+L+1/\Bw o/\o.drop (k+L)=List.replicate ((Ae m).length+1-k) 0/\Ai o=Ai ((Ae m).take k)*n)
    (fun (i,_)=>(Ae m).length-i.toNat) (fun o=>o.length=(Ae m).length+L+1/\Bw o/\Ai o=((m*n:Nat):Int))
    ⟨0,rfl,by omega,by simp,Bw.replicate _,by rw [List.drop_replicate]; congr 1; omega,by simp [Aah,Ai]⟩ ?_ ?_
  . rintro ⟨i,o⟩ ⟨k,rfl,hk,ho,G,U,N⟩
    rcases Nat.lt_or_ge k (Ae m).length with h | h
    . have hx:=ha.get h
      have e4:=J7 h (by omega)
      have e5:decide ((k:Int)<((Ae m).length:Int))=true:=Al (by omega)
      simp only [e5,cond_true]
      have X:Ag (Ae m) (k:Int)=some (Ae m)[k]:=Dp rfl h
      generalize J:(Ae m)[k]=x at *
      refine .inl (Aae (Fb (fun (c,j,o')=>∃q:Nat,j=q/\o'.length=(Ae m).length+L+1/\Bw o'/\0<=c/\c<1000000000 /\
          ((q<=L/\o'.drop (k+L)=List.replicate ((Ae m).length+1-k) 0/\Ai o' + 1000000000 ^ (k+q)*c=Ai o+1000000000 ^ k*(x*Ai (b.take q))) \/
           (q=L+1/\c=0/\o'.drop (k+1+L)=List.replicate ((Ae m).length+1-(k+1)) 0/\Ai o'=Ai o+1000000000 ^ k*(x*n))))
        (fun (_,j,_)=>L+1-j.toNat) (fun (c,j,o')=>o'.length=(Ae m).length+L+1/\Bw o'/\o'.drop (k+1+L)=List.replicate ((Ae m).length+1-(k+1)) 0/\Ai o'=Ai o+1000000000 ^ k*(x*n))
        ⟨0,rfl,ho,G,by omega,by omega,.inl ⟨by omega,U,by simp [Ai]⟩⟩ ?_ ?_))
      . rintro ⟨c,j,o'⟩ ⟨q,rfl,u,g,A,hc,hq⟩
        rcases hq with ⟨hq,f,l⟩ | ⟨rfl,rfl,f,l⟩
        . have e8:Ac ((k:Int)+(q:Int))=((k+q:Nat):Int):=by rw [Ac,Bx] <;> omega
          have e6:Ac ((q:Int)+1)=((q+1:Nat):Int):=J7 (Nat.lt_succ_self q) (by omega)
          have y:k+q<o'.length:=by omega
          have a1:=g.get y
          have w4:Ax o'[k+q]=o'[k+q]:=C7 (by omega) (by omega)
          have w5:Ax (c+o'[k+q])=c+o'[k+q]:=C7 (by omega) (by omega)
          have p1:(1000000000:Int) ^ (k+(q+1))=1000000000 ^ (k+q)*1000000000:=by rw [<-Nat.add_assoc,Int.pow_succ]
          have Z:(1000000000:Int) ^ (k+q)=1000000000 ^ k*1000000000 ^ q:=Int.pow_add ..
          rcases Nat.lt_or_ge q L with hq' | hq'
          . have B:q<b.length:=by omega
            have hy:=hb.get B
            have a6:=Aan hx.1 hx.2 hy.1 hy.2
            have w1:Ax x=x:=C7 (by omega) (by omega)
            have w2:Ax b[q]=b[q]:=C7 (by omega) (by omega)
            have w3:Ax (x*b[q])=x*b[q]:=C7 (by omega) (by omega)
            have Y:Ax (c+o'[k+q]+x*b[q])=c+o'[k+q]+x*b[q]:=C7 (by omega) (by omega)
            generalize hs:c+o'[k+q]+x*b[q]=s at Y
            have E:0<=s:=by omega
            have a7:s<1000000000000000000:=by omega
            have w7:Cf (s % 1000000000)=s % 1000000000:=Ff (by omega) (by omega)
            refine .inl ⟨(s / 1000000000,((q+1:Nat):Int),o'.set (k+q) (s % 1000000000)),?_,⟨q+1,rfl,by simpa using u,g.set _ (by omega) (by omega),by omega,by omega,.inl ⟨by omega,?_,?_⟩⟩,by simp; omega⟩
            . simp only [Al (by omega:(q:Int)<(L:Int)),cond_true,Ad,e8,Dp rfl y,X,Dp rfl B,w1,w2,w3,w4,w5,hs,Y,Jb E (show (0:Int)<1000000000 by decide),J4 E (show s<=_ by omega) (show (0:Int)<1000000000 by decide),w7,e6,Fq rfl]
            . rw [List.drop_set_of_lt (by omega)]; exact f
            . rw [Ku _ y,Fg _ B,p1,Z]
              rw [Z] at l
              exact cl1 hs rfl (Int.mul_ediv_add_emod s 1000000000) _ _ l
          . have R:q=L:=by omega
            subst R
            by_cases V:c>0
            . have z:o'[k+q]=0:=Awc y f
              refine .inl ⟨(0,((q+1:Nat):Int),o'.set (k+q) c),?_,⟨q+1,rfl,by simpa using u,g.set _ (by omega) (by omega),by omega,by omega,.inr ⟨rfl,rfl,?_,?_⟩⟩,by simp⟩
              . have w8:Cf c=c:=Ff (by omega) (by omega)
                have w9:Ax c=c:=C7 (by omega) (by omega)
                simp only [Aq (by omega:¬(q:Int)<(q:Int)),cond_false,Al V,cond_true,Ad,e8,Dp rfl y,z,show Ax (0:Int)=0 from rfl,Int.add_zero,w9,Jb A (show (0:Int)<1000000000 by decide),J4 A (show c<=_ by omega) (show (0:Int)<1000000000 by decide),Int.emod_eq_of_lt A hc,Int.ediv_eq_zero_of_lt A hc,w8,e6,Fq rfl]
              . rw [List.drop_set_of_lt (by omega),show k+1+q=(k+q)+1 by omega,<-List.drop_drop,f,List.drop_replicate]; congr 1
              . rw [Ku _ y,z,Int.sub_zero]
                rw [List.take_of_length_le (by omega),D] at l
                omega
            . have I:c=0:=by omega
              subst I
              refine .inr ⟨(0,(q:Int),o'),?_,u,g,?_,?_⟩
              . simp only [Aq (by omega:¬(q:Int)<(q:Int)),cond_false,Ad,show decide ((0:Int)>0)=false from rfl]
              . rw [show k+1+q=(k+q)+1 by omega,<-List.drop_drop,f,List.drop_replicate]; congr 1
              . rw [List.take_of_length_le (by omega),D] at l
                omega
        . refine .inr ⟨(0,((L+1:Nat):Int),o'),?_,u,g,f,l⟩
          simp only [Aq (by omega:¬((L+1:Nat):Int)<(L:Int)),cond_false,Ad,show decide ((0:Int)>0)=false from rfl]
      . rintro ⟨c,j,o'⟩ ⟨u,g,f,l⟩
        refine ⟨_,by simp only [e4],(((k+1:Nat):Int),o'),rfl,⟨k+1,rfl,by omega,u,g,f,?_⟩,by simp; omega⟩
        rw [l,Fg _ h,Int.add_mul,<-N,J]; grind
    . have S:k=(Ae m).length:=by omega
      subst S
      refine .inr ⟨o,by simp,ho,G,?_⟩
      rw [List.take_length,Eu] at N
      rw [N]; simp
  . rintro o ⟨h2,h3,h4⟩
    rw [Q7 o (by omega),Ad,J6 h3 h4]
theorem Awd (m n:Nat) (hm:Bd m<274877906944) (U:Bd n<274877906944):Zm (Ae m) (Ae n)=some (Ae (m+n)):=by
 unfold Zm
 unfold Bd at hm U
 have ha:=Ee m
 have hb:=Ee n
 have I:Ai (Ae m)=m:=Eu m
 have G:Ai (Ae n)=n:=Eu n
 have L:=Aal (n:=m)
 have J:=Aal (n:=n)
 generalize Ae m=a at *
 generalize Ae n=b at *
 generalize Z:max a.length b.length=M
 refine Ho (fun (c,i,o)=>∃k:Nat,i=k/\o.length=k/\Bw o/\0<=c/\c<=1/\((k<=M/\Ai o+1000000000 ^ k*c=Ai (a.take k)+Ai (b.take k))\/(k=M+1/\c=0/\Ai o=m+n/\1000000000 ^ M<=Ai o)))
  (fun (_,i,_)=>M+1-i.toNat) (fun o=>Bw o/\Ai o=m+n/\(o≠[]->1000000000 ^ (o.length-1)<=Ai o))
  ⟨0,rfl,rfl,Bw.nil,by omega,by omega,.inl ⟨by omega,by simp [Ai]⟩⟩ ?_ ?_
 .rintro ⟨c,i,o⟩ ⟨k,rfl,l,h,X,hc,hk⟩
  rcases hk with ⟨hk,x⟩ | ⟨rfl,rfl,x,hp⟩
  .have e4:Ac ((k:Int)+1)=((k+1:Nat):Int):=J7 (Nat.lt_succ_self k) (by omega)
   have step:∀s:Int,0<=s->s<2000000000 ->
     ((Ft .u32 s 1000000000).bind fun D=>(Ge s 1000000000).bind fun B=>(Ce 4 o [B]).bind fun E=>some (Sum.inl (D,(Ac ((k:Int)+1)),E)))=some (Sum.inl (s / 1000000000,((k+1:Nat):Int),o++[s % 1000000000]):(Int×Int×List Int)⊕List Int):=by
    intro s h1 h2
    rw [Aeo h1 (by omega) (by decide),Ad,Jb h1 (by decide),Ad,Dj (by simp; omega),Ad,e4]
   have g:∀s:Int,0<=s->s<2000000000->k<M->Ai (a.take (k+1))+Ai (b.take (k+1))=Ai (a.take k)+Ai (b.take k)+1000000000 ^ k*(s-c) ->
     (∃q:Nat,((k+1:Nat):Int)=q/\(o++[s % 1000000000]).length=q/\Bw (o++[s % 1000000000])/\0<=s / 1000000000/\s / 1000000000<=1/\((q<=M/\Ai (o++[s % 1000000000])+1000000000 ^ q*(s / 1000000000)=Ai (a.take q)+Ai (b.take q))\/(q=M+1/\s / 1000000000=0/\Ai (o++[s % 1000000000])=m+n/\1000000000 ^ M<=Ai (o++[s % 1000000000])))):=by
    intro s h1 h2 y u
    refine ⟨k+1,rfl,by simp [l],h.snoc (by omega) (by omega),by omega,by omega,.inl ⟨by omega,?_⟩⟩
    rw [u,<-x,Jc,l,Int.pow_succ]
    have:=Int.mul_ediv_add_emod s 1000000000
    grind
   by_cases j:k<a.length
   .have hx:=ha.get j
    have S:Cf (c+a[k])=c+a[k]:=Ff (by omega) (by omega)
    by_cases f:k<b.length
    .have hy:=hb.get f
     have A:Cf (c+a[k]+b[k])=c+a[k]+b[k]:=Ff (by omega) (by omega)
     refine .inl ⟨((c+a[k]+b[k]) / 1000000000,((k+1:Nat):Int),o++[(c+a[k]+b[k]) % 1000000000]),?_,g (c+a[k]+b[k]) (by omega) (by omega) (by omega) (by rw [Fg a j,Fg b f]; grind),by simp; omega⟩
     rw [<-step (c+a[k]+b[k]) (by omega) (by omega)]
     simp only [Al (by omega:(k:Int)<(a.length:Int)),Al (by omega:(k:Int)<(b.length:Int)),cond_true,Ad,Dp rfl j,Dp rfl f,S,A]
    .refine .inl ⟨((c+a[k]) / 1000000000,((k+1:Nat):Int),o++[(c+a[k]) % 1000000000]),?_,g (c+a[k]) (by omega) (by omega) (by omega) (by rw [Fg a j,Iv b (by omega),Iv b (by omega)]; grind),by simp; omega⟩
     rw [<-step (c+a[k]) (by omega) (by omega)]
     simp only [Al (by omega:(k:Int)<(a.length:Int)),Aq (by omega:¬(k:Int)<(b.length:Int)),cond_true,cond_false,Ad,Dp rfl j,S]
   .by_cases f:k<b.length
    .have hy:=hb.get f
     have A:Cf (c+b[k])=c+b[k]:=Ff (by omega) (by omega)
     refine .inl ⟨((c+b[k]) / 1000000000,((k+1:Nat):Int),o++[(c+b[k]) % 1000000000]),?_,g (c+b[k]) (by omega) (by omega) (by omega) (by rw [Fg b f,Iv a (by omega),Iv a (by omega)]; grind),by simp; omega⟩
     rw [<-step (c+b[k]) (by omega) (by omega)]
     simp only [Aq (by omega:¬(k:Int)<(a.length:Int)),Al (by omega:(k:Int)<(b.length:Int)),cond_true,cond_false,Ad,Dp rfl f,A]
    .have y:k=M:=by omega
     subst y
     rw [Iv a (by omega),Iv b (by omega),I,G] at x
     by_cases Y:c>0
     .have R:c=1:=by omega
      subst R
      refine .inl ⟨((1:Int) / 1000000000,((k+1:Nat):Int),o++[(1:Int) % 1000000000]),?_,⟨k+1,rfl,by simp [l],h.snoc (by decide) (by decide),by decide,by decide,.inr ⟨rfl,rfl,?_,?_⟩⟩,by simp⟩
      .rw [<-step 1 (by omega) (by omega)]
       simp only [Aq (by omega:¬(k:Int)<(a.length:Int)),Aq (by omega:¬(k:Int)<(b.length:Int)),cond_false,Ad,show decide ((1:Int)>0)=true from rfl,cond_true]
      .rw [Jc,l]; exact x
      .rw [Jc,l,show (1:Int) % 1000000000=1 from rfl]
       have:=F8 h.u32
       omega
     .have z:c=0:=by omega
      subst z
      refine .inr ⟨o,?_,h,by omega,fun N=>?_⟩
      .simp only [Aq (by omega:¬(k:Int)<(a.length:Int)),Aq (by omega:¬(k:Int)<(b.length:Int)),cond_false,Ad,show decide ((0:Int)>0)=false from rfl]
      .have V:k≠0:=by
        intro e; rw [e] at l; exact N (List.length_eq_zero_iff.1 l)
       rcases Nat.le_total a.length b.length with hab | hab
       .have:k=b.length:=by omega
        have h1:=J (by intro e; rw [e] at this; simp at this; omega)
        rw [l,this]; omega
       .have:k=a.length:=by omega
        have h1:=L (by intro e; rw [e] at this; simp at this; omega)
        rw [l,this]; omega
  .refine .inr ⟨o,?_,h,x,fun _=>by rw [l]; simpa using hp⟩
   simp only [Aq (by omega:¬((M+1:Nat):Int)<(a.length:Int)),Aq (by omega:¬((M+1:Nat):Int)<(b.length:Int)),cond_false,Ad,show decide ((0:Int)>0)=false from rfl]
 .rintro o ⟨h1,h2,h3⟩
  congr 1
  exact Aaj (Aet h1 h3) (by rw [h2]; simp)
end Go.Ab
