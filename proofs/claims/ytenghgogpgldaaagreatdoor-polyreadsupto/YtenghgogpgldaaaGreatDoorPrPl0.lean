/- Plain laws: what the plain functions answer. -/
import Derived.Test.YtenghgogpgldaaaGreatDoorPrDef
namespace Go.Ab
open Go
theorem Ah {α β:Type} (a:α) (f:α->Option β):(some a).bind f=f a:=rfl
theorem Ci {α:Type} {l:List α} {i:Nat} (h:i<l.length):l[i]? = some l[i]:=List.getElem?_eq_getElem h
theorem lmo {α:Type} {l:List α} {i:Nat} {a:α} (h:l[i]? = some a):a∈l:=List.mem_of_getElem? h
theorem bae (a b:Bool):((a&&b)=true)=(a=true/\b=true):=Bool.and_eq_true a b
theorem bnt:(!true)=false:=rfl
theorem E8 {S E R:Type} {step:S->Option (S⊕E)} {s:S} {J:E->Option R} {r:R} (c:S->Prop) (m:S->Nat) (b:E->Prop) (h0:c s)
  (f:∀s,c s->(∃g,step s=some (.inl g)/\c g/\m g<m s)\/(∃e,step s=some (.inr e)/\b e)) (h:∀e,b e->J e=some r):(Aj step s).bind J=some r:=by
 obtain ⟨e,h1,h2⟩:=T8 c m b f s h0
 rw [h1]; exact h e h2
theorem Eh {S E R:Type} {step:S->Option (S⊕E)} {s:S} {J:E->Option R} {Q:R->Prop} (c:S->Prop) (m:S->Nat) (b:E->Prop) (h0:c s)
  (f:∀s,c s->(∃g,step s=some (.inl g)/\c g/\m g<m s)\/(∃e,step s=some (.inr e)/\b e)) (h:∀e,b e->∃r,J e=some r/\Q r):∃r,(Aj step s).bind J=some r/\Q r:=by
 obtain ⟨e,h1,h2⟩:=T8 c m b f s h0
 rw [h1]; exact h e h2
theorem Mi {S E:Type} {X:Option (S⊕E)} {Q:S->Prop} (h:∃r,X=some r/\∃b,r = .inl b/\Q b):∃b,X=some (.inl b)/\Q b:=by
 obtain ⟨r,h1,b,rfl,h2⟩:=h
 exact ⟨b,h1,h2⟩
theorem Aho {S E:Type} {X:Option (S⊕E)} {Q:E->Prop} (h:∃r,X=some r/\∃e,r = .inr e/\Q e):∃e,X=some (.inr e)/\Q e:=by
 obtain ⟨r,h1,b,rfl,h2⟩:=h
 exact ⟨b,h1,h2⟩
theorem Cd {n:Int} (h1 : -9223372036854775808<=n) (h2:n<=9223372036854775807):IntKind.i64.wrap n=n:=by
 have e:IntKind.i64.wrap n=if 9223372036854775808<=n % 18446744073709551616 then n % 18446744073709551616-18446744073709551616 else n % 18446744073709551616:=by
  simp [IntKind.wrap,IntKind.bits,IntKind.signed]
 rw [e]; split <;> omega
theorem B2 {n:Int} (h1:0<=n) (h2:n<=18446744073709551615):IntKind.u64.wrap n=n:=by
 have e:IntKind.u64.wrap n=n % 18446744073709551616:=by simp [IntKind.wrap,IntKind.bits,IntKind.signed]
 rw [e]; omega
theorem Dg {n:Int} (h1:0<=n) (h2:n<=4294967295):IntKind.u32.wrap n=n:=by
 have e:IntKind.u32.wrap n=n % 4294967296:=by simp [IntKind.wrap,IntKind.bits,IntKind.signed]
 rw [e]; omega
theorem Cj {α:Type} {l:List α} {i:Int} {n:Nat} (b:i=n) (h:n<l.length):Ag l i=some l[n]:=by
 subst b; simp [Ag,h]
theorem Fs {α:Type} {l:List α} {i:Int} {n:Nat} {x:α} (b:i=n) (h:l[n]? = some x):Ag l i=some x:=by
 subst b; simp [Ag,h]
theorem E9 {α:Type} {l:List α} {i:Int} {n:Nat} (b:i=n) (x:α):Ch l i x=l.set n x:=by
 subst b; simp [Ch]
theorem Ft {α:Type} {b:Nat} {xs ys:List α} (h:(xs.length+ys.length)*b<=140737488355328):B1 b xs ys=some (xs++ys):=by
 simp [B1,h]
theorem Ir {α:Type} {b:Nat} {len f:Int} {z:α} {n c:Nat} (h1:len=n) (h2:f=c) (h3:n<=c) (g:b*c<=281474976710656) (h:c<=140737488355328):Dp b len f z=some (List.replicate n z):=by
 subst h1; subst h2
 have a1:(0:Int)<=(n:Int):=by omega
 have a2:(n:Int)<=(c:Int):=by omega
 have a3:(c:Int)<=140737488355328:=by omega
 simp [Dp,a2,a3,g]
theorem Wm {α:Type} {b:Nat} {f:Int} {z:α} {c:Nat} (h2:f=c) (h:b*c<=281474976710656) (g:c<=140737488355328):Dp b 0 f z=some []:=by
 exact Ir (len:=0) (n:=0) (c:=c) rfl h2 (by omega) h g
theorem Dw {a b:Int} (h:a≠b):(a==b)=false:=by simpa using h
theorem Hk {a b:Int} (h:a=b):(a==b)=true:=by simpa using h
theorem Dx {a b:Int} (h:a≠b):(a != b)=true:=by simpa using h
theorem D8 {a b:Int} (h:a=b):(a != b)=false:=by simpa using h
theorem Be {p:Prop} [Decidable p] (h:p):decide p=true:=decide_eq_true h
theorem Bo {p:Prop} [Decidable p] (h:¬p):decide p=false:=decide_eq_false h
theorem Abi {α:Type} {l:List α} {b:Int} {n:Nat} (h:b=n) (c:n<=l.length):E2 l 0 b=some (l.take n):=by
 subst h
 have:(n:Int)<=(l.length:Int):=by omega
 simp [E2,this]
theorem F9 {a b:Int} (ha:0<=a) (hb:0<b):D2 a b=some (a % b):=by
 have:b≠0:=by omega
 simp [D2,this,Int.tmod_eq_emod_of_nonneg ha]
theorem Gl {a b:Int} (ha:0<=a) (c:a<=18446744073709551615) (hb:0<b):Dq .u64 a b=some (a / b):=by
 have:b≠0:=by omega
 have h1:0<=a / b:=Int.ediv_nonneg ha (by omega)
 have h2:a / b<=a:=Int.ediv_le_self _ ha
 simp [Dq,this,Int.tdiv_eq_ediv_of_nonneg ha]
 exact B2 h1 (by omega)
theorem Wn {a b:Int} (ha:0<=a) (c:a<=4294967295) (hb:0<b):Dq .u32 a b=some (a / b):=by
 have:b≠0:=by omega
 have h1:0<=a / b:=Int.ediv_nonneg ha (by omega)
 have h2:a / b<=a:=Int.ediv_le_self _ ha
 simp [Dq,this,Int.tdiv_eq_ediv_of_nonneg ha]
 exact Dg h1 (by omega)
def Ae:List Int->Int
 | []=>0
 | d::l=>d+1000000000*Ae l
def A6 (l:List Int):Prop:=∀d∈l,0<=d/\d<1000000000
def Gz (l:List Int):Prop:=∀d∈l,0<=d/\d<4294967296
def Can (l:List Int):Prop:=A6 l/\∀h:l≠[],l.getLast h≠0
def Ad (n:Nat):List Int:=if h:n=0 then [] else ((n % 1000000000:Nat):Int)::Ad (n / 1000000000)
termination_by n
decreasing_by exact Nat.div_lt_self (by omega) (by decide)
theorem Di:Ad 0 = []:=by rw [Ad]; simp
theorem Hm {n:Nat} (h:n≠0):Ad n=((n % 1000000000:Nat):Int)::Ad (n / 1000000000):=by rw [Ad]; simp [h]
theorem A6.nil:A6 []:=fun _ h=>by cases h
theorem A6.append {l m:List Int} (h:A6 l) (h':A6 m):A6 (l++m):=by
 intro d hd
 rcases List.mem_append.1 hd with hd | hd
 .exact h d hd
 .exact h' d hd
theorem A6.one {d:Int} (h:0<=d) (h':d<1000000000):A6 [d]:=by
 intro x hx; simp at hx; subst hx; exact ⟨h,h'⟩
theorem A6.snoc {l:List Int} {d:Int} (h:A6 l) (hd:0<=d) (b:d<1000000000):A6 (l++[d]):=h.append (A6.one hd b)
theorem A6.take {l:List Int} (h:A6 l) (k:Nat):A6 (l.take k):=fun d hd=>h d (List.mem_of_mem_take hd)
theorem A6.drop {l:List Int} (h:A6 l) (k:Nat):A6 (l.drop k):=fun d hd=>h d (List.mem_of_mem_drop hd)
theorem A6.get {l:List Int} (h:A6 l) {i:Nat} (b:i<l.length):0<=l[i]/\l[i]<1000000000:=h _ (List.getElem_mem b)
theorem A6.set {l:List Int} (h:A6 l) (i:Nat) {d:Int} (hd:0<=d) (b:d<1000000000):A6 (l.set i d):=by
 intro x hx
 rcases List.mem_or_eq_of_mem_set hx with hx | rfl
 .exact h x hx
 .exact ⟨hd,b⟩
theorem A6.replicate (n:Nat):A6 (List.replicate n 0):=by
 intro d hd
 have:=List.eq_of_mem_replicate hd
 subst this; decide
theorem A6.tail {d:Int} {l:List Int} (h:A6 (d::l)):A6 l:=fun x hx=>h x (by simp [hx])
theorem A6.u32 {l:List Int} (h:A6 l):Gz l:=fun d hd=>by have:=h d hd; omega
theorem Abj (l m:List Int):Ae (l++m)=Ae l+1000000000 ^ l.length*Ae m:=by
 induction l with
 | nil=>simp [Ae]
 | cons d l ih=>simp only [List.cons_append,Ae,ih,List.length_cons,Int.pow_succ]; grind
theorem Ga (l:List Int) (d:Int):Ae (l++[d])=Ae l+1000000000 ^ l.length*d:=by rw [Abj]; simp [Ae]
theorem Dh (l:List Int) {k:Nat} (h:k<l.length):Ae (l.take (k+1))=Ae (l.take k)+1000000000 ^ k*l[k]:=by
 rw [List.take_succ_eq_append_getElem h,Ga]
 simp [Nat.min_eq_left (Nat.le_of_lt h)]
theorem Rp (n:Nat):Ae (List.replicate n 0)=0:=by
 induction n with
 | zero=>rfl
 | succ n ih=>simp [List.replicate_succ,Ae,ih]
theorem H7 (l:List Int) (k:Nat) (h:k<=l.length):Ae l=Ae (l.take k)+1000000000 ^ k*Ae (l.drop k):=by
 have e:=Abj (l.take k) (l.drop k)
 rw [List.take_append_drop] at e
 rw [e,List.length_take,Nat.min_eq_left h]
theorem G0 (l:List Int) {i:Nat} (h:i<l.length) (d:Int):Ae (l.set i d)=Ae l+1000000000 ^ i*(d-l[i]):=by
 induction l generalizing i with
 | nil=>simp at h
 | cons x l ih=>
  cases i with
  | zero=>simp [Ae]; omega
  | succ i=>
   have b:i<l.length:=by simpa using h
   simp only [List.set_cons_succ,Ae,ih b,List.getElem_cons_succ,Int.pow_succ]
   grind
theorem Dy {l:List Int} (h:Gz l):0<=Ae l:=by
 induction l with
 | nil=>simp [Ae]
 | cons d l ih=>
  have h1:=h d (by simp)
  have h2:=ih (fun x hx=>h x (by simp [hx]))
  simp only [Ae]; omega
theorem Gb (n:Nat):(0:Int)<1000000000 ^ n:=Int.pow_pos (by decide)
theorem Fu {l:List Int} (h:A6 l):Ae l<1000000000 ^ l.length:=by
 induction l with
 | nil=>simp [Ae]
 | cons d l ih=>
  have h1:=h d (by simp)
  have h2:=ih h.tail
  simp only [Ae,List.length_cons,Int.pow_succ]
  omega
theorem C5 (n:Nat):Ae (Ad n)=n:=by
 induction n using Nat.strongRecOn with
 | _ n ih=>
  by_cases h:n=0
  .subst h; rw [Di]; rfl
  .rw [Hm h,Ae,ih (n / 1000000000) (Nat.div_lt_self (by omega) (by decide))]
   omega
theorem Cu (n:Nat):A6 (Ad n):=by
 induction n using Nat.strongRecOn with
 | _ n ih=>
  by_cases h:n=0
  .subst h; rw [Di]; exact A6.nil
  .rw [Hm h]
   intro d hd
   simp at hd
   rcases hd with rfl | hd
   .omega
   .exact ih (n / 1000000000) (Nat.div_lt_self (by omega) (by decide)) d hd
theorem E3 {n:Nat} (h:n≠0):Ad n≠[]:=by rw [Hm h]; simp
theorem Rq (n:Nat):Can (Ad n):=by
 refine ⟨Cu n,?_⟩
 induction n using Nat.strongRecOn with
 | _ n ih=>
  intro b
  have h:n≠0:=fun e=>b (by rw [e]; exact Di)
  have hc:=Hm h
  by_cases h2:n / 1000000000=0
  .have c:Ad n = [((n % 1000000000:Nat):Int)]:=by rw [hc,h2,Di]
   simp only [c,List.getLast_singleton]
   omega
  .have:=ih (n / 1000000000) (Nat.div_lt_self (by omega) (by decide)) (E3 h2)
   simp only [hc]
   rwa [List.getLast_cons (E3 h2)]
theorem Wo {l:List Int} (h:Can l):Ad (Ae l).toNat=l:=by
 induction l with
 | nil=>exact Di
 | cons d l ih=>
  obtain ⟨h1,h2⟩:=h
  have hd:=h1 d (by simp)
  have g:Can l:=by
   refine ⟨h1.tail,fun b=>?_⟩
   have:=h2 (by simp)
   rwa [List.getLast_cons b] at this
  have f:=Dy (h1.tail).u32
  have b:(Ae (d::l)).toNat≠0:=by
   intro e
   simp only [Ae] at e
   have c:d=0:=by omega
   have f:Ae l=0:=by omega
   have:l = []:=by rw [<-ih g,f]; exact Di
   subst this
   exact h2 (by simp) (by simpa using c)
  rw [Hm b]
  simp only [Ae]
  have i:((d+1000000000*Ae l).toNat % 1000000000:Nat)=d.toNat:=by omega
  have e2:(d+1000000000*Ae l).toNat / 1000000000=(Ae l).toNat:=by omega
  rw [i,e2,ih g]
  congr 1; omega
theorem Rr {l:List Int} {n:Nat} (h:Can l) (b:Ae l=n):l=Ad n:=by
 rw [<-Wo h,b]; rfl
def D9:List Int->List Int
 | []=>[]
 | d::l=>match D9 l with
  | []=>if d=0 then [] else [d]
  | x::m=>d::x::m
theorem Ahp (l:List Int):D9 (l++[0])=D9 l:=by
 induction l with
 | nil=>rfl
 | cons d l ih=>simp only [List.cons_append,D9,ih]
theorem Ahq {l:List Int} {d:Int} (h:d≠0):D9 (l++[d])=l++[d]:=by
 induction l with
 | nil=>simp [D9,h]
 | cons x l ih=>
  simp only [List.cons_append,D9,ih]
  cases l with
  | nil=>rfl
  | cons y l=>rfl
theorem Abk {l:List Int} (h:A6 l):Can (D9 l)/\Ae (D9 l)=Ae l:=by
 induction l with
 | nil=>exact ⟨⟨A6.nil,fun h=>(h rfl).elim⟩,rfl⟩
 | cons d l ih=>
  obtain ⟨⟨i1,i2⟩,i3⟩:=ih h.tail
  have hd:=h d (by simp)
  simp only [D9]
  cases ht:D9 l with
  | nil=>
   rw [ht] at i3
   simp only [Ae] at i3
   simp only []
   by_cases b:d=0
   .rw [if_pos b]
    refine ⟨⟨A6.nil,fun h=>(h rfl).elim⟩,?_⟩
    simp only [Ae]; rw [<-i3]; omega
   .rw [if_neg b]
    refine ⟨⟨A6.one hd.1 hd.2,fun _=>by simpa using b⟩,?_⟩
    simp only [Ae]; rw [<-i3]
  | cons x m=>
   rw [ht] at i1 i2 i3
   simp only []
   refine ⟨⟨?_,fun _=>?_⟩,?_⟩
   .intro y hy
    rcases List.mem_cons.1 hy with rfl | hy
    .exact hd
    .exact i1 y hy
   .rw [List.getLast_cons (by simp)]; exact i2 (by simp)
   .simp only [Ae] at i3 ⊢; rw [i3]
theorem Gm {l:List Int} {n:Nat} (h:A6 l) (b:Ae l=n):D9 l=Ad n:=by
 obtain ⟨h1,h2⟩:=Abk h
 exact Rr h1 (h2.trans b)
theorem Ahr {l:List Int} (h:Can l):D9 l=l:=by
 obtain ⟨h1,h2⟩:=Abk h.1
 rw [<-Wo h1,h2,Wo h]
def A2 (n:Nat):Nat:=(Ad n).length
theorem Rs:A2 0=0:=by simp [A2,Di]
theorem H8 (n:Nat):n<1000000000 ^ A2 n:=by
 have:=Fu (Cu n)
 rw [C5] at this
 have e:((1000000000 ^ A2 n:Nat):Int)=1000000000 ^ A2 n:=by simp
 unfold A2 at *
 omega
theorem Jm {n k:Nat} (h:n<1000000000 ^ k):A2 n<=k:=by
 induction k generalizing n with
 | zero=>simp at h; subst h; simp [Rs]
 | succ k ih=>
  by_cases h0:n=0
  .subst h0; simp [Rs]
  .unfold A2
   rw [Hm h0,List.length_cons]
   have:n / 1000000000<1000000000 ^ k:=by
    rw [Nat.div_lt_iff_lt_mul (by decide)]; rwa [Nat.pow_succ] at h
   have:=ih this
   unfold A2 at this; omega
theorem Fa {m n:Nat} (h:m<=n):A2 m<=A2 n:=Jm (Nat.lt_of_le_of_lt h (H8 n))
theorem Abl {n k:Nat} (h:k<A2 n):1000000000 ^ k<=n:=by
 rcases Nat.lt_or_ge n (1000000000 ^ k) with h' | h'
 .have:=Jm h'; omega
 .exact h'
theorem Wp (m n:Nat):A2 (m+n)<=max (A2 m) (A2 n)+1:=by
 apply Jm
 have h1:=H8 m
 have h2:=H8 n
 have h3:1000000000 ^ A2 m<=1000000000 ^ max (A2 m) (A2 n):=Nat.pow_le_pow_right (by decide) (Nat.le_max_left _ _)
 have b:1000000000 ^ A2 n<=1000000000 ^ max (A2 m) (A2 n):=Nat.pow_le_pow_right (by decide) (Nat.le_max_right _ _)
 rw [Nat.pow_succ]
 omega
theorem H9 (m n:Nat):A2 (m*n)<=A2 m+A2 n:=by
 apply Jm
 rw [Nat.pow_add]
 exact Nat.mul_lt_mul_of_lt_of_le (H8 m) (Nat.le_of_lt (H8 n)) (Nat.pow_pos (by decide))
theorem Wq (m n:Nat):A2 (m / n)<=A2 m:=Fa (Nat.div_le_self _ _)
theorem Abm {m n:Nat} (h:A2 m<A2 n):m<n:=Nat.lt_of_lt_of_le (H8 m) (Abl h)
theorem Abn {l m:List Int} (g:A6 l) {k:Nat} (hk:k<l.length) (b:k<m.length) (f:A6 m) (hd:l.drop (k+1)=m.drop (k+1)) (c:l[k]<m[k]):Ae l<Ae m:=by
 have i:=H7 l (k+1) hk
 have e2:=H7 m (k+1) b
 rw [Dh l hk] at i
 rw [Dh m b,<-hd] at e2
 have h3:=Fu (g.take k)
 have j:=Dy ((f.take k).u32)
 rw [List.length_take,Nat.min_eq_left (Nat.le_of_lt hk)] at h3
 have h:1000000000 ^ k*(l[k]+1)<=1000000000 ^ k*m[k]:=Int.mul_le_mul_of_nonneg_left c (Int.le_of_lt (Gb k))
 rw [Int.mul_add] at h
 omega
end Go.Ab
namespace Go.Ab
open Go
theorem Mj {S E R:Type} {step:S->Option (S⊕E)} {c:S} {J:E->Option R} {r:R} (n:Nat) (b:Nat->S) (h0:c=b 0)
  (f:∀j,j<n->step (b j)=some (.inl (b (j+1)))) (g:∃e,step (b n)=some (.inr e)/\J e=some r):(Aj step c).bind J=some r:=by
 have key:∀m,m<=n->Aj step (b 0)=Aj step (b m):=by
  intro m
  induction m with
  | zero=>intro _; rfl
  | succ m ih=>intro h; rw [ih (by omega),M3 (f m (by omega))]
 obtain ⟨e,h1,h2⟩:=g
 rw [h0,key n (Nat.le_refl _),I7 h1]
 exact h2
theorem E4 {j n:Nat} (h:j<n) (b:n<4611686018427387904):Ac ((j:Int)+1)=((j+1:Nat):Int):=by
 rw [Ac,Cd] <;> omega
theorem Ahs {α:Type} {l:List α} {p:α×Nat->Bool} (h:l.zipIdx.all p=false):∃j x,l[j]? = some x/\p (x,j)=false/\∀i y,i<j->l[i]? = some y->p (y,i)=true:=by
 have key:∀(n:Nat),(∀i y,i<n->l[i]? = some y->p (y,i)=true)\/∃j x,j<n/\l[j]? = some x/\p (x,j)=false/\∀i y,i<j->l[i]? = some y->p (y,i)=true:=by
  intro n
  induction n with
  | zero=>exact .inl (fun i y h=>by omega)
  | succ n ih=>
   rcases ih with ih | ⟨j,x,h1,h2,h3,c⟩
   .cases hx:l[n]? with
    | none=>exact .inl (fun i y b hy=>by
      rcases Nat.lt_or_ge i n with h | h
      .exact ih i y h hy
      .have:i=n:=by omega
       subst this; rw [hx] at hy; cases hy)
    | some x=>
     cases hp:p (x,n) with
     | true=>exact .inl (fun i y b hy=>by
       rcases Nat.lt_or_ge i n with h | h
       .exact ih i y h hy
       .have:i=n:=by omega
        subst this; rw [hx] at hy; cases hy; exact hp)
     | false=>exact .inr ⟨n,x,by omega,hx,hp,ih⟩
   .exact .inr ⟨j,x,by omega,h2,h3,c⟩
 rcases key l.length with hk | ⟨j,x,h1,h2,h3,c⟩
 .exfalso
  have:l.zipIdx.all p=true:=by
   rw [List.all_eq_true]
   rintro ⟨y,i⟩ hy
   have:=List.mk_mem_zipIdx_iff_getElem?.1 hy
   have b:i<l.length:=by
    rcases Nat.lt_or_ge i l.length with h | h
    .exact h
    .rw [List.getElem?_eq_none h] at this; cases this
   exact hk i y b this
  rw [this] at h; cases h
 .exact ⟨j,x,h2,h3,c⟩
theorem Rt {α:Type} {l:List α} {p:α×Nat->Bool} (h:l.zipIdx.all p=true) {j:Nat} {x:α} (hx:l[j]? = some x):p (x,j)=true :=
 List.all_eq_true.1 h _ (List.mk_mem_zipIdx_iff_getElem?.2 hx)
theorem Aht {α:Type} {l:List α} {p:α×Nat->Bool} (h:∀j x,l[j]? = some x->p (x,j)=true):l.zipIdx.all p=true:=by
 rw [List.all_eq_true]
 rintro ⟨y,i⟩ hy
 exact h i y (List.mk_mem_zipIdx_iff_getElem?.1 hy)
theorem Ahu {S E R α:Type} {step:S->Option (S⊕E)} {f:S} {J:E->Option R} {rt rf:R} (l:List α) (p:α×Nat->Bool) (b:Nat->S) (h0:f=b 0) (q:l.length<4611686018427387904)
  (g:∀(j:Nat) (x:α),l[j]? = some x->(∀i y,i<j->l[i]? = some y->p (y,i)=true)->decide ((j:Int)<(l.length:Int))=true->Ag l (j:Int)=some x->Ac ((j:Int)+1)=((j+1:Nat):Int) ->
   (p (x,j)=true->step (b j)=some (.inl (b (j+1))))/\(p (x,j)=false->∃e,step (b j)=some (.inr e)/\J e=some rf))
  (u:decide ((l.length:Int)<(l.length:Int))=false->l.zipIdx.all p=true->∃e,step (b l.length)=some (.inr e)/\J e=some rt):(Aj step f).bind J=some (bif l.zipIdx.all p then rt else rf):=by
 have c:∀(j:Nat) (x:α),l[j]? = some x->(∀i y,i<j->l[i]? = some y->p (y,i)=true)->_:=fun j x hx hy=>
  have hj:j<l.length:=by
   rcases Nat.lt_or_ge j l.length with h | h
   .exact h
   .rw [List.getElem?_eq_none h] at hx; cases hx
  g j x hx hy (Be (by omega)) (Fs rfl hx) (E4 hj q)
 cases hb:l.zipIdx.all p with
 | true=>
  refine Mj l.length b h0 (fun j hj=>?_) (u (by simp) hb)
  have hx:l[j]? = some l[j]:=Ci hj
  exact (c j _ hx (fun i y _ hy=>Rt hb hy)).1 (Rt hb hx)
 | false=>
  obtain ⟨j,x,h1,h2,h3⟩:=Ahs hb
  refine Mj j b h0 (fun i s=>?_) ((c j x h1 h3).2 h2)
  have hj:j<l.length:=by
   rcases Nat.lt_or_ge j l.length with h | h
   .exact h
   .rw [List.getElem?_eq_none h] at h1; cases h1
  have hx:l[i]? = some l[i]:=Ci (by omega)
  exact (c i _ hx (fun k y hk hy=>h3 k y (by omega) hy)).1 (h3 i _ s hx)
theorem Ahv {α:Type} (l:List α) (p:α->Bool):l.zipIdx.all (fun q=>p q.1)=l.all p:=by
 cases h:l.all p with
 | true=>
  exact Aht fun j x hx=>List.all_eq_true.1 h _ (lmo hx)
 | false=>
  cases h':l.zipIdx.all (fun q=>p q.1) with
  | false=>rfl
  | true=>
   rw [<-h]; symm
   rw [List.all_eq_true]
   intro x hx
   obtain ⟨j,hj⟩:=List.getElem?_of_mem hx
   exact Rt h' hj
theorem Ru {S E R α:Type} {step:S->Option (S⊕E)} {c:S} {J:E->Option R} {rt rf:R} (l:List α) (p:α->Bool) (b:Nat->S) (h0:c=b 0) (g:l.length<4611686018427387904)
  (f:∀(j:Nat) (x:α),l[j]? = some x->decide ((j:Int)<(l.length:Int))=true->Ag l (j:Int)=some x->Ac ((j:Int)+1)=((j+1:Nat):Int) ->
   (p x=true->step (b j)=some (.inl (b (j+1))))/\(p x=false->∃e,step (b j)=some (.inr e)/\J e=some rf))
  (i:decide ((l.length:Int)<(l.length:Int))=false->∃e,step (b l.length)=some (.inr e)/\J e=some rt):(Aj step c).bind J=some (bif l.all p then rt else rf):=by
 rw [<-Ahv l p]
 exact Ahu l (fun q=>p q.1) b h0 g (fun j x hx _=>f j x hx) (fun h _=>i h)
theorem Oq {S E R α:Type} {step:S->Option (S⊕E)} {c:S} {J:E->Option R} {r:R} (l:List α) (b:Nat->S) (h0:c=b 0) (g:l.length<4611686018427387904)
  (f:∀(j:Nat) (x:α),j<l.length->l[j]? = some x->decide ((j:Int)<(l.length:Int))=true->Ag l (j:Int)=some x->Ac ((j:Int)+1)=((j+1:Nat):Int)->step (b j)=some (.inl (b (j+1))))
  (h:decide ((l.length:Int)<(l.length:Int))=false->∃e,step (b l.length)=some (.inr e)/\J e=some r):(Aj step c).bind J=some r:=by
 refine Mj l.length b h0 (fun j hj=>?_) (h (by simp))
 have hx:l[j]? = some l[j]:=Ci hj
 exact f j _ hj hx (Be (by omega)) (Fs rfl hx) (E4 hj g)
theorem Fv {α:Type} {l:List α} {j:Nat} {x:α} (h:l[j]? = some x):l.take (j+1)=l.take j++[x]:=by
 rw [List.take_add_one,h]; rfl
theorem Fw {α:Type} {l:List α} {j:Nat} {x:α} (h:l[j]? = some x):j<l.length:=by
 rcases Nat.lt_or_ge j l.length with h' | h'
 .exact h'
 .rw [List.getElem?_eq_none h'] at h; cases h
theorem Rv {A R:Type} {X:Option A} {f:A->Option R} {y:R} {Q:A->Prop} (h:∃r,X=some r/\Q r) (b:∀r,Q r->f r=some y):X.bind f=some y:=by
 obtain ⟨r,h1,h2⟩:=h
 rw [h1]; exact b r h2
end Go.Ab
namespace Go.Ab
open Go
theorem Jn (l:List Int) (b:l.length<4611686018427387904):F5 l=some (D9 l):=by
 unfold F5
 refine E8 (fun v=>∃k:Nat,v=k/\k<=l.length/\D9 (l.take k)=D9 l) (fun v=>v.toNat) (fun v=>∃k:Nat,v=k/\k<=l.length/\l.take k=D9 l) ⟨l.length,rfl,Nat.le_refl _,by simp⟩ ?_ ?_
 .rintro v ⟨k,rfl,hk,ht⟩
  cases k with
  | zero=>exact .inr ⟨0,rfl,0,rfl,by omega,by simpa [D9] using ht⟩
  | succ j=>
   have hw:Ac (((j+1:Nat):Int)-1)=(j:Int):=by rw [Ac,Cd] <;> omega
   have hj:j<l.length:=by omega
   have hp:decide (((j+1:Nat):Int)>0)=true:=Be (by omega)
   simp only [hp,cond_true,hw,Cj rfl hj,Ah]
   rw [List.take_succ_eq_append_getElem hj] at ht
   by_cases h0:l[j]=0
   .rw [h0,Ahp] at ht
    exact .inl ⟨j,by rw [Hk h0]; rfl,⟨j,rfl,by omega,ht⟩,by omega⟩
   .rw [Ahq h0] at ht
    exact .inr ⟨((j+1:Nat):Int),by rw [Dw h0]; rfl,j+1,rfl,by omega,by rw [List.take_succ_eq_append_getElem hj]; exact ht⟩
 .rintro v ⟨k,rfl,hk,ht⟩
  rw [Abi rfl hk,ht]; rfl
theorem Abo (l:List Int) (hd:Gz l) (B:l.length<1099511627776):L6 l=some (Ad (Ae l).toNat):=by
 unfold L6
 have f:Ac ((l.length:Int)+1)=((l.length+1:Nat):Int):=by rw [Ac,Cd] <;> omega
 rw [f,Wm rfl (by omega) (by omega)]
 simp only [Ah]
 refine E8 (fun (c,i,o)=>∃k:Nat,i=k/\k<=l.length/\o.length=k/\A6 o/\0<=c/\c<5/\Ae o+1000000000 ^ k*c=Ae (l.take k))
  (fun (_,i,_)=>l.length-i.toNat) (fun (c,o)=>o.length=l.length/\A6 o/\0<=c/\c<5/\Ae o+1000000000 ^ l.length*c=Ae l)
  ⟨0,rfl,by omega,rfl,A6.nil,by omega,by omega,by simp [Ae]⟩ ?_ ?_
 .rintro ⟨c,i,o⟩ ⟨k,rfl,hk,g,b,q,hc,u⟩
  rcases Nat.lt_or_ge k l.length with h | h
  .have hx:=hd l[k] (List.getElem_mem h)
   refine .inl ⟨((l[k]+c) / 1000000000,((k+1:Nat):Int),o++[(l[k]+c) % 1000000000]),?_,⟨k+1,rfl,by omega,by simp [g],b.snoc (by omega) (by omega),by omega,by omega,?_⟩,by simp; omega⟩
   .have z:Ak l[k]=l[k]:=B2 (by omega) (by omega)
    have e2:Ak (l[k]+c)=l[k]+c:=B2 (by omega) (by omega)
    have s:Bg ((l[k]+c) % 1000000000)=(l[k]+c) % 1000000000:=Dg (by omega) (by omega)
    have y:Ac ((k:Int)+1)=((k+1:Nat):Int):=by rw [Ac,Cd] <;> omega
    have x:decide ((k:Int)<(l.length:Int))=true:=by simpa using h
    simp only [x,cond_true,Cj rfl h,Ah,z,e2,F9 (show 0<=l[k]+c by omega) (show (0:Int)<1000000000 by decide),s,Ft (show (o.length+[(l[k]+c) % 1000000000].length)*4<=_ by simp; omega),Gl (show 0<=l[k]+c by omega) (show l[k]+c<=_ by omega) (show (0:Int)<1000000000 by decide),y]
   .rw [Dh l h,<-u,Ga,g,Int.pow_succ]
    have:=Int.mul_ediv_add_emod (l[k]+c) 1000000000
    grind
  .have j:k=l.length:=by omega
   subst j
   refine .inr ⟨(c,o),by simp,g,b,q,hc,by simpa using u⟩
 .rintro ⟨c,o⟩ ⟨h2,h3,G,E,D⟩
  have A:=Dy hd
  by_cases hc:c>0
  .have s:Bg c=c:=Dg (by omega) (by omega)
   simp only [decide_eq_true hc,cond_true,s,Ft (show (o.length+[c].length)*4<=_ by simp; omega),Ah,Jn (o++[c]) (by simp; omega)]
   rw [Gm (h3.snoc (by omega) (by omega)) (n:=(Ae l).toNat) (by rw [Ga,h2]; omega)]
  .have:c=0:=by omega
   subst this
   simp only [Int.lt_irrefl,gt_iff_lt,decide_false,cond_false,Jn o (by omega),Ah]
   rw [Gm h3 (n:=(Ae l).toNat) (by omega)]
end Go.Ab
namespace Go.Ab
open Go
theorem Ot {n:Nat} (h:n<18446744073709551616):A2 n<=3:=Jm (Nat.lt_of_lt_of_le h (by decide))
theorem Jo (n:Nat) (h:n<18446744073709551616):Iq n=some (Ad n):=by
 unfold Iq
 have b:=Ot h
 unfold A2 at b
 refine E8 (fun (w,o)=>∃k:Nat,w=k/\k<=n/\o++Ad k=Ad n) (fun (w,_)=>w.toNat) (fun o=>o=Ad n) ⟨n,rfl,Nat.le_refl _,by simp⟩ ?_ (by rintro o rfl; rfl)
 rintro ⟨w,o⟩ ⟨k,rfl,hk,c⟩
 by_cases h0:k=0
 .subst h0
  rw [Di,List.append_nil] at c
  exact .inr ⟨o,by simp,c⟩
 .have f:o.length<=3:=by rw [<-c] at b; simp at b; omega
  refine .inl ⟨(((k / 1000000000:Nat):Int),o++[((k % 1000000000:Nat):Int)]),?_,⟨k / 1000000000,rfl,by omega,by rw [List.append_assoc]; rw [Hm h0] at c; exact c⟩,by simp; omega⟩
  have j:decide ((k:Int)>0)=true:=Be (by omega)
  have e2:D2 (k:Int) 1000000000=some ((k % 1000000000:Nat):Int):=by rw [F9 (by omega) (by decide)]; rfl
  have i:Bg ((k % 1000000000:Nat):Int)=((k % 1000000000:Nat):Int):=Dg (by omega) (by omega)
  have g:Dq .u64 (k:Int) 1000000000=some ((k / 1000000000:Nat):Int):=by rw [Gl (by omega) (by omega) (by decide)]; rfl
  simp only [j,cond_true,e2,Ah,i,Ft (show (o.length+[((k % 1000000000:Nat):Int)].length)*4<=_ by simp; omega),g]
def Db (m n:Nat):Int:=if m<n then -1 else if n<m then 1 else 0
theorem Mk (m n:Nat) (g:A2 m<1099511627776) (f:A2 n<1099511627776):Kn (Ad m) (Ad n)=some (Db m n):=by
 unfold Kn
 unfold A2 at g f
 by_cases h:(Ad m).length=(Ad n).length
 .rw [D8 (by omega:((Ad m).length:Int)=(Ad n).length),cond_false]
  have hw:Ac (((Ad m).length:Int)-1)=((Ad m).length:Int)-1:=by rw [Ac,Cd] <;> omega
  rw [hw]
  refine E8 (fun v=>∃k:Nat,v=(k:Int)-1/\k<=(Ad m).length/\(Ad m).drop k=(Ad n).drop k) (fun v=>(v+1).toNat)
   (fun e=>match e with | .inl r=>r=Db m n | .inr _=>m=n) ⟨(Ad m).length,rfl,Nat.le_refl _,by rw [List.drop_length,h,List.drop_length]⟩ ?_ ?_
  .rintro v ⟨k,rfl,hk,hd⟩
   cases k with
   | zero=>
    refine .inr ⟨.inr (),by simp,?_⟩
    have:Ad m=Ad n:=by simpa using hd
    have:=congrArg Ae this
    rw [C5,C5] at this
    show m=n
    omega
   | succ j=>
    have hj:j<(Ad m).length:=by omega
    have hj':j<(Ad n).length:=by omega
    have l:((j+1:Nat):Int)-1=(j:Int):=by omega
    have i:decide ((j:Int)>=0)=true:=Be (by omega)
    simp only [l,i,cond_true,Cj rfl hj,Cj rfl hj',Ah]
    rcases Int.lt_trichotomy (Ad m)[j] (Ad n)[j] with b | heq | hgt
    .refine .inr ⟨.inl (-1),by rw [Be b]; rfl,?_⟩
     have:=Abn (Cu m) hj hj' (Cu n) hd b
     rw [C5,C5] at this
     show (-1:Int)=Db m n
     rw [Db,if_pos (by omega)]
    .refine .inl ⟨(j:Int)-1,?_,⟨j,rfl,by omega,?_⟩,by omega⟩
     .rw [Bo (by omega:¬(Ad m)[j]<(Ad n)[j]),cond_false,Bo (by omega:¬(Ad m)[j]>(Ad n)[j]),cond_false]
      rw [Ac,Cd (by omega) (by omega)]
     .rw [List.drop_eq_getElem_cons hj,List.drop_eq_getElem_cons hj',hd,heq]
    .refine .inr ⟨.inl 1,by rw [Bo (by omega:¬(Ad m)[j]<(Ad n)[j]),cond_false,Be (by omega:(Ad m)[j]>(Ad n)[j])]; rfl,?_⟩
     have:=Abn (Cu n) hj' hj (Cu m) hd.symm hgt
     rw [C5,C5] at this
     show (1:Int)=Db m n
     rw [Db,if_neg (by omega),if_pos (by omega)]
  .rintro (e | e) c
   .simp only at c ⊢; rw [c]
   .simp only at c ⊢; rw [Db,if_neg (by omega),if_neg (by omega)]
 .rw [Dx (by omega:((Ad m).length:Int)≠(Ad n).length),cond_true]
  by_cases b:(Ad m).length<(Ad n).length
  .rw [Be (by omega:((Ad m).length:Int)<(Ad n).length),cond_true]
   have:=Abm (m:=m) (n:=n) b
   rw [Db,if_pos this]
  .rw [Bo (by omega:¬((Ad m).length:Int)<(Ad n).length),cond_false]
   have:=Abm (m:=n) (n:=m) (by unfold A2; omega)
   rw [Db,if_neg (by omega),if_pos this]
theorem Wr {l:List Int} (h:A6 l) (c:l≠[]->1000000000 ^ (l.length-1)<=Ae l):Can l:=by
 refine ⟨h,fun b h0=>?_⟩
 have h1:=c b
 have e:=List.dropLast_concat_getLast b
 have h2:A6 l.dropLast:=fun d hd=>h d (List.dropLast_subset l hd)
 have h3:=Fu h2
 rw [List.length_dropLast] at h3
 have f:=congrArg Ae e
 rw [Ga,h0] at f
 omega
theorem Fx (l:List Int) {k:Nat} (h:l.length<=k):Ae (l.take k)=Ae l:=by rw [List.take_of_length_le h]
theorem Abp (a b:List Int) (ha:A6 a) (hb:A6 b) (hl:a.length<1099511627776) (hab:b.length<=a.length) (Z:a≠[]->1000000000 ^ (a.length-1)<=Ae a) :
  ((Dp 4 0 (Ac ((a.length:Int)+1)) (0:Int)).bind fun o3=>
 (Aj (S:=(Int×Int×(List Int))) (E:=(Int×(List Int))) (fun (v20,v21,A)=>
 bif (decide (v21<(a.length:Int))) then (
 (Ag a v21).bind fun j=>
 (show Option Int from
 bif (decide (v21<(b.length:Int))) then (
 (Ag b v21).bind fun v24=>
 some (Bg ((Bg (j+v20))+v24))
 )
 else (
 some (Bg (j+v20))
 )
 ).bind fun g=>
 (Dq .u32 g 1000000000).bind fun q=>
 (D2 g 1000000000).bind fun l=>
 (B1 4 A [l]).bind fun u=>
 some (.inl (q,(Ac (v21+1)),u))
 )
 else (
 some (.inr (v20,A))
 )
  ) (0,0,o3)).bind fun (y,z)=>
 bif (decide (y>(0:Int))) then (
 (B1 4 z [y]).bind fun R=>
 some R
 )
 else (
 some z
 ))=some (Ad (Ae a+Ae b).toNat):=by
 have I:Ac ((a.length:Int)+1)=((a.length+1:Nat):Int):=by rw [Ac,Cd] <;> omega
 rw [I,Wm rfl (by omega) (by omega)]
 simp only [Ah]
 have aa:=Dy ha.u32
 have a8:=Dy hb.u32
 refine E8 (fun (c,i,o)=>∃k:Nat,i=k/\k<=a.length/\o.length=k/\A6 o/\0<=c/\c<=1/\Ae o+1000000000 ^ k*c=Ae (a.take k)+Ae (b.take k))
  (fun (_,i,_)=>a.length-i.toNat) (fun (c,o)=>o.length=a.length/\A6 o/\0<=c/\c<=1/\Ae o+1000000000 ^ a.length*c=Ae a+Ae b)
  ⟨0,rfl,by omega,rfl,A6.nil,by omega,by omega,by simp [Ae]⟩ ?_ ?_
 .rintro ⟨c,i,o⟩ ⟨k,rfl,hk,V,G,a1,hc,U⟩
  rcases Nat.lt_or_ge k a.length with h | h
  .have hx:=ha.get h
   have e4:Ac ((k:Int)+1)=((k+1:Nat):Int):=by rw [Ac,Cd] <;> omega
   have e5:decide ((k:Int)<(a.length:Int))=true:=Be (by omega)
   have step:∀s:Int,0<=s->s<2000000000->(show Option Int from bif (decide ((k:Int)<(b.length:Int))) then ((Ag b k).bind fun v24=>some (Bg ((Bg (a[k]+c))+v24))) else some (Bg (a[k]+c)))=some s ->
     Ae (a.take (k+1))+Ae (b.take (k+1))=Ae (a.take k)+Ae (b.take k)+1000000000 ^ k*(s-c) ->
     (∃f,(bif (decide ((k:Int)<(a.length:Int))) then (
 (Ag a k).bind fun j=>
 (show Option Int from
 bif (decide ((k:Int)<(b.length:Int))) then (
 (Ag b k).bind fun v24=>
 some (Bg ((Bg (j+c))+v24))
 )
 else (
 some (Bg (j+c))
 )
 ).bind fun g=>
 (Dq .u32 g 1000000000).bind fun q=>
 (D2 g 1000000000).bind fun l=>
 (B1 4 o [l]).bind fun u=>
 some (.inl (q,(Ac ((k:Int)+1)),u))
 )
 else (
 some (.inr (c,o))
 ))=some (Sum.inl f:(Int×Int×List Int)⊕(Int×List Int))/\(∃x:Nat,f.2.1=x/\x<=a.length/\f.2.2.length=x/\A6 f.2.2/\0<=f.1/\f.1<=1/\Ae f.2.2+1000000000 ^ x*f.1=Ae (a.take x)+Ae (b.take x))/\a.length-f.2.1.toNat<a.length-(k:Int).toNat):=by
    intro s D a7 hs B
    refine ⟨(s / 1000000000,((k+1:Nat):Int),o++[s % 1000000000]),?_,⟨k+1,rfl,by omega,by simp [V],G.snoc (by omega) (by omega),by simp; omega,by simp; omega,?_⟩,by simp; omega⟩
    .rw [e5,cond_true,Cj rfl h,Ah,hs,Ah,Wn D (by omega) (by decide),Ah,F9 D (by decide),Ah,Ft (by simp; omega),Ah,e4]
    .rw [B,<-U,Ga,V,Int.pow_succ]
     have:=Int.mul_ediv_add_emod s 1000000000
     grind
   refine .inl ?_
   rcases Nat.lt_or_ge k b.length with hb' | hb'
   .have hy:=hb.get hb'
    obtain ⟨f,N,M,L⟩:=step (a[k]+c+b[k]) (by omega) (by omega) (by
     have J:Bg (a[k]+c)=a[k]+c:=Dg (by omega) (by omega)
     have w2:Bg (a[k]+c+b[k])=a[k]+c+b[k]:=Dg (by omega) (by omega)
     show (bif (decide ((k:Int)<(b.length:Int))) then _ else _)=_
     rw [Be (by omega:(k:Int)<(b.length:Int)),cond_true,Cj rfl hb',Ah,J,w2]) (by rw [Dh a h,Dh b hb']; grind)
    exact ⟨f,N,M,L⟩
   .obtain ⟨f,N,M,L⟩:=step (a[k]+c) (by omega) (by omega) (by
     have J:Bg (a[k]+c)=a[k]+c:=Dg (by omega) (by omega)
     show (bif (decide ((k:Int)<(b.length:Int))) then _ else _)=_
     rw [Bo (by omega:¬(k:Int)<(b.length:Int)),cond_false,J]) (by rw [Dh a h,Fx b hb',Fx b (by omega)]; grind)
    exact ⟨f,N,M,L⟩
  .have Y:k=a.length:=by omega
   subst Y
   refine .inr ⟨(c,o),by simp,V,G,a1,hc,?_⟩
   rw [List.take_length,Fx b hab] at U
   exact U
 .rintro ⟨c,o⟩ ⟨h2,h3,h4,h5,h6⟩
  simp only []
  by_cases hc:c>0
  .have:c=1:=by omega
   subst this
   rw [Be hc,cond_true,Ft (by simp; omega),Ah]
   congr 1
   refine Rr (Wr (h3.snoc (by omega) (by omega)) fun _=>?_) (by rw [Ga,h2]; omega)
   rw [Ga,h2]
   have:=Dy h3.u32
   simp [h2]; omega
  .have:c=0:=by omega
   subst this
   rw [Bo hc,cond_false]
   congr 1
   refine Rr (Wr h3 fun X=>?_) (by omega)
   have a6:a≠[]:=by intro e; rw [e] at h2; exact X (List.length_eq_zero_iff.1 h2)
   have:=Z a6
   rw [h2]; omega
theorem Rw {n:Nat} (h:Ad n≠[]):1000000000 ^ ((Ad n).length-1)<=Ae (Ad n):=by
 rw [C5]
 have h1:(Ad n).length≠0:=fun e=>h (List.length_eq_zero_iff.1 e)
 have:=Abl (n:=n) (k:=(Ad n).length-1) (by unfold A2; omega)
 have e:((1000000000 ^ ((Ad n).length-1):Nat):Int)=1000000000 ^ ((Ad n).length-1):=by rw [Int.natCast_pow]; rfl
 omega
theorem Ahw (m n:Nat) (c:A2 m<1099511627776) (b:A2 n<1099511627776):N4 (Ad m) (Ad n)=some (Ad (m+n)):=by
 unfold N4
 unfold A2 at c b
 by_cases f:(Ad m).length<(Ad n).length
 .simp only [Be (by omega:((Ad m).length:Int)<(Ad n).length),cond_true,Ah]
  have:=Abp (Ad n) (Ad m) (Cu n) (Cu m) b (by omega) Rw
  rw [C5,C5] at this
  rw [show m+n=((n:Int)+(m:Int)).toNat by omega]
  exact this
 .simp only [Bo (by omega:¬((Ad m).length:Int)<(Ad n).length),cond_false,Ah]
  have:=Abp (Ad m) (Ad n) (Cu m) (Cu n) c (by omega) Rw
  rw [C5,C5] at this
  rw [show m+n=((m:Int)+(n:Int)).toNat by omega]
  exact this
end Go.Ab
namespace Go.Ab
open Go
theorem G1 {k n:Nat} (h:k<n) (b:n<4611686018427387904):Ac ((k:Int)+1)=((k+1:Nat):Int):=by rw [Ac,Cd] <;> omega
theorem Abq (m n:Nat) (X:A2 m<1099511627776) (B:n<=m):L7 (Ad m) (Ad n)=some (Ad (m-n)):=by
 unfold L7
 have E:(Ad n).length<=(Ad m).length:=Fa B
 unfold A2 at X
 rw [Wm rfl (by omega) (by omega)]
 simp only [Ah]
 have ha:=Cu m
 have hb:=Cu n
 refine E8 (fun (c,i,o)=>∃k:Nat,i=k/\k<=(Ad m).length/\o.length=k/\A6 o/\0<=c/\c<=1/\Ae o=Ae ((Ad m).take k)-Ae ((Ad n).take k)+1000000000 ^ k*c)
  (fun (_,i,_)=>(Ad m).length-i.toNat) (fun o=>∃c:Int,o.length=(Ad m).length/\A6 o/\0<=c/\c<=1/\Ae o=(m:Int)-n+1000000000 ^ (Ad m).length*c)
  ⟨0,rfl,by omega,rfl,A6.nil,by omega,by omega,by simp [Ae]⟩ ?_ ?_
 .rintro ⟨c,i,o⟩ ⟨k,rfl,hk,l,g,I,hc,q⟩
  rcases Nat.lt_or_ge k (Ad m).length with h | h
  .have hx:=ha.get h
   have R:=G1 h (by omega)
   have N:decide ((k:Int)<((Ad m).length:Int))=true:=Be (by omega)
   have L:Ac (Ad m)[k]=(Ad m)[k]:=Cd (by omega) (by omega)
   have J:Ac ((Ad m)[k]-c)=(Ad m)[k]-c:=Cd (by omega) (by omega)
   have key:∀s:Int,-1000000001<=s->s<1000000000->Ae ((Ad m).take (k+1))-Ae ((Ad n).take (k+1))=Ae ((Ad m).take k)-Ae ((Ad n).take k)+1000000000 ^ k*(s+c) ->
     ∃(f:Int) (d:Int),(bif decide (s<0) then ((B1 4 o [(Bg (Ac (s+1000000000)))]).bind fun A=>some (Sum.inl (1,(Ac ((k:Int)+1)),A))) else ((B1 4 o [(Bg s)]).bind fun z=>some (Sum.inl (0,(Ac ((k:Int)+1)),z))))=some (Sum.inl (f,((k+1:Nat):Int),o++[d]):(Int×Int×List Int)⊕List Int) /\
      (-1000000000<=s->(∃j:Nat,((k+1:Nat):Int)=j/\j<=(Ad m).length/\(o++[d]).length=j/\A6 (o++[d])/\0<=f/\f<=1/\Ae (o++[d])=Ae ((Ad m).take j)-Ae ((Ad n).take j)+1000000000 ^ j*f)):=by
    intro s h1 h2 b
    by_cases M:s<0
    .refine ⟨1,Bg (Ac (s+1000000000)),by rw [Be M,cond_true,Ft (by simp; omega),Ah,R],fun h3=>?_⟩
     have V:Ac (s+1000000000)=s+1000000000:=Cd (by omega) (by omega)
     have u:Bg (s+1000000000)=s+1000000000:=Dg (by omega) (by omega)
     rw [V,u]
     refine ⟨k+1,rfl,by omega,by simp [l],g.snoc (by omega) (by omega),by omega,by omega,?_⟩
     rw [b,Ga,l,q,Int.pow_succ]; grind
    .refine ⟨0,Bg s,by rw [Bo M,cond_false,Ft (by simp; omega),Ah,R],fun h3=>?_⟩
     have u:Bg s=s:=Dg (by omega) (by omega)
     rw [u]
     refine ⟨k+1,rfl,by omega,by simp [l],g.snoc (by omega) (by omega),by omega,by omega,?_⟩
     rw [b,Ga,l,q,Int.pow_succ]; grind
   refine .inl ?_
   rcases Nat.lt_or_ge k (Ad n).length with hb' | hb'
   .have hy:=hb.get hb'
    have U:Ac (Ad n)[k]=(Ad n)[k]:=Cd (by omega) (by omega)
    have S:Ac ((Ad m)[k]-c-(Ad n)[k])=(Ad m)[k]-c-(Ad n)[k]:=Cd (by omega) (by omega)
    obtain ⟨f,d,y,x⟩:=key ((Ad m)[k]-c-(Ad n)[k]) (by omega) (by omega) (by rw [Dh _ h,Dh _ hb']; grind)
    refine ⟨(f,((k+1:Nat):Int),o++[d]),?_,x (by omega),by simp; omega⟩
    rw [<-y]
    simp only [N,cond_true,Cj rfl h,Ah,L,J,Be (by omega:(k:Int)<((Ad n).length:Int)),Cj rfl hb',U,S]
   .obtain ⟨f,d,y,x⟩:=key ((Ad m)[k]-c) (by omega) (by omega) (by rw [Dh _ h,Fx (Ad n) hb',Fx (Ad n) (by omega)]; grind)
    refine ⟨(f,((k+1:Nat):Int),o++[d]),?_,x (by omega),by simp; omega⟩
    rw [<-y]
    simp only [N,cond_true,Cj rfl h,Ah,L,J,Bo (by omega:¬(k:Int)<((Ad n).length:Int)),cond_false]
  .have G:k=(Ad m).length:=by omega
   subst G
   refine .inr ⟨o,by simp,c,l,g,I,hc,?_⟩
   rw [List.take_length,Fx _ E,C5,C5] at q
   exact q
 .rintro o ⟨c,h2,h3,h4,Z,Y⟩
  have D:=Fu h3
  rw [h2] at D
  have hp:=Gb (Ad m).length
  have:c=0:=by
   rcases Int.lt_or_le 0 c with hc | hc
   .have:c=1:=by omega
    subst this
    omega
   .omega
  subst this
  rw [Jn o (by omega),Ah,Gm h3 (n:=m-n) (by omega)]
theorem Ws (m d:Nat) (M:A2 m<1099511627776) (hd:0<d) (N:d<4294967296):Kr (Ad m) d=some (Ad (m / d),((m % d:Nat):Int)):=by
 unfold Kr
 unfold A2 at M
 rw [Ir rfl rfl (Nat.le_refl _) (by omega) (by omega)]
 simp only [Ah]
 have ha:=Cu m
 have hw:Ac (((Ad m).length:Int)-1)=((Ad m).length:Int)-1:=by rw [Ac,Cd] <;> omega
 rw [hw]
 refine E8 (fun (r,i,o)=>∃k:Nat,i=(k:Int)-1/\k<=(Ad m).length/\o.length=(Ad m).length/\A6 o/\0<=r/\r<d/\Ae (o.drop k)*d+r=Ae ((Ad m).drop k))
  (fun (_,i,_)=>(i+1).toNat) (fun (r,o)=>o.length=(Ad m).length/\A6 o/\0<=r/\r<d/\Ae o*d+r=m)
  ⟨(Ad m).length,rfl,Nat.le_refl _,by simp,A6.replicate _,by omega,by omega,by simp [Ae]⟩ ?_ ?_
 .rintro ⟨r,i,o⟩ ⟨k,rfl,hk,A,g,s,L,z⟩
  cases k with
  | zero=>exact .inr ⟨(r,o),by simp,A,g,s,L,by simpa [C5] using z⟩
  | succ j=>
   have hj:j<(Ad m).length:=by omega
   have h:j<o.length:=by omega
   have hx:=ha.get hj
   have X:((j+1:Nat):Int)-1=(j:Int):=by omega
   have V:decide ((j:Int)>=0)=true:=Be (by omega)
   have I:Ak (r*1000000000)=r*1000000000:=B2 (by omega) (by omega)
   have G:Ak (Ad m)[j]=(Ad m)[j]:=B2 (by omega) (by omega)
   have E:Ak (r*1000000000+(Ad m)[j])=r*1000000000+(Ad m)[j]:=B2 (by omega) (by omega)
   have b:(0:Int)<(d:Int):=by omega
   have c:0<=r*1000000000+(Ad m)[j]:=by omega
   have f:0<=(r*1000000000+(Ad m)[j]) / (d:Int):=Int.ediv_nonneg c (by omega)
   have u:(r*1000000000+(Ad m)[j]) / (d:Int)<1000000000:=by
    apply Int.ediv_lt_of_lt_mul b
    have:(r+1)*1000000000<=d*1000000000:=Int.mul_le_mul_of_nonneg_right (by omega) (by decide)
    omega
   have D:Bg ((r*1000000000+(Ad m)[j]) / (d:Int))=(r*1000000000+(Ad m)[j]) / (d:Int):=Dg f (by omega)
   have y:=Int.emod_nonneg (r*1000000000+(Ad m)[j]) (by omega:(d:Int)≠0)
   have x:=Int.emod_lt_of_pos (r*1000000000+(Ad m)[j]) b
   have B:Ac ((j:Int)-1)=(j:Int)-1:=by rw [Ac,Cd] <;> omega
   refine .inl ⟨((r*1000000000+(Ad m)[j]) % (d:Int),(j:Int)-1,o.set j ((r*1000000000+(Ad m)[j]) / (d:Int))),?_,⟨j,rfl,by omega,by simpa using A,g.set _ f u,y,x,?_⟩,by simp⟩
   .simp only [X,V,cond_true,Cj rfl hj,Cj rfl h,Ah,I,G,E,Gl c (by omega) b,F9 c b,D,B,E9 rfl]
   .have d1:(o.set j ((r*1000000000+(Ad m)[j]) / (d:Int))).drop j=((r*1000000000+(Ad m)[j]) / (d:Int))::o.drop (j+1):=by
     rw [List.drop_eq_getElem_cons (by simpa using h),List.drop_set_of_lt (by omega)]; simp
    rw [d1,List.drop_eq_getElem_cons hj]
    simp only [Ae]
    rw [<-z]
    have:=Int.mul_ediv_add_emod (r*1000000000+(Ad m)[j]) (d:Int)
    grind
 .rintro ⟨r,o⟩ ⟨h2,h3,U,S,R⟩
  simp only []
  have J:=Dy h3.u32
  have l:((m / d:Nat):Int)=Ae o/\((m % d:Nat):Int)=r:=by
   have b:(0:Int)<(d:Int):=by omega
   have e:=Int.ediv_emod_unique b (r:=r) (q:=Ae o) (a:=(m:Int))
   have:=e.2 ⟨by rw [<-R]; grind,U,S⟩
   exact ⟨by rw [Int.natCast_ediv]; exact this.1,by rw [Int.natCast_emod]; exact this.2⟩
  rw [Jn o (by omega),Ah,Gm h3 l.1.symm,l.2]
end Go.Ab
namespace Go.Ab
open Go
theorem Rx {x y:Int} (hx:0<=x) (c:x<1000000000) (hy:0<=y) (b:y<1000000000):0<=x*y/\x*y<=999999998000000001:=by
 refine ⟨Int.mul_nonneg hx hy,?_⟩
 have h1:x*y<=999999999*y:=Int.mul_le_mul_of_nonneg_right (by omega) hy
 omega
theorem Wt (m n:Nat) (hm:A2 m<549755813888) (hn:A2 n<549755813888):Ip (Ad m) (Ad n)=some (Ad (m*n)):=by
 unfold Ip
 unfold A2 at hm hn
 by_cases hz:m=0\/n=0
 .have:(show Option Bool from bif (((Ad m).length:Int)==(0:Int)) then some true else some (((Ad n).length:Int)==(0:Int)))=some true:=by
   show (bif (((Ad m).length:Int)==(0:Int)) then some true else some (((Ad n).length:Int)==(0:Int)))=some true
   by_cases h:m=0
   .subst h; rw [Di]; rfl
   .have y:n=0:=by omega
    subst y
    rw [Dw (by have:=E3 h; have:(Ad m).length≠0:=fun e=>this (List.length_eq_zero_iff.1 e); omega),Di]; rfl
  rw [this,Ah,cond_true]
  have:m*n=0:=by rcases hz with rfl | rfl <;> simp
  rw [this,Di]
 .have I:m≠0:=by omega
  have y:n≠0:=by omega
  have aa:(Ad m).length≠0:=fun e=>E3 I (List.length_eq_zero_iff.1 e)
  have a8:(Ad n).length≠0:=fun e=>E3 y (List.length_eq_zero_iff.1 e)
  simp only [Dw (by omega:((Ad m).length:Int)≠0),Dw (by omega:((Ad n).length:Int)≠0),cond_false,Ah]
  have hw:Ac (((Ad m).length:Int)+((Ad n).length:Int))=(((Ad m).length+(Ad n).length:Nat):Int):=by rw [Ac,Cd] <;> omega
  rw [hw,Ir rfl rfl (Nat.le_refl _) (by omega) (by omega)]
  simp only [Ah]
  have ha:=Cu m
  have hb:=Cu n
  refine E8 (fun (i,o)=>∃k:Nat,i=k/\k<=(Ad m).length/\o.length=(Ad m).length+(Ad n).length/\A6 o/\o.drop (k+(Ad n).length)=List.replicate ((Ad m).length-k) 0/\Ae o=Ae ((Ad m).take k)*n)
   (fun (i,_)=>(Ad m).length-i.toNat) (fun o=>o.length=(Ad m).length+(Ad n).length/\A6 o/\Ae o=((m*n:Nat):Int))
   ⟨0,rfl,by omega,by simp,A6.replicate _,by rw [List.drop_replicate]; congr 1; omega,by simp [Rp,Ae]⟩ ?_ ?_
  .rintro ⟨i,o⟩ ⟨k,rfl,hk,R,D,L,G⟩
   rcases Nat.lt_or_ge k (Ad m).length with h | h
   .have hx:=ha.get h
    have e4:=G1 h (by omega)
    have e5:decide ((k:Int)<((Ad m).length:Int))=true:=Be (by omega)
    simp only [e5,cond_true]
    refine .inl (Mi (Eh (fun (c,j,o')=>∃q:Nat,j=q/\q<=(Ad n).length/\o'.length=(Ad m).length+(Ad n).length/\A6 o'/\o'.drop (k+(Ad n).length)=List.replicate ((Ad m).length-k) 0/\0<=c/\c<1000000000 /\
      Ae o' + 1000000000 ^ (k+q)*c=Ae o+1000000000 ^ k*((Ad m)[k]*Ae ((Ad n).take q)))
     (fun (_,j,_)=>(Ad n).length-j.toNat) (fun (c,j,o')=>o'.length=(Ad m).length+(Ad n).length/\A6 o'/\o'.drop (k+(Ad n).length)=List.replicate ((Ad m).length-k) 0/\0<=c/\c<1000000000 /\
      Ae o' + 1000000000 ^ (k+(Ad n).length)*c=Ae o+1000000000 ^ k*((Ad m)[k]*n))
     ⟨0,rfl,by omega,R,D,L,by omega,by omega,by simp [Ae]⟩ ?_ ?_))
    .rintro ⟨c,j,o'⟩ ⟨q,rfl,hq,l,b,f,z,hc,x⟩
     rcases Nat.lt_or_ge q (Ad n).length with hq' | hq'
     .have hy:=hb.get hq'
      have g:k+q<o'.length:=by omega
      have a1:=b.get g
      have a6:=Rx hx.1 hx.2 hy.1 hy.2
      have Y:Ak (Ad m)[k]=(Ad m)[k]:=B2 (by omega) (by omega)
      have X:Ak (Ad n)[q]=(Ad n)[q]:=B2 (by omega) (by omega)
      have V:Ak ((Ad m)[k]*(Ad n)[q])=(Ad m)[k]*(Ad n)[q]:=B2 (by omega) (by omega)
      have U:Ak o'[k+q]=o'[k+q]:=B2 (by omega) (by omega)
      have S:Ak ((Ad m)[k]*(Ad n)[q]+o'[k+q])=(Ad m)[k]*(Ad n)[q]+o'[k+q]:=B2 (by omega) (by omega)
      have N:Ak ((Ad m)[k]*(Ad n)[q]+o'[k+q]+c)=(Ad m)[k]*(Ad n)[q]+o'[k+q]+c:=B2 (by omega) (by omega)
      have e6:=G1 hq' (by omega)
      have e7:decide ((q:Int)<((Ad n).length:Int))=true:=Be (by omega)
      have M:Ac ((k:Int)+(q:Int))=((k+q:Nat):Int):=by rw [Ac,Cd] <;> omega
      generalize hs:(Ad m)[k]*(Ad n)[q]+o'[k+q]+c=s at N
      have A:0<=s:=by omega
      have a7:s<1000000000000000000:=by omega
      have E:Bg (s % 1000000000)=s % 1000000000:=Dg (by omega) (by omega)
      refine .inl ⟨(s / 1000000000,((q+1:Nat):Int),o'.set (k+q) (s % 1000000000)),?_,⟨q+1,rfl,by omega,by simpa using l,b.set _ (by omega) (by omega),?_,by omega,by omega,?_⟩,by simp; omega⟩
      .simp only [e7,cond_true,Cj rfl h,Cj rfl hq',M,Cj rfl g,Ah,Y,X,V,U,S,hs,N,F9 A (show (0:Int)<1000000000 by decide),Gl A (show s<=_ by omega) (show (0:Int)<1000000000 by decide),E,e6,E9 rfl]
      .rw [List.drop_set_of_lt (by omega)]; exact f
      .rw [G0 _ g,Dh _ hq']
       have:=Int.mul_ediv_add_emod s 1000000000
       have Z:(1000000000:Int) ^ (k+(q+1))=1000000000 ^ (k+q)*1000000000:=by rw [<-Nat.add_assoc,Int.pow_succ]
       have p2:(1000000000:Int) ^ (k+q)=1000000000 ^ k*1000000000 ^ q:=Int.pow_add ..
       rw [Z]
       grind
     .have:q=(Ad n).length:=by omega
      subst this
      refine .inr ⟨(c,_,o'),by simp; rfl,l,b,f,z,hc,?_⟩
      rw [List.take_length,C5] at x
      exact x
    .rintro ⟨c,j,o'⟩ ⟨l,b,f,z,hc,x⟩
     have M:Ac ((k:Int)+((Ad n).length:Int))=((k+(Ad n).length:Nat):Int):=by rw [Ac,Cd] <;> omega
     have g:k+(Ad n).length<o'.length:=by omega
     have E:Bg c=c:=Dg (by omega) (by omega)
     have u:o'[k+(Ad n).length]=0:=by
      have:=congrArg List.head? f
      rw [List.head?_drop,Ci g] at this
      have B:(List.replicate ((Ad m).length-k) (0:Int)).head? = some 0:=by
       cases hh:(Ad m).length-k with
       | zero=>omega
       | succ t=>rfl
      rw [B] at this
      exact Option.some.inj this
     refine ⟨_,by simp only [M,Cj rfl g,Ah,E,e4,E9 rfl]; rfl,_,rfl,⟨k+1,rfl,by omega,by simpa using l,b.set _ z hc,?_,?_⟩,by simp; omega⟩
     .rw [List.drop_set_of_lt (by omega),show k+1+(Ad n).length=(k+(Ad n).length)+1 by omega,<-List.drop_drop,f,List.drop_replicate]
      congr 1
     .rw [G0 _ g,u,Dh _ h,Int.add_mul,<-G]
      grind
   .have J:k=(Ad m).length:=by omega
    subst J
    refine .inr ⟨o,by simp,R,D,?_⟩
    rw [List.take_length,C5] at G
    rw [G]; simp
  .rintro o ⟨h2,h3,h4⟩
   rw [Jn o (by omega),Ah,Gm h3 h4]
theorem Abr (a:List Int) (m:Nat) (ha:A6 a) (X:a.length<1099511627776) (V:m<1000000000) :
  ∃o,Md a m=some o/\o.length=a.length+1/\A6 o/\Ae o=Ae a*m:=by
 unfold Md
 have u:Ac ((a.length:Int)+1)=((a.length+1:Nat):Int):=by rw [Ac,Cd] <;> omega
 rw [u,Ir rfl rfl (Nat.le_refl _) (by omega) (by omega)]
 simp only [Ah]
 refine Eh (fun (c,i,o)=>∃k:Nat,i=k/\k<=a.length/\o.length=a.length+1/\A6 o/\o.drop k=List.replicate (a.length+1-k) 0/\0<=c/\c<1000000000/\Ae o+1000000000 ^ k*c=Ae (a.take k)*m)
  (fun (_,i,_)=>a.length-i.toNat) (fun (c,o)=>o.length=a.length+1/\A6 o/\o.drop a.length = [0]/\0<=c/\c<1000000000/\Ae o+1000000000 ^ a.length*c=Ae a*m)
  ⟨0,rfl,by omega,by simp,A6.replicate _,by simp,by omega,by omega,by simp [Ae,Rp]⟩ ?_ ?_
 .rintro ⟨c,i,o⟩ ⟨k,rfl,hk,B,q,g,z,hc,I⟩
  rcases Nat.lt_or_ge k a.length with h | h
  .have hx:=ha.get h
   have f:k<o.length:=by omega
   have G:=Rx hx.1 hx.2 (show (0:Int)<=m by omega) (by omega)
   have U:=G1 h (by omega)
   have S:decide ((k:Int)<(a.length:Int))=true:=Be (by omega)
   have E:Ak a[k]=a[k]:=B2 (by omega) (by omega)
   have D:Ak (a[k]*(m:Int))=a[k]*m:=B2 (by omega) (by omega)
   have A:Ak (a[k]*(m:Int)+c)=a[k]*m+c:=B2 (by omega) (by omega)
   have b:o[k]=0:=by
    have:=congrArg List.head? g
    rw [List.head?_drop,Ci f] at this
    have l:(List.replicate (a.length+1-k) (0:Int)).head? = some 0:=by
     cases Y:a.length+1-k with
     | zero=>omega
     | succ t=>rfl
    rw [l] at this
    exact Option.some.inj this
   generalize L:a[k]*(m:Int)+c=s at A
   have j:0<=s:=by omega
   have J:s<1000000000000000000:=by omega
   have x:Bg (s % 1000000000)=s % 1000000000:=Dg (by omega) (by omega)
   refine .inl ⟨(s / 1000000000,((k+1:Nat):Int),o.set k (s % 1000000000)),?_,⟨k+1,rfl,by omega,by simpa using B,q.set _ (by omega) (by omega),?_,by omega,by omega,?_⟩,by simp; omega⟩
   .simp only [S,cond_true,Cj rfl h,Cj rfl f,Ah,E,D,L,A,F9 j (show (0:Int)<1000000000 by decide),Gl j (show s<=_ by omega) (show (0:Int)<1000000000 by decide),x,U,E9 rfl]
   .rw [List.drop_set_of_lt (by omega),<-List.drop_drop,g,List.drop_replicate]; congr 1
   .rw [G0 _ f,b,Dh _ h,Int.pow_succ]
    have:=Int.mul_ediv_add_emod s 1000000000
    grind
  .have y:k=a.length:=by omega
   subst y
   refine .inr ⟨(c,o),by simp,B,q,by rw [g]; simp,z,hc,by rwa [List.take_length] at I⟩
 .rintro ⟨c,o⟩ ⟨h2,h3,g,R,N,M⟩
  have f:a.length<o.length:=by omega
  have x:Bg c=c:=Dg (by omega) (by omega)
  have b:o[a.length]=0:=by
   have:=congrArg List.head? g
   rw [List.head?_drop,Ci f] at this
   exact Option.some.inj this
  refine ⟨o.set a.length c,by simp only [Cj rfl f,Ah,x,E9 rfl],by simpa using h2,h3.set _ R N,?_⟩
  rw [G0 _ f,b,<-M]; grind
end Go.Ab
namespace Go.Ab
open Go
theorem Jp {α:Type} {l:List α} {off n:Nat} {i:Int} {k:Nat} (b:i=k) (hk:k<n) (h:off+k<l.length):De l off n i=some l[off+k]:=by
 subst b
 have h1:(0:Int)<=(k:Int):=by omega
 have h2:(k:Int)<(n:Int):=by omega
 simp [De,hk,h]
theorem Ahx {P j k tb hb V U q g B:Int} (i:0<P) (u:V=j+P*tb) (l:0<=j) (x:U=k+P*hb) (s:k<P) (hq:q*V<=U) (c:0<=g) (h:hb<g*tb) (b:0<=tb):q<g:=by
 rcases Int.lt_or_le q g with h' | h'
 .exact h'
 .exfalso
  have f:0<=V:=by
   have:=Int.mul_nonneg (Int.le_of_lt i) b
   omega
  have h1:g*V<=q*V:=Int.mul_le_mul_of_nonneg_right h' f
  have h2:g*(P*tb)<=g*V:=Int.mul_le_mul_of_nonneg_left (by omega) c
  have h3:P*(hb+1)<=P*(g*tb):=Int.mul_le_mul_of_nonneg_left (by omega) (Int.le_of_lt i)
  have z:g*(P*tb)=P*(g*tb):=by grind
  have y:P*(hb+1)=P*hb+P:=by grind
  omega
theorem Abs {P j k tb hb V U q g:Int} (i:0<P) (y:V=j+P*tb) (s:j<P) (z:U=k+P*hb) (u:0<=k) (hq:U<(q+1)*V) (l:0<=g) (hgt:g<=tb+1) (h:g*tb<=hb) (b:0<V):g<=q+1:=by
 rcases Int.lt_or_le (q+1) g with h' | h'
 .exfalso
  have f:0<=g-1:=by
   rcases Int.lt_or_le g 1 with h2 | h2
   .have:g=0:=by omega
    subst this
    have c:q+1<0:=h'
    have:(q+1)*V<0:=Int.mul_neg_of_neg_of_pos c b
    have h0:0<=hb:=by simpa using h
    have:=Int.mul_nonneg (Int.le_of_lt i) h0
    omega
   .omega
  have h1:(q+1)*V<=(g-1)*V:=Int.mul_le_mul_of_nonneg_right (by omega) (Int.le_of_lt b)
  have x:P*(tb+1)=P*tb+P:=by grind
  have h2:(g-1)*V<=(g-1)*(P*(tb+1)):=Int.mul_le_mul_of_nonneg_left (by omega) f
  have h3:(g-1)*(P*(tb+1))=P*(g*tb+(g-tb-1)):=by grind
  have A:P*(g*tb+(g-tb-1))<=P*hb:=Int.mul_le_mul_of_nonneg_left (by omega) (Int.le_of_lt i)
  omega
 .exact h'
theorem Ahy {A C:Type} {X:Option (A×C)} {Q:A->C->Prop} (h:∃r,X=some r/\Q r.1 r.2):∃q o,X=some (q,o)/\Q q o:=by
 obtain ⟨⟨a,c⟩,h1,h2⟩:=h
 exact ⟨a,c,h1,h2⟩
theorem al1 {g t r h:Int} (k:g*t+r=h):(g-1)*t+(r+t)=h:=by grind
theorem al2 {o P s x b p d:Int} (e:s-1000000000*d=x-b-p):o+P*(s-x)-P*1000000000*d=(o-P*b)-P*p:=by grind
theorem al3 (b X K g A y:Int):b-X*(g*A)-X*K*(g*y)=b-X*(g*(A+K*y)):=by grind
theorem al4 {u X W N c U b g V:Int} (h:u+X*(W+N*c-U)-X*N*b=u-X*(g*V)):X*(U-g*V)=X*(W+N*(c-b)):=by grind
theorem al5 (u X q:Int):u-X*q-u=X*(-q):=by grind
theorem al6 {o P x b r:Int} (h:o-P*b=r):o+P*(x-b-x)=r:=by grind
theorem al7 {b X K c s x y o A:Int} (g:x+y+c=s) (f:1000000000*(s / 1000000000)+s % 1000000000=s) (h:b+X*K*c=o+X*A):b+X*K*(s % 1000000000-x)+X*K*1000000000*(s / 1000000000)=o+X*(A+K*y):=by grind
theorem al8 {o X N b u q V W f U c:Int} (h1:o-X*N*b=u-X*((q+1)*V)) (h2:u+X*(W+N*f-U)+X*N*c=o+X*V):X*(U-q*V)=X*(W+N*(f-b+c)):=by grind
theorem al9 {g P c o X V b u q f:Int} (h1:g+P*c=o+X*V) (h2:o-P*b=u-X*((q+1)*V)) (h3:f=b-c):g+P*(0-f)=u-X*(q*V):=by grind
theorem gtb {g t r h x:Int} (k:g*t+r=h):g*(t*1000000000+x)=(h-r)*1000000000+g*x:=by subst k; grind
theorem Wu {k:Nat} {x y:Int} (h:(1000000000:Int) ^ k*x=1000000000 ^ k*y):x=y:=Int.eq_of_mul_eq_mul_left (by have:=Gb k; omega) h
theorem Abt {o u:List Int} {off:Nat} (b:off<=o.length) (hu:off<=u.length) (h:o.take off=u.take off):Ae o-Ae u=1000000000 ^ off*(Ae (o.drop off)-Ae (u.drop off)):=by
 rw [H7 o off b,H7 u off hu,h]; grind
theorem Ry {l:List Int} (h:A6 l) (k:Nat):0<=Ae (l.drop k):=Dy (h.drop k).u32
theorem Ahz {D:List Int} (b:A6 D) {n:Nat} (h2:2<=n) (i:n<D.length) (g:Ae D<1000000000 ^ (n+1)) :
  Ae D=Ae (D.take (n-2))+1000000000 ^ (n-2)*((D[n]*1000000000+D[n-1])*1000000000+D[n-2]):=by
 have e:=H7 D (n+1) i
 have h0:Ae (D.drop (n+1))=0:=by
  have q:=Ry b (n+1)
  have ht:=Dy ((b.take (n+1)).u32)
  rcases Int.lt_or_le 0 (Ae (D.drop (n+1))) with h | h
  .have:(1000000000:Int) ^ (n+1)*1<=1000000000 ^ (n+1)*Ae (D.drop (n+1)):=Int.mul_le_mul_of_nonneg_left h (Int.le_of_lt (Gb _))
   omega
  .omega
 rw [h0,Int.mul_zero,Int.add_zero] at e
 obtain ⟨t,rfl⟩:∃t,n=t+2:=⟨n-2,by omega⟩
 have l:=Dh D (k:=t) (by omega)
 have e2:=Dh D (k:=t+1) (by omega)
 have j:=Dh D (k:=t+2) (by omega)
 have f:(1000000000:Int) ^ (t+1)=1000000000 ^ t*1000000000:=Int.pow_succ ..
 have c:(1000000000:Int) ^ (t+2)=1000000000 ^ (t+1)*1000000000:=Int.pow_succ ..
 have i1:t+2-2=t:=rfl
 have i2:t+2-1=t+1:=rfl
 simp only [i1,i2]
 rw [e,j,e2,l,c,f]
 grind
theorem Ah0 {v:List Int} {n:Nat} (h2:2<=n) (f:v.length=n) :
  Ae v=Ae (v.take (n-2))+1000000000 ^ (n-2)*(v[n-1]*1000000000+v[n-2]):=by
 obtain ⟨t,rfl⟩:∃t,n=t+2:=⟨n-2,by omega⟩
 have c:=Dh v (k:=t) (by omega)
 have e2:=Dh v (k:=t+1) (by omega)
 have e:v.take (t+1+1)=v:=List.take_of_length_le (by omega)
 rw [e] at e2
 have b:(1000000000:Int) ^ (t+1)=1000000000 ^ t*1000000000:=Int.pow_succ ..
 have i1:t+2-2=t:=rfl
 have i2:t+2-1=t+1:=rfl
 simp only [i1,i2]
 rw [e2,c,b]
 grind
set_option maxHeartbeats 1000000 in
theorem Ah1 (v u:List Int) (off n:Nat) (hv:A6 v) (hu:A6 u) (hn:v.length=n) (h2:2<=n) (bw:n<1099511627776) (bn:500000000<=v[n-1]) (X:off+n<u.length) (hT:Ae (u.drop off)<Ae v*1000000000) :
  ∃q o,Oi off (n+1) v u=some (q,o)/\o.length=u.length/\A6 o/\0<=q/\q<1000000000/\Ae o=Ae u-1000000000 ^ off*(q*Ae v)/\0<=Ae (o.drop off)/\Ae (o.drop off)<Ae v:=by
 have b7:=Fu hv
 rw [hn] at b7
 have c1:(u.drop off).length=u.length-off:=List.length_drop
 have A:=hu.drop off
 have bm:=Dy A.u32
 have b9:Ae (u.drop off)<1000000000 ^ (n+1):=by rw [Int.pow_succ]; omega
 have ab:=Ahz A h2 (by omega) b9
 have ao:=Ah0 h2 hn
 have gd:∀i (h:i<(u.drop off).length),(u.drop off)[i]=u[off+i]'(by omega):=fun i h=>List.getElem_drop
 rw [gd,gd,gd] at ab
 have bq:=hu.get (i:=off+n) (by omega)
 have bs:=hu.get (i:=off+(n-1)) (by omega)
 have br:=hu.get (i:=off+(n-2)) (by omega)
 have bt:=hv.get (i:=n-1) (by omega)
 have ad:=hv.get (i:=n-2) (by omega)
 have hP:=Gb (n-2)
 have b8:=Dy ((hv.take (n-2)).u32)
 have aa:=Fu (hv.take (n-2))
 rw [List.length_take,Nat.min_eq_left (by omega)] at aa
 have bb:=Dy ((A.take (n-2)).u32)
 have ba:=Fu (A.take (n-2))
 rw [List.length_take,Nat.min_eq_left (by omega)] at ba
 have y:0<Ae v:=by
  have:(1000000000:Int) ^ (n-2)*1<=1000000000 ^ (n-2)*(v[n-1]*1000000000+v[n-2]):=Int.mul_le_mul_of_nonneg_left (by omega) (Int.le_of_lt hP)
  omega
 generalize hq:Ae (u.drop off) / Ae v=q
 have bh:q*Ae v<=Ae (u.drop off):=by rw [<-hq]; exact Int.ediv_mul_le _ (by omega)
 have ar:Ae (u.drop off)<(q+1)*Ae v:=by
  rw [<-hq]
  have:=Int.lt_ediv_add_one_mul_self (Ae (u.drop off)) y
  exact this
 have ag:0<=q:=by rw [<-hq]; exact Int.ediv_nonneg bm (by omega)
 have bf:q<1000000000:=by rw [<-hq]; exact Int.ediv_lt_of_lt_mul y (by rw [Int.mul_comm]; exact hT)
 have l:(0:Int)<v[n-1]:=by omega
 generalize ak:u[off+n]*1000000000+u[off+(n-1)]=head at ab
 have am:0<=head:=by omega
 have bz:head<=v[n-1]*1000000000+v[n-2]:=by
  rcases Int.lt_or_le (v[n-1]*1000000000+v[n-2]) head with h | h
  .exfalso
   have a1:(1000000000:Int) ^ (n-2)*((v[n-1]*1000000000+v[n-2]+1)*1000000000)<=1000000000 ^ (n-2)*(head*1000000000+u[off+(n-2)]):=Int.mul_le_mul_of_nonneg_left (by omega) (Int.le_of_lt hP)
   have a2:Ae v*1000000000<(1000000000 ^ (n-2)*(v[n-1]*1000000000+v[n-2]+1))*1000000000:=by
    have:(1000000000:Int) ^ (n-2)*(v[n-1]*1000000000+v[n-2]+1)=1000000000 ^ (n-2)*(v[n-1]*1000000000+v[n-2])+1000000000 ^ (n-2):=by grind
    omega
   have a3:((1000000000:Int) ^ (n-2)*(v[n-1]*1000000000+v[n-2]+1))*1000000000=1000000000 ^ (n-2)*((v[n-1]*1000000000+v[n-2]+1)*1000000000):=by grind
   omega
  .exact h
 have c0:0<=head / v[n-1]:=Int.ediv_nonneg am (by omega)
 have bk:head / v[n-1]<=1000000001:=by
  have:head / v[n-1]<1000000002:=Int.ediv_lt_of_lt_mul l (by omega)
  omega
 have be:=Int.emod_nonneg head (by omega:v[n-1]≠0)
 have bu:=Int.emod_lt_of_pos head l
 have bl:=Int.mul_ediv_add_emod head v[n-1]
 unfold Oi
 have w1:Ac ((v.length:Int)-1)=((n-1:Nat):Int):=by rw [Ac,Cd] <;> omega
 have w2:Ac ((v.length:Int)-2)=((n-2:Nat):Int):=by rw [Ac,Cd] <;> omega
 have w3:(v.length:Int)=((n:Nat):Int):=by omega
 have x1:Ak u[off+n]=u[off+n]:=B2 (by omega) (by omega)
 have x2:Ak (u[off+n]*1000000000)=u[off+n]*1000000000:=B2 (by omega) (by omega)
 have x3:Ak u[off+(n-1)]=u[off+(n-1)]:=B2 (by omega) (by omega)
 have x4:Ak (u[off+n]*1000000000+u[off+(n-1)])=head:=by rw [Ak,B2 (by omega) (by omega),ak]
 have x5:Ak v[n-1]=v[n-1]:=B2 (by omega) (by omega)
 have x6:Ak v[n-2]=v[n-2]:=B2 (by omega) (by omega)
 have x7:Ak u[off+(n-2)]=u[off+(n-2)]:=B2 (by omega) (by omega)
 rw [w1,w2,Cj rfl (by omega:n-1<v.length),Ah,Cj rfl (by omega:n-2<v.length),Ah,w3,Jp rfl (by omega:n<n+1) (by omega),Ah,Jp rfl (by omega:n-1<n+1) (by omega),Ah,x1,x2,x3,x4,x5,x6,Gl am (by omega) l,Ah,F9 am l,Ah]
 refine Ahy (Eh (fun (g,rest)=>g*v[n-1]+rest=head/\0<=rest/\rest<2000000000/\q<=g/\g<=1000000001) (fun (g,_)=>g.toNat) (fun g=>q<=g/\g<=q+1/\g<=1000000000)
  ⟨by rw [Int.mul_comm]; exact bl,be,by omega,?_,bk⟩ ?_ ?_)
 .
  rcases Int.lt_or_le (head / v[n-1]) q with h | h
  .exfalso
   have a1:(head / v[n-1]+1)*v[n-1]<=q*v[n-1]:=Int.mul_le_mul_of_nonneg_right (by omega) (by omega)
   have a2:head<(head / v[n-1]+1)*v[n-1]:=Int.lt_ediv_add_one_mul_self head l
   have a3:q*(1000000000 ^ (n-2)*(v[n-1]*1000000000+v[n-2]))<=q*Ae v:=Int.mul_le_mul_of_nonneg_left (by omega) ag
   have a4:(1000000000:Int) ^ (n-2)*((head+1)*1000000000)<=1000000000 ^ (n-2)*(q*(v[n-1]*1000000000+v[n-2])):=by
    apply Int.mul_le_mul_of_nonneg_left _ (Int.le_of_lt hP)
    have b1:(head+1)*1000000000<=q*v[n-1]*1000000000:=by omega
    have b2:0<=q*v[n-2]:=Int.mul_nonneg ag ad.1
    have b3:q*(v[n-1]*1000000000+v[n-2])=q*v[n-1]*1000000000+q*v[n-2]:=by grind
    omega
   have a5:q*((1000000000:Int) ^ (n-2)*(v[n-1]*1000000000+v[n-2]))=1000000000 ^ (n-2)*(q*(v[n-1]*1000000000+v[n-2])):=by grind
   have a6:(1000000000:Int) ^ (n-2)*((head+1)*1000000000)=1000000000 ^ (n-2)*(head*1000000000)+1000000000 ^ (n-2)*1000000000:=by grind
   have a7:(1000000000:Int) ^ (n-2)*(head*1000000000+u[off+(n-2)])=1000000000 ^ (n-2)*(head*1000000000)+1000000000 ^ (n-2)*u[off+(n-2)]:=by grind
   have a8:(1000000000:Int) ^ (n-2)*(u[off+(n-2)]+1)<=1000000000 ^ (n-2)*1000000000:=Int.mul_le_mul_of_nonneg_left (by omega) (Int.le_of_lt hP)
   have a9:(1000000000:Int) ^ (n-2)*(u[off+(n-2)]+1)=1000000000 ^ (n-2)*u[off+(n-2)]+1000000000 ^ (n-2):=by grind
   omega
  .exact h
 .rintro ⟨g,rest⟩ ⟨k1,k2,k3,k4,k5⟩
  have S:0<=g:=by omega
  have w4:Ak (v[n-1])=v[n-1]:=x5
  have af:∀(hgt:q<g),(some (Sum.inl ((Ak (g-1)),(Ak (rest+v[n-1])))):Option ((Int×Int)⊕Int))=some (.inl (g-1,rest+v[n-1])):=by
   intro hgt
   rw [show Ak (g-1)=g-1 from B2 (by omega) (by omega),show Ak (rest+v[n-1])=rest+v[n-1] from B2 (by omega) (by omega)]
  have stay:∀(hr:rest<1000000000) (hgt:q<g),(g-1)*v[n-1]+(rest+v[n-1])=head/\0<=rest+v[n-1]/\rest+v[n-1]<2000000000/\q<=g-1/\g-1<=1000000001:=by
   intro hr hgt
   exact ⟨al1 k1,by omega,by omega,by omega,by omega⟩
  by_cases hr:rest<1000000000
  .by_cases Y:g>=1000000000
   .refine .inl ⟨(g-1,rest+v[n-1]),?_,stay hr (by omega),by simp; omega⟩
    simp only [Be hr,cond_true,Be Y,Ah]
    exact af (by omega)
   .have bp:=Rx S (by omega) ad.1 ad.2
    have y1:Ak (g*v[n-2])=g*v[n-2]:=B2 (by omega) (by omega)
    have y2:Ak (rest*1000000000)=rest*1000000000:=B2 (by omega) (by omega)
    have y3:Ak (rest*1000000000+u[off+(n-2)])=rest*1000000000+u[off+(n-2)]:=B2 (by omega) (by omega)
    have az:g*(v[n-1]*1000000000+v[n-2])=(head-rest)*1000000000+g*v[n-2]:=gtb k1
    simp only [Be hr,cond_true,Bo Y,cond_false,Jp rfl (by omega:n-2<n+1) (by omega:off+(n-2)<u.length),Ah,y1,x7,y2,y3]
    by_cases ae:g*v[n-2]>rest*1000000000+u[off+(n-2)]
    .have hgt:q<g:=Ahx (P:=1000000000 ^ (n-2)) (tb:=v[n-1]*1000000000+v[n-2]) (hb:=head*1000000000+u[off+(n-2)]) (B:=0) hP ao b8 ab ba bh S (by omega) (by omega)
     refine .inl ⟨(g-1,rest+v[n-1]),?_,stay hr hgt,by simp; omega⟩
     rw [Be ae,cond_true]
     exact af hgt
    .refine .inr ⟨g,by rw [Bo ae,cond_false],k4,?_,by omega⟩
     exact Abs (P:=1000000000 ^ (n-2)) (tb:=v[n-1]*1000000000+v[n-2]) (hb:=head*1000000000+u[off+(n-2)]) hP ao aa ab bb ar S (by omega) (by omega) y
  .refine .inr ⟨g,by simp only [Bo hr,cond_false,Ah],k4,?_⟩
   have Y:g<=1000000000:=by
    rcases Int.lt_or_le 1000000000 g with h | h
    .exfalso
     have:g=1000000001:=by omega
     subst this
     omega
    .exact h
   refine ⟨?_,Y⟩
   have az:g*(v[n-1]*1000000000+v[n-2])=(head-rest)*1000000000+g*v[n-2]:=gtb k1
   have bo:g*v[n-2]<=1000000000*v[n-2]:=Int.mul_le_mul_of_nonneg_right Y ad.1
   exact Abs (P:=1000000000 ^ (n-2)) (tb:=v[n-1]*1000000000+v[n-2]) (hb:=head*1000000000+u[off+(n-2)]) hP ao aa ab bb ar S (by omega) (by omega) y
 .rintro g ⟨k1,k2,k3⟩
  have S:0<=g:=by omega
  refine Eh (fun (b,i,o)=>∃k:Nat,i=k/\k<=n/\o.length=u.length/\A6 o/\o.take off=u.take off/\o.drop (off+k)=u.drop (off+k)/\0<=b/\b<=1000000001/\Ae o-1000000000 ^ (off+k)*b=Ae u-1000000000 ^ off*(g*Ae (v.take k)))
   (fun (_,i,_)=>n-i.toNat) (fun (b,o)=>o.length=u.length/\A6 o/\o.take off=u.take off/\o.drop (off+n)=u.drop (off+n)/\0<=b/\b<=1000000001/\Ae o-1000000000 ^ (off+n)*b=Ae u-1000000000 ^ off*(g*Ae v))
   ⟨0,rfl,by omega,rfl,hu,rfl,rfl,by omega,by omega,by simp [Ae]⟩ ?_ ?_
  .rintro ⟨b,i,o⟩ ⟨k,rfl,hk,ho,I,M,L,b6,b5,f⟩
   rcases Nat.lt_or_ge k n with h | h
   .have E:off+k<o.length:=by omega
    have J:k<v.length:=by omega
    have hx:=I.get E
    have hy:=hv.get J
    have e4:=G1 h (by omega)
    have e5:decide ((k:Int)<(n:Int))=true:=Be (by omega)
    have av:0<=g*v[k]:=Int.mul_nonneg S hy.1
    have bv:g*v[k]<=1000000000*v[k]:=Int.mul_le_mul_of_nonneg_right k3 hy.1
    have y1:Ak v[k]=v[k]:=B2 (by omega) (by omega)
    have y2:Ak (g*v[k])=g*v[k]:=B2 (by omega) (by omega)
    have y3:Ac o[off+k]=o[off+k]:=Cd (by omega) (by omega)
    generalize au:g*v[k]=p at *
    have y4:Ac (o[off+k]-b)=o[off+k]-b:=Cd (by omega) (by omega)
    have y5:Ac (p % 1000000000)=p % 1000000000:=Cd (by omega) (by omega)
    have y6:Ac (o[off+k]-b-p % 1000000000)=o[off+k]-b-p % 1000000000:=Cd (by omega) (by omega)
    have y7:Ac (p / 1000000000)=p / 1000000000:=Cd (by omega) (by omega)
    simp only [e5,cond_true,Jp rfl (by omega:k<n+1) E,Cj rfl J,Ah,y1,y2,au,y3,y4,F9 av (show (0:Int)<1000000000 by decide),Gl av (show p<=_ by omega) (show (0:Int)<1000000000 by decide),y5,y6,y7]
    refine .inl (Mi (Eh (fun (b',s)=>∃t:Nat,b'=p / 1000000000+t/\s=o[off+k]-b-p % 1000000000+t*1000000000/\s<1000000000/\t<=3) (fun (_,s)=>(-s).toNat)
     (fun (b',s)=>∃t:Nat,b'=p / 1000000000+t/\s=o[off+k]-b-p % 1000000000+t*1000000000/\s<1000000000/\0<=s/\t<=2) ⟨0,by simp,by simp,by omega,by omega⟩ ?_ ?_))
    .rintro ⟨b',s⟩ ⟨t,rfl,hs,ac,ht⟩
     by_cases G:s<0
     .refine .inl ⟨(p / 1000000000+(t+1:Nat),s+1000000000),?_,⟨t+1,rfl,by rw [hs]; simp; omega,by omega,by omega⟩,by simp; omega⟩
      rw [Be G,cond_true,show Ac (p / 1000000000+(t:Int)+1)=p / 1000000000+((t+1:Nat):Int) by rw [Ac,Cd] <;> omega,show Ac (s+1000000000)=s+1000000000 from Cd (by omega) (by omega)]
     .exact .inr ⟨(p / 1000000000+t,s),by rw [Bo G,cond_false],t,rfl,hs,ac,by omega,by omega⟩
    .rintro ⟨b',s⟩ ⟨t,rfl,hs,ac,G,ht⟩
     have y8:Bg s=s:=Dg (by omega) (by omega)
     refine ⟨.inl (p / 1000000000+t,((k+1:Nat):Int),o.set (off+k) s),by simp only [Jp rfl (by omega:k<n+1) E,Ah,y8,e4]; rw [E9 (n:=off+k) (by omega)],_,rfl,⟨k+1,rfl,by omega,by simpa using ho,I.set _ G ac,?_,?_,by omega,by omega,?_⟩,by simp; omega⟩
     .rw [List.take_set_of_le (by omega)]; exact M
     .rw [List.drop_set_of_lt (by omega),show off+(k+1)=(off+k)+1 by omega,<-List.drop_drop,L,List.drop_drop]
     .rw [G0 _ E,Dh v J,show off+(k+1)=(off+k)+1 by omega,Int.pow_succ]
      have ay:=Int.mul_ediv_add_emod p 1000000000
      have pa:(1000000000:Int) ^ (off+k)=1000000000 ^ off*1000000000 ^ k:=Int.pow_add ..
      have eA:s-1000000000*(p / 1000000000+(t:Int))=o[off+k]-b-p:=by rw [hs]; omega
      rw [al2 eA,f,<-au,pa]
      exact al3 _ _ _ _ _ _
   .have aj:k=n:=by omega
    subst aj
    refine .inr ⟨(b,o),by simp,ho,I,M,L,b6,b5,?_⟩
    rw [List.take_of_length_le (by omega)] at f
    exact f
  .rintro ⟨b,o⟩ ⟨ho,I,M,L,b6,b5,f⟩
   have hV:=y
   have ah:off+n<o.length:=by omega
   have ax:o[off+n]=u[off+n]:=by
    have:=congrArg List.head? L
    rw [List.head?_drop,List.head?_drop,Ci ah,Ci X] at this
    exact Option.some.inj this
   have hE:Ae (u.drop (off+n))=u[off+n]:=by
    have a1:=H7 (u.drop off) (n+1) (by omega)
    have a2:=Dy (((hu.drop off).take (n+1)).u32)
    have a3:=Ry (hu.drop off) (n+1)
    have a4:Ae ((u.drop off).drop (n+1))=0:=by
     rcases Int.lt_or_le 0 (Ae ((u.drop off).drop (n+1))) with h | h
     .have:(1000000000:Int) ^ (n+1)*1<=1000000000 ^ (n+1)*Ae ((u.drop off).drop (n+1)):=Int.mul_le_mul_of_nonneg_left h (Int.le_of_lt (Gb _))
      omega
     .omega
    rw [List.drop_eq_getElem_cons X]
    simp only [Ae]
    rw [List.drop_drop,show off+(n+1)=off+n+1 by omega] at a4
    rw [a4]; omega
   have main:∀o':List Int,o'.length=u.length->A6 o'->o'.take off=u.take off->o'.drop (off+n)=u.drop (off+n)->0<=Ae ((o'.drop off).take n)/\Ae ((o'.drop off).take n)<1000000000 ^ n /\
     Ae o'=Ae u+1000000000 ^ off*(Ae ((o'.drop off).take n)+1000000000 ^ n*u[off+n]-Ae (u.drop off)):=by
    intro o' l1 l2 l3 l4
    have a1:=H7 (o'.drop off) n (by rw [List.length_drop]; omega)
    rw [List.drop_drop,l4,hE] at a1
    have a2:=Abt (by omega) (by omega) l3
    refine ⟨Dy (((l2.drop off).take n).u32),?_,by rw [<-a1]; omega⟩
    have:=Fu ((l2.drop off).take n)
    rw [List.length_take,List.length_drop,Nat.min_eq_left (by omega)] at this
    exact this
   obtain ⟨m1,m2,m3⟩:=main o ho I M L
   have pa:(1000000000:Int) ^ (off+n)=1000000000 ^ off*1000000000 ^ n:=Int.pow_add ..
   have star:Ae (u.drop off)-g*Ae v=Ae ((o.drop off).take n)+1000000000 ^ n*(u[off+n]-b):=by
    apply Wu (k:=off)
    rw [m3,pa] at f
    exact al4 f
   have y1:Ac u[off+n]=u[off+n]:=Cd (by omega) (by omega)
   have y2:Ac (u[off+n]-b)=u[off+n]-b:=Cd (by omega) (by omega)
   have ap:=Gb n
   have fin:∀(U:List Int) (x:Int) (j:List Int),U=j.set (off+n) x->j.length=u.length->A6 j->0<=x->x<1000000000->j.take off=u.take off->Ae U=Ae u-1000000000 ^ off*(q*Ae v) ->
     U.length=u.length/\A6 U/\0<=q/\q<1000000000/\Ae U=Ae u-1000000000 ^ off*(q*Ae v)/\0<=Ae (U.drop off)/\Ae (U.drop off)<Ae v:=by
    intro U x j e l1 l2 x0 x1 l3 aq
    have L4:U.length=u.length:=by rw [e]; simpa using l1
    have T4:U.take off=u.take off:=by rw [e,List.take_set_of_le (by omega)]; exact l3
    have hp:=Abt (by omega) (by omega) T4
    have hd:Ae (U.drop off)=Ae (u.drop off)-q*Ae v:=by
     have:Ae (U.drop off)-Ae (u.drop off) = - (q*Ae v):=by
      apply Wu (k:=off)
      rw [<-hp,aq]; exact al5 _ _ _
     omega
    have bg:(q+1)*Ae v=q*Ae v+Ae v:=by grind
    exact ⟨L4,by rw [e]; exact l2.set _ x0 x1,ag,bf,aq,by omega,by omega⟩
   simp only [Jp rfl (by omega:n<n+1) ah,ax,Ah,y1,y2]
   by_cases z:u[off+n]-b>=0
   .have bx:g*Ae v<=Ae (u.drop off):=by
     have:=Int.mul_nonneg (Int.le_of_lt ap) z
     omega
    have R:g=q:=by
     rcases Int.lt_or_le q g with h | h
     .exfalso
      have:(q+1)*Ae v<=g*Ae v:=Int.mul_le_mul_of_nonneg_right (by omega) (by omega)
      omega
     .omega
    have y3:Bg (u[off+n]-b)=u[off+n]-b:=Dg (by omega) (by omega)
    have y4:Bg g=g:=Dg (by omega) (by omega)
    rw [Be z,cond_true,y3,y4,E9 (n:=off+n) (by omega)]
    refine ⟨_,rfl,?_⟩
    rw [R]
    refine fin _ (u[off+n]-b) o rfl ho I z (by omega) M ?_
    rw [G0 _ ah,ax]
    rw [R] at f
    exact al6 f
   .have R:g=q+1:=by
     have h1:1000000000 ^ n*(u[off+n]-b)<=1000000000 ^ n*(-1):=Int.mul_le_mul_of_nonneg_left (by omega) (Int.le_of_lt ap)
     rcases Int.lt_or_le q g with h | h
     .omega
     .exfalso
      have:g*Ae v<=q*Ae v:=Int.mul_le_mul_of_nonneg_right h (by omega)
      omega
    rw [Bo z,cond_false]
    refine Eh (fun (c,i,j)=>∃k:Nat,i=k/\k<=n/\j.length=u.length/\A6 j/\j.take off=u.take off/\j.drop (off+k)=o.drop (off+k)/\0<=c/\c<=1/\Ae j+1000000000 ^ (off+k)*c=Ae o+1000000000 ^ off*Ae (v.take k))
     (fun (_,i,_)=>n-i.toNat) (fun (c,j)=>j.length=u.length/\A6 j/\j.take off=u.take off/\j.drop (off+n)=o.drop (off+n)/\0<=c/\c<=1/\Ae j+1000000000 ^ (off+n)*c=Ae o+1000000000 ^ off*Ae v)
     ⟨0,rfl,by omega,ho,I,M,rfl,by omega,by omega,by simp [Ae]⟩ ?_ ?_
    .rintro ⟨c,i,j⟩ ⟨k,rfl,hk,h3,N,V,Z,b4,b0,D⟩
     rcases Nat.lt_or_ge k n with h | h
     .have E:off+k<j.length:=by omega
      have J:k<v.length:=by omega
      have hx:=N.get E
      have hy:=hv.get J
      have e4:=G1 h (by omega)
      have e5:decide ((k:Int)<(n:Int))=true:=Be (by omega)
      have z1:Bg (j[off+k]+v[k])=j[off+k]+v[k]:=Dg (by omega) (by omega)
      have z2:Bg (j[off+k]+v[k]+c)=j[off+k]+v[k]+c:=Dg (by omega) (by omega)
      generalize hs:j[off+k]+v[k]+c=s at z2
      have G:0<=s:=by omega
      have ac:s<2000000000:=by omega
      refine .inl ⟨(s / 1000000000,((k+1:Nat):Int),j.set (off+k) (s % 1000000000)),?_,⟨k+1,rfl,by omega,by simpa using h3,N.set _ (by omega) (by omega),?_,?_,by omega,by omega,?_⟩,by simp; omega⟩
      .simp only [e5,cond_true,Jp rfl (by omega:k<n+1) E,Cj rfl J,Ah,z1,hs,z2,Wn G (show s<=_ by omega) (show (0:Int)<1000000000 by decide),F9 G (show (0:Int)<1000000000 by decide),e4]
       rw [E9 (n:=off+k) (by omega)]
      .rw [List.take_set_of_le (by omega)]; exact V
      .rw [List.drop_set_of_lt (by omega),show off+(k+1)=(off+k)+1 by omega,<-List.drop_drop,Z,List.drop_drop]
      .rw [G0 _ E,Dh v J,show off+(k+1)=(off+k)+1 by omega,Int.pow_succ]
       have ay:=Int.mul_ediv_add_emod s 1000000000
       have pk:(1000000000:Int) ^ (off+k)=1000000000 ^ off*1000000000 ^ k:=Int.pow_add ..
       rw [pk] at D ⊢
       exact al7 hs ay D
     .have aj:k=n:=by omega
      subst aj
      refine .inr ⟨(c,j),by simp,h3,N,V,Z,b4,b0,?_⟩
      rw [List.take_of_length_le (by omega)] at D
      exact D
    .rintro ⟨c,j⟩ ⟨h3,N,V,Z,b4,b0,D⟩
     have ai:off+n<j.length:=by omega
     obtain ⟨r1,r2,r3⟩:=main j h3 N V (Z.trans L)
     have bi:j[off+n]=u[off+n]:=by
      have:=congrArg List.head? (Z.trans L)
      rw [List.head?_drop,List.head?_drop,Ci ai,Ci X] at this
      exact Option.some.inj this
     have bd:Ae (u.drop off)-q*Ae v=Ae ((j.drop off).take n)+1000000000 ^ n*(u[off+n]-b+c):=by
      apply Wu (k:=off)
      rw [r3,pa] at D
      rw [R] at f
      rw [pa] at f
      exact al8 f D
     have bj:u[off+n]-b+c=0:=by
      have bg:(q+1)*Ae v=q*Ae v+Ae v:=by grind
      rcases Int.lt_or_le (u[off+n]-b+c) 0 with h | h
      .exfalso
       have h1:1000000000 ^ n*(u[off+n]-b+c)<=1000000000 ^ n*(-1):=Int.mul_le_mul_of_nonneg_left (by omega) (Int.le_of_lt ap)
       omega
      .omega
     have y5:Ac c=c:=Cd (by omega) (by omega)
     have y6:Ac (u[off+n]-b+c)=0:=by rw [bj]; rfl
     have y7:Bg (0:Int)=0:=rfl
     have y8:Ak (g-1)=q:=by rw [R,Ak,B2 (by omega) (by omega)]; omega
     have y9:Bg q=q:=Dg (by omega) (by omega)
     simp only [Jp rfl (by omega:n<n+1) ai,Ah,y5,y6,y7,y8,y9]
     rw [E9 (n:=off+n) (by omega)]
     refine ⟨_,rfl,?_⟩
     refine fin _ 0 j rfl h3 N (by omega) (by omega) V ?_
     rw [G0 _ ai,bi]
     rw [R] at f
     exact al9 D f (by omega)
end Go.Ab
namespace Go.Ab
open Go
theorem Ah2 (a:List Int) (m:Int):Wh a m=Md a m:=rfl
theorem Ah3 {t d r:Int} (ht:1<=t) (b:t<1000000000) (hd:d*(t+1)+r=1000000000) (g:0<=r) (c:r<=t):500000000<=d*t:=by
 have f:0<=d:=by
  rcases Int.lt_or_le d 0 with h | h
  .exfalso
   have:d*(t+1)<=(-1)*(t+1):=Int.mul_le_mul_of_nonneg_right (by omega) (by omega)
   omega
  .exact h
 have e:d*(t+1)=d*t+d:=by grind
 rcases Int.lt_or_le t 2 with h | h
 .have:t=1:=by omega
  subst this
  omega
 .rcases Int.lt_or_le d 2 with h2 | h2
  .have:d=0\/d=1:=by omega
   rcases this with rfl | rfl <;> omega
  .have h3:2*(t-1)<=d*(t-1):=Int.mul_le_mul_of_nonneg_right h2 (by omega)
   have i:d*(t-1)=d*t-d:=by grind
   omega
theorem bl1 (P t d:Int):P*t*d=P*(d*t):=by grind
theorem bl2 {u o X q V K Q S:Int} (h:o=u-X*(q*V)) (b:u+V*(X*1000000000)*Q=S):o+V*X*(q+1000000000*Q)=S:=by grind
set_option maxHeartbeats 1000000 in
theorem Wv (m n:Nat) (hm:A2 m<274877906944) (hn:A2 n<274877906944) (G:n≠0):Kq (Ad m) (Ad n)=some (Ad (m / n),Ad (m % n)):=by
 unfold Kq
 rw [Mk m n (by omega) (by omega),Ah]
 unfold A2 at hm hn
 by_cases g:m<n
 .rw [show Db m n = -1 by rw [Db,if_pos g],Be (by decide:(-1:Int)<0),cond_true,Ft (by simp; omega),Ah,Nat.div_eq_of_lt g,Nat.mod_eq_of_lt g,Di]; rfl
 .rw [Bo (show ¬Db m n<0 by rw [Db,if_neg g]; split <;> decide),cond_false]
  have bd:(Ad n).length<=(Ad m).length:=Fa (by omega)
  have b0:(Ad n).length≠0:=fun e=>E3 G (List.length_eq_zero_iff.1 e)
  by_cases h1:(Ad n).length=1
  .rw [Hk (by omega:((Ad n).length:Int)=1),cond_true]
   have a6:n<1000000000:=by
    have:=H8 n
    rw [show A2 n=1 from h1] at this
    simpa using this
   have am:Ad n = [(n:Int)]:=by
    rw [Hm G,Nat.div_eq_of_lt a6,Di,Nat.mod_eq_of_lt a6]
   rw [am,show Ag [(n:Int)] 0=some (n:Int) from rfl,Ah,show Ak (n:Int)=n from B2 (by omega) (by omega),Ws m n (by unfold A2; omega) (by omega) (by omega),Ah]
   have az:m % n<n:=Nat.mod_lt _ (by omega)
   rw [Jo (m % n) (by omega),Ah]
  .rw [Dw (by omega:((Ad n).length:Int)≠1),cond_false]
   generalize hL:(Ad n).length=L at *
   generalize hA:(Ad m).length=A at *
   have w1:Ac ((L:Int)-1)=((L-1:Nat):Int):=by rw [Ac,Cd] <;> omega
   have hi:L-1<(Ad n).length:=by omega
   have ht:=(Cu n).get hi
   have ax:(Ad n)[L-1]≠0:=by
    have:=(Rq n).2 (E3 G)
    rw [List.getLast_eq_getElem] at this
    simpa [hL] using this
   generalize y:(Ad n)[L-1]=t at *
   have w2:Ak t=t:=B2 (by omega) (by omega)
   have w3:Ak (t+1)=t+1:=B2 (by omega) (by omega)
   rw [w1,Cj rfl hi,y,Ah,w2,w3,Gl (by decide) (by decide) (by omega),Ah]
   have U:=Int.mul_ediv_add_emod 1000000000 (t+1)
   have ah:=Int.emod_nonneg 1000000000 (by omega:t+1≠0)
   have b9:=Int.emod_lt_of_pos 1000000000 (by omega:0<t+1)
   have aq:1<=1000000000 / (t+1):=by
    rcases Int.lt_or_le (1000000000 / (t+1)) 1 with h | h
    .exfalso
     have:(t+1)*(1000000000 / (t+1))<=(t+1)*0:=Int.mul_le_mul_of_nonneg_left (by omega) (by omega)
     omega
    .exact h
   have ap:1000000000 / (t+1)<=500000000:=by
    have:=Int.ediv_lt_of_lt_mul (a:=1000000000) (b:=500000001) (c:=t+1) (by omega) (by omega)
    omega
   obtain ⟨d,hd⟩:∃d:Nat,1000000000 / (t+1)=(d:Int):=⟨(1000000000 / (t+1)).toNat,by omega⟩
   rw [hd] at U aq ap ⊢
   obtain ⟨u,ag,E,S,R⟩:=Abr (Ad m) d (Cu m) (by omega) (by omega)
   obtain ⟨v0,af,ae,D,b7⟩:=Abr (Ad n) d (Cu n) (by omega) (by omega)
   rw [ag,Ah,Ah2,af,Ah,C5] at *
   rw [hL] at ae
   rw [hA] at E
   rw [Abi rfl (by omega:L<=v0.length),Ah]
   have x:=Gb (L-1)
   have pL:(1000000000:Int) ^ L=1000000000 ^ (L-1)*1000000000:=by rw [<-Int.pow_succ]; congr 1; omega
   have Y:=Dh (Ad n) hi
   rw [List.take_of_length_le (by omega),C5,y] at Y
   have ay:=Dy (((Cu n).take (L-1)).u32)
   have Z:=Fu ((Cu n).take (L-1))
   rw [List.length_take,hL,Nat.min_eq_left (by omega)] at Z
   have bb:(n:Int)*d<1000000000 ^ L:=by
    have a1:(n:Int)*d<(1000000000 ^ (L-1)*(t+1))*d:=Int.mul_lt_mul_of_pos_right (by
     have:(1000000000:Int) ^ (L-1)*(t+1)=1000000000 ^ (L-1)*t+1000000000 ^ (L-1):=by grind
     omega) (by omega)
    have a2:(1000000000 ^ (L-1)*(t+1))*(d:Int)=1000000000 ^ (L-1)*((t+1)*d):=by grind
    have a3:(1000000000:Int) ^ (L-1)*((t+1)*d)<=1000000000 ^ (L-1)*1000000000:=Int.mul_le_mul_of_nonneg_left (by omega) (Int.le_of_lt x)
    omega
   have M:Ae (v0.take L)=(n:Int)*d:=by
    have e:=H7 v0 L (by omega)
    have z:Ae (v0.drop L)=0:=by
     have a1:=Ry D L
     have a2:=Dy ((D.take L).u32)
     rcases Int.lt_or_le 0 (Ae (v0.drop L)) with h | h
     .have:(1000000000:Int) ^ L*1<=1000000000 ^ L*Ae (v0.drop L):=Int.mul_le_mul_of_nonneg_left h (Int.le_of_lt (Gb _))
      omega
     .omega
    rw [z] at e; omega
   have I:(v0.take L).length=L:=by rw [List.length_take]; omega
   have f:=D.take L
   have J:L-1<(v0.take L).length:=by omega
   have ak:500000000<=(d:Int)*t:=Ah3 (r:=1000000000 % (t+1)) (by omega) (by omega) (by rw [Int.mul_comm]; exact U) ah (by omega)
   have l:500000000<=(v0.take L)[L-1]:=by
    have e:=Dh (v0.take L) J
    rw [List.take_of_length_le (by omega),M] at e
    have b1:=Fu (f.take (L-1))
    rw [List.length_take,I,Nat.min_eq_left (by omega)] at b1
    have b2:(1000000000:Int) ^ (L-1)*t*d<=n*d:=Int.mul_le_mul_of_nonneg_right (by omega) (by omega)
    have b3:(1000000000:Int) ^ (L-1)*500000000<=1000000000 ^ (L-1)*(d*t):=Int.mul_le_mul_of_nonneg_left ak (Int.le_of_lt x)
    rw [bl1] at b2
    rcases Int.lt_or_le (v0.take L)[L-1] 500000000 with h | h
    .exfalso
     have b4:(1000000000:Int) ^ (L-1)*((v0.take L)[L-1]+1)<=1000000000 ^ (L-1)*500000000:=Int.mul_le_mul_of_nonneg_left (by omega) (Int.le_of_lt x)
     have b5:(1000000000:Int) ^ (L-1)*((v0.take L)[L-1]+1)=1000000000 ^ (L-1)*(v0.take L)[L-1]+1000000000 ^ (L-1):=by grind
     omega
    .exact h
   generalize b6:v0.take L=v at *
   have w4:Ac ((A:Int)-(L:Int))=((A-L:Nat):Int):=by rw [Ac,Cd] <;> omega
   have w5:Ac (((A-L:Nat):Int)+1)=((A-L+1:Nat):Int):=by rw [Ac,Cd] <;> omega
   rw [w4,w5,Ir rfl rfl (Nat.le_refl _) (by omega) (by omega),Ah,E]
   have b8:=Dy S.u32
   have ar:(0:Int)<(n:Int)*d:=Int.mul_pos (by omega) (by omega)
   refine E8 (fun (i,w,q)=>∃k:Nat,i=(k:Int)-1/\k<=A-L+1/\w.length=A+1/\A6 w/\q.length=A-L+1/\A6 q/\Ae w<Ae v*1000000000 ^ k/\Ae w+Ae v*1000000000 ^ k*Ae (q.drop k)=(m:Int)*d)
    (fun (i,_,_)=>(i+1).toNat) (fun (w,q)=>w.length=A+1/\A6 w/\q.length=A-L+1/\A6 q/\Ae w<Ae v/\Ae w+Ae v*Ae q=(m:Int)*d)
    ⟨A-L+1,by omega,Nat.le_refl _,E,S,by simp,A6.replicate _,?_,by rw [List.drop_of_length_le (by simp)]; simp [Ae,R]⟩ ?_ ?_
   .
    have aj:(m:Int)<1000000000 ^ A:=by
     have:=Fu (Cu m)
     rwa [C5,hA] at this
    have a1:(m:Int)*d<1000000000 ^ A*500000000:=by
     have c1:(m:Int)*d<=m*500000000:=Int.mul_le_mul_of_nonneg_left (by omega) (by omega)
     have c2:(m:Int)*500000000<1000000000 ^ A*500000000:=Int.mul_lt_mul_of_pos_right aj (by decide)
     omega
    have a2:(1000000000:Int) ^ (L-1)*500000000<=Ae v:=by
     have e:=Dh v J
     rw [List.take_of_length_le (by omega)] at e
     have b1:=Dy ((f.take (L-1)).u32)
     have b3:(1000000000:Int) ^ (L-1)*500000000<=1000000000 ^ (L-1)*v[L-1]:=Int.mul_le_mul_of_nonneg_left l (Int.le_of_lt x)
     omega
    have a3:(1000000000:Int) ^ (L-1)*500000000*1000000000 ^ (A-L+1)<=Ae v*1000000000 ^ (A-L+1):=Int.mul_le_mul_of_nonneg_right a2 (Int.le_of_lt (Gb _))
    have a4:(1000000000:Int) ^ (L-1)*500000000*1000000000 ^ (A-L+1)=1000000000 ^ A*500000000:=by
     have:(1000000000:Int) ^ A=1000000000 ^ (L-1)*1000000000 ^ (A-L+1):=by rw [<-Int.pow_add]; congr 1; omega
     rw [this]; grind
    rw [R]; omega
   .rintro ⟨i,w,q⟩ ⟨k,rfl,hk,ac,B,X,V,a7,s⟩
    cases k with
    | zero=>exact .inr ⟨(w,q),by simp,ac,B,X,V,by simpa using a7,by simpa using s⟩
    | succ j=>
     have e0:((j+1:Nat):Int)-1=(j:Int):=by omega
     have e1:decide ((j:Int)>=0)=true:=Be (by omega)
     have w6:Ac ((j:Int)+(L:Int))=((j+L:Nat):Int):=by rw [Ac,Cd] <;> omega
     have w7:Ac (((j+L:Nat):Int)+1)=((j+L+1:Nat):Int):=by rw [Ac,Cd] <;> omega
     have sA:F1 (A+1) (j:Int) ((j+L+1:Nat):Int)=some (j,j+L+1):=by
      have c1:(0:Int)<=(j:Int):=by omega
      have c2:(j:Int)<=((j+L+1:Nat):Int):=by omega
      have c3:((j+L+1:Nat):Int)<=((A+1:Nat):Int):=by omega
      have c4:(j:Int)=0\/(j:Int)<((j+L+1:Nat):Int):=by omega
      rw [F1,if_pos ⟨c1,c2,c3,c4⟩]; rfl
     have au:Ae (w.drop j)<Ae v*1000000000:=by
      have s1:=H7 w j (by omega)
      have s2:=Dy ((B.take j).u32)
      rcases Int.lt_or_le (Ae (w.drop j)) (Ae v*1000000000) with h | h
      .exact h
      .exfalso
       have:(1000000000:Int) ^ j*(Ae v*1000000000)<=1000000000 ^ j*Ae (w.drop j):=Int.mul_le_mul_of_nonneg_left h (Int.le_of_lt (Gb _))
       have e:Ae v*(1000000000:Int) ^ (j+1)=1000000000 ^ j*(Ae v*1000000000):=by rw [Int.pow_succ]; grind
       omega
     obtain ⟨qd,o,r1,r2,r3,r4,r5,r6,r7,r8⟩:=Ah1 v w j L f B I (by omega) (by omega) l (by omega) au
     have a8:j<q.length:=by omega
     have w8:Ac ((j:Int)-1)=(j:Int)-1:=by rw [Ac,Cd] <;> omega
     have lG:Gt (A+1) o=some ():=by rw [Gt,if_pos (by omega)]
     refine .inl ⟨((j:Int)-1,o,q.set j qd),?_,⟨j,rfl,by omega,by omega,r3,by simpa using X,V.set _ r4 r5,?_,?_⟩,by simp⟩
     .simp only [e0,e1,cond_true,w6,w7,sA,Ah,Nat.zero_add,show j+L+1-j=L+1 by omega,r1,lG,Cj rfl a8,w8,E9 rfl]
     .have s1:=H7 o j (by omega)
      have s2:=Fu (r3.take j)
      rw [List.length_take,Nat.min_eq_left (by omega)] at s2
      have:(1000000000:Int) ^ j*(Ae (o.drop j)+1)<=1000000000 ^ j*Ae v:=Int.mul_le_mul_of_nonneg_left (by omega) (Int.le_of_lt (Gb _))
      have e:(1000000000:Int) ^ j*(Ae (o.drop j)+1)=1000000000 ^ j*Ae (o.drop j)+1000000000 ^ j:=by grind
      rw [Int.mul_comm (Ae v)]; omega
     .have d1:(q.set j qd).drop j=qd::q.drop (j+1):=by
       rw [List.drop_eq_getElem_cons (by simpa using a8),List.drop_set_of_lt (by omega)]; simp
      rw [d1]
      simp only [Ae]
      rw [Int.pow_succ] at s
      exact bl2 (K:=0) r6 s
   .rintro ⟨w,q⟩ ⟨h2,h3,h4,h5,h6,h7⟩
    rw [M] at h6 h7
    have ad:=Dy h3.u32
    have ba:=Dy h5.u32
    have N:=(Int.ediv_emod_unique ar (r:=Ae w) (q:=Ae q) (a:=(m:Int)*d)).2 ⟨by rw [<-h7],ad,h6⟩
    have ao:(m*d) / (n*d)=m / n:=Nat.mul_div_mul_right m n (by omega)
    have ai:(m*d) % (n*d)=(m % n)*d:=Nat.mul_mod_mul_right d m n
    have av:Ae q=((m / n:Nat):Int):=by
     rw [<-N.1,<-ao]; simp
    have aa:Ae w=(((m % n)*d:Nat):Int):=by
     rw [<-N.2,<-ai]; simp
    have ab:A2 ((m % n)*d)<1099511627776:=by
     have g:=Fu h3
     have:A2 ((m % n)*d)<=A+1:=by
      apply Jm
      rw [h2,aa] at g
      have e:((1000000000 ^ (A+1):Nat):Int)=1000000000 ^ (A+1):=by rw [Int.natCast_pow]; rfl
      omega
     omega
    dsimp only
    rw [Jn w (by omega),Ah,Gm h3 aa,Ws _ d ab (by omega) (by omega),Ah,Jn q (by omega),Ah,Gm h5 av,Nat.mul_div_cancel _ (by omega)]
end Go.Ab
namespace Go.Ab
open Go
theorem Abu {n:Nat} (h:A2 n<=2):n<1000000000000000000:=by
 have h1:=H8 n
 have h2:1000000000 ^ A2 n<=1000000000 ^ 2:=Nat.pow_le_pow_right (by decide) h
 omega
theorem Abv (n:Nat) (h:A2 n<=2):Mc (Ad n)=some ((n:Int),true):=by
 unfold Mc
 unfold A2 at h
 have ha:=Cu n
 refine E8 (fun (w,i)=>∃k:Nat,i=k/\k<=(Ad n).length/\w=Ae ((Ad n).drop ((Ad n).length-k))) (fun (_,i)=>(Ad n).length-i.toNat)
  (fun e=>match e with | .inl _=>False | .inr w=>w=n) ⟨0,rfl,by omega,by simp [Ae]⟩ ?_ ?_
 .rintro ⟨w,i⟩ ⟨k,rfl,hk,rfl⟩
  rcases Nat.lt_or_ge k (Ad n).length with c | hge
  .have A:decide ((k:Int)<((Ad n).length:Int))=true:=Be (by omega)
   have u:Ac (((Ad n).length:Int)-1)=((Ad n).length:Int)-1:=by rw [Ac,Cd] <;> omega
   have s:Ac (((Ad n).length:Int)-1-(k:Int))=(((Ad n).length-1-k:Nat):Int):=by rw [Ac,Cd] <;> omega
   have hj:(Ad n).length-1-k<(Ad n).length:=by omega
   have hx:=ha.get hj
   have y:=Ry ha ((Ad n).length-k)
   have b:=Fu (ha.drop ((Ad n).length-k))
   rw [List.length_drop,show (Ad n).length-((Ad n).length-k)=k by omega] at b
   have x:(1000000000:Int) ^ k<=1000000000:=by
    have:k=0\/k=1:=by omega
    rcases this with rfl | rfl <;> decide
   have q:Ak (Ad n)[(Ad n).length-1-k]=(Ad n)[(Ad n).length-1-k]:=B2 (by omega) (by omega)
   have l:Ak (18446744073709551615-(Ad n)[(Ad n).length-1-k])=18446744073709551615-(Ad n)[(Ad n).length-1-k]:=B2 (by omega) (by omega)
   have j:Ak (Ae ((Ad n).drop ((Ad n).length-k))*1000000000)=Ae ((Ad n).drop ((Ad n).length-k))*1000000000:=B2 (by omega) (by omega)
   have g:Ak (Ae ((Ad n).drop ((Ad n).length-k))*1000000000+(Ad n)[(Ad n).length-1-k])=Ae ((Ad n).drop ((Ad n).length-k))*1000000000+(Ad n)[(Ad n).length-1-k]:=B2 (by omega) (by omega)
   have z:=G1 c (by omega)
   have hc:¬Ae ((Ad n).drop ((Ad n).length-k))>(18446744073709551615-(Ad n)[(Ad n).length-1-k]) / 1000000000:=by omega
   refine .inl ⟨(Ae ((Ad n).drop ((Ad n).length-k))*1000000000+(Ad n)[(Ad n).length-1-k],((k+1:Nat):Int)),?_,⟨k+1,rfl,by omega,?_⟩,by simp; omega⟩
   .simp only [A,cond_true,u,s,Cj rfl hj,Ah,q,l,Gl (show 0<=18446744073709551615-(Ad n)[(Ad n).length-1-k] by omega) (show 18446744073709551615-(Ad n)[(Ad n).length-1-k]<=_ by omega) (show (0:Int)<1000000000 by decide),Bo hc,cond_false,j,g,z]
   .have hd:(Ad n).drop ((Ad n).length-(k+1))=(Ad n)[(Ad n).length-1-k]::(Ad n).drop ((Ad n).length-k):=by
     rw [show (Ad n).length-(k+1)=(Ad n).length-1-k by omega,List.drop_eq_getElem_cons hj]
     congr 2; omega
    rw [hd]; simp only [Ae]; omega
  .have:k=(Ad n).length:=by omega
   subst this
   refine .inr ⟨.inr _,by simp; rfl,?_⟩
   exact C5 n
 .rintro (e | e) f
  .exact f.elim
  .simp only at f ⊢; rw [f]
theorem Ah4 (m n:Nat) (A:A2 m<274877906944) (z:A2 n<274877906944):N9 (Ad m) (Ad n)=some (Ad (Nat.gcd m n)):=by
 unfold N9
 refine E8 (fun (a,b)=>∃x y:Nat,a=Ad x/\b=Ad y/\A2 x<274877906944/\A2 y<274877906944/\Nat.gcd x y=Nat.gcd m n) (fun (_,b)=>(Ae b).toNat)
  (fun e=>match e with | .inl r=>r=Ad (Nat.gcd m n) | .inr r=>r=Ad (Nat.gcd m n)) ⟨m,n,rfl,rfl,A,z,rfl⟩ ?_ ?_
 .rintro ⟨a,b⟩ ⟨x,y,rfl,rfl,hx,hy,k⟩
  by_cases c:y=0
  .subst c
   refine .inr ⟨.inr (Ad x),by rw [Di]; rfl,?_⟩
   show Ad x=_
   rw [<-k,Nat.gcd_zero_right]
  .have B:(Ad y).length≠0:=fun e=>E3 c (List.length_eq_zero_iff.1 e)
   have l:decide (((Ad y).length:Int)>0)=true:=Be (by omega)
   by_cases h2:A2 x<=2/\A2 y<=2
   .have i:=Abu h2.1
    have h:=Abu h2.2
    unfold A2 at h2
    simp only [l,cond_true,Be (by omega:((Ad x).length:Int)<=2),Be (by omega:((Ad y).length:Int)<=2),Ah,Abv x h2.1,Abv y h2.2]
    refine .inr (Aho (Eh (fun (p,q)=>∃u v:Nat,p=u/\q=v/\u<1000000000000000000/\v<1000000000000000000/\Nat.gcd u v=Nat.gcd m n) (fun (_,q)=>q.toNat) (fun (p,q)=>p=((Nat.gcd m n:Nat):Int)/\Nat.gcd m n<1000000000000000000)
     ⟨x,y,rfl,rfl,i,h,k⟩ ?_ ?_))
    .rintro ⟨p,q⟩ ⟨u,v,rfl,rfl,hu,s,f⟩
     by_cases j:v=0
     .subst j
      refine .inr ⟨((u:Int),(0:Int)),rfl,?_⟩
      rw [Nat.gcd_zero_right] at f
      exact ⟨by rw [f],by omega⟩
     .refine .inl ⟨((v:Int),((u % v:Nat):Int)),?_,⟨v,u % v,rfl,rfl,s,by have:=Nat.mod_lt u (by omega:v>0); omega,?_⟩,?_⟩
      .simp only [Be (by omega:(v:Int)>0),cond_true,F9 (by omega:(0:Int)<=u) (by omega:(0:Int)<v),Ah]; rfl
      .rw [<-f,Nat.gcd_comm v,<-Nat.gcd_rec,Nat.gcd_comm]
      .have:=Nat.mod_lt u (by omega:v>0); simp only [Int.toNat_natCast]; exact this
    .rintro ⟨p,q⟩ ⟨rfl,D⟩
     dsimp only
     rw [Jo _ (by omega)]
     exact ⟨_,rfl,_,rfl,rfl⟩
   .refine .inl ⟨(Ad y,Ad (x % y)),?_,⟨y,x % y,rfl,rfl,hy,by have:=Fa (Nat.mod_le x y); omega,?_⟩,?_⟩
    .have:(bif (decide (((Ad x).length:Int)<=(2:Int))) then some (decide (((Ad y).length:Int)<=(2:Int))) else some false)=some false:=by
      unfold A2 at h2
      by_cases hc:(Ad x).length<=2
      .rw [Be (by omega:((Ad x).length:Int)<=2),cond_true,Bo (by omega:¬((Ad y).length:Int)<=2)]
      .rw [Bo (by omega:¬((Ad x).length:Int)<=2),cond_false]
     simp only [l,cond_true]
     rw [this,Ah,cond_false,Wv x y hx hy c,Ah]
    .rw [<-k,Nat.gcd_comm y,<-Nat.gcd_rec,Nat.gcd_comm]
    .simp only [C5]
     have:=Nat.mod_lt x (by omega:y>0)
     omega
 .rintro (e | e) g
  .simp only at g ⊢; rw [g]
  .simp only at g ⊢; rw [g]
theorem Ml:Ad 1 = [1]:=by rw [Hm (by decide),show 1 / 1000000000=0 by decide,Di]; rfl
theorem Ww (n:Nat):Kp (Ad n)=some (decide (n=1)):=by
 unfold Kp
 by_cases h0:n=0
 .subst h0; rw [Di]; rfl
 .rw [Hm h0]
  by_cases h1:n / 1000000000=0
  .rw [h1,Di]
   have e:Ag [((n % 1000000000:Nat):Int)] 0=some ((n % 1000000000:Nat):Int):=rfl
   simp only [List.length_singleton,e,Ah]
   have:(((1:Nat):Int)==(1:Int))=true:=rfl
   rw [this,cond_true]
   congr 1
   by_cases b:n=1
   .subst b; rfl
   .rw [Dw (by omega),Bo b]
  .have c:(Ad (n / 1000000000)).length≠0:=fun e=>E3 h1 (List.length_eq_zero_iff.1 e)
   rw [Dw (by simp; omega),cond_false,Bo (by omega)]
def Bs (b:Bool) (n d:Nat):A3:=if n=0 then ⟨false,[],[1]⟩ else ⟨b,Ad (n / Nat.gcd n d),Ad (d / Nat.gcd n d)⟩
theorem Rz (b:Bool) (n d:Nat) (h:A2 n<274877906944) (hd:A2 d<274877906944):Ik ⟨b,Ad n,Ad d⟩=some (Bs b n d):=by
 unfold Ik Qw
 dsimp only
 by_cases h0:n=0
 .subst h0; rw [Di]; rfl
 .have i:(Ad n).length≠0:=fun e=>E3 h0 (List.length_eq_zero_iff.1 e)
  rw [Dw (by omega),cond_false,Ww,Ah,Bs,if_neg h0]
  by_cases h1:d=1
  .subst h1
   rw [Be rfl,cond_true]
   simp
  .rw [Bo h1,cond_false,Ah4 n d h hd,Ah,Ww,Ah]
   by_cases g:Nat.gcd n d=1
   .rw [Be g,cond_true,g]; simp
   .have f:Nat.gcd n d≠0:=by
     have:=Nat.gcd_pos_of_pos_left d (by omega:0<n); omega
    have c:A2 (Nat.gcd n d)<274877906944:=by
     have:=Fa (Nat.gcd_le_left d (by omega:0<n)); omega
    rw [Bo g,cond_false,Wv n _ h c f,Ah,Wv d _ hd c f,Ah]; rfl
def nv (a:A3):Nat:=if (Ae a.Num).toNat=0\/(Ae a.Den).toNat=0 then 0 else (Ae a.Num).toNat
def dv (a:A3):Nat:=if (Ae a.Num).toNat=0\/(Ae a.Den).toNat=0 then 1 else (Ae a.Den).toNat
def sv (a:A3):Bool:=if (Ae a.Num).toNat=0\/(Ae a.Den).toNat=0 then false else a.Neg
structure RB (k:Nat) (a:A3):Prop where
 num:Gz a.Num
 den:Gz a.Den
 nl:a.Num.length<=k
 dl:a.Den.length<=k
theorem Ah5 {l:List Int} (h:Gz l):Ae l<=5*1000000000 ^ l.length-5:=by
 induction l with
 | nil=>simp [Ae]
 | cons d l ih=>
  have h1:=h d (by simp)
  have h2:=ih (fun x hx=>h x (by simp [hx]))
  simp only [Ae,List.length_cons]
  rw [Int.pow_succ]
  omega
theorem Ah6 {l:List Int} (h:Gz l):Ae l<1000000000 ^ (l.length+1):=by
 have h1:=Ah5 h
 have hp:=Gb l.length
 rw [Int.pow_succ]
 omega
theorem R0 {l:List Int} (h:Gz l):A2 (Ae l).toNat<=l.length+1:=by
 apply Jm
 have h1:=Ah6 h
 have h2:=Dy h
 have e:((1000000000 ^ (l.length+1):Nat):Int)=1000000000 ^ (l.length+1):=by rw [Int.natCast_pow]; rfl
 omega
theorem RB.mono {j k:Nat} {a:A3} (h:RB j a) (hk:j<=k):RB k a:=⟨h.num,h.den,by have:=h.nl; omega,by have:=h.dl; omega⟩
theorem Ou:A2 1=1:=by unfold A2; rw [Ml]; rfl
theorem RB.nv {k:Nat} {a:A3} (h:RB k a):A2 (nv a)<=k+1:=by
 unfold Ab.nv
 split
 .simp [Rs]
 .have:=R0 h.num; have:=h.nl; omega
theorem RB.dv {k:Nat} {a:A3} (h:RB k a):A2 (dv a)<=k+1:=by
 unfold Ab.dv
 split
 .simp [Ou]
 .have:=R0 h.den; have:=h.dl; omega
theorem Fb (a:A3):dv a≠0:=by
 unfold dv; split
 .decide
 .omega
theorem Wx (a:A3) (k:Nat) (h:RB k a) (hk:k<274877906900):H3 a=some ⟨sv a,Ad (nv a),Ad (dv a)⟩:=by
 unfold H3
 have h1:=h.nl
 have h2:=h.dl
 rw [Abo _ h.num (by omega),Ah,Abo _ h.den (by omega),Ah]
 unfold nv dv sv
 generalize (Ae a.Num).toNat=x
 generalize (Ae a.Den).toNat=y
 by_cases hx:x=0
 .subst hx
  simp only [Di,true_or,if_true,Ml]; rfl
 .have c:(Ad x).length≠0:=fun e=>E3 hx (List.length_eq_zero_iff.1 e)
  by_cases hy:y=0
  .subst hy
   simp only [Di,or_true,if_true,Ml,Dw (by omega:((Ad x).length:Int)≠0),cond_false]; rfl
  .have b:(Ad y).length≠0:=fun e=>E3 hy (List.length_eq_zero_iff.1 e)
   simp only [hx,hy,or_self,if_false,Dw (by omega:((Ad x).length:Int)≠0),cond_false,Dw (by omega:((Ad y).length:Int)≠0),Ah]
end Go.Ab
namespace Go.Ab
open Go
def Ky (s:Bool) (n:Nat):Int:=if n=0 then 0 else if s then -1 else 1
theorem Ah7 (s:Bool) (n:Nat) (d:List Int):Nw ⟨s,Ad n,d⟩=some (Ky s n):=by
 unfold Nw Ky
 dsimp only
 by_cases h:n=0
 .subst h; rw [Di]; rfl
 .have b:(Ad n).length≠0:=fun e=>E3 h (List.length_eq_zero_iff.1 e)
  rw [Dw (by omega),cond_false,if_neg h]
  cases s <;> rfl
theorem Ah8 (a:A3) (k:Nat) (h:RB k a) (hk:k<274877906900):Hg a=some (Ky (sv a) (nv a)):=by
 unfold Hg
 rw [Wx a k h hk,Ah,Ah7]; rfl
theorem Ah9 (z:Int) (h1 : -9223372036854775808<=z) (h2:z<=9223372036854775807):Kj z=some (Ad z.natAbs):=by
 unfold Kj
 by_cases h:z<0
 .have e:Ak z=z+18446744073709551616:=by
   have:IntKind.u64.wrap z=z % 18446744073709551616:=by simp [IntKind.wrap,IntKind.bits,IntKind.signed]
   rw [Ak,this]; omega
  have e2:Ak (0-(z+18446744073709551616))=((z.natAbs:Nat):Int):=by
   have:IntKind.u64.wrap (0-(z+18446744073709551616))=(0-(z+18446744073709551616)) % 18446744073709551616:=by simp [IntKind.wrap,IntKind.bits,IntKind.signed]
   rw [Ak,this]; omega
  rw [Be h,cond_true,e,e2,Jo _ (by omega)]; rfl
 .have e2:Ak z=((z.natAbs:Nat):Int):=by rw [Ak,B2 (by omega) (by omega)]; omega
  rw [Bo h,cond_false,e2,Jo _ (by omega)]; rfl
theorem Aia (z:Int) (h1 : -9223372036854775808<=z) (h2:z<=9223372036854775807):F3 z=some (Bs (decide (z<0)) z.natAbs 1):=by
 unfold F3
 have:=Ot (n:=z.natAbs) (by omega)
 rw [Ah9 z h1 h2,Ah,<-Ml,Rz _ _ _ (by omega) (by rw [Ou]; decide)]; rfl
def Jq (s1:Bool) (c g:Nat) (s2:Bool) (b f:Nat):Bool:=if s1=s2 then s1 else if b*g<=c*f then s1 else s2
def Ia (s1:Bool) (c g:Nat) (s2:Bool) (b f:Nat):Nat:=if s1=s2 then c*f+b*g else if b*g<=c*f then c*f-b*g else b*g-c*f
theorem Aib (a b:A3) (j k:Nat) (ha:RB j a) (hb:RB k b) (hj:j<68719476736) (hk:k<68719476736) :
  Ij a b=some (Bs (Jq (sv a) (nv a) (dv a) (sv b) (nv b) (dv b)) (Ia (sv a) (nv a) (dv a) (sv b) (nv b) (dv b)) (dv a*dv b)):=by
 unfold Ij Qs
 have h1:=ha.nv
 have h2:=ha.dv
 have h3:=hb.nv
 have s:=hb.dv
 have q:=H9 (nv a) (dv b)
 have l:=H9 (nv b) (dv a)
 have i:=H9 (dv a) (dv b)
 have h:=Wp (nv a*dv b) (nv b*dv a)
 have g:=Fa (Nat.sub_le (nv a*dv b) (nv b*dv a))
 have f:=Fa (Nat.sub_le (nv b*dv a) (nv a*dv b))
 rw [Wx a j ha (by omega),Ah,Wx b k hb (by omega),Ah]
 dsimp only
 rw [Wt _ _ (by omega) (by omega),Ah,Wt _ _ (by omega) (by omega),Ah,Wt _ _ (by omega) (by omega),Ah]
 by_cases c:sv a=sv b
 .have e:(sv a==sv b)=true:=by rw [c]; exact beq_self_eq_true _
  rw [e,cond_true,Ahw _ _ (by omega) (by omega),Ah,Ah,Rz _ _ _ (by omega) (by omega),Jq,Ia,if_pos c,if_pos c]; rfl
 .have e:(sv a==sv b)=false:=by simpa using c
  rw [e,cond_false,Mk _ _ (by omega) (by omega),Ah,Jq,Ia,if_neg c,if_neg c]
  by_cases hc:nv b*dv a<=nv a*dv b
  .rw [Be (show Db (nv a*dv b) (nv b*dv a)>=0 by rw [Db,if_neg (by omega)]; split <;> decide),cond_true,Abq _ _ (by omega) hc,Ah,Ah,Rz _ _ _ (by omega) (by omega),if_pos hc,if_pos hc]; rfl
  .rw [Bo (show ¬Db (nv a*dv b) (nv b*dv a)>=0 by rw [Db,if_pos (by omega)]; decide),cond_false,Abq _ _ (by omega) (by omega),Ah,Ah,Rz _ _ _ (by omega) (by omega),if_neg hc,if_neg hc]; rfl
theorem Wy (s:Bool) (d:Nat):Bs s 0 d=⟨false,[],[1]⟩:=by simp [Bs]
theorem Wz (s:Bool) (n d k:Nat) (b:A2 n<=k) (hd:A2 d<=k) (hk:1<=k):RB k (Bs s n d):=by
 unfold Bs
 split
 .refine ⟨(fun _ h=>by cases h),(fun x h=>?_),by simp,by simpa using hk⟩
  simp at h; subst h; decide
 .have h1:=Wq n (Nat.gcd n d)
  have h2:=Wq d (Nat.gcd n d)
  unfold A2 at *
  exact ⟨(Cu _).u32,(Cu _).u32,by simp only; omega,by simp only; omega⟩
theorem W0 (s:Bool) (n d:Nat) (hd:d≠0):nv (Bs s n d)=n / Nat.gcd n d/\dv (Bs s n d)=d / Nat.gcd n d/\(n≠0->sv (Bs s n d)=s)/\(n=0->sv (Bs s n d)=false):=by
 by_cases h0:n=0
 .subst h0
  rw [Wy]
  have c:d / Nat.gcd 0 d=1:=by rw [Nat.gcd_zero_left]; exact Nat.div_self (by omega)
  refine ⟨by simp [nv,Ae],?_,fun h=>(h rfl).elim,fun _=>by simp [sv,Ae]⟩
  rw [c]; simp [dv,Ae]
 .have f:0<Nat.gcd n d:=Nat.gcd_pos_of_pos_left d (by omega)
  have h1:n / Nat.gcd n d≠0:=by
   have:=Nat.div_pos (Nat.gcd_le_left d (by omega:0<n)) f; omega
  have h2:d / Nat.gcd n d≠0:=by
   have:=Nat.div_pos (Nat.gcd_le_right n (by omega:0<d)) f; omega
  have e:Bs s n d=⟨s,Ad (n / Nat.gcd n d),Ad (d / Nat.gcd n d)⟩:=by simp [Bs,h0]
  have b:(Ae (Ad (n / Nat.gcd n d))).toNat=n / Nat.gcd n d:=by rw [C5]; rfl
  have v2:(Ae (Ad (d / Nat.gcd n d))).toNat=d / Nat.gcd n d:=by rw [C5]; rfl
  rw [e]
  have hc:¬(n / Nat.gcd n d=0\/d / Nat.gcd n d=0):=by omega
  refine ⟨?_,?_,fun _=>?_,fun h=>(h0 h).elim⟩
  .simp only [nv,b,v2,if_neg hc]
  .simp only [dv,b,v2,if_neg hc]
  .simp only [sv,b,v2,if_neg hc]
theorem R3 (s:Bool) (n d k:Nat) (hk:k≠0):Bs s (k*n) (k*d)=Bs s n d:=by
 unfold Bs
 by_cases h:n=0
 .subst h; simp
 .have h1:k*n≠0:=Nat.mul_ne_zero hk h
  rw [if_neg h1,if_neg h,Nat.gcd_mul_left,Nat.mul_div_mul_left _ _ (by omega),Nat.mul_div_mul_left _ _ (by omega)]
theorem Aic {s t:Bool} {n d:Nat} (h:n≠0->s=t):Bs s n d=Bs t n d:=by
 unfold Bs
 by_cases h0:n=0
 .simp [h0]
 .rw [h h0]
end Go.Ab
namespace Go.Ab
open Go
theorem Abw (l:List Int):F4 l=(F5 l).bind fun v=>B1 4 [] v:=by
 unfold F4 F5
 generalize Aj _ _=x
 cases x with
 | none=>rfl
 | some v=>
  simp only [Ah]
  cases E2 l 0 v with
  | none=>rfl
  | some y=>
   simp only [Ah]
   cases B1 4 [] y <;> rfl
theorem Aid (l:List Int):(D9 l).length<=l.length:=by
 induction l with
 | nil=>simp [D9]
 | cons d l ih=>
  simp only [D9]
  cases ht:D9 l with
  | nil=>simp only []; split <;> simp
  | cons x m=>rw [ht] at ih; simpa using ih
theorem Kz (l:List Int) (b:l.length<2199023255552):F4 l=some (D9 l):=by
 have:=Aid l
 rw [Abw,Jn l (by omega),Ah,Ft (by simp; omega)]; rfl
theorem Abx (l:List Int) (hd:Gz l) (A:l.length<1099511627776):L5 l=some (Ad (Ae l).toNat):=by
 unfold L5
 refine E8 (fun (c,i,o)=>∃k:Nat,i=k/\k<=l.length/\o.length=k/\A6 o/\0<=c/\c<5/\Ae o+1000000000 ^ k*c=Ae (l.take k))
  (fun (_,i,_)=>l.length-i.toNat) (fun (c,o)=>o.length=l.length/\A6 o/\0<=c/\c<5/\Ae o+1000000000 ^ l.length*c=Ae l)
  ⟨0,rfl,by omega,rfl,A6.nil,by omega,by omega,by simp [Ae]⟩ ?_ ?_
 .rintro ⟨c,i,o⟩ ⟨k,rfl,hk,f,b,j,hc,s⟩
  rcases Nat.lt_or_ge k l.length with h | h
  .have hx:=hd l[k] (List.getElem_mem h)
   refine .inl ⟨((c+l[k]) / 1000000000,((k+1:Nat):Int),o++[(c+l[k]) % 1000000000]),?_,⟨k+1,rfl,by omega,by simp [f],b.snoc (by omega) (by omega),by omega,by omega,?_⟩,by simp; omega⟩
   .have y:Ak l[k]=l[k]:=B2 (by omega) (by omega)
    have e2:Ak (c+l[k])=c+l[k]:=B2 (by omega) (by omega)
    have q:Bg ((c+l[k]) % 1000000000)=(c+l[k]) % 1000000000:=Dg (by omega) (by omega)
    have x:=G1 h (by omega)
    have u:decide ((k:Int)<(l.length:Int))=true:=by simpa using h
    simp only [u,cond_true,Cj rfl h,Ah,y,e2,F9 (show 0<=c+l[k] by omega) (show (0:Int)<1000000000 by decide),q,Ft (show (o.length+[(c+l[k]) % 1000000000].length)*4<=_ by simp; omega),Gl (show 0<=c+l[k] by omega) (show c+l[k]<=_ by omega) (show (0:Int)<1000000000 by decide),x]
   .rw [Dh l h,<-s,Ga,f,Int.pow_succ]
    have:=Int.mul_ediv_add_emod (c+l[k]) 1000000000
    grind
  .have g:k=l.length:=by omega
   subst g
   refine .inr ⟨(c,o),by simp,f,b,j,hc,by simpa using s⟩
 .rintro ⟨c,o⟩ ⟨h2,h3,E,D,B⟩
  have z:=Dy hd
  by_cases hc:c>0
  .have q:Bg c=c:=Dg (by omega) (by omega)
   simp only [decide_eq_true hc,cond_true,q,Ft (show (o.length+[c].length)*4<=_ by simp; omega),Ah,Kz (o++[c]) (by simp; omega)]
   rw [Gm (h3.snoc (by omega) (by omega)) (n:=(Ae l).toNat) (by rw [Ga,h2]; omega)]
  .have:c=0:=by omega
   subst this
   simp only [Int.lt_irrefl,gt_iff_lt,decide_false,cond_false,Kz o (by omega),Ah]
   rw [Gm h3 (n:=(Ae l).toNat) (by omega)]
theorem R4 (n:Int):Il n=Iq n:=rfl
theorem R5 (a b:List Int):Jd a b=Kn a b:=rfl
theorem Aie (m d:Nat) (c:A2 m<1099511627776) (hd:0<d) (b:d<4294967296):Oa (Ad m) d=some (Ad (m / d),((m % d:Nat):Int)):=by
 have h:=Ws m d c hd b
 unfold Kr at h
 unfold Oa
 unfold A2 at c
 rw [Ir rfl rfl (Nat.le_refl _) (by omega) (by omega)] at h ⊢
 simp only [Ah] at h ⊢
 revert h
 generalize Aj _ _=x
 cases x with
 | none=>intro h; cases h
 | some v=>
  obtain ⟨r,o⟩:=v
  simp only [Ah]
  intro h
  rw [Abw]
  cases ht:F5 o with
  | none=>rw [ht] at h; cases h
  | some y=>
   rw [ht] at h
   simp only [Ah] at h ⊢
   have hy:y=Ad (m / d):=congrArg Prod.fst (Option.some.inj h)
   have:=Wq m d
   unfold A2 at this
   rw [Ft (by rw [hy]; simp; omega)]
   exact h
theorem R6 (m n:Nat) (X:A2 m<1099511627776) (G:n<=m):Je (Ad m) (Ad n)=some (Ad (m-n)):=by
 unfold Je
 have J:(Ad n).length<=(Ad m).length:=Fa G
 unfold A2 at X
 rw [Ir rfl rfl (Nat.le_refl _) (by omega) (by omega)]
 simp only [Ah]
 have ha:=Cu m
 have hb:=Cu n
 refine E8 (fun (c,i,o)=>∃k:Nat,i=k/\k<=(Ad m).length/\o.length=(Ad m).length/\A6 o/\o.drop k=List.replicate ((Ad m).length-k) 0/\0<=c/\c<=1/\Ae o=Ae ((Ad m).take k)-Ae ((Ad n).take k)+1000000000 ^ k*c)
  (fun (_,i,_)=>(Ad m).length-i.toNat) (fun o=>∃c:Int,o.length=(Ad m).length/\A6 o/\0<=c/\c<=1/\Ae o=(m:Int)-n+1000000000 ^ (Ad m).length*c)
  ⟨0,rfl,by omega,by simp,A6.replicate _,by simp,by omega,by omega,by simp [Ae,Rp]⟩ ?_ ?_
 .rintro ⟨c,i,o⟩ ⟨k,rfl,hk,E,u,y,M,hc,z⟩
  rcases Nat.lt_or_ge k (Ad m).length with h | h
  .have hx:=ha.get h
   have f:k<o.length:=by omega
   have S:=G1 h (by omega)
   have R:decide ((k:Int)<((Ad m).length:Int))=true:=Be (by omega)
   have b:o[k]=0:=by
    have:=congrArg List.head? y
    rw [List.head?_drop,Ci f] at this
    have x:(List.replicate ((Ad m).length-k) (0:Int)).head? = some 0:=by
     cases Y:(Ad m).length-k with
     | zero=>omega
     | succ t=>rfl
    rw [x] at this
    exact Option.some.inj this
   have key:∀s:Int,0<=s->s<=1000000000->Ae ((Ad m).take (k+1))-Ae ((Ad n).take (k+1))=Ae ((Ad m).take k)-Ae ((Ad n).take k)+1000000000 ^ k*((Ad m)[k]-s+c) ->
     ∃(l d:Int),(bif (decide ((Ad m)[k]>=s)) then (some (Sum.inl (0,((k+1:Nat):Int),(Ch o (k:Int) (Bg ((Ad m)[k]-s)))))) else (some (Sum.inl (1,((k+1:Nat):Int),(Ch o (k:Int) (Bg ((Bg ((Ad m)[k]+1000000000))-s)))))):Option ((Int×Int×List Int)⊕List Int))=some (.inl (l,((k+1:Nat):Int),o.set k d)) /\
      (∃q:Nat,((k+1:Nat):Int)=q/\q<=(Ad m).length/\(o.set k d).length=(Ad m).length/\A6 (o.set k d)/\(o.set k d).drop q=List.replicate ((Ad m).length-q) 0/\0<=l/\l<=1/\Ae (o.set k d)=Ae ((Ad m).take q)-Ae ((Ad n).take q)+1000000000 ^ q*l):=by
    intro s h1 h2 g
    have j:∀d:Int,(o.set k d).drop (k+1)=List.replicate ((Ad m).length-(k+1)) 0:=by
     intro d
     rw [List.drop_set_of_lt (by omega),<-List.drop_drop,y,List.drop_replicate]; congr 1
    by_cases N:(Ad m)[k]>=s
    .have A:Bg ((Ad m)[k]-s)=(Ad m)[k]-s:=Dg (by omega) (by omega)
     refine ⟨0,(Ad m)[k]-s,by rw [Be N,cond_true,A,E9 rfl],k+1,rfl,by omega,by simpa using E,u.set _ (by omega) (by omega),j _,by omega,by omega,?_⟩
     rw [G0 _ f,b,g,z]; grind
    .have A:Bg ((Ad m)[k]+1000000000)=(Ad m)[k]+1000000000:=Dg (by omega) (by omega)
     have V:Bg ((Ad m)[k]+1000000000-s)=(Ad m)[k]+1000000000-s:=Dg (by omega) (by omega)
     refine ⟨1,(Ad m)[k]+1000000000-s,by rw [Bo N,cond_false,A,V,E9 rfl],k+1,rfl,by omega,by simpa using E,u.set _ (by omega) (by omega),j _,by omega,by omega,?_⟩
     rw [G0 _ f,b,g,z,Int.pow_succ]; grind
   refine .inl ?_
   rcases Nat.lt_or_ge k (Ad n).length with hb' | hb'
   .have hy:=hb.get hb'
    have U:Bg (c+(Ad n)[k])=c+(Ad n)[k]:=Dg (by omega) (by omega)
    obtain ⟨l,d,D,B⟩:=key (c+(Ad n)[k]) (by omega) (by omega) (by rw [Dh _ h,Dh _ hb']; grind)
    refine ⟨(l,((k+1:Nat):Int),o.set k d),?_,B,by simp; omega⟩
    rw [<-D]
    simp only [R,cond_true,Cj rfl h,Cj rfl f,Ah,Be (by omega:(k:Int)<((Ad n).length:Int)),Cj rfl hb',U,S]
   .obtain ⟨l,d,D,B⟩:=key c (by omega) (by omega) (by rw [Dh _ h,Fx (Ad n) hb',Fx (Ad n) (by omega)]; grind)
    refine ⟨(l,((k+1:Nat):Int),o.set k d),?_,B,by simp; omega⟩
    rw [<-D]
    simp only [R,cond_true,Cj rfl h,Cj rfl f,Ah,Bo (by omega:¬(k:Int)<((Ad n).length:Int)),cond_false,S]
  .have L:k=(Ad m).length:=by omega
   subst L
   refine .inr ⟨o,by simp,c,E,u,M,hc,?_⟩
   rw [List.take_length,Fx _ J,C5,C5] at z
   exact z
 .rintro o ⟨c,h2,h3,h4,h5,Z⟩
  have I:=Fu h3
  rw [h2] at I
  have hp:=Gb (Ad m).length
  have:c=0:=by
   rcases Int.lt_or_le 0 c with hc | hc
   .have:c=1:=by omega
    subst this
    omega
   .omega
  subst this
  rw [Kz o (by omega),Ah,Gm h3 (n:=m-n) (by omega)]
end Go.Ab
namespace Go.Ab
open Go
theorem Aif {o:List Int} {k n:Nat} (hk:k<o.length) (h:o.drop k=List.replicate n 0):o[k]=0:=by
 have:=congrArg List.head? h
 rw [List.head?_drop,Ci hk] at this
 cases n with
 | zero=>simp at this
 | succ t=>exact Option.some.inj this
theorem cl1 {o X K c s x y A w:Int} (f:c+x+w=s) (hw:w=y*A) (b:1000000000*(s / 1000000000)+s % 1000000000=s) (z V:Int) (h:o+X*K*c=z+X*(y*V)):o+X*K*(s % 1000000000-x)+X*K*1000000000*(s / 1000000000)=z+X*(y*(V+K*A)):=by grind
set_option maxHeartbeats 1000000 in
theorem R7 (m n:Nat) (hm:A2 m<274877906944) (hn:A2 n<274877906944):H4 (Ad m) (Ad n)=some (Ad (m*n)):=by
  unfold H4
  unfold A2 at hm hn
  have hw:Ac (((Ad m).length:Int)+((Ad n).length:Int))=(((Ad m).length+(Ad n).length:Nat):Int):=by rw [Ac,Cd] <;> omega
  have M:Ac ((((Ad m).length+(Ad n).length:Nat):Int)+1)=(((Ad m).length+(Ad n).length+1:Nat):Int):=by rw [Ac,Cd] <;> omega
  rw [hw,M,Ir rfl rfl (Nat.le_refl _) (by omega) (by omega)]
  simp only [Ah]
  have ha:=Cu m
  have hb:=Cu n
  have D:Ae (Ad n)=n:=C5 n
  generalize Ad n=b at *
  generalize hL:b.length=L at *
  refine E8 (fun (i,o)=>∃k:Nat,i=k/\k<=(Ad m).length/\o.length=(Ad m).length+L+1/\A6 o/\o.drop (k+L)=List.replicate ((Ad m).length+1-k) 0/\Ae o=Ae ((Ad m).take k)*n)
    (fun (i,_)=>(Ad m).length-i.toNat) (fun o=>o.length=(Ad m).length+L+1/\A6 o/\Ae o=((m*n:Nat):Int))
    ⟨0,rfl,by omega,by simp,A6.replicate _,by rw [List.drop_replicate]; congr 1; omega,by simp [Rp,Ae]⟩ ?_ ?_
  . rintro ⟨i,o⟩ ⟨k,rfl,hk,ho,G,U,N⟩
    rcases Nat.lt_or_ge k (Ad m).length with h | h
    . have hx:=ha.get h
      have e4:=G1 h (by omega)
      have e5:decide ((k:Int)<((Ad m).length:Int))=true:=Be (by omega)
      simp only [e5,cond_true]
      have X:Ag (Ad m) (k:Int)=some (Ad m)[k]:=Cj rfl h
      generalize J:(Ad m)[k]=x at *
      refine .inl (Mi (Eh (fun (c,j,o')=>∃q:Nat,j=q/\o'.length=(Ad m).length+L+1/\A6 o'/\0<=c/\c<1000000000 /\
          ((q<=L/\o'.drop (k+L)=List.replicate ((Ad m).length+1-k) 0/\Ae o' + 1000000000 ^ (k+q)*c=Ae o+1000000000 ^ k*(x*Ae (b.take q))) \/
           (q=L+1/\c=0/\o'.drop (k+1+L)=List.replicate ((Ad m).length+1-(k+1)) 0/\Ae o'=Ae o+1000000000 ^ k*(x*n))))
        (fun (_,j,_)=>L+1-j.toNat) (fun (c,j,o')=>o'.length=(Ad m).length+L+1/\A6 o'/\o'.drop (k+1+L)=List.replicate ((Ad m).length+1-(k+1)) 0/\Ae o'=Ae o+1000000000 ^ k*(x*n))
        ⟨0,rfl,ho,G,by omega,by omega,.inl ⟨by omega,U,by simp [Ae]⟩⟩ ?_ ?_))
      . rintro ⟨c,j,o'⟩ ⟨q,rfl,u,g,A,hc,hq⟩
        rcases hq with ⟨hq,f,l⟩ | ⟨rfl,rfl,f,l⟩
        . have e8:Ac ((k:Int)+(q:Int))=((k+q:Nat):Int):=by rw [Ac,Cd] <;> omega
          have e6:Ac ((q:Int)+1)=((q+1:Nat):Int):=G1 (Nat.lt_succ_self q) (by omega)
          have y:k+q<o'.length:=by omega
          have a1:=g.get y
          have w4:Ak o'[k+q]=o'[k+q]:=B2 (by omega) (by omega)
          have w5:Ak (c+o'[k+q])=c+o'[k+q]:=B2 (by omega) (by omega)
          have p1:(1000000000:Int) ^ (k+(q+1))=1000000000 ^ (k+q)*1000000000:=by rw [<-Nat.add_assoc,Int.pow_succ]
          have Z:(1000000000:Int) ^ (k+q)=1000000000 ^ k*1000000000 ^ q:=Int.pow_add ..
          rcases Nat.lt_or_ge q L with hq' | hq'
          . have B:q<b.length:=by omega
            have hy:=hb.get B
            have a6:=Rx hx.1 hx.2 hy.1 hy.2
            have w1:Ak x=x:=B2 (by omega) (by omega)
            have w2:Ak b[q]=b[q]:=B2 (by omega) (by omega)
            have w3:Ak (x*b[q])=x*b[q]:=B2 (by omega) (by omega)
            have Y:Ak (c+o'[k+q]+x*b[q])=c+o'[k+q]+x*b[q]:=B2 (by omega) (by omega)
            generalize hs:c+o'[k+q]+x*b[q]=s at Y
            have E:0<=s:=by omega
            have a7:s<1000000000000000000:=by omega
            have w7:Bg (s % 1000000000)=s % 1000000000:=Dg (by omega) (by omega)
            refine .inl ⟨(s / 1000000000,((q+1:Nat):Int),o'.set (k+q) (s % 1000000000)),?_,⟨q+1,rfl,by simpa using u,g.set _ (by omega) (by omega),by omega,by omega,.inl ⟨by omega,?_,?_⟩⟩,by simp; omega⟩
            . simp only [Be (by omega:(q:Int)<(L:Int)),cond_true,Ah,e8,Cj rfl y,X,Cj rfl B,w1,w2,w3,w4,w5,hs,Y,F9 E (show (0:Int)<1000000000 by decide),Gl E (show s<=_ by omega) (show (0:Int)<1000000000 by decide),w7,e6,E9 rfl]
            . rw [List.drop_set_of_lt (by omega)]; exact f
            . rw [G0 _ y,Dh _ B,p1,Z]
              rw [Z] at l
              exact cl1 hs rfl (Int.mul_ediv_add_emod s 1000000000) _ _ l
          . have R:q=L:=by omega
            subst R
            by_cases V:c>0
            . have z:o'[k+q]=0:=Aif y f
              refine .inl ⟨(0,((q+1:Nat):Int),o'.set (k+q) c),?_,⟨q+1,rfl,by simpa using u,g.set _ (by omega) (by omega),by omega,by omega,.inr ⟨rfl,rfl,?_,?_⟩⟩,by simp⟩
              . have w8:Bg c=c:=Dg (by omega) (by omega)
                have w9:Ak c=c:=B2 (by omega) (by omega)
                simp only [Bo (by omega:¬(q:Int)<(q:Int)),cond_false,Be V,cond_true,Ah,e8,Cj rfl y,z,show Ak (0:Int)=0 from rfl,Int.add_zero,w9,F9 A (show (0:Int)<1000000000 by decide),Gl A (show c<=_ by omega) (show (0:Int)<1000000000 by decide),Int.emod_eq_of_lt A hc,Int.ediv_eq_zero_of_lt A hc,w8,e6,E9 rfl]
              . rw [List.drop_set_of_lt (by omega),show k+1+q=(k+q)+1 by omega,<-List.drop_drop,f,List.drop_replicate]; congr 1
              . rw [G0 _ y,z,Int.sub_zero]
                rw [List.take_of_length_le (by omega),D] at l
                omega
            . have I:c=0:=by omega
              subst I
              refine .inr ⟨(0,(q:Int),o'),?_,u,g,?_,?_⟩
              . simp only [Bo (by omega:¬(q:Int)<(q:Int)),cond_false,Ah,show decide ((0:Int)>0)=false from rfl]
              . rw [show k+1+q=(k+q)+1 by omega,<-List.drop_drop,f,List.drop_replicate]; congr 1
              . rw [List.take_of_length_le (by omega),D] at l
                omega
        . refine .inr ⟨(0,((L+1:Nat):Int),o'),?_,u,g,f,l⟩
          simp only [Bo (by omega:¬((L+1:Nat):Int)<(L:Int)),cond_false,Ah,show decide ((0:Int)>0)=false from rfl]
      . rintro ⟨c,j,o'⟩ ⟨u,g,f,l⟩
        refine ⟨_,by simp only [e4],(((k+1:Nat):Int),o'),rfl,⟨k+1,rfl,by omega,u,g,f,?_⟩,by simp; omega⟩
        rw [l,Dh _ h,Int.add_mul,<-N,J]; grind
    . have S:k=(Ad m).length:=by omega
      subst S
      refine .inr ⟨o,by simp,ho,G,?_⟩
      rw [List.take_length,C5] at N
      rw [N]; simp
  . rintro o ⟨h2,h3,h4⟩
    rw [Kz o (by omega),Ah,Gm h3 h4]
theorem Aig (m n:Nat) (V:A2 m<274877906944) (U:A2 n<274877906944):Nu (Ad m) (Ad n)=some (Ad (m+n)):=by
 unfold Nu
 unfold A2 at V U
 have ha:=Cu m
 have hb:=Cu n
 have I:Ae (Ad m)=m:=C5 m
 have G:Ae (Ad n)=n:=C5 n
 have L:=Rw (n:=m)
 have J:=Rw (n:=n)
 generalize Ad m=a at *
 generalize Ad n=b at *
 generalize hM:max a.length b.length=M
 refine E8 (fun (c,i,o)=>∃k:Nat,i=k/\o.length=k/\A6 o/\0<=c/\c<=1/\((k<=M/\Ae o+1000000000 ^ k*c=Ae (a.take k)+Ae (b.take k))\/(k=M+1/\c=0/\Ae o=m+n/\1000000000 ^ M<=Ae o)))
  (fun (_,i,_)=>M+1-i.toNat) (fun o=>A6 o/\Ae o=m+n/\(o≠[]->1000000000 ^ (o.length-1)<=Ae o))
  ⟨0,rfl,rfl,A6.nil,by omega,by omega,.inl ⟨by omega,by simp [Ae]⟩⟩ ?_ ?_
 .rintro ⟨c,i,o⟩ ⟨k,rfl,l,h,Y,hc,hk⟩
  rcases hk with ⟨hk,x⟩ | ⟨rfl,rfl,x,hp⟩
  .have e4:Ac ((k:Int)+1)=((k+1:Nat):Int):=G1 (Nat.lt_succ_self k) (by omega)
   have step:∀s:Int,0<=s->s<2000000000 ->
     ((Dq .u32 s 1000000000).bind fun D=>(D2 s 1000000000).bind fun B=>(B1 4 o [B]).bind fun E=>some (Sum.inl (D,(Ac ((k:Int)+1)),E)))=some (Sum.inl (s / 1000000000,((k+1:Nat):Int),o++[s % 1000000000]):(Int×Int×List Int)⊕List Int):=by
    intro s h1 h2
    rw [Wn h1 (by omega) (by decide),Ah,F9 h1 (by decide),Ah,Ft (by simp; omega),Ah,e4]
   have g:∀s:Int,0<=s->s<2000000000->k<M->Ae (a.take (k+1))+Ae (b.take (k+1))=Ae (a.take k)+Ae (b.take k)+1000000000 ^ k*(s-c) ->
     (∃q:Nat,((k+1:Nat):Int)=q/\(o++[s % 1000000000]).length=q/\A6 (o++[s % 1000000000])/\0<=s / 1000000000/\s / 1000000000<=1/\((q<=M/\Ae (o++[s % 1000000000])+1000000000 ^ q*(s / 1000000000)=Ae (a.take q)+Ae (b.take q))\/(q=M+1/\s / 1000000000=0/\Ae (o++[s % 1000000000])=m+n/\1000000000 ^ M<=Ae (o++[s % 1000000000])))):=by
    intro s h1 h2 y u
    refine ⟨k+1,rfl,by simp [l],h.snoc (by omega) (by omega),by omega,by omega,.inl ⟨by omega,?_⟩⟩
    rw [u,<-x,Ga,l,Int.pow_succ]
    have:=Int.mul_ediv_add_emod s 1000000000
    grind
   by_cases j:k<a.length
   .have hx:=ha.get j
    have S:Bg (c+a[k])=c+a[k]:=Dg (by omega) (by omega)
    by_cases f:k<b.length
    .have hy:=hb.get f
     have A:Bg (c+a[k]+b[k])=c+a[k]+b[k]:=Dg (by omega) (by omega)
     refine .inl ⟨((c+a[k]+b[k]) / 1000000000,((k+1:Nat):Int),o++[(c+a[k]+b[k]) % 1000000000]),?_,g (c+a[k]+b[k]) (by omega) (by omega) (by omega) (by rw [Dh a j,Dh b f]; grind),by simp; omega⟩
     rw [<-step (c+a[k]+b[k]) (by omega) (by omega)]
     simp only [Be (by omega:(k:Int)<(a.length:Int)),Be (by omega:(k:Int)<(b.length:Int)),cond_true,Ah,Cj rfl j,Cj rfl f,S,A]
    .refine .inl ⟨((c+a[k]) / 1000000000,((k+1:Nat):Int),o++[(c+a[k]) % 1000000000]),?_,g (c+a[k]) (by omega) (by omega) (by omega) (by rw [Dh a j,Fx b (by omega),Fx b (by omega)]; grind),by simp; omega⟩
     rw [<-step (c+a[k]) (by omega) (by omega)]
     simp only [Be (by omega:(k:Int)<(a.length:Int)),Bo (by omega:¬(k:Int)<(b.length:Int)),cond_true,cond_false,Ah,Cj rfl j,S]
   .by_cases f:k<b.length
    .have hy:=hb.get f
     have A:Bg (c+b[k])=c+b[k]:=Dg (by omega) (by omega)
     refine .inl ⟨((c+b[k]) / 1000000000,((k+1:Nat):Int),o++[(c+b[k]) % 1000000000]),?_,g (c+b[k]) (by omega) (by omega) (by omega) (by rw [Dh b f,Fx a (by omega),Fx a (by omega)]; grind),by simp; omega⟩
     rw [<-step (c+b[k]) (by omega) (by omega)]
     simp only [Bo (by omega:¬(k:Int)<(a.length:Int)),Be (by omega:(k:Int)<(b.length:Int)),cond_true,cond_false,Ah,Cj rfl f,A]
    .have y:k=M:=by omega
     subst y
     rw [Fx a (by omega),Fx b (by omega),I,G] at x
     by_cases Z:c>0
     .have R:c=1:=by omega
      subst R
      refine .inl ⟨((1:Int) / 1000000000,((k+1:Nat):Int),o++[(1:Int) % 1000000000]),?_,⟨k+1,rfl,by simp [l],h.snoc (by decide) (by decide),by decide,by decide,.inr ⟨rfl,rfl,?_,?_⟩⟩,by simp⟩
      .rw [<-step 1 (by omega) (by omega)]
       simp only [Bo (by omega:¬(k:Int)<(a.length:Int)),Bo (by omega:¬(k:Int)<(b.length:Int)),cond_false,Ah,show decide ((1:Int)>0)=true from rfl,cond_true]
      .rw [Ga,l]; exact x
      .rw [Ga,l,show (1:Int) % 1000000000=1 from rfl]
       have:=Dy h.u32
       omega
     .have z:c=0:=by omega
      subst z
      refine .inr ⟨o,?_,h,by omega,fun N=>?_⟩
      .simp only [Bo (by omega:¬(k:Int)<(a.length:Int)),Bo (by omega:¬(k:Int)<(b.length:Int)),cond_false,Ah,show decide ((0:Int)>0)=false from rfl]
      .have X:k≠0:=by
        intro e; rw [e] at l; exact N (List.length_eq_zero_iff.1 l)
       rcases Nat.le_total a.length b.length with hab | hab
       .have:k=b.length:=by omega
        have h1:=J (by intro e; rw [e] at this; simp at this; omega)
        rw [l,this]; omega
       .have:k=a.length:=by omega
        have h1:=L (by intro e; rw [e] at this; simp at this; omega)
        rw [l,this]; omega
  .refine .inr ⟨o,?_,h,x,fun _=>by rw [l]; simpa using hp⟩
   simp only [Bo (by omega:¬((M+1:Nat):Int)<(a.length:Int)),Bo (by omega:¬((M+1:Nat):Int)<(b.length:Int)),cond_false,Ah,show decide ((0:Int)>0)=false from rfl]
 .rintro o ⟨h1,h2,h3⟩
  congr 1
  exact Rr (Wr h1 h3) (by rw [h2]; simp)
end Go.Ab
