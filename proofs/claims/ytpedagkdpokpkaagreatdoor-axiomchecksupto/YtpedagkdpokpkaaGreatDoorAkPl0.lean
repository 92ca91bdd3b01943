/- Plain laws: what the plain functions answer. -/
import Derived.Test.YtpedagkdpokpkaaGreatDoorAkDef
namespace Go.Ab
open Go
theorem Ag {α β:Type} (a:α) (f:α->Option β):(some a).bind f=f a:=rfl
theorem Cr {α:Type} {l:List α} {i:Nat} (h:i<l.length):l[i]? = some l[i]:=List.getElem?_eq_getElem h
theorem lmo {α:Type} {l:List α} {i:Nat} {a:α} (h:l[i]? = some a):a∈l:=List.mem_of_getElem? h
theorem bae (a b:Bool):((a&&b)=true)=(a=true/\b=true):=Bool.and_eq_true a b
theorem bnt:(!true)=false:=rfl
theorem Fy {S E R:Type} {step:S->Option (S⊕E)} {s:S} {J:E->Option R} {r:R} (c:S->Prop) (m:S->Nat) (b:E->Prop) (h0:c s)
  (f:∀s,c s->(∃g,step s=some (.inl g)/\c g/\m g<m s)\/(∃e,step s=some (.inr e)/\b e)) (h:∀e,b e->J e=some r):(An step s).bind J=some r:=by
 obtain ⟨e,h1,h2⟩:=M5 c m b f s h0
 rw [h1]; exact h e h2
theorem G7 {S E R:Type} {step:S->Option (S⊕E)} {s:S} {J:E->Option R} {Q:R->Prop} (c:S->Prop) (m:S->Nat) (b:E->Prop) (h0:c s)
  (f:∀s,c s->(∃g,step s=some (.inl g)/\c g/\m g<m s)\/(∃e,step s=some (.inr e)/\b e)) (h:∀e,b e->∃r,J e=some r/\Q r):∃r,(An step s).bind J=some r/\Q r:=by
 obtain ⟨e,h1,h2⟩:=M5 c m b f s h0
 rw [h1]; exact h e h2
theorem T5 {S E:Type} {X:Option (S⊕E)} {Q:S->Prop} (h:∃r,X=some r/\∃b,r = .inl b/\Q b):∃b,X=some (.inl b)/\Q b:=by
 obtain ⟨r,h1,b,rfl,h2⟩:=h
 exact ⟨b,h1,h2⟩
theorem Als {S E:Type} {X:Option (S⊕E)} {Q:E->Prop} (h:∃r,X=some r/\∃e,r = .inr e/\Q e):∃e,X=some (.inr e)/\Q e:=by
 obtain ⟨r,h1,b,rfl,h2⟩:=h
 exact ⟨b,h1,h2⟩
theorem Cj {n:Int} (h1 : -9223372036854775808<=n) (h2:n<=9223372036854775807):IntKind.i64.wrap n=n:=by
 have e:IntKind.i64.wrap n=if 9223372036854775808<=n % 18446744073709551616 then n % 18446744073709551616-18446744073709551616 else n % 18446744073709551616:=by
  simp [IntKind.wrap,IntKind.bits,IntKind.signed]
 rw [e]; split <;> omega
theorem Cm {n:Int} (h1:0<=n) (h2:n<=18446744073709551615):IntKind.u64.wrap n=n:=by
 have e:IntKind.u64.wrap n=n % 18446744073709551616:=by simp [IntKind.wrap,IntKind.bits,IntKind.signed]
 rw [e]; omega
theorem Dx {n:Int} (h1:0<=n) (h2:n<=4294967295):IntKind.u32.wrap n=n:=by
 have e:IntKind.u32.wrap n=n % 4294967296:=by simp [IntKind.wrap,IntKind.bits,IntKind.signed]
 rw [e]; omega
theorem Cz {α:Type} {l:List α} {i:Int} {n:Nat} (b:i=n) (h:n<l.length):Af l i=some l[n]:=by
 subst b; simp [Af,h]
theorem Ew {α:Type} {l:List α} {i:Int} {n:Nat} {x:α} (b:i=n) (h:l[n]? = some x):Af l i=some x:=by
 subst b; simp [Af,h]
theorem Ep {α:Type} {l:List α} {i:Int} {n:Nat} (b:i=n) (x:α):Bt l i x=l.set n x:=by
 subst b; simp [Bt]
theorem D7 {α:Type} {b:Nat} {xs ys:List α} (h:(xs.length+ys.length)*b<=140737488355328):Bz b xs ys=some (xs++ys):=by
 simp [Bz,h]
theorem I4 {α:Type} {b:Nat} {len f:Int} {z:α} {n c:Nat} (h1:len=n) (h2:f=c) (h3:n<=c) (g:b*c<=281474976710656) (h:c<=140737488355328):Dv b len f z=some (List.replicate n z):=by
 subst h1; subst h2
 have a1:(0:Int)<=(n:Int):=by omega
 have a2:(n:Int)<=(c:Int):=by omega
 have a3:(c:Int)<=140737488355328:=by omega
 simp [Dv,a2,a3,g]
theorem Zc {α:Type} {b:Nat} {f:Int} {z:α} {c:Nat} (h2:f=c) (h:b*c<=281474976710656) (g:c<=140737488355328):Dv b 0 f z=some []:=by
 exact I4 (len:=0) (n:=0) (c:=c) rfl h2 (by omega) h g
theorem C6 {a b:Int} (h:a≠b):(a==b)=false:=by simpa using h
theorem Fd {a b:Int} (h:a=b):(a==b)=true:=by simpa using h
theorem Jn {a b:Int} (h:a≠b):(a != b)=true:=by simpa using h
theorem Kl {a b:Int} (h:a=b):(a != b)=false:=by simpa using h
theorem Ba {p:Prop} [Decidable p] (h:p):decide p=true:=decide_eq_true h
theorem Bb {p:Prop} [Decidable p] (h:¬p):decide p=false:=decide_eq_false h
theorem Aep {α:Type} {l:List α} {b:Int} {n:Nat} (h:b=n) (c:n<=l.length):Ef l 0 b=some (l.take n):=by
 subst h
 have:(n:Int)<=(l.length:Int):=by omega
 simp [Ef,this]
theorem Gs {a b:Int} (ha:0<=a) (hb:0<b):En a b=some (a % b):=by
 have:b≠0:=by omega
 simp [En,this,Int.tmod_eq_emod_of_nonneg ha]
theorem G8 {a b:Int} (ha:0<=a) (c:a<=18446744073709551615) (hb:0<b):D8 .u64 a b=some (a / b):=by
 have:b≠0:=by omega
 have h1:0<=a / b:=Int.ediv_nonneg ha (by omega)
 have h2:a / b<=a:=Int.ediv_le_self _ ha
 simp [D8,this,Int.tdiv_eq_ediv_of_nonneg ha]
 exact Cm h1 (by omega)
theorem Zd {a b:Int} (ha:0<=a) (c:a<=4294967295) (hb:0<b):D8 .u32 a b=some (a / b):=by
 have:b≠0:=by omega
 have h1:0<=a / b:=Int.ediv_nonneg ha (by omega)
 have h2:a / b<=a:=Int.ediv_le_self _ ha
 simp [D8,this,Int.tdiv_eq_ediv_of_nonneg ha]
 exact Dx h1 (by omega)
def Ah:List Int->Int
 | []=>0
 | d::l=>d+1000000000*Ah l
def Bk (l:List Int):Prop:=∀d∈l,0<=d/\d<1000000000
def Ht (l:List Int):Prop:=∀d∈l,0<=d/\d<4294967296
def Can (l:List Int):Prop:=Bk l/\∀h:l≠[],l.getLast h≠0
def Ad (n:Nat):List Int:=if h:n=0 then [] else ((n % 1000000000:Nat):Int)::Ad (n / 1000000000)
termination_by n
decreasing_by exact Nat.div_lt_self (by omega) (by decide)
theorem D1:Ad 0 = []:=by rw [Ad]; simp
theorem Ij {n:Nat} (h:n≠0):Ad n=((n % 1000000000:Nat):Int)::Ad (n / 1000000000):=by rw [Ad]; simp [h]
theorem Bk.nil:Bk []:=fun _ h=>by cases h
theorem Bk.append {l m:List Int} (h:Bk l) (h':Bk m):Bk (l++m):=by
 intro d hd
 rcases List.mem_append.1 hd with hd | hd
 .exact h d hd
 .exact h' d hd
theorem Bk.one {d:Int} (h:0<=d) (h':d<1000000000):Bk [d]:=by
 intro x hx; simp at hx; subst hx; exact ⟨h,h'⟩
theorem Bk.snoc {l:List Int} {d:Int} (h:Bk l) (hd:0<=d) (b:d<1000000000):Bk (l++[d]):=h.append (Bk.one hd b)
theorem Bk.take {l:List Int} (h:Bk l) (k:Nat):Bk (l.take k):=fun d hd=>h d (List.mem_of_mem_take hd)
theorem Bk.drop {l:List Int} (h:Bk l) (k:Nat):Bk (l.drop k):=fun d hd=>h d (List.mem_of_mem_drop hd)
theorem Bk.get {l:List Int} (h:Bk l) {i:Nat} (b:i<l.length):0<=l[i]/\l[i]<1000000000:=h _ (List.getElem_mem b)
theorem Bk.set {l:List Int} (h:Bk l) (i:Nat) {d:Int} (hd:0<=d) (b:d<1000000000):Bk (l.set i d):=by
 intro x hx
 rcases List.mem_or_eq_of_mem_set hx with hx | rfl
 .exact h x hx
 .exact ⟨hd,b⟩
theorem Bk.replicate (n:Nat):Bk (List.replicate n 0):=by
 intro d hd
 have:=List.eq_of_mem_replicate hd
 subst this; decide
theorem Bk.tail {d:Int} {l:List Int} (h:Bk (d::l)):Bk l:=fun x hx=>h x (by simp [hx])
theorem Bk.u32 {l:List Int} (h:Bk l):Ht l:=fun d hd=>by have:=h d hd; omega
theorem Aeq (l m:List Int):Ah (l++m)=Ah l+1000000000 ^ l.length*Ah m:=by
 induction l with
 | nil=>simp [Ah]
 | cons d l ih=>simp only [List.cons_append,Ah,ih,List.length_cons,Int.pow_succ]; grind
theorem Gt (l:List Int) (d:Int):Ah (l++[d])=Ah l+1000000000 ^ l.length*d:=by rw [Aeq]; simp [Ah]
theorem Dy (l:List Int) {k:Nat} (h:k<l.length):Ah (l.take (k+1))=Ah (l.take k)+1000000000 ^ k*l[k]:=by
 rw [List.take_succ_eq_append_getElem h,Gt]
 simp [Nat.min_eq_left (Nat.le_of_lt h)]
theorem T6 (n:Nat):Ah (List.replicate n 0)=0:=by
 induction n with
 | zero=>rfl
 | succ n ih=>simp [List.replicate_succ,Ah,ih]
theorem I5 (l:List Int) (k:Nat) (h:k<=l.length):Ah l=Ah (l.take k)+1000000000 ^ k*Ah (l.drop k):=by
 have e:=Aeq (l.take k) (l.drop k)
 rw [List.take_append_drop] at e
 rw [e,List.length_take,Nat.min_eq_left h]
theorem Hu (l:List Int) {i:Nat} (h:i<l.length) (d:Int):Ah (l.set i d)=Ah l+1000000000 ^ i*(d-l[i]):=by
 induction l generalizing i with
 | nil=>simp at h
 | cons x l ih=>
  cases i with
  | zero=>simp [Ah]; omega
  | succ i=>
   have b:i<l.length:=by simpa using h
   simp only [List.set_cons_succ,Ah,ih b,List.getElem_cons_succ,Int.pow_succ]
   grind
theorem Ej {l:List Int} (h:Ht l):0<=Ah l:=by
 induction l with
 | nil=>simp [Ah]
 | cons d l ih=>
  have h1:=h d (by simp)
  have h2:=ih (fun x hx=>h x (by simp [hx]))
  simp only [Ah]; omega
theorem Gu (n:Nat):(0:Int)<1000000000 ^ n:=Int.pow_pos (by decide)
theorem Gd {l:List Int} (h:Bk l):Ah l<1000000000 ^ l.length:=by
 induction l with
 | nil=>simp [Ah]
 | cons d l ih=>
  have h1:=h d (by simp)
  have h2:=ih h.tail
  simp only [Ah,List.length_cons,Int.pow_succ]
  omega
theorem Dm (n:Nat):Ah (Ad n)=n:=by
 induction n using Nat.strongRecOn with
 | _ n ih=>
  by_cases h:n=0
  .subst h; rw [D1]; rfl
  .rw [Ij h,Ah,ih (n / 1000000000) (Nat.div_lt_self (by omega) (by decide))]
   omega
theorem Dd (n:Nat):Bk (Ad n):=by
 induction n using Nat.strongRecOn with
 | _ n ih=>
  by_cases h:n=0
  .subst h; rw [D1]; exact Bk.nil
  .rw [Ij h]
   intro d hd
   simp at hd
   rcases hd with rfl | hd
   .omega
   .exact ih (n / 1000000000) (Nat.div_lt_self (by omega) (by decide)) d hd
theorem Fr {n:Nat} (h:n≠0):Ad n≠[]:=by rw [Ij h]; simp
theorem T7 (n:Nat):Can (Ad n):=by
 refine ⟨Dd n,?_⟩
 induction n using Nat.strongRecOn with
 | _ n ih=>
  intro b
  have h:n≠0:=fun e=>b (by rw [e]; exact D1)
  have hc:=Ij h
  by_cases h2:n / 1000000000=0
  .have c:Ad n = [((n % 1000000000:Nat):Int)]:=by rw [hc,h2,D1]
   simp only [c,List.getLast_singleton]
   omega
  .have:=ih (n / 1000000000) (Nat.div_lt_self (by omega) (by decide)) (Fr h2)
   simp only [hc]
   rwa [List.getLast_cons (Fr h2)]
theorem Ze {l:List Int} (h:Can l):Ad (Ah l).toNat=l:=by
 induction l with
 | nil=>exact D1
 | cons d l ih=>
  obtain ⟨h1,h2⟩:=h
  have hd:=h1 d (by simp)
  have g:Can l:=by
   refine ⟨h1.tail,fun b=>?_⟩
   have:=h2 (by simp)
   rwa [List.getLast_cons b] at this
  have f:=Ej (h1.tail).u32
  have b:(Ah (d::l)).toNat≠0:=by
   intro e
   simp only [Ah] at e
   have c:d=0:=by omega
   have f:Ah l=0:=by omega
   have:l = []:=by rw [<-ih g,f]; exact D1
   subst this
   exact h2 (by simp) (by simpa using c)
  rw [Ij b]
  simp only [Ah]
  have j:((d+1000000000*Ah l).toNat % 1000000000:Nat)=d.toNat:=by omega
  have i:(d+1000000000*Ah l).toNat / 1000000000=(Ah l).toNat:=by omega
  rw [j,i,ih g]
  congr 1; omega
theorem T8 {l:List Int} {n:Nat} (h:Can l) (b:Ah l=n):l=Ad n:=by
 rw [<-Ze h,b]; rfl
def Ey:List Int->List Int
 | []=>[]
 | d::l=>match Ey l with
  | []=>if d=0 then [] else [d]
  | x::m=>d::x::m
theorem Alt (l:List Int):Ey (l++[0])=Ey l:=by
 induction l with
 | nil=>rfl
 | cons d l ih=>simp only [List.cons_append,Ey,ih]
theorem Alu {l:List Int} {d:Int} (h:d≠0):Ey (l++[d])=l++[d]:=by
 induction l with
 | nil=>simp [Ey,h]
 | cons x l ih=>
  simp only [List.cons_append,Ey,ih]
  cases l with
  | nil=>rfl
  | cons y l=>rfl
theorem Aer {l:List Int} (h:Bk l):Can (Ey l)/\Ah (Ey l)=Ah l:=by
 induction l with
 | nil=>exact ⟨⟨Bk.nil,fun h=>(h rfl).elim⟩,rfl⟩
 | cons d l ih=>
  obtain ⟨⟨i1,i2⟩,i3⟩:=ih h.tail
  have hd:=h d (by simp)
  simp only [Ey]
  cases ht:Ey l with
  | nil=>
   rw [ht] at i3
   simp only [Ah] at i3
   simp only []
   by_cases b:d=0
   .rw [if_pos b]
    refine ⟨⟨Bk.nil,fun h=>(h rfl).elim⟩,?_⟩
    simp only [Ah]; rw [<-i3]; omega
   .rw [if_neg b]
    refine ⟨⟨Bk.one hd.1 hd.2,fun _=>by simpa using b⟩,?_⟩
    simp only [Ah]; rw [<-i3]
  | cons x m=>
   rw [ht] at i1 i2 i3
   simp only []
   refine ⟨⟨?_,fun _=>?_⟩,?_⟩
   .intro y hy
    rcases List.mem_cons.1 hy with rfl | hy
    .exact hd
    .exact i1 y hy
   .rw [List.getLast_cons (by simp)]; exact i2 (by simp)
   .simp only [Ah] at i3 ⊢; rw [i3]
theorem G9 {l:List Int} {n:Nat} (h:Bk l) (b:Ah l=n):Ey l=Ad n:=by
 obtain ⟨h1,h2⟩:=Aer h
 exact T8 h1 (h2.trans b)
theorem Alv {l:List Int} (h:Can l):Ey l=l:=by
 obtain ⟨h1,h2⟩:=Aer h.1
 rw [<-Ze h1,h2,Ze h]
def Bc (n:Nat):Nat:=(Ad n).length
theorem Zf:Bc 0=0:=by simp [Bc,D1]
theorem I6 (n:Nat):n<1000000000 ^ Bc n:=by
 have:=Gd (Dd n)
 rw [Dm] at this
 have e:((1000000000 ^ Bc n:Nat):Int)=1000000000 ^ Bc n:=by simp
 unfold Bc at *
 omega
theorem Km {n k:Nat} (h:n<1000000000 ^ k):Bc n<=k:=by
 induction k generalizing n with
 | zero=>simp at h; subst h; simp [Zf]
 | succ k ih=>
  by_cases h0:n=0
  .subst h0; simp [Zf]
  .unfold Bc
   rw [Ij h0,List.length_cons]
   have:n / 1000000000<1000000000 ^ k:=by
    rw [Nat.div_lt_iff_lt_mul (by decide)]; rwa [Nat.pow_succ] at h
   have:=ih this
   unfold Bc at this; omega
theorem E9 {m n:Nat} (h:m<=n):Bc m<=Bc n:=Km (Nat.lt_of_le_of_lt h (I6 n))
theorem Aes {n k:Nat} (h:k<Bc n):1000000000 ^ k<=n:=by
 rcases Nat.lt_or_ge n (1000000000 ^ k) with h' | h'
 .have:=Km h'; omega
 .exact h'
theorem Qk (m n:Nat):Bc (m+n)<=max (Bc m) (Bc n)+1:=by
 apply Km
 have h1:=I6 m
 have h2:=I6 n
 have h3:1000000000 ^ Bc m<=1000000000 ^ max (Bc m) (Bc n):=Nat.pow_le_pow_right (by decide) (Nat.le_max_left _ _)
 have b:1000000000 ^ Bc n<=1000000000 ^ max (Bc m) (Bc n):=Nat.pow_le_pow_right (by decide) (Nat.le_max_right _ _)
 rw [Nat.pow_succ]
 omega
theorem Er (m n:Nat):Bc (m*n)<=Bc m+Bc n:=by
 apply Km
 rw [Nat.pow_add]
 exact Nat.mul_lt_mul_of_lt_of_le (I6 m) (Nat.le_of_lt (I6 n)) (Nat.pow_pos (by decide))
theorem Zg (m n:Nat):Bc (m / n)<=Bc m:=E9 (Nat.div_le_self _ _)
theorem Aet {m n:Nat} (h:Bc m<Bc n):m<n:=Nat.lt_of_lt_of_le (I6 m) (Aes h)
theorem Aeu {l m:List Int} (g:Bk l) {k:Nat} (hk:k<l.length) (b:k<m.length) (f:Bk m) (hd:l.drop (k+1)=m.drop (k+1)) (c:l[k]<m[k]):Ah l<Ah m:=by
 have j:=I5 l (k+1) hk
 have i:=I5 m (k+1) b
 rw [Dy l hk] at j
 rw [Dy m b,<-hd] at i
 have h3:=Gd (g.take k)
 have q:=Ej ((f.take k).u32)
 rw [List.length_take,Nat.min_eq_left (Nat.le_of_lt hk)] at h3
 have h:1000000000 ^ k*(l[k]+1)<=1000000000 ^ k*m[k]:=Int.mul_le_mul_of_nonneg_left c (Int.le_of_lt (Gu k))
 rw [Int.mul_add] at h
 omega
end Go.Ab
namespace Go.Ab
open Go
theorem Jo {S E R:Type} {step:S->Option (S⊕E)} {s0:S} {J:E->Option R} {r:R} (n:Nat) (b:Nat->S) (h0:s0=b 0)
  (c:∀j,j<n->step (b j)=some (.inl (b (j+1)))) (f:∃e,step (b n)=some (.inr e)/\J e=some r):(An step s0).bind J=some r:=by
 have key:∀m,m<=n->An step (b 0)=An step (b m):=by
  intro m
  induction m with
  | zero=>intro _; rfl
  | succ m ih=>intro h; rw [ih (by omega),Sd (c m (by omega))]
 obtain ⟨e,h1,h2⟩:=f
 rw [h0,key n (Nat.le_refl _),M4 h1]
 exact h2
theorem F5 {j n:Nat} (h:j<n) (b:n<4611686018427387904):Ac ((j:Int)+1)=((j+1:Nat):Int):=by
 rw [Ac,Cj] <;> omega
theorem Alw {α:Type} {l:List α} {p:α×Nat->Bool} (h:l.zipIdx.all p=false):∃j x,l[j]? = some x/\p (x,j)=false/\∀i y,i<j->l[i]? = some y->p (y,i)=true:=by
 have key:∀(n:Nat),(∀i y,i<n->l[i]? = some y->p (y,i)=true)\/∃j x,j<n/\l[j]? = some x/\p (x,j)=false/\∀i y,i<j->l[i]? = some y->p (y,i)=true:=by
  intro n
  induction n with
  | zero=>exact .inl (fun i y h=>by omega)
  | succ n ih=>
   rcases ih with ih | ⟨j,x,h1,h2,h3,c⟩
   .cases hx:l[n]? with
    | none=>exact .inl (fun i y b hy=>by
      rcases Nat.lt_or_ge i n with h | h
      .exact ih i y h hy
      .have:i=n:=by omega
       subst this; rw [hx] at hy; cases hy)
    | some x=>
     cases hp:p (x,n) with
     | true=>exact .inl (fun i y b hy=>by
       rcases Nat.lt_or_ge i n with h | h
       .exact ih i y h hy
       .have:i=n:=by omega
        subst this; rw [hx] at hy; cases hy; exact hp)
     | false=>exact .inr ⟨n,x,by omega,hx,hp,ih⟩
   .exact .inr ⟨j,x,by omega,h2,h3,c⟩
 rcases key l.length with hk | ⟨j,x,h1,h2,h3,c⟩
 .exfalso
  have:l.zipIdx.all p=true:=by
   rw [List.all_eq_true]
   rintro ⟨y,i⟩ hy
   have:=List.mk_mem_zipIdx_iff_getElem?.1 hy
   have b:i<l.length:=by
    rcases Nat.lt_or_ge i l.length with h | h
    .exact h
    .rw [List.getElem?_eq_none h] at this; cases this
   exact hk i y b this
  rw [this] at h; cases h
 .exact ⟨j,x,h2,h3,c⟩
theorem Ql {α:Type} {l:List α} {p:α×Nat->Bool} (h:l.zipIdx.all p=true) {j:Nat} {x:α} (hx:l[j]? = some x):p (x,j)=true :=
 List.all_eq_true.1 h _ (List.mk_mem_zipIdx_iff_getElem?.2 hx)
theorem Alx {α:Type} {l:List α} {p:α×Nat->Bool} (h:∀j x,l[j]? = some x->p (x,j)=true):l.zipIdx.all p=true:=by
 rw [List.all_eq_true]
 rintro ⟨y,i⟩ hy
 exact h i y (List.mk_mem_zipIdx_iff_getElem?.1 hy)
theorem T9 {S E R α:Type} {step:S->Option (S⊕E)} {s0:S} {J:E->Option R} {rt rf:R} (l:List α) (p:α×Nat->Bool) (b:Nat->S) (h0:s0=b 0) (g:l.length<4611686018427387904)
  (f:∀(j:Nat) (x:α),l[j]? = some x->(∀i y,i<j->l[i]? = some y->p (y,i)=true)->decide ((j:Int)<(l.length:Int))=true->Af l (j:Int)=some x->Ac ((j:Int)+1)=((j+1:Nat):Int) ->
   (p (x,j)=true->step (b j)=some (.inl (b (j+1))))/\(p (x,j)=false->∃e,step (b j)=some (.inr e)/\J e=some rf))
  (s:decide ((l.length:Int)<(l.length:Int))=false->l.zipIdx.all p=true->∃e,step (b l.length)=some (.inr e)/\J e=some rt):(An step s0).bind J=some (bif l.zipIdx.all p then rt else rf):=by
 have c:∀(j:Nat) (x:α),l[j]? = some x->(∀i y,i<j->l[i]? = some y->p (y,i)=true)->_:=fun j x hx hy=>
  have hj:j<l.length:=by
   rcases Nat.lt_or_ge j l.length with h | h
   .exact h
   .rw [List.getElem?_eq_none h] at hx; cases hx
  f j x hx hy (Ba (by omega)) (Ew rfl hx) (F5 hj g)
 cases hb:l.zipIdx.all p with
 | true=>
  refine Jo l.length b h0 (fun j hj=>?_) (s (by simp) hb)
  have hx:l[j]? = some l[j]:=Cr hj
  exact (c j _ hx (fun i y _ hy=>Ql hb hy)).1 (Ql hb hx)
 | false=>
  obtain ⟨j,x,h1,h2,h3⟩:=Alw hb
  refine Jo j b h0 (fun i q=>?_) ((c j x h1 h3).2 h2)
  have hj:j<l.length:=by
   rcases Nat.lt_or_ge j l.length with h | h
   .exact h
   .rw [List.getElem?_eq_none h] at h1; cases h1
  have hx:l[i]? = some l[i]:=Cr (by omega)
  exact (c i _ hx (fun k y hk hy=>h3 k y (by omega) hy)).1 (h3 i _ q hx)
theorem Aly {α:Type} (l:List α) (p:α->Bool):l.zipIdx.all (fun q=>p q.1)=l.all p:=by
 cases h:l.all p with
 | true=>
  exact Alx fun j x hx=>List.all_eq_true.1 h _ (lmo hx)
 | false=>
  cases h':l.zipIdx.all (fun q=>p q.1) with
  | false=>rfl
  | true=>
   rw [<-h]; symm
   rw [List.all_eq_true]
   intro x hx
   obtain ⟨j,hj⟩:=List.getElem?_of_mem hx
   exact Ql h' hj
theorem Jp {S E R α:Type} {step:S->Option (S⊕E)} {s0:S} {J:E->Option R} {rt rf:R} (l:List α) (p:α->Bool) (b:Nat->S) (h0:s0=b 0) (f:l.length<4611686018427387904)
  (c:∀(j:Nat) (x:α),l[j]? = some x->decide ((j:Int)<(l.length:Int))=true->Af l (j:Int)=some x->Ac ((j:Int)+1)=((j+1:Nat):Int) ->
   (p x=true->step (b j)=some (.inl (b (j+1))))/\(p x=false->∃e,step (b j)=some (.inr e)/\J e=some rf))
  (g:decide ((l.length:Int)<(l.length:Int))=false->∃e,step (b l.length)=some (.inr e)/\J e=some rt):(An step s0).bind J=some (bif l.all p then rt else rf):=by
 rw [<-Aly l p]
 exact T9 l (fun q=>p q.1) b h0 f (fun j x hx _=>c j x hx) (fun h _=>g h)
theorem Aev {S E R α:Type} {step:S->Option (S⊕E)} {s0:S} {J:E->Option R} {r:R} (l:List α) (b:Nat->S) (h0:s0=b 0) (f:l.length<4611686018427387904)
  (c:∀(j:Nat) (x:α),j<l.length->l[j]? = some x->decide ((j:Int)<(l.length:Int))=true->Af l (j:Int)=some x->Ac ((j:Int)+1)=((j+1:Nat):Int)->step (b j)=some (.inl (b (j+1))))
  (g:decide ((l.length:Int)<(l.length:Int))=false->∃e,step (b l.length)=some (.inr e)/\J e=some r):(An step s0).bind J=some r:=by
 refine Jo l.length b h0 (fun j hj=>?_) (g (by simp))
 have hx:l[j]? = some l[j]:=Cr hj
 exact c j _ hj hx (Ba (by omega)) (Ew rfl hx) (F5 hj f)
theorem F6 {α:Type} {l:List α} {j:Nat} {x:α} (h:l[j]? = some x):l.take (j+1)=l.take j++[x]:=by
 rw [List.take_add_one,h]; rfl
theorem Fe {α:Type} {l:List α} {j:Nat} {x:α} (h:l[j]? = some x):j<l.length:=by
 rcases Nat.lt_or_ge j l.length with h' | h'
 .exact h'
 .rw [List.getElem?_eq_none h'] at h; cases h
theorem L9 (b:Bool):(bif b then true else false)=b:=by cases b <;> rfl
end Go.Ab
namespace Go.Ab
open Go
theorem Kn (l:List Int) (b:l.length<4611686018427387904):Gp l=some (Ey l):=by
 unfold Gp
 refine Fy (fun v=>∃k:Nat,v=k/\k<=l.length/\Ey (l.take k)=Ey l) (fun v=>v.toNat) (fun v=>∃k:Nat,v=k/\k<=l.length/\l.take k=Ey l) ⟨l.length,rfl,Nat.le_refl _,by simp⟩ ?_ ?_
 .rintro v ⟨k,rfl,hk,ht⟩
  cases k with
  | zero=>exact .inr ⟨0,rfl,0,rfl,by omega,by simpa [Ey] using ht⟩
  | succ j=>
   have hw:Ac (((j+1:Nat):Int)-1)=(j:Int):=by rw [Ac,Cj] <;> omega
   have hj:j<l.length:=by omega
   have hp:decide (((j+1:Nat):Int)>0)=true:=Ba (by omega)
   simp only [hp,cond_true,hw,Cz rfl hj,Ag]
   rw [List.take_succ_eq_append_getElem hj] at ht
   by_cases h0:l[j]=0
   .rw [h0,Alt] at ht
    exact .inl ⟨j,by rw [Fd h0]; rfl,⟨j,rfl,by omega,ht⟩,by omega⟩
   .rw [Alu h0] at ht
    exact .inr ⟨((j+1:Nat):Int),by rw [C6 h0]; rfl,j+1,rfl,by omega,by rw [List.take_succ_eq_append_getElem hj]; exact ht⟩
 .rintro v ⟨k,rfl,hk,ht⟩
  rw [Aep rfl hk,ht]; rfl
theorem Aew (l:List Int) (hd:Ht l) (D:l.length<1099511627776):Nx l=some (Ad (Ah l).toNat):=by
 unfold Nx
 have f:Ac ((l.length:Int)+1)=((l.length+1:Nat):Int):=by rw [Ac,Cj] <;> omega
 rw [f,Zc rfl (by omega) (by omega)]
 simp only [Ag]
 refine Fy (fun (c,i,o)=>∃k:Nat,i=k/\k<=l.length/\o.length=k/\Bk o/\0<=c/\c<5/\Ah o+1000000000 ^ k*c=Ah (l.take k))
  (fun (_,i,_)=>l.length-i.toNat) (fun (c,o)=>o.length=l.length/\Bk o/\0<=c/\c<5/\Ah o+1000000000 ^ l.length*c=Ah l)
  ⟨0,rfl,by omega,rfl,Bk.nil,by omega,by omega,by simp [Ah]⟩ ?_ ?_
 .rintro ⟨c,i,o⟩ ⟨k,rfl,hk,g,b,q,hc,u⟩
  rcases Nat.lt_or_ge k l.length with h | h
  .have hx:=hd l[k] (List.getElem_mem h)
   refine .inl ⟨((l[k]+c) / 1000000000,((k+1:Nat):Int),o++[(l[k]+c) % 1000000000]),?_,⟨k+1,rfl,by omega,by simp [g],b.snoc (by omega) (by omega),by omega,by omega,?_⟩,by simp; omega⟩
   .have A:As l[k]=l[k]:=Cm (by omega) (by omega)
    have z:As (l[k]+c)=l[k]+c:=Cm (by omega) (by omega)
    have s:Bu ((l[k]+c) % 1000000000)=(l[k]+c) % 1000000000:=Dx (by omega) (by omega)
    have y:Ac ((k:Int)+1)=((k+1:Nat):Int):=by rw [Ac,Cj] <;> omega
    have x:decide ((k:Int)<(l.length:Int))=true:=by simpa using h
    simp only [x,cond_true,Cz rfl h,Ag,A,z,Gs (show 0<=l[k]+c by omega) (show (0:Int)<1000000000 by decide),s,D7 (show (o.length+[(l[k]+c) % 1000000000].length)*4<=_ by simp; omega),G8 (show 0<=l[k]+c by omega) (show l[k]+c<=_ by omega) (show (0:Int)<1000000000 by decide),y]
   .rw [Dy l h,<-u,Gt,g,Int.pow_succ]
    have:=Int.mul_ediv_add_emod (l[k]+c) 1000000000
    grind
  .have j:k=l.length:=by omega
   subst j
   refine .inr ⟨(c,o),by simp,g,b,q,hc,by simpa using u⟩
 .rintro ⟨c,o⟩ ⟨h2,h3,I,G,E⟩
  have B:=Ej hd
  by_cases hc:c>0
  .have s:Bu c=c:=Dx (by omega) (by omega)
   simp only [decide_eq_true hc,cond_true,s,D7 (show (o.length+[c].length)*4<=_ by simp; omega),Ag,Kn (o++[c]) (by simp; omega)]
   rw [G9 (h3.snoc (by omega) (by omega)) (n:=(Ah l).toNat) (by rw [Gt,h2]; omega)]
  .have:c=0:=by omega
   subst this
   simp only [Int.lt_irrefl,gt_iff_lt,decide_false,cond_false,Kn o (by omega),Ag]
   rw [G9 h3 (n:=(Ah l).toNat) (by omega)]
end Go.Ab
namespace Go.Ab
open Go
theorem Ma {n:Nat} (h:n<18446744073709551616):Bc n<=3:=Km (Nat.lt_of_lt_of_le h (by decide))
theorem Ko (n:Nat) (h:n<18446744073709551616):Jm n=some (Ad n):=by
 unfold Jm
 have b:=Ma h
 unfold Bc at b
 refine Fy (fun (w,o)=>∃k:Nat,w=k/\k<=n/\o++Ad k=Ad n) (fun (w,_)=>w.toNat) (fun o=>o=Ad n) ⟨n,rfl,Nat.le_refl _,by simp⟩ ?_ (by rintro o rfl; rfl)
 rintro ⟨w,o⟩ ⟨k,rfl,hk,c⟩
 by_cases h0:k=0
 .subst h0
  rw [D1,List.append_nil] at c
  exact .inr ⟨o,by simp,c⟩
 .have f:o.length<=3:=by rw [<-c] at b; simp at b; omega
  refine .inl ⟨(((k / 1000000000:Nat):Int),o++[((k % 1000000000:Nat):Int)]),?_,⟨k / 1000000000,rfl,by omega,by rw [List.append_assoc]; rw [Ij h0] at c; exact c⟩,by simp; omega⟩
  have l:decide ((k:Int)>0)=true:=Ba (by omega)
  have j:En (k:Int) 1000000000=some ((k % 1000000000:Nat):Int):=by rw [Gs (by omega) (by decide)]; rfl
  have i:Bu ((k % 1000000000:Nat):Int)=((k % 1000000000:Nat):Int):=Dx (by omega) (by omega)
  have g:D8 .u64 (k:Int) 1000000000=some ((k / 1000000000:Nat):Int):=by rw [G8 (by omega) (by omega) (by decide)]; rfl
  simp only [l,cond_true,j,Ag,i,D7 (show (o.length+[((k % 1000000000:Nat):Int)].length)*4<=_ by simp; omega),g]
def Dg (m n:Nat):Int:=if m<n then -1 else if n<m then 1 else 0
theorem Mb (m n:Nat) (g:Bc m<1099511627776) (f:Bc n<1099511627776):Ly (Ad m) (Ad n)=some (Dg m n):=by
 unfold Ly
 unfold Bc at g f
 by_cases h:(Ad m).length=(Ad n).length
 .rw [Kl (by omega:((Ad m).length:Int)=(Ad n).length),cond_false]
  have hw:Ac (((Ad m).length:Int)-1)=((Ad m).length:Int)-1:=by rw [Ac,Cj] <;> omega
  rw [hw]
  refine Fy (fun v=>∃k:Nat,v=(k:Int)-1/\k<=(Ad m).length/\(Ad m).drop k=(Ad n).drop k) (fun v=>(v+1).toNat)
   (fun e=>match e with | .inl r=>r=Dg m n | .inr _=>m=n) ⟨(Ad m).length,rfl,Nat.le_refl _,by rw [List.drop_length,h,List.drop_length]⟩ ?_ ?_
  .rintro v ⟨k,rfl,hk,hd⟩
   cases k with
   | zero=>
    refine .inr ⟨.inr (),by simp,?_⟩
    have:Ad m=Ad n:=by simpa using hd
    have:=congrArg Ah this
    rw [Dm,Dm] at this
    show m=n
    omega
   | succ j=>
    have hj:j<(Ad m).length:=by omega
    have hj':j<(Ad n).length:=by omega
    have l:((j+1:Nat):Int)-1=(j:Int):=by omega
    have i:decide ((j:Int)>=0)=true:=Ba (by omega)
    simp only [l,i,cond_true,Cz rfl hj,Cz rfl hj',Ag]
    rcases Int.lt_trichotomy (Ad m)[j] (Ad n)[j] with b | heq | hgt
    .refine .inr ⟨.inl (-1),by rw [Ba b]; rfl,?_⟩
     have:=Aeu (Dd m) hj hj' (Dd n) hd b
     rw [Dm,Dm] at this
     show (-1:Int)=Dg m n
     rw [Dg,if_pos (by omega)]
    .refine .inl ⟨(j:Int)-1,?_,⟨j,rfl,by omega,?_⟩,by omega⟩
     .rw [Bb (by omega:¬(Ad m)[j]<(Ad n)[j]),cond_false,Bb (by omega:¬(Ad m)[j]>(Ad n)[j]),cond_false]
      rw [Ac,Cj (by omega) (by omega)]
     .rw [List.drop_eq_getElem_cons hj,List.drop_eq_getElem_cons hj',hd,heq]
    .refine .inr ⟨.inl 1,by rw [Bb (by omega:¬(Ad m)[j]<(Ad n)[j]),cond_false,Ba (by omega:(Ad m)[j]>(Ad n)[j])]; rfl,?_⟩
     have:=Aeu (Dd n) hj' hj (Dd m) hd.symm hgt
     rw [Dm,Dm] at this
     show (1:Int)=Dg m n
     rw [Dg,if_neg (by omega),if_pos (by omega)]
  .rintro (e | e) c
   .simp only at c ⊢; rw [c]
   .simp only at c ⊢; rw [Dg,if_neg (by omega),if_neg (by omega)]
 .rw [Jn (by omega:((Ad m).length:Int)≠(Ad n).length),cond_true]
  by_cases b:(Ad m).length<(Ad n).length
  .rw [Ba (by omega:((Ad m).length:Int)<(Ad n).length),cond_true]
   have:=Aet (m:=m) (n:=n) b
   rw [Dg,if_pos this]
  .rw [Bb (by omega:¬((Ad m).length:Int)<(Ad n).length),cond_false]
   have:=Aet (m:=n) (n:=m) (by unfold Bc; omega)
   rw [Dg,if_neg (by omega),if_pos this]
theorem Zh {l:List Int} (h:Bk l) (c:l≠[]->1000000000 ^ (l.length-1)<=Ah l):Can l:=by
 refine ⟨h,fun b h0=>?_⟩
 have h1:=c b
 have e:=List.dropLast_concat_getLast b
 have h2:Bk l.dropLast:=fun d hd=>h d (List.dropLast_subset l hd)
 have h3:=Gd h2
 rw [List.length_dropLast] at h3
 have f:=congrArg Ah e
 rw [Gt,h0] at f
 omega
theorem Ge (l:List Int) {k:Nat} (h:l.length<=k):Ah (l.take k)=Ah l:=by rw [List.take_of_length_le h]
theorem Aex (a b:List Int) (ha:Bk a) (hb:Bk b) (hl:a.length<1099511627776) (hab:b.length<=a.length) (V:a≠[]->1000000000 ^ (a.length-1)<=Ah a) :
  ((Dv 4 0 (Ac ((a.length:Int)+1)) (0:Int)).bind fun o3=>
 (An (S:=(Int×Int×(List Int))) (E:=(Int×(List Int))) (fun (v20,v21,x)=>
 bif (decide (v21<(a.length:Int))) then (
 (Af a v21).bind fun v23=>
 (show Option Int from
 bif (decide (v21<(b.length:Int))) then (
 (Af b v21).bind fun v24=>
 some (Bu ((Bu (v23+v20))+v24))
 )
 else (
 some (Bu (v23+v20))
 )
 ).bind fun v25=>
 (D8 .u32 v25 1000000000).bind fun v26=>
 (En v25 1000000000).bind fun g=>
 (Bz 4 x [g]).bind fun j=>
 some (.inl (v26,(Ac (v21+1)),j))
 )
 else (
 some (.inr (v20,x))
 )
  ) (0,0,o3)).bind fun (q,u)=>
 bif (decide (q>(0:Int))) then (
 (Bz 4 u [q]).bind fun L=>
 some L
 )
 else (
 some u
 ))=some (Ad (Ah a+Ah b).toNat):=by
 have B:Ac ((a.length:Int)+1)=((a.length+1:Nat):Int):=by rw [Ac,Cj] <;> omega
 rw [B,Zc rfl (by omega) (by omega)]
 simp only [Ag]
 have a7:=Ej ha.u32
 have a6:=Ej hb.u32
 refine Fy (fun (c,i,o)=>∃k:Nat,i=k/\k<=a.length/\o.length=k/\Bk o/\0<=c/\c<=1/\Ah o+1000000000 ^ k*c=Ah (a.take k)+Ah (b.take k))
  (fun (_,i,_)=>a.length-i.toNat) (fun (c,o)=>o.length=a.length/\Bk o/\0<=c/\c<=1/\Ah o+1000000000 ^ a.length*c=Ah a+Ah b)
  ⟨0,rfl,by omega,rfl,Bk.nil,by omega,by omega,by simp [Ah]⟩ ?_ ?_
 .rintro ⟨c,i,o⟩ ⟨k,rfl,hk,N,A,X,hc,M⟩
  rcases Nat.lt_or_ge k a.length with h | h
  .have hx:=ha.get h
   have e4:Ac ((k:Int)+1)=((k+1:Nat):Int):=by rw [Ac,Cj] <;> omega
   have e5:decide ((k:Int)<(a.length:Int))=true:=Ba (by omega)
   have step:∀s:Int,0<=s->s<2000000000->(show Option Int from bif (decide ((k:Int)<(b.length:Int))) then ((Af b k).bind fun v24=>some (Bu ((Bu (a[k]+c))+v24))) else some (Bu (a[k]+c)))=some s ->
     Ah (a.take (k+1))+Ah (b.take (k+1))=Ah (a.take k)+Ah (b.take k)+1000000000 ^ k*(s-c) ->
     (∃f,(bif (decide ((k:Int)<(a.length:Int))) then (
 (Af a k).bind fun v23=>
 (show Option Int from
 bif (decide ((k:Int)<(b.length:Int))) then (
 (Af b k).bind fun v24=>
 some (Bu ((Bu (v23+c))+v24))
 )
 else (
 some (Bu (v23+c))
 )
 ).bind fun v25=>
 (D8 .u32 v25 1000000000).bind fun v26=>
 (En v25 1000000000).bind fun g=>
 (Bz 4 o [g]).bind fun j=>
 some (.inl (v26,(Ac ((k:Int)+1)),j))
 )
 else (
 some (.inr (c,o))
 ))=some (Sum.inl f:(Int×Int×List Int)⊕(Int×List Int))/\(∃l:Nat,f.2.1=l/\l<=a.length/\f.2.2.length=l/\Bk f.2.2/\0<=f.1/\f.1<=1/\Ah f.2.2+1000000000 ^ l*f.1=Ah (a.take l)+Ah (b.take l))/\a.length-f.2.1.toNat<a.length-(k:Int).toNat):=by
    intro s z a1 hs y
    refine ⟨(s / 1000000000,((k+1:Nat):Int),o++[s % 1000000000]),?_,⟨k+1,rfl,by omega,by simp [N],A.snoc (by omega) (by omega),by simp; omega,by simp; omega,?_⟩,by simp; omega⟩
    .rw [e5,cond_true,Cz rfl h,Ag,hs,Ag,Zd z (by omega) (by decide),Ag,Gs z (by decide),Ag,D7 (by simp; omega),Ag,e4]
    .rw [y,<-M,Gt,N,Int.pow_succ]
     have:=Int.mul_ediv_add_emod s 1000000000
     grind
   refine .inl ?_
   rcases Nat.lt_or_ge k b.length with hb' | hb'
   .have hy:=hb.get hb'
    obtain ⟨f,J,I,G⟩:=step (a[k]+c+b[k]) (by omega) (by omega) (by
     have D:Bu (a[k]+c)=a[k]+c:=Dx (by omega) (by omega)
     have Z:Bu (a[k]+c+b[k])=a[k]+c+b[k]:=Dx (by omega) (by omega)
     show (bif (decide ((k:Int)<(b.length:Int))) then _ else _)=_
     rw [Ba (by omega:(k:Int)<(b.length:Int)),cond_true,Cz rfl hb',Ag,D,Z]) (by rw [Dy a h,Dy b hb']; grind)
    exact ⟨f,J,I,G⟩
   .obtain ⟨f,J,I,G⟩:=step (a[k]+c) (by omega) (by omega) (by
     have D:Bu (a[k]+c)=a[k]+c:=Dx (by omega) (by omega)
     show (bif (decide ((k:Int)<(b.length:Int))) then _ else _)=_
     rw [Bb (by omega:¬(k:Int)<(b.length:Int)),cond_false,D]) (by rw [Dy a h,Ge b hb',Ge b (by omega)]; grind)
    exact ⟨f,J,I,G⟩
  .have U:k=a.length:=by omega
   subst U
   refine .inr ⟨(c,o),by simp,N,A,X,hc,?_⟩
   rw [List.take_length,Ge b hab] at M
   exact M
 .rintro ⟨c,o⟩ ⟨h2,h3,h4,h5,h6⟩
  simp only []
  by_cases hc:c>0
  .have:c=1:=by omega
   subst this
   rw [Ba hc,cond_true,D7 (by simp; omega),Ag]
   congr 1
   refine T8 (Zh (h3.snoc (by omega) (by omega)) fun _=>?_) (by rw [Gt,h2]; omega)
   rw [Gt,h2]
   have:=Ej h3.u32
   simp [h2]; omega
  .have:c=0:=by omega
   subst this
   rw [Bb hc,cond_false]
   congr 1
   refine T8 (Zh h3 fun R=>?_) (by omega)
   have Y:a≠[]:=by intro e; rw [e] at h2; exact R (List.length_eq_zero_iff.1 h2)
   have:=V Y
   rw [h2]; omega
theorem Ua {n:Nat} (h:Ad n≠[]):1000000000 ^ ((Ad n).length-1)<=Ah (Ad n):=by
 rw [Dm]
 have h1:(Ad n).length≠0:=fun e=>h (List.length_eq_zero_iff.1 e)
 have:=Aes (n:=n) (k:=(Ad n).length-1) (by unfold Bc; omega)
 have e:((1000000000 ^ ((Ad n).length-1):Nat):Int)=1000000000 ^ ((Ad n).length-1):=by rw [Int.natCast_pow]; rfl
 omega
theorem Aey (m n:Nat) (c:Bc m<1099511627776) (b:Bc n<1099511627776):P4 (Ad m) (Ad n)=some (Ad (m+n)):=by
 unfold P4
 unfold Bc at c b
 by_cases f:(Ad m).length<(Ad n).length
 .simp only [Ba (by omega:((Ad m).length:Int)<(Ad n).length),cond_true,Ag]
  have:=Aex (Ad n) (Ad m) (Dd n) (Dd m) b (by omega) Ua
  rw [Dm,Dm] at this
  rw [show m+n=((n:Int)+(m:Int)).toNat by omega]
  exact this
 .simp only [Bb (by omega:¬((Ad m).length:Int)<(Ad n).length),cond_false,Ag]
  have:=Aex (Ad m) (Ad n) (Dd m) (Dd n) c (by omega) Ua
  rw [Dm,Dm] at this
  rw [show m+n=((m:Int)+(n:Int)).toNat by omega]
  exact this
end Go.Ab
namespace Go.Ab
open Go
theorem Hv {k n:Nat} (h:k<n) (b:n<4611686018427387904):Ac ((k:Int)+1)=((k+1:Nat):Int):=by rw [Ac,Cj] <;> omega
theorem Ub (m n:Nat) (X:Bc m<1099511627776) (B:n<=m):N3 (Ad m) (Ad n)=some (Ad (m-n)):=by
 unfold N3
 have E:(Ad n).length<=(Ad m).length:=E9 B
 unfold Bc at X
 rw [Zc rfl (by omega) (by omega)]
 simp only [Ag]
 have ha:=Dd m
 have hb:=Dd n
 refine Fy (fun (c,i,o)=>∃k:Nat,i=k/\k<=(Ad m).length/\o.length=k/\Bk o/\0<=c/\c<=1/\Ah o=Ah ((Ad m).take k)-Ah ((Ad n).take k)+1000000000 ^ k*c)
  (fun (_,i,_)=>(Ad m).length-i.toNat) (fun o=>∃c:Int,o.length=(Ad m).length/\Bk o/\0<=c/\c<=1/\Ah o=(m:Int)-n+1000000000 ^ (Ad m).length*c)
  ⟨0,rfl,by omega,rfl,Bk.nil,by omega,by omega,by simp [Ah]⟩ ?_ ?_
 .rintro ⟨c,i,o⟩ ⟨k,rfl,hk,l,g,I,hc,q⟩
  rcases Nat.lt_or_ge k (Ad m).length with h | h
  .have hx:=ha.get h
   have R:=Hv h (by omega)
   have N:decide ((k:Int)<((Ad m).length:Int))=true:=Ba (by omega)
   have L:Ac (Ad m)[k]=(Ad m)[k]:=Cj (by omega) (by omega)
   have J:Ac ((Ad m)[k]-c)=(Ad m)[k]-c:=Cj (by omega) (by omega)
   have key:∀s:Int,-1000000001<=s->s<1000000000->Ah ((Ad m).take (k+1))-Ah ((Ad n).take (k+1))=Ah ((Ad m).take k)-Ah ((Ad n).take k)+1000000000 ^ k*(s+c) ->
     ∃(f:Int) (d:Int),(bif decide (s<0) then ((Bz 4 o [(Bu (Ac (s+1000000000)))]).bind fun A=>some (Sum.inl (1,(Ac ((k:Int)+1)),A))) else ((Bz 4 o [(Bu s)]).bind fun z=>some (Sum.inl (0,(Ac ((k:Int)+1)),z))))=some (Sum.inl (f,((k+1:Nat):Int),o++[d]):(Int×Int×List Int)⊕List Int) /\
      (-1000000000<=s->(∃j:Nat,((k+1:Nat):Int)=j/\j<=(Ad m).length/\(o++[d]).length=j/\Bk (o++[d])/\0<=f/\f<=1/\Ah (o++[d])=Ah ((Ad m).take j)-Ah ((Ad n).take j)+1000000000 ^ j*f)):=by
    intro s h1 h2 b
    by_cases M:s<0
    .refine ⟨1,Bu (Ac (s+1000000000)),by rw [Ba M,cond_true,D7 (by simp; omega),Ag,R],fun h3=>?_⟩
     have V:Ac (s+1000000000)=s+1000000000:=Cj (by omega) (by omega)
     have u:Bu (s+1000000000)=s+1000000000:=Dx (by omega) (by omega)
     rw [V,u]
     refine ⟨k+1,rfl,by omega,by simp [l],g.snoc (by omega) (by omega),by omega,by omega,?_⟩
     rw [b,Gt,l,q,Int.pow_succ]; grind
    .refine ⟨0,Bu s,by rw [Bb M,cond_false,D7 (by simp; omega),Ag,R],fun h3=>?_⟩
     have u:Bu s=s:=Dx (by omega) (by omega)
     rw [u]
     refine ⟨k+1,rfl,by omega,by simp [l],g.snoc (by omega) (by omega),by omega,by omega,?_⟩
     rw [b,Gt,l,q,Int.pow_succ]; grind
   refine .inl ?_
   rcases Nat.lt_or_ge k (Ad n).length with hb' | hb'
   .have hy:=hb.get hb'
    have U:Ac (Ad n)[k]=(Ad n)[k]:=Cj (by omega) (by omega)
    have S:Ac ((Ad m)[k]-c-(Ad n)[k])=(Ad m)[k]-c-(Ad n)[k]:=Cj (by omega) (by omega)
    obtain ⟨f,d,y,x⟩:=key ((Ad m)[k]-c-(Ad n)[k]) (by omega) (by omega) (by rw [Dy _ h,Dy _ hb']; grind)
    refine ⟨(f,((k+1:Nat):Int),o++[d]),?_,x (by omega),by simp; omega⟩
    rw [<-y]
    simp only [N,cond_true,Cz rfl h,Ag,L,J,Ba (by omega:(k:Int)<((Ad n).length:Int)),Cz rfl hb',U,S]
   .obtain ⟨f,d,y,x⟩:=key ((Ad m)[k]-c) (by omega) (by omega) (by rw [Dy _ h,Ge (Ad n) hb',Ge (Ad n) (by omega)]; grind)
    refine ⟨(f,((k+1:Nat):Int),o++[d]),?_,x (by omega),by simp; omega⟩
    rw [<-y]
    simp only [N,cond_true,Cz rfl h,Ag,L,J,Bb (by omega:¬(k:Int)<((Ad n).length:Int)),cond_false]
  .have G:k=(Ad m).length:=by omega
   subst G
   refine .inr ⟨o,by simp,c,l,g,I,hc,?_⟩
   rw [List.take_length,Ge _ E,Dm,Dm] at q
   exact q
 .rintro o ⟨c,h2,h3,h4,Z,Y⟩
  have D:=Gd h3
  rw [h2] at D
  have hp:=Gu (Ad m).length
  have:c=0:=by
   rcases Int.lt_or_le 0 c with hc | hc
   .have:c=1:=by omega
    subst this
    omega
   .omega
  subst this
  rw [Kn o (by omega),Ag,G9 h3 (n:=m-n) (by omega)]
theorem Zi (m d:Nat) (M:Bc m<1099511627776) (hd:0<d) (N:d<4294967296):L2 (Ad m) d=some (Ad (m / d),((m % d:Nat):Int)):=by
 unfold L2
 unfold Bc at M
 rw [I4 rfl rfl (Nat.le_refl _) (by omega) (by omega)]
 simp only [Ag]
 have ha:=Dd m
 have hw:Ac (((Ad m).length:Int)-1)=((Ad m).length:Int)-1:=by rw [Ac,Cj] <;> omega
 rw [hw]
 refine Fy (fun (r,i,o)=>∃k:Nat,i=(k:Int)-1/\k<=(Ad m).length/\o.length=(Ad m).length/\Bk o/\0<=r/\r<d/\Ah (o.drop k)*d+r=Ah ((Ad m).drop k))
  (fun (_,i,_)=>(i+1).toNat) (fun (r,o)=>o.length=(Ad m).length/\Bk o/\0<=r/\r<d/\Ah o*d+r=m)
  ⟨(Ad m).length,rfl,Nat.le_refl _,by simp,Bk.replicate _,by omega,by omega,by simp [Ah]⟩ ?_ ?_
 .rintro ⟨r,i,o⟩ ⟨k,rfl,hk,A,g,s,L,z⟩
  cases k with
  | zero=>exact .inr ⟨(r,o),by simp,A,g,s,L,by simpa [Dm] using z⟩
  | succ j=>
   have hj:j<(Ad m).length:=by omega
   have h:j<o.length:=by omega
   have hx:=ha.get hj
   have X:((j+1:Nat):Int)-1=(j:Int):=by omega
   have V:decide ((j:Int)>=0)=true:=Ba (by omega)
   have I:As (r*1000000000)=r*1000000000:=Cm (by omega) (by omega)
   have G:As (Ad m)[j]=(Ad m)[j]:=Cm (by omega) (by omega)
   have E:As (r*1000000000+(Ad m)[j])=r*1000000000+(Ad m)[j]:=Cm (by omega) (by omega)
   have b:(0:Int)<(d:Int):=by omega
   have c:0<=r*1000000000+(Ad m)[j]:=by omega
   have f:0<=(r*1000000000+(Ad m)[j]) / (d:Int):=Int.ediv_nonneg c (by omega)
   have u:(r*1000000000+(Ad m)[j]) / (d:Int)<1000000000:=by
    apply Int.ediv_lt_of_lt_mul b
    have:(r+1)*1000000000<=d*1000000000:=Int.mul_le_mul_of_nonneg_right (by omega) (by decide)
    omega
   have D:Bu ((r*1000000000+(Ad m)[j]) / (d:Int))=(r*1000000000+(Ad m)[j]) / (d:Int):=Dx f (by omega)
   have y:=Int.emod_nonneg (r*1000000000+(Ad m)[j]) (by omega:(d:Int)≠0)
   have x:=Int.emod_lt_of_pos (r*1000000000+(Ad m)[j]) b
   have B:Ac ((j:Int)-1)=(j:Int)-1:=by rw [Ac,Cj] <;> omega
   refine .inl ⟨((r*1000000000+(Ad m)[j]) % (d:Int),(j:Int)-1,o.set j ((r*1000000000+(Ad m)[j]) / (d:Int))),?_,⟨j,rfl,by omega,by simpa using A,g.set _ f u,y,x,?_⟩,by simp⟩
   .simp only [X,V,cond_true,Cz rfl hj,Cz rfl h,Ag,I,G,E,G8 c (by omega) b,Gs c b,D,B,Ep rfl]
   .have d1:(o.set j ((r*1000000000+(Ad m)[j]) / (d:Int))).drop j=((r*1000000000+(Ad m)[j]) / (d:Int))::o.drop (j+1):=by
     rw [List.drop_eq_getElem_cons (by simpa using h),List.drop_set_of_lt (by omega)]; simp
    rw [d1,List.drop_eq_getElem_cons hj]
    simp only [Ah]
    rw [<-z]
    have:=Int.mul_ediv_add_emod (r*1000000000+(Ad m)[j]) (d:Int)
    grind
 .rintro ⟨r,o⟩ ⟨h2,h3,U,S,R⟩
  simp only []
  have J:=Ej h3.u32
  have l:((m / d:Nat):Int)=Ah o/\((m % d:Nat):Int)=r:=by
   have b:(0:Int)<(d:Int):=by omega
   have e:=Int.ediv_emod_unique b (r:=r) (q:=Ah o) (a:=(m:Int))
   have:=e.2 ⟨by rw [<-R]; grind,U,S⟩
   exact ⟨by rw [Int.natCast_ediv]; exact this.1,by rw [Int.natCast_emod]; exact this.2⟩
  rw [Kn o (by omega),Ag,G9 h3 l.1.symm,l.2]
end Go.Ab
namespace Go.Ab
open Go
theorem Uc {x y:Int} (hx:0<=x) (c:x<1000000000) (hy:0<=y) (b:y<1000000000):0<=x*y/\x*y<=999999998000000001:=by
 refine ⟨Int.mul_nonneg hx hy,?_⟩
 have h1:x*y<=999999999*y:=Int.mul_le_mul_of_nonneg_right (by omega) hy
 omega
theorem Kp (m n:Nat) (hm:Bc m<549755813888) (hn:Bc n<549755813888):Jl (Ad m) (Ad n)=some (Ad (m*n)):=by
 unfold Jl
 unfold Bc at hm hn
 by_cases hz:m=0\/n=0
 .have:(show Option Bool from bif (((Ad m).length:Int)==(0:Int)) then some true else some (((Ad n).length:Int)==(0:Int)))=some true:=by
   show (bif (((Ad m).length:Int)==(0:Int)) then some true else some (((Ad n).length:Int)==(0:Int)))=some true
   by_cases h:m=0
   .subst h; rw [D1]; rfl
   .have y:n=0:=by omega
    subst y
    rw [C6 (by have:=Fr h; have:(Ad m).length≠0:=fun e=>this (List.length_eq_zero_iff.1 e); omega),D1]; rfl
  rw [this,Ag,cond_true]
  have:m*n=0:=by rcases hz with rfl | rfl <;> simp
  rw [this,D1]
 .have I:m≠0:=by omega
  have y:n≠0:=by omega
  have aa:(Ad m).length≠0:=fun e=>Fr I (List.length_eq_zero_iff.1 e)
  have a8:(Ad n).length≠0:=fun e=>Fr y (List.length_eq_zero_iff.1 e)
  simp only [C6 (by omega:((Ad m).length:Int)≠0),C6 (by omega:((Ad n).length:Int)≠0),cond_false,Ag]
  have hw:Ac (((Ad m).length:Int)+((Ad n).length:Int))=(((Ad m).length+(Ad n).length:Nat):Int):=by rw [Ac,Cj] <;> omega
  rw [hw,I4 rfl rfl (Nat.le_refl _) (by omega) (by omega)]
  simp only [Ag]
  have ha:=Dd m
  have hb:=Dd n
  refine Fy (fun (i,o)=>∃k:Nat,i=k/\k<=(Ad m).length/\o.length=(Ad m).length+(Ad n).length/\Bk o/\o.drop (k+(Ad n).length)=List.replicate ((Ad m).length-k) 0/\Ah o=Ah ((Ad m).take k)*n)
   (fun (i,_)=>(Ad m).length-i.toNat) (fun o=>o.length=(Ad m).length+(Ad n).length/\Bk o/\Ah o=((m*n:Nat):Int))
   ⟨0,rfl,by omega,by simp,Bk.replicate _,by rw [List.drop_replicate]; congr 1; omega,by simp [T6,Ah]⟩ ?_ ?_
  .rintro ⟨i,o⟩ ⟨k,rfl,hk,R,D,L,G⟩
   rcases Nat.lt_or_ge k (Ad m).length with h | h
   .have hx:=ha.get h
    have e4:=Hv h (by omega)
    have e5:decide ((k:Int)<((Ad m).length:Int))=true:=Ba (by omega)
    simp only [e5,cond_true]
    refine .inl (T5 (G7 (fun (c,j,o')=>∃q:Nat,j=q/\q<=(Ad n).length/\o'.length=(Ad m).length+(Ad n).length/\Bk o'/\o'.drop (k+(Ad n).length)=List.replicate ((Ad m).length-k) 0/\0<=c/\c<1000000000 /\
      Ah o' + 1000000000 ^ (k+q)*c=Ah o+1000000000 ^ k*((Ad m)[k]*Ah ((Ad n).take q)))
     (fun (_,j,_)=>(Ad n).length-j.toNat) (fun (c,j,o')=>o'.length=(Ad m).length+(Ad n).length/\Bk o'/\o'.drop (k+(Ad n).length)=List.replicate ((Ad m).length-k) 0/\0<=c/\c<1000000000 /\
      Ah o' + 1000000000 ^ (k+(Ad n).length)*c=Ah o+1000000000 ^ k*((Ad m)[k]*n))
     ⟨0,rfl,by omega,R,D,L,by omega,by omega,by simp [Ah]⟩ ?_ ?_))
    .rintro ⟨c,j,o'⟩ ⟨q,rfl,hq,l,b,f,z,hc,x⟩
     rcases Nat.lt_or_ge q (Ad n).length with hq' | hq'
     .have hy:=hb.get hq'
      have g:k+q<o'.length:=by omega
      have a1:=b.get g
      have a6:=Uc hx.1 hx.2 hy.1 hy.2
      have Y:As (Ad m)[k]=(Ad m)[k]:=Cm (by omega) (by omega)
      have X:As (Ad n)[q]=(Ad n)[q]:=Cm (by omega) (by omega)
      have V:As ((Ad m)[k]*(Ad n)[q])=(Ad m)[k]*(Ad n)[q]:=Cm (by omega) (by omega)
      have U:As o'[k+q]=o'[k+q]:=Cm (by omega) (by omega)
      have S:As ((Ad m)[k]*(Ad n)[q]+o'[k+q])=(Ad m)[k]*(Ad n)[q]+o'[k+q]:=Cm (by omega) (by omega)
      have N:As ((Ad m)[k]*(Ad n)[q]+o'[k+q]+c)=(Ad m)[k]*(Ad n)[q]+o'[k+q]+c:=Cm (by omega) (by omega)
      have e6:=Hv hq' (by omega)
      have e7:decide ((q:Int)<((Ad n).length:Int))=true:=Ba (by omega)
      have M:Ac ((k:Int)+(q:Int))=((k+q:Nat):Int):=by rw [Ac,Cj] <;> omega
      generalize hs:(Ad m)[k]*(Ad n)[q]+o'[k+q]+c=s at N
      have A:0<=s:=by omega
      have a7:s<1000000000000000000:=by omega
      have E:Bu (s % 1000000000)=s % 1000000000:=Dx (by omega) (by omega)
      refine .inl ⟨(s / 1000000000,((q+1:Nat):Int),o'.set (k+q) (s % 1000000000)),?_,⟨q+1,rfl,by omega,by simpa using l,b.set _ (by omega) (by omega),?_,by omega,by omega,?_⟩,by simp; omega⟩
      .simp only [e7,cond_true,Cz rfl h,Cz rfl hq',M,Cz rfl g,Ag,Y,X,V,U,S,hs,N,Gs A (show (0:Int)<1000000000 by decide),G8 A (show s<=_ by omega) (show (0:Int)<1000000000 by decide),E,e6,Ep rfl]
      .rw [List.drop_set_of_lt (by omega)]; exact f
      .rw [Hu _ g,Dy _ hq']
       have:=Int.mul_ediv_add_emod s 1000000000
       have Z:(1000000000:Int) ^ (k+(q+1))=1000000000 ^ (k+q)*1000000000:=by rw [<-Nat.add_assoc,Int.pow_succ]
       have p2:(1000000000:Int) ^ (k+q)=1000000000 ^ k*1000000000 ^ q:=Int.pow_add ..
       rw [Z]
       grind
     .have:q=(Ad n).length:=by omega
      subst this
      refine .inr ⟨(c,_,o'),by simp; rfl,l,b,f,z,hc,?_⟩
      rw [List.take_length,Dm] at x
      exact x
    .rintro ⟨c,j,o'⟩ ⟨l,b,f,z,hc,x⟩
     have M:Ac ((k:Int)+((Ad n).length:Int))=((k+(Ad n).length:Nat):Int):=by rw [Ac,Cj] <;> omega
     have g:k+(Ad n).length<o'.length:=by omega
     have E:Bu c=c:=Dx (by omega) (by omega)
     have u:o'[k+(Ad n).length]=0:=by
      have:=congrArg List.head? f
      rw [List.head?_drop,Cr g] at this
      have B:(List.replicate ((Ad m).length-k) (0:Int)).head? = some 0:=by
       cases hh:(Ad m).length-k with
       | zero=>omega
       | succ t=>rfl
      rw [B] at this
      exact Option.some.inj this
     refine ⟨_,by simp only [M,Cz rfl g,Ag,E,e4,Ep rfl]; rfl,_,rfl,⟨k+1,rfl,by omega,by simpa using l,b.set _ z hc,?_,?_⟩,by simp; omega⟩
     .rw [List.drop_set_of_lt (by omega),show k+1+(Ad n).length=(k+(Ad n).length)+1 by omega,<-List.drop_drop,f,List.drop_replicate]
      congr 1
     .rw [Hu _ g,u,Dy _ h,Int.add_mul,<-G]
      grind
   .have J:k=(Ad m).length:=by omega
    subst J
    refine .inr ⟨o,by simp,R,D,?_⟩
    rw [List.take_length,Dm] at G
    rw [G]; simp
  .rintro o ⟨h2,h3,h4⟩
   rw [Kn o (by omega),Ag,G9 h3 h4]
theorem Aez (a:List Int) (m:Nat) (ha:Bk a) (X:a.length<1099511627776) (V:m<1000000000) :
  ∃o,N5 a m=some o/\o.length=a.length+1/\Bk o/\Ah o=Ah a*m:=by
 unfold N5
 have u:Ac ((a.length:Int)+1)=((a.length+1:Nat):Int):=by rw [Ac,Cj] <;> omega
 rw [u,I4 rfl rfl (Nat.le_refl _) (by omega) (by omega)]
 simp only [Ag]
 refine G7 (fun (c,i,o)=>∃k:Nat,i=k/\k<=a.length/\o.length=a.length+1/\Bk o/\o.drop k=List.replicate (a.length+1-k) 0/\0<=c/\c<1000000000/\Ah o+1000000000 ^ k*c=Ah (a.take k)*m)
  (fun (_,i,_)=>a.length-i.toNat) (fun (c,o)=>o.length=a.length+1/\Bk o/\o.drop a.length = [0]/\0<=c/\c<1000000000/\Ah o+1000000000 ^ a.length*c=Ah a*m)
  ⟨0,rfl,by omega,by simp,Bk.replicate _,by simp,by omega,by omega,by simp [Ah,T6]⟩ ?_ ?_
 .rintro ⟨c,i,o⟩ ⟨k,rfl,hk,B,q,g,z,hc,I⟩
  rcases Nat.lt_or_ge k a.length with h | h
  .have hx:=ha.get h
   have f:k<o.length:=by omega
   have G:=Uc hx.1 hx.2 (show (0:Int)<=m by omega) (by omega)
   have U:=Hv h (by omega)
   have S:decide ((k:Int)<(a.length:Int))=true:=Ba (by omega)
   have E:As a[k]=a[k]:=Cm (by omega) (by omega)
   have D:As (a[k]*(m:Int))=a[k]*m:=Cm (by omega) (by omega)
   have A:As (a[k]*(m:Int)+c)=a[k]*m+c:=Cm (by omega) (by omega)
   have b:o[k]=0:=by
    have:=congrArg List.head? g
    rw [List.head?_drop,Cr f] at this
    have l:(List.replicate (a.length+1-k) (0:Int)).head? = some 0:=by
     cases Y:a.length+1-k with
     | zero=>omega
     | succ t=>rfl
    rw [l] at this
    exact Option.some.inj this
   generalize L:a[k]*(m:Int)+c=s at A
   have j:0<=s:=by omega
   have J:s<1000000000000000000:=by omega
   have x:Bu (s % 1000000000)=s % 1000000000:=Dx (by omega) (by omega)
   refine .inl ⟨(s / 1000000000,((k+1:Nat):Int),o.set k (s % 1000000000)),?_,⟨k+1,rfl,by omega,by simpa using B,q.set _ (by omega) (by omega),?_,by omega,by omega,?_⟩,by simp; omega⟩
   .simp only [S,cond_true,Cz rfl h,Cz rfl f,Ag,E,D,L,A,Gs j (show (0:Int)<1000000000 by decide),G8 j (show s<=_ by omega) (show (0:Int)<1000000000 by decide),x,U,Ep rfl]
   .rw [List.drop_set_of_lt (by omega),<-List.drop_drop,g,List.drop_replicate]; congr 1
   .rw [Hu _ f,b,Dy _ h,Int.pow_succ]
    have:=Int.mul_ediv_add_emod s 1000000000
    grind
  .have y:k=a.length:=by omega
   subst y
   refine .inr ⟨(c,o),by simp,B,q,by rw [g]; simp,z,hc,by rwa [List.take_length] at I⟩
 .rintro ⟨c,o⟩ ⟨h2,h3,g,R,N,M⟩
  have f:a.length<o.length:=by omega
  have x:Bu c=c:=Dx (by omega) (by omega)
  have b:o[a.length]=0:=by
   have:=congrArg List.head? g
   rw [List.head?_drop,Cr f] at this
   exact Option.some.inj this
  refine ⟨o.set a.length c,by simp only [Cz rfl f,Ag,x,Ep rfl],by simpa using h2,h3.set _ R N,?_⟩
  rw [Hu _ f,b,<-M]; grind
end Go.Ab
namespace Go.Ab
open Go
theorem Kq {α:Type} {l:List α} {off n:Nat} {i:Int} {k:Nat} (b:i=k) (hk:k<n) (h:off+k<l.length):Dj l off n i=some l[off+k]:=by
 subst b
 have h1:(0:Int)<=(k:Int):=by omega
 have h2:(k:Int)<(n:Int):=by omega
 simp [Dj,hk,h]
theorem Alz {P j k tb hb V U q g B:Int} (i:0<P) (u:V=j+P*tb) (l:0<=j) (x:U=k+P*hb) (s:k<P) (hq:q*V<=U) (c:0<=g) (h:hb<g*tb) (b:0<=tb):q<g:=by
 rcases Int.lt_or_le q g with h' | h'
 .exact h'
 .exfalso
  have f:0<=V:=by
   have:=Int.mul_nonneg (Int.le_of_lt i) b
   omega
  have h1:g*V<=q*V:=Int.mul_le_mul_of_nonneg_right h' f
  have h2:g*(P*tb)<=g*V:=Int.mul_le_mul_of_nonneg_left (by omega) c
  have h3:P*(hb+1)<=P*(g*tb):=Int.mul_le_mul_of_nonneg_left (by omega) (Int.le_of_lt i)
  have z:g*(P*tb)=P*(g*tb):=by grind
  have y:P*(hb+1)=P*hb+P:=by grind
  omega
theorem Ae0 {P j k tb hb V U q g:Int} (i:0<P) (y:V=j+P*tb) (s:j<P) (z:U=k+P*hb) (u:0<=k) (hq:U<(q+1)*V) (l:0<=g) (hgt:g<=tb+1) (h:g*tb<=hb) (b:0<V):g<=q+1:=by
 rcases Int.lt_or_le (q+1) g with h' | h'
 .exfalso
  have f:0<=g-1:=by
   rcases Int.lt_or_le g 1 with h2 | h2
   .have:g=0:=by omega
    subst this
    have c:q+1<0:=h'
    have:(q+1)*V<0:=Int.mul_neg_of_neg_of_pos c b
    have h0:0<=hb:=by simpa using h
    have:=Int.mul_nonneg (Int.le_of_lt i) h0
    omega
   .omega
  have h1:(q+1)*V<=(g-1)*V:=Int.mul_le_mul_of_nonneg_right (by omega) (Int.le_of_lt b)
  have x:P*(tb+1)=P*tb+P:=by grind
  have h2:(g-1)*V<=(g-1)*(P*(tb+1)):=Int.mul_le_mul_of_nonneg_left (by omega) f
  have h3:(g-1)*(P*(tb+1))=P*(g*tb+(g-tb-1)):=by grind
  have A:P*(g*tb+(g-tb-1))<=P*hb:=Int.mul_le_mul_of_nonneg_left (by omega) (Int.le_of_lt i)
  omega
 .exact h'
theorem Al0 {A C:Type} {X:Option (A×C)} {Q:A->C->Prop} (h:∃r,X=some r/\Q r.1 r.2):∃q o,X=some (q,o)/\Q q o:=by
 obtain ⟨⟨a,c⟩,h1,h2⟩:=h
 exact ⟨a,c,h1,h2⟩
theorem al1 {g t r h:Int} (k:g*t+r=h):(g-1)*t+(r+t)=h:=by grind
theorem al2 {o P s x b p d:Int} (e:s-1000000000*d=x-b-p):o+P*(s-x)-P*1000000000*d=(o-P*b)-P*p:=by grind
theorem al3 (b X K g A y:Int):b-X*(g*A)-X*K*(g*y)=b-X*(g*(A+K*y)):=by grind
theorem al4 {u X W N c U b g V:Int} (h:u+X*(W+N*c-U)-X*N*b=u-X*(g*V)):X*(U-g*V)=X*(W+N*(c-b)):=by grind
theorem al5 (u X q:Int):u-X*q-u=X*(-q):=by grind
theorem al6 {o P x b r:Int} (h:o-P*b=r):o+P*(x-b-x)=r:=by grind
theorem al7 {b X K c s x y o A:Int} (g:x+y+c=s) (f:1000000000*(s / 1000000000)+s % 1000000000=s) (h:b+X*K*c=o+X*A):b+X*K*(s % 1000000000-x)+X*K*1000000000*(s / 1000000000)=o+X*(A+K*y):=by grind
theorem al8 {o X N b u q V W f U c:Int} (h1:o-X*N*b=u-X*((q+1)*V)) (h2:u+X*(W+N*f-U)+X*N*c=o+X*V):X*(U-q*V)=X*(W+N*(f-b+c)):=by grind
theorem al9 {g P c o X V b u q f:Int} (h1:g+P*c=o+X*V) (h2:o-P*b=u-X*((q+1)*V)) (h3:f=b-c):g+P*(0-f)=u-X*(q*V):=by grind
theorem gtb {g t r h x:Int} (k:g*t+r=h):g*(t*1000000000+x)=(h-r)*1000000000+g*x:=by subst k; grind
theorem Zj {k:Nat} {x y:Int} (h:(1000000000:Int) ^ k*x=1000000000 ^ k*y):x=y:=Int.eq_of_mul_eq_mul_left (by have:=Gu k; omega) h
theorem Ae1 {o u:List Int} {off:Nat} (b:off<=o.length) (hu:off<=u.length) (h:o.take off=u.take off):Ah o-Ah u=1000000000 ^ off*(Ah (o.drop off)-Ah (u.drop off)):=by
 rw [I5 o off b,I5 u off hu,h]; grind
theorem Ud {l:List Int} (h:Bk l) (k:Nat):0<=Ah (l.drop k):=Ej (h.drop k).u32
theorem Al1 {D:List Int} (b:Bk D) {n:Nat} (h2:2<=n) (i:n<D.length) (g:Ah D<1000000000 ^ (n+1)) :
  Ah D=Ah (D.take (n-2))+1000000000 ^ (n-2)*((D[n]*1000000000+D[n-1])*1000000000+D[n-2]):=by
 have e:=I5 D (n+1) i
 have h0:Ah (D.drop (n+1))=0:=by
  have s:=Ud b (n+1)
  have ht:=Ej ((b.take (n+1)).u32)
  rcases Int.lt_or_le 0 (Ah (D.drop (n+1))) with h | h
  .have:(1000000000:Int) ^ (n+1)*1<=1000000000 ^ (n+1)*Ah (D.drop (n+1)):=Int.mul_le_mul_of_nonneg_left h (Int.le_of_lt (Gu _))
   omega
  .omega
 rw [h0,Int.mul_zero,Int.add_zero] at e
 obtain ⟨t,rfl⟩:∃t,n=t+2:=⟨n-2,by omega⟩
 have q:=Dy D (k:=t) (by omega)
 have l:=Dy D (k:=t+1) (by omega)
 have j:=Dy D (k:=t+2) (by omega)
 have f:(1000000000:Int) ^ (t+1)=1000000000 ^ t*1000000000:=Int.pow_succ ..
 have c:(1000000000:Int) ^ (t+2)=1000000000 ^ (t+1)*1000000000:=Int.pow_succ ..
 have i1:t+2-2=t:=rfl
 have i2:t+2-1=t+1:=rfl
 simp only [i1,i2]
 rw [e,j,l,q,c,f]
 grind
theorem Al2 {v:List Int} {n:Nat} (h2:2<=n) (g:v.length=n) :
  Ah v=Ah (v.take (n-2))+1000000000 ^ (n-2)*(v[n-1]*1000000000+v[n-2]):=by
 obtain ⟨t,rfl⟩:∃t,n=t+2:=⟨n-2,by omega⟩
 have f:=Dy v (k:=t) (by omega)
 have b:=Dy v (k:=t+1) (by omega)
 have e:v.take (t+1+1)=v:=List.take_of_length_le (by omega)
 rw [e] at b
 have c:(1000000000:Int) ^ (t+1)=1000000000 ^ t*1000000000:=Int.pow_succ ..
 have i1:t+2-2=t:=rfl
 have i2:t+2-1=t+1:=rfl
 simp only [i1,i2]
 rw [b,f,c]
 grind
set_option maxHeartbeats 1000000 in
theorem Al3 (v u:List Int) (off n:Nat) (hv:Bk v) (hu:Bk u) (hn:v.length=n) (h2:2<=n) (bz:n<1099511627776) (bo:500000000<=v[n-1]) (X:off+n<u.length) (hT:Ah (u.drop off)<Ah v*1000000000) :
  ∃q o,Qd off (n+1) v u=some (q,o)/\o.length=u.length/\Bk o/\0<=q/\q<1000000000/\Ah o=Ah u-1000000000 ^ off*(q*Ah v)/\0<=Ah (o.drop off)/\Ah (o.drop off)<Ah v:=by
 have b7:=Gd hv
 rw [hn] at b7
 have c3:(u.drop off).length=u.length-off:=List.length_drop
 have A:=hu.drop off
 have bn:=Ej A.u32
 have b9:Ah (u.drop off)<1000000000 ^ (n+1):=by rw [Int.pow_succ]; omega
 have ab:=Al1 A h2 (by omega) b9
 have ao:=Al2 h2 hn
 have gd:∀i (h:i<(u.drop off).length),(u.drop off)[i]=u[off+i]'(by omega):=fun i h=>List.getElem_drop
 rw [gd,gd,gd] at ab
 have br:=hu.get (i:=off+n) (by omega)
 have bu:=hu.get (i:=off+(n-1)) (by omega)
 have bt:=hu.get (i:=off+(n-2)) (by omega)
 have bv:=hv.get (i:=n-1) (by omega)
 have ad:=hv.get (i:=n-2) (by omega)
 have hP:=Gu (n-2)
 have b8:=Ej ((hv.take (n-2)).u32)
 have aa:=Gd (hv.take (n-2))
 rw [List.length_take,Nat.min_eq_left (by omega)] at aa
 have bb:=Ej ((A.take (n-2)).u32)
 have ba:=Gd (A.take (n-2))
 rw [List.length_take,Nat.min_eq_left (by omega)] at ba
 have y:0<Ah v:=by
  have:(1000000000:Int) ^ (n-2)*1<=1000000000 ^ (n-2)*(v[n-1]*1000000000+v[n-2]):=Int.mul_le_mul_of_nonneg_left (by omega) (Int.le_of_lt hP)
  omega
 generalize hq:Ah (u.drop off) / Ah v=q
 have bi:q*Ah v<=Ah (u.drop off):=by rw [<-hq]; exact Int.ediv_mul_le _ (by omega)
 have ar:Ah (u.drop off)<(q+1)*Ah v:=by
  rw [<-hq]
  have:=Int.lt_ediv_add_one_mul_self (Ah (u.drop off)) y
  exact this
 have ag:0<=q:=by rw [<-hq]; exact Int.ediv_nonneg bn (by omega)
 have bg:q<1000000000:=by rw [<-hq]; exact Int.ediv_lt_of_lt_mul y (by rw [Int.mul_comm]; exact hT)
 have l:(0:Int)<v[n-1]:=by omega
 generalize ak:u[off+n]*1000000000+u[off+(n-1)]=head at ab
 have am:0<=head:=by omega
 have c1:head<=v[n-1]*1000000000+v[n-2]:=by
  rcases Int.lt_or_le (v[n-1]*1000000000+v[n-2]) head with h | h
  .exfalso
   have a1:(1000000000:Int) ^ (n-2)*((v[n-1]*1000000000+v[n-2]+1)*1000000000)<=1000000000 ^ (n-2)*(head*1000000000+u[off+(n-2)]):=Int.mul_le_mul_of_nonneg_left (by omega) (Int.le_of_lt hP)
   have a2:Ah v*1000000000<(1000000000 ^ (n-2)*(v[n-1]*1000000000+v[n-2]+1))*1000000000:=by
    have:(1000000000:Int) ^ (n-2)*(v[n-1]*1000000000+v[n-2]+1)=1000000000 ^ (n-2)*(v[n-1]*1000000000+v[n-2])+1000000000 ^ (n-2):=by grind
    omega
   have a3:((1000000000:Int) ^ (n-2)*(v[n-1]*1000000000+v[n-2]+1))*1000000000=1000000000 ^ (n-2)*((v[n-1]*1000000000+v[n-2]+1)*1000000000):=by grind
   omega
  .exact h
 have c2:0<=head / v[n-1]:=Int.ediv_nonneg am (by omega)
 have bl:head / v[n-1]<=1000000001:=by
  have:head / v[n-1]<1000000002:=Int.ediv_lt_of_lt_mul l (by omega)
  omega
 have bf:=Int.emod_nonneg head (by omega:v[n-1]≠0)
 have bw:=Int.emod_lt_of_pos head l
 have bm:=Int.mul_ediv_add_emod head v[n-1]
 unfold Qd
 have w1:Ac ((v.length:Int)-1)=((n-1:Nat):Int):=by rw [Ac,Cj] <;> omega
 have w2:Ac ((v.length:Int)-2)=((n-2:Nat):Int):=by rw [Ac,Cj] <;> omega
 have w3:(v.length:Int)=((n:Nat):Int):=by omega
 have x1:As u[off+n]=u[off+n]:=Cm (by omega) (by omega)
 have x2:As (u[off+n]*1000000000)=u[off+n]*1000000000:=Cm (by omega) (by omega)
 have x3:As u[off+(n-1)]=u[off+(n-1)]:=Cm (by omega) (by omega)
 have x4:As (u[off+n]*1000000000+u[off+(n-1)])=head:=by rw [As,Cm (by omega) (by omega),ak]
 have x5:As v[n-1]=v[n-1]:=Cm (by omega) (by omega)
 have x6:As v[n-2]=v[n-2]:=Cm (by omega) (by omega)
 have x7:As u[off+(n-2)]=u[off+(n-2)]:=Cm (by omega) (by omega)
 rw [w1,w2,Cz rfl (by omega:n-1<v.length),Ag,Cz rfl (by omega:n-2<v.length),Ag,w3,Kq rfl (by omega:n<n+1) (by omega),Ag,Kq rfl (by omega:n-1<n+1) (by omega),Ag,x1,x2,x3,x4,x5,x6,G8 am (by omega) l,Ag,Gs am l,Ag]
 refine Al0 (G7 (fun (g,rest)=>g*v[n-1]+rest=head/\0<=rest/\rest<2000000000/\q<=g/\g<=1000000001) (fun (g,_)=>g.toNat) (fun g=>q<=g/\g<=q+1/\g<=1000000000)
  ⟨by rw [Int.mul_comm]; exact bm,bf,by omega,?_,bl⟩ ?_ ?_)
 .
  rcases Int.lt_or_le (head / v[n-1]) q with h | h
  .exfalso
   have a1:(head / v[n-1]+1)*v[n-1]<=q*v[n-1]:=Int.mul_le_mul_of_nonneg_right (by omega) (by omega)
   have a2:head<(head / v[n-1]+1)*v[n-1]:=Int.lt_ediv_add_one_mul_self head l
   have a3:q*(1000000000 ^ (n-2)*(v[n-1]*1000000000+v[n-2]))<=q*Ah v:=Int.mul_le_mul_of_nonneg_left (by omega) ag
   have a4:(1000000000:Int) ^ (n-2)*((head+1)*1000000000)<=1000000000 ^ (n-2)*(q*(v[n-1]*1000000000+v[n-2])):=by
    apply Int.mul_le_mul_of_nonneg_left _ (Int.le_of_lt hP)
    have b1:(head+1)*1000000000<=q*v[n-1]*1000000000:=by omega
    have b2:0<=q*v[n-2]:=Int.mul_nonneg ag ad.1
    have b3:q*(v[n-1]*1000000000+v[n-2])=q*v[n-1]*1000000000+q*v[n-2]:=by grind
    omega
   have a5:q*((1000000000:Int) ^ (n-2)*(v[n-1]*1000000000+v[n-2]))=1000000000 ^ (n-2)*(q*(v[n-1]*1000000000+v[n-2])):=by grind
   have a6:(1000000000:Int) ^ (n-2)*((head+1)*1000000000)=1000000000 ^ (n-2)*(head*1000000000)+1000000000 ^ (n-2)*1000000000:=by grind
   have a7:(1000000000:Int) ^ (n-2)*(head*1000000000+u[off+(n-2)])=1000000000 ^ (n-2)*(head*1000000000)+1000000000 ^ (n-2)*u[off+(n-2)]:=by grind
   have a8:(1000000000:Int) ^ (n-2)*(u[off+(n-2)]+1)<=1000000000 ^ (n-2)*1000000000:=Int.mul_le_mul_of_nonneg_left (by omega) (Int.le_of_lt hP)
   have a9:(1000000000:Int) ^ (n-2)*(u[off+(n-2)]+1)=1000000000 ^ (n-2)*u[off+(n-2)]+1000000000 ^ (n-2):=by grind
   omega
  .exact h
 .rintro ⟨g,rest⟩ ⟨k1,k2,k3,k4,k5⟩
  have S:0<=g:=by omega
  have w4:As (v[n-1])=v[n-1]:=x5
  have af:∀(hgt:q<g),(some (Sum.inl ((As (g-1)),(As (rest+v[n-1])))):Option ((Int×Int)⊕Int))=some (.inl (g-1,rest+v[n-1])):=by
   intro hgt
   rw [show As (g-1)=g-1 from Cm (by omega) (by omega),show As (rest+v[n-1])=rest+v[n-1] from Cm (by omega) (by omega)]
  have stay:∀(hr:rest<1000000000) (hgt:q<g),(g-1)*v[n-1]+(rest+v[n-1])=head/\0<=rest+v[n-1]/\rest+v[n-1]<2000000000/\q<=g-1/\g-1<=1000000001:=by
   intro hr hgt
   exact ⟨al1 k1,by omega,by omega,by omega,by omega⟩
  by_cases hr:rest<1000000000
  .by_cases Y:g>=1000000000
   .refine .inl ⟨(g-1,rest+v[n-1]),?_,stay hr (by omega),by simp; omega⟩
    simp only [Ba hr,cond_true,Ba Y,Ag]
    exact af (by omega)
   .have bq:=Uc S (by omega) ad.1 ad.2
    have y1:As (g*v[n-2])=g*v[n-2]:=Cm (by omega) (by omega)
    have y2:As (rest*1000000000)=rest*1000000000:=Cm (by omega) (by omega)
    have y3:As (rest*1000000000+u[off+(n-2)])=rest*1000000000+u[off+(n-2)]:=Cm (by omega) (by omega)
    have az:g*(v[n-1]*1000000000+v[n-2])=(head-rest)*1000000000+g*v[n-2]:=gtb k1
    simp only [Ba hr,cond_true,Bb Y,cond_false,Kq rfl (by omega:n-2<n+1) (by omega:off+(n-2)<u.length),Ag,y1,x7,y2,y3]
    by_cases ae:g*v[n-2]>rest*1000000000+u[off+(n-2)]
    .have hgt:q<g:=Alz (P:=1000000000 ^ (n-2)) (tb:=v[n-1]*1000000000+v[n-2]) (hb:=head*1000000000+u[off+(n-2)]) (B:=0) hP ao b8 ab ba bi S (by omega) (by omega)
     refine .inl ⟨(g-1,rest+v[n-1]),?_,stay hr hgt,by simp; omega⟩
     rw [Ba ae,cond_true]
     exact af hgt
    .refine .inr ⟨g,by rw [Bb ae,cond_false],k4,?_,by omega⟩
     exact Ae0 (P:=1000000000 ^ (n-2)) (tb:=v[n-1]*1000000000+v[n-2]) (hb:=head*1000000000+u[off+(n-2)]) hP ao aa ab bb ar S (by omega) (by omega) y
  .refine .inr ⟨g,by simp only [Bb hr,cond_false,Ag],k4,?_⟩
   have Y:g<=1000000000:=by
    rcases Int.lt_or_le 1000000000 g with h | h
    .exfalso
     have:g=1000000001:=by omega
     subst this
     omega
    .exact h
   refine ⟨?_,Y⟩
   have az:g*(v[n-1]*1000000000+v[n-2])=(head-rest)*1000000000+g*v[n-2]:=gtb k1
   have bp:g*v[n-2]<=1000000000*v[n-2]:=Int.mul_le_mul_of_nonneg_right Y ad.1
   exact Ae0 (P:=1000000000 ^ (n-2)) (tb:=v[n-1]*1000000000+v[n-2]) (hb:=head*1000000000+u[off+(n-2)]) hP ao aa ab bb ar S (by omega) (by omega) y
 .rintro g ⟨k1,k2,k3⟩
  have S:0<=g:=by omega
  refine G7 (fun (b,i,o)=>∃k:Nat,i=k/\k<=n/\o.length=u.length/\Bk o/\o.take off=u.take off/\o.drop (off+k)=u.drop (off+k)/\0<=b/\b<=1000000001/\Ah o-1000000000 ^ (off+k)*b=Ah u-1000000000 ^ off*(g*Ah (v.take k)))
   (fun (_,i,_)=>n-i.toNat) (fun (b,o)=>o.length=u.length/\Bk o/\o.take off=u.take off/\o.drop (off+n)=u.drop (off+n)/\0<=b/\b<=1000000001/\Ah o-1000000000 ^ (off+n)*b=Ah u-1000000000 ^ off*(g*Ah v))
   ⟨0,rfl,by omega,rfl,hu,rfl,rfl,by omega,by omega,by simp [Ah]⟩ ?_ ?_
  .rintro ⟨b,i,o⟩ ⟨k,rfl,hk,ho,I,M,L,b6,b5,f⟩
   rcases Nat.lt_or_ge k n with h | h
   .have E:off+k<o.length:=by omega
    have J:k<v.length:=by omega
    have hx:=I.get E
    have hy:=hv.get J
    have e4:=Hv h (by omega)
    have e5:decide ((k:Int)<(n:Int))=true:=Ba (by omega)
    have av:0<=g*v[k]:=Int.mul_nonneg S hy.1
    have bx:g*v[k]<=1000000000*v[k]:=Int.mul_le_mul_of_nonneg_right k3 hy.1
    have y1:As v[k]=v[k]:=Cm (by omega) (by omega)
    have y2:As (g*v[k])=g*v[k]:=Cm (by omega) (by omega)
    have y3:Ac o[off+k]=o[off+k]:=Cj (by omega) (by omega)
    generalize au:g*v[k]=p at *
    have y4:Ac (o[off+k]-b)=o[off+k]-b:=Cj (by omega) (by omega)
    have y5:Ac (p % 1000000000)=p % 1000000000:=Cj (by omega) (by omega)
    have y6:Ac (o[off+k]-b-p % 1000000000)=o[off+k]-b-p % 1000000000:=Cj (by omega) (by omega)
    have y7:Ac (p / 1000000000)=p / 1000000000:=Cj (by omega) (by omega)
    simp only [e5,cond_true,Kq rfl (by omega:k<n+1) E,Cz rfl J,Ag,y1,y2,au,y3,y4,Gs av (show (0:Int)<1000000000 by decide),G8 av (show p<=_ by omega) (show (0:Int)<1000000000 by decide),y5,y6,y7]
    refine .inl (T5 (G7 (fun (b',s)=>∃t:Nat,b'=p / 1000000000+t/\s=o[off+k]-b-p % 1000000000+t*1000000000/\s<1000000000/\t<=3) (fun (_,s)=>(-s).toNat)
     (fun (b',s)=>∃t:Nat,b'=p / 1000000000+t/\s=o[off+k]-b-p % 1000000000+t*1000000000/\s<1000000000/\0<=s/\t<=2) ⟨0,by simp,by simp,by omega,by omega⟩ ?_ ?_))
    .rintro ⟨b',s⟩ ⟨t,rfl,hs,ac,ht⟩
     by_cases G:s<0
     .refine .inl ⟨(p / 1000000000+(t+1:Nat),s+1000000000),?_,⟨t+1,rfl,by rw [hs]; simp; omega,by omega,by omega⟩,by simp; omega⟩
      rw [Ba G,cond_true,show Ac (p / 1000000000+(t:Int)+1)=p / 1000000000+((t+1:Nat):Int) by rw [Ac,Cj] <;> omega,show Ac (s+1000000000)=s+1000000000 from Cj (by omega) (by omega)]
     .exact .inr ⟨(p / 1000000000+t,s),by rw [Bb G,cond_false],t,rfl,hs,ac,by omega,by omega⟩
    .rintro ⟨b',s⟩ ⟨t,rfl,hs,ac,G,ht⟩
     have y8:Bu s=s:=Dx (by omega) (by omega)
     refine ⟨.inl (p / 1000000000+t,((k+1:Nat):Int),o.set (off+k) s),by simp only [Kq rfl (by omega:k<n+1) E,Ag,y8,e4]; rw [Ep (n:=off+k) (by omega)],_,rfl,⟨k+1,rfl,by omega,by simpa using ho,I.set _ G ac,?_,?_,by omega,by omega,?_⟩,by simp; omega⟩
     .rw [List.take_set_of_le (by omega)]; exact M
     .rw [List.drop_set_of_lt (by omega),show off+(k+1)=(off+k)+1 by omega,<-List.drop_drop,L,List.drop_drop]
     .rw [Hu _ E,Dy v J,show off+(k+1)=(off+k)+1 by omega,Int.pow_succ]
      have ay:=Int.mul_ediv_add_emod p 1000000000
      have pa:(1000000000:Int) ^ (off+k)=1000000000 ^ off*1000000000 ^ k:=Int.pow_add ..
      have eA:s-1000000000*(p / 1000000000+(t:Int))=o[off+k]-b-p:=by rw [hs]; omega
      rw [al2 eA,f,<-au,pa]
      exact al3 _ _ _ _ _ _
   .have aj:k=n:=by omega
    subst aj
    refine .inr ⟨(b,o),by simp,ho,I,M,L,b6,b5,?_⟩
    rw [List.take_of_length_le (by omega)] at f
    exact f
  .rintro ⟨b,o⟩ ⟨ho,I,M,L,b6,b5,f⟩
   have hV:=y
   have ah:off+n<o.length:=by omega
   have ax:o[off+n]=u[off+n]:=by
    have:=congrArg List.head? L
    rw [List.head?_drop,List.head?_drop,Cr ah,Cr X] at this
    exact Option.some.inj this
   have hE:Ah (u.drop (off+n))=u[off+n]:=by
    have a1:=I5 (u.drop off) (n+1) (by omega)
    have a2:=Ej (((hu.drop off).take (n+1)).u32)
    have a3:=Ud (hu.drop off) (n+1)
    have a4:Ah ((u.drop off).drop (n+1))=0:=by
     rcases Int.lt_or_le 0 (Ah ((u.drop off).drop (n+1))) with h | h
     .have:(1000000000:Int) ^ (n+1)*1<=1000000000 ^ (n+1)*Ah ((u.drop off).drop (n+1)):=Int.mul_le_mul_of_nonneg_left h (Int.le_of_lt (Gu _))
      omega
     .omega
    rw [List.drop_eq_getElem_cons X]
    simp only [Ah]
    rw [List.drop_drop,show off+(n+1)=off+n+1 by omega] at a4
    rw [a4]; omega
   have main:∀o':List Int,o'.length=u.length->Bk o'->o'.take off=u.take off->o'.drop (off+n)=u.drop (off+n)->0<=Ah ((o'.drop off).take n)/\Ah ((o'.drop off).take n)<1000000000 ^ n /\
     Ah o'=Ah u+1000000000 ^ off*(Ah ((o'.drop off).take n)+1000000000 ^ n*u[off+n]-Ah (u.drop off)):=by
    intro o' l1 l2 l3 l4
    have a1:=I5 (o'.drop off) n (by rw [List.length_drop]; omega)
    rw [List.drop_drop,l4,hE] at a1
    have a2:=Ae1 (by omega) (by omega) l3
    refine ⟨Ej (((l2.drop off).take n).u32),?_,by rw [<-a1]; omega⟩
    have:=Gd ((l2.drop off).take n)
    rw [List.length_take,List.length_drop,Nat.min_eq_left (by omega)] at this
    exact this
   obtain ⟨m1,m2,m3⟩:=main o ho I M L
   have pa:(1000000000:Int) ^ (off+n)=1000000000 ^ off*1000000000 ^ n:=Int.pow_add ..
   have star:Ah (u.drop off)-g*Ah v=Ah ((o.drop off).take n)+1000000000 ^ n*(u[off+n]-b):=by
    apply Zj (k:=off)
    rw [m3,pa] at f
    exact al4 f
   have y1:Ac u[off+n]=u[off+n]:=Cj (by omega) (by omega)
   have y2:Ac (u[off+n]-b)=u[off+n]-b:=Cj (by omega) (by omega)
   have ap:=Gu n
   have fin:∀(U:List Int) (x:Int) (j:List Int),U=j.set (off+n) x->j.length=u.length->Bk j->0<=x->x<1000000000->j.take off=u.take off->Ah U=Ah u-1000000000 ^ off*(q*Ah v) ->
     U.length=u.length/\Bk U/\0<=q/\q<1000000000/\Ah U=Ah u-1000000000 ^ off*(q*Ah v)/\0<=Ah (U.drop off)/\Ah (U.drop off)<Ah v:=by
    intro U x j e l1 l2 x0 x1 l3 aq
    have L4:U.length=u.length:=by rw [e]; simpa using l1
    have T4:U.take off=u.take off:=by rw [e,List.take_set_of_le (by omega)]; exact l3
    have hp:=Ae1 (by omega) (by omega) T4
    have hd:Ah (U.drop off)=Ah (u.drop off)-q*Ah v:=by
     have:Ah (U.drop off)-Ah (u.drop off) = - (q*Ah v):=by
      apply Zj (k:=off)
      rw [<-hp,aq]; exact al5 _ _ _
     omega
    have bh:(q+1)*Ah v=q*Ah v+Ah v:=by grind
    exact ⟨L4,by rw [e]; exact l2.set _ x0 x1,ag,bg,aq,by omega,by omega⟩
   simp only [Kq rfl (by omega:n<n+1) ah,ax,Ag,y1,y2]
   by_cases z:u[off+n]-b>=0
   .have c0:g*Ah v<=Ah (u.drop off):=by
     have:=Int.mul_nonneg (Int.le_of_lt ap) z
     omega
    have R:g=q:=by
     rcases Int.lt_or_le q g with h | h
     .exfalso
      have:(q+1)*Ah v<=g*Ah v:=Int.mul_le_mul_of_nonneg_right (by omega) (by omega)
      omega
     .omega
    have y3:Bu (u[off+n]-b)=u[off+n]-b:=Dx (by omega) (by omega)
    have y4:Bu g=g:=Dx (by omega) (by omega)
    rw [Ba z,cond_true,y3,y4,Ep (n:=off+n) (by omega)]
    refine ⟨_,rfl,?_⟩
    rw [R]
    refine fin _ (u[off+n]-b) o rfl ho I z (by omega) M ?_
    rw [Hu _ ah,ax]
    rw [R] at f
    exact al6 f
   .have R:g=q+1:=by
     have h1:1000000000 ^ n*(u[off+n]-b)<=1000000000 ^ n*(-1):=Int.mul_le_mul_of_nonneg_left (by omega) (Int.le_of_lt ap)
     rcases Int.lt_or_le q g with h | h
     .omega
     .exfalso
      have:g*Ah v<=q*Ah v:=Int.mul_le_mul_of_nonneg_right h (by omega)
      omega
    rw [Bb z,cond_false]
    refine G7 (fun (c,i,j)=>∃k:Nat,i=k/\k<=n/\j.length=u.length/\Bk j/\j.take off=u.take off/\j.drop (off+k)=o.drop (off+k)/\0<=c/\c<=1/\Ah j+1000000000 ^ (off+k)*c=Ah o+1000000000 ^ off*Ah (v.take k))
     (fun (_,i,_)=>n-i.toNat) (fun (c,j)=>j.length=u.length/\Bk j/\j.take off=u.take off/\j.drop (off+n)=o.drop (off+n)/\0<=c/\c<=1/\Ah j+1000000000 ^ (off+n)*c=Ah o+1000000000 ^ off*Ah v)
     ⟨0,rfl,by omega,ho,I,M,rfl,by omega,by omega,by simp [Ah]⟩ ?_ ?_
    .rintro ⟨c,i,j⟩ ⟨k,rfl,hk,h3,N,V,Z,b4,b0,D⟩
     rcases Nat.lt_or_ge k n with h | h
     .have E:off+k<j.length:=by omega
      have J:k<v.length:=by omega
      have hx:=N.get E
      have hy:=hv.get J
      have e4:=Hv h (by omega)
      have e5:decide ((k:Int)<(n:Int))=true:=Ba (by omega)
      have z1:Bu (j[off+k]+v[k])=j[off+k]+v[k]:=Dx (by omega) (by omega)
      have z2:Bu (j[off+k]+v[k]+c)=j[off+k]+v[k]+c:=Dx (by omega) (by omega)
      generalize hs:j[off+k]+v[k]+c=s at z2
      have G:0<=s:=by omega
      have ac:s<2000000000:=by omega
      refine .inl ⟨(s / 1000000000,((k+1:Nat):Int),j.set (off+k) (s % 1000000000)),?_,⟨k+1,rfl,by omega,by simpa using h3,N.set _ (by omega) (by omega),?_,?_,by omega,by omega,?_⟩,by simp; omega⟩
      .simp only [e5,cond_true,Kq rfl (by omega:k<n+1) E,Cz rfl J,Ag,z1,hs,z2,Zd G (show s<=_ by omega) (show (0:Int)<1000000000 by decide),Gs G (show (0:Int)<1000000000 by decide),e4]
       rw [Ep (n:=off+k) (by omega)]
      .rw [List.take_set_of_le (by omega)]; exact V
      .rw [List.drop_set_of_lt (by omega),show off+(k+1)=(off+k)+1 by omega,<-List.drop_drop,Z,List.drop_drop]
      .rw [Hu _ E,Dy v J,show off+(k+1)=(off+k)+1 by omega,Int.pow_succ]
       have ay:=Int.mul_ediv_add_emod s 1000000000
       have pk:(1000000000:Int) ^ (off+k)=1000000000 ^ off*1000000000 ^ k:=Int.pow_add ..
       rw [pk] at D ⊢
       exact al7 hs ay D
     .have aj:k=n:=by omega
      subst aj
      refine .inr ⟨(c,j),by simp,h3,N,V,Z,b4,b0,?_⟩
      rw [List.take_of_length_le (by omega)] at D
      exact D
    .rintro ⟨c,j⟩ ⟨h3,N,V,Z,b4,b0,D⟩
     have ai:off+n<j.length:=by omega
     obtain ⟨r1,r2,r3⟩:=main j h3 N V (Z.trans L)
     have bj:j[off+n]=u[off+n]:=by
      have:=congrArg List.head? (Z.trans L)
      rw [List.head?_drop,List.head?_drop,Cr ai,Cr X] at this
      exact Option.some.inj this
     have be:Ah (u.drop off)-q*Ah v=Ah ((j.drop off).take n)+1000000000 ^ n*(u[off+n]-b+c):=by
      apply Zj (k:=off)
      rw [r3,pa] at D
      rw [R] at f
      rw [pa] at f
      exact al8 f D
     have bk:u[off+n]-b+c=0:=by
      have bh:(q+1)*Ah v=q*Ah v+Ah v:=by grind
      rcases Int.lt_or_le (u[off+n]-b+c) 0 with h | h
      .exfalso
       have h1:1000000000 ^ n*(u[off+n]-b+c)<=1000000000 ^ n*(-1):=Int.mul_le_mul_of_nonneg_left (by omega) (Int.le_of_lt ap)
       omega
      .omega
     have y5:Ac c=c:=Cj (by omega) (by omega)
     have y6:Ac (u[off+n]-b+c)=0:=by rw [bk]; rfl
     have y7:Bu (0:Int)=0:=rfl
     have y8:As (g-1)=q:=by rw [R,As,Cm (by omega) (by omega)]; omega
     have y9:Bu q=q:=Dx (by omega) (by omega)
     simp only [Kq rfl (by omega:n<n+1) ai,Ag,y5,y6,y7,y8,y9]
     rw [Ep (n:=off+n) (by omega)]
     refine ⟨_,rfl,?_⟩
     refine fin _ 0 j rfl h3 N (by omega) (by omega) V ?_
     rw [Hu _ ai,bj]
     rw [R] at f
     exact al9 D f (by omega)
end Go.Ab
namespace Go.Ab
open Go
theorem Al4 (a:List Int) (m:Int):Yy a m=N5 a m:=rfl
theorem Al5 {t d r:Int} (ht:1<=t) (b:t<1000000000) (hd:d*(t+1)+r=1000000000) (g:0<=r) (c:r<=t):500000000<=d*t:=by
 have f:0<=d:=by
  rcases Int.lt_or_le d 0 with h | h
  .exfalso
   have:d*(t+1)<=(-1)*(t+1):=Int.mul_le_mul_of_nonneg_right (by omega) (by omega)
   omega
  .exact h
 have e:d*(t+1)=d*t+d:=by grind
 rcases Int.lt_or_le t 2 with h | h
 .have:t=1:=by omega
  subst this
  omega
 .rcases Int.lt_or_le d 2 with h2 | h2
  .have:d=0\/d=1:=by omega
   rcases this with rfl | rfl <;> omega
  .have h3:2*(t-1)<=d*(t-1):=Int.mul_le_mul_of_nonneg_right h2 (by omega)
   have i:d*(t-1)=d*t-d:=by grind
   omega
theorem bl1 (P t d:Int):P*t*d=P*(d*t):=by grind
theorem bl2 {u o X q V K Q S:Int} (h:o=u-X*(q*V)) (b:u+V*(X*1000000000)*Q=S):o+V*X*(q+1000000000*Q)=S:=by grind
set_option maxHeartbeats 1000000 in
theorem Zk (m n:Nat) (hm:Bc m<274877906944) (hn:Bc n<274877906944) (G:n≠0):L1 (Ad m) (Ad n)=some (Ad (m / n),Ad (m % n)):=by
 unfold L1
 rw [Mb m n (by omega) (by omega),Ag]
 unfold Bc at hm hn
 by_cases g:m<n
 .rw [show Dg m n = -1 by rw [Dg,if_pos g],Ba (by decide:(-1:Int)<0),cond_true,D7 (by simp; omega),Ag,Nat.div_eq_of_lt g,Nat.mod_eq_of_lt g,D1]; rfl
 .rw [Bb (show ¬Dg m n<0 by rw [Dg,if_neg g]; split <;> decide),cond_false]
  have be:(Ad n).length<=(Ad m).length:=E9 (by omega)
  have b0:(Ad n).length≠0:=fun e=>Fr G (List.length_eq_zero_iff.1 e)
  by_cases h1:(Ad n).length=1
  .rw [Fd (by omega:((Ad n).length:Int)=1),cond_true]
   have a6:n<1000000000:=by
    have:=I6 n
    rw [show Bc n=1 from h1] at this
    simpa using this
   have am:Ad n = [(n:Int)]:=by
    rw [Ij G,Nat.div_eq_of_lt a6,D1,Nat.mod_eq_of_lt a6]
   rw [am,show Af [(n:Int)] 0=some (n:Int) from rfl,Ag,show As (n:Int)=n from Cm (by omega) (by omega),Zi m n (by unfold Bc; omega) (by omega) (by omega),Ag]
   have az:m % n<n:=Nat.mod_lt _ (by omega)
   rw [Ko (m % n) (by omega),Ag]
  .rw [C6 (by omega:((Ad n).length:Int)≠1),cond_false]
   generalize hL:(Ad n).length=L at *
   generalize hA:(Ad m).length=A at *
   have w1:Ac ((L:Int)-1)=((L-1:Nat):Int):=by rw [Ac,Cj] <;> omega
   have hi:L-1<(Ad n).length:=by omega
   have ht:=(Dd n).get hi
   have ax:(Ad n)[L-1]≠0:=by
    have:=(T7 n).2 (Fr G)
    rw [List.getLast_eq_getElem] at this
    simpa [hL] using this
   generalize y:(Ad n)[L-1]=t at *
   have w2:As t=t:=Cm (by omega) (by omega)
   have w3:As (t+1)=t+1:=Cm (by omega) (by omega)
   rw [w1,Cz rfl hi,y,Ag,w2,w3,G8 (by decide) (by decide) (by omega),Ag]
   have U:=Int.mul_ediv_add_emod 1000000000 (t+1)
   have ah:=Int.emod_nonneg 1000000000 (by omega:t+1≠0)
   have b9:=Int.emod_lt_of_pos 1000000000 (by omega:0<t+1)
   have aq:1<=1000000000 / (t+1):=by
    rcases Int.lt_or_le (1000000000 / (t+1)) 1 with h | h
    .exfalso
     have:(t+1)*(1000000000 / (t+1))<=(t+1)*0:=Int.mul_le_mul_of_nonneg_left (by omega) (by omega)
     omega
    .exact h
   have ap:1000000000 / (t+1)<=500000000:=by
    have:=Int.ediv_lt_of_lt_mul (a:=1000000000) (b:=500000001) (c:=t+1) (by omega) (by omega)
    omega
   obtain ⟨d,hd⟩:∃d:Nat,1000000000 / (t+1)=(d:Int):=⟨(1000000000 / (t+1)).toNat,by omega⟩
   rw [hd] at U aq ap ⊢
   obtain ⟨u,ag,E,S,R⟩:=Aez (Ad m) d (Dd m) (by omega) (by omega)
   obtain ⟨v0,af,ae,D,b7⟩:=Aez (Ad n) d (Dd n) (by omega) (by omega)
   rw [ag,Ag,Al4,af,Ag,Dm] at *
   rw [hL] at ae
   rw [hA] at E
   rw [Aep rfl (by omega:L<=v0.length),Ag]
   have x:=Gu (L-1)
   have pL:(1000000000:Int) ^ L=1000000000 ^ (L-1)*1000000000:=by rw [<-Int.pow_succ]; congr 1; omega
   have Y:=Dy (Ad n) hi
   rw [List.take_of_length_le (by omega),Dm,y] at Y
   have ay:=Ej (((Dd n).take (L-1)).u32)
   have Z:=Gd ((Dd n).take (L-1))
   rw [List.length_take,hL,Nat.min_eq_left (by omega)] at Z
   have bb:(n:Int)*d<1000000000 ^ L:=by
    have a1:(n:Int)*d<(1000000000 ^ (L-1)*(t+1))*d:=Int.mul_lt_mul_of_pos_right (by
     have:(1000000000:Int) ^ (L-1)*(t+1)=1000000000 ^ (L-1)*t+1000000000 ^ (L-1):=by grind
     omega) (by omega)
    have a2:(1000000000 ^ (L-1)*(t+1))*(d:Int)=1000000000 ^ (L-1)*((t+1)*d):=by grind
    have a3:(1000000000:Int) ^ (L-1)*((t+1)*d)<=1000000000 ^ (L-1)*1000000000:=Int.mul_le_mul_of_nonneg_left (by omega) (Int.le_of_lt x)
    omega
   have M:Ah (v0.take L)=(n:Int)*d:=by
    have e:=I5 v0 L (by omega)
    have z:Ah (v0.drop L)=0:=by
     have a1:=Ud D L
     have a2:=Ej ((D.take L).u32)
     rcases Int.lt_or_le 0 (Ah (v0.drop L)) with h | h
     .have:(1000000000:Int) ^ L*1<=1000000000 ^ L*Ah (v0.drop L):=Int.mul_le_mul_of_nonneg_left h (Int.le_of_lt (Gu _))
      omega
     .omega
    rw [z] at e; omega
   have I:(v0.take L).length=L:=by rw [List.length_take]; omega
   have f:=D.take L
   have J:L-1<(v0.take L).length:=by omega
   have ak:500000000<=(d:Int)*t:=Al5 (r:=1000000000 % (t+1)) (by omega) (by omega) (by rw [Int.mul_comm]; exact U) ah (by omega)
   have l:500000000<=(v0.take L)[L-1]:=by
    have e:=Dy (v0.take L) J
    rw [List.take_of_length_le (by omega),M] at e
    have b1:=Gd (f.take (L-1))
    rw [List.length_take,I,Nat.min_eq_left (by omega)] at b1
    have b2:(1000000000:Int) ^ (L-1)*t*d<=n*d:=Int.mul_le_mul_of_nonneg_right (by omega) (by omega)
    have b3:(1000000000:Int) ^ (L-1)*500000000<=1000000000 ^ (L-1)*(d*t):=Int.mul_le_mul_of_nonneg_left ak (Int.le_of_lt x)
    rw [bl1] at b2
    rcases Int.lt_or_le (v0.take L)[L-1] 500000000 with h | h
    .exfalso
     have b4:(1000000000:Int) ^ (L-1)*((v0.take L)[L-1]+1)<=1000000000 ^ (L-1)*500000000:=Int.mul_le_mul_of_nonneg_left (by omega) (Int.le_of_lt x)
     have b5:(1000000000:Int) ^ (L-1)*((v0.take L)[L-1]+1)=1000000000 ^ (L-1)*(v0.take L)[L-1]+1000000000 ^ (L-1):=by grind
     omega
    .exact h
   generalize b6:v0.take L=v at *
   have w4:Ac ((A:Int)-(L:Int))=((A-L:Nat):Int):=by rw [Ac,Cj] <;> omega
   have w5:Ac (((A-L:Nat):Int)+1)=((A-L+1:Nat):Int):=by rw [Ac,Cj] <;> omega
   rw [w4,w5,I4 rfl rfl (Nat.le_refl _) (by omega) (by omega),Ag,E]
   have b8:=Ej S.u32
   have ar:(0:Int)<(n:Int)*d:=Int.mul_pos (by omega) (by omega)
   refine Fy (fun (i,w,q)=>∃k:Nat,i=(k:Int)-1/\k<=A-L+1/\w.length=A+1/\Bk w/\q.length=A-L+1/\Bk q/\Ah w<Ah v*1000000000 ^ k/\Ah w+Ah v*1000000000 ^ k*Ah (q.drop k)=(m:Int)*d)
    (fun (i,_,_)=>(i+1).toNat) (fun (w,q)=>w.length=A+1/\Bk w/\q.length=A-L+1/\Bk q/\Ah w<Ah v/\Ah w+Ah v*Ah q=(m:Int)*d)
    ⟨A-L+1,by omega,Nat.le_refl _,E,S,by simp,Bk.replicate _,?_,by rw [List.drop_of_length_le (by simp)]; simp [Ah,R]⟩ ?_ ?_
   .
    have aj:(m:Int)<1000000000 ^ A:=by
     have:=Gd (Dd m)
     rwa [Dm,hA] at this
    have a1:(m:Int)*d<1000000000 ^ A*500000000:=by
     have c1:(m:Int)*d<=m*500000000:=Int.mul_le_mul_of_nonneg_left (by omega) (by omega)
     have c2:(m:Int)*500000000<1000000000 ^ A*500000000:=Int.mul_lt_mul_of_pos_right aj (by decide)
     omega
    have a2:(1000000000:Int) ^ (L-1)*500000000<=Ah v:=by
     have e:=Dy v J
     rw [List.take_of_length_le (by omega)] at e
     have b1:=Ej ((f.take (L-1)).u32)
     have b3:(1000000000:Int) ^ (L-1)*500000000<=1000000000 ^ (L-1)*v[L-1]:=Int.mul_le_mul_of_nonneg_left l (Int.le_of_lt x)
     omega
    have a3:(1000000000:Int) ^ (L-1)*500000000*1000000000 ^ (A-L+1)<=Ah v*1000000000 ^ (A-L+1):=Int.mul_le_mul_of_nonneg_right a2 (Int.le_of_lt (Gu _))
    have a4:(1000000000:Int) ^ (L-1)*500000000*1000000000 ^ (A-L+1)=1000000000 ^ A*500000000:=by
     have:(1000000000:Int) ^ A=1000000000 ^ (L-1)*1000000000 ^ (A-L+1):=by rw [<-Int.pow_add]; congr 1; omega
     rw [this]; grind
    rw [R]; omega
   .rintro ⟨i,w,q⟩ ⟨k,rfl,hk,ac,B,X,V,a7,s⟩
    cases k with
    | zero=>exact .inr ⟨(w,q),by simp,ac,B,X,V,by simpa using a7,by simpa using s⟩
    | succ j=>
     have e0:((j+1:Nat):Int)-1=(j:Int):=by omega
     have e1:decide ((j:Int)>=0)=true:=Ba (by omega)
     have w6:Ac ((j:Int)+(L:Int))=((j+L:Nat):Int):=by rw [Ac,Cj] <;> omega
     have w7:Ac (((j+L:Nat):Int)+1)=((j+L+1:Nat):Int):=by rw [Ac,Cj] <;> omega
     have sA:F2 (A+1) (j:Int) ((j+L+1:Nat):Int)=some (j,j+L+1):=by
      have c1:(0:Int)<=(j:Int):=by omega
      have c2:(j:Int)<=((j+L+1:Nat):Int):=by omega
      have c3:((j+L+1:Nat):Int)<=((A+1:Nat):Int):=by omega
      have c4:(j:Int)=0\/(j:Int)<((j+L+1:Nat):Int):=by omega
      rw [F2,if_pos ⟨c1,c2,c3,c4⟩]; rfl
     have au:Ah (w.drop j)<Ah v*1000000000:=by
      have s1:=I5 w j (by omega)
      have s2:=Ej ((B.take j).u32)
      rcases Int.lt_or_le (Ah (w.drop j)) (Ah v*1000000000) with h | h
      .exact h
      .exfalso
       have:(1000000000:Int) ^ j*(Ah v*1000000000)<=1000000000 ^ j*Ah (w.drop j):=Int.mul_le_mul_of_nonneg_left h (Int.le_of_lt (Gu _))
       have e:Ah v*(1000000000:Int) ^ (j+1)=1000000000 ^ j*(Ah v*1000000000):=by rw [Int.pow_succ]; grind
       omega
     obtain ⟨qd,o,r1,r2,r3,r4,r5,r6,r7,r8⟩:=Al3 v w j L f B I (by omega) (by omega) l (by omega) au
     have a8:j<q.length:=by omega
     have w8:Ac ((j:Int)-1)=(j:Int)-1:=by rw [Ac,Cj] <;> omega
     have lG:Ec (A+1) o=some ():=by rw [Ec,if_pos (by omega)]
     refine .inl ⟨((j:Int)-1,o,q.set j qd),?_,⟨j,rfl,by omega,by omega,r3,by simpa using X,V.set _ r4 r5,?_,?_⟩,by simp⟩
     .simp only [e0,e1,cond_true,w6,w7,sA,Ag,Nat.zero_add,show j+L+1-j=L+1 by omega,r1,lG,Cz rfl a8,w8,Ep rfl]
     .have s1:=I5 o j (by omega)
      have s2:=Gd (r3.take j)
      rw [List.length_take,Nat.min_eq_left (by omega)] at s2
      have:(1000000000:Int) ^ j*(Ah (o.drop j)+1)<=1000000000 ^ j*Ah v:=Int.mul_le_mul_of_nonneg_left (by omega) (Int.le_of_lt (Gu _))
      have e:(1000000000:Int) ^ j*(Ah (o.drop j)+1)=1000000000 ^ j*Ah (o.drop j)+1000000000 ^ j:=by grind
      rw [Int.mul_comm (Ah v)]; omega
     .have d1:(q.set j qd).drop j=qd::q.drop (j+1):=by
       rw [List.drop_eq_getElem_cons (by simpa using a8),List.drop_set_of_lt (by omega)]; simp
      rw [d1]
      simp only [Ah]
      rw [Int.pow_succ] at s
      exact bl2 (K:=0) r6 s
   .rintro ⟨w,q⟩ ⟨h2,h3,h4,h5,h6,h7⟩
    rw [M] at h6 h7
    have ad:=Ej h3.u32
    have ba:=Ej h5.u32
    have N:=(Int.ediv_emod_unique ar (r:=Ah w) (q:=Ah q) (a:=(m:Int)*d)).2 ⟨by rw [<-h7],ad,h6⟩
    have ao:(m*d) / (n*d)=m / n:=Nat.mul_div_mul_right m n (by omega)
    have ai:(m*d) % (n*d)=(m % n)*d:=Nat.mul_mod_mul_right d m n
    have av:Ah q=((m / n:Nat):Int):=by
     rw [<-N.1,<-ao]; simp
    have aa:Ah w=(((m % n)*d:Nat):Int):=by
     rw [<-N.2,<-ai]; simp
    have ab:Bc ((m % n)*d)<1099511627776:=by
     have g:=Gd h3
     have:Bc ((m % n)*d)<=A+1:=by
      apply Km
      rw [h2,aa] at g
      have e:((1000000000 ^ (A+1):Nat):Int)=1000000000 ^ (A+1):=by rw [Int.natCast_pow]; rfl
      omega
     omega
    dsimp only
    rw [Kn w (by omega),Ag,G9 h3 aa,Zi _ d ab (by omega) (by omega),Ag,Kn q (by omega),Ag,G9 h5 av,Nat.mul_div_cancel _ (by omega)]
end Go.Ab
namespace Go.Ab
open Go
theorem Ae2 {n:Nat} (h:Bc n<=2):n<1000000000000000000:=by
 have h1:=I6 n
 have h2:1000000000 ^ Bc n<=1000000000 ^ 2:=Nat.pow_le_pow_right (by decide) h
 omega
theorem Ae3 (n:Nat) (h:Bc n<=2):N4 (Ad n)=some ((n:Int),true):=by
 unfold N4
 unfold Bc at h
 have ha:=Dd n
 refine Fy (fun (w,i)=>∃k:Nat,i=k/\k<=(Ad n).length/\w=Ah ((Ad n).drop ((Ad n).length-k))) (fun (_,i)=>(Ad n).length-i.toNat)
  (fun e=>match e with | .inl _=>False | .inr w=>w=n) ⟨0,rfl,by omega,by simp [Ah]⟩ ?_ ?_
 .rintro ⟨w,i⟩ ⟨k,rfl,hk,rfl⟩
  rcases Nat.lt_or_ge k (Ad n).length with c | hge
  .have A:decide ((k:Int)<((Ad n).length:Int))=true:=Ba (by omega)
   have u:Ac (((Ad n).length:Int)-1)=((Ad n).length:Int)-1:=by rw [Ac,Cj] <;> omega
   have s:Ac (((Ad n).length:Int)-1-(k:Int))=(((Ad n).length-1-k:Nat):Int):=by rw [Ac,Cj] <;> omega
   have hj:(Ad n).length-1-k<(Ad n).length:=by omega
   have hx:=ha.get hj
   have y:=Ud ha ((Ad n).length-k)
   have b:=Gd (ha.drop ((Ad n).length-k))
   rw [List.length_drop,show (Ad n).length-((Ad n).length-k)=k by omega] at b
   have x:(1000000000:Int) ^ k<=1000000000:=by
    have:k=0\/k=1:=by omega
    rcases this with rfl | rfl <;> decide
   have q:As (Ad n)[(Ad n).length-1-k]=(Ad n)[(Ad n).length-1-k]:=Cm (by omega) (by omega)
   have l:As (18446744073709551615-(Ad n)[(Ad n).length-1-k])=18446744073709551615-(Ad n)[(Ad n).length-1-k]:=Cm (by omega) (by omega)
   have j:As (Ah ((Ad n).drop ((Ad n).length-k))*1000000000)=Ah ((Ad n).drop ((Ad n).length-k))*1000000000:=Cm (by omega) (by omega)
   have g:As (Ah ((Ad n).drop ((Ad n).length-k))*1000000000+(Ad n)[(Ad n).length-1-k])=Ah ((Ad n).drop ((Ad n).length-k))*1000000000+(Ad n)[(Ad n).length-1-k]:=Cm (by omega) (by omega)
   have z:=Hv c (by omega)
   have hc:¬Ah ((Ad n).drop ((Ad n).length-k))>(18446744073709551615-(Ad n)[(Ad n).length-1-k]) / 1000000000:=by omega
   refine .inl ⟨(Ah ((Ad n).drop ((Ad n).length-k))*1000000000+(Ad n)[(Ad n).length-1-k],((k+1:Nat):Int)),?_,⟨k+1,rfl,by omega,?_⟩,by simp; omega⟩
   .simp only [A,cond_true,u,s,Cz rfl hj,Ag,q,l,G8 (show 0<=18446744073709551615-(Ad n)[(Ad n).length-1-k] by omega) (show 18446744073709551615-(Ad n)[(Ad n).length-1-k]<=_ by omega) (show (0:Int)<1000000000 by decide),Bb hc,cond_false,j,g,z]
   .have hd:(Ad n).drop ((Ad n).length-(k+1))=(Ad n)[(Ad n).length-1-k]::(Ad n).drop ((Ad n).length-k):=by
     rw [show (Ad n).length-(k+1)=(Ad n).length-1-k by omega,List.drop_eq_getElem_cons hj]
     congr 2; omega
    rw [hd]; simp only [Ah]; omega
  .have:k=(Ad n).length:=by omega
   subst this
   refine .inr ⟨.inr _,by simp; rfl,?_⟩
   exact Dm n
 .rintro (e | e) f
  .exact f.elim
  .simp only at f ⊢; rw [f]
theorem Al6 (m n:Nat) (A:Bc m<274877906944) (z:Bc n<274877906944):Qb (Ad m) (Ad n)=some (Ad (Nat.gcd m n)):=by
 unfold Qb
 refine Fy (fun (a,b)=>∃x y:Nat,a=Ad x/\b=Ad y/\Bc x<274877906944/\Bc y<274877906944/\Nat.gcd x y=Nat.gcd m n) (fun (_,b)=>(Ah b).toNat)
  (fun e=>match e with | .inl r=>r=Ad (Nat.gcd m n) | .inr r=>r=Ad (Nat.gcd m n)) ⟨m,n,rfl,rfl,A,z,rfl⟩ ?_ ?_
 .rintro ⟨a,b⟩ ⟨x,y,rfl,rfl,hx,hy,k⟩
  by_cases c:y=0
  .subst c
   refine .inr ⟨.inr (Ad x),by rw [D1]; rfl,?_⟩
   show Ad x=_
   rw [<-k,Nat.gcd_zero_right]
  .have B:(Ad y).length≠0:=fun e=>Fr c (List.length_eq_zero_iff.1 e)
   have l:decide (((Ad y).length:Int)>0)=true:=Ba (by omega)
   by_cases h2:Bc x<=2/\Bc y<=2
   .have i:=Ae2 h2.1
    have h:=Ae2 h2.2
    unfold Bc at h2
    simp only [l,cond_true,Ba (by omega:((Ad x).length:Int)<=2),Ba (by omega:((Ad y).length:Int)<=2),Ag,Ae3 x h2.1,Ae3 y h2.2]
    refine .inr (Als (G7 (fun (p,q)=>∃u v:Nat,p=u/\q=v/\u<1000000000000000000/\v<1000000000000000000/\Nat.gcd u v=Nat.gcd m n) (fun (_,q)=>q.toNat) (fun (p,q)=>p=((Nat.gcd m n:Nat):Int)/\Nat.gcd m n<1000000000000000000)
     ⟨x,y,rfl,rfl,i,h,k⟩ ?_ ?_))
    .rintro ⟨p,q⟩ ⟨u,v,rfl,rfl,hu,s,f⟩
     by_cases j:v=0
     .subst j
      refine .inr ⟨((u:Int),(0:Int)),rfl,?_⟩
      rw [Nat.gcd_zero_right] at f
      exact ⟨by rw [f],by omega⟩
     .refine .inl ⟨((v:Int),((u % v:Nat):Int)),?_,⟨v,u % v,rfl,rfl,s,by have:=Nat.mod_lt u (by omega:v>0); omega,?_⟩,?_⟩
      .simp only [Ba (by omega:(v:Int)>0),cond_true,Gs (by omega:(0:Int)<=u) (by omega:(0:Int)<v),Ag]; rfl
      .rw [<-f,Nat.gcd_comm v,<-Nat.gcd_rec,Nat.gcd_comm]
      .have:=Nat.mod_lt u (by omega:v>0); simp only [Int.toNat_natCast]; exact this
    .rintro ⟨p,q⟩ ⟨rfl,D⟩
     dsimp only
     rw [Ko _ (by omega)]
     exact ⟨_,rfl,_,rfl,rfl⟩
   .refine .inl ⟨(Ad y,Ad (x % y)),?_,⟨y,x % y,rfl,rfl,hy,by have:=E9 (Nat.mod_le x y); omega,?_⟩,?_⟩
    .have:(bif (decide (((Ad x).length:Int)<=(2:Int))) then some (decide (((Ad y).length:Int)<=(2:Int))) else some false)=some false:=by
      unfold Bc at h2
      by_cases hc:(Ad x).length<=2
      .rw [Ba (by omega:((Ad x).length:Int)<=2),cond_true,Bb (by omega:¬((Ad y).length:Int)<=2)]
      .rw [Bb (by omega:¬((Ad x).length:Int)<=2),cond_false]
     simp only [l,cond_true]
     rw [this,Ag,cond_false,Zk x y hx hy c,Ag]
    .rw [<-k,Nat.gcd_comm y,<-Nat.gcd_rec,Nat.gcd_comm]
    .simp only [Dm]
     have:=Nat.mod_lt x (by omega:y>0)
     omega
 .rintro (e | e) g
  .simp only at g ⊢; rw [g]
  .simp only at g ⊢; rw [g]
theorem N8:Ad 1 = [1]:=by rw [Ij (by decide),show 1 / 1000000000=0 by decide,D1]; rfl
theorem Zl (n:Nat):L0 (Ad n)=some (decide (n=1)):=by
 unfold L0
 by_cases h0:n=0
 .subst h0; rw [D1]; rfl
 .rw [Ij h0]
  by_cases h1:n / 1000000000=0
  .rw [h1,D1]
   have e:Af [((n % 1000000000:Nat):Int)] 0=some ((n % 1000000000:Nat):Int):=rfl
   simp only [List.length_singleton,e,Ag]
   have:(((1:Nat):Int)==(1:Int))=true:=rfl
   rw [this,cond_true]
   congr 1
   by_cases b:n=1
   .subst b; rfl
   .rw [C6 (by omega),Bb b]
  .have c:(Ad (n / 1000000000)).length≠0:=fun e=>Fr h1 (List.length_eq_zero_iff.1 e)
   rw [C6 (by simp; omega),cond_false,Bb (by omega)]
def Ca (b:Bool) (n d:Nat):Ai:=if n=0 then ⟨false,[],[1]⟩ else ⟨b,Ad (n / Nat.gcd n d),Ad (d / Nat.gcd n d)⟩
theorem Jq (b:Bool) (n d:Nat) (h:Bc n<274877906944) (hd:Bc d<274877906944):I2 ⟨b,Ad n,Ad d⟩=some (Ca b n d):=by
 unfold I2 S9
 dsimp only
 by_cases h0:n=0
 .subst h0; rw [D1]; rfl
 .have i:(Ad n).length≠0:=fun e=>Fr h0 (List.length_eq_zero_iff.1 e)
  rw [C6 (by omega),cond_false,Zl,Ag,Ca,if_neg h0]
  by_cases h1:d=1
  .subst h1
   rw [Ba rfl,cond_true]
   simp
  .rw [Bb h1,cond_false,Al6 n d h hd,Ag,Zl,Ag]
   by_cases g:Nat.gcd n d=1
   .rw [Ba g,cond_true,g]; simp
   .have f:Nat.gcd n d≠0:=by
     have:=Nat.gcd_pos_of_pos_left d (by omega:0<n); omega
    have c:Bc (Nat.gcd n d)<274877906944:=by
     have:=E9 (Nat.gcd_le_left d (by omega:0<n)); omega
    rw [Bb g,cond_false,Zk n _ h c f,Ag,Zk d _ hd c f,Ag]; rfl
def nv (a:Ai):Nat:=if (Ah a.Num).toNat=0\/(Ah a.Den).toNat=0 then 0 else (Ah a.Num).toNat
def dv (a:Ai):Nat:=if (Ah a.Num).toNat=0\/(Ah a.Den).toNat=0 then 1 else (Ah a.Den).toNat
def sv (a:Ai):Bool:=if (Ah a.Num).toNat=0\/(Ah a.Den).toNat=0 then false else a.Neg
structure RB (k:Nat) (a:Ai):Prop where
 num:Ht a.Num
 den:Ht a.Den
 nl:a.Num.length<=k
 dl:a.Den.length<=k
theorem Al7 {l:List Int} (h:Ht l):Ah l<=5*1000000000 ^ l.length-5:=by
 induction l with
 | nil=>simp [Ah]
 | cons d l ih=>
  have h1:=h d (by simp)
  have h2:=ih (fun x hx=>h x (by simp [hx]))
  simp only [Ah,List.length_cons]
  rw [Int.pow_succ]
  omega
theorem Al8 {l:List Int} (h:Ht l):Ah l<1000000000 ^ (l.length+1):=by
 have h1:=Al7 h
 have hp:=Gu l.length
 rw [Int.pow_succ]
 omega
theorem Ue {l:List Int} (h:Ht l):Bc (Ah l).toNat<=l.length+1:=by
 apply Km
 have h1:=Al8 h
 have h2:=Ej h
 have e:((1000000000 ^ (l.length+1):Nat):Int)=1000000000 ^ (l.length+1):=by rw [Int.natCast_pow]; rfl
 omega
theorem RB.mono {j k:Nat} {a:Ai} (h:RB j a) (hk:j<=k):RB k a:=⟨h.num,h.den,by have:=h.nl; omega,by have:=h.dl; omega⟩
theorem Kr:Bc 1=1:=by unfold Bc; rw [N8]; rfl
theorem RB.nv {k:Nat} {a:Ai} (h:RB k a):Bc (nv a)<=k+1:=by
 unfold Ab.nv
 split
 .simp [Zf]
 .have:=Ue h.num; have:=h.nl; omega
theorem RB.dv {k:Nat} {a:Ai} (h:RB k a):Bc (dv a)<=k+1:=by
 unfold Ab.dv
 split
 .simp [Kr]
 .have:=Ue h.den; have:=h.dl; omega
theorem Dn (a:Ai):dv a≠0:=by
 unfold dv; split
 .decide
 .omega
theorem Ks (a:Ai) (k:Nat) (h:RB k a) (hk:k<274877906900):Hj a=some ⟨sv a,Ad (nv a),Ad (dv a)⟩:=by
 unfold Hj
 have h1:=h.nl
 have h2:=h.dl
 rw [Aew _ h.num (by omega),Ag,Aew _ h.den (by omega),Ag]
 unfold nv dv sv
 generalize (Ah a.Num).toNat=x
 generalize (Ah a.Den).toNat=y
 by_cases hx:x=0
 .subst hx
  simp only [D1,true_or,if_true,N8]; rfl
 .have c:(Ad x).length≠0:=fun e=>Fr hx (List.length_eq_zero_iff.1 e)
  by_cases hy:y=0
  .subst hy
   simp only [D1,or_true,if_true,N8,C6 (by omega:((Ad x).length:Int)≠0),cond_false]; rfl
  .have b:(Ad y).length≠0:=fun e=>Fr hy (List.length_eq_zero_iff.1 e)
   simp only [hx,hy,or_self,if_false,C6 (by omega:((Ad x).length:Int)≠0),cond_false,C6 (by omega:((Ad y).length:Int)≠0),Ag]
end Go.Ab
namespace Go.Ab
open Go
theorem Al9 (a:Ai) (k:Nat) (h:RB k a) (hk:k<274877906900):Kb a=some (Ca (sv a) (nv a) (dv a)):=by
 unfold Kb
 have h1:=h.nv
 have h2:=h.dv
 rw [Ks a k h hk,Ag,Jq _ _ _ (by omega) (by omega)]; rfl
def Gv (s:Bool) (n:Nat):Int:=if n=0 then 0 else if s then -1 else 1
theorem Ama (s:Bool) (n:Nat) (d:List Int):Pf ⟨s,Ad n,d⟩=some (Gv s n):=by
 unfold Pf Gv
 dsimp only
 by_cases h:n=0
 .subst h; rw [D1]; rfl
 .have b:(Ad n).length≠0:=fun e=>Fr h (List.length_eq_zero_iff.1 e)
  rw [C6 (by omega),cond_false,if_neg h]
  cases s <;> rfl
theorem Amb (a:Ai) (k:Nat) (h:RB k a) (hk:k<274877906900):Fp a=some (Gv (sv a) (nv a)):=by
 unfold Fp
 rw [Ks a k h hk,Ag,Ama]; rfl
theorem Amc (z:Int) (h1 : -9223372036854775808<=z) (h2:z<=9223372036854775807):Lx z=some (Ad z.natAbs):=by
 unfold Lx
 by_cases h:z<0
 .have e:As z=z+18446744073709551616:=by
   have:IntKind.u64.wrap z=z % 18446744073709551616:=by simp [IntKind.wrap,IntKind.bits,IntKind.signed]
   rw [As,this]; omega
  have b:As (0-(z+18446744073709551616))=((z.natAbs:Nat):Int):=by
   have:IntKind.u64.wrap (0-(z+18446744073709551616))=(0-(z+18446744073709551616)) % 18446744073709551616:=by simp [IntKind.wrap,IntKind.bits,IntKind.signed]
   rw [As,this]; omega
  rw [Ba h,cond_true,e,b,Ko _ (by omega)]; rfl
 .have b:As z=((z.natAbs:Nat):Int):=by rw [As,Cm (by omega) (by omega)]; omega
  rw [Bb h,cond_false,b,Ko _ (by omega)]; rfl
theorem Ae4 (z:Int) (h1 : -9223372036854775808<=z) (h2:z<=9223372036854775807):Ee z=some (Ca (decide (z<0)) z.natAbs 1):=by
 unfold Ee
 have:=Ma (n:=z.natAbs) (by omega)
 rw [Amc z h1 h2,Ag,<-N8,Jq _ _ _ (by omega) (by rw [Kr]; decide)]; rfl
theorem Uf (a b:Ai) (j k:Nat) (ha:RB j a) (hb:RB k b) (hj:j<68719476736) (hk:k<68719476736):Ez a b=some (Ca (sv a != sv b) (nv a*nv b) (dv a*dv b)):=by
 unfold Ez
 have h1:=ha.nv
 have h2:=ha.dv
 have h3:=hb.nv
 have g:=hb.dv
 have f:=Er (nv a) (nv b)
 have c:=Er (dv a) (dv b)
 rw [Ks a j ha (by omega),Ag,Ks b k hb (by omega),Ag]
 dsimp only
 rw [Kp _ _ (by omega) (by omega),Ag,Kp _ _ (by omega) (by omega),Ag,Jq _ _ _ (by omega) (by omega)]; rfl
def Gw (b:Bool) (g i:Nat) (c:Bool) (f h:Nat):Bool:=if b=c then b else if f*i<=g*h then b else c
def Fz (i:Bool) (c g:Nat) (h:Bool) (b f:Nat):Nat:=if i=h then c*f+b*g else if b*g<=c*f then c*f-b*g else b*g-c*f
theorem Zm (a b:Ai) (j k:Nat) (ha:RB j a) (hb:RB k b) (hj:j<68719476736) (hk:k<68719476736) :
  Jg a b=some (Ca (Gw (sv a) (nv a) (dv a) (sv b) (nv b) (dv b)) (Fz (sv a) (nv a) (dv a) (sv b) (nv b) (dv b)) (dv a*dv b)):=by
 unfold Jg N0
 have h1:=ha.nv
 have h2:=ha.dv
 have h3:=hb.nv
 have s:=hb.dv
 have q:=Er (nv a) (dv b)
 have l:=Er (nv b) (dv a)
 have i:=Er (dv a) (dv b)
 have h:=Qk (nv a*dv b) (nv b*dv a)
 have g:=E9 (Nat.sub_le (nv a*dv b) (nv b*dv a))
 have f:=E9 (Nat.sub_le (nv b*dv a) (nv a*dv b))
 rw [Ks a j ha (by omega),Ag,Ks b k hb (by omega),Ag]
 dsimp only
 rw [Kp _ _ (by omega) (by omega),Ag,Kp _ _ (by omega) (by omega),Ag,Kp _ _ (by omega) (by omega),Ag]
 by_cases c:sv a=sv b
 .have e:(sv a==sv b)=true:=by rw [c]; exact beq_self_eq_true _
  rw [e,cond_true,Aey _ _ (by omega) (by omega),Ag,Ag,Jq _ _ _ (by omega) (by omega),Gw,Fz,if_pos c,if_pos c]; rfl
 .have e:(sv a==sv b)=false:=by simpa using c
  rw [e,cond_false,Mb _ _ (by omega) (by omega),Ag,Gw,Fz,if_neg c,if_neg c]
  by_cases hc:nv b*dv a<=nv a*dv b
  .rw [Ba (show Dg (nv a*dv b) (nv b*dv a)>=0 by rw [Dg,if_neg (by omega)]; split <;> decide),cond_true,Ub _ _ (by omega) hc,Ag,Ag,Jq _ _ _ (by omega) (by omega),if_pos hc,if_pos hc]; rfl
  .rw [Bb (show ¬Dg (nv a*dv b) (nv b*dv a)>=0 by rw [Dg,if_pos (by omega)]; decide),cond_false,Ub _ _ (by omega) (by omega),Ag,Ag,Jq _ _ _ (by omega) (by omega),if_neg hc,if_neg hc]; rfl
theorem Zn (s:Bool) (d:Nat):Ca s 0 d=⟨false,[],[1]⟩:=by simp [Ca]
theorem I7 (s:Bool) (n d k:Nat) (b:Bc n<=k) (hd:Bc d<=k) (hk:1<=k):RB k (Ca s n d):=by
 unfold Ca
 split
 .refine ⟨(fun _ h=>by cases h),(fun x h=>?_),by simp,by simpa using hk⟩
  simp at h; subst h; decide
 .have h1:=Zg n (Nat.gcd n d)
  have h2:=Zg d (Nat.gcd n d)
  unfold Bc at *
  exact ⟨(Dd _).u32,(Dd _).u32,by simp only; omega,by simp only; omega⟩
theorem Ug (s:Bool) (n d:Nat) (hd:d≠0):nv (Ca s n d)=n / Nat.gcd n d/\dv (Ca s n d)=d / Nat.gcd n d/\(n≠0->sv (Ca s n d)=s)/\(n=0->sv (Ca s n d)=false):=by
 by_cases h0:n=0
 .subst h0
  rw [Zn]
  have c:d / Nat.gcd 0 d=1:=by rw [Nat.gcd_zero_left]; exact Nat.div_self (by omega)
  refine ⟨by simp [nv,Ah],?_,fun h=>(h rfl).elim,fun _=>by simp [sv,Ah]⟩
  rw [c]; simp [dv,Ah]
 .have f:0<Nat.gcd n d:=Nat.gcd_pos_of_pos_left d (by omega)
  have h1:n / Nat.gcd n d≠0:=by
   have:=Nat.div_pos (Nat.gcd_le_left d (by omega:0<n)) f; omega
  have h2:d / Nat.gcd n d≠0:=by
   have:=Nat.div_pos (Nat.gcd_le_right n (by omega:0<d)) f; omega
  have e:Ca s n d=⟨s,Ad (n / Nat.gcd n d),Ad (d / Nat.gcd n d)⟩:=by simp [Ca,h0]
  have b:(Ah (Ad (n / Nat.gcd n d))).toNat=n / Nat.gcd n d:=by rw [Dm]; rfl
  have v2:(Ah (Ad (d / Nat.gcd n d))).toNat=d / Nat.gcd n d:=by rw [Dm]; rfl
  rw [e]
  have hc:¬(n / Nat.gcd n d=0\/d / Nat.gcd n d=0):=by omega
  refine ⟨?_,?_,fun _=>?_,fun h=>(h0 h).elim⟩
  .simp only [nv,b,v2,if_neg hc]
  .simp only [dv,b,v2,if_neg hc]
  .simp only [sv,b,v2,if_neg hc]
theorem Qm (s:Bool) (n d k:Nat) (hk:k≠0):Ca s (k*n) (k*d)=Ca s n d:=by
 unfold Ca
 by_cases h:n=0
 .subst h; simp
 .have h1:k*n≠0:=Nat.mul_ne_zero hk h
  rw [if_neg h1,if_neg h,Nat.gcd_mul_left,Nat.mul_div_mul_left _ _ (by omega),Nat.mul_div_mul_left _ _ (by omega)]
theorem Amd {s t:Bool} {n d:Nat} (h:n≠0->s=t):Ca s n d=Ca t n d:=by
 unfold Ca
 by_cases h0:n=0
 .simp [h0]
 .rw [h h0]
end Go.Ab
namespace Go.Ab
open Go
theorem Ae5 (l:List Int):Gn l=(Gp l).bind fun v=>Bz 4 [] v:=by
 unfold Gn Gp
 generalize An _ _=x
 cases x with
 | none=>rfl
 | some v=>
  simp only [Ag]
  cases Ef l 0 v with
  | none=>rfl
  | some y=>
   simp only [Ag]
   cases Bz 4 [] y <;> rfl
theorem Ame (l:List Int):(Ey l).length<=l.length:=by
 induction l with
 | nil=>simp [Ey]
 | cons d l ih=>
  simp only [Ey]
  cases ht:Ey l with
  | nil=>simp only []; split <;> simp
  | cons x m=>rw [ht] at ih; simpa using ih
theorem Md (l:List Int) (b:l.length<2199023255552):Gn l=some (Ey l):=by
 have:=Ame l
 rw [Ae5,Kn l (by omega),Ag,D7 (by simp; omega)]; rfl
theorem Ae6 (l:List Int) (hd:Ht l) (B:l.length<1099511627776):Nv l=some (Ad (Ah l).toNat):=by
 unfold Nv
 refine Fy (fun (c,i,o)=>∃k:Nat,i=k/\k<=l.length/\o.length=k/\Bk o/\0<=c/\c<5/\Ah o+1000000000 ^ k*c=Ah (l.take k))
  (fun (_,i,_)=>l.length-i.toNat) (fun (c,o)=>o.length=l.length/\Bk o/\0<=c/\c<5/\Ah o+1000000000 ^ l.length*c=Ah l)
  ⟨0,rfl,by omega,rfl,Bk.nil,by omega,by omega,by simp [Ah]⟩ ?_ ?_
 .rintro ⟨c,i,o⟩ ⟨k,rfl,hk,f,b,j,hc,s⟩
  rcases Nat.lt_or_ge k l.length with h | h
  .have hx:=hd l[k] (List.getElem_mem h)
   refine .inl ⟨((c+l[k]) / 1000000000,((k+1:Nat):Int),o++[(c+l[k]) % 1000000000]),?_,⟨k+1,rfl,by omega,by simp [f],b.snoc (by omega) (by omega),by omega,by omega,?_⟩,by simp; omega⟩
   .have z:As l[k]=l[k]:=Cm (by omega) (by omega)
    have y:As (c+l[k])=c+l[k]:=Cm (by omega) (by omega)
    have q:Bu ((c+l[k]) % 1000000000)=(c+l[k]) % 1000000000:=Dx (by omega) (by omega)
    have x:=Hv h (by omega)
    have u:decide ((k:Int)<(l.length:Int))=true:=by simpa using h
    simp only [u,cond_true,Cz rfl h,Ag,z,y,Gs (show 0<=c+l[k] by omega) (show (0:Int)<1000000000 by decide),q,D7 (show (o.length+[(c+l[k]) % 1000000000].length)*4<=_ by simp; omega),G8 (show 0<=c+l[k] by omega) (show c+l[k]<=_ by omega) (show (0:Int)<1000000000 by decide),x]
   .rw [Dy l h,<-s,Gt,f,Int.pow_succ]
    have:=Int.mul_ediv_add_emod (c+l[k]) 1000000000
    grind
  .have g:k=l.length:=by omega
   subst g
   refine .inr ⟨(c,o),by simp,f,b,j,hc,by simpa using s⟩
 .rintro ⟨c,o⟩ ⟨h2,h3,G,E,D⟩
  have A:=Ej hd
  by_cases hc:c>0
  .have q:Bu c=c:=Dx (by omega) (by omega)
   simp only [decide_eq_true hc,cond_true,q,D7 (show (o.length+[c].length)*4<=_ by simp; omega),Ag,Md (o++[c]) (by simp; omega)]
   rw [G9 (h3.snoc (by omega) (by omega)) (n:=(Ah l).toNat) (by rw [Gt,h2]; omega)]
  .have:c=0:=by omega
   subst this
   simp only [Int.lt_irrefl,gt_iff_lt,decide_false,cond_false,Md o (by omega),Ag]
   rw [G9 h3 (n:=(Ah l).toNat) (by omega)]
theorem Uh (n:Int):Jf n=Jm n:=rfl
theorem Ui (a b:List Int):Kd a b=Ly a b:=rfl
theorem Amf (m d:Nat) (c:Bc m<1099511627776) (hd:0<d) (b:d<4294967296):Px (Ad m) d=some (Ad (m / d),((m % d:Nat):Int)):=by
 have h:=Zi m d c hd b
 unfold L2 at h
 unfold Px
 unfold Bc at c
 rw [I4 rfl rfl (Nat.le_refl _) (by omega) (by omega)] at h ⊢
 simp only [Ag] at h ⊢
 revert h
 generalize An _ _=x
 cases x with
 | none=>intro h; cases h
 | some v=>
  obtain ⟨r,o⟩:=v
  simp only [Ag]
  intro h
  rw [Ae5]
  cases ht:Gp o with
  | none=>rw [ht] at h; cases h
  | some y=>
   rw [ht] at h
   simp only [Ag] at h ⊢
   have hy:y=Ad (m / d):=congrArg Prod.fst (Option.some.inj h)
   have:=Zg m d
   unfold Bc at this
   rw [D7 (by rw [hy]; simp; omega)]
   exact h
theorem Uj (m n:Nat) (X:Bc m<1099511627776) (G:n<=m):Ke (Ad m) (Ad n)=some (Ad (m-n)):=by
 unfold Ke
 have J:(Ad n).length<=(Ad m).length:=E9 G
 unfold Bc at X
 rw [I4 rfl rfl (Nat.le_refl _) (by omega) (by omega)]
 simp only [Ag]
 have ha:=Dd m
 have hb:=Dd n
 refine Fy (fun (c,i,o)=>∃k:Nat,i=k/\k<=(Ad m).length/\o.length=(Ad m).length/\Bk o/\o.drop k=List.replicate ((Ad m).length-k) 0/\0<=c/\c<=1/\Ah o=Ah ((Ad m).take k)-Ah ((Ad n).take k)+1000000000 ^ k*c)
  (fun (_,i,_)=>(Ad m).length-i.toNat) (fun o=>∃c:Int,o.length=(Ad m).length/\Bk o/\0<=c/\c<=1/\Ah o=(m:Int)-n+1000000000 ^ (Ad m).length*c)
  ⟨0,rfl,by omega,by simp,Bk.replicate _,by simp,by omega,by omega,by simp [Ah,T6]⟩ ?_ ?_
 .rintro ⟨c,i,o⟩ ⟨k,rfl,hk,E,u,y,M,hc,z⟩
  rcases Nat.lt_or_ge k (Ad m).length with h | h
  .have hx:=ha.get h
   have f:k<o.length:=by omega
   have S:=Hv h (by omega)
   have R:decide ((k:Int)<((Ad m).length:Int))=true:=Ba (by omega)
   have b:o[k]=0:=by
    have:=congrArg List.head? y
    rw [List.head?_drop,Cr f] at this
    have x:(List.replicate ((Ad m).length-k) (0:Int)).head? = some 0:=by
     cases Y:(Ad m).length-k with
     | zero=>omega
     | succ t=>rfl
    rw [x] at this
    exact Option.some.inj this
   have key:∀s:Int,0<=s->s<=1000000000->Ah ((Ad m).take (k+1))-Ah ((Ad n).take (k+1))=Ah ((Ad m).take k)-Ah ((Ad n).take k)+1000000000 ^ k*((Ad m)[k]-s+c) ->
     ∃(l d:Int),(bif (decide ((Ad m)[k]>=s)) then (some (Sum.inl (0,((k+1:Nat):Int),(Bt o (k:Int) (Bu ((Ad m)[k]-s)))))) else (some (Sum.inl (1,((k+1:Nat):Int),(Bt o (k:Int) (Bu ((Bu ((Ad m)[k]+1000000000))-s)))))):Option ((Int×Int×List Int)⊕List Int))=some (.inl (l,((k+1:Nat):Int),o.set k d)) /\
      (∃q:Nat,((k+1:Nat):Int)=q/\q<=(Ad m).length/\(o.set k d).length=(Ad m).length/\Bk (o.set k d)/\(o.set k d).drop q=List.replicate ((Ad m).length-q) 0/\0<=l/\l<=1/\Ah (o.set k d)=Ah ((Ad m).take q)-Ah ((Ad n).take q)+1000000000 ^ q*l):=by
    intro s h1 h2 g
    have j:∀d:Int,(o.set k d).drop (k+1)=List.replicate ((Ad m).length-(k+1)) 0:=by
     intro d
     rw [List.drop_set_of_lt (by omega),<-List.drop_drop,y,List.drop_replicate]; congr 1
    by_cases N:(Ad m)[k]>=s
    .have A:Bu ((Ad m)[k]-s)=(Ad m)[k]-s:=Dx (by omega) (by omega)
     refine ⟨0,(Ad m)[k]-s,by rw [Ba N,cond_true,A,Ep rfl],k+1,rfl,by omega,by simpa using E,u.set _ (by omega) (by omega),j _,by omega,by omega,?_⟩
     rw [Hu _ f,b,g,z]; grind
    .have A:Bu ((Ad m)[k]+1000000000)=(Ad m)[k]+1000000000:=Dx (by omega) (by omega)
     have V:Bu ((Ad m)[k]+1000000000-s)=(Ad m)[k]+1000000000-s:=Dx (by omega) (by omega)
     refine ⟨1,(Ad m)[k]+1000000000-s,by rw [Bb N,cond_false,A,V,Ep rfl],k+1,rfl,by omega,by simpa using E,u.set _ (by omega) (by omega),j _,by omega,by omega,?_⟩
     rw [Hu _ f,b,g,z,Int.pow_succ]; grind
   refine .inl ?_
   rcases Nat.lt_or_ge k (Ad n).length with hb' | hb'
   .have hy:=hb.get hb'
    have U:Bu (c+(Ad n)[k])=c+(Ad n)[k]:=Dx (by omega) (by omega)
    obtain ⟨l,d,D,B⟩:=key (c+(Ad n)[k]) (by omega) (by omega) (by rw [Dy _ h,Dy _ hb']; grind)
    refine ⟨(l,((k+1:Nat):Int),o.set k d),?_,B,by simp; omega⟩
    rw [<-D]
    simp only [R,cond_true,Cz rfl h,Cz rfl f,Ag,Ba (by omega:(k:Int)<((Ad n).length:Int)),Cz rfl hb',U,S]
   .obtain ⟨l,d,D,B⟩:=key c (by omega) (by omega) (by rw [Dy _ h,Ge (Ad n) hb',Ge (Ad n) (by omega)]; grind)
    refine ⟨(l,((k+1:Nat):Int),o.set k d),?_,B,by simp; omega⟩
    rw [<-D]
    simp only [R,cond_true,Cz rfl h,Cz rfl f,Ag,Bb (by omega:¬(k:Int)<((Ad n).length:Int)),cond_false,S]
  .have L:k=(Ad m).length:=by omega
   subst L
   refine .inr ⟨o,by simp,c,E,u,M,hc,?_⟩
   rw [List.take_length,Ge _ J,Dm,Dm] at z
   exact z
 .rintro o ⟨c,h2,h3,h4,h5,Z⟩
  have I:=Gd h3
  rw [h2] at I
  have hp:=Gu (Ad m).length
  have:c=0:=by
   rcases Int.lt_or_le 0 c with hc | hc
   .have:c=1:=by omega
    subst this
    omega
   .omega
  subst this
  rw [Md o (by omega),Ag,G9 h3 (n:=m-n) (by omega)]
end Go.Ab
namespace Go.Ab
open Go
theorem Amg {o:List Int} {k n:Nat} (hk:k<o.length) (h:o.drop k=List.replicate n 0):o[k]=0:=by
 have:=congrArg List.head? h
 rw [List.head?_drop,Cr hk] at this
 cases n with
 | zero=>simp at this
 | succ t=>exact Option.some.inj this
theorem cl1 {o X K c s x y A w:Int} (f:c+x+w=s) (hw:w=y*A) (b:1000000000*(s / 1000000000)+s % 1000000000=s) (z V:Int) (h:o+X*K*c=z+X*(y*V)):o+X*K*(s % 1000000000-x)+X*K*1000000000*(s / 1000000000)=z+X*(y*(V+K*A)):=by grind
set_option maxHeartbeats 1000000 in
theorem N9 (m n:Nat) (hm:Bc m<274877906944) (hn:Bc n<274877906944):Ho (Ad m) (Ad n)=some (Ad (m*n)):=by
  unfold Ho
  unfold Bc at hm hn
  have hw:Ac (((Ad m).length:Int)+((Ad n).length:Int))=(((Ad m).length+(Ad n).length:Nat):Int):=by rw [Ac,Cj] <;> omega
  have M:Ac ((((Ad m).length+(Ad n).length:Nat):Int)+1)=(((Ad m).length+(Ad n).length+1:Nat):Int):=by rw [Ac,Cj] <;> omega
  rw [hw,M,I4 rfl rfl (Nat.le_refl _) (by omega) (by omega)]
  simp only [Ag]
  have ha:=Dd m
  have hb:=Dd n
  have D:Ah (Ad n)=n:=Dm n
  generalize Ad n=b at *
  generalize hL:b.length=L at *
  refine Fy (fun (i,o)=>∃k:Nat,i=k/\k<=(Ad m).length/\o.length=(Ad m).length+L+1/\Bk o/\o.drop (k+L)=List.replicate ((Ad m).length+1-k) 0/\Ah o=Ah ((Ad m).take k)*n)
    (fun (i,_)=>(Ad m).length-i.toNat) (fun o=>o.length=(Ad m).length+L+1/\Bk o/\Ah o=((m*n:Nat):Int))
    ⟨0,rfl,by omega,by simp,Bk.replicate _,by rw [List.drop_replicate]; congr 1; omega,by simp [T6,Ah]⟩ ?_ ?_
  . rintro ⟨i,o⟩ ⟨k,rfl,hk,ho,G,U,N⟩
    rcases Nat.lt_or_ge k (Ad m).length with h | h
    . have hx:=ha.get h
      have e4:=Hv h (by omega)
      have e5:decide ((k:Int)<((Ad m).length:Int))=true:=Ba (by omega)
      simp only [e5,cond_true]
      have X:Af (Ad m) (k:Int)=some (Ad m)[k]:=Cz rfl h
      generalize J:(Ad m)[k]=x at *
      refine .inl (T5 (G7 (fun (c,j,o')=>∃q:Nat,j=q/\o'.length=(Ad m).length+L+1/\Bk o'/\0<=c/\c<1000000000 /\
          ((q<=L/\o'.drop (k+L)=List.replicate ((Ad m).length+1-k) 0/\Ah o' + 1000000000 ^ (k+q)*c=Ah o+1000000000 ^ k*(x*Ah (b.take q))) \/
           (q=L+1/\c=0/\o'.drop (k+1+L)=List.replicate ((Ad m).length+1-(k+1)) 0/\Ah o'=Ah o+1000000000 ^ k*(x*n))))
        (fun (_,j,_)=>L+1-j.toNat) (fun (c,j,o')=>o'.length=(Ad m).length+L+1/\Bk o'/\o'.drop (k+1+L)=List.replicate ((Ad m).length+1-(k+1)) 0/\Ah o'=Ah o+1000000000 ^ k*(x*n))
        ⟨0,rfl,ho,G,by omega,by omega,.inl ⟨by omega,U,by simp [Ah]⟩⟩ ?_ ?_))
      . rintro ⟨c,j,o'⟩ ⟨q,rfl,u,g,A,hc,hq⟩
        rcases hq with ⟨hq,f,l⟩ | ⟨rfl,rfl,f,l⟩
        . have e8:Ac ((k:Int)+(q:Int))=((k+q:Nat):Int):=by rw [Ac,Cj] <;> omega
          have e6:Ac ((q:Int)+1)=((q+1:Nat):Int):=Hv (Nat.lt_succ_self q) (by omega)
          have y:k+q<o'.length:=by omega
          have a1:=g.get y
          have w4:As o'[k+q]=o'[k+q]:=Cm (by omega) (by omega)
          have w5:As (c+o'[k+q])=c+o'[k+q]:=Cm (by omega) (by omega)
          have p1:(1000000000:Int) ^ (k+(q+1))=1000000000 ^ (k+q)*1000000000:=by rw [<-Nat.add_assoc,Int.pow_succ]
          have Z:(1000000000:Int) ^ (k+q)=1000000000 ^ k*1000000000 ^ q:=Int.pow_add ..
          rcases Nat.lt_or_ge q L with hq' | hq'
          . have B:q<b.length:=by omega
            have hy:=hb.get B
            have a6:=Uc hx.1 hx.2 hy.1 hy.2
            have w1:As x=x:=Cm (by omega) (by omega)
            have w2:As b[q]=b[q]:=Cm (by omega) (by omega)
            have w3:As (x*b[q])=x*b[q]:=Cm (by omega) (by omega)
            have Y:As (c+o'[k+q]+x*b[q])=c+o'[k+q]+x*b[q]:=Cm (by omega) (by omega)
            generalize hs:c+o'[k+q]+x*b[q]=s at Y
            have E:0<=s:=by omega
            have a7:s<1000000000000000000:=by omega
            have w7:Bu (s % 1000000000)=s % 1000000000:=Dx (by omega) (by omega)
            refine .inl ⟨(s / 1000000000,((q+1:Nat):Int),o'.set (k+q) (s % 1000000000)),?_,⟨q+1,rfl,by simpa using u,g.set _ (by omega) (by omega),by omega,by omega,.inl ⟨by omega,?_,?_⟩⟩,by simp; omega⟩
            . simp only [Ba (by omega:(q:Int)<(L:Int)),cond_true,Ag,e8,Cz rfl y,X,Cz rfl B,w1,w2,w3,w4,w5,hs,Y,Gs E (show (0:Int)<1000000000 by decide),G8 E (show s<=_ by omega) (show (0:Int)<1000000000 by decide),w7,e6,Ep rfl]
            . rw [List.drop_set_of_lt (by omega)]; exact f
            . rw [Hu _ y,Dy _ B,p1,Z]
              rw [Z] at l
              exact cl1 hs rfl (Int.mul_ediv_add_emod s 1000000000) _ _ l
          . have R:q=L:=by omega
            subst R
            by_cases V:c>0
            . have z:o'[k+q]=0:=Amg y f
              refine .inl ⟨(0,((q+1:Nat):Int),o'.set (k+q) c),?_,⟨q+1,rfl,by simpa using u,g.set _ (by omega) (by omega),by omega,by omega,.inr ⟨rfl,rfl,?_,?_⟩⟩,by simp⟩
              . have w8:Bu c=c:=Dx (by omega) (by omega)
                have w9:As c=c:=Cm (by omega) (by omega)
                simp only [Bb (by omega:¬(q:Int)<(q:Int)),cond_false,Ba V,cond_true,Ag,e8,Cz rfl y,z,show As (0:Int)=0 from rfl,Int.add_zero,w9,Gs A (show (0:Int)<1000000000 by decide),G8 A (show c<=_ by omega) (show (0:Int)<1000000000 by decide),Int.emod_eq_of_lt A hc,Int.ediv_eq_zero_of_lt A hc,w8,e6,Ep rfl]
              . rw [List.drop_set_of_lt (by omega),show k+1+q=(k+q)+1 by omega,<-List.drop_drop,f,List.drop_replicate]; congr 1
              . rw [Hu _ y,z,Int.sub_zero]
                rw [List.take_of_length_le (by omega),D] at l
                omega
            . have I:c=0:=by omega
              subst I
              refine .inr ⟨(0,(q:Int),o'),?_,u,g,?_,?_⟩
              . simp only [Bb (by omega:¬(q:Int)<(q:Int)),cond_false,Ag,show decide ((0:Int)>0)=false from rfl]
              . rw [show k+1+q=(k+q)+1 by omega,<-List.drop_drop,f,List.drop_replicate]; congr 1
              . rw [List.take_of_length_le (by omega),D] at l
                omega
        . refine .inr ⟨(0,((L+1:Nat):Int),o'),?_,u,g,f,l⟩
          simp only [Bb (by omega:¬((L+1:Nat):Int)<(L:Int)),cond_false,Ag,show decide ((0:Int)>0)=false from rfl]
      . rintro ⟨c,j,o'⟩ ⟨u,g,f,l⟩
        refine ⟨_,by simp only [e4],(((k+1:Nat):Int),o'),rfl,⟨k+1,rfl,by omega,u,g,f,?_⟩,by simp; omega⟩
        rw [l,Dy _ h,Int.add_mul,<-N,J]; grind
    . have S:k=(Ad m).length:=by omega
      subst S
      refine .inr ⟨o,by simp,ho,G,?_⟩
      rw [List.take_length,Dm] at N
      rw [N]; simp
  . rintro o ⟨h2,h3,h4⟩
    rw [Md o (by omega),Ag,G9 h3 h4]
theorem Amh (m n:Nat) (V:Bc m<274877906944) (U:Bc n<274877906944):Pv (Ad m) (Ad n)=some (Ad (m+n)):=by
 unfold Pv
 unfold Bc at V U
 have ha:=Dd m
 have hb:=Dd n
 have I:Ah (Ad m)=m:=Dm m
 have G:Ah (Ad n)=n:=Dm n
 have L:=Ua (n:=m)
 have J:=Ua (n:=n)
 generalize Ad m=a at *
 generalize Ad n=b at *
 generalize hM:max a.length b.length=M
 refine Fy (fun (c,i,o)=>∃k:Nat,i=k/\o.length=k/\Bk o/\0<=c/\c<=1/\((k<=M/\Ah o+1000000000 ^ k*c=Ah (a.take k)+Ah (b.take k))\/(k=M+1/\c=0/\Ah o=m+n/\1000000000 ^ M<=Ah o)))
  (fun (_,i,_)=>M+1-i.toNat) (fun o=>Bk o/\Ah o=m+n/\(o≠[]->1000000000 ^ (o.length-1)<=Ah o))
  ⟨0,rfl,rfl,Bk.nil,by omega,by omega,.inl ⟨by omega,by simp [Ah]⟩⟩ ?_ ?_
 .rintro ⟨c,i,o⟩ ⟨k,rfl,l,h,Y,hc,hk⟩
  rcases hk with ⟨hk,x⟩ | ⟨rfl,rfl,x,hp⟩
  .have e4:Ac ((k:Int)+1)=((k+1:Nat):Int):=Hv (Nat.lt_succ_self k) (by omega)
   have step:∀s:Int,0<=s->s<2000000000 ->
     ((D8 .u32 s 1000000000).bind fun D=>(En s 1000000000).bind fun B=>(Bz 4 o [B]).bind fun E=>some (Sum.inl (D,(Ac ((k:Int)+1)),E)))=some (Sum.inl (s / 1000000000,((k+1:Nat):Int),o++[s % 1000000000]):(Int×Int×List Int)⊕List Int):=by
    intro s h1 h2
    rw [Zd h1 (by omega) (by decide),Ag,Gs h1 (by decide),Ag,D7 (by simp; omega),Ag,e4]
   have g:∀s:Int,0<=s->s<2000000000->k<M->Ah (a.take (k+1))+Ah (b.take (k+1))=Ah (a.take k)+Ah (b.take k)+1000000000 ^ k*(s-c) ->
     (∃q:Nat,((k+1:Nat):Int)=q/\(o++[s % 1000000000]).length=q/\Bk (o++[s % 1000000000])/\0<=s / 1000000000/\s / 1000000000<=1/\((q<=M/\Ah (o++[s % 1000000000])+1000000000 ^ q*(s / 1000000000)=Ah (a.take q)+Ah (b.take q))\/(q=M+1/\s / 1000000000=0/\Ah (o++[s % 1000000000])=m+n/\1000000000 ^ M<=Ah (o++[s % 1000000000])))):=by
    intro s h1 h2 y u
    refine ⟨k+1,rfl,by simp [l],h.snoc (by omega) (by omega),by omega,by omega,.inl ⟨by omega,?_⟩⟩
    rw [u,<-x,Gt,l,Int.pow_succ]
    have:=Int.mul_ediv_add_emod s 1000000000
    grind
   by_cases j:k<a.length
   .have hx:=ha.get j
    have S:Bu (c+a[k])=c+a[k]:=Dx (by omega) (by omega)
    by_cases f:k<b.length
    .have hy:=hb.get f
     have A:Bu (c+a[k]+b[k])=c+a[k]+b[k]:=Dx (by omega) (by omega)
     refine .inl ⟨((c+a[k]+b[k]) / 1000000000,((k+1:Nat):Int),o++[(c+a[k]+b[k]) % 1000000000]),?_,g (c+a[k]+b[k]) (by omega) (by omega) (by omega) (by rw [Dy a j,Dy b f]; grind),by simp; omega⟩
     rw [<-step (c+a[k]+b[k]) (by omega) (by omega)]
     simp only [Ba (by omega:(k:Int)<(a.length:Int)),Ba (by omega:(k:Int)<(b.length:Int)),cond_true,Ag,Cz rfl j,Cz rfl f,S,A]
    .refine .inl ⟨((c+a[k]) / 1000000000,((k+1:Nat):Int),o++[(c+a[k]) % 1000000000]),?_,g (c+a[k]) (by omega) (by omega) (by omega) (by rw [Dy a j,Ge b (by omega),Ge b (by omega)]; grind),by simp; omega⟩
     rw [<-step (c+a[k]) (by omega) (by omega)]
     simp only [Ba (by omega:(k:Int)<(a.length:Int)),Bb (by omega:¬(k:Int)<(b.length:Int)),cond_true,cond_false,Ag,Cz rfl j,S]
   .by_cases f:k<b.length
    .have hy:=hb.get f
     have A:Bu (c+b[k])=c+b[k]:=Dx (by omega) (by omega)
     refine .inl ⟨((c+b[k]) / 1000000000,((k+1:Nat):Int),o++[(c+b[k]) % 1000000000]),?_,g (c+b[k]) (by omega) (by omega) (by omega) (by rw [Dy b f,Ge a (by omega),Ge a (by omega)]; grind),by simp; omega⟩
     rw [<-step (c+b[k]) (by omega) (by omega)]
     simp only [Bb (by omega:¬(k:Int)<(a.length:Int)),Ba (by omega:(k:Int)<(b.length:Int)),cond_true,cond_false,Ag,Cz rfl f,A]
    .have y:k=M:=by omega
     subst y
     rw [Ge a (by omega),Ge b (by omega),I,G] at x
     by_cases Z:c>0
     .have R:c=1:=by omega
      subst R
      refine .inl ⟨((1:Int) / 1000000000,((k+1:Nat):Int),o++[(1:Int) % 1000000000]),?_,⟨k+1,rfl,by simp [l],h.snoc (by decide) (by decide),by decide,by decide,.inr ⟨rfl,rfl,?_,?_⟩⟩,by simp⟩
      .rw [<-step 1 (by omega) (by omega)]
       simp only [Bb (by omega:¬(k:Int)<(a.length:Int)),Bb (by omega:¬(k:Int)<(b.length:Int)),cond_false,Ag,show decide ((1:Int)>0)=true from rfl,cond_true]
      .rw [Gt,l]; exact x
      .rw [Gt,l,show (1:Int) % 1000000000=1 from rfl]
       have:=Ej h.u32
       omega
     .have z:c=0:=by omega
      subst z
      refine .inr ⟨o,?_,h,by omega,fun N=>?_⟩
      .simp only [Bb (by omega:¬(k:Int)<(a.length:Int)),Bb (by omega:¬(k:Int)<(b.length:Int)),cond_false,Ag,show decide ((0:Int)>0)=false from rfl]
      .have X:k≠0:=by
        intro e; rw [e] at l; exact N (List.length_eq_zero_iff.1 l)
       rcases Nat.le_total a.length b.length with hab | hab
       .have:k=b.length:=by omega
        have h1:=J (by intro e; rw [e] at this; simp at this; omega)
        rw [l,this]; omega
       .have:k=a.length:=by omega
        have h1:=L (by intro e; rw [e] at this; simp at this; omega)
        rw [l,this]; omega
  .refine .inr ⟨o,?_,h,x,fun _=>by rw [l]; simpa using hp⟩
   simp only [Bb (by omega:¬((M+1:Nat):Int)<(a.length:Int)),Bb (by omega:¬((M+1:Nat):Int)<(b.length:Int)),cond_false,Ag,show decide ((0:Int)>0)=false from rfl]
 .rintro o ⟨h1,h2,h3⟩
  congr 1
  exact T8 (Zh h1 h3) (by rw [h2]; simp)
end Go.Ab
