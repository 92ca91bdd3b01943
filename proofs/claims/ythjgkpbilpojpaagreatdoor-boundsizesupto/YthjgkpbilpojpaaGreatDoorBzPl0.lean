/- Plain laws: what the plain functions answer. -/
import Derived.Test.YthjgkpbilpojpaaGreatDoorBzDef
namespace Go.Ab
open Go
theorem Ad {α β:Type} (a:α) (f:α->Option β):(some a).bind f=f a:=rfl
theorem Ci {α:Type} {l:List α} {i:Nat} (h:i<l.length):l[i]? = some l[i]:=List.getElem?_eq_getElem h
theorem Cm {α:Type} {l:List α} {i:Nat} {a:α} (h:l[i]? = some a):a∈l:=List.mem_of_getElem? h
theorem Di (a b:Bool):((a&&b)=true)=(a=true/\b=true):=Bool.and_eq_true a b
theorem bnt:(!true)=false:=rfl
theorem Gp {S E R:Type} {step:S->Option (S⊕E)} {s:S} {J:E->Option R} {r:R} (c:S->Prop) (m:S->Nat) (b:E->Prop) (h0:c s)
  (f:∀s,c s->(∃s',step s=some (.inl s')/\c s'/\m s' < m s)\/(∃e,step s=some (.inr e)/\b e)) (g:∀e,b e->J e=some r):(Al step s).bind J=some r:=by
 obtain ⟨e,h1,h2⟩:=Ln c m b f s h0
 rw [h1]; exact g e h2
theorem D6 {S E R:Type} {step:S->Option (S⊕E)} {s:S} {J:E->Option R} {Q:R->Prop} (c:S->Prop) (m:S->Nat) (b:E->Prop) (h0:c s)
  (f:∀s,c s->(∃s',step s=some (.inl s')/\c s'/\m s' < m s)\/(∃e,step s=some (.inr e)/\b e)) (g:∀e,b e->∃r,J e=some r/\Q r):∃r,(Al step s).bind J=some r/\Q r:=by
 obtain ⟨e,h1,h2⟩:=Ln c m b f s h0
 rw [h1]; exact g e h2
theorem O2 {S E:Type} {X:Option (S⊕E)} {Q:S->Prop} (h:∃r,X=some r/\∃s',r = .inl s'/\Q s'):∃s',X=some (.inl s')/\Q s':=by
 obtain ⟨r,h1,s',rfl,h2⟩:=h
 exact ⟨s',h1,h2⟩
theorem Aq5 {S E:Type} {X:Option (S⊕E)} {Q:E->Prop} (h:∃r,X=some r/\∃e,r = .inr e/\Q e):∃e,X=some (.inr e)/\Q e:=by
 obtain ⟨r,h1,s',rfl,h2⟩:=h
 exact ⟨s',h1,h2⟩
theorem Xo {A R:Type} {X:Option R} (f:A->R) {Q:A->Prop} (h:∃r,X=some r/\∃a,r=f a/\Q a):∃a,X=some (f a)/\Q a:=by
 obtain ⟨r,h1,a,rfl,h2⟩:=h
 exact ⟨a,h1,h2⟩
theorem Aq6 {α β:Type} {c:Prop} [Decidable c] (a b:Option α) (f:α->Option β):(if c then a else b).bind f=if c then a.bind f else b.bind f:=by split <;> rfl
theorem Bu {n:Int} (h1 : -9223372036854775808<=n) (h2:n<=9223372036854775807):IntKind.i64.wrap n=n:=by
 have e:IntKind.i64.wrap n=if 9223372036854775808<=n % 18446744073709551616 then n % 18446744073709551616-18446744073709551616 else n % 18446744073709551616:=by
  simp [IntKind.wrap,IntKind.bits,IntKind.signed]
 rw [e]; split <;> omega
theorem Cp {n:Int} (h1:0<=n) (h2:n<=18446744073709551615):IntKind.u64.wrap n=n:=by
 have e:IntKind.u64.wrap n=n % 18446744073709551616:=by simp [IntKind.wrap,IntKind.bits,IntKind.signed]
 rw [e]; omega
theorem Er {n:Int} (h1:0<=n) (h2:n<=4294967295):IntKind.u32.wrap n=n:=by
 have e:IntKind.u32.wrap n=n % 4294967296:=by simp [IntKind.wrap,IntKind.bits,IntKind.signed]
 rw [e]; omega
theorem C8 {α:Type} {l:List α} {i:Int} {n:Nat} (b:i=n) (h:n<l.length):Af l i=some l[n]:=by
 subst b; simp [Af,h]
theorem Ch {α:Type} {l:List α} {i:Int} {n:Nat} {x:α} (b:i=n) (h:l[n]? = some x):Af l i=some x:=by
 subst b; simp [Af,h]
theorem E7 {α:Type} {l:List α} {i:Int} {n:Nat} (b:i=n) (x:α):Cl l i x=l.set n x:=by
 subst b; simp [Cl]
theorem Dp {α:Type} {b:Nat} {xs ys:List α} (h:(xs.length+ys.length)*b<=140737488355328):B4 b xs ys=some (xs++ys):=by
 simp [B4,h]
theorem Ht {α:Type} {b:Nat} {len f:Int} {z:α} {n c:Nat} (h1:len=n) (h2:f=c) (h3:n<=c) (g:b*c<=281474976710656) (h:c<=140737488355328):Ei b len f z=some (List.replicate n z):=by
 subst h1; subst h2
 have a1:(0:Int)<=(n:Int):=by omega
 have a2:(n:Int)<=(c:Int):=by omega
 have a3:(c:Int)<=140737488355328:=by omega
 simp [Ei,a2,a3,g]
theorem Abw {α:Type} {b:Nat} {f:Int} {z:α} {c:Nat} (h2:f=c) (h:b*c<=281474976710656) (g:c<=140737488355328):Ei b 0 f z=some []:=by
 exact Ht (len:=0) (n:=0) (c:=c) rfl h2 (by omega) h g
theorem C2 {a b:Int} (h:a≠b):(a==b)=false:=by simpa using h
theorem Fu {a b:Int} (h:a=b):(a==b)=true:=by simpa using h
theorem Fv {a b:Int} (h:a≠b):(a != b)=true:=by simpa using h
theorem F8 {a b:Int} (h:a=b):(a != b)=false:=by simpa using h
theorem Ao {p:Prop} [Decidable p] (h:p):decide p=true:=decide_eq_true h
theorem Av {p:Prop} [Decidable p] (h:¬p):decide p=false:=decide_eq_false h
theorem Xp {α:Type} {l:List α} {b:Int} {n:Nat} (h:b=n) (c:n<=l.length):D0 l 0 b=some (l.take n):=by
 subst h
 have:(n:Int)<=(l.length:Int):=by omega
 simp [D0,this]
theorem Ib {a b:Int} (ha:0<=a) (hb:0<b):Fb a b=some (a % b):=by
 have:b≠0:=by omega
 simp [Fb,this,Int.tmod_eq_emod_of_nonneg ha]
theorem I5 {a b:Int} (ha:0<=a) (c:a<=18446744073709551615) (hb:0<b):E6 .u64 a b=some (a / b):=by
 have:b≠0:=by omega
 have h1:0<=a / b:=Int.ediv_nonneg ha (by omega)
 have h2:a / b<=a:=Int.ediv_le_self _ ha
 simp [E6,this,Int.tdiv_eq_ediv_of_nonneg ha]
 exact Cp h1 (by omega)
theorem Abx {a b:Int} (ha:0<=a) (c:a<=4294967295) (hb:0<b):E6 .u32 a b=some (a / b):=by
 have:b≠0:=by omega
 have h1:0<=a / b:=Int.ediv_nonneg ha (by omega)
 have h2:a / b<=a:=Int.ediv_le_self _ ha
 simp [E6,this,Int.tdiv_eq_ediv_of_nonneg ha]
 exact Er h1 (by omega)
def Ah:List Int->Int
 | []=>0
 | d::l=>d+1000000000*Ah l
def Bn (l:List Int):Prop:=∀d∈l,0<=d/\d<1000000000
def Kn (l:List Int):Prop:=∀d∈l,0<=d/\d<4294967296
def Can (l:List Int):Prop:=Bn l/\∀h:l≠[],l.getLast h≠0
def Ae (n:Nat):List Int:=if h:n=0 then [] else ((n % 1000000000:Nat):Int)::Ae (n / 1000000000)
termination_by n
decreasing_by exact Nat.div_lt_self (by omega) (by decide)
theorem Et:Ae 0 = []:=by rw [Ae]; simp
theorem Ko {n:Nat} (h:n≠0):Ae n=((n % 1000000000:Nat):Int)::Ae (n / 1000000000):=by rw [Ae]; simp [h]
theorem Bn.nil:Bn []:=fun _ h=>by cases h
theorem Bn.append {l m:List Int} (h:Bn l) (h':Bn m):Bn (l++m):=by
 intro d hd
 rcases List.mem_append.1 hd with hd | hd
 .exact h d hd
 .exact h' d hd
theorem Bn.one {d:Int} (h:0<=d) (h':d<1000000000):Bn [d]:=by
 intro x hx; simp at hx; subst hx; exact ⟨h,h'⟩
theorem Bn.snoc {l:List Int} {d:Int} (h:Bn l) (hd:0<=d) (b:d<1000000000):Bn (l++[d]):=h.append (Bn.one hd b)
theorem Bn.take {l:List Int} (h:Bn l) (k:Nat):Bn (l.take k):=fun d hd=>h d (List.mem_of_mem_take hd)
theorem Bn.drop {l:List Int} (h:Bn l) (k:Nat):Bn (l.drop k):=fun d hd=>h d (List.mem_of_mem_drop hd)
theorem Bn.get {l:List Int} (h:Bn l) {i:Nat} (b:i<l.length):0<=l[i]/\l[i]<1000000000:=h _ (List.getElem_mem b)
theorem Bn.set {l:List Int} (h:Bn l) (i:Nat) {d:Int} (hd:0<=d) (b:d<1000000000):Bn (l.set i d):=by
 intro x hx
 rcases List.mem_or_eq_of_mem_set hx with hx | rfl
 .exact h x hx
 .exact ⟨hd,b⟩
theorem Bn.replicate (n:Nat):Bn (List.replicate n 0):=by
 intro d hd
 have:=List.eq_of_mem_replicate hd
 subst this; decide
theorem Bn.tail {d:Int} {l:List Int} (h:Bn (d::l)):Bn l:=fun x hx=>h x (by simp [hx])
theorem Bn.u32 {l:List Int} (h:Bn l):Kn l:=fun d hd=>by have:=h d hd; omega
theorem Ahz (l m:List Int):Ah (l++m)=Ah l+1000000000 ^ l.length*Ah m:=by
 induction l with
 | nil=>simp [Ah]
 | cons d l ih=>simp only [List.cons_append,Ah,ih,List.length_cons,Int.pow_succ]; grind
theorem Ic (l:List Int) (d:Int):Ah (l++[d])=Ah l+1000000000 ^ l.length*d:=by rw [Ahz]; simp [Ah]
theorem Es (l:List Int) {k:Nat} (h:k<l.length):Ah (l.take (k+1))=Ah (l.take k)+1000000000 ^ k*l[k]:=by
 rw [List.take_succ_eq_append_getElem h,Ic]
 simp [Nat.min_eq_left (Nat.le_of_lt h)]
theorem Xq (n:Nat):Ah (List.replicate n 0)=0:=by
 induction n with
 | zero=>rfl
 | succ n ih=>simp [List.replicate_succ,Ah,ih]
theorem La (l:List Int) (k:Nat) (h:k<=l.length):Ah l=Ah (l.take k)+1000000000 ^ k*Ah (l.drop k):=by
 have e:=Ahz (l.take k) (l.drop k)
 rw [List.take_append_drop] at e
 rw [e,List.length_take,Nat.min_eq_left h]
theorem Ju (l:List Int) {i:Nat} (h:i<l.length) (d:Int):Ah (l.set i d)=Ah l+1000000000 ^ i*(d-l[i]):=by
 induction l generalizing i with
 | nil=>simp at h
 | cons x l ih=>
  cases i with
  | zero=>simp [Ah]; omega
  | succ i=>
   have b:i<l.length:=by simpa using h
   simp only [List.set_cons_succ,Ah,ih b,List.getElem_cons_succ,Int.pow_succ]
   grind
theorem Fh {l:List Int} (h:Kn l):0<=Ah l:=by
 induction l with
 | nil=>simp [Ah]
 | cons d l ih=>
  have h1:=h d (by simp)
  have h2:=ih (fun x hx=>h x (by simp [hx]))
  simp only [Ah]; omega
theorem Ie (n:Nat):(0:Int)<1000000000 ^ n:=Int.pow_pos (by decide)
theorem Hu {l:List Int} (h:Bn l):Ah l<1000000000 ^ l.length:=by
 induction l with
 | nil=>simp [Ah]
 | cons d l ih=>
  have h1:=h d (by simp)
  have h2:=ih h.tail
  simp only [Ah,List.length_cons,Int.pow_succ]
  omega
theorem D7 (n:Nat):Ah (Ae n)=n:=by
 induction n using Nat.strongRecOn with
 | _ n ih=>
  by_cases h:n=0
  .subst h; rw [Et]; rfl
  .rw [Ko h,Ah,ih (n / 1000000000) (Nat.div_lt_self (by omega) (by decide))]
   omega
theorem Dx (n:Nat):Bn (Ae n):=by
 induction n using Nat.strongRecOn with
 | _ n ih=>
  by_cases h:n=0
  .subst h; rw [Et]; exact Bn.nil
  .rw [Ko h]
   intro d hd
   simp at hd
   rcases hd with rfl | hd
   .omega
   .exact ih (n / 1000000000) (Nat.div_lt_self (by omega) (by decide)) d hd
theorem Gw {n:Nat} (h:n≠0):Ae n≠[]:=by rw [Ko h]; simp
theorem Xr (n:Nat):Can (Ae n):=by
 refine ⟨Dx n,?_⟩
 induction n using Nat.strongRecOn with
 | _ n ih=>
  intro b
  have h:n≠0:=fun e=>b (by rw [e]; exact Et)
  have hc:=Ko h
  by_cases h2:n / 1000000000=0
  .have c:Ae n = [((n % 1000000000:Nat):Int)]:=by rw [hc,h2,Et]
   simp only [c,List.getLast_singleton]
   omega
  .have:=ih (n / 1000000000) (Nat.div_lt_self (by omega) (by decide)) (Gw h2)
   simp only [hc]
   rwa [List.getLast_cons (Gw h2)]
theorem Aby {l:List Int} (h:Can l):Ae (Ah l).toNat=l:=by
 induction l with
 | nil=>exact Et
 | cons d l ih=>
  obtain ⟨h1,h2⟩:=h
  have hd:=h1 d (by simp)
  have g:Can l:=by
   refine ⟨h1.tail,fun b=>?_⟩
   have:=h2 (by simp)
   rwa [List.getLast_cons b] at this
  have f:=Fh (h1.tail).u32
  have b:(Ah (d::l)).toNat≠0:=by
   intro e
   simp only [Ah] at e
   have c:d=0:=by omega
   have f:Ah l=0:=by omega
   have:l = []:=by rw [<-ih g,f]; exact Et
   subst this
   exact h2 (by simp) (by simpa using c)
  rw [Ko b]
  simp only [Ah]
  have j:((d+1000000000*Ah l).toNat % 1000000000:Nat)=d.toNat:=by omega
  have i:(d+1000000000*Ah l).toNat / 1000000000=(Ah l).toNat:=by omega
  rw [j,i,ih g]
  congr 1; omega
theorem Xs {l:List Int} {n:Nat} (h:Can l) (b:Ah l=n):l=Ae n:=by
 rw [<-Aby h,b]; rfl
def Fw:List Int->List Int
 | []=>[]
 | d::l=>match Fw l with
  | []=>if d=0 then [] else [d]
  | x::m=>d::x::m
theorem Aq7 (l:List Int):Fw (l++[0])=Fw l:=by
 induction l with
 | nil=>rfl
 | cons d l ih=>simp only [List.cons_append,Fw,ih]
theorem Aq8 {l:List Int} {d:Int} (h:d≠0):Fw (l++[d])=l++[d]:=by
 induction l with
 | nil=>simp [Fw,h]
 | cons x l ih=>
  simp only [List.cons_append,Fw,ih]
  cases l with
  | nil=>rfl
  | cons y l=>rfl
theorem Ah0 {l:List Int} (h:Bn l):Can (Fw l)/\Ah (Fw l)=Ah l:=by
 induction l with
 | nil=>exact ⟨⟨Bn.nil,fun h=>(h rfl).elim⟩,rfl⟩
 | cons d l ih=>
  obtain ⟨⟨i1,i2⟩,i3⟩:=ih h.tail
  have hd:=h d (by simp)
  simp only [Fw]
  cases ht:Fw l with
  | nil=>
   rw [ht] at i3
   simp only [Ah] at i3
   simp only []
   by_cases b:d=0
   .rw [if_pos b]
    refine ⟨⟨Bn.nil,fun h=>(h rfl).elim⟩,?_⟩
    simp only [Ah]; rw [<-i3]; omega
   .rw [if_neg b]
    refine ⟨⟨Bn.one hd.1 hd.2,fun _=>by simpa using b⟩,?_⟩
    simp only [Ah]; rw [<-i3]
  | cons x m=>
   rw [ht] at i1 i2 i3
   simp only []
   refine ⟨⟨?_,fun _=>?_⟩,?_⟩
   .intro y hy
    rcases List.mem_cons.1 hy with rfl | hy
    .exact hd
    .exact i1 y hy
   .rw [List.getLast_cons (by simp)]; exact i2 (by simp)
   .simp only [Ah] at i3 ⊢; rw [i3]
theorem I6 {l:List Int} {n:Nat} (h:Bn l) (b:Ah l=n):Fw l=Ae n:=by
 obtain ⟨h1,h2⟩:=Ah0 h
 exact Xs h1 (h2.trans b)
theorem Aq9 {l:List Int} (h:Can l):Fw l=l:=by
 obtain ⟨h1,h2⟩:=Ah0 h.1
 rw [<-Aby h1,h2,Aby h]
def Ba (n:Nat):Nat:=(Ae n).length
theorem Q9:Ba 0=0:=by simp [Ba,Et]
theorem Lb (n:Nat):n<1000000000 ^ Ba n:=by
 have:=Hu (Dx n)
 rw [D7] at this
 have e:((1000000000 ^ Ba n:Nat):Int)=1000000000 ^ Ba n:=by simp
 unfold Ba at *
 omega
theorem I7 {n k:Nat} (h:n<1000000000 ^ k):Ba n<=k:=by
 induction k generalizing n with
 | zero=>simp at h; subst h; simp [Q9]
 | succ k ih=>
  by_cases h0:n=0
  .subst h0; simp [Q9]
  .unfold Ba
   rw [Ko h0,List.length_cons]
   have:n / 1000000000<1000000000 ^ k:=by
    rw [Nat.div_lt_iff_lt_mul (by decide)]; rwa [Nat.pow_succ] at h
   have:=ih this
   unfold Ba at this; omega
theorem G5 {m n:Nat} (h:m<=n):Ba m<=Ba n:=I7 (Nat.lt_of_le_of_lt h (Lb n))
theorem Ah1 {n k:Nat} (h:k<Ba n):1000000000 ^ k<=n:=by
 rcases Nat.lt_or_ge n (1000000000 ^ k) with h' | h'
 .have:=I7 h'; omega
 .exact h'
theorem Abz (m n:Nat):Ba (m+n)<=max (Ba m) (Ba n)+1:=by
 apply I7
 have h1:=Lb m
 have h2:=Lb n
 have h3:1000000000 ^ Ba m<=1000000000 ^ max (Ba m) (Ba n):=Nat.pow_le_pow_right (by decide) (Nat.le_max_left _ _)
 have b:1000000000 ^ Ba n<=1000000000 ^ max (Ba m) (Ba n):=Nat.pow_le_pow_right (by decide) (Nat.le_max_right _ _)
 rw [Nat.pow_succ]
 omega
theorem F9 (m n:Nat):Ba (m*n)<=Ba m+Ba n:=by
 apply I7
 rw [Nat.pow_add]
 exact Nat.mul_lt_mul_of_lt_of_le (Lb m) (Nat.le_of_lt (Lb n)) (Nat.pow_pos (by decide))
theorem Ab0 (m n:Nat):Ba (m / n)<=Ba m:=G5 (Nat.div_le_self _ _)
theorem Ah2 {m n:Nat} (h:Ba m<Ba n):m<n:=Nat.lt_of_lt_of_le (Lb m) (Ah1 h)
theorem Ah3 {l m:List Int} (g:Bn l) {k:Nat} (hk:k<l.length) (b:k<m.length) (f:Bn m) (hd:l.drop (k+1)=m.drop (k+1)) (c:l[k]<m[k]):Ah l<Ah m:=by
 have j:=La l (k+1) hk
 have i:=La m (k+1) b
 rw [Es l hk] at j
 rw [Es m b,<-hd] at i
 have h3:=Hu (g.take k)
 have q:=Fh ((f.take k).u32)
 rw [List.length_take,Nat.min_eq_left (Nat.le_of_lt hk)] at h3
 have h:1000000000 ^ k*(l[k]+1)<=1000000000 ^ k*m[k]:=Int.mul_le_mul_of_nonneg_left c (Int.le_of_lt (Ie k))
 rw [Int.mul_add] at h
 omega
end Go.Ab
namespace Go.Ab
open Go
theorem Hv {S E R:Type} {step:S->Option (S⊕E)} {s0:S} {J:E->Option R} {r:R} (n:Nat) (b:Nat->S) (h0:s0=b 0)
  (c:∀j,j<n->step (b j)=some (.inl (b (j+1)))) (f:∃e,step (b n)=some (.inr e)/\J e=some r):(Al step s0).bind J=some r:=by
 have key:∀m,m<=n->Al step (b 0)=Al step (b m):=by
  intro m
  induction m with
  | zero=>intro _; rfl
  | succ m ih=>intro h; rw [ih (by omega),Iw (c m (by omega))]
 obtain ⟨e,h1,h2⟩:=f
 rw [h0,key n (Nat.le_refl _),Eh h1]
 exact h2
theorem C9 {j n:Nat} (h:j<n) (b:n<4611686018427387904):Ac ((j:Int)+1)=((j+1:Nat):Int):=by
 rw [Ac,Bu] <;> omega
theorem Ah4 {α:Type} {l:List α} {p:α×Nat->Bool} (h:l.zipIdx.all p=false):∃j x,l[j]? = some x/\p (x,j)=false/\∀i y,i<j->l[i]? = some y->p (y,i)=true:=by
 have key:∀(n:Nat),(∀i y,i<n->l[i]? = some y->p (y,i)=true)\/∃j x,j<n/\l[j]? = some x/\p (x,j)=false/\∀i y,i<j->l[i]? = some y->p (y,i)=true:=by
  intro n
  induction n with
  | zero=>exact .inl (fun i y h=>by omega)
  | succ n ih=>
   rcases ih with ih | ⟨j,x,h1,h2,h3,c⟩
   .cases hx:l[n]? with
    | none=>exact .inl (fun i y b hy=>by
      rcases Nat.lt_or_ge i n with h | h
      .exact ih i y h hy
      .have:i=n:=by omega
       subst this; rw [hx] at hy; cases hy)
    | some x=>
     cases hp:p (x,n) with
     | true=>exact .inl (fun i y b hy=>by
       rcases Nat.lt_or_ge i n with h | h
       .exact ih i y h hy
       .have:i=n:=by omega
        subst this; rw [hx] at hy; cases hy; exact hp)
     | false=>exact .inr ⟨n,x,by omega,hx,hp,ih⟩
   .exact .inr ⟨j,x,by omega,h2,h3,c⟩
 rcases key l.length with hk | ⟨j,x,h1,h2,h3,c⟩
 .exfalso
  have:l.zipIdx.all p=true:=by
   rw [List.all_eq_true]
   rintro ⟨y,i⟩ hy
   have:=List.mk_mem_zipIdx_iff_getElem?.1 hy
   have b:i<l.length:=by
    rcases Nat.lt_or_ge i l.length with h | h
    .exact h
    .rw [List.getElem?_eq_none h] at this; cases this
   exact hk i y b this
  rw [this] at h; cases h
 .exact ⟨j,x,h2,h3,c⟩
theorem Ig {α:Type} {l:List α} {p:α×Nat->Bool} (h:l.zipIdx.all p=true) {j:Nat} {x:α} (hx:l[j]? = some x):p (x,j)=true :=
 List.all_eq_true.1 h _ (List.mk_mem_zipIdx_iff_getElem?.2 hx)
theorem Ah5 {α:Type} {l:List α} {p:α×Nat->Bool} (h:∀j x,l[j]? = some x->p (x,j)=true):l.zipIdx.all p=true:=by
 rw [List.all_eq_true]
 rintro ⟨y,i⟩ hy
 exact h i y (List.mk_mem_zipIdx_iff_getElem?.1 hy)
theorem Xt {S E R α:Type} {step:S->Option (S⊕E)} {s0:S} {J:E->Option R} {rt rf:R} (l:List α) (p:α×Nat->Bool) (b:Nat->S) (h0:s0=b 0) (q:l.length<4611686018427387904)
  (g:∀(j:Nat) (x:α),l[j]? = some x->(∀i y,i<j->l[i]? = some y->p (y,i)=true)->decide ((j:Int)<(l.length:Int))=true->Af l (j:Int)=some x->Ac ((j:Int)+1)=((j+1:Nat):Int) ->
   (p (x,j)=true->step (b j)=some (.inl (b (j+1))))/\(p (x,j)=false->∃e,step (b j)=some (.inr e)/\J e=some rf))
  (u:decide ((l.length:Int)<(l.length:Int))=false->l.zipIdx.all p=true->∃e,step (b l.length)=some (.inr e)/\J e=some rt):(Al step s0).bind J=some (bif l.zipIdx.all p then rt else rf):=by
 have c:∀(j:Nat) (x:α),l[j]? = some x->(∀i y,i<j->l[i]? = some y->p (y,i)=true)->_:=fun j x hx hy=>
  have f:j<l.length:=by
   rcases Nat.lt_or_ge j l.length with h | h
   .exact h
   .rw [List.getElem?_eq_none h] at hx; cases hx
  g j x hx hy (Ao (by omega)) (Ch rfl hx) (C9 f q)
 cases hb:l.zipIdx.all p with
 | true=>
  refine Hv l.length b h0 (fun j f=>?_) (u (by simp) hb)
  have hx:l[j]? = some l[j]:=Ci f
  exact (c j _ hx (fun i y _ hy=>Ig hb hy)).1 (Ig hb hx)
 | false=>
  obtain ⟨j,x,h1,h2,h3⟩:=Ah4 hb
  refine Hv j b h0 (fun i s=>?_) ((c j x h1 h3).2 h2)
  have f:j<l.length:=by
   rcases Nat.lt_or_ge j l.length with h | h
   .exact h
   .rw [List.getElem?_eq_none h] at h1; cases h1
  have hx:l[i]? = some l[i]:=Ci (by omega)
  exact (c i _ hx (fun k y hk hy=>h3 k y (by omega) hy)).1 (h3 i _ s hx)
theorem Xu {α:Type} (l:List α) (p:α->Bool):l.zipIdx.all (fun q=>p q.1)=l.all p:=by
 cases h:l.all p with
 | true=>
  exact Ah5 fun j x hx=>List.all_eq_true.1 h _ (Cm hx)
 | false=>
  cases h':l.zipIdx.all (fun q=>p q.1) with
  | false=>rfl
  | true=>
   rw [<-h]; symm
   rw [List.all_eq_true]
   intro x hx
   obtain ⟨j,b⟩:=List.getElem?_of_mem hx
   exact Ig h' b
theorem Xv {S E R α:Type} {step:S->Option (S⊕E)} {s0:S} {J:E->Option R} {rt rf:R} (l:List α) (p:α->Bool) (b:Nat->S) (h0:s0=b 0) (f:l.length<4611686018427387904)
  (c:∀(j:Nat) (x:α),l[j]? = some x->decide ((j:Int)<(l.length:Int))=true->Af l (j:Int)=some x->Ac ((j:Int)+1)=((j+1:Nat):Int) ->
   (p x=true->step (b j)=some (.inl (b (j+1))))/\(p x=false->∃e,step (b j)=some (.inr e)/\J e=some rf))
  (g:decide ((l.length:Int)<(l.length:Int))=false->∃e,step (b l.length)=some (.inr e)/\J e=some rt):(Al step s0).bind J=some (bif l.all p then rt else rf):=by
 rw [<-Xu l p]
 exact Xt l (fun q=>p q.1) b h0 f (fun j x hx _=>c j x hx) (fun h _=>g h)
theorem Hw {S E R α:Type} {step:S->Option (S⊕E)} {s0:S} {J:E->Option R} {r:R} (l:List α) (b:Nat->S) (h0:s0=b 0) (g:l.length<4611686018427387904)
  (f:∀(j:Nat) (x:α),j<l.length->l[j]? = some x->decide ((j:Int)<(l.length:Int))=true->Af l (j:Int)=some x->Ac ((j:Int)+1)=((j+1:Nat):Int)->step (b j)=some (.inl (b (j+1))))
  (h:decide ((l.length:Int)<(l.length:Int))=false->∃e,step (b l.length)=some (.inr e)/\J e=some r):(Al step s0).bind J=some r:=by
 refine Hv l.length b h0 (fun j c=>?_) (h (by simp))
 have hx:l[j]? = some l[j]:=Ci c
 exact f j _ c hx (Ao (by omega)) (Ch rfl hx) (C9 c g)
theorem Dy {α:Type} {l:List α} {j:Nat} {x:α} (h:l[j]? = some x):l.take (j+1)=l.take j++[x]:=by
 rw [List.take_add_one,h]; rfl
theorem E2 {α:Type} {l:List α} {j:Nat} {x:α} (h:l[j]? = some x):j<l.length:=by
 rcases Nat.lt_or_ge j l.length with h' | h'
 .exact h'
 .rw [List.getElem?_eq_none h'] at h; cases h
theorem Ab1 (b:Bool):(bif b then true else false)=b:=by cases b <;> rfl
theorem Ara (b:Bool):(bif b then false else true) = !b:=by cases b <;> rfl
theorem Ah6 {A R:Type} {X:Option A} {f:A->Option R} {y:R} {Q:A->Prop} (h:∃r,X=some r/\Q r) (b:∀r,Q r->f r=some y):X.bind f=some y:=by
 obtain ⟨r,h1,h2⟩:=h
 rw [h1]; exact b r h2
theorem Ah7 {α:Type} (l:List α) (p:α->Bool) {step:Int->Option (Int⊕(Int⊕Unit))} {J:Int⊕Unit->Option Int} (q:l.length<4611686018427387904)
  (k:∀(j:Nat) (x:α),x∈l->decide ((j:Int)<(l.length:Int))=true->Af l (j:Int)=some x->Ac ((j:Int)+1)=((j+1:Nat):Int) ->
   step (j:Int)=bif p x then some (.inr (.inl (j:Int))) else some (.inl ((j+1:Nat):Int)))
  (s:decide ((l.length:Int)<(l.length:Int))=false->step (l.length:Int)=some (.inr (.inr ())))
  (c:∀i,J (.inl i)=some i) (b:J (.inr ())=some (-1)):∃i,(Al step 0).bind J=some i/\decide (i>=0)=l.any p:=by
 have key:(Al step 0).bind (fun z=>(J z).bind fun i=>some (decide (i>=0)))=some (bif l.all (fun x=>!p x) then false else true):=by
  refine Xv l (fun x=>!p x) (fun j=>(j:Int)) rfl q (fun j x hx h1 h2 h3=>?_) (fun h=>⟨.inr (),s h,by rw [b]; rfl⟩)
  have h:=k j x (Cm hx) h1 h2 h3
  simp only [h]
  cases p x with
  | true=>exact ⟨(fun h=>by cases h),fun _=>⟨.inl (j:Int),rfl,by simp only [c,Ad]; rw [Ao (by omega)]⟩⟩
  | false=>exact ⟨fun _=>rfl,fun h=>by cases h⟩
 have e:l.any p=(bif l.all (fun x=>!p x) then false else true):=by
  rw [Ara,List.not_all_eq_any_not]; simp
 rw [e]
 cases f:Al step 0 with
 | none=>rw [f] at key; cases key
 | some z=>
  rw [f,Ad] at key
  rw [Ad]
  cases g:J z with
  | none=>rw [g] at key; cases key
  | some i=>
   rw [g,Ad] at key
   exact ⟨i,rfl,Option.some.inj key⟩
theorem Ab2 {S E R α M:Type} {step:S->Option (S⊕E)} {s0:S} {J:E->Option R} (l:List α) (p:α×Nat->Bool) (b:Nat->M->S) (I:M->Prop) (z A:R->Prop) (g:M) (h0:s0=b 0 g) (h:I g) (D:l.length<4611686018427387904)
  (B:∀(j:Nat) (x:α) (m:M),I m->l[j]? = some x->(∀i y,i<j->l[i]? = some y->p (y,i)=true)->decide ((j:Int)<(l.length:Int))=true->Af l (j:Int)=some x->Ac ((j:Int)+1)=((j+1:Nat):Int) ->
   (p (x,j)=true->∃f,step (b j m)=some (.inl (b (j+1) f))/\I f)/\(p (x,j)=false->∃e,step (b j m)=some (.inr e)/\∃r,J e=some r/\A r))
  (N:∀m,I m->decide ((l.length:Int)<(l.length:Int))=false->l.zipIdx.all p=true->∃e,step (b l.length m)=some (.inr e)/\∃r,J e=some r/\z r) :
  ∃r,(Al step s0).bind J=some r/\((l.zipIdx.all p=true/\z r)\/(l.zipIdx.all p=false/\A r)):=by
 have c:∀(j:Nat) (x:α) (m:M),I m->l[j]? = some x->(∀i y,i<j->l[i]? = some y->p (y,i)=true)->_:=fun j x m U hx hy=>
  have G:j<l.length:=E2 hx
  B j x m U hx hy (Ao (by omega)) (Ch rfl hx) (C9 G D)
 have key:∀n,n<=l.length->(∀i y,i<n->l[i]? = some y->p (y,i)=true)->∃m,I m/\Al step s0=Al step (b n m):=by
  intro n
  induction n with
  | zero=>intro _ _; exact ⟨g,h,by rw [h0]⟩
  | succ n ih=>
   intro X hy
   obtain ⟨m,h1,h2⟩:=ih (by omega) (fun i y L=>hy i y (by omega))
   have hx:l[n]? = some l[n]:=Ci (by omega)
   obtain ⟨f,h3,k⟩:=(c n _ m h1 hx (fun i y L=>hy i y (by omega))).1 (hy n _ (by omega) hx)
   exact ⟨f,k,by rw [h2,Iw h3]⟩
 cases hb:l.zipIdx.all p with
 | true=>
  obtain ⟨m,h1,h2⟩:=key l.length (Nat.le_refl _) (fun i y _ hy=>Ig hb hy)
  obtain ⟨e,u,r,s,q⟩:=N m h1 (by simp) hb
  exact ⟨r,by rw [h2,Eh u]; exact s,.inl ⟨rfl,q⟩⟩
 | false=>
  obtain ⟨j,x,h1,h2,h3⟩:=Ah4 hb
  obtain ⟨m,k,V⟩:=key j (Nat.le_of_lt (E2 h1)) h3
  obtain ⟨e,u,r,s,q⟩:=(c j x m k h1 h3).2 h2
  exact ⟨r,by rw [V,Eh u]; exact s,.inr ⟨rfl,q⟩⟩
end Go.Ab
namespace Go.Ab
open Go
theorem Na (l:List Int) (c:l.length<4611686018427387904):H8 l=some (Fw l):=by
 unfold H8
 refine Gp (fun v=>∃k:Nat,v=k/\k<=l.length/\Fw (l.take k)=Fw l) (fun v=>v.toNat) (fun v=>∃k:Nat,v=k/\k<=l.length/\l.take k=Fw l) ⟨l.length,rfl,Nat.le_refl _,by simp⟩ ?_ ?_
 .rintro v ⟨k,rfl,hk,ht⟩
  cases k with
  | zero=>exact .inr ⟨0,rfl,0,rfl,by omega,by simpa [Fw] using ht⟩
  | succ j=>
   have hw:Ac (((j+1:Nat):Int)-1)=(j:Int):=by rw [Ac,Bu] <;> omega
   have b:j<l.length:=by omega
   have hp:decide (((j+1:Nat):Int)>0)=true:=Ao (by omega)
   simp only [hp,cond_true,hw,C8 rfl b,Ad]
   rw [List.take_succ_eq_append_getElem b] at ht
   by_cases h0:l[j]=0
   .rw [h0,Aq7] at ht
    exact .inl ⟨j,by rw [Fu h0]; rfl,⟨j,rfl,by omega,ht⟩,by omega⟩
   .rw [Aq8 h0] at ht
    exact .inr ⟨((j+1:Nat):Int),by rw [C2 h0]; rfl,j+1,rfl,by omega,by rw [List.take_succ_eq_append_getElem b]; exact ht⟩
 .rintro v ⟨k,rfl,hk,ht⟩
  rw [Xp rfl hk,ht]; rfl
theorem Ah8 (l:List Int) (hd:Kn l) (D:l.length<1099511627776):Qs l=some (Ae (Ah l).toNat):=by
 unfold Qs
 have f:Ac ((l.length:Int)+1)=((l.length+1:Nat):Int):=by rw [Ac,Bu] <;> omega
 rw [f,Abw rfl (by omega) (by omega)]
 simp only [Ad]
 refine Gp (fun (c,i,o)=>∃k:Nat,i=k/\k<=l.length/\o.length=k/\Bn o/\0<=c/\c<5/\Ah o+1000000000 ^ k*c=Ah (l.take k))
  (fun (_,i,_)=>l.length-i.toNat) (fun (c,o)=>o.length=l.length/\Bn o/\0<=c/\c<5/\Ah o+1000000000 ^ l.length*c=Ah l)
  ⟨0,rfl,by omega,rfl,Bn.nil,by omega,by omega,by simp [Ah]⟩ ?_ ?_
 .rintro ⟨c,i,o⟩ ⟨k,rfl,hk,g,b,q,hc,u⟩
  rcases Nat.lt_or_ge k l.length with h | h
  .have hx:=hd l[k] (List.getElem_mem h)
   refine .inl ⟨((l[k]+c) / 1000000000,((k+1:Nat):Int),o++[(l[k]+c) % 1000000000]),?_,⟨k+1,rfl,by omega,by simp [g],b.snoc (by omega) (by omega),by omega,by omega,?_⟩,by simp; omega⟩
   .have A:Au l[k]=l[k]:=Cp (by omega) (by omega)
    have z:Au (l[k]+c)=l[k]+c:=Cp (by omega) (by omega)
    have s:B1 ((l[k]+c) % 1000000000)=(l[k]+c) % 1000000000:=Er (by omega) (by omega)
    have y:Ac ((k:Int)+1)=((k+1:Nat):Int):=by rw [Ac,Bu] <;> omega
    have x:decide ((k:Int)<(l.length:Int))=true:=by simpa using h
    simp only [x,cond_true,C8 rfl h,Ad,A,z,Ib (show 0<=l[k]+c by omega) (show (0:Int)<1000000000 by decide),s,Dp (show (o.length+[(l[k]+c) % 1000000000].length)*4<=_ by simp; omega),I5 (show 0<=l[k]+c by omega) (show l[k]+c<=_ by omega) (show (0:Int)<1000000000 by decide),y]
   .rw [Es l h,<-u,Ic,g,Int.pow_succ]
    have:=Int.mul_ediv_add_emod (l[k]+c) 1000000000
    grind
  .have j:k=l.length:=by omega
   subst j
   refine .inr ⟨(c,o),by simp,g,b,q,hc,by simpa using u⟩
 .rintro ⟨c,o⟩ ⟨h2,h3,I,G,E⟩
  have B:=Fh hd
  by_cases hc:c>0
  .have s:B1 c=c:=Er (by omega) (by omega)
   simp only [decide_eq_true hc,cond_true,s,Dp (show (o.length+[c].length)*4<=_ by simp; omega),Ad,Na (o++[c]) (by simp; omega)]
   rw [I6 (h3.snoc (by omega) (by omega)) (n:=(Ah l).toNat) (by rw [Ic,h2]; omega)]
  .have:c=0:=by omega
   subst this
   simp only [Int.lt_irrefl,gt_iff_lt,decide_false,cond_false,Na o (by omega),Ad]
   rw [I6 h3 (n:=(Ah l).toNat) (by omega)]
end Go.Ab
namespace Go.Ab
open Go
theorem Nb {n:Nat} (h:n<18446744073709551616):Ba n<=3:=I7 (Nat.lt_of_lt_of_le h (by decide))
theorem Nc (n:Nat) (h:n<18446744073709551616):Lz n=some (Ae n):=by
 unfold Lz
 have b:=Nb h
 unfold Ba at b
 refine Gp (fun (w,o)=>∃k:Nat,w=k/\k<=n/\o++Ae k=Ae n) (fun (w,_)=>w.toNat) (fun o=>o=Ae n) ⟨n,rfl,Nat.le_refl _,by simp⟩ ?_ (by rintro o rfl; rfl)
 rintro ⟨w,o⟩ ⟨k,rfl,hk,c⟩
 by_cases h0:k=0
 .subst h0
  rw [Et,List.append_nil] at c
  exact .inr ⟨o,by simp,c⟩
 .have f:o.length<=3:=by rw [<-c] at b; simp at b; omega
  refine .inl ⟨(((k / 1000000000:Nat):Int),o++[((k % 1000000000:Nat):Int)]),?_,⟨k / 1000000000,rfl,by omega,by rw [List.append_assoc]; rw [Ko h0] at c; exact c⟩,by simp; omega⟩
  have l:decide ((k:Int)>0)=true:=Ao (by omega)
  have j:Fb (k:Int) 1000000000=some ((k % 1000000000:Nat):Int):=by rw [Ib (by omega) (by decide)]; rfl
  have i:B1 ((k % 1000000000:Nat):Int)=((k % 1000000000:Nat):Int):=Er (by omega) (by omega)
  have g:E6 .u64 (k:Int) 1000000000=some ((k / 1000000000:Nat):Int):=by rw [I5 (by omega) (by omega) (by decide)]; rfl
  simp only [l,cond_true,j,Ad,i,Dp (show (o.length+[((k % 1000000000:Nat):Int)].length)*4<=_ by simp; omega),g]
def Ee (m n:Nat):Int:=if m<n then -1 else if n<m then 1 else 0
theorem Ra (m n:Nat) (h:Ba m<1099511627776) (g:Ba n<1099511627776):Mu (Ae m) (Ae n)=some (Ee m n):=by
 unfold Mu
 unfold Ba at h g
 by_cases i:(Ae m).length=(Ae n).length
 .rw [F8 (by omega:((Ae m).length:Int)=(Ae n).length),cond_false]
  have hw:Ac (((Ae m).length:Int)-1)=((Ae m).length:Int)-1:=by rw [Ac,Bu] <;> omega
  rw [hw]
  refine Gp (fun v=>∃k:Nat,v=(k:Int)-1/\k<=(Ae m).length/\(Ae m).drop k=(Ae n).drop k) (fun v=>(v+1).toNat)
   (fun e=>match e with | .inl r=>r=Ee m n | .inr _=>m=n) ⟨(Ae m).length,rfl,Nat.le_refl _,by rw [List.drop_length,i,List.drop_length]⟩ ?_ ?_
  .rintro v ⟨k,rfl,hk,hd⟩
   cases k with
   | zero=>
    refine .inr ⟨.inr (),by simp,?_⟩
    have:Ae m=Ae n:=by simpa using hd
    have:=congrArg Ah this
    rw [D7,D7] at this
    show m=n
    omega
   | succ j=>
    have c:j<(Ae m).length:=by omega
    have hj':j<(Ae n).length:=by omega
    have q:((j+1:Nat):Int)-1=(j:Int):=by omega
    have l:decide ((j:Int)>=0)=true:=Ao (by omega)
    simp only [q,l,cond_true,C8 rfl c,C8 rfl hj',Ad]
    rcases Int.lt_trichotomy (Ae m)[j] (Ae n)[j] with b | heq | hgt
    .refine .inr ⟨.inl (-1),by rw [Ao b]; rfl,?_⟩
     have:=Ah3 (Dx m) c hj' (Dx n) hd b
     rw [D7,D7] at this
     show (-1:Int)=Ee m n
     rw [Ee,if_pos (by omega)]
    .refine .inl ⟨(j:Int)-1,?_,⟨j,rfl,by omega,?_⟩,by omega⟩
     .rw [Av (by omega:¬(Ae m)[j]<(Ae n)[j]),cond_false,Av (by omega:¬(Ae m)[j]>(Ae n)[j]),cond_false]
      rw [Ac,Bu (by omega) (by omega)]
     .rw [List.drop_eq_getElem_cons c,List.drop_eq_getElem_cons hj',hd,heq]
    .refine .inr ⟨.inl 1,by rw [Av (by omega:¬(Ae m)[j]<(Ae n)[j]),cond_false,Ao (by omega:(Ae m)[j]>(Ae n)[j])]; rfl,?_⟩
     have:=Ah3 (Dx n) hj' c (Dx m) hd.symm hgt
     rw [D7,D7] at this
     show (1:Int)=Ee m n
     rw [Ee,if_neg (by omega),if_pos (by omega)]
  .rintro (e | e) f
   .simp only at f ⊢; rw [f]
   .simp only at f ⊢; rw [Ee,if_neg (by omega),if_neg (by omega)]
 .rw [Fv (by omega:((Ae m).length:Int)≠(Ae n).length),cond_true]
  by_cases b:(Ae m).length<(Ae n).length
  .rw [Ao (by omega:((Ae m).length:Int)<(Ae n).length),cond_true]
   have:=Ah2 (m:=m) (n:=n) b
   rw [Ee,if_pos this]
  .rw [Av (by omega:¬((Ae m).length:Int)<(Ae n).length),cond_false]
   have:=Ah2 (m:=n) (n:=m) (by unfold Ba; omega)
   rw [Ee,if_neg (by omega),if_pos this]
theorem Ab3 {l:List Int} (h:Bn l) (c:l≠[]->1000000000 ^ (l.length-1)<=Ah l):Can l:=by
 refine ⟨h,fun b h0=>?_⟩
 have h1:=c b
 have e:=List.dropLast_concat_getLast b
 have h2:Bn l.dropLast:=fun d hd=>h d (List.dropLast_subset l hd)
 have h3:=Hu h2
 rw [List.length_dropLast] at h3
 have f:=congrArg Ah e
 rw [Ic,h0] at f
 omega
theorem Hx (l:List Int) {k:Nat} (h:l.length<=k):Ah (l.take k)=Ah l:=by rw [List.take_of_length_le h]
theorem Ah9 (a b:List Int) (ha:Bn a) (hb:Bn b) (hl:a.length<1099511627776) (hab:b.length<=a.length) (U:a≠[]->1000000000 ^ (a.length-1)<=Ah a) :
  ((Ei 4 0 (Ac ((a.length:Int)+1)) (0:Int)).bind fun Z=>
 (Al (S:=(Int×Int×(List Int))) (E:=(Int×(List Int))) (fun (v20,v21,u)=>
 bif (decide (v21<(a.length:Int))) then (
 (Af a v21).bind fun v23=>
 (show Option Int from
 bif (decide (v21<(b.length:Int))) then (
 (Af b v21).bind fun v24=>
 some (B1 ((B1 (v23+v20))+v24))
 )
 else (
 some (B1 (v23+v20))
 )
 ).bind fun v25=>
 (E6 .u32 v25 1000000000).bind fun v26=>
 (Fb v25 1000000000).bind fun f=>
 (B4 4 u [f]).bind fun g=>
 some (.inl (v26,(Ac (v21+1)),g))
 )
 else (
 some (.inr (v20,u))
 )
  ) (0,0,Z)).bind fun (l,q)=>
 bif (decide (l>(0:Int))) then (
 (B4 4 q [l]).bind fun J=>
 some J
 )
 else (
 some q
 ))=some (Ae (Ah a+Ah b).toNat):=by
 have A:Ac ((a.length:Int)+1)=((a.length+1:Nat):Int):=by rw [Ac,Bu] <;> omega
 rw [A,Abw rfl (by omega) (by omega)]
 simp only [Ad]
 have a7:=Fh ha.u32
 have a6:=Fh hb.u32
 refine Gp (fun (c,i,o)=>∃k:Nat,i=k/\k<=a.length/\o.length=k/\Bn o/\0<=c/\c<=1/\Ah o+1000000000 ^ k*c=Ah (a.take k)+Ah (b.take k))
  (fun (_,i,_)=>a.length-i.toNat) (fun (c,o)=>o.length=a.length/\Bn o/\0<=c/\c<=1/\Ah o+1000000000 ^ a.length*c=Ah a+Ah b)
  ⟨0,rfl,by omega,rfl,Bn.nil,by omega,by omega,by simp [Ah]⟩ ?_ ?_
 .rintro ⟨c,i,o⟩ ⟨k,rfl,hk,M,z,V,hc,L⟩
  rcases Nat.lt_or_ge k a.length with h | h
  .have hx:=ha.get h
   have e4:Ac ((k:Int)+1)=((k+1:Nat):Int):=by rw [Ac,Bu] <;> omega
   have e5:decide ((k:Int)<(a.length:Int))=true:=Ao (by omega)
   have step:∀s:Int,0<=s->s<2000000000->(show Option Int from bif (decide ((k:Int)<(b.length:Int))) then ((Af b k).bind fun v24=>some (B1 ((B1 (a[k]+c))+v24))) else some (B1 (a[k]+c)))=some s ->
     Ah (a.take (k+1))+Ah (b.take (k+1))=Ah (a.take k)+Ah (b.take k)+1000000000 ^ k*(s-c) ->
     (∃s',(bif (decide ((k:Int)<(a.length:Int))) then (
 (Af a k).bind fun v23=>
 (show Option Int from
 bif (decide ((k:Int)<(b.length:Int))) then (
 (Af b k).bind fun v24=>
 some (B1 ((B1 (v23+c))+v24))
 )
 else (
 some (B1 (v23+c))
 )
 ).bind fun v25=>
 (E6 .u32 v25 1000000000).bind fun v26=>
 (Fb v25 1000000000).bind fun f=>
 (B4 4 o [f]).bind fun g=>
 some (.inl (v26,(Ac ((k:Int)+1)),g))
 )
 else (
 some (.inr (c,o))
 ))=some (Sum.inl s':(Int×Int×List Int)⊕(Int×List Int))/\(∃j:Nat,s'.2.1=j/\j<=a.length/\s'.2.2.length=j/\Bn s'.2.2/\0<=s'.1/\s'.1<=1/\Ah s'.2.2+1000000000 ^ j*s'.1=Ah (a.take j)+Ah (b.take j))/\a.length-s'.2.1.toNat<a.length-(k:Int).toNat):=by
    intro s y a1 hs x
    refine ⟨(s / 1000000000,((k+1:Nat):Int),o++[s % 1000000000]),?_,⟨k+1,rfl,by omega,by simp [M],z.snoc (by omega) (by omega),by simp; omega,by simp; omega,?_⟩,by simp; omega⟩
    .rw [e5,cond_true,C8 rfl h,Ad,hs,Ad,Abx y (by omega) (by decide),Ad,Ib y (by decide),Ad,Dp (by simp; omega),Ad,e4]
    .rw [x,<-L,Ic,M,Int.pow_succ]
     have:=Int.mul_ediv_add_emod s 1000000000
     grind
   refine .inl ?_
   rcases Nat.lt_or_ge k b.length with hb' | hb'
   .have hy:=hb.get hb'
    obtain ⟨s',I,G,D⟩:=step (a[k]+c+b[k]) (by omega) (by omega) (by
     have B:B1 (a[k]+c)=a[k]+c:=Er (by omega) (by omega)
     have Y:B1 (a[k]+c+b[k])=a[k]+c+b[k]:=Er (by omega) (by omega)
     show (bif (decide ((k:Int)<(b.length:Int))) then _ else _)=_
     rw [Ao (by omega:(k:Int)<(b.length:Int)),cond_true,C8 rfl hb',Ad,B,Y]) (by rw [Es a h,Es b hb']; grind)
    exact ⟨s',I,G,D⟩
   .obtain ⟨s',I,G,D⟩:=step (a[k]+c) (by omega) (by omega) (by
     have B:B1 (a[k]+c)=a[k]+c:=Er (by omega) (by omega)
     show (bif (decide ((k:Int)<(b.length:Int))) then _ else _)=_
     rw [Av (by omega:¬(k:Int)<(b.length:Int)),cond_false,B]) (by rw [Es a h,Hx b hb',Hx b (by omega)]; grind)
    exact ⟨s',I,G,D⟩
  .have R:k=a.length:=by omega
   subst R
   refine .inr ⟨(c,o),by simp,M,z,V,hc,?_⟩
   rw [List.take_length,Hx b hab] at L
   exact L
 .rintro ⟨c,o⟩ ⟨h2,h3,h4,h5,h6⟩
  simp only []
  by_cases hc:c>0
  .have:c=1:=by omega
   subst this
   rw [Ao hc,cond_true,Dp (by simp; omega),Ad]
   congr 1
   refine Xs (Ab3 (h3.snoc (by omega) (by omega)) fun _=>?_) (by rw [Ic,h2]; omega)
   rw [Ic,h2]
   have:=Fh h3.u32
   simp [h2]; omega
  .have:c=0:=by omega
   subst this
   rw [Av hc,cond_false]
   congr 1
   refine Xs (Ab3 h3 fun N=>?_) (by omega)
   have X:a≠[]:=by intro e; rw [e] at h2; exact N (List.length_eq_zero_iff.1 h2)
   have:=U X
   rw [h2]; omega
theorem Xw {n:Nat} (h:Ae n≠[]):1000000000 ^ ((Ae n).length-1)<=Ah (Ae n):=by
 rw [D7]
 have h1:(Ae n).length≠0:=fun e=>h (List.length_eq_zero_iff.1 e)
 have:=Ah1 (n:=n) (k:=(Ae n).length-1) (by unfold Ba; omega)
 have e:((1000000000 ^ ((Ae n).length-1):Nat):Int)=1000000000 ^ ((Ae n).length-1):=by rw [Int.natCast_pow]; rfl
 omega
theorem Arb (m n:Nat) (c:Ba m<1099511627776) (b:Ba n<1099511627776):Tg (Ae m) (Ae n)=some (Ae (m+n)):=by
 unfold Tg
 unfold Ba at c b
 by_cases f:(Ae m).length<(Ae n).length
 .simp only [Ao (by omega:((Ae m).length:Int)<(Ae n).length),cond_true,Ad]
  have:=Ah9 (Ae n) (Ae m) (Dx n) (Dx m) b (by omega) Xw
  rw [D7,D7] at this
  rw [show m+n=((n:Int)+(m:Int)).toNat by omega]
  exact this
 .simp only [Av (by omega:¬((Ae m).length:Int)<(Ae n).length),cond_false,Ad]
  have:=Ah9 (Ae m) (Ae n) (Dx m) (Dx n) c (by omega) Xw
  rw [D7,D7] at this
  rw [show m+n=((m:Int)+(n:Int)).toNat by omega]
  exact this
end Go.Ab
namespace Go.Ab
open Go
theorem I8 {k n:Nat} (h:k<n) (b:n<4611686018427387904):Ac ((k:Int)+1)=((k+1:Nat):Int):=by rw [Ac,Bu] <;> omega
theorem Aia (m n:Nat) (X:Ba m<1099511627776) (B:n<=m):Qt (Ae m) (Ae n)=some (Ae (m-n)):=by
 unfold Qt
 have E:(Ae n).length<=(Ae m).length:=G5 B
 unfold Ba at X
 rw [Abw rfl (by omega) (by omega)]
 simp only [Ad]
 have ha:=Dx m
 have hb:=Dx n
 refine Gp (fun (c,i,o)=>∃k:Nat,i=k/\k<=(Ae m).length/\o.length=k/\Bn o/\0<=c/\c<=1/\Ah o=Ah ((Ae m).take k)-Ah ((Ae n).take k)+1000000000 ^ k*c)
  (fun (_,i,_)=>(Ae m).length-i.toNat) (fun o=>∃c:Int,o.length=(Ae m).length/\Bn o/\0<=c/\c<=1/\Ah o=(m:Int)-n+1000000000 ^ (Ae m).length*c)
  ⟨0,rfl,by omega,rfl,Bn.nil,by omega,by omega,by simp [Ah]⟩ ?_ ?_
 .rintro ⟨c,i,o⟩ ⟨k,rfl,hk,l,g,I,hc,q⟩
  rcases Nat.lt_or_ge k (Ae m).length with h | h
  .have hx:=ha.get h
   have R:=I8 h (by omega)
   have N:decide ((k:Int)<((Ae m).length:Int))=true:=Ao (by omega)
   have L:Ac (Ae m)[k]=(Ae m)[k]:=Bu (by omega) (by omega)
   have J:Ac ((Ae m)[k]-c)=(Ae m)[k]-c:=Bu (by omega) (by omega)
   have key:∀s:Int,-1000000001<=s->s<1000000000->Ah ((Ae m).take (k+1))-Ah ((Ae n).take (k+1))=Ah ((Ae m).take k)-Ah ((Ae n).take k)+1000000000 ^ k*(s+c) ->
     ∃(f:Int) (d:Int),(bif decide (s<0) then ((B4 4 o [(B1 (Ac (s+1000000000)))]).bind fun A=>some (Sum.inl (1,(Ac ((k:Int)+1)),A))) else ((B4 4 o [(B1 s)]).bind fun z=>some (Sum.inl (0,(Ac ((k:Int)+1)),z))))=some (Sum.inl (f,((k+1:Nat):Int),o++[d]):(Int×Int×List Int)⊕List Int) /\
      (-1000000000<=s->(∃j:Nat,((k+1:Nat):Int)=j/\j<=(Ae m).length/\(o++[d]).length=j/\Bn (o++[d])/\0<=f/\f<=1/\Ah (o++[d])=Ah ((Ae m).take j)-Ah ((Ae n).take j)+1000000000 ^ j*f)):=by
    intro s h1 h2 b
    by_cases M:s<0
    .refine ⟨1,B1 (Ac (s+1000000000)),by rw [Ao M,cond_true,Dp (by simp; omega),Ad,R],fun h3=>?_⟩
     have V:Ac (s+1000000000)=s+1000000000:=Bu (by omega) (by omega)
     have u:B1 (s+1000000000)=s+1000000000:=Er (by omega) (by omega)
     rw [V,u]
     refine ⟨k+1,rfl,by omega,by simp [l],g.snoc (by omega) (by omega),by omega,by omega,?_⟩
     rw [b,Ic,l,q,Int.pow_succ]; grind
    .refine ⟨0,B1 s,by rw [Av M,cond_false,Dp (by simp; omega),Ad,R],fun h3=>?_⟩
     have u:B1 s=s:=Er (by omega) (by omega)
     rw [u]
     refine ⟨k+1,rfl,by omega,by simp [l],g.snoc (by omega) (by omega),by omega,by omega,?_⟩
     rw [b,Ic,l,q,Int.pow_succ]; grind
   refine .inl ?_
   rcases Nat.lt_or_ge k (Ae n).length with hb' | hb'
   .have hy:=hb.get hb'
    have U:Ac (Ae n)[k]=(Ae n)[k]:=Bu (by omega) (by omega)
    have S:Ac ((Ae m)[k]-c-(Ae n)[k])=(Ae m)[k]-c-(Ae n)[k]:=Bu (by omega) (by omega)
    obtain ⟨f,d,y,x⟩:=key ((Ae m)[k]-c-(Ae n)[k]) (by omega) (by omega) (by rw [Es _ h,Es _ hb']; grind)
    refine ⟨(f,((k+1:Nat):Int),o++[d]),?_,x (by omega),by simp; omega⟩
    rw [<-y]
    simp only [N,cond_true,C8 rfl h,Ad,L,J,Ao (by omega:(k:Int)<((Ae n).length:Int)),C8 rfl hb',U,S]
   .obtain ⟨f,d,y,x⟩:=key ((Ae m)[k]-c) (by omega) (by omega) (by rw [Es _ h,Hx (Ae n) hb',Hx (Ae n) (by omega)]; grind)
    refine ⟨(f,((k+1:Nat):Int),o++[d]),?_,x (by omega),by simp; omega⟩
    rw [<-y]
    simp only [N,cond_true,C8 rfl h,Ad,L,J,Av (by omega:¬(k:Int)<((Ae n).length:Int)),cond_false]
  .have G:k=(Ae m).length:=by omega
   subst G
   refine .inr ⟨o,by simp,c,l,g,I,hc,?_⟩
   rw [List.take_length,Hx _ E,D7,D7] at q
   exact q
 .rintro o ⟨c,h2,h3,h4,Z,Y⟩
  have D:=Hu h3
  rw [h2] at D
  have hp:=Ie (Ae m).length
  have:c=0:=by
   rcases Int.lt_or_le 0 c with hc | hc
   .have:c=1:=by omega
    subst this
    omega
   .omega
  subst this
  rw [Na o (by omega),Ad,I6 h3 (n:=m-n) (by omega)]
theorem Ab4 (m d:Nat) (N:Ba m<1099511627776) (hd:0<d) (R:d<4294967296):Ou (Ae m) d=some (Ae (m / d),((m % d:Nat):Int)):=by
 unfold Ou
 unfold Ba at N
 rw [Ht rfl rfl (Nat.le_refl _) (by omega) (by omega)]
 simp only [Ad]
 have ha:=Dx m
 have hw:Ac (((Ae m).length:Int)-1)=((Ae m).length:Int)-1:=by rw [Ac,Bu] <;> omega
 rw [hw]
 refine Gp (fun (r,i,o)=>∃k:Nat,i=(k:Int)-1/\k<=(Ae m).length/\o.length=(Ae m).length/\Bn o/\0<=r/\r<d/\Ah (o.drop k)*d+r=Ah ((Ae m).drop k))
  (fun (_,i,_)=>(i+1).toNat) (fun (r,o)=>o.length=(Ae m).length/\Bn o/\0<=r/\r<d/\Ah o*d+r=m)
  ⟨(Ae m).length,rfl,Nat.le_refl _,by simp,Bn.replicate _,by omega,by omega,by simp [Ah]⟩ ?_ ?_
 .rintro ⟨r,i,o⟩ ⟨k,rfl,hk,B,g,s,M,A⟩
  cases k with
  | zero=>exact .inr ⟨(r,o),by simp,B,g,s,M,by simpa [D7] using A⟩
  | succ j=>
   have z:j<(Ae m).length:=by omega
   have h:j<o.length:=by omega
   have hx:=ha.get z
   have Y:((j+1:Nat):Int)-1=(j:Int):=by omega
   have X:decide ((j:Int)>=0)=true:=Ao (by omega)
   have J:Au (r*1000000000)=r*1000000000:=Cp (by omega) (by omega)
   have I:Au (Ae m)[j]=(Ae m)[j]:=Cp (by omega) (by omega)
   have G:Au (r*1000000000+(Ae m)[j])=r*1000000000+(Ae m)[j]:=Cp (by omega) (by omega)
   have b:(0:Int)<(d:Int):=by omega
   have c:0<=r*1000000000+(Ae m)[j]:=by omega
   have f:0<=(r*1000000000+(Ae m)[j]) / (d:Int):=Int.ediv_nonneg c (by omega)
   have u:(r*1000000000+(Ae m)[j]) / (d:Int)<1000000000:=by
    apply Int.ediv_lt_of_lt_mul b
    have:(r+1)*1000000000<=d*1000000000:=Int.mul_le_mul_of_nonneg_right (by omega) (by decide)
    omega
   have E:B1 ((r*1000000000+(Ae m)[j]) / (d:Int))=(r*1000000000+(Ae m)[j]) / (d:Int):=Er f (by omega)
   have y:=Int.emod_nonneg (r*1000000000+(Ae m)[j]) (by omega:(d:Int)≠0)
   have x:=Int.emod_lt_of_pos (r*1000000000+(Ae m)[j]) b
   have D:Ac ((j:Int)-1)=(j:Int)-1:=by rw [Ac,Bu] <;> omega
   refine .inl ⟨((r*1000000000+(Ae m)[j]) % (d:Int),(j:Int)-1,o.set j ((r*1000000000+(Ae m)[j]) / (d:Int))),?_,⟨j,rfl,by omega,by simpa using B,g.set _ f u,y,x,?_⟩,by simp⟩
   .simp only [Y,X,cond_true,C8 rfl z,C8 rfl h,Ad,J,I,G,I5 c (by omega) b,Ib c b,E,D,E7 rfl]
   .have d1:(o.set j ((r*1000000000+(Ae m)[j]) / (d:Int))).drop j=((r*1000000000+(Ae m)[j]) / (d:Int))::o.drop (j+1):=by
     rw [List.drop_eq_getElem_cons (by simpa using h),List.drop_set_of_lt (by omega)]; simp
    rw [d1,List.drop_eq_getElem_cons z]
    simp only [Ah]
    rw [<-A]
    have:=Int.mul_ediv_add_emod (r*1000000000+(Ae m)[j]) (d:Int)
    grind
 .rintro ⟨r,o⟩ ⟨h2,h3,V,U,S⟩
  simp only []
  have L:=Fh h3.u32
  have l:((m / d:Nat):Int)=Ah o/\((m % d:Nat):Int)=r:=by
   have b:(0:Int)<(d:Int):=by omega
   have e:=Int.ediv_emod_unique b (r:=r) (q:=Ah o) (a:=(m:Int))
   have:=e.2 ⟨by rw [<-S]; grind,V,U⟩
   exact ⟨by rw [Int.natCast_ediv]; exact this.1,by rw [Int.natCast_emod]; exact this.2⟩
  rw [Na o (by omega),Ad,I6 h3 l.1.symm,l.2]
end Go.Ab
namespace Go.Ab
open Go
theorem Xx {x y:Int} (hx:0<=x) (c:x<1000000000) (hy:0<=y) (b:y<1000000000):0<=x*y/\x*y<=999999998000000001:=by
 refine ⟨Int.mul_nonneg hx hy,?_⟩
 have h1:x*y<=999999999*y:=Int.mul_le_mul_of_nonneg_right (by omega) hy
 omega
theorem T8 (m n:Nat) (hm:Ba m<549755813888) (hn:Ba n<549755813888):Kf (Ae m) (Ae n)=some (Ae (m*n)):=by
 unfold Kf
 unfold Ba at hm hn
 by_cases hz:m=0\/n=0
 .have:(show Option Bool from bif (((Ae m).length:Int)==(0:Int)) then some true else some (((Ae n).length:Int)==(0:Int)))=some true:=by
   show (bif (((Ae m).length:Int)==(0:Int)) then some true else some (((Ae n).length:Int)==(0:Int)))=some true
   by_cases h:m=0
   .subst h; rw [Et]; rfl
   .have y:n=0:=by omega
    subst y
    rw [C2 (by have:=Gw h; have:(Ae m).length≠0:=fun e=>this (List.length_eq_zero_iff.1 e); omega),Et]; rfl
  rw [this,Ad,cond_true]
  have:m*n=0:=by rcases hz with rfl | rfl <;> simp
  rw [this,Et]
 .have I:m≠0:=by omega
  have y:n≠0:=by omega
  have aa:(Ae m).length≠0:=fun e=>Gw I (List.length_eq_zero_iff.1 e)
  have a8:(Ae n).length≠0:=fun e=>Gw y (List.length_eq_zero_iff.1 e)
  simp only [C2 (by omega:((Ae m).length:Int)≠0),C2 (by omega:((Ae n).length:Int)≠0),cond_false,Ad]
  have hw:Ac (((Ae m).length:Int)+((Ae n).length:Int))=(((Ae m).length+(Ae n).length:Nat):Int):=by rw [Ac,Bu] <;> omega
  rw [hw,Ht rfl rfl (Nat.le_refl _) (by omega) (by omega)]
  simp only [Ad]
  have ha:=Dx m
  have hb:=Dx n
  refine Gp (fun (i,o)=>∃k:Nat,i=k/\k<=(Ae m).length/\o.length=(Ae m).length+(Ae n).length/\Bn o/\o.drop (k+(Ae n).length)=List.replicate ((Ae m).length-k) 0/\Ah o=Ah ((Ae m).take k)*n)
   (fun (i,_)=>(Ae m).length-i.toNat) (fun o=>o.length=(Ae m).length+(Ae n).length/\Bn o/\Ah o=((m*n:Nat):Int))
   ⟨0,rfl,by omega,by simp,Bn.replicate _,by rw [List.drop_replicate]; congr 1; omega,by simp [Xq,Ah]⟩ ?_ ?_
  .rintro ⟨i,o⟩ ⟨k,rfl,hk,R,D,L,G⟩
   rcases Nat.lt_or_ge k (Ae m).length with h | h
   .have hx:=ha.get h
    have e4:=I8 h (by omega)
    have e5:decide ((k:Int)<((Ae m).length:Int))=true:=Ao (by omega)
    simp only [e5,cond_true]
    refine .inl (O2 (D6 (fun (c,j,o')=>∃q:Nat,j=q/\q<=(Ae n).length/\o'.length=(Ae m).length+(Ae n).length/\Bn o'/\o'.drop (k+(Ae n).length)=List.replicate ((Ae m).length-k) 0/\0<=c/\c<1000000000 /\
      Ah o' + 1000000000 ^ (k+q)*c=Ah o+1000000000 ^ k*((Ae m)[k]*Ah ((Ae n).take q)))
     (fun (_,j,_)=>(Ae n).length-j.toNat) (fun (c,j,o')=>o'.length=(Ae m).length+(Ae n).length/\Bn o'/\o'.drop (k+(Ae n).length)=List.replicate ((Ae m).length-k) 0/\0<=c/\c<1000000000 /\
      Ah o' + 1000000000 ^ (k+(Ae n).length)*c=Ah o+1000000000 ^ k*((Ae m)[k]*n))
     ⟨0,rfl,by omega,R,D,L,by omega,by omega,by simp [Ah]⟩ ?_ ?_))
    .rintro ⟨c,j,o'⟩ ⟨q,rfl,hq,l,b,f,z,hc,x⟩
     rcases Nat.lt_or_ge q (Ae n).length with hq' | hq'
     .have hy:=hb.get hq'
      have g:k+q<o'.length:=by omega
      have a1:=b.get g
      have a6:=Xx hx.1 hx.2 hy.1 hy.2
      have Y:Au (Ae m)[k]=(Ae m)[k]:=Cp (by omega) (by omega)
      have X:Au (Ae n)[q]=(Ae n)[q]:=Cp (by omega) (by omega)
      have V:Au ((Ae m)[k]*(Ae n)[q])=(Ae m)[k]*(Ae n)[q]:=Cp (by omega) (by omega)
      have U:Au o'[k+q]=o'[k+q]:=Cp (by omega) (by omega)
      have S:Au ((Ae m)[k]*(Ae n)[q]+o'[k+q])=(Ae m)[k]*(Ae n)[q]+o'[k+q]:=Cp (by omega) (by omega)
      have N:Au ((Ae m)[k]*(Ae n)[q]+o'[k+q]+c)=(Ae m)[k]*(Ae n)[q]+o'[k+q]+c:=Cp (by omega) (by omega)
      have e6:=I8 hq' (by omega)
      have e7:decide ((q:Int)<((Ae n).length:Int))=true:=Ao (by omega)
      have M:Ac ((k:Int)+(q:Int))=((k+q:Nat):Int):=by rw [Ac,Bu] <;> omega
      generalize hs:(Ae m)[k]*(Ae n)[q]+o'[k+q]+c=s at N
      have A:0<=s:=by omega
      have a7:s<1000000000000000000:=by omega
      have E:B1 (s % 1000000000)=s % 1000000000:=Er (by omega) (by omega)
      refine .inl ⟨(s / 1000000000,((q+1:Nat):Int),o'.set (k+q) (s % 1000000000)),?_,⟨q+1,rfl,by omega,by simpa using l,b.set _ (by omega) (by omega),?_,by omega,by omega,?_⟩,by simp; omega⟩
      .simp only [e7,cond_true,C8 rfl h,C8 rfl hq',M,C8 rfl g,Ad,Y,X,V,U,S,hs,N,Ib A (show (0:Int)<1000000000 by decide),I5 A (show s<=_ by omega) (show (0:Int)<1000000000 by decide),E,e6,E7 rfl]
      .rw [List.drop_set_of_lt (by omega)]; exact f
      .rw [Ju _ g,Es _ hq']
       have:=Int.mul_ediv_add_emod s 1000000000
       have Z:(1000000000:Int) ^ (k+(q+1))=1000000000 ^ (k+q)*1000000000:=by rw [<-Nat.add_assoc,Int.pow_succ]
       have p2:(1000000000:Int) ^ (k+q)=1000000000 ^ k*1000000000 ^ q:=Int.pow_add ..
       rw [Z]
       grind
     .have:q=(Ae n).length:=by omega
      subst this
      refine .inr ⟨(c,_,o'),by simp; rfl,l,b,f,z,hc,?_⟩
      rw [List.take_length,D7] at x
      exact x
    .rintro ⟨c,j,o'⟩ ⟨l,b,f,z,hc,x⟩
     have M:Ac ((k:Int)+((Ae n).length:Int))=((k+(Ae n).length:Nat):Int):=by rw [Ac,Bu] <;> omega
     have g:k+(Ae n).length<o'.length:=by omega
     have E:B1 c=c:=Er (by omega) (by omega)
     have u:o'[k+(Ae n).length]=0:=by
      have:=congrArg List.head? f
      rw [List.head?_drop,Ci g] at this
      have B:(List.replicate ((Ae m).length-k) (0:Int)).head? = some 0:=by
       cases hh:(Ae m).length-k with
       | zero=>omega
       | succ t=>rfl
      rw [B] at this
      exact Option.some.inj this
     refine ⟨_,by simp only [M,C8 rfl g,Ad,E,e4,E7 rfl]; rfl,_,rfl,⟨k+1,rfl,by omega,by simpa using l,b.set _ z hc,?_,?_⟩,by simp; omega⟩
     .rw [List.drop_set_of_lt (by omega),show k+1+(Ae n).length=(k+(Ae n).length)+1 by omega,<-List.drop_drop,f,List.drop_replicate]
      congr 1
     .rw [Ju _ g,u,Es _ h,Int.add_mul,<-G]
      grind
   .have J:k=(Ae m).length:=by omega
    subst J
    refine .inr ⟨o,by simp,R,D,?_⟩
    rw [List.take_length,D7] at G
    rw [G]; simp
  .rintro o ⟨h2,h3,h4⟩
   rw [Na o (by omega),Ad,I6 h3 h4]
theorem Aib (a:List Int) (m:Nat) (ha:Bn a) (X:a.length<1099511627776) (V:m<1000000000) :
  ∃o,Qz a m=some o/\o.length=a.length+1/\Bn o/\Ah o=Ah a*m:=by
 unfold Qz
 have u:Ac ((a.length:Int)+1)=((a.length+1:Nat):Int):=by rw [Ac,Bu] <;> omega
 rw [u,Ht rfl rfl (Nat.le_refl _) (by omega) (by omega)]
 simp only [Ad]
 refine D6 (fun (c,i,o)=>∃k:Nat,i=k/\k<=a.length/\o.length=a.length+1/\Bn o/\o.drop k=List.replicate (a.length+1-k) 0/\0<=c/\c<1000000000/\Ah o+1000000000 ^ k*c=Ah (a.take k)*m)
  (fun (_,i,_)=>a.length-i.toNat) (fun (c,o)=>o.length=a.length+1/\Bn o/\o.drop a.length = [0]/\0<=c/\c<1000000000/\Ah o+1000000000 ^ a.length*c=Ah a*m)
  ⟨0,rfl,by omega,by simp,Bn.replicate _,by simp,by omega,by omega,by simp [Ah,Xq]⟩ ?_ ?_
 .rintro ⟨c,i,o⟩ ⟨k,rfl,hk,B,q,g,z,hc,I⟩
  rcases Nat.lt_or_ge k a.length with h | h
  .have hx:=ha.get h
   have f:k<o.length:=by omega
   have G:=Xx hx.1 hx.2 (show (0:Int)<=m by omega) (by omega)
   have U:=I8 h (by omega)
   have S:decide ((k:Int)<(a.length:Int))=true:=Ao (by omega)
   have E:Au a[k]=a[k]:=Cp (by omega) (by omega)
   have D:Au (a[k]*(m:Int))=a[k]*m:=Cp (by omega) (by omega)
   have A:Au (a[k]*(m:Int)+c)=a[k]*m+c:=Cp (by omega) (by omega)
   have b:o[k]=0:=by
    have:=congrArg List.head? g
    rw [List.head?_drop,Ci f] at this
    have l:(List.replicate (a.length+1-k) (0:Int)).head? = some 0:=by
     cases hh:a.length+1-k with
     | zero=>omega
     | succ t=>rfl
    rw [l] at this
    exact Option.some.inj this
   generalize L:a[k]*(m:Int)+c=s at A
   have j:0<=s:=by omega
   have J:s<1000000000000000000:=by omega
   have x:B1 (s % 1000000000)=s % 1000000000:=Er (by omega) (by omega)
   refine .inl ⟨(s / 1000000000,((k+1:Nat):Int),o.set k (s % 1000000000)),?_,⟨k+1,rfl,by omega,by simpa using B,q.set _ (by omega) (by omega),?_,by omega,by omega,?_⟩,by simp; omega⟩
   .simp only [S,cond_true,C8 rfl h,C8 rfl f,Ad,E,D,L,A,Ib j (show (0:Int)<1000000000 by decide),I5 j (show s<=_ by omega) (show (0:Int)<1000000000 by decide),x,U,E7 rfl]
   .rw [List.drop_set_of_lt (by omega),<-List.drop_drop,g,List.drop_replicate]; congr 1
   .rw [Ju _ f,b,Es _ h,Int.pow_succ]
    have:=Int.mul_ediv_add_emod s 1000000000
    grind
  .have y:k=a.length:=by omega
   subst y
   refine .inr ⟨(c,o),by simp,B,q,by rw [g]; simp,z,hc,by rwa [List.take_length] at I⟩
 .rintro ⟨c,o⟩ ⟨h2,h3,g,R,N,M⟩
  have f:a.length<o.length:=by omega
  have x:B1 c=c:=Er (by omega) (by omega)
  have b:o[a.length]=0:=by
   have:=congrArg List.head? g
   rw [List.head?_drop,Ci f] at this
   exact Option.some.inj this
  refine ⟨o.set a.length c,by simp only [C8 rfl f,Ad,x,E7 rfl],by simpa using h2,h3.set _ R N,?_⟩
  rw [Ju _ f,b,<-M]; grind
end Go.Ab
namespace Go.Ab
open Go
theorem Nd {α:Type} {l:List α} {off n:Nat} {i:Int} {k:Nat} (b:i=k) (hk:k<n) (h:off+k<l.length):Hm l off n i=some l[off+k]:=by
 subst b
 have h1:(0:Int)<=(k:Int):=by omega
 have h2:(k:Int)<(n:Int):=by omega
 simp [Hm,hk,h]
theorem Arc {P j k tb hb V U q g B:Int} (i:0<P) (u:V=j+P*tb) (l:0<=j) (x:U=k+P*hb) (s:k<P) (hq:q*V<=U) (c:0<=g) (h:hb<g*tb) (b:0<=tb):q<g:=by
 rcases Int.lt_or_le q g with h' | h'
 .exact h'
 .exfalso
  have f:0<=V:=by
   have:=Int.mul_nonneg (Int.le_of_lt i) b
   omega
  have h1:g*V<=q*V:=Int.mul_le_mul_of_nonneg_right h' f
  have h2:g*(P*tb)<=g*V:=Int.mul_le_mul_of_nonneg_left (by omega) c
  have h3:P*(hb+1)<=P*(g*tb):=Int.mul_le_mul_of_nonneg_left (by omega) (Int.le_of_lt i)
  have z:g*(P*tb)=P*(g*tb):=by grind
  have y:P*(hb+1)=P*hb+P:=by grind
  omega
theorem Aic {P j k tb hb V U q g:Int} (i:0<P) (y:V=j+P*tb) (s:j<P) (z:U=k+P*hb) (u:0<=k) (hq:U<(q+1)*V) (l:0<=g) (hgt:g<=tb+1) (h:g*tb<=hb) (b:0<V):g<=q+1:=by
 rcases Int.lt_or_le (q+1) g with h' | h'
 .exfalso
  have f:0<=g-1:=by
   rcases Int.lt_or_le g 1 with h2 | h2
   .have:g=0:=by omega
    subst this
    have c:q+1<0:=h'
    have:(q+1)*V<0:=Int.mul_neg_of_neg_of_pos c b
    have h0:0<=hb:=by simpa using h
    have:=Int.mul_nonneg (Int.le_of_lt i) h0
    omega
   .omega
  have h1:(q+1)*V<=(g-1)*V:=Int.mul_le_mul_of_nonneg_right (by omega) (Int.le_of_lt b)
  have x:P*(tb+1)=P*tb+P:=by grind
  have h2:(g-1)*V<=(g-1)*(P*(tb+1)):=Int.mul_le_mul_of_nonneg_left (by omega) f
  have h3:(g-1)*(P*(tb+1))=P*(g*tb+(g-tb-1)):=by grind
  have A:P*(g*tb+(g-tb-1))<=P*hb:=Int.mul_le_mul_of_nonneg_left (by omega) (Int.le_of_lt i)
  omega
 .exact h'
theorem Ard {A C:Type} {X:Option (A×C)} {Q:A->C->Prop} (h:∃r,X=some r/\Q r.1 r.2):∃q o,X=some (q,o)/\Q q o:=by
 obtain ⟨⟨a,c⟩,h1,h2⟩:=h
 exact ⟨a,c,h1,h2⟩
theorem al1 {g t r h:Int} (k:g*t+r=h):(g-1)*t+(r+t)=h:=by grind
theorem al2 {o P s x b p d:Int} (e:s-1000000000*d=x-b-p):o+P*(s-x)-P*1000000000*d=(o-P*b)-P*p:=by grind
theorem al3 (b X K g A y:Int):b-X*(g*A)-X*K*(g*y)=b-X*(g*(A+K*y)):=by grind
theorem al4 {u X W N c U b g V:Int} (h:u+X*(W+N*c-U)-X*N*b=u-X*(g*V)):X*(U-g*V)=X*(W+N*(c-b)):=by grind
theorem al5 (u X q:Int):u-X*q-u=X*(-q):=by grind
theorem al6 {o P x b r:Int} (h:o-P*b=r):o+P*(x-b-x)=r:=by grind
theorem al7 {b X K c s x y o A:Int} (g:x+y+c=s) (f:1000000000*(s / 1000000000)+s % 1000000000=s) (h:b+X*K*c=o+X*A):b+X*K*(s % 1000000000-x)+X*K*1000000000*(s / 1000000000)=o+X*(A+K*y):=by grind
theorem al8 {o X N b u q V W f U c:Int} (h1:o-X*N*b=u-X*((q+1)*V)) (h2:u+X*(W+N*f-U)+X*N*c=o+X*V):X*(U-q*V)=X*(W+N*(f-b+c)):=by grind
theorem al9 {g P c o X V b u q f:Int} (h1:g+P*c=o+X*V) (h2:o-P*b=u-X*((q+1)*V)) (h3:f=b-c):g+P*(0-f)=u-X*(q*V):=by grind
theorem gtb {g t r h x:Int} (k:g*t+r=h):g*(t*1000000000+x)=(h-r)*1000000000+g*x:=by subst k; grind
theorem Ab5 {k:Nat} {x y:Int} (h:(1000000000:Int) ^ k*x=1000000000 ^ k*y):x=y:=Int.eq_of_mul_eq_mul_left (by have:=Ie k; omega) h
theorem Aid {o u:List Int} {off:Nat} (b:off<=o.length) (hu:off<=u.length) (h:o.take off=u.take off):Ah o-Ah u=1000000000 ^ off*(Ah (o.drop off)-Ah (u.drop off)):=by
 rw [La o off b,La u off hu,h]; grind
theorem Xy {l:List Int} (h:Bn l) (k:Nat):0<=Ah (l.drop k):=Fh (h.drop k).u32
theorem Are {D:List Int} (b:Bn D) {n:Nat} (h2:2<=n) (i:n<D.length) (g:Ah D<1000000000 ^ (n+1)) :
  Ah D=Ah (D.take (n-2))+1000000000 ^ (n-2)*((D[n]*1000000000+D[n-1])*1000000000+D[n-2]):=by
 have e:=La D (n+1) i
 have h0:Ah (D.drop (n+1))=0:=by
  have s:=Xy b (n+1)
  have ht:=Fh ((b.take (n+1)).u32)
  rcases Int.lt_or_le 0 (Ah (D.drop (n+1))) with h | h
  .have:(1000000000:Int) ^ (n+1)*1<=1000000000 ^ (n+1)*Ah (D.drop (n+1)):=Int.mul_le_mul_of_nonneg_left h (Int.le_of_lt (Ie _))
   omega
  .omega
 rw [h0,Int.mul_zero,Int.add_zero] at e
 obtain ⟨t,rfl⟩:∃t,n=t+2:=⟨n-2,by omega⟩
 have q:=Es D (k:=t) (by omega)
 have l:=Es D (k:=t+1) (by omega)
 have j:=Es D (k:=t+2) (by omega)
 have f:(1000000000:Int) ^ (t+1)=1000000000 ^ t*1000000000:=Int.pow_succ ..
 have c:(1000000000:Int) ^ (t+2)=1000000000 ^ (t+1)*1000000000:=Int.pow_succ ..
 have i1:t+2-2=t:=rfl
 have i2:t+2-1=t+1:=rfl
 simp only [i1,i2]
 rw [e,j,l,q,c,f]
 grind
theorem Arf {v:List Int} {n:Nat} (h2:2<=n) (g:v.length=n) :
  Ah v=Ah (v.take (n-2))+1000000000 ^ (n-2)*(v[n-1]*1000000000+v[n-2]):=by
 obtain ⟨t,rfl⟩:∃t,n=t+2:=⟨n-2,by omega⟩
 have f:=Es v (k:=t) (by omega)
 have b:=Es v (k:=t+1) (by omega)
 have e:v.take (t+1+1)=v:=List.take_of_length_le (by omega)
 rw [e] at b
 have c:(1000000000:Int) ^ (t+1)=1000000000 ^ t*1000000000:=Int.pow_succ ..
 have i1:t+2-2=t:=rfl
 have i2:t+2-1=t+1:=rfl
 simp only [i1,i2]
 rw [b,f,c]
 grind
set_option maxHeartbeats 1000000 in
theorem Arg (v u:List Int) (off n:Nat) (hv:Bn v) (hu:Bn u) (hn:v.length=n) (h2:2<=n) (bx:n<1099511627776) (bn:500000000<=v[n-1]) (X:off+n<u.length) (hT:Ah (u.drop off)<Ah v*1000000000) :
  ∃q o,Tv off (n+1) v u=some (q,o)/\o.length=u.length/\Bn o/\0<=q/\q<1000000000/\Ah o=Ah u-1000000000 ^ off*(q*Ah v)/\0<=Ah (o.drop off)/\Ah (o.drop off)<Ah v:=by
 have b7:=Hu hv
 rw [hn] at b7
 have c2:(u.drop off).length=u.length-off:=List.length_drop
 have A:=hu.drop off
 have bm:=Fh A.u32
 have b9:Ah (u.drop off)<1000000000 ^ (n+1):=by rw [Int.pow_succ]; omega
 have ab:=Are A h2 (by omega) b9
 have ao:=Arf h2 hn
 have gd:∀i (h:i<(u.drop off).length),(u.drop off)[i]=u[off+i]'(by omega):=fun i h=>List.getElem_drop
 rw [gd,gd,gd] at ab
 have bq:=hu.get (i:=off+n) (by omega)
 have bt:=hu.get (i:=off+(n-1)) (by omega)
 have br:=hu.get (i:=off+(n-2)) (by omega)
 have bu:=hv.get (i:=n-1) (by omega)
 have ad:=hv.get (i:=n-2) (by omega)
 have hP:=Ie (n-2)
 have b8:=Fh ((hv.take (n-2)).u32)
 have aa:=Hu (hv.take (n-2))
 rw [List.length_take,Nat.min_eq_left (by omega)] at aa
 have bb:=Fh ((A.take (n-2)).u32)
 have ba:=Hu (A.take (n-2))
 rw [List.length_take,Nat.min_eq_left (by omega)] at ba
 have y:0<Ah v:=by
  have:(1000000000:Int) ^ (n-2)*1<=1000000000 ^ (n-2)*(v[n-1]*1000000000+v[n-2]):=Int.mul_le_mul_of_nonneg_left (by omega) (Int.le_of_lt hP)
  omega
 generalize hq:Ah (u.drop off) / Ah v=q
 have bh:q*Ah v<=Ah (u.drop off):=by rw [<-hq]; exact Int.ediv_mul_le _ (by omega)
 have ar:Ah (u.drop off)<(q+1)*Ah v:=by
  rw [<-hq]
  have:=Int.lt_ediv_add_one_mul_self (Ah (u.drop off)) y
  exact this
 have ag:0<=q:=by rw [<-hq]; exact Int.ediv_nonneg bm (by omega)
 have bf:q<1000000000:=by rw [<-hq]; exact Int.ediv_lt_of_lt_mul y (by rw [Int.mul_comm]; exact hT)
 have l:(0:Int)<v[n-1]:=by omega
 generalize ak:u[off+n]*1000000000+u[off+(n-1)]=head at ab
 have am:0<=head:=by omega
 have c0:head<=v[n-1]*1000000000+v[n-2]:=by
  rcases Int.lt_or_le (v[n-1]*1000000000+v[n-2]) head with h | h
  .exfalso
   have a1:(1000000000:Int) ^ (n-2)*((v[n-1]*1000000000+v[n-2]+1)*1000000000)<=1000000000 ^ (n-2)*(head*1000000000+u[off+(n-2)]):=Int.mul_le_mul_of_nonneg_left (by omega) (Int.le_of_lt hP)
   have a2:Ah v*1000000000<(1000000000 ^ (n-2)*(v[n-1]*1000000000+v[n-2]+1))*1000000000:=by
    have:(1000000000:Int) ^ (n-2)*(v[n-1]*1000000000+v[n-2]+1)=1000000000 ^ (n-2)*(v[n-1]*1000000000+v[n-2])+1000000000 ^ (n-2):=by grind
    omega
   have a3:((1000000000:Int) ^ (n-2)*(v[n-1]*1000000000+v[n-2]+1))*1000000000=1000000000 ^ (n-2)*((v[n-1]*1000000000+v[n-2]+1)*1000000000):=by grind
   omega
  .exact h
 have c1:0<=head / v[n-1]:=Int.ediv_nonneg am (by omega)
 have bk:head / v[n-1]<=1000000001:=by
  have:head / v[n-1]<1000000002:=Int.ediv_lt_of_lt_mul l (by omega)
  omega
 have be:=Int.emod_nonneg head (by omega:v[n-1]≠0)
 have bv:=Int.emod_lt_of_pos head l
 have bl:=Int.mul_ediv_add_emod head v[n-1]
 unfold Tv
 have w1:Ac ((v.length:Int)-1)=((n-1:Nat):Int):=by rw [Ac,Bu] <;> omega
 have w2:Ac ((v.length:Int)-2)=((n-2:Nat):Int):=by rw [Ac,Bu] <;> omega
 have w3:(v.length:Int)=((n:Nat):Int):=by omega
 have x1:Au u[off+n]=u[off+n]:=Cp (by omega) (by omega)
 have x2:Au (u[off+n]*1000000000)=u[off+n]*1000000000:=Cp (by omega) (by omega)
 have x3:Au u[off+(n-1)]=u[off+(n-1)]:=Cp (by omega) (by omega)
 have x4:Au (u[off+n]*1000000000+u[off+(n-1)])=head:=by rw [Au,Cp (by omega) (by omega),ak]
 have x5:Au v[n-1]=v[n-1]:=Cp (by omega) (by omega)
 have x6:Au v[n-2]=v[n-2]:=Cp (by omega) (by omega)
 have x7:Au u[off+(n-2)]=u[off+(n-2)]:=Cp (by omega) (by omega)
 rw [w1,w2,C8 rfl (by omega:n-1<v.length),Ad,C8 rfl (by omega:n-2<v.length),Ad,w3,Nd rfl (by omega:n<n+1) (by omega),Ad,Nd rfl (by omega:n-1<n+1) (by omega),Ad,x1,x2,x3,x4,x5,x6,I5 am (by omega) l,Ad,Ib am l,Ad]
 refine Ard (D6 (fun (g,rest)=>g*v[n-1]+rest=head/\0<=rest/\rest<2000000000/\q<=g/\g<=1000000001) (fun (g,_)=>g.toNat) (fun g=>q<=g/\g<=q+1/\g<=1000000000)
  ⟨by rw [Int.mul_comm]; exact bl,be,by omega,?_,bk⟩ ?_ ?_)
 .
  rcases Int.lt_or_le (head / v[n-1]) q with h | h
  .exfalso
   have a1:(head / v[n-1]+1)*v[n-1]<=q*v[n-1]:=Int.mul_le_mul_of_nonneg_right (by omega) (by omega)
   have a2:head<(head / v[n-1]+1)*v[n-1]:=Int.lt_ediv_add_one_mul_self head l
   have a3:q*(1000000000 ^ (n-2)*(v[n-1]*1000000000+v[n-2]))<=q*Ah v:=Int.mul_le_mul_of_nonneg_left (by omega) ag
   have a4:(1000000000:Int) ^ (n-2)*((head+1)*1000000000)<=1000000000 ^ (n-2)*(q*(v[n-1]*1000000000+v[n-2])):=by
    apply Int.mul_le_mul_of_nonneg_left _ (Int.le_of_lt hP)
    have b1:(head+1)*1000000000<=q*v[n-1]*1000000000:=by omega
    have b2:0<=q*v[n-2]:=Int.mul_nonneg ag ad.1
    have b3:q*(v[n-1]*1000000000+v[n-2])=q*v[n-1]*1000000000+q*v[n-2]:=by grind
    omega
   have a5:q*((1000000000:Int) ^ (n-2)*(v[n-1]*1000000000+v[n-2]))=1000000000 ^ (n-2)*(q*(v[n-1]*1000000000+v[n-2])):=by grind
   have a6:(1000000000:Int) ^ (n-2)*((head+1)*1000000000)=1000000000 ^ (n-2)*(head*1000000000)+1000000000 ^ (n-2)*1000000000:=by grind
   have a7:(1000000000:Int) ^ (n-2)*(head*1000000000+u[off+(n-2)])=1000000000 ^ (n-2)*(head*1000000000)+1000000000 ^ (n-2)*u[off+(n-2)]:=by grind
   have a8:(1000000000:Int) ^ (n-2)*(u[off+(n-2)]+1)<=1000000000 ^ (n-2)*1000000000:=Int.mul_le_mul_of_nonneg_left (by omega) (Int.le_of_lt hP)
   have a9:(1000000000:Int) ^ (n-2)*(u[off+(n-2)]+1)=1000000000 ^ (n-2)*u[off+(n-2)]+1000000000 ^ (n-2):=by grind
   omega
  .exact h
 .rintro ⟨g,rest⟩ ⟨k1,k2,k3,k4,k5⟩
  have S:0<=g:=by omega
  have w4:Au (v[n-1])=v[n-1]:=x5
  have af:∀(hgt:q<g),(some (Sum.inl ((Au (g-1)),(Au (rest+v[n-1])))):Option ((Int×Int)⊕Int))=some (.inl (g-1,rest+v[n-1])):=by
   intro hgt
   rw [show Au (g-1)=g-1 from Cp (by omega) (by omega),show Au (rest+v[n-1])=rest+v[n-1] from Cp (by omega) (by omega)]
  have stay:∀(hr:rest<1000000000) (hgt:q<g),(g-1)*v[n-1]+(rest+v[n-1])=head/\0<=rest+v[n-1]/\rest+v[n-1]<2000000000/\q<=g-1/\g-1<=1000000001:=by
   intro hr hgt
   exact ⟨al1 k1,by omega,by omega,by omega,by omega⟩
  by_cases hr:rest<1000000000
  .by_cases Y:g>=1000000000
   .refine .inl ⟨(g-1,rest+v[n-1]),?_,stay hr (by omega),by simp; omega⟩
    simp only [Ao hr,cond_true,Ao Y,Ad]
    exact af (by omega)
   .have bp:=Xx S (by omega) ad.1 ad.2
    have y1:Au (g*v[n-2])=g*v[n-2]:=Cp (by omega) (by omega)
    have y2:Au (rest*1000000000)=rest*1000000000:=Cp (by omega) (by omega)
    have y3:Au (rest*1000000000+u[off+(n-2)])=rest*1000000000+u[off+(n-2)]:=Cp (by omega) (by omega)
    have az:g*(v[n-1]*1000000000+v[n-2])=(head-rest)*1000000000+g*v[n-2]:=gtb k1
    simp only [Ao hr,cond_true,Av Y,cond_false,Nd rfl (by omega:n-2<n+1) (by omega:off+(n-2)<u.length),Ad,y1,x7,y2,y3]
    by_cases ae:g*v[n-2]>rest*1000000000+u[off+(n-2)]
    .have hgt:q<g:=Arc (P:=1000000000 ^ (n-2)) (tb:=v[n-1]*1000000000+v[n-2]) (hb:=head*1000000000+u[off+(n-2)]) (B:=0) hP ao b8 ab ba bh S (by omega) (by omega)
     refine .inl ⟨(g-1,rest+v[n-1]),?_,stay hr hgt,by simp; omega⟩
     rw [Ao ae,cond_true]
     exact af hgt
    .refine .inr ⟨g,by rw [Av ae,cond_false],k4,?_,by omega⟩
     exact Aic (P:=1000000000 ^ (n-2)) (tb:=v[n-1]*1000000000+v[n-2]) (hb:=head*1000000000+u[off+(n-2)]) hP ao aa ab bb ar S (by omega) (by omega) y
  .refine .inr ⟨g,by simp only [Av hr,cond_false,Ad],k4,?_⟩
   have Y:g<=1000000000:=by
    rcases Int.lt_or_le 1000000000 g with h | h
    .exfalso
     have:g=1000000001:=by omega
     subst this
     omega
    .exact h
   refine ⟨?_,Y⟩
   have az:g*(v[n-1]*1000000000+v[n-2])=(head-rest)*1000000000+g*v[n-2]:=gtb k1
   have bo:g*v[n-2]<=1000000000*v[n-2]:=Int.mul_le_mul_of_nonneg_right Y ad.1
   exact Aic (P:=1000000000 ^ (n-2)) (tb:=v[n-1]*1000000000+v[n-2]) (hb:=head*1000000000+u[off+(n-2)]) hP ao aa ab bb ar S (by omega) (by omega) y
 .rintro g ⟨k1,k2,k3⟩
  have S:0<=g:=by omega
  refine D6 (fun (b,i,o)=>∃k:Nat,i=k/\k<=n/\o.length=u.length/\Bn o/\o.take off=u.take off/\o.drop (off+k)=u.drop (off+k)/\0<=b/\b<=1000000001/\Ah o-1000000000 ^ (off+k)*b=Ah u-1000000000 ^ off*(g*Ah (v.take k)))
   (fun (_,i,_)=>n-i.toNat) (fun (b,o)=>o.length=u.length/\Bn o/\o.take off=u.take off/\o.drop (off+n)=u.drop (off+n)/\0<=b/\b<=1000000001/\Ah o-1000000000 ^ (off+n)*b=Ah u-1000000000 ^ off*(g*Ah v))
   ⟨0,rfl,by omega,rfl,hu,rfl,rfl,by omega,by omega,by simp [Ah]⟩ ?_ ?_
  .rintro ⟨b,i,o⟩ ⟨k,rfl,hk,ho,I,M,L,b6,b5,f⟩
   rcases Nat.lt_or_ge k n with h | h
   .have E:off+k<o.length:=by omega
    have J:k<v.length:=by omega
    have hx:=I.get E
    have hy:=hv.get J
    have e4:=I8 h (by omega)
    have e5:decide ((k:Int)<(n:Int))=true:=Ao (by omega)
    have av:0<=g*v[k]:=Int.mul_nonneg S hy.1
    have bw:g*v[k]<=1000000000*v[k]:=Int.mul_le_mul_of_nonneg_right k3 hy.1
    have y1:Au v[k]=v[k]:=Cp (by omega) (by omega)
    have y2:Au (g*v[k])=g*v[k]:=Cp (by omega) (by omega)
    have y3:Ac o[off+k]=o[off+k]:=Bu (by omega) (by omega)
    generalize au:g*v[k]=p at *
    have y4:Ac (o[off+k]-b)=o[off+k]-b:=Bu (by omega) (by omega)
    have y5:Ac (p % 1000000000)=p % 1000000000:=Bu (by omega) (by omega)
    have y6:Ac (o[off+k]-b-p % 1000000000)=o[off+k]-b-p % 1000000000:=Bu (by omega) (by omega)
    have y7:Ac (p / 1000000000)=p / 1000000000:=Bu (by omega) (by omega)
    simp only [e5,cond_true,Nd rfl (by omega:k<n+1) E,C8 rfl J,Ad,y1,y2,au,y3,y4,Ib av (show (0:Int)<1000000000 by decide),I5 av (show p<=_ by omega) (show (0:Int)<1000000000 by decide),y5,y6,y7]
    refine .inl (O2 (D6 (fun (b',s)=>∃t:Nat,b'=p / 1000000000+t/\s=o[off+k]-b-p % 1000000000+t*1000000000/\s<1000000000/\t<=3) (fun (_,s)=>(-s).toNat)
     (fun (b',s)=>∃t:Nat,b'=p / 1000000000+t/\s=o[off+k]-b-p % 1000000000+t*1000000000/\s<1000000000/\0<=s/\t<=2) ⟨0,by simp,by simp,by omega,by omega⟩ ?_ ?_))
    .rintro ⟨b',s⟩ ⟨t,rfl,hs,ac,ht⟩
     by_cases G:s<0
     .refine .inl ⟨(p / 1000000000+(t+1:Nat),s+1000000000),?_,⟨t+1,rfl,by rw [hs]; simp; omega,by omega,by omega⟩,by simp; omega⟩
      rw [Ao G,cond_true,show Ac (p / 1000000000+(t:Int)+1)=p / 1000000000+((t+1:Nat):Int) by rw [Ac,Bu] <;> omega,show Ac (s+1000000000)=s+1000000000 from Bu (by omega) (by omega)]
     .exact .inr ⟨(p / 1000000000+t,s),by rw [Av G,cond_false],t,rfl,hs,ac,by omega,by omega⟩
    .rintro ⟨b',s⟩ ⟨t,rfl,hs,ac,G,ht⟩
     have y8:B1 s=s:=Er (by omega) (by omega)
     refine ⟨.inl (p / 1000000000+t,((k+1:Nat):Int),o.set (off+k) s),by simp only [Nd rfl (by omega:k<n+1) E,Ad,y8,e4]; rw [E7 (n:=off+k) (by omega)],_,rfl,⟨k+1,rfl,by omega,by simpa using ho,I.set _ G ac,?_,?_,by omega,by omega,?_⟩,by simp; omega⟩
     .rw [List.take_set_of_le (by omega)]; exact M
     .rw [List.drop_set_of_lt (by omega),show off+(k+1)=(off+k)+1 by omega,<-List.drop_drop,L,List.drop_drop]
     .rw [Ju _ E,Es v J,show off+(k+1)=(off+k)+1 by omega,Int.pow_succ]
      have ay:=Int.mul_ediv_add_emod p 1000000000
      have pa:(1000000000:Int) ^ (off+k)=1000000000 ^ off*1000000000 ^ k:=Int.pow_add ..
      have eA:s-1000000000*(p / 1000000000+(t:Int))=o[off+k]-b-p:=by rw [hs]; omega
      rw [al2 eA,f,<-au,pa]
      exact al3 _ _ _ _ _ _
   .have aj:k=n:=by omega
    subst aj
    refine .inr ⟨(b,o),by simp,ho,I,M,L,b6,b5,?_⟩
    rw [List.take_of_length_le (by omega)] at f
    exact f
  .rintro ⟨b,o⟩ ⟨ho,I,M,L,b6,b5,f⟩
   have hV:=y
   have ah:off+n<o.length:=by omega
   have ax:o[off+n]=u[off+n]:=by
    have:=congrArg List.head? L
    rw [List.head?_drop,List.head?_drop,Ci ah,Ci X] at this
    exact Option.some.inj this
   have hE:Ah (u.drop (off+n))=u[off+n]:=by
    have a1:=La (u.drop off) (n+1) (by omega)
    have a2:=Fh (((hu.drop off).take (n+1)).u32)
    have a3:=Xy (hu.drop off) (n+1)
    have a4:Ah ((u.drop off).drop (n+1))=0:=by
     rcases Int.lt_or_le 0 (Ah ((u.drop off).drop (n+1))) with h | h
     .have:(1000000000:Int) ^ (n+1)*1<=1000000000 ^ (n+1)*Ah ((u.drop off).drop (n+1)):=Int.mul_le_mul_of_nonneg_left h (Int.le_of_lt (Ie _))
      omega
     .omega
    rw [List.drop_eq_getElem_cons X]
    simp only [Ah]
    rw [List.drop_drop,show off+(n+1)=off+n+1 by omega] at a4
    rw [a4]; omega
   have main:∀o':List Int,o'.length=u.length->Bn o'->o'.take off=u.take off->o'.drop (off+n)=u.drop (off+n)->0<=Ah ((o'.drop off).take n)/\Ah ((o'.drop off).take n)<1000000000 ^ n /\
     Ah o'=Ah u+1000000000 ^ off*(Ah ((o'.drop off).take n)+1000000000 ^ n*u[off+n]-Ah (u.drop off)):=by
    intro o' l1 l2 l3 l4
    have a1:=La (o'.drop off) n (by rw [List.length_drop]; omega)
    rw [List.drop_drop,l4,hE] at a1
    have a2:=Aid (by omega) (by omega) l3
    refine ⟨Fh (((l2.drop off).take n).u32),?_,by rw [<-a1]; omega⟩
    have:=Hu ((l2.drop off).take n)
    rw [List.length_take,List.length_drop,Nat.min_eq_left (by omega)] at this
    exact this
   obtain ⟨m1,m2,m3⟩:=main o ho I M L
   have pa:(1000000000:Int) ^ (off+n)=1000000000 ^ off*1000000000 ^ n:=Int.pow_add ..
   have star:Ah (u.drop off)-g*Ah v=Ah ((o.drop off).take n)+1000000000 ^ n*(u[off+n]-b):=by
    apply Ab5 (k:=off)
    rw [m3,pa] at f
    exact al4 f
   have y1:Ac u[off+n]=u[off+n]:=Bu (by omega) (by omega)
   have y2:Ac (u[off+n]-b)=u[off+n]-b:=Bu (by omega) (by omega)
   have ap:=Ie n
   have fin:∀(U:List Int) (x:Int) (j:List Int),U=j.set (off+n) x->j.length=u.length->Bn j->0<=x->x<1000000000->j.take off=u.take off->Ah U=Ah u-1000000000 ^ off*(q*Ah v) ->
     U.length=u.length/\Bn U/\0<=q/\q<1000000000/\Ah U=Ah u-1000000000 ^ off*(q*Ah v)/\0<=Ah (U.drop off)/\Ah (U.drop off)<Ah v:=by
    intro U x j e l1 l2 x0 x1 l3 aq
    have L4:U.length=u.length:=by rw [e]; simpa using l1
    have T4:U.take off=u.take off:=by rw [e,List.take_set_of_le (by omega)]; exact l3
    have hp:=Aid (by omega) (by omega) T4
    have hd:Ah (U.drop off)=Ah (u.drop off)-q*Ah v:=by
     have:Ah (U.drop off)-Ah (u.drop off) = - (q*Ah v):=by
      apply Ab5 (k:=off)
      rw [<-hp,aq]; exact al5 _ _ _
     omega
    have bg:(q+1)*Ah v=q*Ah v+Ah v:=by grind
    exact ⟨L4,by rw [e]; exact l2.set _ x0 x1,ag,bf,aq,by omega,by omega⟩
   simp only [Nd rfl (by omega:n<n+1) ah,ax,Ad,y1,y2]
   by_cases z:u[off+n]-b>=0
   .have bz:g*Ah v<=Ah (u.drop off):=by
     have:=Int.mul_nonneg (Int.le_of_lt ap) z
     omega
    have R:g=q:=by
     rcases Int.lt_or_le q g with h | h
     .exfalso
      have:(q+1)*Ah v<=g*Ah v:=Int.mul_le_mul_of_nonneg_right (by omega) (by omega)
      omega
     .omega
    have y3:B1 (u[off+n]-b)=u[off+n]-b:=Er (by omega) (by omega)
    have y4:B1 g=g:=Er (by omega) (by omega)
    rw [Ao z,cond_true,y3,y4,E7 (n:=off+n) (by omega)]
    refine ⟨_,rfl,?_⟩
    rw [R]
    refine fin _ (u[off+n]-b) o rfl ho I z (by omega) M ?_
    rw [Ju _ ah,ax]
    rw [R] at f
    exact al6 f
   .have R:g=q+1:=by
     have h1:1000000000 ^ n*(u[off+n]-b)<=1000000000 ^ n*(-1):=Int.mul_le_mul_of_nonneg_left (by omega) (Int.le_of_lt ap)
     rcases Int.lt_or_le q g with h | h
     .omega
     .exfalso
      have:g*Ah v<=q*Ah v:=Int.mul_le_mul_of_nonneg_right h (by omega)
      omega
    rw [Av z,cond_false]
    refine D6 (fun (c,i,j)=>∃k:Nat,i=k/\k<=n/\j.length=u.length/\Bn j/\j.take off=u.take off/\j.drop (off+k)=o.drop (off+k)/\0<=c/\c<=1/\Ah j+1000000000 ^ (off+k)*c=Ah o+1000000000 ^ off*Ah (v.take k))
     (fun (_,i,_)=>n-i.toNat) (fun (c,j)=>j.length=u.length/\Bn j/\j.take off=u.take off/\j.drop (off+n)=o.drop (off+n)/\0<=c/\c<=1/\Ah j+1000000000 ^ (off+n)*c=Ah o+1000000000 ^ off*Ah v)
     ⟨0,rfl,by omega,ho,I,M,rfl,by omega,by omega,by simp [Ah]⟩ ?_ ?_
    .rintro ⟨c,i,j⟩ ⟨k,rfl,hk,h3,N,V,Z,b4,b0,D⟩
     rcases Nat.lt_or_ge k n with h | h
     .have E:off+k<j.length:=by omega
      have J:k<v.length:=by omega
      have hx:=N.get E
      have hy:=hv.get J
      have e4:=I8 h (by omega)
      have e5:decide ((k:Int)<(n:Int))=true:=Ao (by omega)
      have z1:B1 (j[off+k]+v[k])=j[off+k]+v[k]:=Er (by omega) (by omega)
      have z2:B1 (j[off+k]+v[k]+c)=j[off+k]+v[k]+c:=Er (by omega) (by omega)
      generalize hs:j[off+k]+v[k]+c=s at z2
      have G:0<=s:=by omega
      have ac:s<2000000000:=by omega
      refine .inl ⟨(s / 1000000000,((k+1:Nat):Int),j.set (off+k) (s % 1000000000)),?_,⟨k+1,rfl,by omega,by simpa using h3,N.set _ (by omega) (by omega),?_,?_,by omega,by omega,?_⟩,by simp; omega⟩
      .simp only [e5,cond_true,Nd rfl (by omega:k<n+1) E,C8 rfl J,Ad,z1,hs,z2,Abx G (show s<=_ by omega) (show (0:Int)<1000000000 by decide),Ib G (show (0:Int)<1000000000 by decide),e4]
       rw [E7 (n:=off+k) (by omega)]
      .rw [List.take_set_of_le (by omega)]; exact V
      .rw [List.drop_set_of_lt (by omega),show off+(k+1)=(off+k)+1 by omega,<-List.drop_drop,Z,List.drop_drop]
      .rw [Ju _ E,Es v J,show off+(k+1)=(off+k)+1 by omega,Int.pow_succ]
       have ay:=Int.mul_ediv_add_emod s 1000000000
       have pk:(1000000000:Int) ^ (off+k)=1000000000 ^ off*1000000000 ^ k:=Int.pow_add ..
       rw [pk] at D ⊢
       exact al7 hs ay D
     .have aj:k=n:=by omega
      subst aj
      refine .inr ⟨(c,j),by simp,h3,N,V,Z,b4,b0,?_⟩
      rw [List.take_of_length_le (by omega)] at D
      exact D
    .rintro ⟨c,j⟩ ⟨h3,N,V,Z,b4,b0,D⟩
     have ai:off+n<j.length:=by omega
     obtain ⟨r1,r2,r3⟩:=main j h3 N V (Z.trans L)
     have bi:j[off+n]=u[off+n]:=by
      have:=congrArg List.head? (Z.trans L)
      rw [List.head?_drop,List.head?_drop,Ci ai,Ci X] at this
      exact Option.some.inj this
     have bd:Ah (u.drop off)-q*Ah v=Ah ((j.drop off).take n)+1000000000 ^ n*(u[off+n]-b+c):=by
      apply Ab5 (k:=off)
      rw [r3,pa] at D
      rw [R] at f
      rw [pa] at f
      exact al8 f D
     have bj:u[off+n]-b+c=0:=by
      have bg:(q+1)*Ah v=q*Ah v+Ah v:=by grind
      rcases Int.lt_or_le (u[off+n]-b+c) 0 with h | h
      .exfalso
       have h1:1000000000 ^ n*(u[off+n]-b+c)<=1000000000 ^ n*(-1):=Int.mul_le_mul_of_nonneg_left (by omega) (Int.le_of_lt ap)
       omega
      .omega
     have y5:Ac c=c:=Bu (by omega) (by omega)
     have y6:Ac (u[off+n]-b+c)=0:=by rw [bj]; rfl
     have y7:B1 (0:Int)=0:=rfl
     have y8:Au (g-1)=q:=by rw [R,Au,Cp (by omega) (by omega)]; omega
     have y9:B1 q=q:=Er (by omega) (by omega)
     simp only [Nd rfl (by omega:n<n+1) ai,Ad,y5,y6,y7,y8,y9]
     rw [E7 (n:=off+n) (by omega)]
     refine ⟨_,rfl,?_⟩
     refine fin _ 0 j rfl h3 N (by omega) (by omega) V ?_
     rw [Ju _ ai,bi]
     rw [R] at f
     exact al9 D f (by omega)
end Go.Ab
namespace Go.Ab
open Go
theorem Arh (a:List Int) (m:Int):Abo a m=Qz a m:=rfl
theorem Ari {t d r:Int} (ht:1<=t) (b:t<1000000000) (hd:d*(t+1)+r=1000000000) (g:0<=r) (c:r<=t):500000000<=d*t:=by
 have f:0<=d:=by
  rcases Int.lt_or_le d 0 with h | h
  .exfalso
   have:d*(t+1)<=(-1)*(t+1):=Int.mul_le_mul_of_nonneg_right (by omega) (by omega)
   omega
  .exact h
 have e:d*(t+1)=d*t+d:=by grind
 rcases Int.lt_or_le t 2 with h | h
 .have:t=1:=by omega
  subst this
  omega
 .rcases Int.lt_or_le d 2 with h2 | h2
  .have:d=0\/d=1:=by omega
   rcases this with rfl | rfl <;> omega
  .have h3:2*(t-1)<=d*(t-1):=Int.mul_le_mul_of_nonneg_right h2 (by omega)
   have i:d*(t-1)=d*t-d:=by grind
   omega
theorem bl1 (P t d:Int):P*t*d=P*(d*t):=by grind
theorem bl2 {u o X q V K Q S:Int} (h:o=u-X*(q*V)) (b:u+V*(X*1000000000)*Q=S):o+V*X*(q+1000000000*Q)=S:=by grind
set_option maxHeartbeats 1000000 in
theorem Ab6 (m n:Nat) (hm:Ba m<274877906944) (hn:Ba n<274877906944) (G:n≠0):Oo (Ae m) (Ae n)=some (Ae (m / n),Ae (m % n)):=by
 unfold Oo
 rw [Ra m n (by omega) (by omega),Ad]
 unfold Ba at hm hn
 by_cases g:m<n
 .rw [show Ee m n = -1 by rw [Ee,if_pos g],Ao (by decide:(-1:Int)<0),cond_true,Dp (by simp; omega),Ad,Nat.div_eq_of_lt g,Nat.mod_eq_of_lt g,Et]; rfl
 .rw [Av (show ¬Ee m n<0 by rw [Ee,if_neg g]; split <;> decide),cond_false]
  have bd:(Ae n).length<=(Ae m).length:=G5 (by omega)
  have b0:(Ae n).length≠0:=fun e=>Gw G (List.length_eq_zero_iff.1 e)
  by_cases h1:(Ae n).length=1
  .rw [Fu (by omega:((Ae n).length:Int)=1),cond_true]
   have a6:n<1000000000:=by
    have:=Lb n
    rw [show Ba n=1 from h1] at this
    simpa using this
   have am:Ae n = [(n:Int)]:=by
    rw [Ko G,Nat.div_eq_of_lt a6,Et,Nat.mod_eq_of_lt a6]
   rw [am,show Af [(n:Int)] 0=some (n:Int) from rfl,Ad,show Au (n:Int)=n from Cp (by omega) (by omega),Ab4 m n (by unfold Ba; omega) (by omega) (by omega),Ad]
   have az:m % n<n:=Nat.mod_lt _ (by omega)
   rw [Nc (m % n) (by omega),Ad]
  .rw [C2 (by omega:((Ae n).length:Int)≠1),cond_false]
   generalize hL:(Ae n).length=L at *
   generalize hA:(Ae m).length=A at *
   have w1:Ac ((L:Int)-1)=((L-1:Nat):Int):=by rw [Ac,Bu] <;> omega
   have hi:L-1<(Ae n).length:=by omega
   have ht:=(Dx n).get hi
   have ax:(Ae n)[L-1]≠0:=by
    have:=(Xr n).2 (Gw G)
    rw [List.getLast_eq_getElem] at this
    simpa [hL] using this
   generalize y:(Ae n)[L-1]=t at *
   have w2:Au t=t:=Cp (by omega) (by omega)
   have w3:Au (t+1)=t+1:=Cp (by omega) (by omega)
   rw [w1,C8 rfl hi,y,Ad,w2,w3,I5 (by decide) (by decide) (by omega),Ad]
   have U:=Int.mul_ediv_add_emod 1000000000 (t+1)
   have ah:=Int.emod_nonneg 1000000000 (by omega:t+1≠0)
   have b9:=Int.emod_lt_of_pos 1000000000 (by omega:0<t+1)
   have aq:1<=1000000000 / (t+1):=by
    rcases Int.lt_or_le (1000000000 / (t+1)) 1 with h | h
    .exfalso
     have:(t+1)*(1000000000 / (t+1))<=(t+1)*0:=Int.mul_le_mul_of_nonneg_left (by omega) (by omega)
     omega
    .exact h
   have ap:1000000000 / (t+1)<=500000000:=by
    have:=Int.ediv_lt_of_lt_mul (a:=1000000000) (b:=500000001) (c:=t+1) (by omega) (by omega)
    omega
   obtain ⟨d,hd⟩:∃d:Nat,1000000000 / (t+1)=(d:Int):=⟨(1000000000 / (t+1)).toNat,by omega⟩
   rw [hd] at U aq ap ⊢
   obtain ⟨u,ag,E,S,R⟩:=Aib (Ae m) d (Dx m) (by omega) (by omega)
   obtain ⟨v0,af,ae,D,b7⟩:=Aib (Ae n) d (Dx n) (by omega) (by omega)
   rw [ag,Ad,Arh,af,Ad,D7] at *
   rw [hL] at ae
   rw [hA] at E
   rw [Xp rfl (by omega:L<=v0.length),Ad]
   have x:=Ie (L-1)
   have pL:(1000000000:Int) ^ L=1000000000 ^ (L-1)*1000000000:=by rw [<-Int.pow_succ]; congr 1; omega
   have Y:=Es (Ae n) hi
   rw [List.take_of_length_le (by omega),D7,y] at Y
   have ay:=Fh (((Dx n).take (L-1)).u32)
   have Z:=Hu ((Dx n).take (L-1))
   rw [List.length_take,hL,Nat.min_eq_left (by omega)] at Z
   have bb:(n:Int)*d<1000000000 ^ L:=by
    have a1:(n:Int)*d<(1000000000 ^ (L-1)*(t+1))*d:=Int.mul_lt_mul_of_pos_right (by
     have:(1000000000:Int) ^ (L-1)*(t+1)=1000000000 ^ (L-1)*t+1000000000 ^ (L-1):=by grind
     omega) (by omega)
    have a2:(1000000000 ^ (L-1)*(t+1))*(d:Int)=1000000000 ^ (L-1)*((t+1)*d):=by grind
    have a3:(1000000000:Int) ^ (L-1)*((t+1)*d)<=1000000000 ^ (L-1)*1000000000:=Int.mul_le_mul_of_nonneg_left (by omega) (Int.le_of_lt x)
    omega
   have M:Ah (v0.take L)=(n:Int)*d:=by
    have e:=La v0 L (by omega)
    have z:Ah (v0.drop L)=0:=by
     have a1:=Xy D L
     have a2:=Fh ((D.take L).u32)
     rcases Int.lt_or_le 0 (Ah (v0.drop L)) with h | h
     .have:(1000000000:Int) ^ L*1<=1000000000 ^ L*Ah (v0.drop L):=Int.mul_le_mul_of_nonneg_left h (Int.le_of_lt (Ie _))
      omega
     .omega
    rw [z] at e; omega
   have I:(v0.take L).length=L:=by rw [List.length_take]; omega
   have f:=D.take L
   have J:L-1<(v0.take L).length:=by omega
   have ak:500000000<=(d:Int)*t:=Ari (r:=1000000000 % (t+1)) (by omega) (by omega) (by rw [Int.mul_comm]; exact U) ah (by omega)
   have l:500000000<=(v0.take L)[L-1]:=by
    have e:=Es (v0.take L) J
    rw [List.take_of_length_le (by omega),M] at e
    have b1:=Hu (f.take (L-1))
    rw [List.length_take,I,Nat.min_eq_left (by omega)] at b1
    have b2:(1000000000:Int) ^ (L-1)*t*d<=n*d:=Int.mul_le_mul_of_nonneg_right (by omega) (by omega)
    have b3:(1000000000:Int) ^ (L-1)*500000000<=1000000000 ^ (L-1)*(d*t):=Int.mul_le_mul_of_nonneg_left ak (Int.le_of_lt x)
    rw [bl1] at b2
    rcases Int.lt_or_le (v0.take L)[L-1] 500000000 with h | h
    .exfalso
     have b4:(1000000000:Int) ^ (L-1)*((v0.take L)[L-1]+1)<=1000000000 ^ (L-1)*500000000:=Int.mul_le_mul_of_nonneg_left (by omega) (Int.le_of_lt x)
     have b5:(1000000000:Int) ^ (L-1)*((v0.take L)[L-1]+1)=1000000000 ^ (L-1)*(v0.take L)[L-1]+1000000000 ^ (L-1):=by grind
     omega
    .exact h
   generalize b6:v0.take L=v at *
   have w4:Ac ((A:Int)-(L:Int))=((A-L:Nat):Int):=by rw [Ac,Bu] <;> omega
   have w5:Ac (((A-L:Nat):Int)+1)=((A-L+1:Nat):Int):=by rw [Ac,Bu] <;> omega
   rw [w4,w5,Ht rfl rfl (Nat.le_refl _) (by omega) (by omega),Ad,E]
   have b8:=Fh S.u32
   have ar:(0:Int)<(n:Int)*d:=Int.mul_pos (by omega) (by omega)
   refine Gp (fun (i,w,q)=>∃k:Nat,i=(k:Int)-1/\k<=A-L+1/\w.length=A+1/\Bn w/\q.length=A-L+1/\Bn q/\Ah w<Ah v*1000000000 ^ k/\Ah w+Ah v*1000000000 ^ k*Ah (q.drop k)=(m:Int)*d)
    (fun (i,_,_)=>(i+1).toNat) (fun (w,q)=>w.length=A+1/\Bn w/\q.length=A-L+1/\Bn q/\Ah w<Ah v/\Ah w+Ah v*Ah q=(m:Int)*d)
    ⟨A-L+1,by omega,Nat.le_refl _,E,S,by simp,Bn.replicate _,?_,by rw [List.drop_of_length_le (by simp)]; simp [Ah,R]⟩ ?_ ?_
   .
    have aj:(m:Int)<1000000000 ^ A:=by
     have:=Hu (Dx m)
     rwa [D7,hA] at this
    have a1:(m:Int)*d<1000000000 ^ A*500000000:=by
     have c1:(m:Int)*d<=m*500000000:=Int.mul_le_mul_of_nonneg_left (by omega) (by omega)
     have c2:(m:Int)*500000000<1000000000 ^ A*500000000:=Int.mul_lt_mul_of_pos_right aj (by decide)
     omega
    have a2:(1000000000:Int) ^ (L-1)*500000000<=Ah v:=by
     have e:=Es v J
     rw [List.take_of_length_le (by omega)] at e
     have b1:=Fh ((f.take (L-1)).u32)
     have b3:(1000000000:Int) ^ (L-1)*500000000<=1000000000 ^ (L-1)*v[L-1]:=Int.mul_le_mul_of_nonneg_left l (Int.le_of_lt x)
     omega
    have a3:(1000000000:Int) ^ (L-1)*500000000*1000000000 ^ (A-L+1)<=Ah v*1000000000 ^ (A-L+1):=Int.mul_le_mul_of_nonneg_right a2 (Int.le_of_lt (Ie _))
    have a4:(1000000000:Int) ^ (L-1)*500000000*1000000000 ^ (A-L+1)=1000000000 ^ A*500000000:=by
     have:(1000000000:Int) ^ A=1000000000 ^ (L-1)*1000000000 ^ (A-L+1):=by rw [<-Int.pow_add]; congr 1; omega
     rw [this]; grind
    rw [R]; omega
   .rintro ⟨i,w,q⟩ ⟨k,rfl,hk,ac,B,X,V,a7,s⟩
    cases k with
    | zero=>exact .inr ⟨(w,q),by simp,ac,B,X,V,by simpa using a7,by simpa using s⟩
    | succ j=>
     have e0:((j+1:Nat):Int)-1=(j:Int):=by omega
     have e1:decide ((j:Int)>=0)=true:=Ao (by omega)
     have w6:Ac ((j:Int)+(L:Int))=((j+L:Nat):Int):=by rw [Ac,Bu] <;> omega
     have w7:Ac (((j+L:Nat):Int)+1)=((j+L+1:Nat):Int):=by rw [Ac,Bu] <;> omega
     have sA:Si (A+1) (j:Int) ((j+L+1:Nat):Int)=some (j,j+L+1):=by
      have c1:(0:Int)<=(j:Int):=by omega
      have c2:(j:Int)<=((j+L+1:Nat):Int):=by omega
      have c3:((j+L+1:Nat):Int)<=((A+1:Nat):Int):=by omega
      have c4:(j:Int)=0\/(j:Int)<((j+L+1:Nat):Int):=by omega
      rw [Si,if_pos ⟨c1,c2,c3,c4⟩]; rfl
     have au:Ah (w.drop j)<Ah v*1000000000:=by
      have s1:=La w j (by omega)
      have s2:=Fh ((B.take j).u32)
      rcases Int.lt_or_le (Ah (w.drop j)) (Ah v*1000000000) with h | h
      .exact h
      .exfalso
       have:(1000000000:Int) ^ j*(Ah v*1000000000)<=1000000000 ^ j*Ah (w.drop j):=Int.mul_le_mul_of_nonneg_left h (Int.le_of_lt (Ie _))
       have e:Ah v*(1000000000:Int) ^ (j+1)=1000000000 ^ j*(Ah v*1000000000):=by rw [Int.pow_succ]; grind
       omega
     obtain ⟨qd,o,r1,r2,r3,r4,r5,r6,r7,r8⟩:=Arg v w j L f B I (by omega) (by omega) l (by omega) au
     have a8:j<q.length:=by omega
     have w8:Ac ((j:Int)-1)=(j:Int)-1:=by rw [Ac,Bu] <;> omega
     have lG:Fg (A+1) o=some ():=by rw [Fg,if_pos (by omega)]
     refine .inl ⟨((j:Int)-1,o,q.set j qd),?_,⟨j,rfl,by omega,by omega,r3,by simpa using X,V.set _ r4 r5,?_,?_⟩,by simp⟩
     .simp only [e0,e1,cond_true,w6,w7,sA,Ad,Nat.zero_add,show j+L+1-j=L+1 by omega,r1,lG,C8 rfl a8,w8,E7 rfl]
     .have s1:=La o j (by omega)
      have s2:=Hu (r3.take j)
      rw [List.length_take,Nat.min_eq_left (by omega)] at s2
      have:(1000000000:Int) ^ j*(Ah (o.drop j)+1)<=1000000000 ^ j*Ah v:=Int.mul_le_mul_of_nonneg_left (by omega) (Int.le_of_lt (Ie _))
      have e:(1000000000:Int) ^ j*(Ah (o.drop j)+1)=1000000000 ^ j*Ah (o.drop j)+1000000000 ^ j:=by grind
      rw [Int.mul_comm (Ah v)]; omega
     .have d1:(q.set j qd).drop j=qd::q.drop (j+1):=by
       rw [List.drop_eq_getElem_cons (by simpa using a8),List.drop_set_of_lt (by omega)]; simp
      rw [d1]
      simp only [Ah]
      rw [Int.pow_succ] at s
      exact bl2 (K:=0) r6 s
   .rintro ⟨w,q⟩ ⟨h2,h3,h4,h5,h6,h7⟩
    rw [M] at h6 h7
    have ad:=Fh h3.u32
    have ba:=Fh h5.u32
    have N:=(Int.ediv_emod_unique ar (r:=Ah w) (q:=Ah q) (a:=(m:Int)*d)).2 ⟨by rw [<-h7],ad,h6⟩
    have ao:(m*d) / (n*d)=m / n:=Nat.mul_div_mul_right m n (by omega)
    have ai:(m*d) % (n*d)=(m % n)*d:=Nat.mul_mod_mul_right d m n
    have av:Ah q=((m / n:Nat):Int):=by
     rw [<-N.1,<-ao]; simp
    have aa:Ah w=(((m % n)*d:Nat):Int):=by
     rw [<-N.2,<-ai]; simp
    have ab:Ba ((m % n)*d)<1099511627776:=by
     have g:=Hu h3
     have:Ba ((m % n)*d)<=A+1:=by
      apply I7
      rw [h2,aa] at g
      have e:((1000000000 ^ (A+1):Nat):Int)=1000000000 ^ (A+1):=by rw [Int.natCast_pow]; rfl
      omega
     omega
    dsimp only
    rw [Na w (by omega),Ad,I6 h3 aa,Ab4 _ d ab (by omega) (by omega),Ad,Na q (by omega),Ad,I6 h5 av,Nat.mul_div_cancel _ (by omega)]
end Go.Ab
namespace Go.Ab
open Go
theorem Aie {n:Nat} (h:Ba n<=2):n<1000000000000000000:=by
 have h1:=Lb n
 have h2:1000000000 ^ Ba n<=1000000000 ^ 2:=Nat.pow_le_pow_right (by decide) h
 omega
theorem Aif (n:Nat) (h:Ba n<=2):Qy (Ae n)=some ((n:Int),true):=by
 unfold Qy
 unfold Ba at h
 have ha:=Dx n
 refine Gp (fun (w,i)=>∃k:Nat,i=k/\k<=(Ae n).length/\w=Ah ((Ae n).drop ((Ae n).length-k))) (fun (_,i)=>(Ae n).length-i.toNat)
  (fun e=>match e with | .inl _=>False | .inr w=>w=n) ⟨0,rfl,by omega,by simp [Ah]⟩ ?_ ?_
 .rintro ⟨w,i⟩ ⟨k,rfl,hk,rfl⟩
  rcases Nat.lt_or_ge k (Ae n).length with c | hge
  .have B:decide ((k:Int)<((Ae n).length:Int))=true:=Ao (by omega)
   have x:Ac (((Ae n).length:Int)-1)=((Ae n).length:Int)-1:=by rw [Ac,Bu] <;> omega
   have u:Ac (((Ae n).length:Int)-1-(k:Int))=(((Ae n).length-1-k:Nat):Int):=by rw [Ac,Bu] <;> omega
   have f:(Ae n).length-1-k<(Ae n).length:=by omega
   have hx:=ha.get f
   have z:=Xy ha ((Ae n).length-k)
   have b:=Hu (ha.drop ((Ae n).length-k))
   rw [List.length_drop,show (Ae n).length-((Ae n).length-k)=k by omega] at b
   have y:(1000000000:Int) ^ k<=1000000000:=by
    have:k=0\/k=1:=by omega
    rcases this with rfl | rfl <;> decide
   have s:Au (Ae n)[(Ae n).length-1-k]=(Ae n)[(Ae n).length-1-k]:=Cp (by omega) (by omega)
   have q:Au (18446744073709551615-(Ae n)[(Ae n).length-1-k])=18446744073709551615-(Ae n)[(Ae n).length-1-k]:=Cp (by omega) (by omega)
   have l:Au (Ah ((Ae n).drop ((Ae n).length-k))*1000000000)=Ah ((Ae n).drop ((Ae n).length-k))*1000000000:=Cp (by omega) (by omega)
   have j:Au (Ah ((Ae n).drop ((Ae n).length-k))*1000000000+(Ae n)[(Ae n).length-1-k])=Ah ((Ae n).drop ((Ae n).length-k))*1000000000+(Ae n)[(Ae n).length-1-k]:=Cp (by omega) (by omega)
   have A:=I8 c (by omega)
   have hc:¬Ah ((Ae n).drop ((Ae n).length-k))>(18446744073709551615-(Ae n)[(Ae n).length-1-k]) / 1000000000:=by omega
   refine .inl ⟨(Ah ((Ae n).drop ((Ae n).length-k))*1000000000+(Ae n)[(Ae n).length-1-k],((k+1:Nat):Int)),?_,⟨k+1,rfl,by omega,?_⟩,by simp; omega⟩
   .simp only [B,cond_true,x,u,C8 rfl f,Ad,s,q,I5 (show 0<=18446744073709551615-(Ae n)[(Ae n).length-1-k] by omega) (show 18446744073709551615-(Ae n)[(Ae n).length-1-k]<=_ by omega) (show (0:Int)<1000000000 by decide),Av hc,cond_false,l,j,A]
   .have hd:(Ae n).drop ((Ae n).length-(k+1))=(Ae n)[(Ae n).length-1-k]::(Ae n).drop ((Ae n).length-k):=by
     rw [show (Ae n).length-(k+1)=(Ae n).length-1-k by omega,List.drop_eq_getElem_cons f]
     congr 2; omega
    rw [hd]; simp only [Ah]; omega
  .have:k=(Ae n).length:=by omega
   subst this
   refine .inr ⟨.inr _,by simp; rfl,?_⟩
   exact D7 n
 .rintro (e | e) g
  .exact g.elim
  .simp only at g ⊢; rw [g]
theorem Arj (m n:Nat) (A:Ba m<274877906944) (z:Ba n<274877906944):Tt (Ae m) (Ae n)=some (Ae (Nat.gcd m n)):=by
 unfold Tt
 refine Gp (fun (a,b)=>∃x y:Nat,a=Ae x/\b=Ae y/\Ba x<274877906944/\Ba y<274877906944/\Nat.gcd x y=Nat.gcd m n) (fun (_,b)=>(Ah b).toNat)
  (fun e=>match e with | .inl r=>r=Ae (Nat.gcd m n) | .inr r=>r=Ae (Nat.gcd m n)) ⟨m,n,rfl,rfl,A,z,rfl⟩ ?_ ?_
 .rintro ⟨a,b⟩ ⟨x,y,rfl,rfl,hx,hy,k⟩
  by_cases c:y=0
  .subst c
   refine .inr ⟨.inr (Ae x),by rw [Et]; rfl,?_⟩
   show Ae x=_
   rw [<-k,Nat.gcd_zero_right]
  .have B:(Ae y).length≠0:=fun e=>Gw c (List.length_eq_zero_iff.1 e)
   have l:decide (((Ae y).length:Int)>0)=true:=Ao (by omega)
   by_cases h2:Ba x<=2/\Ba y<=2
   .have i:=Aie h2.1
    have h:=Aie h2.2
    unfold Ba at h2
    simp only [l,cond_true,Ao (by omega:((Ae x).length:Int)<=2),Ao (by omega:((Ae y).length:Int)<=2),Ad,Aif x h2.1,Aif y h2.2]
    refine .inr (Aq5 (D6 (fun (p,q)=>∃u v:Nat,p=u/\q=v/\u<1000000000000000000/\v<1000000000000000000/\Nat.gcd u v=Nat.gcd m n) (fun (_,q)=>q.toNat) (fun (p,q)=>p=((Nat.gcd m n:Nat):Int)/\Nat.gcd m n<1000000000000000000)
     ⟨x,y,rfl,rfl,i,h,k⟩ ?_ ?_))
    .rintro ⟨p,q⟩ ⟨u,v,rfl,rfl,hu,s,f⟩
     by_cases j:v=0
     .subst j
      refine .inr ⟨((u:Int),(0:Int)),rfl,?_⟩
      rw [Nat.gcd_zero_right] at f
      exact ⟨by rw [f],by omega⟩
     .refine .inl ⟨((v:Int),((u % v:Nat):Int)),?_,⟨v,u % v,rfl,rfl,s,by have:=Nat.mod_lt u (by omega:v>0); omega,?_⟩,?_⟩
      .simp only [Ao (by omega:(v:Int)>0),cond_true,Ib (by omega:(0:Int)<=u) (by omega:(0:Int)<v),Ad]; rfl
      .rw [<-f,Nat.gcd_comm v,<-Nat.gcd_rec,Nat.gcd_comm]
      .have:=Nat.mod_lt u (by omega:v>0); simp only [Int.toNat_natCast]; exact this
    .rintro ⟨p,q⟩ ⟨rfl,D⟩
     dsimp only
     rw [Nc _ (by omega)]
     exact ⟨_,rfl,_,rfl,rfl⟩
   .refine .inl ⟨(Ae y,Ae (x % y)),?_,⟨y,x % y,rfl,rfl,hy,by have:=G5 (Nat.mod_le x y); omega,?_⟩,?_⟩
    .have:(bif (decide (((Ae x).length:Int)<=(2:Int))) then some (decide (((Ae y).length:Int)<=(2:Int))) else some false)=some false:=by
      unfold Ba at h2
      by_cases hc:(Ae x).length<=2
      .rw [Ao (by omega:((Ae x).length:Int)<=2),cond_true,Av (by omega:¬((Ae y).length:Int)<=2)]
      .rw [Av (by omega:¬((Ae x).length:Int)<=2),cond_false]
     simp only [l,cond_true]
     rw [this,Ad,cond_false,Ab6 x y hx hy c,Ad]
    .rw [<-k,Nat.gcd_comm y,<-Nat.gcd_rec,Nat.gcd_comm]
    .simp only [D7]
     have:=Nat.mod_lt x (by omega:y>0)
     omega
 .rintro (e | e) g
  .simp only at g ⊢; rw [g]
  .simp only at g ⊢; rw [g]
theorem Rb:Ae 1 = [1]:=by rw [Ko (by decide),show 1 / 1000000000=0 by decide,Et]; rfl
theorem Ab7 (n:Nat):On (Ae n)=some (decide (n=1)):=by
 unfold On
 by_cases h0:n=0
 .subst h0; rw [Et]; rfl
 .rw [Ko h0]
  by_cases h1:n / 1000000000=0
  .rw [h1,Et]
   have e:Af [((n % 1000000000:Nat):Int)] 0=some ((n % 1000000000:Nat):Int):=rfl
   simp only [List.length_singleton,e,Ad]
   have:(((1:Nat):Int)==(1:Int))=true:=rfl
   rw [this,cond_true]
   congr 1
   by_cases b:n=1
   .subst b; rfl
   .rw [C2 (by omega),Av b]
  .have c:(Ae (n / 1000000000)).length≠0:=fun e=>Gw h1 (List.length_eq_zero_iff.1 e)
   rw [C2 (by simp; omega),cond_false,Av (by omega)]
def Bg (b:Bool) (n d:Nat):Ak:=if n=0 then ⟨false,[],[1]⟩ else ⟨b,Ae (n / Nat.gcd n d),Ae (d / Nat.gcd n d)⟩
theorem O3 (b:Bool) (n d:Nat) (h:Ba n<274877906944) (hd:Ba d<274877906944):Lx ⟨b,Ae n,Ae d⟩=some (Bg b n d):=by
 unfold Lx W1
 dsimp only
 by_cases h0:n=0
 .subst h0; rw [Et]; rfl
 .have i:(Ae n).length≠0:=fun e=>Gw h0 (List.length_eq_zero_iff.1 e)
  rw [C2 (by omega),cond_false,Ab7,Ad,Bg,if_neg h0]
  by_cases h1:d=1
  .subst h1
   rw [Ao rfl,cond_true]
   simp
  .rw [Av h1,cond_false,Arj n d h hd,Ad,Ab7,Ad]
   by_cases g:Nat.gcd n d=1
   .rw [Ao g,cond_true,g]; simp
   .have f:Nat.gcd n d≠0:=by
     have:=Nat.gcd_pos_of_pos_left d (by omega:0<n); omega
    have c:Ba (Nat.gcd n d)<274877906944:=by
     have:=G5 (Nat.gcd_le_left d (by omega:0<n)); omega
    rw [Av g,cond_false,Ab6 n _ h c f,Ad,Ab6 d _ hd c f,Ad]; rfl
def nv (a:Ak):Nat:=if (Ah a.Num).toNat=0\/(Ah a.Den).toNat=0 then 0 else (Ah a.Num).toNat
def dv (a:Ak):Nat:=if (Ah a.Num).toNat=0\/(Ah a.Den).toNat=0 then 1 else (Ah a.Den).toNat
def sv (a:Ak):Bool:=if (Ah a.Num).toNat=0\/(Ah a.Den).toNat=0 then false else a.Neg
structure RB (k:Nat) (a:Ak):Prop where
 num:Kn a.Num
 den:Kn a.Den
 nl:a.Num.length<=k
 dl:a.Den.length<=k
theorem Ark {l:List Int} (h:Kn l):Ah l<=5*1000000000 ^ l.length-5:=by
 induction l with
 | nil=>simp [Ah]
 | cons d l ih=>
  have h1:=h d (by simp)
  have h2:=ih (fun x hx=>h x (by simp [hx]))
  simp only [Ah,List.length_cons]
  rw [Int.pow_succ]
  omega
theorem Arl {l:List Int} (h:Kn l):Ah l<1000000000 ^ (l.length+1):=by
 have h1:=Ark h
 have hp:=Ie l.length
 rw [Int.pow_succ]
 omega
theorem Xz {l:List Int} (h:Kn l):Ba (Ah l).toNat<=l.length+1:=by
 apply I7
 have h1:=Arl h
 have h2:=Fh h
 have e:((1000000000 ^ (l.length+1):Nat):Int)=1000000000 ^ (l.length+1):=by rw [Int.natCast_pow]; rfl
 omega
theorem RB.mono {j k:Nat} {a:Ak} (h:RB j a) (hk:j<=k):RB k a:=⟨h.num,h.den,by have:=h.nl; omega,by have:=h.dl; omega⟩
theorem Lc:Ba 1=1:=by unfold Ba; rw [Rb]; rfl
theorem RB.nv {k:Nat} {a:Ak} (h:RB k a):Ba (nv a)<=k+1:=by
 unfold Ab.nv
 split
 .simp [Q9]
 .have:=Xz h.num; have:=h.nl; omega
theorem RB.dv {k:Nat} {a:Ak} (h:RB k a):Ba (dv a)<=k+1:=by
 unfold Ab.dv
 split
 .simp [Lc]
 .have:=Xz h.den; have:=h.dl; omega
theorem D8 (a:Ak):dv a≠0:=by
 unfold dv; split
 .decide
 .omega
theorem Re (a:Ak) (k:Nat) (h:RB k a) (hk:k<274877906900):Jt a=some ⟨sv a,Ae (nv a),Ae (dv a)⟩:=by
 unfold Jt
 have h1:=h.nl
 have h2:=h.dl
 rw [Ah8 _ h.num (by omega),Ad,Ah8 _ h.den (by omega),Ad]
 unfold nv dv sv
 generalize (Ah a.Num).toNat=x
 generalize (Ah a.Den).toNat=y
 by_cases hx:x=0
 .subst hx
  simp only [Et,true_or,if_true,Rb]; rfl
 .have c:(Ae x).length≠0:=fun e=>Gw hx (List.length_eq_zero_iff.1 e)
  by_cases hy:y=0
  .subst hy
   simp only [Et,or_true,if_true,Rb,C2 (by omega:((Ae x).length:Int)≠0),cond_false]; rfl
  .have b:(Ae y).length≠0:=fun e=>Gw hy (List.length_eq_zero_iff.1 e)
   simp only [hx,hy,or_self,if_false,C2 (by omega:((Ae x).length:Int)≠0),cond_false,C2 (by omega:((Ae y).length:Int)≠0),Ad]
end Go.Ab
namespace Go.Ab
open Go
theorem X0 (a:Ak) (k:Nat) (h:RB k a) (hk:k<274877906900):Iy a=some (Bg (sv a) (nv a) (dv a)):=by
 unfold Iy
 have h1:=h.nv
 have h2:=h.dv
 rw [Re a k h hk,Ad,O3 _ _ _ (by omega) (by omega)]; rfl
def G6 (s:Bool) (n:Nat):Int:=if n=0 then 0 else if s then -1 else 1
theorem Arm (s:Bool) (n:Nat) (d:List Int):Of ⟨s,Ae n,d⟩=some (G6 s n):=by
 unfold Of G6
 dsimp only
 by_cases h:n=0
 .subst h; rw [Et]; rfl
 .have b:(Ae n).length≠0:=fun e=>Gw h (List.length_eq_zero_iff.1 e)
  rw [C2 (by omega),cond_false,if_neg h]
  cases s <;> rfl
theorem Ab8 (a:Ak) (k:Nat) (h:RB k a) (hk:k<274877906900):Gl a=some (G6 (sv a) (nv a)):=by
 unfold Gl
 rw [Re a k h hk,Ad,Arm]; rfl
theorem Ab9 (z:Int) (h1 : -9223372036854775808<=z) (h2:z<=9223372036854775807):Ob z=some (Ae z.natAbs):=by
 unfold Ob
 by_cases h:z<0
 .have e:Au z=z+18446744073709551616:=by
   have:IntKind.u64.wrap z=z % 18446744073709551616:=by simp [IntKind.wrap,IntKind.bits,IntKind.signed]
   rw [Au,this]; omega
  have b:Au (0-(z+18446744073709551616))=((z.natAbs:Nat):Int):=by
   have:IntKind.u64.wrap (0-(z+18446744073709551616))=(0-(z+18446744073709551616)) % 18446744073709551616:=by simp [IntKind.wrap,IntKind.bits,IntKind.signed]
   rw [Au,this]; omega
  rw [Ao h,cond_true,e,b,Nc _ (by omega)]; rfl
 .have b:Au z=((z.natAbs:Nat):Int):=by rw [Au,Cp (by omega) (by omega)]; omega
  rw [Av h,cond_false,b,Nc _ (by omega)]; rfl
theorem T9 (z:Int) (h1 : -9223372036854775808<=z) (h2:z<=9223372036854775807):Eo z=some (Bg (decide (z<0)) z.natAbs 1):=by
 unfold Eo
 have:=Nb (n:=z.natAbs) (by omega)
 rw [Ab9 z h1 h2,Ad,<-Rb,O3 _ _ _ (by omega) (by rw [Lc]; decide)]; rfl
theorem Arn (x y:Int) (h1 : -9223372036854775808<=x) (h2:x<=9223372036854775807) (h3 : -9223372036854775808<=y) (b:y<=9223372036854775807) (hy:y≠0):Oc x y=some (Bg (decide (x<0) != decide (y<0)) x.natAbs y.natAbs):=by
 unfold Oc
 have a1:=Nb (n:=x.natAbs) (by omega)
 have a2:=Nb (n:=y.natAbs) (by omega)
 rw [C2 hy,cond_false,Ab9 x h1 h2,Ad,Ab9 y h3 b,Ad,O3 _ _ _ (by omega) (by omega)]; rfl
theorem Aca (a b:Ak) (j k:Nat) (ha:RB j a) (hb:RB k b) (c:j<68719476736) (hk:k<68719476736):Gk a b=some (Bg (sv a != sv b) (nv a*nv b) (dv a*dv b)):=by
 unfold Gk
 have h1:=ha.nv
 have h2:=ha.dv
 have h3:=hb.nv
 have h:=hb.dv
 have g:=F9 (nv a) (nv b)
 have f:=F9 (dv a) (dv b)
 rw [Re a j ha (by omega),Ad,Re b k hb (by omega),Ad]
 dsimp only
 rw [T8 _ _ (by omega) (by omega),Ad,T8 _ _ (by omega) (by omega),Ad,O3 _ _ _ (by omega) (by omega)]; rfl
def Kp (b:Bool) (g i:Nat) (c:Bool) (f h:Nat):Bool:=if b=c then b else if f*i<=g*h then b else c
def I9 (i:Bool) (c g:Nat) (h:Bool) (b f:Nat):Nat:=if i=h then c*f+b*g else if b*g<=c*f then c*f-b*g else b*g-c*f
theorem Acb (a b:Ak) (j k:Nat) (ha:RB j a) (hb:RB k b) (g:j<68719476736) (hk:k<68719476736) :
  Iz a b=some (Bg (Kp (sv a) (nv a) (dv a) (sv b) (nv b) (dv b)) (I9 (sv a) (nv a) (dv a) (sv b) (nv b) (dv b)) (dv a*dv b)):=by
 unfold Iz Ws
 have h1:=ha.nv
 have h2:=ha.dv
 have h3:=hb.nv
 have u:=hb.dv
 have s:=F9 (nv a) (dv b)
 have q:=F9 (nv b) (dv a)
 have l:=F9 (dv a) (dv b)
 have i:=Abz (nv a*dv b) (nv b*dv a)
 have h:=G5 (Nat.sub_le (nv a*dv b) (nv b*dv a))
 have f:=G5 (Nat.sub_le (nv b*dv a) (nv a*dv b))
 rw [Re a j ha (by omega),Ad,Re b k hb (by omega),Ad]
 dsimp only
 rw [T8 _ _ (by omega) (by omega),Ad,T8 _ _ (by omega) (by omega),Ad,T8 _ _ (by omega) (by omega),Ad]
 by_cases c:sv a=sv b
 .have e:(sv a==sv b)=true:=by rw [c]; exact beq_self_eq_true _
  rw [e,cond_true,Arb _ _ (by omega) (by omega),Ad,Ad,O3 _ _ _ (by omega) (by omega),Kp,I9,if_pos c,if_pos c]; rfl
 .have e:(sv a==sv b)=false:=by simpa using c
  rw [e,cond_false,Ra _ _ (by omega) (by omega),Ad,Kp,I9,if_neg c,if_neg c]
  by_cases hc:nv b*dv a<=nv a*dv b
  .rw [Ao (show Ee (nv a*dv b) (nv b*dv a)>=0 by rw [Ee,if_neg (by omega)]; split <;> decide),cond_true,Aia _ _ (by omega) hc,Ad,Ad,O3 _ _ _ (by omega) (by omega),if_pos hc,if_pos hc]; rfl
  .rw [Av (show ¬Ee (nv a*dv b) (nv b*dv a)>=0 by rw [Ee,if_pos (by omega)]; decide),cond_false,Aia _ _ (by omega) (by omega),Ad,Ad,O3 _ _ _ (by omega) (by omega),if_neg hc,if_neg hc]; rfl
theorem Ua (s:Bool) (d:Nat):Bg s 0 d=⟨false,[],[1]⟩:=by simp [Bg]
theorem Kq (s:Bool) (n d k:Nat) (b:Ba n<=k) (hd:Ba d<=k) (hk:1<=k):RB k (Bg s n d):=by
 unfold Bg
 split
 .refine ⟨(fun _ h=>by cases h),(fun x h=>?_),by simp,by simpa using hk⟩
  simp at h; subst h; decide
 .have h1:=Ab0 n (Nat.gcd n d)
  have h2:=Ab0 d (Nat.gcd n d)
  unfold Ba at *
  exact ⟨(Dx _).u32,(Dx _).u32,by simp only; omega,by simp only; omega⟩
theorem X1 (s:Bool) (n d:Nat) (hd:d≠0):nv (Bg s n d)=n / Nat.gcd n d/\dv (Bg s n d)=d / Nat.gcd n d/\(n≠0->sv (Bg s n d)=s)/\(n=0->sv (Bg s n d)=false):=by
 by_cases h0:n=0
 .subst h0
  rw [Ua]
  have c:d / Nat.gcd 0 d=1:=by rw [Nat.gcd_zero_left]; exact Nat.div_self (by omega)
  refine ⟨by simp [nv,Ah],?_,fun h=>(h rfl).elim,fun _=>by simp [sv,Ah]⟩
  rw [c]; simp [dv,Ah]
 .have f:0<Nat.gcd n d:=Nat.gcd_pos_of_pos_left d (by omega)
  have h1:n / Nat.gcd n d≠0:=by
   have:=Nat.div_pos (Nat.gcd_le_left d (by omega:0<n)) f; omega
  have h2:d / Nat.gcd n d≠0:=by
   have:=Nat.div_pos (Nat.gcd_le_right n (by omega:0<d)) f; omega
  have e:Bg s n d=⟨s,Ae (n / Nat.gcd n d),Ae (d / Nat.gcd n d)⟩:=by simp [Bg,h0]
  have b:(Ah (Ae (n / Nat.gcd n d))).toNat=n / Nat.gcd n d:=by rw [D7]; rfl
  have v2:(Ah (Ae (d / Nat.gcd n d))).toNat=d / Nat.gcd n d:=by rw [D7]; rfl
  rw [e]
  have hc:¬(n / Nat.gcd n d=0\/d / Nat.gcd n d=0):=by omega
  refine ⟨?_,?_,fun _=>?_,fun h=>(h0 h).elim⟩
  .simp only [nv,b,v2,if_neg hc]
  .simp only [dv,b,v2,if_neg hc]
  .simp only [sv,b,v2,if_neg hc]
theorem L0 (s:Bool) (n d k:Nat) (hk:k≠0):Bg s (k*n) (k*d)=Bg s n d:=by
 unfold Bg
 by_cases h:n=0
 .subst h; simp
 .have h1:k*n≠0:=Nat.mul_ne_zero hk h
  rw [if_neg h1,if_neg h,Nat.gcd_mul_left,Nat.mul_div_mul_left _ _ (by omega),Nat.mul_div_mul_left _ _ (by omega)]
theorem Aig {s t:Bool} {n d:Nat} (h:n≠0->s=t):Bg s n d=Bg t n d:=by
 unfold Bg
 by_cases h0:n=0
 .simp [h0]
 .rw [h h0]
end Go.Ab
namespace Go.Ab
open Go
theorem Aih (l:List Int):H7 l=(H8 l).bind fun v=>B4 4 [] v:=by
 unfold H7 H8
 generalize Al _ _=x
 cases x with
 | none=>rfl
 | some v=>
  simp only [Ad]
  cases D0 l 0 v with
  | none=>rfl
  | some y=>
   simp only [Ad]
   cases B4 4 [] y <;> rfl
theorem Aro (l:List Int):(Fw l).length<=l.length:=by
 induction l with
 | nil=>simp [Fw]
 | cons d l ih=>
  simp only [Fw]
  cases ht:Fw l with
  | nil=>simp only []; split <;> simp
  | cons x m=>rw [ht] at ih; simpa using ih
theorem O4 (l:List Int) (b:l.length<2199023255552):H7 l=some (Fw l):=by
 have:=Aro l
 rw [Aih,Na l (by omega),Ad,Dp (by simp; omega)]; rfl
theorem Aii (l:List Int) (hd:Kn l) (B:l.length<1099511627776):Qm l=some (Ae (Ah l).toNat):=by
 unfold Qm
 refine Gp (fun (c,i,o)=>∃k:Nat,i=k/\k<=l.length/\o.length=k/\Bn o/\0<=c/\c<5/\Ah o+1000000000 ^ k*c=Ah (l.take k))
  (fun (_,i,_)=>l.length-i.toNat) (fun (c,o)=>o.length=l.length/\Bn o/\0<=c/\c<5/\Ah o+1000000000 ^ l.length*c=Ah l)
  ⟨0,rfl,by omega,rfl,Bn.nil,by omega,by omega,by simp [Ah]⟩ ?_ ?_
 .rintro ⟨c,i,o⟩ ⟨k,rfl,hk,f,b,j,hc,s⟩
  rcases Nat.lt_or_ge k l.length with h | h
  .have hx:=hd l[k] (List.getElem_mem h)
   refine .inl ⟨((c+l[k]) / 1000000000,((k+1:Nat):Int),o++[(c+l[k]) % 1000000000]),?_,⟨k+1,rfl,by omega,by simp [f],b.snoc (by omega) (by omega),by omega,by omega,?_⟩,by simp; omega⟩
   .have z:Au l[k]=l[k]:=Cp (by omega) (by omega)
    have y:Au (c+l[k])=c+l[k]:=Cp (by omega) (by omega)
    have q:B1 ((c+l[k]) % 1000000000)=(c+l[k]) % 1000000000:=Er (by omega) (by omega)
    have x:=I8 h (by omega)
    have u:decide ((k:Int)<(l.length:Int))=true:=by simpa using h
    simp only [u,cond_true,C8 rfl h,Ad,z,y,Ib (show 0<=c+l[k] by omega) (show (0:Int)<1000000000 by decide),q,Dp (show (o.length+[(c+l[k]) % 1000000000].length)*4<=_ by simp; omega),I5 (show 0<=c+l[k] by omega) (show c+l[k]<=_ by omega) (show (0:Int)<1000000000 by decide),x]
   .rw [Es l h,<-s,Ic,f,Int.pow_succ]
    have:=Int.mul_ediv_add_emod (c+l[k]) 1000000000
    grind
  .have g:k=l.length:=by omega
   subst g
   refine .inr ⟨(c,o),by simp,f,b,j,hc,by simpa using s⟩
 .rintro ⟨c,o⟩ ⟨h2,h3,G,E,D⟩
  have A:=Fh hd
  by_cases hc:c>0
  .have q:B1 c=c:=Er (by omega) (by omega)
   simp only [decide_eq_true hc,cond_true,q,Dp (show (o.length+[c].length)*4<=_ by simp; omega),Ad,O4 (o++[c]) (by simp; omega)]
   rw [I6 (h3.snoc (by omega) (by omega)) (n:=(Ah l).toNat) (by rw [Ic,h2]; omega)]
  .have:c=0:=by omega
   subst this
   simp only [Int.lt_irrefl,gt_iff_lt,decide_false,cond_false,O4 o (by omega),Ad]
   rw [I6 h3 (n:=(Ah l).toNat) (by omega)]
theorem X2 (n:Int):Lt n=Lz n:=rfl
theorem X3 (a b:List Int):My a b=Mu a b:=rfl
theorem Arp (m d:Nat) (c:Ba m<1099511627776) (hd:0<d) (b:d<4294967296):Ti (Ae m) d=some (Ae (m / d),((m % d:Nat):Int)):=by
 have h:=Ab4 m d c hd b
 unfold Ou at h
 unfold Ti
 unfold Ba at c
 rw [Ht rfl rfl (Nat.le_refl _) (by omega) (by omega)] at h ⊢
 simp only [Ad] at h ⊢
 revert h
 generalize Al _ _=x
 cases x with
 | none=>intro h; cases h
 | some v=>
  obtain ⟨r,o⟩:=v
  simp only [Ad]
  intro h
  rw [Aih]
  cases ht:H8 o with
  | none=>rw [ht] at h; cases h
  | some y=>
   rw [ht] at h
   simp only [Ad] at h ⊢
   have hy:y=Ae (m / d):=congrArg Prod.fst (Option.some.inj h)
   have:=Ab0 m d
   unfold Ba at this
   rw [Dp (by rw [hy]; simp; omega)]
   exact h
theorem X4 (m n:Nat) (X:Ba m<1099511627776) (G:n<=m):Mz (Ae m) (Ae n)=some (Ae (m-n)):=by
 unfold Mz
 have J:(Ae n).length<=(Ae m).length:=G5 G
 unfold Ba at X
 rw [Ht rfl rfl (Nat.le_refl _) (by omega) (by omega)]
 simp only [Ad]
 have ha:=Dx m
 have hb:=Dx n
 refine Gp (fun (c,i,o)=>∃k:Nat,i=k/\k<=(Ae m).length/\o.length=(Ae m).length/\Bn o/\o.drop k=List.replicate ((Ae m).length-k) 0/\0<=c/\c<=1/\Ah o=Ah ((Ae m).take k)-Ah ((Ae n).take k)+1000000000 ^ k*c)
  (fun (_,i,_)=>(Ae m).length-i.toNat) (fun o=>∃c:Int,o.length=(Ae m).length/\Bn o/\0<=c/\c<=1/\Ah o=(m:Int)-n+1000000000 ^ (Ae m).length*c)
  ⟨0,rfl,by omega,by simp,Bn.replicate _,by simp,by omega,by omega,by simp [Ah,Xq]⟩ ?_ ?_
 .rintro ⟨c,i,o⟩ ⟨k,rfl,hk,E,u,y,M,hc,z⟩
  rcases Nat.lt_or_ge k (Ae m).length with h | h
  .have hx:=ha.get h
   have f:k<o.length:=by omega
   have S:=I8 h (by omega)
   have R:decide ((k:Int)<((Ae m).length:Int))=true:=Ao (by omega)
   have b:o[k]=0:=by
    have:=congrArg List.head? y
    rw [List.head?_drop,Ci f] at this
    have x:(List.replicate ((Ae m).length-k) (0:Int)).head? = some 0:=by
     cases hh:(Ae m).length-k with
     | zero=>omega
     | succ t=>rfl
    rw [x] at this
    exact Option.some.inj this
   have key:∀s:Int,0<=s->s<=1000000000->Ah ((Ae m).take (k+1))-Ah ((Ae n).take (k+1))=Ah ((Ae m).take k)-Ah ((Ae n).take k)+1000000000 ^ k*((Ae m)[k]-s+c) ->
     ∃(l d:Int),(bif (decide ((Ae m)[k]>=s)) then (some (Sum.inl (0,((k+1:Nat):Int),(Cl o (k:Int) (B1 ((Ae m)[k]-s)))))) else (some (Sum.inl (1,((k+1:Nat):Int),(Cl o (k:Int) (B1 ((B1 ((Ae m)[k]+1000000000))-s)))))):Option ((Int×Int×List Int)⊕List Int))=some (.inl (l,((k+1:Nat):Int),o.set k d)) /\
      (∃q:Nat,((k+1:Nat):Int)=q/\q<=(Ae m).length/\(o.set k d).length=(Ae m).length/\Bn (o.set k d)/\(o.set k d).drop q=List.replicate ((Ae m).length-q) 0/\0<=l/\l<=1/\Ah (o.set k d)=Ah ((Ae m).take q)-Ah ((Ae n).take q)+1000000000 ^ q*l):=by
    intro s h1 h2 g
    have j:∀d:Int,(o.set k d).drop (k+1)=List.replicate ((Ae m).length-(k+1)) 0:=by
     intro d
     rw [List.drop_set_of_lt (by omega),<-List.drop_drop,y,List.drop_replicate]; congr 1
    by_cases N:(Ae m)[k]>=s
    .have A:B1 ((Ae m)[k]-s)=(Ae m)[k]-s:=Er (by omega) (by omega)
     refine ⟨0,(Ae m)[k]-s,by rw [Ao N,cond_true,A,E7 rfl],k+1,rfl,by omega,by simpa using E,u.set _ (by omega) (by omega),j _,by omega,by omega,?_⟩
     rw [Ju _ f,b,g,z]; grind
    .have A:B1 ((Ae m)[k]+1000000000)=(Ae m)[k]+1000000000:=Er (by omega) (by omega)
     have V:B1 ((Ae m)[k]+1000000000-s)=(Ae m)[k]+1000000000-s:=Er (by omega) (by omega)
     refine ⟨1,(Ae m)[k]+1000000000-s,by rw [Av N,cond_false,A,V,E7 rfl],k+1,rfl,by omega,by simpa using E,u.set _ (by omega) (by omega),j _,by omega,by omega,?_⟩
     rw [Ju _ f,b,g,z,Int.pow_succ]; grind
   refine .inl ?_
   rcases Nat.lt_or_ge k (Ae n).length with hb' | hb'
   .have hy:=hb.get hb'
    have U:B1 (c+(Ae n)[k])=c+(Ae n)[k]:=Er (by omega) (by omega)
    obtain ⟨l,d,D,B⟩:=key (c+(Ae n)[k]) (by omega) (by omega) (by rw [Es _ h,Es _ hb']; grind)
    refine ⟨(l,((k+1:Nat):Int),o.set k d),?_,B,by simp; omega⟩
    rw [<-D]
    simp only [R,cond_true,C8 rfl h,C8 rfl f,Ad,Ao (by omega:(k:Int)<((Ae n).length:Int)),C8 rfl hb',U,S]
   .obtain ⟨l,d,D,B⟩:=key c (by omega) (by omega) (by rw [Es _ h,Hx (Ae n) hb',Hx (Ae n) (by omega)]; grind)
    refine ⟨(l,((k+1:Nat):Int),o.set k d),?_,B,by simp; omega⟩
    rw [<-D]
    simp only [R,cond_true,C8 rfl h,C8 rfl f,Ad,Av (by omega:¬(k:Int)<((Ae n).length:Int)),cond_false,S]
  .have L:k=(Ae m).length:=by omega
   subst L
   refine .inr ⟨o,by simp,c,E,u,M,hc,?_⟩
   rw [List.take_length,Hx _ J,D7,D7] at z
   exact z
 .rintro o ⟨c,h2,h3,h4,Z,Y⟩
  have I:=Hu h3
  rw [h2] at I
  have hp:=Ie (Ae m).length
  have:c=0:=by
   rcases Int.lt_or_le 0 c with hc | hc
   .have:c=1:=by omega
    subst this
    omega
   .omega
  subst this
  rw [O4 o (by omega),Ad,I6 h3 (n:=m-n) (by omega)]
end Go.Ab
namespace Go.Ab
open Go
theorem Arq {o:List Int} {k n:Nat} (hk:k<o.length) (h:o.drop k=List.replicate n 0):o[k]=0:=by
 have:=congrArg List.head? h
 rw [List.head?_drop,Ci hk] at this
 cases n with
 | zero=>simp at this
 | succ t=>exact Option.some.inj this
theorem cl1 {o X K c s x y A w:Int} (f:c+x+w=s) (hw:w=y*A) (b:1000000000*(s / 1000000000)+s % 1000000000=s) (z V:Int) (h:o+X*K*c=z+X*(y*V)):o+X*K*(s % 1000000000-x)+X*K*1000000000*(s / 1000000000)=z+X*(y*(V+K*A)):=by grind
set_option maxHeartbeats 1000000 in
theorem Rf (m n:Nat) (hm:Ba m<274877906944) (hn:Ba n<274877906944):Jq (Ae m) (Ae n)=some (Ae (m*n)):=by
  unfold Jq
  unfold Ba at hm hn
  have hw:Ac (((Ae m).length:Int)+((Ae n).length:Int))=(((Ae m).length+(Ae n).length:Nat):Int):=by rw [Ac,Bu] <;> omega
  have M:Ac ((((Ae m).length+(Ae n).length:Nat):Int)+1)=(((Ae m).length+(Ae n).length+1:Nat):Int):=by rw [Ac,Bu] <;> omega
  rw [hw,M,Ht rfl rfl (Nat.le_refl _) (by omega) (by omega)]
  simp only [Ad]
  have ha:=Dx m
  have hb:=Dx n
  have D:Ah (Ae n)=n:=D7 n
  generalize Ae n=b at *
  generalize hL:b.length=L at *
  refine Gp (fun (i,o)=>∃k:Nat,i=k/\k<=(Ae m).length/\o.length=(Ae m).length+L+1/\Bn o/\o.drop (k+L)=List.replicate ((Ae m).length+1-k) 0/\Ah o=Ah ((Ae m).take k)*n)
    (fun (i,_)=>(Ae m).length-i.toNat) (fun o=>o.length=(Ae m).length+L+1/\Bn o/\Ah o=((m*n:Nat):Int))
    ⟨0,rfl,by omega,by simp,Bn.replicate _,by rw [List.drop_replicate]; congr 1; omega,by simp [Xq,Ah]⟩ ?_ ?_
  . rintro ⟨i,o⟩ ⟨k,rfl,hk,ho,G,U,N⟩
    rcases Nat.lt_or_ge k (Ae m).length with h | h
    . have hx:=ha.get h
      have e4:=I8 h (by omega)
      have e5:decide ((k:Int)<((Ae m).length:Int))=true:=Ao (by omega)
      simp only [e5,cond_true]
      have X:Af (Ae m) (k:Int)=some (Ae m)[k]:=C8 rfl h
      generalize J:(Ae m)[k]=x at *
      refine .inl (O2 (D6 (fun (c,j,o')=>∃q:Nat,j=q/\o'.length=(Ae m).length+L+1/\Bn o'/\0<=c/\c<1000000000 /\
          ((q<=L/\o'.drop (k+L)=List.replicate ((Ae m).length+1-k) 0/\Ah o' + 1000000000 ^ (k+q)*c=Ah o+1000000000 ^ k*(x*Ah (b.take q))) \/
           (q=L+1/\c=0/\o'.drop (k+1+L)=List.replicate ((Ae m).length+1-(k+1)) 0/\Ah o'=Ah o+1000000000 ^ k*(x*n))))
        (fun (_,j,_)=>L+1-j.toNat) (fun (c,j,o')=>o'.length=(Ae m).length+L+1/\Bn o'/\o'.drop (k+1+L)=List.replicate ((Ae m).length+1-(k+1)) 0/\Ah o'=Ah o+1000000000 ^ k*(x*n))
        ⟨0,rfl,ho,G,by omega,by omega,.inl ⟨by omega,U,by simp [Ah]⟩⟩ ?_ ?_))
      . rintro ⟨c,j,o'⟩ ⟨q,rfl,u,g,A,hc,hq⟩
        rcases hq with ⟨hq,f,l⟩ | ⟨rfl,rfl,f,l⟩
        . have e8:Ac ((k:Int)+(q:Int))=((k+q:Nat):Int):=by rw [Ac,Bu] <;> omega
          have e6:Ac ((q:Int)+1)=((q+1:Nat):Int):=I8 (Nat.lt_succ_self q) (by omega)
          have y:k+q<o'.length:=by omega
          have a1:=g.get y
          have w4:Au o'[k+q]=o'[k+q]:=Cp (by omega) (by omega)
          have w5:Au (c+o'[k+q])=c+o'[k+q]:=Cp (by omega) (by omega)
          have p1:(1000000000:Int) ^ (k+(q+1))=1000000000 ^ (k+q)*1000000000:=by rw [<-Nat.add_assoc,Int.pow_succ]
          have Z:(1000000000:Int) ^ (k+q)=1000000000 ^ k*1000000000 ^ q:=Int.pow_add ..
          rcases Nat.lt_or_ge q L with hq' | hq'
          . have B:q<b.length:=by omega
            have hy:=hb.get B
            have a6:=Xx hx.1 hx.2 hy.1 hy.2
            have w1:Au x=x:=Cp (by omega) (by omega)
            have w2:Au b[q]=b[q]:=Cp (by omega) (by omega)
            have w3:Au (x*b[q])=x*b[q]:=Cp (by omega) (by omega)
            have Y:Au (c+o'[k+q]+x*b[q])=c+o'[k+q]+x*b[q]:=Cp (by omega) (by omega)
            generalize hs:c+o'[k+q]+x*b[q]=s at Y
            have E:0<=s:=by omega
            have a7:s<1000000000000000000:=by omega
            have w7:B1 (s % 1000000000)=s % 1000000000:=Er (by omega) (by omega)
            refine .inl ⟨(s / 1000000000,((q+1:Nat):Int),o'.set (k+q) (s % 1000000000)),?_,⟨q+1,rfl,by simpa using u,g.set _ (by omega) (by omega),by omega,by omega,.inl ⟨by omega,?_,?_⟩⟩,by simp; omega⟩
            . simp only [Ao (by omega:(q:Int)<(L:Int)),cond_true,Ad,e8,C8 rfl y,X,C8 rfl B,w1,w2,w3,w4,w5,hs,Y,Ib E (show (0:Int)<1000000000 by decide),I5 E (show s<=_ by omega) (show (0:Int)<1000000000 by decide),w7,e6,E7 rfl]
            . rw [List.drop_set_of_lt (by omega)]; exact f
            . rw [Ju _ y,Es _ B,p1,Z]
              rw [Z] at l
              exact cl1 hs rfl (Int.mul_ediv_add_emod s 1000000000) _ _ l
          . have R:q=L:=by omega
            subst R
            by_cases V:c>0
            . have z:o'[k+q]=0:=Arq y f
              refine .inl ⟨(0,((q+1:Nat):Int),o'.set (k+q) c),?_,⟨q+1,rfl,by simpa using u,g.set _ (by omega) (by omega),by omega,by omega,.inr ⟨rfl,rfl,?_,?_⟩⟩,by simp⟩
              . have w8:B1 c=c:=Er (by omega) (by omega)
                have w9:Au c=c:=Cp (by omega) (by omega)
                simp only [Av (by omega:¬(q:Int)<(q:Int)),cond_false,Ao V,cond_true,Ad,e8,C8 rfl y,z,show Au (0:Int)=0 from rfl,Int.add_zero,w9,Ib A (show (0:Int)<1000000000 by decide),I5 A (show c<=_ by omega) (show (0:Int)<1000000000 by decide),Int.emod_eq_of_lt A hc,Int.ediv_eq_zero_of_lt A hc,w8,e6,E7 rfl]
              . rw [List.drop_set_of_lt (by omega),show k+1+q=(k+q)+1 by omega,<-List.drop_drop,f,List.drop_replicate]; congr 1
              . rw [Ju _ y,z,Int.sub_zero]
                rw [List.take_of_length_le (by omega),D] at l
                omega
            . have I:c=0:=by omega
              subst I
              refine .inr ⟨(0,(q:Int),o'),?_,u,g,?_,?_⟩
              . simp only [Av (by omega:¬(q:Int)<(q:Int)),cond_false,Ad,show decide ((0:Int)>0)=false from rfl]
              . rw [show k+1+q=(k+q)+1 by omega,<-List.drop_drop,f,List.drop_replicate]; congr 1
              . rw [List.take_of_length_le (by omega),D] at l
                omega
        . refine .inr ⟨(0,((L+1:Nat):Int),o'),?_,u,g,f,l⟩
          simp only [Av (by omega:¬((L+1:Nat):Int)<(L:Int)),cond_false,Ad,show decide ((0:Int)>0)=false from rfl]
      . rintro ⟨c,j,o'⟩ ⟨u,g,f,l⟩
        refine ⟨_,by simp only [e4],(((k+1:Nat):Int),o'),rfl,⟨k+1,rfl,by omega,u,g,f,?_⟩,by simp; omega⟩
        rw [l,Es _ h,Int.add_mul,<-N,J]; grind
    . have S:k=(Ae m).length:=by omega
      subst S
      refine .inr ⟨o,by simp,ho,G,?_⟩
      rw [List.take_length,D7] at N
      rw [N]; simp
  . rintro o ⟨h2,h3,h4⟩
    rw [O4 o (by omega),Ad,I6 h3 h4]
theorem Arr (m n:Nat) (V:Ba m<274877906944) (U:Ba n<274877906944):Th (Ae m) (Ae n)=some (Ae (m+n)):=by
 unfold Th
 unfold Ba at V U
 have ha:=Dx m
 have hb:=Dx n
 have I:Ah (Ae m)=m:=D7 m
 have G:Ah (Ae n)=n:=D7 n
 have L:=Xw (n:=m)
 have J:=Xw (n:=n)
 generalize Ae m=a at *
 generalize Ae n=b at *
 generalize hM:max a.length b.length=M
 refine Gp (fun (c,i,o)=>∃k:Nat,i=k/\o.length=k/\Bn o/\0<=c/\c<=1/\((k<=M/\Ah o+1000000000 ^ k*c=Ah (a.take k)+Ah (b.take k))\/(k=M+1/\c=0/\Ah o=m+n/\1000000000 ^ M<=Ah o)))
  (fun (_,i,_)=>M+1-i.toNat) (fun o=>Bn o/\Ah o=m+n/\(o≠[]->1000000000 ^ (o.length-1)<=Ah o))
  ⟨0,rfl,rfl,Bn.nil,by omega,by omega,.inl ⟨by omega,by simp [Ah]⟩⟩ ?_ ?_
 .rintro ⟨c,i,o⟩ ⟨k,rfl,l,h,Y,hc,hk⟩
  rcases hk with ⟨hk,x⟩ | ⟨rfl,rfl,x,hp⟩
  .have e4:Ac ((k:Int)+1)=((k+1:Nat):Int):=I8 (Nat.lt_succ_self k) (by omega)
   have step:∀s:Int,0<=s->s<2000000000 ->
     ((E6 .u32 s 1000000000).bind fun D=>(Fb s 1000000000).bind fun B=>(B4 4 o [B]).bind fun E=>some (Sum.inl (D,(Ac ((k:Int)+1)),E)))=some (Sum.inl (s / 1000000000,((k+1:Nat):Int),o++[s % 1000000000]):(Int×Int×List Int)⊕List Int):=by
    intro s h1 h2
    rw [Abx h1 (by omega) (by decide),Ad,Ib h1 (by decide),Ad,Dp (by simp; omega),Ad,e4]
   have g:∀s:Int,0<=s->s<2000000000->k<M->Ah (a.take (k+1))+Ah (b.take (k+1))=Ah (a.take k)+Ah (b.take k)+1000000000 ^ k*(s-c) ->
     (∃q:Nat,((k+1:Nat):Int)=q/\(o++[s % 1000000000]).length=q/\Bn (o++[s % 1000000000])/\0<=s / 1000000000/\s / 1000000000<=1/\((q<=M/\Ah (o++[s % 1000000000])+1000000000 ^ q*(s / 1000000000)=Ah (a.take q)+Ah (b.take q))\/(q=M+1/\s / 1000000000=0/\Ah (o++[s % 1000000000])=m+n/\1000000000 ^ M<=Ah (o++[s % 1000000000])))):=by
    intro s h1 h2 y u
    refine ⟨k+1,rfl,by simp [l],h.snoc (by omega) (by omega),by omega,by omega,.inl ⟨by omega,?_⟩⟩
    rw [u,<-x,Ic,l,Int.pow_succ]
    have:=Int.mul_ediv_add_emod s 1000000000
    grind
   by_cases j:k<a.length
   .have hx:=ha.get j
    have S:B1 (c+a[k])=c+a[k]:=Er (by omega) (by omega)
    by_cases f:k<b.length
    .have hy:=hb.get f
     have A:B1 (c+a[k]+b[k])=c+a[k]+b[k]:=Er (by omega) (by omega)
     refine .inl ⟨((c+a[k]+b[k]) / 1000000000,((k+1:Nat):Int),o++[(c+a[k]+b[k]) % 1000000000]),?_,g (c+a[k]+b[k]) (by omega) (by omega) (by omega) (by rw [Es a j,Es b f]; grind),by simp; omega⟩
     rw [<-step (c+a[k]+b[k]) (by omega) (by omega)]
     simp only [Ao (by omega:(k:Int)<(a.length:Int)),Ao (by omega:(k:Int)<(b.length:Int)),cond_true,Ad,C8 rfl j,C8 rfl f,S,A]
    .refine .inl ⟨((c+a[k]) / 1000000000,((k+1:Nat):Int),o++[(c+a[k]) % 1000000000]),?_,g (c+a[k]) (by omega) (by omega) (by omega) (by rw [Es a j,Hx b (by omega),Hx b (by omega)]; grind),by simp; omega⟩
     rw [<-step (c+a[k]) (by omega) (by omega)]
     simp only [Ao (by omega:(k:Int)<(a.length:Int)),Av (by omega:¬(k:Int)<(b.length:Int)),cond_true,cond_false,Ad,C8 rfl j,S]
   .by_cases f:k<b.length
    .have hy:=hb.get f
     have A:B1 (c+b[k])=c+b[k]:=Er (by omega) (by omega)
     refine .inl ⟨((c+b[k]) / 1000000000,((k+1:Nat):Int),o++[(c+b[k]) % 1000000000]),?_,g (c+b[k]) (by omega) (by omega) (by omega) (by rw [Es b f,Hx a (by omega),Hx a (by omega)]; grind),by simp; omega⟩
     rw [<-step (c+b[k]) (by omega) (by omega)]
     simp only [Av (by omega:¬(k:Int)<(a.length:Int)),Ao (by omega:(k:Int)<(b.length:Int)),cond_true,cond_false,Ad,C8 rfl f,A]
    .have y:k=M:=by omega
     subst y
     rw [Hx a (by omega),Hx b (by omega),I,G] at x
     by_cases Z:c>0
     .have R:c=1:=by omega
      subst R
      refine .inl ⟨((1:Int) / 1000000000,((k+1:Nat):Int),o++[(1:Int) % 1000000000]),?_,⟨k+1,rfl,by simp [l],h.snoc (by decide) (by decide),by decide,by decide,.inr ⟨rfl,rfl,?_,?_⟩⟩,by simp⟩
      .rw [<-step 1 (by omega) (by omega)]
       simp only [Av (by omega:¬(k:Int)<(a.length:Int)),Av (by omega:¬(k:Int)<(b.length:Int)),cond_false,Ad,show decide ((1:Int)>0)=true from rfl,cond_true]
      .rw [Ic,l]; exact x
      .rw [Ic,l,show (1:Int) % 1000000000=1 from rfl]
       have:=Fh h.u32
       omega
     .have z:c=0:=by omega
      subst z
      refine .inr ⟨o,?_,h,by omega,fun N=>?_⟩
      .simp only [Av (by omega:¬(k:Int)<(a.length:Int)),Av (by omega:¬(k:Int)<(b.length:Int)),cond_false,Ad,show decide ((0:Int)>0)=false from rfl]
      .have X:k≠0:=by
        intro e; rw [e] at l; exact N (List.length_eq_zero_iff.1 l)
       rcases Nat.le_total a.length b.length with hab | hab
       .have:k=b.length:=by omega
        have h1:=J (by intro e; rw [e] at this; simp at this; omega)
        rw [l,this]; omega
       .have:k=a.length:=by omega
        have h1:=L (by intro e; rw [e] at this; simp at this; omega)
        rw [l,this]; omega
  .refine .inr ⟨o,?_,h,x,fun _=>by rw [l]; simpa using hp⟩
   simp only [Av (by omega:¬((M+1:Nat):Int)<(a.length:Int)),Av (by omega:¬((M+1:Nat):Int)<(b.length:Int)),cond_false,Ad,show decide ((0:Int)>0)=false from rfl]
 .rintro o ⟨h1,h2,h3⟩
  congr 1
  exact Xs (Ab3 h1 h3) (by rw [h2]; simp)
end Go.Ab
