/- Plain laws: what the plain functions answer. -/
import Derived.Test.YtohelcameomopaaGreatDoorApDef
namespace Go.Ab
open Go
theorem Ad {α β:Type} (a:α) (f:α->Option β):(some a).bind f=f a:=rfl
theorem Bv {α:Type} {l:List α} {i:Nat} (h:i<l.length):l[i]? = some l[i]:=List.getElem?_eq_getElem h
theorem Cd {α:Type} {l:List α} {i:Nat} {a:α} (h:l[i]? = some a):a∈l:=List.mem_of_getElem? h
theorem Dj (a b:Bool):((a&&b)=true)=(a=true/\b=true):=Bool.and_eq_true a b
theorem Dk:(!true)=false:=rfl
theorem He {S E R:Type} {step:S->Option (S⊕E)} {s:S} {J:E->Option R} {r:R} (c:S->Prop) (m:S->Nat) (b:E->Prop) (h0:c s) (f:∀s,c s->(∃s',step s=some (.inl s')/\c s'/\m s' < m s)\/(∃e,step s=some (.inr e)/\b e)) (g:∀e,b e->J e=some r):(Al step s).bind J=some r:=by obtain ⟨e,h1,h2⟩:=Ib c m b f s h0;rw [h1]; exact g e h2
theorem Fe {S E R:Type} {step:S->Option (S⊕E)} {s:S} {J:E->Option R} {Q:R->Prop} (c:S->Prop) (m:S->Nat) (b:E->Prop) (h0:c s) (f:∀s,c s->(∃s',step s=some (.inl s')/\c s'/\m s' < m s)\/(∃e,step s=some (.inr e)/\b e)) (g:∀e,b e->∃r,J e=some r/\Q r):∃r,(Al step s).bind J=some r/\Q r:=by obtain ⟨e,h1,h2⟩:=Ib c m b f s h0;rw [h1]; exact g e h2
theorem Ab4 {S E:Type} {X:Option (S⊕E)} {Q:S->Prop} (h:∃r,X=some r/\∃s',r = .inl s'/\Q s'):∃s',X=some (.inl s')/\Q s':=by obtain ⟨r,h1,s',rfl,h2⟩:=h;exact ⟨s',h1,h2⟩
theorem Axn {S E:Type} {X:Option (S⊕E)} {Q:E->Prop} (h:∃r,X=some r/\∃e,r = .inr e/\Q e):∃e,X=some (.inr e)/\Q e:=by obtain ⟨r,h1,s',rfl,h2⟩:=h;exact ⟨s',h1,h2⟩
theorem Ab5 {A R:Type} {X:Option R} (f:A->R) {Q:A->Prop} (h:∃r,X=some r/\∃a,r=f a/\Q a):∃a,X=some (f a)/\Q a:=by obtain ⟨r,h1,a,rfl,h2⟩:=h;exact ⟨a,h1,h2⟩
theorem Axo {A R:Type} {X:Option A} {f g:A->Option R} (h:∀a,f a=g a):X.bind f=X.bind g:=by have:f=g:=funext h;rw [this]
theorem Ags {α β:Type} {c:Prop} [Decidable c] (a b:Option α) (f:α->Option β):(if c then a else b).bind f=if c then a.bind f else b.bind f:=by split <;> rfl
theorem Bm {n:Int} (h1 : -9223372036854775808<=n) (h2:n<=9223372036854775807):IntKind.i64.wrap n=n:=by
 have e:IntKind.i64.wrap n=if 9223372036854775808<=n % 18446744073709551616 then n % 18446744073709551616-18446744073709551616 else n % 18446744073709551616:=by simp [IntKind.wrap,IntKind.bits,IntKind.signed]
 rw [e]; split <;> omega
theorem C7 {n:Int} (h1:0<=n) (h2:n<=18446744073709551615):IntKind.u64.wrap n=n:=by
 have e:IntKind.u64.wrap n=n % 18446744073709551616:=by simp [IntKind.wrap,IntKind.bits,IntKind.signed]
 rw [e]; omega
theorem Fr {n:Int} (h1:0<=n) (h2:n<=4294967295):IntKind.u32.wrap n=n:=by
 have e:IntKind.u32.wrap n=n % 4294967296:=by simp [IntKind.wrap,IntKind.bits,IntKind.signed]
 rw [e]; omega
theorem Dv {α:Type} {l:List α} {i:Int} {n:Nat} (hi:i=n) (h:n<l.length):Ae l i=some l[n]:=by subst hi; simp [Ae,h]
theorem Ce {α:Type} {l:List α} {i:Int} {n:Nat} {x:α} (hi:i=n) (h:l[n]? = some x):Ae l i=some x:=by subst hi; simp [Ae,h]
theorem Ab6 {α:Type} {l:List α} {i:Int} (h:i<0\/(l.length:Int)<=i):Ae l i=none:=by
 unfold Ae;split
 .rw [List.getElem?_eq_none]; omega
 .rfl
theorem Fh {α:Type} {l:List α} {i:Int} {n:Nat} (hi:i=n) (x:α):B9 l i x=l.set n x:=by subst hi; simp [B9]
theorem C3 {α:Type} {b:Nat} {xs ys:List α} (h:(xs.length+ys.length)*b<=140737488355328):Ca b xs ys=some (xs++ys):=by simp [Ca,h]
theorem Ju {α:Type} {b:Nat} {len f:Int} {z:α} {n c:Nat} (h1:len=n) (h2:f=c) (h3:n<=c) (g:b*c<=281474976710656) (h:c<=140737488355328):Fj b len f z=some (List.replicate n z):=by subst h1; subst h2;have a1:(0:Int)<=(n:Int):=ω;have a2:(n:Int)<=(c:Int):=ω;have a3:(c:Int)<=140737488355328:=ω;simp [Fj,a2,a3,g]
theorem Agt {α:Type} {b:Nat} {f:Int} {z:α} {c:Nat} (h2:f=c) (h:b*c<=281474976710656) (g:c<=140737488355328):Fj b 0 f z=some []:=by exact Ju (len:=0) (n:=0) (c:=c) rfl h2 ω h g
theorem Ch {a b:Int} (h:a≠b):(a==b)=false:=by simpa using h
theorem Dw {a b:Int} (h:a=b):(a==b)=true:=by simpa using h
theorem Dh {a b:Int} (h:a≠b):(a != b)=true:=by simpa using h
theorem De {a b:Int} (h:a=b):(a != b)=false:=by simpa using h
theorem Aj {p:Prop} [Decidable p] (h:p):decide p=true:=decide_eq_true h
theorem An {p:Prop} [Decidable p] (h:¬p):decide p=false:=decide_eq_false h
theorem Yl {α:Type} {l:List α} {hi:Int} {n:Nat} (h:hi=n) (b:n<=l.length):Fy l 0 hi=some (l.take n):=by subst h;have:(n:Int)<=(l.length:Int):=ω;simp [Fy,this]
theorem Ka {a b:Int} (ha:0<=a) (hb:0<b):Gp a b=some (a % b):=by have:b≠0:=ω;simp [Gp,this,Int.tmod_eq_emod_of_nonneg ha]
theorem Ky {a b:Int} (ha:0<=a) (ha':a<=18446744073709551615) (hb:0<b):Fk .u64 a b=some (a / b):=by have:b≠0:=ω;have h1:0<=a / b:=Int.ediv_nonneg ha ω;have h2:a / b<=a:=Int.ediv_le_self _ ha;simp [Fk,this,Int.tdiv_eq_ediv_of_nonneg ha];exact C7 h1 ω
theorem Agu {a b:Int} (ha:0<=a) (ha':a<=4294967295) (hb:0<b):Fk .u32 a b=some (a / b):=by have:b≠0:=ω;have h1:0<=a / b:=Int.ediv_nonneg ha ω;have h2:a / b<=a:=Int.ediv_le_self _ ha;simp [Fk,this,Int.tdiv_eq_ediv_of_nonneg ha];exact Fr h1 ω
def Ak:List Int->Int
 | []=>0
 | d::l=>d+1000000000*Ak l
def B3 (l:List Int):Prop:=∀d∈l,0<=d/\d<1000000000
def Mj (l:List Int):Prop:=∀d∈l,0<=d/\d<4294967296
def Can (l:List Int):Prop:=B3 l/\∀h:l≠[],l.getLast h≠0
def Af (n:Nat):List Int:=if h:n=0 then [] else ((n % 1000000000:Nat):Int)::Af (n / 1000000000)
termination_by n
decreasing_by exact Nat.div_lt_self ω δ
theorem Fu:Af 0 = []:=by rw [Af]; simp
theorem Mk {n:Nat} (h:n≠0):Af n=((n % 1000000000:Nat):Int)::Af (n / 1000000000):=by rw [Af]; simp [h]
theorem B3.nil:B3 []:=λ_ h=>by cases h
theorem B3.append {l m:List Int} (h:B3 l) (h':B3 m):B3 (l++m):=by
 intro d hd;rcases List.mem_append.1 hd with hd | hd
 .exact h d hd
 .exact h' d hd
theorem B3.one {d:Int} (h:0<=d) (h':d<1000000000):B3 [d]:=by intro x hx; simp at hx; subst hx; exact ⟨h,h'⟩
theorem B3.snoc {l:List Int} {d:Int} (h:B3 l) (hd:0<=d) (b:d<1000000000):B3 (l++[d]):=h.append (B3.one hd b)
theorem B3.take {l:List Int} (h:B3 l) (k:Nat):B3 (l.take k):=λd hd=>h d (List.mem_of_mem_take hd)
theorem B3.drop {l:List Int} (h:B3 l) (k:Nat):B3 (l.drop k):=λd hd=>h d (List.mem_of_mem_drop hd)
theorem B3.get {l:List Int} (h:B3 l) {i:Nat} (hi:i<l.length):0<=l[i]/\l[i]<1000000000:=h _ (List.getElem_mem hi)
theorem B3.set {l:List Int} (h:B3 l) (i:Nat) {d:Int} (hd:0<=d) (b:d<1000000000):B3 (l.set i d):=by
 intro x hx;rcases List.mem_or_eq_of_mem_set hx with hx | rfl
 .exact h x hx
 .exact ⟨hd,b⟩
theorem B3.replicate (n:Nat):B3 (List.replicate n 0):=by intro d hd;have:=List.eq_of_mem_replicate hd;subst this; decide
theorem B3.tail {d:Int} {l:List Int} (h:B3 (d::l)):B3 l:=λx hx=>h x (by simp [hx])
theorem B3.u32 {l:List Int} (h:B3 l):Mj l:=λd hd=>by have:=h d hd; omega
theorem Anf (l m:List Int):Ak (l++m)=Ak l+1000000000 ^ l.length*Ak m:=by induction l with| nil=>simp [Ak]| cons d l ih=>simp only [List.cons_append,Ak,ih,List.length_cons,Int.pow_succ]; grind
theorem Kb (l:List Int) (d:Int):Ak (l++[d])=Ak l+1000000000 ^ l.length*d:=by rw [Anf]; simp [Ak]
theorem Fs (l:List Int) {k:Nat} (h:k<l.length):Ak (l.take (k+1))=Ak (l.take k)+1000000000 ^ k*l[k]:=by rw [List.take_succ_eq_append_getElem h,Kb];simp [Nat.min_eq_left (Nat.le_of_lt h)]
theorem Ab7 (n:Nat):Ak (List.replicate n 0)=0:=by induction n with| zero=>rfl| succ n ih=>simp [List.replicate_succ,Ak,ih]
theorem Nb (l:List Int) (k:Nat) (h:k<=l.length):Ak l=Ak (l.take k)+1000000000 ^ k*Ak (l.drop k):=by have e:=Anf (l.take k) (l.drop k);rw [List.take_append_drop] at e;rw [e,List.length_take,Nat.min_eq_left h]
theorem Ll (l:List Int) {i:Nat} (h:i<l.length) (d:Int):Ak (l.set i d)=Ak l+1000000000 ^ i*(d-l[i]):=by
 induction l generalizing i with
 | nil=>simp at h
 | cons x l ih=>cases i with| zero=>simp [Ak]; omega| succ i=>have hi:i<l.length:=(by simpa using h);simp only [List.set_cons_succ,Ak,ih hi,List.getElem_cons_succ,Int.pow_succ];grind
theorem Gi {l:List Int} (h:Mj l):0<=Ak l:=by induction l with| nil=>simp [Ak]| cons d l ih=>have h1:=h d ψ;have h2:=ih (λx hx=>h x (by simp [hx]));simp only [Ak]; omega
theorem Kc (n:Nat):(0:Int)<1000000000 ^ n:=Int.pow_pos δ
theorem Jv {l:List Int} (h:B3 l):Ak l<1000000000 ^ l.length:=by induction l with| nil=>simp [Ak]| cons d l ih=>have h1:=h d ψ;have h2:=ih h.tail;simp only [Ak,List.length_cons,Int.pow_succ];omega
theorem E6 (n:Nat):Ak (Af n)=n:=by
 induction n using Nat.strongRecOn with
 | _ n ih=>
  by_cases h:n=0
  .subst h; rw [Fu]; rfl
  .rw [Mk h,Ak,ih (n / 1000000000) (Nat.div_lt_self ω δ)];omega
theorem Er (n:Nat):B3 (Af n):=by
 induction n using Nat.strongRecOn with
 | _ n ih=>
  by_cases h:n=0
  .subst h; rw [Fu]; exact B3.nil
  .rw [Mk h];intro d hd;simp at hd;rcases hd with rfl | hd
   .omega
   .exact ih (n / 1000000000) (Nat.div_lt_self ω δ) d hd
theorem Ic {n:Nat} (h:n≠0):Af n≠[]:=by rw [Mk h]; simp
theorem Ab8 (n:Nat):Can (Af n):=by
 refine ⟨Er n,?_⟩;induction n using Nat.strongRecOn with
 | _ n ih=>
  intro b;have h:n≠0:=λe=>b (by rw [e]; exact Fu);have hc:=Mk h;by_cases h2:n / 1000000000=0
  .have c:Af n = [((n % 1000000000:Nat):Int)]:=(by rw [hc,h2,Fu]);simp only [c,List.getLast_singleton];omega
  .have:=ih (n / 1000000000) (Nat.div_lt_self ω δ) (Ic h2);simp only [hc];rwa [List.getLast_cons (Ic h2)]
theorem Agv {l:List Int} (h:Can l):Af (Ak l).toNat=l:=by induction l with| nil=>exact Fu| cons d l ih=>obtain ⟨h1,h2⟩:=h;have hd:=h1 d ψ;have g:Can l:=(by refine ⟨h1.tail,λb=>?_⟩;have:=h2 ψ;rwa [List.getLast_cons b] at this);have f:=Gi (h1.tail).u32;have b:(Ak (d::l)).toNat≠0:=(by intro e;simp only [Ak] at e;have c:d=0:=ω;have f:Ak l=0:=ω;have:l = []:=(by rw [<-ih g,f]; exact Fu);subst this;exact h2 ψ (by simpa using c));rw [Mk b];simp only [Ak];have j:((d+1000000000*Ak l).toNat % 1000000000:Nat)=d.toNat:=ω;have i:(d+1000000000*Ak l).toNat / 1000000000=(Ak l).toNat:=ω;rw [j,i,ih g];congr 1; omega
theorem Ab9 {l:List Int} {n:Nat} (h:Can l) (b:Ak l=n):l=Af n:=by rw [<-Agv h,b]; rfl
def Gx:List Int->List Int
 | []=>[]
 | d::l=>match Gx l with
  | []=>if d=0 then [] else [d]
  | x::m=>d::x::m
theorem Axp (l:List Int):Gx (l++[0])=Gx l:=by induction l with| nil=>rfl| cons d l ih=>simp only [List.cons_append,Gx,ih]
theorem Axq {l:List Int} {d:Int} (h:d≠0):Gx (l++[d])=l++[d]:=by
 induction l with
 | nil=>simp [Gx,h]
 | cons x l ih=>simp only [List.cons_append,Gx,ih];cases l with| nil=>rfl| cons y l=>rfl
theorem Ang {l:List Int} (h:B3 l):Can (Gx l)/\Ak (Gx l)=Ak l:=by
 induction l with
 | nil=>exact ⟨⟨B3.nil,λh=>(h rfl).elim⟩,rfl⟩
 | cons d l ih=>
  obtain ⟨⟨i1,i2⟩,i3⟩:=ih h.tail;have hd:=h d ψ;simp only [Gx];cases ht:Gx l with
  | nil=>
   rw [ht] at i3;simp only [Ak] at i3;simp only [];by_cases b:d=0
   .rw [if_pos b];refine ⟨⟨B3.nil,λh=>(h rfl).elim⟩,?_⟩;simp only [Ak]; rw [<-i3]; omega
   .rw [if_neg b];refine ⟨⟨B3.one hd.1 hd.2,λ_=>by simpa using b⟩,?_⟩;simp only [Ak]; rw [<-i3]
  | cons x m=>
   rw [ht] at i1 i2 i3;simp only [];refine ⟨⟨?_,λ_=>?_⟩,?_⟩
   .intro y hy;rcases List.mem_cons.1 hy with rfl | hy
    .exact hd
    .exact i1 y hy
   .rw [List.getLast_cons ψ]; exact i2 ψ
   .simp only [Ak] at i3 ⊢; rw [i3]
theorem Kz {l:List Int} {n:Nat} (h:B3 l) (b:Ak l=n):Gx l=Af n:=by obtain ⟨h1,h2⟩:=Ang h;exact Ab9 h1 (h2.trans b)
theorem Axr {l:List Int} (h:Can l):Gx l=l:=by obtain ⟨h1,h2⟩:=Ang h.1;rw [<-Agv h1,h2,Agv h]
def Bi (n:Nat):Nat:=(Af n).length
theorem Ym:Bi 0=0:=by simp [Bi,Fu]
theorem Nc (n:Nat):n<1000000000 ^ Bi n:=by have:=Jv (Er n);rw [E6] at this;have e:((1000000000 ^ Bi n:Nat):Int)=1000000000 ^ Bi n:=ψ;unfold Bi at *;omega
theorem I9 {n k:Nat} (h:n<1000000000 ^ k):Bi n<=k:=by
 induction k generalizing n with
 | zero=>simp at h; subst h; simp [Ym]
 | succ k ih=>
  by_cases h0:n=0
  .subst h0; simp [Ym]
  .unfold Bi;rw [Mk h0,List.length_cons];have:n / 1000000000<1000000000 ^ k:=(by rw [Nat.div_lt_iff_lt_mul δ]; rwa [Nat.pow_succ] at h);have:=ih this;unfold Bi at this; omega
theorem Hy {m n:Nat} (h:m<=n):Bi m<=Bi n:=I9 (Nat.lt_of_le_of_lt h (Nc n))
theorem Anh {n k:Nat} (h:k<Bi n):1000000000 ^ k<=n:=by
 rcases Nat.lt_or_ge n (1000000000 ^ k) with h' | h'
 .have:=I9 h'; omega
 .exact h'
theorem Aca (m n:Nat):Bi (m+n)<=max (Bi m) (Bi n)+1:=by apply I9;have h1:=Nc m;have h2:=Nc n;have h3:1000000000 ^ Bi m<=1000000000 ^ max (Bi m) (Bi n):=Nat.pow_le_pow_right δ (Nat.le_max_left _ _);have b:1000000000 ^ Bi n<=1000000000 ^ max (Bi m) (Bi n):=Nat.pow_le_pow_right δ (Nat.le_max_right _ _);rw [Nat.pow_succ];omega
theorem Gy (m n:Nat):Bi (m*n)<=Bi m+Bi n:=by apply I9;rw [Nat.pow_add];exact Nat.mul_lt_mul_of_lt_of_le (Nc m) (Nat.le_of_lt (Nc n)) (Nat.pow_pos δ)
theorem Agw (m n:Nat):Bi (m / n)<=Bi m:=Hy (Nat.div_le_self _ _)
theorem Ani {m n:Nat} (h:Bi m<Bi n):m<n:=Nat.lt_of_lt_of_le (Nc m) (Anh h)
theorem Anj {l m:List Int} (f:B3 l) {k:Nat} (hk:k<l.length) (b:k<m.length) (hm:B3 m) (hd:l.drop (k+1)=m.drop (k+1)) (c:l[k]<m[k]):Ak l<Ak m:=by have i:=Nb l (k+1) hk;have h:=Nb m (k+1) b;rw [Fs l hk] at i;rw [Fs m b,<-hd] at h;have h3:=Jv (f.take k);have j:=Gi ((hm.take k).u32);rw [List.length_take,Nat.min_eq_left (Nat.le_of_lt hk)] at h3;have g:1000000000 ^ k*(l[k]+1)<=1000000000 ^ k*m[k]:=Int.mul_le_mul_of_nonneg_left c (Int.le_of_lt (Kc k));rw [Int.mul_add] at g;omega
end Go.Ab
namespace Go.Ab
open Go
theorem Ie {S E R:Type} {step:S->Option (S⊕E)} {s0:S} {J:E->Option R} {r:R} (n:Nat) (b:Nat->S) (h0:s0=b 0) (c:∀j,j<n->step (b j)=some (.inl (b (j+1)))) (f:∃e,step (b n)=some (.inr e)/\J e=some r):(Al step s0).bind J=some r:=by
 have key:∀m,m<=n->Al step (b 0)=Al step (b m):=by intro m;induction m with| zero=>intro _; rfl| succ m ih=>intro h; rw [ih ω,Ft (c m ω)]
 obtain ⟨e,h1,h2⟩:=f;rw [h0,key n (Nat.le_refl _),Cz h1];exact h2
theorem C6 {j n:Nat} (h:j<n) (b:n<4611686018427387904):Aa ((j:Int)+1)=((j+1:Nat):Int):=by rw [Aa,Bm] <;> omega
theorem Ank {α:Type} {l:List α} {p:α×Nat->Bool} (h:l.zipIdx.all p=false):∃j x,l[j]? = some x/\p (x,j)=false/\∀i y,i<j->l[i]? = some y->p (y,i)=true:=by
 have key:∀(n:Nat),(∀i y,i<n->l[i]? = some y->p (y,i)=true)\/∃j x,j<n/\l[j]? = some x/\p (x,j)=false/\∀i y,i<j->l[i]? = some y->p (y,i)=true:=by
  intro n;induction n with
  | zero=>exact .inl (λi y h=>ω)
  | succ n ih=>
   rcases ih with ih | ⟨j,x,h1,h2,h3,b⟩
   .cases hx:l[n]? with
    | none=>exact .inl (λi y hi hy=>by
      rcases Nat.lt_or_ge i n with h | h
      .exact ih i y h hy
      .have:i=n:=ω
       subst this; rw [hx] at hy; cases hy)
    | some x=>
     cases hp:p (x,n) with
     | true=>exact .inl (λi y hi hy=>by
       rcases Nat.lt_or_ge i n with h | h
       .exact ih i y h hy
       .have:i=n:=ω
        subst this; rw [hx] at hy; cases hy; exact hp)
     | false=>exact .inr ⟨n,x,ω,hx,hp,ih⟩
   .exact .inr ⟨j,x,ω,h2,h3,b⟩
 rcases key l.length with hk | ⟨j,x,h1,h2,h3,b⟩
 .exfalso;have:l.zipIdx.all p=true:=by
   rw [List.all_eq_true];rintro ⟨y,i⟩ hy;have:=List.mk_mem_zipIdx_iff_getElem?.1 hy;have hi:i<l.length:=by
    rcases Nat.lt_or_ge i l.length with h | h
    .exact h
    .rw [List.getElem?_eq_none h] at this; cases this
   exact hk i y hi this
  rw [this] at h; cases h
 .exact ⟨j,x,h2,h3,b⟩
theorem Hm {α:Type} {l:List α} {p:α×Nat->Bool} (h:l.zipIdx.all p=true) {j:Nat} {x:α} (hx:l[j]? = some x):p (x,j)=true := List.all_eq_true.1 h _ (List.mk_mem_zipIdx_iff_getElem?.2 hx)
theorem Acb {α:Type} {l:List α} {p:α×Nat->Bool} (h:∀j x,l[j]? = some x->p (x,j)=true):l.zipIdx.all p=true:=by rw [List.all_eq_true];rintro ⟨y,i⟩ hy;exact h i y (List.mk_mem_zipIdx_iff_getElem?.1 hy)
theorem Od {S E R α:Type} {step:S->Option (S⊕E)} {s0:S} {J:E->Option R} {rt rf:R} (l:List α) (p:α×Nat->Bool) (b:Nat->S) (h0:s0=b 0) (g:l.length<4611686018427387904) (f:∀(j:Nat) (x:α),l[j]? = some x->(∀i y,i<j->l[i]? = some y->p (y,i)=true)->decide ((j:Int)<(l.length:Int))=true->Ae l (j:Int)=some x->Aa ((j:Int)+1)=((j+1:Nat):Int) -> (p (x,j)=true->step (b j)=some (.inl (b (j+1))))/\(p (x,j)=false->∃e,step (b j)=some (.inr e)/\J e=some rf)) (q:decide ((l.length:Int)<(l.length:Int))=false->l.zipIdx.all p=true->∃e,step (b l.length)=some (.inr e)/\J e=some rt):(Al step s0).bind J=some (bif l.zipIdx.all p then rt else rf):=by
 have c:∀(j:Nat) (x:α),l[j]? = some x->(∀i y,i<j->l[i]? = some y->p (y,i)=true)->_:=λj x hx hy=>
  have hj:j<l.length:=by
   rcases Nat.lt_or_ge j l.length with h | h
   .exact h
   .rw [List.getElem?_eq_none h] at hx; cases hx
  f j x hx hy (Aj ω) (Ce rfl hx) (C6 hj g)
 cases hb:l.zipIdx.all p with
 | true=>refine Ie l.length b h0 (λj hj=>?_) (q ψ hb);have hx:l[j]? = some l[j]:=Bv hj;exact (c j _ hx (λi y _ hy=>Hm hb hy)).1 (Hm hb hx)
 | false=>
  obtain ⟨j,x,h1,h2,h3⟩:=Ank hb;refine Ie j b h0 (λi hi=>?_) ((c j x h1 h3).2 h2);have hj:j<l.length:=by
   rcases Nat.lt_or_ge j l.length with h | h
   .exact h
   .rw [List.getElem?_eq_none h] at h1; cases h1
  have hx:l[i]? = some l[i]:=Bv ω;exact (c i _ hx (λk y hk hy=>h3 k y ω hy)).1 (h3 i _ hi hx)
theorem Acd {α:Type} (l:List α) (p:α->Bool):l.zipIdx.all (λq=>p q.1)=l.all p:=by
 cases h:l.all p with
 | true=>exact Acb λj x hx=>List.all_eq_true.1 h _ (Cd hx)
 | false=>cases h':l.zipIdx.all (λq=>p q.1) with| false=>rfl| true=>rw [<-h]; symm;rw [List.all_eq_true];intro x hx;obtain ⟨j,hj⟩:=List.getElem?_of_mem hx;exact Hm h' hj
theorem P4 {S E R α:Type} {step:S->Option (S⊕E)} {s0:S} {J:E->Option R} {rt rf:R} (l:List α) (p:α->Bool) (b:Nat->S) (h0:s0=b 0) (f:l.length<4611686018427387904) (c:∀(j:Nat) (x:α),l[j]? = some x->decide ((j:Int)<(l.length:Int))=true->Ae l (j:Int)=some x->Aa ((j:Int)+1)=((j+1:Nat):Int) -> (p x=true->step (b j)=some (.inl (b (j+1))))/\(p x=false->∃e,step (b j)=some (.inr e)/\J e=some rf)) (g:decide ((l.length:Int)<(l.length:Int))=false->∃e,step (b l.length)=some (.inr e)/\J e=some rt):(Al step s0).bind J=some (bif l.all p then rt else rf):=by rw [<-Acd l p];exact Od l (λq=>p q.1) b h0 f (λj x hx _=>c j x hx) (λh _=>g h)
theorem Gf {S E R α:Type} {step:S->Option (S⊕E)} {s0:S} {J:E->Option R} {r:R} (l:List α) (b:Nat->S) (h0:s0=b 0) (f:l.length<4611686018427387904) (c:∀(j:Nat) (x:α),j<l.length->l[j]? = some x->decide ((j:Int)<(l.length:Int))=true->Ae l (j:Int)=some x->Aa ((j:Int)+1)=((j+1:Nat):Int)->step (b j)=some (.inl (b (j+1)))) (g:decide ((l.length:Int)<(l.length:Int))=false->∃e,step (b l.length)=some (.inr e)/\J e=some r):(Al step s0).bind J=some r:=by refine Ie l.length b h0 (λj hj=>?_) (g ψ);have hx:l[j]? = some l[j]:=Bv hj;exact c j _ hj hx (Aj ω) (Ce rfl hx) (C6 hj f)
theorem C8 {α:Type} {l:List α} {j:Nat} {x:α} (h:l[j]? = some x):l.take (j+1)=l.take j++[x]:=by rw [List.take_add_one,h]; rfl
theorem Dx {α:Type} {l:List α} {j:Nat} {x:α} (h:l[j]? = some x):j<l.length:=by
 rcases Nat.lt_or_ge j l.length with h' | h'
 .exact h'
 .rw [List.getElem?_eq_none h'] at h; cases h
theorem Ml (b:Bool):(bif b then true else false)=b:=by cases b <;> rfl
theorem Axs (b:Bool):(bif b then false else true) = !b:=by cases b <;> rfl
theorem Yn {A R:Type} {X:Option A} {f:A->Option R} {y:R} {Q:A->Prop} (h:∃r,X=some r/\Q r) (b:∀r,Q r->f r=some y):X.bind f=some y:=by obtain ⟨r,h1,h2⟩:=h;rw [h1]; exact b r h2
theorem Anl {α:Type} (l:List α) (p:α->Bool) {step:Int->Option (Int⊕(Int⊕Unit))} {J:Int⊕Unit->Option Int} (k:l.length<4611686018427387904) (g:∀(j:Nat) (x:α),x∈l->decide ((j:Int)<(l.length:Int))=true->Ae l (j:Int)=some x->Aa ((j:Int)+1)=((j+1:Nat):Int) -> step (j:Int)=bif p x then some (.inr (.inl (j:Int))) else some (.inl ((j+1:Nat):Int))) (q:decide ((l.length:Int)<(l.length:Int))=false->step (l.length:Int)=some (.inr (.inr ()))) (c:∀i,J (.inl i)=some i) (b:J (.inr ())=some (-1)):∃i,(Al step 0).bind J=some i/\decide (i>=0)=l.any p:=by
 have key:(Al step 0).bind (λz=>(J z).bind λi=>some (decide (i>=0)))=some (bif l.all (λx=>!p x) then false else true):=by refine P4 l (λx=>!p x) (λj=>(j:Int)) rfl k (λj x hx h1 h2 h3=>?_) (λh=>⟨.inr (),q h,by rw [b]; rfl⟩);have h:=g j x (Cd hx) h1 h2 h3;simp only [h];cases p x with| true=>exact ⟨(λh=>by cases h),λ_=>⟨.inl (j:Int),rfl,by simp only [c,Ad]; rw [Aj ω]⟩⟩| false=>exact ⟨λ_=>rfl,λh=>by cases h⟩
 have e:l.any p=(bif l.all (λx=>!p x) then false else true):=by rw [Axs,List.not_all_eq_any_not]; simp
 rw [e];cases f:Al step 0 with
 | none=>rw [f] at key; cases key
 | some z=>rw [f,Ad] at key;rw [Ad];cases hi:J z with| none=>rw [hi] at key; cases key| some i=>rw [hi,Ad] at key;exact ⟨i,rfl,Option.some.inj key⟩
theorem Yo {S E R α M:Type} {step:S->Option (S⊕E)} {s0:S} {J:E->Option R} (l:List α) (p:α×Nat->Bool) (b:Nat->M->S) (I:M->Prop) (z A:R->Prop) (g:M) (h0:s0=b 0 g) (h:I g) (D:l.length<4611686018427387904) (B:∀(j:Nat) (x:α) (m:M),I m->l[j]? = some x->(∀i y,i<j->l[i]? = some y->p (y,i)=true)->decide ((j:Int)<(l.length:Int))=true->Ae l (j:Int)=some x->Aa ((j:Int)+1)=((j+1:Nat):Int) -> (p (x,j)=true->∃f,step (b j m)=some (.inl (b (j+1) f))/\I f)/\(p (x,j)=false->∃e,step (b j m)=some (.inr e)/\∃r,J e=some r/\A r)) (G:∀m,I m->decide ((l.length:Int)<(l.length:Int))=false->l.zipIdx.all p=true->∃e,step (b l.length m)=some (.inr e)/\∃r,J e=some r/\z r) : ∃r,(Al step s0).bind J=some r/\((l.zipIdx.all p=true/\z r)\/(l.zipIdx.all p=false/\A r)):=by
 have c:∀(j:Nat) (x:α) (m:M),I m->l[j]? = some x->(∀i y,i<j->l[i]? = some y->p (y,i)=true)->_:=λj x m L hx hy=>
  have hj:j<l.length:=Dx hx
  B j x m L hx hy (Aj ω) (Ce rfl hx) (C6 hj D)
 have key:∀n,n<=l.length->(∀i y,i<n->l[i]? = some y->p (y,i)=true)->∃m,I m/\Al step s0=Al step (b n m):=by intro n;induction n with| zero=>intro _ _; exact ⟨g,h,by rw [h0]⟩| succ n ih=>intro U hy;obtain ⟨m,h1,h2⟩:=ih ω (λi y hi=>hy i y ω);have hx:l[n]? = some l[n]:=Bv ω;obtain ⟨f,h3,k⟩:=(c n _ m h1 hx (λi y hi=>hy i y ω)).1 (hy n _ ω hx);exact ⟨f,k,by rw [h2,Ft h3]⟩
 cases hb:l.zipIdx.all p with| true=>obtain ⟨m,h1,h2⟩:=key l.length (Nat.le_refl _) (λi y _ hy=>Hm hb hy);obtain ⟨e,u,r,s,q⟩:=G m h1 ψ hb;exact ⟨r,by rw [h2,Cz u]; exact s,.inl ⟨rfl,q⟩⟩| false=>obtain ⟨j,x,h1,h2,h3⟩:=Ank hb;obtain ⟨m,k,N⟩:=key j (Nat.le_of_lt (Dx h1)) h3;obtain ⟨e,u,r,s,q⟩:=(c j x m k h1 h3).2 h2;exact ⟨r,by rw [N,Cz u]; exact s,.inr ⟨rfl,q⟩⟩
end Go.Ab
namespace Go.Ab
open Go
theorem P5 (l:List Int) (b:l.length<4611686018427387904):J7 l=some (Gx l):=by
 unfold J7;refine He (λv=>∃k:Nat,v=k/\k<=l.length/\Gx (l.take k)=Gx l) (λv=>v.toNat) (λv=>∃k:Nat,v=k/\k<=l.length/\l.take k=Gx l) ⟨l.length,rfl,Nat.le_refl _,ψ⟩ ?_ ?_
 .rintro v ⟨k,rfl,hk,ht⟩;cases k with
  | zero=>exact .inr ⟨0,rfl,0,rfl,ω,by simpa [Gx] using ht⟩
  | succ j=>
   have hw:Aa (((j+1:Nat):Int)-1)=(j:Int):=(by rw [Aa,Bm] <;> omega);have hj:j<l.length:=ω;have hp:decide (((j+1:Nat):Int)>0)=true:=Aj ω;simp only [hp,cond_true,hw,Dv rfl hj,Ad];rw [List.take_succ_eq_append_getElem hj] at ht;by_cases h0:l[j]=0
   .rw [h0,Axp] at ht;exact .inl ⟨j,by rw [Dw h0]; rfl,⟨j,rfl,ω,ht⟩,ω⟩
   .rw [Axq h0] at ht;exact .inr ⟨((j+1:Nat):Int),by rw [Ch h0]; rfl,j+1,rfl,ω,by rw [List.take_succ_eq_append_getElem hj]; exact ht⟩
 .rintro v ⟨k,rfl,hk,ht⟩;rw [Yl rfl hk,ht]; rfl
theorem Anm (l:List Int) (hd:Mj l) (D:l.length<1099511627776):U2 l=some (Af (Ak l).toNat):=by
 unfold U2;have f:Aa ((l.length:Int)+1)=((l.length+1:Nat):Int):=by rw [Aa,Bm] <;> omega
 rw [f,Agt rfl ω ω];simp only [Ad];refine He (λ(c,i,o)=>∃k:Nat,i=k/\k<=l.length/\o.length=k/\B3 o/\0<=c/\c<5/\Ak o+1000000000 ^ k*c=Ak (l.take k)) (λ(_,i,_)=>l.length-i.toNat) (λ(c,o)=>o.length=l.length/\B3 o/\0<=c/\c<5/\Ak o+1000000000 ^ l.length*c=Ak l) ⟨0,rfl,ω,rfl,B3.nil,ω,ω,by simp [Ak]⟩ ?_ ?_
 .rintro ⟨c,i,o⟩ ⟨k,rfl,hk,g,b,q,hc,u⟩;rcases Nat.lt_or_ge k l.length with h | h
  .have hx:=hd l[k] (List.getElem_mem h);refine .inl ⟨((l[k]+c) / 1000000000,((k+1:Nat):Int),o++[(l[k]+c) % 1000000000]),?_,⟨k+1,rfl,ω,by simp [g],b.snoc ω ω,ω,ω,?_⟩,by simp; omega⟩
   .have A:Az l[k]=l[k]:=C7 ω ω;have z:Az (l[k]+c)=l[k]+c:=C7 ω ω;have s:Cl ((l[k]+c) % 1000000000)=(l[k]+c) % 1000000000:=Fr ω ω;have y:Aa ((k:Int)+1)=((k+1:Nat):Int):=(by rw [Aa,Bm] <;> omega);have x:decide ((k:Int)<(l.length:Int))=true:=(by simpa using h);simp only [x,cond_true,Dv rfl h,Ad,A,z,Ka (show 0<=l[k]+c by omega) (show (0:Int)<1000000000 by decide),s,C3 (show (o.length+[(l[k]+c) % 1000000000].length)*4<=_ by simp; omega),Ky (show 0<=l[k]+c by omega) (show l[k]+c<=_ by omega) (show (0:Int)<1000000000 by decide),y]
   .rw [Fs l h,<-u,Kb,g,Int.pow_succ];have:=Int.mul_ediv_add_emod (l[k]+c) 1000000000;grind
  .have j:k=l.length:=ω;subst j;refine .inr ⟨(c,o),ψ,g,b,q,hc,by simpa using u⟩
 .rintro ⟨c,o⟩ ⟨h2,h3,I,G,E⟩;have B:=Gi hd;by_cases hc:c>0
  .have s:Cl c=c:=Fr ω ω;simp only [decide_eq_true hc,cond_true,s,C3 (show (o.length+[c].length)*4<=_ by simp; omega),Ad,P5 (o++[c]) (by simp; omega)];rw [Kz (h3.snoc ω ω) (n:=(Ak l).toNat) (by rw [Kb,h2]; omega)]
  .have:c=0:=ω;subst this;simp only [Int.lt_irrefl,gt_iff_lt,decide_false,cond_false,P5 o ω,Ad];rw [Kz h3 (n:=(Ak l).toNat) ω]
end Go.Ab
namespace Go.Ab
open Go
theorem Nd {n:Nat} (h:n<18446744073709551616):Bi n<=3:=I9 (Nat.lt_of_lt_of_le h δ)
theorem P6 (n:Nat) (h:n<18446744073709551616):Ob n=some (Af n):=by
 unfold Ob;have b:=Nd h;unfold Bi at b;refine He (λ(w,o)=>∃k:Nat,w=k/\k<=n/\o++Af k=Af n) (λ(w,_)=>w.toNat) (λo=>o=Af n) ⟨n,rfl,Nat.le_refl _,ψ⟩ ?_ (by rintro o rfl; rfl);rintro ⟨w,o⟩ ⟨k,rfl,hk,c⟩;by_cases h0:k=0
 .subst h0;rw [Fu,List.append_nil] at c;exact .inr ⟨o,ψ,c⟩
 .have f:o.length<=3:=(by rw [<-c] at b; simp at b; omega);refine .inl ⟨(((k / 1000000000:Nat):Int),o++[((k % 1000000000:Nat):Int)]),?_,⟨k / 1000000000,rfl,ω,by rw [List.append_assoc]; rw [Mk h0] at c; exact c⟩,by simp; omega⟩;have l:decide ((k:Int)>0)=true:=Aj ω;have j:Gp (k:Int) 1000000000=some ((k % 1000000000:Nat):Int):=(by rw [Ka ω δ]; rfl);have i:Cl ((k % 1000000000:Nat):Int)=((k % 1000000000:Nat):Int):=Fr ω ω;have g:Fk .u64 (k:Int) 1000000000=some ((k / 1000000000:Nat):Int):=(by rw [Ky ω ω δ]; rfl);simp only [l,cond_true,j,Ad,i,C3 (show (o.length+[((k % 1000000000:Nat):Int)].length)*4<=_ by simp; omega),g]
def Fi (m n:Nat):Int:=if m<n then -1 else if n<m then 1 else 0
theorem Vj (m n:Nat) (hm:Bi m<1099511627776) (f:Bi n<1099511627776):R0 (Af m) (Af n)=some (Fi m n):=by
 unfold R0;unfold Bi at hm f;by_cases g:(Af m).length=(Af n).length
 .rw [De (by omega:((Af m).length:Int)=(Af n).length),cond_false];have hw:Aa (((Af m).length:Int)-1)=((Af m).length:Int)-1:=(by rw [Aa,Bm] <;> omega);rw [hw];refine He (λv=>∃k:Nat,v=(k:Int)-1/\k<=(Af m).length/\(Af m).drop k=(Af n).drop k) (λv=>(v+1).toNat) (λe=>match e with | .inl r=>r=Fi m n | .inr _=>m=n) ⟨(Af m).length,rfl,Nat.le_refl _,by rw [List.drop_length,g,List.drop_length]⟩ ?_ ?_
  .rintro v ⟨k,rfl,hk,hd⟩;cases k with
   | zero=>refine .inr ⟨.inr (),ψ,?_⟩;have:Af m=Af n:=(by simpa using hd);have:=congrArg Ak this;rw [E6,E6] at this;show m=n;omega
   | succ j=>
    have hj:j<(Af m).length:=ω;have hj':j<(Af n).length:=ω;have i:((j+1:Nat):Int)-1=(j:Int):=ω;have h:decide ((j:Int)>=0)=true:=Aj ω;simp only [i,h,cond_true,Dv rfl hj,Dv rfl hj',Ad];rcases Int.lt_trichotomy (Af m)[j] (Af n)[j] with b | heq | hgt
    .refine .inr ⟨.inl (-1),by rw [Aj b]; rfl,?_⟩;have:=Anj (Er m) hj hj' (Er n) hd b;rw [E6,E6] at this;show (-1:Int)=Fi m n;rw [Fi,if_pos ω]
    .refine .inl ⟨(j:Int)-1,?_,⟨j,rfl,ω,?_⟩,ω⟩
     .rw [An (by omega:¬(Af m)[j]<(Af n)[j]),cond_false,An (by omega:¬(Af m)[j]>(Af n)[j]),cond_false];rw [Aa,Bm ω ω]
     .rw [List.drop_eq_getElem_cons hj,List.drop_eq_getElem_cons hj',hd,heq]
    .refine .inr ⟨.inl 1,by rw [An (by omega:¬(Af m)[j]<(Af n)[j]),cond_false,Aj (by omega:(Af m)[j]>(Af n)[j])]; rfl,?_⟩;have:=Anj (Er n) hj' hj (Er m) hd.symm hgt;rw [E6,E6] at this;show (1:Int)=Fi m n;rw [Fi,if_neg ω,if_pos ω]
  .rintro (e | e) c
   .simp only at c ⊢; rw [c]
   .simp only at c ⊢; rw [Fi,if_neg ω,if_neg ω]
 .rw [Dh (by omega:((Af m).length:Int)≠(Af n).length),cond_true];by_cases b:(Af m).length<(Af n).length
  .rw [Aj (by omega:((Af m).length:Int)<(Af n).length),cond_true];have:=Ani (m:=m) (n:=n) b;rw [Fi,if_pos this]
  .rw [An (by omega:¬((Af m).length:Int)<(Af n).length),cond_false];have:=Ani (m:=n) (n:=m) (by unfold Bi; omega);rw [Fi,if_neg ω,if_pos this]
theorem Agx {l:List Int} (h:B3 l) (c:l≠[]->1000000000 ^ (l.length-1)<=Ak l):Can l:=by refine ⟨h,λb h0=>?_⟩;have h1:=c b;have e:=List.dropLast_concat_getLast b;have h2:B3 l.dropLast:=λd hd=>h d (List.dropLast_subset l hd);have h3:=Jv h2;rw [List.length_dropLast] at h3;have f:=congrArg Ak e;rw [Kb,h0] at f;omega
theorem Jw (l:List Int) {k:Nat} (h:l.length<=k):Ak (l.take k)=Ak l:=by rw [List.take_of_length_le h]
theorem Ano (a b:List Int) (ha:B3 a) (hb:B3 b) (hl:a.length<1099511627776) (hab:b.length<=a.length) (U:a≠[]->1000000000 ^ (a.length-1)<=Ak a) : ((Fj 4 0 (Aa ((a.length:Int)+1)) (0:Int)).bind λZ=> (Al (S:=(Int×Int×(List Int))) (E:=(Int×(List Int))) (λ(v20,v21,u)=> bif v21<(a.length:Int) then ((Ae a v21).bind λv23=> (show Option Int from bif v21<(b.length:Int) then ((Ae b v21).bind λv24=> some (Cl ((Cl (v23+v20))+v24))) else (some (Cl (v23+v20)))).bind λv25=> (Fk .u32 v25 1000000000).bind λv26=> (Gp v25 1000000000).bind λf=> (Ca 4 u [f]).bind λg=> some (.inl (v26,(Aa (v21+1)),g))) else (some (.inr (v20,u)))) (0,0,Z)).bind λ(l,q)=> bif l>(0:Int) then ((Ca 4 q [l]).bind λJ=> some J) else (some q))=some (Af (Ak a+Ak b).toNat):=by
 have A:Aa ((a.length:Int)+1)=((a.length+1:Nat):Int):=by rw [Aa,Bm] <;> omega
 rw [A,Agt rfl ω ω];simp only [Ad];have a7:=Gi ha.u32;have a6:=Gi hb.u32;refine He (λ(c,i,o)=>∃k:Nat,i=k/\k<=a.length/\o.length=k/\B3 o/\0<=c/\c<=1/\Ak o+1000000000 ^ k*c=Ak (a.take k)+Ak (b.take k)) (λ(_,i,_)=>a.length-i.toNat) (λ(c,o)=>o.length=a.length/\B3 o/\0<=c/\c<=1/\Ak o+1000000000 ^ a.length*c=Ak a+Ak b) ⟨0,rfl,ω,rfl,B3.nil,ω,ω,by simp [Ak]⟩ ?_ ?_
 .rintro ⟨c,i,o⟩ ⟨k,rfl,hk,M,z,V,hc,L⟩;rcases Nat.lt_or_ge k a.length with h | h
  .have hx:=ha.get h;have e4:Aa ((k:Int)+1)=((k+1:Nat):Int):=(by rw [Aa,Bm] <;> omega);have e5:decide ((k:Int)<(a.length:Int))=true:=Aj ω;have step:∀s:Int,0<=s->s<2000000000->(show Option Int from bif (k:Int)<(b.length:Int) then ((Ae b k).bind λv24=>some (Cl ((Cl (a[k]+c))+v24))) else some (Cl (a[k]+c)))=some s ->
     Ak (a.take (k+1))+Ak (b.take (k+1))=Ak (a.take k)+Ak (b.take k)+1000000000 ^ k*(s-c) -> (∃s',(bif (k:Int)<(a.length:Int) then ((Ae a k).bind λv23=> (show Option Int from bif (k:Int)<(b.length:Int) then ((Ae b k).bind λv24=> some (Cl ((Cl (v23+c))+v24))) else (some (Cl (v23+c)))).bind λv25=> (Fk .u32 v25 1000000000).bind λv26=> (Gp v25 1000000000).bind λf=> (Ca 4 o [f]).bind λg=> some (.inl (v26,(Aa ((k:Int)+1)),g))) else (some (.inr (c,o))))=some (Sum.inl s':(Int×Int×List Int)⊕(Int×List Int))/\(∃j:Nat,s'.2.1=j/\j<=a.length/\s'.2.2.length=j/\B3 s'.2.2/\0<=s'.1/\s'.1<=1/\Ak s'.2.2+1000000000 ^ j*s'.1=Ak (a.take j)+Ak (b.take j))/\a.length-s'.2.1.toNat<a.length-(k:Int).toNat):=by
    intro s y a1 hs x;refine ⟨(s / 1000000000,((k+1:Nat):Int),o++[s % 1000000000]),?_,⟨k+1,rfl,ω,by simp [M],z.snoc ω ω,by simp; omega,by simp; omega,?_⟩,by simp; omega⟩
    .rw [e5,cond_true,Dv rfl h,Ad,hs,Ad,Agu y ω δ,Ad,Ka y δ,Ad,C3 (by simp; omega),Ad,e4]
    .rw [x,<-L,Kb,M,Int.pow_succ];have:=Int.mul_ediv_add_emod s 1000000000;grind
   refine .inl ?_;rcases Nat.lt_or_ge k b.length with hb' | hb'
   .have hy:=hb.get hb';obtain ⟨s',I,G,D⟩:=step (a[k]+c+b[k]) ω ω (by have B:Cl (a[k]+c)=a[k]+c:=Fr ω ω;have Y:Cl (a[k]+c+b[k])=a[k]+c+b[k]:=Fr ω ω;show (bif (k:Int)<(b.length:Int) then _ else _)=_;rw [Aj (by omega:(k:Int)<(b.length:Int)),cond_true,Dv rfl hb',Ad,B,Y]) (by rw [Fs a h,Fs b hb']; grind);exact ⟨s',I,G,D⟩
   .obtain ⟨s',I,G,D⟩:=step (a[k]+c) ω ω (by have B:Cl (a[k]+c)=a[k]+c:=Fr ω ω;show (bif (k:Int)<(b.length:Int) then _ else _)=_;rw [An (by omega:¬(k:Int)<(b.length:Int)),cond_false,B]) (by rw [Fs a h,Jw b hb',Jw b ω]; grind);exact ⟨s',I,G,D⟩
  .have R:k=a.length:=ω;subst R;refine .inr ⟨(c,o),ψ,M,z,V,hc,?_⟩;rw [List.take_length,Jw b hab] at L;exact L
 .rintro ⟨c,o⟩ ⟨h2,h3,h4,h5,h6⟩;simp only [];by_cases hc:c>0
  .have:c=1:=ω;subst this;rw [Aj hc,cond_true,C3 (by simp; omega),Ad];congr 1;refine Ab9 (Agx (h3.snoc ω ω) λ_=>?_) (by rw [Kb,h2]; omega);rw [Kb,h2];have:=Gi h3.u32;simp [h2]; omega
  .have:c=0:=ω;subst this;rw [An hc,cond_false];congr 1;refine Ab9 (Agx h3 λN=>?_) ω;have X:a≠[]:=(by intro e; rw [e] at h2; exact N (List.length_eq_zero_iff.1 h2));have:=U X;rw [h2]; omega
theorem Ace {n:Nat} (h:Af n≠[]):1000000000 ^ ((Af n).length-1)<=Ak (Af n):=by
 rw [E6];have h1:(Af n).length≠0:=λe=>h (List.length_eq_zero_iff.1 e);have:=Anh (n:=n) (k:=(Af n).length-1) (by unfold Bi; omega);have e:((1000000000 ^ ((Af n).length-1):Nat):Int)=1000000000 ^ ((Af n).length-1):=by rw [Int.natCast_pow]; rfl
 omega
theorem Axt (m n:Nat) (hm:Bi m<1099511627776) (b:Bi n<1099511627776):Xy (Af m) (Af n)=some (Af (m+n)):=by
 unfold Xy;unfold Bi at hm b;by_cases c:(Af m).length<(Af n).length
 .simp only [Aj (by omega:((Af m).length:Int)<(Af n).length),cond_true,Ad];have:=Ano (Af n) (Af m) (Er n) (Er m) b ω Ace;rw [E6,E6] at this;rw [show m+n=((n:Int)+(m:Int)).toNat by omega];exact this
 .simp only [An (by omega:¬((Af m).length:Int)<(Af n).length),cond_false,Ad];have:=Ano (Af m) (Af n) (Er m) (Er n) hm ω Ace;rw [E6,E6] at this;rw [show m+n=((m:Int)+(n:Int)).toNat by omega];exact this
end Go.Ab
namespace Go.Ab
open Go
theorem Kd {k n:Nat} (h:k<n) (b:n<4611686018427387904):Aa ((k:Int)+1)=((k+1:Nat):Int):=by rw [Aa,Bm] <;> omega
theorem Anp (m n:Nat) (hm:Bi m<1099511627776) (B:n<=m):U3 (Af m) (Af n)=some (Af (m-n)):=by
 unfold U3;have E:(Af n).length<=(Af m).length:=Hy B;unfold Bi at hm;rw [Agt rfl ω ω];simp only [Ad];have ha:=Er m;have hb:=Er n;refine He (λ(c,i,o)=>∃k:Nat,i=k/\k<=(Af m).length/\o.length=k/\B3 o/\0<=c/\c<=1/\Ak o=Ak ((Af m).take k)-Ak ((Af n).take k)+1000000000 ^ k*c) (λ(_,i,_)=>(Af m).length-i.toNat) (λo=>∃c:Int,o.length=(Af m).length/\B3 o/\0<=c/\c<=1/\Ak o=(m:Int)-n+1000000000 ^ (Af m).length*c) ⟨0,rfl,ω,rfl,B3.nil,ω,ω,by simp [Ak]⟩ ?_ ?_
 .rintro ⟨c,i,o⟩ ⟨k,rfl,hk,l,g,I,hc,q⟩;rcases Nat.lt_or_ge k (Af m).length with h | h
  .have hx:=ha.get h;have R:=Kd h ω;have N:decide ((k:Int)<((Af m).length:Int))=true:=Aj ω;have L:Aa (Af m)[k]=(Af m)[k]:=Bm ω ω;have J:Aa ((Af m)[k]-c)=(Af m)[k]-c:=Bm ω ω;have key:∀s:Int,-1000000001<=s->s<1000000000->Ak ((Af m).take (k+1))-Ak ((Af n).take (k+1))=Ak ((Af m).take k)-Ak ((Af n).take k)+1000000000 ^ k*(s+c) ->
     ∃(f:Int) (d:Int),(bif decide (s<0) then ((Ca 4 o [(Cl (Aa (s+1000000000)))]).bind λA=>some (Sum.inl (1,(Aa ((k:Int)+1)),A))) else ((Ca 4 o [(Cl s)]).bind λz=>some (Sum.inl (0,(Aa ((k:Int)+1)),z))))=some (Sum.inl (f,((k+1:Nat):Int),o++[d]):(Int×Int×List Int)⊕List Int) /\ (-1000000000<=s->(∃j:Nat,((k+1:Nat):Int)=j/\j<=(Af m).length/\(o++[d]).length=j/\B3 (o++[d])/\0<=f/\f<=1/\Ak (o++[d])=Ak ((Af m).take j)-Ak ((Af n).take j)+1000000000 ^ j*f)):=by
    intro s h1 h2 b;by_cases M:s<0
    .refine ⟨1,Cl (Aa (s+1000000000)),by rw [Aj M,cond_true,C3 (by simp; omega),Ad,R],λh3=>?_⟩;have V:Aa (s+1000000000)=s+1000000000:=Bm ω ω;have u:Cl (s+1000000000)=s+1000000000:=Fr ω ω;rw [V,u];refine ⟨k+1,rfl,ω,by simp [l],g.snoc ω ω,ω,ω,?_⟩;rw [b,Kb,l,q,Int.pow_succ]; grind
    .refine ⟨0,Cl s,by rw [An M,cond_false,C3 (by simp; omega),Ad,R],λh3=>?_⟩;have u:Cl s=s:=Fr ω ω;rw [u];refine ⟨k+1,rfl,ω,by simp [l],g.snoc ω ω,ω,ω,?_⟩;rw [b,Kb,l,q,Int.pow_succ]; grind
   refine .inl ?_;rcases Nat.lt_or_ge k (Af n).length with hb' | hb'
   .have hy:=hb.get hb';have U:Aa (Af n)[k]=(Af n)[k]:=Bm ω ω;have S:Aa ((Af m)[k]-c-(Af n)[k])=(Af m)[k]-c-(Af n)[k]:=Bm ω ω;obtain ⟨f,d,y,x⟩:=key ((Af m)[k]-c-(Af n)[k]) ω ω (by rw [Fs _ h,Fs _ hb']; grind);refine ⟨(f,((k+1:Nat):Int),o++[d]),?_,x ω,by simp; omega⟩;rw [<-y];simp only [N,cond_true,Dv rfl h,Ad,L,J,Aj (by omega:(k:Int)<((Af n).length:Int)),Dv rfl hb',U,S]
   .obtain ⟨f,d,y,x⟩:=key ((Af m)[k]-c) ω ω (by rw [Fs _ h,Jw (Af n) hb',Jw (Af n) ω]; grind);refine ⟨(f,((k+1:Nat):Int),o++[d]),?_,x ω,by simp; omega⟩;rw [<-y];simp only [N,cond_true,Dv rfl h,Ad,L,J,An (by omega:¬(k:Int)<((Af n).length:Int)),cond_false]
  .have G:k=(Af m).length:=ω;subst G;refine .inr ⟨o,ψ,c,l,g,I,hc,?_⟩;rw [List.take_length,Jw _ E,E6,E6] at q;exact q
 .rintro o ⟨c,h2,h3,Z,Y,X⟩;have D:=Jv h3;rw [h2] at D;have hp:=Kc (Af m).length;have:c=0:=by
   rcases Int.lt_or_le 0 c with hc | hc
   .have:c=1:=ω;subst this;omega
   .omega
  subst this;rw [P5 o ω,Ad,Kz h3 (n:=m-n) ω]
theorem Agy (m d:Nat) (hm:Bi m<1099511627776) (hd:0<d) (M:d<4294967296):R9 (Af m) d=some (Af (m / d),((m % d:Nat):Int)):=by
 unfold R9;unfold Bi at hm;rw [Ju rfl rfl (Nat.le_refl _) ω ω];simp only [Ad];have ha:=Er m;have hw:Aa (((Af m).length:Int)-1)=((Af m).length:Int)-1:=by rw [Aa,Bm] <;> omega
 rw [hw];refine He (λ(r,i,o)=>∃k:Nat,i=(k:Int)-1/\k<=(Af m).length/\o.length=(Af m).length/\B3 o/\0<=r/\r<d/\Ak (o.drop k)*d+r=Ak ((Af m).drop k)) (λ(_,i,_)=>(i+1).toNat) (λ(r,o)=>o.length=(Af m).length/\B3 o/\0<=r/\r<d/\Ak o*d+r=m) ⟨(Af m).length,rfl,Nat.le_refl _,ψ,B3.replicate _,ω,ω,by simp [Ak]⟩ ?_ ?_
 .rintro ⟨r,i,o⟩ ⟨k,rfl,hk,A,g,s,L,z⟩;cases k with
  | zero=>exact .inr ⟨(r,o),ψ,A,g,s,L,by simpa [E6] using z⟩
  | succ j=>
   have hj:j<(Af m).length:=ω;have h:j<o.length:=ω;have hx:=ha.get hj;have V:((j+1:Nat):Int)-1=(j:Int):=ω;have U:decide ((j:Int)>=0)=true:=Aj ω;have I:Az (r*1000000000)=r*1000000000:=C7 ω ω;have G:Az (Af m)[j]=(Af m)[j]:=C7 ω ω;have E:Az (r*1000000000+(Af m)[j])=r*1000000000+(Af m)[j]:=C7 ω ω;have b:(0:Int)<(d:Int):=ω;have c:0<=r*1000000000+(Af m)[j]:=ω;have f:0<=(r*1000000000+(Af m)[j]) / (d:Int):=Int.ediv_nonneg c ω;have u:(r*1000000000+(Af m)[j]) / (d:Int)<1000000000:=(by apply Int.ediv_lt_of_lt_mul b;have:(r+1)*1000000000<=d*1000000000:=Int.mul_le_mul_of_nonneg_right ω δ;omega);have D:Cl ((r*1000000000+(Af m)[j]) / (d:Int))=(r*1000000000+(Af m)[j]) / (d:Int):=Fr f ω;have y:=Int.emod_nonneg (r*1000000000+(Af m)[j]) (by omega:(d:Int)≠0);have x:=Int.emod_lt_of_pos (r*1000000000+(Af m)[j]) b;have B:Aa ((j:Int)-1)=(j:Int)-1:=(by rw [Aa,Bm] <;> omega);refine .inl ⟨((r*1000000000+(Af m)[j]) % (d:Int),(j:Int)-1,o.set j ((r*1000000000+(Af m)[j]) / (d:Int))),?_,⟨j,rfl,ω,by simpa using A,g.set _ f u,y,x,?_⟩,ψ⟩
   .simp only [V,U,cond_true,Dv rfl hj,Dv rfl h,Ad,I,G,E,Ky c ω b,Ka c b,D,B,Fh rfl]
   .have d1:(o.set j ((r*1000000000+(Af m)[j]) / (d:Int))).drop j=((r*1000000000+(Af m)[j]) / (d:Int))::o.drop (j+1):=(by rw [List.drop_eq_getElem_cons (by simpa using h),List.drop_set_of_lt ω]; simp);rw [d1,List.drop_eq_getElem_cons hj];simp only [Ak];rw [<-z];have:=Int.mul_ediv_add_emod (r*1000000000+(Af m)[j]) (d:Int);grind
 .rintro ⟨r,o⟩ ⟨h2,h3,S,R,N⟩;simp only [];have J:=Gi h3.u32;have l:((m / d:Nat):Int)=Ak o/\((m % d:Nat):Int)=r:=(by have b:(0:Int)<(d:Int):=ω;have e:=Int.ediv_emod_unique b (r:=r) (q:=Ak o) (a:=(m:Int));have:=e.2 ⟨by rw [<-N]; grind,S,R⟩;exact ⟨by rw [Int.natCast_ediv]; exact this.1,by rw [Int.natCast_emod]; exact this.2⟩);rw [P5 o ω,Ad,Kz h3 l.1.symm,l.2]
end Go.Ab
namespace Go.Ab
open Go
theorem Acf {x y:Int} (hx:0<=x) (c:x<1000000000) (hy:0<=y) (b:y<1000000000):0<=x*y/\x*y<=999999998000000001:=by refine ⟨Int.mul_nonneg hx hy,?_⟩;have h1:x*y<=999999999*y:=Int.mul_le_mul_of_nonneg_right ω hy;omega
theorem Yp (m n:Nat) (hm:Bi m<549755813888) (hn:Bi n<549755813888):Oa (Af m) (Af n)=some (Af (m*n)):=by
 unfold Oa;unfold Bi at hm hn;by_cases hz:m=0\/n=0
 .have:(show OB from bif (((Af m).length:Int)==(0:Int)) then some true else some (((Af n).length:Int)==(0:Int)))=some true:=by
   show (bif (((Af m).length:Int)==(0:Int)) then some true else some (((Af n).length:Int)==(0:Int)))=some true;by_cases h:m=0
   .subst h; rw [Fu]; rfl
   .have y:n=0:=ω;subst y;rw [Ch (by have:=Ic h; have:(Af m).length≠0:=λe=>this (List.length_eq_zero_iff.1 e); omega),Fu]; rfl
  rw [this,Ad,cond_true];have:m*n=0:=(by rcases hz with rfl | rfl <;> simp);rw [this,Fu]
 .have I:m≠0:=ω;have y:n≠0:=ω;have aa:(Af m).length≠0:=λe=>Ic I (List.length_eq_zero_iff.1 e);have a8:(Af n).length≠0:=λe=>Ic y (List.length_eq_zero_iff.1 e);simp only [Ch (by omega:((Af m).length:Int)≠0),Ch (by omega:((Af n).length:Int)≠0),cond_false,Ad];have hw:Aa (((Af m).length:Int)+((Af n).length:Int))=(((Af m).length+(Af n).length:Nat):Int):=(by rw [Aa,Bm] <;> omega);rw [hw,Ju rfl rfl (Nat.le_refl _) ω ω];simp only [Ad];have ha:=Er m;have hb:=Er n;refine He (λ(i,o)=>∃k:Nat,i=k/\k<=(Af m).length/\o.length=(Af m).length+(Af n).length/\B3 o/\o.drop (k+(Af n).length)=List.replicate ((Af m).length-k) 0/\Ak o=Ak ((Af m).take k)*n) (λ(i,_)=>(Af m).length-i.toNat) (λo=>o.length=(Af m).length+(Af n).length/\B3 o/\Ak o=((m*n:Nat):Int)) ⟨0,rfl,ω,ψ,B3.replicate _,by rw [List.drop_replicate]; congr 1; omega,by simp [Ab7,Ak]⟩ ?_ ?_
  .rintro ⟨i,o⟩ ⟨k,rfl,hk,R,D,L,G⟩;rcases Nat.lt_or_ge k (Af m).length with h | h
   .have hx:=ha.get h;have e4:=Kd h ω;have e5:decide ((k:Int)<((Af m).length:Int))=true:=Aj ω;simp only [e5,cond_true];refine .inl (Ab4 (Fe (λ(c,j,o')=>∃q:Nat,j=q/\q<=(Af n).length/\o'.length=(Af m).length+(Af n).length/\B3 o'/\o'.drop (k+(Af n).length)=List.replicate ((Af m).length-k) 0/\0<=c/\c<1000000000 /\ Ak o' + 1000000000 ^ (k+q)*c=Ak o+1000000000 ^ k*((Af m)[k]*Ak ((Af n).take q))) (λ(_,j,_)=>(Af n).length-j.toNat) (λ(c,j,o')=>o'.length=(Af m).length+(Af n).length/\B3 o'/\o'.drop (k+(Af n).length)=List.replicate ((Af m).length-k) 0/\0<=c/\c<1000000000 /\ Ak o' + 1000000000 ^ (k+(Af n).length)*c=Ak o+1000000000 ^ k*((Af m)[k]*n)) ⟨0,rfl,ω,R,D,L,ω,ω,by simp [Ak]⟩ ?_ ?_))
    .rintro ⟨c,j,o'⟩ ⟨q,rfl,hq,l,b,f,z,hc,x⟩;rcases Nat.lt_or_ge q (Af n).length with hq' | hq'
     .have hy:=hb.get hq';have g:k+q<o'.length:=ω;have a1:=b.get g;have a6:=Acf hx.1 hx.2 hy.1 hy.2;have Y:Az (Af m)[k]=(Af m)[k]:=C7 ω ω;have X:Az (Af n)[q]=(Af n)[q]:=C7 ω ω;have V:Az ((Af m)[k]*(Af n)[q])=(Af m)[k]*(Af n)[q]:=C7 ω ω;have U:Az o'[k+q]=o'[k+q]:=C7 ω ω;have S:Az ((Af m)[k]*(Af n)[q]+o'[k+q])=(Af m)[k]*(Af n)[q]+o'[k+q]:=C7 ω ω;have N:Az ((Af m)[k]*(Af n)[q]+o'[k+q]+c)=(Af m)[k]*(Af n)[q]+o'[k+q]+c:=C7 ω ω;have e6:=Kd hq' ω;have e7:decide ((q:Int)<((Af n).length:Int))=true:=Aj ω;have M:Aa ((k:Int)+(q:Int))=((k+q:Nat):Int):=(by rw [Aa,Bm] <;> omega);generalize hs:(Af m)[k]*(Af n)[q]+o'[k+q]+c=s at N;have A:0<=s:=ω;have a7:s<1000000000000000000:=ω;have E:Cl (s % 1000000000)=s % 1000000000:=Fr ω ω;refine .inl ⟨(s / 1000000000,((q+1:Nat):Int),o'.set (k+q) (s % 1000000000)),?_,⟨q+1,rfl,ω,by simpa using l,b.set _ ω ω,?_,ω,ω,?_⟩,by simp; omega⟩
      .simp only [e7,cond_true,Dv rfl h,Dv rfl hq',M,Dv rfl g,Ad,Y,X,V,U,S,hs,N,Ka A (show (0:Int)<1000000000 by decide),Ky A (show s<=_ by omega) (show (0:Int)<1000000000 by decide),E,e6,Fh rfl]
      .rw [List.drop_set_of_lt ω]; exact f
      .rw [Ll _ g,Fs _ hq'];have:=Int.mul_ediv_add_emod s 1000000000;have Z:(1000000000:Int) ^ (k+(q+1))=1000000000 ^ (k+q)*1000000000:=(by rw [<-Nat.add_assoc,Int.pow_succ]);have p2:(1000000000:Int) ^ (k+q)=1000000000 ^ k*1000000000 ^ q:=Int.pow_add ..;rw [Z];grind
     .have:q=(Af n).length:=ω;subst this;refine .inr ⟨(c,_,o'),by simp; rfl,l,b,f,z,hc,?_⟩;rw [List.take_length,E6] at x;exact x
    .rintro ⟨c,j,o'⟩ ⟨l,b,f,z,hc,x⟩;have M:Aa ((k:Int)+((Af n).length:Int))=((k+(Af n).length:Nat):Int):=(by rw [Aa,Bm] <;> omega);have g:k+(Af n).length<o'.length:=ω;have E:Cl c=c:=Fr ω ω;have u:o'[k+(Af n).length]=0:=(by have:=congrArg List.head? f;rw [List.head?_drop,Bv g] at this;have B:(List.replicate ((Af m).length-k) (0:Int)).head? = some 0:=(by cases hh:(Af m).length-k with| zero=>omega| succ t=>rfl);rw [B] at this;exact Option.some.inj this);refine ⟨_,by simp only [M,Dv rfl g,Ad,E,e4,Fh rfl]; rfl,_,rfl,⟨k+1,rfl,ω,by simpa using l,b.set _ z hc,?_,?_⟩,by simp; omega⟩
     .rw [List.drop_set_of_lt ω,show k+1+(Af n).length=(k+(Af n).length)+1 by omega,<-List.drop_drop,f,List.drop_replicate];congr 1
     .rw [Ll _ g,u,Fs _ h,Int.add_mul,<-G];grind
   .have J:k=(Af m).length:=ω;subst J;refine .inr ⟨o,ψ,R,D,?_⟩;rw [List.take_length,E6] at G;rw [G]; simp
  .rintro o ⟨h2,h3,h4⟩;rw [P5 o ω,Ad,Kz h3 h4]
theorem Anq (a:List Int) (m:Nat) (ha:B3 a) (V:a.length<1099511627776) (hm:m<1000000000) : ∃o,Vb a m=some o/\o.length=a.length+1/\B3 o/\Ak o=Ak a*m:=by
 unfold Vb;have u:Aa ((a.length:Int)+1)=((a.length+1:Nat):Int):=by rw [Aa,Bm] <;> omega
 rw [u,Ju rfl rfl (Nat.le_refl _) ω ω];simp only [Ad];refine Fe (λ(c,i,o)=>∃k:Nat,i=k/\k<=a.length/\o.length=a.length+1/\B3 o/\o.drop k=List.replicate (a.length+1-k) 0/\0<=c/\c<1000000000/\Ak o+1000000000 ^ k*c=Ak (a.take k)*m) (λ(_,i,_)=>a.length-i.toNat) (λ(c,o)=>o.length=a.length+1/\B3 o/\o.drop a.length = [0]/\0<=c/\c<1000000000/\Ak o+1000000000 ^ a.length*c=Ak a*m) ⟨0,rfl,ω,ψ,B3.replicate _,ψ,ω,ω,by simp [Ak,Ab7]⟩ ?_ ?_
 .rintro ⟨c,i,o⟩ ⟨k,rfl,hk,B,q,g,z,hc,I⟩;rcases Nat.lt_or_ge k a.length with h | h
  .have hx:=ha.get h;have f:k<o.length:=ω;have G:=Acf hx.1 hx.2 (show (0:Int)<=m by omega) ω;have U:=Kd h ω;have S:decide ((k:Int)<(a.length:Int))=true:=Aj ω;have E:Az a[k]=a[k]:=C7 ω ω;have D:Az (a[k]*(m:Int))=a[k]*m:=C7 ω ω;have A:Az (a[k]*(m:Int)+c)=a[k]*m+c:=C7 ω ω;have b:o[k]=0:=(by have:=congrArg List.head? g;rw [List.head?_drop,Bv f] at this;have l:(List.replicate (a.length+1-k) (0:Int)).head? = some 0:=(by cases X:a.length+1-k with| zero=>omega| succ t=>rfl);rw [l] at this;exact Option.some.inj this);generalize L:a[k]*(m:Int)+c=s at A;have j:0<=s:=ω;have J:s<1000000000000000000:=ω;have x:Cl (s % 1000000000)=s % 1000000000:=Fr ω ω;refine .inl ⟨(s / 1000000000,((k+1:Nat):Int),o.set k (s % 1000000000)),?_,⟨k+1,rfl,ω,by simpa using B,q.set _ ω ω,?_,ω,ω,?_⟩,by simp; omega⟩
   .simp only [S,cond_true,Dv rfl h,Dv rfl f,Ad,E,D,L,A,Ka j (show (0:Int)<1000000000 by decide),Ky j (show s<=_ by omega) (show (0:Int)<1000000000 by decide),x,U,Fh rfl]
   .rw [List.drop_set_of_lt ω,<-List.drop_drop,g,List.drop_replicate]; congr 1
   .rw [Ll _ f,b,Fs _ h,Int.pow_succ];have:=Int.mul_ediv_add_emod s 1000000000;grind
  .have y:k=a.length:=ω;subst y;refine .inr ⟨(c,o),ψ,B,q,by rw [g]; simp,z,hc,by rwa [List.take_length] at I⟩
 .rintro ⟨c,o⟩ ⟨h2,h3,g,R,N,M⟩;have f:a.length<o.length:=ω;have x:Cl c=c:=Fr ω ω;have b:o[a.length]=0:=(by have:=congrArg List.head? g;rw [List.head?_drop,Bv f] at this;exact Option.some.inj this);refine ⟨o.set a.length c,by simp only [Dv rfl f,Ad,x,Fh rfl],by simpa using h2,h3.set _ R N,?_⟩;rw [Ll _ f,b,<-M]; grind
end Go.Ab
namespace Go.Ab
open Go
theorem P7 {α:Type} {l:List α} {off n:Nat} {i:Int} {k:Nat} (hi:i=k) (hk:k<n) (h:off+k<l.length):Ep l off n i=some l[off+k]:=by subst hi;have h1:(0:Int)<=(k:Int):=ω;have h2:(k:Int)<(n:Int):=ω;simp [Ep,hk,h]
theorem Axu {P j k tb hb V U q g B:Int} (i:0<P) (u:V=j+P*tb) (l:0<=j) (x:U=k+P*hb) (s:k<P) (hq:q*V<=U) (c:0<=g) (h:hb<g*tb) (b:0<=tb):q<g:=by
 rcases Int.lt_or_le q g with h' | h'
 .exact h'
 .exfalso;have f:0<=V:=(by have:=Int.mul_nonneg (Int.le_of_lt i) b;omega);have h1:g*V<=q*V:=Int.mul_le_mul_of_nonneg_right h' f;have h2:g*(P*tb)<=g*V:=Int.mul_le_mul_of_nonneg_left ω c;have h3:P*(hb+1)<=P*(g*tb):=Int.mul_le_mul_of_nonneg_left ω (Int.le_of_lt i);have z:g*(P*tb)=P*(g*tb):=(by grind);have y:P*(hb+1)=P*hb+P:=(by grind);omega
theorem Anr {P j k tb hb V U q g:Int} (i:0<P) (y:V=j+P*tb) (s:j<P) (z:U=k+P*hb) (u:0<=k) (hq:U<(q+1)*V) (l:0<=g) (hgt:g<=tb+1) (h:g*tb<=hb) (b:0<V):g<=q+1:=by
 rcases Int.lt_or_le (q+1) g with h' | h'
 .exfalso;have f:0<=g-1:=by
   rcases Int.lt_or_le g 1 with h2 | h2
   .have:g=0:=ω;subst this;have c:q+1<0:=h';have:(q+1)*V<0:=Int.mul_neg_of_neg_of_pos c b;have h0:0<=hb:=(by simpa using h);have:=Int.mul_nonneg (Int.le_of_lt i) h0;omega
   .omega
  have h1:(q+1)*V<=(g-1)*V:=Int.mul_le_mul_of_nonneg_right ω (Int.le_of_lt b);have x:P*(tb+1)=P*tb+P:=(by grind);have h2:(g-1)*V<=(g-1)*(P*(tb+1)):=Int.mul_le_mul_of_nonneg_left ω f;have h3:(g-1)*(P*(tb+1))=P*(g*tb+(g-tb-1)):=(by grind);have A:P*(g*tb+(g-tb-1))<=P*hb:=Int.mul_le_mul_of_nonneg_left ω (Int.le_of_lt i);omega
 .exact h'
theorem Axv {A C:Type} {X:Option (A×C)} {Q:A->C->Prop} (h:∃r,X=some r/\Q r.1 r.2):∃q o,X=some (q,o)/\Q q o:=by obtain ⟨⟨a,c⟩,h1,h2⟩:=h;exact ⟨a,c,h1,h2⟩
theorem al1 {g t r h:Int} (k:g*t+r=h):(g-1)*t+(r+t)=h:=by grind
theorem al2 {o P s x b p d:Int} (e:s-1000000000*d=x-b-p):o+P*(s-x)-P*1000000000*d=(o-P*b)-P*p:=by grind
theorem al3 (b X K g A y:Int):b-X*(g*A)-X*K*(g*y)=b-X*(g*(A+K*y)):=by grind
theorem al4 {u X W N c U b g V:Int} (h:u+X*(W+N*c-U)-X*N*b=u-X*(g*V)):X*(U-g*V)=X*(W+N*(c-b)):=by grind
theorem al5 (u X q:Int):u-X*q-u=X*(-q):=by grind
theorem al6 {o P x b r:Int} (h:o-P*b=r):o+P*(x-b-x)=r:=by grind
theorem al7 {b X K c s x y o A:Int} (g:x+y+c=s) (f:1000000000*(s / 1000000000)+s % 1000000000=s) (h:b+X*K*c=o+X*A):b+X*K*(s % 1000000000-x)+X*K*1000000000*(s / 1000000000)=o+X*(A+K*y):=by grind
theorem al8 {o X N b u q V W f U c:Int} (h1:o-X*N*b=u-X*((q+1)*V)) (h2:u+X*(W+N*f-U)+X*N*c=o+X*V):X*(U-q*V)=X*(W+N*(f-b+c)):=by grind
theorem al9 {g P c o X V b u q f:Int} (h1:g+P*c=o+X*V) (h2:o-P*b=u-X*((q+1)*V)) (h3:f=b-c):g+P*(0-f)=u-X*(q*V):=by grind
theorem gtb {g t r h x:Int} (k:g*t+r=h):g*(t*1000000000+x)=(h-r)*1000000000+g*x:=by subst k; grind
theorem Agz {k:Nat} {x y:Int} (h:(1000000000:Int) ^ k*x=1000000000 ^ k*y):x=y:=Int.eq_of_mul_eq_mul_left (by have:=Kc k; omega) h
theorem Ans {o u:List Int} {off:Nat} (b:off<=o.length) (hu:off<=u.length) (h:o.take off=u.take off):Ak o-Ak u=1000000000 ^ off*(Ak (o.drop off)-Ak (u.drop off)):=by rw [Nb o off b,Nb u off hu,h]; grind
theorem Acg {l:List Int} (h:B3 l) (k:Nat):0<=Ak (l.drop k):=Gi (h.drop k).u32
theorem Axw {D:List Int} (b:B3 D) {n:Nat} (h2:2<=n) (i:n<D.length) (g:Ak D<1000000000 ^ (n+1)) : Ak D=Ak (D.take (n-2))+1000000000 ^ (n-2)*((D[n]*1000000000+D[n-1])*1000000000+D[n-2]):=by
 have e:=Nb D (n+1) i;have h0:Ak (D.drop (n+1))=0:=by
  have s:=Acg b (n+1);have ht:=Gi ((b.take (n+1)).u32);rcases Int.lt_or_le 0 (Ak (D.drop (n+1))) with h | h
  .have:(1000000000:Int) ^ (n+1)*1<=1000000000 ^ (n+1)*Ak (D.drop (n+1)):=Int.mul_le_mul_of_nonneg_left h (Int.le_of_lt (Kc _));omega
  .omega
 rw [h0,Int.mul_zero,Int.add_zero] at e;obtain ⟨t,rfl⟩:∃t,n=t+2:=⟨n-2,ω⟩;have q:=Fs D (k:=t) ω;have l:=Fs D (k:=t+1) ω;have j:=Fs D (k:=t+2) ω;have f:(1000000000:Int) ^ (t+1)=1000000000 ^ t*1000000000:=Int.pow_succ ..;have c:(1000000000:Int) ^ (t+2)=1000000000 ^ (t+1)*1000000000:=Int.pow_succ ..;have i1:t+2-2=t:=rfl;have i2:t+2-1=t+1:=rfl;simp only [i1,i2];rw [e,j,l,q,c,f];grind
theorem Axx {v:List Int} {n:Nat} (h2:2<=n) (g:v.length=n) : Ak v=Ak (v.take (n-2))+1000000000 ^ (n-2)*(v[n-1]*1000000000+v[n-2]):=by obtain ⟨t,rfl⟩:∃t,n=t+2:=⟨n-2,ω⟩;have f:=Fs v (k:=t) ω;have b:=Fs v (k:=t+1) ω;have e:v.take (t+1+1)=v:=List.take_of_length_le ω;rw [e] at b;have c:(1000000000:Int) ^ (t+1)=1000000000 ^ t*1000000000:=Int.pow_succ ..;have i1:t+2-2=t:=rfl;have i2:t+2-1=t+1:=rfl;simp only [i1,i2];rw [b,f,c];grind
set_option maxHeartbeats 1000000 in
theorem Axy (v u:List Int) (off n:Nat) (hv:B3 v) (hu:B3 u) (hn:v.length=n) (h2:2<=n) (bz:n<1099511627776) (bo:500000000<=v[n-1]) (X:off+n<u.length) (hT:Ak (u.drop off)<Ak v*1000000000) : ∃q o,X9 off (n+1) v u=some (q,o)/\o.length=u.length/\B3 o/\0<=q/\q<1000000000/\Ak o=Ak u-1000000000 ^ off*(q*Ak v)/\0<=Ak (o.drop off)/\Ak (o.drop off)<Ak v:=by
 have b7:=Jv hv;rw [hn] at b7;have c3:(u.drop off).length=u.length-off:=List.length_drop;have A:=hu.drop off;have bn:=Gi A.u32;have b9:Ak (u.drop off)<1000000000 ^ (n+1):=by rw [Int.pow_succ]; omega
 have ab:=Axw A h2 ω b9;have ao:=Axx h2 hn;have gd:∀i (h:i<(u.drop off).length),(u.drop off)[i]=u[off+i]' ω:=λi h=>List.getElem_drop;rw [gd,gd,gd] at ab;have br:=hu.get (i:=off+n) ω;have bu:=hu.get (i:=off+(n-1)) ω;have bt:=hu.get (i:=off+(n-2)) ω;have bv:=hv.get (i:=n-1) ω;have ad:=hv.get (i:=n-2) ω;have hP:=Kc (n-2);have b8:=Gi ((hv.take (n-2)).u32);have aa:=Jv (hv.take (n-2));rw [List.length_take,Nat.min_eq_left ω] at aa;have bb:=Gi ((A.take (n-2)).u32);have ba:=Jv (A.take (n-2));rw [List.length_take,Nat.min_eq_left ω] at ba;have y:0<Ak v:=by have:(1000000000:Int) ^ (n-2)*1<=1000000000 ^ (n-2)*(v[n-1]*1000000000+v[n-2]):=Int.mul_le_mul_of_nonneg_left ω (Int.le_of_lt hP);omega
 generalize hq:Ak (u.drop off) / Ak v=q;have bi:q*Ak v<=Ak (u.drop off):=by rw [<-hq]; exact Int.ediv_mul_le _ ω
 have ar:Ak (u.drop off)<(q+1)*Ak v:=by rw [<-hq];have:=Int.lt_ediv_add_one_mul_self (Ak (u.drop off)) y;exact this
 have ag:0<=q:=by rw [<-hq]; exact Int.ediv_nonneg bn ω
 have bg:q<1000000000:=by rw [<-hq]; exact Int.ediv_lt_of_lt_mul y (by rw [Int.mul_comm]; exact hT)
 have l:(0:Int)<v[n-1]:=ω;generalize ak:u[off+n]*1000000000+u[off+(n-1)]=head at ab;have am:0<=head:=ω;have c1:head<=v[n-1]*1000000000+v[n-2]:=by
  rcases Int.lt_or_le (v[n-1]*1000000000+v[n-2]) head with h | h
  .exfalso;have a1:(1000000000:Int) ^ (n-2)*((v[n-1]*1000000000+v[n-2]+1)*1000000000)<=1000000000 ^ (n-2)*(head*1000000000+u[off+(n-2)]):=Int.mul_le_mul_of_nonneg_left ω (Int.le_of_lt hP);have a2:Ak v*1000000000<(1000000000 ^ (n-2)*(v[n-1]*1000000000+v[n-2]+1))*1000000000:=(by have:(1000000000:Int) ^ (n-2)*(v[n-1]*1000000000+v[n-2]+1)=1000000000 ^ (n-2)*(v[n-1]*1000000000+v[n-2])+1000000000 ^ (n-2):=(by grind);omega);have a3:((1000000000:Int) ^ (n-2)*(v[n-1]*1000000000+v[n-2]+1))*1000000000=1000000000 ^ (n-2)*((v[n-1]*1000000000+v[n-2]+1)*1000000000):=(by grind);omega
  .exact h
 have c2:0<=head / v[n-1]:=Int.ediv_nonneg am ω;have bl:head / v[n-1]<=1000000001:=by have:head / v[n-1]<1000000002:=Int.ediv_lt_of_lt_mul l ω;omega
 have bf:=Int.emod_nonneg head (by omega:v[n-1]≠0);have bw:=Int.emod_lt_of_pos head l;have bm:=Int.mul_ediv_add_emod head v[n-1];unfold X9;have w1:Aa ((v.length:Int)-1)=((n-1:Nat):Int):=by rw [Aa,Bm] <;> omega
 have w2:Aa ((v.length:Int)-2)=((n-2:Nat):Int):=by rw [Aa,Bm] <;> omega
 have w3:(v.length:Int)=((n:Nat):Int):=ω;have x1:Az u[off+n]=u[off+n]:=C7 ω ω;have x2:Az (u[off+n]*1000000000)=u[off+n]*1000000000:=C7 ω ω;have x3:Az u[off+(n-1)]=u[off+(n-1)]:=C7 ω ω;have x4:Az (u[off+n]*1000000000+u[off+(n-1)])=head:=by rw [Az,C7 ω ω,ak]
 have x5:Az v[n-1]=v[n-1]:=C7 ω ω;have x6:Az v[n-2]=v[n-2]:=C7 ω ω;have x7:Az u[off+(n-2)]=u[off+(n-2)]:=C7 ω ω;rw [w1,w2,Dv rfl (by omega:n-1<v.length),Ad,Dv rfl (by omega:n-2<v.length),Ad,w3,P7 rfl (by omega:n<n+1) ω,Ad,P7 rfl (by omega:n-1<n+1) ω,Ad,x1,x2,x3,x4,x5,x6,Ky am ω l,Ad,Ka am l,Ad];refine Axv (Fe (λ(g,rest)=>g*v[n-1]+rest=head/\0<=rest/\rest<2000000000/\q<=g/\g<=1000000001) (λ(g,_)=>g.toNat) (λg=>q<=g/\g<=q+1/\g<=1000000000) ⟨by rw [Int.mul_comm]; exact bm,bf,ω,?_,bl⟩ ?_ ?_)
 .rcases Int.lt_or_le (head / v[n-1]) q with h | h
  .exfalso;have a1:(head / v[n-1]+1)*v[n-1]<=q*v[n-1]:=Int.mul_le_mul_of_nonneg_right ω ω;have a2:head<(head / v[n-1]+1)*v[n-1]:=Int.lt_ediv_add_one_mul_self head l;have a3:q*(1000000000 ^ (n-2)*(v[n-1]*1000000000+v[n-2]))<=q*Ak v:=Int.mul_le_mul_of_nonneg_left ω ag;have a4:(1000000000:Int) ^ (n-2)*((head+1)*1000000000)<=1000000000 ^ (n-2)*(q*(v[n-1]*1000000000+v[n-2])):=(by apply Int.mul_le_mul_of_nonneg_left _ (Int.le_of_lt hP);have b1:(head+1)*1000000000<=q*v[n-1]*1000000000:=ω;have b2:0<=q*v[n-2]:=Int.mul_nonneg ag ad.1;have b3:q*(v[n-1]*1000000000+v[n-2])=q*v[n-1]*1000000000+q*v[n-2]:=(by grind);omega);have a5:q*((1000000000:Int) ^ (n-2)*(v[n-1]*1000000000+v[n-2]))=1000000000 ^ (n-2)*(q*(v[n-1]*1000000000+v[n-2])):=(by grind);have a6:(1000000000:Int) ^ (n-2)*((head+1)*1000000000)=1000000000 ^ (n-2)*(head*1000000000)+1000000000 ^ (n-2)*1000000000:=(by grind);have a7:(1000000000:Int) ^ (n-2)*(head*1000000000+u[off+(n-2)])=1000000000 ^ (n-2)*(head*1000000000)+1000000000 ^ (n-2)*u[off+(n-2)]:=(by grind);have a8:(1000000000:Int) ^ (n-2)*(u[off+(n-2)]+1)<=1000000000 ^ (n-2)*1000000000:=Int.mul_le_mul_of_nonneg_left ω (Int.le_of_lt hP);have a9:(1000000000:Int) ^ (n-2)*(u[off+(n-2)]+1)=1000000000 ^ (n-2)*u[off+(n-2)]+1000000000 ^ (n-2):=(by grind);omega
  .exact h
 .rintro ⟨g,rest⟩ ⟨k1,k2,k3,k4,k5⟩;have S:0<=g:=ω;have w4:Az (v[n-1])=v[n-1]:=x5;have af:∀(hgt:q<g),(some (Sum.inl ((Az (g-1)),(Az (rest+v[n-1])))):Option ((Int×Int)⊕Int))=some (.inl (g-1,rest+v[n-1])):=(by intro hgt;rw [show Az (g-1)=g-1 from C7 ω ω,show Az (rest+v[n-1])=rest+v[n-1] from C7 ω ω]);have stay:∀(hr:rest<1000000000) (hgt:q<g),(g-1)*v[n-1]+(rest+v[n-1])=head/\0<=rest+v[n-1]/\rest+v[n-1]<2000000000/\q<=g-1/\g-1<=1000000001:=(by intro hr hgt;exact ⟨al1 k1,ω,ω,ω,ω⟩);by_cases hr:rest<1000000000
  .by_cases Y:g>=1000000000
   .refine .inl ⟨(g-1,rest+v[n-1]),?_,stay hr ω,by simp; omega⟩;simp only [Aj hr,cond_true,Aj Y,Ad];exact af ω
   .have bq:=Acf S ω ad.1 ad.2;have y1:Az (g*v[n-2])=g*v[n-2]:=C7 ω ω;have y2:Az (rest*1000000000)=rest*1000000000:=C7 ω ω;have y3:Az (rest*1000000000+u[off+(n-2)])=rest*1000000000+u[off+(n-2)]:=C7 ω ω;have az:g*(v[n-1]*1000000000+v[n-2])=(head-rest)*1000000000+g*v[n-2]:=gtb k1;simp only [Aj hr,cond_true,An Y,cond_false,P7 rfl (by omega:n-2<n+1) (by omega:off+(n-2)<u.length),Ad,y1,x7,y2,y3];by_cases ae:g*v[n-2]>rest*1000000000+u[off+(n-2)]
    .have hgt:q<g:=Axu (P:=1000000000 ^ (n-2)) (tb:=v[n-1]*1000000000+v[n-2]) (hb:=head*1000000000+u[off+(n-2)]) (B:=0) hP ao b8 ab ba bi S ω ω;refine .inl ⟨(g-1,rest+v[n-1]),?_,stay hr hgt,by simp; omega⟩;rw [Aj ae,cond_true];exact af hgt
    .refine .inr ⟨g,by rw [An ae,cond_false],k4,?_,ω⟩;exact Anr (P:=1000000000 ^ (n-2)) (tb:=v[n-1]*1000000000+v[n-2]) (hb:=head*1000000000+u[off+(n-2)]) hP ao aa ab bb ar S ω ω y
  .refine .inr ⟨g,by simp only [An hr,cond_false,Ad],k4,?_⟩;have Y:g<=1000000000:=by
    rcases Int.lt_or_le 1000000000 g with h | h
    .exfalso;have:g=1000000001:=ω;subst this;omega
    .exact h
   refine ⟨?_,Y⟩;have az:g*(v[n-1]*1000000000+v[n-2])=(head-rest)*1000000000+g*v[n-2]:=gtb k1;have bp:g*v[n-2]<=1000000000*v[n-2]:=Int.mul_le_mul_of_nonneg_right Y ad.1;exact Anr (P:=1000000000 ^ (n-2)) (tb:=v[n-1]*1000000000+v[n-2]) (hb:=head*1000000000+u[off+(n-2)]) hP ao aa ab bb ar S ω ω y
 .rintro g ⟨k1,k2,k3⟩;have S:0<=g:=ω;refine Fe (λ(b,i,o)=>∃k:Nat,i=k/\k<=n/\o.length=u.length/\B3 o/\o.take off=u.take off/\o.drop (off+k)=u.drop (off+k)/\0<=b/\b<=1000000001/\Ak o-1000000000 ^ (off+k)*b=Ak u-1000000000 ^ off*(g*Ak (v.take k))) (λ(_,i,_)=>n-i.toNat) (λ(b,o)=>o.length=u.length/\B3 o/\o.take off=u.take off/\o.drop (off+n)=u.drop (off+n)/\0<=b/\b<=1000000001/\Ak o-1000000000 ^ (off+n)*b=Ak u-1000000000 ^ off*(g*Ak v)) ⟨0,rfl,ω,rfl,hu,rfl,rfl,ω,ω,by simp [Ak]⟩ ?_ ?_
  .rintro ⟨b,i,o⟩ ⟨k,rfl,hk,ho,I,M,L,b6,b5,f⟩;rcases Nat.lt_or_ge k n with h | h
   .have E:off+k<o.length:=ω;have J:k<v.length:=ω;have hx:=I.get E;have hy:=hv.get J;have e4:=Kd h ω;have e5:decide ((k:Int)<(n:Int))=true:=Aj ω;have av:0<=g*v[k]:=Int.mul_nonneg S hy.1;have bx:g*v[k]<=1000000000*v[k]:=Int.mul_le_mul_of_nonneg_right k3 hy.1;have y1:Az v[k]=v[k]:=C7 ω ω;have y2:Az (g*v[k])=g*v[k]:=C7 ω ω;have y3:Aa o[off+k]=o[off+k]:=Bm ω ω;generalize au:g*v[k]=p at *;have y4:Aa (o[off+k]-b)=o[off+k]-b:=Bm ω ω;have y5:Aa (p % 1000000000)=p % 1000000000:=Bm ω ω;have y6:Aa (o[off+k]-b-p % 1000000000)=o[off+k]-b-p % 1000000000:=Bm ω ω;have y7:Aa (p / 1000000000)=p / 1000000000:=Bm ω ω;simp only [e5,cond_true,P7 rfl (by omega:k<n+1) E,Dv rfl J,Ad,y1,y2,au,y3,y4,Ka av (show (0:Int)<1000000000 by decide),Ky av (show p<=_ by omega) (show (0:Int)<1000000000 by decide),y5,y6,y7];refine .inl (Ab4 (Fe (λ(b',s)=>∃t:Nat,b'=p / 1000000000+t/\s=o[off+k]-b-p % 1000000000+t*1000000000/\s<1000000000/\t<=3) (λ(_,s)=>(-s).toNat) (λ(b',s)=>∃t:Nat,b'=p / 1000000000+t/\s=o[off+k]-b-p % 1000000000+t*1000000000/\s<1000000000/\0<=s/\t<=2) ⟨0,ψ,ψ,ω,ω⟩ ?_ ?_))
    .rintro ⟨b',s⟩ ⟨t,rfl,hs,ac,ht⟩;by_cases G:s<0
     .refine .inl ⟨(p / 1000000000+(t+1:Nat),s+1000000000),?_,⟨t+1,rfl,by rw [hs]; simp; omega,ω,ω⟩,by simp; omega⟩;rw [Aj G,cond_true,show Aa (p / 1000000000+(t:Int)+1)=p / 1000000000+((t+1:Nat):Int) by rw [Aa,Bm] <;> omega,show Aa (s+1000000000)=s+1000000000 from Bm ω ω]
     .exact .inr ⟨(p / 1000000000+t,s),by rw [An G,cond_false],t,rfl,hs,ac,ω,ω⟩
    .rintro ⟨b',s⟩ ⟨t,rfl,hs,ac,G,ht⟩;have y8:Cl s=s:=Fr ω ω;refine ⟨.inl (p / 1000000000+t,((k+1:Nat):Int),o.set (off+k) s),by simp only [P7 rfl (by omega:k<n+1) E,Ad,y8,e4]; rw [Fh (n:=off+k) ω],_,rfl,⟨k+1,rfl,ω,by simpa using ho,I.set _ G ac,?_,?_,ω,ω,?_⟩,by simp; omega⟩
     .rw [List.take_set_of_le ω]; exact M
     .rw [List.drop_set_of_lt ω,show off+(k+1)=(off+k)+1 by omega,<-List.drop_drop,L,List.drop_drop]
     .rw [Ll _ E,Fs v J,show off+(k+1)=(off+k)+1 by omega,Int.pow_succ];have ay:=Int.mul_ediv_add_emod p 1000000000;have pa:(1000000000:Int) ^ (off+k)=1000000000 ^ off*1000000000 ^ k:=Int.pow_add ..;have eA:s-1000000000*(p / 1000000000+(t:Int))=o[off+k]-b-p:=(by rw [hs]; omega);rw [al2 eA,f,<-au,pa];exact al3 _ _ _ _ _ _
   .have aj:k=n:=ω;subst aj;refine .inr ⟨(b,o),ψ,ho,I,M,L,b6,b5,?_⟩;rw [List.take_of_length_le ω] at f;exact f
  .rintro ⟨b,o⟩ ⟨ho,I,M,L,b6,b5,f⟩;have hV:=y;have ah:off+n<o.length:=ω;have ax:o[off+n]=u[off+n]:=(by have:=congrArg List.head? L;rw [List.head?_drop,List.head?_drop,Bv ah,Bv X] at this;exact Option.some.inj this);have hE:Ak (u.drop (off+n))=u[off+n]:=by
    have a1:=Nb (u.drop off) (n+1) ω;have a2:=Gi (((hu.drop off).take (n+1)).u32);have a3:=Acg (hu.drop off) (n+1);have a4:Ak ((u.drop off).drop (n+1))=0:=by
     rcases Int.lt_or_le 0 (Ak ((u.drop off).drop (n+1))) with h | h
     .have:(1000000000:Int) ^ (n+1)*1<=1000000000 ^ (n+1)*Ak ((u.drop off).drop (n+1)):=Int.mul_le_mul_of_nonneg_left h (Int.le_of_lt (Kc _));omega
     .omega
    rw [List.drop_eq_getElem_cons X];simp only [Ak];rw [List.drop_drop,show off+(n+1)=off+n+1 by omega] at a4;rw [a4]; omega
   have main:∀o':List Int,o'.length=u.length->B3 o'->o'.take off=u.take off->o'.drop (off+n)=u.drop (off+n)->0<=Ak ((o'.drop off).take n)/\Ak ((o'.drop off).take n)<1000000000 ^ n /\
     Ak o'=Ak u+1000000000 ^ off*(Ak ((o'.drop off).take n)+1000000000 ^ n*u[off+n]-Ak (u.drop off)):=by intro o' l1 l2 l3 l4;have a1:=Nb (o'.drop off) n (by rw [List.length_drop]; omega);rw [List.drop_drop,l4,hE] at a1;have a2:=Ans ω ω l3;refine ⟨Gi (((l2.drop off).take n).u32),?_,by rw [<-a1]; omega⟩;have:=Jv ((l2.drop off).take n);rw [List.length_take,List.length_drop,Nat.min_eq_left ω] at this;exact this
   obtain ⟨m1,m2,m3⟩:=main o ho I M L;have pa:(1000000000:Int) ^ (off+n)=1000000000 ^ off*1000000000 ^ n:=Int.pow_add ..;have star:Ak (u.drop off)-g*Ak v=Ak ((o.drop off).take n)+1000000000 ^ n*(u[off+n]-b):=(by apply Agz (k:=off);rw [m3,pa] at f;exact al4 f);have y1:Aa u[off+n]=u[off+n]:=Bm ω ω;have y2:Aa (u[off+n]-b)=u[off+n]-b:=Bm ω ω;have ap:=Kc n;have fin:∀(U:List Int) (x:Int) (j:List Int),U=j.set (off+n) x->j.length=u.length->B3 j->0<=x->x<1000000000->j.take off=u.take off->Ak U=Ak u-1000000000 ^ off*(q*Ak v) ->
     U.length=u.length/\B3 U/\0<=q/\q<1000000000/\Ak U=Ak u-1000000000 ^ off*(q*Ak v)/\0<=Ak (U.drop off)/\Ak (U.drop off)<Ak v:=by intro U x j e l1 l2 x0 x1 l3 aq;have L4:U.length=u.length:=(by rw [e]; simpa using l1);have T4:U.take off=u.take off:=(by rw [e,List.take_set_of_le ω]; exact l3);have hp:=Ans ω ω T4;have hd:Ak (U.drop off)=Ak (u.drop off)-q*Ak v:=(by have:Ak (U.drop off)-Ak (u.drop off) = - (q*Ak v):=(by apply Agz (k:=off);rw [<-hp,aq]; exact al5 _ _ _);omega);have bh:(q+1)*Ak v=q*Ak v+Ak v:=(by grind);exact ⟨L4,by rw [e]; exact l2.set _ x0 x1,ag,bg,aq,ω,ω⟩
   simp only [P7 rfl (by omega:n<n+1) ah,ax,Ad,y1,y2];by_cases z:u[off+n]-b>=0
   .have c0:g*Ak v<=Ak (u.drop off):=(by have:=Int.mul_nonneg (Int.le_of_lt ap) z;omega);have R:g=q:=by
     rcases Int.lt_or_le q g with h | h
     .exfalso;have:(q+1)*Ak v<=g*Ak v:=Int.mul_le_mul_of_nonneg_right ω ω;omega
     .omega
    have y3:Cl (u[off+n]-b)=u[off+n]-b:=Fr ω ω;have y4:Cl g=g:=Fr ω ω;rw [Aj z,cond_true,y3,y4,Fh (n:=off+n) ω];refine ⟨_,rfl,?_⟩;rw [R];refine fin _ (u[off+n]-b) o rfl ho I z ω M ?_;rw [Ll _ ah,ax];rw [R] at f;exact al6 f
   .have R:g=q+1:=by
     have h1:1000000000 ^ n*(u[off+n]-b)<=1000000000 ^ n*(-1):=Int.mul_le_mul_of_nonneg_left ω (Int.le_of_lt ap);rcases Int.lt_or_le q g with h | h
     .omega
     .exfalso;have:g*Ak v<=q*Ak v:=Int.mul_le_mul_of_nonneg_right h ω;omega
    rw [An z,cond_false];refine Fe (λ(c,i,j)=>∃k:Nat,i=k/\k<=n/\j.length=u.length/\B3 j/\j.take off=u.take off/\j.drop (off+k)=o.drop (off+k)/\0<=c/\c<=1/\Ak j+1000000000 ^ (off+k)*c=Ak o+1000000000 ^ off*Ak (v.take k)) (λ(_,i,_)=>n-i.toNat) (λ(c,j)=>j.length=u.length/\B3 j/\j.take off=u.take off/\j.drop (off+n)=o.drop (off+n)/\0<=c/\c<=1/\Ak j+1000000000 ^ (off+n)*c=Ak o+1000000000 ^ off*Ak v) ⟨0,rfl,ω,ho,I,M,rfl,ω,ω,by simp [Ak]⟩ ?_ ?_
    .rintro ⟨c,i,j⟩ ⟨k,rfl,hk,h3,N,V,Z,b4,b0,D⟩;rcases Nat.lt_or_ge k n with h | h
     .have E:off+k<j.length:=ω;have J:k<v.length:=ω;have hx:=N.get E;have hy:=hv.get J;have e4:=Kd h ω;have e5:decide ((k:Int)<(n:Int))=true:=Aj ω;have z1:Cl (j[off+k]+v[k])=j[off+k]+v[k]:=Fr ω ω;have z2:Cl (j[off+k]+v[k]+c)=j[off+k]+v[k]+c:=Fr ω ω;generalize hs:j[off+k]+v[k]+c=s at z2;have G:0<=s:=ω;have ac:s<2000000000:=ω;refine .inl ⟨(s / 1000000000,((k+1:Nat):Int),j.set (off+k) (s % 1000000000)),?_,⟨k+1,rfl,ω,by simpa using h3,N.set _ ω ω,?_,?_,ω,ω,?_⟩,by simp; omega⟩
      .simp only [e5,cond_true,P7 rfl (by omega:k<n+1) E,Dv rfl J,Ad,z1,hs,z2,Agu G (show s<=_ by omega) (show (0:Int)<1000000000 by decide),Ka G (show (0:Int)<1000000000 by decide),e4];rw [Fh (n:=off+k) ω]
      .rw [List.take_set_of_le ω]; exact V
      .rw [List.drop_set_of_lt ω,show off+(k+1)=(off+k)+1 by omega,<-List.drop_drop,Z,List.drop_drop]
      .rw [Ll _ E,Fs v J,show off+(k+1)=(off+k)+1 by omega,Int.pow_succ];have ay:=Int.mul_ediv_add_emod s 1000000000;have pk:(1000000000:Int) ^ (off+k)=1000000000 ^ off*1000000000 ^ k:=Int.pow_add ..;rw [pk] at D ⊢;exact al7 hs ay D
     .have aj:k=n:=ω;subst aj;refine .inr ⟨(c,j),ψ,h3,N,V,Z,b4,b0,?_⟩;rw [List.take_of_length_le ω] at D;exact D
    .rintro ⟨c,j⟩ ⟨h3,N,V,Z,b4,b0,D⟩;have ai:off+n<j.length:=ω;obtain ⟨r1,r2,r3⟩:=main j h3 N V (Z.trans L);have bj:j[off+n]=u[off+n]:=(by have:=congrArg List.head? (Z.trans L);rw [List.head?_drop,List.head?_drop,Bv ai,Bv X] at this;exact Option.some.inj this);have be:Ak (u.drop off)-q*Ak v=Ak ((j.drop off).take n)+1000000000 ^ n*(u[off+n]-b+c):=(by apply Agz (k:=off);rw [r3,pa] at D;rw [R] at f;rw [pa] at f;exact al8 f D);have bk:u[off+n]-b+c=0:=by
      have bh:(q+1)*Ak v=q*Ak v+Ak v:=(by grind);rcases Int.lt_or_le (u[off+n]-b+c) 0 with h | h
      .exfalso;have h1:1000000000 ^ n*(u[off+n]-b+c)<=1000000000 ^ n*(-1):=Int.mul_le_mul_of_nonneg_left ω (Int.le_of_lt ap);omega
      .omega
     have y5:Aa c=c:=Bm ω ω;have y6:Aa (u[off+n]-b+c)=0:=(by rw [bk]; rfl);have y7:Cl (0:Int)=0:=rfl;have y8:Az (g-1)=q:=(by rw [R,Az,C7 ω ω]; omega);have y9:Cl q=q:=Fr ω ω;simp only [P7 rfl (by omega:n<n+1) ai,Ad,y5,y6,y7,y8,y9];rw [Fh (n:=off+n) ω];refine ⟨_,rfl,?_⟩;refine fin _ 0 j rfl h3 N ω ω V ?_;rw [Ll _ ai,bj];rw [R] at f;exact al9 D f ω
end Go.Ab
namespace Go.Ab
open Go
theorem Axz (a:List Int) (m:Int):Agi a m=Vb a m:=rfl
theorem Ax0 {t d r:Int} (ht:1<=t) (ht':t<1000000000) (hd:d*(t+1)+r=1000000000) (f:0<=r) (b:r<=t):500000000<=d*t:=by
 have c:0<=d:=by
  rcases Int.lt_or_le d 0 with h | h
  .exfalso;have:d*(t+1)<=(-1)*(t+1):=Int.mul_le_mul_of_nonneg_right ω ω;omega
  .exact h
 have e:d*(t+1)=d*t+d:=by grind
 rcases Int.lt_or_le t 2 with h | h
 .have:t=1:=ω;subst this;omega
 .rcases Int.lt_or_le d 2 with h2 | h2
  .have:d=0\/d=1:=ω;rcases this with rfl | rfl <;> omega
  .have h3:2*(t-1)<=d*(t-1):=Int.mul_le_mul_of_nonneg_right h2 ω;have g:d*(t-1)=d*t-d:=(by grind);omega
theorem bl1 (P t d:Int):P*t*d=P*(d*t):=by grind
theorem bl2 {u o X q V K Q S:Int} (h:o=u-X*(q*V)) (b:u+V*(X*1000000000)*Q=S):o+V*X*(q+1000000000*Q)=S:=by grind
set_option maxHeartbeats 1000000 in
theorem Ag0 (m n:Nat) (hm:Bi m<274877906944) (hn:Bi n<274877906944) (G:n≠0):R4 (Af m) (Af n)=some (Af (m / n),Af (m % n)):=by
 unfold R4;rw [Vj m n ω ω,Ad];unfold Bi at hm hn;by_cases g:m<n
 .rw [show Fi m n = -1 by rw [Fi,if_pos g],Aj (by decide:(-1:Int)<0),cond_true,C3 (by simp; omega),Ad,Nat.div_eq_of_lt g,Nat.mod_eq_of_lt g,Fu]; rfl
 .rw [An (show ¬Fi m n<0 by rw [Fi,if_neg g]; split <;> decide),cond_false];have be:(Af n).length<=(Af m).length:=Hy ω;have b0:(Af n).length≠0:=λe=>Ic G (List.length_eq_zero_iff.1 e);by_cases h1:(Af n).length=1
  .rw [Dw (by omega:((Af n).length:Int)=1),cond_true];have a6:n<1000000000:=(by have:=Nc n;rw [show Bi n=1 from h1] at this;simpa using this);have am:Af n = [(n:Int)]:=(by rw [Mk G,Nat.div_eq_of_lt a6,Fu,Nat.mod_eq_of_lt a6]);rw [am,show Ae [(n:Int)] 0=some (n:Int) from rfl,Ad,show Az (n:Int)=n from C7 ω ω,Agy m n (by unfold Bi; omega) ω ω,Ad];have az:m % n<n:=Nat.mod_lt _ ω;rw [P6 (m % n) ω,Ad]
  .rw [Ch (by omega:((Af n).length:Int)≠1),cond_false];generalize hL:(Af n).length=L at *;generalize hA:(Af m).length=A at *;have w1:Aa ((L:Int)-1)=((L-1:Nat):Int):=(by rw [Aa,Bm] <;> omega);have hi:L-1<(Af n).length:=ω;have ht:=(Er n).get hi;have ax:(Af n)[L-1]≠0:=(by have:=(Ab8 n).2 (Ic G);rw [List.getLast_eq_getElem] at this;simpa [hL] using this);generalize y:(Af n)[L-1]=t at *;have w2:Az t=t:=C7 ω ω;have w3:Az (t+1)=t+1:=C7 ω ω;rw [w1,Dv rfl hi,y,Ad,w2,w3,Ky δ δ ω,Ad];have U:=Int.mul_ediv_add_emod 1000000000 (t+1);have ah:=Int.emod_nonneg 1000000000 (by omega:t+1≠0);have b9:=Int.emod_lt_of_pos 1000000000 (by omega:0<t+1);have aq:1<=1000000000 / (t+1):=by
    rcases Int.lt_or_le (1000000000 / (t+1)) 1 with h | h
    .exfalso;have:(t+1)*(1000000000 / (t+1))<=(t+1)*0:=Int.mul_le_mul_of_nonneg_left ω ω;omega
    .exact h
   have ap:1000000000 / (t+1)<=500000000:=(by have:=Int.ediv_lt_of_lt_mul (a:=1000000000) (b:=500000001) (c:=t+1) ω ω;omega);obtain ⟨d,hd⟩:∃d:Nat,1000000000 / (t+1)=(d:Int):=⟨(1000000000 / (t+1)).toNat,ω⟩;rw [hd] at U aq ap ⊢;obtain ⟨u,ag,E,S,R⟩:=Anq (Af m) d (Er m) ω ω;obtain ⟨v0,af,ae,D,b7⟩:=Anq (Af n) d (Er n) ω ω;rw [ag,Ad,Axz,af,Ad,E6] at *;rw [hL] at ae;rw [hA] at E;rw [Yl rfl (by omega:L<=v0.length),Ad];have x:=Kc (L-1);have pL:(1000000000:Int) ^ L=1000000000 ^ (L-1)*1000000000:=(by rw [<-Int.pow_succ]; congr 1; omega);have Y:=Fs (Af n) hi;rw [List.take_of_length_le ω,E6,y] at Y;have ay:=Gi (((Er n).take (L-1)).u32);have Z:=Jv ((Er n).take (L-1));rw [List.length_take,hL,Nat.min_eq_left ω] at Z;have bb:(n:Int)*d<1000000000 ^ L:=(by have a1:(n:Int)*d<(1000000000 ^ (L-1)*(t+1))*d:=Int.mul_lt_mul_of_pos_right (by have:(1000000000:Int) ^ (L-1)*(t+1)=1000000000 ^ (L-1)*t+1000000000 ^ (L-1):=(by grind);omega) ω;have a2:(1000000000 ^ (L-1)*(t+1))*(d:Int)=1000000000 ^ (L-1)*((t+1)*d):=(by grind);have a3:(1000000000:Int) ^ (L-1)*((t+1)*d)<=1000000000 ^ (L-1)*1000000000:=Int.mul_le_mul_of_nonneg_left ω (Int.le_of_lt x);omega);have M:Ak (v0.take L)=(n:Int)*d:=by
    have e:=Nb v0 L ω;have z:Ak (v0.drop L)=0:=by
     have a1:=Acg D L;have a2:=Gi ((D.take L).u32);rcases Int.lt_or_le 0 (Ak (v0.drop L)) with h | h
     .have:(1000000000:Int) ^ L*1<=1000000000 ^ L*Ak (v0.drop L):=Int.mul_le_mul_of_nonneg_left h (Int.le_of_lt (Kc _));omega
     .omega
    rw [z] at e; omega
   have I:(v0.take L).length=L:=(by rw [List.length_take]; omega);have f:=D.take L;have J:L-1<(v0.take L).length:=ω;have ak:500000000<=(d:Int)*t:=Ax0 (r:=1000000000 % (t+1)) ω ω (by rw [Int.mul_comm]; exact U) ah ω;have l:500000000<=(v0.take L)[L-1]:=by
    have e:=Fs (v0.take L) J;rw [List.take_of_length_le ω,M] at e;have b1:=Jv (f.take (L-1));rw [List.length_take,I,Nat.min_eq_left ω] at b1;have b2:(1000000000:Int) ^ (L-1)*t*d<=n*d:=Int.mul_le_mul_of_nonneg_right ω ω;have b3:(1000000000:Int) ^ (L-1)*500000000<=1000000000 ^ (L-1)*(d*t):=Int.mul_le_mul_of_nonneg_left ak (Int.le_of_lt x);rw [bl1] at b2;rcases Int.lt_or_le (v0.take L)[L-1] 500000000 with h | h
    .exfalso;have b4:(1000000000:Int) ^ (L-1)*((v0.take L)[L-1]+1)<=1000000000 ^ (L-1)*500000000:=Int.mul_le_mul_of_nonneg_left ω (Int.le_of_lt x);have b5:(1000000000:Int) ^ (L-1)*((v0.take L)[L-1]+1)=1000000000 ^ (L-1)*(v0.take L)[L-1]+1000000000 ^ (L-1):=(by grind);omega
    .exact h
   generalize b6:v0.take L=v at *;have w4:Aa ((A:Int)-(L:Int))=((A-L:Nat):Int):=(by rw [Aa,Bm] <;> omega);have w5:Aa (((A-L:Nat):Int)+1)=((A-L+1:Nat):Int):=(by rw [Aa,Bm] <;> omega);rw [w4,w5,Ju rfl rfl (Nat.le_refl _) ω ω,Ad,E];have b8:=Gi S.u32;have ar:(0:Int)<(n:Int)*d:=Int.mul_pos ω ω;refine He (λ(i,w,q)=>∃k:Nat,i=(k:Int)-1/\k<=A-L+1/\w.length=A+1/\B3 w/\q.length=A-L+1/\B3 q/\Ak w<Ak v*1000000000 ^ k/\Ak w+Ak v*1000000000 ^ k*Ak (q.drop k)=(m:Int)*d) (λ(i,_,_)=>(i+1).toNat) (λ(w,q)=>w.length=A+1/\B3 w/\q.length=A-L+1/\B3 q/\Ak w<Ak v/\Ak w+Ak v*Ak q=(m:Int)*d) ⟨A-L+1,ω,Nat.le_refl _,E,S,ψ,B3.replicate _,?_,by rw [List.drop_of_length_le ψ]; simp [Ak,R]⟩ ?_ ?_
   .have aj:(m:Int)<1000000000 ^ A:=(by have:=Jv (Er m);rwa [E6,hA] at this);have a1:(m:Int)*d<1000000000 ^ A*500000000:=(by have c1:(m:Int)*d<=m*500000000:=Int.mul_le_mul_of_nonneg_left ω ω;have c2:(m:Int)*500000000<1000000000 ^ A*500000000:=Int.mul_lt_mul_of_pos_right aj δ;omega);have a2:(1000000000:Int) ^ (L-1)*500000000<=Ak v:=(by have e:=Fs v J;rw [List.take_of_length_le ω] at e;have b1:=Gi ((f.take (L-1)).u32);have b3:(1000000000:Int) ^ (L-1)*500000000<=1000000000 ^ (L-1)*v[L-1]:=Int.mul_le_mul_of_nonneg_left l (Int.le_of_lt x);omega);have a3:(1000000000:Int) ^ (L-1)*500000000*1000000000 ^ (A-L+1)<=Ak v*1000000000 ^ (A-L+1):=Int.mul_le_mul_of_nonneg_right a2 (Int.le_of_lt (Kc _));have a4:(1000000000:Int) ^ (L-1)*500000000*1000000000 ^ (A-L+1)=1000000000 ^ A*500000000:=(by have:(1000000000:Int) ^ A=1000000000 ^ (L-1)*1000000000 ^ (A-L+1):=(by rw [<-Int.pow_add]; congr 1; omega);rw [this]; grind);rw [R]; omega
   .rintro ⟨i,w,q⟩ ⟨k,rfl,hk,ac,B,X,V,a7,s⟩;cases k with
    | zero=>exact .inr ⟨(w,q),ψ,ac,B,X,V,by simpa using a7,by simpa using s⟩
    | succ j=>
     have e0:((j+1:Nat):Int)-1=(j:Int):=ω;have e1:decide ((j:Int)>=0)=true:=Aj ω;have w6:Aa ((j:Int)+(L:Int))=((j+L:Nat):Int):=(by rw [Aa,Bm] <;> omega);have w7:Aa (((j+L:Nat):Int)+1)=((j+L+1:Nat):Int):=(by rw [Aa,Bm] <;> omega);have sA:Gt (A+1) (j:Int) ((j+L+1:Nat):Int)=some (j,j+L+1):=(by have c1:(0:Int)<=(j:Int):=ω;have c2:(j:Int)<=((j+L+1:Nat):Int):=ω;have c3:((j+L+1:Nat):Int)<=((A+1:Nat):Int):=ω;have c4:(j:Int)=0\/(j:Int)<((j+L+1:Nat):Int):=ω;rw [Gt,if_pos ⟨c1,c2,c3,c4⟩]; rfl);have au:Ak (w.drop j)<Ak v*1000000000:=by
      have s1:=Nb w j ω;have s2:=Gi ((B.take j).u32);rcases Int.lt_or_le (Ak (w.drop j)) (Ak v*1000000000) with h | h
      .exact h
      .exfalso;have:(1000000000:Int) ^ j*(Ak v*1000000000)<=1000000000 ^ j*Ak (w.drop j):=Int.mul_le_mul_of_nonneg_left h (Int.le_of_lt (Kc _));have e:Ak v*(1000000000:Int) ^ (j+1)=1000000000 ^ j*(Ak v*1000000000):=(by rw [Int.pow_succ]; grind);omega
     obtain ⟨qd,o,r1,r2,r3,r4,r5,r6,r7,r8⟩:=Axy v w j L f B I ω ω l ω au;have a8:j<q.length:=ω;have w8:Aa ((j:Int)-1)=(j:Int)-1:=(by rw [Aa,Bm] <;> omega);have lG:Gd (A+1) o=some ():=(by rw [Gd,if_pos ω]);refine .inl ⟨((j:Int)-1,o,q.set j qd),?_,⟨j,rfl,ω,ω,r3,by simpa using X,V.set _ r4 r5,?_,?_⟩,ψ⟩
     .simp only [e0,e1,cond_true,w6,w7,sA,Ad,Nat.zero_add,show j+L+1-j=L+1 by omega,r1,lG,Dv rfl a8,w8,Fh rfl]
     .have s1:=Nb o j ω;have s2:=Jv (r3.take j);rw [List.length_take,Nat.min_eq_left ω] at s2;have:(1000000000:Int) ^ j*(Ak (o.drop j)+1)<=1000000000 ^ j*Ak v:=Int.mul_le_mul_of_nonneg_left ω (Int.le_of_lt (Kc _));have e:(1000000000:Int) ^ j*(Ak (o.drop j)+1)=1000000000 ^ j*Ak (o.drop j)+1000000000 ^ j:=(by grind);rw [Int.mul_comm (Ak v)]; omega
     .have d1:(q.set j qd).drop j=qd::q.drop (j+1):=(by rw [List.drop_eq_getElem_cons (by simpa using a8),List.drop_set_of_lt ω]; simp);rw [d1];simp only [Ak];rw [Int.pow_succ] at s;exact bl2 (K:=0) r6 s
   .rintro ⟨w,q⟩ ⟨h2,h3,h4,h5,h6,h7⟩;rw [M] at h6 h7;have ad:=Gi h3.u32;have ba:=Gi h5.u32;have N:=(Int.ediv_emod_unique ar (r:=Ak w) (q:=Ak q) (a:=(m:Int)*d)).2 ⟨by rw [<-h7],ad,h6⟩;have ao:(m*d) / (n*d)=m / n:=Nat.mul_div_mul_right m n ω;have ai:(m*d) % (n*d)=(m % n)*d:=Nat.mul_mod_mul_right d m n;have av:Ak q=((m / n:Nat):Int):=(by rw [<-N.1,<-ao]; simp);have aa:Ak w=(((m % n)*d:Nat):Int):=(by rw [<-N.2,<-ai]; simp);have ab:Bi ((m % n)*d)<1099511627776:=(by have g:=Jv h3;have:Bi ((m % n)*d)<=A+1:=(by apply I9;rw [h2,aa] at g;have e:((1000000000 ^ (A+1):Nat):Int)=1000000000 ^ (A+1):=(by rw [Int.natCast_pow]; rfl);omega);omega);dsimp only;rw [P5 w ω,Ad,Kz h3 aa,Agy _ d ab ω ω,Ad,P5 q ω,Ad,Kz h5 av,Nat.mul_div_cancel _ ω]
end Go.Ab
namespace Go.Ab
open Go
theorem Ant {n:Nat} (h:Bi n<=2):n<1000000000000000000:=by have h1:=Nc n;have h2:1000000000 ^ Bi n<=1000000000 ^ 2:=Nat.pow_le_pow_right δ h;omega
theorem Anu (n:Nat) (h:Bi n<=2):Va (Af n)=some ((n:Int),true):=by
 unfold Va;unfold Bi at h;have ha:=Er n;refine He (λ(w,i)=>∃k:Nat,i=k/\k<=(Af n).length/\w=Ak ((Af n).drop ((Af n).length-k))) (λ(_,i)=>(Af n).length-i.toNat) (λe=>match e with | .inl _=>False | .inr w=>w=n) ⟨0,rfl,ω,by simp [Ak]⟩ ?_ ?_
 .rintro ⟨w,i⟩ ⟨k,rfl,hk,rfl⟩;rcases Nat.lt_or_ge k (Af n).length with c | hge
  .have A:decide ((k:Int)<((Af n).length:Int))=true:=Aj ω;have u:Aa (((Af n).length:Int)-1)=((Af n).length:Int)-1:=(by rw [Aa,Bm] <;> omega);have s:Aa (((Af n).length:Int)-1-(k:Int))=(((Af n).length-1-k:Nat):Int):=(by rw [Aa,Bm] <;> omega);have hj:(Af n).length-1-k<(Af n).length:=ω;have hx:=ha.get hj;have y:=Acg ha ((Af n).length-k);have b:=Jv (ha.drop ((Af n).length-k));rw [List.length_drop,show (Af n).length-((Af n).length-k)=k by omega] at b;have x:(1000000000:Int) ^ k<=1000000000:=(by have:k=0\/k=1:=ω;rcases this with rfl | rfl <;> decide);have q:Az (Af n)[(Af n).length-1-k]=(Af n)[(Af n).length-1-k]:=C7 ω ω;have l:Az (18446744073709551615-(Af n)[(Af n).length-1-k])=18446744073709551615-(Af n)[(Af n).length-1-k]:=C7 ω ω;have j:Az (Ak ((Af n).drop ((Af n).length-k))*1000000000)=Ak ((Af n).drop ((Af n).length-k))*1000000000:=C7 ω ω;have g:Az (Ak ((Af n).drop ((Af n).length-k))*1000000000+(Af n)[(Af n).length-1-k])=Ak ((Af n).drop ((Af n).length-k))*1000000000+(Af n)[(Af n).length-1-k]:=C7 ω ω;have z:=Kd c ω;have hc:¬Ak ((Af n).drop ((Af n).length-k))>(18446744073709551615-(Af n)[(Af n).length-1-k]) / 1000000000:=ω;refine .inl ⟨(Ak ((Af n).drop ((Af n).length-k))*1000000000+(Af n)[(Af n).length-1-k],((k+1:Nat):Int)),?_,⟨k+1,rfl,ω,?_⟩,by simp; omega⟩
   .simp only [A,cond_true,u,s,Dv rfl hj,Ad,q,l,Ky (show 0<=18446744073709551615-(Af n)[(Af n).length-1-k] by omega) (show 18446744073709551615-(Af n)[(Af n).length-1-k]<=_ by omega) (show (0:Int)<1000000000 by decide),An hc,cond_false,j,g,z]
   .have hd:(Af n).drop ((Af n).length-(k+1))=(Af n)[(Af n).length-1-k]::(Af n).drop ((Af n).length-k):=(by rw [show (Af n).length-(k+1)=(Af n).length-1-k by omega,List.drop_eq_getElem_cons hj];congr 2; omega);rw [hd]; simp only [Ak]; omega
  .have:k=(Af n).length:=ω;subst this;refine .inr ⟨.inr _,by simp; rfl,?_⟩;exact E6 n
 .rintro (e | e) f
  .exact f.elim
  .simp only at f ⊢; rw [f]
theorem Ax1 (m n:Nat) (hm:Bi m<274877906944) (z:Bi n<274877906944):Xz (Af m) (Af n)=some (Af (Nat.gcd m n)):=by
 unfold Xz;refine He (λ(a,b)=>∃x y:Nat,a=Af x/\b=Af y/\Bi x<274877906944/\Bi y<274877906944/\Nat.gcd x y=Nat.gcd m n) (λ(_,b)=>(Ak b).toNat) (λe=>match e with | .inl r=>r=Af (Nat.gcd m n) | .inr r=>r=Af (Nat.gcd m n)) ⟨m,n,rfl,rfl,hm,z,rfl⟩ ?_ ?_
 .rintro ⟨a,b⟩ ⟨x,y,rfl,rfl,hx,hy,k⟩;by_cases c:y=0
  .subst c;refine .inr ⟨.inr (Af x),by rw [Fu]; rfl,?_⟩;show Af x=_;rw [<-k,Nat.gcd_zero_right]
  .have A:(Af y).length≠0:=λe=>Ic c (List.length_eq_zero_iff.1 e);have l:decide (((Af y).length:Int)>0)=true:=Aj ω;by_cases h2:Bi x<=2/\Bi y<=2
   .have i:=Ant h2.1;have h:=Ant h2.2;unfold Bi at h2;simp only [l,cond_true,Aj (by omega:((Af x).length:Int)<=2),Aj (by omega:((Af y).length:Int)<=2),Ad,Anu x h2.1,Anu y h2.2];refine .inr (Axn (Fe (λ(p,q)=>∃u v:Nat,p=u/\q=v/\u<1000000000000000000/\v<1000000000000000000/\Nat.gcd u v=Nat.gcd m n) (λ(_,q)=>q.toNat) (λ(p,q)=>p=((Nat.gcd m n:Nat):Int)/\Nat.gcd m n<1000000000000000000) ⟨x,y,rfl,rfl,i,h,k⟩ ?_ ?_))
    .rintro ⟨p,q⟩ ⟨u,v,rfl,rfl,hu,s,f⟩;by_cases j:v=0
     .subst j;refine .inr ⟨((u:Int),(0:Int)),rfl,?_⟩;rw [Nat.gcd_zero_right] at f;exact ⟨by rw [f],ω⟩
     .refine .inl ⟨((v:Int),((u % v:Nat):Int)),?_,⟨v,u % v,rfl,rfl,s,by have:=Nat.mod_lt u (by omega:v>0); omega,?_⟩,?_⟩
      .simp only [Aj (by omega:(v:Int)>0),cond_true,Ka (by omega:(0:Int)<=u) (by omega:(0:Int)<v),Ad]; rfl
      .rw [<-f,Nat.gcd_comm v,<-Nat.gcd_rec,Nat.gcd_comm]
      .have:=Nat.mod_lt u (by omega:v>0); simp only [Int.toNat_natCast]; exact this
    .rintro ⟨p,q⟩ ⟨rfl,B⟩;dsimp only;rw [P6 _ ω];exact ⟨_,rfl,_,rfl,rfl⟩
   .refine .inl ⟨(Af y,Af (x % y)),?_,⟨y,x % y,rfl,rfl,hy,by have:=Hy (Nat.mod_le x y); omega,?_⟩,?_⟩
    .have:(bif ((Af x).length:Int)<=(2:Int) then some (decide (((Af y).length:Int)<=(2:Int))) else some false)=some false:=by
      unfold Bi at h2;by_cases hc:(Af x).length<=2
      .rw [Aj (by omega:((Af x).length:Int)<=2),cond_true,An (by omega:¬((Af y).length:Int)<=2)]
      .rw [An (by omega:¬((Af x).length:Int)<=2),cond_false]
     simp only [l,cond_true];rw [this,Ad,cond_false,Ag0 x y hx hy c,Ad]
    .rw [<-k,Nat.gcd_comm y,<-Nat.gcd_rec,Nat.gcd_comm]
    .simp only [E6];have:=Nat.mod_lt x (by omega:y>0);omega
 .rintro (e | e) g
  .simp only at g ⊢; rw [g]
  .simp only at g ⊢; rw [g]
theorem Vk:Af 1 = [1]:=by rw [Mk δ,show 1 / 1000000000=0 by decide,Fu]; rfl
theorem Ag1 (n:Nat):R3 (Af n)=some (decide (n=1)):=by
 unfold R3;by_cases h0:n=0
 .subst h0; rw [Fu]; rfl
 .rw [Mk h0];by_cases h1:n / 1000000000=0
  .rw [h1,Fu];have e:Ae [((n % 1000000000:Nat):Int)] 0=some ((n % 1000000000:Nat):Int):=rfl;simp only [List.length_singleton,e,Ad];have:(((1:Nat):Int)==(1:Int))=true:=rfl;rw [this,cond_true];congr 1;by_cases b:n=1
   .subst b; rfl
   .rw [Ch ω,An b]
  .have c:(Af (n / 1000000000)).length≠0:=λe=>Ic h1 (List.length_eq_zero_iff.1 e);rw [Ch (by simp; omega),cond_false,An ω]
def A9 (b:Bool) (n d:Nat):Ar:=if n=0 then ⟨false,[],[1]⟩ else ⟨b,Af (n / Nat.gcd n d),Af (d / Nat.gcd n d)⟩
theorem Sl (b:Bool) (n d:Nat) (h:Bi n<274877906944) (hd:Bi d<274877906944):N4 ⟨b,Af n,Af d⟩=some (A9 b n d):=by
 unfold N4 Aba;dsimp only;by_cases h0:n=0
 .subst h0; rw [Fu]; rfl
 .have i:(Af n).length≠0:=λe=>Ic h0 (List.length_eq_zero_iff.1 e);rw [Ch ω,cond_false,Ag1,Ad,A9,if_neg h0];by_cases h1:d=1
  .subst h1;rw [Aj rfl,cond_true];simp
  .rw [An h1,cond_false,Ax1 n d h hd,Ad,Ag1,Ad];by_cases g:Nat.gcd n d=1
   .rw [Aj g,cond_true,g]; simp
   .have f:Nat.gcd n d≠0:=(by have:=Nat.gcd_pos_of_pos_left d (by omega:0<n); omega);have c:Bi (Nat.gcd n d)<274877906944:=(by have:=Hy (Nat.gcd_le_left d (by omega:0<n)); omega);rw [An g,cond_false,Ag0 n _ h c f,Ad,Ag0 d _ hd c f,Ad]; rfl
def nv (a:Ar):Nat:=if (Ak a.Num).toNat=0\/(Ak a.Den).toNat=0 then 0 else (Ak a.Num).toNat
def dv (a:Ar):Nat:=if (Ak a.Num).toNat=0\/(Ak a.Den).toNat=0 then 1 else (Ak a.Den).toNat
def sv (a:Ar):Bool:=if (Ak a.Num).toNat=0\/(Ak a.Den).toNat=0 then false else a.Neg
structure RB (k:Nat) (a:Ar):Prop where
 num:Mj a.Num
 den:Mj a.Den
 nl:a.Num.length<=k
 dl:a.Den.length<=k
theorem Ax2 {l:List Int} (h:Mj l):Ak l<=5*1000000000 ^ l.length-5:=by induction l with| nil=>simp [Ak]| cons d l ih=>have h1:=h d ψ;have h2:=ih (λx hx=>h x (by simp [hx]));simp only [Ak,List.length_cons];rw [Int.pow_succ];omega
theorem Ax3 {l:List Int} (h:Mj l):Ak l<1000000000 ^ (l.length+1):=by have h1:=Ax2 h;have hp:=Kc l.length;rw [Int.pow_succ];omega
theorem Ach {l:List Int} (h:Mj l):Bi (Ak l).toNat<=l.length+1:=by
 apply I9;have h1:=Ax3 h;have h2:=Gi h;have e:((1000000000 ^ (l.length+1):Nat):Int)=1000000000 ^ (l.length+1):=by rw [Int.natCast_pow]; rfl
 omega
theorem RB.mono {j k:Nat} {a:Ar} (h:RB j a) (hk:j<=k):RB k a:=⟨h.num,h.den,by have:=h.nl; omega,by have:=h.dl; omega⟩
theorem Ig:Bi 1=1:=by unfold Bi; rw [Vk]; rfl
theorem RB.nv {k:Nat} {a:Ar} (h:RB k a):Bi (nv a)<=k+1:=by
 unfold Ab.nv;split
 .simp [Ym]
 .have:=Ach h.num; have:=h.nl; omega
theorem RB.dv {k:Nat} {a:Ar} (h:RB k a):Bi (dv a)<=k+1:=by
 unfold Ab.dv;split
 .simp [Ig]
 .have:=Ach h.den; have:=h.dl; omega
theorem Es (a:Ar):dv a≠0:=by
 unfold dv; split
 .decide
 .omega
theorem Vl (a:Ar) (k:Nat) (h:RB k a) (hk:k<274877906900):M7 a=some ⟨sv a,Af (nv a),Af (dv a)⟩:=by
 unfold M7;have h1:=h.nl;have h2:=h.dl;rw [Anm _ h.num ω,Ad,Anm _ h.den ω,Ad];unfold nv dv sv;generalize (Ak a.Num).toNat=x;generalize (Ak a.Den).toNat=y;by_cases hx:x=0
 .subst hx;simp only [Fu,true_or,if_true,Vk]; rfl
 .have c:(Af x).length≠0:=λe=>Ic hx (List.length_eq_zero_iff.1 e);by_cases hy:y=0
  .subst hy;simp only [Fu,or_true,if_true,Vk,Ch (by omega:((Af x).length:Int)≠0),cond_false]; rfl
  .have b:(Af y).length≠0:=λe=>Ic hy (List.length_eq_zero_iff.1 e);simp only [hx,hy,or_self,if_false,Ch (by omega:((Af x).length:Int)≠0),cond_false,Ch (by omega:((Af y).length:Int)≠0),Ad]
end Go.Ab
namespace Go.Ab
open Go
theorem Aci (a:Ar) (k:Nat) (h:RB k a) (hk:k<274877906900):M4 a=some (A9 (sv a) (nv a) (dv a)):=by unfold M4;have h1:=h.nv;have h2:=h.dv;rw [Vl a k h hk,Ad,Sl _ _ _ ω ω]; rfl
def I0 (s:Bool) (n:Nat):Int:=if n=0 then 0 else if s then -1 else 1
theorem Ax4 (s:Bool) (n:Nat) (d:List Int):Xj ⟨s,Af n,d⟩=some (I0 s n):=by
 unfold Xj I0;dsimp only;by_cases h:n=0
 .subst h; rw [Fu]; rfl
 .have b:(Af n).length≠0:=λe=>Ic h (List.length_eq_zero_iff.1 e);rw [Ch ω,cond_false,if_neg h];cases s <;> rfl
theorem Ag2 (a:Ar) (k:Nat) (h:RB k a) (hk:k<274877906900):Ix a=some (I0 (sv a) (nv a)):=by unfold Ix;rw [Vl a k h hk,Ad,Ax4]; rfl
theorem Ag3 (z:Int) (h1 : -9223372036854775808<=z) (h2:z<=9223372036854775807):Rq z=some (Af z.natAbs):=by
 unfold Rq;by_cases h:z<0
 .have e:Az z=z+18446744073709551616:=(by have:IntKind.u64.wrap z=z % 18446744073709551616:=(by simp [IntKind.wrap,IntKind.bits,IntKind.signed]);rw [Az,this]; omega);have b:Az (0-(z+18446744073709551616))=((z.natAbs:Nat):Int):=(by have:IntKind.u64.wrap (0-(z+18446744073709551616))=(0-(z+18446744073709551616)) % 18446744073709551616:=(by simp [IntKind.wrap,IntKind.bits,IntKind.signed]);rw [Az,this]; omega);rw [Aj h,cond_true,e,b,P6 _ ω]; rfl
 .have b:Az z=((z.natAbs:Nat):Int):=(by rw [Az,C7 ω ω]; omega);rw [An h,cond_false,b,P6 _ ω]; rfl
theorem Vm (z:Int) (h1 : -9223372036854775808<=z) (h2:z<=9223372036854775807):F3 z=some (A9 (decide (z<0)) z.natAbs 1):=by unfold F3;have:=Nd (n:=z.natAbs) ω;rw [Ag3 z h1 h2,Ad,<-Vk,Sl _ _ _ ω (by rw [Ig]; decide)]; rfl
theorem Ax5 (x y:Int) (h1 : -9223372036854775808<=x) (h2:x<=9223372036854775807) (h3 : -9223372036854775808<=y) (b:y<=9223372036854775807) (hy:y≠0):Se x y=some (A9 (decide (x<0) != decide (y<0)) x.natAbs y.natAbs):=by unfold Se;have a1:=Nd (n:=x.natAbs) ω;have a2:=Nd (n:=y.natAbs) ω;rw [Ch hy,cond_false,Ag3 x h1 h2,Ad,Ag3 y h3 b,Ad,Sl _ _ _ ω ω]; rfl
theorem Yq (a b:Ar) (j k:Nat) (ha:RB j a) (hb:RB k b) (hj:j<68719476736) (hk:k<68719476736):Hj a b=some (A9 (sv a != sv b) (nv a*nv b) (dv a*dv b)):=by unfold Hj;have h1:=ha.nv;have h2:=ha.dv;have h3:=hb.nv;have g:=hb.dv;have f:=Gy (nv a) (nv b);have c:=Gy (dv a) (dv b);rw [Vl a j ha ω,Ad,Vl b k hb ω,Ad];dsimp only;rw [Yp _ _ ω ω,Ad,Yp _ _ ω ω,Ad,Sl _ _ _ ω ω]; rfl
def Ke (b:Bool) (g i:Nat) (c:Bool) (f h:Nat):Bool:=if b=c then b else if f*i<=g*h then b else c
def Hz (i:Bool) (c g:Nat) (h:Bool) (b f:Nat):Nat:=if i=h then c*f+b*g else if b*g<=c*f then c*f-b*g else b*g-c*f
theorem Ag4 (a b:Ar) (j k:Nat) (ha:RB j a) (hb:RB k b) (hj:j<68719476736) (hk:k<68719476736) : N3 a b=some (A9 (Ke (sv a) (nv a) (dv a) (sv b) (nv b) (dv b)) (Hz (sv a) (nv a) (dv a) (sv b) (nv b) (dv b)) (dv a*dv b)):=by
 unfold N3 Aa9;have h1:=ha.nv;have h2:=ha.dv;have h3:=hb.nv;have s:=hb.dv;have q:=Gy (nv a) (dv b);have l:=Gy (nv b) (dv a);have i:=Gy (dv a) (dv b);have h:=Aca (nv a*dv b) (nv b*dv a);have g:=Hy (Nat.sub_le (nv a*dv b) (nv b*dv a));have f:=Hy (Nat.sub_le (nv b*dv a) (nv a*dv b));rw [Vl a j ha ω,Ad,Vl b k hb ω,Ad];dsimp only;rw [Yp _ _ ω ω,Ad,Yp _ _ ω ω,Ad,Yp _ _ ω ω,Ad];by_cases c:sv a=sv b
 .have e:(sv a==sv b)=true:=(by rw [c]; exact beq_self_eq_true _);rw [e,cond_true,Axt _ _ ω ω,Ad,Ad,Sl _ _ _ ω ω,Ke,Hz,if_pos c,if_pos c]; rfl
 .have e:(sv a==sv b)=false:=(by simpa using c);rw [e,cond_false,Vj _ _ ω ω,Ad,Ke,Hz,if_neg c,if_neg c];by_cases hc:nv b*dv a<=nv a*dv b
  .rw [Aj (show Fi (nv a*dv b) (nv b*dv a)>=0 by rw [Fi,if_neg ω]; split <;> decide),cond_true,Anp _ _ ω hc,Ad,Ad,Sl _ _ _ ω ω,if_pos hc,if_pos hc]; rfl
  .rw [An (show ¬Fi (nv a*dv b) (nv b*dv a)>=0 by rw [Fi,if_pos ω]; decide),cond_false,Anp _ _ ω ω,Ad,Ad,Sl _ _ _ ω ω,if_neg hc,if_neg hc]; rfl
theorem Vn (s:Bool) (d:Nat):A9 s 0 d=⟨false,[],[1]⟩:=by simp [A9]
theorem Hf (s:Bool) (n d k:Nat) (b:Bi n<=k) (hd:Bi d<=k) (hk:1<=k):RB k (A9 s n d):=by
 unfold A9;split
 .refine ⟨(λ_ h=>by cases h),(λx h=>?_),ψ,by simpa using hk⟩;simp at h; subst h; decide
 .have h1:=Agw n (Nat.gcd n d);have h2:=Agw d (Nat.gcd n d);unfold Bi at *;exact ⟨(Er _).u32,(Er _).u32,by simp only; omega,by simp only; omega⟩
theorem Sn (s:Bool) (n d:Nat) (hd:d≠0):nv (A9 s n d)=n / Nat.gcd n d/\dv (A9 s n d)=d / Nat.gcd n d/\(n≠0->sv (A9 s n d)=s)/\(n=0->sv (A9 s n d)=false):=by
 by_cases h0:n=0
 .subst h0;rw [Vn];have c:d / Nat.gcd 0 d=1:=(by rw [Nat.gcd_zero_left]; exact Nat.div_self ω);refine ⟨by simp [nv,Ak],?_,λh=>(h rfl).elim,λ_=>by simp [sv,Ak]⟩;rw [c]; simp [dv,Ak]
 .have f:0<Nat.gcd n d:=Nat.gcd_pos_of_pos_left d ω;have h1:n / Nat.gcd n d≠0:=(by have:=Nat.div_pos (Nat.gcd_le_left d (by omega:0<n)) f; omega);have h2:d / Nat.gcd n d≠0:=(by have:=Nat.div_pos (Nat.gcd_le_right n (by omega:0<d)) f; omega);have e:A9 s n d=⟨s,Af (n / Nat.gcd n d),Af (d / Nat.gcd n d)⟩:=(by simp [A9,h0]);have b:(Ak (Af (n / Nat.gcd n d))).toNat=n / Nat.gcd n d:=(by rw [E6]; rfl);have v2:(Ak (Af (d / Nat.gcd n d))).toNat=d / Nat.gcd n d:=(by rw [E6]; rfl);rw [e];have hc:¬(n / Nat.gcd n d=0\/d / Nat.gcd n d=0):=ω;refine ⟨?_,?_,λ_=>?_,λh=>(h0 h).elim⟩
  .simp only [nv,b,v2,if_neg hc]
  .simp only [dv,b,v2,if_neg hc]
  .simp only [sv,b,v2,if_neg hc]
theorem Mm (s:Bool) (n d k:Nat) (hk:k≠0):A9 s (k*n) (k*d)=A9 s n d:=by
 unfold A9;by_cases h:n=0
 .subst h; simp
 .have h1:k*n≠0:=Nat.mul_ne_zero hk h;rw [if_neg h1,if_neg h,Nat.gcd_mul_left,Nat.mul_div_mul_left _ _ ω,Nat.mul_div_mul_left _ _ ω]
theorem Acj {s t:Bool} {n d:Nat} (h:n≠0->s=t):A9 s n d=A9 t n d:=by
 unfold A9;by_cases h0:n=0
 .simp [h0]
 .rw [h h0]
end Go.Ab
namespace Go.Ab
open Go
theorem Anv (l:List Int):J6 l=(J7 l).bind λv=>Ca 4 [] v:=by
 unfold J6 J7;generalize Al _ _=x;cases x with
 | none=>rfl
 | some v=>simp only [Ad];cases Fy l 0 v with| none=>rfl| some y=>simp only [Ad];cases Ca 4 [] y <;> rfl
theorem Ax6 (l:List Int):(Gx l).length<=l.length:=by
 induction l with
 | nil=>simp [Gx]
 | cons d l ih=>simp only [Gx];cases ht:Gx l with| nil=>simp only []; split <;> simp| cons x m=>rw [ht] at ih; simpa using ih
theorem So (l:List Int) (b:l.length<2199023255552):J6 l=some (Gx l):=by have:=Ax6 l;rw [Anv,P5 l ω,Ad,C3 (by simp; omega)]; rfl
theorem Anw (l:List Int) (hd:Mj l) (B:l.length<1099511627776):Uu l=some (Af (Ak l).toNat):=by
 unfold Uu;refine He (λ(c,i,o)=>∃k:Nat,i=k/\k<=l.length/\o.length=k/\B3 o/\0<=c/\c<5/\Ak o+1000000000 ^ k*c=Ak (l.take k)) (λ(_,i,_)=>l.length-i.toNat) (λ(c,o)=>o.length=l.length/\B3 o/\0<=c/\c<5/\Ak o+1000000000 ^ l.length*c=Ak l) ⟨0,rfl,ω,rfl,B3.nil,ω,ω,by simp [Ak]⟩ ?_ ?_
 .rintro ⟨c,i,o⟩ ⟨k,rfl,hk,f,b,j,hc,s⟩;rcases Nat.lt_or_ge k l.length with h | h
  .have hx:=hd l[k] (List.getElem_mem h);refine .inl ⟨((c+l[k]) / 1000000000,((k+1:Nat):Int),o++[(c+l[k]) % 1000000000]),?_,⟨k+1,rfl,ω,by simp [f],b.snoc ω ω,ω,ω,?_⟩,by simp; omega⟩
   .have z:Az l[k]=l[k]:=C7 ω ω;have y:Az (c+l[k])=c+l[k]:=C7 ω ω;have q:Cl ((c+l[k]) % 1000000000)=(c+l[k]) % 1000000000:=Fr ω ω;have x:=Kd h ω;have u:decide ((k:Int)<(l.length:Int))=true:=(by simpa using h);simp only [u,cond_true,Dv rfl h,Ad,z,y,Ka (show 0<=c+l[k] by omega) (show (0:Int)<1000000000 by decide),q,C3 (show (o.length+[(c+l[k]) % 1000000000].length)*4<=_ by simp; omega),Ky (show 0<=c+l[k] by omega) (show c+l[k]<=_ by omega) (show (0:Int)<1000000000 by decide),x]
   .rw [Fs l h,<-s,Kb,f,Int.pow_succ];have:=Int.mul_ediv_add_emod (c+l[k]) 1000000000;grind
  .have g:k=l.length:=ω;subst g;refine .inr ⟨(c,o),ψ,f,b,j,hc,by simpa using s⟩
 .rintro ⟨c,o⟩ ⟨h2,h3,G,E,D⟩;have A:=Gi hd;by_cases hc:c>0
  .have q:Cl c=c:=Fr ω ω;simp only [decide_eq_true hc,cond_true,q,C3 (show (o.length+[c].length)*4<=_ by simp; omega),Ad,So (o++[c]) (by simp; omega)];rw [Kz (h3.snoc ω ω) (n:=(Ak l).toNat) (by rw [Kb,h2]; omega)]
  .have:c=0:=ω;subst this;simp only [Int.lt_irrefl,gt_iff_lt,decide_false,cond_false,So o ω,Ad];rw [Kz h3 (n:=(Ak l).toNat) ω]
theorem Ack (n:Int):Ma n=Ob n:=rfl
theorem Acl (a b:List Int):Pn a b=R0 a b:=rfl
theorem Ax7 (m d:Nat) (hm:Bi m<1099511627776) (hd:0<d) (b:d<4294967296):Xr (Af m) d=some (Af (m / d),((m % d:Nat):Int)):=by
 have h:=Agy m d hm hd b;unfold R9 at h;unfold Xr;unfold Bi at hm;rw [Ju rfl rfl (Nat.le_refl _) ω ω] at h ⊢;simp only [Ad] at h ⊢;revert h;generalize Al _ _=x;cases x with
 | none=>intro h; cases h
 | some v=>obtain ⟨r,o⟩:=v;simp only [Ad];intro h;rw [Anv];cases ht:J7 o with| none=>rw [ht] at h; cases h| some y=>rw [ht] at h;simp only [Ad] at h ⊢;have hy:y=Af (m / d):=congrArg Prod.fst (Option.some.inj h);have:=Agw m d;unfold Bi at this;rw [C3 (by rw [hy]; simp; omega)];exact h
theorem Acm (m n:Nat) (hm:Bi m<1099511627776) (G:n<=m):Po (Af m) (Af n)=some (Af (m-n)):=by
 unfold Po;have J:(Af n).length<=(Af m).length:=Hy G;unfold Bi at hm;rw [Ju rfl rfl (Nat.le_refl _) ω ω];simp only [Ad];have ha:=Er m;have hb:=Er n;refine He (λ(c,i,o)=>∃k:Nat,i=k/\k<=(Af m).length/\o.length=(Af m).length/\B3 o/\o.drop k=List.replicate ((Af m).length-k) 0/\0<=c/\c<=1/\Ak o=Ak ((Af m).take k)-Ak ((Af n).take k)+1000000000 ^ k*c) (λ(_,i,_)=>(Af m).length-i.toNat) (λo=>∃c:Int,o.length=(Af m).length/\B3 o/\0<=c/\c<=1/\Ak o=(m:Int)-n+1000000000 ^ (Af m).length*c) ⟨0,rfl,ω,ψ,B3.replicate _,ψ,ω,ω,by simp [Ak,Ab7]⟩ ?_ ?_
 .rintro ⟨c,i,o⟩ ⟨k,rfl,hk,E,u,y,M,hc,z⟩;rcases Nat.lt_or_ge k (Af m).length with h | h
  .have hx:=ha.get h;have f:k<o.length:=ω;have S:=Kd h ω;have R:decide ((k:Int)<((Af m).length:Int))=true:=Aj ω;have b:o[k]=0:=(by have:=congrArg List.head? y;rw [List.head?_drop,Bv f] at this;have x:(List.replicate ((Af m).length-k) (0:Int)).head? = some 0:=(by cases X:(Af m).length-k with| zero=>omega| succ t=>rfl);rw [x] at this;exact Option.some.inj this);have key:∀s:Int,0<=s->s<=1000000000->Ak ((Af m).take (k+1))-Ak ((Af n).take (k+1))=Ak ((Af m).take k)-Ak ((Af n).take k)+1000000000 ^ k*((Af m)[k]-s+c) ->
     ∃(l d:Int),(bif (Af m)[k]>=s then (some (Sum.inl (0,((k+1:Nat):Int),(B9 o (k:Int) (Cl ((Af m)[k]-s)))))) else (some (Sum.inl (1,((k+1:Nat):Int),(B9 o (k:Int) (Cl ((Cl ((Af m)[k]+1000000000))-s)))))):Option ((Int×Int×List Int)⊕List Int))=some (.inl (l,((k+1:Nat):Int),o.set k d)) /\ (∃q:Nat,((k+1:Nat):Int)=q/\q<=(Af m).length/\(o.set k d).length=(Af m).length/\B3 (o.set k d)/\(o.set k d).drop q=List.replicate ((Af m).length-q) 0/\0<=l/\l<=1/\Ak (o.set k d)=Ak ((Af m).take q)-Ak ((Af n).take q)+1000000000 ^ q*l):=by
    intro s h1 h2 g;have j:∀d:Int,(o.set k d).drop (k+1)=List.replicate ((Af m).length-(k+1)) 0:=(by intro d;rw [List.drop_set_of_lt ω,<-List.drop_drop,y,List.drop_replicate]; congr 1);by_cases N:(Af m)[k]>=s
    .have A:Cl ((Af m)[k]-s)=(Af m)[k]-s:=Fr ω ω;refine ⟨0,(Af m)[k]-s,by rw [Aj N,cond_true,A,Fh rfl],k+1,rfl,ω,by simpa using E,u.set _ ω ω,j _,ω,ω,?_⟩;rw [Ll _ f,b,g,z]; grind
    .have A:Cl ((Af m)[k]+1000000000)=(Af m)[k]+1000000000:=Fr ω ω;have V:Cl ((Af m)[k]+1000000000-s)=(Af m)[k]+1000000000-s:=Fr ω ω;refine ⟨1,(Af m)[k]+1000000000-s,by rw [An N,cond_false,A,V,Fh rfl],k+1,rfl,ω,by simpa using E,u.set _ ω ω,j _,ω,ω,?_⟩;rw [Ll _ f,b,g,z,Int.pow_succ]; grind
   refine .inl ?_;rcases Nat.lt_or_ge k (Af n).length with hb' | hb'
   .have hy:=hb.get hb';have U:Cl (c+(Af n)[k])=c+(Af n)[k]:=Fr ω ω;obtain ⟨l,d,D,B⟩:=key (c+(Af n)[k]) ω ω (by rw [Fs _ h,Fs _ hb']; grind);refine ⟨(l,((k+1:Nat):Int),o.set k d),?_,B,by simp; omega⟩;rw [<-D];simp only [R,cond_true,Dv rfl h,Dv rfl f,Ad,Aj (by omega:(k:Int)<((Af n).length:Int)),Dv rfl hb',U,S]
   .obtain ⟨l,d,D,B⟩:=key c ω ω (by rw [Fs _ h,Jw (Af n) hb',Jw (Af n) ω]; grind);refine ⟨(l,((k+1:Nat):Int),o.set k d),?_,B,by simp; omega⟩;rw [<-D];simp only [R,cond_true,Dv rfl h,Dv rfl f,Ad,An (by omega:¬(k:Int)<((Af n).length:Int)),cond_false,S]
  .have L:k=(Af m).length:=ω;subst L;refine .inr ⟨o,ψ,c,E,u,M,hc,?_⟩;rw [List.take_length,Jw _ J,E6,E6] at z;exact z
 .rintro o ⟨c,h2,h3,h4,Z,Y⟩;have I:=Jv h3;rw [h2] at I;have hp:=Kc (Af m).length;have:c=0:=by
   rcases Int.lt_or_le 0 c with hc | hc
   .have:c=1:=ω;subst this;omega
   .omega
  subst this;rw [So o ω,Ad,Kz h3 (n:=m-n) ω]
end Go.Ab
namespace Go.Ab
open Go
theorem Ax8 {o:List Int} {k n:Nat} (hk:k<o.length) (h:o.drop k=List.replicate n 0):o[k]=0:=by have:=congrArg List.head? h;rw [List.head?_drop,Bv hk] at this;cases n with| zero=>simp at this| succ t=>exact Option.some.inj this
theorem cl1 {o X K c s x y A w:Int} (f:c+x+w=s) (hw:w=y*A) (b:1000000000*(s / 1000000000)+s % 1000000000=s) (z V:Int) (h:o+X*K*c=z+X*(y*V)):o+X*K*(s % 1000000000-x)+X*K*1000000000*(s / 1000000000)=z+X*(y*(V+K*A)):=by grind
set_option maxHeartbeats 1000000 in
theorem P8 (m n:Nat) (hm:Bi m<274877906944) (hn:Bi n<274877906944):J5 (Af m) (Af n)=some (Af (m*n)):=by
  unfold J5;unfold Bi at hm hn;have hw:Aa (((Af m).length:Int)+((Af n).length:Int))=(((Af m).length+(Af n).length:Nat):Int):=(by rw [Aa,Bm] <;> omega);have M:Aa ((((Af m).length+(Af n).length:Nat):Int)+1)=(((Af m).length+(Af n).length+1:Nat):Int):=(by rw [Aa,Bm] <;> omega);rw [hw,M,Ju rfl rfl (Nat.le_refl _) ω ω];simp only [Ad];have ha:=Er m;have hb:=Er n;have D:Ak (Af n)=n:=E6 n;generalize Af n=b at *;generalize hL:b.length=L at *;refine He (λ(i,o)=>∃k:Nat,i=k/\k<=(Af m).length/\o.length=(Af m).length+L+1/\B3 o/\o.drop (k+L)=List.replicate ((Af m).length+1-k) 0/\Ak o=Ak ((Af m).take k)*n) (λ(i,_)=>(Af m).length-i.toNat) (λo=>o.length=(Af m).length+L+1/\B3 o/\Ak o=((m*n:Nat):Int)) ⟨0,rfl,ω,ψ,B3.replicate _,by rw [List.drop_replicate]; congr 1; omega,by simp [Ab7,Ak]⟩ ?_ ?_
  . rintro ⟨i,o⟩ ⟨k,rfl,hk,ho,G,U,N⟩;rcases Nat.lt_or_ge k (Af m).length with h | h
    . have hx:=ha.get h;have e4:=Kd h ω;have e5:decide ((k:Int)<((Af m).length:Int))=true:=Aj ω;simp only [e5,cond_true];have X:Ae (Af m) (k:Int)=some (Af m)[k]:=Dv rfl h;generalize J:(Af m)[k]=x at *;refine .inl (Ab4 (Fe (λ(c,j,o')=>∃q:Nat,j=q/\o'.length=(Af m).length+L+1/\B3 o'/\0<=c/\c<1000000000 /\ ((q<=L/\o'.drop (k+L)=List.replicate ((Af m).length+1-k) 0/\Ak o' + 1000000000 ^ (k+q)*c=Ak o+1000000000 ^ k*(x*Ak (b.take q))) \/ (q=L+1/\c=0/\o'.drop (k+1+L)=List.replicate ((Af m).length+1-(k+1)) 0/\Ak o'=Ak o+1000000000 ^ k*(x*n)))) (λ(_,j,_)=>L+1-j.toNat) (λ(c,j,o')=>o'.length=(Af m).length+L+1/\B3 o'/\o'.drop (k+1+L)=List.replicate ((Af m).length+1-(k+1)) 0/\Ak o'=Ak o+1000000000 ^ k*(x*n)) ⟨0,rfl,ho,G,ω,ω,.inl ⟨ω,U,by simp [Ak]⟩⟩ ?_ ?_))
      . rintro ⟨c,j,o'⟩ ⟨q,rfl,u,g,A,hc,hq⟩;rcases hq with ⟨hq,f,l⟩ | ⟨rfl,rfl,f,l⟩
        . have e8:Aa ((k:Int)+(q:Int))=((k+q:Nat):Int):=(by rw [Aa,Bm] <;> omega);have e6:Aa ((q:Int)+1)=((q+1:Nat):Int):=Kd (Nat.lt_succ_self q) ω;have y:k+q<o'.length:=ω;have a1:=g.get y;have w4:Az o'[k+q]=o'[k+q]:=C7 ω ω;have w5:Az (c+o'[k+q])=c+o'[k+q]:=C7 ω ω;have p1:(1000000000:Int) ^ (k+(q+1))=1000000000 ^ (k+q)*1000000000:=(by rw [<-Nat.add_assoc,Int.pow_succ]);have Z:(1000000000:Int) ^ (k+q)=1000000000 ^ k*1000000000 ^ q:=Int.pow_add ..;rcases Nat.lt_or_ge q L with hq' | hq'
          . have B:q<b.length:=ω;have hy:=hb.get B;have a6:=Acf hx.1 hx.2 hy.1 hy.2;have w1:Az x=x:=C7 ω ω;have w2:Az b[q]=b[q]:=C7 ω ω;have w3:Az (x*b[q])=x*b[q]:=C7 ω ω;have Y:Az (c+o'[k+q]+x*b[q])=c+o'[k+q]+x*b[q]:=C7 ω ω;generalize hs:c+o'[k+q]+x*b[q]=s at Y;have E:0<=s:=ω;have a7:s<1000000000000000000:=ω;have w7:Cl (s % 1000000000)=s % 1000000000:=Fr ω ω;refine .inl ⟨(s / 1000000000,((q+1:Nat):Int),o'.set (k+q) (s % 1000000000)),?_,⟨q+1,rfl,by simpa using u,g.set _ ω ω,ω,ω,.inl ⟨ω,?_,?_⟩⟩,by simp; omega⟩
            . simp only [Aj (by omega:(q:Int)<(L:Int)),cond_true,Ad,e8,Dv rfl y,X,Dv rfl B,w1,w2,w3,w4,w5,hs,Y,Ka E (show (0:Int)<1000000000 by decide),Ky E (show s<=_ by omega) (show (0:Int)<1000000000 by decide),w7,e6,Fh rfl]
            . rw [List.drop_set_of_lt ω]; exact f
            . rw [Ll _ y,Fs _ B,p1,Z];rw [Z] at l;exact cl1 hs rfl (Int.mul_ediv_add_emod s 1000000000) _ _ l
          . have R:q=L:=ω;subst R;by_cases V:c>0
            . have z:o'[k+q]=0:=Ax8 y f;refine .inl ⟨(0,((q+1:Nat):Int),o'.set (k+q) c),?_,⟨q+1,rfl,by simpa using u,g.set _ ω ω,ω,ω,.inr ⟨rfl,rfl,?_,?_⟩⟩,ψ⟩
              . have w8:Cl c=c:=Fr ω ω;have w9:Az c=c:=C7 ω ω;simp only [An (by omega:¬(q:Int)<(q:Int)),cond_false,Aj V,cond_true,Ad,e8,Dv rfl y,z,show Az (0:Int)=0 from rfl,Int.add_zero,w9,Ka A (show (0:Int)<1000000000 by decide),Ky A (show c<=_ by omega) (show (0:Int)<1000000000 by decide),Int.emod_eq_of_lt A hc,Int.ediv_eq_zero_of_lt A hc,w8,e6,Fh rfl]
              . rw [List.drop_set_of_lt ω,show k+1+q=(k+q)+1 by omega,<-List.drop_drop,f,List.drop_replicate]; congr 1
              . rw [Ll _ y,z,Int.sub_zero];rw [List.take_of_length_le ω,D] at l;omega
            . have I:c=0:=ω;subst I;refine .inr ⟨(0,(q:Int),o'),?_,u,g,?_,?_⟩
              . simp only [An (by omega:¬(q:Int)<(q:Int)),cond_false,Ad,show decide ((0:Int)>0)=false from rfl]
              . rw [show k+1+q=(k+q)+1 by omega,<-List.drop_drop,f,List.drop_replicate]; congr 1
              . rw [List.take_of_length_le ω,D] at l;omega
        . refine .inr ⟨(0,((L+1:Nat):Int),o'),?_,u,g,f,l⟩;simp only [An (by omega:¬((L+1:Nat):Int)<(L:Int)),cond_false,Ad,show decide ((0:Int)>0)=false from rfl]
      . rintro ⟨c,j,o'⟩ ⟨u,g,f,l⟩;refine ⟨_,by simp only [e4],(((k+1:Nat):Int),o'),rfl,⟨k+1,rfl,ω,u,g,f,?_⟩,by simp; omega⟩;rw [l,Fs _ h,Int.add_mul,<-N,J]; grind
    . have S:k=(Af m).length:=ω;subst S;refine .inr ⟨o,ψ,ho,G,?_⟩;rw [List.take_length,E6] at N;rw [N]; simp
  . rintro o ⟨h2,h3,h4⟩;rw [So o ω,Ad,Kz h3 h4]
theorem Ax9 (m n:Nat) (hm:Bi m<274877906944) (U:Bi n<274877906944):Xf (Af m) (Af n)=some (Af (m+n)):=by
 unfold Xf;unfold Bi at hm U;have ha:=Er m;have hb:=Er n;have I:Ak (Af m)=m:=E6 m;have G:Ak (Af n)=n:=E6 n;have L:=Ace (n:=m);have J:=Ace (n:=n);generalize Af m=a at *;generalize Af n=b at *;generalize hM:max a.length b.length=M;refine He (λ(c,i,o)=>∃k:Nat,i=k/\o.length=k/\B3 o/\0<=c/\c<=1/\((k<=M/\Ak o+1000000000 ^ k*c=Ak (a.take k)+Ak (b.take k))\/(k=M+1/\c=0/\Ak o=m+n/\1000000000 ^ M<=Ak o))) (λ(_,i,_)=>M+1-i.toNat) (λo=>B3 o/\Ak o=m+n/\(o≠[]->1000000000 ^ (o.length-1)<=Ak o)) ⟨0,rfl,rfl,B3.nil,ω,ω,.inl ⟨ω,by simp [Ak]⟩⟩ ?_ ?_
 .rintro ⟨c,i,o⟩ ⟨k,rfl,l,h,X,hc,hk⟩;rcases hk with ⟨hk,x⟩ | ⟨rfl,rfl,x,hp⟩
  .have Z:Aa ((k:Int)+1)=((k+1:Nat):Int):=Kd (Nat.lt_succ_self k) ω;have step:∀s:Int,0<=s->s<2000000000 ->
     ((Fk .u32 s 1000000000).bind λD=>(Gp s 1000000000).bind λB=>(Ca 4 o [B]).bind λE=>some (Sum.inl (D,(Aa ((k:Int)+1)),E)))=some (Sum.inl (s / 1000000000,((k+1:Nat):Int),o++[s % 1000000000]):(Int×Int×List Int)⊕List Int):=by intro s h1 h2;rw [Agu h1 ω δ,Ad,Ka h1 δ,Ad,C3 (by simp; omega),Ad,Z]
   have g:∀s:Int,0<=s->s<2000000000->k<M->Ak (a.take (k+1))+Ak (b.take (k+1))=Ak (a.take k)+Ak (b.take k)+1000000000 ^ k*(s-c) ->
     (∃q:Nat,((k+1:Nat):Int)=q/\(o++[s % 1000000000]).length=q/\B3 (o++[s % 1000000000])/\0<=s / 1000000000/\s / 1000000000<=1/\((q<=M/\Ak (o++[s % 1000000000])+1000000000 ^ q*(s / 1000000000)=Ak (a.take q)+Ak (b.take q))\/(q=M+1/\s / 1000000000=0/\Ak (o++[s % 1000000000])=m+n/\1000000000 ^ M<=Ak (o++[s % 1000000000])))):=by intro s h1 h2 y u;refine ⟨k+1,rfl,by simp [l],h.snoc ω ω,ω,ω,.inl ⟨ω,?_⟩⟩;rw [u,<-x,Kb,l,Int.pow_succ];have:=Int.mul_ediv_add_emod s 1000000000;grind
   by_cases j:k<a.length
   .have hx:=ha.get j;have S:Cl (c+a[k])=c+a[k]:=Fr ω ω;by_cases f:k<b.length
    .have hy:=hb.get f;have A:Cl (c+a[k]+b[k])=c+a[k]+b[k]:=Fr ω ω;refine .inl ⟨((c+a[k]+b[k]) / 1000000000,((k+1:Nat):Int),o++[(c+a[k]+b[k]) % 1000000000]),?_,g (c+a[k]+b[k]) ω ω ω (by rw [Fs a j,Fs b f]; grind),by simp; omega⟩;rw [<-step (c+a[k]+b[k]) ω ω];simp only [Aj (by omega:(k:Int)<(a.length:Int)),Aj (by omega:(k:Int)<(b.length:Int)),cond_true,Ad,Dv rfl j,Dv rfl f,S,A]
    .refine .inl ⟨((c+a[k]) / 1000000000,((k+1:Nat):Int),o++[(c+a[k]) % 1000000000]),?_,g (c+a[k]) ω ω ω (by rw [Fs a j,Jw b ω,Jw b ω]; grind),by simp; omega⟩;rw [<-step (c+a[k]) ω ω];simp only [Aj (by omega:(k:Int)<(a.length:Int)),An (by omega:¬(k:Int)<(b.length:Int)),cond_true,cond_false,Ad,Dv rfl j,S]
   .by_cases f:k<b.length
    .have hy:=hb.get f;have A:Cl (c+b[k])=c+b[k]:=Fr ω ω;refine .inl ⟨((c+b[k]) / 1000000000,((k+1:Nat):Int),o++[(c+b[k]) % 1000000000]),?_,g (c+b[k]) ω ω ω (by rw [Fs b f,Jw a ω,Jw a ω]; grind),by simp; omega⟩;rw [<-step (c+b[k]) ω ω];simp only [An (by omega:¬(k:Int)<(a.length:Int)),Aj (by omega:(k:Int)<(b.length:Int)),cond_true,cond_false,Ad,Dv rfl f,A]
    .have y:k=M:=ω;subst y;rw [Jw a ω,Jw b ω,I,G] at x;by_cases Y:c>0
     .have R:c=1:=ω;subst R;refine .inl ⟨((1:Int) / 1000000000,((k+1:Nat):Int),o++[(1:Int) % 1000000000]),?_,⟨k+1,rfl,by simp [l],h.snoc δ δ,δ,δ,.inr ⟨rfl,rfl,?_,?_⟩⟩,ψ⟩
      .rw [<-step 1 ω ω];simp only [An (by omega:¬(k:Int)<(a.length:Int)),An (by omega:¬(k:Int)<(b.length:Int)),cond_false,Ad,show decide ((1:Int)>0)=true from rfl,cond_true]
      .rw [Kb,l]; exact x
      .rw [Kb,l,show (1:Int) % 1000000000=1 from rfl];have:=Gi h.u32;omega
     .have z:c=0:=ω;subst z;refine .inr ⟨o,?_,h,ω,λN=>?_⟩
      .simp only [An (by omega:¬(k:Int)<(a.length:Int)),An (by omega:¬(k:Int)<(b.length:Int)),cond_false,Ad,show decide ((0:Int)>0)=false from rfl]
      .have V:k≠0:=(by intro e; rw [e] at l; exact N (List.length_eq_zero_iff.1 l));rcases Nat.le_total a.length b.length with hab | hab
       .have:k=b.length:=ω;have h1:=J (by intro e; rw [e] at this; simp at this; omega);rw [l,this]; omega
       .have:k=a.length:=ω;have h1:=L (by intro e; rw [e] at this; simp at this; omega);rw [l,this]; omega
  .refine .inr ⟨o,?_,h,x,λ_=>by rw [l]; simpa using hp⟩;simp only [An (by omega:¬((M+1:Nat):Int)<(a.length:Int)),An (by omega:¬((M+1:Nat):Int)<(b.length:Int)),cond_false,Ad,show decide ((0:Int)>0)=false from rfl]
 .rintro o ⟨h1,h2,h3⟩;congr 1;exact Ab9 (Agx h1 h3) (by rw [h2]; simp)
end Go.Ab
