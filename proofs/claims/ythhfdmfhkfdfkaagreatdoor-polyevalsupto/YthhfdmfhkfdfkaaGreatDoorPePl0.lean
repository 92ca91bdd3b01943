/- Plain laws: what the plain functions answer. -/
import Derived.Test.YthhfdmfhkfdfkaaGreatDoorPeDef
namespace Go.Ab
open Go
theorem Ad {α β:Type} (a:α) (f:α->Option β):(some a).bind f=f a:=rfl
theorem Be {α:Type} {l:List α} {i:Nat} (h:i<l.length):l[i]? = some l[i]:=List.getElem?_eq_getElem h
theorem Bg {α:Type} {l:List α} {i:Nat} {a:α} (h:l[i]? = some a):a∈l:=List.mem_of_getElem? h
theorem Ca (a b:Bool):((a&&b)=true)=(a=true/\b=true):=Bool.and_eq_true a b
theorem D3:(!true)=false:=rfl
theorem He {S E R:Type} {step:S->Option (S⊕E)} {s:S} {J:E->Option R} {r:R} (c:S->Prop) (m:S->Nat) (b:E->Prop) (h0:c s) (f:∀s,c s->(∃s',step s=some (.inl s')/\c s'/\m s' < m s)\/(∃e,step s=some (.inr e)/\b e)) (g:∀e,b e->J e=some r):(Al step s).bind J=some r:=by obtain ⟨e,h1,h2⟩:=P5 c m b f s h0;rw [h1]; exact g e h2
theorem C6 {S E R:Type} {step:S->Option (S⊕E)} {s:S} {J:E->Option R} {Q:R->Prop} (c:S->Prop) (m:S->Nat) (b:E->Prop) (h0:c s) (f:∀s,c s->(∃s',step s=some (.inl s')/\c s'/\m s' < m s)\/(∃e,step s=some (.inr e)/\b e)) (g:∀e,b e->∃r,J e=some r/\Q r):∃r,(Al step s).bind J=some r/\Q r:=by obtain ⟨e,h1,h2⟩:=P5 c m b f s h0;rw [h1]; exact g e h2
theorem M4 {S E:Type} {X:Option (S⊕E)} {Q:S->Prop} (h:∃r,X=some r/\∃s',r = .inl s'/\Q s'):∃s',X=some (.inl s')/\Q s':=by obtain ⟨r,h1,s',rfl,h2⟩:=h;exact ⟨s',h1,h2⟩
theorem Avm {S E:Type} {X:Option (S⊕E)} {Q:E->Prop} (h:∃r,X=some r/\∃e,r = .inr e/\Q e):∃e,X=some (.inr e)/\Q e:=by obtain ⟨r,h1,s',rfl,h2⟩:=h;exact ⟨s',h1,h2⟩
theorem Afk {A R:Type} {X:Option R} (f:A->R) {Q:A->Prop} (h:∃r,X=some r/\∃a,r=f a/\Q a):∃a,X=some (f a)/\Q a:=by obtain ⟨r,h1,a,rfl,h2⟩:=h;exact ⟨a,h1,h2⟩
theorem Avn {A R:Type} {X:Option A} {f g:A->Option R} (h:∀a,f a=g a):X.bind f=X.bind g:=by have:f=g:=funext h;rw [this]
theorem Afl {α β:Type} {c:Prop} [Decidable c] (a b:Option α) (f:α->Option β):(if c then a else b).bind f=if c then a.bind f else b.bind f:=by split <;> rfl
theorem B4 {n:Int} (h1 : -9223372036854775808<=n) (h2:n<=9223372036854775807):IntKind.i64.wrap n=n:=by
 have e:IntKind.i64.wrap n=if 9223372036854775808<=n % 18446744073709551616 then n % 18446744073709551616-18446744073709551616 else n % 18446744073709551616:=by simp [IntKind.wrap,IntKind.bits,IntKind.signed]
 rw [e]; split <;> omega
theorem Cy {n:Int} (h1:0<=n) (h2:n<=18446744073709551615):IntKind.u64.wrap n=n:=by
 have e:IntKind.u64.wrap n=n % 18446744073709551616:=by simp [IntKind.wrap,IntKind.bits,IntKind.signed]
 rw [e]; omega
theorem Fe {n:Int} (h1:0<=n) (h2:n<=4294967295):IntKind.u32.wrap n=n:=by
 have e:IntKind.u32.wrap n=n % 4294967296:=by simp [IntKind.wrap,IntKind.bits,IntKind.signed]
 rw [e]; omega
theorem Df {α:Type} {l:List α} {i:Int} {n:Nat} (hi:i=n) (h:n<l.length):Ae l i=some l[n]:=by subst hi; simp [Ae,h]
theorem Bi {α:Type} {l:List α} {i:Int} {n:Nat} {x:α} (hi:i=n) (h:l[n]? = some x):Ae l i=some x:=by subst hi; simp [Ae,h]
theorem Amf {α:Type} {l:List α} {i:Int} (h:i<0\/(l.length:Int)<=i):Ae l i=none:=by
 unfold Ae;split
 .rw [List.getElem?_eq_none]; omega
 .rfl
theorem Ho {α:Type} {l:List α} {i:Int} {n:Nat} (hi:i=n) (x:α):Cf l i x=l.set n x:=by subst hi; simp [Cf]
theorem Di {α:Type} {b:Nat} {xs ys:List α} (h:(xs.length+ys.length)*b<=140737488355328):Bx b xs ys=some (xs++ys):=by simp [Bx,h]
theorem Js {α:Type} {b:Nat} {len f:Int} {z:α} {n c:Nat} (h1:len=n) (h2:f=c) (h3:n<=c) (h4:b*c<=281474976710656) (g:c<=140737488355328):Ew b len f z=some (List.replicate n z):=by subst h1; subst h2;have a1:(0:Int)<=(n:Int):=ω;have a2:(n:Int)<=(c:Int):=ω;have a3:(c:Int)<=140737488355328:=ω;simp [Ew,a2,a3,h4]
theorem Afm {α:Type} {b:Nat} {f:Int} {z:α} {c:Nat} (h2:f=c) (h4:b*c<=281474976710656) (g:c<=140737488355328):Ew b 0 f z=some []:=by exact Js (len:=0) (n:=0) (c:=c) rfl h2 ω h4 g
theorem Bz {a b:Int} (h:a≠b):(a==b)=false:=by simpa using h
theorem Ct {a b:Int} (h:a=b):(a==b)=true:=by simpa using h
theorem Cs {a b:Int} (h:a≠b):(a != b)=true:=by simpa using h
theorem Cp {a b:Int} (h:a=b):(a != b)=false:=by simpa using h
theorem An {p:Prop} [Decidable p] (h:p):decide p=true:=decide_eq_true h
theorem Aq {p:Prop} [Decidable p] (h:¬p):decide p=false:=decide_eq_false h
theorem Aat {α:Type} {l:List α} {hi:Int} {n:Nat} (h:hi=n) (b:n<=l.length):G1 l 0 hi=some (l.take n):=by subst h;have:(n:Int)<=(l.length:Int):=ω;simp [G1,this]
theorem Jd {a b:Int} (ha:0<=a) (hb:0<b):Gl a b=some (a % b):=by have:b≠0:=ω;simp [Gl,this,Int.tmod_eq_emod_of_nonneg ha]
theorem Jt {a b:Int} (ha:0<=a) (c:a<=18446744073709551615) (hb:0<b):Fv .u64 a b=some (a / b):=by have:b≠0:=ω;have h1:0<=a / b:=Int.ediv_nonneg ha ω;have h2:a / b<=a:=Int.ediv_le_self _ ha;simp [Fv,this,Int.tdiv_eq_ediv_of_nonneg ha];exact Cy h1 ω
theorem Afn {a b:Int} (ha:0<=a) (c:a<=4294967295) (hb:0<b):Fv .u32 a b=some (a / b):=by have:b≠0:=ω;have h1:0<=a / b:=Int.ediv_nonneg ha ω;have h2:a / b<=a:=Int.ediv_le_self _ ha;simp [Fv,this,Int.tdiv_eq_ediv_of_nonneg ha];exact Fe h1 ω
def Aj:List Int->Int
 | []=>0
 | d::l=>d+1000000000*Aj l
def Bs (l:List Int):Prop:=∀d∈l,0<=d/\d<1000000000
def Kb (l:List Int):Prop:=∀d∈l,0<=d/\d<4294967296
def Can (l:List Int):Prop:=Bs l/\∀h:l≠[],l.getLast h≠0
def Af (n:Nat):List Int:=if h:n=0 then [] else ((n % 1000000000:Nat):Int)::Af (n / 1000000000)
termination_by n
decreasing_by exact Nat.div_lt_self ω δ
theorem Fi:Af 0 = []:=by rw [Af]; simp
theorem Lc {n:Nat} (h:n≠0):Af n=((n % 1000000000:Nat):Int)::Af (n / 1000000000):=by rw [Af]; simp [h]
theorem Bs.nil:Bs []:=λ_ h=>by cases h
theorem Bs.append {l m:List Int} (h:Bs l) (h':Bs m):Bs (l++m):=by
 intro d hd;rcases List.mem_append.1 hd with hd | hd
 .exact h d hd
 .exact h' d hd
theorem Bs.one {d:Int} (h:0<=d) (h':d<1000000000):Bs [d]:=by intro x hx; simp at hx; subst hx; exact ⟨h,h'⟩
theorem Bs.snoc {l:List Int} {d:Int} (h:Bs l) (hd:0<=d) (b:d<1000000000):Bs (l++[d]):=h.append (Bs.one hd b)
theorem Bs.take {l:List Int} (h:Bs l) (k:Nat):Bs (l.take k):=λd hd=>h d (List.mem_of_mem_take hd)
theorem Bs.drop {l:List Int} (h:Bs l) (k:Nat):Bs (l.drop k):=λd hd=>h d (List.mem_of_mem_drop hd)
theorem Bs.get {l:List Int} (h:Bs l) {i:Nat} (hi:i<l.length):0<=l[i]/\l[i]<1000000000:=h _ (List.getElem_mem hi)
theorem Bs.set {l:List Int} (h:Bs l) (i:Nat) {d:Int} (hd:0<=d) (b:d<1000000000):Bs (l.set i d):=by
 intro x hx;rcases List.mem_or_eq_of_mem_set hx with hx | rfl
 .exact h x hx
 .exact ⟨hd,b⟩
theorem Bs.replicate (n:Nat):Bs (List.replicate n 0):=by intro d hd;have:=List.eq_of_mem_replicate hd;subst this; decide
theorem Bs.tail {d:Int} {l:List Int} (h:Bs (d::l)):Bs l:=λx hx=>h x (by simp [hx])
theorem Bs.u32 {l:List Int} (h:Bs l):Kb l:=λd hd=>by have:=h d hd; omega
theorem Amg (l m:List Int):Aj (l++m)=Aj l+1000000000 ^ l.length*Aj m:=by induction l with| nil=>simp [Aj]| cons d l ih=>simp only [List.cons_append,Aj,ih,List.length_cons,Int.pow_succ]; grind
theorem Je (l:List Int) (d:Int):Aj (l++[d])=Aj l+1000000000 ^ l.length*d:=by rw [Amg]; simp [Aj]
theorem Ff (l:List Int) {k:Nat} (h:k<l.length):Aj (l.take (k+1))=Aj (l.take k)+1000000000 ^ k*l[k]:=by rw [List.take_succ_eq_append_getElem h,Je];simp [Nat.min_eq_left (Nat.le_of_lt h)]
theorem Aau (n:Nat):Aj (List.replicate n 0)=0:=by induction n with| zero=>rfl| succ n ih=>simp [List.replicate_succ,Aj,ih]
theorem Mb (l:List Int) (k:Nat) (h:k<=l.length):Aj l=Aj (l.take k)+1000000000 ^ k*Aj (l.drop k):=by have e:=Amg (l.take k) (l.drop k);rw [List.take_append_drop] at e;rw [e,List.length_take,Nat.min_eq_left h]
theorem Kc (l:List Int) {i:Nat} (h:i<l.length) (d:Int):Aj (l.set i d)=Aj l+1000000000 ^ i*(d-l[i]):=by
 induction l generalizing i with
 | nil=>simp at h
 | cons x l ih=>cases i with| zero=>simp [Aj]; omega| succ i=>have hi:i<l.length:=(by simpa using h);simp only [List.set_cons_succ,Aj,ih hi,List.getElem_cons_succ,Int.pow_succ];grind
theorem Gd {l:List Int} (h:Kb l):0<=Aj l:=by induction l with| nil=>simp [Aj]| cons d l ih=>have h1:=h d ψ;have h2:=ih (λx hx=>h x (by simp [hx]));simp only [Aj]; omega
theorem Jf (n:Nat):(0:Int)<1000000000 ^ n:=Int.pow_pos δ
theorem Iz {l:List Int} (h:Bs l):Aj l<1000000000 ^ l.length:=by induction l with| nil=>simp [Aj]| cons d l ih=>have h1:=h d ψ;have h2:=ih h.tail;simp only [Aj,List.length_cons,Int.pow_succ];omega
theorem Er (n:Nat):Aj (Af n)=n:=by
 induction n using Nat.strongRecOn with
 | _ n ih=>
  by_cases h:n=0
  .subst h; rw [Fi]; rfl
  .rw [Lc h,Aj,ih (n / 1000000000) (Nat.div_lt_self ω δ)];omega
theorem Eb (n:Nat):Bs (Af n):=by
 induction n using Nat.strongRecOn with
 | _ n ih=>
  by_cases h:n=0
  .subst h; rw [Fi]; exact Bs.nil
  .rw [Lc h];intro d hd;simp at hd;rcases hd with rfl | hd
   .omega
   .exact ih (n / 1000000000) (Nat.div_lt_self ω δ) d hd
theorem Hx {n:Nat} (h:n≠0):Af n≠[]:=by rw [Lc h]; simp
theorem Aav (n:Nat):Can (Af n):=by
 refine ⟨Eb n,?_⟩;induction n using Nat.strongRecOn with
 | _ n ih=>
  intro b;have h:n≠0:=λe=>b (by rw [e]; exact Fi);have hc:=Lc h;by_cases h2:n / 1000000000=0
  .have c:Af n = [((n % 1000000000:Nat):Int)]:=(by rw [hc,h2,Fi]);simp only [c,List.getLast_singleton];omega
  .have:=ih (n / 1000000000) (Nat.div_lt_self ω δ) (Hx h2);simp only [hc];rwa [List.getLast_cons (Hx h2)]
theorem Afo {l:List Int} (h:Can l):Af (Aj l).toNat=l:=by induction l with| nil=>exact Fi| cons d l ih=>obtain ⟨h1,h2⟩:=h;have hd:=h1 d ψ;have f:Can l:=(by refine ⟨h1.tail,λb=>?_⟩;have:=h2 ψ;rwa [List.getLast_cons b] at this);have hv:=Gd (h1.tail).u32;have b:(Aj (d::l)).toNat≠0:=(by intro e;simp only [Aj] at e;have c:d=0:=ω;have hv:Aj l=0:=ω;have:l = []:=(by rw [<-ih f,hv]; exact Fi);subst this;exact h2 ψ (by simpa using c));rw [Lc b];simp only [Aj];have g:((d+1000000000*Aj l).toNat % 1000000000:Nat)=d.toNat:=ω;have e2:(d+1000000000*Aj l).toNat / 1000000000=(Aj l).toNat:=ω;rw [g,e2,ih f];congr 1; omega
theorem Aaw {l:List Int} {n:Nat} (h:Can l) (hv:Aj l=n):l=Af n:=by rw [<-Afo h,hv]; rfl
def Gq:List Int->List Int
 | []=>[]
 | d::l=>match Gq l with
  | []=>if d=0 then [] else [d]
  | x::m=>d::x::m
theorem Avo (l:List Int):Gq (l++[0])=Gq l:=by induction l with| nil=>rfl| cons d l ih=>simp only [List.cons_append,Gq,ih]
theorem Avp {l:List Int} {d:Int} (h:d≠0):Gq (l++[d])=l++[d]:=by
 induction l with
 | nil=>simp [Gq,h]
 | cons x l ih=>simp only [List.cons_append,Gq,ih];cases l with| nil=>rfl| cons y l=>rfl
theorem Amh {l:List Int} (h:Bs l):Can (Gq l)/\Aj (Gq l)=Aj l:=by
 induction l with
 | nil=>exact ⟨⟨Bs.nil,λh=>(h rfl).elim⟩,rfl⟩
 | cons d l ih=>
  obtain ⟨⟨i1,i2⟩,i3⟩:=ih h.tail;have hd:=h d ψ;simp only [Gq];cases ht:Gq l with
  | nil=>
   rw [ht] at i3;simp only [Aj] at i3;simp only [];by_cases b:d=0
   .rw [if_pos b];refine ⟨⟨Bs.nil,λh=>(h rfl).elim⟩,?_⟩;simp only [Aj]; rw [<-i3]; omega
   .rw [if_neg b];refine ⟨⟨Bs.one hd.1 hd.2,λ_=>by simpa using b⟩,?_⟩;simp only [Aj]; rw [<-i3]
  | cons x m=>
   rw [ht] at i1 i2 i3;simp only [];refine ⟨⟨?_,λ_=>?_⟩,?_⟩
   .intro y hy;rcases List.mem_cons.1 hy with rfl | hy
    .exact hd
    .exact i1 y hy
   .rw [List.getLast_cons ψ]; exact i2 ψ
   .simp only [Aj] at i3 ⊢; rw [i3]
theorem Ju {l:List Int} {n:Nat} (h:Bs l) (hv:Aj l=n):Gq l=Af n:=by obtain ⟨h1,h2⟩:=Amh h;exact Aaw h1 (h2.trans hv)
theorem Avq {l:List Int} (h:Can l):Gq l=l:=by obtain ⟨h1,h2⟩:=Amh h.1;rw [<-Afo h1,h2,Afo h]
def Ba (n:Nat):Nat:=(Af n).length
theorem Re:Ba 0=0:=by simp [Ba,Fi]
theorem Mc (n:Nat):n<1000000000 ^ Ba n:=by have:=Iz (Eb n);rw [Er] at this;have e:((1000000000 ^ Ba n:Nat):Int)=1000000000 ^ Ba n:=ψ;unfold Ba at *;omega
theorem Kd {n k:Nat} (h:n<1000000000 ^ k):Ba n<=k:=by
 induction k generalizing n with
 | zero=>simp at h; subst h; simp [Re]
 | succ k ih=>
  by_cases h0:n=0
  .subst h0; simp [Re]
  .unfold Ba;rw [Lc h0,List.length_cons];have:n / 1000000000<1000000000 ^ k:=(by rw [Nat.div_lt_iff_lt_mul δ]; rwa [Nat.pow_succ] at h);have:=ih this;unfold Ba at this; omega
theorem G4 {m n:Nat} (h:m<=n):Ba m<=Ba n:=Kd (Nat.lt_of_le_of_lt h (Mc n))
theorem Ami {n k:Nat} (h:k<Ba n):1000000000 ^ k<=n:=by
 rcases Nat.lt_or_ge n (1000000000 ^ k) with h' | h'
 .have:=Kd h'; omega
 .exact h'
theorem W8 (m n:Nat):Ba (m+n)<=max (Ba m) (Ba n)+1:=by apply Kd;have h1:=Mc m;have h2:=Mc n;have h3:1000000000 ^ Ba m<=1000000000 ^ max (Ba m) (Ba n):=Nat.pow_le_pow_right δ (Nat.le_max_left _ _);have h4:1000000000 ^ Ba n<=1000000000 ^ max (Ba m) (Ba n):=Nat.pow_le_pow_right δ (Nat.le_max_right _ _);rw [Nat.pow_succ];omega
theorem Fp (m n:Nat):Ba (m*n)<=Ba m+Ba n:=by apply Kd;rw [Nat.pow_add];exact Nat.mul_lt_mul_of_lt_of_le (Mc m) (Nat.le_of_lt (Mc n)) (Nat.pow_pos δ)
theorem Afp (m n:Nat):Ba (m / n)<=Ba m:=G4 (Nat.div_le_self _ _)
theorem Amj {m n:Nat} (h:Ba m<Ba n):m<n:=Nat.lt_of_lt_of_le (Mc m) (Ami h)
theorem Amk {l m:List Int} (g:Bs l) {k:Nat} (hk:k<l.length) (b:k<m.length) (f:Bs m) (hd:l.drop (k+1)=m.drop (k+1)) (c:l[k]<m[k]):Aj l<Aj m:=by have i:=Mb l (k+1) hk;have e2:=Mb m (k+1) b;rw [Ff l hk] at i;rw [Ff m b,<-hd] at e2;have h3:=Iz (g.take k);have h4:=Gd ((f.take k).u32);rw [List.length_take,Nat.min_eq_left (Nat.le_of_lt hk)] at h3;have h:1000000000 ^ k*(l[k]+1)<=1000000000 ^ k*m[k]:=Int.mul_le_mul_of_nonneg_left c (Int.le_of_lt (Jf k));rw [Int.mul_add] at h;omega
end Go.Ab
namespace Go.Ab
open Go
theorem Ke {S E R:Type} {step:S->Option (S⊕E)} {s0:S} {J:E->Option R} {r:R} (n:Nat) (b:Nat->S) (h0:s0=b 0) (c:∀j,j<n->step (b j)=some (.inl (b (j+1)))) (f:∃e,step (b n)=some (.inr e)/\J e=some r):(Al step s0).bind J=some r:=by
 have key:∀m,m<=n->Al step (b 0)=Al step (b m):=by intro m;induction m with| zero=>intro _; rfl| succ m ih=>intro h; rw [ih ω,K1 (c m ω)]
 obtain ⟨e,h1,h2⟩:=f;rw [h0,key n (Nat.le_refl _),F3 h1];exact h2
theorem Co {j n:Nat} (h:j<n) (b:n<4611686018427387904):Aa ((j:Int)+1)=((j+1:Nat):Int):=by rw [Aa,B4] <;> omega
theorem Aml {α:Type} {l:List α} {p:α×Nat->Bool} (h:l.zipIdx.all p=false):∃j x,l[j]? = some x/\p (x,j)=false/\∀i y,i<j->l[i]? = some y->p (y,i)=true:=by
 have key:∀(n:Nat),(∀i y,i<n->l[i]? = some y->p (y,i)=true)\/∃j x,j<n/\l[j]? = some x/\p (x,j)=false/\∀i y,i<j->l[i]? = some y->p (y,i)=true:=by
  intro n;induction n with
  | zero=>exact .inl (λi y h=>ω)
  | succ n ih=>
   rcases ih with ih | ⟨j,x,h1,h2,h3,h4⟩
   .cases hx:l[n]? with
    | none=>exact .inl (λi y hi hy=>by
      rcases Nat.lt_or_ge i n with h | h
      .exact ih i y h hy
      .have:i=n:=ω
       subst this; rw [hx] at hy; cases hy)
    | some x=>
     cases hp:p (x,n) with
     | true=>exact .inl (λi y hi hy=>by
       rcases Nat.lt_or_ge i n with h | h
       .exact ih i y h hy
       .have:i=n:=ω
        subst this; rw [hx] at hy; cases hy; exact hp)
     | false=>exact .inr ⟨n,x,ω,hx,hp,ih⟩
   .exact .inr ⟨j,x,ω,h2,h3,h4⟩
 rcases key l.length with hk | ⟨j,x,h1,h2,h3,h4⟩
 .exfalso;have:l.zipIdx.all p=true:=by
   rw [List.all_eq_true];rintro ⟨y,i⟩ hy;have:=List.mk_mem_zipIdx_iff_getElem?.1 hy;have hi:i<l.length:=by
    rcases Nat.lt_or_ge i l.length with h | h
    .exact h
    .rw [List.getElem?_eq_none h] at this; cases this
   exact hk i y hi this
  rw [this] at h; cases h
 .exact ⟨j,x,h2,h3,h4⟩
theorem Ge {α:Type} {l:List α} {p:α×Nat->Bool} (h:l.zipIdx.all p=true) {j:Nat} {x:α} (hx:l[j]? = some x):p (x,j)=true := List.all_eq_true.1 h _ (List.mk_mem_zipIdx_iff_getElem?.2 hx)
theorem W9 {α:Type} {l:List α} {p:α×Nat->Bool} (h:∀j x,l[j]? = some x->p (x,j)=true):l.zipIdx.all p=true:=by rw [List.all_eq_true];rintro ⟨y,i⟩ hy;exact h i y (List.mk_mem_zipIdx_iff_getElem?.1 hy)
theorem M5 {S E R α:Type} {step:S->Option (S⊕E)} {s0:S} {J:E->Option R} {rt rf:R} (l:List α) (p:α×Nat->Bool) (b:Nat->S) (h0:s0=b 0) (g:l.length<4611686018427387904) (f:∀(j:Nat) (x:α),l[j]? = some x->(∀i y,i<j->l[i]? = some y->p (y,i)=true)->decide ((j:Int)<(l.length:Int))=true->Ae l (j:Int)=some x->Aa ((j:Int)+1)=((j+1:Nat):Int) -> (p (x,j)=true->step (b j)=some (.inl (b (j+1))))/\(p (x,j)=false->∃e,step (b j)=some (.inr e)/\J e=some rf)) (q:decide ((l.length:Int)<(l.length:Int))=false->l.zipIdx.all p=true->∃e,step (b l.length)=some (.inr e)/\J e=some rt):(Al step s0).bind J=some (bif l.zipIdx.all p then rt else rf):=by
 have c:∀(j:Nat) (x:α),l[j]? = some x->(∀i y,i<j->l[i]? = some y->p (y,i)=true)->_:=λj x hx hy=>
  have hj:j<l.length:=by
   rcases Nat.lt_or_ge j l.length with h | h
   .exact h
   .rw [List.getElem?_eq_none h] at hx; cases hx
  f j x hx hy (An ω) (Bi rfl hx) (Co hj g)
 cases hb:l.zipIdx.all p with
 | true=>refine Ke l.length b h0 (λj hj=>?_) (q ψ hb);have hx:l[j]? = some l[j]:=Be hj;exact (c j _ hx (λi y _ hy=>Ge hb hy)).1 (Ge hb hx)
 | false=>
  obtain ⟨j,x,h1,h2,h3⟩:=Aml hb;refine Ke j b h0 (λi hi=>?_) ((c j x h1 h3).2 h2);have hj:j<l.length:=by
   rcases Nat.lt_or_ge j l.length with h | h
   .exact h
   .rw [List.getElem?_eq_none h] at h1; cases h1
  have hx:l[i]? = some l[i]:=Be ω;exact (c i _ hx (λk y hk hy=>h3 k y ω hy)).1 (h3 i _ hi hx)
theorem Aax {α:Type} (l:List α) (p:α->Bool):l.zipIdx.all (λq=>p q.1)=l.all p:=by
 cases h:l.all p with
 | true=>exact W9 λj x hx=>List.all_eq_true.1 h _ (Bg hx)
 | false=>cases h':l.zipIdx.all (λq=>p q.1) with| false=>rfl| true=>rw [<-h]; symm;rw [List.all_eq_true];intro x hx;obtain ⟨j,hj⟩:=List.getElem?_of_mem hx;exact Ge h' hj
theorem Ld {S E R α:Type} {step:S->Option (S⊕E)} {s0:S} {J:E->Option R} {rt rf:R} (l:List α) (p:α->Bool) (b:Nat->S) (h0:s0=b 0) (f:l.length<4611686018427387904) (c:∀(j:Nat) (x:α),l[j]? = some x->decide ((j:Int)<(l.length:Int))=true->Ae l (j:Int)=some x->Aa ((j:Int)+1)=((j+1:Nat):Int) -> (p x=true->step (b j)=some (.inl (b (j+1))))/\(p x=false->∃e,step (b j)=some (.inr e)/\J e=some rf)) (g:decide ((l.length:Int)<(l.length:Int))=false->∃e,step (b l.length)=some (.inr e)/\J e=some rt):(Al step s0).bind J=some (bif l.all p then rt else rf):=by rw [<-Aax l p];exact M5 l (λq=>p q.1) b h0 f (λj x hx _=>c j x hx) (λh _=>g h)
theorem Fg {S E R α:Type} {step:S->Option (S⊕E)} {s0:S} {J:E->Option R} {r:R} (l:List α) (b:Nat->S) (h0:s0=b 0) (f:l.length<4611686018427387904) (c:∀(j:Nat) (x:α),j<l.length->l[j]? = some x->decide ((j:Int)<(l.length:Int))=true->Ae l (j:Int)=some x->Aa ((j:Int)+1)=((j+1:Nat):Int)->step (b j)=some (.inl (b (j+1)))) (g:decide ((l.length:Int)<(l.length:Int))=false->∃e,step (b l.length)=some (.inr e)/\J e=some r):(Al step s0).bind J=some r:=by refine Ke l.length b h0 (λj hj=>?_) (g ψ);have hx:l[j]? = some l[j]:=Be hj;exact c j _ hj hx (An ω) (Bi rfl hx) (Co hj f)
theorem Cu {α:Type} {l:List α} {j:Nat} {x:α} (h:l[j]? = some x):l.take (j+1)=l.take j++[x]:=by rw [List.take_add_one,h]; rfl
theorem Dr {α:Type} {l:List α} {j:Nat} {x:α} (h:l[j]? = some x):j<l.length:=by
 rcases Nat.lt_or_ge j l.length with h' | h'
 .exact h'
 .rw [List.getElem?_eq_none h'] at h; cases h
theorem Kf (b:Bool):(bif b then true else false)=b:=by cases b <;> rfl
theorem Avr (b:Bool):(bif b then false else true) = !b:=by cases b <;> rfl
theorem Xa {A R:Type} {X:Option A} {f:A->Option R} {y:R} {Q:A->Prop} (h:∃r,X=some r/\Q r) (b:∀r,Q r->f r=some y):X.bind f=some y:=by obtain ⟨r,h1,h2⟩:=h;rw [h1]; exact b r h2
theorem Afq {α:Type} (l:List α) (p:α->Bool) {step:Int->Option (Int⊕(Int⊕Unit))} {J:Int⊕Unit->Option Int} (k:l.length<4611686018427387904) (g:∀(j:Nat) (x:α),x∈l->decide ((j:Int)<(l.length:Int))=true->Ae l (j:Int)=some x->Aa ((j:Int)+1)=((j+1:Nat):Int) -> step (j:Int)=bif p x then some (.inr (.inl (j:Int))) else some (.inl ((j+1:Nat):Int))) (q:decide ((l.length:Int)<(l.length:Int))=false->step (l.length:Int)=some (.inr (.inr ()))) (c:∀i,J (.inl i)=some i) (b:J (.inr ())=some (-1)):∃i,(Al step 0).bind J=some i/\decide (i>=0)=l.any p:=by
 have key:(Al step 0).bind (λz=>(J z).bind λi=>some (decide (i>=0)))=some (bif l.all (λx=>!p x) then false else true):=by refine Ld l (λx=>!p x) (λj=>(j:Int)) rfl k (λj x hx h1 h2 h3=>?_) (λh=>⟨.inr (),q h,by rw [b]; rfl⟩);have h:=g j x (Bg hx) h1 h2 h3;simp only [h];cases p x with| true=>exact ⟨(λh=>by cases h),λ_=>⟨.inl (j:Int),rfl,by simp only [c,Ad]; rw [An ω]⟩⟩| false=>exact ⟨λ_=>rfl,λh=>by cases h⟩
 have e:l.any p=(bif l.all (λx=>!p x) then false else true):=by rw [Avr,List.not_all_eq_any_not]; simp
 rw [e];cases f:Al step 0 with
 | none=>rw [f] at key; cases key
 | some z=>rw [f,Ad] at key;rw [Ad];cases hi:J z with| none=>rw [hi] at key; cases key| some i=>rw [hi,Ad] at key;exact ⟨i,rfl,Option.some.inj key⟩
theorem Xb {S E R α M:Type} {step:S->Option (S⊕E)} {s0:S} {J:E->Option R} (l:List α) (p:α×Nat->Bool) (b:Nat->M->S) (I:M->Prop) (s u:R->Prop) (g:M) (h0:s0=b 0 g) (h:I g) (A:l.length<4611686018427387904) (z:∀(j:Nat) (x:α) (m:M),I m->l[j]? = some x->(∀i y,i<j->l[i]? = some y->p (y,i)=true)->decide ((j:Int)<(l.length:Int))=true->Ae l (j:Int)=some x->Aa ((j:Int)+1)=((j+1:Nat):Int) -> (p (x,j)=true->∃f,step (b j m)=some (.inl (b (j+1) f))/\I f)/\(p (x,j)=false->∃e,step (b j m)=some (.inr e)/\∃r,J e=some r/\u r)) (B:∀m,I m->decide ((l.length:Int)<(l.length:Int))=false->l.zipIdx.all p=true->∃e,step (b l.length m)=some (.inr e)/\∃r,J e=some r/\s r) : ∃r,(Al step s0).bind J=some r/\((l.zipIdx.all p=true/\s r)\/(l.zipIdx.all p=false/\u r)):=by
 have c:∀(j:Nat) (x:α) (m:M),I m->l[j]? = some x->(∀i y,i<j->l[i]? = some y->p (y,i)=true)->_:=λj x m D hx hy=>
  have hj:j<l.length:=Dr hx
  z j x m D hx hy (An ω) (Bi rfl hx) (Co hj A)
 have key:∀n,n<=l.length->(∀i y,i<n->l[i]? = some y->p (y,i)=true)->∃m,I m/\Al step s0=Al step (b n m):=by intro n;induction n with| zero=>intro _ _; exact ⟨g,h,by rw [h0]⟩| succ n ih=>intro L hy;obtain ⟨m,h1,h2⟩:=ih ω (λi y hi=>hy i y ω);have hx:l[n]? = some l[n]:=Be ω;obtain ⟨f,h3,h4⟩:=(c n _ m h1 hx (λi y hi=>hy i y ω)).1 (hy n _ ω hx);exact ⟨f,h4,by rw [h2,K1 h3]⟩
 cases hb:l.zipIdx.all p with| true=>obtain ⟨m,h1,h2⟩:=key l.length (Nat.le_refl _) (λi y _ hy=>Ge hb hy);obtain ⟨e,q,r,e2,k⟩:=B m h1 ψ hb;exact ⟨r,by rw [h2,F3 q]; exact e2,.inl ⟨rfl,k⟩⟩| false=>obtain ⟨j,x,h1,h2,h3⟩:=Aml hb;obtain ⟨m,h4,G⟩:=key j (Nat.le_of_lt (Dr h1)) h3;obtain ⟨e,q,r,e2,k⟩:=(c j x m h4 h1 h3).2 h2;exact ⟨r,by rw [G,F3 q]; exact e2,.inr ⟨rfl,k⟩⟩
end Go.Ab
namespace Go.Ab
open Go
theorem Ox (l:List Int) (b:l.length<4611686018427387904):I9 l=some (Gq l):=by
 unfold I9;refine He (λv=>∃k:Nat,v=k/\k<=l.length/\Gq (l.take k)=Gq l) (λv=>v.toNat) (λv=>∃k:Nat,v=k/\k<=l.length/\l.take k=Gq l) ⟨l.length,rfl,Nat.le_refl _,ψ⟩ ?_ ?_
 .rintro v ⟨k,rfl,hk,ht⟩;cases k with
  | zero=>exact .inr ⟨0,rfl,0,rfl,ω,by simpa [Gq] using ht⟩
  | succ j=>
   have hw:Aa (((j+1:Nat):Int)-1)=(j:Int):=(by rw [Aa,B4] <;> omega);have hj:j<l.length:=ω;have hp:decide (((j+1:Nat):Int)>0)=true:=An ω;simp only [hp,cond_true,hw,Df rfl hj,Ad];rw [List.take_succ_eq_append_getElem hj] at ht;by_cases h0:l[j]=0
   .rw [h0,Avo] at ht;exact .inl ⟨j,by rw [Ct h0]; rfl,⟨j,rfl,ω,ht⟩,ω⟩
   .rw [Avp h0] at ht;exact .inr ⟨((j+1:Nat):Int),by rw [Bz h0]; rfl,j+1,rfl,ω,by rw [List.take_succ_eq_append_getElem hj]; exact ht⟩
 .rintro v ⟨k,rfl,hk,ht⟩;rw [Aat rfl hk,ht]; rfl
theorem Amm (l:List Int) (hd:Kb l) (A:l.length<1099511627776):Sx l=some (Af (Aj l).toNat):=by
 unfold Sx;have f:Aa ((l.length:Int)+1)=((l.length+1:Nat):Int):=by rw [Aa,B4] <;> omega
 rw [f,Afm rfl ω ω];simp only [Ad];refine He (λ(c,i,o)=>∃k:Nat,i=k/\k<=l.length/\o.length=k/\Bs o/\0<=c/\c<5/\Aj o+1000000000 ^ k*c=Aj (l.take k)) (λ(_,i,_)=>l.length-i.toNat) (λ(c,o)=>o.length=l.length/\Bs o/\0<=c/\c<5/\Aj o+1000000000 ^ l.length*c=Aj l) ⟨0,rfl,ω,rfl,Bs.nil,ω,ω,by simp [Aj]⟩ ?_ ?_
 .rintro ⟨c,i,o⟩ ⟨k,rfl,hk,g,b,q,hc,hv⟩;rcases Nat.lt_or_ge k l.length with h | h
  .have hx:=hd l[k] (List.getElem_mem h);refine .inl ⟨((l[k]+c) / 1000000000,((k+1:Nat):Int),o++[(l[k]+c) % 1000000000]),?_,⟨k+1,rfl,ω,by simp [g],b.snoc ω ω,ω,ω,?_⟩,by simp; omega⟩
   .have y:A2 l[k]=l[k]:=Cy ω ω;have e2:A2 (l[k]+c)=l[k]+c:=Cy ω ω;have s:B7 ((l[k]+c) % 1000000000)=(l[k]+c) % 1000000000:=Fe ω ω;have x:Aa ((k:Int)+1)=((k+1:Nat):Int):=(by rw [Aa,B4] <;> omega);have u:decide ((k:Int)<(l.length:Int))=true:=(by simpa using h);simp only [u,cond_true,Df rfl h,Ad,y,e2,Jd (show 0<=l[k]+c by omega) (show (0:Int)<1000000000 by decide),s,Di (show (o.length+[(l[k]+c) % 1000000000].length)*4<=_ by simp; omega),Jt (show 0<=l[k]+c by omega) (show l[k]+c<=_ by omega) (show (0:Int)<1000000000 by decide),x]
   .rw [Ff l h,<-hv,Je,g,Int.pow_succ];have:=Int.mul_ediv_add_emod (l[k]+c) 1000000000;grind
  .have j:k=l.length:=ω;subst j;refine .inr ⟨(c,o),ψ,g,b,q,hc,by simpa using hv⟩
 .rintro ⟨c,o⟩ ⟨h2,h3,h4,D,B⟩;have z:=Gd hd;by_cases hc:c>0
  .have s:B7 c=c:=Fe ω ω;simp only [decide_eq_true hc,cond_true,s,Di (show (o.length+[c].length)*4<=_ by simp; omega),Ad,Ox (o++[c]) (by simp; omega)];rw [Ju (h3.snoc ω ω) (n:=(Aj l).toNat) (by rw [Je,h2]; omega)]
  .have:c=0:=ω;subst this;simp only [Int.lt_irrefl,gt_iff_lt,decide_false,cond_false,Ox o ω,Ad];rw [Ju h3 (n:=(Aj l).toNat) ω]
end Go.Ab
namespace Go.Ab
open Go
theorem Lf {n:Nat} (h:n<18446744073709551616):Ba n<=3:=Kd (Nat.lt_of_lt_of_le h δ)
theorem Oy (n:Nat) (h:n<18446744073709551616):Mw n=some (Af n):=by
 unfold Mw;have b:=Lf h;unfold Ba at b;refine He (λ(w,o)=>∃k:Nat,w=k/\k<=n/\o++Af k=Af n) (λ(w,_)=>w.toNat) (λo=>o=Af n) ⟨n,rfl,Nat.le_refl _,ψ⟩ ?_ (by rintro o rfl; rfl);rintro ⟨w,o⟩ ⟨k,rfl,hk,c⟩;by_cases h0:k=0
 .subst h0;rw [Fi,List.append_nil] at c;exact .inr ⟨o,ψ,c⟩
 .have f:o.length<=3:=(by rw [<-c] at b; simp at b; omega);refine .inl ⟨(((k / 1000000000:Nat):Int),o++[((k % 1000000000:Nat):Int)]),?_,⟨k / 1000000000,rfl,ω,by rw [List.append_assoc]; rw [Lc h0] at c; exact c⟩,by simp; omega⟩;have j:decide ((k:Int)>0)=true:=An ω;have e2:Gl (k:Int) 1000000000=some ((k % 1000000000:Nat):Int):=(by rw [Jd ω δ]; rfl);have i:B7 ((k % 1000000000:Nat):Int)=((k % 1000000000:Nat):Int):=Fe ω ω;have g:Fv .u64 (k:Int) 1000000000=some ((k / 1000000000:Nat):Int):=(by rw [Jt ω ω δ]; rfl);simp only [j,cond_true,e2,Ad,i,Di (show (o.length+[((k % 1000000000:Nat):Int)].length)*4<=_ by simp; omega),g]
def Ei (m n:Nat):Int:=if m<n then -1 else if n<m then 1 else 0
theorem Rf (m n:Nat) (g:Ba m<1099511627776) (f:Ba n<1099511627776):Qh (Af m) (Af n)=some (Ei m n):=by
 unfold Qh;unfold Ba at g f;by_cases h:(Af m).length=(Af n).length
 .rw [Cp (by omega:((Af m).length:Int)=(Af n).length),cond_false];have hw:Aa (((Af m).length:Int)-1)=((Af m).length:Int)-1:=(by rw [Aa,B4] <;> omega);rw [hw];refine He (λv=>∃k:Nat,v=(k:Int)-1/\k<=(Af m).length/\(Af m).drop k=(Af n).drop k) (λv=>(v+1).toNat) (λe=>match e with | .inl r=>r=Ei m n | .inr _=>m=n) ⟨(Af m).length,rfl,Nat.le_refl _,by rw [List.drop_length,h,List.drop_length]⟩ ?_ ?_
  .rintro v ⟨k,rfl,hk,hd⟩;cases k with
   | zero=>refine .inr ⟨.inr (),ψ,?_⟩;have:Af m=Af n:=(by simpa using hd);have:=congrArg Aj this;rw [Er,Er] at this;show m=n;omega
   | succ j=>
    have hj:j<(Af m).length:=ω;have hj':j<(Af n).length:=ω;have l:((j+1:Nat):Int)-1=(j:Int):=ω;have i:decide ((j:Int)>=0)=true:=An ω;simp only [l,i,cond_true,Df rfl hj,Df rfl hj',Ad];rcases Int.lt_trichotomy (Af m)[j] (Af n)[j] with b | heq | hgt
    .refine .inr ⟨.inl (-1),by rw [An b]; rfl,?_⟩;have:=Amk (Eb m) hj hj' (Eb n) hd b;rw [Er,Er] at this;show (-1:Int)=Ei m n;rw [Ei,if_pos ω]
    .refine .inl ⟨(j:Int)-1,?_,⟨j,rfl,ω,?_⟩,ω⟩
     .rw [Aq (by omega:¬(Af m)[j]<(Af n)[j]),cond_false,Aq (by omega:¬(Af m)[j]>(Af n)[j]),cond_false];rw [Aa,B4 ω ω]
     .rw [List.drop_eq_getElem_cons hj,List.drop_eq_getElem_cons hj',hd,heq]
    .refine .inr ⟨.inl 1,by rw [Aq (by omega:¬(Af m)[j]<(Af n)[j]),cond_false,An (by omega:(Af m)[j]>(Af n)[j])]; rfl,?_⟩;have:=Amk (Eb n) hj' hj (Eb m) hd.symm hgt;rw [Er,Er] at this;show (1:Int)=Ei m n;rw [Ei,if_neg ω,if_pos ω]
  .rintro (e | e) c
   .simp only at c ⊢; rw [c]
   .simp only at c ⊢; rw [Ei,if_neg ω,if_neg ω]
 .rw [Cs (by omega:((Af m).length:Int)≠(Af n).length),cond_true];by_cases b:(Af m).length<(Af n).length
  .rw [An (by omega:((Af m).length:Int)<(Af n).length),cond_true];have:=Amj (m:=m) (n:=n) b;rw [Ei,if_pos this]
  .rw [Aq (by omega:¬((Af m).length:Int)<(Af n).length),cond_false];have:=Amj (m:=n) (n:=m) (by unfold Ba; omega);rw [Ei,if_neg ω,if_pos this]
theorem Afr {l:List Int} (h:Bs l) (hv:l≠[]->1000000000 ^ (l.length-1)<=Aj l):Can l:=by refine ⟨h,λb h0=>?_⟩;have h1:=hv b;have e:=List.dropLast_concat_getLast b;have h2:Bs l.dropLast:=λd hd=>h d (List.dropLast_subset l hd);have h3:=Iz h2;rw [List.length_dropLast] at h3;have h4:=congrArg Aj e;rw [Je,h0] at h4;omega
theorem I0 (l:List Int) {k:Nat} (h:l.length<=k):Aj (l.take k)=Aj l:=by rw [List.take_of_length_le h]
theorem Amn (a b:List Int) (ha:Bs a) (hb:Bs b) (hl:a.length<1099511627776) (hab:b.length<=a.length) (R:a≠[]->1000000000 ^ (a.length-1)<=Aj a) : ((Ew 4 0 (Aa ((a.length:Int)+1)) (0:Int)).bind λY=> (Al (S:=(Int×Int×(List Int))) (E:=(Int×(List Int))) (λ(v20,v21,u)=> bif v21<(a.length:Int) then ((Ae a v21).bind λv23=> (show Option Int from bif v21<(b.length:Int) then ((Ae b v21).bind λv24=> some (B7 ((B7 (v23+v20))+v24))) else (some (B7 (v23+v20)))).bind λv25=> (Fv .u32 v25 1000000000).bind λv26=> (Gl v25 1000000000).bind λf=> (Bx 4 u [f]).bind λg=> some (.inl (v26,(Aa (v21+1)),g))) else (some (.inr (v20,u)))) (0,0,Y)).bind λ(l,q)=> bif l>(0:Int) then ((Bx 4 q [l]).bind λJ=> some J) else (some q))=some (Af (Aj a+Aj b).toNat):=by
 have A:Aa ((a.length:Int)+1)=((a.length+1:Nat):Int):=by rw [Aa,B4] <;> omega
 rw [A,Afm rfl ω ω];simp only [Ad];have a6:=Gd ha.u32;have a1:=Gd hb.u32;refine He (λ(c,i,o)=>∃k:Nat,i=k/\k<=a.length/\o.length=k/\Bs o/\0<=c/\c<=1/\Aj o+1000000000 ^ k*c=Aj (a.take k)+Aj (b.take k)) (λ(_,i,_)=>a.length-i.toNat) (λ(c,o)=>o.length=a.length/\Bs o/\0<=c/\c<=1/\Aj o+1000000000 ^ a.length*c=Aj a+Aj b) ⟨0,rfl,ω,rfl,Bs.nil,ω,ω,by simp [Aj]⟩ ?_ ?_
 .rintro ⟨c,i,o⟩ ⟨k,rfl,hk,L,z,U,hc,hv⟩;rcases Nat.lt_or_ge k a.length with h | h
  .have hx:=ha.get h;have e4:Aa ((k:Int)+1)=((k+1:Nat):Int):=(by rw [Aa,B4] <;> omega);have e5:decide ((k:Int)<(a.length:Int))=true:=An ω;have step:∀s:Int,0<=s->s<2000000000->(show Option Int from bif (k:Int)<(b.length:Int) then ((Ae b k).bind λv24=>some (B7 ((B7 (a[k]+c))+v24))) else some (B7 (a[k]+c)))=some s ->
     Aj (a.take (k+1))+Aj (b.take (k+1))=Aj (a.take k)+Aj (b.take k)+1000000000 ^ k*(s-c) -> (∃s',(bif (k:Int)<(a.length:Int) then ((Ae a k).bind λv23=> (show Option Int from bif (k:Int)<(b.length:Int) then ((Ae b k).bind λv24=> some (B7 ((B7 (v23+c))+v24))) else (some (B7 (v23+c)))).bind λv25=> (Fv .u32 v25 1000000000).bind λv26=> (Gl v25 1000000000).bind λf=> (Bx 4 o [f]).bind λg=> some (.inl (v26,(Aa ((k:Int)+1)),g))) else (some (.inr (c,o))))=some (Sum.inl s':(Int×Int×List Int)⊕(Int×List Int))/\(∃j:Nat,s'.2.1=j/\j<=a.length/\s'.2.2.length=j/\Bs s'.2.2/\0<=s'.1/\s'.1<=1/\Aj s'.2.2+1000000000 ^ j*s'.1=Aj (a.take j)+Aj (b.take j))/\a.length-s'.2.1.toNat<a.length-(k:Int).toNat):=by
    intro s y Z hs x;refine ⟨(s / 1000000000,((k+1:Nat):Int),o++[s % 1000000000]),?_,⟨k+1,rfl,ω,by simp [L],z.snoc ω ω,by simp; omega,by simp; omega,?_⟩,by simp; omega⟩
    .rw [e5,cond_true,Df rfl h,Ad,hs,Ad,Afn y ω δ,Ad,Jd y δ,Ad,Di (by simp; omega),Ad,e4]
    .rw [x,<-hv,Je,L,Int.pow_succ];have:=Int.mul_ediv_add_emod s 1000000000;grind
   refine .inl ?_;rcases Nat.lt_or_ge k b.length with hb' | hb'
   .have hy:=hb.get hb';obtain ⟨s',I,G,D⟩:=step (a[k]+c+b[k]) ω ω (by have B:B7 (a[k]+c)=a[k]+c:=Fe ω ω;have X:B7 (a[k]+c+b[k])=a[k]+c+b[k]:=Fe ω ω;show (bif (k:Int)<(b.length:Int) then _ else _)=_;rw [An (by omega:(k:Int)<(b.length:Int)),cond_true,Df rfl hb',Ad,B,X]) (by rw [Ff a h,Ff b hb']; grind);exact ⟨s',I,G,D⟩
   .obtain ⟨s',I,G,D⟩:=step (a[k]+c) ω ω (by have B:B7 (a[k]+c)=a[k]+c:=Fe ω ω;show (bif (k:Int)<(b.length:Int) then _ else _)=_;rw [Aq (by omega:¬(k:Int)<(b.length:Int)),cond_false,B]) (by rw [Ff a h,I0 b hb',I0 b ω]; grind);exact ⟨s',I,G,D⟩
  .have N:k=a.length:=ω;subst N;refine .inr ⟨(c,o),ψ,L,z,U,hc,?_⟩;rw [List.take_length,I0 b hab] at hv;exact hv
 .rintro ⟨c,o⟩ ⟨h2,h3,h4,h5,h6⟩;simp only [];by_cases hc:c>0
  .have:c=1:=ω;subst this;rw [An hc,cond_true,Di (by simp; omega),Ad];congr 1;refine Aaw (Afr (h3.snoc ω ω) λ_=>?_) (by rw [Je,h2]; omega);rw [Je,h2];have:=Gd h3.u32;simp [h2]; omega
  .have:c=0:=ω;subst this;rw [Aq hc,cond_false];congr 1;refine Aaw (Afr h3 λM=>?_) ω;have V:a≠[]:=(by intro e; rw [e] at h2; exact M (List.length_eq_zero_iff.1 h2));have:=R V;rw [h2]; omega
theorem Aay {n:Nat} (h:Af n≠[]):1000000000 ^ ((Af n).length-1)<=Aj (Af n):=by
 rw [Er];have h1:(Af n).length≠0:=λe=>h (List.length_eq_zero_iff.1 e);have:=Ami (n:=n) (k:=(Af n).length-1) (by unfold Ba; omega);have e:((1000000000 ^ ((Af n).length-1):Nat):Int)=1000000000 ^ ((Af n).length-1):=by rw [Int.natCast_pow]; rfl
 omega
theorem Amo (m n:Nat) (c:Ba m<1099511627776) (b:Ba n<1099511627776):Vy (Af m) (Af n)=some (Af (m+n)):=by
 unfold Vy;unfold Ba at c b;by_cases f:(Af m).length<(Af n).length
 .simp only [An (by omega:((Af m).length:Int)<(Af n).length),cond_true,Ad];have:=Amn (Af n) (Af m) (Eb n) (Eb m) b ω Aay;rw [Er,Er] at this;rw [show m+n=((n:Int)+(m:Int)).toNat by omega];exact this
 .simp only [Aq (by omega:¬((Af m).length:Int)<(Af n).length),cond_false,Ad];have:=Amn (Af m) (Af n) (Eb m) (Eb n) c ω Aay;rw [Er,Er] at this;rw [show m+n=((m:Int)+(n:Int)).toNat by omega];exact this
end Go.Ab
namespace Go.Ab
open Go
theorem Jv {k n:Nat} (h:k<n) (b:n<4611686018427387904):Aa ((k:Int)+1)=((k+1:Nat):Int):=by rw [Aa,B4] <;> omega
theorem Aaz (m n:Nat) (V:Ba m<1099511627776) (A:n<=m):Sy (Af m) (Af n)=some (Af (m-n)):=by
 unfold Sy;have D:(Af n).length<=(Af m).length:=G4 A;unfold Ba at V;rw [Afm rfl ω ω];simp only [Ad];have ha:=Eb m;have hb:=Eb n;refine He (λ(c,i,o)=>∃k:Nat,i=k/\k<=(Af m).length/\o.length=k/\Bs o/\0<=c/\c<=1/\Aj o=Aj ((Af m).take k)-Aj ((Af n).take k)+1000000000 ^ k*c) (λ(_,i,_)=>(Af m).length-i.toNat) (λo=>∃c:Int,o.length=(Af m).length/\Bs o/\0<=c/\c<=1/\Aj o=(m:Int)-n+1000000000 ^ (Af m).length*c) ⟨0,rfl,ω,rfl,Bs.nil,ω,ω,by simp [Aj]⟩ ?_ ?_
 .rintro ⟨c,i,o⟩ ⟨k,rfl,hk,l,g,G,hc,hv⟩;rcases Nat.lt_or_ge k (Af m).length with h | h
  .have hx:=ha.get h;have N:=Jv h ω;have M:decide ((k:Int)<((Af m).length:Int))=true:=An ω;have J:Aa (Af m)[k]=(Af m)[k]:=B4 ω ω;have I:Aa ((Af m)[k]-c)=(Af m)[k]-c:=B4 ω ω;have key:∀s:Int,-1000000001<=s->s<1000000000->Aj ((Af m).take (k+1))-Aj ((Af n).take (k+1))=Aj ((Af m).take k)-Aj ((Af n).take k)+1000000000 ^ k*(s+c) ->
     ∃(f:Int) (d:Int),(bif decide (s<0) then ((Bx 4 o [(B7 (Aa (s+1000000000)))]).bind λz=>some (Sum.inl (1,(Aa ((k:Int)+1)),z))) else ((Bx 4 o [(B7 s)]).bind λy=>some (Sum.inl (0,(Aa ((k:Int)+1)),y))))=some (Sum.inl (f,((k+1:Nat):Int),o++[d]):(Int×Int×List Int)⊕List Int) /\ (-1000000000<=s->(∃j:Nat,((k+1:Nat):Int)=j/\j<=(Af m).length/\(o++[d]).length=j/\Bs (o++[d])/\0<=f/\f<=1/\Aj (o++[d])=Aj ((Af m).take j)-Aj ((Af n).take j)+1000000000 ^ j*f)):=by
    intro s h1 h2 b;by_cases L:s<0
    .refine ⟨1,B7 (Aa (s+1000000000)),by rw [An L,cond_true,Di (by simp; omega),Ad,N],λh3=>?_⟩;have U:Aa (s+1000000000)=s+1000000000:=B4 ω ω;have q:B7 (s+1000000000)=s+1000000000:=Fe ω ω;rw [U,q];refine ⟨k+1,rfl,ω,by simp [l],g.snoc ω ω,ω,ω,?_⟩;rw [b,Je,l,hv,Int.pow_succ]; grind
    .refine ⟨0,B7 s,by rw [Aq L,cond_false,Di (by simp; omega),Ad,N],λh3=>?_⟩;have q:B7 s=s:=Fe ω ω;rw [q];refine ⟨k+1,rfl,ω,by simp [l],g.snoc ω ω,ω,ω,?_⟩;rw [b,Je,l,hv,Int.pow_succ]; grind
   refine .inl ?_;rcases Nat.lt_or_ge k (Af n).length with hb' | hb'
   .have hy:=hb.get hb';have S:Aa (Af n)[k]=(Af n)[k]:=B4 ω ω;have R:Aa ((Af m)[k]-c-(Af n)[k])=(Af m)[k]-c-(Af n)[k]:=B4 ω ω;obtain ⟨f,d,x,u⟩:=key ((Af m)[k]-c-(Af n)[k]) ω ω (by rw [Ff _ h,Ff _ hb']; grind);refine ⟨(f,((k+1:Nat):Int),o++[d]),?_,u ω,by simp; omega⟩;rw [<-x];simp only [M,cond_true,Df rfl h,Ad,J,I,An (by omega:(k:Int)<((Af n).length:Int)),Df rfl hb',S,R]
   .obtain ⟨f,d,x,u⟩:=key ((Af m)[k]-c) ω ω (by rw [Ff _ h,I0 (Af n) hb',I0 (Af n) ω]; grind);refine ⟨(f,((k+1:Nat):Int),o++[d]),?_,u ω,by simp; omega⟩;rw [<-x];simp only [M,cond_true,Df rfl h,Ad,J,I,Aq (by omega:¬(k:Int)<((Af n).length:Int)),cond_false]
  .have E:k=(Af m).length:=ω;subst E;refine .inr ⟨o,ψ,c,l,g,G,hc,?_⟩;rw [List.take_length,I0 _ D,Er,Er] at hv;exact hv
 .rintro o ⟨c,h2,h3,h4,Y,X⟩;have B:=Iz h3;rw [h2] at B;have hp:=Jf (Af m).length;have:c=0:=by
   rcases Int.lt_or_le 0 c with hc | hc
   .have:c=1:=ω;subst this;omega
   .omega
  subst this;rw [Ox o ω,Ad,Ju h3 (n:=m-n) ω]
theorem Afs (m d:Nat) (L:Ba m<1099511627776) (hd:0<d) (M:d<4294967296):Qy (Af m) d=some (Af (m / d),((m % d:Nat):Int)):=by
 unfold Qy;unfold Ba at L;rw [Js rfl rfl (Nat.le_refl _) ω ω];simp only [Ad];have ha:=Eb m;have hw:Aa (((Af m).length:Int)-1)=((Af m).length:Int)-1:=by rw [Aa,B4] <;> omega
 rw [hw];refine He (λ(r,i,o)=>∃k:Nat,i=(k:Int)-1/\k<=(Af m).length/\o.length=(Af m).length/\Bs o/\0<=r/\r<d/\Aj (o.drop k)*d+r=Aj ((Af m).drop k)) (λ(_,i,_)=>(i+1).toNat) (λ(r,o)=>o.length=(Af m).length/\Bs o/\0<=r/\r<d/\Aj o*d+r=m) ⟨(Af m).length,rfl,Nat.le_refl _,ψ,Bs.replicate _,ω,ω,by simp [Aj]⟩ ?_ ?_
 .rintro ⟨r,i,o⟩ ⟨k,rfl,hk,z,g,s,J,hv⟩;cases k with
  | zero=>exact .inr ⟨(r,o),ψ,z,g,s,J,by simpa [Er] using hv⟩
  | succ j=>
   have hj:j<(Af m).length:=ω;have h:j<o.length:=ω;have hx:=ha.get hj;have U:((j+1:Nat):Int)-1=(j:Int):=ω;have S:decide ((j:Int)>=0)=true:=An ω;have G:A2 (r*1000000000)=r*1000000000:=Cy ω ω;have E:A2 (Af m)[j]=(Af m)[j]:=Cy ω ω;have D:A2 (r*1000000000+(Af m)[j])=r*1000000000+(Af m)[j]:=Cy ω ω;have b:(0:Int)<(d:Int):=ω;have c:0<=r*1000000000+(Af m)[j]:=ω;have f:0<=(r*1000000000+(Af m)[j]) / (d:Int):=Int.ediv_nonneg c ω;have u:(r*1000000000+(Af m)[j]) / (d:Int)<1000000000:=(by apply Int.ediv_lt_of_lt_mul b;have:(r+1)*1000000000<=d*1000000000:=Int.mul_le_mul_of_nonneg_right ω δ;omega);have B:B7 ((r*1000000000+(Af m)[j]) / (d:Int))=(r*1000000000+(Af m)[j]) / (d:Int):=Fe f ω;have y:=Int.emod_nonneg (r*1000000000+(Af m)[j]) (by omega:(d:Int)≠0);have x:=Int.emod_lt_of_pos (r*1000000000+(Af m)[j]) b;have A:Aa ((j:Int)-1)=(j:Int)-1:=(by rw [Aa,B4] <;> omega);refine .inl ⟨((r*1000000000+(Af m)[j]) % (d:Int),(j:Int)-1,o.set j ((r*1000000000+(Af m)[j]) / (d:Int))),?_,⟨j,rfl,ω,by simpa using z,g.set _ f u,y,x,?_⟩,ψ⟩
   .simp only [U,S,cond_true,Df rfl hj,Df rfl h,Ad,G,E,D,Jt c ω b,Jd c b,B,A,Ho rfl]
   .have d1:(o.set j ((r*1000000000+(Af m)[j]) / (d:Int))).drop j=((r*1000000000+(Af m)[j]) / (d:Int))::o.drop (j+1):=(by rw [List.drop_eq_getElem_cons (by simpa using h),List.drop_set_of_lt ω]; simp);rw [d1,List.drop_eq_getElem_cons hj];simp only [Aj];rw [<-hv];have:=Int.mul_ediv_add_emod (r*1000000000+(Af m)[j]) (d:Int);grind
 .rintro ⟨r,o⟩ ⟨h2,h3,h4,R,N⟩;simp only [];have I:=Gd h3.u32;have l:((m / d:Nat):Int)=Aj o/\((m % d:Nat):Int)=r:=(by have b:(0:Int)<(d:Int):=ω;have e:=Int.ediv_emod_unique b (r:=r) (q:=Aj o) (a:=(m:Int));have:=e.2 ⟨by rw [<-N]; grind,h4,R⟩;exact ⟨by rw [Int.natCast_ediv]; exact this.1,by rw [Int.natCast_emod]; exact this.2⟩);rw [Ox o ω,Ad,Ju h3 l.1.symm,l.2]
end Go.Ab
namespace Go.Ab
open Go
theorem Aa0 {x y:Int} (hx:0<=x) (c:x<1000000000) (hy:0<=y) (b:y<1000000000):0<=x*y/\x*y<=999999998000000001:=by refine ⟨Int.mul_nonneg hx hy,?_⟩;have h1:x*y<=999999999*y:=Int.mul_le_mul_of_nonneg_right ω hy;omega
theorem Oz (m n:Nat) (hm:Ba m<549755813888) (hn:Ba n<549755813888):Mt (Af m) (Af n)=some (Af (m*n)):=by
 unfold Mt;unfold Ba at hm hn;by_cases hz:m=0\/n=0
 .have:(show OB from bif (((Af m).length:Int)==(0:Int)) then some true else some (((Af n).length:Int)==(0:Int)))=some true:=by
   show (bif (((Af m).length:Int)==(0:Int)) then some true else some (((Af n).length:Int)==(0:Int)))=some true;by_cases h:m=0
   .subst h; rw [Fi]; rfl
   .have y:n=0:=ω;subst y;rw [Bz (by have:=Hx h; have:(Af m).length≠0:=λe=>this (List.length_eq_zero_iff.1 e); omega),Fi]; rfl
  rw [this,Ad,cond_true];have:m*n=0:=(by rcases hz with rfl | rfl <;> simp);rw [this,Fi]
 .have G:m≠0:=ω;have y:n≠0:=ω;have a8:(Af m).length≠0:=λe=>Hx G (List.length_eq_zero_iff.1 e);have a7:(Af n).length≠0:=λe=>Hx y (List.length_eq_zero_iff.1 e);simp only [Bz (by omega:((Af m).length:Int)≠0),Bz (by omega:((Af n).length:Int)≠0),cond_false,Ad];have hw:Aa (((Af m).length:Int)+((Af n).length:Int))=(((Af m).length+(Af n).length:Nat):Int):=(by rw [Aa,B4] <;> omega);rw [hw,Js rfl rfl (Nat.le_refl _) ω ω];simp only [Ad];have ha:=Eb m;have hb:=Eb n;refine He (λ(i,o)=>∃k:Nat,i=k/\k<=(Af m).length/\o.length=(Af m).length+(Af n).length/\Bs o/\o.drop (k+(Af n).length)=List.replicate ((Af m).length-k) 0/\Aj o=Aj ((Af m).take k)*n) (λ(i,_)=>(Af m).length-i.toNat) (λo=>o.length=(Af m).length+(Af n).length/\Bs o/\Aj o=((m*n:Nat):Int)) ⟨0,rfl,ω,ψ,Bs.replicate _,by rw [List.drop_replicate]; congr 1; omega,by simp [Aau,Aj]⟩ ?_ ?_
  .rintro ⟨i,o⟩ ⟨k,rfl,hk,N,D,J,hv⟩;rcases Nat.lt_or_ge k (Af m).length with h | h
   .have hx:=ha.get h;have e4:=Jv h ω;have e5:decide ((k:Int)<((Af m).length:Int))=true:=An ω;simp only [e5,cond_true];refine .inl (M4 (C6 (λ(c,j,o')=>∃q:Nat,j=q/\q<=(Af n).length/\o'.length=(Af m).length+(Af n).length/\Bs o'/\o'.drop (k+(Af n).length)=List.replicate ((Af m).length-k) 0/\0<=c/\c<1000000000 /\ Aj o' + 1000000000 ^ (k+q)*c=Aj o+1000000000 ^ k*((Af m)[k]*Aj ((Af n).take q))) (λ(_,j,_)=>(Af n).length-j.toNat) (λ(c,j,o')=>o'.length=(Af m).length+(Af n).length/\Bs o'/\o'.drop (k+(Af n).length)=List.replicate ((Af m).length-k) 0/\0<=c/\c<1000000000 /\ Aj o' + 1000000000 ^ (k+(Af n).length)*c=Aj o+1000000000 ^ k*((Af m)[k]*n)) ⟨0,rfl,ω,N,D,J,ω,ω,by simp [Aj]⟩ ?_ ?_))
    .rintro ⟨c,j,o'⟩ ⟨q,rfl,hq,l,b,f,z,hc,x⟩;rcases Nat.lt_or_ge q (Af n).length with hq' | hq'
     .have hy:=hb.get hq';have g:k+q<o'.length:=ω;have Z:=b.get g;have a1:=Aa0 hx.1 hx.2 hy.1 hy.2;have X:A2 (Af m)[k]=(Af m)[k]:=Cy ω ω;have V:A2 (Af n)[q]=(Af n)[q]:=Cy ω ω;have U:A2 ((Af m)[k]*(Af n)[q])=(Af m)[k]*(Af n)[q]:=Cy ω ω;have S:A2 o'[k+q]=o'[k+q]:=Cy ω ω;have R:A2 ((Af m)[k]*(Af n)[q]+o'[k+q])=(Af m)[k]*(Af n)[q]+o'[k+q]:=Cy ω ω;have M:A2 ((Af m)[k]*(Af n)[q]+o'[k+q]+c)=(Af m)[k]*(Af n)[q]+o'[k+q]+c:=Cy ω ω;have e6:=Jv hq' ω;have e7:decide ((q:Int)<((Af n).length:Int))=true:=An ω;have L:Aa ((k:Int)+(q:Int))=((k+q:Nat):Int):=(by rw [Aa,B4] <;> omega);generalize hs:(Af m)[k]*(Af n)[q]+o'[k+q]+c=s at M;have A:0<=s:=ω;have a6:s<1000000000000000000:=ω;have E:B7 (s % 1000000000)=s % 1000000000:=Fe ω ω;refine .inl ⟨(s / 1000000000,((q+1:Nat):Int),o'.set (k+q) (s % 1000000000)),?_,⟨q+1,rfl,ω,by simpa using l,b.set _ ω ω,?_,ω,ω,?_⟩,by simp; omega⟩
      .simp only [e7,cond_true,Df rfl h,Df rfl hq',L,Df rfl g,Ad,X,V,U,S,R,hs,M,Jd A (show (0:Int)<1000000000 by decide),Jt A (show s<=_ by omega) (show (0:Int)<1000000000 by decide),E,e6,Ho rfl]
      .rw [List.drop_set_of_lt ω]; exact f
      .rw [Kc _ g,Ff _ hq'];have:=Int.mul_ediv_add_emod s 1000000000;have Y:(1000000000:Int) ^ (k+(q+1))=1000000000 ^ (k+q)*1000000000:=(by rw [<-Nat.add_assoc,Int.pow_succ]);have p2:(1000000000:Int) ^ (k+q)=1000000000 ^ k*1000000000 ^ q:=Int.pow_add ..;rw [Y];grind
     .have:q=(Af n).length:=ω;subst this;refine .inr ⟨(c,_,o'),by simp; rfl,l,b,f,z,hc,?_⟩;rw [List.take_length,Er] at x;exact x
    .rintro ⟨c,j,o'⟩ ⟨l,b,f,z,hc,x⟩;have L:Aa ((k:Int)+((Af n).length:Int))=((k+(Af n).length:Nat):Int):=(by rw [Aa,B4] <;> omega);have g:k+(Af n).length<o'.length:=ω;have E:B7 c=c:=Fe ω ω;have u:o'[k+(Af n).length]=0:=(by have:=congrArg List.head? f;rw [List.head?_drop,Be g] at this;have B:(List.replicate ((Af m).length-k) (0:Int)).head? = some 0:=(by cases hh:(Af m).length-k with| zero=>omega| succ t=>rfl);rw [B] at this;exact Option.some.inj this);refine ⟨_,by simp only [L,Df rfl g,Ad,E,e4,Ho rfl]; rfl,_,rfl,⟨k+1,rfl,ω,by simpa using l,b.set _ z hc,?_,?_⟩,by simp; omega⟩
     .rw [List.drop_set_of_lt ω,show k+1+(Af n).length=(k+(Af n).length)+1 by omega,<-List.drop_drop,f,List.drop_replicate];congr 1
     .rw [Kc _ g,u,Ff _ h,Int.add_mul,<-hv];grind
   .have I:k=(Af m).length:=ω;subst I;refine .inr ⟨o,ψ,N,D,?_⟩;rw [List.take_length,Er] at hv;rw [hv]; simp
  .rintro o ⟨h2,h3,h4⟩;rw [Ox o ω,Ad,Ju h3 h4]
theorem Amp (a:List Int) (m:Nat) (ha:Bs a) (U:a.length<1099511627776) (S:m<1000000000) : ∃o,Te a m=some o/\o.length=a.length+1/\Bs o/\Aj o=Aj a*m:=by
 unfold Te;have u:Aa ((a.length:Int)+1)=((a.length+1:Nat):Int):=by rw [Aa,B4] <;> omega
 rw [u,Js rfl rfl (Nat.le_refl _) ω ω];simp only [Ad];refine C6 (λ(c,i,o)=>∃k:Nat,i=k/\k<=a.length/\o.length=a.length+1/\Bs o/\o.drop k=List.replicate (a.length+1-k) 0/\0<=c/\c<1000000000/\Aj o+1000000000 ^ k*c=Aj (a.take k)*m) (λ(_,i,_)=>a.length-i.toNat) (λ(c,o)=>o.length=a.length+1/\Bs o/\o.drop a.length = [0]/\0<=c/\c<1000000000/\Aj o+1000000000 ^ a.length*c=Aj a*m) ⟨0,rfl,ω,ψ,Bs.replicate _,ψ,ω,ω,by simp [Aj,Aau]⟩ ?_ ?_
 .rintro ⟨c,i,o⟩ ⟨k,rfl,hk,B,q,g,z,hc,hv⟩;rcases Nat.lt_or_ge k a.length with h | h
  .have hx:=ha.get h;have f:k<o.length:=ω;have G:=Aa0 hx.1 hx.2 (show (0:Int)<=m by omega) ω;have R:=Jv h ω;have N:decide ((k:Int)<(a.length:Int))=true:=An ω;have E:A2 a[k]=a[k]:=Cy ω ω;have D:A2 (a[k]*(m:Int))=a[k]*m:=Cy ω ω;have A:A2 (a[k]*(m:Int)+c)=a[k]*m+c:=Cy ω ω;have b:o[k]=0:=(by have:=congrArg List.head? g;rw [List.head?_drop,Be f] at this;have l:(List.replicate (a.length+1-k) (0:Int)).head? = some 0:=(by cases hh:a.length+1-k with| zero=>omega| succ t=>rfl);rw [l] at this;exact Option.some.inj this);generalize J:a[k]*(m:Int)+c=s at A;have j:0<=s:=ω;have I:s<1000000000000000000:=ω;have x:B7 (s % 1000000000)=s % 1000000000:=Fe ω ω;refine .inl ⟨(s / 1000000000,((k+1:Nat):Int),o.set k (s % 1000000000)),?_,⟨k+1,rfl,ω,by simpa using B,q.set _ ω ω,?_,ω,ω,?_⟩,by simp; omega⟩
   .simp only [N,cond_true,Df rfl h,Df rfl f,Ad,E,D,J,A,Jd j (show (0:Int)<1000000000 by decide),Jt j (show s<=_ by omega) (show (0:Int)<1000000000 by decide),x,R,Ho rfl]
   .rw [List.drop_set_of_lt ω,<-List.drop_drop,g,List.drop_replicate]; congr 1
   .rw [Kc _ f,b,Ff _ h,Int.pow_succ];have:=Int.mul_ediv_add_emod s 1000000000;grind
  .have y:k=a.length:=ω;subst y;refine .inr ⟨(c,o),ψ,B,q,by rw [g]; simp,z,hc,by rwa [List.take_length] at hv⟩
 .rintro ⟨c,o⟩ ⟨h2,h3,g,h4,M,L⟩;have f:a.length<o.length:=ω;have x:B7 c=c:=Fe ω ω;have b:o[a.length]=0:=(by have:=congrArg List.head? g;rw [List.head?_drop,Be f] at this;exact Option.some.inj this);refine ⟨o.set a.length c,by simp only [Df rfl f,Ad,x,Ho rfl],by simpa using h2,h3.set _ h4 M,?_⟩;rw [Kc _ f,b,<-L]; grind
end Go.Ab
namespace Go.Ab
open Go
theorem O0 {α:Type} {l:List α} {off n:Nat} {i:Int} {k:Nat} (hi:i=k) (hk:k<n) (h:off+k<l.length):Fb l off n i=some l[off+k]:=by subst hi;have h1:(0:Int)<=(k:Int):=ω;have h2:(k:Int)<(n:Int):=ω;simp [Fb,hk,h]
theorem Avs {P j k tb hb V U q g B:Int} (i:0<P) (u:V=j+P*tb) (l:0<=j) (x:U=k+P*hb) (s:k<P) (hq:q*V<=U) (c:0<=g) (h:hb<g*tb) (b:0<=tb):q<g:=by
 rcases Int.lt_or_le q g with h' | h'
 .exact h'
 .exfalso;have f:0<=V:=(by have:=Int.mul_nonneg (Int.le_of_lt i) b;omega);have h1:g*V<=q*V:=Int.mul_le_mul_of_nonneg_right h' f;have h2:g*(P*tb)<=g*V:=Int.mul_le_mul_of_nonneg_left ω c;have h3:P*(hb+1)<=P*(g*tb):=Int.mul_le_mul_of_nonneg_left ω (Int.le_of_lt i);have h4:g*(P*tb)=P*(g*tb):=(by grind);have y:P*(hb+1)=P*hb+P:=(by grind);omega
theorem Amq {P j k tb hb V U q g:Int} (i:0<P) (y:V=j+P*tb) (s:j<P) (z:U=k+P*hb) (u:0<=k) (hq:U<(q+1)*V) (l:0<=g) (hgt:g<=tb+1) (h:g*tb<=hb) (b:0<V):g<=q+1:=by
 rcases Int.lt_or_le (q+1) g with h' | h'
 .exfalso;have f:0<=g-1:=by
   rcases Int.lt_or_le g 1 with h2 | h2
   .have:g=0:=ω;subst this;have c:q+1<0:=h';have:(q+1)*V<0:=Int.mul_neg_of_neg_of_pos c b;have h0:0<=hb:=(by simpa using h);have:=Int.mul_nonneg (Int.le_of_lt i) h0;omega
   .omega
  have h1:(q+1)*V<=(g-1)*V:=Int.mul_le_mul_of_nonneg_right ω (Int.le_of_lt b);have x:P*(tb+1)=P*tb+P:=(by grind);have h2:(g-1)*V<=(g-1)*(P*(tb+1)):=Int.mul_le_mul_of_nonneg_left ω f;have h3:(g-1)*(P*(tb+1))=P*(g*tb+(g-tb-1)):=(by grind);have h4:P*(g*tb+(g-tb-1))<=P*hb:=Int.mul_le_mul_of_nonneg_left ω (Int.le_of_lt i);omega
 .exact h'
theorem Avt {A C:Type} {X:Option (A×C)} {Q:A->C->Prop} (h:∃r,X=some r/\Q r.1 r.2):∃q o,X=some (q,o)/\Q q o:=by obtain ⟨⟨a,c⟩,h1,h2⟩:=h;exact ⟨a,c,h1,h2⟩
theorem al1 {g t r h:Int} (k:g*t+r=h):(g-1)*t+(r+t)=h:=by grind
theorem al2 {o P s x b p d:Int} (e:s-1000000000*d=x-b-p):o+P*(s-x)-P*1000000000*d=(o-P*b)-P*p:=by grind
theorem al3 (b X K g A y:Int):b-X*(g*A)-X*K*(g*y)=b-X*(g*(A+K*y)):=by grind
theorem al4 {u X W N c U b g V:Int} (h:u+X*(W+N*c-U)-X*N*b=u-X*(g*V)):X*(U-g*V)=X*(W+N*(c-b)):=by grind
theorem al5 (u X q:Int):u-X*q-u=X*(-q):=by grind
theorem al6 {o P x b r:Int} (h:o-P*b=r):o+P*(x-b-x)=r:=by grind
theorem al7 {b X K c s x y o A:Int} (g:x+y+c=s) (f:1000000000*(s / 1000000000)+s % 1000000000=s) (h:b+X*K*c=o+X*A):b+X*K*(s % 1000000000-x)+X*K*1000000000*(s / 1000000000)=o+X*(A+K*y):=by grind
theorem al8 {o X N b u q V W f U c:Int} (h1:o-X*N*b=u-X*((q+1)*V)) (h2:u+X*(W+N*f-U)+X*N*c=o+X*V):X*(U-q*V)=X*(W+N*(f-b+c)):=by grind
theorem al9 {g P c o X V b u q f:Int} (h1:g+P*c=o+X*V) (h2:o-P*b=u-X*((q+1)*V)) (h3:f=b-c):g+P*(0-f)=u-X*(q*V):=by grind
theorem gtb {g t r h x:Int} (k:g*t+r=h):g*(t*1000000000+x)=(h-r)*1000000000+g*x:=by subst k; grind
theorem Aft {k:Nat} {x y:Int} (h:(1000000000:Int) ^ k*x=1000000000 ^ k*y):x=y:=Int.eq_of_mul_eq_mul_left (by have:=Jf k; omega) h
theorem Amr {o u:List Int} {off:Nat} (b:off<=o.length) (hu:off<=u.length) (h:o.take off=u.take off):Aj o-Aj u=1000000000 ^ off*(Aj (o.drop off)-Aj (u.drop off)):=by rw [Mb o off b,Mb u off hu,h]; grind
theorem Aa1 {l:List Int} (h:Bs l) (k:Nat):0<=Aj (l.drop k):=Gd (h.drop k).u32
theorem Avu {D:List Int} (b:Bs D) {n:Nat} (h2:2<=n) (i:n<D.length) (g:Aj D<1000000000 ^ (n+1)) : Aj D=Aj (D.take (n-2))+1000000000 ^ (n-2)*((D[n]*1000000000+D[n-1])*1000000000+D[n-2]):=by
 have e:=Mb D (n+1) i;have h0:Aj (D.drop (n+1))=0:=by
  have q:=Aa1 b (n+1);have ht:=Gd ((b.take (n+1)).u32);rcases Int.lt_or_le 0 (Aj (D.drop (n+1))) with h | h
  .have:(1000000000:Int) ^ (n+1)*1<=1000000000 ^ (n+1)*Aj (D.drop (n+1)):=Int.mul_le_mul_of_nonneg_left h (Int.le_of_lt (Jf _));omega
  .omega
 rw [h0,Int.mul_zero,Int.add_zero] at e;obtain ⟨t,rfl⟩:∃t,n=t+2:=⟨n-2,ω⟩;have l:=Ff D (k:=t) ω;have e2:=Ff D (k:=t+1) ω;have j:=Ff D (k:=t+2) ω;have f:(1000000000:Int) ^ (t+1)=1000000000 ^ t*1000000000:=Int.pow_succ ..;have c:(1000000000:Int) ^ (t+2)=1000000000 ^ (t+1)*1000000000:=Int.pow_succ ..;have i1:t+2-2=t:=rfl;have i2:t+2-1=t+1:=rfl;simp only [i1,i2];rw [e,j,e2,l,c,f];grind
theorem Avv {v:List Int} {n:Nat} (h2:2<=n) (f:v.length=n) : Aj v=Aj (v.take (n-2))+1000000000 ^ (n-2)*(v[n-1]*1000000000+v[n-2]):=by obtain ⟨t,rfl⟩:∃t,n=t+2:=⟨n-2,ω⟩;have c:=Ff v (k:=t) ω;have e2:=Ff v (k:=t+1) ω;have e:v.take (t+1+1)=v:=List.take_of_length_le ω;rw [e] at e2;have b:(1000000000:Int) ^ (t+1)=1000000000 ^ t*1000000000:=Int.pow_succ ..;have i1:t+2-2=t:=rfl;have i2:t+2-1=t+1:=rfl;simp only [i1,i2];rw [e2,c,b];grind
set_option maxHeartbeats 1000000 in
theorem Avw (v u:List Int) (off n:Nat) (hv:Bs v) (hu:Bs u) (hn:v.length=n) (h2:2<=n) (bz:n<1099511627776) (bn:500000000<=v[n-1]) (X:off+n<u.length) (hT:Aj (u.drop off)<Aj v*1000000000) : ∃q o,Wm off (n+1) v u=some (q,o)/\o.length=u.length/\Bs o/\0<=q/\q<1000000000/\Aj o=Aj u-1000000000 ^ off*(q*Aj v)/\0<=Aj (o.drop off)/\Aj (o.drop off)<Aj v:=by
 have b7:=Iz hv;rw [hn] at b7;have c3:(u.drop off).length=u.length-off:=List.length_drop;have A:=hu.drop off;have bm:=Gd A.u32;have b9:Aj (u.drop off)<1000000000 ^ (n+1):=by rw [Int.pow_succ]; omega
 have ab:=Avu A h2 ω b9;have ao:=Avv h2 hn;have gd:∀i (h:i<(u.drop off).length),(u.drop off)[i]=u[off+i]' ω:=λi h=>List.getElem_drop;rw [gd,gd,gd] at ab;have bq:=hu.get (i:=off+n) ω;have bt:=hu.get (i:=off+(n-1)) ω;have br:=hu.get (i:=off+(n-2)) ω;have bu:=hv.get (i:=n-1) ω;have ad:=hv.get (i:=n-2) ω;have hP:=Jf (n-2);have b8:=Gd ((hv.take (n-2)).u32);have aa:=Iz (hv.take (n-2));rw [List.length_take,Nat.min_eq_left ω] at aa;have bb:=Gd ((A.take (n-2)).u32);have ba:=Iz (A.take (n-2));rw [List.length_take,Nat.min_eq_left ω] at ba;have y:0<Aj v:=by have:(1000000000:Int) ^ (n-2)*1<=1000000000 ^ (n-2)*(v[n-1]*1000000000+v[n-2]):=Int.mul_le_mul_of_nonneg_left ω (Int.le_of_lt hP);omega
 generalize hq:Aj (u.drop off) / Aj v=q;have bh:q*Aj v<=Aj (u.drop off):=by rw [<-hq]; exact Int.ediv_mul_le _ ω
 have ar:Aj (u.drop off)<(q+1)*Aj v:=by rw [<-hq];have:=Int.lt_ediv_add_one_mul_self (Aj (u.drop off)) y;exact this
 have ag:0<=q:=by rw [<-hq]; exact Int.ediv_nonneg bm ω
 have bf:q<1000000000:=by rw [<-hq]; exact Int.ediv_lt_of_lt_mul y (by rw [Int.mul_comm]; exact hT)
 have l:(0:Int)<v[n-1]:=ω;generalize ak:u[off+n]*1000000000+u[off+(n-1)]=head at ab;have am:0<=head:=ω;have c1:head<=v[n-1]*1000000000+v[n-2]:=by
  rcases Int.lt_or_le (v[n-1]*1000000000+v[n-2]) head with h | h
  .exfalso;have a1:(1000000000:Int) ^ (n-2)*((v[n-1]*1000000000+v[n-2]+1)*1000000000)<=1000000000 ^ (n-2)*(head*1000000000+u[off+(n-2)]):=Int.mul_le_mul_of_nonneg_left ω (Int.le_of_lt hP);have a2:Aj v*1000000000<(1000000000 ^ (n-2)*(v[n-1]*1000000000+v[n-2]+1))*1000000000:=(by have:(1000000000:Int) ^ (n-2)*(v[n-1]*1000000000+v[n-2]+1)=1000000000 ^ (n-2)*(v[n-1]*1000000000+v[n-2])+1000000000 ^ (n-2):=(by grind);omega);have a3:((1000000000:Int) ^ (n-2)*(v[n-1]*1000000000+v[n-2]+1))*1000000000=1000000000 ^ (n-2)*((v[n-1]*1000000000+v[n-2]+1)*1000000000):=(by grind);omega
  .exact h
 have c2:0<=head / v[n-1]:=Int.ediv_nonneg am ω;have bk:head / v[n-1]<=1000000001:=by have:head / v[n-1]<1000000002:=Int.ediv_lt_of_lt_mul l ω;omega
 have be:=Int.emod_nonneg head (by omega:v[n-1]≠0);have bw:=Int.emod_lt_of_pos head l;have bl:=Int.mul_ediv_add_emod head v[n-1];unfold Wm;have w1:Aa ((v.length:Int)-1)=((n-1:Nat):Int):=by rw [Aa,B4] <;> omega
 have w2:Aa ((v.length:Int)-2)=((n-2:Nat):Int):=by rw [Aa,B4] <;> omega
 have w3:(v.length:Int)=((n:Nat):Int):=ω;have x1:A2 u[off+n]=u[off+n]:=Cy ω ω;have x2:A2 (u[off+n]*1000000000)=u[off+n]*1000000000:=Cy ω ω;have x3:A2 u[off+(n-1)]=u[off+(n-1)]:=Cy ω ω;have x4:A2 (u[off+n]*1000000000+u[off+(n-1)])=head:=by rw [A2,Cy ω ω,ak]
 have x5:A2 v[n-1]=v[n-1]:=Cy ω ω;have x6:A2 v[n-2]=v[n-2]:=Cy ω ω;have x7:A2 u[off+(n-2)]=u[off+(n-2)]:=Cy ω ω;rw [w1,w2,Df rfl (by omega:n-1<v.length),Ad,Df rfl (by omega:n-2<v.length),Ad,w3,O0 rfl (by omega:n<n+1) ω,Ad,O0 rfl (by omega:n-1<n+1) ω,Ad,x1,x2,x3,x4,x5,x6,Jt am ω l,Ad,Jd am l,Ad];refine Avt (C6 (λ(g,rest)=>g*v[n-1]+rest=head/\0<=rest/\rest<2000000000/\q<=g/\g<=1000000001) (λ(g,_)=>g.toNat) (λg=>q<=g/\g<=q+1/\g<=1000000000) ⟨by rw [Int.mul_comm]; exact bl,be,ω,?_,bk⟩ ?_ ?_)
 .rcases Int.lt_or_le (head / v[n-1]) q with h | h
  .exfalso;have a1:(head / v[n-1]+1)*v[n-1]<=q*v[n-1]:=Int.mul_le_mul_of_nonneg_right ω ω;have a2:head<(head / v[n-1]+1)*v[n-1]:=Int.lt_ediv_add_one_mul_self head l;have a3:q*(1000000000 ^ (n-2)*(v[n-1]*1000000000+v[n-2]))<=q*Aj v:=Int.mul_le_mul_of_nonneg_left ω ag;have a4:(1000000000:Int) ^ (n-2)*((head+1)*1000000000)<=1000000000 ^ (n-2)*(q*(v[n-1]*1000000000+v[n-2])):=(by apply Int.mul_le_mul_of_nonneg_left _ (Int.le_of_lt hP);have b1:(head+1)*1000000000<=q*v[n-1]*1000000000:=ω;have b2:0<=q*v[n-2]:=Int.mul_nonneg ag ad.1;have b3:q*(v[n-1]*1000000000+v[n-2])=q*v[n-1]*1000000000+q*v[n-2]:=(by grind);omega);have a5:q*((1000000000:Int) ^ (n-2)*(v[n-1]*1000000000+v[n-2]))=1000000000 ^ (n-2)*(q*(v[n-1]*1000000000+v[n-2])):=(by grind);have a6:(1000000000:Int) ^ (n-2)*((head+1)*1000000000)=1000000000 ^ (n-2)*(head*1000000000)+1000000000 ^ (n-2)*1000000000:=(by grind);have a7:(1000000000:Int) ^ (n-2)*(head*1000000000+u[off+(n-2)])=1000000000 ^ (n-2)*(head*1000000000)+1000000000 ^ (n-2)*u[off+(n-2)]:=(by grind);have a8:(1000000000:Int) ^ (n-2)*(u[off+(n-2)]+1)<=1000000000 ^ (n-2)*1000000000:=Int.mul_le_mul_of_nonneg_left ω (Int.le_of_lt hP);have a9:(1000000000:Int) ^ (n-2)*(u[off+(n-2)]+1)=1000000000 ^ (n-2)*u[off+(n-2)]+1000000000 ^ (n-2):=(by grind);omega
  .exact h
 .rintro ⟨g,rest⟩ ⟨k1,k2,k3,k4,k5⟩;have S:0<=g:=ω;have w4:A2 (v[n-1])=v[n-1]:=x5;have af:∀(hgt:q<g),(some (Sum.inl ((A2 (g-1)),(A2 (rest+v[n-1])))):Option ((Int×Int)⊕Int))=some (.inl (g-1,rest+v[n-1])):=(by intro hgt;rw [show A2 (g-1)=g-1 from Cy ω ω,show A2 (rest+v[n-1])=rest+v[n-1] from Cy ω ω]);have stay:∀(hr:rest<1000000000) (hgt:q<g),(g-1)*v[n-1]+(rest+v[n-1])=head/\0<=rest+v[n-1]/\rest+v[n-1]<2000000000/\q<=g-1/\g-1<=1000000001:=(by intro hr hgt;exact ⟨al1 k1,ω,ω,ω,ω⟩);by_cases hr:rest<1000000000
  .by_cases Y:g>=1000000000
   .refine .inl ⟨(g-1,rest+v[n-1]),?_,stay hr ω,by simp; omega⟩;simp only [An hr,cond_true,An Y,Ad];exact af ω
   .have bp:=Aa0 S ω ad.1 ad.2;have y1:A2 (g*v[n-2])=g*v[n-2]:=Cy ω ω;have y2:A2 (rest*1000000000)=rest*1000000000:=Cy ω ω;have y3:A2 (rest*1000000000+u[off+(n-2)])=rest*1000000000+u[off+(n-2)]:=Cy ω ω;have az:g*(v[n-1]*1000000000+v[n-2])=(head-rest)*1000000000+g*v[n-2]:=gtb k1;simp only [An hr,cond_true,Aq Y,cond_false,O0 rfl (by omega:n-2<n+1) (by omega:off+(n-2)<u.length),Ad,y1,x7,y2,y3];by_cases ae:g*v[n-2]>rest*1000000000+u[off+(n-2)]
    .have hgt:q<g:=Avs (P:=1000000000 ^ (n-2)) (tb:=v[n-1]*1000000000+v[n-2]) (hb:=head*1000000000+u[off+(n-2)]) (B:=0) hP ao b8 ab ba bh S ω ω;refine .inl ⟨(g-1,rest+v[n-1]),?_,stay hr hgt,by simp; omega⟩;rw [An ae,cond_true];exact af hgt
    .refine .inr ⟨g,by rw [Aq ae,cond_false],k4,?_,ω⟩;exact Amq (P:=1000000000 ^ (n-2)) (tb:=v[n-1]*1000000000+v[n-2]) (hb:=head*1000000000+u[off+(n-2)]) hP ao aa ab bb ar S ω ω y
  .refine .inr ⟨g,by simp only [Aq hr,cond_false,Ad],k4,?_⟩;have Y:g<=1000000000:=by
    rcases Int.lt_or_le 1000000000 g with h | h
    .exfalso;have:g=1000000001:=ω;subst this;omega
    .exact h
   refine ⟨?_,Y⟩;have az:g*(v[n-1]*1000000000+v[n-2])=(head-rest)*1000000000+g*v[n-2]:=gtb k1;have bo:g*v[n-2]<=1000000000*v[n-2]:=Int.mul_le_mul_of_nonneg_right Y ad.1;exact Amq (P:=1000000000 ^ (n-2)) (tb:=v[n-1]*1000000000+v[n-2]) (hb:=head*1000000000+u[off+(n-2)]) hP ao aa ab bb ar S ω ω y
 .rintro g ⟨k1,k2,k3⟩;have S:0<=g:=ω;refine C6 (λ(b,i,o)=>∃k:Nat,i=k/\k<=n/\o.length=u.length/\Bs o/\o.take off=u.take off/\o.drop (off+k)=u.drop (off+k)/\0<=b/\b<=1000000001/\Aj o-1000000000 ^ (off+k)*b=Aj u-1000000000 ^ off*(g*Aj (v.take k))) (λ(_,i,_)=>n-i.toNat) (λ(b,o)=>o.length=u.length/\Bs o/\o.take off=u.take off/\o.drop (off+n)=u.drop (off+n)/\0<=b/\b<=1000000001/\Aj o-1000000000 ^ (off+n)*b=Aj u-1000000000 ^ off*(g*Aj v)) ⟨0,rfl,ω,rfl,hu,rfl,rfl,ω,ω,by simp [Aj]⟩ ?_ ?_
  .rintro ⟨b,i,o⟩ ⟨k,rfl,hk,ho,I,M,L,b6,b5,f⟩;rcases Nat.lt_or_ge k n with h | h
   .have E:off+k<o.length:=ω;have J:k<v.length:=ω;have hx:=I.get E;have hy:=hv.get J;have e4:=Jv h ω;have e5:decide ((k:Int)<(n:Int))=true:=An ω;have av:0<=g*v[k]:=Int.mul_nonneg S hy.1;have bx:g*v[k]<=1000000000*v[k]:=Int.mul_le_mul_of_nonneg_right k3 hy.1;have y1:A2 v[k]=v[k]:=Cy ω ω;have y2:A2 (g*v[k])=g*v[k]:=Cy ω ω;have y3:Aa o[off+k]=o[off+k]:=B4 ω ω;generalize au:g*v[k]=p at *;have y4:Aa (o[off+k]-b)=o[off+k]-b:=B4 ω ω;have y5:Aa (p % 1000000000)=p % 1000000000:=B4 ω ω;have y6:Aa (o[off+k]-b-p % 1000000000)=o[off+k]-b-p % 1000000000:=B4 ω ω;have y7:Aa (p / 1000000000)=p / 1000000000:=B4 ω ω;simp only [e5,cond_true,O0 rfl (by omega:k<n+1) E,Df rfl J,Ad,y1,y2,au,y3,y4,Jd av (show (0:Int)<1000000000 by decide),Jt av (show p<=_ by omega) (show (0:Int)<1000000000 by decide),y5,y6,y7];refine .inl (M4 (C6 (λ(b',s)=>∃t:Nat,b'=p / 1000000000+t/\s=o[off+k]-b-p % 1000000000+t*1000000000/\s<1000000000/\t<=3) (λ(_,s)=>(-s).toNat) (λ(b',s)=>∃t:Nat,b'=p / 1000000000+t/\s=o[off+k]-b-p % 1000000000+t*1000000000/\s<1000000000/\0<=s/\t<=2) ⟨0,ψ,ψ,ω,ω⟩ ?_ ?_))
    .rintro ⟨b',s⟩ ⟨t,rfl,hs,ac,ht⟩;by_cases G:s<0
     .refine .inl ⟨(p / 1000000000+(t+1:Nat),s+1000000000),?_,⟨t+1,rfl,by rw [hs]; simp; omega,ω,ω⟩,by simp; omega⟩;rw [An G,cond_true,show Aa (p / 1000000000+(t:Int)+1)=p / 1000000000+((t+1:Nat):Int) by rw [Aa,B4] <;> omega,show Aa (s+1000000000)=s+1000000000 from B4 ω ω]
     .exact .inr ⟨(p / 1000000000+t,s),by rw [Aq G,cond_false],t,rfl,hs,ac,ω,ω⟩
    .rintro ⟨b',s⟩ ⟨t,rfl,hs,ac,G,ht⟩;have y8:B7 s=s:=Fe ω ω;refine ⟨.inl (p / 1000000000+t,((k+1:Nat):Int),o.set (off+k) s),by simp only [O0 rfl (by omega:k<n+1) E,Ad,y8,e4]; rw [Ho (n:=off+k) ω],_,rfl,⟨k+1,rfl,ω,by simpa using ho,I.set _ G ac,?_,?_,ω,ω,?_⟩,by simp; omega⟩
     .rw [List.take_set_of_le ω]; exact M
     .rw [List.drop_set_of_lt ω,show off+(k+1)=(off+k)+1 by omega,<-List.drop_drop,L,List.drop_drop]
     .rw [Kc _ E,Ff v J,show off+(k+1)=(off+k)+1 by omega,Int.pow_succ];have ay:=Int.mul_ediv_add_emod p 1000000000;have pa:(1000000000:Int) ^ (off+k)=1000000000 ^ off*1000000000 ^ k:=Int.pow_add ..;have eA:s-1000000000*(p / 1000000000+(t:Int))=o[off+k]-b-p:=(by rw [hs]; omega);rw [al2 eA,f,<-au,pa];exact al3 _ _ _ _ _ _
   .have aj:k=n:=ω;subst aj;refine .inr ⟨(b,o),ψ,ho,I,M,L,b6,b5,?_⟩;rw [List.take_of_length_le ω] at f;exact f
  .rintro ⟨b,o⟩ ⟨ho,I,M,L,b6,b5,f⟩;have hV:=y;have ah:off+n<o.length:=ω;have ax:o[off+n]=u[off+n]:=(by have:=congrArg List.head? L;rw [List.head?_drop,List.head?_drop,Be ah,Be X] at this;exact Option.some.inj this);have hE:Aj (u.drop (off+n))=u[off+n]:=by
    have a1:=Mb (u.drop off) (n+1) ω;have a2:=Gd (((hu.drop off).take (n+1)).u32);have a3:=Aa1 (hu.drop off) (n+1);have a4:Aj ((u.drop off).drop (n+1))=0:=by
     rcases Int.lt_or_le 0 (Aj ((u.drop off).drop (n+1))) with h | h
     .have:(1000000000:Int) ^ (n+1)*1<=1000000000 ^ (n+1)*Aj ((u.drop off).drop (n+1)):=Int.mul_le_mul_of_nonneg_left h (Int.le_of_lt (Jf _));omega
     .omega
    rw [List.drop_eq_getElem_cons X];simp only [Aj];rw [List.drop_drop,show off+(n+1)=off+n+1 by omega] at a4;rw [a4]; omega
   have main:∀o':List Int,o'.length=u.length->Bs o'->o'.take off=u.take off->o'.drop (off+n)=u.drop (off+n)->0<=Aj ((o'.drop off).take n)/\Aj ((o'.drop off).take n)<1000000000 ^ n /\
     Aj o'=Aj u+1000000000 ^ off*(Aj ((o'.drop off).take n)+1000000000 ^ n*u[off+n]-Aj (u.drop off)):=by intro o' l1 l2 l3 l4;have a1:=Mb (o'.drop off) n (by rw [List.length_drop]; omega);rw [List.drop_drop,l4,hE] at a1;have a2:=Amr ω ω l3;refine ⟨Gd (((l2.drop off).take n).u32),?_,by rw [<-a1]; omega⟩;have:=Iz ((l2.drop off).take n);rw [List.length_take,List.length_drop,Nat.min_eq_left ω] at this;exact this
   obtain ⟨m1,m2,m3⟩:=main o ho I M L;have pa:(1000000000:Int) ^ (off+n)=1000000000 ^ off*1000000000 ^ n:=Int.pow_add ..;have star:Aj (u.drop off)-g*Aj v=Aj ((o.drop off).take n)+1000000000 ^ n*(u[off+n]-b):=(by apply Aft (k:=off);rw [m3,pa] at f;exact al4 f);have y1:Aa u[off+n]=u[off+n]:=B4 ω ω;have y2:Aa (u[off+n]-b)=u[off+n]-b:=B4 ω ω;have ap:=Jf n;have fin:∀(U:List Int) (x:Int) (j:List Int),U=j.set (off+n) x->j.length=u.length->Bs j->0<=x->x<1000000000->j.take off=u.take off->Aj U=Aj u-1000000000 ^ off*(q*Aj v) ->
     U.length=u.length/\Bs U/\0<=q/\q<1000000000/\Aj U=Aj u-1000000000 ^ off*(q*Aj v)/\0<=Aj (U.drop off)/\Aj (U.drop off)<Aj v:=by intro U x j e l1 l2 x0 x1 l3 aq;have L4:U.length=u.length:=(by rw [e]; simpa using l1);have T4:U.take off=u.take off:=(by rw [e,List.take_set_of_le ω]; exact l3);have hp:=Amr ω ω T4;have hd:Aj (U.drop off)=Aj (u.drop off)-q*Aj v:=(by have:Aj (U.drop off)-Aj (u.drop off) = - (q*Aj v):=(by apply Aft (k:=off);rw [<-hp,aq]; exact al5 _ _ _);omega);have bg:(q+1)*Aj v=q*Aj v+Aj v:=(by grind);exact ⟨L4,by rw [e]; exact l2.set _ x0 x1,ag,bf,aq,ω,ω⟩
   simp only [O0 rfl (by omega:n<n+1) ah,ax,Ad,y1,y2];by_cases z:u[off+n]-b>=0
   .have c0:g*Aj v<=Aj (u.drop off):=(by have:=Int.mul_nonneg (Int.le_of_lt ap) z;omega);have R:g=q:=by
     rcases Int.lt_or_le q g with h | h
     .exfalso;have:(q+1)*Aj v<=g*Aj v:=Int.mul_le_mul_of_nonneg_right ω ω;omega
     .omega
    have y3:B7 (u[off+n]-b)=u[off+n]-b:=Fe ω ω;have y4:B7 g=g:=Fe ω ω;rw [An z,cond_true,y3,y4,Ho (n:=off+n) ω];refine ⟨_,rfl,?_⟩;rw [R];refine fin _ (u[off+n]-b) o rfl ho I z ω M ?_;rw [Kc _ ah,ax];rw [R] at f;exact al6 f
   .have R:g=q+1:=by
     have h1:1000000000 ^ n*(u[off+n]-b)<=1000000000 ^ n*(-1):=Int.mul_le_mul_of_nonneg_left ω (Int.le_of_lt ap);rcases Int.lt_or_le q g with h | h
     .omega
     .exfalso;have:g*Aj v<=q*Aj v:=Int.mul_le_mul_of_nonneg_right h ω;omega
    rw [Aq z,cond_false];refine C6 (λ(c,i,j)=>∃k:Nat,i=k/\k<=n/\j.length=u.length/\Bs j/\j.take off=u.take off/\j.drop (off+k)=o.drop (off+k)/\0<=c/\c<=1/\Aj j+1000000000 ^ (off+k)*c=Aj o+1000000000 ^ off*Aj (v.take k)) (λ(_,i,_)=>n-i.toNat) (λ(c,j)=>j.length=u.length/\Bs j/\j.take off=u.take off/\j.drop (off+n)=o.drop (off+n)/\0<=c/\c<=1/\Aj j+1000000000 ^ (off+n)*c=Aj o+1000000000 ^ off*Aj v) ⟨0,rfl,ω,ho,I,M,rfl,ω,ω,by simp [Aj]⟩ ?_ ?_
    .rintro ⟨c,i,j⟩ ⟨k,rfl,hk,h3,N,V,Z,b4,b0,D⟩;rcases Nat.lt_or_ge k n with h | h
     .have E:off+k<j.length:=ω;have J:k<v.length:=ω;have hx:=N.get E;have hy:=hv.get J;have e4:=Jv h ω;have e5:decide ((k:Int)<(n:Int))=true:=An ω;have z1:B7 (j[off+k]+v[k])=j[off+k]+v[k]:=Fe ω ω;have z2:B7 (j[off+k]+v[k]+c)=j[off+k]+v[k]+c:=Fe ω ω;generalize hs:j[off+k]+v[k]+c=s at z2;have G:0<=s:=ω;have ac:s<2000000000:=ω;refine .inl ⟨(s / 1000000000,((k+1:Nat):Int),j.set (off+k) (s % 1000000000)),?_,⟨k+1,rfl,ω,by simpa using h3,N.set _ ω ω,?_,?_,ω,ω,?_⟩,by simp; omega⟩
      .simp only [e5,cond_true,O0 rfl (by omega:k<n+1) E,Df rfl J,Ad,z1,hs,z2,Afn G (show s<=_ by omega) (show (0:Int)<1000000000 by decide),Jd G (show (0:Int)<1000000000 by decide),e4];rw [Ho (n:=off+k) ω]
      .rw [List.take_set_of_le ω]; exact V
      .rw [List.drop_set_of_lt ω,show off+(k+1)=(off+k)+1 by omega,<-List.drop_drop,Z,List.drop_drop]
      .rw [Kc _ E,Ff v J,show off+(k+1)=(off+k)+1 by omega,Int.pow_succ];have ay:=Int.mul_ediv_add_emod s 1000000000;have pk:(1000000000:Int) ^ (off+k)=1000000000 ^ off*1000000000 ^ k:=Int.pow_add ..;rw [pk] at D ⊢;exact al7 hs ay D
     .have aj:k=n:=ω;subst aj;refine .inr ⟨(c,j),ψ,h3,N,V,Z,b4,b0,?_⟩;rw [List.take_of_length_le ω] at D;exact D
    .rintro ⟨c,j⟩ ⟨h3,N,V,Z,b4,b0,D⟩;have ai:off+n<j.length:=ω;obtain ⟨r1,r2,r3⟩:=main j h3 N V (Z.trans L);have bi:j[off+n]=u[off+n]:=(by have:=congrArg List.head? (Z.trans L);rw [List.head?_drop,List.head?_drop,Be ai,Be X] at this;exact Option.some.inj this);have bd:Aj (u.drop off)-q*Aj v=Aj ((j.drop off).take n)+1000000000 ^ n*(u[off+n]-b+c):=(by apply Aft (k:=off);rw [r3,pa] at D;rw [R] at f;rw [pa] at f;exact al8 f D);have bj:u[off+n]-b+c=0:=by
      have bg:(q+1)*Aj v=q*Aj v+Aj v:=(by grind);rcases Int.lt_or_le (u[off+n]-b+c) 0 with h | h
      .exfalso;have h1:1000000000 ^ n*(u[off+n]-b+c)<=1000000000 ^ n*(-1):=Int.mul_le_mul_of_nonneg_left ω (Int.le_of_lt ap);omega
      .omega
     have y5:Aa c=c:=B4 ω ω;have y6:Aa (u[off+n]-b+c)=0:=(by rw [bj]; rfl);have y7:B7 (0:Int)=0:=rfl;have y8:A2 (g-1)=q:=(by rw [R,A2,Cy ω ω]; omega);have y9:B7 q=q:=Fe ω ω;simp only [O0 rfl (by omega:n<n+1) ai,Ad,y5,y6,y7,y8,y9];rw [Ho (n:=off+n) ω];refine ⟨_,rfl,?_⟩;refine fin _ 0 j rfl h3 N ω ω V ?_;rw [Kc _ ai,bi];rw [R] at f;exact al9 D f ω
end Go.Ab
namespace Go.Ab
open Go
theorem Avx (a:List Int) (m:Int):Afa a m=Te a m:=rfl
theorem Avy {t d r:Int} (ht:1<=t) (b:t<1000000000) (hd:d*(t+1)+r=1000000000) (g:0<=r) (c:r<=t):500000000<=d*t:=by
 have f:0<=d:=by
  rcases Int.lt_or_le d 0 with h | h
  .exfalso;have:d*(t+1)<=(-1)*(t+1):=Int.mul_le_mul_of_nonneg_right ω ω;omega
  .exact h
 have e:d*(t+1)=d*t+d:=by grind
 rcases Int.lt_or_le t 2 with h | h
 .have:t=1:=ω;subst this;omega
 .rcases Int.lt_or_le d 2 with h2 | h2
  .have:d=0\/d=1:=ω;rcases this with rfl | rfl <;> omega
  .have h3:2*(t-1)<=d*(t-1):=Int.mul_le_mul_of_nonneg_right h2 ω;have h4:d*(t-1)=d*t-d:=(by grind);omega
theorem bl1 (P t d:Int):P*t*d=P*(d*t):=by grind
theorem bl2 {u o X q V K Q S:Int} (h:o=u-X*(q*V)) (b:u+V*(X*1000000000)*Q=S):o+V*X*(q+1000000000*Q)=S:=by grind
set_option maxHeartbeats 1000000 in
theorem Afu (m n:Nat) (hm:Ba m<274877906944) (hn:Ba n<274877906944) (G:n≠0):Qs (Af m) (Af n)=some (Af (m / n),Af (m % n)):=by
 unfold Qs;rw [Rf m n ω ω,Ad];unfold Ba at hm hn;by_cases g:m<n
 .rw [show Ei m n = -1 by rw [Ei,if_pos g],An (by decide:(-1:Int)<0),cond_true,Di (by simp; omega),Ad,Nat.div_eq_of_lt g,Nat.mod_eq_of_lt g,Fi]; rfl
 .rw [Aq (show ¬Ei m n<0 by rw [Ei,if_neg g]; split <;> decide),cond_false];have bd:(Af n).length<=(Af m).length:=G4 ω;have b0:(Af n).length≠0:=λe=>Hx G (List.length_eq_zero_iff.1 e);by_cases h1:(Af n).length=1
  .rw [Ct (by omega:((Af n).length:Int)=1),cond_true];have a6:n<1000000000:=(by have:=Mc n;rw [show Ba n=1 from h1] at this;simpa using this);have am:Af n = [(n:Int)]:=(by rw [Lc G,Nat.div_eq_of_lt a6,Fi,Nat.mod_eq_of_lt a6]);rw [am,show Ae [(n:Int)] 0=some (n:Int) from rfl,Ad,show A2 (n:Int)=n from Cy ω ω,Afs m n (by unfold Ba; omega) ω ω,Ad];have az:m % n<n:=Nat.mod_lt _ ω;rw [Oy (m % n) ω,Ad]
  .rw [Bz (by omega:((Af n).length:Int)≠1),cond_false];generalize hL:(Af n).length=L at *;generalize hA:(Af m).length=A at *;have w1:Aa ((L:Int)-1)=((L-1:Nat):Int):=(by rw [Aa,B4] <;> omega);have hi:L-1<(Af n).length:=ω;have ht:=(Eb n).get hi;have ax:(Af n)[L-1]≠0:=(by have:=(Aav n).2 (Hx G);rw [List.getLast_eq_getElem] at this;simpa [hL] using this);generalize y:(Af n)[L-1]=t at *;have w2:A2 t=t:=Cy ω ω;have w3:A2 (t+1)=t+1:=Cy ω ω;rw [w1,Df rfl hi,y,Ad,w2,w3,Jt δ δ ω,Ad];have U:=Int.mul_ediv_add_emod 1000000000 (t+1);have ah:=Int.emod_nonneg 1000000000 (by omega:t+1≠0);have b9:=Int.emod_lt_of_pos 1000000000 (by omega:0<t+1);have aq:1<=1000000000 / (t+1):=by
    rcases Int.lt_or_le (1000000000 / (t+1)) 1 with h | h
    .exfalso;have:(t+1)*(1000000000 / (t+1))<=(t+1)*0:=Int.mul_le_mul_of_nonneg_left ω ω;omega
    .exact h
   have ap:1000000000 / (t+1)<=500000000:=(by have:=Int.ediv_lt_of_lt_mul (a:=1000000000) (b:=500000001) (c:=t+1) ω ω;omega);obtain ⟨d,hd⟩:∃d:Nat,1000000000 / (t+1)=(d:Int):=⟨(1000000000 / (t+1)).toNat,ω⟩;rw [hd] at U aq ap ⊢;obtain ⟨u,ag,E,S,R⟩:=Amp (Af m) d (Eb m) ω ω;obtain ⟨v0,af,ae,D,b7⟩:=Amp (Af n) d (Eb n) ω ω;rw [ag,Ad,Avx,af,Ad,Er] at *;rw [hL] at ae;rw [hA] at E;rw [Aat rfl (by omega:L<=v0.length),Ad];have x:=Jf (L-1);have pL:(1000000000:Int) ^ L=1000000000 ^ (L-1)*1000000000:=(by rw [<-Int.pow_succ]; congr 1; omega);have Y:=Ff (Af n) hi;rw [List.take_of_length_le ω,Er,y] at Y;have ay:=Gd (((Eb n).take (L-1)).u32);have Z:=Iz ((Eb n).take (L-1));rw [List.length_take,hL,Nat.min_eq_left ω] at Z;have bb:(n:Int)*d<1000000000 ^ L:=(by have a1:(n:Int)*d<(1000000000 ^ (L-1)*(t+1))*d:=Int.mul_lt_mul_of_pos_right (by have:(1000000000:Int) ^ (L-1)*(t+1)=1000000000 ^ (L-1)*t+1000000000 ^ (L-1):=(by grind);omega) ω;have a2:(1000000000 ^ (L-1)*(t+1))*(d:Int)=1000000000 ^ (L-1)*((t+1)*d):=(by grind);have a3:(1000000000:Int) ^ (L-1)*((t+1)*d)<=1000000000 ^ (L-1)*1000000000:=Int.mul_le_mul_of_nonneg_left ω (Int.le_of_lt x);omega);have M:Aj (v0.take L)=(n:Int)*d:=by
    have e:=Mb v0 L ω;have z:Aj (v0.drop L)=0:=by
     have a1:=Aa1 D L;have a2:=Gd ((D.take L).u32);rcases Int.lt_or_le 0 (Aj (v0.drop L)) with h | h
     .have:(1000000000:Int) ^ L*1<=1000000000 ^ L*Aj (v0.drop L):=Int.mul_le_mul_of_nonneg_left h (Int.le_of_lt (Jf _));omega
     .omega
    rw [z] at e; omega
   have I:(v0.take L).length=L:=(by rw [List.length_take]; omega);have f:=D.take L;have J:L-1<(v0.take L).length:=ω;have ak:500000000<=(d:Int)*t:=Avy (r:=1000000000 % (t+1)) ω ω (by rw [Int.mul_comm]; exact U) ah ω;have l:500000000<=(v0.take L)[L-1]:=by
    have e:=Ff (v0.take L) J;rw [List.take_of_length_le ω,M] at e;have b1:=Iz (f.take (L-1));rw [List.length_take,I,Nat.min_eq_left ω] at b1;have b2:(1000000000:Int) ^ (L-1)*t*d<=n*d:=Int.mul_le_mul_of_nonneg_right ω ω;have b3:(1000000000:Int) ^ (L-1)*500000000<=1000000000 ^ (L-1)*(d*t):=Int.mul_le_mul_of_nonneg_left ak (Int.le_of_lt x);rw [bl1] at b2;rcases Int.lt_or_le (v0.take L)[L-1] 500000000 with h | h
    .exfalso;have b4:(1000000000:Int) ^ (L-1)*((v0.take L)[L-1]+1)<=1000000000 ^ (L-1)*500000000:=Int.mul_le_mul_of_nonneg_left ω (Int.le_of_lt x);have b5:(1000000000:Int) ^ (L-1)*((v0.take L)[L-1]+1)=1000000000 ^ (L-1)*(v0.take L)[L-1]+1000000000 ^ (L-1):=(by grind);omega
    .exact h
   generalize b6:v0.take L=v at *;have w4:Aa ((A:Int)-(L:Int))=((A-L:Nat):Int):=(by rw [Aa,B4] <;> omega);have w5:Aa (((A-L:Nat):Int)+1)=((A-L+1:Nat):Int):=(by rw [Aa,B4] <;> omega);rw [w4,w5,Js rfl rfl (Nat.le_refl _) ω ω,Ad,E];have b8:=Gd S.u32;have ar:(0:Int)<(n:Int)*d:=Int.mul_pos ω ω;refine He (λ(i,w,q)=>∃k:Nat,i=(k:Int)-1/\k<=A-L+1/\w.length=A+1/\Bs w/\q.length=A-L+1/\Bs q/\Aj w<Aj v*1000000000 ^ k/\Aj w+Aj v*1000000000 ^ k*Aj (q.drop k)=(m:Int)*d) (λ(i,_,_)=>(i+1).toNat) (λ(w,q)=>w.length=A+1/\Bs w/\q.length=A-L+1/\Bs q/\Aj w<Aj v/\Aj w+Aj v*Aj q=(m:Int)*d) ⟨A-L+1,ω,Nat.le_refl _,E,S,ψ,Bs.replicate _,?_,by rw [List.drop_of_length_le ψ]; simp [Aj,R]⟩ ?_ ?_
   .have aj:(m:Int)<1000000000 ^ A:=(by have:=Iz (Eb m);rwa [Er,hA] at this);have a1:(m:Int)*d<1000000000 ^ A*500000000:=(by have c1:(m:Int)*d<=m*500000000:=Int.mul_le_mul_of_nonneg_left ω ω;have c2:(m:Int)*500000000<1000000000 ^ A*500000000:=Int.mul_lt_mul_of_pos_right aj δ;omega);have a2:(1000000000:Int) ^ (L-1)*500000000<=Aj v:=(by have e:=Ff v J;rw [List.take_of_length_le ω] at e;have b1:=Gd ((f.take (L-1)).u32);have b3:(1000000000:Int) ^ (L-1)*500000000<=1000000000 ^ (L-1)*v[L-1]:=Int.mul_le_mul_of_nonneg_left l (Int.le_of_lt x);omega);have a3:(1000000000:Int) ^ (L-1)*500000000*1000000000 ^ (A-L+1)<=Aj v*1000000000 ^ (A-L+1):=Int.mul_le_mul_of_nonneg_right a2 (Int.le_of_lt (Jf _));have a4:(1000000000:Int) ^ (L-1)*500000000*1000000000 ^ (A-L+1)=1000000000 ^ A*500000000:=(by have:(1000000000:Int) ^ A=1000000000 ^ (L-1)*1000000000 ^ (A-L+1):=(by rw [<-Int.pow_add]; congr 1; omega);rw [this]; grind);rw [R]; omega
   .rintro ⟨i,w,q⟩ ⟨k,rfl,hk,ac,B,X,V,a7,s⟩;cases k with
    | zero=>exact .inr ⟨(w,q),ψ,ac,B,X,V,by simpa using a7,by simpa using s⟩
    | succ j=>
     have e0:((j+1:Nat):Int)-1=(j:Int):=ω;have e1:decide ((j:Int)>=0)=true:=An ω;have w6:Aa ((j:Int)+(L:Int))=((j+L:Nat):Int):=(by rw [Aa,B4] <;> omega);have w7:Aa (((j+L:Nat):Int)+1)=((j+L+1:Nat):Int):=(by rw [Aa,B4] <;> omega);have sA:I4 (A+1) (j:Int) ((j+L+1:Nat):Int)=some (j,j+L+1):=(by have c1:(0:Int)<=(j:Int):=ω;have c2:(j:Int)<=((j+L+1:Nat):Int):=ω;have c3:((j+L+1:Nat):Int)<=((A+1:Nat):Int):=ω;have c4:(j:Int)=0\/(j:Int)<((j+L+1:Nat):Int):=ω;rw [I4,if_pos ⟨c1,c2,c3,c4⟩]; rfl);have au:Aj (w.drop j)<Aj v*1000000000:=by
      have s1:=Mb w j ω;have s2:=Gd ((B.take j).u32);rcases Int.lt_or_le (Aj (w.drop j)) (Aj v*1000000000) with h | h
      .exact h
      .exfalso;have:(1000000000:Int) ^ j*(Aj v*1000000000)<=1000000000 ^ j*Aj (w.drop j):=Int.mul_le_mul_of_nonneg_left h (Int.le_of_lt (Jf _));have e:Aj v*(1000000000:Int) ^ (j+1)=1000000000 ^ j*(Aj v*1000000000):=(by rw [Int.pow_succ]; grind);omega
     obtain ⟨qd,o,r1,r2,r3,r4,r5,r6,r7,r8⟩:=Avw v w j L f B I ω ω l ω au;have a8:j<q.length:=ω;have w8:Aa ((j:Int)-1)=(j:Int)-1:=(by rw [Aa,B4] <;> omega);have lG:Gt (A+1) o=some ():=(by rw [Gt,if_pos ω]);refine .inl ⟨((j:Int)-1,o,q.set j qd),?_,⟨j,rfl,ω,ω,r3,by simpa using X,V.set _ r4 r5,?_,?_⟩,ψ⟩
     .simp only [e0,e1,cond_true,w6,w7,sA,Ad,Nat.zero_add,show j+L+1-j=L+1 by omega,r1,lG,Df rfl a8,w8,Ho rfl]
     .have s1:=Mb o j ω;have s2:=Iz (r3.take j);rw [List.length_take,Nat.min_eq_left ω] at s2;have:(1000000000:Int) ^ j*(Aj (o.drop j)+1)<=1000000000 ^ j*Aj v:=Int.mul_le_mul_of_nonneg_left ω (Int.le_of_lt (Jf _));have e:(1000000000:Int) ^ j*(Aj (o.drop j)+1)=1000000000 ^ j*Aj (o.drop j)+1000000000 ^ j:=(by grind);rw [Int.mul_comm (Aj v)]; omega
     .have d1:(q.set j qd).drop j=qd::q.drop (j+1):=(by rw [List.drop_eq_getElem_cons (by simpa using a8),List.drop_set_of_lt ω]; simp);rw [d1];simp only [Aj];rw [Int.pow_succ] at s;exact bl2 (K:=0) r6 s
   .rintro ⟨w,q⟩ ⟨h2,h3,h4,h5,h6,h7⟩;rw [M] at h6 h7;have ad:=Gd h3.u32;have ba:=Gd h5.u32;have N:=(Int.ediv_emod_unique ar (r:=Aj w) (q:=Aj q) (a:=(m:Int)*d)).2 ⟨by rw [<-h7],ad,h6⟩;have ao:(m*d) / (n*d)=m / n:=Nat.mul_div_mul_right m n ω;have ai:(m*d) % (n*d)=(m % n)*d:=Nat.mul_mod_mul_right d m n;have av:Aj q=((m / n:Nat):Int):=(by rw [<-N.1,<-ao]; simp);have aa:Aj w=(((m % n)*d:Nat):Int):=(by rw [<-N.2,<-ai]; simp);have ab:Ba ((m % n)*d)<1099511627776:=(by have g:=Iz h3;have:Ba ((m % n)*d)<=A+1:=(by apply Kd;rw [h2,aa] at g;have e:((1000000000 ^ (A+1):Nat):Int)=1000000000 ^ (A+1):=(by rw [Int.natCast_pow]; rfl);omega);omega);dsimp only;rw [Ox w ω,Ad,Ju h3 aa,Afs _ d ab ω ω,Ad,Ox q ω,Ad,Ju h5 av,Nat.mul_div_cancel _ ω]
end Go.Ab
namespace Go.Ab
open Go
theorem Ams {n:Nat} (h:Ba n<=2):n<1000000000000000000:=by have h1:=Mc n;have h2:1000000000 ^ Ba n<=1000000000 ^ 2:=Nat.pow_le_pow_right δ h;omega
theorem Amt (n:Nat) (h:Ba n<=2):Td (Af n)=some ((n:Int),true):=by
 unfold Td;unfold Ba at h;have ha:=Eb n;refine He (λ(w,i)=>∃k:Nat,i=k/\k<=(Af n).length/\w=Aj ((Af n).drop ((Af n).length-k))) (λ(_,i)=>(Af n).length-i.toNat) (λe=>match e with | .inl _=>False | .inr w=>w=n) ⟨0,rfl,ω,by simp [Aj]⟩ ?_ ?_
 .rintro ⟨w,i⟩ ⟨k,rfl,hk,rfl⟩;rcases Nat.lt_or_ge k (Af n).length with c | hge
  .have A:decide ((k:Int)<((Af n).length:Int))=true:=An ω;have u:Aa (((Af n).length:Int)-1)=((Af n).length:Int)-1:=(by rw [Aa,B4] <;> omega);have s:Aa (((Af n).length:Int)-1-(k:Int))=(((Af n).length-1-k:Nat):Int):=(by rw [Aa,B4] <;> omega);have hj:(Af n).length-1-k<(Af n).length:=ω;have hx:=ha.get hj;have y:=Aa1 ha ((Af n).length-k);have b:=Iz (ha.drop ((Af n).length-k));rw [List.length_drop,show (Af n).length-((Af n).length-k)=k by omega] at b;have x:(1000000000:Int) ^ k<=1000000000:=(by have:k=0\/k=1:=ω;rcases this with rfl | rfl <;> decide);have q:A2 (Af n)[(Af n).length-1-k]=(Af n)[(Af n).length-1-k]:=Cy ω ω;have l:A2 (18446744073709551615-(Af n)[(Af n).length-1-k])=18446744073709551615-(Af n)[(Af n).length-1-k]:=Cy ω ω;have j:A2 (Aj ((Af n).drop ((Af n).length-k))*1000000000)=Aj ((Af n).drop ((Af n).length-k))*1000000000:=Cy ω ω;have g:A2 (Aj ((Af n).drop ((Af n).length-k))*1000000000+(Af n)[(Af n).length-1-k])=Aj ((Af n).drop ((Af n).length-k))*1000000000+(Af n)[(Af n).length-1-k]:=Cy ω ω;have z:=Jv c ω;have hc:¬Aj ((Af n).drop ((Af n).length-k))>(18446744073709551615-(Af n)[(Af n).length-1-k]) / 1000000000:=ω;refine .inl ⟨(Aj ((Af n).drop ((Af n).length-k))*1000000000+(Af n)[(Af n).length-1-k],((k+1:Nat):Int)),?_,⟨k+1,rfl,ω,?_⟩,by simp; omega⟩
   .simp only [A,cond_true,u,s,Df rfl hj,Ad,q,l,Jt (show 0<=18446744073709551615-(Af n)[(Af n).length-1-k] by omega) (show 18446744073709551615-(Af n)[(Af n).length-1-k]<=_ by omega) (show (0:Int)<1000000000 by decide),Aq hc,cond_false,j,g,z]
   .have hd:(Af n).drop ((Af n).length-(k+1))=(Af n)[(Af n).length-1-k]::(Af n).drop ((Af n).length-k):=(by rw [show (Af n).length-(k+1)=(Af n).length-1-k by omega,List.drop_eq_getElem_cons hj];congr 2; omega);rw [hd]; simp only [Aj]; omega
  .have:k=(Af n).length:=ω;subst this;refine .inr ⟨.inr _,by simp; rfl,?_⟩;exact Er n
 .rintro (e | e) f
  .exact f.elim
  .simp only at f ⊢; rw [f]
theorem Avz (m n:Nat) (z:Ba m<274877906944) (s:Ba n<274877906944):Wb (Af m) (Af n)=some (Af (Nat.gcd m n)):=by
 unfold Wb;refine He (λ(a,b)=>∃x y:Nat,a=Af x/\b=Af y/\Ba x<274877906944/\Ba y<274877906944/\Nat.gcd x y=Nat.gcd m n) (λ(_,b)=>(Aj b).toNat) (λe=>match e with | .inl r=>r=Af (Nat.gcd m n) | .inr r=>r=Af (Nat.gcd m n)) ⟨m,n,rfl,rfl,z,s,rfl⟩ ?_ ?_
 .rintro ⟨a,b⟩ ⟨x,y,rfl,rfl,hx,hy,k⟩;by_cases c:y=0
  .subst c;refine .inr ⟨.inr (Af x),by rw [Fi]; rfl,?_⟩;show Af x=_;rw [<-k,Nat.gcd_zero_right]
  .have A:(Af y).length≠0:=λe=>Hx c (List.length_eq_zero_iff.1 e);have l:decide (((Af y).length:Int)>0)=true:=An ω;by_cases h2:Ba x<=2/\Ba y<=2
   .have i:=Ams h2.1;have h:=Ams h2.2;unfold Ba at h2;simp only [l,cond_true,An (by omega:((Af x).length:Int)<=2),An (by omega:((Af y).length:Int)<=2),Ad,Amt x h2.1,Amt y h2.2];refine .inr (Avm (C6 (λ(p,q)=>∃u v:Nat,p=u/\q=v/\u<1000000000000000000/\v<1000000000000000000/\Nat.gcd u v=Nat.gcd m n) (λ(_,q)=>q.toNat) (λ(p,q)=>p=((Nat.gcd m n:Nat):Int)/\Nat.gcd m n<1000000000000000000) ⟨x,y,rfl,rfl,i,h,k⟩ ?_ ?_))
    .rintro ⟨p,q⟩ ⟨u,v,rfl,rfl,hu,hv,f⟩;by_cases j:v=0
     .subst j;refine .inr ⟨((u:Int),(0:Int)),rfl,?_⟩;rw [Nat.gcd_zero_right] at f;exact ⟨by rw [f],ω⟩
     .refine .inl ⟨((v:Int),((u % v:Nat):Int)),?_,⟨v,u % v,rfl,rfl,hv,by have:=Nat.mod_lt u (by omega:v>0); omega,?_⟩,?_⟩
      .simp only [An (by omega:(v:Int)>0),cond_true,Jd (by omega:(0:Int)<=u) (by omega:(0:Int)<v),Ad]; rfl
      .rw [<-f,Nat.gcd_comm v,<-Nat.gcd_rec,Nat.gcd_comm]
      .have:=Nat.mod_lt u (by omega:v>0); simp only [Int.toNat_natCast]; exact this
    .rintro ⟨p,q⟩ ⟨rfl,B⟩;dsimp only;rw [Oy _ ω];exact ⟨_,rfl,_,rfl,rfl⟩
   .refine .inl ⟨(Af y,Af (x % y)),?_,⟨y,x % y,rfl,rfl,hy,by have:=G4 (Nat.mod_le x y); omega,?_⟩,?_⟩
    .have:(bif ((Af x).length:Int)<=(2:Int) then some (decide (((Af y).length:Int)<=(2:Int))) else some false)=some false:=by
      unfold Ba at h2;by_cases hc:(Af x).length<=2
      .rw [An (by omega:((Af x).length:Int)<=2),cond_true,Aq (by omega:¬((Af y).length:Int)<=2)]
      .rw [Aq (by omega:¬((Af x).length:Int)<=2),cond_false]
     simp only [l,cond_true];rw [this,Ad,cond_false,Afu x y hx hy c,Ad]
    .rw [<-k,Nat.gcd_comm y,<-Nat.gcd_rec,Nat.gcd_comm]
    .simp only [Er];have:=Nat.mod_lt x (by omega:y>0);omega
 .rintro (e | e) g
  .simp only at g ⊢; rw [g]
  .simp only at g ⊢; rw [g]
theorem Tw:Af 1 = [1]:=by rw [Lc δ,show 1 / 1000000000=0 by decide,Fi]; rfl
theorem Afv (n:Nat):Qq (Af n)=some (decide (n=1)):=by
 unfold Qq;by_cases h0:n=0
 .subst h0; rw [Fi]; rfl
 .rw [Lc h0];by_cases h1:n / 1000000000=0
  .rw [h1,Fi];have e:Ae [((n % 1000000000:Nat):Int)] 0=some ((n % 1000000000:Nat):Int):=rfl;simp only [List.length_singleton,e,Ad];have:(((1:Nat):Int)==(1:Int))=true:=rfl;rw [this,cond_true];congr 1;by_cases b:n=1
   .subst b; rfl
   .rw [Bz ω,Aq b]
  .have c:(Af (n / 1000000000)).length≠0:=λe=>Hx h1 (List.length_eq_zero_iff.1 e);rw [Bz (by simp; omega),cond_false,Aq ω]
def Bj (b:Bool) (n d:Nat):Ai:=if n=0 then ⟨false,[],[1]⟩ else ⟨b,Af (n / Nat.gcd n d),Af (d / Nat.gcd n d)⟩
theorem Md (b:Bool) (n d:Nat) (h:Ba n<274877906944) (hd:Ba d<274877906944):L0 ⟨b,Af n,Af d⟩=some (Bj b n d):=by
 unfold L0 Zs;dsimp only;by_cases h0:n=0
 .subst h0; rw [Fi]; rfl
 .have i:(Af n).length≠0:=λe=>Hx h0 (List.length_eq_zero_iff.1 e);rw [Bz ω,cond_false,Afv,Ad,Bj,if_neg h0];by_cases h1:d=1
  .subst h1;rw [An rfl,cond_true];simp
  .rw [Aq h1,cond_false,Avz n d h hd,Ad,Afv,Ad];by_cases g:Nat.gcd n d=1
   .rw [An g,cond_true,g]; simp
   .have f:Nat.gcd n d≠0:=(by have:=Nat.gcd_pos_of_pos_left d (by omega:0<n); omega);have c:Ba (Nat.gcd n d)<274877906944:=(by have:=G4 (Nat.gcd_le_left d (by omega:0<n)); omega);rw [Aq g,cond_false,Afu n _ h c f,Ad,Afu d _ hd c f,Ad]; rfl
def nv (a:Ai):Nat:=if (Aj a.Num).toNat=0\/(Aj a.Den).toNat=0 then 0 else (Aj a.Num).toNat
def dv (a:Ai):Nat:=if (Aj a.Num).toNat=0\/(Aj a.Den).toNat=0 then 1 else (Aj a.Den).toNat
def sv (a:Ai):Bool:=if (Aj a.Num).toNat=0\/(Aj a.Den).toNat=0 then false else a.Neg
structure RB (k:Nat) (a:Ai):Prop where
 num:Kb a.Num
 den:Kb a.Den
 nl:a.Num.length<=k
 dl:a.Den.length<=k
theorem Av0 {l:List Int} (h:Kb l):Aj l<=5*1000000000 ^ l.length-5:=by induction l with| nil=>simp [Aj]| cons d l ih=>have h1:=h d ψ;have h2:=ih (λx hx=>h x (by simp [hx]));simp only [Aj,List.length_cons];rw [Int.pow_succ];omega
theorem Av1 {l:List Int} (h:Kb l):Aj l<1000000000 ^ (l.length+1):=by have h1:=Av0 h;have hp:=Jf l.length;rw [Int.pow_succ];omega
theorem Aa2 {l:List Int} (h:Kb l):Ba (Aj l).toNat<=l.length+1:=by
 apply Kd;have h1:=Av1 h;have h2:=Gd h;have e:((1000000000 ^ (l.length+1):Nat):Int)=1000000000 ^ (l.length+1):=by rw [Int.natCast_pow]; rfl
 omega
theorem RB.mono {j k:Nat} {a:Ai} (h:RB j a) (hk:j<=k):RB k a:=⟨h.num,h.den,by have:=h.nl; omega,by have:=h.dl; omega⟩
theorem Kg:Ba 1=1:=by unfold Ba; rw [Tw]; rfl
theorem RB.nv {k:Nat} {a:Ai} (h:RB k a):Ba (nv a)<=k+1:=by
 unfold Ab.nv;split
 .simp [Re]
 .have:=Aa2 h.num; have:=h.nl; omega
theorem RB.dv {k:Nat} {a:Ai} (h:RB k a):Ba (dv a)<=k+1:=by
 unfold Ab.dv;split
 .simp [Kg]
 .have:=Aa2 h.den; have:=h.dl; omega
theorem D4 (a:Ai):dv a≠0:=by
 unfold dv; split
 .decide
 .omega
theorem O1 (a:Ai) (k:Nat) (h:RB k a) (hk:k<274877906900):J7 a=some ⟨sv a,Af (nv a),Af (dv a)⟩:=by
 unfold J7;have h1:=h.nl;have h2:=h.dl;rw [Amm _ h.num ω,Ad,Amm _ h.den ω,Ad];unfold nv dv sv;generalize (Aj a.Num).toNat=x;generalize (Aj a.Den).toNat=y;by_cases hx:x=0
 .subst hx;simp only [Fi,true_or,if_true,Tw]; rfl
 .have c:(Af x).length≠0:=λe=>Hx hx (List.length_eq_zero_iff.1 e);by_cases hy:y=0
  .subst hy;simp only [Fi,or_true,if_true,Tw,Bz (by omega:((Af x).length:Int)≠0),cond_false]; rfl
  .have b:(Af y).length≠0:=λe=>Hx hy (List.length_eq_zero_iff.1 e);simp only [hx,hy,or_self,if_false,Bz (by omega:((Af x).length:Int)≠0),cond_false,Bz (by omega:((Af y).length:Int)≠0),Ad]
end Go.Ab
namespace Go.Ab
open Go
theorem Av2 (a:Ai) (k:Nat) (h:RB k a) (hk:k<274877906900):N7 a=some (Bj (sv a) (nv a) (dv a)):=by unfold N7;have h1:=h.nv;have h2:=h.dv;rw [O1 a k h hk,Ad,Md _ _ _ ω ω]; rfl
def Ia (s:Bool) (n:Nat):Int:=if n=0 then 0 else if s then -1 else 1
theorem Av3 (s:Bool) (n:Nat) (d:List Int):Vz ⟨s,Af n,d⟩=some (Ia s n):=by
 unfold Vz Ia;dsimp only;by_cases h:n=0
 .subst h; rw [Fi]; rfl
 .have b:(Af n).length≠0:=λe=>Hx h (List.length_eq_zero_iff.1 e);rw [Bz ω,cond_false,if_neg h];cases s <;> rfl
theorem Afw (a:Ai) (k:Nat) (h:RB k a) (hk:k<274877906900):Hv a=some (Ia (sv a) (nv a)):=by unfold Hv;rw [O1 a k h hk,Ad,Av3]; rfl
theorem Afx (z:Int) (h1 : -9223372036854775808<=z) (h2:z<=9223372036854775807):Qc z=some (Af z.natAbs):=by
 unfold Qc;by_cases h:z<0
 .have e:A2 z=z+18446744073709551616:=(by have:IntKind.u64.wrap z=z % 18446744073709551616:=(by simp [IntKind.wrap,IntKind.bits,IntKind.signed]);rw [A2,this]; omega);have e2:A2 (0-(z+18446744073709551616))=((z.natAbs:Nat):Int):=(by have:IntKind.u64.wrap (0-(z+18446744073709551616))=(0-(z+18446744073709551616)) % 18446744073709551616:=(by simp [IntKind.wrap,IntKind.bits,IntKind.signed]);rw [A2,this]; omega);rw [An h,cond_true,e,e2,Oy _ ω]; rfl
 .have e2:A2 z=((z.natAbs:Nat):Int):=(by rw [A2,Cy ω ω]; omega);rw [Aq h,cond_false,e2,Oy _ ω]; rfl
theorem Tx (z:Int) (h1 : -9223372036854775808<=z) (h2:z<=9223372036854775807):Dn z=some (Bj (decide (z<0)) z.natAbs 1):=by unfold Dn;have:=Lf (n:=z.natAbs) ω;rw [Afx z h1 h2,Ad,<-Tw,Md _ _ _ ω (by rw [Kg]; decide)]; rfl
theorem Amu (x y:Int) (h1 : -9223372036854775808<=x) (h2:x<=9223372036854775807) (h3 : -9223372036854775808<=y) (h4:y<=9223372036854775807) (hy:y≠0):Mu x y=some (Bj (decide (x<0) != decide (y<0)) x.natAbs y.natAbs):=by unfold Mu;have a1:=Lf (n:=x.natAbs) ω;have a2:=Lf (n:=y.natAbs) ω;rw [Bz hy,cond_false,Afx x h1 h2,Ad,Afx y h3 h4,Ad,Md _ _ _ ω ω]; rfl
theorem Xc (a b:Ai) (j k:Nat) (ha:RB j a) (hb:RB k b) (hj:j<68719476736) (hk:k<68719476736):Ey a b=some (Bj (sv a != sv b) (nv a*nv b) (dv a*dv b)):=by unfold Ey;have h1:=ha.nv;have h2:=ha.dv;have h3:=hb.nv;have h4:=hb.dv;have f:=Fp (nv a) (nv b);have c:=Fp (dv a) (dv b);rw [O1 a j ha ω,Ad,O1 b k hb ω,Ad];dsimp only;rw [Oz _ _ ω ω,Ad,Oz _ _ ω ω,Ad,Md _ _ _ ω ω]; rfl
def Jg (b:Bool) (g i:Nat) (c:Bool) (f h:Nat):Bool:=if b=c then b else if f*i<=g*h then b else c
def Ib (i:Bool) (c g:Nat) (h:Bool) (b f:Nat):Nat:=if i=h then c*f+b*g else if b*g<=c*f then c*f-b*g else b*g-c*f
theorem Afy (a b:Ai) (j k:Nat) (ha:RB j a) (hb:RB k b) (hj:j<68719476736) (hk:k<68719476736) : G9 a b=some (Bj (Jg (sv a) (nv a) (dv a) (sv b) (nv b) (dv b)) (Ib (sv a) (nv a) (dv a) (sv b) (nv b) (dv b)) (dv a*dv b)):=by
 unfold G9 Sq;have h1:=ha.nv;have h2:=ha.dv;have h3:=hb.nv;have h4:=hb.dv;have q:=Fp (nv a) (dv b);have l:=Fp (nv b) (dv a);have i:=Fp (dv a) (dv b);have h:=W8 (nv a*dv b) (nv b*dv a);have g:=G4 (Nat.sub_le (nv a*dv b) (nv b*dv a));have f:=G4 (Nat.sub_le (nv b*dv a) (nv a*dv b));rw [O1 a j ha ω,Ad,O1 b k hb ω,Ad];dsimp only;rw [Oz _ _ ω ω,Ad,Oz _ _ ω ω,Ad,Oz _ _ ω ω,Ad];by_cases c:sv a=sv b
 .have e:(sv a==sv b)=true:=(by rw [c]; exact beq_self_eq_true _);rw [e,cond_true,Amo _ _ ω ω,Ad,Ad,Md _ _ _ ω ω,Jg,Ib,if_pos c,if_pos c]; rfl
 .have e:(sv a==sv b)=false:=(by simpa using c);rw [e,cond_false,Rf _ _ ω ω,Ad,Jg,Ib,if_neg c,if_neg c];by_cases hc:nv b*dv a<=nv a*dv b
  .rw [An (show Ei (nv a*dv b) (nv b*dv a)>=0 by rw [Ei,if_neg ω]; split <;> decide),cond_true,Aaz _ _ ω hc,Ad,Ad,Md _ _ _ ω ω,if_pos hc,if_pos hc]; rfl
  .rw [Aq (show ¬Ei (nv a*dv b) (nv b*dv a)>=0 by rw [Ei,if_pos ω]; decide),cond_false,Aaz _ _ ω ω,Ad,Ad,Md _ _ _ ω ω,if_neg hc,if_neg hc]; rfl
theorem Xd (s:Bool) (d:Nat):Bj s 0 d=⟨false,[],[1]⟩:=by simp [Bj]
theorem Jh (s:Bool) (n d k:Nat) (b:Ba n<=k) (hd:Ba d<=k) (hk:1<=k):RB k (Bj s n d):=by
 unfold Bj;split
 .refine ⟨(λ_ h=>by cases h),(λx h=>?_),ψ,by simpa using hk⟩;simp at h; subst h; decide
 .have h1:=Afp n (Nat.gcd n d);have h2:=Afp d (Nat.gcd n d);unfold Ba at *;exact ⟨(Eb _).u32,(Eb _).u32,by simp only; omega,by simp only; omega⟩
theorem Aa3 (s:Bool) (n d:Nat) (hd:d≠0):nv (Bj s n d)=n / Nat.gcd n d/\dv (Bj s n d)=d / Nat.gcd n d/\(n≠0->sv (Bj s n d)=s)/\(n=0->sv (Bj s n d)=false):=by
 by_cases h0:n=0
 .subst h0;rw [Xd];have c:d / Nat.gcd 0 d=1:=(by rw [Nat.gcd_zero_left]; exact Nat.div_self ω);refine ⟨by simp [nv,Aj],?_,λh=>(h rfl).elim,λ_=>by simp [sv,Aj]⟩;rw [c]; simp [dv,Aj]
 .have f:0<Nat.gcd n d:=Nat.gcd_pos_of_pos_left d ω;have h1:n / Nat.gcd n d≠0:=(by have:=Nat.div_pos (Nat.gcd_le_left d (by omega:0<n)) f; omega);have h2:d / Nat.gcd n d≠0:=(by have:=Nat.div_pos (Nat.gcd_le_right n (by omega:0<d)) f; omega);have e:Bj s n d=⟨s,Af (n / Nat.gcd n d),Af (d / Nat.gcd n d)⟩:=(by simp [Bj,h0]);have b:(Aj (Af (n / Nat.gcd n d))).toNat=n / Nat.gcd n d:=(by rw [Er]; rfl);have v2:(Aj (Af (d / Nat.gcd n d))).toNat=d / Nat.gcd n d:=(by rw [Er]; rfl);rw [e];have hc:¬(n / Nat.gcd n d=0\/d / Nat.gcd n d=0):=ω;refine ⟨?_,?_,λ_=>?_,λh=>(h0 h).elim⟩
  .simp only [nv,b,v2,if_neg hc]
  .simp only [dv,b,v2,if_neg hc]
  .simp only [sv,b,v2,if_neg hc]
theorem O2 (s:Bool) (n d k:Nat) (hk:k≠0):Bj s (k*n) (k*d)=Bj s n d:=by
 unfold Bj;by_cases h:n=0
 .subst h; simp
 .have h1:k*n≠0:=Nat.mul_ne_zero hk h;rw [if_neg h1,if_neg h,Nat.gcd_mul_left,Nat.mul_div_mul_left _ _ ω,Nat.mul_div_mul_left _ _ ω]
theorem Amv {s t:Bool} {n d:Nat} (h:n≠0->s=t):Bj s n d=Bj t n d:=by
 unfold Bj;by_cases h0:n=0
 .simp [h0]
 .rw [h h0]
end Go.Ab
namespace Go.Ab
open Go
theorem Amw (l:List Int):Ja l=(I9 l).bind λv=>Bx 4 [] v:=by
 unfold Ja I9;generalize Al _ _=x;cases x with
 | none=>rfl
 | some v=>simp only [Ad];cases G1 l 0 v with| none=>rfl| some y=>simp only [Ad];cases Bx 4 [] y <;> rfl
theorem Av4 (l:List Int):(Gq l).length<=l.length:=by
 induction l with
 | nil=>simp [Gq]
 | cons d l ih=>simp only [Gq];cases ht:Gq l with| nil=>simp only []; split <;> simp| cons x m=>rw [ht] at ih; simpa using ih
theorem Rg (l:List Int) (b:l.length<2199023255552):Ja l=some (Gq l):=by have:=Av4 l;rw [Amw,Ox l ω,Ad,Di (by simp; omega)]; rfl
theorem Amx (l:List Int) (hd:Kb l) (z:l.length<1099511627776):S3 l=some (Af (Aj l).toNat):=by
 unfold S3;refine He (λ(c,i,o)=>∃k:Nat,i=k/\k<=l.length/\o.length=k/\Bs o/\0<=c/\c<5/\Aj o+1000000000 ^ k*c=Aj (l.take k)) (λ(_,i,_)=>l.length-i.toNat) (λ(c,o)=>o.length=l.length/\Bs o/\0<=c/\c<5/\Aj o+1000000000 ^ l.length*c=Aj l) ⟨0,rfl,ω,rfl,Bs.nil,ω,ω,by simp [Aj]⟩ ?_ ?_
 .rintro ⟨c,i,o⟩ ⟨k,rfl,hk,f,b,j,hc,hv⟩;rcases Nat.lt_or_ge k l.length with h | h
  .have hx:=hd l[k] (List.getElem_mem h);refine .inl ⟨((c+l[k]) / 1000000000,((k+1:Nat):Int),o++[(c+l[k]) % 1000000000]),?_,⟨k+1,rfl,ω,by simp [f],b.snoc ω ω,ω,ω,?_⟩,by simp; omega⟩
   .have x:A2 l[k]=l[k]:=Cy ω ω;have e2:A2 (c+l[k])=c+l[k]:=Cy ω ω;have q:B7 ((c+l[k]) % 1000000000)=(c+l[k]) % 1000000000:=Fe ω ω;have u:=Jv h ω;have s:decide ((k:Int)<(l.length:Int))=true:=(by simpa using h);simp only [s,cond_true,Df rfl h,Ad,x,e2,Jd (show 0<=c+l[k] by omega) (show (0:Int)<1000000000 by decide),q,Di (show (o.length+[(c+l[k]) % 1000000000].length)*4<=_ by simp; omega),Jt (show 0<=c+l[k] by omega) (show c+l[k]<=_ by omega) (show (0:Int)<1000000000 by decide),u]
   .rw [Ff l h,<-hv,Je,f,Int.pow_succ];have:=Int.mul_ediv_add_emod (c+l[k]) 1000000000;grind
  .have g:k=l.length:=ω;subst g;refine .inr ⟨(c,o),ψ,f,b,j,hc,by simpa using hv⟩
 .rintro ⟨c,o⟩ ⟨h2,h3,h4,B,A⟩;have y:=Gd hd;by_cases hc:c>0
  .have q:B7 c=c:=Fe ω ω;simp only [decide_eq_true hc,cond_true,q,Di (show (o.length+[c].length)*4<=_ by simp; omega),Ad,Rg (o++[c]) (by simp; omega)];rw [Ju (h3.snoc ω ω) (n:=(Aj l).toNat) (by rw [Je,h2]; omega)]
  .have:c=0:=ω;subst this;simp only [Int.lt_irrefl,gt_iff_lt,decide_false,cond_false,Rg o ω,Ad];rw [Ju h3 (n:=(Aj l).toNat) ω]
theorem Aa4 (n:Int):K7 n=Mw n:=rfl
theorem Aa5 (a b:List Int):N4 a b=Qh a b:=rfl
theorem Av5 (m d:Nat) (c:Ba m<1099511627776) (hd:0<d) (b:d<4294967296):Wd (Af m) d=some (Af (m / d),((m % d:Nat):Int)):=by
 have h:=Afs m d c hd b;unfold Qy at h;unfold Wd;unfold Ba at c;rw [Js rfl rfl (Nat.le_refl _) ω ω] at h ⊢;simp only [Ad] at h ⊢;revert h;generalize Al _ _=x;cases x with
 | none=>intro h; cases h
 | some v=>obtain ⟨r,o⟩:=v;simp only [Ad];intro h;rw [Amw];cases ht:I9 o with| none=>rw [ht] at h; cases h| some y=>rw [ht] at h;simp only [Ad] at h ⊢;have hy:y=Af (m / d):=congrArg Prod.fst (Option.some.inj h);have:=Afp m d;unfold Ba at this;rw [Di (by rw [hy]; simp; omega)];exact h
theorem Aa6 (m n:Nat) (V:Ba m<1099511627776) (E:n<=m):N5 (Af m) (Af n)=some (Af (m-n)):=by
 unfold N5;have I:(Af n).length<=(Af m).length:=G4 E;unfold Ba at V;rw [Js rfl rfl (Nat.le_refl _) ω ω];simp only [Ad];have ha:=Eb m;have hb:=Eb n;refine He (λ(c,i,o)=>∃k:Nat,i=k/\k<=(Af m).length/\o.length=(Af m).length/\Bs o/\o.drop k=List.replicate ((Af m).length-k) 0/\0<=c/\c<=1/\Aj o=Aj ((Af m).take k)-Aj ((Af n).take k)+1000000000 ^ k*c) (λ(_,i,_)=>(Af m).length-i.toNat) (λo=>∃c:Int,o.length=(Af m).length/\Bs o/\0<=c/\c<=1/\Aj o=(m:Int)-n+1000000000 ^ (Af m).length*c) ⟨0,rfl,ω,ψ,Bs.replicate _,ψ,ω,ω,by simp [Aj,Aau]⟩ ?_ ?_
 .rintro ⟨c,i,o⟩ ⟨k,rfl,hk,D,u,y,L,hc,hv⟩;rcases Nat.lt_or_ge k (Af m).length with h | h
  .have hx:=ha.get h;have f:k<o.length:=ω;have R:=Jv h ω;have N:decide ((k:Int)<((Af m).length:Int))=true:=An ω;have b:o[k]=0:=(by have:=congrArg List.head? y;rw [List.head?_drop,Be f] at this;have x:(List.replicate ((Af m).length-k) (0:Int)).head? = some 0:=(by cases hh:(Af m).length-k with| zero=>omega| succ t=>rfl);rw [x] at this;exact Option.some.inj this);have key:∀s:Int,0<=s->s<=1000000000->Aj ((Af m).take (k+1))-Aj ((Af n).take (k+1))=Aj ((Af m).take k)-Aj ((Af n).take k)+1000000000 ^ k*((Af m)[k]-s+c) ->
     ∃(l d:Int),(bif (Af m)[k]>=s then (some (Sum.inl (0,((k+1:Nat):Int),(Cf o (k:Int) (B7 ((Af m)[k]-s)))))) else (some (Sum.inl (1,((k+1:Nat):Int),(Cf o (k:Int) (B7 ((B7 ((Af m)[k]+1000000000))-s)))))):Option ((Int×Int×List Int)⊕List Int))=some (.inl (l,((k+1:Nat):Int),o.set k d)) /\ (∃q:Nat,((k+1:Nat):Int)=q/\q<=(Af m).length/\(o.set k d).length=(Af m).length/\Bs (o.set k d)/\(o.set k d).drop q=List.replicate ((Af m).length-q) 0/\0<=l/\l<=1/\Aj (o.set k d)=Aj ((Af m).take q)-Aj ((Af n).take q)+1000000000 ^ q*l):=by
    intro s h1 h2 g;have j:∀d:Int,(o.set k d).drop (k+1)=List.replicate ((Af m).length-(k+1)) 0:=(by intro d;rw [List.drop_set_of_lt ω,<-List.drop_drop,y,List.drop_replicate]; congr 1);by_cases M:(Af m)[k]>=s
    .have z:B7 ((Af m)[k]-s)=(Af m)[k]-s:=Fe ω ω;refine ⟨0,(Af m)[k]-s,by rw [An M,cond_true,z,Ho rfl],k+1,rfl,ω,by simpa using D,u.set _ ω ω,j _,ω,ω,?_⟩;rw [Kc _ f,b,g,hv]; grind
    .have z:B7 ((Af m)[k]+1000000000)=(Af m)[k]+1000000000:=Fe ω ω;have U:B7 ((Af m)[k]+1000000000-s)=(Af m)[k]+1000000000-s:=Fe ω ω;refine ⟨1,(Af m)[k]+1000000000-s,by rw [Aq M,cond_false,z,U,Ho rfl],k+1,rfl,ω,by simpa using D,u.set _ ω ω,j _,ω,ω,?_⟩;rw [Kc _ f,b,g,hv,Int.pow_succ]; grind
   refine .inl ?_;rcases Nat.lt_or_ge k (Af n).length with hb' | hb'
   .have hy:=hb.get hb';have S:B7 (c+(Af n)[k])=c+(Af n)[k]:=Fe ω ω;obtain ⟨l,d,B,A⟩:=key (c+(Af n)[k]) ω ω (by rw [Ff _ h,Ff _ hb']; grind);refine ⟨(l,((k+1:Nat):Int),o.set k d),?_,A,by simp; omega⟩;rw [<-B];simp only [N,cond_true,Df rfl h,Df rfl f,Ad,An (by omega:(k:Int)<((Af n).length:Int)),Df rfl hb',S,R]
   .obtain ⟨l,d,B,A⟩:=key c ω ω (by rw [Ff _ h,I0 (Af n) hb',I0 (Af n) ω]; grind);refine ⟨(l,((k+1:Nat):Int),o.set k d),?_,A,by simp; omega⟩;rw [<-B];simp only [N,cond_true,Df rfl h,Df rfl f,Ad,Aq (by omega:¬(k:Int)<((Af n).length:Int)),cond_false,R]
  .have J:k=(Af m).length:=ω;subst J;refine .inr ⟨o,ψ,c,D,u,L,hc,?_⟩;rw [List.take_length,I0 _ I,Er,Er] at hv;exact hv
 .rintro o ⟨c,h2,h3,h4,Y,X⟩;have G:=Iz h3;rw [h2] at G;have hp:=Jf (Af m).length;have:c=0:=by
   rcases Int.lt_or_le 0 c with hc | hc
   .have:c=1:=ω;subst this;omega
   .omega
  subst this;rw [Rg o ω,Ad,Ju h3 (n:=m-n) ω]
end Go.Ab
namespace Go.Ab
open Go
theorem Av6 {o:List Int} {k n:Nat} (hk:k<o.length) (h:o.drop k=List.replicate n 0):o[k]=0:=by have:=congrArg List.head? h;rw [List.head?_drop,Be hk] at this;cases n with| zero=>simp at this| succ t=>exact Option.some.inj this
theorem cl1 {o X K c s x y A w:Int} (f:c+x+w=s) (hw:w=y*A) (b:1000000000*(s / 1000000000)+s % 1000000000=s) (z V:Int) (h:o+X*K*c=z+X*(y*V)):o+X*K*(s % 1000000000-x)+X*K*1000000000*(s / 1000000000)=z+X*(y*(V+K*A)):=by grind
set_option maxHeartbeats 1000000 in
theorem O3 (m n:Nat) (hm:Ba m<274877906944) (hn:Ba n<274877906944):I8 (Af m) (Af n)=some (Af (m*n)):=by
  unfold I8;unfold Ba at hm hn;have hw:Aa (((Af m).length:Int)+((Af n).length:Int))=(((Af m).length+(Af n).length:Nat):Int):=(by rw [Aa,B4] <;> omega);have M:Aa ((((Af m).length+(Af n).length:Nat):Int)+1)=(((Af m).length+(Af n).length+1:Nat):Int):=(by rw [Aa,B4] <;> omega);rw [hw,M,Js rfl rfl (Nat.le_refl _) ω ω];simp only [Ad];have ha:=Eb m;have hb:=Eb n;have D:Aj (Af n)=n:=Er n;generalize Af n=b at *;generalize hL:b.length=L at *;refine He (λ(i,o)=>∃k:Nat,i=k/\k<=(Af m).length/\o.length=(Af m).length+L+1/\Bs o/\o.drop (k+L)=List.replicate ((Af m).length+1-k) 0/\Aj o=Aj ((Af m).take k)*n) (λ(i,_)=>(Af m).length-i.toNat) (λo=>o.length=(Af m).length+L+1/\Bs o/\Aj o=((m*n:Nat):Int)) ⟨0,rfl,ω,ψ,Bs.replicate _,by rw [List.drop_replicate]; congr 1; omega,by simp [Aau,Aj]⟩ ?_ ?_
  . rintro ⟨i,o⟩ ⟨k,rfl,hk,ho,G,S,hv⟩;rcases Nat.lt_or_ge k (Af m).length with h | h
    . have hx:=ha.get h;have e4:=Jv h ω;have e5:decide ((k:Int)<((Af m).length:Int))=true:=An ω;simp only [e5,cond_true];have V:Ae (Af m) (k:Int)=some (Af m)[k]:=Df rfl h;generalize J:(Af m)[k]=x at *;refine .inl (M4 (C6 (λ(c,j,o')=>∃q:Nat,j=q/\o'.length=(Af m).length+L+1/\Bs o'/\0<=c/\c<1000000000 /\ ((q<=L/\o'.drop (k+L)=List.replicate ((Af m).length+1-k) 0/\Aj o' + 1000000000 ^ (k+q)*c=Aj o+1000000000 ^ k*(x*Aj (b.take q))) \/ (q=L+1/\c=0/\o'.drop (k+1+L)=List.replicate ((Af m).length+1-(k+1)) 0/\Aj o'=Aj o+1000000000 ^ k*(x*n)))) (λ(_,j,_)=>L+1-j.toNat) (λ(c,j,o')=>o'.length=(Af m).length+L+1/\Bs o'/\o'.drop (k+1+L)=List.replicate ((Af m).length+1-(k+1)) 0/\Aj o'=Aj o+1000000000 ^ k*(x*n)) ⟨0,rfl,ho,G,ω,ω,.inl ⟨ω,S,by simp [Aj]⟩⟩ ?_ ?_))
      . rintro ⟨c,j,o'⟩ ⟨q,rfl,u,g,A,hc,hq⟩;rcases hq with ⟨hq,f,l⟩ | ⟨rfl,rfl,f,l⟩
        . have e8:Aa ((k:Int)+(q:Int))=((k+q:Nat):Int):=(by rw [Aa,B4] <;> omega);have e6:Aa ((q:Int)+1)=((q+1:Nat):Int):=Jv (Nat.lt_succ_self q) ω;have y:k+q<o'.length:=ω;have a1:=g.get y;have w4:A2 o'[k+q]=o'[k+q]:=Cy ω ω;have w5:A2 (c+o'[k+q])=c+o'[k+q]:=Cy ω ω;have p1:(1000000000:Int) ^ (k+(q+1))=1000000000 ^ (k+q)*1000000000:=(by rw [<-Nat.add_assoc,Int.pow_succ]);have Y:(1000000000:Int) ^ (k+q)=1000000000 ^ k*1000000000 ^ q:=Int.pow_add ..;rcases Nat.lt_or_ge q L with hq' | hq'
          . have B:q<b.length:=ω;have hy:=hb.get B;have a6:=Aa0 hx.1 hx.2 hy.1 hy.2;have w1:A2 x=x:=Cy ω ω;have w2:A2 b[q]=b[q]:=Cy ω ω;have w3:A2 (x*b[q])=x*b[q]:=Cy ω ω;have X:A2 (c+o'[k+q]+x*b[q])=c+o'[k+q]+x*b[q]:=Cy ω ω;generalize Z:c+o'[k+q]+x*b[q]=s at X;have E:0<=s:=ω;have a7:s<1000000000000000000:=ω;have w7:B7 (s % 1000000000)=s % 1000000000:=Fe ω ω;refine .inl ⟨(s / 1000000000,((q+1:Nat):Int),o'.set (k+q) (s % 1000000000)),?_,⟨q+1,rfl,by simpa using u,g.set _ ω ω,ω,ω,.inl ⟨ω,?_,?_⟩⟩,by simp; omega⟩
            . simp only [An (by omega:(q:Int)<(L:Int)),cond_true,Ad,e8,Df rfl y,V,Df rfl B,w1,w2,w3,w4,w5,Z,X,Jd E (show (0:Int)<1000000000 by decide),Jt E (show s<=_ by omega) (show (0:Int)<1000000000 by decide),w7,e6,Ho rfl]
            . rw [List.drop_set_of_lt ω]; exact f
            . rw [Kc _ y,Ff _ B,p1,Y];rw [Y] at l;exact cl1 Z rfl (Int.mul_ediv_add_emod s 1000000000) _ _ l
          . have N:q=L:=ω;subst N;by_cases U:c>0
            . have z:o'[k+q]=0:=Av6 y f;refine .inl ⟨(0,((q+1:Nat):Int),o'.set (k+q) c),?_,⟨q+1,rfl,by simpa using u,g.set _ ω ω,ω,ω,.inr ⟨rfl,rfl,?_,?_⟩⟩,ψ⟩
              . have w8:B7 c=c:=Fe ω ω;have w9:A2 c=c:=Cy ω ω;simp only [Aq (by omega:¬(q:Int)<(q:Int)),cond_false,An U,cond_true,Ad,e8,Df rfl y,z,show A2 (0:Int)=0 from rfl,Int.add_zero,w9,Jd A (show (0:Int)<1000000000 by decide),Jt A (show c<=_ by omega) (show (0:Int)<1000000000 by decide),Int.emod_eq_of_lt A hc,Int.ediv_eq_zero_of_lt A hc,w8,e6,Ho rfl]
              . rw [List.drop_set_of_lt ω,show k+1+q=(k+q)+1 by omega,<-List.drop_drop,f,List.drop_replicate]; congr 1
              . rw [Kc _ y,z,Int.sub_zero];rw [List.take_of_length_le ω,D] at l;omega
            . have I:c=0:=ω;subst I;refine .inr ⟨(0,(q:Int),o'),?_,u,g,?_,?_⟩
              . simp only [Aq (by omega:¬(q:Int)<(q:Int)),cond_false,Ad,show decide ((0:Int)>0)=false from rfl]
              . rw [show k+1+q=(k+q)+1 by omega,<-List.drop_drop,f,List.drop_replicate]; congr 1
              . rw [List.take_of_length_le ω,D] at l;omega
        . refine .inr ⟨(0,((L+1:Nat):Int),o'),?_,u,g,f,l⟩;simp only [Aq (by omega:¬((L+1:Nat):Int)<(L:Int)),cond_false,Ad,show decide ((0:Int)>0)=false from rfl]
      . rintro ⟨c,j,o'⟩ ⟨u,g,f,l⟩;refine ⟨_,by simp only [e4],(((k+1:Nat):Int),o'),rfl,⟨k+1,rfl,ω,u,g,f,?_⟩,by simp; omega⟩;rw [l,Ff _ h,Int.add_mul,<-hv,J]; grind
    . have R:k=(Af m).length:=ω;subst R;refine .inr ⟨o,ψ,ho,G,?_⟩;rw [List.take_length,Er] at hv;rw [hv]; simp
  . rintro o ⟨h2,h3,h4⟩;rw [Rg o ω,Ad,Ju h3 h4]
theorem Av7 (m n:Nat) (U:Ba m<274877906944) (S:Ba n<274877906944):Vo (Af m) (Af n)=some (Af (m+n)):=by
 unfold Vo;unfold Ba at U S;have ha:=Eb m;have hb:=Eb n;have G:Aj (Af m)=m:=Er m;have E:Aj (Af n)=n:=Er n;have J:=Aay (n:=m);have I:=Aay (n:=n);generalize Af m=a at *;generalize Af n=b at *;generalize hM:max a.length b.length=M;refine He (λ(c,i,o)=>∃k:Nat,i=k/\o.length=k/\Bs o/\0<=c/\c<=1/\((k<=M/\Aj o+1000000000 ^ k*c=Aj (a.take k)+Aj (b.take k))\/(k=M+1/\c=0/\Aj o=m+n/\1000000000 ^ M<=Aj o))) (λ(_,i,_)=>M+1-i.toNat) (λo=>Bs o/\Aj o=m+n/\(o≠[]->1000000000 ^ (o.length-1)<=Aj o)) ⟨0,rfl,rfl,Bs.nil,ω,ω,.inl ⟨ω,by simp [Aj]⟩⟩ ?_ ?_
 .rintro ⟨c,i,o⟩ ⟨k,rfl,l,h,X,hc,hk⟩;rcases hk with ⟨hk,hv⟩ | ⟨rfl,rfl,hv,hp⟩
  .have Z:Aa ((k:Int)+1)=((k+1:Nat):Int):=Jv (Nat.lt_succ_self k) ω;have step:∀s:Int,0<=s->s<2000000000 ->
     ((Fv .u32 s 1000000000).bind λB=>(Gl s 1000000000).bind λA=>(Bx 4 o [A]).bind λD=>some (Sum.inl (B,(Aa ((k:Int)+1)),D)))=some (Sum.inl (s / 1000000000,((k+1:Nat):Int),o++[s % 1000000000]):(Int×Int×List Int)⊕List Int):=by intro s h1 h2;rw [Afn h1 ω δ,Ad,Jd h1 δ,Ad,Di (by simp; omega),Ad,Z]
   have g:∀s:Int,0<=s->s<2000000000->k<M->Aj (a.take (k+1))+Aj (b.take (k+1))=Aj (a.take k)+Aj (b.take k)+1000000000 ^ k*(s-c) ->
     (∃q:Nat,((k+1:Nat):Int)=q/\(o++[s % 1000000000]).length=q/\Bs (o++[s % 1000000000])/\0<=s / 1000000000/\s / 1000000000<=1/\((q<=M/\Aj (o++[s % 1000000000])+1000000000 ^ q*(s / 1000000000)=Aj (a.take q)+Aj (b.take q))\/(q=M+1/\s / 1000000000=0/\Aj (o++[s % 1000000000])=m+n/\1000000000 ^ M<=Aj (o++[s % 1000000000])))):=by intro s h1 h2 x u;refine ⟨k+1,rfl,by simp [l],h.snoc ω ω,ω,ω,.inl ⟨ω,?_⟩⟩;rw [u,<-hv,Je,l,Int.pow_succ];have:=Int.mul_ediv_add_emod s 1000000000;grind
   by_cases j:k<a.length
   .have hx:=ha.get j;have R:B7 (c+a[k])=c+a[k]:=Fe ω ω;by_cases f:k<b.length
    .have hy:=hb.get f;have z:B7 (c+a[k]+b[k])=c+a[k]+b[k]:=Fe ω ω;refine .inl ⟨((c+a[k]+b[k]) / 1000000000,((k+1:Nat):Int),o++[(c+a[k]+b[k]) % 1000000000]),?_,g (c+a[k]+b[k]) ω ω ω (by rw [Ff a j,Ff b f]; grind),by simp; omega⟩;rw [<-step (c+a[k]+b[k]) ω ω];simp only [An (by omega:(k:Int)<(a.length:Int)),An (by omega:(k:Int)<(b.length:Int)),cond_true,Ad,Df rfl j,Df rfl f,R,z]
    .refine .inl ⟨((c+a[k]) / 1000000000,((k+1:Nat):Int),o++[(c+a[k]) % 1000000000]),?_,g (c+a[k]) ω ω ω (by rw [Ff a j,I0 b ω,I0 b ω]; grind),by simp; omega⟩;rw [<-step (c+a[k]) ω ω];simp only [An (by omega:(k:Int)<(a.length:Int)),Aq (by omega:¬(k:Int)<(b.length:Int)),cond_true,cond_false,Ad,Df rfl j,R]
   .by_cases f:k<b.length
    .have hy:=hb.get f;have z:B7 (c+b[k])=c+b[k]:=Fe ω ω;refine .inl ⟨((c+b[k]) / 1000000000,((k+1:Nat):Int),o++[(c+b[k]) % 1000000000]),?_,g (c+b[k]) ω ω ω (by rw [Ff b f,I0 a ω,I0 a ω]; grind),by simp; omega⟩;rw [<-step (c+b[k]) ω ω];simp only [Aq (by omega:¬(k:Int)<(a.length:Int)),An (by omega:(k:Int)<(b.length:Int)),cond_true,cond_false,Ad,Df rfl f,z]
    .have x:k=M:=ω;subst x;rw [I0 a ω,I0 b ω,G,E] at hv;by_cases Y:c>0
     .have N:c=1:=ω;subst N;refine .inl ⟨((1:Int) / 1000000000,((k+1:Nat):Int),o++[(1:Int) % 1000000000]),?_,⟨k+1,rfl,by simp [l],h.snoc δ δ,δ,δ,.inr ⟨rfl,rfl,?_,?_⟩⟩,ψ⟩
      .rw [<-step 1 ω ω];simp only [Aq (by omega:¬(k:Int)<(a.length:Int)),Aq (by omega:¬(k:Int)<(b.length:Int)),cond_false,Ad,show decide ((1:Int)>0)=true from rfl,cond_true]
      .rw [Je,l]; exact hv
      .rw [Je,l,show (1:Int) % 1000000000=1 from rfl];have:=Gd h.u32;omega
     .have y:c=0:=ω;subst y;refine .inr ⟨o,?_,h,ω,λL=>?_⟩
      .simp only [Aq (by omega:¬(k:Int)<(a.length:Int)),Aq (by omega:¬(k:Int)<(b.length:Int)),cond_false,Ad,show decide ((0:Int)>0)=false from rfl]
      .have V:k≠0:=(by intro e; rw [e] at l; exact L (List.length_eq_zero_iff.1 l));rcases Nat.le_total a.length b.length with hab | hab
       .have:k=b.length:=ω;have h1:=I (by intro e; rw [e] at this; simp at this; omega);rw [l,this]; omega
       .have:k=a.length:=ω;have h1:=J (by intro e; rw [e] at this; simp at this; omega);rw [l,this]; omega
  .refine .inr ⟨o,?_,h,hv,λ_=>by rw [l]; simpa using hp⟩;simp only [Aq (by omega:¬((M+1:Nat):Int)<(a.length:Int)),Aq (by omega:¬((M+1:Nat):Int)<(b.length:Int)),cond_false,Ad,show decide ((0:Int)>0)=false from rfl]
 .rintro o ⟨h1,h2,h3⟩;congr 1;exact Aaw (Afr h1 h3) (by rw [h2]; simp)
end Go.Ab
