/- Plain laws: what the plain functions answer. -/
import Derived.Test.YtdjgjhnhlpiccaaGreatDoorMsDef
import Derived.Lib.ItoaLen
open List
namespace Go.Ab
open Go
variable {i:Nat} {E R S:Type} {α:Type _} {J:E->Option R} {l s t:List α} {X:Option (S⊕E)} {a b e:α}
theorem Ad {α β:Type} (a:α) (f:α->Option β):(some a).bind f=f a:=rfl
theorem Bs {α:Type} {l:List α} (h:i<l.length):l[i]? = some l[i]:=getElem?_eq_getElem h
theorem Bu {α:Type} {l:List α} {a:α} (h:l[i]? = some a):a∈l:=mem_of_getElem? h
theorem Ct (a b:Bool):((a&&b)=true)=(a=true/\b=true):=Bool.and_eq_true a b
theorem bnt:(!true)=false:=rfl
theorem Am (a b:α):(bif true then a else b)=a:=rfl
theorem Aq (a b:α):(bif false then a else b)=b:=rfl
theorem Du {p:Prop} [Decidable p]:(decide p=true)=p:=decide_eq_true_eq
theorem Ar {c:Prop} {h:Decidable c} (hc:¬c) {t:α}:(if c then t else e)=e:=if_neg hc
theorem Av {c:Prop} {h:Decidable c} (hc:c) {t:α}:(if c then t else e)=t:=if_pos hc
theorem Cj (a b:Nat):a<b\/a>=b:=Nat.lt_or_ge a b
theorem Db:l.take l.length=l:=take_length
theorem Ii (h:l.length<=i):l.take i=l:=take_of_length_le h
theorem Gn:l.length=0↔l = []:=length_eq_zero_iff
theorem Hi (h:a∈l):∃i:Nat,l[i]? = some a:=getElem?_of_mem h
theorem G7 {p:α->Bool}:l.all p=true↔∀x,x∈l->p x=true:=all_eq_true
theorem Ej:a∈s++t↔a∈s\/a∈t:=mem_append
theorem C1 {β:Type _} (f:α->β):(l.map f).length=l.length:=length_map f
theorem Fp (h:some a=some b):a=b:=Option.some.inj h
theorem D9:a::s++t=a::(s++t):=rfl
theorem Ea:a∈[b]↔a=b:=mem_singleton
theorem Gi:a∈b::l↔a=b\/a∈l:=mem_cons
theorem D6:(a::l).length=l.length+1:=rfl
theorem Ek:(s++t).length=s.length+t.length:=length_append
theorem Lq (h:l.length<=i):l[i]? = none:=getElem?_eq_none h
theorem Nj {step:S->Option (S⊕E)} {s:S} {r:R} (c:S->Prop) (m:S->Nat) (b:E->Prop) (h0:c s) (f:∀s,c s->(∃s',step s=some (.inl s')/\c s'/\m s' < m s)\/(∃e,step s=some (.inr e)/\b e)) (g:∀e,b e->J e=some r):(Ak step s).bind J=some r:=by obtain⟨e,h1,h2⟩:=Ka c m b f s h0;rw[h1];exact g e h2
theorem Et {step:S->Option (S⊕E)} {s:S} {Q:R->Prop} (c:S->Prop) (m:S->Nat) (b:E->Prop) (h0:c s) (f:∀s,c s->(∃s',step s=some (.inl s')/\c s'/\m s' < m s)\/(∃e,step s=some (.inr e)/\b e)) (g:∀e,b e->∃r,J e=some r/\Q r):∃r,(Ak step s).bind J=some r/\Q r:=by obtain⟨e,h1,h2⟩:=Ka c m b f s h0;rw[h1];exact g e h2
theorem Afs {Q:S->Prop} (h:∃r,X=some r/\∃s',r = .inl s'/\Q s'):∃s',X=some (.inl s')/\Q s':=by obtain⟨r,h1,s',rfl,h2⟩:=h;exact⟨s',h1,h2⟩
theorem A4d {Q:E->Prop} (h:∃r,X=some r/\∃e,r = .inr e/\Q e):∃e,X=some (.inr e)/\Q e:=by obtain⟨r,h1,s',rfl,h2⟩:=h;exact⟨s',h1,h2⟩
theorem Aa0 {A:Type} {X:Option R} (f:A->R) {Q:A->Prop} (h:∃r,X=some r/\∃a,r=f a/\Q a):∃a,X=some (f a)/\Q a:=by obtain⟨r,h1,a,rfl,h2⟩:=h;exact⟨a,h1,h2⟩
variable {a b i:Int} {n:Nat} {p:Prop} {α:Type} {l:List α}
theorem A4e {β:Type} {c:Prop} [Decidable c] (a b:Option α) (f:α->Option β):(if c then a else b).bind f=if c then a.bind f else b.bind f:=by split <;> rfl
theorem Cl {n:Int} (h1 : -9223372036854775808<=n) (h2:n<=9223372036854775807):IntKind.i64.wrap n=n:=by
 have e:IntKind.i64.wrap n=if 9223372036854775808<=n % 18446744073709551616 then n % 18446744073709551616-18446744073709551616 else n % 18446744073709551616:=by simp[IntKind.wrap,IntKind.bits,IntKind.signed]
 rw[e];split <;> omega
theorem F1 {n:Int} (h1:0<=n) (h2:n<=18446744073709551615):IntKind.u64.wrap n=n:=by
 have e:IntKind.u64.wrap n=n % 18446744073709551616:=by simp[IntKind.wrap,IntKind.bits,IntKind.signed]
 rw[e];omega
theorem Jo {n:Int} (h1:0<=n) (h2:n<=4294967295):IntKind.u32.wrap n=n:=by
 have e:IntKind.u32.wrap n=n % 4294967296:=by simp[IntKind.wrap,IntKind.bits,IntKind.signed]
 rw[e];omega
theorem Ar6 (n:Int):0<=IntKind.u64.wrap n/\IntKind.u64.wrap n<=18446744073709551615:=by
 have e:IntKind.u64.wrap n=n % 18446744073709551616:=by simp[IntKind.wrap,IntKind.bits,IntKind.signed]
 rw[e];omega
theorem Hv (hi:i=n) (h:n<l.length):Ag l i=some l[n]:=by subst hi;simp[Ag,h]
theorem Br {x:α} (hi:i=n) (h:l[n]? = some x):Ag l i=some x:=by subst hi;simp[Ag,h]
theorem Aa1 (h:i<0\/(l.length:Int)<=i):Ag l i=none:=by
 unfold Ag;split
 .rw[Lq];omega
 .rfl
theorem H5 (hi:i=n) (x:α):Cu l i x=l.set n x:=by subst hi;simp[Cu]
theorem D2 {b:Nat} {xs ys:List α} (h:(xs.length+ys.length)*b<=140737488355328):Cd b xs ys=some (xs++ys):=by simp[Cd,h]
theorem Nk {b:Nat} {len f:Int} {z:α} {c:Nat} (h1:len=n) (h2:f=c) (h3:n<=c) (g:b*c<=281474976710656) (h:c<=140737488355328):Gl b len f z=some (replicate n z):=by subst h1;subst h2;have a1:(0:Int)<=(n:Int):=ω;have a2:(n:Int)<=(c:Int):=ω;have a3:(c:Int)<=140737488355328:=ω;simp[Gl,a2,a3,g]
theorem Akw {b:Nat} {f:Int} {z:α} {c:Nat} (h2:f=c) (h:b*c<=281474976710656) (g:c<=140737488355328):Gl b 0 f z=some []:=by exact Nk (len:=0) (n:=0) (c:=c) rfl h2 ω h g
theorem C3 (h:a≠b):(a==b)=false:=by simpa using h
theorem Eu (h:a=b):(a==b)=true:=by simpa using h
theorem F2 (h:a≠b):(a != b)=true:=by simpa using h
theorem Gb (h:a=b):(a != b)=false:=by simpa using h
theorem As [Decidable p] (h:p):decide p=true:=decide_eq_true h
theorem A5 [Decidable p] (h:¬p):decide p=false:=decide_eq_false h
theorem Xk {hi:Int} (h:hi=n) (b:n<=l.length):F5 l 0 hi=some (l.take n):=by subst h;have:(n:Int)<=(l.length:Int):=ω;simp[F5,this]
theorem Pe (ha:0<=a) (hb:0<b):I0 a b=some (a % b):=by have:b≠0:=ω;simp[I0,this,Int.tmod_eq_emod_of_nonneg ha]
theorem Qi (ha:0<=a) (c:a<=18446744073709551615) (hb:0<b):H4 .u64 a b=some (a / b):=by have:b≠0:=ω;have h1:0<=a / b:=Int.ediv_nonneg ha ω;have h2:a / b<=a:=Int.ediv_le_self _ ha;simp[H4,this,Int.tdiv_eq_ediv_of_nonneg ha];exact F1 h1 ω
theorem Ar7 (ha:0<=a) (c:a<=4294967295) (hb:0<b):H4 .u32 a b=some (a / b):=by have:b≠0:=ω;have h1:0<=a / b:=Int.ediv_nonneg ha ω;have h2:a / b<=a:=Int.ediv_le_self _ ha;simp[H4,this,Int.tdiv_eq_ediv_of_nonneg ha];exact Jo h1 ω
def Au:List Int->Int
 | []=>0
 | d::l=>d+1000000000*Au l
def Cv (l:List Int):Prop:=∀d∈l,0<=d/\d<1000000000
def Qj (l:List Int):Prop:=∀d∈l,0<=d/\d<4294967296
def Can (l:List Int):Prop:=Cv l/\∀h:l≠[],l.getLast h≠0
def Al (n:Nat):List Int:=if h:n=0 then [] else ((n % 1000000000:Nat):Int)::Al (n / 1000000000)
termination_by n
decreasing_by exact Nat.div_lt_self ω δ
theorem Jg:Al 0 = []:=by rw[Al];simp
theorem Pf (h:n≠0):Al n=((n % 1000000000:Nat):Int)::Al (n / 1000000000):=by rw[Al];simp[h]
theorem Cv.nil:Cv []:=λ_ h=>by cases h
variable {d:Int} {l:List Int} {i n:Nat}
theorem Cv.append {m:List Int} (h:Cv l) (h':Cv m):Cv (l++m):=by
 intro d hd;rcases Ej.1 hd with hd|hd
 .exact h d hd
 .exact h' d hd
theorem Cv.one (h:0<=d) (h':d<1000000000):Cv [d]:=by intro x hx;simp at hx;subst hx;exact⟨h,h'⟩
theorem Cv.snoc (h:Cv l) (hd:0<=d) (b:d<1000000000):Cv (l++[d]):=h.append (Cv.one hd b)
theorem Cv.take (h:Cv l) (k:Nat):Cv (l.take k):=λd hd=>h d (mem_of_mem_take hd)
theorem Cv.drop (h:Cv l) (k:Nat):Cv (l.drop k):=λd hd=>h d (mem_of_mem_drop hd)
theorem Cv.get (h:Cv l) (hi:i<l.length):0<=l[i]/\l[i]<1000000000:=h _ (getElem_mem hi)
theorem Cv.set (h:Cv l) (i:Nat) (hd:0<=d) (b:d<1000000000):Cv (l.set i d):=by
 intro x hx;rcases mem_or_eq_of_mem_set hx with hx|rfl
 .exact h x hx
 .exact⟨hd,b⟩
theorem Cv.replicate (n:Nat):Cv (replicate n 0):=by intro d hd;have:=eq_of_mem_replicate hd;subst this;decide
theorem Cv.tail (h:Cv (d::l)):Cv l:=λx hx=>h x (by simp[hx])
theorem Cv.u32 (h:Cv l):Qj l:=λd hd=>by have:=h d hd;omega
theorem Ar8 (l m:List Int):Au (l++m)=Au l+1000000000 ^ l.length*Au m:=by induction l with| nil=>simp[Au]| cons d l ih=>simp only[D9,Au,ih,D6,Int.pow_succ];grind
theorem Qk (l:List Int) (d:Int):Au (l++[d])=Au l+1000000000 ^ l.length*d:=by rw[Ar8];simp[Au]
theorem I1 (l:List Int) {k:Nat} (h:k<l.length):Au (l.take (k+1))=Au (l.take k)+1000000000 ^ k*l[k]:=by rw[take_succ_eq_append_getElem h,Qk];simp[Nat.min_eq_left (Nat.le_of_lt h)]
theorem Ar9 (n:Nat):Au (replicate n 0)=0:=by induction n with| zero=>rfl| succ n ih=>simp[replicate_succ,Au,ih]
theorem Pg (l:List Int) (k:Nat) (h:k<=l.length):Au l=Au (l.take k)+1000000000 ^ k*Au (l.drop k):=by have e:=Ar8 (l.take k) (l.drop k);rw[take_append_drop]at e;rw[e,length_take,Nat.min_eq_left h]
theorem Sg (l:List Int) (h:i<l.length) (d:Int):Au (l.set i d)=Au l+1000000000 ^ i*(d-l[i]):=by
 induction l generalizing i with
 | nil=>simp at h
 | cons x l ih=>cases i with| zero=>simp[Au];omega| succ i=>have hi:i<l.length:=(by simpa using h);simp only[set_cons_succ,Au,ih hi,getElem_cons_succ,Int.pow_succ];grind
theorem I2 (h:Qj l):0<=Au l:=by induction l with| nil=>simp[Au]| cons d l ih=>have h1:=h d ψ;have h2:=ih (λx hx=>h x (by simp[hx]));simp only[Au];omega
theorem Mi (n:Nat):(0:Int)<1000000000 ^ n:=Int.pow_pos δ
theorem L5 (h:Cv l):Au l<1000000000 ^ l.length:=by induction l with| nil=>simp[Au]| cons d l ih=>have h1:=h d ψ;have h2:=ih h.tail;simp only[Au,D6,Int.pow_succ];omega
theorem Ij (n:Nat):Au (Al n)=n:=by
 induction n using Nat.strongRecOn with
 | _ n ih=>
  by_cases h:n=0
  .subst h;rw[Jg];rfl
  .rw[Pf h,Au,ih (n / 1000000000) (Nat.div_lt_self ω δ)];omega
theorem Ik (n:Nat):Cv (Al n):=by
 induction n using Nat.strongRecOn with
 | _ n ih=>
  by_cases h:n=0
  .subst h;rw[Jg];exact Cv.nil
  .rw[Pf h];intro d hd;simp at hd;rcases hd with rfl|hd
   .omega
   .exact ih (n / 1000000000) (Nat.div_lt_self ω δ) d hd
theorem Mj (h:n≠0):Al n≠[]:=by rw[Pf h];simp
theorem A4f (n:Nat):Can (Al n):=by
 refine⟨Ik n,?_⟩;induction n using Nat.strongRecOn with
 | _ n ih=>
  intro b;have h:n≠0:=λe=>b (by rw[e];exact Jg);have hc:=Pf h;by_cases h2:n / 1000000000=0
  .have c:Al n = [((n % 1000000000:Nat):Int)]:=(by rw[hc,h2,Jg]);simp only[c,getLast_singleton];omega
  .have:=ih (n / 1000000000) (Nat.div_lt_self ω δ) (Mj h2);simp only[hc];rwa [getLast_cons (Mj h2)]
theorem A4g (h:Can l):Al (Au l).toNat=l:=by induction l with| nil=>exact Jg| cons d l ih=>obtain⟨h1,h2⟩:=h;have hd:=h1 d ψ;have f:Can l:=(by refine⟨h1.tail,λb=>?_⟩;have:=h2 ψ;rwa [getLast_cons b]at this);have hv:=I2 (h1.tail).u32;have b:(Au (d::l)).toNat≠0:=(by intro e;simp only[Au]at e;have c:d=0:=ω;have hv:Au l=0:=ω;have:l = []:=(by rw[<-ih f,hv];exact Jg);subst this;exact h2 ψ (by simpa using c));rw[Pf b];simp only[Au];have i:((d+1000000000*Au l).toNat % 1000000000:Nat)=d.toNat:=ω;have g:(d+1000000000*Au l).toNat / 1000000000=(Au l).toNat:=ω;rw[i,g,ih f];congr 1;omega
theorem Akx (h:Can l) (hv:Au l=n):l=Al n:=by rw[<-A4g h,hv];rfl
def Kq:List Int->List Int
 | []=>[]
 | d::l=>match Kq l with
  | []=>if d=0 then [] else [d]
  | x::m=>d::x::m
theorem A4h (l:List Int):Kq (l++[0])=Kq l:=by induction l with| nil=>rfl| cons d l ih=>simp only[D9,Kq,ih]
theorem A4i (h:d≠0):Kq (l++[d])=l++[d]:=by
 induction l with
 | nil=>simp[Kq,h]
 | cons x l ih=>simp only[D9,Kq,ih];cases l with| nil=>rfl| cons y l=>rfl
theorem A4j (h:Cv l):Can (Kq l)/\Au (Kq l)=Au l:=by
 induction l with
 | nil=>exact⟨⟨Cv.nil,λh=>(h rfl).elim⟩,rfl⟩
 | cons d l ih=>
  obtain⟨⟨i1,i2⟩,i3⟩:=ih h.tail;have hd:=h d ψ;simp only[Kq];cases ht:Kq l with
  | nil=>
   rw[ht]at i3;simp only[Au]at i3;simp only[];by_cases b:d=0
   .rw[Av b];refine⟨⟨Cv.nil,λh=>(h rfl).elim⟩,?_⟩;simp only[Au];rw[<-i3];omega
   .rw[Ar b];refine⟨⟨Cv.one hd.1 hd.2,λ_=>by simpa using b⟩,?_⟩;simp only[Au];rw[<-i3]
  | cons x m=>
   rw[ht]at i1 i2 i3;simp only[];refine⟨⟨?_,λ_=>?_⟩,?_⟩
   .intro y hy;rcases Gi.1 hy with rfl|hy
    .exact hd
    .exact i1 y hy
   .rw[getLast_cons ψ];exact i2 ψ
   .simp only[Au]at i3 ⊢;rw[i3]
theorem Uz (h:Cv l) (hv:Au l=n):Kq l=Al n:=by obtain⟨h1,h2⟩:=A4j h;exact Akx h1 (h2.trans hv)
variable {j k m n:Nat} {E R S α:Type} {J:E->Option R} {l:List α} {r rf rt:R} {s0:S} {x:α} {p:α×Nat->Bool}
def Ck (n:Nat):Nat:=(Al n).length
theorem Aa2:Ck 0=0:=by simp[Ck,Jg]
theorem Ql (n:Nat):n<1000000000 ^ Ck n:=by have:=L5 (Ik n);rw[Ij]at this;have e:((1000000000 ^ Ck n:Nat):Int)=1000000000 ^ Ck n:=ψ;unfold Ck at *;omega
theorem Kz (h:n<1000000000 ^ k):Ck n<=k:=by
 induction k generalizing n with
 | zero=>simp at h;subst h;simp[Aa2]
 | succ k ih=>
  by_cases h0:n=0
  .subst h0;simp[Aa2]
  .unfold Ck;rw[Pf h0,D6];have:n / 1000000000<1000000000 ^ k:=(by rw[Nat.div_lt_iff_lt_mul δ];rwa [Nat.pow_succ]at h);have:=ih this;unfold Ck at this;omega
theorem Mk (h:m<=n):Ck m<=Ck n:=Kz (Nat.lt_of_le_of_lt h (Ql n))
theorem Asa (h:k<Ck n):1000000000 ^ k<=n:=by
 rcases Cj n (1000000000 ^ k) with h'|h'
 .have:=Kz h';omega
 .exact h'
theorem Aft (m n:Nat):Ck (m+n)<=max (Ck m) (Ck n)+1:=by apply Kz;have h1:=Ql m;have h2:=Ql n;have h3:1000000000 ^ Ck m<=1000000000 ^ max (Ck m) (Ck n):=Nat.pow_le_pow_right δ (Nat.le_max_left _ _);have b:1000000000 ^ Ck n<=1000000000 ^ max (Ck m) (Ck n):=Nat.pow_le_pow_right δ (Nat.le_max_right _ _);rw[Nat.pow_succ];omega
theorem Jp (m n:Nat):Ck (m*n)<=Ck m+Ck n:=by apply Kz;rw[Nat.pow_add];exact Nat.mul_lt_mul_of_lt_of_le (Ql m) (Nat.le_of_lt (Ql n)) (Nat.pow_pos δ)
theorem Asb (m n:Nat):Ck (m / n)<=Ck m:=Mk (Nat.div_le_self _ _)
theorem Asd (h:Ck m<Ck n):m<n:=Nat.lt_of_lt_of_le (Ql m) (Asa h)
theorem Ase {l m:List Int} (g:Cv l) (hk:k<l.length) (b:k<m.length) (f:Cv m) (hd:l.drop (k+1)=m.drop (k+1)) (c:l[k]<m[k]):Au l<Au m:=by have j:=Pg l (k+1) hk;have i:=Pg m (k+1) b;rw[I1 l hk]at j;rw[I1 m b,<-hd]at i;have h3:=L5 (g.take k);have q:=I2 ((f.take k).u32);rw[length_take,Nat.min_eq_left (Nat.le_of_lt hk)]at h3;have h:1000000000 ^ k*(l[k]+1)<=1000000000 ^ k*m[k]:=Int.mul_le_mul_of_nonneg_left c (Int.le_of_lt (Mi k));rw[Int.mul_add]at h;omega
theorem K1 {step:S->Option (S⊕E)} (n:Nat) (b:Nat->S) (h0:s0=b 0) (c:∀j,j<n->step (b j)=some (.inl (b (j+1)))) (f:∃e,step (b n)=some (.inr e)/\J e=some r):(Ak step s0).bind J=some r:=by
 have key:∀m,m<=n->Ak step (b 0)=Ak step (b m):=by intro m;induction m with| zero=>intro _;rfl| succ m ih=>intro h;rw[ih ω,Lh (c m ω)]
 obtain⟨e,h1,h2⟩:=f;rw[h0,key n (Nat.le_refl _),Gf h1];exact h2
theorem C5 (h:j<n) (b:n<4611686018427387904):Ac ((j:Int)+1)=((j+1:Nat):Int):=by rw[Ac,Cl] <;> omega
theorem Asf (h:l.zipIdx.all p=false):∃j x,l[j]? = some x/\p (x,j)=false/\∀i y,i<j->l[i]? = some y->p (y,i)=true:=by
 have key:∀(n:Nat),(∀i y,i<n->l[i]? = some y->p (y,i)=true)\/∃j x,j<n/\l[j]? = some x/\p (x,j)=false/\∀i y,i<j->l[i]? = some y->p (y,i)=true:=by
  intro n;induction n with
  | zero=>exact .inl (λi y h=>ω)
  | succ n ih=>
   rcases ih with ih|⟨j,x,h1,h2,h3,b⟩
   .cases hx:l[n]? with
    | none=>exact .inl (λi y hi hy=>by
      rcases Cj i n with h|h
      .exact ih i y h hy
      .have:i=n:=ω
       subst this;rw[hx]at hy;cases hy)
    | some x=>
     cases hp:p (x,n) with
     | true=>exact .inl (λi y hi hy=>by
       rcases Cj i n with h|h
       .exact ih i y h hy
       .have:i=n:=ω
        subst this;rw[hx]at hy;cases hy;exact hp)
     | false=>exact .inr ⟨n,x,ω,hx,hp,ih⟩
   .exact .inr ⟨j,x,ω,h2,h3,b⟩
 rcases key l.length with hk|⟨j,x,h1,h2,h3,b⟩
 .exfalso;have:l.zipIdx.all p=true:=by
   rw[G7];rintro⟨y,i⟩ hy;have:=mk_mem_zipIdx_iff_getElem?.1 hy;have hi:i<l.length:=by
    rcases Cj i l.length with h|h
    .exact h
    .rw[Lq h]at this;cases this
   exact hk i y hi this
  rw[this]at h;cases h
 .exact⟨j,x,h2,h3,b⟩
theorem Is (h:l.zipIdx.all p=true) (hx:l[j]? = some x):p (x,j)=true := G7.1 h _ (mk_mem_zipIdx_iff_getElem?.2 hx)
theorem Aky (h:∀j x,l[j]? = some x->p (x,j)=true):l.zipIdx.all p=true:=by rw[G7];rintro⟨y,i⟩ hy;exact h i y (mk_mem_zipIdx_iff_getElem?.1 hy)
theorem Aa3 {step:S->Option (S⊕E)} (l:List α) (p:α×Nat->Bool) (b:Nat->S) (h0:s0=b 0) (g:l.length<4611686018427387904) (f:∀(j:Nat) (x:α),l[j]? = some x->(∀i y,i<j->l[i]? = some y->p (y,i)=true)->decide ((j:Int)<(l.length:Int))=true->Ag l (j:Int)=some x->Ac ((j:Int)+1)=((j+1:Nat):Int) -> (p (x,j)=true->step (b j)=some (.inl (b (j+1))))/\(p (x,j)=false->∃e,step (b j)=some (.inr e)/\J e=some rf)) (q:decide ((l.length:Int)<(l.length:Int))=false->l.zipIdx.all p=true->∃e,step (b l.length)=some (.inr e)/\J e=some rt):(Ak step s0).bind J=some (bif l.zipIdx.all p then rt else rf):=by
 have c:∀(j:Nat) (x:α),l[j]? = some x->(∀i y,i<j->l[i]? = some y->p (y,i)=true)->_:=λj x hx hy=>
  have hj:j<l.length:=by
   rcases Cj j l.length with h|h
   .exact h
   .rw[Lq h]at hx;cases hx
  f j x hx hy (As ω) (Br rfl hx) (C5 hj g)
 cases hb:l.zipIdx.all p with
 | true=>refine K1 l.length b h0 (λj hj=>?_) (q ψ hb);have hx:l[j]? = some l[j]:=Bs hj;exact (c j _ hx (λi y _ hy=>Is hb hy)).1 (Is hb hx)
 | false=>
  obtain⟨j,x,h1,h2,h3⟩:=Asf hb;refine K1 j b h0 (λi hi=>?_) ((c j x h1 h3).2 h2);have hj:j<l.length:=by
   rcases Cj j l.length with h|h
   .exact h
   .rw[Lq h]at h1;cases h1
  have hx:l[i]? = some l[i]:=Bs ω;exact (c i _ hx (λk y hk hy=>h3 k y ω hy)).1 (h3 i _ hi hx)
theorem Afu (l:List α) (p:α->Bool):l.zipIdx.all (λq=>p q.1)=l.all p:=by
 cases h:l.all p with
 | true=>exact Aky λj x hx=>G7.1 h _ (Bu hx)
 | false=>cases h':l.zipIdx.all (λq=>p q.1) with| false=>rfl| true=>rw[<-h];symm;rw[G7];intro x hx;obtain⟨j,hj⟩:=Hi hx;exact Is h' hj
theorem Aa4 {step:S->Option (S⊕E)} (l:List α) (p:α->Bool) (b:Nat->S) (h0:s0=b 0) (f:l.length<4611686018427387904) (c:∀(j:Nat) (x:α),l[j]? = some x->decide ((j:Int)<(l.length:Int))=true->Ag l (j:Int)=some x->Ac ((j:Int)+1)=((j+1:Nat):Int) -> (p x=true->step (b j)=some (.inl (b (j+1))))/\(p x=false->∃e,step (b j)=some (.inr e)/\J e=some rf)) (g:decide ((l.length:Int)<(l.length:Int))=false->∃e,step (b l.length)=some (.inr e)/\J e=some rt):(Ak step s0).bind J=some (bif l.all p then rt else rf):=by rw[<-Afu l p];exact Aa3 l (λq=>p q.1) b h0 f (λj x hx _=>c j x hx) (λh _=>g h)
theorem F6 {step:S->Option (S⊕E)} (l:List α) (b:Nat->S) (h0:s0=b 0) (f:l.length<4611686018427387904) (c:∀(j:Nat) (x:α),j<l.length->l[j]? = some x->decide ((j:Int)<(l.length:Int))=true->Ag l (j:Int)=some x->Ac ((j:Int)+1)=((j+1:Nat):Int)->step (b j)=some (.inl (b (j+1)))) (g:decide ((l.length:Int)<(l.length:Int))=false->∃e,step (b l.length)=some (.inr e)/\J e=some r):(Ak step s0).bind J=some r:=by refine K1 l.length b h0 (λj hj=>?_) (g ψ);have hx:l[j]? = some l[j]:=Bs hj;exact c j _ hj hx (As ω) (Br rfl hx) (C5 hj f)
theorem C4 (h:l[j]? = some x):l.take (j+1)=l.take j++[x]:=by rw[take_add_one,h];rfl
theorem Eg (h:l[j]? = some x):j<l.length:=by
 rcases Cj j l.length with h'|h'
 .exact h'
 .rw[Lq h']at h;cases h
theorem Afv (b:Bool):(bif b then true else false)=b:=by cases b <;> rfl
theorem A4k (b:Bool):(bif b then false else true) = !b:=by cases b <;> rfl
theorem Asg {A:Type} {X:Option A} {f:A->Option R} {y:R} {Q:A->Prop} (h:∃r,X=some r/\Q r) (hf:∀r,Q r->f r=some y):X.bind f=some y:=by obtain⟨r,h1,h2⟩:=h;rw[h1];exact hf r h2
theorem Akz (l:List α) (p:α->Bool) {step:Int->Option (Int⊕(Int⊕Unit))} {J:Int⊕Unit->Option Int} (k:l.length<4611686018427387904) (g:∀(j:Nat) (x:α),x∈l->decide ((j:Int)<(l.length:Int))=true->Ag l (j:Int)=some x->Ac ((j:Int)+1)=((j+1:Nat):Int) -> step (j:Int)=bif p x then some (.inr (.inl (j:Int))) else some (.inl ((j+1:Nat):Int))) (q:decide ((l.length:Int)<(l.length:Int))=false->step (l.length:Int)=some (.inr (.inr ()))) (c:∀i,J (.inl i)=some i) (b:J (.inr ())=some (-1)):∃i,(Ak step 0).bind J=some i/\decide (i>=0)=l.any p:=by
 have key:(Ak step 0).bind (λz=>(J z).bind λi=>some (decide (i>=0)))=some (bif l.all (λx=>!p x) then false else true):=by refine Aa4 l (λx=>!p x) (λj=>(j:Int)) rfl k (λj x hx h1 h2 h3=>?_) (λh=>⟨.inr (),q h,by rw[b];rfl⟩);have h:=g j x (Bu hx) h1 h2 h3;simp only[h];cases p x with| true=>exact⟨nofun,λ_=>⟨.inl (j:Int),rfl,by simp only[c,Ad];rw[As ω]⟩⟩| false=>exact⟨λ_=>rfl,λh=>by cases h⟩
 have e:l.any p=(bif l.all (λx=>!p x) then false else true):=by rw[A4k,not_all_eq_any_not];simp
 rw[e];cases f:Ak step 0 with
 | none=>rw[f]at key;cases key
 | some z=>rw[f,Ad]at key;rw[Ad];cases hi:J z with| none=>rw[hi]at key;cases key| some i=>rw[hi,Ad]at key;exact⟨i,rfl,Fp key⟩
theorem Ak0 {M:Type} {step:S->Option (S⊕E)} (l:List α) (p:α×Nat->Bool) (b:Nat->M->S) (I:M->Prop) (u z:R->Prop) (m0:M) (h0:s0=b 0 m0) (g:I m0) (B:l.length<4611686018427387904) (A:∀(j:Nat) (x:α) (m:M),I m->l[j]? = some x->(∀i y,i<j->l[i]? = some y->p (y,i)=true)->decide ((j:Int)<(l.length:Int))=true->Ag l (j:Int)=some x->Ac ((j:Int)+1)=((j+1:Nat):Int) -> (p (x,j)=true->∃f,step (b j m)=some (.inl (b (j+1) f))/\I f)/\(p (x,j)=false->∃e,step (b j m)=some (.inr e)/\∃r,J e=some r/\z r)) (D:∀m,I m->decide ((l.length:Int)<(l.length:Int))=false->l.zipIdx.all p=true->∃e,step (b l.length m)=some (.inr e)/\∃r,J e=some r/\u r) : ∃r,(Ak step s0).bind J=some r/\((l.zipIdx.all p=true/\u r)\/(l.zipIdx.all p=false/\z r)):=by
 have c:∀(j:Nat) (x:α) (m:M),I m->l[j]? = some x->(∀i y,i<j->l[i]? = some y->p (y,i)=true)->_:=λj x m G hx hy=>
  have hj:j<l.length:=Eg hx
  A j x m G hx hy (As ω) (Br rfl hx) (C5 hj B)
 have key:∀n,n<=l.length->(∀i y,i<n->l[i]? = some y->p (y,i)=true)->∃m,I m/\Ak step s0=Ak step (b n m):=by intro n;induction n with| zero=>intro _ _;exact⟨m0,g,by rw[h0]⟩| succ n ih=>intro N hy;obtain⟨m,h1,h2⟩:=ih ω (λi y hi=>hy i y ω);have hx:l[n]? = some l[n]:=Bs ω;obtain⟨f,h3,h⟩:=(c n _ m h1 hx (λi y hi=>hy i y ω)).1 (hy n _ ω hx);exact⟨f,h,by rw[h2,Lh h3]⟩
 cases hb:l.zipIdx.all p with| true=>obtain⟨m,h1,h2⟩:=key l.length (Nat.le_refl _) (λi y _ hy=>Is hb hy);obtain⟨e,s,r,q,k⟩:=D m h1 ψ hb;exact⟨r,by rw[h2,Gf s];exact q,.inl ⟨rfl,k⟩⟩| false=>obtain⟨j,x,h1,h2,h3⟩:=Asf hb;obtain⟨m,h,L⟩:=key j (Nat.le_of_lt (Eg h1)) h3;obtain⟨e,s,r,q,k⟩:=(c j x m h h1 h3).2 h2;exact⟨r,by rw[L,Gf s];exact q,.inr ⟨rfl,k⟩⟩
mutual
def B3:Af->Nat
 | ⟨_,_,l⟩=>1+Ds l
def Ds:List Af->Nat
 | []=>0
 | x::xs=>B3 x+Ds xs
end
theorem J0 (t:Af):B3 t=1+Ds t.R:=by cases t;simp only[B3]
theorem U1 (t:Af):1<=B3 t:=by rw[J0];omega
theorem Kc {l:List Af} {a:Af} (h:a∈l):B3 a<=Ds l:=by
 induction l with
 | nil=>cases h
 | cons x xs ih=>
  simp only[Ds];rcases Gi.1 h with rfl|h
  .omega
  .have:=ih h;omega
theorem Lr (l:List Af):l.length<=Ds l:=by induction l with| nil=>simp| cons x xs ih=>simp only[Ds,D6];have:=U1 x;omega
theorem Afw (l m:List Af):Ds (l++m)=Ds l+Ds m:=by induction l with| nil=>simp[Ds]| cons x xs ih=>simp only[D9,Ds,ih];omega
def Lt (data:List Ai) (vars k n:Int) (len:Nat):Bool := if k=1\/k=2\/k=3 then n==0&&len==0 else if k=4 then decide (0<=n)&&decide (n<vars)&&len==0 else if k=5 then decide (0<=n)&&(match data[n.toNat]? with|some d=>(len:Int)==d.V|none=>false) else if k=6 then n==0&&decide (2<=len)&&decide (len<=6) else if k=7\/k=8 then n==0&&len==1 else if k=9 then n==0&&decide (1<=len)&&decide (len<=7) else false
mutual
def Fb (data:List Ai) (vars:Int):Af->Bool
 | ⟨k,n,l⟩=>Lt data vars k n l.length&&Gj data vars l
def Gj (data:List Ai) (vars:Int):List Af->Bool
 | []=>true
 | x::xs=>Fb data vars x&&Gj data vars xs
end
variable {i:Int} {l:List Af} {j:Nat} {R α:Type}
theorem Aa5 (data:List Ai) (vars:Int) (t:Af):Fb data vars t=(Lt data vars t.G t.U t.R.length&&Gj data vars t.R):=by cases t;simp only[Fb]
theorem Ash (l:List α) (n:Nat):((l.length:Int)==(n:Int))=(l.length==n):=by
 by_cases h:l.length=n
 .subst h;simp
 .rw[C3 ω];simp[h]
theorem A4l (k:Nat) (t:Af) (data:List Ai) (vars left:Int) (h1:1<=left) (h2:left<=1000) : N8 (k+1) t ⟨data,vars,left⟩=bif Lt data vars t.G t.U t.R.length then ((Xd k t.R ⟨data,vars,left-1⟩).bind λv12=>some ((!v12.1),v12.2)) else some (false,⟨data,vars,left-1⟩):=by have hw:Ac (left-1)=left-1:=Cl ω ω;have b:¬left-1<0:=ω;rw[N8];simp only[hw,A5 b,Aq];generalize g:(Xd k t.R ⟨data,vars,left-1⟩).bind (λv12=>some ((!v12.1),v12.2))=X;generalize f:(some (false,⟨data,vars,left-1⟩):Option (Bool×Ht))=Y;unfold Lt Ag;generalize t.R.length=len;generalize t.G=c;generalize t.U=n;cases hd:data[n.toNat]? <;> simp only[Bool.cond_eq_ite,A4e,Ad,Option.bind_none,hd] <;> grind
theorem Ak1 (h:j<l.length):Ds (l.take (j+1))=Ds (l.take j)+B3 l[j]:=by rw[take_succ_eq_append_getElem h,Afw];simp[Ds]
theorem Asi (data:List Ai) (vars:Int) (l m:List Af):Gj data vars (l++m)=(Gj data vars l&&Gj data vars m):=by induction l with| nil=>simp[Gj]| cons x xs ih=>simp only[D9,Gj,ih,Bool.and_assoc]
theorem Asj (data:List Ai) (vars:Int) (h:j<l.length):Gj data vars (l.take (j+1))=(Gj data vars (l.take j)&&Fb data vars l[j]):=by rw[take_succ_eq_append_getElem h,Asi];simp[Gj]
theorem Ak2 (l:List Af) (j:Nat):Ds (l.take j)<=Ds l:=by have:=Afw (l.take j) (l.drop j);rw[take_append_drop]at this;omega
theorem A4m (data:List Ai) (vars:Int) (l:List Af) (j:Nat) (h:Gj data vars l=true):Gj data vars (l.take j)=true:=by have:=Asi data vars (l.take j) (l.drop j);rw[take_append_drop,h]at this;have:=this.symm;simp only[Ct]at this;exact this.1
theorem A4n (data:List Ai) (vars:Int) (k:Nat) (l:List Af) (c:Nat) (G:l.length<1099511627776) (ih:∀(a:Af),a∈l->∀f:Nat,f<=c->∃g:Int,N8 k a ⟨data,vars,f⟩=some (Fb data vars a&&decide (B3 a<=f),⟨data,vars,g⟩)/\((Fb data vars a&&decide (B3 a<=f))=true->g=(f:Int)-B3 a)) : ∃p:Int×Int,Aat (k+2) l ⟨data,vars,c⟩=some (p.1,⟨data,vars,p.2⟩)/\((Gj data vars l&&decide (Ds l<=c))=true->p.1 = -1/\p.2=(c:Int)-Ds l)/\((Gj data vars l&&decide (Ds l<=c))=false->0<=p.1):=by
 rw[Aat];refine Aa0 (λp:Int×Int=>(p.1,Ht.mk data vars p.2)) (Et (λ(v3,v4,v5,s)=>∃j:Nat,v3=j/\j<=l.length/\v4=data/\v5=vars/\Gj data vars (l.take j)=true/\Ds (l.take j)<=c/\s=(c:Int)-Ds (l.take j)) (λ(v3,_,_,_)=>l.length-v3.toNat) (λz=>match z with|.inl (i,b)=>0<=i/\(∃g,b=⟨data,vars,g⟩)/\(Gj data vars l&&decide (Ds l<=c))=false | .inr (v4,v5,s)=>v4=data/\v5=vars/\(Gj data vars l&&decide (Ds l<=c))=true/\s=(c:Int)-Ds l) ⟨0,rfl,ω,rfl,rfl,rfl,by simp[Ds],by simp[Ds]⟩ ?_ ?_)
 .rintro⟨v3,v4,v5,s⟩ ⟨j,rfl,hj,rfl,rfl,x,A,rfl⟩;rcases Cj j l.length with h|h
  .obtain⟨u,y⟩:∃u:Nat,(c:Int)-Ds (l.take j)=u/\u<=c:=⟨c-Ds (l.take j),ω,ω⟩;obtain⟨g,E,D⟩:=ih l[j] (getElem_mem h) u y.2;simp only[As (ω:(j:Int)<(l.length:Int)),Am,Hv rfl h,Ad,Zv,y.1,E];cases hb:(Fb v4 v5 l[j]&&decide (B3 l[j]<=u)) with
   | true=>
    have I:=D hb;simp only[Ct,Du]at hb;refine .inl ⟨(((j+1:Nat):Int),v4,v5,g),?_,⟨j+1,rfl,ω,rfl,rfl,?_,?_,?_⟩,ζ⟩
    .simp only[bnt,Aq];rw[show Ac ((j:Int)+1)=((j+1:Nat):Int) by rw[Ac,Cl] <;> omega]
    .rw[Asj _ _ h,x,hb.1];rfl
    .rw[Ak1 h];omega
    .show g=_;rw[Ak1 h];omega
   | false=>refine .inr ⟨.inl ((j:Int),⟨v4,v5,g⟩),ψ,ω,⟨g,rfl⟩,?_⟩;cases q:(Gj v4 v5 l&&decide (Ds l<=c)) with| false=>rfl| true=>exfalso;simp only[Ct,Du]at q;have a1:=A4m v4 v5 l (j+1) q.1;rw[Asj _ _ h]at a1;simp only[Ct]at a1;have a2:=Ak2 l (j+1);rw[Ak1 h]at a2;rw[a1.2,Bool.true_and,decide_eq_false_iff_not]at hb;omega
  .have:j=l.length:=ω;subst this;rw[Db]at *;refine .inr ⟨.inr (v4,v5,(c:Int)-Ds l),ψ,rfl,rfl,by simp[x,A],rfl⟩
 .rintro (⟨i,b⟩|⟨v4,v5,s⟩) B
  .obtain⟨a1,⟨g,rfl⟩,a3⟩:=B;exact⟨_,rfl,(i,g),rfl,(λh=>by rw[a3]at h;cases h),λ_=>a1⟩
  .obtain⟨rfl,rfl,a3,rfl⟩:=B;exact⟨_,rfl,(-1,_),rfl,λ_=>⟨rfl,rfl⟩,λh=>by rw[a3]at h;cases h⟩
theorem A4o (data:List Ai) (vars:Int):∀(left:Nat) (t:Af) (k:Nat),left<=200->4*left+4<=k->B3 t<1099511627776 -> ∃f:Int,N8 k t ⟨data,vars,left⟩=some (Fb data vars t&&decide (B3 t<=left),⟨data,vars,f⟩)/\((Fb data vars t&&decide (B3 t<=left))=true->f=(left:Int)-B3 t):=by
 intro left;induction left using Nat.strongRecOn with
 | _ left s=>
  intro t k B hk ht;have hp:=U1 t;obtain⟨g,rfl⟩:∃g,k=g+1:=⟨k-1,ω⟩;cases left with
  | zero=>refine⟨-1,?_,λh=>by simp at h;omega⟩;rw[N8];have hd:decide (B3 t<=0)=false:=A5 ω;rw[hd,Bool.and_false];rfl
  | succ b=>
   rw[A4l g t data vars ((b+1:Nat):Int) ω ω];have z:((b+1:Nat):Int)-1=(b:Int):=ω;rw[z,Aa5];cases A:Lt data vars t.G t.U t.R.length with
   | false=>exact⟨b,ψ,λh=>by simp at h⟩
   | true=>
    obtain⟨q,rfl⟩:∃q,g=q+3:=⟨g-3,ω⟩;have j:=J0 t;have x:=Lr t.R;obtain⟨⟨i,f⟩,h1,h2,h3⟩:=A4n data vars q t.R b ω (λa ha c y=>by have:=Kc ha;exact s c ω a q ω ω ω);have l:decide (B3 t<=b+1)=decide (Ds t.R<=b):=(by rw[j];congr 1;simp only[eq_iff_iff];omega);simp only[Am,Xd,h1,Ad,Bool.true_and,l];refine⟨f,?_,λh=>?_⟩
    .cases hb:(Gj data vars t.R&&decide (Ds t.R<=b)) with| true=>have u:i = -1:=(h2 hb).1;rw[A5 (ω:¬i>=0)];rfl| false=>have u:0<=i:=h3 hb;rw[As (ω:i>=0)];rfl
    .have u:f=(b:Int)-Ds t.R:=(h2 h).2;rw[u,j];omega
theorem Xl (data:List Ai) (t:Af) (vars:Int) (ht:B3 t<1099511627776):O0 data t vars=some (Fb data vars t&&decide (B3 t<=200)):=by unfold O0;obtain⟨b,h1,_⟩:=A4o data vars 200 t 4000000 δ δ ht;have h1:N8 4000000 t ⟨data,vars,200⟩=_:=h1;rw[h1];rfl
def Sh (a:Af) (i:Int):Bool:=a.G==4&&a.U==i&&a.R.length==0
def Ask (l:List Af):Bool:=l.zipIdx.all λq=>Sh q.1 q.2
def Kr (t:Af) (d vars:Int):Bool:=t.G==5&&t.U==d&&(t.R.length:Int)==vars&&Ask t.R
def D7 (data:List Ai) (d c:Int):List Bool := match Ag data d with
 | none=>[]
 | some x=>match Ag x.O c with
  | none=>[]
  | some y=>y.R.map λt=>Kr t d x.V
theorem Hc {l:List α} {x:α} (h:Ag l i=some x):0<=i/\i<l.length/\l[i.toNat]? = some x/\x∈l:=by
 unfold Ag at h;split at h
 .have h1:i.toNat<l.length:=Eg h;exact⟨by assumption,ω,h,Bu h⟩
 .cases h
theorem Aa6 {l:List α} (h:Ag l i=none):i<0\/(l.length:Int)<=i:=by
 unfold Ag at h;split at h
 .rw[List.getElem?_eq_none_iff]at h;right;omega
 .left;omega
theorem A4p (data:List Ai) (d c:Int) (F:Ai->Qh->Option R) (z:R) (X:Option R) (f:X=((bif d<(0:Int) then some true else bif d>=(data.length:Int) then some true else bif c<(0:Int) then some true else (Ag data d).bind λb=>some (decide (c>=(b.O.length:Int))):OB).bind λv2=>bif v2 then some z else (Ag data d).bind λv3=>(Ag v3.O c).bind λv4=>F v3 v4)) : X=match Ag data d with
   | none=>some z
   | some x=>match Ag x.O c with
    | none=>some z
    | some y=>F x y:=by
 subst f;cases hx:Ag data d with
 | none=>
  rcases Aa6 hx with h|h
  .simp only[As h,Am,Ad]
  .by_cases h':d<0
   .simp only[As h',Am,Ad]
   .simp only[A5 h',As (show d>=(data.length:Int) from h),Am,Aq,Ad]
 | some x=>
  obtain⟨a1,a2,_,_⟩:=Hc hx;simp only[A5 (ω:¬d<0),A5 (ω:¬d>=(data.length:Int)),Aq,Ad];cases hy:Ag x.O c with
  | none=>
   rcases Aa6 hy with h|h
   .simp only[As h,Am,Ad]
   .by_cases h':c<0
    .simp only[As h',Am,Ad]
    .simp only[A5 h',As (show c>=(x.O.length:Int) from h),Am,Aq,Ad]
  | some y=>obtain⟨b1,b2,_,_⟩:=Hc hy;simp only[A5 (ω:¬c<0),A5 (ω:¬c>=(x.O.length:Int)),Aq,Ad]
def A4q (l:List Af):Prop:=l.length<=4194304/\∀a∈l,a.R.length<=4194304
def Ml (data:List Ai):Prop:=∀x∈data,∀y∈x.O,A4q y.R
theorem Aa7 (l m:List α) (y x:α) (i:Int) (n:Nat) (h:i=n) (b:n=l.length):Cu (l++y::m) i x=l++x::m:=by rw[H5 h];subst b;simp
theorem Aa8 (l m:List α) (y:α) (i:Int) (n:Nat) (h:i=n) (b:n=l.length):Ag (l++y::m) i=some y:=by rw[Br h];subst b;simp
theorem A4r (l:List Af) (k f:List Bool) (i:Int) (n:Nat) (b:Bool) (h:i=n) (s:n=k.length) (A:l.length<1099511627776) {J:Int×List Bool->Option R} {r:R} (z:J ((l.length:Int),k++(b&&Ask l)::f)=some r) : (Ak (S:=(Int×List Bool)) (E:=(Int×List Bool)) (λ(c,g)=> bif c<(l.length:Int) then ((Ag l c).bind λv44=> bif (v44.G != (4:Int)) then ((Ag g i).bind λv46=> some (.inl ((Ac (c+1)),(Cu g i false)))) else (bif (v44.U != c) then ((Ag g i).bind λy=> some (.inl ((Ac (c+1)),(Cu g i false)))) else (bif (v44.R.length:Int)>(0:Int) then ((Ag g i).bind λu=> some (.inl ((Ac (c+1)),(Cu g i false)))) else (some (.inl ((Ac (c+1)),g)))))) else (some (.inr (c,g)))) (0,k++b::f)).bind J=some r:=by
 refine F6 l (λj=>((j:Int),k++(b&&(l.take j).zipIdx.all (λq=>Sh q.1 q.2))::f)) ψ ω ?_ ?_
 .intro j x hj hx h1 h2 h3;have e:(l.take (j+1)).zipIdx.all (λq=>Sh q.1 q.2)=((l.take j).zipIdx.all (λq=>Sh q.1 q.2)&&Sh x j):=(by rw[C4 hx,zipIdx_append,all_append];simp[Nat.min_eq_left (Nat.le_of_lt hj)]);simp only[h1,h2,h3,Am,Ad,Aa8 k f _ i n h s,Aa7 k f _ _ i n h s,e];unfold Sh;by_cases g1:x.G=4
  .by_cases g2:x.U=j
   .by_cases g3:x.R.length=0
    .rw[A5 ω];simp[g1,g2,g3]
    .rw[As ω];have:(x.R.length==0)=false:=(by simpa using g3);simp[g1,g2,this]
   .simp[g1,g2,F2 g2]
  .simp[g1,F2 g1]
 .intro h1;refine⟨_,by simp only[h1];rfl,?_⟩;rw[Db];exact z
theorem Xm (data:List Ai) (d c:Int) (hd:Ml data):O7 data d c=some (D7 data d c):=by
 unfold O7;rw[A4p data d c (λv3 v4=>_) [] _ rfl];unfold D7;cases hx:Ag data d with
 | none=>rfl
 | some x=>
  cases hy:Ag x.O c with
  | none=>simp only[hy]
  | some y=>
   simp only[hy];have f:=hd x (Hc hx).2.2.2 y (Hc hy).2.2.2;have g:=f.1;rw[Nk (n:=y.R.length) (c:=y.R.length) rfl rfl ω ω ω,Ad];refine F6 y.R (λj=>((j:Int),((y.R.take j).map λt=>Kr t d x.V)++replicate (y.R.length-j) false)) rfl ω ?_ ?_
   .intro j t hj ht h1 h2 h3;obtain⟨m,h⟩:∃m,y.R.length-j=m+1:=⟨y.R.length-j-1,ω⟩;have i:y.R.length-(j+1)=m:=ω;have b:j=((y.R.take j).map λt=>Kr t d x.V).length:=ζ;simp only[h1,h2,Am,Ad,h,i,replicate_succ,C4 ht,map_append,map_cons,map_nil,append_assoc,D9,nil_append, Aa8 _ _ _ (j:Int) j rfl b,Aa7 _ _ _ _ (j:Int) j rfl b];have hb:(bif t.G==5 then bif t.U==d then some (map (λt=>Kr t d x.V) (take j y.R)++((t.R.length:Int)==x.V)::replicate m false)
       else some (map (λt=>Kr t d x.V) (take j y.R)++false::replicate m false) else some (map (λt=>Kr t d x.V) (take j y.R)++false::replicate m false))=some (map (λt=>Kr t d x.V) (take j y.R)++(t.G==5&&t.U==d&&((t.R.length:Int)==x.V))::replicate m false):=by cases t.G==5 <;> cases t.U==d <;> simp
    rw[hb,Ad];refine A4r t.R _ _ (j:Int) j _ rfl b (by have:=f.2 t (Bu ht);omega) ?_;rw[h3];rfl
   .intro h1;exact⟨_,by simp only[h1];rfl,ψ⟩
mutual
def mnt (d:Int):Af->Bool
 | ⟨k,n,l⟩=>(k==5&&n==d)||Qm d l
def Qm (d:Int):List Af->Bool
 | []=>false
 | x::xs=>mnt d x||Qm d xs
end
theorem A4s (d:Int) (t:Af):mnt d t=((t.G==5&&t.U==d)||Qm d t.R):=by cases t;simp only[mnt]
theorem A4t (d:Int) (l:List Af):Qm d l=l.any (mnt d):=by induction l with| nil=>rfl| cons x xs ih=>simp only[Qm,ih,any_cons]
theorem A4u (d:Int):∀(n:Nat) (t:Af) (k:Nat),B3 t<=n->4*n+4<=k->n<1099511627776->Uh k t d=some (mnt d t):=by
 intro n;induction n with
 | zero=>intro t k h;have:=U1 t;omega
 | succ n ih=>intro t k h hk g;obtain⟨k,rfl⟩:∃c,k=c+4:=⟨k-4,ω⟩;have f:=J0 t;have b:=Lr t.R;have key:Xc (k+3) t.R d=some (Qm d t.R):=(by rw[Xc,Afg];rw[A4t];refine Asg (Akz t.R (mnt d) ω ?_ (λh=>by simp only[h];rfl) (λ_=>rfl) rfl) (λi hi=>by rw[hi]);intro j x hx h1 h2 h3;have l:=Kc hx;simp only[h1,h2,h3,Am,Ad,Aae,ih x k ω ω ω]);rw[Uh,key,A4s];cases t.G==5 <;> cases t.U==d <;> simp
theorem Asl (data:List Ai) (v:Int) (l:List Af):Gj data v l=l.all (Fb data v):=by induction l with| nil=>rfl| cons x xs ih=>simp only[Gj,ih,all_cons]
theorem A4v (data:List Ai) (d:Nat) (v k n:Int) (len:Nat):(Lt (data.take (d+1)) v k n len && !(k==5&&n==(d:Int)))=Lt (data.take d) v k n len:=by
 by_cases hk:k=5
 .subst hk;unfold Lt;simp only[beq_self_eq_true,Bool.true_and,getElem?_take];by_cases b:n=d
  .subst b;simp
  .by_cases h0:0<=n
   .have e:(n==(d:Int))=false:=C3 b;rcases Cj n.toNat d with h|h
    .simp[h,e,show n.toNat<d+1 by omega]
    .simp[e,show ¬n.toNat<d by omega,show ¬n.toNat<d+1 by omega]
   .simp[h0]
 .have e:(k==(5:Int))=false:=C3 hk;simp only[e,Bool.false_and,Bool.not_false,Bool.and_true,Lt,hk,if_false]
mutual
theorem Asm (data:List Ai) (d:Nat) (v:Int):∀t:Af,(Fb (data.take (d+1)) v t && !mnt d t)=Fb (data.take d) v t
 | ⟨k,n,l⟩=>by
  have h1:=Asn data d v l
  have h2:=A4v data d v k n l.length
  simp only[Fb,mnt]
  rw[<-h1,<-h2]
  cases Lt (data.take (d+1)) v k n l.length <;> cases (k==5&&n==(d:Int)) <;> cases Gj (data.take (d+1)) v l <;> simp
theorem Asn (data:List Ai) (d:Nat) (v:Int):∀l:List Af,(Gj (data.take (d+1)) v l && !Qm d l)=Gj (data.take d) v l
 | []=>by simp[Gj,Qm]
 | x::xs=>by
  have h1:=Asm data d v x
  have h2:=Asn data d v xs
  simp only[Gj,Qm]
  rw[<-h1,<-h2]
  cases Fb (data.take (d+1)) v x <;> cases mnt d x <;> cases Gj (data.take (d+1)) v xs <;> simp
end
variable {t:Af} {x:Ai} {s:ByteArray} {o:List (ByteArray×Bool)} {data:List Ai} {L:List ByteArray} {a b d:Nat} {y:Qh} {R:Type} {Q:R->Prop}
theorem Aso:∀l:List Af,(∀a∈l,a.R.length=0)->Ds l=l.length
 | [],_=>rfl
 | x::xs,h=>by have h1:=h x ψ;simp only[Ds,D6];rw[Aso xs (λa ha=>h a (by simp[ha])),J0,Gn.1 h1];simp only[Ds];omega
theorem Ak3 (hx:data[d]? = some x) (hv:x.V<=6) (h:Kr t d x.V=true):Fb (data.take (d+1)) x.V t=true/\B3 t<=200:=by
 unfold Kr at h;simp only[Ct,beq_iff_eq]at h;obtain⟨⟨⟨h1,h2⟩,h3⟩,c⟩:=h;have ha:∀a∈t.R,∃i:Nat,i<t.R.length/\a.G=4/\a.U=i/\a.R.length=0:=by intro a ha;obtain⟨i,hi⟩:=Hi ha;have:=Is c hi;simp only[Sh,Ct,beq_iff_eq]at this;exact⟨i,Eg hi,this.1.1,this.1.2,this.2⟩
 refine⟨?_,?_⟩
 .rw[Aa5,Asl,Ct];constructor
  .rw[h1,h2];unfold Lt;simp[hx,h3]
  .rw[G7];intro a b;obtain⟨i,i1,i2,i3,i4⟩:=ha a b;rw[Aa5,i2,i3,i4,Gn.1 i4];unfold Lt;simp[Gj];omega
 .rw[J0,Aso _ (λa h=>(ha a h).choose_spec.2.2.2)];omega
def Si (data:List Ai) (d:Nat) (v:Int) (t:Af):Bool:=Kr t d v||(Fb (data.take d) v t&&decide (B3 t<=200))
theorem A4w (hx:data[d]? = some x) (hv:x.V<=6) (t:Af):((Fb (data.take (d+1)) x.V t&&decide (B3 t<=200))&&(Kr t d x.V || !mnt d t))=Si data d x.V t:=by unfold Si;cases h:Kr t d x.V with| true=>obtain⟨h1,h2⟩:=Ak3 hx hv h;rw[h1,As h2];rfl| false=>rw[<-Asm data d x.V t];cases Fb (data.take (d+1)) x.V t <;> cases decide (B3 t<=200) <;> simp
def SzD (data:List Ai):Prop:=∀x∈data,x.O.length<=1048576/\∀y∈x.O,Ds y.R<=1048576
theorem SzD.short (h:SzD data):Ml data:=λx hx y hy=>by have h1:=(h x hx).2 y hy;have h2:=Lr y.R;refine⟨ω,λa ha=>?_⟩;have h3:=Kc ha;have c:=J0 a;have b:=Lr a.R;omega
theorem A4x (g:SzD data) (d c:Nat) (hx:data[d]? = some x) (hy:x.O[c]? = some y) (hv:x.V<=6) (hd:data.length<=1048576) : R0 data d c=some (decide (y.R.length<=6)&&y.R.all (Si data d x.V)):=by
 have b:=Eg hx;have l:=(g x (Bu hx)).2 y (Bu hy);unfold R0;rw[Br rfl hx,Ad,Br rfl hy,Ad,Xm data d c g.short];by_cases k:y.R.length<=6
 .rw[A5 (ω:¬(y.R.length:Int)>6),As k];simp only[Aq,Bool.true_and,Ad];refine (Aa4 y.R (Si data d x.V) (λj=>(j:Int)) rfl ω (rt:=true) (rf:=false) ?_ ?_).trans (by rw[Afv])
  .intro j t ht h1 h2 h3;have q:=Kc (Bu ht);have s:Ag (D7 data d c) (j:Int)=some (Kr t d x.V):=(by unfold D7;simp only[Br rfl hx,Br rfl hy];rw[Br rfl];simp[ht]);simp only[h1,h2,h3,Am,Ad,show Ac ((d:Int)+1)=((d+1:Nat):Int) from C5 b ω,Xk rfl (show d+1<=data.length from b),Br rfl hx,
    Xl (data.take (d+1)) t x.V ω,s];rw[<-A4w hx hv t];cases i:(Fb (data.take (d+1)) x.V t&&decide (B3 t<=200)) with
   | false=>exact⟨nofun,λ_=>⟨.inl false,rfl,rfl⟩⟩
   | true=>
    have f:B3 t<=200:=(by simp only[Ct,Du]at i;exact i.2);simp only[bnt,Aq,Bool.true_and];cases u:Kr t d x.V with
    | true=>exact⟨λ_=>rfl,λh=>by cases h⟩
    | false=>simp only[Bool.not_false,Am,A4u d 200 t 4000000 f ω ω,Ad,Bool.false_or];cases mnt d t with| true=>exact⟨nofun,λ_=>⟨.inl false,rfl,rfl⟩⟩| false=>exact⟨λ_=>rfl,λh=>by cases h⟩
  .intro h;exact⟨.inr (),by simp only[h];rfl,rfl⟩
 .rw[As (ω:(y.R.length:Int)>6),A5 k];rfl
def bI (s:ByteArray) (i:Nat):Int:=if h:i<s.size then (s[i].toNat:Int) else 0
def loI (c:Int):Bool:=decide (97<=c)&&decide (c<=122)
def upI (c:Int):Bool:=decide (65<=c)&&decide (c<=90)
def diI (c:Int):Bool:=decide (48<=c)&&decide (c<=57)
def wiI (c:Int):Bool:=loI c||upI c||diI c||c==95
def J1 (s:ByteArray):Prop:=1<=s.size/\s.size<=24/\upI (bI s 0)=true/\∀i,i<s.size->wiI (bI s i)=true
theorem Qo {i:Int} {n:Nat} (hi:i=n) (h:n<s.size):∃c:UInt8,Km s i=some c/\(c.toNat:Int)=bI s n:=by
 subst hi;refine⟨s[n],?_,?_⟩
 .unfold Km;rw[Av ω,show ((n:Int)).toNat=n from rfl];simp[h]
 .unfold bI;simp[h]
theorem Aa9 {j:Nat} (hb:b<=s.size) (h:a+j<b):bI (s.extract a b) j=bI s (a+j):=by
 unfold bI;have h1:j<(s.extract a b).size:=by rw[ByteArray.size_extract];omega
 rw[dif_pos h1,dif_pos ω,ByteArray.getElem_extract]
theorem Aba {lo hi:Int} (h1:lo=a) (h2:hi=b) (h3:a<=b) (c:b<=s.size):Hg s lo hi=some (s.extract a b):=by subst h1;subst h2;unfold Hg;rw[Av ω];rfl
theorem Asp {a b:ByteArray} (h:a.toList=b.toList):a=b:=by rw[ByteArray.toList_eq,ByteArray.toList_eq]at h;have:a.data=b.data:=Array.toList_inj.1 h;cases a;cases b;simp at this;subst this;rfl
theorem Asq (a b:ByteArray):(a.toList==b.toList)=decide (a=b):=by
 by_cases h:a=b
 .subst h;simp
 .rw[A5 h];cases hb:(a.toList==b.toList) with| false=>rfl| true=>exact absurd (Asp (by simpa using hb)) h
theorem Asr (c:Int):W9 c=some (loI c):=by unfold W9 loI;by_cases h:(97:Int)<=c <;> simp[h]
theorem Ass (c:Int):Uq c=some (upI c):=by unfold Uq upI;by_cases h:(65:Int)<=c <;> simp[h]
theorem Afx (c:Int):R8 c=some (diI c):=by unfold R8 diI;by_cases h:(48:Int)<=c <;> simp[h]
theorem Ast (c:Int):Xa c=some (wiI c):=by unfold Xa wiI;rw[Asr,Ass,Afx];simp only[Ad];cases loI c <;> cases upI c <;> cases diI c <;> rfl
theorem Ak4 {S E:Type} {step:S->Option (S⊕E)} (s:ByteArray) (p:Int->Bool) (b:Nat->S) (f:Nat->E) (lo:Nat) (h1:∀j,lo<=j->j<s.size->p (bI s j)=true->step (b j)=some (.inl (b (j+1)))) (h2:∀j,lo<=j->j<s.size->p (bI s j)=false->step (b j)=some (.inr (f j))) (h3:step (b s.size)=some (.inr (f s.size))) : ∀(m i:Nat),lo<=i->i+m=s.size->∃n,i<=n/\n<=s.size/\(∀j,i<=j->j<n->p (bI s j)=true)/\(n<s.size->p (bI s n)=false)/\Ak step (b i)=some (f n):=by
 intro m;induction m with
 | zero=>intro i _ hi;have:i=s.size:=ω;subst this;exact⟨s.size,ω,ω,λj _ _=>ω,λh=>ω,Gf h3⟩
 | succ m ih=>
  intro i c hi;cases hp:p (bI s i) with
  | true=>
   obtain⟨n,a1,a2,a3,a4,a5⟩:=ih (i+1) ω ω;refine⟨n,ω,a2,λj b1 b2=>?_,a4,by rw[Lh (h1 i c ω hp)];exact a5⟩;rcases Cj i j with h|h
   .exact a3 j h b2
   .have:j=i:=ω;subst this;exact hp
  | false=>exact⟨i,ω,ω,λj _ _=>ω,λ_=>hp,Gf (h2 i c ω hp)⟩
theorem A4y (s:ByteArray) (f:s.size<1099511627776):∃n,n<=s.size/\(∀j,j<n->wiI (bI s j)=true)/\(n<s.size->wiI (bI s n)=false)/\Aal s=some (s.extract 0 n):=by
 have H:=Ak4 (step:=λv3:Int=>bif v3<(s.size:Int) then ((Km s v3).bind λc4=>(Xa (c4.toNat:Int)).bind λv5=>bif v5 then some (.inl (Ac (v3+1))) else some (.inr v3)) else some (.inr v3))
  s wiI (λj=>(j:Int)) (λj=>(j:Int)) 0 (λj _ hj hp=>by
   obtain⟨c,c1,c2⟩:=Qo (s:=s) (i:=(j:Int)) rfl hj
   simp only[As (ω:(j:Int)<(s.size:Int)),Am,c1,Ad,c2,Ast,hp,C5 hj ω]) (λj _ hj hp=>by
   obtain⟨c,c1,c2⟩:=Qo (s:=s) (i:=(j:Int)) rfl hj
   simp only[As (ω:(j:Int)<(s.size:Int)),Am,c1,Ad,c2,Ast,hp,Aq]) ψ s.size 0 ω ω
 obtain⟨n,_,a2,a3,a4,a5⟩:=H
 refine⟨n,a2,λj hj=>a3 j ω hj,a4,?_⟩
 unfold Aal
 have a5:Ak _ (0:Int)=some (n:Int):=a5
 rw[a5,Ad,Aba (lo:=0) (a:=0) (b:=n) rfl rfl ω a2];rfl
theorem A4z (s:ByteArray) (f:s.size<1099511627776):∃n,n<=s.size/\(∀j,j<n->diI (bI s j)=true)/\(n<s.size->diI (bI s n)=false)/\Aff s=some (s.extract 0 n):=by
 have H:=Ak4 (step:=λv3:Int=>bif v3<(s.size:Int) then ((Km s v3).bind λc4=>(R8 (c4.toNat:Int)).bind λv5=>bif v5 then some (.inl (Ac (v3+1))) else some (.inr v3)) else some (.inr v3))
  s diI (λj=>(j:Int)) (λj=>(j:Int)) 0 (λj _ hj hp=>by
   obtain⟨c,c1,c2⟩:=Qo (s:=s) (i:=(j:Int)) rfl hj
   simp only[As (ω:(j:Int)<(s.size:Int)),Am,c1,Ad,c2,Afx,hp,C5 hj ω]) (λj _ hj hp=>by
   obtain⟨c,c1,c2⟩:=Qo (s:=s) (i:=(j:Int)) rfl hj
   simp only[As (ω:(j:Int)<(s.size:Int)),Am,c1,Ad,c2,Afx,hp,Aq]) ψ s.size 0 ω ω
 obtain⟨n,_,a2,a3,a4,a5⟩:=H
 refine⟨n,a2,λj hj=>a3 j ω hj,a4,?_⟩
 unfold Aff
 have a5:Ak _ (0:Int)=some (n:Int):=a5
 rw[a5,Ad,Aba (lo:=0) (a:=0) (b:=n) rfl rfl ω a2];rfl
theorem Qp {c:Bool} {X Y:Option R} (h1:∃r,X=some r/\Q r) (h2:∃r,Y=some r/\Q r):∃r,(bif c then X else Y)=some r/\Q r:=by cases c <;> assumption
theorem Ak5 {A:Type} {X:Option A} {f:A->Option R} (P:A->Prop) (h1:∃a,X=some a/\P a) (h2:∀a,P a->∃r,f a=some r/\Q r):∃r,X.bind f=some r/\Q r:=by obtain⟨a,e,h⟩:=h1;rw[e];exact h2 a h
theorem A40 (s:ByteArray):∃b,Aam s=some b/\True:=by unfold Aam;repeat' first|refine Qp ?_ ?_|exact⟨_,rfl,trivial⟩
theorem A41 (s:ByteArray) (h1:1<=s.size):∃r,Aao s=some r/\(r.size<=s.size):=by
 have g:Hg s 0 1=some (s.extract 0 1):=Aba rfl rfl ω h1;have c:(s.extract 0 1).size<=s.size:=by rw[ByteArray.size_extract];omega
 unfold Aao;refine Ak5 (λz=>∀r,z = .inl r->r.size<=s.size) ?_ ?_
 .by_cases h2:2<=s.size
  .have f:Hg s 0 2=some (s.extract 0 2):=Aba rfl rfl ω h2;have b:∀r,(Sum.inl (s.extract 0 2):ByteArray⊕Unit) = .inl r->r.size<=s.size:=(by rintro r ⟨⟩;rw[ByteArray.size_extract];omega);simp only[f,Ad];repeat' first|refine Qp ?_ ?_|with_reducible exact⟨_,rfl,b⟩|exact⟨_,rfl,λr h=>by cases h⟩
  .rw[A5 ω];exact⟨_,rfl,λr h=>by cases h⟩
 .rintro (r|u) i
  .exact⟨_,rfl,i r rfl⟩
  .simp only[g,Ad];have h0:(ByteArray.mk #[]).size<=s.size:=Nat.zero_le _;repeat' first|refine Qp ?_ ?_|with_reducible exact⟨_,rfl,c⟩|with_reducible exact⟨_,rfl,h0⟩
theorem A42 (s:ByteArray) (f:s.size<1099511627776):∃b,Aan s=some b/\True:=by
 unfold Aan;refine Et (λ(_,i)=>∃j:Nat,i=j/\j<=s.size) (λ(_,i)=>s.size-i.toNat) (λ_=>True) ⟨0,rfl,ω⟩ ?_ ?_
 .rintro⟨v,i⟩ ⟨j,rfl,hj⟩;rcases Cj j s.size with h|h
  .obtain⟨c,c1,_⟩:=Qo (s:=s) (i:=(j:Int)) rfl h;simp only[As (ω:(j:Int)<(s.size:Int)),Am,c1,Ad,C5 h ω];cases decide (Ac (Ac (v*10)+Ac (wu8 ((c.toNat:Int)-48)))>1000000) with| true=>exact .inr ⟨_,rfl,trivial⟩| false=>exact .inl ⟨_,rfl,⟨j+1,rfl,ω⟩,ζ⟩
  .have:j=s.size:=ω;subst this;exact .inr ⟨.inr (),ψ,trivial⟩
 .rintro (r|u) _ <;> exact⟨_,rfl,trivial⟩
theorem A43 (s:ByteArray) (i:Nat) (hi:i<s.size) (M:s.size<1099511627776) : ∃r,Aad s i=some r/\(r.2=0->1<=r.1.Text.size/\i+r.1.Text.size<=s.size/\(r.1.G=2->J1 r.1.Text))/\(J1 s->i=0->r=(⟨2,s,0⟩,0)):=by
 obtain⟨c,c1,c2⟩:=Qo (s:=s) (i:=(i:Int)) rfl hi;have u:Hg s (i:Int) (s.size:Int)=some (s.extract i s.size):=Aba rfl rfl ω ω;have I:(s.extract i s.size).size=s.size-i:=by rw[ByteArray.size_extract];omega
 have x:bI (s.extract i s.size) 0=bI s i:=Aa9 ω ω;unfold Aad;simp only[c1,Ad,c2,Asr,Ass,Afx,u];have hw:(bif loI (bI s i) then some true else some (upI (bI s i)))=some (loI (bI s i)||upI (bI s i)):=by cases loI (bI s i) <;> rfl
 rw[hw];simp only[Ad];cases l:(loI (bI s i)||upI (bI s i)) with
 | true=>
  obtain⟨n,G,D,y,n4⟩:=A4y (s.extract i s.size) ω;have A:1<=n:=by
   rcases Nat.eq_zero_or_pos n with h|h
   .subst h;have:=y ω;rw[x]at this;unfold wiI at this;rw[l]at this;cases this
   .exact h
  have hx:(s.extract i s.size).extract 0 n=s.extract i (i+n):=(by rw[ByteArray.extract_extract];congr 1;omega);have q:(s.extract i (i+n)).size=n:=(by rw[ByteArray.size_extract];omega);rw[hx]at n4;simp only[Am,n4,Ad,q];have g:J1 s->i=0->n=s.size:=by
   intro hu h0;rcases Cj n s.size with h|h
   .have:=y ω;rw[Aa9 ω ω,hu.2.2.2 _ ω]at this;cases this
   .omega
  by_cases J:n<=24
  .rw[A5 ω];cases k:upI (bI s i) with
   | true=>
    refine⟨_,rfl,λ_=>⟨?_,?_,λ_=>⟨?_,?_,?_,?_⟩⟩,?_⟩
    .show 1<=(s.extract i (i+n)).size;omega
    .show i+(s.extract i (i+n)).size<=s.size;omega
    .show 1<=(s.extract i (i+n)).size;omega
    .show (s.extract i (i+n)).size<=24;omega
    .show upI (bI (s.extract i (i+n)) 0)=true;rw[Aa9 ω ω];exact k
    .show ∀j,j<(s.extract i (i+n)).size->wiI (bI (s.extract i (i+n)) j)=true;intro j hj;rw[Aa9 ω ω];have:=D j ω;rw[Aa9 ω ω]at this;exact this
    .intro hu h0;have:=g hu h0;subst h0;subst this;rw[Nat.zero_add,ByteArray.extract_zero_size];rfl
   | false=>obtain⟨b,hb,_⟩:=A40 (s.extract i (i+n));simp only[Aq,hb,Ad];have f:J1 s->i=0->False:=(by intro hu h0;subst h0;rw[hu.2.2.1]at k;cases k);cases b with| true=>exact⟨_,rfl,λ_=>⟨by show 1<=(s.extract i (i+n)).size;omega,by show i+(s.extract i (i+n)).size<=s.size;omega,λh=>by cases h⟩,λhu h0=>(f hu h0).elim⟩| false=>exact⟨_,rfl,λ_=>⟨by show 1<=(s.extract i (i+n)).size;omega,by show i+(s.extract i (i+n)).size<=s.size;omega,λh=>by cases h⟩,λhu h0=>(f hu h0).elim⟩
  .rw[As ω];refine⟨_,rfl,nofun,λhu h0=>?_⟩;have:=g hu h0;have:=hu.2.1;omega
 | false=>
  have f:J1 s->i=0->False:=(by intro hu h0;subst h0;rw[hu.2.2.1,Bool.or_true]at l;cases l);simp only[Aq];cases hd:diI (bI s i) with
  | true=>
   obtain⟨n,G,D,y,n4⟩:=A4z (s.extract i s.size) ω;have A:1<=n:=by
    rcases Nat.eq_zero_or_pos n with h|h
    .subst h;have:=y ω;rw[x,hd]at this;cases this
    .exact h
   have hx:(s.extract i s.size).extract 0 n=s.extract i (i+n):=(by rw[ByteArray.extract_extract];congr 1;omega);have q:(s.extract i (i+n)).size=n:=(by rw[ByteArray.size_extract];omega);rw[hx]at n4;obtain⟨b,hb,_⟩:=A42 (s.extract i (i+n)) ω;simp only[Am,n4,Ad,hb];refine Ak5 (λ_=>True) ?_ ?_
   .exact Qp ⟨_,rfl,trivial⟩ ⟨_,rfl,trivial⟩
   .intro v _;refine Qp ⟨_,rfl,nofun,λhu h0=>(f hu h0).elim⟩ (Qp ⟨_,rfl,nofun,λhu h0=>(f hu h0).elim⟩ ⟨_,rfl,λ_=>⟨?_,?_,λh=>by cases h⟩,λhu h0=>(f hu h0).elim⟩)
    .show 1<=(s.extract i (i+n)).size;omega
    .show i+(s.extract i (i+n)).size<=s.size;omega
  | false=>
   obtain⟨r,E,L⟩:=A41 (s.extract i s.size) ω;simp only[Aq,E,Ad];rw[Asq];by_cases z:r=ByteArray.mk #[]
   .rw[As z];exact⟨_,rfl,nofun,λhu h0=>(f hu h0).elim⟩
   .rw[A5 z];refine⟨_,rfl,λ_=>⟨?_,?_,λh=>by cases h⟩,λhu h0=>(f hu h0).elim⟩
    .show 1<=r.size;rcases Nat.eq_zero_or_pos r.size with h|h
     .have B:r.data.toList.length=0:=(by simpa using h);exact absurd (Asp (by rw[ByteArray.toList_eq,Gn.1 B,ByteArray.toList_eq])) z
     .exact h
    .show i+r.size<=s.size;omega
theorem A44 (c:Int):Aac c=some (c==9||c==10||c==13||c==32):=by unfold Aac;cases c==9 <;> cases c==10 <;> cases c==13 <;> rfl
theorem Asu (s:ByteArray) (R:s.size<1099511627776):∃b,Ud s=some b/\(b=true↔J1 s):=by
 unfold Ud Ae4
 by_cases q:(s.size:Int)>16384
 .rw[As q]
  refine⟨false,rfl,by simp;rintro⟨_,h,_⟩;omega⟩
 rw[A5 q]
 simp only[Aq]
 refine Ak5 (λr:List Kp×Int×Int=>(r.2.2≠0/\¬J1 s)\/(r.2.2=0/\∃o e,r.1=o++[e]/\(∀t∈o,t.G=2->J1 t.Text)/\(J1 s->o = [⟨2,s,0⟩]))) ?_ ?_
 .refine Et (λ(v26,f)=>∃i:Nat,v26=i/\i<=s.size/\f.length<=i/\(∀t∈f,t.G=2->J1 t.Text)/\(J1 s->(i=0/\f = [])\/(i=s.size/\f = [⟨2,s,0⟩])))
   (λ(v26,_)=>s.size-v26.toNat)
   (λz=>match z with|.inl o=>o.length<=16384/\(∀t∈o,t.G=2->J1 t.Text)/\(J1 s->o = [⟨2,s,0⟩]) | .inr (_,_,e)=>e≠0/\¬J1 s)
   ⟨0,rfl,ω,ψ,ψ,λ_=>.inl ⟨rfl,rfl⟩⟩ ?_ ?_
  .rintro⟨v,o⟩ ⟨i,rfl,hi,ho,hk,hu⟩
   rcases Cj i s.size with h|h
   .obtain⟨c,c1,c2⟩:=Qo (s:=s) (i:=(i:Int)) rfl h
    have g:J1 s->i=0/\o = []:=λu=>by
     rcases hu u with h'|h'
     .exact h'
     .omega
    simp only[As (ω:(i:Int)<(s.size:Int)),Am,c1,Ad,c2,A44]
    cases G:(bI s i==9||bI s i==10||bI s i==13||bI s i==32) with
    | true=>
     have k:¬J1 s:=by
      intro u
      have h0:=(g u).1
      subst h0
      have:=u.2.2.1
      simp only[upI,Ct,Du]at this
      simp only[Bool.or_eq_true,beq_iff_eq]at G
      omega
     exact .inl ⟨(((i+1:Nat):Int),o),by simp only[Am];rw[C5 h ω],⟨i+1,rfl,ω,(by show o.length<=i+1;omega),hk,λu=>(k u).elim⟩,ζ⟩
    | false=>
     simp only[Aq]
     cases B:(bI s i==35) with
     | true=>
      have k:¬J1 s:=by
       intro u
       have h0:=(g u).1
       subst h0
       have:=u.2.2.1
       simp only[upI,Ct,Du]at this
       simp only[beq_iff_eq]at B
       omega
      simp only[Am]
      obtain⟨n,n1,Z,Y,n4,E⟩:=Ak4 (step:=λv32:Int=>bif v32<(s.size:Int) then ((Km s v32).bind λI=>bif ((I.toNat:Int)==(10:Int)) then some (.inr (.inl v32)) else some (.inl (Ac (v32+1)))) else some (.inr (.inr v32)))
       s (λc=>!(c==10)) (λj=>(j:Int)) (λj=>if j<s.size then Sum.inl (j:Int) else Sum.inr (j:Int)) 0 (λj _ hj hp=>by
        obtain⟨c,c1,c2⟩:=Qo (s:=s) (i:=(j:Int)) rfl hj
        simp only[Bool.not_eq_true']at hp
        simp only[As (ω:(j:Int)<(s.size:Int)),Am,c1,Ad,c2,hp,C5 hj ω,Aq]) (λj _ hj hp=>by
        obtain⟨c,c1,c2⟩:=Qo (s:=s) (i:=(j:Int)) rfl hj
        simp only[Bool.not_eq_false']at hp
        simp only[As (ω:(j:Int)<(s.size:Int)),Am,c1,Ad,c2,hp,Av hj]) ψ (s.size-i) i ω ω
      have S:i<n:=by
       rcases Cj i n with h'|h'
       .exact h'
       .have:n=i:=ω
        subst this
        have:=n4 h
        simp only[beq_iff_eq]at B
        rw[B]at this;cases this
      have E:Ak _ (i:Int)=_:=E
      rw[E,Ad]
      rcases Cj n s.size with h'|h'
      .rw[Av h']
       exact .inl ⟨((n:Int),o),rfl,⟨n,rfl,ω,(by show o.length<=n;omega),hk,λu=>(k u).elim⟩,ζ⟩
      .rw[Ar ω]
       exact .inr ⟨.inl o,rfl,ω,hk,λu=>(k u).elim⟩
     | false=>
      obtain⟨r,N,M,J⟩:=A43 s i h R
      simp only[Aq,N,Ad]
      by_cases D:r.2=0
      .obtain⟨a1,a2,a3⟩:=M D
       simp only[Gb D,Aq]
       rw[D2 ζ,Ad]
       refine .inl ⟨(((i+r.1.Text.size:Nat):Int),o++[r.1]),?_,⟨i+r.1.Text.size,rfl,a2,ζ,?_,?_⟩,ζ⟩
       .rw[show Ac ((i:Int)+(r.1.Text.size:Int))=((i+r.1.Text.size:Nat):Int) by rw[Ac,Cl] <;> omega]
       .intro t ht
        rcases Ej.1 ht with h'|h'
        .exact hk t h'
        .simp at h';subst h';exact a3
       .intro u
        obtain⟨b1,b2⟩:=g u
        have:=J u b1
        subst b1;subst b2;subst this
        exact .inr ⟨ψ,rfl⟩
      .simp only[F2 D,Am]
       refine .inr ⟨_,rfl,D,λu=>?_⟩
       rw[J u (g u).1]at D
       exact D rfl
   .have:i=s.size:=ω
    subst this
    refine .inr ⟨.inl o,ψ,ω,hk,λu=>?_⟩
    rcases hu u with⟨h',_⟩|⟨_,h'⟩
    .have:=u.1;omega
    .exact h'
  .rintro (o|⟨l,p,e⟩) L
   .obtain⟨X,z2,z3⟩:=L
    simp only
    rw[D2 ζ,Ad]
    exact⟨_,rfl,.inr ⟨rfl,o,_,rfl,z2,z3⟩⟩
   .exact⟨_,rfl,.inl L⟩
 .rintro⟨l,p,e⟩ (⟨h1,h2⟩|⟨h1,o,t,h2,h3,A⟩)
  .simp only at h1
   simp only[C3 h1,Aq]
   exact⟨_,rfl,by simp[h2]⟩
  .simp only at h1 h2
   subst h1;subst h2
   simp only[beq_self_eq_true,Am]
   match o,h3,A with
   | [],_,A=>exact⟨false,ψ,by simp;intro u;cases A u⟩
   | [x],h3,A=>
    have V:Ag ([x]++[t]) 0=some x:=rfl
    simp only[V,Ad,Asq]
    have U:((([x]++[t]).length:Int)==2)=true:=rfl
    simp only[U,Am]
    by_cases hx:x.G=2
    .simp only[Eu hx,Am]
     refine⟨_,rfl,?_⟩
     rw[decide_eq_true_iff]
     constructor
     .intro h;rw[<-h];exact h3 x ψ hx
     .intro u;have:=A u;simp at this;rw[this]
    .simp only[C3 hx,Aq]
     refine⟨_,rfl,?_⟩
     simp only[Bool.false_eq_true,false_iff]
     intro u;have:=A u;simp at this;rw[this]at hx;exact hx rfl
   | x::y::ys,_,A=>
    refine⟨false,?_,by simp;intro u;have:=A u;simp at this⟩
    rw[C3]
    .rfl
    .simp;omega
def Afy (data:List Ai) (d:Nat) (v:Int) (y:Qh):Prop:=J1 y.S/\y.R.length<=6/\y.R.all (Si data d v)=true
def Ak6 (data:List Ai) (d:Nat) (x:Ai):Prop:=0<=x.V/\x.V<=6/\1<=x.O.length/\x.O.length<=8/\J1 x.S/\∀y∈x.O,Afy data d x.V y
def K4 (x:Ai):List ByteArray:=x.O.map (·.S)
def Hw (data:List Ai):Prop:=data.length<=12/\(∀d x,data[d]? = some x->Ak6 data d x)/\(data.map (·.S)).Nodup/\(data.flatMap K4).Nodup
structure DSz (data:List Ai):Prop where
 len:data.length<=1048576
 sz:SzD data
 nm:∀x∈data,x.S.size<=1048576
 cn:∀x∈data,∀y∈x.O,y.S.size<=1048576
theorem Nl (a b:ByteArray):(a==b)=true↔a=b:=by
 constructor
 .intro h;cases a with|mk a=>cases b with|mk b=>
  have:a=b:=(by exact eq_of_beq h);rw[this]
 .rintro rfl;cases a with|mk a=>exact beq_self_eq_true a
def L6 (o:List (ByteArray×Bool)) (L:List ByteArray):Prop:=(∀p∈o,p.2=true)/\∀s,E9 o s=true↔s∈L
theorem L6.nil:L6 [] []:=⟨ψ,by simp[E9]⟩
theorem L6.get (h:L6 o L) (b:E9 o s=true):Ib o s false=true:=by unfold Ib;unfold E9 at b;rw[any_eq_true]at b;obtain⟨p,f,c⟩:=b;cases hf:o.find? (λp=>s==p.1) with| none=>exact absurd c (by have:=find?_eq_none.1 hf p f;simpa using this)| some q=>exact h.1 q (mem_of_find?_eq_some hf)
theorem A45 (o:List (ByteArray×Bool)) (s t:ByteArray) (v:Bool):E9 (Gu o s v) t=(E9 o t||t==s):=by
 induction o with
 | nil=>simp[Gu,E9]
 | cons p o ih=>unfold Gu;cases hp:(s==p.1) with| true=>have:s=p.1:=(Nl _ _).1 hp;subst this;simp only[Am,E9,any_cons];cases t==p.1 <;> simp| false=>simp only[E9,any_cons]at ih ⊢;simp only[Aq,any_cons,ih,Bool.or_assoc]
theorem L6.put (h:L6 o L) (s:ByteArray):L6 (Gu o s true) (L++[s]):=by
 refine⟨?_,λt=>?_⟩
 .have:∀o:List (ByteArray×Bool),(∀p∈o,p.2=true)->∀p∈Gu o s true,p.2=true:=by
   intro o;induction o with
   | nil=>intro _ p hp;simp[Gu]at hp;rw[hp]
   | cons q o ih=>
    intro b p hp;unfold Gu at hp;cases hq:(s==q.1) with
    | true=>
     rw[hq]at hp;simp only[Am,Gi]at hp;rcases hp with rfl|hp
     .rfl
     .exact b p (by simp[hp])
    | false=>
     rw[hq]at hp;simp only[Aq,Gi]at hp;rcases hp with rfl|hp
     .exact b _ ψ
     .exact ih (λp hp=>b p (by simp[hp])) p hp
  exact this o h.1
 .rw[A45,Bool.or_eq_true,h.2 t,Nl];simp
theorem A46 (x:Ai) {c:Nat} (hy:x.O[c]? = some y):K4 x=(x.O.take c).map (·.S)++y.S::(x.O.drop (c+1)).map (·.S):=by
 have h:=take_append_drop c x.O
 have hc:=Eg hy
 have e:x.O.drop c=y::x.O.drop (c+1):=by
  rw[drop_eq_getElem_cons hc]
  rw[Bs hc]at hy
  rw[Fp hy]
 unfold K4
 conv=>lhs;rw[<-h,e]
 simp
theorem Asv {m:List ByteArray} (h:(L++s::m).Nodup):s ∉ L:=by rw[nodup_append]at h;intro b;exact h.2.2 s b s ψ rfl
theorem Asw (h:L.Nodup) (c:s ∉ L):(L++[s]).Nodup:=by rw[nodup_append];refine⟨h,ψ,?_⟩;intro a ha b hb;simp at hb;subst hb;intro e;subst e;exact c ha
theorem A47 (q:DSz data) (hx:data[d]? = some x) (hv:x.V<=6) (o:List (ByteArray×Bool)) (L:List ByteArray) (G:L6 o L) (J:L.Nodup) : ∃z,Ak (S:=(Int×List (ByteArray×Bool))) (E:=(Bool⊕(Int×List (ByteArray×Bool)))) (λ(f,g)=> bif f<(x.O.length:Int) then ((Ag x.O f).bind λv54=> (Ud v54.S).bind λu=> bif (!u) then some (.inr (.inl false)) else (bif (E9 g v54.S) then (bif (Ib g v54.S (false:Bool)) then some (.inr (.inl false)) else ((R0 data d f).bind λs=> bif (!s) then some (.inr (.inl false)) else some (.inl ((Ac (f+1)),(Gu g v54.S true))))) else ((R0 data d f).bind λv58=> bif (!v58) then some (.inr (.inl false)) else some (.inl ((Ac (f+1)),(Gu g v54.S true)))))) else some (.inr (.inr (f,g)))) (0,o)=some z /\ match z with
   | .inl r=>r=false/\¬((∀y∈x.O,Afy data d x.V y)/\(L++K4 x).Nodup)
   | .inr (_,o')=>(∀y∈x.O,Afy data d x.V y)/\(L++K4 x).Nodup/\L6 o' (L++K4 x):=by
 have hxm:=Bu hx;have I:=(q.sz x hxm).1;refine Ka (λ(f,g)=>∃c:Nat,f=c/\c<=x.O.length/\(∀y∈x.O.take c,Afy data d x.V y)/\(L++(x.O.take c).map (·.S)).Nodup/\L6 g (L++(x.O.take c).map (·.S))) (λ(f,_)=>x.O.length-f.toNat) _ ?_ _ ⟨0,rfl,ω,ψ,by simpa using J,by simpa using G⟩;rintro⟨v,g⟩ ⟨c,rfl,hc,h1,h2,h3⟩;rcases Cj c x.O.length with h|h
 .have hy:x.O[c]? = some x.O[c]:=Bs h;generalize x.O[c]=y at hy;have k:=Bu hy;obtain⟨b,b1,b2⟩:=Asu y.S (by have:=q.cn x hxm y k;omega);have ht:=C4 hy;have B:L++K4 x=(L++(x.O.take c).map (·.S))++y.S::(x.O.drop (c+1)).map (·.S):=(by rw[A46 x hy];simp);simp only[As (ω:(c:Int)<(x.O.length:Int)),Am,Br rfl hy,Ad,b1,A4x q.sz d c hx hy hv q.len,C5 h ω];cases b with
  | false=>refine .inr ⟨.inl false,rfl,rfl,λhh=>?_⟩;have:=b2.2 (hh.1 y k).1;cases this
  | true=>
   simp only[bnt,Aq];cases j:E9 g y.S with
   | true=>simp only[Am,h3.get j];refine .inr ⟨.inl false,rfl,rfl,λhh=>?_⟩;rw[B]at hh;exact Asv hh.2 ((h3.2 _).1 j)
   | false=>
    simp only[Aq];cases i:(decide (y.R.length<=6)&&y.R.all (Si data d x.V)) with
    | false=>refine .inr ⟨.inl false,rfl,rfl,λhh=>?_⟩;have:=hh.1 y k;rw[this.2.2,As this.2.1]at i;cases i
    | true=>
     simp only[Ct,Du]at i;have A:y.S ∉ L++(x.O.take c).map (·.S):=λhh=>by rw[(h3.2 _).2 hh]at j;cases j
     have e:L++(x.O.take (c+1)).map (·.S)=(L++(x.O.take c).map (·.S))++[y.S]:=(by rw[ht];simp);refine .inl ⟨_,rfl,⟨c+1,rfl,ω,?_,?_,?_⟩,ζ⟩
     .intro D l;rw[ht]at l;rcases Ej.1 l with h'|h'
      .exact h1 D h'
      .simp at h';subst h';exact⟨b2.1 rfl,i.1,i.2⟩
     .rw[e];exact Asw h2 A
     .rw[e];exact h3.put _
 .have:c=x.O.length:=ω;subst this;rw[Db]at h1 h2 h3;exact .inr ⟨.inr ((x.O.length:Int),g),ψ,h1,h2,h3⟩
theorem A48 (hx:data[d]? = some x):data.flatMap K4=((data.take d).flatMap K4++K4 x)++(data.drop (d+1)).flatMap K4/\data.map (·.S)=(data.take d).map (·.S)++x.S::(data.drop (d+1)).map (·.S):=by
 have h:=take_append_drop d data
 have hc:=Eg hx
 have e:data.drop d=x::data.drop (d+1):=by
  rw[drop_eq_getElem_cons hc]
  rw[Bs hc]at hx
  rw[Fp hx]
 constructor
 .conv=>lhs;rw[<-h,e]
  simp[flatMap_append]
 .conv=>lhs;rw[<-h,e]
  simp
theorem A49 (i:DSz data):∃b,Zj data=some b/\(b=true↔Hw data):=by
 have E:=i.len;unfold Zj;rcases Cj 12 data.length with h12|h12
 .rw[As ω];exact⟨false,rfl,by simp;intro h;have:=h.1;omega⟩
 rw[A5 ω];simp only[Aq];refine Et (λ(v31,c,f)=>∃d:Nat,v31=d/\d<=data.length/\(∀j x,j<d->data[j]? = some x->Ak6 data j x)/\((data.take d).map (·.S)).Nodup/\((data.take d).flatMap K4).Nodup/\L6 c ((data.take d).map (·.S))/\L6 f ((data.take d).flatMap K4)) (λ(v31,_,_)=>data.length-v31.toNat) (λz=>match z with|.inl r=>r=false/\¬Hw data | .inr _=>Hw data) ⟨0,rfl,ω,by intro j x h;omega,ψ,ψ,by simpa using L6.nil,by simpa using L6.nil⟩ ?_ ?_
 .rintro⟨v,c,f⟩ ⟨d,rfl,hd,h1,h2,h3,A,U⟩;rcases Cj d data.length with h|h
  .have hx:data[d]? = some data[d]:=Bs h;generalize data[d]=x at hx;have hxm:=Bu hx;obtain⟨b,b1,b2⟩:=Asu x.S (by have:=i.nm x hxm;omega);obtain⟨f1,f2⟩:=A48 hx;simp only[As (ω:(d:Int)<(data.length:Int)),Am,Br rfl hx,Ad,b1];have bad:∀(u:¬Ak6 data d x),∃e:Bool⊕(List (ByteArray×Bool)×List (ByteArray×Bool)),(some (Sum.inr (Sum.inl false)):Option ((Int×List (ByteArray×Bool)×List (ByteArray×Bool))⊕(Bool⊕(List (ByteArray×Bool)×List (ByteArray×Bool)))))=some (.inr e)/\(match e with|.inl r=>r=false/\¬Hw data | .inr _=>Hw data) :=
    λu=>⟨.inl false,rfl,rfl,λhh=>u (hh.2.1 d x hx)⟩
   cases b with
   | false=>exact .inr (bad λhh=>by have:=b2.2 hh.2.2.2.2.1;cases this)
   | true=>
    simp only[bnt,Aq];cases g:E9 c x.S with
    | true=>simp only[Am,A.get g,Ad];refine .inr ⟨.inl false,rfl,rfl,λhh=>?_⟩;have:=hh.2.2.1;rw[f2]at this;exact Asv this ((A.2 _).1 g)
    | false=>
     simp only[Aq];by_cases l:x.V<0
     .simp only[As l,Am,Ad];exact .inr (bad λhh=>by have:=hh.1;omega)
     by_cases s:x.V>6
     .simp only[A5 l,As s,Am,Aq,Ad];exact .inr (bad λhh=>by have:=hh.2.1;omega)
     simp only[A5 l,A5 s,Aq,Ad];by_cases q:(x.O.length:Int)<1
     .simp only[As q,Am,Ad];exact .inr (bad λhh=>by have:=hh.2.2.1;omega)
     by_cases y:(x.O.length:Int)>8
     .simp only[A5 q,As y,Am,Aq,Ad];exact .inr (bad λhh=>by have:=hh.2.2.2.1;omega)
     simp only[A5 q,A5 y,Aq,Ad];obtain⟨z,J,z2⟩:=A47 i hx ω f _ U h3;rw[J,Ad]
     match z,z2 with
     | .inl r,z2=>obtain⟨rfl,z2⟩:=z2;refine .inr ⟨.inl false,rfl,rfl,λhh=>z2 ⟨(hh.2.1 d x hx).2.2.2.2.2,?_⟩⟩;have:=hh.2.2.2;rw[f1]at this;exact (nodup_append.1 this).1
     | .inr (v60,B),z2=>
      obtain⟨N,M,L⟩:=z2;have ht:=C4 hx;have D:x.S ∉ (data.take d).map (·.S):=λhh=>by rw[(A.2 _).2 hh]at g;cases g
      have I:(data.take (d+1)).map (·.S)=(data.take d).map (·.S)++[x.S]:=(by rw[ht];simp);have G:(data.take (d+1)).flatMap K4=(data.take d).flatMap K4++K4 x:=(by rw[ht];simp[flatMap_append]);refine .inl ⟨(((d+1:Nat):Int),Gu c x.S true,B),by simp only[C5 h ω],⟨d+1,rfl,ω,?_,?_,?_,?_,?_⟩,ζ⟩
      .intro j R S k;rcases Cj j d with h'|h'
       .exact h1 j R h' k
       .have:j=d:=ω;subst this;rw[hx]at k;cases k;exact⟨ω,ω,ω,ω,b2.1 rfl,N⟩
      .rw[I];exact Asw h2 D
      .rw[G];exact M
      .rw[I];exact A.put _
      .rw[G];exact L
  .have:d=data.length:=ω;subst this;rw[Db]at h2 h3;exact .inr ⟨.inr (c,f),ψ,h12,λd x hx=>h1 d x (Eg hx) hx,h2,h3⟩
 .rintro (r|⟨o,o'⟩) i
  .obtain⟨rfl,i⟩:=i;exact⟨false,rfl,by simp[i]⟩
  .exact⟨true,rfl,by simpa using i⟩
theorem Afz (c:DSz data):∃b,T3 data=some b/\(b=true↔Hw data):=by obtain⟨b,h1,h2⟩:=A49 c;refine⟨b,?_,h2⟩;unfold T3;rw[h1,Ad];cases b with| false=>rfl| true=>rfl
theorem SzD.args (h:SzD data) (hx:x∈data) (hy:y∈x.O) (ht:t∈y.R):B3 t<=1048576/\t.R.length<=1048576/\y.R.length<=1048576:=by have h1:=(h x hx).2 y hy;have h3:=Kc ht;have f:=J0 t;have c:=Lr t.R;have b:=Lr y.R;omega
def isV (σ:List Af) (k n:Int):Bool:=k==4&&decide (0<=n)&&decide (n<(σ.length:Int))
mutual
def Ec (σ:List Af):Af->Af
 | ⟨k,n,l⟩=>match (if isV σ k n then σ[n.toNat]? else none) with
  | some s=>s
  | none=>⟨k,n,Oe σ l⟩
def Oe (σ:List Af):List Af->List Af
 | []=>[]
 | x::xs=>Ec σ x::Oe σ xs
end
variable {t:Af} {σ:List Af}
theorem Ak7 (σ l:List Af):Oe σ l=l.map (Ec σ):=by induction l with| nil=>rfl| cons x xs ih=>simp only[Oe,ih,map_cons]
theorem Af0 {k n:Int} (h:isV σ k n=true):∃s,σ[n.toNat]? = some s/\Ag σ n=some s/\s∈σ:=by simp only[isV,Ct,Du]at h;have b:n.toNat < σ.length:=ω;refine⟨σ[n.toNat],Bs b,?_,getElem_mem b⟩;unfold Ag;rw[Av ω,Bs b]
theorem Abb {s:Af} (h:isV σ t.G t.U=true) (b:σ[t.U.toNat]? = some s):Ec σ t=s:=by cases t;simp only[Ec]at *;simp[h,b]
theorem Af1 (h:isV σ t.G t.U=false):Ec σ t=⟨t.G,t.U,t.R.map (Ec σ)⟩:=by cases t;simp only[Ec]at *;simp[h,Ak7]
mutual
theorem Asx:∀t:Af,Ec [] t=t
 | ⟨k,n,l⟩=>by
  have hv:isV [] k n=false:=by
   unfold isV
   by_cases h:0<=n
   .rw[A5 (by simp;omega:¬n<(([]:List Af).length:Int))];simp
   .rw[A5 h];simp
  simp only[Ec,hv,Asy l];rfl
theorem Asy:∀l:List Af,Oe [] l=l
 | []=>rfl
 | x::xs=>by simp only[Oe,Asx x,Asy xs]
end
mutual
theorem Asz (σ:List Af) (M:Nat) (hM:1<=M) (hσ:∀s∈σ,B3 s<=M):∀t:Af,B3 (Ec σ t)<=B3 t*M
 | ⟨k,n,l⟩=>by
  cases hv:isV σ k n with
  | true=>
   obtain⟨s,h1,_,h3⟩:=Af0 hv
   rw[Abb (t:=⟨k,n,l⟩) hv h1]
   have:=hσ s h3
   have h2:=U1 ⟨k,n,l⟩
   calc B3 s<=1*M:=ω
    _<=_:=Nat.mul_le_mul_right M h2
  | false=>
   have:=As0 σ M hM hσ l
   simp only[Ec,hv,B3]
   simp only[Bool.false_eq_true,if_false,B3]
   rw[Nat.add_mul];omega
theorem As0 (σ:List Af) (M:Nat) (hM:1<=M) (hσ:∀s∈σ,B3 s<=M):∀l:List Af,Ds (Oe σ l)<=Ds l*M
 | []=>by simp[Oe,Ds]
 | x::xs=>by
  have h1:=Asz σ M hM hσ x
  have h2:=As0 σ M hM hσ xs
  simp only[Oe,Ds]
  rw[Nat.add_mul];omega
end
variable {t:Af} {b:Bool} {l:List Af} {data:List Ai} {r:List Bool} {j:Nat}
theorem As1 (σ:List Af) (t:Af):(bif t.G==(4:Int) then bif decide (t.U>=(0:Int)) then some (decide (t.U<(σ.length:Int))) else some false else some false)=some (isV σ t.G t.U):=by unfold isV;cases t.G==4 <;> simp;by_cases h:0<=t.U <;> simp[h]
theorem A5a:∀(k:Nat) (t:Af) (σ:List Af) (M:Nat),(∀s∈σ,B3 s<=M)->B3 t+M+1<=k->k<1099511627776->Qd k t σ=some (Ec σ t):=by
 intro k;induction k with
 | zero=>intro t σ M _ h;omega
 | succ k ih=>
  intro t σ M b h hk;have f:=J0 t;have c:=Lr t.R;rw[Qd];rw[show (show OB from bif t.G==(4:Int) then bif decide (t.U>=(0:Int)) then some (decide (t.U<(σ.length:Int))) else some false else some false)=some (isV σ t.G t.U) from As1 σ t,Ad];cases hv:isV σ t.G t.U with
  | true=>obtain⟨s,h1,h2,h3⟩:=Af0 hv;have:=b s h3;simp only[Am,h2,Ad,Abb hv h1,ih s [] 0 ψ ω ω,Asx]
  | false=>
   rw[Af1 hv];simp only[Aq];refine F6 t.R (λj=>((j:Int),(t.R.take j).map (Ec σ))) rfl ω ?_ ?_
   .intro j x hj hx h1 h2 h3;have:=Kc (Bu hx);simp only[h1,h2,h3,Am,Ad,ih x σ M b ω ω];rw[D2 ζ,Ad,C4 hx];simp
   .intro h1;exact⟨t.R.map (Ec σ),ψ,rfl⟩
theorem A5b:∀(k:Nat) (t:Af),B3 t<=k->B3 t<1099511627776->R1 k t=some (B3 t:Int):=by
 intro k;induction k with
 | zero=>intro t h;have:=U1 t;omega
 | succ k ih=>
  intro t h ht;have b:=J0 t;have c:=Lr t.R;rw[R1];refine F6 t.R (λj=>(1+(Ds (t.R.take j):Int),(j:Int))) rfl ω ?_ ?_
  .intro j x hj hx h1 h2 h3;have g:=Kc (Bu hx);have f:=Ak2 t.R (j+1);have e:Ds (t.R.take (j+1))=Ds (t.R.take j)+B3 x:=(by rw[C4 hx,Afw];simp[Ds]);simp only[h1,h2,h3,Am,Ad,ih x ω ω];rw[show Ac (1+(Ds (t.R.take j):Int)+(B3 x:Int))=1+(Ds (t.R.take (j+1)):Int) by rw[e,Ac,Cl] <;> omega]
  .intro h1;exact⟨1+(Ds t.R:Int),ψ,by rw[b];simp⟩
theorem ξ {p:Prop} (h:p:=by rw[Ac,Cl]<;>omega):p:=h
theorem A5c (σ:List Af) (M:Nat) (D:1<=M) (q:M<=1048576) (z:∀s∈σ,B3 s<=M):∀(k:Nat) (t:Af),B3 t<=k->B3 t<=1048576 -> ∃v:Nat,R2 k t (σ.map λs=>(B3 s:Int))=some (v:Int)/\v<=B3 (Ec σ t)/\((v=B3 (Ec σ t))\/200<v):=by
 intro k;induction k with
 | zero=>intro t h;have:=U1 t;omega
 | succ k ih=>
  intro t h ht;have A:=J0 t;have y:=Lr t.R;have g:∀x,B3 x<=1048576->B3 (Ec σ x)<=1099511627776:=λx hx=>by have:=Asz σ M D z x;have:B3 x*M<=1048576*1048576:=Nat.mul_le_mul hx q;omega
  rw[R2];rw[show (show OB from bif t.G==(4:Int) then bif decide (t.U>=(0:Int)) then some (decide (t.U<((σ.map λs=>(B3 s:Int)).length:Int))) else some false else some false)=some (isV σ t.G t.U) by rw[C1];exact As1 σ t,Ad];cases hv:isV σ t.G t.U with
  | true=>obtain⟨s,h1,h2,h3⟩:=Af0 hv;have hi:Ag (σ.map λs=>(B3 s:Int)) t.U=some (B3 s:Int):=(by have:=Hc h2;rw[Br (n:=t.U.toNat) ω];simp[h1]);simp only[Am,hi,Ad,Abb hv h1];exact⟨B3 s,rfl,Nat.le_refl _,.inl rfl⟩
  | false=>
   have u:=g t ht;rw[Af1 hv]at u ⊢;simp only[Aq];have f:B3 ⟨t.G,t.U,t.R.map (Ec σ)⟩=1+Ds (t.R.map (Ec σ)):=(by simp only[B3]);rw[f]at u ⊢;refine Aa0 (λv:Nat=>(v:Int)) (Et (λ(n,i)=>∃j:Nat,i=j/\j<=t.R.length/\n=1+(Ds ((t.R.map (Ec σ)).take j):Int)) (λ(_,i)=>t.R.length-i.toNat) (λn=>∃v:Nat,n=v/\v<=1+Ds (t.R.map (Ec σ))/\(v=1+Ds (t.R.map (Ec σ))\/200<v)) ⟨0,rfl,ω,by simp[Ds]⟩ ?_ ?_)
   .rintro⟨n,i⟩ ⟨j,rfl,hj,l⟩;have l:n=_:=l;subst l;rcases Cj j t.R.length with h'|h'
    .have hx:t.R[j]? = some t.R[j]:=Bs h';generalize t.R[j]=x at hx;have G:=Kc (Bu hx);obtain⟨v,b,v2,v3⟩:=ih x ω ω;have c:(t.R.map (Ec σ))[j]? = some (Ec σ x):=(by simp[hx]);have e:Ds ((t.R.map (Ec σ)).take (j+1))=Ds ((t.R.map (Ec σ)).take j)+B3 (Ec σ x):=(by rw[C4 c,Afw];simp[Ds]);have B:=Ak2 (t.R.map (Ec σ)) (j+1);have E:Ac (1+(Ds ((t.R.map (Ec σ)).take j):Int)+(v:Int))=((1+Ds ((t.R.map (Ec σ)).take j)+v:Nat):Int):=ξ;simp only[As (ω:(j:Int)<(t.R.length:Int)),Am,Br rfl hx,Ad,b,C5 h' ω,E];by_cases hb:1+Ds ((t.R.map (Ec σ)).take j)+v>200
     .rw[As ω];exact .inr ⟨_,rfl,_,rfl,ω,.inr hb⟩
     .rw[A5 ω];refine .inl ⟨_,rfl,⟨j+1,rfl,ω,?_⟩,ζ⟩;have:v=B3 (Ec σ x):=ω;subst this;rw[e];omega
    .have:j=t.R.length:=ω;subst this;refine .inr ⟨_,by simp;rfl,1+Ds (t.R.map (Ec σ)),?_,ω,.inl rfl⟩;rw[Ii ψ];omega
   .rintro n ⟨v,rfl,b,v2⟩;exact⟨_,rfl,v,rfl,b,v2⟩
def Jh (data:List Ai) (t:Af) (c:Int):Option (List Af) := if t.G=5 then match Ag data t.U with
  | none=>none
  | some x=>if (t.R.length:Int)=x.V then match Ag x.O c with
    | none=>none
    | some y=>if (y.R.map (Ec t.R)).all (λa=>decide (B3 a<=200)) then some (y.R.map (Ec t.R)) else none else none else none
def okL (o:Option (List Af)):List Af×Bool:=match o with|none=>([],false) | some l=>(l,true)
def Szv (data:List Ai):Prop:=∀x∈data,∀y∈x.O,y.R.length<=6/\∀a∈y.R,B3 a<=200
theorem Hw.szv (h:Hw data):Szv data:=by
 intro x hx y hy;obtain⟨d,hd⟩:=Hi hx;have h1:=h.2.1 d x hd;obtain⟨_,c2,c3⟩:=h1.2.2.2.2.2 y hy;refine⟨c2,λa ha=>?_⟩;have:=G7.1 c3 a ha;unfold Si at this;rw[Bool.or_eq_true]at this;rcases this with h'|h'
 .exact (Ak3 hd h1.2.1 h').2
 .simp only[Ct,Du]at h';exact h'.2
theorem Abc (A:Szv data) (t:Af) (ht:B3 t<=200) (c:Int):Uv data t c=some (okL (Jh data t c)):=by
 have B:=J0 t;have q:=Lr t.R;unfold Uv Jh;by_cases hk:t.G=5
 .simp only[Gb hk,Aq,Av hk];cases hx:Ag data t.U with
  | none=>
   rcases Aa6 hx with h|h
   .simp only[As h,Am,Ad,okL]
   .by_cases h':t.U<0
    .simp only[As h',Am,Ad,okL]
    .simp only[A5 h',As (show t.U>=(data.length:Int) from h),Am,Aq,Ad,okL]
  | some x=>
   obtain⟨a1,a2,_,hxm⟩:=Hc hx;simp only[A5 (ω:¬t.U<0),A5 (ω:¬t.U>=(data.length:Int)),Aq,Ad];by_cases hv:(t.R.length:Int)=x.V
   .simp only[Gb hv,Aq,Av hv];cases hy:Ag x.O c with
    | none=>
     rcases Aa6 hy with h|h
     .simp only[As h,Am,Ad,okL]
     .by_cases h':c<0
      .simp only[As h',Am,Ad,okL]
      .simp only[A5 h',As (show c>=(x.O.length:Int) from h),Am,Aq,Ad,okL]
    | some y=>
     obtain⟨b1,b2,_,i⟩:=Hc hy;obtain⟨G,b⟩:=A x hxm y i;simp only[A5 (ω:¬c<0),A5 (ω:¬c>=(x.O.length:Int)),Aq,Ad];rw[Nk (n:=t.R.length) (c:=t.R.length) rfl rfl ω ω ω,Ad];refine F6 t.R (λj=>((j:Int),((t.R.take j).map λs=>(B3 s:Int))++replicate (t.R.length-j) 0)) rfl ω ?_ ?_
     .intro j s hj g h1 h2 h3;have:=Kc (Bu g);obtain⟨m,D⟩:∃m,t.R.length-j=m+1:=⟨t.R.length-j-1,ω⟩;have E:t.R.length-(j+1)=m:=ω;have k:j=((t.R.take j).map λs=>(B3 s:Int)).length:=ζ;simp only[h1,h2,h3,Am,Ad,A5b 4000000 s ω ω,D,E,replicate_succ,Aa8 _ _ _ (j:Int) j rfl k,Aa7 _ _ _ _ (j:Int) j rfl k,C4 g];simp
     .intro h1;refine⟨t.R.map λs=>(B3 s:Int),ψ,?_⟩;have l:∀s∈t.R,B3 s<=200:=λs g=>by have:=Kc g;omega
      refine (Aa4 (rt:=(y.R.map (Ec t.R),true)) (rf:=([],false)) y.R (λa=>decide (B3 (Ec t.R a)<=200)) (λj=>(j:Int)) rfl ω ?_ ?_).trans ?_
      .intro j a ha h1 h2 h3;have z:=b a (Bu ha);obtain⟨v,u,v2,v3⟩:=A5c t.R 200 ω ω l 4000000 a ω ω;simp only[h1,h2,h3,Am,Ad,u];by_cases hb:B3 (Ec t.R a)<=200
       .rw[As hb,A5 ω];exact⟨λ_=>rfl,λh=>by cases h⟩
       .rw[A5 hb,As ω];exact⟨nofun,λ_=>⟨_,rfl,rfl⟩⟩
      .intro h1;refine⟨.inr (),ψ,?_⟩;simp only;refine F6 y.R (λj=>((j:Int),(y.R.take j).map (Ec t.R))) rfl ω ?_ ?_
       .intro j a hj ha h1 h2 h3;have z:=b a (Bu ha);simp only[h1,h2,h3,Am,Ad,A5a 4000000 a t.R 200 l ω ω];rw[D2 ζ,Ad,C4 ha];simp
       .intro h1;exact⟨y.R.map (Ec t.R),ψ,rfl⟩
      .rw[all_map];cases f:y.R.all ((λa=>decide (B3 a<=200)) ∘ Ec t.R) with| true=>rw[Av rfl];rw[show (y.R.all λa=>decide (B3 (Ec t.R a)<=200))=true from f];rfl| false=>rw[show (y.R.all λa=>decide (B3 (Ec t.R a)<=200))=false from f];rfl
   .simp only[F2 hv,Am,Ad,Ar hv,okL]
 .simp only[F2 hk,Am,Ad,Ar hk,okL]
theorem A5d (b:Szv data) (t:Af) (ht:B3 t<=200) (c:Int):Aes data t c=some (okL (Jh data t c)):=Abc b t ht c
theorem Ph {c:Int} (h:Jh data t c=some l) : ∃x y,t.G=5/\Ag data t.U=some x/\(t.R.length:Int)=x.V/\Ag x.O c=some y/\l=y.R.map (Ec t.R)/\∀a∈l,B3 a<=200:=by
 unfold Jh at h;by_cases hk:t.G=5
 .rw[Av hk]at h;cases hx:Ag data t.U with
  | none=>rw[hx]at h;cases h
  | some x=>
   rw[hx]at h;simp only at h;by_cases hv:(t.R.length:Int)=x.V
   .rw[Av hv]at h;cases hy:Ag x.O c with
    | none=>rw[hy]at h;cases h
    | some y=>
     rw[hy]at h;simp only at h;by_cases b:(y.R.map (Ec t.R)).all (λa=>decide (B3 a<=200))=true
     .rw[Av b]at h;cases h;refine⟨x,y,hk,rfl,hv,hy,rfl,λa ha=>?_⟩;have:=G7.1 b a ha;simpa using this
     .rw[Ar b]at h;cases h
   .rw[Ar hv]at h;cases h
 .rw[Ar hk]at h;cases h
def F7 (l:List Af) (r:List Bool):List Af:=((l.zip r).filter λp=>!p.2).map (·.1)
def Gx (data:List Ai) (t:Af) (c:Int):Option (List Af):=(Jh data t c).map λl=>F7 l (D7 data t.U c)
theorem Xn {c:Int} (h:Jh data t c=some l):(D7 data t.U c).length=l.length:=by obtain⟨x,y,_,hx,_,hy,rfl,_⟩:=Ph h;unfold D7;simp only[hx,hy,C1]
theorem Af2 {a:Af} (h1:l[j]? = some a) (h2:r[j]? = some b):F7 (l.take (j+1)) (r.take (j+1))=F7 (l.take j) (r.take j)++bif b then [] else [a]:=by unfold F7;have f:=Eg h1;have c:=Eg h2;rw[C4 h1,C4 h2,zip_append ζ];cases b <;> simp
theorem Xo (l:List Af) (r:List Bool):(F7 l r).length<=l.length:=by unfold F7;rw[C1];refine Nat.le_trans (length_filter_le _ _) ?_;rw[length_zip];omega
theorem Af3 (f:Szv data) (h:Ml data) (t:Af) (ht:B3 t<=200) (c:Int):W8 data t c=some (okL (Gx data t c)):=by
 unfold W8 Gx;rw[Abc f t ht c,Ad];cases hf:Jh data t c with
 | none=>rfl
 | some l=>
  have i:=Xn hf;obtain⟨x,y,_,hx,_,hy,q,_⟩:=Ph hf;obtain⟨g,_⟩:=f x (Hc hx).2.2.2 y (Hc hy).2.2.2;have k:l.length<=6:=(by rw[q];simpa using g);simp only[okL,bnt,Aq,Xm data t.U c h,Ad,Option.map_some];refine F6 (D7 data t.U c) (λj=>((j:Int),F7 (l.take j) ((D7 data t.U c).take j))) (by simp[F7]) ω ?_ ?_
  .intro j b hj hb h1 h2 h3;have ha:l[j]? = some l[j]:=Bs ω;generalize l[j]=a at ha;have s:=Xo (l.take j) ((D7 data t.U c).take j);have:(l.take j).length<=6:=ζ;simp only[h1,h2,h3,Am,Ad,Br rfl ha,Af2 ha hb];rw[D2 ζ];cases b <;> simp
  .intro h1;refine⟨F7 l (D7 data t.U c),?_,rfl⟩;simp only[h1];rw[Ii ω,Ii (Nat.le_refl _)];rfl
def I3 (r:List Bool):List Int:=(r.zipIdx.filter λp=>!p.1).map λp=>(p.2:Int)
theorem A5e (h:r[j]? = some b):(r.take (j+1)).zipIdx=(r.take j).zipIdx++[(b,j)]:=by have:=Eg h;rw[C4 h,zipIdx_append];simp;omega
theorem Af4 {c:Int} (h:Gx data t c=some l):(∀a∈l,B3 a<=200)/\∃x,Ag data t.U=some x/\0<=c/\c<x.O.length:=by unfold Gx at h;cases hf:Jh data t c with| none=>rw[hf]at h;cases h| some m=>rw[hf]at h;cases h;obtain⟨x,y,_,hx,_,hy,_,f⟩:=Ph hf;refine⟨λa ha=>?_,x,hx,(Hc hy).1,(Hc hy).2.1⟩;unfold F7 at ha;obtain⟨p,b,rfl⟩:=mem_map.1 ha;exact f _ (of_mem_zip (mem_filter.1 b).1).1
mutual
def Bv:Ah->Nat
 | ⟨_,l⟩=>1+Cb l
def Cb:List Ah->Nat
 | []=>0
 | x::xs=>Bv x+Cb xs
end
theorem El (t:Ah):Bv t=1+Cb t.K:=by cases t;simp only[Bv]
theorem Kd {l:List Ah} {a:Ah} (h:a∈l):Bv a<=Cb l:=by
 induction l with
 | nil=>cases h
 | cons x xs ih=>
  simp only[Cb];rcases Gi.1 h with rfl|h
  .omega
  .have:=ih h;omega
theorem Pi (l:List Ah):l.length<=Cb l:=by induction l with| nil=>simp| cons x xs ih=>simp only[Cb,D6];have:=El x;omega
mutual
def Di (data:List Ai):Ah->Af->Option Nat
 | ⟨n,kids⟩,t=>
  if t.G=6 then (if n=0 then Cx data kids t.R else none)
  else if t.G=7 then (if 0<=n/\n<=6/\kids.length=0 then some n.toNat else none)
  else if t.G=5 then (if n=0 then Fw data kids t else none)
  else if n=0/\kids.length=0 then some 0 else none
def Cx (data:List Ai):List Ah->List Af->Option Nat
 | [],[]=>some 0
 | i::is,t::ts=>(Di data i t).bind λa=>(Cx data is ts).map (a + ·)
 | [],_::_=>none
 | _::_,[]=>none
def Fw (data:List Ai):List Ah->Af->Option Nat
 | [],_=>some 0
 | ⟨n,kids⟩::es,t=>(Gx data t n).bind λts=>(Cx data kids ts).bind λa=>(Fw data es t).map (1+a + ·)
end
variable {m n:Int} {data:List Ai} {d:Nat}
theorem Lu (data:List Ai) (i:Ah) (t:Af):Di data i t=if t.G=6 then (if i.U=0 then Cx data i.K t.R else none) else if t.G=7 then (if 0<=i.U/\i.U<=6/\i.K.length=0 then some i.U.toNat else none) else if t.G=5 then (if i.U=0 then Fw data i.K t else none) else if i.U=0/\i.K.length=0 then some 0 else none:=by cases i;simp only[Di]
theorem U2 (data:List Ai) (e:Ah) (es:List Ah) (t:Af):Fw data (e::es) t=(Gx data t e.U).bind λts=>(Cx data e.K ts).bind λa=>(Fw data es t).map (1+a + ·):=by cases e;simp only[Fw]
theorem Nm (data:List Ai) (i:Ah) (is:List Ah) (t:Af) (ts:List Af):Cx data (i::is) (t::ts)=(Di data i t).bind λa=>(Cx data is ts).map (a + ·):=by simp only[Cx]
theorem Ak8 (data:List Ai):∀(is:List Ah) (ts:List Af),ts.length≠is.length->Cx data is ts=none
 | [],[],h=>absurd rfl h
 | i::is,t::ts,h=>by rw[Nm,Ak8 data is ts (by simpa using h)];cases Di data i t <;> rfl
 | [],_::_,_=>by simp only[Cx]
 | _::_,[],_=>by simp only[Cx]
theorem U3 (data:List Ai):∀(es:List Ah) (t:Af) (d:Nat),Fw data es t=some d->es.length<=d
 | [],_,_,_=>ψ
 | e::es,t,d,h=>by
  rw[U2]at h;cases h1:Gx data t e.U with
  | none=>rw[h1]at h;cases h
  | some ts=>
   rw[h1,Ad]at h;cases h2:Cx data e.K ts with
   | none=>rw[h2]at h;cases h
   | some a=>rw[h2,Ad]at h;cases h3:Fw data es t with| none=>rw[h3]at h;cases h| some b=>rw[h3]at h;cases h;have:=U3 data es t b h3;simp only[D6];omega
def Ji (o:Option Nat):Int:=match o with|some d=>if d<=6 then (d:Int) else -1|none => -1
theorem Pj (h:d<=6):Ji (some d)=d:=by simp[Ji,h]
theorem Ak9 (h:6<d):Ji (some d) = -1:=by simp only[Ji];rw[Ar ω]
theorem Ala (o:Option Nat):(Ji o = -1/\∀d,o=some d->6<d)\/∃d,o=some d/\d<=6/\Ji o=d:=by
 cases o with
 | none=>exact .inl ⟨rfl,λd h=>by cases h⟩
 | some d=>
  rcases Cj 6 d with h|h
  .exact .inl ⟨Ak9 h,λe b=>by cases b;exact h⟩
  .exact .inr ⟨d,rfl,h,Pj h⟩
theorem As2 {o:Option Nat} (h:∀d,o=some d->6<d):Ji o = -1:=by cases o with| none=>rfl| some d=>exact Ak9 (h d rfl)
def Pr (p:Int×Bool) (o:Option Nat):Prop:=(p.2=true/\∃d:Nat,o=some d/\d<=6/\p.1=d)\/(p.2=false/\∀d,o=some d->6<d)
theorem Mm {α:Type} {l:List α} {j:Nat} {x:α} (h:l[j]? = some x):l.drop j=x::l.drop (j+1):=by have hj:=Eg h;rw[drop_eq_getElem_cons hj];rw[Bs hj]at h;rw[Fp h]
theorem A5f (J:Szv data) (L:Ml data):∀k:Nat, (∀(i:Ah) (t:Af),2*Bv i<=k->Bv i<=1048576->B3 t<=200->∃p,R3 k data t i=some p/\Pr p (Di data i t)) /\ (∀(is:List Ah) (ts:List Af),2*Cb is+1<=k->Cb is<=1048576->(∀t∈ts,B3 t<=200)->∃p,R6 k data ts is=some p/\Pr p (Cx data is ts)):=by
 intro k;induction k with
 | zero=>exact⟨λi t h=>by have:=El i;omega,λis ts h=>ω⟩
 | succ k ih=>
  obtain⟨X,G⟩:=ih;constructor
  .intro i t hk hi ht;have a6:=El i;have Y:=Pi i.K;rw[R3,Lu];by_cases N:t.G=6
   .simp only[Eu N,Am,Av N];by_cases h0:i.U=0
    .simp only[Gb h0,Aq,Av h0];obtain⟨p,p1,p2⟩:=G i.K t.R ω ω (λa ha=>by have:=Kc ha;have:=J0 t;omega);rw[p1];exact⟨p,rfl,p2⟩
    .simp only[F2 h0,Am,Ar h0];exact⟨_,rfl,.inr ⟨rfl,λd h=>by cases h⟩⟩
   .simp only[C3 N,Aq,Ar N];by_cases M:t.G=7
    .simp only[Eu M,Am,Av M];by_cases a1:0<=i.U
     .by_cases a2:i.U<=6
      .by_cases a3:i.K.length=0
       .rw[As (show i.U>=0 from a1),As a2,Av ⟨a1,a2,a3⟩];exact⟨_,rfl,.inl ⟨by simp[a3],i.U.toNat,rfl,ω,ζ⟩⟩
       .rw[As (show i.U>=0 from a1),As a2,Ar (λh=>a3 h.2.2)];exact⟨_,rfl,.inr ⟨C3 ω,λd h=>by cases h⟩⟩
      .rw[As (show i.U>=0 from a1),A5 a2,Ar (λh=>a2 h.2.1)];exact⟨_,rfl,.inr ⟨rfl,λd h=>by cases h⟩⟩
     .rw[A5 (show ¬i.U>=0 from a1),Ar (λh=>a1 h.1)];exact⟨_,rfl,.inr ⟨rfl,λd h=>by cases h⟩⟩
    .simp only[C3 M,Aq,Ar M];by_cases R:t.G=5
     .simp only[Eu R,Am,Av R];by_cases h0:i.U=0
      .simp only[Gb h0,Aq,Av h0];have key:∀(m j acc:Nat),j+m=i.K.length->acc<=6->∃z,Ak (S:=(Int×Int)) (E:=((Int×Bool)⊕Int)) (λ(v8,v9)=>
         bif v9<(i.K.length:Int) then ((Ag i.K v9).bind λv10=> (W8 data t v10.U).bind λv12=> bif (!v12.2) then some (.inr (.inl (0,false))) else ((R6 k data v12.1 v10.K).bind λA=> bif (!A.2) then some (.inr (.inl (0,false))) else (bif (Ac (v8+(Ac (1+A.1))))>(6:Int) then some (.inr (.inl (0,false))) else some (.inl ((Ac (v8+(Ac (1+A.1)))),(Ac (v9+1))))))) else some (.inr (.inr v8))) ((acc:Int),(j:Int))=some z/\(match z with|.inl p=>p=(0,false)/\∀d,(Fw data (i.K.drop j) t).map (acc + ·)=some d->6<d | .inr v=>∃d:Nat,(Fw data (i.K.drop j) t).map (acc + ·)=some d/\d<=6/\v=d):=by
        intro m;induction m with
        | zero=>intro j acc hj f;have:j=i.K.length:=ω;subst this;exact⟨.inr (acc:Int),Gf ψ,acc,by simp[Fw],f,rfl⟩
        | succ m s=>
         intro j acc hj f;have c:i.K[j]? = some i.K[j]:=Bs ω;generalize i.K[j]=e at c;have Z:=Kd (Bu c);have a7:=El e;rw[Mm c,U2];cases hp:Gx data t e.U with
         | none=>refine⟨.inl (0,false),Gf ?_,rfl,λd h=>by simp at h⟩;simp only[As (ω:(j:Int)<(i.K.length:Int)),Am,Br rfl c,Ad,Af3 J L t ht e.U,hp,okL,Bool.not_false]
         | some ts=>
          obtain⟨q,D,g⟩:=G e.K ts ω ω (Af4 hp).1;rcases g with⟨g,a,x,q4,V⟩|⟨g,x⟩
          .have U:Ac ((acc:Int)+Ac (1+q.1))=((acc+(1+a):Nat):Int):=(by rw[V,show Ac (1+(a:Int))=((1+a:Nat):Int) by rw[Ac,Cl] <;> omega,Ac,Cl] <;> omega);by_cases hb:acc+(1+a)<=6
           .obtain⟨z,l,z2⟩:=s (j+1) (acc+(1+a)) ω hb;refine⟨z,?_,?_⟩
            .rw[Lh (s':=(((acc+(1+a):Nat):Int),((j+1:Nat):Int)))]
             .exact l
             .simp only[As (ω:(j:Int)<(i.K.length:Int)),Am,Br rfl c,Ad,Af3 J L t ht e.U,hp,okL,bnt,Aq,D,g,U,A5 (ω:¬((acc+(1+a):Nat):Int)>6),C5 (show j<i.K.length by omega) ω]
            .have B:∀o:Option Nat,(((some a:Option Nat).bind λa=>o.map (1+a + ·)).map (acc + ·))=o.map (acc+(1+a) + ·):=(by intro o;cases o <;> simp[Nat.add_assoc]);rw[Ad,x,B];exact z2
           .refine⟨.inl (0,false),Gf ?_,rfl,λd h=>?_⟩
            .simp only[As (ω:(j:Int)<(i.K.length:Int)),Am,Br rfl c,Ad,Af3 J L t ht e.U,hp,okL,bnt,Aq,D,g,U,As (ω:((acc+(1+a):Nat):Int)>6)]
            .rw[Ad,x,Ad]at h;cases y:Fw data (i.K.drop (j+1)) t with| none=>rw[y]at h;cases h| some b=>rw[y]at h;simp at h;omega
          .refine⟨.inl (0,false),Gf ?_,rfl,λd h=>?_⟩
           .simp only[As (ω:(j:Int)<(i.K.length:Int)),Am,Br rfl c,Ad,Af3 J L t ht e.U,hp,okL,bnt,Aq,D,g,Bool.not_false]
           .rw[Ad]at h;cases ha:Cx data e.K ts with
            | none=>rw[ha]at h;cases h
            | some a=>rw[ha,Ad]at h;have:=x a ha;cases y:Fw data (i.K.drop (j+1)) t with| none=>rw[y]at h;cases h| some b=>rw[y]at h;simp at h;omega
       obtain⟨z,l,z2⟩:=key i.K.length 0 0 ω ω;have l:Ak _ ((0:Int),(0:Int))=some z:=l;rw[l,Ad];have B:∀o:Option Nat,o.map (0 + ·)=o:=(by intro o;cases o <;> simp);rw[drop_zero,B]at z2
       match z,z2 with| .inl p,z2=>exact⟨_,rfl,.inr ⟨by rw[z2.1],z2.2⟩⟩| .inr v,z2=>obtain⟨d,d1,d2,d3⟩:=z2;exact⟨_,rfl,.inl ⟨rfl,d,d1,d2,d3⟩⟩
      .simp only[F2 h0,Am,Ar h0];exact⟨_,rfl,.inr ⟨rfl,λd h=>by cases h⟩⟩
     .simp only[C3 R,Aq,Ar R];by_cases h0:i.U=0
      .simp only[Eu h0,Am];by_cases a3:i.K.length=0
       .rw[Av ⟨h0,a3⟩];exact⟨_,rfl,.inl ⟨by simp[a3],0,rfl,ω,rfl⟩⟩
       .rw[Ar (λh=>a3 h.2)];exact⟨_,rfl,.inr ⟨C3 ω,λd h=>by cases h⟩⟩
      .simp only[C3 h0,Aq];rw[Ar (λh=>h0 h.1)];exact⟨_,rfl,.inr ⟨rfl,λd h=>by cases h⟩⟩
  .intro is ts hk hi ht;have Y:=Pi is;rw[R6];by_cases hl:ts.length=is.length
   .rw[Gb ω];simp only[Aq];have key:∀(m j acc:Nat),j+m=is.length->acc<=6*j->∃z,Ak (S:=(Int×Int)) (E:=((Int×Bool)⊕Int)) (λ(v5,I)=>
      bif I<(ts.length:Int) then ((Ag ts I).bind λv7=> (Ag is I).bind λv9=> (R3 k data v7 v9).bind λv10=> bif (!v10.2) then some (.inr (.inl (0,false))) else some (.inl ((Ac (v5+v10.1)),(Ac (I+1))))) else some (.inr (.inr v5))) ((acc:Int),(j:Int))=some z/\(match z with|.inl p=>p=(0,false)/\∀d,(Cx data (is.drop j) (ts.drop j)).map (acc + ·)=some d->6<d | .inr v=>∃d:Nat,(Cx data (is.drop j) (ts.drop j)).map (acc + ·)=some d/\v=d):=by
     intro m;induction m with
     | zero=>intro j acc hj f;have:j=ts.length:=ω;subst this;refine⟨.inr (acc:Int),Gf ψ,acc,?_,rfl⟩;rw[drop_of_length_le ω,drop_of_length_le ω];simp[Cx]
     | succ m s=>
      intro j acc hj f;have c:is[j]? = some is[j]:=Bs ω;generalize is[j]=e at c;have hu:ts[j]? = some ts[j]:=Bs ω;generalize ts[j]=u at hu;have Z:=Kd (Bu c);rw[Mm c,Mm hu,Nm];obtain⟨q,D,g⟩:=X e u ω ω (ht u (Bu hu));rcases g with⟨g,a,x,q4,V⟩|⟨g,x⟩
      .have U:Ac ((acc:Int)+q.1)=((acc+a:Nat):Int):=(by rw[V,Ac,Cl] <;> omega);obtain⟨z,l,z2⟩:=s (j+1) (acc+a) ω ω;refine⟨z,?_,?_⟩
       .rw[Lh (s':=(((acc+a:Nat):Int),((j+1:Nat):Int)))]
        .exact l
        .simp only[As (ω:(j:Int)<(ts.length:Int)),Am,Br rfl c,Br rfl hu,Ad,bnt,Aq,D,g,U,C5 (show j<is.length by omega) ω]
       .have B:∀o:Option Nat,(((some a:Option Nat).bind λa=>o.map (a + ·)).map (acc + ·))=o.map (acc+a + ·):=(by intro o;cases o <;> simp[Nat.add_assoc]);rw[x,B];exact z2
      .refine⟨.inl (0,false),Gf ?_,rfl,λd h=>?_⟩
       .simp only[As (ω:(j:Int)<(ts.length:Int)),Am,Br rfl c,Br rfl hu,Ad,D,g,Bool.not_false]
       .cases ha:Di data e u with
        | none=>rw[ha]at h;cases h
        | some a=>rw[ha,Ad]at h;have:=x a ha;cases y:Cx data (is.drop (j+1)) (ts.drop (j+1)) with| none=>rw[y]at h;cases h| some b=>rw[y]at h;simp at h;omega
    obtain⟨z,l,z2⟩:=key is.length 0 0 ω ω;have l:Ak _ ((0:Int),(0:Int))=some z:=l;rw[l,Ad];have B:∀o:Option Nat,o.map (0 + ·)=o:=(by intro o;cases o <;> simp);rw[drop_zero,drop_zero,B]at z2
    match z,z2 with
    | .inl p,z2=>exact⟨_,rfl,.inr ⟨by rw[z2.1],z2.2⟩⟩
    | .inr v,z2=>
     obtain⟨d,d1,d3⟩:=z2;by_cases hd:d<=6
     .exact⟨_,rfl,.inl ⟨As ω,d,d1,hd,d3⟩⟩
     .exact⟨_,rfl,.inr ⟨A5 ω,λe c=>by rw[d1]at c;cases c;omega⟩⟩
   .rw[F2 ω,Ak8 data is ts hl];exact⟨_,rfl,.inr ⟨rfl,λd h=>by cases h⟩⟩
theorem Hw.cons8 (h:Hw data):∀x∈data,x.O.length<=8:=by intro x hx;obtain⟨d,hd⟩:=Hi hx;exact (h.2.1 d x hd).2.2.2.1
def Ev (n:Int):Prop:= -9223372036854775808<=n/\n<=9223372036854775807
def ti (n:Int):List Int:=(Lib.itoa n).map λc=>(c.toNat:Int)
def Qq (c:Int):Bool:=c==45||(decide (48<=c)&&decide (c<=57))
theorem Xp (h:d<10):(UInt8.ofNat (48+d)).toNat=48+d:=by rw[UInt8.toNat_ofNat'];omega
theorem Af5:∀(n u:Nat),u<=n->∀c∈Lib.decDigits u,48<=c.toNat/\c.toNat<=57:=by
 intro n;induction n with
 | zero=>intro u hu c hc;rw[Lib.decDigits,dif_pos ω]at hc;simp only[Ea]at hc;subst hc;rw[Xp ω];omega
 | succ n ih=>
  intro u hu c hc;rw[Lib.decDigits]at hc;split at hc
  .simp only[Ea]at hc;subst hc;rw[Xp ω];omega
  .rcases Ej.1 hc with h|h
   .exact ih (u / 10) ω c h
   .simp only[Ea]at h;subst h;rw[Xp ω];omega
def Af6 (l:List UInt8):Nat:=l.foldl (λa c=>10*a+(c.toNat-48)) 0
theorem As3:∀(n u:Nat),u<=n->Af6 (Lib.decDigits u)=u:=by
 intro n;induction n with
 | zero=>intro u hu;rw[Lib.decDigits,dif_pos ω];simp only[Af6,foldl_cons,foldl_nil];rw[Xp ω];omega
 | succ n ih=>
  intro u hu;rw[Lib.decDigits];split
  .simp only[Af6,foldl_cons,foldl_nil];rw[Xp ω];omega
  .have:=ih (u / 10) ω;unfold Af6 at *;rw[foldl_append,this];simp only[foldl_cons,foldl_nil];rw[Xp ω];omega
theorem As4 {u v:Nat} (h:Lib.decDigits u=Lib.decDigits v):u=v:=by rw[<-As3 u u (Nat.le_refl _),h,As3 v v (Nat.le_refl _)]
theorem A5g (u:Nat):Lib.decDigits u≠[]:=by rw[Lib.decDigits];split <;> simp
theorem A5h (h:Lib.itoa m=Lib.itoa n):m=n:=by
 have b:∀u v:Nat,45::Lib.decDigits u≠Lib.decDigits v:=by intro u v e;have:=Af5 v v (Nat.le_refl _) 45 (by rw[<-e];simp);exact absurd this δ
 unfold Lib.itoa at h;split at h <;> split at h
 .have:=As4 (List.cons.inj h).2;omega
 .exact absurd h (b _ _)
 .exact absurd h.symm (b _ _)
 .have:=As4 h;omega
theorem Jj (n:Int):∀c∈ti n,Qq c=true:=by
 intro c hc;unfold ti at hc;obtain⟨b,hb,rfl⟩:=mem_map.1 hc;have key:b=45\/(48<=b.toNat/\b.toNat<=57):=by
  unfold Lib.itoa at hb;split at hb
  .rcases Gi.1 hb with h|h
   .exact .inl h
   .exact .inr (Af5 _ _ (Nat.le_refl _) b h)
  .exact .inr (Af5 _ _ (Nat.le_refl _) b hb)
 unfold Qq;rcases key with rfl|⟨h1,h2⟩
 .decide
 .rw[Bool.or_eq_true,Ct,Du,Du];right;omega
theorem Af7 (n:Int):ti n≠[]:=by
 unfold ti Lib.itoa;split
 .simp
 .simpa using A5g _
theorem U4 (h:ti m=ti n):m=n:=by
 unfold ti at h;have:∀l m:List UInt8,l.map (λc=>(c.toNat:Int))=m.map (λc=>(c.toNat:Int))->l=m:=by
  intro l;induction l with
  | nil=>intro m h;cases m with|nil=>rfl|cons=>simp at h
  | cons x xs ih=>intro m h;cases m with| nil=>simp at h| cons y ys=>simp only[map_cons,List.cons.injEq]at h;rw[ih ys h.2,UInt8.toNat.inj (ω:x.toNat=y.toNat)]
 exact A5h (this _ _ h)
theorem Of (h:Ev n):(ti n).length<=21:=by unfold ti;rw[C1];exact Lib.itoa_length_le n h.1 h.2
def Sj (X:List Int):Prop:=∀c m,X=c::m->Qq c=false/\c≠40
def Mn (X:List Int):Prop:=∀c m,X=c::m->Qq c=false
theorem Qs:∀(a b X Y:List Int),(∀c∈a,Qq c=true)->(∀c∈b,Qq c=true)->Mn X->Mn Y->a++X=b++Y->a=b/\X=Y
 | [],[],_,_,_,_,_,_,h=>⟨rfl,h⟩
 | [],y::b,X,Y,_,hb,g,_,h=>by have:=g y (b++Y) h;rw[hb y ψ]at this;cases this
 | x::a,[],X,Y,ha,_,_,f,h=>by have:=f x (a++X) h.symm;rw[ha x ψ]at this;cases this
 | x::a,y::b,X,Y,ha,hb,g,f,h=>by simp only[D9,List.cons.injEq]at h;obtain⟨j,i⟩:=Qs a b X Y (λc hc=>ha c (by simp[hc])) (λc hc=>hb c (by simp[hc])) g f h.2;exact⟨by rw[h.1,j],i⟩
mutual
def wx:Ah->List Int
 | ⟨n,kids⟩=>ti n++(if kids.length=0 then [] else 40::(wxs kids++[41]))
def wxs:List Ah->List Int
 | []=>[]
 | x::xs=>wx x++44::wxs xs
end
theorem Af8 (i:Ah):wx i=ti i.U++(if i.K.length=0 then [] else 40::(wxs i.K++[41])):=by cases i;simp only[wx]
theorem As5 (l m:List Ah):wxs (l++m)=wxs l++wxs m:=by induction l with| nil=>simp[wxs]| cons x xs ih=>simp only[D9,wxs,ih,append_assoc]
theorem As6 (b:List Ah) (X:List Int) (f:Sj X):Mn ((if b.length=0 then [] else 40::(wxs b++[41]))++X):=by
 intro c m h;by_cases hk:b.length=0
 .rw[Av hk,nil_append]at h;exact (f c m h).1
 .rw[Ar hk,D9]at h;cases h;decide
theorem As7 (X:List Int):Sj (44::X):=by intro c m h;cases h;exact⟨δ,δ⟩
theorem Af9:Sj []:=by intro c m h;cases h
mutual
theorem Aga:∀(i j:Ah) (X Y:List Int),Sj X->Sj Y->wx i++X=wx j++Y->i=j/\X=Y
 | ⟨n,k⟩,⟨n',k'⟩,X,Y,hX,hY,h=>by
  simp only[wx,append_assoc]at h
  obtain⟨e1,e2⟩:=Qs _ _ _ _ (Jj n) (Jj n') (As6 k X hX) (As6 k' Y hY) h
  have e1:=U4 e1
  subst e1
  by_cases hk:k.length=0
  .by_cases hk':k'.length=0
   .rw[Av hk,Av hk']at e2
    rw[Gn.1 hk,Gn.1 hk']
    exact⟨rfl,e2⟩
   .rw[Av hk,Ar hk',nil_append,D9]at e2
    exact absurd rfl (hX _ _ e2).2
  .by_cases hk':k'.length=0
   .rw[Ar hk,Av hk',nil_append,D9]at e2
    exact absurd rfl (hY _ _ e2.symm).2
   .rw[Ar hk,Ar hk',D9,D9,append_assoc,append_assoc]at e2
    obtain⟨e3,e4⟩:=As8 k k' X Y hX hY (List.cons.inj e2).2
    rw[e3];exact⟨rfl,e4⟩
theorem As8:∀(l m:List Ah) (X Y:List Int),Sj X->Sj Y->wxs l++([41]++X)=wxs m++([41]++Y)->l=m/\X=Y
 | [],[],X,Y,_,_,h=>by
  simp only[wxs,nil_append,D9,List.cons.injEq,true_and]at h
  exact⟨rfl,h⟩
 | [],y::ys,X,Y,_,_,h=>by
  exfalso
  cases ht:ti y.U with
  | nil=>exact Af7 _ ht
  | cons c r=>
   have hc:=Jj y.U c (by rw[ht];simp)
   simp only[wxs,Af8 y,ht,nil_append,D9,List.cons.injEq]at h
   rw[<-h.1]at hc;exact absurd hc δ
 | x::xs,[],X,Y,_,_,h=>by
  exfalso
  cases ht:ti x.U with
  | nil=>exact Af7 _ ht
  | cons c r=>
   have hc:=Jj x.U c (by rw[ht];simp)
   simp only[wxs,Af8 x,ht,nil_append,D9,List.cons.injEq]at h
   rw[h.1]at hc;exact absurd hc δ
 | x::xs,y::ys,X,Y,hX,hY,h=>by
  simp only[wxs,append_assoc,D9]at h
  obtain⟨e1,e2⟩:=Aga x y _ _ (As7 _) (As7 _) h
  obtain⟨e3,e4⟩:=As8 xs ys X Y hX hY (by simpa using e2)
  exact⟨by rw[e1,e3],e4⟩
end
mutual
def iR:Ah->Prop
 | ⟨n,l⟩=>Ev n/\E6 l
def E6:List Ah->Prop
 | []=>True
 | x::xs=>iR x/\E6 xs
end
theorem Og (i:Ah):iR i↔Ev i.U/\E6 i.K:=by cases i;simp only[iR]
theorem Alb {l:List Ah} (h:E6 l) {a:Ah} (ha:a∈l):iR a:=by
 induction l with
 | nil=>cases ha
 | cons x xs ih=>
  simp only[E6]at h;rcases Gi.1 ha with rfl|ha
  .exact h.1
  .exact ih h.2 ha
mutual
theorem Alc:∀i:Ah,iR i->(wx i).length+1<=24*Bv i
 | ⟨n,l⟩,h=>by
  simp only[iR]at h
  have h1:=Agb l h.2
  have h2:=Of h.1
  simp only[wx,Bv,Ek]
  by_cases hl:l.length=0
  .rw[Av hl];simp;omega
  .rw[Ar hl];simp;omega
theorem Agb:∀l:List Ah,E6 l->(wxs l).length<=24*Cb l
 | [],_=>by simp[wxs,Cb]
 | x::xs,h=>by
  simp only[E6]at h
  have h1:=Alc x h.1
  have h2:=Agb xs h.2
  have h3:=El x
  simp only[wxs,Cb,Ek,D6];omega
end
theorem U5 (l m:List Ah):Cb (l++m)=Cb l+Cb m:=by induction l with| nil=>simp[Cb]| cons x xs ih=>simp only[D9,Cb,ih];omega
theorem Ald (l m:List Ah):E6 (l++m)↔E6 l/\E6 m:=by induction l with| nil=>simp[E6]| cons x xs ih=>simp only[D9,E6,ih,and_assoc]
theorem Ale {n:Int} (h:Ev n):Px n=some ⟨(Lib.itoa n).toArray⟩:=by unfold Px;rw[Av (show _/\_ from h)]
theorem A5i (n:Int):N6 ⟨(Lib.itoa n).toArray⟩=ti n:=by unfold N6 ti;simp
theorem As9:∀(k:Nat) (i:Ah) (b:List Int),Bv i<=k->iR i->b.length+24*Bv i<=1099511627776->O8 k i b=some (b++wx i):=by
 intro k;induction k with
 | zero=>intro i b h;have:=El i;omega
 | succ k ih=>
  intro i b h c hb;have hi:=El i;have z:=Pi i.K;have c:=(Og i).1 c;have B:=Of c.1;rw[O8,Af8];simp only[Je,Ale c.1,Ad,Hm,Xe,A5i];rw[D2 ω];simp only[Ad];by_cases h0:i.K.length=0
  .rw[A5 ω,Av h0];simp
  .rw[As ω,Ar h0];simp only[Am,Ng,Xe,Ad];rw[D2 ζ,Ad];have g:=Agb i.K c.2;have l:∀j,(wxs (i.K.take j)).length<=24*Cb i.K:=λj=>by have:=As5 (i.K.take j) (i.K.drop j);rw[take_append_drop]at this;rw[this,Ek]at g;omega
   refine F6 i.K (λj=>((j:Int),b++ti i.U++[40]++wxs (i.K.take j))) (by simp[wxs]) ω ?_ ?_
   .intro j x hj hx h1 h2 h3;have A:=Kd (Bu hx);have f:=Alb c.2 (Bu hx);have y:=Alc x f;have hh:=l (j+1);have e:wxs (i.K.take (j+1))=wxs (i.K.take j)++(wx x++[44]):=(by rw[C4 hx,As5];simp[wxs]);rw[e]at hh;simp only[Ek,D6,length_nil]at hh;simp only[h1,h2,h3,Am,Ad];have u:Cb (i.K.take j)+Bv x<=Cb i.K:=(by have q:=U5 (i.K.take (j+1)) (i.K.drop (j+1));rw[take_append_drop,C4 hx,U5]at q;simp only[Cb]at q;omega);have s:(wxs (i.K.take j)).length<=24*Cb (i.K.take j):=Agb _ (by have:=(Ald (i.K.take j) (i.K.drop j)).1 (by rw[take_append_drop];exact c.2);exact this.1);rw[ih x _ ω f ζ];simp only[Ad];rw[D2 ζ,e];simp
   .intro h1;refine⟨b++ti i.U++[40]++wxs i.K,ψ,?_⟩;rw[D2 ζ];simp
def K5 (v:Int) (i:Ah):List Int:=118::(ti v++58::wx i)
def Pk (v:Int) (i:Ah):ByteArray:=⟨(Fm (K5 v i)).toArray⟩
mutual
theorem Alf:∀i:Ah,∀c∈wx i,0<=c/\c<256
 | ⟨n,l⟩,c,h=>by
  simp only[wx,Ej]at h
  rcases h with h|h
  .have:=Jj n c h
   simp only[Qq,Bool.or_eq_true,Ct,beq_iff_eq,Du]at this
   omega
  .by_cases hl:l.length=0
   .rw[Av hl]at h;cases h
   .rw[Ar hl]at h
    simp only[Gi,Ej,not_mem_nil,or_false]at h
    rcases h with h|h|h
    .omega
    .exact Ata l c h
    .omega
theorem Ata:∀l:List Ah,∀c∈wxs l,0<=c/\c<256
 | [],c,h=>by simp[wxs]at h
 | x::xs,c,h=>by
  simp only[wxs,Ej,Gi]at h
  rcases h with h|h|h
  .exact Alf x c h
  .omega
  .exact Ata xs c h
end
theorem Agc (v:Int) (i:Ah):∀c∈K5 v i,0<=c/\c<256:=by
 intro c h;simp only[K5,Gi,Ej]at h;rcases h with h|h|h|h
 .omega
 .have:=Jj v c h;simp only[Qq,Bool.or_eq_true,Ct,beq_iff_eq,Du]at this;omega
 .omega
 .exact Alf i c h
theorem Alg:∀l m:List Int,(∀c∈l,0<=c/\c<256)->(∀c∈m,0<=c/\c<256)->Fm l=Fm m->l=m
 | [],[],_,_,_=>rfl
 | [],_::_,_,_,h=>by simp[Fm]at h
 | _::_,[],_,_,h=>by simp[Fm]at h
 | x::xs,y::ys,h1,h2,h=>by simp only[Fm,map_cons,List.cons.injEq]at h;have hx:=h1 x ψ;have hy:=h2 y ψ;have e:x.toNat=y.toNat:=(by have:=congrArg UInt8.toNat h.1;rw[UInt8.toNat_ofNat',UInt8.toNat_ofNat']at this;omega);rw[Alg xs ys (λc hc=>h1 c (by simp[hc])) (λc hc=>h2 c (by simp[hc])) h.2,show x=y by omega]
theorem A5j {v w:Int} {i j:Ah} (h:Pk v i=Pk w j):v=w/\i=j:=by
 unfold Pk at h;have h1:(Fm (K5 v i)).toArray=(Fm (K5 w j)).toArray:=by injection h
 have h2:Fm (K5 v i)=Fm (K5 w j):=by simpa using congrArg Array.toList h1
 have h3:=Alg _ _ (Agc v i) (Agc w j) h2;simp only[K5,List.cons.injEq,true_and]at h3;have b:∀X:List Int,Mn (58::X):=λX c m e=>by cases e;decide
 obtain⟨k,g⟩:=Qs _ _ _ _ (Jj v) (Jj w) (b _) (b _) h3;obtain⟨f,_⟩:=Aga i j [] [] Af9 Af9 (by simpa using (List.cons.inj g).2);exact⟨U4 k,f⟩
theorem A5k (l:List UInt8):N6 ⟨l.toArray⟩=l.map λb=>(b.toNat:Int):=by unfold N6;simp
theorem Agd (v:Int) (i:Ah) (hv:Ev v) (f:iR i) (hi:Bv i<=1048576):Mg v i=some (Pk v i):=by
 have k:=Of hv;have c:(Lib.itoa v).length=(ti v).length:=by unfold ti;simp
 unfold Mg;have j:Gt (ByteArray.mk #[118]) ⟨(Lib.itoa v).toArray⟩=some ⟨(118::Lib.itoa v).toArray⟩:=by
  unfold Gt;rw[Av]
  .congr 1
  .show 1+(Lib.itoa v).toArray.size<=9223372036854775807;rw[size_toArray];omega
 have h:Gt ⟨(118::Lib.itoa v).toArray⟩ (ByteArray.mk #[58])=some ⟨(118::(Lib.itoa v++[58])).toArray⟩:=by
  unfold Gt;rw[Av]
  .congr 1
  .show (118::Lib.itoa v).toArray.size+1<=9223372036854775807;rw[size_toArray,D6];omega
 simp only[Je,Ale hv,Ad,j,h,Kb,Z8,A5k];rw[D2 ζ];simp only[Ad];rw[As9 4000000 i _ ω f ζ];simp only[Ad,L0];have g:([]++(118::(Lib.itoa v++[58])).map λb=>(b.toNat:Int))++wx i=K5 v i:=by unfold K5 ti;simp
 rw[g];unfold Yw Pk;rw[Av (Agc v i)];rfl
end Go.Ab
