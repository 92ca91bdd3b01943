/- Plain laws: what the plain functions answer. -/
import Derived.Test.YtkafffjlpedijaaGreatDoorWtDef
namespace Go.Ab
open Go
theorem Ad {α β:Type} (a:α) (f:α->Option β):(some a).bind f=f a:=rfl
theorem Bx {α:Type} {l:List α} {i:Nat} (h:i<l.length):l[i]? = some l[i]:=List.getElem?_eq_getElem h
theorem Cf {α:Type} {l:List α} {i:Nat} {a:α} (h:l[i]? = some a):a∈l:=List.mem_of_getElem? h
theorem Ck (a b:Bool):((a&&b)=true)=(a=true/\b=true):=Bool.and_eq_true a b
theorem Dz:(!true)=false:=rfl
theorem Ak {α:Type _} (a b:α):(bif true then a else b)=a:=rfl
theorem Am {α:Type _} (a b:α):(bif false then a else b)=b:=rfl
theorem C8 {p:Prop} [Decidable p]:(decide p=true)=p:=decide_eq_true_eq
theorem Av {c:Prop} {h:Decidable c} (hc:¬c) {α:Type _} {t e:α}:(if c then t else e)=e:=if_neg hc
theorem Ay {c:Prop} {h:Decidable c} (hc:c) {α:Type _} {t e:α}:(if c then t else e)=t:=if_pos hc
theorem Cg (a b:Nat):a<b\/a>=b:=Nat.lt_or_ge a b
theorem Dh {α:Type _} {l:List α}:l.take l.length=l:=List.take_length
theorem Iw {α:Type _} {i:Nat} {l:List α} (h:l.length<=i):l.take i=l:=List.take_of_length_le h
theorem Fa {α:Type _} {l:List α}:l.length=0↔l = []:=List.length_eq_zero_iff
theorem Gz {α:Type _} {a:α} {l:List α} (h:a∈l):∃i:Nat,l[i]? = some a:=List.getElem?_of_mem h
theorem D2 {α:Type _} {p:α->Bool} {l:List α}:l.all p=true↔∀x,x∈l->p x=true:=List.all_eq_true
theorem D7 {α:Type _} {a:α} {s t:List α}:a∈s++t↔a∈s\/a∈t:=List.mem_append
theorem Ix {α β:Type _} {l:List α} (f:α->β):(l.map f).length=l.length:=List.length_map f
theorem Fj {α:Type _} {a b:α} (h:some a=some b):a=b:=Option.some.inj h
theorem Du {α:Type _} {a:α} {s t:List α}:a::s++t=a::(s++t):=rfl
theorem Dw {α:Type _} {a b:α}:a∈[b]↔a=b:=List.mem_singleton
theorem Fx {α:Type _} {b:α} {l:List α} {a:α}:a∈b::l↔a=b\/a∈l:=List.mem_cons
theorem Ei {α:Type _} {a:α} {l:List α}:(a::l).length=l.length+1:=rfl
theorem Fb {α:Type _} {s t:List α}:(s++t).length=s.length+t.length:=List.length_append
theorem Kv {α:Type _} {l:List α} {i:Nat} (h:l.length<=i):l[i]? = none:=List.getElem?_eq_none h
theorem Jn {S E R:Type} {step:S->Option (S⊕E)} {s:S} {J:E->Option R} {r:R} (c:S->Prop) (m:S->Nat) (b:E->Prop) (h0:c s) (f:∀s,c s->(∃s',step s=some (.inl s')/\c s'/\m s' < m s)\/(∃e,step s=some (.inr e)/\b e)) (g:∀e,b e->J e=some r):(An step s).bind J=some r:=by obtain⟨e,h1,h2⟩:=Lb c m b f s h0;rw[h1];exact g e h2
theorem Ej {S E R:Type} {step:S->Option (S⊕E)} {s:S} {J:E->Option R} {Q:R->Prop} (c:S->Prop) (m:S->Nat) (b:E->Prop) (h0:c s) (f:∀s,c s->(∃s',step s=some (.inl s')/\c s'/\m s' < m s)\/(∃e,step s=some (.inr e)/\b e)) (g:∀e,b e->∃r,J e=some r/\Q r):∃r,(An step s).bind J=some r/\Q r:=by obtain⟨e,h1,h2⟩:=Lb c m b f s h0;rw[h1];exact g e h2
theorem Ww {S E:Type} {X:Option (S⊕E)} {Q:S->Prop} (h:∃r,X=some r/\∃s',r = .inl s'/\Q s'):∃s',X=some (.inl s')/\Q s':=by obtain⟨r,h1,s',rfl,h2⟩:=h;exact⟨s',h1,h2⟩
theorem A2w {S E:Type} {X:Option (S⊕E)} {Q:E->Prop} (h:∃r,X=some r/\∃e,r = .inr e/\Q e):∃e,X=some (.inr e)/\Q e:=by obtain⟨r,h1,s',rfl,h2⟩:=h;exact⟨s',h1,h2⟩
theorem Aej {A R:Type} {X:Option R} (f:A->R) {Q:A->Prop} (h:∃r,X=some r/\∃a,r=f a/\Q a):∃a,X=some (f a)/\Q a:=by obtain⟨r,h1,a,rfl,h2⟩:=h;exact⟨a,h1,h2⟩
theorem A2x {α β:Type} {c:Prop} [Decidable c] (a b:Option α) (f:α->Option β):(if c then a else b).bind f=if c then a.bind f else b.bind f:=by split <;> rfl
theorem B3 {n:Int} (h1 : -9223372036854775808<=n) (h2:n<=9223372036854775807):IntKind.i64.wrap n=n:=by
 have e:IntKind.i64.wrap n=if 9223372036854775808<=n % 18446744073709551616 then n % 18446744073709551616-18446744073709551616 else n % 18446744073709551616:=by simp[IntKind.wrap,IntKind.bits,IntKind.signed]
 rw[e];split <;> omega
theorem Df {n:Int} (h1:0<=n) (h2:n<=18446744073709551615):IntKind.u64.wrap n=n:=by
 have e:IntKind.u64.wrap n=n % 18446744073709551616:=by simp[IntKind.wrap,IntKind.bits,IntKind.signed]
 rw[e];omega
theorem Gg {n:Int} (h1:0<=n) (h2:n<=4294967295):IntKind.u32.wrap n=n:=by
 have e:IntKind.u32.wrap n=n % 4294967296:=by simp[IntKind.wrap,IntKind.bits,IntKind.signed]
 rw[e];omega
theorem D3 {α:Type} {l:List α} {i:Int} {n:Nat} (hi:i=n) (h:n<l.length):Af l i=some l[n]:=by subst hi;simp[Af,h]
theorem Bv {α:Type} {l:List α} {i:Int} {n:Nat} {x:α} (hi:i=n) (h:l[n]? = some x):Af l i=some x:=by subst hi;simp[Af,h]
theorem Aek {α:Type} {l:List α} {i:Int} (h:i<0\/(l.length:Int)<=i):Af l i=none:=by
 unfold Af;split
 .rw[Kv];omega
 .rfl
theorem G0 {α:Type} {l:List α} {i:Int} {n:Nat} (hi:i=n) (x:α):Cu l i x=l.set n x:=by subst hi;simp[Cu]
theorem Dm {α:Type} {b:Nat} {xs ys:List α} (h:(xs.length+ys.length)*b<=140737488355328):Cj b xs ys=some (xs++ys):=by simp[Cj,h]
theorem Ka {α:Type} {b:Nat} {len f:Int} {z:α} {n c:Nat} (h1:len=n) (h2:f=c) (h3:n<=c) (g:b*c<=281474976710656) (h:c<=140737488355328):F4 b len f z=some (List.replicate n z):=by subst h1;subst h2;have a1:(0:Int)<=(n:Int):=ω;have a2:(n:Int)<=(c:Int):=ω;have a3:(c:Int)<=140737488355328:=ω;simp[F4,a2,a3,g]
theorem Ai9 {α:Type} {b:Nat} {f:Int} {z:α} {c:Nat} (h2:f=c) (h:b*c<=281474976710656) (g:c<=140737488355328):F4 b 0 f z=some []:=by exact Ka (len:=0) (n:=0) (c:=c) rfl h2 ω h g
theorem Cn {a b:Int} (h:a≠b):(a==b)=false:=by simpa using h
theorem Dk {a b:Int} (h:a=b):(a==b)=true:=by simpa using h
theorem Ek {a b:Int} (h:a≠b):(a != b)=true:=by simpa using h
theorem Fc {a b:Int} (h:a=b):(a != b)=false:=by simpa using h
theorem Ap {p:Prop} [Decidable p] (h:p):decide p=true:=decide_eq_true h
theorem Ax {p:Prop} [Decidable p] (h:¬p):decide p=false:=decide_eq_false h
theorem Ael {α:Type} {l:List α} {hi:Int} {n:Nat} (h:hi=n) (b:n<=l.length):F7 l 0 hi=some (l.take n):=by subst h;have:(n:Int)<=(l.length:Int):=ω;simp[F7,this]
theorem Lk {a b:Int} (ha:0<=a) (hb:0<b):Hx a b=some (a % b):=by have:b≠0:=ω;simp[Hx,this,Int.tmod_eq_emod_of_nonneg ha]
theorem L9 {a b:Int} (ha:0<=a) (ha':a<=18446744073709551615) (hb:0<b):G8 .u64 a b=some (a / b):=by have:b≠0:=ω;have h1:0<=a / b:=Int.ediv_nonneg ha ω;have h2:a / b<=a:=Int.ediv_le_self _ ha;simp[G8,this,Int.tdiv_eq_ediv_of_nonneg ha];exact Df h1 ω
theorem Aja {a b:Int} (ha:0<=a) (ha':a<=4294967295) (hb:0<b):G8 .u32 a b=some (a / b):=by have:b≠0:=ω;have h1:0<=a / b:=Int.ediv_nonneg ha ω;have h2:a / b<=a:=Int.ediv_le_self _ ha;simp[G8,this,Int.tdiv_eq_ediv_of_nonneg ha];exact Gg h1 ω
def Al:List Int->Int
 | []=>0
 | d::l=>d+1000000000*Al l
def Cb (l:List Int):Prop:=∀d∈l,0<=d/\d<1000000000
def Ma (l:List Int):Prop:=∀d∈l,0<=d/\d<4294967296
def Can (l:List Int):Prop:=Cb l/\∀h:l≠[],l.getLast h≠0
def Ag (n:Nat):List Int:=if h:n=0 then [] else ((n % 1000000000:Nat):Int)::Ag (n / 1000000000)
termination_by n
decreasing_by exact Nat.div_lt_self ω δ
theorem Gq:Ag 0 = []:=by rw[Ag];simp
theorem N0 {n:Nat} (h:n≠0):Ag n=((n % 1000000000:Nat):Int)::Ag (n / 1000000000):=by rw[Ag];simp[h]
theorem Cb.nil:Cb []:=λ_ h=>by cases h
theorem Cb.append {l m:List Int} (h:Cb l) (h':Cb m):Cb (l++m):=by
 intro d hd;rcases D7.1 hd with hd|hd
 .exact h d hd
 .exact h' d hd
theorem Cb.one {d:Int} (h:0<=d) (h':d<1000000000):Cb [d]:=by intro x hx;simp at hx;subst hx;exact⟨h,h'⟩
theorem Cb.snoc {l:List Int} {d:Int} (h:Cb l) (hd:0<=d) (b:d<1000000000):Cb (l++[d]):=h.append (Cb.one hd b)
theorem Cb.take {l:List Int} (h:Cb l) (k:Nat):Cb (l.take k):=λd hd=>h d (List.mem_of_mem_take hd)
theorem Cb.drop {l:List Int} (h:Cb l) (k:Nat):Cb (l.drop k):=λd hd=>h d (List.mem_of_mem_drop hd)
theorem Cb.get {l:List Int} (h:Cb l) {i:Nat} (hi:i<l.length):0<=l[i]/\l[i]<1000000000:=h _ (List.getElem_mem hi)
theorem Cb.set {l:List Int} (h:Cb l) (i:Nat) {d:Int} (hd:0<=d) (b:d<1000000000):Cb (l.set i d):=by
 intro x hx;rcases List.mem_or_eq_of_mem_set hx with hx|rfl
 .exact h x hx
 .exact⟨hd,b⟩
theorem Cb.replicate (n:Nat):Cb (List.replicate n 0):=by intro d hd;have:=List.eq_of_mem_replicate hd;subst this;decide
theorem Cb.tail {d:Int} {l:List Int} (h:Cb (d::l)):Cb l:=λx hx=>h x (by simp[hx])
theorem Cb.u32 {l:List Int} (h:Cb l):Ma l:=λd hd=>by have:=h d hd;omega
theorem Aqp (l m:List Int):Al (l++m)=Al l+1000000000 ^ l.length*Al m:=by induction l with| nil=>simp[Al]| cons d l ih=>simp only[Du,Al,ih,Ei,Int.pow_succ];grind
theorem Ll (l:List Int) (d:Int):Al (l++[d])=Al l+1000000000 ^ l.length*d:=by rw[Aqp];simp[Al]
theorem Gi (l:List Int) {k:Nat} (h:k<l.length):Al (l.take (k+1))=Al (l.take k)+1000000000 ^ k*l[k]:=by rw[List.take_succ_eq_append_getElem h,Ll];simp[Nat.min_eq_left (Nat.le_of_lt h)]
theorem Aem (n:Nat):Al (List.replicate n 0)=0:=by induction n with| zero=>rfl| succ n ih=>simp[List.replicate_succ,Al,ih]
theorem Ox (l:List Int) (k:Nat) (h:k<=l.length):Al l=Al (l.take k)+1000000000 ^ k*Al (l.drop k):=by have e:=Aqp (l.take k) (l.drop k);rw[List.take_append_drop]at e;rw[e,List.length_take,Nat.min_eq_left h]
theorem M4 (l:List Int) {i:Nat} (h:i<l.length) (d:Int):Al (l.set i d)=Al l+1000000000 ^ i*(d-l[i]):=by
 induction l generalizing i with
 | nil=>simp at h
 | cons x l ih=>cases i with| zero=>simp[Al];omega| succ i=>have hi:i<l.length:=(by simpa using h);simp only[List.set_cons_succ,Al,ih hi,List.getElem_cons_succ,Int.pow_succ];grind
theorem Hs {l:List Int} (h:Ma l):0<=Al l:=by induction l with| nil=>simp[Al]| cons d l ih=>have h1:=h d ψ;have h2:=ih (λx hx=>h x (by simp[hx]));simp only[Al];omega
theorem Lm (n:Nat):(0:Int)<1000000000 ^ n:=Int.pow_pos δ
theorem Kw {l:List Int} (h:Cb l):Al l<1000000000 ^ l.length:=by induction l with| nil=>simp[Al]| cons d l ih=>have h1:=h d ψ;have h2:=ih h.tail;simp only[Al,Ei,Int.pow_succ];omega
theorem Fy (n:Nat):Al (Ag n)=n:=by
 induction n using Nat.strongRecOn with
 | _ n ih=>
  by_cases h:n=0
  .subst h;rw[Gq];rfl
  .rw[N0 h,Al,ih (n / 1000000000) (Nat.div_lt_self ω δ)];omega
theorem Fh (n:Nat):Cb (Ag n):=by
 induction n using Nat.strongRecOn with
 | _ n ih=>
  by_cases h:n=0
  .subst h;rw[Gq];exact Cb.nil
  .rw[N0 h];intro d hd;simp at hd;rcases hd with rfl|hd
   .omega
   .exact ih (n / 1000000000) (Nat.div_lt_self ω δ) d hd
theorem Jo {n:Nat} (h:n≠0):Ag n≠[]:=by rw[N0 h];simp
theorem Aen (n:Nat):Can (Ag n):=by
 refine⟨Fh n,?_⟩;induction n using Nat.strongRecOn with
 | _ n ih=>
  intro b;have h:n≠0:=λe=>b (by rw[e];exact Gq);have hc:=N0 h;by_cases h2:n / 1000000000=0
  .have c:Ag n = [((n % 1000000000:Nat):Int)]:=(by rw[hc,h2,Gq]);simp only[c,List.getLast_singleton];omega
  .have:=ih (n / 1000000000) (Nat.div_lt_self ω δ) (Jo h2);simp only[hc];rwa [List.getLast_cons (Jo h2)]
theorem Ajb {l:List Int} (h:Can l):Ag (Al l).toNat=l:=by induction l with| nil=>exact Gq| cons d l ih=>obtain⟨h1,h2⟩:=h;have hd:=h1 d ψ;have f:Can l:=(by refine⟨h1.tail,λb=>?_⟩;have:=h2 ψ;rwa [List.getLast_cons b]at this);have hv:=Hs (h1.tail).u32;have b:(Al (d::l)).toNat≠0:=(by intro e;simp only[Al]at e;have c:d=0:=ω;have hv:Al l=0:=ω;have:l = []:=(by rw[<-ih f,hv];exact Gq);subst this;exact h2 ψ (by simpa using c));rw[N0 b];simp only[Al];have i:((d+1000000000*Al l).toNat % 1000000000:Nat)=d.toNat:=ω;have g:(d+1000000000*Al l).toNat / 1000000000=(Al l).toNat:=ω;rw[i,g,ih f];congr 1;omega
theorem Aeo {l:List Int} {n:Nat} (h:Can l) (hv:Al l=n):l=Ag n:=by rw[<-Ajb h,hv];rfl
def H9:List Int->List Int
 | []=>[]
 | d::l=>match H9 l with
  | []=>if d=0 then [] else [d]
  | x::m=>d::x::m
theorem A2y (l:List Int):H9 (l++[0])=H9 l:=by induction l with| nil=>rfl| cons d l ih=>simp only[Du,H9,ih]
theorem A2z {l:List Int} {d:Int} (h:d≠0):H9 (l++[d])=l++[d]:=by
 induction l with
 | nil=>simp[H9,h]
 | cons x l ih=>simp only[Du,H9,ih];cases l with| nil=>rfl| cons y l=>rfl
theorem Aqq {l:List Int} (h:Cb l):Can (H9 l)/\Al (H9 l)=Al l:=by
 induction l with
 | nil=>exact⟨⟨Cb.nil,λh=>(h rfl).elim⟩,rfl⟩
 | cons d l ih=>
  obtain⟨⟨i1,i2⟩,i3⟩:=ih h.tail;have hd:=h d ψ;simp only[H9];cases ht:H9 l with
  | nil=>
   rw[ht]at i3;simp only[Al]at i3;simp only[];by_cases b:d=0
   .rw[Ay b];refine⟨⟨Cb.nil,λh=>(h rfl).elim⟩,?_⟩;simp only[Al];rw[<-i3];omega
   .rw[Av b];refine⟨⟨Cb.one hd.1 hd.2,λ_=>by simpa using b⟩,?_⟩;simp only[Al];rw[<-i3]
  | cons x m=>
   rw[ht]at i1 i2 i3;simp only[];refine⟨⟨?_,λ_=>?_⟩,?_⟩
   .intro y hy;rcases Fx.1 hy with rfl|hy
    .exact hd
    .exact i1 y hy
   .rw[List.getLast_cons ψ];exact i2 ψ
   .simp only[Al]at i3 ⊢;rw[i3]
theorem Mb {l:List Int} {n:Nat} (h:Cb l) (hv:Al l=n):H9 l=Ag n:=by obtain⟨h1,h2⟩:=Aqq h;exact Aeo h1 (h2.trans hv)
theorem A20 {l:List Int} (h:Can l):H9 l=l:=by obtain⟨h1,h2⟩:=Aqq h.1;rw[<-Ajb h1,h2,Ajb h]
def Bl (n:Nat):Nat:=(Ag n).length
theorem Ui:Bl 0=0:=by simp[Bl,Gq]
theorem Oy (n:Nat):n<1000000000 ^ Bl n:=by have:=Kw (Fh n);rw[Fy]at this;have e:((1000000000 ^ Bl n:Nat):Int)=1000000000 ^ Bl n:=ψ;unfold Bl at *;omega
theorem Kx {n k:Nat} (h:n<1000000000 ^ k):Bl n<=k:=by
 induction k generalizing n with
 | zero=>simp at h;subst h;simp[Ui]
 | succ k ih=>
  by_cases h0:n=0
  .subst h0;simp[Ui]
  .unfold Bl;rw[N0 h0,Ei];have:n / 1000000000<1000000000 ^ k:=(by rw[Nat.div_lt_iff_lt_mul δ];rwa [Nat.pow_succ]at h);have:=ih this;unfold Bl at this;omega
theorem Ia {m n:Nat} (h:m<=n):Bl m<=Bl n:=Kx (Nat.lt_of_le_of_lt h (Oy n))
theorem Aqr {n k:Nat} (h:k<Bl n):1000000000 ^ k<=n:=by
 rcases Cg n (1000000000 ^ k) with h'|h'
 .have:=Kx h';omega
 .exact h'
theorem Wx (m n:Nat):Bl (m+n)<=max (Bl m) (Bl n)+1:=by apply Kx;have h1:=Oy m;have h2:=Oy n;have h3:1000000000 ^ Bl m<=1000000000 ^ max (Bl m) (Bl n):=Nat.pow_le_pow_right δ (Nat.le_max_left _ _);have b:1000000000 ^ Bl n<=1000000000 ^ max (Bl m) (Bl n):=Nat.pow_le_pow_right δ (Nat.le_max_right _ _);rw[Nat.pow_succ];omega
theorem Hi (m n:Nat):Bl (m*n)<=Bl m+Bl n:=by apply Kx;rw[Nat.pow_add];exact Nat.mul_lt_mul_of_lt_of_le (Oy m) (Nat.le_of_lt (Oy n)) (Nat.pow_pos δ)
theorem Ajc (m n:Nat):Bl (m / n)<=Bl m:=Ia (Nat.div_le_self _ _)
theorem Aqs {m n:Nat} (h:Bl m<Bl n):m<n:=Nat.lt_of_lt_of_le (Oy m) (Aqr h)
theorem Aqt {l m:List Int} (f:Cb l) {k:Nat} (hk:k<l.length) (b:k<m.length) (hm:Cb m) (hd:l.drop (k+1)=m.drop (k+1)) (c:l[k]<m[k]):Al l<Al m:=by have i:=Ox l (k+1) hk;have h:=Ox m (k+1) b;rw[Gi l hk]at i;rw[Gi m b,<-hd]at h;have h3:=Kw (f.take k);have j:=Hs ((hm.take k).u32);rw[List.length_take,Nat.min_eq_left (Nat.le_of_lt hk)]at h3;have g:1000000000 ^ k*(l[k]+1)<=1000000000 ^ k*m[k]:=Int.mul_le_mul_of_nonneg_left c (Int.le_of_lt (Lm k));rw[Int.mul_add]at g;omega
theorem Iy {S E R:Type} {step:S->Option (S⊕E)} {s0:S} {J:E->Option R} {r:R} (n:Nat) (b:Nat->S) (h0:s0=b 0) (c:∀j,j<n->step (b j)=some (.inl (b (j+1)))) (f:∃e,step (b n)=some (.inr e)/\J e=some r):(An step s0).bind J=some r:=by
 have key:∀m,m<=n->An step (b 0)=An step (b m):=by intro m;induction m with| zero=>intro _;rfl| succ m ih=>intro h;rw[ih ω,Ir (c m ω)]
 obtain⟨e,h1,h2⟩:=f;rw[h0,key n (Nat.le_refl _),D5 h1];exact h2
theorem C9 {j n:Nat} (h:j<n) (b:n<4611686018427387904):Ac ((j:Int)+1)=((j+1:Nat):Int):=by rw[Ac,B3] <;> omega
theorem Aqu {α:Type} {l:List α} {p:α×Nat->Bool} (h:l.zipIdx.all p=false):∃j x,l[j]? = some x/\p (x,j)=false/\∀i y,i<j->l[i]? = some y->p (y,i)=true:=by
 have key:∀(n:Nat),(∀i y,i<n->l[i]? = some y->p (y,i)=true)\/∃j x,j<n/\l[j]? = some x/\p (x,j)=false/\∀i y,i<j->l[i]? = some y->p (y,i)=true:=by
  intro n;induction n with
  | zero=>exact .inl (λi y h=>ω)
  | succ n ih=>
   rcases ih with ih|⟨j,x,h1,h2,h3,b⟩
   .cases hx:l[n]? with
    | none=>exact .inl (λi y hi hy=>by
      rcases Cg i n with h|h
      .exact ih i y h hy
      .have:i=n:=ω
       subst this;rw[hx]at hy;cases hy)
    | some x=>
     cases hp:p (x,n) with
     | true=>exact .inl (λi y hi hy=>by
       rcases Cg i n with h|h
       .exact ih i y h hy
       .have:i=n:=ω
        subst this;rw[hx]at hy;cases hy;exact hp)
     | false=>exact .inr ⟨n,x,ω,hx,hp,ih⟩
   .exact .inr ⟨j,x,ω,h2,h3,b⟩
 rcases key l.length with hk|⟨j,x,h1,h2,h3,b⟩
 .exfalso;have:l.zipIdx.all p=true:=by
   rw[D2];rintro⟨y,i⟩ hy;have:=List.mk_mem_zipIdx_iff_getElem?.1 hy;have hi:i<l.length:=by
    rcases Cg i l.length with h|h
    .exact h
    .rw[Kv h]at this;cases this
   exact hk i y hi this
  rw[this]at h;cases h
 .exact⟨j,x,h2,h3,b⟩
theorem Iz {α:Type} {l:List α} {p:α×Nat->Bool} (h:l.zipIdx.all p=true) {j:Nat} {x:α} (hx:l[j]? = some x):p (x,j)=true := D2.1 h _ (List.mk_mem_zipIdx_iff_getElem?.2 hx)
theorem Ajd {α:Type} {l:List α} {p:α×Nat->Bool} (h:∀j x,l[j]? = some x->p (x,j)=true):l.zipIdx.all p=true:=by rw[D2];rintro⟨y,i⟩ hy;exact h i y (List.mk_mem_zipIdx_iff_getElem?.1 hy)
theorem Wy {S E R α:Type} {step:S->Option (S⊕E)} {s0:S} {J:E->Option R} {rt rf:R} (l:List α) (p:α×Nat->Bool) (b:Nat->S) (h0:s0=b 0) (g:l.length<4611686018427387904) (f:∀(j:Nat) (x:α),l[j]? = some x->(∀i y,i<j->l[i]? = some y->p (y,i)=true)->decide ((j:Int)<(l.length:Int))=true->Af l (j:Int)=some x->Ac ((j:Int)+1)=((j+1:Nat):Int) -> (p (x,j)=true->step (b j)=some (.inl (b (j+1))))/\(p (x,j)=false->∃e,step (b j)=some (.inr e)/\J e=some rf)) (q:decide ((l.length:Int)<(l.length:Int))=false->l.zipIdx.all p=true->∃e,step (b l.length)=some (.inr e)/\J e=some rt):(An step s0).bind J=some (bif l.zipIdx.all p then rt else rf):=by
 have c:∀(j:Nat) (x:α),l[j]? = some x->(∀i y,i<j->l[i]? = some y->p (y,i)=true)->_:=λj x hx hy=>
  have hj:j<l.length:=by
   rcases Cg j l.length with h|h
   .exact h
   .rw[Kv h]at hx;cases hx
  f j x hx hy (Ap ω) (Bv rfl hx) (C9 hj g)
 cases hb:l.zipIdx.all p with
 | true=>refine Iy l.length b h0 (λj hj=>?_) (q ψ hb);have hx:l[j]? = some l[j]:=Bx hj;exact (c j _ hx (λi y _ hy=>Iz hb hy)).1 (Iz hb hx)
 | false=>
  obtain⟨j,x,h1,h2,h3⟩:=Aqu hb;refine Iy j b h0 (λi hi=>?_) ((c j x h1 h3).2 h2);have hj:j<l.length:=by
   rcases Cg j l.length with h|h
   .exact h
   .rw[Kv h]at h1;cases h1
  have hx:l[i]? = some l[i]:=Bx ω;exact (c i _ hx (λk y hk hy=>h3 k y ω hy)).1 (h3 i _ hi hx)
theorem Aep {α:Type} (l:List α) (p:α->Bool):l.zipIdx.all (λq=>p q.1)=l.all p:=by
 cases h:l.all p with
 | true=>exact Ajd λj x hx=>D2.1 h _ (Cf hx)
 | false=>cases h':l.zipIdx.all (λq=>p q.1) with| false=>rfl| true=>rw[<-h];symm;rw[D2];intro x hx;obtain⟨j,hj⟩:=Gz hx;exact Iz h' hj
theorem Ky {S E R α:Type} {step:S->Option (S⊕E)} {s0:S} {J:E->Option R} {rt rf:R} (l:List α) (p:α->Bool) (b:Nat->S) (h0:s0=b 0) (f:l.length<4611686018427387904) (c:∀(j:Nat) (x:α),l[j]? = some x->decide ((j:Int)<(l.length:Int))=true->Af l (j:Int)=some x->Ac ((j:Int)+1)=((j+1:Nat):Int) -> (p x=true->step (b j)=some (.inl (b (j+1))))/\(p x=false->∃e,step (b j)=some (.inr e)/\J e=some rf)) (g:decide ((l.length:Int)<(l.length:Int))=false->∃e,step (b l.length)=some (.inr e)/\J e=some rt):(An step s0).bind J=some (bif l.all p then rt else rf):=by rw[<-Aep l p];exact Wy l (λq=>p q.1) b h0 f (λj x hx _=>c j x hx) (λh _=>g h)
theorem Ho {S E R α:Type} {step:S->Option (S⊕E)} {s0:S} {J:E->Option R} {r:R} (l:List α) (b:Nat->S) (h0:s0=b 0) (f:l.length<4611686018427387904) (c:∀(j:Nat) (x:α),j<l.length->l[j]? = some x->decide ((j:Int)<(l.length:Int))=true->Af l (j:Int)=some x->Ac ((j:Int)+1)=((j+1:Nat):Int)->step (b j)=some (.inl (b (j+1)))) (g:decide ((l.length:Int)<(l.length:Int))=false->∃e,step (b l.length)=some (.inr e)/\J e=some r):(An step s0).bind J=some r:=by refine Iy l.length b h0 (λj hj=>?_) (g ψ);have hx:l[j]? = some l[j]:=Bx hj;exact c j _ hj hx (Ap ω) (Bv rfl hx) (C9 hj f)
theorem Dc {α:Type} {l:List α} {j:Nat} {x:α} (h:l[j]? = some x):l.take (j+1)=l.take j++[x]:=by rw[List.take_add_one,h];rfl
theorem E4 {α:Type} {l:List α} {j:Nat} {x:α} (h:l[j]? = some x):j<l.length:=by
 rcases Cg j l.length with h'|h'
 .exact h'
 .rw[Kv h']at h;cases h
theorem N1 (b:Bool):(bif b then true else false)=b:=by cases b <;> rfl
theorem A21 (b:Bool):(bif b then false else true) = !b:=by cases b <;> rfl
theorem Aqv {A R:Type} {X:Option A} {f:A->Option R} {y:R} {Q:A->Prop} (h:∃r,X=some r/\Q r) (b:∀r,Q r->f r=some y):X.bind f=some y:=by obtain⟨r,h1,h2⟩:=h;rw[h1];exact b r h2
theorem Aeq {α:Type} (l:List α) (p:α->Bool) {step:Int->Option (Int⊕(Int⊕Unit))} {J:Int⊕Unit->Option Int} (k:l.length<4611686018427387904) (g:∀(j:Nat) (x:α),x∈l->decide ((j:Int)<(l.length:Int))=true->Af l (j:Int)=some x->Ac ((j:Int)+1)=((j+1:Nat):Int) -> step (j:Int)=bif p x then some (.inr (.inl (j:Int))) else some (.inl ((j+1:Nat):Int))) (q:decide ((l.length:Int)<(l.length:Int))=false->step (l.length:Int)=some (.inr (.inr ()))) (c:∀i,J (.inl i)=some i) (b:J (.inr ())=some (-1)):∃i,(An step 0).bind J=some i/\decide (i>=0)=l.any p:=by
 have key:(An step 0).bind (λz=>(J z).bind λi=>some (decide (i>=0)))=some (bif l.all (λx=>!p x) then false else true):=by refine Ky l (λx=>!p x) (λj=>(j:Int)) rfl k (λj x hx h1 h2 h3=>?_) (λh=>⟨.inr (),q h,by rw[b];rfl⟩);have h:=g j x (Cf hx) h1 h2 h3;simp only[h];cases p x with| true=>exact⟨nofun,λ_=>⟨.inl (j:Int),rfl,by simp only[c,Ad];rw[Ap ω]⟩⟩| false=>exact⟨λ_=>rfl,λh=>by cases h⟩
 have e:l.any p=(bif l.all (λx=>!p x) then false else true):=by rw[A21,List.not_all_eq_any_not];simp
 rw[e];cases f:An step 0 with
 | none=>rw[f]at key;cases key
 | some z=>rw[f,Ad]at key;rw[Ad];cases hi:J z with| none=>rw[hi]at key;cases key| some i=>rw[hi,Ad]at key;exact⟨i,rfl,Fj key⟩
theorem Aje {S E R α M:Type} {step:S->Option (S⊕E)} {s0:S} {J:E->Option R} (l:List α) (p:α×Nat->Bool) (b:Nat->M->S) (I:M->Prop) (z A:R->Prop) (g:M) (h0:s0=b 0 g) (h:I g) (D:l.length<4611686018427387904) (B:∀(j:Nat) (x:α) (m:M),I m->l[j]? = some x->(∀i y,i<j->l[i]? = some y->p (y,i)=true)->decide ((j:Int)<(l.length:Int))=true->Af l (j:Int)=some x->Ac ((j:Int)+1)=((j+1:Nat):Int) -> (p (x,j)=true->∃f,step (b j m)=some (.inl (b (j+1) f))/\I f)/\(p (x,j)=false->∃e,step (b j m)=some (.inr e)/\∃r,J e=some r/\A r)) (G:∀m,I m->decide ((l.length:Int)<(l.length:Int))=false->l.zipIdx.all p=true->∃e,step (b l.length m)=some (.inr e)/\∃r,J e=some r/\z r) : ∃r,(An step s0).bind J=some r/\((l.zipIdx.all p=true/\z r)\/(l.zipIdx.all p=false/\A r)):=by
 have c:∀(j:Nat) (x:α) (m:M),I m->l[j]? = some x->(∀i y,i<j->l[i]? = some y->p (y,i)=true)->_:=λj x m L hx hy=>
  have hj:j<l.length:=E4 hx
  B j x m L hx hy (Ap ω) (Bv rfl hx) (C9 hj D)
 have key:∀n,n<=l.length->(∀i y,i<n->l[i]? = some y->p (y,i)=true)->∃m,I m/\An step s0=An step (b n m):=by intro n;induction n with| zero=>intro _ _;exact⟨g,h,by rw[h0]⟩| succ n ih=>intro U hy;obtain⟨m,h1,h2⟩:=ih ω (λi y hi=>hy i y ω);have hx:l[n]? = some l[n]:=Bx ω;obtain⟨f,h3,k⟩:=(c n _ m h1 hx (λi y hi=>hy i y ω)).1 (hy n _ ω hx);exact⟨f,k,by rw[h2,Ir h3]⟩
 cases hb:l.zipIdx.all p with| true=>obtain⟨m,h1,h2⟩:=key l.length (Nat.le_refl _) (λi y _ hy=>Iz hb hy);obtain⟨e,u,r,s,q⟩:=G m h1 ψ hb;exact⟨r,by rw[h2,D5 u];exact s,.inl ⟨rfl,q⟩⟩| false=>obtain⟨j,x,h1,h2,h3⟩:=Aqu hb;obtain⟨m,k,N⟩:=key j (Nat.le_of_lt (E4 h1)) h3;obtain⟨e,u,r,s,q⟩:=(c j x m k h1 h3).2 h2;exact⟨r,by rw[N,D5 u];exact s,.inr ⟨rfl,q⟩⟩
theorem ξ {p:Prop} (h:p:=by rw[Ac,B3]<;>omega):p:=h
theorem Ry (l:List Int) (b:l.length<4611686018427387904):Lg l=some (H9 l):=by
 unfold Lg;refine Jn (λv=>∃k:Nat,v=k/\k<=l.length/\H9 (l.take k)=H9 l) (λv=>v.toNat) (λv=>∃k:Nat,v=k/\k<=l.length/\l.take k=H9 l) ⟨l.length,rfl,Nat.le_refl _,ψ⟩ ?_ ?_
 .rintro v ⟨k,rfl,hk,ht⟩;cases k with
  | zero=>exact .inr ⟨0,rfl,0,rfl,ω,by simpa[H9] using ht⟩
  | succ j=>
   have hw:Ac (((j+1:Nat):Int)-1)=(j:Int):=ξ;have hj:j<l.length:=ω;have hp:decide (((j+1:Nat):Int)>0)=true:=Ap ω;simp only[hp,Ak,hw,D3 rfl hj,Ad];rw[List.take_succ_eq_append_getElem hj]at ht;by_cases h0:l[j]=0
   .rw[h0,A2y]at ht;exact .inl ⟨j,by rw[Dk h0];rfl,⟨j,rfl,ω,ht⟩,ω⟩
   .rw[A2z h0]at ht;exact .inr ⟨((j+1:Nat):Int),by rw[Cn h0];rfl,j+1,rfl,ω,by rw[List.take_succ_eq_append_getElem hj];exact ht⟩
 .rintro v ⟨k,rfl,hk,ht⟩;rw[Ael rfl hk,ht];rfl
theorem Aqw (l:List Int) (hd:Ma l) (A:l.length<1099511627776):Vx l=some (Ag (Al l).toNat):=by
 unfold Vx;have f:Ac ((l.length:Int)+1)=((l.length+1:Nat):Int):=by rw[Ac,B3] <;> omega
 rw[f,Ai9 rfl ω ω];simp only[Ad];refine Jn (λ(c,i,o)=>∃k:Nat,i=k/\k<=l.length/\o.length=k/\Cb o/\0<=c/\c<5/\Al o+1000000000 ^ k*c=Al (l.take k)) (λ(_,i,_)=>l.length-i.toNat) (λ(c,o)=>o.length=l.length/\Cb o/\0<=c/\c<5/\Al o+1000000000 ^ l.length*c=Al l) ⟨0,rfl,ω,rfl,Cb.nil,ω,ω,by simp[Al]⟩ ?_ ?_
 .rintro⟨c,i,o⟩ ⟨k,rfl,hk,g,b,q,hc,hv⟩;rcases Cg k l.length with h|h
  .have hx:=hd l[k] (List.getElem_mem h);refine .inl ⟨((l[k]+c) / 1000000000,((k+1:Nat):Int),o++[(l[k]+c) % 1000000000]),?_,⟨k+1,rfl,ω,by simp[g],b.snoc ω ω,ω,ω,?_⟩,ζ⟩
   .have y:Ba l[k]=l[k]:=Df ω ω;have x:Ba (l[k]+c)=l[k]+c:=Df ω ω;have s:Cs ((l[k]+c) % 1000000000)=(l[k]+c) % 1000000000:=Gg ω ω;have e4:Ac ((k:Int)+1)=((k+1:Nat):Int):=ξ;have u:decide ((k:Int)<(l.length:Int))=true:=(by simpa using h);simp only[u,Ak,D3 rfl h,Ad,y,x,Lk (show 0<=l[k]+c by omega) (show (0:Int)<1000000000 by decide),s,Dm (show (o.length+[(l[k]+c) % 1000000000].length)*4<=_ by simp;omega),L9 (show 0<=l[k]+c by omega) (show l[k]+c<=_ by omega) (show (0:Int)<1000000000 by decide),e4]
   .rw[Gi l h,<-hv,Ll,g,Int.pow_succ];have:=Int.mul_ediv_add_emod (l[k]+c) 1000000000;grind
  .have j:k=l.length:=ω;subst j;refine .inr ⟨(c,o),ψ,g,b,q,hc,by simpa using hv⟩
 .rintro⟨c,o⟩ ⟨h2,h3,E,D,B⟩;have z:=Hs hd;by_cases hc:c>0
  .have s:Cs c=c:=Gg ω ω;simp only[decide_eq_true hc,Ak,s,Dm (show (o.length+[c].length)*4<=_ by simp;omega),Ad,Ry (o++[c]) ζ];rw[Mb (h3.snoc ω ω) (n:=(Al l).toNat) (by rw[Ll,h2];omega)]
  .have:c=0:=ω;subst this;simp only[Int.lt_irrefl,gt_iff_lt,decide_false,Am,Ry o ω,Ad];rw[Mb h3 (n:=(Al l).toNat) ω]
theorem N2 {n:Nat} (h:n<18446744073709551616):Bl n<=3:=Kx (Nat.lt_of_lt_of_le h δ)
theorem Rz (n:Nat) (h:n<18446744073709551616):Pp n=some (Ag n):=by
 unfold Pp;have b:=N2 h;unfold Bl at b;refine Jn (λ(w,o)=>∃k:Nat,w=k/\k<=n/\o++Ag k=Ag n) (λ(w,_)=>w.toNat) (λo=>o=Ag n) ⟨n,rfl,Nat.le_refl _,ψ⟩ ?_ (by rintro o rfl;rfl);rintro⟨w,o⟩ ⟨k,rfl,hk,c⟩;by_cases h0:k=0
 .subst h0;rw[Gq,List.append_nil]at c;exact .inr ⟨o,ψ,c⟩
 .have f:o.length<=3:=(by rw[<-c]at b;simp at b;omega);refine .inl ⟨(((k / 1000000000:Nat):Int),o++[((k % 1000000000:Nat):Int)]),?_,⟨k / 1000000000,rfl,ω,by rw[List.append_assoc];rw[N0 h0]at c;exact c⟩,ζ⟩;have j:decide ((k:Int)>0)=true:=Ap ω;have i:Hx (k:Int) 1000000000=some ((k % 1000000000:Nat):Int):=(by rw[Lk ω δ];rfl);have g:Cs ((k % 1000000000:Nat):Int)=((k % 1000000000:Nat):Int):=Gg ω ω;have e4:G8 .u64 (k:Int) 1000000000=some ((k / 1000000000:Nat):Int):=(by rw[L9 ω ω δ];rfl);simp only[j,Ak,i,Ad,g,Dm (show (o.length+[((k % 1000000000:Nat):Int)].length)*4<=_ by simp;omega),e4]
def Fk (m n:Nat):Int:=if m<n then -1 else if n<m then 1 else 0
theorem Uj (m n:Nat) (hm:Bl m<1099511627776) (f:Bl n<1099511627776):Tp (Ag m) (Ag n)=some (Fk m n):=by
 unfold Tp;unfold Bl at hm f;by_cases g:(Ag m).length=(Ag n).length
 .rw[Fc (ω:((Ag m).length:Int)=(Ag n).length),Am];have hw:Ac (((Ag m).length:Int)-1)=((Ag m).length:Int)-1:=ξ;rw[hw];refine Jn (λv=>∃k:Nat,v=(k:Int)-1/\k<=(Ag m).length/\(Ag m).drop k=(Ag n).drop k) (λv=>(v+1).toNat) (λe=>match e with|.inl r=>r=Fk m n | .inr _=>m=n) ⟨(Ag m).length,rfl,Nat.le_refl _,by rw[List.drop_length,g,List.drop_length]⟩ ?_ ?_
  .rintro v ⟨k,rfl,hk,hd⟩;cases k with
   | zero=>refine .inr ⟨.inr (),ψ,?_⟩;have:Ag m=Ag n:=(by simpa using hd);have:=congrArg Al this;rw[Fy,Fy]at this;show m=n;omega
   | succ j=>
    have hj:j<(Ag m).length:=ω;have hj':j<(Ag n).length:=ω;have i:((j+1:Nat):Int)-1=(j:Int):=ω;have h:decide ((j:Int)>=0)=true:=Ap ω;simp only[i,h,Ak,D3 rfl hj,D3 rfl hj',Ad];rcases Int.lt_trichotomy (Ag m)[j] (Ag n)[j] with b|heq|hgt
    .refine .inr ⟨.inl (-1),by rw[Ap b];rfl,?_⟩;have:=Aqt (Fh m) hj hj' (Fh n) hd b;rw[Fy,Fy]at this;show (-1:Int)=Fk m n;rw[Fk,Ay ω]
    .refine .inl ⟨(j:Int)-1,?_,⟨j,rfl,ω,?_⟩,ω⟩
     .rw[Ax (ω:¬(Ag m)[j]<(Ag n)[j]),Am,Ax (ω:¬(Ag m)[j]>(Ag n)[j]),Am];rw[Ac,B3 ω ω]
     .rw[List.drop_eq_getElem_cons hj,List.drop_eq_getElem_cons hj',hd,heq]
    .refine .inr ⟨.inl 1,by rw[Ax (ω:¬(Ag m)[j]<(Ag n)[j]),Am,Ap (ω:(Ag m)[j]>(Ag n)[j])];rfl,?_⟩;have:=Aqt (Fh n) hj' hj (Fh m) hd.symm hgt;rw[Fy,Fy]at this;show (1:Int)=Fk m n;rw[Fk,Av ω,Ay ω]
  .rintro (e|e) c
   .simp only at c ⊢;rw[c]
   .simp only at c ⊢;rw[Fk,Av ω,Av ω]
 .rw[Ek (ω:((Ag m).length:Int)≠(Ag n).length),Ak];by_cases b:(Ag m).length<(Ag n).length
  .rw[Ap (ω:((Ag m).length:Int)<(Ag n).length),Ak];have:=Aqs (m:=m) (n:=n) b;rw[Fk,Ay this]
  .rw[Ax (ω:¬((Ag m).length:Int)<(Ag n).length),Am];have:=Aqs (m:=n) (n:=m) (by unfold Bl;omega);rw[Fk,Av ω,Ay this]
theorem Ajf {l:List Int} (h:Cb l) (hv:l≠[]->1000000000 ^ (l.length-1)<=Al l):Can l:=by refine⟨h,λb h0=>?_⟩;have h1:=hv b;have e:=List.dropLast_concat_getLast b;have h2:Cb l.dropLast:=λd hd=>h d (List.dropLast_subset l hd);have h3:=Kw h2;rw[List.length_dropLast]at h3;have c:=congrArg Al e;rw[Ll,h0]at c;omega
theorem Kz (l:List Int) {k:Nat} (h:l.length<=k):Al (l.take k)=Al l:=by rw[Iw h]
theorem Aqx (a b:List Int) (ha:Cb a) (hb:Cb b) (hl:a.length<1099511627776) (hab:b.length<=a.length) (R:a≠[]->1000000000 ^ (a.length-1)<=Al a) : ((F4 4 0 (Ac ((a.length:Int)+1)) (0:Int)).bind λY=> (An (S:=(Int×Int×(List Int))) (E:=(Int×(List Int))) (λ(v20,v21,u)=> bif v21<(a.length:Int) then ((Af a v21).bind λv23=> (show Option Int from bif v21<(b.length:Int) then ((Af b v21).bind λv24=> some (Cs ((Cs (v23+v20))+v24))) else (some (Cs (v23+v20)))).bind λv25=> (G8 .u32 v25 1000000000).bind λv26=> (Hx v25 1000000000).bind λf=> (Cj 4 u [f]).bind λg=> some (.inl (v26,(Ac (v21+1)),g))) else (some (.inr (v20,u)))) (0,0,Y)).bind λ(l,q)=> bif l>(0:Int) then ((Cj 4 q [l]).bind λJ=> some J) else (some q))=some (Ag (Al a+Al b).toNat):=by
 have A:Ac ((a.length:Int)+1)=((a.length+1:Nat):Int):=by rw[Ac,B3] <;> omega
 rw[A,Ai9 rfl ω ω];simp only[Ad];have a6:=Hs ha.u32;have a1:=Hs hb.u32;refine Jn (λ(c,i,o)=>∃k:Nat,i=k/\k<=a.length/\o.length=k/\Cb o/\0<=c/\c<=1/\Al o+1000000000 ^ k*c=Al (a.take k)+Al (b.take k)) (λ(_,i,_)=>a.length-i.toNat) (λ(c,o)=>o.length=a.length/\Cb o/\0<=c/\c<=1/\Al o+1000000000 ^ a.length*c=Al a+Al b) ⟨0,rfl,ω,rfl,Cb.nil,ω,ω,by simp[Al]⟩ ?_ ?_
 .rintro⟨c,i,o⟩ ⟨k,rfl,hk,L,z,U,hc,hv⟩;rcases Cg k a.length with h|h
  .have hx:=ha.get h;have e4:Ac ((k:Int)+1)=((k+1:Nat):Int):=ξ;have e5:decide ((k:Int)<(a.length:Int))=true:=Ap ω;have step:∀s:Int,0<=s->s<2000000000->(show Option Int from bif (k:Int)<(b.length:Int) then ((Af b k).bind λv24=>some (Cs ((Cs (a[k]+c))+v24))) else some (Cs (a[k]+c)))=some s ->
     Al (a.take (k+1))+Al (b.take (k+1))=Al (a.take k)+Al (b.take k)+1000000000 ^ k*(s-c) -> (∃s',(bif (k:Int)<(a.length:Int) then ((Af a k).bind λv23=> (show Option Int from bif (k:Int)<(b.length:Int) then ((Af b k).bind λv24=> some (Cs ((Cs (v23+c))+v24))) else (some (Cs (v23+c)))).bind λv25=> (G8 .u32 v25 1000000000).bind λv26=> (Hx v25 1000000000).bind λf=> (Cj 4 o [f]).bind λg=> some (.inl (v26,(Ac ((k:Int)+1)),g))) else (some (.inr (c,o))))=some (Sum.inl s':(Int×Int×List Int)⊕(Int×List Int))/\(∃j:Nat,s'.2.1=j/\j<=a.length/\s'.2.2.length=j/\Cb s'.2.2/\0<=s'.1/\s'.1<=1/\Al s'.2.2+1000000000 ^ j*s'.1=Al (a.take j)+Al (b.take j))/\a.length-s'.2.1.toNat<a.length-(k:Int).toNat):=by
    intro s y Z hs x;refine⟨(s / 1000000000,((k+1:Nat):Int),o++[s % 1000000000]),?_,⟨k+1,rfl,ω,by simp[L],z.snoc ω ω,ζ,ζ,?_⟩,ζ⟩
    .rw[e5,Ak,D3 rfl h,Ad,hs,Ad,Aja y ω δ,Ad,Lk y δ,Ad,Dm ζ,Ad,e4]
    .rw[x,<-hv,Ll,L,Int.pow_succ];have:=Int.mul_ediv_add_emod s 1000000000;grind
   refine .inl ?_;rcases Cg k b.length with hb'|hb'
   .have hy:=hb.get hb';obtain⟨s',I,G,D⟩:=step (a[k]+c+b[k]) ω ω (by have B:Cs (a[k]+c)=a[k]+c:=Gg ω ω;have X:Cs (a[k]+c+b[k])=a[k]+c+b[k]:=Gg ω ω;show (bif (k:Int)<(b.length:Int) then _ else _)=_;rw[Ap (ω:(k:Int)<(b.length:Int)),Ak,D3 rfl hb',Ad,B,X]) (by rw[Gi a h,Gi b hb'];grind);exact⟨s',I,G,D⟩
   .obtain⟨s',I,G,D⟩:=step (a[k]+c) ω ω (by have B:Cs (a[k]+c)=a[k]+c:=Gg ω ω;show (bif (k:Int)<(b.length:Int) then _ else _)=_;rw[Ax (ω:¬(k:Int)<(b.length:Int)),Am,B]) (by rw[Gi a h,Kz b hb',Kz b ω];grind);exact⟨s',I,G,D⟩
  .have N:k=a.length:=ω;subst N;refine .inr ⟨(c,o),ψ,L,z,U,hc,?_⟩;rw[Dh,Kz b hab]at hv;exact hv
 .rintro⟨c,o⟩ ⟨h2,h3,h4,h5,h6⟩;simp only[];by_cases hc:c>0
  .have:c=1:=ω;subst this;rw[Ap hc,Ak,Dm ζ,Ad];congr 1;refine Aeo (Ajf (h3.snoc ω ω) λ_=>?_) (by rw[Ll,h2];omega);rw[Ll,h2];have:=Hs h3.u32;simp[h2];omega
  .have:c=0:=ω;subst this;rw[Ax hc,Am];congr 1;refine Aeo (Ajf h3 λM=>?_) ω;have V:a≠[]:=(by intro e;rw[e]at h2;exact M (Fa.1 h2));have:=R V;rw[h2];omega
theorem Aer {n:Nat} (h:Ag n≠[]):1000000000 ^ ((Ag n).length-1)<=Al (Ag n):=by
 rw[Fy];have h1:(Ag n).length≠0:=λe=>h (Fa.1 e);have:=Aqr (n:=n) (k:=(Ag n).length-1) (by unfold Bl;omega);have e:((1000000000 ^ ((Ag n).length-1):Nat):Int)=1000000000 ^ ((Ag n).length-1):=by rw[Int.natCast_pow];rfl
 omega
theorem Aqy (m n:Nat) (hm:Bl m<1099511627776) (b:Bl n<1099511627776):Y5 (Ag m) (Ag n)=some (Ag (m+n)):=by
 unfold Y5;unfold Bl at hm b;by_cases c:(Ag m).length<(Ag n).length
 .simp only[Ap (ω:((Ag m).length:Int)<(Ag n).length),Ak,Ad];have:=Aqx (Ag n) (Ag m) (Fh n) (Fh m) b ω Aer;rw[Fy,Fy]at this;rw[show m+n=((n:Int)+(m:Int)).toNat by omega];exact this
 .simp only[Ax (ω:¬((Ag m).length:Int)<(Ag n).length),Am,Ad];have:=Aqx (Ag m) (Ag n) (Fh m) (Fh n) hm ω Aer;rw[Fy,Fy]at this;rw[show m+n=((m:Int)+(n:Int)).toNat by omega];exact this
theorem Mc {k n:Nat} (h:k<n) (b:n<4611686018427387904):Ac ((k:Int)+1)=((k+1:Nat):Int):=by rw[Ac,B3] <;> omega
theorem Aes (m n:Nat) (hm:Bl m<1099511627776) (A:n<=m):V3 (Ag m) (Ag n)=some (Ag (m-n)):=by
 unfold V3;have D:(Ag n).length<=(Ag m).length:=Ia A;unfold Bl at hm;rw[Ai9 rfl ω ω];simp only[Ad];have ha:=Fh m;have hb:=Fh n;refine Jn (λ(c,i,o)=>∃k:Nat,i=k/\k<=(Ag m).length/\o.length=k/\Cb o/\0<=c/\c<=1/\Al o=Al ((Ag m).take k)-Al ((Ag n).take k)+1000000000 ^ k*c) (λ(_,i,_)=>(Ag m).length-i.toNat) (λo=>∃c:Int,o.length=(Ag m).length/\Cb o/\0<=c/\c<=1/\Al o=(m:Int)-n+1000000000 ^ (Ag m).length*c) ⟨0,rfl,ω,rfl,Cb.nil,ω,ω,by simp[Al]⟩ ?_ ?_
 .rintro⟨c,i,o⟩ ⟨k,rfl,hk,l,g,G,hc,hv⟩;rcases Cg k (Ag m).length with h|h
  .have hx:=ha.get h;have e4:=Mc h ω;have M:decide ((k:Int)<((Ag m).length:Int))=true:=Ap ω;have J:Ac (Ag m)[k]=(Ag m)[k]:=B3 ω ω;have I:Ac ((Ag m)[k]-c)=(Ag m)[k]-c:=B3 ω ω;have key:∀s:Int,-1000000001<=s->s<1000000000->Al ((Ag m).take (k+1))-Al ((Ag n).take (k+1))=Al ((Ag m).take k)-Al ((Ag n).take k)+1000000000 ^ k*(s+c) ->
     ∃(f:Int) (d:Int),(bif decide (s<0) then ((Cj 4 o [(Cs (Ac (s+1000000000)))]).bind λz=>some (Sum.inl (1,(Ac ((k:Int)+1)),z))) else ((Cj 4 o [(Cs s)]).bind λy=>some (Sum.inl (0,(Ac ((k:Int)+1)),y))))=some (Sum.inl (f,((k+1:Nat):Int),o++[d]):(Int×Int×List Int)⊕List Int) /\ (-1000000000<=s->(∃j:Nat,((k+1:Nat):Int)=j/\j<=(Ag m).length/\(o++[d]).length=j/\Cb (o++[d])/\0<=f/\f<=1/\Al (o++[d])=Al ((Ag m).take j)-Al ((Ag n).take j)+1000000000 ^ j*f)):=by
    intro s h1 h2 b;by_cases L:s<0
    .refine⟨1,Cs (Ac (s+1000000000)),by rw[Ap L,Ak,Dm ζ,Ad,e4],λh3=>?_⟩;have S:Ac (s+1000000000)=s+1000000000:=B3 ω ω;have q:Cs (s+1000000000)=s+1000000000:=Gg ω ω;rw[S,q];refine⟨k+1,rfl,ω,by simp[l],g.snoc ω ω,ω,ω,?_⟩;rw[b,Ll,l,hv,Int.pow_succ];grind
    .refine⟨0,Cs s,by rw[Ax L,Am,Dm ζ,Ad,e4],λh3=>?_⟩;have q:Cs s=s:=Gg ω ω;rw[q];refine⟨k+1,rfl,ω,by simp[l],g.snoc ω ω,ω,ω,?_⟩;rw[b,Ll,l,hv,Int.pow_succ];grind
   refine .inl ?_;rcases Cg k (Ag n).length with hb'|hb'
   .have hy:=hb.get hb';have R:Ac (Ag n)[k]=(Ag n)[k]:=B3 ω ω;have N:Ac ((Ag m)[k]-c-(Ag n)[k])=(Ag m)[k]-c-(Ag n)[k]:=B3 ω ω;obtain⟨f,d,x,u⟩:=key ((Ag m)[k]-c-(Ag n)[k]) ω ω (by rw[Gi _ h,Gi _ hb'];grind);refine⟨(f,((k+1:Nat):Int),o++[d]),?_,u ω,ζ⟩;rw[<-x];simp only[M,Ak,D3 rfl h,Ad,J,I,Ap (ω:(k:Int)<((Ag n).length:Int)),D3 rfl hb',R,N]
   .obtain⟨f,d,x,u⟩:=key ((Ag m)[k]-c) ω ω (by rw[Gi _ h,Kz (Ag n) hb',Kz (Ag n) ω];grind);refine⟨(f,((k+1:Nat):Int),o++[d]),?_,u ω,ζ⟩;rw[<-x];simp only[M,Ak,D3 rfl h,Ad,J,I,Ax (ω:¬(k:Int)<((Ag n).length:Int)),Am]
  .have E:k=(Ag m).length:=ω;subst E;refine .inr ⟨o,ψ,c,l,g,G,hc,?_⟩;rw[Dh,Kz _ D,Fy,Fy]at hv;exact hv
 .rintro o ⟨c,h2,h3,X,V,U⟩;have B:=Kw h3;rw[h2]at B;have hp:=Lm (Ag m).length;have:c=0:=by
   rcases Int.lt_or_le 0 c with hc|hc
   .have:c=1:=ω;subst this;omega
   .omega
  subst this;rw[Ry o ω,Ad,Mb h3 (n:=m-n) ω]
theorem Ajg (m d:Nat) (hm:Bl m<1099511627776) (hd:0<d) (L:d<4294967296):T2 (Ag m) d=some (Ag (m / d),((m % d:Nat):Int)):=by
 unfold T2;unfold Bl at hm;rw[Ka rfl rfl (Nat.le_refl _) ω ω];simp only[Ad];have ha:=Fh m;have hw:Ac (((Ag m).length:Int)-1)=((Ag m).length:Int)-1:=by rw[Ac,B3] <;> omega
 rw[hw];refine Jn (λ(r,i,o)=>∃k:Nat,i=(k:Int)-1/\k<=(Ag m).length/\o.length=(Ag m).length/\Cb o/\0<=r/\r<d/\Al (o.drop k)*d+r=Al ((Ag m).drop k)) (λ(_,i,_)=>(i+1).toNat) (λ(r,o)=>o.length=(Ag m).length/\Cb o/\0<=r/\r<d/\Al o*d+r=m) ⟨(Ag m).length,rfl,Nat.le_refl _,ψ,Cb.replicate _,ω,ω,by simp[Al]⟩ ?_ ?_
 .rintro⟨r,i,o⟩ ⟨k,rfl,hk,z,g,s,J,hv⟩;cases k with
  | zero=>exact .inr ⟨(r,o),ψ,z,g,s,J,by simpa[Fy] using hv⟩
  | succ j=>
   have hj:j<(Ag m).length:=ω;have h:j<o.length:=ω;have hx:=ha.get hj;have U:((j+1:Nat):Int)-1=(j:Int):=ω;have S:decide ((j:Int)>=0)=true:=Ap ω;have G:Ba (r*1000000000)=r*1000000000:=Df ω ω;have E:Ba (Ag m)[j]=(Ag m)[j]:=Df ω ω;have D:Ba (r*1000000000+(Ag m)[j])=r*1000000000+(Ag m)[j]:=Df ω ω;have b:(0:Int)<(d:Int):=ω;have c:0<=r*1000000000+(Ag m)[j]:=ω;have f:0<=(r*1000000000+(Ag m)[j]) / (d:Int):=Int.ediv_nonneg c ω;have u:(r*1000000000+(Ag m)[j]) / (d:Int)<1000000000:=(by apply Int.ediv_lt_of_lt_mul b;have:(r+1)*1000000000<=d*1000000000:=Int.mul_le_mul_of_nonneg_right ω δ;omega);have B:Cs ((r*1000000000+(Ag m)[j]) / (d:Int))=(r*1000000000+(Ag m)[j]) / (d:Int):=Gg f ω;have y:=Int.emod_nonneg (r*1000000000+(Ag m)[j]) (ω:(d:Int)≠0);have x:=Int.emod_lt_of_pos (r*1000000000+(Ag m)[j]) b;have A:Ac ((j:Int)-1)=(j:Int)-1:=ξ;refine .inl ⟨((r*1000000000+(Ag m)[j]) % (d:Int),(j:Int)-1,o.set j ((r*1000000000+(Ag m)[j]) / (d:Int))),?_,⟨j,rfl,ω,by simpa using z,g.set _ f u,y,x,?_⟩,ψ⟩
   .simp only[U,S,Ak,D3 rfl hj,D3 rfl h,Ad,G,E,D,L9 c ω b,Lk c b,B,A,G0 rfl]
   .have d1:(o.set j ((r*1000000000+(Ag m)[j]) / (d:Int))).drop j=((r*1000000000+(Ag m)[j]) / (d:Int))::o.drop (j+1):=(by rw[List.drop_eq_getElem_cons (by simpa using h),List.drop_set_of_lt ω];simp);rw[d1,List.drop_eq_getElem_cons hj];simp only[Al];rw[<-hv];have:=Int.mul_ediv_add_emod (r*1000000000+(Ag m)[j]) (d:Int);grind
 .rintro⟨r,o⟩ ⟨h2,h3,R,N,M⟩;simp only[];have I:=Hs h3.u32;have l:((m / d:Nat):Int)=Al o/\((m % d:Nat):Int)=r:=(by have b:(0:Int)<(d:Int):=ω;have e:=Int.ediv_emod_unique b (r:=r) (q:=Al o) (a:=(m:Int));have:=e.2 ⟨by rw[<-M];grind,R,N⟩;exact⟨by rw[Int.natCast_ediv];exact this.1,by rw[Int.natCast_emod];exact this.2⟩);rw[Ry o ω,Ad,Mb h3 l.1.symm,l.2]
theorem Aet {x y:Int} (hx:0<=x) (c:x<1000000000) (hy:0<=y) (b:y<1000000000):0<=x*y/\x*y<=999999998000000001:=by refine⟨Int.mul_nonneg hx hy,?_⟩;have h1:x*y<=999999999*y:=Int.mul_le_mul_of_nonneg_right ω hy;omega
theorem R0 (m n:Nat) (hm:Bl m<549755813888) (hn:Bl n<549755813888):Pj (Ag m) (Ag n)=some (Ag (m*n)):=by
 unfold Pj;unfold Bl at hm hn;by_cases hz:m=0\/n=0
 .have:(show OB from bif (((Ag m).length:Int)==(0:Int)) then some true else some (((Ag n).length:Int)==(0:Int)))=some true:=by
   show (bif (((Ag m).length:Int)==(0:Int)) then some true else some (((Ag n).length:Int)==(0:Int)))=some true;by_cases h:m=0
   .subst h;rw[Gq];rfl
   .have y:n=0:=ω;subst y;rw[Cn (by have:=Jo h;have:(Ag m).length≠0:=λe=>this (Fa.1 e);omega),Gq];rfl
  rw[this,Ad,Ak];have:m*n=0:=(by rcases hz with rfl|rfl <;> simp);rw[this,Gq]
 .have G:m≠0:=ω;have y:n≠0:=ω;have a8:(Ag m).length≠0:=λe=>Jo G (Fa.1 e);have a7:(Ag n).length≠0:=λe=>Jo y (Fa.1 e);simp only[Cn (ω:((Ag m).length:Int)≠0),Cn (ω:((Ag n).length:Int)≠0),Am,Ad];have hw:Ac (((Ag m).length:Int)+((Ag n).length:Int))=(((Ag m).length+(Ag n).length:Nat):Int):=ξ;rw[hw,Ka rfl rfl (Nat.le_refl _) ω ω];simp only[Ad];have ha:=Fh m;have hb:=Fh n;refine Jn (λ(i,o)=>∃k:Nat,i=k/\k<=(Ag m).length/\o.length=(Ag m).length+(Ag n).length/\Cb o/\o.drop (k+(Ag n).length)=List.replicate ((Ag m).length-k) 0/\Al o=Al ((Ag m).take k)*n) (λ(i,_)=>(Ag m).length-i.toNat) (λo=>o.length=(Ag m).length+(Ag n).length/\Cb o/\Al o=((m*n:Nat):Int)) ⟨0,rfl,ω,ψ,Cb.replicate _,by rw[List.drop_replicate];congr 1;omega,by simp[Aem,Al]⟩ ?_ ?_
  .rintro⟨i,o⟩ ⟨k,rfl,hk,N,D,J,hv⟩;rcases Cg k (Ag m).length with h|h
   .have hx:=ha.get h;have e4:=Mc h ω;have e5:decide ((k:Int)<((Ag m).length:Int))=true:=Ap ω;simp only[e5,Ak];refine .inl (Ww (Ej (λ(c,j,o')=>∃q:Nat,j=q/\q<=(Ag n).length/\o'.length=(Ag m).length+(Ag n).length/\Cb o'/\o'.drop (k+(Ag n).length)=List.replicate ((Ag m).length-k) 0/\0<=c/\c<1000000000 /\ Al o' + 1000000000 ^ (k+q)*c=Al o+1000000000 ^ k*((Ag m)[k]*Al ((Ag n).take q))) (λ(_,j,_)=>(Ag n).length-j.toNat) (λ(c,j,o')=>o'.length=(Ag m).length+(Ag n).length/\Cb o'/\o'.drop (k+(Ag n).length)=List.replicate ((Ag m).length-k) 0/\0<=c/\c<1000000000 /\ Al o' + 1000000000 ^ (k+(Ag n).length)*c=Al o+1000000000 ^ k*((Ag m)[k]*n)) ⟨0,rfl,ω,N,D,J,ω,ω,by simp[Al]⟩ ?_ ?_))
    .rintro⟨c,j,o'⟩ ⟨q,rfl,hq,l,b,f,z,hc,x⟩;rcases Cg q (Ag n).length with hq'|hq'
     .have hy:=hb.get hq';have g:k+q<o'.length:=ω;have Z:=b.get g;have a1:=Aet hx.1 hx.2 hy.1 hy.2;have X:Ba (Ag m)[k]=(Ag m)[k]:=Df ω ω;have V:Ba (Ag n)[q]=(Ag n)[q]:=Df ω ω;have U:Ba ((Ag m)[k]*(Ag n)[q])=(Ag m)[k]*(Ag n)[q]:=Df ω ω;have S:Ba o'[k+q]=o'[k+q]:=Df ω ω;have R:Ba ((Ag m)[k]*(Ag n)[q]+o'[k+q])=(Ag m)[k]*(Ag n)[q]+o'[k+q]:=Df ω ω;have M:Ba ((Ag m)[k]*(Ag n)[q]+o'[k+q]+c)=(Ag m)[k]*(Ag n)[q]+o'[k+q]+c:=Df ω ω;have e6:=Mc hq' ω;have e7:decide ((q:Int)<((Ag n).length:Int))=true:=Ap ω;have L:Ac ((k:Int)+(q:Int))=((k+q:Nat):Int):=ξ;generalize hs:(Ag m)[k]*(Ag n)[q]+o'[k+q]+c=s at M;have A:0<=s:=ω;have a6:s<1000000000000000000:=ω;have E:Cs (s % 1000000000)=s % 1000000000:=Gg ω ω;refine .inl ⟨(s / 1000000000,((q+1:Nat):Int),o'.set (k+q) (s % 1000000000)),?_,⟨q+1,rfl,ω,by simpa using l,b.set _ ω ω,?_,ω,ω,?_⟩,ζ⟩
      .simp only[e7,Ak,D3 rfl h,D3 rfl hq',L,D3 rfl g,Ad,X,V,U,S,R,hs,M,Lk A (show (0:Int)<1000000000 by decide),L9 A (show s<=_ by omega) (show (0:Int)<1000000000 by decide),E,e6,G0 rfl]
      .rw[List.drop_set_of_lt ω];exact f
      .rw[M4 _ g,Gi _ hq'];have:=Int.mul_ediv_add_emod s 1000000000;have Y:(1000000000:Int) ^ (k+(q+1))=1000000000 ^ (k+q)*1000000000:=(by rw[<-Nat.add_assoc,Int.pow_succ]);have p2:(1000000000:Int) ^ (k+q)=1000000000 ^ k*1000000000 ^ q:=Int.pow_add ..;rw[Y];grind
     .have:q=(Ag n).length:=ω;subst this;refine .inr ⟨(c,_,o'),by simp;rfl,l,b,f,z,hc,?_⟩;rw[Dh,Fy]at x;exact x
    .rintro⟨c,j,o'⟩ ⟨l,b,f,z,hc,x⟩;have L:Ac ((k:Int)+((Ag n).length:Int))=((k+(Ag n).length:Nat):Int):=ξ;have g:k+(Ag n).length<o'.length:=ω;have E:Cs c=c:=Gg ω ω;have u:o'[k+(Ag n).length]=0:=(by have:=congrArg List.head? f;rw[List.head?_drop,Bx g]at this;have B:(List.replicate ((Ag m).length-k) (0:Int)).head? = some 0:=(by cases hh:(Ag m).length-k with| zero=>omega| succ t=>rfl);rw[B]at this;exact Fj this);refine⟨_,by simp only[L,D3 rfl g,Ad,E,e4,G0 rfl];rfl,_,rfl,⟨k+1,rfl,ω,by simpa using l,b.set _ z hc,?_,?_⟩,ζ⟩
     .rw[List.drop_set_of_lt ω,show k+1+(Ag n).length=(k+(Ag n).length)+1 by omega,<-List.drop_drop,f,List.drop_replicate];congr 1
     .rw[M4 _ g,u,Gi _ h,Int.add_mul,<-hv];grind
   .have I:k=(Ag m).length:=ω;subst I;refine .inr ⟨o,ψ,N,D,?_⟩;rw[Dh,Fy]at hv;rw[hv];simp
  .rintro o ⟨h2,h3,h4⟩;rw[Ry o ω,Ad,Mb h3 h4]
theorem Aqz (a:List Int) (m:Nat) (ha:Cb a) (S:a.length<1099511627776) (hm:m<1000000000) : ∃o,Wh a m=some o/\o.length=a.length+1/\Cb o/\Al o=Al a*m:=by
 unfold Wh;have u:Ac ((a.length:Int)+1)=((a.length+1:Nat):Int):=by rw[Ac,B3] <;> omega
 rw[u,Ka rfl rfl (Nat.le_refl _) ω ω];simp only[Ad];refine Ej (λ(c,i,o)=>∃k:Nat,i=k/\k<=a.length/\o.length=a.length+1/\Cb o/\o.drop k=List.replicate (a.length+1-k) 0/\0<=c/\c<1000000000/\Al o+1000000000 ^ k*c=Al (a.take k)*m) (λ(_,i,_)=>a.length-i.toNat) (λ(c,o)=>o.length=a.length+1/\Cb o/\o.drop a.length = [0]/\0<=c/\c<1000000000/\Al o+1000000000 ^ a.length*c=Al a*m) ⟨0,rfl,ω,ψ,Cb.replicate _,ψ,ω,ω,by simp[Al,Aem]⟩ ?_ ?_
 .rintro⟨c,i,o⟩ ⟨k,rfl,hk,B,q,g,z,hc,hv⟩;rcases Cg k a.length with h|h
  .have hx:=ha.get h;have f:k<o.length:=ω;have G:=Aet hx.1 hx.2 (show (0:Int)<=m by omega) ω;have e4:=Mc h ω;have R:decide ((k:Int)<(a.length:Int))=true:=Ap ω;have E:Ba a[k]=a[k]:=Df ω ω;have D:Ba (a[k]*(m:Int))=a[k]*m:=Df ω ω;have A:Ba (a[k]*(m:Int)+c)=a[k]*m+c:=Df ω ω;have b:o[k]=0:=(by have:=congrArg List.head? g;rw[List.head?_drop,Bx f]at this;have l:(List.replicate (a.length+1-k) (0:Int)).head? = some 0:=(by cases hh:a.length+1-k with| zero=>omega| succ t=>rfl);rw[l]at this;exact Fj this);generalize J:a[k]*(m:Int)+c=s at A;have j:0<=s:=ω;have I:s<1000000000000000000:=ω;have x:Cs (s % 1000000000)=s % 1000000000:=Gg ω ω;refine .inl ⟨(s / 1000000000,((k+1:Nat):Int),o.set k (s % 1000000000)),?_,⟨k+1,rfl,ω,by simpa using B,q.set _ ω ω,?_,ω,ω,?_⟩,ζ⟩
   .simp only[R,Ak,D3 rfl h,D3 rfl f,Ad,E,D,J,A,Lk j (show (0:Int)<1000000000 by decide),L9 j (show s<=_ by omega) (show (0:Int)<1000000000 by decide),x,e4,G0 rfl]
   .rw[List.drop_set_of_lt ω,<-List.drop_drop,g,List.drop_replicate];congr 1
   .rw[M4 _ f,b,Gi _ h,Int.pow_succ];have:=Int.mul_ediv_add_emod s 1000000000;grind
  .have y:k=a.length:=ω;subst y;refine .inr ⟨(c,o),ψ,B,q,by rw[g];simp,z,hc,by rwa [Dh]at hv⟩
 .rintro⟨c,o⟩ ⟨h2,h3,g,N,M,L⟩;have f:a.length<o.length:=ω;have x:Cs c=c:=Gg ω ω;have b:o[a.length]=0:=(by have:=congrArg List.head? g;rw[List.head?_drop,Bx f]at this;exact Fj this);refine⟨o.set a.length c,by simp only[D3 rfl f,Ad,x,G0 rfl],by simpa using h2,h3.set _ N M,?_⟩;rw[M4 _ f,b,<-L];grind
theorem R3 {α:Type} {l:List α} {off n:Nat} {i:Int} {k:Nat} (hi:i=k) (hk:k<n) (h:off+k<l.length):Hn l off n i=some l[off+k]:=by subst hi;have h1:(0:Int)<=(k:Int):=ω;have h2:(k:Int)<(n:Int):=ω;simp[Hn,hk,h]
theorem A22 {P j k tb hb V U q g B:Int} (i:0<P) (u:V=j+P*tb) (l:0<=j) (x:U=k+P*hb) (s:k<P) (hq:q*V<=U) (c:0<=g) (h:hb<g*tb) (b:0<=tb):q<g:=by
 rcases Int.lt_or_le q g with h'|h'
 .exact h'
 .exfalso;have f:0<=V:=(by have:=Int.mul_nonneg (Int.le_of_lt i) b;omega);have h1:g*V<=q*V:=Int.mul_le_mul_of_nonneg_right h' f;have h2:g*(P*tb)<=g*V:=Int.mul_le_mul_of_nonneg_left ω c;have h3:P*(hb+1)<=P*(g*tb):=Int.mul_le_mul_of_nonneg_left ω (Int.le_of_lt i);have z:g*(P*tb)=P*(g*tb):=(by grind);have y:P*(hb+1)=P*hb+P:=(by grind);omega
theorem Aq0 {P j k tb hb V U q g:Int} (i:0<P) (y:V=j+P*tb) (s:j<P) (z:U=k+P*hb) (u:0<=k) (hq:U<(q+1)*V) (l:0<=g) (hgt:g<=tb+1) (h:g*tb<=hb) (b:0<V):g<=q+1:=by
 rcases Int.lt_or_le (q+1) g with h'|h'
 .exfalso;have f:0<=g-1:=by
   rcases Int.lt_or_le g 1 with h2|h2
   .have:g=0:=ω;subst this;have c:q+1<0:=h';have:(q+1)*V<0:=Int.mul_neg_of_neg_of_pos c b;have h0:0<=hb:=(by simpa using h);have:=Int.mul_nonneg (Int.le_of_lt i) h0;omega
   .omega
  have h1:(q+1)*V<=(g-1)*V:=Int.mul_le_mul_of_nonneg_right ω (Int.le_of_lt b);have x:P*(tb+1)=P*tb+P:=(by grind);have h2:(g-1)*V<=(g-1)*(P*(tb+1)):=Int.mul_le_mul_of_nonneg_left ω f;have h3:(g-1)*(P*(tb+1))=P*(g*tb+(g-tb-1)):=(by grind);have A:P*(g*tb+(g-tb-1))<=P*hb:=Int.mul_le_mul_of_nonneg_left ω (Int.le_of_lt i);omega
 .exact h'
theorem A23 {A C:Type} {X:Option (A×C)} {Q:A->C->Prop} (h:∃r,X=some r/\Q r.1 r.2):∃q o,X=some (q,o)/\Q q o:=by obtain⟨⟨a,c⟩,h1,h2⟩:=h;exact⟨a,c,h1,h2⟩
theorem al1 {g t r h:Int} (k:g*t+r=h):(g-1)*t+(r+t)=h:=by grind
theorem al2 {o P s x b p d:Int} (e:s-1000000000*d=x-b-p):o+P*(s-x)-P*1000000000*d=(o-P*b)-P*p:=by grind
theorem al3 (b X K g A y:Int):b-X*(g*A)-X*K*(g*y)=b-X*(g*(A+K*y)):=by grind
theorem al4 {u X W N c U b g V:Int} (h:u+X*(W+N*c-U)-X*N*b=u-X*(g*V)):X*(U-g*V)=X*(W+N*(c-b)):=by grind
theorem al5 (u X q:Int):u-X*q-u=X*(-q):=by grind
theorem al6 {o P x b r:Int} (h:o-P*b=r):o+P*(x-b-x)=r:=by grind
theorem al7 {b X K c s x y o A:Int} (g:x+y+c=s) (f:1000000000*(s / 1000000000)+s % 1000000000=s) (h:b+X*K*c=o+X*A):b+X*K*(s % 1000000000-x)+X*K*1000000000*(s / 1000000000)=o+X*(A+K*y):=by grind
theorem al8 {o X N b u q V W f U c:Int} (h1:o-X*N*b=u-X*((q+1)*V)) (h2:u+X*(W+N*f-U)+X*N*c=o+X*V):X*(U-q*V)=X*(W+N*(f-b+c)):=by grind
theorem al9 {g P c o X V b u q f:Int} (h1:g+P*c=o+X*V) (h2:o-P*b=u-X*((q+1)*V)) (h3:f=b-c):g+P*(0-f)=u-X*(q*V):=by grind
theorem gtb {g t r h x:Int} (k:g*t+r=h):g*(t*1000000000+x)=(h-r)*1000000000+g*x:=by subst k;grind
theorem Ajh {k:Nat} {x y:Int} (h:(1000000000:Int) ^ k*x=1000000000 ^ k*y):x=y:=Int.eq_of_mul_eq_mul_left (by have:=Lm k;omega) h
theorem Aq1 {o u:List Int} {off:Nat} (b:off<=o.length) (hu:off<=u.length) (h:o.take off=u.take off):Al o-Al u=1000000000 ^ off*(Al (o.drop off)-Al (u.drop off)):=by rw[Ox o off b,Ox u off hu,h];grind
theorem Aeu {l:List Int} (h:Cb l) (k:Nat):0<=Al (l.drop k):=Hs (h.drop k).u32
theorem A24 {D:List Int} (b:Cb D) {n:Nat} (h2:2<=n) (i:n<D.length) (g:Al D<1000000000 ^ (n+1)) : Al D=Al (D.take (n-2))+1000000000 ^ (n-2)*((D[n]*1000000000+D[n-1])*1000000000+D[n-2]):=by
 have e:=Ox D (n+1) i;have h0:Al (D.drop (n+1))=0:=by
  have s:=Aeu b (n+1);have ht:=Hs ((b.take (n+1)).u32);rcases Int.lt_or_le 0 (Al (D.drop (n+1))) with h|h
  .have:(1000000000:Int) ^ (n+1)*1<=1000000000 ^ (n+1)*Al (D.drop (n+1)):=Int.mul_le_mul_of_nonneg_left h (Int.le_of_lt (Lm _));omega
  .omega
 rw[h0,Int.mul_zero,Int.add_zero]at e;obtain⟨t,rfl⟩:∃t,n=t+2:=⟨n-2,ω⟩;have q:=Gi D (k:=t) ω;have l:=Gi D (k:=t+1) ω;have j:=Gi D (k:=t+2) ω;have f:(1000000000:Int) ^ (t+1)=1000000000 ^ t*1000000000:=Int.pow_succ ..;have c:(1000000000:Int) ^ (t+2)=1000000000 ^ (t+1)*1000000000:=Int.pow_succ ..;have i1:t+2-2=t:=rfl;have i2:t+2-1=t+1:=rfl;simp only[i1,i2];rw[e,j,l,q,c,f];grind
theorem A25 {v:List Int} {n:Nat} (h2:2<=n) (g:v.length=n) : Al v=Al (v.take (n-2))+1000000000 ^ (n-2)*(v[n-1]*1000000000+v[n-2]):=by obtain⟨t,rfl⟩:∃t,n=t+2:=⟨n-2,ω⟩;have f:=Gi v (k:=t) ω;have b:=Gi v (k:=t+1) ω;have e:v.take (t+1+1)=v:=Iw ω;rw[e]at b;have c:(1000000000:Int) ^ (t+1)=1000000000 ^ t*1000000000:=Int.pow_succ ..;have i1:t+2-2=t:=rfl;have i2:t+2-1=t+1:=rfl;simp only[i1,i2];rw[b,f,c];grind
set_option maxHeartbeats 1000000 in
theorem A26 (v u:List Int) (off n:Nat) (hv:Cb v) (hu:Cb u) (hn:v.length=n) (h2:2<=n) (c0:n<1099511627776) (bo:500000000<=v[n-1]) (X:off+n<u.length) (hT:Al (u.drop off)<Al v*1000000000) : ∃q o,Zv off (n+1) v u=some (q,o)/\o.length=u.length/\Cb o/\0<=q/\q<1000000000/\Al o=Al u-1000000000 ^ off*(q*Al v)/\0<=Al (o.drop off)/\Al (o.drop off)<Al v:=by
 have b7:=Kw hv;rw[hn]at b7;have c4:(u.drop off).length=u.length-off:=List.length_drop;have A:=hu.drop off;have bn:=Hs A.u32;have b9:Al (u.drop off)<1000000000 ^ (n+1):=by rw[Int.pow_succ];omega
 have ab:=A24 A h2 ω b9;have ao:=A25 h2 hn;have gd:∀i (h:i<(u.drop off).length),(u.drop off)[i]=u[off+i]' ω:=λi h=>List.getElem_drop;rw[gd,gd,gd]at ab;have br:=hu.get (i:=off+n) ω;have bu:=hu.get (i:=off+(n-1)) ω;have bt:=hu.get (i:=off+(n-2)) ω;have bw:=hv.get (i:=n-1) ω;have ad:=hv.get (i:=n-2) ω;have hP:=Lm (n-2);have b8:=Hs ((hv.take (n-2)).u32);have aa:=Kw (hv.take (n-2));rw[List.length_take,Nat.min_eq_left ω]at aa;have bb:=Hs ((A.take (n-2)).u32);have ba:=Kw (A.take (n-2));rw[List.length_take,Nat.min_eq_left ω]at ba;have y:0<Al v:=by have:(1000000000:Int) ^ (n-2)*1<=1000000000 ^ (n-2)*(v[n-1]*1000000000+v[n-2]):=Int.mul_le_mul_of_nonneg_left ω (Int.le_of_lt hP);omega
 generalize hq:Al (u.drop off) / Al v=q;have bi:q*Al v<=Al (u.drop off):=by rw[<-hq];exact Int.ediv_mul_le _ ω
 have ar:Al (u.drop off)<(q+1)*Al v:=by rw[<-hq];have:=Int.lt_ediv_add_one_mul_self (Al (u.drop off)) y;exact this
 have ag:0<=q:=by rw[<-hq];exact Int.ediv_nonneg bn ω
 have bg:q<1000000000:=by rw[<-hq];exact Int.ediv_lt_of_lt_mul y (by rw[Int.mul_comm];exact hT)
 have l:(0:Int)<v[n-1]:=ω;generalize ak:u[off+n]*1000000000+u[off+(n-1)]=head at ab;have am:0<=head:=ω;have c2:head<=v[n-1]*1000000000+v[n-2]:=by
  rcases Int.lt_or_le (v[n-1]*1000000000+v[n-2]) head with h|h
  .exfalso;have a1:(1000000000:Int) ^ (n-2)*((v[n-1]*1000000000+v[n-2]+1)*1000000000)<=1000000000 ^ (n-2)*(head*1000000000+u[off+(n-2)]):=Int.mul_le_mul_of_nonneg_left ω (Int.le_of_lt hP);have a2:Al v*1000000000<(1000000000 ^ (n-2)*(v[n-1]*1000000000+v[n-2]+1))*1000000000:=(by have:(1000000000:Int) ^ (n-2)*(v[n-1]*1000000000+v[n-2]+1)=1000000000 ^ (n-2)*(v[n-1]*1000000000+v[n-2])+1000000000 ^ (n-2):=(by grind);omega);have a3:((1000000000:Int) ^ (n-2)*(v[n-1]*1000000000+v[n-2]+1))*1000000000=1000000000 ^ (n-2)*((v[n-1]*1000000000+v[n-2]+1)*1000000000):=(by grind);omega
  .exact h
 have c3:0<=head / v[n-1]:=Int.ediv_nonneg am ω;have bl:head / v[n-1]<=1000000001:=by have:head / v[n-1]<1000000002:=Int.ediv_lt_of_lt_mul l ω;omega
 have bf:=Int.emod_nonneg head (ω:v[n-1]≠0);have bx:=Int.emod_lt_of_pos head l;have bm:=Int.mul_ediv_add_emod head v[n-1];unfold Zv;have w1:Ac ((v.length:Int)-1)=((n-1:Nat):Int):=by rw[Ac,B3] <;> omega
 have w2:Ac ((v.length:Int)-2)=((n-2:Nat):Int):=by rw[Ac,B3] <;> omega
 have w3:(v.length:Int)=((n:Nat):Int):=ω;have x1:Ba u[off+n]=u[off+n]:=Df ω ω;have x2:Ba (u[off+n]*1000000000)=u[off+n]*1000000000:=Df ω ω;have x3:Ba u[off+(n-1)]=u[off+(n-1)]:=Df ω ω;have x4:Ba (u[off+n]*1000000000+u[off+(n-1)])=head:=by rw[Ba,Df ω ω,ak]
 have x5:Ba v[n-1]=v[n-1]:=Df ω ω;have x6:Ba v[n-2]=v[n-2]:=Df ω ω;have x7:Ba u[off+(n-2)]=u[off+(n-2)]:=Df ω ω;rw[w1,w2,D3 rfl (ω:n-1<v.length),Ad,D3 rfl (ω:n-2<v.length),Ad,w3,R3 rfl (ω:n<n+1) ω,Ad,R3 rfl (ω:n-1<n+1) ω,Ad,x1,x2,x3,x4,x5,x6,L9 am ω l,Ad,Lk am l,Ad];refine A23 (Ej (λ(g,rest)=>g*v[n-1]+rest=head/\0<=rest/\rest<2000000000/\q<=g/\g<=1000000001) (λ(g,_)=>g.toNat) (λg=>q<=g/\g<=q+1/\g<=1000000000) ⟨by rw[Int.mul_comm];exact bm,bf,ω,?_,bl⟩ ?_ ?_)
 .rcases Int.lt_or_le (head / v[n-1]) q with h|h
  .exfalso;have a1:(head / v[n-1]+1)*v[n-1]<=q*v[n-1]:=Int.mul_le_mul_of_nonneg_right ω ω;have a2:head<(head / v[n-1]+1)*v[n-1]:=Int.lt_ediv_add_one_mul_self head l;have a3:q*(1000000000 ^ (n-2)*(v[n-1]*1000000000+v[n-2]))<=q*Al v:=Int.mul_le_mul_of_nonneg_left ω ag;have a4:(1000000000:Int) ^ (n-2)*((head+1)*1000000000)<=1000000000 ^ (n-2)*(q*(v[n-1]*1000000000+v[n-2])):=(by apply Int.mul_le_mul_of_nonneg_left _ (Int.le_of_lt hP);have b1:(head+1)*1000000000<=q*v[n-1]*1000000000:=ω;have b2:0<=q*v[n-2]:=Int.mul_nonneg ag ad.1;have b3:q*(v[n-1]*1000000000+v[n-2])=q*v[n-1]*1000000000+q*v[n-2]:=(by grind);omega);have a5:q*((1000000000:Int) ^ (n-2)*(v[n-1]*1000000000+v[n-2]))=1000000000 ^ (n-2)*(q*(v[n-1]*1000000000+v[n-2])):=(by grind);have a6:(1000000000:Int) ^ (n-2)*((head+1)*1000000000)=1000000000 ^ (n-2)*(head*1000000000)+1000000000 ^ (n-2)*1000000000:=(by grind);have a7:(1000000000:Int) ^ (n-2)*(head*1000000000+u[off+(n-2)])=1000000000 ^ (n-2)*(head*1000000000)+1000000000 ^ (n-2)*u[off+(n-2)]:=(by grind);have a8:(1000000000:Int) ^ (n-2)*(u[off+(n-2)]+1)<=1000000000 ^ (n-2)*1000000000:=Int.mul_le_mul_of_nonneg_left ω (Int.le_of_lt hP);have a9:(1000000000:Int) ^ (n-2)*(u[off+(n-2)]+1)=1000000000 ^ (n-2)*u[off+(n-2)]+1000000000 ^ (n-2):=(by grind);omega
  .exact h
 .rintro⟨g,rest⟩ ⟨k1,k2,k3,k4,k5⟩;have S:0<=g:=ω;have w4:Ba (v[n-1])=v[n-1]:=x5;have af:∀(hgt:q<g),(some (Sum.inl ((Ba (g-1)),(Ba (rest+v[n-1])))):Option ((Int×Int)⊕Int))=some (.inl (g-1,rest+v[n-1])):=(by intro hgt;rw[show Ba (g-1)=g-1 from Df ω ω,show Ba (rest+v[n-1])=rest+v[n-1] from Df ω ω]);have stay:∀(hr:rest<1000000000) (hgt:q<g),(g-1)*v[n-1]+(rest+v[n-1])=head/\0<=rest+v[n-1]/\rest+v[n-1]<2000000000/\q<=g-1/\g-1<=1000000001:=(by intro hr hgt;exact⟨al1 k1,ω,ω,ω,ω⟩);by_cases hr:rest<1000000000
  .by_cases Y:g>=1000000000
   .refine .inl ⟨(g-1,rest+v[n-1]),?_,stay hr ω,ζ⟩;simp only[Ap hr,Ak,Ap Y,Ad];exact af ω
   .have bq:=Aet S ω ad.1 ad.2;have y1:Ba (g*v[n-2])=g*v[n-2]:=Df ω ω;have y2:Ba (rest*1000000000)=rest*1000000000:=Df ω ω;have y3:Ba (rest*1000000000+u[off+(n-2)])=rest*1000000000+u[off+(n-2)]:=Df ω ω;have az:g*(v[n-1]*1000000000+v[n-2])=(head-rest)*1000000000+g*v[n-2]:=gtb k1;simp only[Ap hr,Ak,Ax Y,Am,R3 rfl (ω:n-2<n+1) (ω:off+(n-2)<u.length),Ad,y1,x7,y2,y3];by_cases ae:g*v[n-2]>rest*1000000000+u[off+(n-2)]
    .have hgt:q<g:=A22 (P:=1000000000 ^ (n-2)) (tb:=v[n-1]*1000000000+v[n-2]) (hb:=head*1000000000+u[off+(n-2)]) (B:=0) hP ao b8 ab ba bi S ω ω;refine .inl ⟨(g-1,rest+v[n-1]),?_,stay hr hgt,ζ⟩;rw[Ap ae,Ak];exact af hgt
    .refine .inr ⟨g,by rw[Ax ae,Am],k4,?_,ω⟩;exact Aq0 (P:=1000000000 ^ (n-2)) (tb:=v[n-1]*1000000000+v[n-2]) (hb:=head*1000000000+u[off+(n-2)]) hP ao aa ab bb ar S ω ω y
  .refine .inr ⟨g,by simp only[Ax hr,Am,Ad],k4,?_⟩;have Y:g<=1000000000:=by
    rcases Int.lt_or_le 1000000000 g with h|h
    .exfalso;have:g=1000000001:=ω;subst this;omega
    .exact h
   refine⟨?_,Y⟩;have az:g*(v[n-1]*1000000000+v[n-2])=(head-rest)*1000000000+g*v[n-2]:=gtb k1;have bp:g*v[n-2]<=1000000000*v[n-2]:=Int.mul_le_mul_of_nonneg_right Y ad.1;exact Aq0 (P:=1000000000 ^ (n-2)) (tb:=v[n-1]*1000000000+v[n-2]) (hb:=head*1000000000+u[off+(n-2)]) hP ao aa ab bb ar S ω ω y
 .rintro g ⟨k1,k2,k3⟩;have S:0<=g:=ω;refine Ej (λ(b,i,o)=>∃k:Nat,i=k/\k<=n/\o.length=u.length/\Cb o/\o.take off=u.take off/\o.drop (off+k)=u.drop (off+k)/\0<=b/\b<=1000000001/\Al o-1000000000 ^ (off+k)*b=Al u-1000000000 ^ off*(g*Al (v.take k))) (λ(_,i,_)=>n-i.toNat) (λ(b,o)=>o.length=u.length/\Cb o/\o.take off=u.take off/\o.drop (off+n)=u.drop (off+n)/\0<=b/\b<=1000000001/\Al o-1000000000 ^ (off+n)*b=Al u-1000000000 ^ off*(g*Al v)) ⟨0,rfl,ω,rfl,hu,rfl,rfl,ω,ω,by simp[Al]⟩ ?_ ?_
  .rintro⟨b,i,o⟩ ⟨k,rfl,hk,ho,I,M,L,b6,b5,f⟩;rcases Cg k n with h|h
   .have E:off+k<o.length:=ω;have J:k<v.length:=ω;have hx:=I.get E;have hy:=hv.get J;have e4:=Mc h ω;have e5:decide ((k:Int)<(n:Int))=true:=Ap ω;have av:0<=g*v[k]:=Int.mul_nonneg S hy.1;have bz:g*v[k]<=1000000000*v[k]:=Int.mul_le_mul_of_nonneg_right k3 hy.1;have y1:Ba v[k]=v[k]:=Df ω ω;have y2:Ba (g*v[k])=g*v[k]:=Df ω ω;have y3:Ac o[off+k]=o[off+k]:=B3 ω ω;generalize au:g*v[k]=p at *;have y4:Ac (o[off+k]-b)=o[off+k]-b:=B3 ω ω;have y5:Ac (p % 1000000000)=p % 1000000000:=B3 ω ω;have y6:Ac (o[off+k]-b-p % 1000000000)=o[off+k]-b-p % 1000000000:=B3 ω ω;have y7:Ac (p / 1000000000)=p / 1000000000:=B3 ω ω;simp only[e5,Ak,R3 rfl (ω:k<n+1) E,D3 rfl J,Ad,y1,y2,au,y3,y4,Lk av (show (0:Int)<1000000000 by decide),L9 av (show p<=_ by omega) (show (0:Int)<1000000000 by decide),y5,y6,y7];refine .inl (Ww (Ej (λ(b',s)=>∃t:Nat,b'=p / 1000000000+t/\s=o[off+k]-b-p % 1000000000+t*1000000000/\s<1000000000/\t<=3) (λ(_,s)=>(-s).toNat) (λ(b',s)=>∃t:Nat,b'=p / 1000000000+t/\s=o[off+k]-b-p % 1000000000+t*1000000000/\s<1000000000/\0<=s/\t<=2) ⟨0,ψ,ψ,ω,ω⟩ ?_ ?_))
    .rintro⟨b',s⟩ ⟨t,rfl,hs,ac,ht⟩;by_cases G:s<0
     .refine .inl ⟨(p / 1000000000+(t+1:Nat),s+1000000000),?_,⟨t+1,rfl,by rw[hs];simp;omega,ω,ω⟩,ζ⟩;rw[Ap G,Ak,show Ac (p / 1000000000+(t:Int)+1)=p / 1000000000+((t+1:Nat):Int) by rw[Ac,B3] <;> omega,show Ac (s+1000000000)=s+1000000000 from B3 ω ω]
     .exact .inr ⟨(p / 1000000000+t,s),by rw[Ax G,Am],t,rfl,hs,ac,ω,ω⟩
    .rintro⟨b',s⟩ ⟨t,rfl,hs,ac,G,ht⟩;have y8:Cs s=s:=Gg ω ω;refine⟨.inl (p / 1000000000+t,((k+1:Nat):Int),o.set (off+k) s),by simp only[R3 rfl (ω:k<n+1) E,Ad,y8,e4];rw[G0 (n:=off+k) ω],_,rfl,⟨k+1,rfl,ω,by simpa using ho,I.set _ G ac,?_,?_,ω,ω,?_⟩,ζ⟩
     .rw[List.take_set_of_le ω];exact M
     .rw[List.drop_set_of_lt ω,show off+(k+1)=(off+k)+1 by omega,<-List.drop_drop,L,List.drop_drop]
     .rw[M4 _ E,Gi v J,show off+(k+1)=(off+k)+1 by omega,Int.pow_succ];have ay:=Int.mul_ediv_add_emod p 1000000000;have pa:(1000000000:Int) ^ (off+k)=1000000000 ^ off*1000000000 ^ k:=Int.pow_add ..;have eA:s-1000000000*(p / 1000000000+(t:Int))=o[off+k]-b-p:=(by rw[hs];omega);rw[al2 eA,f,<-au,pa];exact al3 _ _ _ _ _ _
   .have aj:k=n:=ω;subst aj;refine .inr ⟨(b,o),ψ,ho,I,M,L,b6,b5,?_⟩;rw[Iw ω]at f;exact f
  .rintro⟨b,o⟩ ⟨ho,I,M,L,b6,b5,f⟩;have hV:=y;have ah:off+n<o.length:=ω;have ax:o[off+n]=u[off+n]:=(by have:=congrArg List.head? L;rw[List.head?_drop,List.head?_drop,Bx ah,Bx X]at this;exact Fj this);have hE:Al (u.drop (off+n))=u[off+n]:=by
    have a1:=Ox (u.drop off) (n+1) ω;have a2:=Hs (((hu.drop off).take (n+1)).u32);have a3:=Aeu (hu.drop off) (n+1);have a4:Al ((u.drop off).drop (n+1))=0:=by
     rcases Int.lt_or_le 0 (Al ((u.drop off).drop (n+1))) with h|h
     .have:(1000000000:Int) ^ (n+1)*1<=1000000000 ^ (n+1)*Al ((u.drop off).drop (n+1)):=Int.mul_le_mul_of_nonneg_left h (Int.le_of_lt (Lm _));omega
     .omega
    rw[List.drop_eq_getElem_cons X];simp only[Al];rw[List.drop_drop,show off+(n+1)=off+n+1 by omega]at a4;rw[a4];omega
   have main:∀o':List Int,o'.length=u.length->Cb o'->o'.take off=u.take off->o'.drop (off+n)=u.drop (off+n)->0<=Al ((o'.drop off).take n)/\Al ((o'.drop off).take n)<1000000000 ^ n /\
     Al o'=Al u+1000000000 ^ off*(Al ((o'.drop off).take n)+1000000000 ^ n*u[off+n]-Al (u.drop off)):=by intro o' l1 l2 l3 l4;have a1:=Ox (o'.drop off) n (by rw[List.length_drop];omega);rw[List.drop_drop,l4,hE]at a1;have a2:=Aq1 ω ω l3;refine⟨Hs (((l2.drop off).take n).u32),?_,by rw[<-a1];omega⟩;have:=Kw ((l2.drop off).take n);rw[List.length_take,List.length_drop,Nat.min_eq_left ω]at this;exact this
   obtain⟨m1,m2,m3⟩:=main o ho I M L;have pa:(1000000000:Int) ^ (off+n)=1000000000 ^ off*1000000000 ^ n:=Int.pow_add ..;have star:Al (u.drop off)-g*Al v=Al ((o.drop off).take n)+1000000000 ^ n*(u[off+n]-b):=(by apply Ajh (k:=off);rw[m3,pa]at f;exact al4 f);have y1:Ac u[off+n]=u[off+n]:=B3 ω ω;have y2:Ac (u[off+n]-b)=u[off+n]-b:=B3 ω ω;have ap:=Lm n;have fin:∀(U:List Int) (x:Int) (j:List Int),U=j.set (off+n) x->j.length=u.length->Cb j->0<=x->x<1000000000->j.take off=u.take off->Al U=Al u-1000000000 ^ off*(q*Al v) ->
     U.length=u.length/\Cb U/\0<=q/\q<1000000000/\Al U=Al u-1000000000 ^ off*(q*Al v)/\0<=Al (U.drop off)/\Al (U.drop off)<Al v:=by intro U x j e l1 l2 x0 x1 l3 aq;have L4:U.length=u.length:=(by rw[e];simpa using l1);have T4:U.take off=u.take off:=(by rw[e,List.take_set_of_le ω];exact l3);have hp:=Aq1 ω ω T4;have hd:Al (U.drop off)=Al (u.drop off)-q*Al v:=(by have:Al (U.drop off)-Al (u.drop off) = - (q*Al v):=(by apply Ajh (k:=off);rw[<-hp,aq];exact al5 _ _ _);omega);have bh:(q+1)*Al v=q*Al v+Al v:=(by grind);exact⟨L4,by rw[e];exact l2.set _ x0 x1,ag,bg,aq,ω,ω⟩
   simp only[R3 rfl (ω:n<n+1) ah,ax,Ad,y1,y2];by_cases z:u[off+n]-b>=0
   .have c1:g*Al v<=Al (u.drop off):=(by have:=Int.mul_nonneg (Int.le_of_lt ap) z;omega);have R:g=q:=by
     rcases Int.lt_or_le q g with h|h
     .exfalso;have:(q+1)*Al v<=g*Al v:=Int.mul_le_mul_of_nonneg_right ω ω;omega
     .omega
    have y3:Cs (u[off+n]-b)=u[off+n]-b:=Gg ω ω;have y4:Cs g=g:=Gg ω ω;rw[Ap z,Ak,y3,y4,G0 (n:=off+n) ω];refine⟨_,rfl,?_⟩;rw[R];refine fin _ (u[off+n]-b) o rfl ho I z ω M ?_;rw[M4 _ ah,ax];rw[R]at f;exact al6 f
   .have R:g=q+1:=by
     have h1:1000000000 ^ n*(u[off+n]-b)<=1000000000 ^ n*(-1):=Int.mul_le_mul_of_nonneg_left ω (Int.le_of_lt ap);rcases Int.lt_or_le q g with h|h
     .omega
     .exfalso;have:g*Al v<=q*Al v:=Int.mul_le_mul_of_nonneg_right h ω;omega
    rw[Ax z,Am];refine Ej (λ(c,i,j)=>∃k:Nat,i=k/\k<=n/\j.length=u.length/\Cb j/\j.take off=u.take off/\j.drop (off+k)=o.drop (off+k)/\0<=c/\c<=1/\Al j+1000000000 ^ (off+k)*c=Al o+1000000000 ^ off*Al (v.take k)) (λ(_,i,_)=>n-i.toNat) (λ(c,j)=>j.length=u.length/\Cb j/\j.take off=u.take off/\j.drop (off+n)=o.drop (off+n)/\0<=c/\c<=1/\Al j+1000000000 ^ (off+n)*c=Al o+1000000000 ^ off*Al v) ⟨0,rfl,ω,ho,I,M,rfl,ω,ω,by simp[Al]⟩ ?_ ?_
    .rintro⟨c,i,j⟩ ⟨k,rfl,hk,h3,N,V,Z,b4,b0,D⟩;rcases Cg k n with h|h
     .have E:off+k<j.length:=ω;have J:k<v.length:=ω;have hx:=N.get E;have hy:=hv.get J;have e4:=Mc h ω;have e5:decide ((k:Int)<(n:Int))=true:=Ap ω;have z1:Cs (j[off+k]+v[k])=j[off+k]+v[k]:=Gg ω ω;have z2:Cs (j[off+k]+v[k]+c)=j[off+k]+v[k]+c:=Gg ω ω;generalize hs:j[off+k]+v[k]+c=s at z2;have G:0<=s:=ω;have ac:s<2000000000:=ω;refine .inl ⟨(s / 1000000000,((k+1:Nat):Int),j.set (off+k) (s % 1000000000)),?_,⟨k+1,rfl,ω,by simpa using h3,N.set _ ω ω,?_,?_,ω,ω,?_⟩,ζ⟩
      .simp only[e5,Ak,R3 rfl (ω:k<n+1) E,D3 rfl J,Ad,z1,hs,z2,Aja G (show s<=_ by omega) (show (0:Int)<1000000000 by decide),Lk G (show (0:Int)<1000000000 by decide),e4];rw[G0 (n:=off+k) ω]
      .rw[List.take_set_of_le ω];exact V
      .rw[List.drop_set_of_lt ω,show off+(k+1)=(off+k)+1 by omega,<-List.drop_drop,Z,List.drop_drop]
      .rw[M4 _ E,Gi v J,show off+(k+1)=(off+k)+1 by omega,Int.pow_succ];have ay:=Int.mul_ediv_add_emod s 1000000000;have pk:(1000000000:Int) ^ (off+k)=1000000000 ^ off*1000000000 ^ k:=Int.pow_add ..;rw[pk]at D ⊢;exact al7 hs ay D
     .have aj:k=n:=ω;subst aj;refine .inr ⟨(c,j),ψ,h3,N,V,Z,b4,b0,?_⟩;rw[Iw ω]at D;exact D
    .rintro⟨c,j⟩ ⟨h3,N,V,Z,b4,b0,D⟩;have ai:off+n<j.length:=ω;obtain⟨r1,r2,r3⟩:=main j h3 N V (Z.trans L);have bj:j[off+n]=u[off+n]:=(by have:=congrArg List.head? (Z.trans L);rw[List.head?_drop,List.head?_drop,Bx ai,Bx X]at this;exact Fj this);have be:Al (u.drop off)-q*Al v=Al ((j.drop off).take n)+1000000000 ^ n*(u[off+n]-b+c):=(by apply Ajh (k:=off);rw[r3,pa]at D;rw[R]at f;rw[pa]at f;exact al8 f D);have bk:u[off+n]-b+c=0:=by
      have bh:(q+1)*Al v=q*Al v+Al v:=(by grind);rcases Int.lt_or_le (u[off+n]-b+c) 0 with h|h
      .exfalso;have h1:1000000000 ^ n*(u[off+n]-b+c)<=1000000000 ^ n*(-1):=Int.mul_le_mul_of_nonneg_left ω (Int.le_of_lt ap);omega
      .omega
     have y5:Ac c=c:=B3 ω ω;have y6:Ac (u[off+n]-b+c)=0:=(by rw[bk];rfl);have y7:Cs (0:Int)=0:=rfl;have y8:Ba (g-1)=q:=(by rw[R,Ba,Df ω ω];omega);have y9:Cs q=q:=Gg ω ω;simp only[R3 rfl (ω:n<n+1) ai,Ad,y5,y6,y7,y8,y9];rw[G0 (n:=off+n) ω];refine⟨_,rfl,?_⟩;refine fin _ 0 j rfl h3 N ω ω V ?_;rw[M4 _ ai,bj];rw[R]at f;exact al9 D f ω
theorem A27 (a:List Int) (m:Int):Aix a m=Wh a m:=rfl
theorem A28 {t d r:Int} (ht:1<=t) (ht':t<1000000000) (hd:d*(t+1)+r=1000000000) (f:0<=r) (b:r<=t):500000000<=d*t:=by
 have c:0<=d:=by
  rcases Int.lt_or_le d 0 with h|h
  .exfalso;have:d*(t+1)<=(-1)*(t+1):=Int.mul_le_mul_of_nonneg_right ω ω;omega
  .exact h
 have e:d*(t+1)=d*t+d:=by grind
 rcases Int.lt_or_le t 2 with h|h
 .have:t=1:=ω;subst this;omega
 .rcases Int.lt_or_le d 2 with h2|h2
  .have:d=0\/d=1:=ω;rcases this with rfl|rfl <;> omega
  .have h3:2*(t-1)<=d*(t-1):=Int.mul_le_mul_of_nonneg_right h2 ω;have g:d*(t-1)=d*t-d:=(by grind);omega
theorem bl1 (P t d:Int):P*t*d=P*(d*t):=by grind
theorem bl2 {u o X q V K Q S:Int} (h:o=u-X*(q*V)) (b:u+V*(X*1000000000)*Q=S):o+V*X*(q+1000000000*Q)=S:=by grind
set_option maxHeartbeats 1000000 in
theorem Aji (m n:Nat) (hm:Bl m<274877906944) (hn:Bl n<274877906944) (G:n≠0):Tt (Ag m) (Ag n)=some (Ag (m / n),Ag (m % n)):=by
 unfold Tt;rw[Uj m n ω ω,Ad];unfold Bl at hm hn;by_cases g:m<n
 .rw[show Fk m n = -1 by rw[Fk,Ay g],Ap (by decide:(-1:Int)<0),Ak,Dm ζ,Ad,Nat.div_eq_of_lt g,Nat.mod_eq_of_lt g,Gq];rfl
 .rw[Ax (show ¬Fk m n<0 by rw[Fk,Av g];split <;> decide),Am];have be:(Ag n).length<=(Ag m).length:=Ia ω;have b0:(Ag n).length≠0:=λe=>Jo G (Fa.1 e);by_cases h1:(Ag n).length=1
  .rw[Dk (ω:((Ag n).length:Int)=1),Ak];have a6:n<1000000000:=(by have:=Oy n;rw[show Bl n=1 from h1]at this;simpa using this);have am:Ag n = [(n:Int)]:=(by rw[N0 G,Nat.div_eq_of_lt a6,Gq,Nat.mod_eq_of_lt a6]);rw[am,show Af [(n:Int)] 0=some (n:Int) from rfl,Ad,show Ba (n:Int)=n from Df ω ω,Ajg m n (by unfold Bl;omega) ω ω,Ad];have az:m % n<n:=Nat.mod_lt _ ω;rw[Rz (m % n) ω,Ad]
  .rw[Cn (ω:((Ag n).length:Int)≠1),Am];generalize hL:(Ag n).length=L at *;generalize hA:(Ag m).length=A at *;have w1:Ac ((L:Int)-1)=((L-1:Nat):Int):=ξ;have hi:L-1<(Ag n).length:=ω;have ht:=(Fh n).get hi;have ax:(Ag n)[L-1]≠0:=(by have:=(Aen n).2 (Jo G);rw[List.getLast_eq_getElem]at this;simpa[hL] using this);generalize y:(Ag n)[L-1]=t at *;have w2:Ba t=t:=Df ω ω;have w3:Ba (t+1)=t+1:=Df ω ω;rw[w1,D3 rfl hi,y,Ad,w2,w3,L9 δ δ ω,Ad];have U:=Int.mul_ediv_add_emod 1000000000 (t+1);have ah:=Int.emod_nonneg 1000000000 (ω:t+1≠0);have b9:=Int.emod_lt_of_pos 1000000000 (ω:0<t+1);have aq:1<=1000000000 / (t+1):=by
    rcases Int.lt_or_le (1000000000 / (t+1)) 1 with h|h
    .exfalso;have:(t+1)*(1000000000 / (t+1))<=(t+1)*0:=Int.mul_le_mul_of_nonneg_left ω ω;omega
    .exact h
   have ap:1000000000 / (t+1)<=500000000:=(by have:=Int.ediv_lt_of_lt_mul (a:=1000000000) (b:=500000001) (c:=t+1) ω ω;omega);obtain⟨d,hd⟩:∃d:Nat,1000000000 / (t+1)=(d:Int):=⟨(1000000000 / (t+1)).toNat,ω⟩;rw[hd]at U aq ap ⊢;obtain⟨u,ag,E,S,R⟩:=Aqz (Ag m) d (Fh m) ω ω;obtain⟨v0,af,ae,D,b7⟩:=Aqz (Ag n) d (Fh n) ω ω;rw[ag,Ad,A27,af,Ad,Fy]at *;rw[hL]at ae;rw[hA]at E;rw[Ael rfl (ω:L<=v0.length),Ad];have x:=Lm (L-1);have pL:(1000000000:Int) ^ L=1000000000 ^ (L-1)*1000000000:=(by rw[<-Int.pow_succ];congr 1;omega);have Y:=Gi (Ag n) hi;rw[Iw ω,Fy,y]at Y;have ay:=Hs (((Fh n).take (L-1)).u32);have Z:=Kw ((Fh n).take (L-1));rw[List.length_take,hL,Nat.min_eq_left ω]at Z;have bb:(n:Int)*d<1000000000 ^ L:=(by have a1:(n:Int)*d<(1000000000 ^ (L-1)*(t+1))*d:=Int.mul_lt_mul_of_pos_right (by have:(1000000000:Int) ^ (L-1)*(t+1)=1000000000 ^ (L-1)*t+1000000000 ^ (L-1):=(by grind);omega) ω;have a2:(1000000000 ^ (L-1)*(t+1))*(d:Int)=1000000000 ^ (L-1)*((t+1)*d):=(by grind);have a3:(1000000000:Int) ^ (L-1)*((t+1)*d)<=1000000000 ^ (L-1)*1000000000:=Int.mul_le_mul_of_nonneg_left ω (Int.le_of_lt x);omega);have M:Al (v0.take L)=(n:Int)*d:=by
    have e:=Ox v0 L ω;have z:Al (v0.drop L)=0:=by
     have a1:=Aeu D L;have a2:=Hs ((D.take L).u32);rcases Int.lt_or_le 0 (Al (v0.drop L)) with h|h
     .have:(1000000000:Int) ^ L*1<=1000000000 ^ L*Al (v0.drop L):=Int.mul_le_mul_of_nonneg_left h (Int.le_of_lt (Lm _));omega
     .omega
    rw[z]at e;omega
   have I:(v0.take L).length=L:=(by rw[List.length_take];omega);have f:=D.take L;have J:L-1<(v0.take L).length:=ω;have ak:500000000<=(d:Int)*t:=A28 (r:=1000000000 % (t+1)) ω ω (by rw[Int.mul_comm];exact U) ah ω;have l:500000000<=(v0.take L)[L-1]:=by
    have e:=Gi (v0.take L) J;rw[Iw ω,M]at e;have b1:=Kw (f.take (L-1));rw[List.length_take,I,Nat.min_eq_left ω]at b1;have b2:(1000000000:Int) ^ (L-1)*t*d<=n*d:=Int.mul_le_mul_of_nonneg_right ω ω;have b3:(1000000000:Int) ^ (L-1)*500000000<=1000000000 ^ (L-1)*(d*t):=Int.mul_le_mul_of_nonneg_left ak (Int.le_of_lt x);rw[bl1]at b2;rcases Int.lt_or_le (v0.take L)[L-1] 500000000 with h|h
    .exfalso;have b4:(1000000000:Int) ^ (L-1)*((v0.take L)[L-1]+1)<=1000000000 ^ (L-1)*500000000:=Int.mul_le_mul_of_nonneg_left ω (Int.le_of_lt x);have b5:(1000000000:Int) ^ (L-1)*((v0.take L)[L-1]+1)=1000000000 ^ (L-1)*(v0.take L)[L-1]+1000000000 ^ (L-1):=(by grind);omega
    .exact h
   generalize b6:v0.take L=v at *;have w4:Ac ((A:Int)-(L:Int))=((A-L:Nat):Int):=ξ;have w5:Ac (((A-L:Nat):Int)+1)=((A-L+1:Nat):Int):=ξ;rw[w4,w5,Ka rfl rfl (Nat.le_refl _) ω ω,Ad,E];have b8:=Hs S.u32;have ar:(0:Int)<(n:Int)*d:=Int.mul_pos ω ω;refine Jn (λ(i,w,q)=>∃k:Nat,i=(k:Int)-1/\k<=A-L+1/\w.length=A+1/\Cb w/\q.length=A-L+1/\Cb q/\Al w<Al v*1000000000 ^ k/\Al w+Al v*1000000000 ^ k*Al (q.drop k)=(m:Int)*d) (λ(i,_,_)=>(i+1).toNat) (λ(w,q)=>w.length=A+1/\Cb w/\q.length=A-L+1/\Cb q/\Al w<Al v/\Al w+Al v*Al q=(m:Int)*d) ⟨A-L+1,ω,Nat.le_refl _,E,S,ψ,Cb.replicate _,?_,by rw[List.drop_of_length_le ψ];simp[Al,R]⟩ ?_ ?_
   .have aj:(m:Int)<1000000000 ^ A:=(by have:=Kw (Fh m);rwa [Fy,hA]at this);have a1:(m:Int)*d<1000000000 ^ A*500000000:=(by have c1:(m:Int)*d<=m*500000000:=Int.mul_le_mul_of_nonneg_left ω ω;have c2:(m:Int)*500000000<1000000000 ^ A*500000000:=Int.mul_lt_mul_of_pos_right aj δ;omega);have a2:(1000000000:Int) ^ (L-1)*500000000<=Al v:=(by have e:=Gi v J;rw[Iw ω]at e;have b1:=Hs ((f.take (L-1)).u32);have b3:(1000000000:Int) ^ (L-1)*500000000<=1000000000 ^ (L-1)*v[L-1]:=Int.mul_le_mul_of_nonneg_left l (Int.le_of_lt x);omega);have a3:(1000000000:Int) ^ (L-1)*500000000*1000000000 ^ (A-L+1)<=Al v*1000000000 ^ (A-L+1):=Int.mul_le_mul_of_nonneg_right a2 (Int.le_of_lt (Lm _));have a4:(1000000000:Int) ^ (L-1)*500000000*1000000000 ^ (A-L+1)=1000000000 ^ A*500000000:=(by have:(1000000000:Int) ^ A=1000000000 ^ (L-1)*1000000000 ^ (A-L+1):=(by rw[<-Int.pow_add];congr 1;omega);rw[this];grind);rw[R];omega
   .rintro⟨i,w,q⟩ ⟨k,rfl,hk,ac,B,X,V,a7,s⟩;cases k with
    | zero=>exact .inr ⟨(w,q),ψ,ac,B,X,V,by simpa using a7,by simpa using s⟩
    | succ j=>
     have e0:((j+1:Nat):Int)-1=(j:Int):=ω;have e1:decide ((j:Int)>=0)=true:=Ap ω;have w6:Ac ((j:Int)+(L:Int))=((j+L:Nat):Int):=ξ;have w7:Ac (((j+L:Nat):Int)+1)=((j+L+1:Nat):Int):=ξ;have sA:Qz (A+1) (j:Int) ((j+L+1:Nat):Int)=some (j,j+L+1):=(by have c1:(0:Int)<=(j:Int):=ω;have c2:(j:Int)<=((j+L+1:Nat):Int):=ω;have c3:((j+L+1:Nat):Int)<=((A+1:Nat):Int):=ω;have c4:(j:Int)=0\/(j:Int)<((j+L+1:Nat):Int):=ω;rw[Qz,Ay ⟨c1,c2,c3,c4⟩];rfl);have au:Al (w.drop j)<Al v*1000000000:=by
      have s1:=Ox w j ω;have s2:=Hs ((B.take j).u32);rcases Int.lt_or_le (Al (w.drop j)) (Al v*1000000000) with h|h
      .exact h
      .exfalso;have:(1000000000:Int) ^ j*(Al v*1000000000)<=1000000000 ^ j*Al (w.drop j):=Int.mul_le_mul_of_nonneg_left h (Int.le_of_lt (Lm _));have e:Al v*(1000000000:Int) ^ (j+1)=1000000000 ^ j*(Al v*1000000000):=(by rw[Int.pow_succ];grind);omega
     obtain⟨qd,o,r1,r2,r3,r4,r5,r6,r7,r8⟩:=A26 v w j L f B I ω ω l ω au;have a8:j<q.length:=ω;have w8:Ac ((j:Int)-1)=(j:Int)-1:=ξ;have lG:Ge (A+1) o=some ():=(by rw[Ge,Ay ω]);refine .inl ⟨((j:Int)-1,o,q.set j qd),?_,⟨j,rfl,ω,ω,r3,by simpa using X,V.set _ r4 r5,?_,?_⟩,ψ⟩
     .simp only[e0,e1,Ak,w6,w7,sA,Ad,Nat.zero_add,show j+L+1-j=L+1 by omega,r1,lG,D3 rfl a8,w8,G0 rfl]
     .have s1:=Ox o j ω;have s2:=Kw (r3.take j);rw[List.length_take,Nat.min_eq_left ω]at s2;have:(1000000000:Int) ^ j*(Al (o.drop j)+1)<=1000000000 ^ j*Al v:=Int.mul_le_mul_of_nonneg_left ω (Int.le_of_lt (Lm _));have e:(1000000000:Int) ^ j*(Al (o.drop j)+1)=1000000000 ^ j*Al (o.drop j)+1000000000 ^ j:=(by grind);rw[Int.mul_comm (Al v)];omega
     .have d1:(q.set j qd).drop j=qd::q.drop (j+1):=(by rw[List.drop_eq_getElem_cons (by simpa using a8),List.drop_set_of_lt ω];simp);rw[d1];simp only[Al];rw[Int.pow_succ]at s;exact bl2 (K:=0) r6 s
   .rintro⟨w,q⟩ ⟨h2,h3,h4,h5,h6,h7⟩;rw[M]at h6 h7;have ad:=Hs h3.u32;have ba:=Hs h5.u32;have N:=(Int.ediv_emod_unique ar (r:=Al w) (q:=Al q) (a:=(m:Int)*d)).2 ⟨by rw[<-h7],ad,h6⟩;have ao:(m*d) / (n*d)=m / n:=Nat.mul_div_mul_right m n ω;have ai:(m*d) % (n*d)=(m % n)*d:=Nat.mul_mod_mul_right d m n;have av:Al q=((m / n:Nat):Int):=(by rw[<-N.1,<-ao];simp);have aa:Al w=(((m % n)*d:Nat):Int):=(by rw[<-N.2,<-ai];simp);have ab:Bl ((m % n)*d)<1099511627776:=(by have g:=Kw h3;have:Bl ((m % n)*d)<=A+1:=(by apply Kx;rw[h2,aa]at g;have e:((1000000000 ^ (A+1):Nat):Int)=1000000000 ^ (A+1):=(by rw[Int.natCast_pow];rfl);omega);omega);dsimp only;rw[Ry w ω,Ad,Mb h3 aa,Ajg _ d ab ω ω,Ad,Ry q ω,Ad,Mb h5 av,Nat.mul_div_cancel _ ω]
theorem Aq2 {n:Nat} (h:Bl n<=2):n<1000000000000000000:=by have h1:=Oy n;have h2:1000000000 ^ Bl n<=1000000000 ^ 2:=Nat.pow_le_pow_right δ h;omega
theorem Aq3 (n:Nat) (h:Bl n<=2):Wg (Ag n)=some ((n:Int),true):=by
 unfold Wg;unfold Bl at h;have ha:=Fh n;refine Jn (λ(w,i)=>∃k:Nat,i=k/\k<=(Ag n).length/\w=Al ((Ag n).drop ((Ag n).length-k))) (λ(_,i)=>(Ag n).length-i.toNat) (λe=>match e with|.inl _=>False | .inr w=>w=n) ⟨0,rfl,ω,by simp[Al]⟩ ?_ ?_
 .rintro⟨w,i⟩ ⟨k,rfl,hk,rfl⟩;rcases Cg k (Ag n).length with c|hge
  .have z:decide ((k:Int)<((Ag n).length:Int))=true:=Ap ω;have u:Ac (((Ag n).length:Int)-1)=((Ag n).length:Int)-1:=ξ;have s:Ac (((Ag n).length:Int)-1-(k:Int))=(((Ag n).length-1-k:Nat):Int):=ξ;have hj:(Ag n).length-1-k<(Ag n).length:=ω;have hx:=ha.get hj;have y:=Aeu ha ((Ag n).length-k);have b:=Kw (ha.drop ((Ag n).length-k));rw[List.length_drop,show (Ag n).length-((Ag n).length-k)=k by omega]at b;have x:(1000000000:Int) ^ k<=1000000000:=(by have:k=0\/k=1:=ω;rcases this with rfl|rfl <;> decide);have q:Ba (Ag n)[(Ag n).length-1-k]=(Ag n)[(Ag n).length-1-k]:=Df ω ω;have l:Ba (18446744073709551615-(Ag n)[(Ag n).length-1-k])=18446744073709551615-(Ag n)[(Ag n).length-1-k]:=Df ω ω;have j:Ba (Al ((Ag n).drop ((Ag n).length-k))*1000000000)=Al ((Ag n).drop ((Ag n).length-k))*1000000000:=Df ω ω;have g:Ba (Al ((Ag n).drop ((Ag n).length-k))*1000000000+(Ag n)[(Ag n).length-1-k])=Al ((Ag n).drop ((Ag n).length-k))*1000000000+(Ag n)[(Ag n).length-1-k]:=Df ω ω;have e4:=Mc c ω;have hc:¬Al ((Ag n).drop ((Ag n).length-k))>(18446744073709551615-(Ag n)[(Ag n).length-1-k]) / 1000000000:=ω;refine .inl ⟨(Al ((Ag n).drop ((Ag n).length-k))*1000000000+(Ag n)[(Ag n).length-1-k],((k+1:Nat):Int)),?_,⟨k+1,rfl,ω,?_⟩,ζ⟩
   .simp only[z,Ak,u,s,D3 rfl hj,Ad,q,l,L9 (show 0<=18446744073709551615-(Ag n)[(Ag n).length-1-k] by omega) (show 18446744073709551615-(Ag n)[(Ag n).length-1-k]<=_ by omega) (show (0:Int)<1000000000 by decide),Ax hc,Am,j,g,e4]
   .have hd:(Ag n).drop ((Ag n).length-(k+1))=(Ag n)[(Ag n).length-1-k]::(Ag n).drop ((Ag n).length-k):=(by rw[show (Ag n).length-(k+1)=(Ag n).length-1-k by omega,List.drop_eq_getElem_cons hj];congr 2;omega);rw[hd];simp only[Al];omega
  .have:k=(Ag n).length:=ω;subst this;refine .inr ⟨.inr _,by simp;rfl,?_⟩;exact Fy n
 .rintro (e|e) f
  .exact f.elim
  .simp only at f ⊢;rw[f]
theorem A29 (m n:Nat) (hm:Bl m<274877906944) (l:Bl n<274877906944):Zi (Ag m) (Ag n)=some (Ag (Nat.gcd m n)):=by
 unfold Zi;refine Jn (λ(a,b)=>∃x y:Nat,a=Ag x/\b=Ag y/\Bl x<274877906944/\Bl y<274877906944/\Nat.gcd x y=Nat.gcd m n) (λ(_,b)=>(Al b).toNat) (λe=>match e with|.inl r=>r=Ag (Nat.gcd m n) | .inr r=>r=Ag (Nat.gcd m n)) ⟨m,n,rfl,rfl,hm,l,rfl⟩ ?_ ?_
 .rintro⟨a,b⟩ ⟨x,y,rfl,rfl,hx,hy,hg⟩;by_cases c:y=0
  .subst c;refine .inr ⟨.inr (Ag x),by rw[Gq];rfl,?_⟩;show Ag x=_;rw[<-hg,Nat.gcd_zero_right]
  .have s:(Ag y).length≠0:=λe=>Jo c (Fa.1 e);have k:decide (((Ag y).length:Int)>0)=true:=Ap ω;by_cases h2:Bl x<=2/\Bl y<=2
   .have i:=Aq2 h2.1;have h:=Aq2 h2.2;unfold Bl at h2;simp only[k,Ak,Ap (ω:((Ag x).length:Int)<=2),Ap (ω:((Ag y).length:Int)<=2),Ad,Aq3 x h2.1,Aq3 y h2.2];refine .inr (A2w (Ej (λ(p,q)=>∃u v:Nat,p=u/\q=v/\u<1000000000000000000/\v<1000000000000000000/\Nat.gcd u v=Nat.gcd m n) (λ(_,q)=>q.toNat) (λ(p,q)=>p=((Nat.gcd m n:Nat):Int)/\Nat.gcd m n<1000000000000000000) ⟨x,y,rfl,rfl,i,h,hg⟩ ?_ ?_))
    .rintro⟨p,q⟩ ⟨u,v,rfl,rfl,hu,hv,f⟩;by_cases j:v=0
     .subst j;refine .inr ⟨((u:Int),(0:Int)),rfl,?_⟩;rw[Nat.gcd_zero_right]at f;exact⟨by rw[f],ω⟩
     .refine .inl ⟨((v:Int),((u % v:Nat):Int)),?_,⟨v,u % v,rfl,rfl,hv,by have:=Nat.mod_lt u (ω:v>0);omega,?_⟩,?_⟩
      .simp only[Ap (ω:(v:Int)>0),Ak,Lk (ω:(0:Int)<=u) (ω:(0:Int)<v),Ad];rfl
      .rw[<-f,Nat.gcd_comm v,<-Nat.gcd_rec,Nat.gcd_comm]
      .have:=Nat.mod_lt u (ω:v>0);simp only[Int.toNat_natCast];exact this
    .rintro⟨p,q⟩ ⟨rfl,z⟩;dsimp only;rw[Rz _ ω];exact⟨_,rfl,_,rfl,rfl⟩
   .refine .inl ⟨(Ag y,Ag (x % y)),?_,⟨y,x % y,rfl,rfl,hy,by have:=Ia (Nat.mod_le x y);omega,?_⟩,?_⟩
    .have:(bif ((Ag x).length:Int)<=(2:Int) then some (decide (((Ag y).length:Int)<=(2:Int))) else some false)=some false:=by
      unfold Bl at h2;by_cases hc:(Ag x).length<=2
      .rw[Ap (ω:((Ag x).length:Int)<=2),Ak,Ax (ω:¬((Ag y).length:Int)<=2)]
      .rw[Ax (ω:¬((Ag x).length:Int)<=2),Am]
     simp only[k,Ak];rw[this,Ad,Am,Aji x y hx hy c,Ad]
    .rw[<-hg,Nat.gcd_comm y,<-Nat.gcd_rec,Nat.gcd_comm]
    .simp only[Fy];have:=Nat.mod_lt x (ω:y>0);omega
 .rintro (e|e) g
  .simp only at g ⊢;rw[g]
  .simp only at g ⊢;rw[g]
theorem Wz:Ag 1 = [1]:=by rw[N0 δ,show 1 / 1000000000=0 by decide,Gq];rfl
theorem Ajj (n:Nat):Ts (Ag n)=some (decide (n=1)):=by
 unfold Ts;by_cases h0:n=0
 .subst h0;rw[Gq];rfl
 .rw[N0 h0];by_cases h1:n / 1000000000=0
  .rw[h1,Gq];have e:Af [((n % 1000000000:Nat):Int)] 0=some ((n % 1000000000:Nat):Int):=rfl;simp only[List.length_singleton,e,Ad];have:(((1:Nat):Int)==(1:Int))=true:=rfl;rw[this,Ak];congr 1;by_cases b:n=1
   .subst b;rfl
   .rw[Cn ω,Ax b]
  .have c:(Ag (n / 1000000000)).length≠0:=λe=>Jo h1 (Fa.1 e);rw[Cn ζ,Am,Ax ω]
def B1 (b:Bool) (n d:Nat):Aj:=if n=0 then ⟨false,[],[1]⟩ else ⟨b,Ag (n / Nat.gcd n d),Ag (d / Nat.gcd n d)⟩
theorem Oz (b:Bool) (n d:Nat) (g:Bl n<274877906944) (hd:Bl d<274877906944):Ok ⟨b,Ag n,Ag d⟩=some (B1 b n d):=by
 unfold Ok Adk;dsimp only;by_cases h0:n=0
 .subst h0;rw[Gq];rfl
 .have h:(Ag n).length≠0:=λe=>Jo h0 (Fa.1 e);rw[Cn ω,Am,Ajj,Ad,B1,Av h0];by_cases h1:d=1
  .subst h1;rw[Ap rfl,Ak];simp
  .rw[Ax h1,Am,A29 n d g hd,Ad,Ajj,Ad];by_cases hg:Nat.gcd n d=1
   .rw[Ap hg,Ak,hg];simp
   .have f:Nat.gcd n d≠0:=(by have:=Nat.gcd_pos_of_pos_left d (ω:0<n);omega);have c:Bl (Nat.gcd n d)<274877906944:=(by have:=Ia (Nat.gcd_le_left d (ω:0<n));omega);rw[Ax hg,Am,Aji n _ g c f,Ad,Aji d _ hd c f,Ad];rfl
def nv (a:Aj):Nat:=if (Al a.U).toNat=0\/(Al a.B).toNat=0 then 0 else (Al a.U).toNat
def dv (a:Aj):Nat:=if (Al a.U).toNat=0\/(Al a.B).toNat=0 then 1 else (Al a.B).toNat
def sv (a:Aj):Bool:=if (Al a.U).toNat=0\/(Al a.B).toNat=0 then false else a.N
structure RB (k:Nat) (a:Aj):Prop where
 num:Ma a.U
 den:Ma a.B
 nl:a.U.length<=k
 dl:a.B.length<=k
theorem A3a {l:List Int} (h:Ma l):Al l<=5*1000000000 ^ l.length-5:=by induction l with| nil=>simp[Al]| cons d l ih=>have h1:=h d ψ;have h2:=ih (λx hx=>h x (by simp[hx]));simp only[Al,Ei];rw[Int.pow_succ];omega
theorem A3b {l:List Int} (h:Ma l):Al l<1000000000 ^ (l.length+1):=by have h1:=A3a h;have hp:=Lm l.length;rw[Int.pow_succ];omega
theorem Aev {l:List Int} (h:Ma l):Bl (Al l).toNat<=l.length+1:=by
 apply Kx;have h1:=A3b h;have h2:=Hs h;have e:((1000000000 ^ (l.length+1):Nat):Int)=1000000000 ^ (l.length+1):=by rw[Int.natCast_pow];rfl
 omega
theorem RB.mono {j k:Nat} {a:Aj} (h:RB j a) (hk:j<=k):RB k a:=⟨h.num,h.den,by have:=h.nl;omega,by have:=h.dl;omega⟩
theorem K0:Bl 1=1:=by unfold Bl;rw[Wz];rfl
theorem RB.nv {k:Nat} {a:Aj} (h:RB k a):Bl (nv a)<=k+1:=by
 unfold Ab.nv;split
 .simp[Ui]
 .have:=Aev h.num;have:=h.nl;omega
theorem RB.dv {k:Nat} {a:Aj} (h:RB k a):Bl (dv a)<=k+1:=by
 unfold Ab.dv;split
 .simp[K0]
 .have:=Aev h.den;have:=h.dl;omega
theorem Ft (a:Aj):dv a≠0:=by
 unfold dv;split
 .decide
 .omega
theorem R4 (a:Aj) (k:Nat) (h:RB k a) (hk:k<274877906900):Mw a=some ⟨sv a,Ag (nv a),Ag (dv a)⟩:=by
 unfold Mw;have h1:=h.nl;have h2:=h.dl;rw[Aqw _ h.num ω,Ad,Aqw _ h.den ω,Ad];unfold nv dv sv;generalize (Al a.U).toNat=x;generalize (Al a.B).toNat=y;by_cases hx:x=0
 .subst hx;simp only[Gq,true_or,if_true,Wz];rfl
 .have c:(Ag x).length≠0:=λe=>Jo hx (Fa.1 e);by_cases hy:y=0
  .subst hy;simp only[Gq,or_true,if_true,Wz,Cn (ω:((Ag x).length:Int)≠0),Am];rfl
  .have b:(Ag y).length≠0:=λe=>Jo hy (Fa.1 e);simp only[hx,hy,or_self,if_false,Cn (ω:((Ag x).length:Int)≠0),Am,Cn (ω:((Ag y).length:Int)≠0),Ad]
theorem Ajk (a:Aj) (k:Nat) (h:RB k a) (hk:k<274877906900):Po a=some (B1 (sv a) (nv a) (dv a)):=by unfold Po;have h1:=h.nv;have h2:=h.dv;rw[R4 a k h hk,Ad,Oz _ _ _ ω ω];rfl
def Jp (s:Bool) (n:Nat):Int:=if n=0 then 0 else if s then -1 else 1
theorem A3c (s:Bool) (n:Nat) (d:List Int):Yt ⟨s,Ag n,d⟩=some (Jp s n):=by
 unfold Yt Jp;dsimp only;by_cases h:n=0
 .subst h;rw[Gq];rfl
 .have b:(Ag n).length≠0:=λe=>Jo h (Fa.1 e);rw[Cn ω,Am,Av h];cases s <;> rfl
theorem Aew (a:Aj) (k:Nat) (h:RB k a) (hk:k<274877906900):G5 a=some (Jp (sv a) (nv a)):=by unfold G5;rw[R4 a k h hk,Ad,A3c];rfl
theorem Ajl (z:Int) (h1 : -9223372036854775808<=z) (h2:z<=9223372036854775807):Tk z=some (Ag z.natAbs):=by
 unfold Tk;by_cases h:z<0
 .have e:Ba z=z+18446744073709551616:=(by have:IntKind.u64.wrap z=z % 18446744073709551616:=(by simp[IntKind.wrap,IntKind.bits,IntKind.signed]);rw[Ba,this];omega);have b:Ba (0-(z+18446744073709551616))=((z.natAbs:Nat):Int):=(by have:IntKind.u64.wrap (0-(z+18446744073709551616))=(0-(z+18446744073709551616)) % 18446744073709551616:=(by simp[IntKind.wrap,IntKind.bits,IntKind.signed]);rw[Ba,this];omega);rw[Ap h,Ak,e,b,Rz _ ω];rfl
 .have b:Ba z=((z.natAbs:Nat):Int):=(by rw[Ba,Df ω ω];omega);rw[Ax h,Am,b,Rz _ ω];rfl
theorem Uk (z:Int) (h1 : -9223372036854775808<=z) (h2:z<=9223372036854775807):Dj z=some (B1 (decide (z<0)) z.natAbs 1):=by unfold Dj;have:=N2 (n:=z.natAbs) ω;rw[Ajl z h1 h2,Ad,<-Wz,Oz _ _ _ ω (by rw[K0];decide)];rfl
theorem Aq4 (x y:Int) (h1 : -9223372036854775808<=x) (h2:x<=9223372036854775807) (h3 : -9223372036854775808<=y) (b:y<=9223372036854775807) (hy:y≠0):Pk x y=some (B1 (decide (x<0) != decide (y<0)) x.natAbs y.natAbs):=by unfold Pk;have a1:=N2 (n:=x.natAbs) ω;have a2:=N2 (n:=y.natAbs) ω;rw[Cn hy,Am,Ajl x h1 h2,Ad,Ajl y h3 b,Ad,Oz _ _ _ ω ω];rfl
theorem W1 (a b:Aj) (j k:Nat) (ha:RB j a) (hb:RB k b) (hj:j<68719476736) (hk:k<68719476736):Ea a b=some (B1 (sv a != sv b) (nv a*nv b) (dv a*dv b)):=by unfold Ea;have h1:=ha.nv;have h2:=ha.dv;have h3:=hb.nv;have g:=hb.dv;have f:=Hi (nv a) (nv b);have c:=Hi (dv a) (dv b);rw[R4 a j ha ω,Ad,R4 b k hb ω,Ad];dsimp only;rw[R0 _ _ ω ω,Ad,R0 _ _ ω ω,Ad,Oz _ _ _ ω ω];rfl
def K1 (b:Bool) (g i:Nat) (c:Bool) (f h:Nat):Bool:=if b=c then b else if f*i<=g*h then b else c
def Jq (i:Bool) (c g:Nat) (h:Bool) (b f:Nat):Nat:=if i=h then c*f+b*g else if b*g<=c*f then c*f-b*g else b*g-c*f
theorem Aex (a b:Aj) (j k:Nat) (ha:RB j a) (hb:RB k b) (hj:j<68719476736) (hk:k<68719476736) : It a b=some (B1 (K1 (sv a) (nv a) (dv a) (sv b) (nv b) (dv b)) (Jq (sv a) (nv a) (dv a) (sv b) (nv b) (dv b)) (dv a*dv b)):=by
 unfold It Vt;have h1:=ha.nv;have h2:=ha.dv;have h3:=hb.nv;have s:=hb.dv;have q:=Hi (nv a) (dv b);have l:=Hi (nv b) (dv a);have i:=Hi (dv a) (dv b);have h:=Wx (nv a*dv b) (nv b*dv a);have g:=Ia (Nat.sub_le (nv a*dv b) (nv b*dv a));have f:=Ia (Nat.sub_le (nv b*dv a) (nv a*dv b));rw[R4 a j ha ω,Ad,R4 b k hb ω,Ad];dsimp only;rw[R0 _ _ ω ω,Ad,R0 _ _ ω ω,Ad,R0 _ _ ω ω,Ad];by_cases c:sv a=sv b
 .have e:(sv a==sv b)=true:=(by rw[c];exact beq_self_eq_true _);rw[e,Ak,Aqy _ _ ω ω,Ad,Ad,Oz _ _ _ ω ω,K1,Jq,Ay c,Ay c];rfl
 .have e:(sv a==sv b)=false:=(by simpa using c);rw[e,Am,Uj _ _ ω ω,Ad,K1,Jq,Av c,Av c];by_cases hc:nv b*dv a<=nv a*dv b
  .rw[Ap (show Fk (nv a*dv b) (nv b*dv a)>=0 by rw[Fk,Av ω];split <;> decide),Ak,Aes _ _ ω hc,Ad,Ad,Oz _ _ _ ω ω,Ay hc,Ay hc];rfl
  .rw[Ax (show ¬Fk (nv a*dv b) (nv b*dv a)>=0 by rw[Fk,Ay ω];decide),Am,Aes _ _ ω ω,Ad,Ad,Oz _ _ _ ω ω,Av hc,Av hc];rfl
theorem Aai (s:Bool) (d:Nat):B1 s 0 d=⟨false,[],[1]⟩:=by simp[B1]
theorem K2 (s:Bool) (n d k:Nat) (b:Bl n<=k) (hd:Bl d<=k) (hk:1<=k):RB k (B1 s n d):=by
 unfold B1;split
 .refine⟨nofun,(λx h=>?_),ψ,by simpa using hk⟩;simp at h;subst h;decide
 .have h1:=Ajc n (Nat.gcd n d);have h2:=Ajc d (Nat.gcd n d);unfold Bl at *;exact⟨(Fh _).u32,(Fh _).u32,by simp only;omega,by simp only;omega⟩
theorem Aaj (s:Bool) (n d:Nat) (hd:d≠0):nv (B1 s n d)=n / Nat.gcd n d/\dv (B1 s n d)=d / Nat.gcd n d/\(n≠0->sv (B1 s n d)=s)/\(n=0->sv (B1 s n d)=false):=by
 by_cases h0:n=0
 .subst h0;rw[Aai];have c:d / Nat.gcd 0 d=1:=(by rw[Nat.gcd_zero_left];exact Nat.div_self ω);refine⟨by simp[nv,Al],?_,λh=>(h rfl).elim,λ_=>by simp[sv,Al]⟩;rw[c];simp[dv,Al]
 .have hg:0<Nat.gcd n d:=Nat.gcd_pos_of_pos_left d ω;have h1:n / Nat.gcd n d≠0:=(by have:=Nat.div_pos (Nat.gcd_le_left d (ω:0<n)) hg;omega);have h2:d / Nat.gcd n d≠0:=(by have:=Nat.div_pos (Nat.gcd_le_right n (ω:0<d)) hg;omega);have e:B1 s n d=⟨s,Ag (n / Nat.gcd n d),Ag (d / Nat.gcd n d)⟩:=(by simp[B1,h0]);have b:(Al (Ag (n / Nat.gcd n d))).toNat=n / Nat.gcd n d:=(by rw[Fy];rfl);have v2:(Al (Ag (d / Nat.gcd n d))).toNat=d / Nat.gcd n d:=(by rw[Fy];rfl);rw[e];have hc:¬(n / Nat.gcd n d=0\/d / Nat.gcd n d=0):=ω;refine⟨?_,?_,λ_=>?_,λh=>(h0 h).elim⟩
  .simp only[nv,b,v2,Av hc]
  .simp only[dv,b,v2,Av hc]
  .simp only[sv,b,v2,Av hc]
theorem R5 (s:Bool) (n d k:Nat) (hk:k≠0):B1 s (k*n) (k*d)=B1 s n d:=by
 unfold B1;by_cases h:n=0
 .subst h;simp
 .have h1:k*n≠0:=Nat.mul_ne_zero hk h;rw[Av h1,Av h,Nat.gcd_mul_left,Nat.mul_div_mul_left _ _ ω,Nat.mul_div_mul_left _ _ ω]
theorem Aq5 {s t:Bool} {n d:Nat} (h:n≠0->s=t):B1 s n d=B1 t n d:=by
 unfold B1;by_cases h0:n=0
 .simp[h0]
 .rw[h h0]
theorem Aq6 (l:List Int):Lh l=(Lg l).bind λv=>Cj 4 [] v:=by
 unfold Lh Lg;generalize An _ _=x;cases x with
 | none=>rfl
 | some v=>simp only[Ad];cases F7 l 0 v with| none=>rfl| some y=>simp only[Ad];cases Cj 4 [] y <;> rfl
theorem A3d (l:List Int):(H9 l).length<=l.length:=by
 induction l with
 | nil=>simp[H9]
 | cons d l ih=>simp only[H9];cases ht:H9 l with| nil=>simp only[];split <;> simp| cons x m=>rw[ht]at ih;simpa using ih
theorem Ul (l:List Int) (b:l.length<2199023255552):Lh l=some (H9 l):=by have:=A3d l;rw[Aq6,Ry l ω,Ad,Dm ζ];rfl
theorem Aq7 (l:List Int) (hd:Ma l) (z:l.length<1099511627776):Vu l=some (Ag (Al l).toNat):=by
 unfold Vu;refine Jn (λ(c,i,o)=>∃k:Nat,i=k/\k<=l.length/\o.length=k/\Cb o/\0<=c/\c<5/\Al o+1000000000 ^ k*c=Al (l.take k)) (λ(_,i,_)=>l.length-i.toNat) (λ(c,o)=>o.length=l.length/\Cb o/\0<=c/\c<5/\Al o+1000000000 ^ l.length*c=Al l) ⟨0,rfl,ω,rfl,Cb.nil,ω,ω,by simp[Al]⟩ ?_ ?_
 .rintro⟨c,i,o⟩ ⟨k,rfl,hk,f,b,j,hc,hv⟩;rcases Cg k l.length with h|h
  .have hx:=hd l[k] (List.getElem_mem h);refine .inl ⟨((c+l[k]) / 1000000000,((k+1:Nat):Int),o++[(c+l[k]) % 1000000000]),?_,⟨k+1,rfl,ω,by simp[f],b.snoc ω ω,ω,ω,?_⟩,ζ⟩
   .have x:Ba l[k]=l[k]:=Df ω ω;have u:Ba (c+l[k])=c+l[k]:=Df ω ω;have q:Cs ((c+l[k]) % 1000000000)=(c+l[k]) % 1000000000:=Gg ω ω;have e4:=Mc h ω;have s:decide ((k:Int)<(l.length:Int))=true:=(by simpa using h);simp only[s,Ak,D3 rfl h,Ad,x,u,Lk (show 0<=c+l[k] by omega) (show (0:Int)<1000000000 by decide),q,Dm (show (o.length+[(c+l[k]) % 1000000000].length)*4<=_ by simp;omega),L9 (show 0<=c+l[k] by omega) (show c+l[k]<=_ by omega) (show (0:Int)<1000000000 by decide),e4]
   .rw[Gi l h,<-hv,Ll,f,Int.pow_succ];have:=Int.mul_ediv_add_emod (c+l[k]) 1000000000;grind
  .have g:k=l.length:=ω;subst g;refine .inr ⟨(c,o),ψ,f,b,j,hc,by simpa using hv⟩
 .rintro⟨c,o⟩ ⟨h2,h3,D,B,A⟩;have y:=Hs hd;by_cases hc:c>0
  .have q:Cs c=c:=Gg ω ω;simp only[decide_eq_true hc,Ak,q,Dm (show (o.length+[c].length)*4<=_ by simp;omega),Ad,Ul (o++[c]) ζ];rw[Mb (h3.snoc ω ω) (n:=(Al l).toNat) (by rw[Ll,h2];omega)]
  .have:c=0:=ω;subst this;simp only[Int.lt_irrefl,gt_iff_lt,decide_false,Am,Ul o ω,Ad];rw[Mb h3 (n:=(Al l).toNat) ω]
theorem Aey (n:Int):Ph n=Pp n:=rfl
theorem Aez (a b:List Int):Re a b=Tp a b:=rfl
theorem A3e (m d:Nat) (hm:Bl m<1099511627776) (hd:0<d) (b:d<4294967296):Y7 (Ag m) d=some (Ag (m / d),((m % d:Nat):Int)):=by
 have h:=Ajg m d hm hd b;unfold T2 at h;unfold Y7;unfold Bl at hm;rw[Ka rfl rfl (Nat.le_refl _) ω ω]at h ⊢;simp only[Ad]at h ⊢;revert h;generalize An _ _=x;cases x with
 | none=>intro h;cases h
 | some v=>obtain⟨r,o⟩:=v;simp only[Ad];intro h;rw[Aq6];cases ht:Lg o with| none=>rw[ht]at h;cases h| some y=>rw[ht]at h;simp only[Ad]at h ⊢;have hy:y=Ag (m / d):=congrArg Prod.fst (Fj h);have:=Ajc m d;unfold Bl at this;rw[Dm (by rw[hy];simp;omega)];exact h
theorem Ae0 (m n:Nat) (hm:Bl m<1099511627776) (E:n<=m):Rf (Ag m) (Ag n)=some (Ag (m-n)):=by
 unfold Rf;have I:(Ag n).length<=(Ag m).length:=Ia E;unfold Bl at hm;rw[Ka rfl rfl (Nat.le_refl _) ω ω];simp only[Ad];have ha:=Fh m;have hb:=Fh n;refine Jn (λ(c,i,o)=>∃k:Nat,i=k/\k<=(Ag m).length/\o.length=(Ag m).length/\Cb o/\o.drop k=List.replicate ((Ag m).length-k) 0/\0<=c/\c<=1/\Al o=Al ((Ag m).take k)-Al ((Ag n).take k)+1000000000 ^ k*c) (λ(_,i,_)=>(Ag m).length-i.toNat) (λo=>∃c:Int,o.length=(Ag m).length/\Cb o/\0<=c/\c<=1/\Al o=(m:Int)-n+1000000000 ^ (Ag m).length*c) ⟨0,rfl,ω,ψ,Cb.replicate _,ψ,ω,ω,by simp[Al,Aem]⟩ ?_ ?_
 .rintro⟨c,i,o⟩ ⟨k,rfl,hk,D,u,y,L,hc,hv⟩;rcases Cg k (Ag m).length with h|h
  .have hx:=ha.get h;have f:k<o.length:=ω;have e4:=Mc h ω;have N:decide ((k:Int)<((Ag m).length:Int))=true:=Ap ω;have b:o[k]=0:=(by have:=congrArg List.head? y;rw[List.head?_drop,Bx f]at this;have x:(List.replicate ((Ag m).length-k) (0:Int)).head? = some 0:=(by cases hh:(Ag m).length-k with| zero=>omega| succ t=>rfl);rw[x]at this;exact Fj this);have key:∀s:Int,0<=s->s<=1000000000->Al ((Ag m).take (k+1))-Al ((Ag n).take (k+1))=Al ((Ag m).take k)-Al ((Ag n).take k)+1000000000 ^ k*((Ag m)[k]-s+c) ->
     ∃(l d:Int),(bif (Ag m)[k]>=s then (some (Sum.inl (0,((k+1:Nat):Int),(Cu o (k:Int) (Cs ((Ag m)[k]-s)))))) else (some (Sum.inl (1,((k+1:Nat):Int),(Cu o (k:Int) (Cs ((Cs ((Ag m)[k]+1000000000))-s)))))):Option ((Int×Int×List Int)⊕List Int))=some (.inl (l,((k+1:Nat):Int),o.set k d)) /\ (∃q:Nat,((k+1:Nat):Int)=q/\q<=(Ag m).length/\(o.set k d).length=(Ag m).length/\Cb (o.set k d)/\(o.set k d).drop q=List.replicate ((Ag m).length-q) 0/\0<=l/\l<=1/\Al (o.set k d)=Al ((Ag m).take q)-Al ((Ag n).take q)+1000000000 ^ q*l):=by
    intro s h1 h2 g;have j:∀d:Int,(o.set k d).drop (k+1)=List.replicate ((Ag m).length-(k+1)) 0:=(by intro d;rw[List.drop_set_of_lt ω,<-List.drop_drop,y,List.drop_replicate];congr 1);by_cases M:(Ag m)[k]>=s
    .have z:Cs ((Ag m)[k]-s)=(Ag m)[k]-s:=Gg ω ω;refine⟨0,(Ag m)[k]-s,by rw[Ap M,Ak,z,G0 rfl],k+1,rfl,ω,by simpa using D,u.set _ ω ω,j _,ω,ω,?_⟩;rw[M4 _ f,b,g,hv];grind
    .have z:Cs ((Ag m)[k]+1000000000)=(Ag m)[k]+1000000000:=Gg ω ω;have S:Cs ((Ag m)[k]+1000000000-s)=(Ag m)[k]+1000000000-s:=Gg ω ω;refine⟨1,(Ag m)[k]+1000000000-s,by rw[Ax M,Am,z,S,G0 rfl],k+1,rfl,ω,by simpa using D,u.set _ ω ω,j _,ω,ω,?_⟩;rw[M4 _ f,b,g,hv,Int.pow_succ];grind
   refine .inl ?_;rcases Cg k (Ag n).length with hb'|hb'
   .have hy:=hb.get hb';have R:Cs (c+(Ag n)[k])=c+(Ag n)[k]:=Gg ω ω;obtain⟨l,d,B,A⟩:=key (c+(Ag n)[k]) ω ω (by rw[Gi _ h,Gi _ hb'];grind);refine⟨(l,((k+1:Nat):Int),o.set k d),?_,A,ζ⟩;rw[<-B];simp only[N,Ak,D3 rfl h,D3 rfl f,Ad,Ap (ω:(k:Int)<((Ag n).length:Int)),D3 rfl hb',R,e4]
   .obtain⟨l,d,B,A⟩:=key c ω ω (by rw[Gi _ h,Kz (Ag n) hb',Kz (Ag n) ω];grind);refine⟨(l,((k+1:Nat):Int),o.set k d),?_,A,ζ⟩;rw[<-B];simp only[N,Ak,D3 rfl h,D3 rfl f,Ad,Ax (ω:¬(k:Int)<((Ag n).length:Int)),Am,e4]
  .have J:k=(Ag m).length:=ω;subst J;refine .inr ⟨o,ψ,c,D,u,L,hc,?_⟩;rw[Dh,Kz _ I,Fy,Fy]at hv;exact hv
 .rintro o ⟨c,h2,h3,X,V,U⟩;have G:=Kw h3;rw[h2]at G;have hp:=Lm (Ag m).length;have:c=0:=by
   rcases Int.lt_or_le 0 c with hc|hc
   .have:c=1:=ω;subst this;omega
   .omega
  subst this;rw[Ul o ω,Ad,Mb h3 (n:=m-n) ω]
theorem A3f {o:List Int} {k n:Nat} (hk:k<o.length) (h:o.drop k=List.replicate n 0):o[k]=0:=by have:=congrArg List.head? h;rw[List.head?_drop,Bx hk]at this;cases n with| zero=>simp at this| succ t=>exact Fj this
theorem cl1 {o X K c s x y A w:Int} (f:c+x+w=s) (hw:w=y*A) (b:1000000000*(s / 1000000000)+s % 1000000000=s) (z V:Int) (h:o+X*K*c=z+X*(y*V)):o+X*K*(s % 1000000000-x)+X*K*1000000000*(s / 1000000000)=z+X*(y*(V+K*A)):=by grind
set_option maxHeartbeats 1000000 in
theorem W2 (m n:Nat) (hm:Bl m<274877906944) (hn:Bl n<274877906944):My (Ag m) (Ag n)=some (Ag (m*n)):=by
  unfold My;unfold Bl at hm hn;have hw:Ac (((Ag m).length:Int)+((Ag n).length:Int))=(((Ag m).length+(Ag n).length:Nat):Int):=ξ;have M:Ac ((((Ag m).length+(Ag n).length:Nat):Int)+1)=(((Ag m).length+(Ag n).length+1:Nat):Int):=ξ;rw[hw,M,Ka rfl rfl (Nat.le_refl _) ω ω];simp only[Ad];have ha:=Fh m;have hb:=Fh n;have D:Al (Ag n)=n:=Fy n;generalize Ag n=b at *;generalize hL:b.length=L at *;refine Jn (λ(i,o)=>∃k:Nat,i=k/\k<=(Ag m).length/\o.length=(Ag m).length+L+1/\Cb o/\o.drop (k+L)=List.replicate ((Ag m).length+1-k) 0/\Al o=Al ((Ag m).take k)*n) (λ(i,_)=>(Ag m).length-i.toNat) (λo=>o.length=(Ag m).length+L+1/\Cb o/\Al o=((m*n:Nat):Int)) ⟨0,rfl,ω,ψ,Cb.replicate _,by rw[List.drop_replicate];congr 1;omega,by simp[Aem,Al]⟩ ?_ ?_
  . rintro⟨i,o⟩ ⟨k,rfl,hk,ho,G,S,hv⟩;rcases Cg k (Ag m).length with h|h
    . have hx:=ha.get h;have e4:=Mc h ω;have e5:decide ((k:Int)<((Ag m).length:Int))=true:=Ap ω;simp only[e5,Ak];have V:Af (Ag m) (k:Int)=some (Ag m)[k]:=D3 rfl h;generalize J:(Ag m)[k]=x at *;refine .inl (Ww (Ej (λ(c,j,o')=>∃q:Nat,j=q/\o'.length=(Ag m).length+L+1/\Cb o'/\0<=c/\c<1000000000 /\ ((q<=L/\o'.drop (k+L)=List.replicate ((Ag m).length+1-k) 0/\Al o' + 1000000000 ^ (k+q)*c=Al o+1000000000 ^ k*(x*Al (b.take q))) \/ (q=L+1/\c=0/\o'.drop (k+1+L)=List.replicate ((Ag m).length+1-(k+1)) 0/\Al o'=Al o+1000000000 ^ k*(x*n)))) (λ(_,j,_)=>L+1-j.toNat) (λ(c,j,o')=>o'.length=(Ag m).length+L+1/\Cb o'/\o'.drop (k+1+L)=List.replicate ((Ag m).length+1-(k+1)) 0/\Al o'=Al o+1000000000 ^ k*(x*n)) ⟨0,rfl,ho,G,ω,ω,.inl ⟨ω,S,by simp[Al]⟩⟩ ?_ ?_))
      . rintro⟨c,j,o'⟩ ⟨q,rfl,u,g,A,hc,hq⟩;rcases hq with⟨hq,f,l⟩|⟨rfl,rfl,f,l⟩
        . have e8:Ac ((k:Int)+(q:Int))=((k+q:Nat):Int):=ξ;have e6:Ac ((q:Int)+1)=((q+1:Nat):Int):=Mc (Nat.lt_succ_self q) ω;have y:k+q<o'.length:=ω;have a1:=g.get y;have w4:Ba o'[k+q]=o'[k+q]:=Df ω ω;have w5:Ba (c+o'[k+q])=c+o'[k+q]:=Df ω ω;have p1:(1000000000:Int) ^ (k+(q+1))=1000000000 ^ (k+q)*1000000000:=(by rw[<-Nat.add_assoc,Int.pow_succ]);have Y:(1000000000:Int) ^ (k+q)=1000000000 ^ k*1000000000 ^ q:=Int.pow_add ..;rcases Cg q L with hq'|hq'
          . have B:q<b.length:=ω;have hy:=hb.get B;have a6:=Aet hx.1 hx.2 hy.1 hy.2;have w1:Ba x=x:=Df ω ω;have w2:Ba b[q]=b[q]:=Df ω ω;have w3:Ba (x*b[q])=x*b[q]:=Df ω ω;have X:Ba (c+o'[k+q]+x*b[q])=c+o'[k+q]+x*b[q]:=Df ω ω;generalize Z:c+o'[k+q]+x*b[q]=s at X;have E:0<=s:=ω;have a7:s<1000000000000000000:=ω;have w7:Cs (s % 1000000000)=s % 1000000000:=Gg ω ω;refine .inl ⟨(s / 1000000000,((q+1:Nat):Int),o'.set (k+q) (s % 1000000000)),?_,⟨q+1,rfl,by simpa using u,g.set _ ω ω,ω,ω,.inl ⟨ω,?_,?_⟩⟩,ζ⟩
            . simp only[Ap (ω:(q:Int)<(L:Int)),Ak,Ad,e8,D3 rfl y,V,D3 rfl B,w1,w2,w3,w4,w5,Z,X,Lk E (show (0:Int)<1000000000 by decide),L9 E (show s<=_ by omega) (show (0:Int)<1000000000 by decide),w7,e6,G0 rfl]
            . rw[List.drop_set_of_lt ω];exact f
            . rw[M4 _ y,Gi _ B,p1,Y];rw[Y]at l;exact cl1 Z rfl (Int.mul_ediv_add_emod s 1000000000) _ _ l
          . have N:q=L:=ω;subst N;by_cases U:c>0
            . have z:o'[k+q]=0:=A3f y f;refine .inl ⟨(0,((q+1:Nat):Int),o'.set (k+q) c),?_,⟨q+1,rfl,by simpa using u,g.set _ ω ω,ω,ω,.inr ⟨rfl,rfl,?_,?_⟩⟩,ψ⟩
              . have w8:Cs c=c:=Gg ω ω;have w9:Ba c=c:=Df ω ω;simp only[Ax (ω:¬(q:Int)<(q:Int)),Am,Ap U,Ak,Ad,e8,D3 rfl y,z,show Ba (0:Int)=0 from rfl,Int.add_zero,w9,Lk A (show (0:Int)<1000000000 by decide),L9 A (show c<=_ by omega) (show (0:Int)<1000000000 by decide),Int.emod_eq_of_lt A hc,Int.ediv_eq_zero_of_lt A hc,w8,e6,G0 rfl]
              . rw[List.drop_set_of_lt ω,show k+1+q=(k+q)+1 by omega,<-List.drop_drop,f,List.drop_replicate];congr 1
              . rw[M4 _ y,z,Int.sub_zero];rw[Iw ω,D]at l;omega
            . have I:c=0:=ω;subst I;refine .inr ⟨(0,(q:Int),o'),?_,u,g,?_,?_⟩
              . simp only[Ax (ω:¬(q:Int)<(q:Int)),Am,Ad,show decide ((0:Int)>0)=false from rfl]
              . rw[show k+1+q=(k+q)+1 by omega,<-List.drop_drop,f,List.drop_replicate];congr 1
              . rw[Iw ω,D]at l;omega
        . refine .inr ⟨(0,((L+1:Nat):Int),o'),?_,u,g,f,l⟩;simp only[Ax (ω:¬((L+1:Nat):Int)<(L:Int)),Am,Ad,show decide ((0:Int)>0)=false from rfl]
      . rintro⟨c,j,o'⟩ ⟨u,g,f,l⟩;refine⟨_,by simp only[e4],(((k+1:Nat):Int),o'),rfl,⟨k+1,rfl,ω,u,g,f,?_⟩,ζ⟩;rw[l,Gi _ h,Int.add_mul,<-hv,J];grind
    . have R:k=(Ag m).length:=ω;subst R;refine .inr ⟨o,ψ,ho,G,?_⟩;rw[Dh,Fy]at hv;rw[hv];simp
  . rintro o ⟨h2,h3,h4⟩;rw[Ul o ω,Ad,Mb h3 h4]
theorem A3g (m n:Nat) (hm:Bl m<274877906944) (S:Bl n<274877906944):Y6 (Ag m) (Ag n)=some (Ag (m+n)):=by
 unfold Y6;unfold Bl at hm S;have ha:=Fh m;have hb:=Fh n;have G:Al (Ag m)=m:=Fy m;have E:Al (Ag n)=n:=Fy n;have J:=Aer (n:=m);have I:=Aer (n:=n);generalize Ag m=a at *;generalize Ag n=b at *;generalize Y:max a.length b.length=M;refine Jn (λ(c,i,o)=>∃k:Nat,i=k/\o.length=k/\Cb o/\0<=c/\c<=1/\((k<=M/\Al o+1000000000 ^ k*c=Al (a.take k)+Al (b.take k))\/(k=M+1/\c=0/\Al o=m+n/\1000000000 ^ M<=Al o))) (λ(_,i,_)=>M+1-i.toNat) (λo=>Cb o/\Al o=m+n/\(o≠[]->1000000000 ^ (o.length-1)<=Al o)) ⟨0,rfl,rfl,Cb.nil,ω,ω,.inl ⟨ω,by simp[Al]⟩⟩ ?_ ?_
 .rintro⟨c,i,o⟩ ⟨k,rfl,l,h,V,hc,hk⟩;rcases hk with⟨hk,hv⟩|⟨rfl,rfl,hv,hp⟩
  .have e4:Ac ((k:Int)+1)=((k+1:Nat):Int):=Mc (Nat.lt_succ_self k) ω;have step:∀s:Int,0<=s->s<2000000000 ->
     ((G8 .u32 s 1000000000).bind λB=>(Hx s 1000000000).bind λA=>(Cj 4 o [A]).bind λD=>some (Sum.inl (B,(Ac ((k:Int)+1)),D)))=some (Sum.inl (s / 1000000000,((k+1:Nat):Int),o++[s % 1000000000]):(Int×Int×List Int)⊕List Int):=by intro s h1 h2;rw[Aja h1 ω δ,Ad,Lk h1 δ,Ad,Dm ζ,Ad,e4]
   have g:∀s:Int,0<=s->s<2000000000->k<M->Al (a.take (k+1))+Al (b.take (k+1))=Al (a.take k)+Al (b.take k)+1000000000 ^ k*(s-c) ->
     (∃q:Nat,((k+1:Nat):Int)=q/\(o++[s % 1000000000]).length=q/\Cb (o++[s % 1000000000])/\0<=s / 1000000000/\s / 1000000000<=1/\((q<=M/\Al (o++[s % 1000000000])+1000000000 ^ q*(s / 1000000000)=Al (a.take q)+Al (b.take q))\/(q=M+1/\s / 1000000000=0/\Al (o++[s % 1000000000])=m+n/\1000000000 ^ M<=Al (o++[s % 1000000000])))):=by intro s h1 h2 x u;refine⟨k+1,rfl,by simp[l],h.snoc ω ω,ω,ω,.inl ⟨ω,?_⟩⟩;rw[u,<-hv,Ll,l,Int.pow_succ];have:=Int.mul_ediv_add_emod s 1000000000;grind
   by_cases j:k<a.length
   .have hx:=ha.get j;have R:Cs (c+a[k])=c+a[k]:=Gg ω ω;by_cases f:k<b.length
    .have hy:=hb.get f;have z:Cs (c+a[k]+b[k])=c+a[k]+b[k]:=Gg ω ω;refine .inl ⟨((c+a[k]+b[k]) / 1000000000,((k+1:Nat):Int),o++[(c+a[k]+b[k]) % 1000000000]),?_,g (c+a[k]+b[k]) ω ω ω (by rw[Gi a j,Gi b f];grind),ζ⟩;rw[<-step (c+a[k]+b[k]) ω ω];simp only[Ap (ω:(k:Int)<(a.length:Int)),Ap (ω:(k:Int)<(b.length:Int)),Ak,Ad,D3 rfl j,D3 rfl f,R,z]
    .refine .inl ⟨((c+a[k]) / 1000000000,((k+1:Nat):Int),o++[(c+a[k]) % 1000000000]),?_,g (c+a[k]) ω ω ω (by rw[Gi a j,Kz b ω,Kz b ω];grind),ζ⟩;rw[<-step (c+a[k]) ω ω];simp only[Ap (ω:(k:Int)<(a.length:Int)),Ax (ω:¬(k:Int)<(b.length:Int)),Ak,Am,Ad,D3 rfl j,R]
   .by_cases f:k<b.length
    .have hy:=hb.get f;have z:Cs (c+b[k])=c+b[k]:=Gg ω ω;refine .inl ⟨((c+b[k]) / 1000000000,((k+1:Nat):Int),o++[(c+b[k]) % 1000000000]),?_,g (c+b[k]) ω ω ω (by rw[Gi b f,Kz a ω,Kz a ω];grind),ζ⟩;rw[<-step (c+b[k]) ω ω];simp only[Ax (ω:¬(k:Int)<(a.length:Int)),Ap (ω:(k:Int)<(b.length:Int)),Ak,Am,Ad,D3 rfl f,z]
    .have x:k=M:=ω;subst x;rw[Kz a ω,Kz b ω,G,E]at hv;by_cases X:c>0
     .have N:c=1:=ω;subst N;refine .inl ⟨((1:Int) / 1000000000,((k+1:Nat):Int),o++[(1:Int) % 1000000000]),?_,⟨k+1,rfl,by simp[l],h.snoc δ δ,δ,δ,.inr ⟨rfl,rfl,?_,?_⟩⟩,ψ⟩
      .rw[<-step 1 ω ω];simp only[Ax (ω:¬(k:Int)<(a.length:Int)),Ax (ω:¬(k:Int)<(b.length:Int)),Am,Ad,show decide ((1:Int)>0)=true from rfl,Ak]
      .rw[Ll,l];exact hv
      .rw[Ll,l,show (1:Int) % 1000000000=1 from rfl];have:=Hs h.u32;omega
     .have y:c=0:=ω;subst y;refine .inr ⟨o,?_,h,ω,λL=>?_⟩
      .simp only[Ax (ω:¬(k:Int)<(a.length:Int)),Ax (ω:¬(k:Int)<(b.length:Int)),Am,Ad,show decide ((0:Int)>0)=false from rfl]
      .have U:k≠0:=(by intro e;rw[e]at l;exact L (Fa.1 l));rcases Nat.le_total a.length b.length with hab|hab
       .have:k=b.length:=ω;have h1:=I (by intro e;rw[e]at this;simp at this;omega);rw[l,this];omega
       .have:k=a.length:=ω;have h1:=J (by intro e;rw[e]at this;simp at this;omega);rw[l,this];omega
  .refine .inr ⟨o,?_,h,hv,λ_=>by rw[l];simpa using hp⟩;simp only[Ax (ω:¬((M+1:Nat):Int)<(a.length:Int)),Ax (ω:¬((M+1:Nat):Int)<(b.length:Int)),Am,Ad,show decide ((0:Int)>0)=false from rfl]
 .rintro o ⟨h1,h2,h3⟩;congr 1;exact Aeo (Ajf h1 h3) (by rw[h2];simp)
end Go.Ab
