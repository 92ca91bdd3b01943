/- Plain laws. -/
import Derived.Test.YtdinnpegmcadbaaGreatDoorRnDef
import Derived.Lib.ItoaLen
open List
namespace Go.Ab
open Go
variable {i:Nat} {E R S:Type} {α:Type _} {J:E->Option R} {l s t:List α} {X:Option (S⊕E)} {a b e:α}
theorem Ad {α β:Type} (a:α) (f:α->Option β):(some a).bind f=f a:=rfl
theorem Bp {α:Type} {l:List α} (h:i<l.length):l[i]? = some l[i]:=getElem?_eq_getElem h
theorem Bv {α:Type} {l:List α} {a:α} (h:l[i]? = some a):a∈l:=mem_of_getElem? h
theorem Cz (a b:Bool):((a&&b)=true)=(a=true/\b=true):=Bool.and_eq_true a b
theorem bnt:(!true)=false:=rfl
theorem Am (a b:α):(bif true then a else b)=a:=rfl
theorem Ap (a b:α):(bif false then a else b)=b:=rfl
theorem Ds {p:Prop} [Decidable p]:(decide p=true)=p:=decide_eq_true_eq
theorem Ao {c:Prop} {h:Decidable c} (g:¬c) {t:α}:(if c then t else e)=e:=if_neg g
theorem As {c:Prop} {h:Decidable c} (g:c) {t:α}:(if c then t else e)=t:=if_pos g
theorem Cf (a b:Nat):a<b\/a>=b:=Nat.lt_or_ge a b
theorem C1:l.take l.length=l:=take_length
theorem Ik (h:l.length<=i):l.take i=l:=take_of_length_le h
theorem F3:l.length=0↔l = []:=length_eq_zero_iff
theorem Hh (h:a∈l):∃i:Nat,l[i]? = some a:=getElem?_of_mem h
theorem Gt {p:α->Bool}:l.all p=true↔∀x,x∈l->p x=true:=all_eq_true
theorem Ef:a∈s++t↔a∈s\/a∈t:=mem_append
theorem C2 {β:Type _} (f:α->β):(l.map f).length=l.length:=length_map f
theorem Fh (h:some a=some b):a=b:=Option.some.inj h
theorem D0:a::s++t=a::(s++t):=rfl
theorem D4:a∈[b]↔a=b:=mem_singleton
theorem Gc:a∈b::l↔a=b\/a∈l:=mem_cons
theorem D1:(a::l).length=l.length+1:=rfl
theorem Ep:(s++t).length=s.length+t.length:=length_append
theorem Ll (h:l.length<=i):l[i]? = none:=getElem?_eq_none h
theorem M8 {step:S->Option (S⊕E)} {s:S} {r:R} (c:S->Prop) (m:S->Nat) (b:E->Prop) (h0:c s) (f:∀s,c s->(∃h,step s=some (.inl h)/\c h/\m h < m s)\/(∃e,step s=some (.inr e)/\b e)) (g:∀e,b e->J e=some r):(Ak step s).bind J=some r:=by obtain⟨e,q,u⟩:=Jm c m b f s h0;rw[q];exact g e u
theorem Er {step:S->Option (S⊕E)} {s:S} {Q:R->Prop} (c:S->Prop) (m:S->Nat) (b:E->Prop) (h0:c s) (f:∀s,c s->(∃h,step s=some (.inl h)/\c h/\m h < m s)\/(∃e,step s=some (.inr e)/\b e)) (g:∀e,b e->∃r,J e=some r/\Q r):∃r,(Ak step s).bind J=some r/\Q r:=by obtain⟨e,q,u⟩:=Jm c m b f s h0;rw[q];exact g e u
theorem Afr {Q:S->Prop} (h:∃r,X=some r/\∃g,r = .inl g/\Q g):∃g,X=some (.inl g)/\Q g:=by obtain⟨r,q,g,rfl,u⟩:=h;exact⟨g,q,u⟩
theorem A4g {Q:E->Prop} (h:∃r,X=some r/\∃e,r = .inr e/\Q e):∃e,X=some (.inr e)/\Q e:=by obtain⟨r,g,q,rfl,u⟩:=h;exact⟨q,g,u⟩
theorem Aa8 {A:Type} {X:Option R} (f:A->R) {Q:A->Prop} (h:∃r,X=some r/\∃a,r=f a/\Q a):∃a,X=some (f a)/\Q a:=by obtain⟨r,g,a,rfl,q⟩:=h;exact⟨a,g,q⟩
variable {a b i:Int} {n:Nat} {p:Prop} {α:Type} {l:List α}
theorem A4h {β:Type} {c:Prop} [Decidable c] (a b:Option α) (f:α->Option β):(if c then a else b).bind f=if c then a.bind f else b.bind f:=by split <;> rfl
theorem Ci {n:Int} (g : -9223372036854775808<=n) (h:n<=9223372036854775807):IntKind.i64.wrap n=n:=by
 have e:IntKind.i64.wrap n=if 9223372036854775808<=n % 18446744073709551616 then n % 18446744073709551616-18446744073709551616 else n % 18446744073709551616:=by simp[IntKind.wrap,IntKind.bits,IntKind.signed]
 rw[e];split <;> omega
theorem Fz {n:Int} (g:0<=n) (h:n<=18446744073709551615):IntKind.u64.wrap n=n:=by
 have e:IntKind.u64.wrap n=n % 18446744073709551616:=by simp[IntKind.wrap,IntKind.bits,IntKind.signed]
 rw[e];omega
theorem Jp {n:Int} (g:0<=n) (h:n<=4294967295):IntKind.u32.wrap n=n:=by
 have e:IntKind.u32.wrap n=n % 4294967296:=by simp[IntKind.wrap,IntKind.bits,IntKind.signed]
 rw[e];omega
theorem Hs (g:i=n) (h:n<l.length):Ag l i=some l[n]:=by subst g;simp[Ag,h]
theorem Bn {x:α} (g:i=n) (h:l[n]? = some x):Ag l i=some x:=by subst g;simp[Ag,h]
theorem Aa9 (h:i<0\/(l.length:Int)<=i):Ag l i=none:=by
 unfold Ag;split
 .rw[Ll];omega
 .rfl
theorem Ht (g:i=n) (x:α):Cr l i x=l.set n x:=by subst g;simp[Cr]
theorem Dy {b:Nat} {xs ys:List α} (h:(xs.length+ys.length)*b<=140737488355328):B8 b xs ys=some (xs++ys):=by simp[B8,h]
theorem M9 {b:Nat} {len f:Int} {z:α} {c:Nat} (q:len=n) (u:f=c) (A:n<=c) (g:b*c<=281474976710656) (h:c<=140737488355328):Gk b len f z=some (replicate n z):=by subst q;subst u;have B:(0:Int)<=(n:Int):=ω;have v:(n:Int)<=(c:Int):=ω;have w:(c:Int)<=140737488355328:=ω;simp[Gk,v,w,g]
theorem Ak1 {b:Nat} {f:Int} {z:α} {c:Nat} (q:f=c) (h:b*c<=281474976710656) (g:c<=140737488355328):Gk b 0 f z=some []:=by exact M9 (len:=0) (n:=0) (c:=c) rfl q ω h g
theorem C8 (h:a≠b):(a==b)=false:=by simpa using h
theorem Eh (h:a=b):(a==b)=true:=by simpa using h
theorem F4 (h:a≠b):(a != b)=true:=by simpa using h
theorem G0 (h:a=b):(a != b)=false:=by simpa using h
theorem Ar [Decidable p] (h:p):decide p=true:=decide_eq_true h
theorem A3 [Decidable p] (h:¬p):decide p=false:=decide_eq_false h
theorem Xf {g:Int} (h:g=n) (b:n<=l.length):F1 l 0 g=some (l.take n):=by subst h;have:(n:Int)<=(l.length:Int):=ω;simp[F1,this]
theorem O9 (g:0<=a) (hb:0<b):Iy a b=some (a % b):=by have:b≠0:=ω;simp[Iy,this,Int.tmod_eq_emod_of_nonneg g]
theorem Qa (g:0<=a) (c:a<=18446744073709551615) (hb:0<b):Hz .u64 a b=some (a / b):=by have:b≠0:=ω;have h:0<=a / b:=Int.ediv_nonneg g ω;have q:a / b<=a:=Int.ediv_le_self _ g;simp[Hz,this,Int.tdiv_eq_ediv_of_nonneg g];exact Fz h ω
theorem Ar8 (g:0<=a) (c:a<=4294967295) (hb:0<b):Hz .u32 a b=some (a / b):=by have:b≠0:=ω;have h:0<=a / b:=Int.ediv_nonneg g ω;have q:a / b<=a:=Int.ediv_le_self _ g;simp[Hz,this,Int.tdiv_eq_ediv_of_nonneg g];exact Jp h ω
def Av:List Int->Int
 | []=>0
 | d::l=>d+1000000000*Av l
def Cv (l:List Int):Prop:=∀d∈l,0<=d/\d<1000000000
def Qb (l:List Int):Prop:=∀d∈l,0<=d/\d<4294967296
def Can (l:List Int):Prop:=Cv l/\∀h:l≠[],l.getLast h≠0
def Al (n:Nat):List Int:=if h:n=0 then [] else ((n % 1000000000:Nat):Int)::Al (n / 1000000000)
termination_by n
decreasing_by exact Nat.div_lt_self ω δ
theorem Jd:Al 0 = []:=by rw[Al];simp
theorem Pa (h:n≠0):Al n=((n % 1000000000:Nat):Int)::Al (n / 1000000000):=by rw[Al];simp[h]
theorem Cv.nil:Cv []:=λ_ h=>by cases h
theorem Cv.append {l m:List Int} (h:Cv l) (h':Cv m):Cv (l++m):=by
 intro d hd;rcases Ef.1 hd with hd|hd
 .exact h d hd
 .exact h' d hd
variable {d:Int} {l:List Int} {i n:Nat}
theorem Cv.one (h:0<=d) (h':d<1000000000):Cv [d]:=by intro x hx;simp at hx;subst hx;exact⟨h,h'⟩
theorem Cv.snoc (h:Cv l) (hd:0<=d) (b:d<1000000000):Cv (l++[d]):=h.append (Cv.one hd b)
theorem Cv.take (h:Cv l) (k:Nat):Cv (l.take k):=λd hd=>h d (mem_of_mem_take hd)
theorem Cv.drop (h:Cv l) (k:Nat):Cv (l.drop k):=λd hd=>h d (mem_of_mem_drop hd)
theorem Cv.get (h:Cv l) (hi:i<l.length):0<=l[i]/\l[i]<1000000000:=h _ (getElem_mem hi)
theorem Cv.set (h:Cv l) (i:Nat) (hd:0<=d) (b:d<1000000000):Cv (l.set i d):=by
 intro x hx;rcases mem_or_eq_of_mem_set hx with hx|rfl
 .exact h x hx
 .exact⟨hd,b⟩
theorem Cv.replicate (n:Nat):Cv (replicate n 0):=by intro d hd;have:=eq_of_mem_replicate hd;subst this;decide
theorem Cv.tail (h:Cv (d::l)):Cv l:=λx hx=>h x (by simp[hx])
theorem Cv.u32 (h:Cv l):Qb l:=λd hd=>by have:=h d hd;omega
theorem Ar9 (l m:List Int):Av (l++m)=Av l+1000000000 ^ l.length*Av m:=by induction l with| nil=>simp[Av]| cons d l ih=>simp only[D0,Av,ih,D1,Int.pow_succ];grind
theorem Qc (l:List Int) (d:Int):Av (l++[d])=Av l+1000000000 ^ l.length*d:=by rw[Ar9];simp[Av]
theorem Iz (l:List Int) {k:Nat} (h:k<l.length):Av (l.take (k+1))=Av (l.take k)+1000000000 ^ k*l[k]:=by rw[take_succ_eq_append_getElem h,Qc];simp[Nat.min_eq_left (Nat.le_of_lt h)]
theorem Asa (n:Nat):Av (replicate n 0)=0:=by induction n with| zero=>rfl| succ n ih=>simp[replicate_succ,Av,ih]
theorem Pb (l:List Int) (k:Nat) (h:k<=l.length):Av l=Av (l.take k)+1000000000 ^ k*Av (l.drop k):=by have e:=Ar9 (l.take k) (l.drop k);rw[take_append_drop]at e;rw[e,length_take,Nat.min_eq_left h]
theorem Sd (l:List Int) (h:i<l.length) (d:Int):Av (l.set i d)=Av l+1000000000 ^ i*(d-l[i]):=by
 induction l generalizing i with
 | nil=>simp at h
 | cons x l ih=>cases i with| zero=>simp[Av];omega| succ i=>have g:i<l.length:=(by simpa using h);simp only[set_cons_succ,Av,ih g,getElem_cons_succ,Int.pow_succ];grind
theorem I0 (h:Qb l):0<=Av l:=by induction l with| nil=>simp[Av]| cons d l ih=>have q:=h d ψ;have u:=ih λx g=>h x (by simp[g]);simp only[Av];omega
theorem Mf (n:Nat):(0:Int)<1000000000 ^ n:=Int.pow_pos δ
theorem Ly (h:Cv l):Av l<1000000000 ^ l.length:=by induction l with| nil=>simp[Av]| cons d l ih=>have g:=h d ψ;have q:=ih h.tail;simp only[Av,D1,Int.pow_succ];omega
theorem Il (n:Nat):Av (Al n)=n:=by
 induction n using Nat.strongRecOn with
 | _ n ih=>
  by_cases h:n=0
  .subst h;rw[Jd];rfl
  .rw[Pa h,Av,ih (n / 1000000000) (Nat.div_lt_self ω δ)];omega
theorem Im (n:Nat):Cv (Al n):=by
 induction n using Nat.strongRecOn with
 | _ n ih=>
  by_cases h:n=0
  .subst h;rw[Jd];exact Cv.nil
  .rw[Pa h];intro d g;simp at g;rcases g with rfl|g
   .omega
   .exact ih (n / 1000000000) (Nat.div_lt_self ω δ) d g
theorem Mg (h:n≠0):Al n≠[]:=by rw[Pa h];simp
theorem A4i (n:Nat):Can (Al n):=by
 refine⟨Im n,?_⟩;induction n using Nat.strongRecOn with
 | _ n ih=>
  intro b;have h:n≠0:=λe=>b (by rw[e];exact Jd);have q:=Pa h;by_cases g:n / 1000000000=0
  .have c:Al n = [((n % 1000000000:Nat):Int)]:=(by rw[q,g,Jd]);simp only[c,getLast_singleton];omega
  .have:=ih (n / 1000000000) (Nat.div_lt_self ω δ) (Mg g);simp only[q];rwa [getLast_cons (Mg g)]
theorem A4j (h:Can l):Al (Av l).toNat=l:=by induction l with| nil=>exact Jd| cons d l ih=>obtain⟨q,u⟩:=h;have w:=q d ψ;have f:Can l:=(by refine⟨q.tail,λb=>?_⟩;have:=u ψ;rwa [getLast_cons b]at this);have v:=I0 (q.tail).u32;have b:(Av (d::l)).toNat≠0:=(by intro e;simp only[Av]at e;have c:d=0:=ω;have v:Av l=0:=ω;have:l = []:=(by rw[<-ih f,v];exact Jd);subst this;exact u ψ (by simpa using c));rw[Pa b];simp only[Av];have i:((d+1000000000*Av l).toNat % 1000000000:Nat)=d.toNat:=ω;have g:(d+1000000000*Av l).toNat / 1000000000=(Av l).toNat:=ω;rw[i,g,ih f];congr 1;omega
theorem Ak2 (h:Can l) (g:Av l=n):l=Al n:=by rw[<-A4j h,g];rfl
def Kr:List Int->List Int
 | []=>[]
 | d::l=>match Kr l with
  | []=>if d=0 then [] else [d]
  | x::m=>d::x::m
theorem A4k (l:List Int):Kr (l++[0])=Kr l:=by induction l with| nil=>rfl| cons d l ih=>simp only[D0,Kr,ih]
theorem A4l (h:d≠0):Kr (l++[d])=l++[d]:=by
 induction l with
 | nil=>simp[Kr,h]
 | cons x l ih=>simp only[D0,Kr,ih];cases l with| nil=>rfl| cons y l=>rfl
theorem A4m (h:Cv l):Can (Kr l)/\Av (Kr l)=Av l:=by
 induction l with
 | nil=>exact⟨⟨Cv.nil,λh=>(h rfl).elim⟩,rfl⟩
 | cons d l ih=>
  obtain⟨⟨v,w⟩,g⟩:=ih h.tail;have q:=h d ψ;simp only[Kr];cases A:Kr l with
  | nil=>
   rw[A]at g;simp only[Av]at g;simp only[];by_cases b:d=0
   .rw[As b];refine⟨⟨Cv.nil,λh=>(h rfl).elim⟩,?_⟩;simp only[Av];rw[<-g];omega
   .rw[Ao b];refine⟨⟨Cv.one q.1 q.2,λ_=>by simpa using b⟩,?_⟩;simp only[Av];rw[<-g]
  | cons x m=>
   rw[A]at v w g;simp only[];refine⟨⟨?_,λ_=>?_⟩,?_⟩
   .intro y u;rcases Gc.1 u with rfl|u
    .exact q
    .exact v y u
   .rw[getLast_cons ψ];exact w ψ
   .simp only[Av]at g ⊢;rw[g]
theorem Ut (h:Cv l) (g:Av l=n):Kr l=Al n:=by obtain⟨q,u⟩:=A4m h;exact Ak2 q (u.trans g)
def Ck (n:Nat):Nat:=(Al n).length
variable {j k m n:Nat} {E R S α:Type} {J:E->Option R} {l:List α} {r rf rt:R} {s0:S} {x:α} {p:α×Nat->Bool}
theorem Aba:Ck 0=0:=by simp[Ck,Jd]
theorem Qd (n:Nat):n<1000000000 ^ Ck n:=by have:=Ly (Im n);rw[Il]at this;have e:((1000000000 ^ Ck n:Nat):Int)=1000000000 ^ Ck n:=ψ;unfold Ck at *;omega
theorem K6 (h:n<1000000000 ^ k):Ck n<=k:=by
 induction k generalizing n with
 | zero=>simp at h;subst h;simp[Aba]
 | succ k ih=>
  by_cases g:n=0
  .subst g;simp[Aba]
  .unfold Ck;rw[Pa g,D1];have:n / 1000000000<1000000000 ^ k:=(by rw[Nat.div_lt_iff_lt_mul δ];rwa [Nat.pow_succ]at h);have:=ih this;unfold Ck at this;omega
theorem Mh (h:m<=n):Ck m<=Ck n:=K6 (Nat.lt_of_le_of_lt h (Qd n))
theorem Asb (h:k<Ck n):1000000000 ^ k<=n:=by
 rcases Cf n (1000000000 ^ k) with g|g
 .have:=K6 g;omega
 .exact g
theorem Afs (m n:Nat):Ck (m+n)<=max (Ck m) (Ck n)+1:=by apply K6;have g:=Qd m;have h:=Qd n;have q:1000000000 ^ Ck m<=1000000000 ^ max (Ck m) (Ck n):=Nat.pow_le_pow_right δ (Nat.le_max_left _ _);have b:1000000000 ^ Ck n<=1000000000 ^ max (Ck m) (Ck n):=Nat.pow_le_pow_right δ (Nat.le_max_right _ _);rw[Nat.pow_succ];omega
theorem Jq (m n:Nat):Ck (m*n)<=Ck m+Ck n:=by apply K6;rw[Nat.pow_add];exact Nat.mul_lt_mul_of_lt_of_le (Qd m) (Nat.le_of_lt (Qd n)) (Nat.pow_pos δ)
theorem Asd (m n:Nat):Ck (m / n)<=Ck m:=Mh (Nat.div_le_self _ _)
theorem Ase (h:Ck m<Ck n):m<n:=Nat.lt_of_lt_of_le (Qd m) (Asb h)
theorem Asf {l m:List Int} (f:Cv l) (q:k<l.length) (b:k<m.length) (c:Cv m) (v:l.drop (k+1)=m.drop (k+1)) (u:l[k]<m[k]):Av l<Av m:=by have i:=Pb l (k+1) q;have h:=Pb m (k+1) b;rw[Iz l q]at i;rw[Iz m b,<-v]at h;have w:=Ly (f.take k);have j:=I0 ((c.take k).u32);rw[length_take,Nat.min_eq_left (Nat.le_of_lt q)]at w;have g:1000000000 ^ k*(l[k]+1)<=1000000000 ^ k*m[k]:=Int.mul_le_mul_of_nonneg_left u (Int.le_of_lt (Mf k));rw[Int.mul_add]at g;omega
theorem Kc {step:S->Option (S⊕E)} (n:Nat) (b:Nat->S) (h0:s0=b 0) (c:∀j,j<n->step (b j)=some (.inl (b (j+1)))) (f:∃e,step (b n)=some (.inr e)/\J e=some r):(Ak step s0).bind J=some r:=by
 have g:∀m,m<=n->Ak step (b 0)=Ak step (b m):=by intro m;induction m with| zero=>intro _;rfl| succ m ih=>intro h;rw[ih ω,Lg (c m ω)]
 obtain⟨e,q,u⟩:=f;rw[h0,g n (Nat.le_refl _),F0 q];exact u
theorem C3 (h:j<n) (b:n<4611686018427387904):Ac ((j:Int)+1)=((j+1:Nat):Int):=by rw[Ac,Ci] <;> omega
theorem Asg (h:l.zipIdx.all p=false):∃j x,l[j]? = some x/\p (x,j)=false/\∀i y,i<j->l[i]? = some y->p (y,i)=true:=by
 have q:∀(n:Nat),(∀i y,i<n->l[i]? = some y->p (y,i)=true)\/∃j x,j<n/\l[j]? = some x/\p (x,j)=false/\∀i y,i<j->l[i]? = some y->p (y,i)=true:=by
  intro n;induction n with
  | zero=>exact .inl (λi y h=>ω)
  | succ n ih=>
   rcases ih with ih|⟨j,x,B,u,v,b⟩
   .cases w:l[n]? with
    | none=>exact .inl (λi y A g=>by
      rcases Cf i n with h|h
      .exact ih i y h g
      .have:i=n:=ω
       subst this;rw[w]at g;cases g)
    | some x=>
     cases hp:p (x,n) with
     | true=>exact .inl (λi y A g=>by
       rcases Cf i n with h|h
       .exact ih i y h g
       .have:i=n:=ω
        subst this;rw[w]at g;cases g;exact hp)
     | false=>exact .inr ⟨n,x,ω,w,hp,ih⟩
   .exact .inr ⟨j,x,ω,u,v,b⟩
 rcases q l.length with C|⟨j,x,B,u,v,b⟩
 .exfalso;have:l.zipIdx.all p=true:=by
   rw[Gt];rintro⟨y,i⟩ g;have:=mk_mem_zipIdx_iff_getElem?.1 g;have A:i<l.length:=by
    rcases Cf i l.length with h|h
    .exact h
    .rw[Ll h]at this;cases this
   exact C i y A this
  rw[this]at h;cases h
 .exact⟨j,x,u,v,b⟩
theorem Je (h:l.zipIdx.all p=true) (g:l[j]? = some x):p (x,j)=true := Gt.1 h _ (mk_mem_zipIdx_iff_getElem?.2 g)
theorem Ak3 (h:∀j x,l[j]? = some x->p (x,j)=true):l.zipIdx.all p=true:=by rw[Gt];rintro⟨y,i⟩ g;exact h i y (mk_mem_zipIdx_iff_getElem?.1 g)
theorem Abb {step:S->Option (S⊕E)} (l:List α) (p:α×Nat->Bool) (b:Nat->S) (h0:s0=b 0) (g:l.length<4611686018427387904) (f:∀(j:Nat) (x:α),l[j]? = some x->(∀i y,i<j->l[i]? = some y->p (y,i)=true)->decide ((j:Int)<(l.length:Int))=true->Ag l (j:Int)=some x->Ac ((j:Int)+1)=((j+1:Nat):Int) -> (p (x,j)=true->step (b j)=some (.inl (b (j+1))))/\(p (x,j)=false->∃e,step (b j)=some (.inr e)/\J e=some rf)) (q:decide ((l.length:Int)<(l.length:Int))=false->l.zipIdx.all p=true->∃e,step (b l.length)=some (.inr e)/\J e=some rt):(Ak step s0).bind J=some (bif l.zipIdx.all p then rt else rf):=by
 have c:∀(j:Nat) (x:α),l[j]? = some x->(∀i y,i<j->l[i]? = some y->p (y,i)=true)->_:=λj x u v=>
  have w:j<l.length:=by
   rcases Cf j l.length with h|h
   .exact h
   .rw[Ll h]at u;cases u
  f j x u v (Ar ω) (Bn rfl u) (C3 w g)
 cases A:l.zipIdx.all p with
 | true=>refine Kc l.length b h0 (λj w=>?_) (q ψ A);have u:l[j]? = some l[j]:=Bp w;exact (c j _ u λi y _ v=>Je A v).1 (Je A u)
 | false=>
  obtain⟨j,x,B,D,C⟩:=Asg A;refine Kc j b h0 (λi F=>?_) ((c j x B C).2 D);have w:j<l.length:=by
   rcases Cf j l.length with h|h
   .exact h
   .rw[Ll h]at B;cases B
  have u:l[i]? = some l[i]:=Bp ω;exact (c i _ u λk y G v=>C k y ω v).1 (C i _ F u)
theorem Aft (l:List α) (p:α->Bool):l.zipIdx.all (λq=>p q.1)=l.all p:=by
 cases h:l.all p with
 | true=>exact Ak3 λj x g=>Gt.1 h _ (Bv g)
 | false=>cases u:l.zipIdx.all (λq=>p q.1) with| false=>rfl| true=>rw[<-h];symm;rw[Gt];intro x g;obtain⟨j,v⟩:=Hh g;exact Je u v
theorem Abc {step:S->Option (S⊕E)} (l:List α) (p:α->Bool) (b:Nat->S) (h0:s0=b 0) (f:l.length<4611686018427387904) (c:∀(j:Nat) (x:α),l[j]? = some x->decide ((j:Int)<(l.length:Int))=true->Ag l (j:Int)=some x->Ac ((j:Int)+1)=((j+1:Nat):Int) -> (p x=true->step (b j)=some (.inl (b (j+1))))/\(p x=false->∃e,step (b j)=some (.inr e)/\J e=some rf)) (g:decide ((l.length:Int)<(l.length:Int))=false->∃e,step (b l.length)=some (.inr e)/\J e=some rt):(Ak step s0).bind J=some (bif l.all p then rt else rf):=by rw[<-Aft l p];exact Abb l (λq=>p q.1) b h0 f (λj x u _=>c j x u) (λh _=>g h)
theorem F5 {step:S->Option (S⊕E)} (l:List α) (b:Nat->S) (h0:s0=b 0) (f:l.length<4611686018427387904) (c:∀(j:Nat) (x:α),j<l.length->l[j]? = some x->decide ((j:Int)<(l.length:Int))=true->Ag l (j:Int)=some x->Ac ((j:Int)+1)=((j+1:Nat):Int)->step (b j)=some (.inl (b (j+1)))) (g:decide ((l.length:Int)<(l.length:Int))=false->∃e,step (b l.length)=some (.inr e)/\J e=some r):(Ak step s0).bind J=some r:=by refine Kc l.length b h0 (λj h=>?_) (g ψ);have q:l[j]? = some l[j]:=Bp h;exact c j _ h q (Ar ω) (Bn rfl q) (C3 h f)
theorem Cs (h:l[j]? = some x):l.take (j+1)=l.take j++[x]:=by rw[take_add_one,h];rfl
theorem Ec (h:l[j]? = some x):j<l.length:=by
 rcases Cf j l.length with g|g
 .exact g
 .rw[Ll g]at h;cases h
theorem Afu (b:Bool):(bif b then true else false)=b:=by cases b <;> rfl
theorem A4n (b:Bool):(bif b then false else true) = !b:=by cases b <;> rfl
theorem Ash {A:Type} {X:Option A} {f:A->Option R} {y:R} {Q:A->Prop} (h:∃r,X=some r/\Q r) (g:∀r,Q r->f r=some y):X.bind f=some y:=by obtain⟨r,q,u⟩:=h;rw[q];exact g r u
theorem Ak4 (l:List α) (p:α->Bool) {step:Int->Option (Int⊕(Int⊕Unit))} {J:Int⊕Unit->Option Int} (k:l.length<4611686018427387904) (g:∀(j:Nat) (x:α),x∈l->decide ((j:Int)<(l.length:Int))=true->Ag l (j:Int)=some x->Ac ((j:Int)+1)=((j+1:Nat):Int) -> step (j:Int)=bif p x then some (.inr (.inl (j:Int))) else some (.inl ((j+1:Nat):Int))) (q:decide ((l.length:Int)<(l.length:Int))=false->step (l.length:Int)=some (.inr (.inr ()))) (c:∀i,J (.inl i)=some i) (b:J (.inr ())=some (-1)):∃i,(Ak step 0).bind J=some i/\decide (i>=0)=l.any p:=by
 have u:(Ak step 0).bind (λz=>(J z).bind λi=>some (decide (i>=0)))=some (bif l.all (λx=>!p x) then false else true):=by refine Abc l (λx=>!p x) (λj=>(j:Int)) rfl k (λj x w A B C=>?_) λh=>⟨.inr (),q h,by rw[b];rfl⟩;have h:=g j x (Bv w) A B C;simp only[h];cases p x with| true=>exact⟨nofun,λ_=>⟨.inl (j:Int),rfl,by simp only[c,Ad];rw[Ar ω]⟩⟩| false=>exact⟨λ_=>rfl,λh=>by cases h⟩
 have e:l.any p=(bif l.all (λx=>!p x) then false else true):=by rw[A4n,not_all_eq_any_not];simp
 rw[e];cases f:Ak step 0 with
 | none=>rw[f]at u;cases u
 | some z=>rw[f,Ad]at u;rw[Ad];cases v:J z with| none=>rw[v]at u;cases u| some i=>rw[v,Ad]at u;exact⟨i,rfl,Fh u⟩
theorem Ak5 {M:Type} {step:S->Option (S⊕E)} (l:List α) (p:α×Nat->Bool) (b:Nat->M->S) (I:M->Prop) (u z:R->Prop) (m0:M) (h0:s0=b 0 m0) (g:I m0) (B:l.length<4611686018427387904) (A:∀(j:Nat) (x:α) (m:M),I m->l[j]? = some x->(∀i y,i<j->l[i]? = some y->p (y,i)=true)->decide ((j:Int)<(l.length:Int))=true->Ag l (j:Int)=some x->Ac ((j:Int)+1)=((j+1:Nat):Int) -> (p (x,j)=true->∃f,step (b j m)=some (.inl (b (j+1) f))/\I f)/\(p (x,j)=false->∃e,step (b j m)=some (.inr e)/\∃r,J e=some r/\z r)) (D:∀m,I m->decide ((l.length:Int)<(l.length:Int))=false->l.zipIdx.all p=true->∃e,step (b l.length m)=some (.inr e)/\∃r,J e=some r/\u r) : ∃r,(Ak step s0).bind J=some r/\((l.zipIdx.all p=true/\u r)\/(l.zipIdx.all p=false/\z r)):=by
 have c:∀(j:Nat) (x:α) (m:M),I m->l[j]? = some x->(∀i y,i<j->l[i]? = some y->p (y,i)=true)->_:=λj x m G w v=>
  have T:j<l.length:=Ec w
  A j x m G w v (Ar ω) (Bn rfl w) (C3 T B)
 have F:∀n,n<=l.length->(∀i y,i<n->l[i]? = some y->p (y,i)=true)->∃m,I m/\Ak step s0=Ak step (b n m):=by intro n;induction n with| zero=>intro _ _;exact⟨m0,g,by rw[h0]⟩| succ n ih=>intro N v;obtain⟨m,C,H⟩:=ih ω λi y U=>v i y ω;have w:l[n]? = some l[n]:=Bp ω;obtain⟨f,K,h⟩:=(c n _ m C w λi y U=>v i y ω).1 (v n _ ω w);exact⟨f,h,by rw[H,Lg K]⟩
 cases P:l.zipIdx.all p with| true=>obtain⟨m,C,H⟩:=F l.length (Nat.le_refl _) λi y _ v=>Je P v;obtain⟨e,s,r,q,k⟩:=D m C ψ P;exact⟨r,by rw[H,F0 s];exact q,.inl ⟨rfl,k⟩⟩| false=>obtain⟨j,x,C,H,K⟩:=Asg P;obtain⟨m,h,L⟩:=F j (Nat.le_of_lt (Ec C)) K;obtain⟨e,s,r,q,k⟩:=(c j x m h C K).2 H;exact⟨r,by rw[L,F0 s];exact q,.inr ⟨rfl,k⟩⟩
mutual
def Bx:Af->Nat
 | ⟨_,_,l⟩=>1+Dv l
def Dv:List Af->Nat
 | []=>0
 | x::xs=>Bx x+Dv xs
end
theorem Jf (t:Af):Bx t=1+Dv t.R:=by cases t;simp only[Bx]
theorem Uu (t:Af):1<=Bx t:=by rw[Jf];omega
theorem Jx {l:List Af} {a:Af} (h:a∈l):Bx a<=Dv l:=by
 induction l with
 | nil=>cases h
 | cons x xs ih=>
  simp only[Dv];rcases Gc.1 h with rfl|h
  .omega
  .have:=ih h;omega
theorem K7 (l:List Af):l.length<=Dv l:=by induction l with| nil=>simp| cons x xs ih=>simp only[Dv,D1];have:=Uu x;omega
theorem Afv (l m:List Af):Dv (l++m)=Dv l+Dv m:=by induction l with| nil=>simp[Dv]| cons x xs ih=>simp only[D0,Dv,ih];omega
def Lm (data:List Ai) (vars k n:Int) (len:Nat):Bool := if k=1\/k=2\/k=3 then n==0&&len==0 else if k=4 then decide (0<=n)&&decide (n<vars)&&len==0 else if k=5 then decide (0<=n)&&(match data[n.toNat]? with|some d=>(len:Int)==d.V|none=>false) else if k=6 then n==0&&decide (2<=len)&&decide (len<=6) else if k=7\/k=8 then n==0&&len==1 else if k=9 then n==0&&decide (1<=len)&&decide (len<=7) else false
mutual
def Fb (data:List Ai) (vars:Int):Af->Bool
 | ⟨k,n,l⟩=>Lm data vars k n l.length&&Gi data vars l
def Gi (data:List Ai) (vars:Int):List Af->Bool
 | []=>true
 | x::xs=>Fb data vars x&&Gi data vars xs
end
variable {i:Int} {l:List Af} {j:Nat} {R α:Type}
theorem Abd (data:List Ai) (vars:Int) (t:Af):Fb data vars t=(Lm data vars t.G t.U t.R.length&&Gi data vars t.R):=by cases t;simp only[Fb]
theorem Asi (l:List α) (n:Nat):((l.length:Int)==(n:Int))=(l.length==n):=by
 by_cases h:l.length=n
 .subst h;simp
 .rw[C8 ω];simp[h]
theorem A4o (k:Nat) (t:Af) (data:List Ai) (vars left:Int) (v:1<=left) (w:left<=1000) : Nz (k+1) t ⟨data,vars,left⟩=bif Lm data vars t.G t.U t.R.length then ((W9 k t.R ⟨data,vars,left-1⟩).bind λg=>some ((!g.1),g.2)) else some (false,⟨data,vars,left-1⟩):=by have q:Ac (left-1)=left-1:=Ci ω ω;have h:¬left-1<0:=ω;rw[Nz];simp only[q,A3 h,Ap];generalize f:(W9 k t.R ⟨data,vars,left-1⟩).bind (λg=>some ((!g.1),g.2))=X;generalize c:(some (false,⟨data,vars,left-1⟩):Option (Bool×Hr))=Y;unfold Lm Ag;generalize t.R.length=len;generalize t.G=b;generalize t.U=n;cases u:data[n.toNat]? <;> simp only[Bool.cond_eq_ite,A4h,Ad,Option.bind_none,u] <;> grind
theorem Ak6 (h:j<l.length):Dv (l.take (j+1))=Dv (l.take j)+Bx l[j]:=by rw[take_succ_eq_append_getElem h,Afv];simp[Dv]
theorem Asj (data:List Ai) (vars:Int) (l m:List Af):Gi data vars (l++m)=(Gi data vars l&&Gi data vars m):=by induction l with| nil=>simp[Gi]| cons x xs ih=>simp only[D0,Gi,ih,Bool.and_assoc]
theorem Ask (data:List Ai) (vars:Int) (h:j<l.length):Gi data vars (l.take (j+1))=(Gi data vars (l.take j)&&Fb data vars l[j]):=by rw[take_succ_eq_append_getElem h,Asj];simp[Gi]
theorem Ak7 (l:List Af) (j:Nat):Dv (l.take j)<=Dv l:=by have:=Afv (l.take j) (l.drop j);rw[take_append_drop]at this;omega
theorem A4p (data:List Ai) (vars:Int) (l:List Af) (j:Nat) (h:Gi data vars l=true):Gi data vars (l.take j)=true:=by have:=Asj data vars (l.take j) (l.drop j);rw[take_append_drop,h]at this;have:=this.symm;simp only[Cz]at this;exact this.1
theorem A4q (data:List Ai) (vars:Int) (k:Nat) (l:List Af) (c:Nat) (G:l.length<1099511627776) (ih:∀(a:Af),a∈l->∀f:Nat,f<=c->∃g:Int,Nz k a ⟨data,vars,f⟩=some (Fb data vars a&&decide (Bx a<=f),⟨data,vars,g⟩)/\((Fb data vars a&&decide (Bx a<=f))=true->g=(f:Int)-Bx a)) : ∃p:Int×Int,Aa2 (k+2) l ⟨data,vars,c⟩=some (p.1,⟨data,vars,p.2⟩)/\((Gi data vars l&&decide (Dv l<=c))=true->p.1 = -1/\p.2=(c:Int)-Dv l)/\((Gi data vars l&&decide (Dv l<=c))=false->0<=p.1):=by
 rw[Aa2];refine Aa8 (λp:Int×Int=>(p.1,Hr.mk data vars p.2)) (Er (λ(F,v,w,s)=>∃j:Nat,F=j/\j<=l.length/\v=data/\w=vars/\Gi data vars (l.take j)=true/\Dv (l.take j)<=c/\s=(c:Int)-Dv (l.take j)) (λ(F,_,_,_)=>l.length-F.toNat) (λz=>match z with|.inl (i,b)=>0<=i/\(∃g,b=⟨data,vars,g⟩)/\(Gi data vars l&&decide (Dv l<=c))=false | .inr (v,w,s)=>v=data/\w=vars/\(Gi data vars l&&decide (Dv l<=c))=true/\s=(c:Int)-Dv l) ⟨0,rfl,ω,rfl,rfl,rfl,by simp[Dv],by simp[Dv]⟩ ?_ ?_)
 .rintro⟨F,v,w,s⟩ ⟨j,rfl,N,rfl,rfl,x,A,rfl⟩;rcases Cf j l.length with h|h
  .obtain⟨u,y⟩:∃u:Nat,(c:Int)-Dv (l.take j)=u/\u<=c:=⟨c-Dv (l.take j),ω,ω⟩;obtain⟨g,E,D⟩:=ih l[j] (getElem_mem h) u y.2;simp only[Ar (ω:(j:Int)<(l.length:Int)),Am,Hs rfl h,Ad,Z1,y.1,E];cases H:(Fb v w l[j]&&decide (Bx l[j]<=u)) with
   | true=>
    have I:=D H;simp only[Cz,Ds]at H;refine .inl ⟨(((j+1:Nat):Int),v,w,g),?_,⟨j+1,rfl,ω,rfl,rfl,?_,?_,?_⟩,ζ⟩
    .simp only[bnt,Ap];rw[show Ac ((j:Int)+1)=((j+1:Nat):Int) by rw[Ac,Ci] <;> omega]
    .rw[Ask _ _ h,x,H.1];rfl
    .rw[Ak6 h];omega
    .show g=_;rw[Ak6 h];omega
   | false=>refine .inr ⟨.inl ((j:Int),⟨v,w,g⟩),ψ,ω,⟨g,rfl⟩,?_⟩;cases q:(Gi v w l&&decide (Dv l<=c)) with| false=>rfl| true=>exfalso;simp only[Cz,Ds]at q;have C:=A4p v w l (j+1) q.1;rw[Ask _ _ h]at C;simp only[Cz]at C;have M:=Ak7 l (j+1);rw[Ak6 h]at M;rw[C.2,Bool.true_and,decide_eq_false_iff_not]at H;omega
  .have:j=l.length:=ω;subst this;rw[C1]at *;refine .inr ⟨.inr (v,w,(c:Int)-Dv l),ψ,rfl,rfl,by simp[x,A],rfl⟩
 .rintro (⟨i,b⟩|⟨v,w,s⟩) B
  .obtain⟨C,⟨g,rfl⟩,K⟩:=B;exact⟨_,rfl,(i,g),rfl,(λh=>by rw[K]at h;cases h),λ_=>C⟩
  .obtain⟨rfl,rfl,K,rfl⟩:=B;exact⟨_,rfl,(-1,_),rfl,λ_=>⟨rfl,rfl⟩,λh=>by rw[K]at h;cases h⟩
theorem A4r (data:List Ai) (vars:Int):∀(left:Nat) (t:Af) (k:Nat),left<=200->4*left+4<=k->Bx t<1099511627776 -> ∃f:Int,Nz k t ⟨data,vars,left⟩=some (Fb data vars t&&decide (Bx t<=left),⟨data,vars,f⟩)/\((Fb data vars t&&decide (Bx t<=left))=true->f=(left:Int)-Bx t):=by
 intro left;induction left using Nat.strongRecOn with
 | _ left s=>
  intro t k B H I;have hp:=Uu t;obtain⟨g,rfl⟩:∃g,k=g+1:=⟨k-1,ω⟩;cases left with
  | zero=>refine⟨-1,?_,λh=>by simp at h;omega⟩;rw[Nz];have C:decide (Bx t<=0)=false:=A3 ω;rw[C,Bool.and_false];rfl
  | succ b=>
   rw[A4o g t data vars ((b+1:Nat):Int) ω ω];have z:((b+1:Nat):Int)-1=(b:Int):=ω;rw[z,Abd];cases A:Lm data vars t.G t.U t.R.length with
   | false=>exact⟨b,ψ,λh=>by simp at h⟩
   | true=>
    obtain⟨q,rfl⟩:∃q,g=q+3:=⟨g-3,ω⟩;have j:=Jf t;have x:=K7 t.R;obtain⟨⟨i,f⟩,D,v,F⟩:=A4q data vars q t.R b ω (λa G c y=>by have:=Jx G;exact s c ω a q ω ω ω);have l:decide (Bx t<=b+1)=decide (Dv t.R<=b):=(by rw[j];congr 1;simp only[eq_iff_iff];omega);simp only[Am,W9,D,Ad,Bool.true_and,l];refine⟨f,?_,λh=>?_⟩
    .cases w:(Gi data vars t.R&&decide (Dv t.R<=b)) with| true=>have u:i = -1:=(v w).1;rw[A3 (ω:¬i>=0)];rfl| false=>have u:0<=i:=F w;rw[Ar (ω:i>=0)];rfl
    .have u:f=(b:Int)-Dv t.R:=(v h).2;rw[u,j];omega
theorem Xg (data:List Ai) (t:Af) (vars:Int) (ht:Bx t<1099511627776):Ou data t vars=some (Fb data vars t&&decide (Bx t<=200)):=by unfold Ou;obtain⟨b,g,_⟩:=A4r data vars 200 t 4000000 δ δ ht;have g:Nz 4000000 t ⟨data,vars,200⟩=_:=g;rw[g];rfl
def Se (a:Af) (i:Int):Bool:=a.G==4&&a.U==i&&a.R.length==0
def Asl (l:List Af):Bool:=l.zipIdx.all λq=>Se q.1 q.2
def Ks (t:Af) (d vars:Int):Bool:=t.G==5&&t.U==d&&(t.R.length:Int)==vars&&Asl t.R
def Ea (data:List Ai) (d c:Int):List Bool := match Ag data d with
 | none=>[]
 | some x=>match Ag x.O c with
  | none=>[]
  | some y=>y.R.map λt=>Ks t d x.V
theorem G3 {l:List α} {x:α} (h:Ag l i=some x):0<=i/\i<l.length/\l[i.toNat]? = some x/\x∈l:=by
 unfold Ag at h;split at h
 .have g:i.toNat<l.length:=Ec h;exact⟨by assumption,ω,h,Bv h⟩
 .cases h
theorem Abe {l:List α} (h:Ag l i=none):i<0\/(l.length:Int)<=i:=by
 unfold Ag at h;split at h
 .rw[List.getElem?_eq_none_iff]at h;right;omega
 .left;omega
theorem A4s (data:List Ai) (d c:Int) (F:Ai->P9->Option R) (z:R) (X:Option R) (f:X=((bif d<(0:Int) then some true else bif d>=(data.length:Int) then some true else bif c<(0:Int) then some true else (Ag data d).bind λb=>some (decide (c>=(b.O.length:Int))):OB).bind λw=>bif w then some z else (Ag data d).bind λq=>(Ag q.O c).bind λA=>F q A)) : X=match Ag data d with
   | none=>some z
   | some x=>match Ag x.O c with
    | none=>some z
    | some y=>F x y:=by
 subst f;cases u:Ag data d with
 | none=>
  rcases Abe u with h|h
  .simp only[Ar h,Am,Ad]
  .by_cases g:d<0
   .simp only[Ar g,Am,Ad]
   .simp only[A3 g,Ar (show d>=(data.length:Int) from h),Am,Ap,Ad]
 | some x=>
  obtain⟨B,C,_,_⟩:=G3 u;simp only[A3 (ω:¬d<0),A3 (ω:¬d>=(data.length:Int)),Ap,Ad];cases v:Ag x.O c with
  | none=>
   rcases Abe v with h|h
   .simp only[Ar h,Am,Ad]
   .by_cases g:c<0
    .simp only[Ar g,Am,Ad]
    .simp only[A3 g,Ar (show c>=(x.O.length:Int) from h),Am,Ap,Ad]
  | some y=>obtain⟨D,G,_,_⟩:=G3 v;simp only[A3 (ω:¬c<0),A3 (ω:¬c>=(x.O.length:Int)),Ap,Ad]
def A4t (l:List Af):Prop:=l.length<=4194304/\∀a∈l,a.R.length<=4194304
def Mi (data:List Ai):Prop:=∀x∈data,∀y∈x.O,A4t y.R
theorem Abf (l m:List α) (y x:α) (i:Int) (n:Nat) (h:i=n) (b:n=l.length):Cr (l++y::m) i x=l++x::m:=by rw[Ht h];subst b;simp
theorem Abg (l m:List α) (y:α) (i:Int) (n:Nat) (h:i=n) (b:n=l.length):Ag (l++y::m) i=some y:=by rw[Bn h];subst b;simp
theorem A4u (l:List Af) (k f:List Bool) (i:Int) (n:Nat) (b:Bool) (h:i=n) (s:n=k.length) (A:l.length<1099511627776) {J:Int×List Bool->Option R} {r:R} (z:J ((l.length:Int),k++(b&&Asl l)::f)=some r) : (Ak (S:=(Int×List Bool)) (E:=(Int×List Bool)) (λ(c,g)=> bif c<(l.length:Int) then ((Ag l c).bind λv=> bif (v.G != (4:Int)) then ((Ag g i).bind λF=> some (.inl ((Ac (c+1)),(Cr g i false)))) else (bif (v.U != c) then ((Ag g i).bind λy=> some (.inl ((Ac (c+1)),(Cr g i false)))) else (bif (v.R.length:Int)>(0:Int) then ((Ag g i).bind λu=> some (.inl ((Ac (c+1)),(Cr g i false)))) else (some (.inl ((Ac (c+1)),g)))))) else (some (.inr (c,g)))) (0,k++b::f)).bind J=some r:=by
 refine F5 l (λj=>((j:Int),k++(b&&(l.take j).zipIdx.all λq=>Se q.1 q.2)::f)) ψ ω ?_ ?_
 .intro j x G H C I K;have e:(l.take (j+1)).zipIdx.all (λq=>Se q.1 q.2)=((l.take j).zipIdx.all (λq=>Se q.1 q.2)&&Se x j):=(by rw[Cs H,zipIdx_append,all_append];simp[Nat.min_eq_left (Nat.le_of_lt G)]);simp only[C,I,K,Am,Ad,Abg k f _ i n h s,Abf k f _ _ i n h s,e];unfold Se;by_cases w:x.G=4
  .by_cases B:x.U=j
   .by_cases D:x.R.length=0
    .rw[A3 ω];simp[w,B,D]
    .rw[Ar ω];have:(x.R.length==0)=false:=(by simpa using D);simp[w,B,this]
   .simp[w,B,F4 B]
  .simp[w,F4 w]
 .intro C;refine⟨_,by simp only[C];rfl,?_⟩;rw[C1];exact z
theorem Xh (data:List Ai) (d c:Int) (w:Mi data):O1 data d c=some (Ea data d c):=by
 unfold O1;rw[A4s data d c (λF G=>_) [] _ rfl];unfold Ea;cases A:Ag data d with
 | none=>rfl
 | some x=>
  cases q:Ag x.O c with
  | none=>simp only[q]
  | some y=>
   simp only[q];have f:=w x (G3 A).2.2.2 y (G3 q).2.2.2;have g:=f.1;rw[M9 (n:=y.R.length) (c:=y.R.length) rfl rfl ω ω ω,Ad];refine F5 y.R (λj=>((j:Int),((y.R.take j).map λt=>Ks t d x.V)++replicate (y.R.length-j) false)) rfl ω ?_ ?_
   .intro j t H v u B C;obtain⟨m,h⟩:∃m,y.R.length-j=m+1:=⟨y.R.length-j-1,ω⟩;have i:y.R.length-(j+1)=m:=ω;have b:j=((y.R.take j).map λt=>Ks t d x.V).length:=ζ;simp only[u,B,Am,Ad,h,i,replicate_succ,Cs v,map_append,map_cons,map_nil,append_assoc,D0,nil_append, Abg _ _ _ (j:Int) j rfl b,Abf _ _ _ _ (j:Int) j rfl b];have D:(bif t.G==5 then bif t.U==d then some (map (λt=>Ks t d x.V) (take j y.R)++((t.R.length:Int)==x.V)::replicate m false)
       else some (map (λt=>Ks t d x.V) (take j y.R)++false::replicate m false) else some (map (λt=>Ks t d x.V) (take j y.R)++false::replicate m false))=some (map (λt=>Ks t d x.V) (take j y.R)++(t.G==5&&t.U==d&&((t.R.length:Int)==x.V))::replicate m false):=by cases t.G==5 <;> cases t.U==d <;> simp
    rw[D,Ad];refine A4u t.R _ _ (j:Int) j _ rfl b (by have:=f.2 t (Bv v);omega) ?_;rw[C];rfl
   .intro u;exact⟨_,by simp only[u];rfl,ψ⟩
mutual
def mnt (d:Int):Af->Bool
 | ⟨k,n,l⟩=>(k==5&&n==d)||Qf d l
def Qf (d:Int):List Af->Bool
 | []=>false
 | x::xs=>mnt d x||Qf d xs
end
theorem A4v (d:Int) (t:Af):mnt d t=((t.G==5&&t.U==d)||Qf d t.R):=by cases t;simp only[mnt]
theorem A4w (d:Int) (l:List Af):Qf d l=l.any (mnt d):=by induction l with| nil=>rfl| cons x xs ih=>simp only[Qf,ih,any_cons]
theorem A4x (d:Int):∀(n:Nat) (t:Af) (k:Nat),Bx t<=n->4*n+4<=k->n<1099511627776->Ua k t d=some (mnt d t):=by
 intro n;induction n with
 | zero=>intro t k h;have:=Uu t;omega
 | succ n ih=>intro t k h C g;obtain⟨k,rfl⟩:∃c,k=c+4:=⟨k-4,ω⟩;have f:=Jf t;have b:=K7 t.R;have q:W8 (k+3) t.R d=some (Qf d t.R):=(by rw[W8,Aff];rw[A4w];refine Ash (Ak4 t.R (mnt d) ω ?_ (λh=>by simp only[h];rfl) (λ_=>rfl) rfl) (λi u=>by rw[u]);intro j x v w A B;have l:=Jx v;simp only[w,A,B,Am,Ad,Aan,ih x k ω ω ω]);rw[Ua,q,A4v];cases t.G==5 <;> cases t.U==d <;> simp
theorem Asm (data:List Ai) (v:Int) (l:List Af):Gi data v l=l.all (Fb data v):=by induction l with| nil=>rfl| cons x xs ih=>simp only[Gi,ih,all_cons]
theorem A4y (data:List Ai) (d:Nat) (v k n:Int) (len:Nat):(Lm (data.take (d+1)) v k n len && !(k==5&&n==(d:Int)))=Lm (data.take d) v k n len:=by
 by_cases g:k=5
 .subst g;unfold Lm;simp only[beq_self_eq_true,Bool.true_and,getElem?_take];by_cases b:n=d
  .subst b;simp
  .by_cases q:0<=n
   .have e:(n==(d:Int))=false:=C8 b;rcases Cf n.toNat d with h|h
    .simp[h,e,show n.toNat<d+1 by omega]
    .simp[e,show ¬n.toNat<d by omega,show ¬n.toNat<d+1 by omega]
   .simp[q]
 .have e:(k==(5:Int))=false:=C8 g;simp only[e,Bool.false_and,Bool.not_false,Bool.and_true,Lm,g,if_false]
mutual
theorem Asn (data:List Ai) (d:Nat) (v:Int):∀t:Af,(Fb (data.take (d+1)) v t && !mnt d t)=Fb (data.take d) v t
 | ⟨k,n,l⟩=>by
  have g:=Aso data d v l
  have h:=A4y data d v k n l.length
  simp only[Fb,mnt]
  rw[<-g,<-h]
  cases Lm (data.take (d+1)) v k n l.length <;> cases (k==5&&n==(d:Int)) <;> cases Gi (data.take (d+1)) v l <;> simp
theorem Aso (data:List Ai) (d:Nat) (v:Int):∀l:List Af,(Gi (data.take (d+1)) v l && !Qf d l)=Gi (data.take d) v l
 | []=>by simp[Gi,Qf]
 | x::xs=>by
  have g:=Asn data d v x
  have h:=Aso data d v xs
  simp only[Gi,Qf]
  rw[<-g,<-h]
  cases Fb (data.take (d+1)) v x <;> cases mnt d x <;> cases Gi (data.take (d+1)) v xs <;> simp
end
variable {t:Af} {x:Ai} {s:ByteArray} {o:List (ByteArray×Bool)} {data:List Ai} {L:List ByteArray} {a b d:Nat} {y:P9} {R:Type} {Q:R->Prop}
theorem Asp:∀l:List Af,(∀a∈l,a.R.length=0)->Dv l=l.length
 | [],_=>rfl
 | x::xs,h=>by have g:=h x ψ;simp only[Dv,D1];rw[Asp xs λa q=>h a (by simp[q]),Jf,F3.1 g];simp only[Dv];omega
theorem Ak8 (v:data[d]? = some x) (F:x.V<=6) (h:Ks t d x.V=true):Fb (data.take (d+1)) x.V t=true/\Bx t<=200:=by
 unfold Ks at h;simp only[Cz,beq_iff_eq]at h;obtain⟨⟨⟨w,A⟩,B⟩,c⟩:=h;have g:∀a∈t.R,∃i:Nat,i<t.R.length/\a.G=4/\a.U=i/\a.R.length=0:=by intro a g;obtain⟨i,q⟩:=Hh g;have:=Je c q;simp only[Se,Cz,beq_iff_eq]at this;exact⟨i,Ec q,this.1.1,this.1.2,this.2⟩
 refine⟨?_,?_⟩
 .rw[Abd,Asm,Cz];constructor
  .rw[w,A];unfold Lm;simp[v,B]
  .rw[Gt];intro a b;obtain⟨i,G,C,D,u⟩:=g a b;rw[Abd,C,D,u,F3.1 u];unfold Lm;simp[Gi];omega
 .rw[Jf,Asp _ λa h=>(g a h).choose_spec.2.2.2];omega
def Sf (data:List Ai) (d:Nat) (v:Int) (t:Af):Bool:=Ks t d v||(Fb (data.take d) v t&&decide (Bx t<=200))
theorem A4z (g:data[d]? = some x) (q:x.V<=6) (t:Af):((Fb (data.take (d+1)) x.V t&&decide (Bx t<=200))&&(Ks t d x.V || !mnt d t))=Sf data d x.V t:=by unfold Sf;cases h:Ks t d x.V with| true=>obtain⟨u,v⟩:=Ak8 g q h;rw[u,Ar v];rfl| false=>rw[<-Asn data d x.V t];cases Fb (data.take (d+1)) x.V t <;> cases decide (Bx t<=200) <;> simp
def SzD (data:List Ai):Prop:=∀x∈data,x.O.length<=1048576/\∀y∈x.O,Dv y.R<=1048576
theorem SzD.short (h:SzD data):Mi data:=λx hx y hy=>by have h1:=(h x hx).2 y hy;have h2:=K7 y.R;refine⟨ω,λa ha=>?_⟩;have h3:=Jx ha;have c:=Jf a;have b:=K7 a.R;omega
theorem A40 (g:SzD data) (d c:Nat) (v:data[d]? = some x) (w:x.O[c]? = some y) (B:x.V<=6) (G:data.length<=1048576) : Rx data d c=some (decide (y.R.length<=6)&&y.R.all (Sf data d x.V)):=by
 have b:=Ec v;have l:=(g x (Bv v)).2 y (Bv w);unfold Rx;rw[Bn rfl v,Ad,Bn rfl w,Ad,Xh data d c g.short];by_cases k:y.R.length<=6
 .rw[A3 (ω:¬(y.R.length:Int)>6),Ar k];simp only[Ap,Bool.true_and,Ad];refine (Abc y.R (Sf data d x.V) (λj=>(j:Int)) rfl ω (rt:=true) (rf:=false) ?_ ?_).trans (by rw[Afu])
  .intro j t A C D F;have q:=Jx (Bv A);have s:Ag (Ea data d c) (j:Int)=some (Ks t d x.V):=(by unfold Ea;simp only[Bn rfl v,Bn rfl w];rw[Bn rfl];simp[A]);simp only[C,D,F,Am,Ad,show Ac ((d:Int)+1)=((d+1:Nat):Int) from C3 b ω,Xf rfl (show d+1<=data.length from b),Bn rfl v,
    Xg (data.take (d+1)) t x.V ω,s];rw[<-A4z v B t];cases i:(Fb (data.take (d+1)) x.V t&&decide (Bx t<=200)) with
   | false=>exact⟨nofun,λ_=>⟨.inl false,rfl,rfl⟩⟩
   | true=>
    have f:Bx t<=200:=(by simp only[Cz,Ds]at i;exact i.2);simp only[bnt,Ap,Bool.true_and];cases u:Ks t d x.V with
    | true=>exact⟨λ_=>rfl,λh=>by cases h⟩
    | false=>simp only[Bool.not_false,Am,A4x d 200 t 4000000 f ω ω,Ad,Bool.false_or];cases mnt d t with| true=>exact⟨nofun,λ_=>⟨.inl false,rfl,rfl⟩⟩| false=>exact⟨λ_=>rfl,λh=>by cases h⟩
  .intro h;exact⟨.inr (),by simp only[h];rfl,rfl⟩
 .rw[Ar (ω:(y.R.length:Int)>6),A3 k];rfl
def bI (s:ByteArray) (i:Nat):Int:=if h:i<s.size then (s[i].toNat:Int) else 0
def loI (c:Int):Bool:=decide (97<=c)&&decide (c<=122)
def upI (c:Int):Bool:=decide (65<=c)&&decide (c<=90)
def diI (c:Int):Bool:=decide (48<=c)&&decide (c<=57)
def wiI (c:Int):Bool:=loI c||upI c||diI c||c==95
def Jy (s:ByteArray):Prop:=1<=s.size/\s.size<=24/\upI (bI s 0)=true/\∀i,i<s.size->wiI (bI s i)=true
theorem Qg {i:Int} {n:Nat} (g:i=n) (h:n<s.size):∃c:UInt8,Km s i=some c/\(c.toNat:Int)=bI s n:=by
 subst g;refine⟨s[n],?_,?_⟩
 .unfold Km;rw[As ω,show ((n:Int)).toNat=n from rfl];simp[h]
 .unfold bI;simp[h]
theorem Abh {j:Nat} (hb:b<=s.size) (h:a+j<b):bI (s.extract a b) j=bI s (a+j):=by
 unfold bI;have g:j<(s.extract a b).size:=by rw[ByteArray.size_extract];omega
 rw[dif_pos g,dif_pos ω,ByteArray.getElem_extract]
theorem Abi {lo g:Int} (h:lo=a) (q:g=b) (u:a<=b) (c:b<=s.size):Hf s lo g=some (s.extract a b):=by subst h;subst q;unfold Hf;rw[As ω];rfl
theorem Asq {a b:ByteArray} (h:a.toList=b.toList):a=b:=by rw[ByteArray.toList_eq,ByteArray.toList_eq]at h;have:a.data=b.data:=Array.toList_inj.1 h;cases a;cases b;simp at this;subst this;rfl
theorem Asr (a b:ByteArray):(a.toList==b.toList)=decide (a=b):=by
 by_cases h:a=b
 .subst h;simp
 .rw[A3 h];cases g:(a.toList==b.toList) with| false=>rfl| true=>exact absurd (Asq (by simpa using g)) h
theorem Ass (c:Int):W5 c=some (loI c):=by unfold W5 loI;by_cases h:(97:Int)<=c <;> simp[h]
theorem Ast (c:Int):Uj c=some (upI c):=by unfold Uj upI;by_cases h:(65:Int)<=c <;> simp[h]
theorem Afw (c:Int):R5 c=some (diI c):=by unfold R5 diI;by_cases h:(48:Int)<=c <;> simp[h]
theorem Asu (c:Int):W6 c=some (wiI c):=by unfold W6 wiI;rw[Ass,Ast,Afw];simp only[Ad];cases loI c <;> cases upI c <;> cases diI c <;> rfl
theorem Ak9 {S E:Type} {step:S->Option (S⊕E)} (s:ByteArray) (p:Int->Bool) (b:Nat->S) (f:Nat->E) (lo:Nat) (g:∀j,lo<=j->j<s.size->p (bI s j)=true->step (b j)=some (.inl (b (j+1)))) (q:∀j,lo<=j->j<s.size->p (bI s j)=false->step (b j)=some (.inr (f j))) (u:step (b s.size)=some (.inr (f s.size))) : ∀(m i:Nat),lo<=i->i+m=s.size->∃n,i<=n/\n<=s.size/\(∀j,i<=j->j<n->p (bI s j)=true)/\(n<s.size->p (bI s n)=false)/\Ak step (b i)=some (f n):=by
 intro m;induction m with
 | zero=>intro i _ v;have:i=s.size:=ω;subst this;exact⟨s.size,ω,ω,λj _ _=>ω,λh=>ω,F0 u⟩
 | succ m ih=>
  intro i c v;cases hp:p (bI s i) with
  | true=>
   obtain⟨n,F,w,A,B,C⟩:=ih (i+1) ω ω;refine⟨n,ω,w,λj G D=>?_,B,by rw[Lg (g i c ω hp)];exact C⟩;rcases Cf i j with h|h
   .exact A j h D
   .have:j=i:=ω;subst this;exact hp
  | false=>exact⟨i,ω,ω,λj _ _=>ω,λ_=>hp,F0 (q i c ω hp)⟩
theorem A41 (s:ByteArray) (f:s.size<1099511627776):∃n,n<=s.size/\(∀j,j<n->wiI (bI s j)=true)/\(n<s.size->wiI (bI s n)=false)/\Aau s=some (s.extract 0 n):=by
 have H:=Ak9 (step:=λh:Int=>bif h<(s.size:Int) then ((Km s h).bind λA=>(W6 (A.toNat:Int)).bind λB=>bif B then some (.inl (Ac (h+1))) else some (.inr h)) else some (.inr h))
  s wiI (λj=>(j:Int)) (λj=>(j:Int)) 0 (λj _ g hp=>by
   obtain⟨c,q,u⟩:=Qg (s:=s) (i:=(j:Int)) rfl g
   simp only[Ar (ω:(j:Int)<(s.size:Int)),Am,q,Ad,u,Asu,hp,C3 g ω]) (λj _ g hp=>by
   obtain⟨c,q,u⟩:=Qg (s:=s) (i:=(j:Int)) rfl g
   simp only[Ar (ω:(j:Int)<(s.size:Int)),Am,q,Ad,u,Asu,hp,Ap]) ψ s.size 0 ω ω
 obtain⟨n,_,w,C,D,v⟩:=H
 refine⟨n,w,λj g=>C j ω g,D,?_⟩
 unfold Aau
 have v:Ak _ (0:Int)=some (n:Int):=v
 rw[v,Ad,Abi (lo:=0) (a:=0) (b:=n) rfl rfl ω w];rfl
theorem A42 (s:ByteArray) (f:s.size<1099511627776):∃n,n<=s.size/\(∀j,j<n->diI (bI s j)=true)/\(n<s.size->diI (bI s n)=false)/\Afe s=some (s.extract 0 n):=by
 have H:=Ak9 (step:=λh:Int=>bif h<(s.size:Int) then ((Km s h).bind λA=>(R5 (A.toNat:Int)).bind λB=>bif B then some (.inl (Ac (h+1))) else some (.inr h)) else some (.inr h))
  s diI (λj=>(j:Int)) (λj=>(j:Int)) 0 (λj _ g hp=>by
   obtain⟨c,q,u⟩:=Qg (s:=s) (i:=(j:Int)) rfl g
   simp only[Ar (ω:(j:Int)<(s.size:Int)),Am,q,Ad,u,Afw,hp,C3 g ω]) (λj _ g hp=>by
   obtain⟨c,q,u⟩:=Qg (s:=s) (i:=(j:Int)) rfl g
   simp only[Ar (ω:(j:Int)<(s.size:Int)),Am,q,Ad,u,Afw,hp,Ap]) ψ s.size 0 ω ω
 obtain⟨n,_,w,C,D,v⟩:=H
 refine⟨n,w,λj g=>C j ω g,D,?_⟩
 unfold Afe
 have v:Ak _ (0:Int)=some (n:Int):=v
 rw[v,Ad,Abi (lo:=0) (a:=0) (b:=n) rfl rfl ω w];rfl
theorem Qh {c:Bool} {X Y:Option R} (g:∃r,X=some r/\Q r) (h:∃r,Y=some r/\Q r):∃r,(bif c then X else Y)=some r/\Q r:=by cases c <;> assumption
theorem Ala {A:Type} {X:Option A} {f:A->Option R} (P:A->Prop) (g:∃a,X=some a/\P a) (q:∀a,P a->∃r,f a=some r/\Q r):∃r,X.bind f=some r/\Q r:=by obtain⟨a,e,h⟩:=g;rw[e];exact q a h
theorem A43 (s:ByteArray):∃b,Aav s=some b/\True:=by unfold Aav;repeat' first|refine Qh ?_ ?_|exact⟨_,rfl,trivial⟩
theorem A44 (s:ByteArray) (q:1<=s.size):∃r,Aax s=some r/\(r.size<=s.size):=by
 have g:Hf s 0 1=some (s.extract 0 1):=Abi rfl rfl ω q;have c:(s.extract 0 1).size<=s.size:=by rw[ByteArray.size_extract];omega
 unfold Aax;refine Ala (λz=>∀r,z = .inl r->r.size<=s.size) ?_ ?_
 .by_cases v:2<=s.size
  .have f:Hf s 0 2=some (s.extract 0 2):=Abi rfl rfl ω v;have b:∀r,(Sum.inl (s.extract 0 2):ByteArray⊕Unit) = .inl r->r.size<=s.size:=(by rintro r ⟨⟩;rw[ByteArray.size_extract];omega);simp only[f,Ad];repeat' first|refine Qh ?_ ?_|with_reducible exact⟨_,rfl,b⟩|exact⟨_,rfl,λr h=>by cases h⟩
  .rw[A3 ω];exact⟨_,rfl,λr h=>by cases h⟩
 .rintro (r|u) i
  .exact⟨_,rfl,i r rfl⟩
  .simp only[g,Ad];have w:(ByteArray.mk #[]).size<=s.size:=Nat.zero_le _;repeat' first|refine Qh ?_ ?_|with_reducible exact⟨_,rfl,c⟩|with_reducible exact⟨_,rfl,w⟩
theorem A45 (s:ByteArray) (f:s.size<1099511627776):∃b,Aaw s=some b/\True:=by
 unfold Aaw;refine Er (λ(_,i)=>∃j:Nat,i=j/\j<=s.size) (λ(_,i)=>s.size-i.toNat) (λ_=>True) ⟨0,rfl,ω⟩ ?_ ?_
 .rintro⟨v,i⟩ ⟨j,rfl,q⟩;rcases Cf j s.size with h|h
  .obtain⟨c,g,_⟩:=Qg (s:=s) (i:=(j:Int)) rfl h;simp only[Ar (ω:(j:Int)<(s.size:Int)),Am,g,Ad,C3 h ω];cases decide (Ac (Ac (v*10)+Ac (wu8 ((c.toNat:Int)-48)))>1000000) with| true=>exact .inr ⟨_,rfl,trivial⟩| false=>exact .inl ⟨_,rfl,⟨j+1,rfl,ω⟩,ζ⟩
  .have:j=s.size:=ω;subst this;exact .inr ⟨.inr (),ψ,trivial⟩
 .rintro (r|u) _ <;> exact⟨_,rfl,trivial⟩
theorem A46 (s:ByteArray) (i:Nat) (N:i<s.size) (M:s.size<1099511627776) : ∃r,Aam s i=some r/\(r.2=0->1<=r.1.Text.size/\i+r.1.Text.size<=s.size/\(r.1.G=2->Jy r.1.Text))/\(Jy s->i=0->r=(⟨2,s,0⟩,0)):=by
 obtain⟨c,P,T⟩:=Qg (s:=s) (i:=(i:Int)) rfl N;have u:Hf s (i:Int) (s.size:Int)=some (s.extract i s.size):=Abi rfl rfl ω ω;have I:(s.extract i s.size).size=s.size-i:=by rw[ByteArray.size_extract];omega
 have x:bI (s.extract i s.size) 0=bI s i:=Abh ω ω;unfold Aam;simp only[P,Ad,T,Ass,Ast,Afw,u];have U:(bif loI (bI s i) then some true else some (upI (bI s i)))=some (loI (bI s i)||upI (bI s i)):=by cases loI (bI s i) <;> rfl
 rw[U];simp only[Ad];cases l:(loI (bI s i)||upI (bI s i)) with
 | true=>
  obtain⟨n,G,D,y,F⟩:=A41 (s.extract i s.size) ω;have A:1<=n:=by
   rcases Nat.eq_zero_or_pos n with h|h
   .subst h;have:=y ω;rw[x]at this;unfold wiI at this;rw[l]at this;cases this
   .exact h
  have H:(s.extract i s.size).extract 0 n=s.extract i (i+n):=(by rw[ByteArray.extract_extract];congr 1;omega);have q:(s.extract i (i+n)).size=n:=(by rw[ByteArray.size_extract];omega);rw[H]at F;simp only[Am,F,Ad,q];have g:Jy s->i=0->n=s.size:=by
   intro w C;rcases Cf n s.size with h|h
   .have:=y ω;rw[Abh ω ω,w.2.2.2 _ ω]at this;cases this
   .omega
  by_cases J:n<=24
  .rw[A3 ω];cases k:upI (bI s i) with
   | true=>
    refine⟨_,rfl,λ_=>⟨?_,?_,λ_=>⟨?_,?_,?_,?_⟩⟩,?_⟩
    .show 1<=(s.extract i (i+n)).size;omega
    .show i+(s.extract i (i+n)).size<=s.size;omega
    .show 1<=(s.extract i (i+n)).size;omega
    .show (s.extract i (i+n)).size<=24;omega
    .show upI (bI (s.extract i (i+n)) 0)=true;rw[Abh ω ω];exact k
    .show ∀j,j<(s.extract i (i+n)).size->wiI (bI (s.extract i (i+n)) j)=true;intro j W;rw[Abh ω ω];have:=D j ω;rw[Abh ω ω]at this;exact this
    .intro w C;have:=g w C;subst C;subst this;rw[Nat.zero_add,ByteArray.extract_zero_size];rfl
   | false=>obtain⟨b,K,_⟩:=A43 (s.extract i (i+n));simp only[Ap,K,Ad];have f:Jy s->i=0->False:=(by intro w C;subst C;rw[w.2.2.1]at k;cases k);cases b with| true=>exact⟨_,rfl,λ_=>⟨by show 1<=(s.extract i (i+n)).size;omega,by show i+(s.extract i (i+n)).size<=s.size;omega,λh=>by cases h⟩,λw C=>(f w C).elim⟩| false=>exact⟨_,rfl,λ_=>⟨by show 1<=(s.extract i (i+n)).size;omega,by show i+(s.extract i (i+n)).size<=s.size;omega,λh=>by cases h⟩,λw C=>(f w C).elim⟩
  .rw[Ar ω];refine⟨_,rfl,nofun,λw C=>?_⟩;have:=g w C;have:=w.2.1;omega
 | false=>
  have f:Jy s->i=0->False:=(by intro w C;subst C;rw[w.2.2.1,Bool.or_true]at l;cases l);simp only[Ap];cases V:diI (bI s i) with
  | true=>
   obtain⟨n,G,D,y,F⟩:=A42 (s.extract i s.size) ω;have A:1<=n:=by
    rcases Nat.eq_zero_or_pos n with h|h
    .subst h;have:=y ω;rw[x,V]at this;cases this
    .exact h
   have H:(s.extract i s.size).extract 0 n=s.extract i (i+n):=(by rw[ByteArray.extract_extract];congr 1;omega);have q:(s.extract i (i+n)).size=n:=(by rw[ByteArray.size_extract];omega);rw[H]at F;obtain⟨b,K,_⟩:=A45 (s.extract i (i+n)) ω;simp only[Am,F,Ad,K];refine Ala (λ_=>True) ?_ ?_
   .exact Qh ⟨_,rfl,trivial⟩ ⟨_,rfl,trivial⟩
   .intro v _;refine Qh ⟨_,rfl,nofun,λw C=>(f w C).elim⟩ (Qh ⟨_,rfl,nofun,λw C=>(f w C).elim⟩ ⟨_,rfl,λ_=>⟨?_,?_,λh=>by cases h⟩,λw C=>(f w C).elim⟩)
    .show 1<=(s.extract i (i+n)).size;omega
    .show i+(s.extract i (i+n)).size<=s.size;omega
  | false=>
   obtain⟨r,E,L⟩:=A44 (s.extract i s.size) ω;simp only[Ap,E,Ad];rw[Asr];by_cases z:r=ByteArray.mk #[]
   .rw[Ar z];exact⟨_,rfl,nofun,λw C=>(f w C).elim⟩
   .rw[A3 z];refine⟨_,rfl,λ_=>⟨?_,?_,λh=>by cases h⟩,λw C=>(f w C).elim⟩
    .show 1<=r.size;rcases Nat.eq_zero_or_pos r.size with h|h
     .have B:r.data.toList.length=0:=(by simpa using h);exact absurd (Asq (by rw[ByteArray.toList_eq,F3.1 B,ByteArray.toList_eq])) z
     .exact h
    .show i+r.size<=s.size;omega
theorem A47 (c:Int):Aal c=some (c==9||c==10||c==13||c==32):=by unfold Aal;cases c==9 <;> cases c==10 <;> cases c==13 <;> rfl
theorem Asv (s:ByteArray) (R:s.size<1099511627776):∃b,T3 s=some b/\(b=true↔Jy s):=by
 unfold T3 Ae2
 by_cases q:(s.size:Int)>16384
 .rw[Ar q]
  refine⟨false,rfl,by simp;rintro⟨_,h,_⟩;omega⟩
 rw[A3 q]
 simp only[Ap]
 refine Ala (λr:List Kp×Int×Int=>(r.2.2≠0/\¬Jy s)\/(r.2.2=0/\∃o e,r.1=o++[e]/\(∀t∈o,t.G=2->Jy t.Text)/\(Jy s->o = [⟨2,s,0⟩]))) ?_ ?_
 .refine Er (λ(F,f)=>∃i:Nat,F=i/\i<=s.size/\f.length<=i/\(∀t∈f,t.G=2->Jy t.Text)/\(Jy s->(i=0/\f = [])\/(i=s.size/\f = [⟨2,s,0⟩])))
   (λ(F,_)=>s.size-F.toNat)
   (λz=>match z with|.inl o=>o.length<=16384/\(∀t∈o,t.G=2->Jy t.Text)/\(Jy s->o = [⟨2,s,0⟩]) | .inr (_,_,e)=>e≠0/\¬Jy s)
   ⟨0,rfl,ω,ψ,ψ,λ_=>.inl ⟨rfl,rfl⟩⟩ ?_ ?_
  .rintro⟨v,o⟩ ⟨i,rfl,hi,ho,H,hu⟩
   rcases Cf i s.size with h|h
   .obtain⟨c,K,P⟩:=Qg (s:=s) (i:=(i:Int)) rfl h
    have g:Jy s->i=0/\o = []:=λu=>by
     rcases hu u with w|w
     .exact w
     .omega
    simp only[Ar (ω:(i:Int)<(s.size:Int)),Am,K,Ad,P,A47]
    cases G:(bI s i==9||bI s i==10||bI s i==13||bI s i==32) with
    | true=>
     have k:¬Jy s:=by
      intro u
      have h0:=(g u).1
      subst h0
      have:=u.2.2.1
      simp only[upI,Cz,Ds]at this
      simp only[Bool.or_eq_true,beq_iff_eq]at G
      omega
     exact .inl ⟨(((i+1:Nat):Int),o),by simp only[Am];rw[C3 h ω],⟨i+1,rfl,ω,(by show o.length<=i+1;omega),H,λu=>(k u).elim⟩,ζ⟩
    | false=>
     simp only[Ap]
     cases B:(bI s i==35) with
     | true=>
      have k:¬Jy s:=by
       intro u
       have h0:=(g u).1
       subst h0
       have:=u.2.2.1
       simp only[upI,Cz,Ds]at this
       simp only[beq_iff_eq]at B
       omega
      simp only[Am]
      obtain⟨n,n1,Z,Y,n4,E⟩:=Ak9 (step:=λC:Int=>bif C<(s.size:Int) then ((Km s C).bind λI=>bif ((I.toNat:Int)==(10:Int)) then some (.inr (.inl C)) else some (.inl (Ac (C+1)))) else some (.inr (.inr C)))
       s (λc=>!(c==10)) (λj=>(j:Int)) (λj=>if j<s.size then Sum.inl (j:Int) else Sum.inr (j:Int)) 0 (λj _ T hp=>by
        obtain⟨c,K,P⟩:=Qg (s:=s) (i:=(j:Int)) rfl T
        simp only[Bool.not_eq_true']at hp
        simp only[Ar (ω:(j:Int)<(s.size:Int)),Am,K,Ad,P,hp,C3 T ω,Ap]) (λj _ T hp=>by
        obtain⟨c,K,P⟩:=Qg (s:=s) (i:=(j:Int)) rfl T
        simp only[Bool.not_eq_false']at hp
        simp only[Ar (ω:(j:Int)<(s.size:Int)),Am,K,Ad,P,hp,As T]) ψ (s.size-i) i ω ω
      have S:i<n:=by
       rcases Cf i n with w|w
       .exact w
       .have:n=i:=ω
        subst this
        have:=n4 h
        simp only[beq_iff_eq]at B
        rw[B]at this;cases this
      have E:Ak _ (i:Int)=_:=E
      rw[E,Ad]
      rcases Cf n s.size with w|w
      .rw[As w]
       exact .inl ⟨((n:Int),o),rfl,⟨n,rfl,ω,(by show o.length<=n;omega),H,λu=>(k u).elim⟩,ζ⟩
      .rw[Ao ω]
       exact .inr ⟨.inl o,rfl,ω,H,λu=>(k u).elim⟩
     | false=>
      obtain⟨r,N,M,J⟩:=A46 s i h R
      simp only[Ap,N,Ad]
      by_cases D:r.2=0
      .obtain⟨a1,a2,a3⟩:=M D
       simp only[G0 D,Ap]
       rw[Dy ζ,Ad]
       refine .inl ⟨(((i+r.1.Text.size:Nat):Int),o++[r.1]),?_,⟨i+r.1.Text.size,rfl,a2,ζ,?_,?_⟩,ζ⟩
       .rw[show Ac ((i:Int)+(r.1.Text.size:Int))=((i+r.1.Text.size:Nat):Int) by rw[Ac,Ci] <;> omega]
       .intro t ht
        rcases Ef.1 ht with w|w
        .exact H t w
        .simp at w;subst w;exact a3
       .intro u
        obtain⟨b1,b2⟩:=g u
        have:=J u b1
        subst b1;subst b2;subst this
        exact .inr ⟨ψ,rfl⟩
      .simp only[F4 D,Am]
       refine .inr ⟨_,rfl,D,λu=>?_⟩
       rw[J u (g u).1]at D
       exact D rfl
   .have:i=s.size:=ω
    subst this
    refine .inr ⟨.inl o,ψ,ω,H,λu=>?_⟩
    rcases hu u with⟨w,_⟩|⟨_,w⟩
    .have:=u.1;omega
    .exact w
  .rintro (o|⟨l,p,e⟩) L
   .obtain⟨X,z2,z3⟩:=L
    simp only
    rw[Dy ζ,Ad]
    exact⟨_,rfl,.inr ⟨rfl,o,_,rfl,z2,z3⟩⟩
   .exact⟨_,rfl,.inl L⟩
 .rintro⟨l,p,e⟩ (⟨W,h2⟩|⟨W,o,t,h2,h3,A⟩)
  .simp only at W
   simp only[C8 W,Ap]
   exact⟨_,rfl,by simp[h2]⟩
  .simp only at W h2
   subst W;subst h2
   simp only[beq_self_eq_true,Am]
   match o,h3,A with
   | [],_,A=>exact⟨false,ψ,by simp;intro u;cases A u⟩
   | [x],h3,A=>
    have V:Ag ([x]++[t]) 0=some x:=rfl
    simp only[V,Ad,Asr]
    have U:((([x]++[t]).length:Int)==2)=true:=rfl
    simp only[U,Am]
    by_cases hx:x.G=2
    .simp only[Eh hx,Am]
     refine⟨_,rfl,?_⟩
     rw[decide_eq_true_iff]
     constructor
     .intro h;rw[<-h];exact h3 x ψ hx
     .intro u;have:=A u;simp at this;rw[this]
    .simp only[C8 hx,Ap]
     refine⟨_,rfl,?_⟩
     simp only[Bool.false_eq_true,false_iff]
     intro u;have:=A u;simp at this;rw[this]at hx;exact hx rfl
   | x::y::ys,_,A=>
    refine⟨false,?_,by simp;intro u;have:=A u;simp at this⟩
    rw[C8]
    .rfl
    .simp;omega
def Afx (data:List Ai) (d:Nat) (v:Int) (y:P9):Prop:=Jy y.S/\y.R.length<=6/\y.R.all (Sf data d v)=true
def Alb (data:List Ai) (d:Nat) (x:Ai):Prop:=0<=x.V/\x.V<=6/\1<=x.O.length/\x.O.length<=8/\Jy x.S/\∀y∈x.O,Afx data d x.V y
def K8 (x:Ai):List ByteArray:=x.O.map (·.S)
def Hu (data:List Ai):Prop:=data.length<=12/\(∀d x,data[d]? = some x->Alb data d x)/\(data.map (·.S)).Nodup/\(data.flatMap K8).Nodup
structure DSz (data:List Ai):Prop where
 len:data.length<=1048576
 sz:SzD data
 nm:∀x∈data,x.S.size<=1048576
 cn:∀x∈data,∀y∈x.O,y.S.size<=1048576
theorem Na (a b:ByteArray):(a==b)=true↔a=b:=by
 constructor
 .intro h;cases a with|mk a=>cases b with|mk b=>
  have:a=b:=(by exact eq_of_beq h);rw[this]
 .rintro rfl;cases a with|mk a=>exact beq_self_eq_true a
def Lz (o:List (ByteArray×Bool)) (L:List ByteArray):Prop:=(∀p∈o,p.2=true)/\∀s,E9 o s=true↔s∈L
theorem Lz.nil:Lz [] []:=⟨ψ,by simp[E9]⟩
theorem Lz.get (h:Lz o L) (b:E9 o s=true):Ig o s false=true:=by unfold Ig;unfold E9 at b;rw[any_eq_true]at b;obtain⟨p,f,c⟩:=b;cases hf:o.find? (λp=>s==p.1) with| none=>exact absurd c (by have:=find?_eq_none.1 hf p f;simpa using this)| some q=>exact h.1 q (mem_of_find?_eq_some hf)
theorem A48 (o:List (ByteArray×Bool)) (s t:ByteArray) (v:Bool):E9 (Gn o s v) t=(E9 o t||t==s):=by
 induction o with
 | nil=>simp[Gn,E9]
 | cons p o ih=>unfold Gn;cases hp:(s==p.1) with| true=>have:s=p.1:=(Na _ _).1 hp;subst this;simp only[Am,E9,any_cons];cases t==p.1 <;> simp| false=>simp only[E9,any_cons]at ih ⊢;simp only[Ap,any_cons,ih,Bool.or_assoc]
theorem Lz.put (h:Lz o L) (s:ByteArray):Lz (Gn o s true) (L++[s]):=by
 refine⟨?_,λt=>?_⟩
 .have:∀o:List (ByteArray×Bool),(∀p∈o,p.2=true)->∀p∈Gn o s true,p.2=true:=by
   intro o;induction o with
   | nil=>intro _ p hp;simp[Gn]at hp;rw[hp]
   | cons q o ih=>
    intro b p hp;unfold Gn at hp;cases g:(s==q.1) with
    | true=>
     rw[g]at hp;simp only[Am,Gc]at hp;rcases hp with rfl|hp
     .rfl
     .exact b p (by simp[hp])
    | false=>
     rw[g]at hp;simp only[Ap,Gc]at hp;rcases hp with rfl|hp
     .exact b _ ψ
     .exact ih (λp hp=>b p (by simp[hp])) p hp
  exact this o h.1
 .rw[A48,Bool.or_eq_true,h.2 t,Na];simp
theorem A49 (x:Ai) {c:Nat} (g:x.O[c]? = some y):K8 x=(x.O.take c).map (·.S)++y.S::(x.O.drop (c+1)).map (·.S):=by
 have h:=take_append_drop c x.O
 have q:=Ec g
 have e:x.O.drop c=y::x.O.drop (c+1):=by
  rw[drop_eq_getElem_cons q]
  rw[Bp q]at g
  rw[Fh g]
 unfold K8
 conv=>lhs;rw[<-h,e]
 simp
theorem Asw {m:List ByteArray} (h:(L++s::m).Nodup):s ∉ L:=by rw[nodup_append]at h;intro b;exact h.2.2 s b s ψ rfl
theorem Asx (h:L.Nodup) (c:s ∉ L):(L++[s]).Nodup:=by rw[nodup_append];refine⟨h,ψ,?_⟩;intro a q b g;simp at g;subst g;intro e;subst e;exact c q
theorem A5a (q:DSz data) (U:data[d]? = some x) (hv:x.V<=6) (o:List (ByteArray×Bool)) (L:List ByteArray) (G:Lz o L) (J:L.Nodup) : ∃z,Ak (S:=(Int×List (ByteArray×Bool))) (E:=(Bool⊕(Int×List (ByteArray×Bool)))) (λ(f,g)=> bif f<(x.O.length:Int) then ((Ag x.O f).bind λw=> (T3 w.S).bind λu=> bif (!u) then some (.inr (.inl false)) else (bif (E9 g w.S) then (bif (Ig g w.S (false:Bool)) then some (.inr (.inl false)) else ((Rx data d f).bind λs=> bif (!s) then some (.inr (.inl false)) else some (.inl ((Ac (f+1)),(Gn g w.S true))))) else ((Rx data d f).bind λN=> bif (!N) then some (.inr (.inl false)) else some (.inl ((Ac (f+1)),(Gn g w.S true)))))) else some (.inr (.inr (f,g)))) (0,o)=some z /\ match z with
   | .inl r=>r=false/\¬((∀y∈x.O,Afx data d x.V y)/\(L++K8 x).Nodup)
   | .inr (_,o')=>(∀y∈x.O,Afx data d x.V y)/\(L++K8 x).Nodup/\Lz o' (L++K8 x):=by
 have K:=Bv U;have I:=(q.sz x K).1;refine Jm (λ(f,g)=>∃c:Nat,f=c/\c<=x.O.length/\(∀y∈x.O.take c,Afx data d x.V y)/\(L++(x.O.take c).map (·.S)).Nodup/\Lz g (L++(x.O.take c).map (·.S))) (λ(f,_)=>x.O.length-f.toNat) _ ?_ _ ⟨0,rfl,ω,ψ,by simpa using J,by simpa using G⟩;rintro⟨v,g⟩ ⟨c,rfl,hc,P,T,F⟩;rcases Cf c x.O.length with h|h
 .have H:x.O[c]? = some x.O[c]:=Bp h;generalize x.O[c]=y at H;have k:=Bv H;obtain⟨b,b1,V⟩:=Asv y.S (by have:=q.cn x K y k;omega);have W:=Cs H;have B:L++K8 x=(L++(x.O.take c).map (·.S))++y.S::(x.O.drop (c+1)).map (·.S):=(by rw[A49 x H];simp);simp only[Ar (ω:(c:Int)<(x.O.length:Int)),Am,Bn rfl H,Ad,b1,A40 q.sz d c U H hv q.len,C3 h ω];cases b with
  | false=>refine .inr ⟨.inl false,rfl,rfl,λC=>?_⟩;have:=V.2 (C.1 y k).1;cases this
  | true=>
   simp only[bnt,Ap];cases j:E9 g y.S with
   | true=>simp only[Am,F.get j];refine .inr ⟨.inl false,rfl,rfl,λC=>?_⟩;rw[B]at C;exact Asw C.2 ((F.2 _).1 j)
   | false=>
    simp only[Ap];cases i:(decide (y.R.length<=6)&&y.R.all (Sf data d x.V)) with
    | false=>refine .inr ⟨.inl false,rfl,rfl,λC=>?_⟩;have:=C.1 y k;rw[this.2.2,Ar this.2.1]at i;cases i
    | true=>
     simp only[Cz,Ds]at i;have A:y.S ∉ L++(x.O.take c).map (·.S):=λC=>by rw[(F.2 _).2 C]at j;cases j
     have e:L++(x.O.take (c+1)).map (·.S)=(L++(x.O.take c).map (·.S))++[y.S]:=(by rw[W];simp);refine .inl ⟨_,rfl,⟨c+1,rfl,ω,?_,?_,?_⟩,ζ⟩
     .intro D l;rw[W]at l;rcases Ef.1 l with M|M
      .exact P D M
      .simp at M;subst M;exact⟨V.1 rfl,i.1,i.2⟩
     .rw[e];exact Asx T A
     .rw[e];exact F.put _
 .have:c=x.O.length:=ω;subst this;rw[C1]at P T F;exact .inr ⟨.inr ((x.O.length:Int),g),ψ,P,T,F⟩
theorem A5b (g:data[d]? = some x):data.flatMap K8=((data.take d).flatMap K8++K8 x)++(data.drop (d+1)).flatMap K8/\data.map (·.S)=(data.take d).map (·.S)++x.S::(data.drop (d+1)).map (·.S):=by
 have h:=take_append_drop d data
 have q:=Ec g
 have e:data.drop d=x::data.drop (d+1):=by
  rw[drop_eq_getElem_cons q]
  rw[Bp q]at g
  rw[Fh g]
 constructor
 .conv=>lhs;rw[<-h,e]
  simp[flatMap_append]
 .conv=>lhs;rw[<-h,e]
  simp
theorem A5c (i:DSz data):∃b,Zl data=some b/\(b=true↔Hu data):=by
 have E:=i.len;unfold Zl;rcases Cf 12 data.length with P|P
 .rw[Ar ω];exact⟨false,rfl,by simp;intro h;have:=h.1;omega⟩
 rw[A3 ω];simp only[Ap];refine Er (λ(H,c,f)=>∃d:Nat,H=d/\d<=data.length/\(∀j x,j<d->data[j]? = some x->Alb data j x)/\((data.take d).map (·.S)).Nodup/\((data.take d).flatMap K8).Nodup/\Lz c ((data.take d).map (·.S))/\Lz f ((data.take d).flatMap K8)) (λ(H,_,_)=>data.length-H.toNat) (λz=>match z with|.inl r=>r=false/\¬Hu data | .inr _=>Hu data) ⟨0,rfl,ω,by intro j x h;omega,ψ,ψ,by simpa using Lz.nil,by simpa using Lz.nil⟩ ?_ ?_
 .rintro⟨v,c,f⟩ ⟨d,rfl,hd,h1,T,V,A,U⟩;rcases Cf d data.length with h|h
  .have C:data[d]? = some data[d]:=Bp h;generalize data[d]=x at C;have W:=Bv C;obtain⟨b,b1,b2⟩:=Asv x.S (by have:=i.nm x W;omega);obtain⟨f1,f2⟩:=A5b C;simp only[Ar (ω:(d:Int)<(data.length:Int)),Am,Bn rfl C,Ad,b1];have F:∀(u:¬Alb data d x),∃e:Bool⊕(List (ByteArray×Bool)×List (ByteArray×Bool)),(some (Sum.inr (Sum.inl false)):Option ((Int×List (ByteArray×Bool)×List (ByteArray×Bool))⊕(Bool⊕(List (ByteArray×Bool)×List (ByteArray×Bool)))))=some (.inr e)/\(match e with|.inl r=>r=false/\¬Hu data | .inr _=>Hu data) :=
    λu=>⟨.inl false,rfl,rfl,λw=>u (w.2.1 d x C)⟩
   cases b with
   | false=>exact .inr (F λw=>by have:=b2.2 w.2.2.2.2.1;cases this)
   | true=>
    simp only[bnt,Ap];cases g:E9 c x.S with
    | true=>simp only[Am,A.get g,Ad];refine .inr ⟨.inl false,rfl,rfl,λw=>?_⟩;have:=w.2.2.1;rw[f2]at this;exact Asw this ((A.2 _).1 g)
    | false=>
     simp only[Ap];by_cases l:x.V<0
     .simp only[Ar l,Am,Ad];exact .inr (F λw=>by have:=w.1;omega)
     by_cases s:x.V>6
     .simp only[A3 l,Ar s,Am,Ap,Ad];exact .inr (F λw=>by have:=w.2.1;omega)
     simp only[A3 l,A3 s,Ap,Ad];by_cases q:(x.O.length:Int)<1
     .simp only[Ar q,Am,Ad];exact .inr (F λw=>by have:=w.2.2.1;omega)
     by_cases y:(x.O.length:Int)>8
     .simp only[A3 q,Ar y,Am,Ap,Ad];exact .inr (F λw=>by have:=w.2.2.2.1;omega)
     simp only[A3 q,A3 y,Ap,Ad];obtain⟨z,J,K⟩:=A5a i C ω f _ U V;rw[J,Ad]
     match z,K with
     | .inl r,K=>obtain⟨rfl,K⟩:=K;refine .inr ⟨.inl false,rfl,rfl,λw=>K ⟨(w.2.1 d x C).2.2.2.2.2,?_⟩⟩;have:=w.2.2.2;rw[f1]at this;exact (nodup_append.1 this).1
     | .inr (a0,B),K=>
      obtain⟨N,M,L⟩:=K;have ht:=Cs C;have D:x.S ∉ (data.take d).map (·.S):=λw=>by rw[(A.2 _).2 w]at g;cases g
      have I:(data.take (d+1)).map (·.S)=(data.take d).map (·.S)++[x.S]:=(by rw[ht];simp);have G:(data.take (d+1)).flatMap K8=(data.take d).flatMap K8++K8 x:=(by rw[ht];simp[flatMap_append]);refine .inl ⟨(((d+1:Nat):Int),Gn c x.S true,B),by simp only[C3 h ω],⟨d+1,rfl,ω,?_,?_,?_,?_,?_⟩,ζ⟩
      .intro j R S k;rcases Cf j d with h'|h'
       .exact h1 j R h' k
       .have:j=d:=ω;subst this;rw[C]at k;cases k;exact⟨ω,ω,ω,ω,b2.1 rfl,N⟩
      .rw[I];exact Asx T D
      .rw[G];exact M
      .rw[I];exact A.put _
      .rw[G];exact L
  .have:d=data.length:=ω;subst this;rw[C1]at T V;exact .inr ⟨.inr (c,f),ψ,P,λd x C=>h1 d x (Ec C) C,T,V⟩
 .rintro (r|⟨o,o'⟩) i
  .obtain⟨rfl,i⟩:=i;exact⟨false,rfl,by simp[i]⟩
  .exact⟨true,rfl,by simpa using i⟩
theorem Afy (c:DSz data):∃b,Tt data=some b/\(b=true↔Hu data):=by obtain⟨b,g,h⟩:=A5c c;refine⟨b,?_,h⟩;unfold Tt;rw[g,Ad];cases b with| false=>rfl| true=>rfl
theorem SzD.args (h:SzD data) (hx:x∈data) (hy:y∈x.O) (ht:t∈y.R):Bx t<=1048576/\t.R.length<=1048576/\y.R.length<=1048576:=by have h1:=(h x hx).2 y hy;have h3:=Jx ht;have f:=Jf t;have c:=K7 t.R;have b:=K7 y.R;omega
def isV (σ:List Af) (k n:Int):Bool:=k==4&&decide (0<=n)&&decide (n<(σ.length:Int))
mutual
def Ei (σ:List Af):Af->Af
 | ⟨k,n,l⟩=>match (if isV σ k n then σ[n.toNat]? else none) with
  | some s=>s
  | none=>⟨k,n,N9 σ l⟩
def N9 (σ:List Af):List Af->List Af
 | []=>[]
 | x::xs=>Ei σ x::N9 σ xs
end
variable {t:Af} {σ:List Af}
theorem Alc (σ l:List Af):N9 σ l=l.map (Ei σ):=by induction l with| nil=>rfl| cons x xs ih=>simp only[N9,ih,map_cons]
theorem Afz {k n:Int} (h:isV σ k n=true):∃s,σ[n.toNat]? = some s/\Ag σ n=some s/\s∈σ:=by simp only[isV,Cz,Ds]at h;have b:n.toNat < σ.length:=ω;refine⟨σ[n.toNat],Bp b,?_,getElem_mem b⟩;unfold Ag;rw[As ω,Bp b]
theorem Abj {s:Af} (h:isV σ t.G t.U=true) (b:σ[t.U.toNat]? = some s):Ei σ t=s:=by cases t;simp only[Ei]at *;simp[h,b]
theorem Af0 (h:isV σ t.G t.U=false):Ei σ t=⟨t.G,t.U,t.R.map (Ei σ)⟩:=by cases t;simp only[Ei]at *;simp[h,Alc]
mutual
theorem Asy:∀t:Af,Ei [] t=t
 | ⟨k,n,l⟩=>by
  have g:isV [] k n=false:=by
   unfold isV
   by_cases h:0<=n
   .rw[A3 (by simp;omega:¬n<(([]:List Af).length:Int))];simp
   .rw[A3 h];simp
  simp only[Ei,g,Asz l];rfl
theorem Asz:∀l:List Af,N9 [] l=l
 | []=>rfl
 | x::xs=>by simp only[N9,Asy x,Asz xs]
end
mutual
theorem As0 (σ:List Af) (M:Nat) (q:1<=M) (h:∀s∈σ,Bx s<=M):∀t:Af,Bx (Ei σ t)<=Bx t*M
 | ⟨k,n,l⟩=>by
  cases g:isV σ k n with
  | true=>
   obtain⟨s,u,_,v⟩:=Afz g
   rw[Abj (t:=⟨k,n,l⟩) g u]
   have:=h s v
   have w:=Uu ⟨k,n,l⟩
   calc Bx s<=1*M:=ω
    _<=_:=Nat.mul_le_mul_right M w
  | false=>
   have:=As1 σ M q h l
   simp only[Ei,g,Bx]
   simp only[Bool.false_eq_true,if_false,Bx]
   rw[Nat.add_mul];omega
theorem As1 (σ:List Af) (M:Nat) (g:1<=M) (h:∀s∈σ,Bx s<=M):∀l:List Af,Dv (N9 σ l)<=Dv l*M
 | []=>by simp[N9,Dv]
 | x::xs=>by
  have q:=As0 σ M g h x
  have u:=As1 σ M g h xs
  simp only[N9,Dv]
  rw[Nat.add_mul];omega
end
variable {t:Af} {b:Bool} {l:List Af} {data:List Ai} {r:List Bool} {j:Nat}
theorem As2 (σ:List Af) (t:Af):(bif t.G==(4:Int) then bif decide (t.U>=(0:Int)) then some (decide (t.U<(σ.length:Int))) else some false else some false)=some (isV σ t.G t.U):=by unfold isV;cases t.G==4 <;> simp;by_cases h:0<=t.U <;> simp[h]
theorem A5d:∀(k:Nat) (t:Af) (σ:List Af) (M:Nat),(∀s∈σ,Bx s<=M)->Bx t+M+1<=k->k<1099511627776->P6 k t σ=some (Ei σ t):=by
 intro k;induction k with
 | zero=>intro t σ M _ h;omega
 | succ k ih=>
  intro t σ M b h A;have f:=Jf t;have c:=K7 t.R;rw[P6];rw[show (show OB from bif t.G==(4:Int) then bif decide (t.U>=(0:Int)) then some (decide (t.U<(σ.length:Int))) else some false else some false)=some (isV σ t.G t.U) from As2 σ t,Ad];cases q:isV σ t.G t.U with
  | true=>obtain⟨s,g,u,v⟩:=Afz q;have:=b s v;simp only[Am,u,Ad,Abj q g,ih s [] 0 ψ ω ω,Asy]
  | false=>
   rw[Af0 q];simp only[Ap];refine F5 t.R (λj=>((j:Int),(t.R.take j).map (Ei σ))) rfl ω ?_ ?_
   .intro j x B w g u v;have:=Jx (Bv w);simp only[g,u,v,Am,Ad,ih x σ M b ω ω];rw[Dy ζ,Ad,Cs w];simp
   .intro g;exact⟨t.R.map (Ei σ),ψ,rfl⟩
theorem A5e:∀(k:Nat) (t:Af),Bx t<=k->Bx t<1099511627776->Ry k t=some (Bx t:Int):=by
 intro k;induction k with
 | zero=>intro t h;have:=Uu t;omega
 | succ k ih=>
  intro t h A;have b:=Jf t;have c:=K7 t.R;rw[Ry];refine F5 t.R (λj=>(1+(Dv (t.R.take j):Int),(j:Int))) rfl ω ?_ ?_
  .intro j x B q u v w;have g:=Jx (Bv q);have f:=Ak7 t.R (j+1);have e:Dv (t.R.take (j+1))=Dv (t.R.take j)+Bx x:=(by rw[Cs q,Afv];simp[Dv]);simp only[u,v,w,Am,Ad,ih x ω ω];rw[show Ac (1+(Dv (t.R.take j):Int)+(Bx x:Int))=1+(Dv (t.R.take (j+1)):Int) by rw[e,Ac,Ci] <;> omega]
  .intro u;exact⟨1+(Dv t.R:Int),ψ,by rw[b];simp⟩
theorem ξ {p:Prop} (h:p:=by rw[Ac,Ci]<;>omega):p:=h
theorem A5f (σ:List Af) (M:Nat) (D:1<=M) (q:M<=1048576) (z:∀s∈σ,Bx s<=M):∀(k:Nat) (t:Af),Bx t<=k->Bx t<=1048576 -> ∃v:Nat,Rz k t (σ.map λs=>(Bx s:Int))=some (v:Int)/\v<=Bx (Ei σ t)/\((v=Bx (Ei σ t))\/200<v):=by
 intro k;induction k with
 | zero=>intro t h;have:=Uu t;omega
 | succ k ih=>
  intro t h K;have A:=Jf t;have y:=K7 t.R;have g:∀x,Bx x<=1048576->Bx (Ei σ x)<=1099511627776:=λx w=>by have:=As0 σ M D z x;have:Bx x*M<=1048576*1048576:=Nat.mul_le_mul w q;omega
  rw[Rz];rw[show (show OB from bif t.G==(4:Int) then bif decide (t.U>=(0:Int)) then some (decide (t.U<((σ.map λs=>(Bx s:Int)).length:Int))) else some false else some false)=some (isV σ t.G t.U) by rw[C2];exact As2 σ t,Ad];cases C:isV σ t.G t.U with
  | true=>obtain⟨s,H,N,U⟩:=Afz C;have P:Ag (σ.map λs=>(Bx s:Int)) t.U=some (Bx s:Int):=(by have:=G3 N;rw[Bn (n:=t.U.toNat) ω];simp[H]);simp only[Am,P,Ad,Abj C H];exact⟨Bx s,rfl,Nat.le_refl _,.inl rfl⟩
  | false=>
   have u:=g t K;rw[Af0 C]at u ⊢;simp only[Ap];have f:Bx ⟨t.G,t.U,t.R.map (Ei σ)⟩=1+Dv (t.R.map (Ei σ)):=(by simp only[Bx]);rw[f]at u ⊢;refine Aa8 (λv:Nat=>(v:Int)) (Er (λ(n,i)=>∃j:Nat,i=j/\j<=t.R.length/\n=1+(Dv ((t.R.map (Ei σ)).take j):Int)) (λ(_,i)=>t.R.length-i.toNat) (λn=>∃v:Nat,n=v/\v<=1+Dv (t.R.map (Ei σ))/\(v=1+Dv (t.R.map (Ei σ))\/200<v)) ⟨0,rfl,ω,by simp[Dv]⟩ ?_ ?_)
   .rintro⟨n,i⟩ ⟨j,rfl,V,l⟩;have l:n=_:=l;subst l;rcases Cf j t.R.length with F|F
    .have w:t.R[j]? = some t.R[j]:=Bp F;generalize t.R[j]=x at w;have G:=Jx (Bv w);obtain⟨v,b,I,W⟩:=ih x ω ω;have c:(t.R.map (Ei σ))[j]? = some (Ei σ x):=(by simp[w]);have e:Dv ((t.R.map (Ei σ)).take (j+1))=Dv ((t.R.map (Ei σ)).take j)+Bx (Ei σ x):=(by rw[Cs c,Afv];simp[Dv]);have B:=Ak7 (t.R.map (Ei σ)) (j+1);have E:Ac (1+(Dv ((t.R.map (Ei σ)).take j):Int)+(v:Int))=((1+Dv ((t.R.map (Ei σ)).take j)+v:Nat):Int):=ξ;simp only[Ar (ω:(j:Int)<(t.R.length:Int)),Am,Bn rfl w,Ad,b,C3 F ω,E];by_cases T:1+Dv ((t.R.map (Ei σ)).take j)+v>200
     .rw[Ar ω];exact .inr ⟨_,rfl,_,rfl,ω,.inr T⟩
     .rw[A3 ω];refine .inl ⟨_,rfl,⟨j+1,rfl,ω,?_⟩,ζ⟩;have:v=Bx (Ei σ x):=ω;subst this;rw[e];omega
    .have:j=t.R.length:=ω;subst this;refine .inr ⟨_,by simp;rfl,1+Dv (t.R.map (Ei σ)),?_,ω,.inl rfl⟩;rw[Ik ψ];omega
   .rintro n ⟨v,rfl,b,I⟩;exact⟨_,rfl,v,rfl,b,I⟩
def Jg (data:List Ai) (t:Af) (c:Int):Option (List Af) := if t.G=5 then match Ag data t.U with
  | none=>none
  | some x=>if (t.R.length:Int)=x.V then match Ag x.O c with
    | none=>none
    | some y=>if (y.R.map (Ei t.R)).all (λa=>decide (Bx a<=200)) then some (y.R.map (Ei t.R)) else none else none else none
def okL (o:Option (List Af)):List Af×Bool:=match o with|none=>([],false) | some l=>(l,true)
def Szv (data:List Ai):Prop:=∀x∈data,∀y∈x.O,y.R.length<=6/\∀a∈y.R,Bx a<=200
theorem Hu.szv (h:Hu data):Szv data:=by
 intro x hx y hy;obtain⟨d,hd⟩:=Hh hx;have h1:=h.2.1 d x hd;obtain⟨_,c2,c3⟩:=h1.2.2.2.2.2 y hy;refine⟨c2,λa ha=>?_⟩;have:=Gt.1 c3 a ha;unfold Sf at this;rw[Bool.or_eq_true]at this;rcases this with h'|h'
 .exact (Ak8 hd h1.2.1 h').2
 .simp only[Cz,Ds]at h';exact h'.2
theorem Abk (A:Szv data) (t:Af) (ht:Bx t<=200) (c:Int):Uo data t c=some (okL (Jg data t c)):=by
 have B:=Jf t;have q:=K7 t.R;unfold Uo Jg;by_cases I:t.G=5
 .simp only[G0 I,Ap,As I];cases P:Ag data t.U with
  | none=>
   rcases Abe P with h|h
   .simp only[Ar h,Am,Ad,okL]
   .by_cases C:t.U<0
    .simp only[Ar C,Am,Ad,okL]
    .simp only[A3 C,Ar (show t.U>=(data.length:Int) from h),Am,Ap,Ad,okL]
  | some x=>
   obtain⟨W,a2,_,N⟩:=G3 P;simp only[A3 (ω:¬t.U<0),A3 (ω:¬t.U>=(data.length:Int)),Ap,Ad];by_cases K:(t.R.length:Int)=x.V
   .simp only[G0 K,Ap,As K];cases T:Ag x.O c with
    | none=>
     rcases Abe T with h|h
     .simp only[Ar h,Am,Ad,okL]
     .by_cases C:c<0
      .simp only[Ar C,Am,Ad,okL]
      .simp only[A3 C,Ar (show c>=(x.O.length:Int) from h),Am,Ap,Ad,okL]
    | some y=>
     obtain⟨b1,b2,_,i⟩:=G3 T;obtain⟨G,b⟩:=A x N y i;simp only[A3 (ω:¬c<0),A3 (ω:¬c>=(x.O.length:Int)),Ap,Ad];rw[M9 (n:=t.R.length) (c:=t.R.length) rfl rfl ω ω ω,Ad];refine F5 t.R (λj=>((j:Int),((t.R.take j).map λs=>(Bx s:Int))++replicate (t.R.length-j) 0)) rfl ω ?_ ?_
     .intro j s V g w F H;have:=Jx (Bv g);obtain⟨m,D⟩:∃m,t.R.length-j=m+1:=⟨t.R.length-j-1,ω⟩;have E:t.R.length-(j+1)=m:=ω;have k:j=((t.R.take j).map λs=>(Bx s:Int)).length:=ζ;simp only[w,F,H,Am,Ad,A5e 4000000 s ω ω,D,E,replicate_succ,Abg _ _ _ (j:Int) j rfl k,Abf _ _ _ _ (j:Int) j rfl k,Cs g];simp
     .intro w;refine⟨t.R.map λs=>(Bx s:Int),ψ,?_⟩;have l:∀s∈t.R,Bx s<=200:=λs g=>by have:=Jx g;omega
      refine (Abc (rt:=(y.R.map (Ei t.R),true)) (rf:=([],false)) y.R (λa=>decide (Bx (Ei t.R a)<=200)) (λj=>(j:Int)) rfl ω ?_ ?_).trans ?_
      .intro j a M w F H;have z:=b a (Bv M);obtain⟨v,u,v2,v3⟩:=A5f t.R 200 ω ω l 4000000 a ω ω;simp only[w,F,H,Am,Ad,u];by_cases U:Bx (Ei t.R a)<=200
       .rw[Ar U,A3 ω];exact⟨λ_=>rfl,λh=>by cases h⟩
       .rw[A3 U,Ar ω];exact⟨nofun,λ_=>⟨_,rfl,rfl⟩⟩
      .intro w;refine⟨.inr (),ψ,?_⟩;simp only;refine F5 y.R (λj=>((j:Int),(y.R.take j).map (Ei t.R))) rfl ω ?_ ?_
       .intro j a V M w F H;have z:=b a (Bv M);simp only[w,F,H,Am,Ad,A5d 4000000 a t.R 200 l ω ω];rw[Dy ζ,Ad,Cs M];simp
       .intro w;exact⟨y.R.map (Ei t.R),ψ,rfl⟩
      .rw[all_map];cases f:y.R.all ((λa=>decide (Bx a<=200)) ∘ Ei t.R) with| true=>rw[As rfl];rw[show (y.R.all λa=>decide (Bx (Ei t.R a)<=200))=true from f];rfl| false=>rw[show (y.R.all λa=>decide (Bx (Ei t.R a)<=200))=false from f];rfl
   .simp only[F4 K,Am,Ad,Ao K,okL]
 .simp only[F4 I,Am,Ad,Ao I,okL]
theorem A5g (b:Szv data) (t:Af) (ht:Bx t<=200) (c:Int):Aeo data t c=some (okL (Jg data t c)):=Abk b t ht c
theorem Pc {c:Int} (h:Jg data t c=some l) : ∃x y,t.G=5/\Ag data t.U=some x/\(t.R.length:Int)=x.V/\Ag x.O c=some y/\l=y.R.map (Ei t.R)/\∀a∈l,Bx a<=200:=by
 unfold Jg at h;by_cases g:t.G=5
 .rw[As g]at h;cases v:Ag data t.U with
  | none=>rw[v]at h;cases h
  | some x=>
   rw[v]at h;simp only at h;by_cases q:(t.R.length:Int)=x.V
   .rw[As q]at h;cases u:Ag x.O c with
    | none=>rw[u]at h;cases h
    | some y=>
     rw[u]at h;simp only at h;by_cases b:(y.R.map (Ei t.R)).all (λa=>decide (Bx a<=200))=true
     .rw[As b]at h;cases h;refine⟨x,y,g,rfl,q,u,rfl,λa w=>?_⟩;have:=Gt.1 b a w;simpa using this
     .rw[Ao b]at h;cases h
   .rw[Ao q]at h;cases h
 .rw[Ao g]at h;cases h
def F6 (l:List Af) (r:List Bool):List Af:=((l.zip r).filter λp=>!p.2).map (·.1)
def Gu (data:List Ai) (t:Af) (c:Int):Option (List Af):=(Jg data t c).map λl=>F6 l (Ea data t.U c)
theorem Xi {c:Int} (h:Jg data t c=some l):(Ea data t.U c).length=l.length:=by obtain⟨x,y,_,g,_,q,rfl,_⟩:=Pc h;unfold Ea;simp only[g,q,C2]
theorem Af1 {a:Af} (g:l[j]? = some a) (h:r[j]? = some b):F6 (l.take (j+1)) (r.take (j+1))=F6 (l.take j) (r.take j)++bif b then [] else [a]:=by unfold F6;have f:=Ec g;have c:=Ec h;rw[Cs g,Cs h,zip_append ζ];cases b <;> simp
theorem Xj (l:List Af) (r:List Bool):(F6 l r).length<=l.length:=by unfold F6;rw[C2];refine Nat.le_trans (length_filter_le _ _) ?_;rw[length_zip];omega
theorem Af2 (f:Szv data) (h:Mi data) (t:Af) (ht:Bx t<=200) (c:Int):W4 data t c=some (okL (Gu data t c)):=by
 unfold W4 Gu;rw[Abk f t ht c,Ad];cases w:Jg data t c with
 | none=>rfl
 | some l=>
  have i:=Xi w;obtain⟨x,y,_,A,_,B,q,_⟩:=Pc w;obtain⟨g,_⟩:=f x (G3 A).2.2.2 y (G3 B).2.2.2;have k:l.length<=6:=(by rw[q];simpa using g);simp only[okL,bnt,Ap,Xh data t.U c h,Ad,Option.map_some];refine F5 (Ea data t.U c) (λj=>((j:Int),F6 (l.take j) ((Ea data t.U c).take j))) (by simp[F6]) ω ?_ ?_
  .intro j b G C u D F;have v:l[j]? = some l[j]:=Bp ω;generalize l[j]=a at v;have s:=Xj (l.take j) ((Ea data t.U c).take j);have:(l.take j).length<=6:=ζ;simp only[u,D,F,Am,Ad,Bn rfl v,Af1 v C];rw[Dy ζ];cases b <;> simp
  .intro u;refine⟨F6 l (Ea data t.U c),?_,rfl⟩;simp only[u];rw[Ik ω,Ik (Nat.le_refl _)];rfl
def I1 (r:List Bool):List Int:=(r.zipIdx.filter λp=>!p.1).map λp=>(p.2:Int)
theorem A5h (h:r[j]? = some b):(r.take (j+1)).zipIdx=(r.take j).zipIdx++[(b,j)]:=by have:=Ec h;rw[Cs h,zipIdx_append];simp;omega
theorem Af3 {c:Int} (h:Gu data t c=some l):(∀a∈l,Bx a<=200)/\∃x,Ag data t.U=some x/\0<=c/\c<x.O.length:=by unfold Gu at h;cases g:Jg data t c with| none=>rw[g]at h;cases h| some m=>rw[g]at h;cases h;obtain⟨x,y,_,v,_,q,_,f⟩:=Pc g;refine⟨λa u=>?_,x,v,(G3 q).1,(G3 q).2.1⟩;unfold F6 at u;obtain⟨p,b,rfl⟩:=mem_map.1 u;exact f _ (of_mem_zip (mem_filter.1 b).1).1
mutual
def Bw:Ah->Nat
 | ⟨_,l⟩=>1+Cd l
def Cd:List Ah->Nat
 | []=>0
 | x::xs=>Bw x+Cd xs
end
theorem Es (t:Ah):Bw t=1+Cd t.K:=by cases t;simp only[Bw]
theorem Kd {l:List Ah} {a:Ah} (h:a∈l):Bw a<=Cd l:=by
 induction l with
 | nil=>cases h
 | cons x xs ih=>
  simp only[Cd];rcases Gc.1 h with rfl|h
  .omega
  .have:=ih h;omega
theorem Pd (l:List Ah):l.length<=Cd l:=by induction l with| nil=>simp| cons x xs ih=>simp only[Cd,D1];have:=Es x;omega
mutual
def Dj (data:List Ai):Ah->Af->Option Nat
 | ⟨n,g⟩,t=>
  if t.G=6 then (if n=0 then Cx data g t.R else none)
  else if t.G=7 then (if 0<=n/\n<=6/\g.length=0 then some n.toNat else none)
  else if t.G=5 then (if n=0 then Fv data g t else none)
  else if n=0/\g.length=0 then some 0 else none
def Cx (data:List Ai):List Ah->List Af->Option Nat
 | [],[]=>some 0
 | i::is,t::g=>(Dj data i t).bind λa=>(Cx data is g).map (a + ·)
 | [],_::_=>none
 | _::_,[]=>none
def Fv (data:List Ai):List Ah->Af->Option Nat
 | [],_=>some 0
 | ⟨n,g⟩::h,t=>(Gu data t n).bind λq=>(Cx data g q).bind λa=>(Fv data h t).map (1+a + ·)
end
variable {m n:Int} {data:List Ai} {d:Nat}
theorem Mj (data:List Ai) (i:Ah) (t:Af):Dj data i t=if t.G=6 then (if i.U=0 then Cx data i.K t.R else none) else if t.G=7 then (if 0<=i.U/\i.U<=6/\i.K.length=0 then some i.U.toNat else none) else if t.G=5 then (if i.U=0 then Fv data i.K t else none) else if i.U=0/\i.K.length=0 then some 0 else none:=by cases i;simp only[Dj]
theorem Uv (data:List Ai) (e:Ah) (es:List Ah) (t:Af):Fv data (e::es) t=(Gu data t e.U).bind λg=>(Cx data e.K g).bind λa=>(Fv data es t).map (1+a + ·):=by cases e;simp only[Fv]
theorem Nb (data:List Ai) (i:Ah) (is:List Ah) (t:Af) (ts:List Af):Cx data (i::is) (t::ts)=(Dj data i t).bind λa=>(Cx data is ts).map (a + ·):=by simp only[Cx]
theorem Ald (data:List Ai):∀(is:List Ah) (ts:List Af),ts.length≠is.length->Cx data is ts=none
 | [],[],h=>absurd rfl h
 | i::is,t::ts,h=>by rw[Nb,Ald data is ts (by simpa using h)];cases Dj data i t <;> rfl
 | [],_::_,_=>by simp only[Cx]
 | _::_,[],_=>by simp only[Cx]
theorem Uw (data:List Ai):∀(es:List Ah) (t:Af) (d:Nat),Fv data es t=some d->es.length<=d
 | [],_,_,_=>ψ
 | e::es,t,d,h=>by
  rw[Uv]at h;cases q:Gu data t e.U with
  | none=>rw[q]at h;cases h
  | some v=>
   rw[q,Ad]at h;cases u:Cx data e.K v with
   | none=>rw[u]at h;cases h
   | some a=>rw[u,Ad]at h;cases g:Fv data es t with| none=>rw[g]at h;cases h| some b=>rw[g]at h;cases h;have:=Uw data es t b g;simp only[D1];omega
def Jr (o:Option Nat):Int:=match o with|some d=>if d<=6 then (d:Int) else -1|none => -1
theorem Qi (h:d<=6):Jr (some d)=d:=by simp[Jr,h]
theorem Ale (h:6<d):Jr (some d) = -1:=by simp only[Jr];rw[Ao ω]
theorem Alf (o:Option Nat):(Jr o = -1/\∀d,o=some d->6<d)\/∃d,o=some d/\d<=6/\Jr o=d:=by
 cases o with
 | none=>exact .inl ⟨rfl,λd h=>by cases h⟩
 | some d=>
  rcases Cf 6 d with h|h
  .exact .inl ⟨Ale h,λe b=>by cases b;exact h⟩
  .exact .inr ⟨d,rfl,h,Qi h⟩
theorem As3 {o:Option Nat} (h:∀d,o=some d->6<d):Jr o = -1:=by cases o with| none=>rfl| some d=>exact Ale (h d rfl)
def Pr (p:Int×Bool) (o:Option Nat):Prop:=(p.2=true/\∃d:Nat,o=some d/\d<=6/\p.1=d)\/(p.2=false/\∀d,o=some d->6<d)
theorem Jz {α:Type} {l:List α} {j:Nat} {x:α} (h:l[j]? = some x):l.drop j=x::l.drop (j+1):=by have g:=Ec h;rw[drop_eq_getElem_cons g];rw[Bp g]at h;rw[Fh h]
theorem A5i (J:Szv data) (L:Mi data):∀k:Nat, (∀(i:Ah) (t:Af),2*Bw i<=k->Bw i<=1048576->Bx t<=200->∃p,R0 k data t i=some p/\Pr p (Dj data i t)) /\ (∀(is:List Ah) (ts:List Af),2*Cd is+1<=k->Cd is<=1048576->(∀t∈ts,Bx t<=200)->∃p,R3 k data ts is=some p/\Pr p (Cx data is ts)):=by
 intro k;induction k with
 | zero=>exact⟨λi t h=>by have:=Es i;omega,λis ts h=>ω⟩
 | succ k ih=>
  obtain⟨X,G⟩:=ih;constructor
  .intro i t hk hi W;have a6:=Es i;have Y:=Pd i.K;rw[R0,Mj];by_cases N:t.G=6
   .simp only[Eh N,Am,As N];by_cases F:i.U=0
    .simp only[G0 F,Ap,As F];obtain⟨p,p1,p2⟩:=G i.K t.R ω ω (λa K=>by have:=Jx K;have:=Jf t;omega);rw[p1];exact⟨p,rfl,p2⟩
    .simp only[F4 F,Am,Ao F];exact⟨_,rfl,.inr ⟨rfl,λd h=>by cases h⟩⟩
   .simp only[C8 N,Ap,Ao N];by_cases M:t.G=7
    .simp only[Eh M,Am,As M];by_cases a1:0<=i.U
     .by_cases a2:i.U<=6
      .by_cases P:i.K.length=0
       .rw[Ar (show i.U>=0 from a1),Ar a2,As ⟨a1,a2,P⟩];exact⟨_,rfl,.inl ⟨by simp[P],i.U.toNat,rfl,ω,ζ⟩⟩
       .rw[Ar (show i.U>=0 from a1),Ar a2,Ao λh=>P h.2.2];exact⟨_,rfl,.inr ⟨C8 ω,λd h=>by cases h⟩⟩
      .rw[Ar (show i.U>=0 from a1),A3 a2,Ao λh=>a2 h.2.1];exact⟨_,rfl,.inr ⟨rfl,λd h=>by cases h⟩⟩
     .rw[A3 (show ¬i.U>=0 from a1),Ao λh=>a1 h.1];exact⟨_,rfl,.inr ⟨rfl,λd h=>by cases h⟩⟩
    .simp only[C8 M,Ap,Ao M];by_cases R:t.G=5
     .simp only[Eh R,Am,As R];by_cases F:i.U=0
      .simp only[G0 F,Ap,As F];have T:∀(m j w:Nat),j+m=i.K.length->w<=6->∃z,Ak (S:=(Int×Int)) (E:=((Int×Bool)⊕Int)) (λ(v8,v9)=>
         bif v9<(i.K.length:Int) then ((Ag i.K v9).bind λH=> (W4 data t H.U).bind λa0=> bif (!a0.2) then some (.inr (.inl (0,false))) else ((R3 k data a0.1 H.K).bind λA=> bif (!A.2) then some (.inr (.inl (0,false))) else (bif (Ac (v8+(Ac (1+A.1))))>(6:Int) then some (.inr (.inl (0,false))) else some (.inl ((Ac (v8+(Ac (1+A.1)))),(Ac (v9+1))))))) else some (.inr (.inr v8))) ((w:Int),(j:Int))=some z/\(match z with|.inl p=>p=(0,false)/\∀d,(Fv data (i.K.drop j) t).map (w + ·)=some d->6<d | .inr v=>∃d:Nat,(Fv data (i.K.drop j) t).map (w + ·)=some d/\d<=6/\v=d):=by
        intro m;induction m with
        | zero=>intro j w hj f;have:j=i.K.length:=ω;subst this;exact⟨.inr (w:Int),F0 ψ,w,by simp[Fv],f,rfl⟩
        | succ m s=>
         intro j w hj f;have c:i.K[j]? = some i.K[j]:=Bp ω;generalize i.K[j]=e at c;have Z:=Kd (Bv c);have a7:=Es e;rw[Jz c,Uv];cases hp:Gu data t e.U with
         | none=>refine⟨.inl (0,false),F0 ?_,rfl,λd h=>by simp at h⟩;simp only[Ar (ω:(j:Int)<(i.K.length:Int)),Am,Bn rfl c,Ad,Af2 J L t W e.U,hp,okL,Bool.not_false]
         | some ts=>
          obtain⟨q,D,g⟩:=G e.K ts ω ω (Af3 hp).1;rcases g with⟨g,a,x,q4,V⟩|⟨g,x⟩
          .have U:Ac ((w:Int)+Ac (1+q.1))=((w+(1+a):Nat):Int):=(by rw[V,show Ac (1+(a:Int))=((1+a:Nat):Int) by rw[Ac,Ci] <;> omega,Ac,Ci] <;> omega);by_cases hb:w+(1+a)<=6
           .obtain⟨z,l,C⟩:=s (j+1) (w+(1+a)) ω hb;refine⟨z,?_,?_⟩
            .rw[Lg (s':=(((w+(1+a):Nat):Int),((j+1:Nat):Int)))]
             .exact l
             .simp only[Ar (ω:(j:Int)<(i.K.length:Int)),Am,Bn rfl c,Ad,Af2 J L t W e.U,hp,okL,bnt,Ap,D,g,U,A3 (ω:¬((w+(1+a):Nat):Int)>6),C3 (show j<i.K.length by omega) ω]
            .have B:∀o:Option Nat,(((some a:Option Nat).bind λa=>o.map (1+a + ·)).map (w + ·))=o.map (w+(1+a) + ·):=(by intro o;cases o <;> simp[Nat.add_assoc]);rw[Ad,x,B];exact C
           .refine⟨.inl (0,false),F0 ?_,rfl,λd h=>?_⟩
            .simp only[Ar (ω:(j:Int)<(i.K.length:Int)),Am,Bn rfl c,Ad,Af2 J L t W e.U,hp,okL,bnt,Ap,D,g,U,Ar (ω:((w+(1+a):Nat):Int)>6)]
            .rw[Ad,x,Ad]at h;cases y:Fv data (i.K.drop (j+1)) t with| none=>rw[y]at h;cases h| some b=>rw[y]at h;simp at h;omega
          .refine⟨.inl (0,false),F0 ?_,rfl,λd h=>?_⟩
           .simp only[Ar (ω:(j:Int)<(i.K.length:Int)),Am,Bn rfl c,Ad,Af2 J L t W e.U,hp,okL,bnt,Ap,D,g,Bool.not_false]
           .rw[Ad]at h;cases K:Cx data e.K ts with
            | none=>rw[K]at h;cases h
            | some a=>rw[K,Ad]at h;have:=x a K;cases y:Fv data (i.K.drop (j+1)) t with| none=>rw[y]at h;cases h| some b=>rw[y]at h;simp at h;omega
       obtain⟨z,l,C⟩:=T i.K.length 0 0 ω ω;have l:Ak _ ((0:Int),(0:Int))=some z:=l;rw[l,Ad];have B:∀o:Option Nat,o.map (0 + ·)=o:=(by intro o;cases o <;> simp);rw[drop_zero,B]at C
       match z,C with| .inl p,C=>exact⟨_,rfl,.inr ⟨by rw[C.1],C.2⟩⟩| .inr v,C=>obtain⟨d,d1,d2,d3⟩:=C;exact⟨_,rfl,.inl ⟨rfl,d,d1,d2,d3⟩⟩
      .simp only[F4 F,Am,Ao F];exact⟨_,rfl,.inr ⟨rfl,λd h=>by cases h⟩⟩
     .simp only[C8 R,Ap,Ao R];by_cases F:i.U=0
      .simp only[Eh F,Am];by_cases P:i.K.length=0
       .rw[As ⟨F,P⟩];exact⟨_,rfl,.inl ⟨by simp[P],0,rfl,ω,rfl⟩⟩
       .rw[Ao λh=>P h.2];exact⟨_,rfl,.inr ⟨C8 ω,λd h=>by cases h⟩⟩
      .simp only[C8 F,Ap];rw[Ao λh=>F h.1];exact⟨_,rfl,.inr ⟨rfl,λd h=>by cases h⟩⟩
  .intro is ts hk hi W;have Y:=Pd is;rw[R3];by_cases hl:ts.length=is.length
   .rw[G0 ω];simp only[Ap];have T:∀(m j w:Nat),j+m=is.length->w<=6*j->∃z,Ak (S:=(Int×Int)) (E:=((Int×Bool)⊕Int)) (λ(v5,I)=>
      bif I<(ts.length:Int) then ((Ag ts I).bind λv7=> (Ag is I).bind λv9=> (R0 k data v7 v9).bind λH=> bif (!H.2) then some (.inr (.inl (0,false))) else some (.inl ((Ac (v5+H.1)),(Ac (I+1))))) else some (.inr (.inr v5))) ((w:Int),(j:Int))=some z/\(match z with|.inl p=>p=(0,false)/\∀d,(Cx data (is.drop j) (ts.drop j)).map (w + ·)=some d->6<d | .inr v=>∃d:Nat,(Cx data (is.drop j) (ts.drop j)).map (w + ·)=some d/\v=d):=by
     intro m;induction m with
     | zero=>intro j w hj f;have:j=ts.length:=ω;subst this;refine⟨.inr (w:Int),F0 ψ,w,?_,rfl⟩;rw[drop_of_length_le ω,drop_of_length_le ω];simp[Cx]
     | succ m s=>
      intro j w hj f;have c:is[j]? = some is[j]:=Bp ω;generalize is[j]=e at c;have hu:ts[j]? = some ts[j]:=Bp ω;generalize ts[j]=u at hu;have Z:=Kd (Bv c);rw[Jz c,Jz hu,Nb];obtain⟨q,D,g⟩:=X e u ω ω (W u (Bv hu));rcases g with⟨g,a,x,q4,V⟩|⟨g,x⟩
      .have U:Ac ((w:Int)+q.1)=((w+a:Nat):Int):=(by rw[V,Ac,Ci] <;> omega);obtain⟨z,l,C⟩:=s (j+1) (w+a) ω ω;refine⟨z,?_,?_⟩
       .rw[Lg (s':=(((w+a:Nat):Int),((j+1:Nat):Int)))]
        .exact l
        .simp only[Ar (ω:(j:Int)<(ts.length:Int)),Am,Bn rfl c,Bn rfl hu,Ad,bnt,Ap,D,g,U,C3 (show j<is.length by omega) ω]
       .have B:∀o:Option Nat,(((some a:Option Nat).bind λa=>o.map (a + ·)).map (w + ·))=o.map (w+a + ·):=(by intro o;cases o <;> simp[Nat.add_assoc]);rw[x,B];exact C
      .refine⟨.inl (0,false),F0 ?_,rfl,λd h=>?_⟩
       .simp only[Ar (ω:(j:Int)<(ts.length:Int)),Am,Bn rfl c,Bn rfl hu,Ad,D,g,Bool.not_false]
       .cases K:Dj data e u with
        | none=>rw[K]at h;cases h
        | some a=>rw[K,Ad]at h;have:=x a K;cases y:Cx data (is.drop (j+1)) (ts.drop (j+1)) with| none=>rw[y]at h;cases h| some b=>rw[y]at h;simp at h;omega
    obtain⟨z,l,C⟩:=T is.length 0 0 ω ω;have l:Ak _ ((0:Int),(0:Int))=some z:=l;rw[l,Ad];have B:∀o:Option Nat,o.map (0 + ·)=o:=(by intro o;cases o <;> simp);rw[drop_zero,drop_zero,B]at C
    match z,C with
    | .inl p,C=>exact⟨_,rfl,.inr ⟨by rw[C.1],C.2⟩⟩
    | .inr v,C=>
     obtain⟨d,d1,d3⟩:=C;by_cases hd:d<=6
     .exact⟨_,rfl,.inl ⟨Ar ω,d,d1,hd,d3⟩⟩
     .exact⟨_,rfl,.inr ⟨A3 ω,λe c=>by rw[d1]at c;cases c;omega⟩⟩
   .rw[F4 ω,Ald data is ts hl];exact⟨_,rfl,.inr ⟨rfl,λd h=>by cases h⟩⟩
theorem Hu.cons8 (h:Hu data):∀x∈data,x.O.length<=8:=by intro x hx;obtain⟨d,hd⟩:=Hh hx;exact (h.2.1 d x hd).2.2.2.1
def E5 (n:Int):Prop:= -9223372036854775808<=n/\n<=9223372036854775807
def ti (n:Int):List Int:=(Lib.itoa n).map λc=>(c.toNat:Int)
def Qj (c:Int):Bool:=c==45||(decide (48<=c)&&decide (c<=57))
theorem Xk (h:d<10):(UInt8.ofNat (48+d)).toNat=48+d:=by rw[UInt8.toNat_ofNat'];omega
theorem Af4:∀(n u:Nat),u<=n->∀c∈Lib.decDigits u,48<=c.toNat/\c.toNat<=57:=by
 intro n;induction n with
 | zero=>intro u q c g;rw[Lib.decDigits,dif_pos ω]at g;simp only[D4]at g;subst g;rw[Xk ω];omega
 | succ n ih=>
  intro u q c g;rw[Lib.decDigits]at g;split at g
  .simp only[D4]at g;subst g;rw[Xk ω];omega
  .rcases Ef.1 g with h|h
   .exact ih (u / 10) ω c h
   .simp only[D4]at h;subst h;rw[Xk ω];omega
def Af5 (l:List UInt8):Nat:=l.foldl (λa c=>10*a+(c.toNat-48)) 0
theorem As4:∀(n u:Nat),u<=n->Af5 (Lib.decDigits u)=u:=by
 intro n;induction n with
 | zero=>intro u g;rw[Lib.decDigits,dif_pos ω];simp only[Af5,foldl_cons,foldl_nil];rw[Xk ω];omega
 | succ n ih=>
  intro u g;rw[Lib.decDigits];split
  .simp only[Af5,foldl_cons,foldl_nil];rw[Xk ω];omega
  .have:=ih (u / 10) ω;unfold Af5 at *;rw[foldl_append,this];simp only[foldl_cons,foldl_nil];rw[Xk ω];omega
theorem As5 {u v:Nat} (h:Lib.decDigits u=Lib.decDigits v):u=v:=by rw[<-As4 u u (Nat.le_refl _),h,As4 v v (Nat.le_refl _)]
theorem A5j (u:Nat):Lib.decDigits u≠[]:=by rw[Lib.decDigits];split <;> simp
theorem A5k (h:Lib.itoa m=Lib.itoa n):m=n:=by
 have b:∀u v:Nat,45::Lib.decDigits u≠Lib.decDigits v:=by intro u v e;have:=Af4 v v (Nat.le_refl _) 45 (by rw[<-e];simp);exact absurd this δ
 unfold Lib.itoa at h;split at h <;> split at h
 .have:=As5 (List.cons.inj h).2;omega
 .exact absurd h (b _ _)
 .exact absurd h.symm (b _ _)
 .have:=As5 h;omega
theorem Jh (n:Int):∀c∈ti n,Qj c=true:=by
 intro c u;unfold ti at u;obtain⟨b,g,rfl⟩:=mem_map.1 u;have q:b=45\/(48<=b.toNat/\b.toNat<=57):=by
  unfold Lib.itoa at g;split at g
  .rcases Gc.1 g with h|h
   .exact .inl h
   .exact .inr (Af4 _ _ (Nat.le_refl _) b h)
  .exact .inr (Af4 _ _ (Nat.le_refl _) b g)
 unfold Qj;rcases q with rfl|⟨v,w⟩
 .decide
 .rw[Bool.or_eq_true,Cz,Ds,Ds];right;omega
theorem Af6 (n:Int):ti n≠[]:=by
 unfold ti Lib.itoa;split
 .simp
 .simpa using A5j _
theorem Ux (h:ti m=ti n):m=n:=by
 unfold ti at h;have:∀l m:List UInt8,l.map (λc=>(c.toNat:Int))=m.map (λc=>(c.toNat:Int))->l=m:=by
  intro l;induction l with
  | nil=>intro m h;cases m with|nil=>rfl|cons=>simp at h
  | cons x xs ih=>intro m h;cases m with| nil=>simp at h| cons y g=>simp only[map_cons,List.cons.injEq]at h;rw[ih g h.2,UInt8.toNat.inj (ω:x.toNat=y.toNat)]
 exact A5k (this _ _ h)
theorem Oa (h:E5 n):(ti n).length<=21:=by unfold ti;rw[C2];exact Lib.itoa_length_le n h.1 h.2
def Sg (X:List Int):Prop:=∀c m,X=c::m->Qj c=false/\c≠40
def Mk (X:List Int):Prop:=∀c m,X=c::m->Qj c=false
theorem Qk:∀(a b X Y:List Int),(∀c∈a,Qj c=true)->(∀c∈b,Qj c=true)->Mk X->Mk Y->a++X=b++Y->a=b/\X=Y
 | [],[],_,_,_,_,_,_,h=>⟨rfl,h⟩
 | [],y::b,X,Y,_,q,g,_,h=>by have:=g y (b++Y) h;rw[q y ψ]at this;cases this
 | x::a,[],X,Y,u,_,_,f,h=>by have:=f x (a++X) h.symm;rw[u x ψ]at this;cases this
 | x::a,y::b,X,Y,u,q,g,f,h=>by simp only[D0,List.cons.injEq]at h;obtain⟨j,i⟩:=Qk a b X Y (λc v=>u c (by simp[v])) (λc v=>q c (by simp[v])) g f h.2;exact⟨by rw[h.1,j],i⟩
mutual
def wx:Ah->List Int
 | ⟨n,g⟩=>ti n++(if g.length=0 then [] else 40::(wxs g++[41]))
def wxs:List Ah->List Int
 | []=>[]
 | x::xs=>wx x++44::wxs xs
end
theorem Af7 (i:Ah):wx i=ti i.U++(if i.K.length=0 then [] else 40::(wxs i.K++[41])):=by cases i;simp only[wx]
theorem As6 (l m:List Ah):wxs (l++m)=wxs l++wxs m:=by induction l with| nil=>simp[wxs]| cons x xs ih=>simp only[D0,wxs,ih,append_assoc]
theorem As7 (b:List Ah) (X:List Int) (f:Sg X):Mk ((if b.length=0 then [] else 40::(wxs b++[41]))++X):=by
 intro c m h;by_cases g:b.length=0
 .rw[As g,nil_append]at h;exact (f c m h).1
 .rw[Ao g,D0]at h;cases h;decide
theorem As8 (X:List Int):Sg (44::X):=by intro c m h;cases h;exact⟨δ,δ⟩
theorem Af8:Sg []:=by intro c m h;cases h
mutual
theorem Af9:∀(i j:Ah) (X Y:List Int),Sg X->Sg Y->wx i++X=wx j++Y->i=j/\X=Y
 | ⟨n,k⟩,⟨C,v⟩,X,Y,w,A,h=>by
  simp only[wx,append_assoc]at h
  obtain⟨B,q⟩:=Qk _ _ _ _ (Jh n) (Jh C) (As7 k X w) (As7 v Y A) h
  have B:=Ux B
  subst B
  by_cases u:k.length=0
  .by_cases g:v.length=0
   .rw[As u,As g]at q
    rw[F3.1 u,F3.1 g]
    exact⟨rfl,q⟩
   .rw[As u,Ao g,nil_append,D0]at q
    exact absurd rfl (w _ _ q).2
  .by_cases g:v.length=0
   .rw[Ao u,As g,nil_append,D0]at q
    exact absurd rfl (A _ _ q.symm).2
   .rw[Ao u,Ao g,D0,D0,append_assoc,append_assoc]at q
    obtain⟨D,F⟩:=As9 k v X Y w A (List.cons.inj q).2
    rw[D];exact⟨rfl,F⟩
theorem As9:∀(l m:List Ah) (X Y:List Int),Sg X->Sg Y->wxs l++([41]++X)=wxs m++([41]++Y)->l=m/\X=Y
 | [],[],X,Y,_,_,h=>by
  simp only[wxs,nil_append,D0,List.cons.injEq,true_and]at h
  exact⟨rfl,h⟩
 | [],y::u,X,Y,_,_,h=>by
  exfalso
  cases g:ti y.U with
  | nil=>exact Af6 _ g
  | cons c r=>
   have q:=Jh y.U c (by rw[g];simp)
   simp only[wxs,Af7 y,g,nil_append,D0,List.cons.injEq]at h
   rw[<-h.1]at q;exact absurd q δ
 | x::xs,[],X,Y,_,_,h=>by
  exfalso
  cases g:ti x.U with
  | nil=>exact Af6 _ g
  | cons c r=>
   have q:=Jh x.U c (by rw[g];simp)
   simp only[wxs,Af7 x,g,nil_append,D0,List.cons.injEq]at h
   rw[h.1]at q;exact absurd q δ
 | x::xs,y::u,X,Y,v,w,h=>by
  simp only[wxs,append_assoc,D0]at h
  obtain⟨A,B⟩:=Af9 x y _ _ (As8 _) (As8 _) h
  obtain⟨C,D⟩:=As9 xs u X Y v w (by simpa using B)
  exact⟨by rw[A,C],D⟩
end
mutual
def iR:Ah->Prop
 | ⟨n,l⟩=>E5 n/\Fc l
def Fc:List Ah->Prop
 | []=>True
 | x::xs=>iR x/\Fc xs
end
theorem Pe (i:Ah):iR i↔E5 i.U/\Fc i.K:=by cases i;simp only[iR]
theorem Alg {l:List Ah} (h:Fc l) {a:Ah} (g:a∈l):iR a:=by
 induction l with
 | nil=>cases g
 | cons x xs ih=>
  simp only[Fc]at h;rcases Gc.1 g with rfl|g
  .exact h.1
  .exact ih h.2 g
mutual
theorem Alh:∀i:Ah,iR i->(wx i).length+1<=24*Bw i
 | ⟨n,l⟩,h=>by
  simp only[iR]at h
  have q:=Aga l h.2
  have u:=Oa h.1
  simp only[wx,Bw,Ep]
  by_cases g:l.length=0
  .rw[As g];simp;omega
  .rw[Ao g];simp;omega
theorem Aga:∀l:List Ah,Fc l->(wxs l).length<=24*Cd l
 | [],_=>by simp[wxs,Cd]
 | x::xs,h=>by
  simp only[Fc]at h
  have g:=Alh x h.1
  have q:=Aga xs h.2
  have u:=Es x
  simp only[wxs,Cd,Ep,D1];omega
end
theorem Uy (l m:List Ah):Cd (l++m)=Cd l+Cd m:=by induction l with| nil=>simp[Cd]| cons x xs ih=>simp only[D0,Cd,ih];omega
theorem Ali (l m:List Ah):Fc (l++m)↔Fc l/\Fc m:=by induction l with| nil=>simp[Fc]| cons x xs ih=>simp only[D0,Fc,ih,and_assoc]
theorem Alj {n:Int} (h:E5 n):Pu n=some ⟨(Lib.itoa n).toArray⟩:=by unfold Pu;rw[As (show _/\_ from h)]
theorem A5l (n:Int):Ns ⟨(Lib.itoa n).toArray⟩=ti n:=by unfold Ns ti;simp
theorem Ata:∀(k:Nat) (i:Ah) (b:List Int),Bw i<=k->iR i->b.length+24*Bw i<=1099511627776->O2 k i b=some (b++wx i):=by
 intro k;induction k with
 | zero=>intro i b h;have:=Es i;omega
 | succ k ih=>
  intro i b h c H;have I:=Es i;have z:=Pd i.K;have c:=(Pe i).1 c;have B:=Oa c.1;rw[O2,Af7];simp only[Jb,Alj c.1,Ad,Hj,Xa,A5l];rw[Dy ω];simp only[Ad];by_cases w:i.K.length=0
  .rw[A3 ω,As w];simp
  .rw[Ar ω,Ao w];simp only[Am,M6,Xa,Ad];rw[Dy ζ,Ad];have g:=Aga i.K c.2;have l:∀j,(wxs (i.K.take j)).length<=24*Cd i.K:=λj=>by have:=As6 (i.K.take j) (i.K.drop j);rw[take_append_drop]at this;rw[this,Ep]at g;omega
   refine F5 i.K (λj=>((j:Int),b++ti i.U++[40]++wxs (i.K.take j))) (by simp[wxs]) ω ?_ ?_
   .intro j x K v C F G;have A:=Kd (Bv v);have f:=Alg c.2 (Bv v);have y:=Alh x f;have D:=l (j+1);have e:wxs (i.K.take (j+1))=wxs (i.K.take j)++(wx x++[44]):=(by rw[Cs v,As6];simp[wxs]);rw[e]at D;simp only[Ep,D1,length_nil]at D;simp only[C,F,G,Am,Ad];have u:Cd (i.K.take j)+Bw x<=Cd i.K:=(by have q:=Uy (i.K.take (j+1)) (i.K.drop (j+1));rw[take_append_drop,Cs v,Uy]at q;simp only[Cd]at q;omega);have s:(wxs (i.K.take j)).length<=24*Cd (i.K.take j):=Aga _ (by have:=(Ali (i.K.take j) (i.K.drop j)).1 (by rw[take_append_drop];exact c.2);exact this.1);rw[ih x _ ω f ζ];simp only[Ad];rw[Dy ζ,e];simp
   .intro C;refine⟨b++ti i.U++[40]++wxs i.K,ψ,?_⟩;rw[Dy ζ];simp
def K9 (v:Int) (i:Ah):List Int:=118::(ti v++58::wx i)
def Pf (v:Int) (i:Ah):ByteArray:=⟨(Fk (K9 v i)).toArray⟩
mutual
theorem Alk:∀i:Ah,∀c∈wx i,0<=c/\c<256
 | ⟨n,l⟩,c,h=>by
  simp only[wx,Ef]at h
  rcases h with h|h
  .have:=Jh n c h
   simp only[Qj,Bool.or_eq_true,Cz,beq_iff_eq,Ds]at this
   omega
  .by_cases g:l.length=0
   .rw[As g]at h;cases h
   .rw[Ao g]at h
    simp only[Gc,Ef,not_mem_nil,or_false]at h
    rcases h with h|h|h
    .omega
    .exact Atb l c h
    .omega
theorem Atb:∀l:List Ah,∀c∈wxs l,0<=c/\c<256
 | [],c,h=>by simp[wxs]at h
 | x::xs,c,h=>by
  simp only[wxs,Ef,Gc]at h
  rcases h with h|h|h
  .exact Alk x c h
  .omega
  .exact Atb xs c h
end
theorem Agb (v:Int) (i:Ah):∀c∈K9 v i,0<=c/\c<256:=by
 intro c h;simp only[K9,Gc,Ef]at h;rcases h with h|h|h|h
 .omega
 .have:=Jh v c h;simp only[Qj,Bool.or_eq_true,Cz,beq_iff_eq,Ds]at this;omega
 .omega
 .exact Alk i c h
theorem All:∀l m:List Int,(∀c∈l,0<=c/\c<256)->(∀c∈m,0<=c/\c<256)->Fk l=Fk m->l=m
 | [],[],_,_,_=>rfl
 | [],_::_,_,_,h=>by simp[Fk]at h
 | _::_,[],_,_,h=>by simp[Fk]at h
 | x::xs,y::v,q,u,h=>by simp only[Fk,map_cons,List.cons.injEq]at h;have w:=q x ψ;have A:=u y ψ;have e:x.toNat=y.toNat:=(by have:=congrArg UInt8.toNat h.1;rw[UInt8.toNat_ofNat',UInt8.toNat_ofNat']at this;omega);rw[All xs v (λc g=>q c (by simp[g])) (λc g=>u c (by simp[g])) h.2,show x=y by omega]
theorem A5m {v w:Int} {i j:Ah} (h:Pf v i=Pf w j):v=w/\i=j:=by
 unfold Pf at h;have u:(Fk (K9 v i)).toArray=(Fk (K9 w j)).toArray:=by injection h
 have A:Fk (K9 v i)=Fk (K9 w j):=by simpa using congrArg Array.toList u
 have q:=All _ _ (Agb v i) (Agb w j) A;simp only[K9,List.cons.injEq,true_and]at q;have b:∀X:List Int,Mk (58::X):=λX c m e=>by cases e;decide
 obtain⟨k,g⟩:=Qk _ _ _ _ (Jh v) (Jh w) (b _) (b _) q;obtain⟨f,_⟩:=Af9 i j [] [] Af8 Af8 (by simpa using (List.cons.inj g).2);exact⟨Ux k,f⟩
theorem A5n (l:List UInt8):Ns ⟨l.toArray⟩=l.map λb=>(b.toNat:Int):=by unfold Ns;simp
theorem Agc (v:Int) (i:Ah) (q:E5 v) (f:iR i) (u:Bw i<=1048576):Md v i=some (Pf v i):=by
 have k:=Oa q;have c:(Lib.itoa v).length=(ti v).length:=by unfold ti;simp
 unfold Md;have j:Gm (ByteArray.mk #[118]) ⟨(Lib.itoa v).toArray⟩=some ⟨(118::Lib.itoa v).toArray⟩:=by
  unfold Gm;rw[As]
  .congr 1
  .show 1+(Lib.itoa v).toArray.size<=9223372036854775807;rw[size_toArray];omega
 have h:Gm ⟨(118::Lib.itoa v).toArray⟩ (ByteArray.mk #[58])=some ⟨(118::(Lib.itoa v++[58])).toArray⟩:=by
  unfold Gm;rw[As]
  .congr 1
  .show (118::Lib.itoa v).toArray.size+1<=9223372036854775807;rw[size_toArray,D1];omega
 simp only[Jb,Alj q,Ad,j,h,Kb,Aag,A5n];rw[Dy ζ];simp only[Ad];rw[Ata 4000000 i _ ω f ζ];simp only[Ad,Lw];have g:([]++(118::(Lib.itoa v++[58])).map λb=>(b.toNat:Int))++wx i=K9 v i:=by unfold K9 ti;simp
 rw[g];unfold Yy Pf;rw[As (Agb v i)];rfl
end Go.Ab
