/- Plain laws. -/
import Derived.Test.YtdifpebphbblaaaGreatDoorMnDef
open List
namespace Go.Ab
open Go
variable {i:Nat} {c:Prop} {E R S:Type} {α:Type _} {J:E->Option R} {l s t:List α} {X:Option (S⊕E)} {a b e:α}
theorem Ag {α β:Type} (a:α) (f:α->Option β):(some a).bind f=f a:=rfl
theorem Cs {α:Type} {l:List α} (h:i<l.length):l[i]? = some l[i]:=getElem?_eq_getElem h
theorem B4 {α:Type} {l:List α} {a:α} (h:l[i]? = some a):a∈l:=mem_of_getElem? h
theorem Dt (a b:Bool):((a&&b)=true)=(a=true/\b=true):=Bool.and_eq_true a b
theorem Dn:(!true)=false:=rfl
theorem Am (a b:α):(bif true then a else b)=a:=rfl
theorem Av (a b:α):(bif false then a else b)=b:=rfl
theorem E8 {p:Prop} [Decidable p]:(decide p=true)=p:=decide_eq_true_eq
theorem Bb {h:Decidable c} (g:¬c) {t:α}:(if c then t else e)=e:=if_neg g
theorem Bc {h:Decidable c} (g:c) {t:α}:(if c then t else e)=t:=if_pos g
theorem C9 (a b:Nat):a<b\/a>=b:=Nat.lt_or_ge a b
theorem Dr:l.take l.length=l:=take_length
theorem Iy (h:l.length<=i):l.take i=l:=take_of_length_le h
theorem F9:l.length=0↔l = []:=length_eq_zero_iff
theorem Kz (h:a∈l):∃i:Nat,l[i]? = some a:=getElem?_of_mem h
theorem H7 {p:α->Bool}:l.all p=true↔∀x,x∈l->p x=true:=all_eq_true
theorem Fi:a∈s++t↔a∈s\/a∈t:=mem_append
theorem Er {β:Type _} (f:α->β):(l.map f).length=l.length:=length_map f
theorem Fe (h:some a=some b):a=b:=Option.some.inj h
theorem G2:a::s++t=a::(s++t):=rfl
theorem Fx:a∈[b]↔a=b:=mem_singleton
theorem Iq:a∈b::l↔a=b\/a∈l:=mem_cons
theorem Hj:(a::l).length=l.length+1:=rfl
theorem Ew:(s++t).length=s.length+t.length:=length_append
theorem Qk (h:l.length<=i):l[i]? = none:=getElem?_eq_none h
theorem Kb {step:S->Option (S⊕E)} {s:S} {r:R} (c:S->Prop) (m:S->Nat) (b:E->Prop) (h0:c s) (f:∀s,c s->(∃g,step s=some (.inl g)/\c g/\m g < m s)\/(∃e,step s=some (.inr e)/\b e)) (i:∀e,b e->J e=some r):(Ak step s).bind J=some r:=by obtain⟨e,h,q⟩:=Rs c m b f s h0;rw[h];exact i e q
theorem F4 {step:S->Option (S⊕E)} {s:S} {Q:R->Prop} (c:S->Prop) (m:S->Nat) (b:E->Prop) (h0:c s) (f:∀s,c s->(∃g,step s=some (.inl g)/\c g/\m g < m s)\/(∃e,step s=some (.inr e)/\b e)) (i:∀e,b e->∃r,J e=some r/\Q r):∃r,(Ak step s).bind J=some r/\Q r:=by obtain⟨e,h,q⟩:=Rs c m b f s h0;rw[h];exact i e q
theorem Ala {Q:S->Prop} (h:∃r,X=some r/\∃g,r = .inl g/\Q g):∃g,X=some (.inl g)/\Q g:=by obtain⟨r,q,g,rfl,u⟩:=h;exact⟨g,q,u⟩
theorem Ave {Q:E->Prop} (h:∃r,X=some r/\∃e,r = .inr e/\Q e):∃e,X=some (.inr e)/\Q e:=by obtain⟨r,g,q,rfl,u⟩:=h;exact⟨q,g,u⟩
theorem Aek {A:Type} {X:Option R} (f:A->R) {Q:A->Prop} (h:∃r,X=some r/\∃a,r=f a/\Q a):∃a,X=some (f a)/\Q a:=by obtain⟨r,g,a,rfl,q⟩:=h;exact⟨a,g,q⟩
variable {a b f i:Int} {c n:Nat} {p:Prop} {α:Type} {l:List α} {z:α}
theorem Avf {A R:Type} {X:Option A} {f g:A->Option R} (h:∀a,f a=g a):X.bind f=X.bind g:=by have:f=g:=funext h;rw[this]
theorem Ael {β:Type} {c:Prop} [Decidable c] (a b:Option α) (f:α->Option β):(if c then a else b).bind f=if c then a.bind f else b.bind f:=by split <;> rfl
theorem B6 {n:Int} (g : -9223372036854775808<=n) (h:n<=9223372036854775807):IntKind.i64.wrap n=n:=by
 have e:IntKind.i64.wrap n=if 9223372036854775808<=n % 18446744073709551616 then n % 18446744073709551616-18446744073709551616 else n % 18446744073709551616:=by simp[IntKind.wrap,IntKind.bits,IntKind.signed]
 rw[e];split <;> omega
theorem E4 {n:Int} (g:0<=n) (h:n<=18446744073709551615):IntKind.u64.wrap n=n:=by
 have e:IntKind.u64.wrap n=n % 18446744073709551616:=by simp[IntKind.wrap,IntKind.bits,IntKind.signed]
 rw[e];omega
theorem H8 {n:Int} (g:0<=n) (h:n<=4294967295):IntKind.u32.wrap n=n:=by
 have e:IntKind.u32.wrap n=n % 4294967296:=by simp[IntKind.wrap,IntKind.bits,IntKind.signed]
 rw[e];omega
theorem Gn (hi:i=n) (h:n<l.length):Af l i=some l[n]:=by subst hi;simp[Af,h]
theorem Cp {x:α} (hi:i=n) (h:l[n]? = some x):Af l i=some x:=by subst hi;simp[Af,h]
theorem Ir (hi:i=n) (x:α):Bk l i x=l.set n x:=by subst hi;simp[Bk]
theorem Cy {b:Nat} {xs ys:List α} (h:(xs.length+ys.length)*b<=140737488355328):Bl b xs ys=some (xs++ys):=by simp[Bl,h]
theorem Ql {b:Nat} {len:Int} (g:len=n) (h:f=c) (v:n<=c) (i:b*c<=281474976710656) (j:c<=140737488355328):F2 b len f z=some (replicate n z):=by subst g;subst h;have w:(0:Int)<=(n:Int):=ω;have q:(n:Int)<=(c:Int):=ω;have u:(c:Int)<=140737488355328:=ω;simp[F2,q,u,i]
theorem Aem {b:Nat} (g:f=c) (j:b*c<=281474976710656) (i:c<=140737488355328):F2 b 0 f z=some []:=by exact Ql (len:=0) (n:=0) (c:=c) rfl g ω j i
theorem Da (h:a≠b):(a==b)=false:=by simpa using h
theorem E5 (h:a=b):(a==b)=true:=by simpa using h
theorem D2 (h:a≠b):(a != b)=true:=by simpa using h
theorem D3 (h:a=b):(a != b)=false:=by simpa using h
theorem Ap [Decidable p] (h:p):decide p=true:=decide_eq_true h
theorem Ax [Decidable p] (h:¬p):decide p=false:=decide_eq_false h
theorem Zo {hi:Int} (h:hi=n) (b:n<=l.length):Gk l 0 hi=some (l.take n):=by subst h;have:(n:Int)<=(l.length:Int):=ω;simp[Gk,this]
theorem Mn (g:0<=a) (hb:0<b):Ho a b=some (a % b):=by have:b≠0:=ω;simp[Ho,this,Int.tmod_eq_emod_of_nonneg g]
theorem Nr (g:0<=a) (c:a<=18446744073709551615) (hb:0<b):G0 .u64 a b=some (a / b):=by have:b≠0:=ω;have h:0<=a / b:=Int.ediv_nonneg g ω;have q:a / b<=a:=Int.ediv_le_self _ g;simp[G0,this,Int.tdiv_eq_ediv_of_nonneg g];exact E4 h ω
theorem Alb (g:0<=a) (c:a<=4294967295) (hb:0<b):G0 .u32 a b=some (a / b):=by have:b≠0:=ω;have h:0<=a / b:=Int.ediv_nonneg g ω;have q:a / b<=a:=Int.ediv_le_self _ g;simp[G0,this,Int.tdiv_eq_ediv_of_nonneg g];exact H8 h ω
def As:List Int->Int
 | []=>0
 | d::l=>d+1000000000*As l
def Cf (l:List Int):Prop:=∀d∈l,0<=d/\d<1000000000
def O0 (l:List Int):Prop:=∀d∈l,0<=d/\d<4294967296
def Can (l:List Int):Prop:=Cf l/\∀h:l≠[],l.getLast h≠0
def Al (n:Nat):List Int:=if h:n=0 then [] else ((n % 1000000000:Nat):Int)::Al (n / 1000000000)
termination_by n
decreasing_by exact Nat.div_lt_self ω δ
theorem Hz:Al 0 = []:=by rw[Al];simp
theorem Mo (h:n≠0):Al n=((n % 1000000000:Nat):Int)::Al (n / 1000000000):=by rw[Al];simp[h]
theorem Cf.nil:Cf []:=λ_ h=>by cases h
theorem Cf.append {l m:List Int} (h:Cf l) (h':Cf m):Cf (l++m):=by
 intro d hd;rcases Fi.1 hd with hd|hd
 .exact h d hd
 .exact h' d hd
variable {d:Int} {l:List Int} {i n:Nat}
theorem Cf.one (h:0<=d) (h':d<1000000000):Cf [d]:=by intro x hx;simp at hx;subst hx;exact⟨h,h'⟩
theorem Cf.snoc (h:Cf l) (hd:0<=d) (b:d<1000000000):Cf (l++[d]):=h.append (Cf.one hd b)
theorem Cf.take (h:Cf l) (k:Nat):Cf (l.take k):=λd hd=>h d (mem_of_mem_take hd)
theorem Cf.drop (h:Cf l) (k:Nat):Cf (l.drop k):=λd hd=>h d (mem_of_mem_drop hd)
theorem Cf.get (h:Cf l) (hi:i<l.length):0<=l[i]/\l[i]<1000000000:=h _ (getElem_mem hi)
theorem Cf.set (h:Cf l) (i:Nat) (hd:0<=d) (b:d<1000000000):Cf (l.set i d):=by
 intro x hx;rcases mem_or_eq_of_mem_set hx with hx|rfl
 .exact h x hx
 .exact⟨hd,b⟩
theorem Cf.replicate (n:Nat):Cf (replicate n 0):=by intro d hd;have:=eq_of_mem_replicate hd;subst this;decide
theorem Cf.tail (h:Cf (d::l)):Cf l:=λx hx=>h x (by simp[hx])
theorem Cf.u32 (h:Cf l):O0 l:=λd hd=>by have:=h d hd;omega
theorem Alc (l m:List Int):As (l++m)=As l+1000000000 ^ l.length*As m:=by induction l with| nil=>simp[As]| cons d l ih=>simp only[G2,As,ih,Hj,Int.pow_succ];grind
theorem Ns (l:List Int) (d:Int):As (l++[d])=As l+1000000000 ^ l.length*d:=by rw[Alc];simp[As]
theorem Hq (l:List Int) {k:Nat} (h:k<l.length):As (l.take (k+1))=As (l.take k)+1000000000 ^ k*l[k]:=by rw[take_succ_eq_append_getElem h,Ns];simp[Nat.min_eq_left (Nat.le_of_lt h)]
theorem Ald (n:Nat):As (replicate n 0)=0:=by induction n with| zero=>rfl| succ n ih=>simp[replicate_succ,As,ih]
theorem Mp (l:List Int) (k:Nat) (h:k<=l.length):As l=As (l.take k)+1000000000 ^ k*As (l.drop k):=by have e:=Alc (l.take k) (l.drop k);rw[take_append_drop]at e;rw[e,length_take,Nat.min_eq_left h]
theorem O1 (l:List Int) (h:i<l.length) (d:Int):As (l.set i d)=As l+1000000000 ^ i*(d-l[i]):=by
 induction l generalizing i with
 | nil=>simp at h
 | cons x l ih=>cases i with| zero=>simp[As];omega| succ i=>have g:i<l.length:=(by simpa using h);simp only[set_cons_succ,As,ih g,getElem_cons_succ,Int.pow_succ];grind
theorem Hr (h:O0 l):0<=As l:=by induction l with| nil=>simp[As]| cons d l ih=>have q:=h d ψ;have u:=ih λx g=>h x (by simp[g]);simp only[As];omega
theorem Kc (n:Nat):(0:Int)<1000000000 ^ n:=Int.pow_pos δ
theorem Ju (h:Cf l):As l<1000000000 ^ l.length:=by induction l with| nil=>simp[As]| cons d l ih=>have g:=h d ψ;have q:=ih h.tail;simp only[As,Hj,Int.pow_succ];omega
theorem Hc (n:Nat):As (Al n)=n:=by
 induction n using Nat.strongRecOn with
 | _ n ih=>
  by_cases h:n=0
  .subst h;rw[Hz];rfl
  .rw[Mo h,As,ih (n / 1000000000) (Nat.div_lt_self ω δ)];omega
theorem He (n:Nat):Cf (Al n):=by
 induction n using Nat.strongRecOn with
 | _ n ih=>
  by_cases h:n=0
  .subst h;rw[Hz];exact Cf.nil
  .rw[Mo h];intro d g;simp at g;rcases g with rfl|g
   .omega
   .exact ih (n / 1000000000) (Nat.div_lt_self ω δ) d g
theorem Kd (h:n≠0):Al n≠[]:=by rw[Mo h];simp
theorem Avg (n:Nat):Can (Al n):=by
 refine⟨He n,?_⟩;induction n using Nat.strongRecOn with
 | _ n ih=>
  intro b;have h:n≠0:=λe=>b (by rw[e];exact Hz);have q:=Mo h;by_cases g:n / 1000000000=0
  .have c:Al n = [((n % 1000000000:Nat):Int)]:=(by rw[q,g,Hz]);simp only[c,getLast_singleton];omega
  .have:=ih (n / 1000000000) (Nat.div_lt_self ω δ) (Kd g);simp only[q];rwa [getLast_cons (Kd g)]
theorem Avh (h:Can l):Al (As l).toNat=l:=by induction l with| nil=>exact Hz| cons d l ih=>obtain⟨g,u⟩:=h;have v:=g d ψ;have f:Can l:=(by refine⟨g.tail,λb=>?_⟩;have:=u ψ;rwa [getLast_cons b]at this);have c:=Hr (g.tail).u32;have b:(As (d::l)).toNat≠0:=(by intro e;simp only[As]at e;have q:d=0:=ω;have c:As l=0:=ω;have:l = []:=(by rw[<-ih f,c];exact Hz);subst this;exact u ψ (by simpa using q));rw[Mo b];simp only[As];have j:((d+1000000000*As l).toNat % 1000000000:Nat)=d.toNat:=ω;have i:(d+1000000000*As l).toNat / 1000000000=(As l).toNat:=ω;rw[j,i,ih f];congr 1;omega
theorem Aen (h:Can l) (b:As l=n):l=Al n:=by rw[<-Avh h,b];rfl
def Iz:List Int->List Int
 | []=>[]
 | d::l=>match Iz l with
  | []=>if d=0 then [] else [d]
  | x::m=>d::x::m
theorem Avi (l:List Int):Iz (l++[0])=Iz l:=by induction l with| nil=>rfl| cons d l ih=>simp only[G2,Iz,ih]
theorem Avj (h:d≠0):Iz (l++[d])=l++[d]:=by
 induction l with
 | nil=>simp[Iz,h]
 | cons x l ih=>simp only[G2,Iz,ih];cases l with| nil=>rfl| cons y l=>rfl
theorem Avk (h:Cf l):Can (Iz l)/\As (Iz l)=As l:=by
 induction l with
 | nil=>exact⟨⟨Cf.nil,λh=>(h rfl).elim⟩,rfl⟩
 | cons d l ih=>
  obtain⟨⟨w,A⟩,g⟩:=ih h.tail;have u:=h d ψ;simp only[Iz];cases B:Iz l with
  | nil=>
   rw[B]at g;simp only[As]at g;simp only[];by_cases q:d=0
   .rw[Bc q];refine⟨⟨Cf.nil,λh=>(h rfl).elim⟩,?_⟩;simp only[As];rw[<-g];omega
   .rw[Bb q];refine⟨⟨Cf.one u.1 u.2,λ_=>by simpa using q⟩,?_⟩;simp only[As];rw[<-g]
  | cons x m=>
   rw[B]at w A g;simp only[];refine⟨⟨?_,λ_=>?_⟩,?_⟩
   .intro y v;rcases Iq.1 v with rfl|v
    .exact u
    .exact w y v
   .rw[getLast_cons ψ];exact A ψ
   .simp only[As]at g ⊢;rw[g]
theorem Qm (h:Cf l) (b:As l=n):Iz l=Al n:=by obtain⟨g,q⟩:=Avk h;exact Aen g (q.trans b)
def Cq (n:Nat):Nat:=(Al n).length
variable {j k m n:Nat} {E R S α:Type} {J:E->Option R} {l:List α} {r rf rt:R} {s0:S} {x:α} {p:α×Nat->Bool}
theorem Aeo:Cq 0=0:=by simp[Cq,Hz]
theorem O2 (n:Nat):n<1000000000 ^ Cq n:=by have:=Ju (He n);rw[Hc]at this;have e:((1000000000 ^ Cq n:Nat):Int)=1000000000 ^ Cq n:=ψ;unfold Cq at *;omega
theorem Qo (h:n<1000000000 ^ k):Cq n<=k:=by
 induction k generalizing n with
 | zero=>simp at h;subst h;simp[Aeo]
 | succ k ih=>
  by_cases g:n=0
  .subst g;simp[Aeo]
  .unfold Cq;rw[Mo g,Hj];have:n / 1000000000<1000000000 ^ k:=(by rw[Nat.div_lt_iff_lt_mul δ];rwa [Nat.pow_succ]at h);have:=ih this;unfold Cq at this;omega
theorem Qp (h:m<=n):Cq m<=Cq n:=Qo (Nat.lt_of_le_of_lt h (O2 n))
theorem Ale (h:k<Cq n):1000000000 ^ k<=n:=by
 rcases C9 n (1000000000 ^ k) with g|g
 .have:=Qo g;omega
 .exact g
theorem Avl (m n:Nat):Cq (m+n)<=max (Cq m) (Cq n)+1:=by apply Qo;have g:=O2 m;have h:=O2 n;have q:1000000000 ^ Cq m<=1000000000 ^ max (Cq m) (Cq n):=Nat.pow_le_pow_right δ (Nat.le_max_left _ _);have b:1000000000 ^ Cq n<=1000000000 ^ max (Cq m) (Cq n):=Nat.pow_le_pow_right δ (Nat.le_max_right _ _);rw[Nat.pow_succ];omega
theorem V4 (m n:Nat):Cq (m*n)<=Cq m+Cq n:=by apply Qo;rw[Nat.pow_add];exact Nat.mul_lt_mul_of_lt_of_le (O2 m) (Nat.le_of_lt (O2 n)) (Nat.pow_pos δ)
theorem Alf (m n:Nat):Cq (m / n)<=Cq m:=Qp (Nat.div_le_self _ _)
theorem Alg (h:Cq m<Cq n):m<n:=Nat.lt_of_lt_of_le (O2 m) (Ale h)
theorem Alh {l m:List Int} (f:Cf l) (g:k<l.length) (b:k<m.length) (h:Cf m) (u:l.drop (k+1)=m.drop (k+1)) (c:l[k]<m[k]):As l<As m:=by have q:=Mp l (k+1) g;have j:=Mp m (k+1) b;rw[Hq l g]at q;rw[Hq m b,<-u]at j;have v:=Ju (f.take k);have s:=Hr ((h.take k).u32);rw[length_take,Nat.min_eq_left (Nat.le_of_lt g)]at v;have i:1000000000 ^ k*(l[k]+1)<=1000000000 ^ k*m[k]:=Int.mul_le_mul_of_nonneg_left c (Int.le_of_lt (Kc k));rw[Int.mul_add]at i;omega
theorem Nt {step:S->Option (S⊕E)} (n:Nat) (b:Nat->S) (h0:s0=b 0) (c:∀j,j<n->step (b j)=some (.inl (b (j+1)))) (f:∃e,step (b n)=some (.inr e)/\J e=some r):(Ak step s0).bind J=some r:=by
 have g:∀m,m<=n->Ak step (b 0)=Ak step (b m):=by intro m;induction m with| zero=>intro _;rfl| succ m ih=>intro h;rw[ih ω,Kr (c m ω)]
 obtain⟨e,q,u⟩:=f;rw[h0,g n (Nat.le_refl _),F5 q];exact u
theorem En (h:j<n) (b:n<4611686018427387904):Ac ((j:Int)+1)=((j+1:Nat):Int):=by rw[Ac,B6] <;> omega
theorem Ali (h:l.zipIdx.all p=false):∃j x,l[j]? = some x/\p (x,j)=false/\∀i y,i<j->l[i]? = some y->p (y,i)=true:=by
 have q:∀(n:Nat),(∀i y,i<n->l[i]? = some y->p (y,i)=true)\/∃j x,j<n/\l[j]? = some x/\p (x,j)=false/\∀i y,i<j->l[i]? = some y->p (y,i)=true:=by
  intro n;induction n with
  | zero=>exact .inl (λi y h=>ω)
  | succ n ih=>
   rcases ih with ih|⟨j,x,B,u,v,b⟩
   .cases w:l[n]? with
    | none=>exact .inl (λi y A g=>by
      rcases C9 i n with h|h
      .exact ih i y h g
      .have:i=n:=ω
       subst this;rw[w]at g;cases g)
    | some x=>
     cases hp:p (x,n) with
     | true=>exact .inl (λi y A g=>by
       rcases C9 i n with h|h
       .exact ih i y h g
       .have:i=n:=ω
        subst this;rw[w]at g;cases g;exact hp)
     | false=>exact .inr ⟨n,x,ω,w,hp,ih⟩
   .exact .inr ⟨j,x,ω,u,v,b⟩
 rcases q l.length with C|⟨j,x,B,u,v,b⟩
 .exfalso;have:l.zipIdx.all p=true:=by
   rw[H7];rintro⟨y,i⟩ g;have:=mk_mem_zipIdx_iff_getElem?.1 g;have A:i<l.length:=by
    rcases C9 i l.length with h|h
    .exact h
    .rw[Qk h]at this;cases this
   exact C i y A this
  rw[this]at h;cases h
 .exact⟨j,x,u,v,b⟩
theorem Mq (h:l.zipIdx.all p=true) (g:l[j]? = some x):p (x,j)=true := H7.1 h _ (mk_mem_zipIdx_iff_getElem?.2 g)
theorem Aep (h:∀j x,l[j]? = some x->p (x,j)=true):l.zipIdx.all p=true:=by rw[H7];rintro⟨y,i⟩ g;exact h i y (mk_mem_zipIdx_iff_getElem?.1 g)
theorem S6 {step:S->Option (S⊕E)} (l:List α) (p:α×Nat->Bool) (b:Nat->S) (h0:s0=b 0) (q:l.length<4611686018427387904) (f:∀(j:Nat) (x:α),l[j]? = some x->(∀i y,i<j->l[i]? = some y->p (y,i)=true)->decide ((j:Int)<(l.length:Int))=true->Af l (j:Int)=some x->Ac ((j:Int)+1)=((j+1:Nat):Int) -> (p (x,j)=true->step (b j)=some (.inl (b (j+1))))/\(p (x,j)=false->∃e,step (b j)=some (.inr e)/\J e=some rf)) (s:decide ((l.length:Int)<(l.length:Int))=false->l.zipIdx.all p=true->∃e,step (b l.length)=some (.inr e)/\J e=some rt):(Ak step s0).bind J=some (bif l.zipIdx.all p then rt else rf):=by
 have c:∀(j:Nat) (x:α),l[j]? = some x->(∀i y,i<j->l[i]? = some y->p (y,i)=true)->_:=λj x g u=>
  have v:j<l.length:=by
   rcases C9 j l.length with h|h
   .exact h
   .rw[Qk h]at g;cases g
  f j x g u (Ap ω) (Cp rfl g) (En v q)
 cases w:l.zipIdx.all p with
 | true=>refine Nt l.length b h0 (λj v=>?_) (s ψ w);have g:l[j]? = some l[j]:=Cs v;exact (c j _ g λi y _ u=>Mq w u).1 (Mq w g)
 | false=>
  obtain⟨j,x,A,C,B⟩:=Ali w;refine Nt j b h0 (λi D=>?_) ((c j x A B).2 C);have v:j<l.length:=by
   rcases C9 j l.length with h|h
   .exact h
   .rw[Qk h]at A;cases A
  have g:l[i]? = some l[i]:=Cs ω;exact (c i _ g λk y F u=>B k y ω u).1 (B i _ D g)
theorem Zp (l:List α) (p:α->Bool):l.zipIdx.all (λq=>p q.1)=l.all p:=by
 cases h:l.all p with
 | true=>exact Aep λj x g=>H7.1 h _ (B4 g)
 | false=>cases u:l.zipIdx.all (λq=>p q.1) with| false=>rfl| true=>rw[<-h];symm;rw[H7];intro x g;obtain⟨j,v⟩:=Kz g;exact Mq u v
theorem O3 {step:S->Option (S⊕E)} (l:List α) (p:α->Bool) (b:Nat->S) (h0:s0=b 0) (f:l.length<4611686018427387904) (c:∀(j:Nat) (x:α),l[j]? = some x->decide ((j:Int)<(l.length:Int))=true->Af l (j:Int)=some x->Ac ((j:Int)+1)=((j+1:Nat):Int) -> (p x=true->step (b j)=some (.inl (b (j+1))))/\(p x=false->∃e,step (b j)=some (.inr e)/\J e=some rf)) (i:decide ((l.length:Int)<(l.length:Int))=false->∃e,step (b l.length)=some (.inr e)/\J e=some rt):(Ak step s0).bind J=some (bif l.all p then rt else rf):=by rw[<-Zp l p];exact S6 l (λq=>p q.1) b h0 f (λj x g _=>c j x g) (λh _=>i h)
theorem Ga {step:S->Option (S⊕E)} (l:List α) (b:Nat->S) (h0:s0=b 0) (f:l.length<4611686018427387904) (c:∀(j:Nat) (x:α),j<l.length->l[j]? = some x->decide ((j:Int)<(l.length:Int))=true->Af l (j:Int)=some x->Ac ((j:Int)+1)=((j+1:Nat):Int)->step (b j)=some (.inl (b (j+1)))) (i:decide ((l.length:Int)<(l.length:Int))=false->∃e,step (b l.length)=some (.inr e)/\J e=some r):(Ak step s0).bind J=some r:=by refine Nt l.length b h0 (λj g=>?_) (i ψ);have h:l[j]? = some l[j]:=Cs g;exact c j _ g h (Ap ω) (Cp rfl h) (En g f)
theorem C5 (h:l[j]? = some x):l.take (j+1)=l.take j++[x]:=by rw[take_add_one,h];rfl
theorem Gp (h:l[j]? = some x):j<l.length:=by
 rcases C9 j l.length with g|g
 .exact g
 .rw[Qk g]at h;cases h
theorem Qq (b:Bool):(bif b then true else false)=b:=by cases b <;> rfl
theorem Avm (b:Bool):(bif b then false else true) = !b:=by cases b <;> rfl
theorem V5 {A:Type} {X:Option A} {f:A->Option R} {y:R} {Q:A->Prop} (h:∃r,X=some r/\Q r) (g:∀r,Q r->f r=some y):X.bind f=some y:=by obtain⟨r,q,u⟩:=h;rw[q];exact g r u
theorem Alj (l:List α) (p:α->Bool) {step:Int->Option (Int⊕(Int⊕Unit))} {J:Int⊕Unit->Option Int} (q:l.length<4611686018427387904) (k:∀(j:Nat) (x:α),x∈l->decide ((j:Int)<(l.length:Int))=true->Af l (j:Int)=some x->Ac ((j:Int)+1)=((j+1:Nat):Int) -> step (j:Int)=bif p x then some (.inr (.inl (j:Int))) else some (.inl ((j+1:Nat):Int))) (s:decide ((l.length:Int)<(l.length:Int))=false->step (l.length:Int)=some (.inr (.inr ()))) (c:∀i,J (.inl i)=some i) (b:J (.inr ())=some (-1)):∃i,(Ak step 0).bind J=some i/\decide (i>=0)=l.any p:=by
 have g:(Ak step 0).bind (λz=>(J z).bind λi=>some (decide (i>=0)))=some (bif l.all (λx=>!p x) then false else true):=by refine O3 l (λx=>!p x) (λj=>(j:Int)) rfl q (λj x v w A B=>?_) λh=>⟨.inr (),s h,by rw[b];rfl⟩;have h:=k j x (B4 v) w A B;simp only[h];cases p x with| true=>exact⟨nofun,λ_=>⟨.inl (j:Int),rfl,by simp only[c,Ag];rw[Ap ω]⟩⟩| false=>exact⟨λ_=>rfl,λh=>by cases h⟩
 have e:l.any p=(bif l.all (λx=>!p x) then false else true):=by rw[Avm,not_all_eq_any_not];simp
 rw[e];cases f:Ak step 0 with
 | none=>rw[f]at g;cases g
 | some z=>rw[f,Ag]at g;rw[Ag];cases u:J z with| none=>rw[u]at g;cases g| some i=>rw[u,Ag]at g;exact⟨i,rfl,Fe g⟩
theorem Aeq {M:Type} {step:S->Option (S⊕E)} (l:List α) (p:α×Nat->Bool) (b:Nat->M->S) (I:M->Prop) (B D:R->Prop) (k:M) (h0:s0=b 0 k) (q:I k) (L:l.length<4611686018427387904) (G:∀(j:Nat) (x:α) (m:M),I m->l[j]? = some x->(∀i y,i<j->l[i]? = some y->p (y,i)=true)->decide ((j:Int)<(l.length:Int))=true->Af l (j:Int)=some x->Ac ((j:Int)+1)=((j+1:Nat):Int) -> (p (x,j)=true->∃f,step (b j m)=some (.inl (b (j+1) f))/\I f)/\(p (x,j)=false->∃e,step (b j m)=some (.inr e)/\∃r,J e=some r/\D r)) (N:∀m,I m->decide ((l.length:Int)<(l.length:Int))=false->l.zipIdx.all p=true->∃e,step (b l.length m)=some (.inr e)/\∃r,J e=some r/\B r) : ∃r,(Ak step s0).bind J=some r/\((l.zipIdx.all p=true/\B r)\/(l.zipIdx.all p=false/\D r)):=by
 have c:∀(j:Nat) (x:α) (m:M),I m->l[j]? = some x->(∀i y,i<j->l[i]? = some y->p (y,i)=true)->_:=λj x m O h g=>
  have K:j<l.length:=Gp h
  G j x m O h g (Ap ω) (Cp rfl h) (En K L)
 have w:∀n,n<=l.length->(∀i y,i<n->l[i]? = some y->p (y,i)=true)->∃m,I m/\Ak step s0=Ak step (b n m):=by intro n;induction n with| zero=>intro _ _;exact⟨k,q,by rw[h0]⟩| succ n ih=>intro V g;obtain⟨m,v,C⟩:=ih ω λi y P=>g i y ω;have h:l[n]? = some l[n]:=Cs ω;obtain⟨f,F,s⟩:=(c n _ m v h λi y P=>g i y ω).1 (g n _ ω h);exact⟨f,s,by rw[C,Kr F]⟩
 cases H:l.zipIdx.all p with| true=>obtain⟨m,v,C⟩:=w l.length (Nat.le_refl _) λi y _ g=>Mq H g;obtain⟨e,A,r,z,u⟩:=N m v ψ H;exact⟨r,by rw[C,F5 A];exact z,.inl ⟨rfl,u⟩⟩| false=>obtain⟨j,x,v,C,F⟩:=Ali H;obtain⟨m,s,U⟩:=w j (Nat.le_of_lt (Gp v)) F;obtain⟨e,A,r,z,u⟩:=(c j x m s v F).2 C;exact⟨r,by rw[U,F5 A];exact z,.inr ⟨rfl,u⟩⟩
mutual
def Bi:Ai->Nat
 | ⟨_,_,l⟩=>1+Cl l
def Cl:List Ai->Nat
 | []=>0
 | x::xs=>Bi x+Cl xs
end
theorem G3 (t:Ai):Bi t=1+Cl t.R:=by cases t;simp only[Bi]
theorem Ke (t:Ai):1<=Bi t:=by rw[G3];omega
theorem G6 {l:List Ai} {a:Ai} (h:a∈l):Bi a<=Cl l:=by
 induction l with
 | nil=>cases h
 | cons x xs ih=>
  simp only[Cl];rcases Iq.1 h with rfl|h
  .omega
  .have:=ih h;omega
theorem Hs (l:List Ai):l.length<=Cl l:=by induction l with| nil=>simp| cons x xs ih=>simp only[Cl,Hj];have:=Ke x;omega
theorem Zq (l m:List Ai):Cl (l++m)=Cl l+Cl m:=by induction l with| nil=>simp[Cl]| cons x xs ih=>simp only[G2,Cl,ih];omega
def I6 (data:List Ao) (g k n:Int) (len:Nat):Bool := if k=1\/k=2\/k=3 then n==0&&len==0 else if k=4 then decide (0<=n)&&decide (n<g)&&len==0 else if k=5 then decide (0<=n)&&(match data[n.toNat]? with|some d=>(len:Int)==d.V|none=>false) else if k=6 then n==0&&decide (2<=len)&&decide (len<=6) else if k=7\/k=8 then n==0&&len==1 else if k=9 then n==0&&decide (1<=len)&&decide (len<=7) else false
mutual
def Dk (data:List Ao) (g:Int):Ai->Bool
 | ⟨k,n,l⟩=>I6 data g k n l.length&&D8 data g l
def D8 (data:List Ao) (g:Int):List Ai->Bool
 | []=>true
 | x::xs=>Dk data g x&&D8 data g xs
end
variable {i:Int} {l:List Ai} {j:Nat} {R α:Type}
theorem S7 (data:List Ao) (g:Int) (t:Ai):Dk data g t=(I6 data g t.G t.U t.R.length&&D8 data g t.R):=by cases t;simp only[Dk]
theorem Avn (l:List α) (n:Nat):((l.length:Int)==(n:Int))=(l.length==n):=by
 by_cases h:l.length=n
 .subst h;simp
 .rw[Da ω];simp[h]
theorem Avo (k:Nat) (t:Ai) (data:List Ao) (g left:Int) (u:1<=left) (v:left<=1000) : Lm (k+1) t ⟨data,g,left⟩=bif I6 data g t.G t.U t.R.length then ((S3 k t.R ⟨data,g,left-1⟩).bind λh=>some ((!h.1),h.2)) else some (false,⟨data,g,left-1⟩):=by have c:Ac (left-1)=left-1:=B6 ω ω;have b:¬left-1<0:=ω;rw[Lm];simp only[c,Ax b,Av];generalize j:(S3 k t.R ⟨data,g,left-1⟩).bind (λh=>some ((!h.1),h.2))=X;generalize i:(some (false,⟨data,g,left-1⟩):Option (Bool×Gv))=Y;unfold I6 Af;generalize t.R.length=len;generalize t.G=f;generalize t.U=n;cases q:data[n.toNat]? <;> simp only[Bool.cond_eq_ite,Ael,Ag,Option.bind_none,q] <;> grind
theorem V6 (h:j<l.length):Cl (l.take (j+1))=Cl (l.take j)+Bi l[j]:=by rw[take_succ_eq_append_getElem h,Zq];simp[Cl]
theorem Alk (data:List Ao) (g:Int) (l m:List Ai):D8 data g (l++m)=(D8 data g l&&D8 data g m):=by induction l with| nil=>simp[D8]| cons x xs ih=>simp only[G2,D8,ih,Bool.and_assoc]
theorem Zr (data:List Ao) (g:Int) (h:j<l.length):D8 data g (l.take (j+1))=(D8 data g (l.take j)&&Dk data g l[j]):=by rw[take_succ_eq_append_getElem h,Alk];simp[D8]
theorem V7 (l:List Ai) (j:Nat):Cl (l.take j)<=Cl l:=by have:=Zq (l.take j) (l.drop j);rw[take_append_drop]at this;omega
theorem All (data:List Ao) (g:Int) (l:List Ai) (j:Nat) (h:D8 data g l=true):D8 data g (l.take j)=true:=by have:=Alk data g (l.take j) (l.drop j);rw[take_append_drop,h]at this;have:=this.symm;simp only[Dt]at this;exact this.1
theorem Avp (data:List Ao) (g:Int) (k:Nat) (l:List Ai) (c:Nat) (G:l.length<1099511627776) (ih:∀(a:Ai),a∈l->∀f:Nat,f<=c->∃q:Int,Lm k a ⟨data,g,f⟩=some (Dk data g a&&decide (Bi a<=f),⟨data,g,q⟩)/\((Dk data g a&&decide (Bi a<=f))=true->q=(f:Int)-Bi a)) : ∃p:Int×Int,Vv (k+2) l ⟨data,g,c⟩=some (p.1,⟨data,g,p.2⟩)/\((D8 data g l&&decide (Cl l<=c))=true->p.1 = -1/\p.2=(c:Int)-Cl l)/\((D8 data g l&&decide (Cl l<=c))=false->0<=p.1):=by
 rw[Vv];refine Aek (λp:Int×Int=>(p.1,Gv.mk data g p.2)) (F4 (λ(H,v,w,C)=>∃j:Nat,H=j/\j<=l.length/\v=data/\w=g/\D8 data g (l.take j)=true/\Cl (l.take j)<=c/\C=(c:Int)-Cl (l.take j)) (λ(H,_,_,_)=>l.length-H.toNat) (λz=>match z with|.inl (i,b)=>0<=i/\(∃q,b=⟨data,g,q⟩)/\(D8 data g l&&decide (Cl l<=c))=false | .inr (v,w,C)=>v=data/\w=g/\(D8 data g l&&decide (Cl l<=c))=true/\C=(c:Int)-Cl l) ⟨0,rfl,ω,rfl,rfl,rfl,by simp[Cl],by simp[Cl]⟩ ?_ ?_)
 .rintro⟨H,v,w,C⟩ ⟨j,rfl,O,rfl,rfl,x,A,rfl⟩;rcases C9 j l.length with h|h
  .obtain⟨u,y⟩:∃u:Nat,(c:Int)-Cl (l.take j)=u/\u<=c:=⟨c-Cl (l.take j),ω,ω⟩;obtain⟨q,E,D⟩:=ih l[j] (getElem_mem h) u y.2;simp only[Ap (ω:(j:Int)<(l.length:Int)),Am,Gn rfl h,Ag,U9,y.1,E];cases K:(Dk v w l[j]&&decide (Bi l[j]<=u)) with
   | true=>
    have I:=D K;simp only[Dt,E8]at K;refine .inl ⟨(((j+1:Nat):Int),v,w,q),?_,⟨j+1,rfl,ω,rfl,rfl,?_,?_,?_⟩,ζ⟩
    .simp only[Dn,Av];rw[show Ac ((j:Int)+1)=((j+1:Nat):Int) by rw[Ac,B6] <;> omega]
    .rw[Zr _ _ h,x,K.1];rfl
    .rw[V6 h];omega
    .show q=_;rw[V6 h];omega
   | false=>refine .inr ⟨.inl ((j:Int),⟨v,w,q⟩),ψ,ω,⟨q,rfl⟩,?_⟩;cases s:(D8 v w l&&decide (Cl l<=c)) with| false=>rfl| true=>exfalso;simp only[Dt,E8]at s;have F:=All v w l (j+1) s.1;rw[Zr _ _ h]at F;simp only[Dt]at F;have N:=V7 l (j+1);rw[V6 h]at N;rw[F.2,Bool.true_and,decide_eq_false_iff_not]at K;omega
  .have:j=l.length:=ω;subst this;rw[Dr]at *;refine .inr ⟨.inr (v,w,(c:Int)-Cl l),ψ,rfl,rfl,by simp[x,A],rfl⟩
 .rintro (⟨i,b⟩|⟨v,w,C⟩) B
  .obtain⟨F,⟨q,rfl⟩,M⟩:=B;exact⟨_,rfl,(i,q),rfl,(λh=>by rw[M]at h;cases h),λ_=>F⟩
  .obtain⟨rfl,rfl,M,rfl⟩:=B;exact⟨_,rfl,(-1,_),rfl,λ_=>⟨rfl,rfl⟩,λh=>by rw[M]at h;cases h⟩
theorem Avq (data:List Ao) (g:Int):∀(left:Nat) (t:Ai) (k:Nat),left<=200->4*left+4<=k->Bi t<1099511627776 -> ∃f:Int,Lm k t ⟨data,g,left⟩=some (Dk data g t&&decide (Bi t<=left),⟨data,g,f⟩)/\((Dk data g t&&decide (Bi t<=left))=true->f=(left:Int)-Bi t):=by
 intro left;induction left using Nat.strongRecOn with
 | _ left x=>
  intro t k E I K;have hp:=Ke t;obtain⟨j,rfl⟩:∃j,k=j+1:=⟨k-1,ω⟩;cases left with
  | zero=>refine⟨-1,?_,λh=>by simp at h;omega⟩;rw[Lm];have C:decide (Bi t<=0)=false:=Ax ω;rw[C,Bool.and_false];rfl
  | succ b=>
   rw[Avo j t data g ((b+1:Nat):Int) ω ω];have B:((b+1:Nat):Int)-1=(b:Int):=ω;rw[B,S7];cases D:I6 data g t.G t.U t.R.length with
   | false=>exact⟨b,ψ,λh=>by simp at h⟩
   | true=>
    obtain⟨u,rfl⟩:∃u,j=u+3:=⟨j-3,ω⟩;have q:=G3 t;have z:=Hs t.R;obtain⟨⟨i,f⟩,F,v,G⟩:=Avp data g u t.R b ω (λa H c A=>by have:=G6 H;exact x c ω a u ω ω ω);have s:decide (Bi t<=b+1)=decide (Cl t.R<=b):=(by rw[q];congr 1;simp only[eq_iff_iff];omega);simp only[Am,S3,F,Ag,Bool.true_and,s];refine⟨f,?_,λh=>?_⟩
    .cases w:(D8 data g t.R&&decide (Cl t.R<=b)) with| true=>have y:i = -1:=(v w).1;rw[Ax (ω:¬i>=0)];rfl| false=>have y:0<=i:=G w;rw[Ap (ω:i>=0)];rfl
    .have y:f=(b:Int)-Cl t.R:=(v h).2;rw[y,q];omega
theorem Zs (data:List Ao) (t:Ai) (g:Int) (q:Bi t<1099511627776):Ng data t g=some (Dk data g t&&decide (Bi t<=200)):=by unfold Ng;obtain⟨b,h,_⟩:=Avq data g 200 t 4000000 δ δ q;have h:Lm 4000000 t ⟨data,g,200⟩=_:=h;rw[h];rfl
theorem Alm:∀(k:Nat) (t:Ai),Bi t<=k->Bi t<1099511627776->Nj k t=some (Bi t:Int):=by
 intro k;induction k with
 | zero=>intro t h;have:=Ke t;omega
 | succ k ih=>
  intro t h u;have c:=G3 t;have f:=Hs t.R;rw[Nj];refine Kb (λ(n,i)=>∃j:Nat,i=j/\j<=t.R.length/\n=1+(Cl (t.R.take j):Int)) (λ(_,i)=>t.R.length-i.toNat) (λn=>n=(Bi t:Int)) ⟨0,rfl,ω,by simp[Cl]⟩ ?_ (by rintro n rfl;rfl);rintro⟨n,i⟩ ⟨j,rfl,v,rfl⟩;rcases C9 j t.R.length with g|g
  .have w:=G6 (getElem_mem g);have q:=V7 t.R j;have b:=V7 t.R (j+1);rw[V6 g]at b;refine .inl ⟨(1+(Cl (t.R.take (j+1)):Int),((j+1:Nat):Int)),?_,⟨j+1,rfl,ω,rfl⟩,ζ⟩;simp only[Ap (ω:(j:Int)<(t.R.length:Int)),Am,Gn rfl g,Ag,ih t.R[j] ω ω];rw[show Ac ((j:Int)+1)=((j+1:Nat):Int) by rw[Ac,B6] <;> omega,show Ac (1+(Cl (t.R.take j):Int)+(Bi t.R[j]:Int))=1+(Cl (t.R.take (j+1)):Int) by rw[V6 g,Ac,B6] <;> omega]
  .have:j=t.R.length:=ω;subst this;exact .inr ⟨1+(Cl t.R:Int),ψ,by rw[c];omega⟩
theorem Avr (data:List Ao) (g:Int):∀(k:Nat) (t:Ai),Bi t<=k->Bi t<1099511627776->Ok k data t g=some (Dk data g t):=by
 intro k;induction k with
 | zero=>intro t h;have:=Ke t;omega
 | succ k ih=>
  intro t h K;have D:=G3 t;have s:=Hs t.R;have c:(Ak (S:=Int) (E:=(Bool⊕Unit)) (λw=>bif w<(t.R.length:Int) then ((Af t.R w).bind λM=>(Ok k data M g).bind λA=>bif (!A) then some (.inr (.inl false)) else some (.inl (Ac (w+1)))) else some (.inr (.inr ()))) 0).bind (λz=>match z with|.inl B=>some B | .inr _=>some true)=some (D8 data g t.R):=by
   refine Kb (λi=>∃j:Nat,i=j/\j<=t.R.length/\D8 data g (t.R.take j)=true) (λi=>t.R.length-i.toNat) (λz=>match z with|.inl r=>r=D8 data g t.R | .inr _=>D8 data g t.R=true) ⟨0,rfl,ω,by simp[D8]⟩ ?_ ?_
   .rintro i ⟨j,rfl,U,f⟩;rcases C9 j t.R.length with v|v
    .have V:=G6 (getElem_mem v);simp only[Ap (ω:(j:Int)<(t.R.length:Int)),Am,Gn rfl v,Ag,ih t.R[j] ω ω];cases F:Dk data g t.R[j] with
     | true=>refine .inl ⟨((j+1:Nat):Int),?_,⟨j+1,rfl,ω,by rw[Zr _ _ v,f,F];rfl⟩,ζ⟩;simp only[Dn,Av];rw[show Ac ((j:Int)+1)=((j+1:Nat):Int) by rw[Ac,B6] <;> omega]
     | false=>refine .inr ⟨.inl false,ψ,?_⟩;show false=_;cases x:D8 data g t.R with| false=>rfl| true=>have H:=All data g t.R (j+1) x;rw[Zr _ _ v,F,Bool.and_false]at H;cases H
    .have:j=t.R.length:=ω;subst this;rw[Dr]at f;exact .inr ⟨.inr (),ψ,f⟩
   .rintro (r|u) y
    .simp only at y ⊢;rw[y]
    .simp only at y ⊢;rw[y]
  rw[Ok,S7];refine Eq.trans (b:=Option.bind _ (λz:Bool⊕Unit=>match z with|.inl I=>some I | .inr _=>some (D8 data g t.R))) (Avf ?_) ?_
  .rintro (r|u)
   .rfl
   .exact c
  have q:t.R.length=0->D8 data g t.R=true:=(by intro e;rw[F9.1 e];rfl);unfold I6 Af;clear c ih h K D s;generalize D8 data g t.R=X at *;generalize t.R.length=len at *;generalize t.G=J;generalize t.U=n;by_cases G:len=0
  .have N:=q G;subst G;subst N;cases C:data[n.toNat]? <;> simp only[Bool.cond_eq_ite,Ael,Ag,Option.bind_none,C] <;> grind
  .have O:((len:Int)==0)=false:=Da ω;have P:(len==0)=false:=(by simpa using G);have T:((len:Int) != 1)=(!(len==1)):=by
    by_cases h:len=1
    .subst h;rfl
    .rw[D2 ω];simp[h]
   cases C:data[n.toNat]? <;> simp only[O,P,T,Bool.cond_eq_ite,Ael,Ag,Option.bind_none,C,Bool.and_false,Bool.false_and] <;> grind
theorem Zt (data:List Ao) (t:Ai) (g:Int) (q:Bi t<=4000000):Mh data t g=some (Dk data g t&&decide (Bi t<=200)):=by
 unfold Mh;rw[Alm 4000000 t q ω,Ag,Avr data g 4000000 t q ω];by_cases h:Bi t<=200
 .rw[Ap (ω:(Bi t:Int)<=200),Ap h];simp
 .rw[Ax (ω:¬(Bi t:Int)<=200),Ax h];simp
def Nu (a:Ai) (i:Int):Bool:=a.G==4&&a.U==i&&a.R.length==0
def Aln (l:List Ai):Bool:=l.zipIdx.all λq=>Nu q.1 q.2
def Is (t:Ai) (d g:Int):Bool:=t.G==5&&t.U==d&&(t.R.length:Int)==g&&Aln t.R
theorem Alo (t:Ai) (d g:Int) (G:t.R.length<1099511627776):Oj t d g=some (Is t d g):=by
 unfold Oj Is;by_cases u:t.G=5
 .by_cases v:t.U=d
  .by_cases w:(t.R.length:Int)=g
   .simp only[D3 u,D3 v,D3 w,Av,Ag,E5 u,E5 v,E5 w,Bool.true_and];refine (S6 t.R (λq=>Nu q.1 q.2) (λj=>(j:Int)) rfl ω (rt:=true) (rf:=false) ?_ ?_).trans (by rw[Qq];rfl)
    .intro j x H _ B D b;simp only[B,D,b,Am,Ag,Nu];constructor
     .intro h;simp only[Dt,beq_iff_eq]at h;simp[h.1.1,h.1.2,h.2]
     .intro h;by_cases A:x.G=4
      .by_cases C:x.U=j
       .by_cases F:x.R.length=0
        .simp[A,C,F]at h
        .exact⟨.inl false,by simp only[D3 A,D3 C,Av];rw[Ap ω];rfl,rfl⟩
       .exact⟨.inl false,by simp only[D3 A,D2 C,Av];rfl,rfl⟩
      .exact⟨.inl false,by simp only[D2 A];rfl,rfl⟩
    .intro B _;exact⟨.inr (),by simp only[B];rfl,rfl⟩
   .simp only[D3 u,D3 v,D2 w,Av,Am,Ag,Da w,Bool.and_false,Bool.false_and]
  .simp only[D3 u,D2 v,Av,Am,Ag,Da v,Bool.and_false,Bool.false_and]
 .simp only[D2 u,Am,Ag,Da u,Bool.false_and]
def Gw (data:List Ao) (d c:Int):List Bool := match Af data d with
 | none=>[]
 | some x=>match Af x.O c with
  | none=>[]
  | some y=>y.R.map λt=>Is t d x.V
theorem E9 {l:List α} {x:α} (h:Af l i=some x):0<=i/\i<l.length/\l[i.toNat]? = some x/\x∈l:=by
 unfold Af at h;split at h
 .have g:i.toNat<l.length:=Gp h;exact⟨by assumption,ω,h,B4 h⟩
 .cases h
theorem O4 {l:List α} (h:Af l i=none):i<0\/(l.length:Int)<=i:=by
 unfold Af at h;split at h
 .rw[List.getElem?_eq_none_iff]at h;right;omega
 .left;omega
theorem Alp (data:List Ao) (d c:Int) (F:Ao->Lr->Option R) (z:R) (X:Option R) (f:X=((bif d<(0:Int) then some true else bif d>=(data.length:Int) then some true else bif c<(0:Int) then some true else (Af data d).bind λb=>some (decide (c>=(b.O.length:Int))):OB).bind λw=>bif w then some z else (Af data d).bind λq=>(Af q.O c).bind λA=>F q A)) : X=match Af data d with
   | none=>some z
   | some x=>match Af x.O c with
    | none=>some z
    | some y=>F x y:=by
 subst f;cases u:Af data d with
 | none=>
  rcases O4 u with h|h
  .simp only[Ap h,Am,Ag]
  .by_cases g:d<0
   .simp only[Ap g,Am,Ag]
   .simp only[Ax g,Ap (show d>=(data.length:Int) from h),Am,Av,Ag]
 | some x=>
  obtain⟨B,C,_,_⟩:=E9 u;simp only[Ax (ω:¬d<0),Ax (ω:¬d>=(data.length:Int)),Av,Ag];cases v:Af x.O c with
  | none=>
   rcases O4 v with h|h
   .simp only[Ap h,Am,Ag]
   .by_cases g:c<0
    .simp only[Ap g,Am,Ag]
    .simp only[Ax g,Ap (show c>=(x.O.length:Int) from h),Am,Av,Ag]
  | some y=>obtain⟨D,G,_,_⟩:=E9 v;simp only[Ax (ω:¬c<0),Ax (ω:¬c>=(x.O.length:Int)),Av,Ag]
def Avs (l:List Ai):Prop:=l.length<=4194304/\∀a∈l,a.R.length<=4194304
def Ht (data:List Ao):Prop:=∀x∈data,∀y∈x.O,Avs y.R
theorem Avt (data:List Ao) (d c:Int) (u:Ht data):So data d c=some (Gw data d c):=by
 unfold So;rw[Alp data d c (λB C=>_) [] _ rfl];unfold Gw;cases v:Af data d with
 | none=>rfl
 | some x=>
  cases g:Af x.O c with
  | none=>simp only[g]
  | some y=>
   simp only[g];have b:=u x (E9 v).2.2.2 y (E9 g).2.2.2;refine Ga y.R (λj=>((j:Int),(y.R.take j).map λt=>Is t d x.V)) rfl (by have:=b.1;omega) ?_ ?_
   .intro j t D q h w A;simp only[h,w,Am,Ag,Alo t d x.V (by have:=b.2 t (B4 q);omega)];rw[Cy (by simp;have:=b.1;omega),Ag,A,C5 q,map_append];rfl
   .intro h;exact⟨_,by simp only[h];rfl,ψ⟩
theorem Avu (data:List Ao) (d c:Int) (g:Ht data):So data d c=some (Gw data d c):=Avt data d c g
theorem Aer (l m:List α) (y x:α) (i:Int) (n:Nat) (h:i=n) (b:n=l.length):Bk (l++y::m) i x=l++x::m:=by rw[Ir h];subst b;simp
theorem Aes (l m:List α) (y:α) (i:Int) (n:Nat) (h:i=n) (b:n=l.length):Af (l++y::m) i=some y:=by rw[Cp h];subst b;simp
theorem Avv (l:List Ai) (s f:List Bool) (i:Int) (n:Nat) (b:Bool) (h:i=n) (u:n=s.length) (B:l.length<1099511627776) {J:Int×List Bool->Option R} {r:R} (A:J ((l.length:Int),s++(b&&Aln l)::f)=some r) : (Ak (S:=(Int×List Bool)) (E:=(Int×List Bool)) (λ(c,k)=> bif c<(l.length:Int) then ((Af l c).bind λg=> bif (g.G != (4:Int)) then ((Af k i).bind λF=> some (.inl ((Ac (c+1)),(Bk k i false)))) else (bif (g.U != c) then ((Af k i).bind λz=> some (.inl ((Ac (c+1)),(Bk k i false)))) else (bif (g.R.length:Int)>(0:Int) then ((Af k i).bind λy=> some (.inl ((Ac (c+1)),(Bk k i false)))) else (some (.inl ((Ac (c+1)),k)))))) else (some (.inr (c,k)))) (0,s++b::f)).bind J=some r:=by
 refine Ga l (λj=>((j:Int),s++(b&&(l.take j).zipIdx.all λq=>Nu q.1 q.2)::f)) ψ ω ?_ ?_
 .intro j x G H C I K;have e:(l.take (j+1)).zipIdx.all (λq=>Nu q.1 q.2)=((l.take j).zipIdx.all (λq=>Nu q.1 q.2)&&Nu x j):=(by rw[C5 H,zipIdx_append,all_append];simp[Nat.min_eq_left (Nat.le_of_lt G)]);simp only[C,I,K,Am,Ag,Aes s f _ i n h u,Aer s f _ _ i n h u,e];unfold Nu;by_cases v:x.G=4
  .by_cases w:x.U=j
   .by_cases D:x.R.length=0
    .rw[Ax ω];simp[v,w,D]
    .rw[Ap ω];have:(x.R.length==0)=false:=(by simpa using D);simp[v,w,this]
   .simp[v,w,D2 w]
  .simp[v,D2 v]
 .intro C;refine⟨_,by simp only[C];rfl,?_⟩;rw[Dr];exact A
theorem Aet (data:List Ao) (d c:Int) (u:Ht data):P8 data d c=some (Gw data d c):=by
 unfold P8;rw[Alp data d c (λD F=>_) [] _ rfl];unfold Gw;cases v:Af data d with
 | none=>rfl
 | some x=>
  cases g:Af x.O c with
  | none=>simp only[g]
  | some y=>
   simp only[g];have f:=u x (E9 v).2.2.2 y (E9 g).2.2.2;have i:=f.1;rw[Ql (n:=y.R.length) (c:=y.R.length) rfl rfl ω ω ω,Ag];refine Ga y.R (λj=>((j:Int),((y.R.take j).map λt=>Is t d x.V)++replicate (y.R.length-j) false)) rfl ω ?_ ?_
   .intro j t G q h w A;obtain⟨m,B⟩:∃m,y.R.length-j=m+1:=⟨y.R.length-j-1,ω⟩;have k:y.R.length-(j+1)=m:=ω;have b:j=((y.R.take j).map λt=>Is t d x.V).length:=ζ;simp only[h,w,Am,Ag,B,k,replicate_succ,C5 q,map_append,map_cons,map_nil,append_assoc,G2,nil_append, Aes _ _ _ (j:Int) j rfl b,Aer _ _ _ _ (j:Int) j rfl b];have C:(bif t.G==5 then bif t.U==d then some (map (λt=>Is t d x.V) (take j y.R)++((t.R.length:Int)==x.V)::replicate m false)
       else some (map (λt=>Is t d x.V) (take j y.R)++false::replicate m false) else some (map (λt=>Is t d x.V) (take j y.R)++false::replicate m false))=some (map (λt=>Is t d x.V) (take j y.R)++(t.G==5&&t.U==d&&((t.R.length:Int)==x.V))::replicate m false):=by cases t.G==5 <;> cases t.U==d <;> simp
    rw[C,Ag];refine Avv t.R _ _ (j:Int) j _ rfl b (by have:=f.2 t (B4 q);omega) ?_;rw[A];rfl
   .intro h;exact⟨_,by simp only[h];rfl,ψ⟩
mutual
def mnt (d:Int):Ai->Bool
 | ⟨k,n,l⟩=>(k==5&&n==d)||Nv d l
def Nv (d:Int):List Ai->Bool
 | []=>false
 | x::xs=>mnt d x||Nv d xs
end
theorem Avw (d:Int) (t:Ai):mnt d t=((t.G==5&&t.U==d)||Nv d t.R):=by cases t;simp only[mnt]
theorem Avx (d:Int) (l:List Ai):Nv d l=l.any (mnt d):=by induction l with| nil=>rfl| cons x xs ih=>simp only[Nv,ih,any_cons]
theorem Avy (d:Int):∀(n:Nat) (t:Ai) (k:Nat),Bi t<=n->4*n+4<=k->n<1099511627776->P9 k t d=some (mnt d t):=by
 intro n;induction n with
 | zero=>intro t k h;have:=Ke t;omega
 | succ n ih=>intro t k h C q;obtain⟨k,rfl⟩:∃c,k=c+4:=⟨k-4,ω⟩;have f:=G3 t;have b:=Hs t.R;have g:S0 (k+3) t.R d=some (Nv d t.R):=(by rw[S0,Zf];rw[Avx];refine V5 (Alj t.R (mnt d) ω ?_ (λh=>by simp only[h];rfl) (λ_=>rfl) rfl) (λi u=>by rw[u]);intro j x v w A B;have D:=G6 v;simp only[w,A,B,Am,Ag,Vl,ih x k ω ω ω]);rw[P9,g,Avw];cases t.G==5 <;> cases t.U==d <;> simp
theorem Alq (data:List Ao) (v:Int) (l:List Ai):D8 data v l=l.all (Dk data v):=by induction l with| nil=>rfl| cons x xs ih=>simp only[D8,ih,all_cons]
theorem Avz (data:List Ao) (d:Nat) (v k n:Int) (len:Nat):(I6 (data.take (d+1)) v k n len && !(k==5&&n==(d:Int)))=I6 (data.take d) v k n len:=by
 by_cases g:k=5
 .subst g;unfold I6;simp only[beq_self_eq_true,Bool.true_and,getElem?_take];by_cases b:n=d
  .subst b;simp
  .by_cases q:0<=n
   .have e:(n==(d:Int))=false:=Da b;rcases C9 n.toNat d with h|h
    .simp[h,e,show n.toNat<d+1 by omega]
    .simp[e,show ¬n.toNat<d by omega,show ¬n.toNat<d+1 by omega]
   .simp[q]
 .have e:(k==(5:Int))=false:=Da g;simp only[e,Bool.false_and,Bool.not_false,Bool.and_true,I6,g,if_false]
mutual
theorem Alr (data:List Ao) (d:Nat) (v:Int):∀t:Ai,(Dk (data.take (d+1)) v t && !mnt d t)=Dk (data.take d) v t
 | ⟨k,n,l⟩=>by
  have g:=Als data d v l
  have h:=Avz data d v k n l.length
  simp only[Dk,mnt]
  rw[<-g,<-h]
  cases I6 (data.take (d+1)) v k n l.length <;> cases (k==5&&n==(d:Int)) <;> cases D8 (data.take (d+1)) v l <;> simp
theorem Als (data:List Ao) (d:Nat) (v:Int):∀l:List Ai,(D8 (data.take (d+1)) v l && !Nv d l)=D8 (data.take d) v l
 | []=>by simp[D8,Nv]
 | x::xs=>by
  have g:=Alr data d v x
  have h:=Als data d v xs
  simp only[D8,Nv]
  rw[<-g,<-h]
  cases Dk (data.take (d+1)) v x <;> cases mnt d x <;> cases D8 (data.take (d+1)) v xs <;> simp
end
variable {t:Ai} {x:Ao} {s:ByteArray} {o:List (ByteArray×Bool)} {data:List Ao} {L:List ByteArray} {y:Lr} {a b d j:Nat} {R:Type} {Q:R->Prop}
theorem Alt:∀l:List Ai,(∀a∈l,a.R.length=0)->Cl l=l.length
 | [],_=>rfl
 | x::xs,h=>by have g:=h x ψ;simp only[Cl,Hj];rw[Alt xs λa q=>h a (by simp[q]),G3,F9.1 g];simp only[Cl];omega
theorem Aeu (v:data[d]? = some x) (f:x.V<=6) (h:Is t d x.V=true):Dk (data.take (d+1)) x.V t=true/\Bi t<=200:=by
 unfold Is at h;simp only[Dt,beq_iff_eq]at h;obtain⟨⟨⟨w,A⟩,B⟩,c⟩:=h;have g:∀a∈t.R,∃i:Nat,i<t.R.length/\a.G=4/\a.U=i/\a.R.length=0:=by intro a g;obtain⟨i,q⟩:=Kz g;have:=Mq c q;simp only[Nu,Dt,beq_iff_eq]at this;exact⟨i,Gp q,this.1.1,this.1.2,this.2⟩
 refine⟨?_,?_⟩
 .rw[S7,Alq,Dt];constructor
  .rw[w,A];unfold I6;simp[v,B]
  .rw[H7];intro a b;obtain⟨i,F,C,D,u⟩:=g a b;rw[S7,C,D,u,F9.1 u];unfold I6;simp[D8];omega
 .rw[G3,Alt _ λa h=>(g a h).choose_spec.2.2.2];omega
def I7 (data:List Ao) (d:Nat) (v:Int) (t:Ai):Bool:=Is t d v||(Dk (data.take d) v t&&decide (Bi t<=200))
theorem Av0 (g:data[d]? = some x) (b:x.V<=6) (t:Ai):((Dk (data.take (d+1)) x.V t&&decide (Bi t<=200))&&(Is t d x.V || !mnt d t))=I7 data d x.V t:=by unfold I7;cases h:Is t d x.V with| true=>obtain⟨q,u⟩:=Aeu g b h;rw[q,Ap u];rfl| false=>rw[<-Alr data d x.V t];cases Dk (data.take (d+1)) x.V t <;> cases decide (Bi t<=200) <;> simp
def SzD (data:List Ao):Prop:=∀x∈data,x.O.length<=1048576/\∀y∈x.O,Cl y.R<=1048576
theorem SzD.short (h:SzD data):Ht data:=λx hx y hy=>by have h1:=(h x hx).2 y hy;have h2:=Hs y.R;refine⟨ω,λa ha=>?_⟩;have h3:=G6 ha;have c:=G3 a;have b:=Hs a.R;omega
theorem Av1 (i:SzD data) (d c:Nat) (g:data[d]? = some x) (v:x.O[c]? = some y) (u:x.V<=6) (G:data.length<=1048576) : Om data d c=some (decide (y.R.length<=6)&&y.R.all (I7 data d x.V)):=by
 have b:=Gp g;have s:=(i x (B4 g)).2 y (B4 v);unfold Om;rw[Cp rfl g,Ag,Cp rfl v,Ag,Aet data d c i.short];by_cases q:y.R.length<=6
 .rw[Ax (ω:¬(y.R.length:Int)>6),Ap q];simp only[Av,Bool.true_and,Ag];refine (O3 y.R (I7 data d x.V) (λj=>(j:Int)) rfl ω (rt:=true) (rf:=false) ?_ ?_).trans (by rw[Qq])
  .intro j t w C D F;have z:=G6 (B4 w);have A:Af (Gw data d c) (j:Int)=some (Is t d x.V):=(by unfold Gw;simp only[Cp rfl g,Cp rfl v];rw[Cp rfl];simp[w]);simp only[C,D,F,Am,Ag,show Ac ((d:Int)+1)=((d+1:Nat):Int) from En b ω,Zo rfl (show d+1<=data.length from b),Cp rfl g,
    Zs (data.take (d+1)) t x.V ω,A];rw[<-Av0 g u t];cases k:(Dk (data.take (d+1)) x.V t&&decide (Bi t<=200)) with
   | false=>exact⟨nofun,λ_=>⟨.inl false,rfl,rfl⟩⟩
   | true=>
    have f:Bi t<=200:=(by simp only[Dt,E8]at k;exact k.2);simp only[Dn,Av,Bool.true_and];cases B:Is t d x.V with
    | true=>exact⟨λ_=>rfl,λh=>by cases h⟩
    | false=>simp only[Bool.not_false,Am,Avy d 200 t 4000000 f ω ω,Ag,Bool.false_or];cases mnt d t with| true=>exact⟨nofun,λ_=>⟨.inl false,rfl,rfl⟩⟩| false=>exact⟨λ_=>rfl,λh=>by cases h⟩
  .intro h;exact⟨.inr (),by simp only[h];rfl,rfl⟩
 .rw[Ap (ω:(y.R.length:Int)>6),Ax q];rfl
def bI (s:ByteArray) (i:Nat):Int:=if h:i<s.size then (s[i].toNat:Int) else 0
def loI (c:Int):Bool:=decide (97<=c)&&decide (c<=122)
def upI (c:Int):Bool:=decide (65<=c)&&decide (c<=90)
def diI (c:Int):Bool:=decide (48<=c)&&decide (c<=57)
def wiI (c:Int):Bool:=loI c||upI c||diI c||c==95
def Ff (s:ByteArray):Prop:=1<=s.size/\s.size<=24/\upI (bI s 0)=true/\∀i,i<s.size->wiI (bI s i)=true
theorem Ig {i:Int} {n:Nat} (hi:i=n) (h:n<s.size):∃c:UInt8,Fg s i=some c/\(c.toNat:Int)=bI s n:=by
 subst hi;refine⟨s[n],?_,?_⟩
 .unfold Fg;rw[Bc ω,show ((n:Int)).toNat=n from rfl];simp[h]
 .unfold bI;simp[h]
theorem Qs (hb:b<=s.size) (h:a+j<b):bI (s.extract a b) j=bI s (a+j):=by
 unfold bI;have g:j<(s.extract a b).size:=by rw[ByteArray.size_extract];omega
 rw[dif_pos g,dif_pos ω,ByteArray.getElem_extract]
theorem Mr {lo hi:Int} (g:lo=a) (h:hi=b) (q:a<=b) (c:b<=s.size):Eh s lo hi=some (s.extract a b):=by subst g;subst h;unfold Eh;rw[Bc ω];rfl
theorem Alu {a b:ByteArray} (h:a.toList=b.toList):a=b:=by rw[ByteArray.toList_eq,ByteArray.toList_eq]at h;have:a.data=b.data:=Array.toList_inj.1 h;cases a;cases b;simp at this;subst this;rfl
theorem Zu (a b:ByteArray):(a.toList==b.toList)=decide (a=b):=by
 by_cases h:a=b
 .subst h;simp
 .rw[Ax h];cases g:(a.toList==b.toList) with| false=>rfl| true=>exact absurd (Alu (by simpa using g)) h
theorem Aev (c:Int):Su c=some (loI c):=by unfold Su loI;by_cases h:(97:Int)<=c <;> simp[h]
theorem Aew (c:Int):Qf c=some (upI c):=by unfold Qf upI;by_cases h:(65:Int)<=c <;> simp[h]
theorem V8 (c:Int):Ou c=some (diI c):=by unfold Ou diI;by_cases h:(48:Int)<=c <;> simp[h]
theorem Alv (c:Int):Sv c=some (wiI c):=by unfold Sv wiI;rw[Aev,Aew,V8];simp only[Ag];cases loI c <;> cases upI c <;> cases diI c <;> rfl
theorem Av2 (c:Int):Vg c=some (loI c):=Aev c
theorem Av3 (c:Int):Sm c=some (upI c):=Aew c
theorem Av4 (c:Int):Sn c=some (diI c):=V8 c
theorem S8 {S E:Type} {step:S->Option (S⊕E)} (s:ByteArray) (p:Int->Bool) (b:Nat->S) (ex:Nat->E) (lo:Nat) (g:∀j,lo<=j->j<s.size->p (bI s j)=true->step (b j)=some (.inl (b (j+1)))) (q:∀j,lo<=j->j<s.size->p (bI s j)=false->step (b j)=some (.inr (ex j))) (u:step (b s.size)=some (.inr (ex s.size))) : ∀(m i:Nat),lo<=i->i+m=s.size->∃n,i<=n/\n<=s.size/\(∀j,i<=j->j<n->p (bI s j)=true)/\(n<s.size->p (bI s n)=false)/\Ak step (b i)=some (ex n):=by
 intro m;induction m with
 | zero=>intro i _ v;have:i=s.size:=ω;subst this;exact⟨s.size,ω,ω,λj _ _=>ω,λh=>ω,F5 u⟩
 | succ m ih=>
  intro i c v;cases hp:p (bI s i) with
  | true=>
   obtain⟨n,F,w,A,B,C⟩:=ih (i+1) ω ω;refine⟨n,ω,w,λj G D=>?_,B,by rw[Kr (g i c ω hp)];exact C⟩;rcases C9 i j with h|h
   .exact A j h D
   .have:j=i:=ω;subst this;exact hp
  | false=>exact⟨i,ω,ω,λj _ _=>ω,λ_=>hp,F5 (q i c ω hp)⟩
theorem Av5 (s:ByteArray) (f:s.size<1099511627776):∃n,n<=s.size/\(∀j,j<n->wiI (bI s j)=true)/\(n<s.size->wiI (bI s n)=false)/\Vq s=some (s.extract 0 n):=by
 have H:=S8 (step:=λh:Int=>bif h<(s.size:Int) then ((Fg s h).bind λA=>(Sv (A.toNat:Int)).bind λB=>bif B then some (.inl (Ac (h+1))) else some (.inr h)) else some (.inr h))
  s wiI (λj=>(j:Int)) (λj=>(j:Int)) 0 (λj _ g hp=>by
   obtain⟨c,q,u⟩:=Ig (s:=s) (i:=(j:Int)) rfl g
   simp only[Ap (ω:(j:Int)<(s.size:Int)),Am,q,Ag,u,Alv,hp,En g ω]) (λj _ g hp=>by
   obtain⟨c,q,u⟩:=Ig (s:=s) (i:=(j:Int)) rfl g
   simp only[Ap (ω:(j:Int)<(s.size:Int)),Am,q,Ag,u,Alv,hp,Av]) ψ s.size 0 ω ω
 obtain⟨n,_,w,C,D,v⟩:=H
 refine⟨n,w,λj g=>C j ω g,D,?_⟩
 unfold Vq
 have v:Ak _ (0:Int)=some (n:Int):=v
 rw[v,Ag,Mr (lo:=0) (a:=0) (b:=n) rfl rfl ω w];rfl
theorem Av6 (s:ByteArray) (f:s.size<1099511627776):∃n,n<=s.size/\(∀j,j<n->diI (bI s j)=true)/\(n<s.size->diI (bI s n)=false)/\Ze s=some (s.extract 0 n):=by
 have H:=S8 (step:=λh:Int=>bif h<(s.size:Int) then ((Fg s h).bind λA=>(Ou (A.toNat:Int)).bind λB=>bif B then some (.inl (Ac (h+1))) else some (.inr h)) else some (.inr h))
  s diI (λj=>(j:Int)) (λj=>(j:Int)) 0 (λj _ g hp=>by
   obtain⟨c,q,u⟩:=Ig (s:=s) (i:=(j:Int)) rfl g
   simp only[Ap (ω:(j:Int)<(s.size:Int)),Am,q,Ag,u,V8,hp,En g ω]) (λj _ g hp=>by
   obtain⟨c,q,u⟩:=Ig (s:=s) (i:=(j:Int)) rfl g
   simp only[Ap (ω:(j:Int)<(s.size:Int)),Am,q,Ag,u,V8,hp,Av]) ψ s.size 0 ω ω
 obtain⟨n,_,w,C,D,v⟩:=H
 refine⟨n,w,λj g=>C j ω g,D,?_⟩
 unfold Ze
 have v:Ak _ (0:Int)=some (n:Int):=v
 rw[v,Ag,Mr (lo:=0) (a:=0) (b:=n) rfl rfl ω w];rfl
theorem Ms {c:Bool} {X Y:Option R} (g:∃r,X=some r/\Q r) (h:∃r,Y=some r/\Q r):∃r,(bif c then X else Y)=some r/\Q r:=by cases c <;> assumption
theorem V9 {A:Type} {X:Option A} {f:A->Option R} (P:A->Prop) (g:∃a,X=some a/\P a) (q:∀a,P a->∃r,f a=some r/\Q r):∃r,X.bind f=some r/\Q r:=by obtain⟨a,e,h⟩:=g;rw[e];exact q a h
theorem Av7 (s:ByteArray):∃b,Vr s=some b/\True:=by unfold Vr;repeat' first|refine Ms ?_ ?_|exact⟨_,rfl,trivial⟩
theorem Av8 (s:ByteArray) (g:1<=s.size):∃r,Vt s=some r/\(r.size<=s.size):=by
 have i:Eh s 0 1=some (s.extract 0 1):=Mr rfl rfl ω g;have c:(s.extract 0 1).size<=s.size:=by rw[ByteArray.size_extract];omega
 unfold Vt;refine V9 (λz=>∀r,z = .inl r->r.size<=s.size) ?_ ?_
 .by_cases q:2<=s.size
  .have f:Eh s 0 2=some (s.extract 0 2):=Mr rfl rfl ω q;have b:∀r,(Sum.inl (s.extract 0 2):ByteArray⊕Unit) = .inl r->r.size<=s.size:=(by rintro r ⟨⟩;rw[ByteArray.size_extract];omega);simp only[f,Ag];repeat' first|refine Ms ?_ ?_|with_reducible exact⟨_,rfl,b⟩|exact⟨_,rfl,λr h=>by cases h⟩
  .rw[Ax ω];exact⟨_,rfl,λr h=>by cases h⟩
 .rintro (r|u) j
  .exact⟨_,rfl,j r rfl⟩
  .simp only[i,Ag];have v:(ByteArray.mk #[]).size<=s.size:=Nat.zero_le _;repeat' first|refine Ms ?_ ?_|with_reducible exact⟨_,rfl,c⟩|with_reducible exact⟨_,rfl,v⟩
theorem Av9 (s:ByteArray) (f:s.size<1099511627776):∃b,Vs s=some b/\True:=by
 unfold Vs;refine F4 (λ(_,i)=>∃j:Nat,i=j/\j<=s.size) (λ(_,i)=>s.size-i.toNat) (λ_=>True) ⟨0,rfl,ω⟩ ?_ ?_
 .rintro⟨v,i⟩ ⟨j,rfl,q⟩;rcases C9 j s.size with h|h
  .obtain⟨c,g,_⟩:=Ig (s:=s) (i:=(j:Int)) rfl h;simp only[Ap (ω:(j:Int)<(s.size:Int)),Am,g,Ag,En h ω];cases decide (Ac (Ac (v*10)+Ac (wu8 ((c.toNat:Int)-48)))>1000000) with| true=>exact .inr ⟨_,rfl,trivial⟩| false=>exact .inl ⟨_,rfl,⟨j+1,rfl,ω⟩,ζ⟩
  .have:j=s.size:=ω;subst this;exact .inr ⟨.inr (),ψ,trivial⟩
 .rintro (r|u) _ <;> exact⟨_,rfl,trivial⟩
theorem Awa (s:ByteArray) (i:Nat) (hi:i<s.size) (O:s.size<1099511627776) : ∃r,Vk s i=some r/\(r.2=0->1<=r.1.Text.size/\i+r.1.Text.size<=s.size/\(r.1.G=2->Ff r.1.Text))/\(Ff s->i=0->r=(⟨2,s,0⟩,0)):=by
 obtain⟨c,K,P⟩:=Ig (s:=s) (i:=(i:Int)) rfl hi;have y:Eh s (i:Int) (s.size:Int)=some (s.extract i s.size):=Mr rfl rfl ω ω;have L:(s.extract i s.size).size=s.size-i:=by rw[ByteArray.size_extract];omega
 have z:bI (s.extract i s.size) 0=bI s i:=Qs ω ω;unfold Vk;simp only[K,Ag,P,Aev,Aew,V8,y];have J:(bif loI (bI s i) then some true else some (upI (bI s i)))=some (loI (bI s i)||upI (bI s i)):=by cases loI (bI s i) <;> rfl
 rw[J];simp only[Ag];cases u:(loI (bI s i)||upI (bI s i)) with
 | true=>
  obtain⟨n,T,G,A,C⟩:=Av5 (s.extract i s.size) ω;have D:1<=n:=by
   rcases Nat.eq_zero_or_pos n with h|h
   .subst h;have:=A ω;rw[z]at this;unfold wiI at this;rw[u]at this;cases this
   .exact h
  have F:(s.extract i s.size).extract 0 n=s.extract i (i+n):=(by rw[ByteArray.extract_extract];congr 1;omega);have x:(s.extract i (i+n)).size=n:=(by rw[ByteArray.size_extract];omega);rw[F]at C;simp only[Am,C,Ag,x];have k:Ff s->i=0->n=s.size:=by
   intro g w;rcases C9 n s.size with h|h
   .have:=A ω;rw[Qs ω ω,g.2.2.2 _ ω]at this;cases this
   .omega
  by_cases M:n<=24
  .rw[Ax ω];cases q:upI (bI s i) with
   | true=>
    refine⟨_,rfl,λ_=>⟨?_,?_,λ_=>⟨?_,?_,?_,?_⟩⟩,?_⟩
    .show 1<=(s.extract i (i+n)).size;omega
    .show i+(s.extract i (i+n)).size<=s.size;omega
    .show 1<=(s.extract i (i+n)).size;omega
    .show (s.extract i (i+n)).size<=24;omega
    .show upI (bI (s.extract i (i+n)) 0)=true;rw[Qs ω ω];exact q
    .show ∀j,j<(s.extract i (i+n)).size->wiI (bI (s.extract i (i+n)) j)=true;intro j V;rw[Qs ω ω];have:=G j ω;rw[Qs ω ω]at this;exact this
    .intro g w;have:=k g w;subst w;subst this;rw[Nat.zero_add,ByteArray.extract_zero_size];rfl
   | false=>obtain⟨b,H,_⟩:=Av7 (s.extract i (i+n));simp only[Av,H,Ag];have f:Ff s->i=0->False:=(by intro g w;subst w;rw[g.2.2.1]at q;cases q);cases b with| true=>exact⟨_,rfl,λ_=>⟨by show 1<=(s.extract i (i+n)).size;omega,by show i+(s.extract i (i+n)).size<=s.size;omega,λh=>by cases h⟩,λg w=>(f g w).elim⟩| false=>exact⟨_,rfl,λ_=>⟨by show 1<=(s.extract i (i+n)).size;omega,by show i+(s.extract i (i+n)).size<=s.size;omega,λh=>by cases h⟩,λg w=>(f g w).elim⟩
  .rw[Ap ω];refine⟨_,rfl,nofun,λg w=>?_⟩;have:=k g w;have:=g.2.1;omega
 | false=>
  have f:Ff s->i=0->False:=(by intro g w;subst w;rw[g.2.2.1,Bool.or_true]at u;cases u);simp only[Av];cases U:diI (bI s i) with
  | true=>
   obtain⟨n,T,G,A,C⟩:=Av6 (s.extract i s.size) ω;have D:1<=n:=by
    rcases Nat.eq_zero_or_pos n with h|h
    .subst h;have:=A ω;rw[z,U]at this;cases this
    .exact h
   have F:(s.extract i s.size).extract 0 n=s.extract i (i+n):=(by rw[ByteArray.extract_extract];congr 1;omega);have x:(s.extract i (i+n)).size=n:=(by rw[ByteArray.size_extract];omega);rw[F]at C;obtain⟨b,H,_⟩:=Av9 (s.extract i (i+n)) ω;simp only[Am,C,Ag,H];refine V9 (λ_=>True) ?_ ?_
   .exact Ms ⟨_,rfl,trivial⟩ ⟨_,rfl,trivial⟩
   .intro v _;refine Ms ⟨_,rfl,nofun,λg w=>(f g w).elim⟩ (Ms ⟨_,rfl,nofun,λg w=>(f g w).elim⟩ ⟨_,rfl,λ_=>⟨?_,?_,λh=>by cases h⟩,λg w=>(f g w).elim⟩)
    .show 1<=(s.extract i (i+n)).size;omega
    .show i+(s.extract i (i+n)).size<=s.size;omega
  | false=>
   obtain⟨r,I,N⟩:=Av8 (s.extract i s.size) ω;simp only[Av,I,Ag];rw[Zu];by_cases B:r=ByteArray.mk #[]
   .rw[Ap B];exact⟨_,rfl,nofun,λg w=>(f g w).elim⟩
   .rw[Ax B];refine⟨_,rfl,λ_=>⟨?_,?_,λh=>by cases h⟩,λg w=>(f g w).elim⟩
    .show 1<=r.size;rcases Nat.eq_zero_or_pos r.size with h|h
     .have E:r.data.toList.length=0:=(by simpa using h);exact absurd (Alu (by rw[ByteArray.toList_eq,F9.1 E,ByteArray.toList_eq])) B
     .exact h
    .show i+r.size<=s.size;omega
theorem Awb (c:Int):Vj c=some (c==9||c==10||c==13||c==32):=by unfold Vj;cases c==9 <;> cases c==10 <;> cases c==13 <;> rfl
theorem Alw (s:ByteArray) (R:s.size<1099511627776):∃b,P1 s=some b/\(b=true↔Ff s):=by
 unfold P1 Y3
 by_cases A:(s.size:Int)>16384
 .rw[Ap A]
  refine⟨false,rfl,by simp;rintro⟨_,h,_⟩;omega⟩
 rw[Ax A]
 simp only[Av]
 refine V9 (λr:List Ix×Int×Int=>(r.2.2≠0/\¬Ff s)\/(r.2.2=0/\∃o e,r.1=o++[e]/\(∀t∈o,t.G=2->Ff t.Text)/\(Ff s->o = [⟨2,s,0⟩]))) ?_ ?_
 .refine F4 (λ(C,f)=>∃i:Nat,C=i/\i<=s.size/\f.length<=i/\(∀t∈f,t.G=2->Ff t.Text)/\(Ff s->(i=0/\f = [])\/(i=s.size/\f = [⟨2,s,0⟩])))
   (λ(C,_)=>s.size-C.toNat)
   (λz=>match z with|.inl o=>o.length<=16384/\(∀t∈o,t.G=2->Ff t.Text)/\(Ff s->o = [⟨2,s,0⟩]) | .inr (_,_,e)=>e≠0/\¬Ff s)
   ⟨0,rfl,ω,ψ,ψ,λ_=>.inl ⟨rfl,rfl⟩⟩ ?_ ?_
  .rintro⟨v,o⟩ ⟨i,rfl,hi,ho,F,hu⟩
   rcases C9 i s.size with h|h
   .obtain⟨c,H,K⟩:=Ig (s:=s) (i:=(i:Int)) rfl h
    have k:Ff s->i=0/\o = []:=λu=>by
     rcases hu u with g|g
     .exact g
     .omega
    simp only[Ap (ω:(i:Int)<(s.size:Int)),Am,H,Ag,K,Awb]
    cases I:(bI s i==9||bI s i==10||bI s i==13||bI s i==32) with
    | true=>
     have q:¬Ff s:=by
      intro u
      have h0:=(k u).1
      subst h0
      have:=u.2.2.1
      simp only[upI,Dt,E8]at this
      simp only[Bool.or_eq_true,beq_iff_eq]at I
      omega
     exact .inl ⟨(((i+1:Nat):Int),o),by simp only[Am];rw[En h ω],⟨i+1,rfl,ω,(by show o.length<=i+1;omega),F,λu=>(q u).elim⟩,ζ⟩
    | false=>
     simp only[Av]
     cases D:(bI s i==35) with
     | true=>
      have q:¬Ff s:=by
       intro u
       have h0:=(k u).1
       subst h0
       have:=u.2.2.1
       simp only[upI,Dt,E8]at this
       simp only[beq_iff_eq]at D
       omega
      simp only[Am]
      obtain⟨n,n1,Z,Y,n4,G⟩:=S8 (step:=λw:Int=>bif w<(s.size:Int) then ((Fg s w).bind λJ=>bif ((J.toNat:Int)==(10:Int)) then some (.inr (.inl w)) else some (.inl (Ac (w+1)))) else some (.inr (.inr w)))
       s (λc=>!(c==10)) (λj=>(j:Int)) (λj=>if j<s.size then Sum.inl (j:Int) else Sum.inr (j:Int)) 0 (λj _ P hp=>by
        obtain⟨c,H,K⟩:=Ig (s:=s) (i:=(j:Int)) rfl P
        simp only[Bool.not_eq_true']at hp
        simp only[Ap (ω:(j:Int)<(s.size:Int)),Am,H,Ag,K,hp,En P ω,Av]) (λj _ P hp=>by
        obtain⟨c,H,K⟩:=Ig (s:=s) (i:=(j:Int)) rfl P
        simp only[Bool.not_eq_false']at hp
        simp only[Ap (ω:(j:Int)<(s.size:Int)),Am,H,Ag,K,hp,Bc P]) ψ (s.size-i) i ω ω
      have S:i<n:=by
       rcases C9 i n with g|g
       .exact g
       .have:n=i:=ω
        subst this
        have:=n4 h
        simp only[beq_iff_eq]at D
        rw[D]at this;cases this
      have G:Ak _ (i:Int)=_:=G
      rw[G,Ag]
      rcases C9 n s.size with g|g
      .rw[Bc g]
       exact .inl ⟨((n:Int),o),rfl,⟨n,rfl,ω,(by show o.length<=n;omega),F,λu=>(q u).elim⟩,ζ⟩
      .rw[Bb ω]
       exact .inr ⟨.inl o,rfl,ω,F,λu=>(q u).elim⟩
     | false=>
      obtain⟨r,O,N,L⟩:=Awa s i h R
      simp only[Av,O,Ag]
      by_cases E:r.2=0
      .obtain⟨a1,a2,a3⟩:=N E
       simp only[D3 E,Av]
       rw[Cy ζ,Ag]
       refine .inl ⟨(((i+r.1.Text.size:Nat):Int),o++[r.1]),?_,⟨i+r.1.Text.size,rfl,a2,ζ,?_,?_⟩,ζ⟩
       .rw[show Ac ((i:Int)+(r.1.Text.size:Int))=((i+r.1.Text.size:Nat):Int) by rw[Ac,B6] <;> omega]
       .intro t ht
        rcases Fi.1 ht with g|g
        .exact F t g
        .simp at g;subst g;exact a3
       .intro u
        obtain⟨b1,b2⟩:=k u
        have:=L u b1
        subst b1;subst b2;subst this
        exact .inr ⟨ψ,rfl⟩
      .simp only[D2 E,Am]
       refine .inr ⟨_,rfl,E,λu=>?_⟩
       rw[L u (k u).1]at E
       exact E rfl
   .have:i=s.size:=ω
    subst this
    refine .inr ⟨.inl o,ψ,ω,F,λu=>?_⟩
    rcases hu u with⟨g,_⟩|⟨_,g⟩
    .have:=u.1;omega
    .exact g
  .rintro (o|⟨l,p,e⟩) M
   .obtain⟨X,z2,z3⟩:=M
    simp only
    rw[Cy ζ,Ag]
    exact⟨_,rfl,.inr ⟨rfl,o,_,rfl,z2,z3⟩⟩
   .exact⟨_,rfl,.inl M⟩
 .rintro⟨l,p,e⟩ (⟨T,h2⟩|⟨T,o,t,h2,h3,B⟩)
  .simp only at T
   simp only[Da T,Av]
   exact⟨_,rfl,by simp[h2]⟩
  .simp only at T h2
   subst T;subst h2
   simp only[beq_self_eq_true,Am]
   match o,h3,B with
   | [],_,B=>exact⟨false,ψ,by simp;intro u;cases B u⟩
   | [x],h3,B=>
    have V:Af ([x]++[t]) 0=some x:=rfl
    simp only[V,Ag,Zu]
    have U:((([x]++[t]).length:Int)==2)=true:=rfl
    simp only[U,Am]
    by_cases W:x.G=2
    .simp only[E5 W,Am]
     refine⟨_,rfl,?_⟩
     rw[decide_eq_true_iff]
     constructor
     .intro h;rw[<-h];exact h3 x ψ W
     .intro u;have:=B u;simp at this;rw[this]
    .simp only[Da W,Av]
     refine⟨_,rfl,?_⟩
     simp only[Bool.false_eq_true,false_iff]
     intro u;have:=B u;simp at this;rw[this]at W;exact W rfl
   | x::y::ys,_,B=>
    refine⟨false,?_,by simp;intro u;have:=B u;simp at this⟩
    rw[Da]
    .rfl
    .simp;omega
theorem Awc (s:ByteArray):∃b,Y7 s=some b/\True:=by
 have g:∀(L:List ByteArray),L.length<1000->∃b,((Ak (S:=Int) (E:=(Bool⊕Unit)) (λq=>bif q<(L.length:Int) then ((Af L q).bind λu=>bif (u.toList==s.toList) then some (.inr (.inl true)) else some (.inl (Ac (q+1)))) else some (.inr (.inr ()))) 0).bind λz=>match z with|.inl c=>some c | .inr _=>some false)=some b/\True:=by
  intro L f;refine⟨_,O3 L (λv=>!(v.toList==s.toList)) (λj=>(j:Int)) rfl ω (rt:=false) (rf:=true) ?_ ?_,trivial⟩
  .intro j x C w A B;simp only[w,A,B,Am,Ag];cases (x.toList==s.toList) with| true=>exact⟨nofun,λ_=>⟨_,rfl,rfl⟩⟩| false=>exact⟨λ_=>rfl,λh=>by cases h⟩
  .intro h;exact⟨.inr (),by simp only[h];rfl,rfl⟩
 exact g _ δ
theorem Awd (s:ByteArray) (g:1<=s.size) (T:ByteArray) (y:T.size<1000):∃r,((Ak (S:=Int) (E:=(Int⊕Unit)) (λb=>bif b<(T.size:Int) then ((Fg s 0).bind λx=>(Fg T b).bind λq=>bif ((x.toNat:Int)==(q.toNat:Int)) then some (.inr (.inl 1)) else some (.inl (Ac (b+1)))) else some (.inr (.inr ()))) 0).bind λz=>match z with|.inl f=>some f | .inr _=>some 0)=some r/\(r=0\/(1<=r/\r<=s.size)):=by
 refine F4 (λi=>∃j:Nat,i=j/\j<=T.size) (λi=>T.size-i.toNat) (λz=>∀r,z = .inl r->r=1) ⟨0,rfl,ω⟩ ?_ ?_
 .rintro i ⟨j,rfl,w⟩;rcases C9 j T.size with h|h
  .obtain⟨c,v,_⟩:=Ig (s:=T) (i:=(j:Int)) rfl h;obtain⟨d,d1,_⟩:=Ig (s:=s) (i:=0) (n:=0) rfl g;simp only[Ap (ω:(j:Int)<(T.size:Int)),Am,v,d1,Ag,En h ω];cases ((d.toNat:Int)==(c.toNat:Int)) with| true=>exact .inr ⟨_,rfl,λr h=>by cases h;rfl⟩| false=>exact .inl ⟨_,rfl,⟨j+1,rfl,ω⟩,ζ⟩
  .have:j=T.size:=ω;subst this;exact .inr ⟨.inr (),ψ,λr h=>by cases h⟩
 .rintro (r|u) k
  .exact⟨r,rfl,.inr (by have:=k r rfl;omega)⟩
  .exact⟨0,rfl,.inl rfl⟩
theorem Awe (s:ByteArray) (q:1<=s.size):∃r,Vi s=some r/\(r=0\/(1<=r/\r<=s.size)):=by
 unfold Vi;refine V9 (λb=>b=true->2<=s.size) ?_ ?_
 .by_cases g:2<=s.size
  .have c:Eh s 0 2=some (s.extract 0 2):=Mr rfl rfl ω g;simp only[c,Ag];repeat' first|refine Ms ?_ ?_|exact⟨_,rfl,λ_=>g⟩
  .rw[Ax ω];exact⟨_,rfl,λh=>by cases h⟩
 .rintro b u;cases b with| true=>exact⟨2,rfl,.inr ⟨ω,by have:=u rfl;omega⟩⟩| false=>exact Awd s q _ δ
theorem Awf (s:ByteArray) (k:s.size<1099511627776):∃b,Vh s=some b/\True:=by
 unfold Vh;refine F4 (λ(_,i)=>∃j:Nat,i=j/\j<=s.size) (λ(_,i)=>s.size-i.toNat) (λ_=>True) ⟨0,rfl,ω⟩ ?_ ?_
 .rintro⟨v,i⟩ ⟨j,rfl,q⟩;rcases C9 j s.size with h|h
  .obtain⟨c,g,_⟩:=Ig (s:=s) (i:=(j:Int)) rfl h;simp only[Ap (ω:(j:Int)<(s.size:Int)),Am,g,Ag,En h ω];cases decide (Ac (Ac (v*10)+Ac (wu8 ((c.toNat:Int)-48)))>1000000) with| true=>exact .inr ⟨_,rfl,trivial⟩| false=>exact .inl ⟨_,rfl,⟨j+1,rfl,ω⟩,ζ⟩
  .have:j=s.size:=ω;subst this;exact .inr ⟨.inr v,ψ,trivial⟩
 .rintro (⟨r,f⟩|u) _ <;> exact⟨_,rfl,trivial⟩
theorem Alx (s:ByteArray) (hs:s.size<1099511627776):∃b,Py s=some b/\(b=true↔Ff s):=by
 unfold Py Yy
 by_cases J:(s.size:Int)>16384
 .rw[Ap J]
  refine⟨false,rfl,by simp;rintro⟨_,h,_⟩;omega⟩
 rw[Ax J]
 simp only[Av]
 refine V9 (λr:List Jk×Int×Int=>(r.2.2≠0/\¬Ff s)\/(r.2.2=0/\∃o e,r.1=o++[e]/\(∀t∈o,t.G=2->Ff t.Text)/\(Ff s->o = [⟨2,s,0⟩]))) ?_ ?_
 .refine F4 (λ(W,I)=>∃i:Nat,W=i/\i<=s.size/\I.length<=i/\(∀t∈I,t.G=2->Ff t.Text)/\(Ff s->(i=0/\I = [])\/(i=s.size/\I = [⟨2,s,0⟩])))
   (λ(W,_)=>s.size-W.toNat)
   (λz=>match z with|.inr o=>o.length<=16384/\(∀t∈o,t.G=2->Ff t.Text)/\(Ff s->o = [⟨2,s,0⟩]) | .inl (_,_,e)=>e≠0/\¬Ff s)
   ⟨0,rfl,ω,ψ,ψ,λ_=>.inl ⟨rfl,rfl⟩⟩ ?_ ?_
  .rintro⟨v,o⟩ ⟨i,rfl,hi,ho,hk,hu⟩
   rcases C9 i s.size with h|h
   .obtain⟨c,C,F⟩:=Ig (s:=s) (i:=(i:Int)) rfl h
    have B:Ff s->i=0/\o = []:=λu=>by
     rcases hu u with g|g
     .exact g
     .omega
    have f:∀j:Nat,i<=j->j<=s.size->Ac ((i:Int)+((j:Int)-(i:Int)))=(j:Int):=λj _ _=>by rw[Ac,B6] <;> omega
    have U:(bif bI s i==9 then some true else bif bI s i==10 then some true else bif bI s i==13 then some true else some (bI s i==32))=some (bI s i==9||bI s i==10||bI s i==13||bI s i==32):=by
     cases bI s i==9 <;> cases bI s i==10 <;> cases bI s i==13 <;> rfl
    have hw:(bif loI (bI s i) then some true else some (upI (bI s i)))=some (loI (bI s i)||upI (bI s i)):=by cases loI (bI s i) <;> rfl
    simp only[Ap (ω:(i:Int)<(s.size:Int)),Am,C,Ag,F,U,Av2,Av3,Av4,hw]
    cases U:(bI s i==9||bI s i==10||bI s i==13||bI s i==32) with
    | true=>
     have k:¬Ff s:=by
      intro u
      have T:=(B u).1
      subst T
      have:=u.2.2.1
      simp only[upI,Dt,E8]at this
      simp only[Bool.or_eq_true,beq_iff_eq]at U
      omega
     exact .inl ⟨(((i+1:Nat):Int),o),by simp only[Am];rw[En h ω],⟨i+1,rfl,ω,(by show o.length<=i+1;omega),hk,λu=>(k u).elim⟩,ζ⟩
    | false=>
     simp only[Av]
     cases R:(bI s i==35) with
     | true=>
      have k:¬Ff s:=by
       intro u
       have T:=(B u).1
       subst T
       have:=u.2.2.1
       simp only[upI,Dt,E8]at this
       simp only[beq_iff_eq]at R
       omega
      simp only[Am]
      obtain⟨n,n1,E,n3,n4,D⟩:=S8 (step:=λK:Int=>bif K<(s.size:Int) then ((Fg s K).bind λah=>bif ((ah.toNat:Int) != (10:Int)) then some (.inl (Ac (K+1))) else some (.inr K)) else some (.inr K))
       s (λc=>c != 10) (λj=>(j:Int)) (λj=>(j:Int)) 0 (λj _ H hp=>by
        obtain⟨c,C,F⟩:=Ig (s:=s) (i:=(j:Int)) rfl H
        simp only[Ap (ω:(j:Int)<(s.size:Int)),Am,C,Ag,F,hp,En H ω]) (λj _ H hp=>by
        obtain⟨c,C,F⟩:=Ig (s:=s) (i:=(j:Int)) rfl H
        simp only[Ap (ω:(j:Int)<(s.size:Int)),Am,C,Ag,F,hp,Av]) ψ (s.size-i) i ω ω
      have ai:i<n:=by
       rcases C9 i n with g|g
       .exact g
       .have:n=i:=ω
        subst this
        have:=n4 h
        simp only[beq_iff_eq]at R
        rw[R]at this;cases this
      have D:Ak _ (i:Int)=_:=D
      rw[D,Ag]
      exact .inl ⟨((n:Int),o),rfl,⟨n,rfl,ω,(by show o.length<=n;omega),hk,λu=>(k u).elim⟩,ζ⟩
     | false=>
      simp only[Av]
      cases S:(loI (bI s i)||upI (bI s i)) with
      | true=>
       simp only[Am]
       obtain⟨n,n1,E,n3,n4,D⟩:=S8 (step:=λw:Int=>bif (Ac ((i:Int)+w))<(s.size:Int) then ((Fg s (Ac ((i:Int)+w))).bind λag=>(some (loI (ag.toNat:Int))).bind λa8=>
         bif a8 then some (.inl (Ac (w+1))) else ((Fg s (Ac ((i:Int)+w))).bind λaf=>(some (upI (af.toNat:Int))).bind λa7=>bif a7 then some (.inl (Ac (w+1))) else
         ((Fg s (Ac ((i:Int)+w))).bind λae=>(some (diI (ae.toNat:Int))).bind λa6=>bif a6 then some (.inl (Ac (w+1))) else ((Fg s (Ac ((i:Int)+w))).bind λad=>bif ((ad.toNat:Int)==(95:Int)) then some (.inl (Ac (w+1))) else some (.inr w))))) else some (.inr w))
        s wiI (λj=>(j:Int)-(i:Int)) (λj=>(j:Int)-(i:Int)) i (λj A H hp=>by
         obtain⟨c,C,F⟩:=Ig (s:=s) (i:=(j:Int)) rfl H
         have V:Ac ((j:Int)-(i:Int)+1)=((j+1:Nat):Int)-(i:Int):=by rw[Ac,B6] <;> omega
         simp only[f j A ω,Ap (ω:(j:Int)<(s.size:Int)),Am,C,Ag,F,V]
         unfold wiI at hp
         revert hp
         cases loI (bI s j) <;> cases upI (bI s j) <;> cases diI (bI s j) <;> cases (bI s j==95) <;> simp) (λj A H hp=>by
         obtain⟨c,C,F⟩:=Ig (s:=s) (i:=(j:Int)) rfl H
         simp only[f j A ω,Ap (ω:(j:Int)<(s.size:Int)),Am,C,Ag,F]
         unfold wiI at hp
         revert hp
         cases loI (bI s j) <;> cases upI (bI s j) <;> cases diI (bI s j) <;> cases (bI s j==95) <;> simp) (by
         simp only[f s.size hi ω];simp) (s.size-(i+1)) (i+1) ω ω
       have Z:((i+1:Nat):Int)-(i:Int)=1:=ω
       simp only[Z]at D
       simp only[Ag]at D
       rw[D,Ag]
       have q:Eh s (i:Int) (Ac ((i:Int)+((n:Int)-(i:Int))))=some (s.extract i n):=by rw[f n ω E];exact Mr rfl rfl ω E
       have X:(s.extract i n).size=n-i:=by rw[ByteArray.size_extract];omega
       have Y:∀j,i<=j->j<n->wiI (bI s j)=true:=λj a1 a2=>by
        rcases C9 i j with g|g
        .exact n3 j g a2
        .have:j=i:=ω
         subst this;unfold wiI;rw[S];rfl
       have G:Ff s->n=s.size:=by
        intro u
        rcases C9 n s.size with g|g
        .have:=n4 g
         rw[u.2.2.2 _ g]at this;cases this
        .omega
       by_cases aj:n-i<=24
       .rw[Ax ω]
        simp only[Av]
        cases O:upI (bI s i) with
        | true=>
         simp only[Am,Ag,q]
         rw[Cy ζ,Ag,f n ω E]
         refine .inl ⟨_,rfl,⟨n,rfl,E,ζ,?_,?_⟩,ζ⟩
         .intro t ht
          rcases Fi.1 ht with g|g
          .exact hk t g
          .simp only[Fx]at g
           subst g
           intro _
           refine⟨?_,?_,?_,?_⟩
           .show 1<=(s.extract i n).size;omega
           .show (s.extract i n).size<=24;omega
           .show upI (bI (s.extract i n) 0)=true
            rw[Qs ω ω];exact O
           .show ∀j,j<(s.extract i n).size->wiI (bI (s.extract i n) j)=true
            intro j H
            rw[Qs ω ω]
            exact Y _ ω ω
         .intro u
          obtain⟨b1,b2⟩:=B u
          have hf:=G u
          subst b1;subst b2;subst hf
          rw[ByteArray.extract_zero_size]
          exact .inr ⟨rfl,rfl⟩
        | false=>
         obtain⟨b,hb,_⟩:=Awc (s.extract i n)
         have k:¬Ff s:=by
          intro u
          have T:=(B u).1
          subst T
          rw[u.2.2.1]at O;cases O
         have ab:∃N:Int,(bif b then some 4 else some 1:Option Int)=some N/\N≠2:=by cases b <;> exact⟨_,rfl,δ⟩
         obtain⟨N,k1,k2⟩:=ab
         simp only[Av,Ag,q,hb,k1]
         rw[Cy ζ,Ag,f n ω E]
         refine .inl ⟨_,rfl,⟨n,rfl,E,ζ,?_,λu=>(k u).elim⟩,ζ⟩
         intro t ht
         rcases Fi.1 ht with g|g
         .exact hk t g
         .simp only[Fx]at g
          subst g
          intro g;exact absurd g k2
       .rw[Ap ω]
        refine .inr ⟨_,rfl,(by show (9:Int)≠0;decide),λu=>?_⟩
        have:=G u
        have:=u.2.1
        have:=(B u).1
        omega
      | false=>
       have k:¬Ff s:=by
        intro u
        have T:=(B u).1
        subst T
        rw[u.2.2.1,Bool.or_true]at S;cases S
       have L:∀(n:Nat) (N:Int),i<n->n<=s.size->N≠2->∃s':Int×List Jk,(Bl 32 o [(Jk.mk N (s.extract i n) i)]).bind (λaa=>(some (Sum.inl ((n:Int),aa)):Option ((Int×List Jk)⊕((List Jk×Int×Int)⊕List Jk))))=some (.inl s') /\
         (∃j:Nat,s'.1=j/\j<=s.size/\s'.2.length<=j/\(∀t∈s'.2,t.G=2->Ff t.Text)/\(Ff s->(j=0/\s'.2 = [])\/(j=s.size/\s'.2 = [⟨2,s,0⟩])))/\s.size-s'.1.toNat<s.size-i:=by
        intro n N a1 a2 a3
        rw[Cy ζ,Ag]
        refine⟨_,rfl,⟨n,rfl,a2,ζ,?_,λu=>(k u).elim⟩,ζ⟩
        intro t ht
        rcases Fi.1 ht with g|g
        .exact hk t g
        .simp only[Fx]at g
         subst g
         intro g;exact absurd g a3
       simp only[Av]
       cases hd:diI (bI s i) with
       | true=>
        simp only[Am]
        obtain⟨n,n1,E,n3,n4,D⟩:=S8 (step:=λP:Int=>bif (Ac ((i:Int)+P))<(s.size:Int) then ((Fg s (Ac ((i:Int)+P))).bind λac=>(some (diI (ac.toNat:Int))).bind λa0=>
          bif a0 then some (.inl (Ac (P+1))) else some (.inr P)) else some (.inr P))
         s diI (λj=>(j:Int)-(i:Int)) (λj=>(j:Int)-(i:Int)) i (λj A H hp=>by
          obtain⟨c,C,F⟩:=Ig (s:=s) (i:=(j:Int)) rfl H
          have V:Ac ((j:Int)-(i:Int)+1)=((j+1:Nat):Int)-(i:Int):=by rw[Ac,B6] <;> omega
          simp only[f j A ω,Ap (ω:(j:Int)<(s.size:Int)),Am,C,Ag,F,V,hp]) (λj A H hp=>by
          obtain⟨c,C,F⟩:=Ig (s:=s) (i:=(j:Int)) rfl H
          simp only[f j A ω,Ap (ω:(j:Int)<(s.size:Int)),Am,C,Ag,F,hp,Av]) (by
          simp only[f s.size hi ω];simp) (s.size-(i+1)) (i+1) ω ω
        have Z:((i+1:Nat):Int)-(i:Int)=1:=ω
        simp only[Z]at D
        simp only[Ag]at D
        rw[D,Ag]
        have q:Eh s (i:Int) (n:Int)=some (s.extract i n):=Mr rfl rfl ω E
        have X:(s.extract i n).size=n-i:=by rw[ByteArray.size_extract];omega
        obtain⟨b,hb,_⟩:=Awf (s.extract i n) ω
        obtain⟨b',a4⟩:∃b':Bool,(bif decide ((n:Int)-(i:Int)>1) then some (bI s i==48) else some false)=some b':=by cases decide ((n:Int)-(i:Int)>1) <;> exact⟨_,rfl⟩
        simp only[a4,Ag,q,hb,f n ω E]
        cases b' with
        | true=>exact .inr ⟨_,rfl,(by show (2:Int)≠0;decide),k⟩
        | false=>
         simp only[Av]
         cases b.2 with
         | true=>exact .inl (L n 3 ω E δ)
         | false=>exact .inr ⟨_,rfl,(by show (9:Int)≠0;decide),k⟩
       | false=>
        have q:Eh s (i:Int) (s.size:Int)=some (s.extract i s.size):=Mr rfl rfl ω ω
        have X:(s.extract i s.size).size=s.size-i:=by rw[ByteArray.size_extract];omega
        obtain⟨r,r1,r2⟩:=Awe (s.extract i s.size) ω
        simp only[Av,q,Ag,r1]
        by_cases T:r=0
        .subst T
         exact .inr ⟨_,rfl,(by show (2:Int)≠0;decide),k⟩
        .simp only[Da T,Av]
         obtain⟨m,hm⟩:∃m:Nat,r=m:=⟨r.toNat,ω⟩
         subst hm
         have V:Ac ((i:Int)+(m:Int))=((i+m:Nat):Int):=by rw[Ac,B6] <;> omega
         rw[V,Mr (s:=s) (lo:=(i:Int)) (hi:=((i+m:Nat):Int)) rfl rfl ω ω,Ag]
         exact .inl (L (i+m) 5 ω ω δ)
   .have:i=s.size:=ω
    subst this
    refine .inr ⟨.inr o,ψ,ω,hk,λu=>?_⟩
    rcases hu u with⟨g,_⟩|⟨_,g⟩
    .have:=u.1;omega
    .exact g
  .rintro (⟨l,p,e⟩|o) hz
   .exact⟨_,rfl,.inl hz⟩
   .obtain⟨z1,z2,z3⟩:=hz
    simp only
    rw[Cy ζ,Ag]
    exact⟨_,rfl,.inr ⟨rfl,o,_,rfl,z2,z3⟩⟩
 .rintro⟨l,p,e⟩ (⟨h1,h2⟩|⟨h1,o,t,h2,h3,M⟩)
  .simp only at h1
   simp only[Da h1,Av]
   exact⟨_,rfl,by simp[h2]⟩
  .simp only at h1 h2
   subst h1;subst h2
   simp only[beq_self_eq_true,Am]
   match o,h3,M with
   | [],_,M=>exact⟨false,ψ,by simp;intro u;cases M u⟩
   | [x],h3,M=>
    have Z:Af ([x]++[t]) 0=some x:=rfl
    simp only[Z,Ag,Zu]
    have V:((([x]++[t]).length:Int)==2)=true:=rfl
    simp only[V,Am]
    by_cases hx:x.G=2
    .simp only[E5 hx,Am]
     refine⟨_,rfl,?_⟩
     rw[decide_eq_true_iff]
     constructor
     .intro h;rw[<-h];exact h3 x ψ hx
     .intro u;have:=M u;simp at this;rw[this]
    .simp only[Da hx,Av]
     refine⟨_,rfl,?_⟩
     simp only[Bool.false_eq_true,false_iff]
     intro u;have:=M u;simp at this;rw[this]at hx;exact hx rfl
   | x::y::ys,_,M=>
    refine⟨false,?_,by simp;intro u;have:=M u;simp at this⟩
    rw[Da]
    .rfl
    .simp;omega
def Qt (data:List Ao) (d:Nat) (v:Int) (y:Lr):Prop:=Ff y.S/\y.R.length<=6/\y.R.all (I7 data d v)=true
def O5 (data:List Ao) (d:Nat) (x:Ao):Prop:=0<=x.V/\x.V<=6/\1<=x.O.length/\x.O.length<=8/\Ff x.S/\∀y∈x.O,Qt data d x.V y
def Gr (x:Ao):List ByteArray:=x.O.map (·.S)
def G4 (data:List Ao):Prop:=data.length<=12/\(∀d x,data[d]? = some x->O5 data d x)/\(data.map (·.S)).Nodup/\(data.flatMap Gr).Nodup
structure DSz (data:List Ao):Prop where
 len:data.length<=1048576
 sz:SzD data
 nm:∀x∈data,x.S.size<=1048576
 cn:∀x∈data,∀y∈x.O,y.S.size<=1048576
theorem Wa (a b:ByteArray):(a==b)=true↔a=b:=by
 constructor
 .intro h;cases a with|mk a=>cases b with|mk b=>
  have:a=b:=(by exact eq_of_beq h);rw[this]
 .rintro rfl;cases a with|mk a=>exact beq_self_eq_true a
def Jv (o:List (ByteArray×Bool)) (L:List ByteArray):Prop:=(∀p∈o,p.2=true)/\∀s,Ep o s=true↔s∈L
theorem Jv.nil:Jv [] []:=⟨ψ,by simp[Ep]⟩
theorem Jv.get (h:Jv o L) (b:Ep o s=true):I4 o s false=true:=by unfold I4;unfold Ep at b;rw[any_eq_true]at b;obtain⟨p,f,c⟩:=b;cases hf:o.find? (λp=>s==p.1) with| none=>exact absurd c (by have:=find?_eq_none.1 hf p f;simpa using this)| some q=>exact h.1 q (mem_of_find?_eq_some hf)
theorem Awg (o:List (ByteArray×Bool)) (s t:ByteArray) (v:Bool):Ep (F6 o s v) t=(Ep o t||t==s):=by
 induction o with
 | nil=>simp[F6,Ep]
 | cons p o ih=>unfold F6;cases hp:(s==p.1) with| true=>have:s=p.1:=(Wa _ _).1 hp;subst this;simp only[Am,Ep,any_cons];cases t==p.1 <;> simp| false=>simp only[Ep,any_cons]at ih ⊢;simp only[Av,any_cons,ih,Bool.or_assoc]
theorem Jv.put (h:Jv o L) (s:ByteArray):Jv (F6 o s true) (L++[s]):=by
 refine⟨?_,λt=>?_⟩
 .have:∀o:List (ByteArray×Bool),(∀p∈o,p.2=true)->∀p∈F6 o s true,p.2=true:=by
   intro o;induction o with
   | nil=>intro _ p hp;simp[F6]at hp;rw[hp]
   | cons q o ih=>
    intro b p hp;unfold F6 at hp;cases g:(s==q.1) with
    | true=>
     rw[g]at hp;simp only[Am,Iq]at hp;rcases hp with rfl|hp
     .rfl
     .exact b p (by simp[hp])
    | false=>
     rw[g]at hp;simp only[Av,Iq]at hp;rcases hp with rfl|hp
     .exact b _ ψ
     .exact ih (λp hp=>b p (by simp[hp])) p hp
  exact this o h.1
 .rw[Awg,Bool.or_eq_true,h.2 t,Wa];simp
theorem Awh (x:Ao) {c:Nat} (g:x.O[c]? = some y):Gr x=(x.O.take c).map (·.S)++y.S::(x.O.drop (c+1)).map (·.S):=by
 have h:=take_append_drop c x.O
 have q:=Gp g
 have e:x.O.drop c=y::x.O.drop (c+1):=by
  rw[drop_eq_getElem_cons q]
  rw[Cs q]at g
  rw[Fe g]
 unfold Gr
 conv=>lhs;rw[<-h,e]
 simp
theorem Aly {m:List ByteArray} (h:(L++s::m).Nodup):s ∉ L:=by rw[nodup_append]at h;intro b;exact h.2.2 s b s ψ rfl
theorem Aex (h:L.Nodup) (c:s ∉ L):(L++[s]).Nodup:=by rw[nodup_append];refine⟨h,ψ,?_⟩;intro a q b g;simp at g;subst g;intro e;subst e;exact c q
theorem Awi (u:DSz data) (U:data[d]? = some x) (J:x.V<=6) (o:List (ByteArray×Bool)) (L:List ByteArray) (hm:Jv o L) (N:L.Nodup) : ∃z,Ak (S:=(Int×List (ByteArray×Bool))) (E:=(Bool⊕(Int×List (ByteArray×Bool)))) (λ(g,f)=> bif g<(x.O.length:Int) then ((Af x.O g).bind λw=> (P1 w.S).bind λB=> bif (!B) then some (.inr (.inl false)) else (bif (Ep f w.S) then (bif (I4 f w.S (false:Bool)) then some (.inr (.inl false)) else ((Om data d g).bind λA=> bif (!A) then some (.inr (.inl false)) else some (.inl ((Ac (g+1)),(F6 f w.S true))))) else ((Om data d g).bind λO=> bif (!O) then some (.inr (.inl false)) else some (.inl ((Ac (g+1)),(F6 f w.S true)))))) else some (.inr (.inr (g,f)))) (0,o)=some z /\ match z with
   | .inl r=>r=false/\¬((∀y∈x.O,Qt data d x.V y)/\(L++Gr x).Nodup)
   | .inr (_,o')=>(∀y∈x.O,Qt data d x.V y)/\(L++Gr x).Nodup/\Jv o' (L++Gr x):=by
 have H:=B4 U;have M:=(u.sz x H).1;refine Rs (λ(g,f)=>∃c:Nat,g=c/\c<=x.O.length/\(∀y∈x.O.take c,Qt data d x.V y)/\(L++(x.O.take c).map (·.S)).Nodup/\Jv f (L++(x.O.take c).map (·.S))) (λ(g,_)=>x.O.length-g.toNat) _ ?_ _ ⟨0,rfl,ω,ψ,by simpa using N,by simpa using hm⟩;rintro⟨v,f⟩ ⟨c,rfl,hc,P,T,C⟩;rcases C9 c x.O.length with h|h
 .have F:x.O[c]? = some x.O[c]:=Cs h;generalize x.O[c]=y at F;have q:=B4 F;obtain⟨b,b1,V⟩:=Alw y.S (by have:=u.cn x H y q;omega);have W:=C5 F;have G:L++Gr x=(L++(x.O.take c).map (·.S))++y.S::(x.O.drop (c+1)).map (·.S):=(by rw[Awh x F];simp);simp only[Ap (ω:(c:Int)<(x.O.length:Int)),Am,Cp rfl F,Ag,b1,Av1 u.sz d c U F J u.len,En h ω];cases b with
  | false=>refine .inr ⟨.inl false,rfl,rfl,λk=>?_⟩;have:=V.2 (k.1 y q).1;cases this
  | true=>
   simp only[Dn,Av];cases j:Ep f y.S with
   | true=>simp only[Am,C.get j];refine .inr ⟨.inl false,rfl,rfl,λk=>?_⟩;rw[G]at k;exact Aly k.2 ((C.2 _).1 j)
   | false=>
    simp only[Av];cases i:(decide (y.R.length<=6)&&y.R.all (I7 data d x.V)) with
    | false=>refine .inr ⟨.inl false,rfl,rfl,λk=>?_⟩;have:=k.1 y q;rw[this.2.2,Ap this.2.1]at i;cases i
    | true=>
     simp only[Dt,E8]at i;have D:y.S ∉ L++(x.O.take c).map (·.S):=λk=>by rw[(C.2 _).2 k]at j;cases j
     have e:L++(x.O.take (c+1)).map (·.S)=(L++(x.O.take c).map (·.S))++[y.S]:=(by rw[W];simp);refine .inl ⟨_,rfl,⟨c+1,rfl,ω,?_,?_,?_⟩,ζ⟩
     .intro I s;rw[W]at s;rcases Fi.1 s with K|K
      .exact P I K
      .simp at K;subst K;exact⟨V.1 rfl,i.1,i.2⟩
     .rw[e];exact Aex T D
     .rw[e];exact C.put _
 .have:c=x.O.length:=ω;subst this;rw[Dr]at P T C;exact .inr ⟨.inr ((x.O.length:Int),f),ψ,P,T,C⟩
theorem Awj (g:data[d]? = some x):data.flatMap Gr=((data.take d).flatMap Gr++Gr x)++(data.drop (d+1)).flatMap Gr/\data.map (·.S)=(data.take d).map (·.S)++x.S::(data.drop (d+1)).map (·.S):=by
 have h:=take_append_drop d data
 have q:=Gp g
 have e:data.drop d=x::data.drop (d+1):=by
  rw[drop_eq_getElem_cons q]
  rw[Cs q]at g
  rw[Fe g]
 constructor
 .conv=>lhs;rw[<-h,e]
  simp[flatMap_append]
 .conv=>lhs;rw[<-h,e]
  simp
theorem Awk (k:DSz data):∃b,U4 data=some b/\(b=true↔G4 data):=by
 have J:=k.len;unfold U4;rcases C9 12 data.length with H|H
 .rw[Ap ω];exact⟨false,rfl,by simp;intro h;have:=h.1;omega⟩
 rw[Ax ω];simp only[Av];refine F4 (λ(C,f,i)=>∃d:Nat,C=d/\d<=data.length/\(∀q x,q<d->data[q]? = some x->O5 data q x)/\((data.take d).map (·.S)).Nodup/\((data.take d).flatMap Gr).Nodup/\Jv f ((data.take d).map (·.S))/\Jv i ((data.take d).flatMap Gr)) (λ(C,_,_)=>data.length-C.toNat) (λz=>match z with|.inl r=>r=false/\¬G4 data | .inr _=>G4 data) ⟨0,rfl,ω,by intro q x h;omega,ψ,ψ,by simpa using Jv.nil,by simpa using Jv.nil⟩ ?_ ?_
 .rintro⟨v,f,i⟩ ⟨d,rfl,hd,W,K,P,E,X⟩;rcases C9 d data.length with h|h
  .have g:data[d]? = some data[d]:=Cs h;generalize data[d]=x at g;have T:=B4 g;obtain⟨b,b1,b2⟩:=Alw x.S (by have:=k.nm x T;omega);obtain⟨f1,f2⟩:=Awj g;simp only[Ap (ω:(d:Int)<(data.length:Int)),Am,Cp rfl g,Ag,b1];have w:∀(B:¬O5 data d x),∃e:Bool⊕(List (ByteArray×Bool)×List (ByteArray×Bool)),(some (Sum.inr (Sum.inl false)):Option ((Int×List (ByteArray×Bool)×List (ByteArray×Bool))⊕(Bool⊕(List (ByteArray×Bool)×List (ByteArray×Bool)))))=some (.inr e)/\(match e with|.inl r=>r=false/\¬G4 data | .inr _=>G4 data) :=
    λB=>⟨.inl false,rfl,rfl,λc=>B (c.2.1 d x g)⟩
   cases b with
   | false=>exact .inr (w λc=>by have:=b2.2 c.2.2.2.2.1;cases this)
   | true=>
    simp only[Dn,Av];cases j:Ep f x.S with
    | true=>simp only[Am,E.get j,Ag];refine .inr ⟨.inl false,rfl,rfl,λc=>?_⟩;have:=c.2.2.1;rw[f2]at this;exact Aly this ((E.2 _).1 j)
    | false=>
     simp only[Av];by_cases u:x.V<0
     .simp only[Ap u,Am,Ag];exact .inr (w λc=>by have:=c.1;omega)
     by_cases A:x.V>6
     .simp only[Ax u,Ap A,Am,Av,Ag];exact .inr (w λc=>by have:=c.2.1;omega)
     simp only[Ax u,Ax A,Av,Ag];by_cases y:(x.O.length:Int)<1
     .simp only[Ap y,Am,Ag];exact .inr (w λc=>by have:=c.2.2.1;omega)
     by_cases D:(x.O.length:Int)>8
     .simp only[Ax y,Ap D,Am,Av,Ag];exact .inr (w λc=>by have:=c.2.2.2.1;omega)
     simp only[Ax y,Ax D,Av,Ag];obtain⟨z,N,F⟩:=Awi k g ω i _ X P;rw[N,Ag]
     match z,F with
     | .inl r,F=>obtain⟨rfl,F⟩:=F;refine .inr ⟨.inl false,rfl,rfl,λc=>F ⟨(c.2.1 d x g).2.2.2.2.2,?_⟩⟩;have:=c.2.2.2;rw[f1]at this;exact (nodup_append.1 this).1
     | .inr (a0,G),F=>
      obtain⟨S,R,O⟩:=F;have ht:=C5 g;have I:x.S ∉ (data.take d).map (·.S):=λc=>by rw[(E.2 _).2 c]at j;cases j
      have M:(data.take (d+1)).map (·.S)=(data.take d).map (·.S)++[x.S]:=(by rw[ht];simp);have L:(data.take (d+1)).flatMap Gr=(data.take d).flatMap Gr++Gr x:=(by rw[ht];simp[flatMap_append]);refine .inl ⟨(((d+1:Nat):Int),F6 f x.S true,G),by simp only[En h ω],⟨d+1,rfl,ω,?_,?_,?_,?_,?_⟩,ζ⟩
      .intro q U V s;rcases C9 q d with h'|h'
       .exact W q U h' s
       .have:q=d:=ω;subst this;rw[g]at s;cases s;exact⟨ω,ω,ω,ω,b2.1 rfl,S⟩
      .rw[M];exact Aex K I
      .rw[L];exact R
      .rw[M];exact E.put _
      .rw[L];exact O
  .have:d=data.length:=ω;subst this;rw[Dr]at K P;exact .inr ⟨.inr (f,i),ψ,H,λd x g=>W d x (Gp g) g,K,P⟩
 .rintro (r|⟨o,o'⟩) k
  .obtain⟨rfl,k⟩:=k;exact⟨false,rfl,by simp[k]⟩
  .exact⟨true,rfl,by simpa using k⟩
theorem Alz (c:DSz data):∃b,R4 data=some b/\(b=true↔G4 data):=by obtain⟨b,g,h⟩:=Awk c;refine⟨b,?_,h⟩;unfold R4;rw[g,Ag];cases b with| false=>rfl| true=>rfl
theorem Awl {l:List ByteArray} {x:ByteArray} (h:l[j]? = some x) (b:l.Nodup):∀i y,i<j->l[i]? = some y->y≠x:=by intro i y v g e;subst e;have q:=Gp h;have u:i<l.length:=ω;rw[Cs q]at h;rw[Cs u]at g;have:=(List.nodup_iff_pairwise_ne.1 b);rw[pairwise_iff_getElem]at this;exact this i j u q v (by rw[Fe h,Fe g])
theorem Al0 (l:List ByteArray) (N:l.length<1099511627776):∃b,Sf l=some b/\(b=false↔l.Nodup):=by
 unfold Sf;refine F4 (λv=>∃i:Nat,v=i/\i<=l.length/\(l.take i).Nodup) (λv=>l.length-v.toNat) (λz=>match z with|.inl r=>r=true/\¬l.Nodup | .inr _=>l.Nodup) ⟨0,rfl,ω,ψ⟩ ?_ ?_
 .rintro v ⟨i,rfl,U,B⟩;rcases C9 i l.length with h|h
  .have H:l[i]? = some l[i]:=Cs h;generalize l[i]=x at H;have I:(l.take i).length=i:=ζ;have G:∃z,Ak (S:=Int) (E:=(Bool⊕Int)) (λg=>bif g<(i:Int) then ((Af l (i:Int)).bind λP=>(Af l g).bind λT=>bif (P.toList==T.toList) then some (.inr (.inl true)) else some (.inl (Ac (g+1)))) else some (.inr (.inr g))) 0=some z/\(match z with|.inl r=>r=true/\x∈l.take i | .inr _=>x ∉ l.take i):=by
    refine Rs (λg:Int=>∃j:Nat,g=j/\j<=i/\∀k y,k<j->l[k]? = some y->y≠x) (λg=>i-g.toNat) _ ?_ _ ⟨0,rfl,ω,λk y w=>ω⟩;rintro g ⟨j,rfl,V,q⟩;rcases C9 j i with O|O
    .have K:l[j]? = some l[j]:=Cs ω;generalize l[j]=y at K;simp only[Ap (ω:(j:Int)<(i:Int)),Am,Cp rfl H,Cp rfl K,Ag,Zu];by_cases c:x=y
     .rw[Ap c];refine .inr ⟨.inl true,rfl,rfl,?_⟩;subst c;exact B4 (i:=j) (by rw[getElem?_take_of_lt O];exact K)
     .rw[Ax c];refine .inl ⟨((j+1:Nat):Int),by simp only[Av];rw[En O ω],⟨j+1,rfl,ω,?_⟩,ζ⟩;intro k L w f;rcases C9 k j with F|F
      .exact q k L F f
      .have:k=j:=ω;subst this;rw[K]at f;cases f;exact λe=>c e.symm
    .have:j=i:=ω;subst this;refine .inr ⟨.inr (j:Int),ψ,?_⟩;intro s;obtain⟨k,w⟩:=Kz s;have D:=Gp w;rw[getElem?_take_of_lt ω]at w;exact q k x ω w rfl
   obtain⟨z,J,C⟩:=G;simp only[Ap (ω:(i:Int)<(l.length:Int)),Am];rw[J,Ag]
   match z,C with
   | .inl r,C=>obtain⟨rfl,C⟩:=C;refine .inr ⟨.inl true,rfl,rfl,λM=>?_⟩;obtain⟨k,w⟩:=Kz C;have D:=Gp w;rw[getElem?_take_of_lt ω]at w;exact Awl H M k x ω w rfl
   | .inr W,C=>refine .inl ⟨((i+1:Nat):Int),by simp only[En h ω],⟨i+1,rfl,ω,?_⟩,ζ⟩;rw[C5 H];exact Aex B C
  .have:i=l.length:=ω;subst this;rw[Dr]at B;exact .inr ⟨.inr (),ψ,B⟩
 .rintro (r|u) A
  .obtain⟨rfl,A⟩:=A;exact⟨true,rfl,by simp[A]⟩
  .exact⟨false,rfl,by simpa using A⟩
theorem SzD.args (h:SzD data) (hx:x∈data) (hy:y∈x.O) (g:t∈y.R):Bi t<=1048576/\t.R.length<=1048576/\y.R.length<=1048576:=by have h1:=(h x hx).2 y hy;have h3:=G6 g;have f:=G3 t;have c:=Hs t.R;have b:=Hs y.R;omega
theorem Awm (u:DSz data) (F:data[d]? = some x) (H:y∈x.O) : ∃z,Ak (S:=Int) (E:=(Bool⊕Int)) (λb=> bif b<(y.R.length:Int) then ((Af y.R b).bind λf=> (Oj f d x.V).bind λq=> bif q then some (.inl (Ac (b+1))) else ((Gk data 0 d).bind λg=> (Mh g f x.V).bind λk=> bif (!k) then some (.inr (.inl false)) else some (.inl (Ac (b+1))))) else some (.inr (.inr b))) 0=some z/\(match z with|.inl r=>r=false/\y.R.all (I7 data d x.V)=false | .inr _=>y.R.all (I7 data d x.V)=true):=by
 have w:=B4 F;have I:=Gp F;have B:=u.len;have J:y.R.length<=1048576:=by have:=(u.sz x w).2 y H;have:=Hs y.R;omega
 refine Rs (λv:Int=>∃j:Nat,v=j/\j<=y.R.length/\(y.R.take j).all (I7 data d x.V)=true) (λv=>y.R.length-v.toNat) _ ?_ _ ⟨0,rfl,ω,ψ⟩;rintro v ⟨j,rfl,K,c⟩;rcases C9 j y.R.length with h|h
 .have C:y.R[j]? = some y.R[j]:=Cs h;generalize y.R[j]=t at C;have s:=B4 C;obtain⟨N,M,L⟩:=u.sz.args w H s;simp only[Ap (ω:(j:Int)<(y.R.length:Int)),Am,Cp rfl C,Ag,Alo t d x.V ω,Zo rfl (show d<=data.length by omega),Zt (data.take d) t x.V ω,En h ω];have i:I7 data d x.V t=true->(y.R.take (j+1)).all (I7 data d x.V)=true:=λG=>by rw[C5 C,all_append,c];simp[G]
  cases A:Is t d x.V with
  | true=>exact .inl ⟨_,rfl,⟨j+1,rfl,ω,i (by unfold I7;rw[A];rfl)⟩,ζ⟩
  | false=>simp only[Av];cases D:(Dk (data.take d) x.V t&&decide (Bi t<=200)) with| true=>exact .inl ⟨_,rfl,⟨j+1,rfl,ω,i (by unfold I7;rw[D,A];rfl)⟩,ζ⟩| false=>refine .inr ⟨.inl false,rfl,rfl,?_⟩;rw[all_eq_false];exact⟨t,s,by unfold I7;rw[D,A];simp⟩
 .have:j=y.R.length:=ω;subst this;rw[Dr]at c;exact .inr ⟨.inr (y.R.length:Int),ψ,c⟩
theorem Awn (O:DSz data) (hx:data[d]? = some x) (Z:x.O.length<=8) (L:List ByteArray) (Y:L.length<=1048576) :
  ∃z,Ak (S:=(Int×List ByteArray)) (E:=(Bool⊕(Int×List ByteArray))) (λ(f,q)=>
   bif f<(x.O.length:Int) then (
   (show OB from
   (Af x.O f).bind λD=>
   (Py D.S).bind λF=>
   bif (!F) then some true
   else (
   (Af x.O f).bind λB=>
   some (decide ((B.R.length:Int)>(6:Int))))
   ).bind λA=>
   bif A then some (.inr (.inl false))
   else (
   (Af x.O f).bind λH=>
   (Bl 16 q [H.S]).bind λI=>
   (Af x.O f).bind λg=>
   (Ak (S:=Int) (E:=(Bool⊕Int)) (λi=>
   bif i<(g.R.length:Int) then (
   (Af g.R i).bind λk=>
   (Oj k d x.V).bind λu=>
   bif u then some (.inl (Ac (i+1)))
   else (
   (Gk data 0 d).bind λK=>
   (Mh K k x.V).bind λs=>
   bif (!s) then some (.inr (.inl false))
   else some (.inl (Ac (i+1)))))
   else some (.inr (.inr i))) 0).bind λz=>
   match z with
   | .inl G=>some (.inr (.inl G))
   | .inr N=>some (.inl ((Ac (f+1)),I))))
   else some (.inr (.inr (f,q)))) (0,L)=some z /\
   (match z with|.inl r=>r=false/\¬(∀y∈x.O,Qt data d x.V y) | .inr (_,o)=>(∀y∈x.O,Qt data d x.V y)/\o=L++Gr x):=by
 have W:=B4 hx
 refine Rs (λ(v,o)=>∃c:Nat,v=c/\c<=x.O.length/\(∀y∈x.O.take c,Qt data d x.V y)/\o=L++(x.O.take c).map (·.S)) (λ(v,_)=>x.O.length-v.toNat) _ ?_ _ ⟨0,rfl,ω,ψ,ψ⟩
 rintro⟨v,o⟩ ⟨c,rfl,hc,h1,X⟩
 subst X
 rcases C9 c x.O.length with h|h
 .have P:x.O[c]? = some x.O[c]:=Cs h
  generalize x.O[c]=y at P
  have j:=B4 P
  obtain⟨b,b1,b2⟩:=Alx y.S (by have:=O.cn x W y j;omega)
  obtain⟨z,U,C⟩:=Awm O hx j
  simp only[Ap (ω:(c:Int)<(x.O.length:Int)),Am,Cp rfl P,Ag,b1,En h ω]
  rw[Cy ζ]
  cases b with
  | false=>
   refine .inr ⟨.inl false,rfl,rfl,λM=>?_⟩
   have:=b2.2 (M y j).1;cases this
  | true=>
   simp only[Dn,Av,Ag]
   by_cases R:(y.R.length:Int)>6
   .rw[Ap R]
    refine .inr ⟨.inl false,rfl,rfl,λM=>?_⟩
    have:=(M y j).2.1;omega
   .rw[Ax R]
    simp only[Av]
    rw[U,Ag]
    match z,C with
    | .inl r,C=>
     obtain⟨rfl,C⟩:=C
     refine .inr ⟨.inl false,rfl,rfl,λM=>?_⟩
     have:=(M y j).2.2
     rw[C]at this;cases this
    | .inr w,C=>
     refine .inl ⟨_,rfl,⟨c+1,rfl,ω,?_,?_⟩,ζ⟩
     .intro V J
      rw[C5 P]at J
      rcases Fi.1 J with T|T
      .exact h1 V T
      .simp at T;subst T;exact⟨b2.1 rfl,ω,C⟩
     .rw[C5 P];simp
 .have:c=x.O.length:=ω
  subst this
  rw[Dr]at h1
  exact .inr ⟨.inr ((x.O.length:Int),L++Gr x),by simp[Gr],h1,rfl⟩
theorem Al1 (G:DSz data):∃b,Sa data=some b/\(b=true↔G4 data):=by
 have M:=G.len;unfold Sa;rcases C9 12 data.length with H|H
 .rw[Ap ω];exact⟨false,rfl,by simp;intro h;have:=h.1;omega⟩
 rw[Ax ω];simp only[Av];have s:∀d,d<=data.length->(∀f x,f<d->data[f]? = some x->O5 data f x)->((data.take d).flatMap Gr).length<=8*d:=by intro d;induction d with| zero=>intro _ _;simp| succ d ih=>intro hd F;have g:data[d]? = some data[d]:=Cs ω;have:=ih ω λf x I=>F f x ω;have X:=(F d _ ω g).2.2.2.1;rw[C5 g,flatMap_append,Ew];simp only[flatMap_cons,flatMap_nil,append_nil,Gr,Er];omega
 refine F4 (λ(v,q,k)=>∃d:Nat,v=d/\d<=data.length/\(∀f x,f<d->data[f]? = some x->O5 data f x)/\q=(data.take d).map (·.S)/\k=(data.take d).flatMap Gr) (λ(v,_,_)=>data.length-v.toNat) (λz=>match z with|.inl r=>r=false/\¬G4 data | .inr (q,k)=>(∀d x,data[d]? = some x->O5 data d x)/\q=data.map (·.S)/\k=data.flatMap Gr) ⟨0,rfl,ω,by intro f x h;omega,ψ,ψ⟩ ?_ ?_
 .rintro⟨v,q,k⟩ ⟨d,rfl,hd,F,P,T⟩;rcases C9 d data.length with h|h
  .have g:data[d]? = some data[d]:=Cs h;generalize data[d]=x at g;have W:=B4 g;obtain⟨b,b1,K⟩:=Alx x.S (by have:=G.nm x W;omega);simp only[Ap (ω:(d:Int)<(data.length:Int)),Am,Cp rfl g,Ag,b1];have w:∀(A:¬O5 data d x),∃e:Bool⊕(List ByteArray×List ByteArray),(some (Sum.inr (Sum.inl false)):Option ((Int×List ByteArray×List ByteArray)⊕(Bool⊕(List ByteArray×List ByteArray))))=some (.inr e)/\(match e with|.inl r=>r=false/\¬G4 data | .inr (q,k)=>(∀d x,data[d]? = some x->O5 data d x)/\q=data.map (·.S)/\k=data.flatMap Gr) :=
    λA=>⟨.inl false,rfl,rfl,λc=>A (c.2.1 d x g)⟩
   by_cases i:x.V<0
   .simp only[Ap i,Am,Ag];exact .inr (w λc=>by have:=c.1;omega)
   by_cases j:x.V>6
   .simp only[Ax i,Ap j,Am,Av,Ag];exact .inr (w λc=>by have:=c.2.1;omega)
   by_cases y:(x.O.length:Int)<1
   .simp only[Ax i,Ax j,Ap y,Av,Am,Ag];exact .inr (w λc=>by have:=c.2.2.1;omega)
   by_cases D:(x.O.length:Int)>8
   .simp only[Ax i,Ax j,Ax y,Ap D,Am,Av,Ag];exact .inr (w λc=>by have:=c.2.2.2.1;omega)
   simp only[Ax i,Ax j,Ax y,Ax D,Av,Ag];cases b with
   | false=>exact .inr (w λc=>by have:=K.2 c.2.2.2.2.1;cases this)
   | true=>
    have B:=s d hd F;rw[P,T];simp only[Dn,Av];rw[Cy ζ,Ag];obtain⟨z,N,C⟩:=Awn G g ω ((data.take d).flatMap Gr) ω
    erw[N,Ag]
    match z,C with
    | .inl r,C=>obtain⟨rfl,C⟩:=C;exact .inr (w λc=>C c.2.2.2.2.2)
    | .inr (a0,U),C=>
     obtain⟨R,O⟩:=C;subst O;have ht:=C5 g;refine .inl ⟨(((d+1:Nat):Int),(data.take d).map (·.S)++[x.S],(data.take d).flatMap Gr++Gr x),by simp only[En h ω],⟨d+1,rfl,ω,?_,?_,?_⟩,ζ⟩
     .intro f S I u;rcases C9 f d with h'|h'
      .exact F f S h' u
      .have:f=d:=ω;subst this;rw[g]at u;cases u;exact⟨ω,ω,ω,ω,K.1 rfl,R⟩
     .rw[ht];simp
     .rw[ht];simp[flatMap_append]
  .have:d=data.length:=ω;subst this;rw[Dr]at P T;exact .inr ⟨.inr (q,k),ψ,λd x g=>F d x (Gp g) g,P,T⟩
 .rintro (r|⟨q,k⟩) hp
  .obtain⟨rfl,hp⟩:=hp;exact⟨false,rfl,by simp[hp]⟩
  .obtain⟨L,rfl,rfl⟩:=hp;have B:=s data.length ω λd x _=>L d x;rw[Dr]at B;obtain⟨b,b1,K⟩:=Al0 (data.map (·.S)) ζ;obtain⟨V,J,E⟩:=Al0 (data.flatMap Gr) ω;simp only[b1,Ag,J];cases b with
   | true=>exact⟨false,rfl,by simp;intro c;have:=K.2 c.2.2.1;cases this⟩
   | false=>cases V with| true=>exact⟨false,rfl,by simp;intro c;have:=E.2 c.2.2.2;cases this⟩| false=>exact⟨true,rfl,by simp;exact⟨H,L,K.1 rfl,E.1 rfl⟩⟩
def isV (σ:List Ai) (k n:Int):Bool:=k==4&&decide (0<=n)&&decide (n<(σ.length:Int))
mutual
def Dd (σ:List Ai):Ai->Ai
 | ⟨k,n,l⟩=>match (if isV σ k n then σ[n.toNat]? else none) with
  | some s=>s
  | none=>⟨k,n,Ls σ l⟩
def Ls (σ:List Ai):List Ai->List Ai
 | []=>[]
 | x::xs=>Dd σ x::Ls σ xs
end
variable {t:Ai} {σ:List Ai}
theorem Aey (σ l:List Ai):Ls σ l=l.map (Dd σ):=by induction l with| nil=>rfl| cons x xs ih=>simp only[Ls,ih,map_cons]
theorem Wb {k n:Int} (h:isV σ k n=true):∃s,σ[n.toNat]? = some s/\Af σ n=some s/\s∈σ:=by simp only[isV,Dt,E8]at h;have b:n.toNat < σ.length:=ω;refine⟨σ[n.toNat],Cs b,?_,getElem_mem b⟩;unfold Af;rw[Bc ω,Cs b]
theorem Wc {s:Ai} (h:isV σ t.G t.U=true) (b:σ[t.U.toNat]? = some s):Dd σ t=s:=by cases t;simp only[Dd]at *;simp[h,b]
theorem Zv (h:isV σ t.G t.U=false):Dd σ t=⟨t.G,t.U,t.R.map (Dd σ)⟩:=by cases t;simp only[Dd]at *;simp[h,Aey]
mutual
theorem Al2:∀t:Ai,Dd [] t=t
 | ⟨k,n,l⟩=>by
  have g:isV [] k n=false:=by
   unfold isV
   by_cases h:0<=n
   .rw[Ax (by simp;omega:¬n<(([]:List Ai).length:Int))];simp
   .rw[Ax h];simp
  simp only[Dd,g,Al3 l];rfl
theorem Al3:∀l:List Ai,Ls [] l=l
 | []=>rfl
 | x::xs=>by simp only[Ls,Al2 x,Al3 xs]
end
mutual
theorem Aez (σ:List Ai) (M:Nat) (q:1<=M) (h:∀s∈σ,Bi s<=M):∀t:Ai,Bi (Dd σ t)<=Bi t*M
 | ⟨k,n,l⟩=>by
  cases g:isV σ k n with
  | true=>
   obtain⟨s,u,_,v⟩:=Wb g
   rw[Wc (t:=⟨k,n,l⟩) g u]
   have:=h s v
   have w:=Ke ⟨k,n,l⟩
   calc Bi s<=1*M:=ω
    _<=_:=Nat.mul_le_mul_right M w
  | false=>
   have:=Al4 σ M q h l
   simp only[Dd,g,Bi]
   simp only[Bool.false_eq_true,if_false,Bi]
   rw[Nat.add_mul];omega
theorem Al4 (σ:List Ai) (M:Nat) (g:1<=M) (h:∀s∈σ,Bi s<=M):∀l:List Ai,Cl (Ls σ l)<=Cl l*M
 | []=>by simp[Ls,Cl]
 | x::xs=>by
  have q:=Aez σ M g h x
  have u:=Al4 σ M g h xs
  simp only[Ls,Cl]
  rw[Nat.add_mul];omega
end
variable {data:List Ao}
theorem Ae0 (σ:List Ai) (t:Ai):(bif t.G==(4:Int) then bif decide (t.U>=(0:Int)) then some (decide (t.U<(σ.length:Int))) else some false else some false)=some (isV σ t.G t.U):=by unfold isV;cases t.G==4 <;> simp;by_cases h:0<=t.U <;> simp[h]
theorem Awo:∀(k:Nat) (t:Ai) (σ:List Ai) (M:Nat),(∀s∈σ,Bi s<=M)->Bi t+M+1<=k->k<1099511627776->Oq k t σ=some (Dd σ t):=by
 intro k;induction k with
 | zero=>intro t σ M _ h;omega
 | succ k ih=>
  intro t σ M c h w;have i:=G3 t;have f:=Hs t.R;rw[Oq];rw[show (show OB from bif t.G==(4:Int) then bif decide (t.U>=(0:Int)) then some (decide (t.U<(σ.length:Int))) else some false else some false)=some (isV σ t.G t.U) from Ae0 σ t,Ag];cases b:isV σ t.G t.U with
  | true=>obtain⟨s,g,q,u⟩:=Wb b;have:=c s u;simp only[Am,q,Ag,Wc b g,ih s [] 0 ψ ω ω,Al2]
  | false=>
   rw[Zv b];simp only[Av];refine Ga t.R (λj=>((j:Int),(t.R.take j).map (Dd σ))) rfl ω ?_ ?_
   .intro j x A v g q u;have:=G6 (B4 v);simp only[g,q,u,Am,Ag,ih x σ M c ω ω];rw[Cy ζ,Ag,C5 v];simp
   .intro g;exact⟨t.R.map (Dd σ),ψ,rfl⟩
theorem Awp:∀(k:Nat) (t:Ai),Bi t<=k->k<1099511627776->Qd k t=some t:=by
 intro k;induction k with
 | zero=>intro t h;have:=Ke t;omega
 | succ k ih=>
  intro t h w;have c:=G3 t;have b:=Hs t.R;rw[Qd];refine Ga t.R (λj=>((j:Int),(t.R.take j))) rfl ω ?_ ?_
  .intro j x A g q u v;have:=G6 (B4 g);simp only[q,u,v,Am,Ag,ih x ω ω];rw[Cy ζ,Ag,C5 g]
  .intro q;exact⟨t.R,ψ,by cases t;rfl⟩
theorem Awq:∀(k:Nat) (t:Ai) (σ:List Ai) (M:Nat),(∀s∈σ,Bi s<=M)->M<=4000000->Bi t<=k->k<1099511627776->On k t σ=some (Dd σ t):=by
 intro k;induction k with
 | zero=>intro t σ M _ _ h;have:=Ke t;omega
 | succ k ih=>
  intro t σ M c q h A;have i:=G3 t;have f:=Hs t.R;rw[On];rw[show (show OB from bif t.G==(4:Int) then bif decide (t.U>=(0:Int)) then some (decide (t.U<(σ.length:Int))) else some false else some false)=some (isV σ t.G t.U) from Ae0 σ t,Ag];cases b:isV σ t.G t.U with
  | true=>obtain⟨s,g,u,v⟩:=Wb b;have:=c s v;simp only[Am,u,Ag,Wc b g,Awp 4000000 s ω ω]
  | false=>
   rw[Zv b];simp only[Av];refine Ga t.R (λj=>((j:Int),(t.R.take j).map (Dd σ))) rfl ω ?_ ?_
   .intro j x B w g u v;have:=G6 (B4 w);simp only[g,u,v,Am,Ag,ih x σ M c q ω ω];rw[Cy ζ,Ag,C5 w];simp
   .intro g;exact⟨t.R.map (Dd σ),ψ,rfl⟩
theorem Awr:∀(k:Nat) (t:Ai),Bi t<=k->Bi t<1099511627776->Qb k t=some (Bi t:Int):=by
 intro k;induction k with
 | zero=>intro t h;have:=Ke t;omega
 | succ k ih=>
  intro t h w;have b:=G3 t;have c:=Hs t.R;rw[Qb];refine Ga t.R (λj=>(1+(Cl (t.R.take j):Int),(j:Int))) rfl ω ?_ ?_
  .intro j x A g q u v;have B:=G6 (B4 g);have f:=V7 t.R (j+1);have e:Cl (t.R.take (j+1))=Cl (t.R.take j)+Bi x:=(by rw[C5 g,Zq];simp[Cl]);simp only[q,u,v,Am,Ag,ih x ω ω];rw[show Ac (1+(Cl (t.R.take j):Int)+(Bi x:Int))=1+(Cl (t.R.take (j+1)):Int) by rw[e,Ac,B6] <;> omega]
  .intro q;exact⟨1+(Cl t.R:Int),ψ,by rw[b];simp⟩
theorem ξ {p:Prop} (h:p:=by rw[Ac,B6]<;>omega):p:=h
theorem Aws (σ:List Ai) (M:Nat) (I:1<=M) (z:M<=1048576) (D:∀s∈σ,Bi s<=M):∀(k:Nat) (t:Ai),Bi t<=k->Bi t<=1048576 -> ∃v:Nat,Qc k t (σ.map λs=>(Bi s:Int))=some (v:Int)/\v<=Bi (Dd σ t)/\((v=Bi (Dd σ t))\/200<v):=by
 intro k;induction k with
 | zero=>intro t h;have:=Ke t;omega
 | succ k ih=>
  intro t h H;have E:=G3 t;have B:=Hs t.R;have u:∀x,Bi x<=1048576->Bi (Dd σ x)<=1099511627776:=λx g=>by have:=Aez σ M I D x;have:Bi x*M<=1048576*1048576:=Nat.mul_le_mul g z;omega
  rw[Qc];rw[show (show OB from bif t.G==(4:Int) then bif decide (t.U>=(0:Int)) then some (decide (t.U<((σ.map λs=>(Bi s:Int)).length:Int))) else some false else some false)=some (isV σ t.G t.U) by rw[Er];exact Ae0 σ t,Ag];cases f:isV σ t.G t.U with
  | true=>obtain⟨s,C,K,P⟩:=Wb f;have N:Af (σ.map λs=>(Bi s:Int)) t.U=some (Bi s:Int):=(by have:=E9 K;rw[Cp (n:=t.U.toNat) ω];simp[C]);simp only[Am,N,Ag,Wc f C];exact⟨Bi s,rfl,Nat.le_refl _,.inl rfl⟩
  | false=>
   have A:=u t H;rw[Zv f]at A ⊢;simp only[Av];have q:Bi ⟨t.G,t.U,t.R.map (Dd σ)⟩=1+Cl (t.R.map (Dd σ)):=(by simp only[Bi]);rw[q]at A ⊢;refine Aek (λv:Nat=>(v:Int)) (F4 (λ(n,i)=>∃j:Nat,i=j/\j<=t.R.length/\n=1+(Cl ((t.R.map (Dd σ)).take j):Int)) (λ(_,i)=>t.R.length-i.toNat) (λn=>∃v:Nat,n=v/\v<=1+Cl (t.R.map (Dd σ))/\(v=1+Cl (t.R.map (Dd σ))\/200<v)) ⟨0,rfl,ω,by simp[Cl]⟩ ?_ ?_)
   .rintro⟨n,i⟩ ⟨j,rfl,T,y⟩;have y:n=_:=y;subst y;rcases C9 j t.R.length with w|w
    .have g:t.R[j]? = some t.R[j]:=Cs w;generalize t.R[j]=x at g;have U:=G6 (B4 g);obtain⟨v,b,F,V⟩:=ih x ω ω;have c:(t.R.map (Dd σ))[j]? = some (Dd σ x):=(by simp[g]);have e:Cl ((t.R.map (Dd σ)).take (j+1))=Cl ((t.R.map (Dd σ)).take j)+Bi (Dd σ x):=(by rw[C5 c,Zq];simp[Cl]);have G:=V7 (t.R.map (Dd σ)) (j+1);have J:Ac (1+(Cl ((t.R.map (Dd σ)).take j):Int)+(v:Int))=((1+Cl ((t.R.map (Dd σ)).take j)+v:Nat):Int):=ξ;simp only[Ap (ω:(j:Int)<(t.R.length:Int)),Am,Cp rfl g,Ag,b,En w ω,J];by_cases O:1+Cl ((t.R.map (Dd σ)).take j)+v>200
     .rw[Ap ω];exact .inr ⟨_,rfl,_,rfl,ω,.inr O⟩
     .rw[Ax ω];refine .inl ⟨_,rfl,⟨j+1,rfl,ω,?_⟩,ζ⟩;have:v=Bi (Dd σ x):=ω;subst this;rw[e];omega
    .have:j=t.R.length:=ω;subst this;refine .inr ⟨_,by simp;rfl,1+Cl (t.R.map (Dd σ)),?_,ω,.inl rfl⟩;rw[Iy ψ];omega
   .rintro n ⟨v,rfl,b,F⟩;exact⟨_,rfl,v,rfl,b,F⟩
def I8 (data:List Ao) (t:Ai) (c:Int):Option (List Ai) := if t.G=5 then match Af data t.U with
  | none=>none
  | some x=>if (t.R.length:Int)=x.V then match Af x.O c with
    | none=>none
    | some y=>if (y.R.map (Dd t.R)).all (λa=>decide (Bi a<=200)) then some (y.R.map (Dd t.R)) else none else none else none
def okL (o:Option (List Ai)):List Ai×Bool:=match o with|none=>([],false) | some l=>(l,true)
theorem Awt {R:Type} (data:List Ao) (t:Ai) (c:Int) (F:Ao->Lr->Option R) (z:R) (X:Option R) (b:X=(match Af data t.U with
   | none=>some z
   | some x=>match Af x.O c with
    | none=>some z
    | some y=>if t.G=5/\(t.R.length:Int)=x.V then F x y else some z)):X=if t.G=5 then match Af data t.U with
  | none=>some z
  | some x=>if (t.R.length:Int)=x.V then match Af x.O c with
    | none=>some z
    | some y=>F x y else some z else some z:=by
 subst b;by_cases h:t.G=5
 .rw[Bc h];cases Af data t.U with
  | none=>rfl
  | some x=>
   simp only;by_cases g:(t.R.length:Int)=x.V
   .rw[Bc g];cases Af x.O c with| none=>rfl| some y=>simp[h,g]
   .rw[Bb g];cases Af x.O c with| none=>rfl| some y=>simp[g]
 .rw[Bb h];cases Af data t.U with
  | none=>rfl
  | some x=>simp only;cases Af x.O c with| none=>rfl| some y=>simp[h]
def Szv (data:List Ao):Prop:=∀x∈data,∀y∈x.O,y.R.length<=6/\∀a∈y.R,Bi a<=200
theorem G4.szv (h:G4 data):Szv data:=by
 intro x hx y hy;obtain⟨d,hd⟩:=Kz hx;have h1:=h.2.1 d x hd;obtain⟨_,g,q⟩:=h1.2.2.2.2.2 y hy;refine⟨g,λa ha=>?_⟩;have:=H7.1 q a ha;unfold I7 at this;rw[Bool.or_eq_true]at this;rcases this with h'|h'
 .exact (Aeu hd h1.2.1 h').2
 .simp only[Dt,E8]at h';exact h'.2
theorem Awu {t a:Ai} (h:Bi t<=200) (g:Bi a<=200):Bi (Dd t.R a)<=40000:=by have q:=Aez t.R 200 ω (λs b=>by have:=G6 b;have:=G3 t;omega) a;have:Bi a*200<=200*200:=Nat.mul_le_mul_right 200 g;omega
theorem Al5 (G:Szv data) (t:Ai) (U:Bi t<=200) (c:Int):P6 data t c=some (okL (I8 data t c)):=by
 have J:P6 data t c=_:=Awt data t c (λx y=>(Ak (S:=(Int×List Ai)) (E:=((List Ai×Bool)⊕List Ai)) (λ(v,f)=>
   bif v<(y.R.length:Int) then (
   (Af y.R v).bind λK=>
   (On (4000000) K t.R).bind λC=>
   (Nj (4000000) C).bind λN=>
   bif N>(200:Int) then some (.inr (.inl ([],false)))
   else (
   (Bl 40 f [C]).bind λB=>
   some (.inl ((Ac (v+1)),B))))
   else some (.inr (.inr f))) (0,[])).bind λz=>
   match z with
   | .inl (u,q)=>some (u,q)
   | .inr A=>some (A,true)) ([],false) _ (by
  unfold P6
  by_cases g:t.G=5
  .simp only[D3 g,Av]
   cases F:Af data t.U with
   | none=>
    rcases O4 F with h|h
    .simp only[Ap h,Am,Ag]
    .by_cases H:t.U<0
     .simp only[Ap H,Am,Ag]
     .simp only[Ax H,Ap (show t.U>=(data.length:Int) from h),Am,Av,Ag]
   | some x=>
    obtain⟨a1,a2,_,_⟩:=E9 F
    simp only[Ax (ω:¬t.U<0),Ax (ω:¬t.U>=(data.length:Int)),Av,Ag]
    by_cases b:(t.R.length:Int)=x.V
    .simp only[D3 b,Av]
     cases w:Af x.O c with
     | none=>
      rcases O4 w with h|h
      .simp only[Ap h,Am,Ag]
      .by_cases H:c<0
       .simp only[Ap H,Am,Ag]
       .simp only[Ax H,Ap (show c>=(x.O.length:Int) from h),Am,Av,Ag]
     | some y=>
      obtain⟨b1,b2,_,_⟩:=E9 w
      simp only[Ax (ω:¬c<0),Ax (ω:¬c>=(x.O.length:Int)),Av,Ag,g,b,and_self,if_true]
      rfl
    .simp only[D2 b,Am,Ag]
     cases w:Af x.O c with
     | none=>rfl
     | some y=>simp[b]
  .simp only[D2 g,Am,Ag]
   cases F:Af data t.U with
   | none=>rfl
   | some x=>
    simp only
    cases w:Af x.O c with
    | none=>rfl
    | some y=>simp[g])
 rw[J]
 unfold I8
 by_cases g:t.G=5
 .rw[Bc g,Bc g]
  cases F:Af data t.U with
  | none=>rfl
  | some x=>
   simp only
   by_cases b:(t.R.length:Int)=x.V
   .rw[Bc b,Bc b]
    cases w:Af x.O c with
    | none=>rfl
    | some y=>
     simp only
     obtain⟨L,k⟩:=G x (E9 F).2.2.2 y (E9 w).2.2.2
     refine (O3 (rt:=(y.R.map (Dd t.R),true)) (rf:=([],false)) y.R (λa=>decide (Bi (Dd t.R a)<=200)) (λj=>((j:Int),(y.R.take j).map (Dd t.R))) rfl ω ?_ ?_).trans ?_
     .intro j a O P V W
      have hj:=Gp O
      have D:=k a (B4 O)
      have M:=Awu U D
      simp only[P,V,W,Am,Ag,Awq 4000000 a t.R 200 (λs I=>by have:=G6 I;have:=G3 t;omega) ω ω ω,Alm 4000000 (Dd t.R a) ω ω]
      by_cases T:Bi (Dd t.R a)<=200
      .rw[Ap T,Ax ω]
       refine⟨λ_=>?_,λh=>by cases h⟩
       rw[Cy ζ]
       simp only[Av,Ag]
       rw[C5 O];simp
      .rw[Ax T,Ap ω]
       exact⟨nofun,λ_=>⟨_,rfl,rfl⟩⟩
     .intro P
      exact⟨.inr (y.R.map (Dd t.R)),ψ,rfl⟩
     .rw[all_map]
      cases i:y.R.all ((λa=>decide (Bi a<=200)) ∘ Dd t.R) with
      | true=>rw[Bc rfl];rw[show (y.R.all λa=>decide (Bi (Dd t.R a)<=200))=true from i];rfl
      | false=>rw[show (y.R.all λa=>decide (Bi (Dd t.R a)<=200))=false from i];rfl
   .rw[Bb b,Bb b];rfl
 .rw[Bb g,Bb g];rfl
end Go.Ab
