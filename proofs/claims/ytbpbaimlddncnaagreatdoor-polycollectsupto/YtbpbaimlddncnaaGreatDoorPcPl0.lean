/- Plain laws. -/
import Derived.Test.YtbpbaimlddncnaaGreatDoorPcDef
import Derived.Lib.ItoaLen
open List
namespace Go.Ab
open Go
variable {i:Nat} {E R S:Type} {α:Type _} {J:E->Option R} {l s t:List α} {X:Option (S⊕E)} {a b e:α}
theorem Ad {α β:Type} (a:α) (f:α->Option β):(some a).bind f=f a:=rfl
theorem B3 {α:Type} {l:List α} (h:i<l.length):l[i]? = some l[i]:=getElem?_eq_getElem h
theorem B6 {α:Type} {l:List α} {a:α} (h:l[i]? = some a):a∈l:=mem_of_getElem? h
theorem D3 (a b:Bool):((a&&b)=true)=(a=true/\b=true):=Bool.and_eq_true a b
theorem bnt:(!true)=false:=rfl
theorem Al (a b:α):(bif true then a else b)=a:=rfl
theorem Ao (a b:α):(bif false then a else b)=b:=rfl
theorem D4 {p:Prop} [Decidable p]:(decide p=true)=p:=decide_eq_true_eq
theorem Ay {c:Prop} {h:Decidable c} (g:¬c) {t:α}:(if c then t else e)=e:=if_neg g
theorem A7 {c:Prop} {h:Decidable c} (g:c) {t:α}:(if c then t else e)=t:=if_pos g
theorem Cb (a b:Nat):a<b\/a>=b:=Nat.lt_or_ge a b
theorem Dq:l.take l.length=l:=take_length
theorem Iz (h:l.length<=i):l.take i=l:=take_of_length_le h
theorem Gm:l.length=0↔l = []:=length_eq_zero_iff
theorem Ik (h:a∈l):∃i:Nat,l[i]? = some a:=getElem?_of_mem h
theorem H9 {p:α->Bool}:l.all p=true↔∀x,x∈l->p x=true:=all_eq_true
theorem D7:a∈s++t↔a∈s\/a∈t:=mem_append
theorem C4 {β:Type _} (f:α->β):(l.map f).length=l.length:=length_map f
theorem Fa (h:some a=some b):a=b:=Option.some.inj h
theorem Eh:a::s++t=a::(s++t):=rfl
theorem D0:a∈[b]↔a=b:=mem_singleton
theorem Fp:a∈b::l↔a=b\/a∈l:=mem_cons
theorem D9:(a::l).length=l.length+1:=rfl
theorem Eu:(s++t).length=s.length+t.length:=length_append
theorem Su (h:l.length<=i):l[i]? = none:=getElem?_eq_none h
theorem Jk {step:S->Option (S⊕E)} {s:S} {r:R} (c:S->Prop) (m:S->Nat) (b:E->Prop) (h0:c s) (f:∀s,c s->(∃h,step s=some (.inl h)/\c h/\m h < m s)\/(∃e,step s=some (.inr e)/\b e)) (g:∀e,b e->J e=some r):(An step s).bind J=some r:=by obtain⟨e,q,u⟩:=I9 c m b f s h0;rw[q];exact g e u
theorem Ev {step:S->Option (S⊕E)} {s:S} {Q:R->Prop} (c:S->Prop) (m:S->Nat) (b:E->Prop) (h0:c s) (f:∀s,c s->(∃h,step s=some (.inl h)/\c h/\m h < m s)\/(∃e,step s=some (.inr e)/\b e)) (g:∀e,b e->∃r,J e=some r/\Q r):∃r,(An step s).bind J=some r/\Q r:=by obtain⟨e,q,u⟩:=I9 c m b f s h0;rw[q];exact g e u
theorem Ab4 {Q:S->Prop} (h:∃r,X=some r/\∃g,r = .inl g/\Q g):∃g,X=some (.inl g)/\Q g:=by obtain⟨r,q,g,rfl,u⟩:=h;exact⟨g,q,u⟩
theorem Ayw {Q:E->Prop} (h:∃r,X=some r/\∃e,r = .inr e/\Q e):∃e,X=some (.inr e)/\Q e:=by obtain⟨r,g,q,rfl,u⟩:=h;exact⟨q,g,u⟩
theorem U7 {A:Type} {X:Option R} (f:A->R) {Q:A->Prop} (h:∃r,X=some r/\∃a,r=f a/\Q a):∃a,X=some (f a)/\Q a:=by obtain⟨r,g,a,rfl,q⟩:=h;exact⟨a,g,q⟩
variable {a b i:Int} {n:Nat} {p:Prop} {α:Type} {l:List α}
theorem Ayx {β:Type} {c:Prop} [Decidable c] (a b:Option α) (f:α->Option β):(if c then a else b).bind f=if c then a.bind f else b.bind f:=by split <;> rfl
theorem B8 {n:Int} (g : -9223372036854775808<=n) (h:n<=9223372036854775807):IntKind.i64.wrap n=n:=by
 have e:IntKind.i64.wrap n=if 9223372036854775808<=n % 18446744073709551616 then n % 18446744073709551616-18446744073709551616 else n % 18446744073709551616:=by simp[IntKind.wrap,IntKind.bits,IntKind.signed]
 rw[e];split <;> omega
theorem Dl {n:Int} (g:0<=n) (h:n<=18446744073709551615):IntKind.u64.wrap n=n:=by
 have e:IntKind.u64.wrap n=n % 18446744073709551616:=by simp[IntKind.wrap,IntKind.bits,IntKind.signed]
 rw[e];omega
theorem Gu {n:Int} (g:0<=n) (h:n<=4294967295):IntKind.u32.wrap n=n:=by
 have e:IntKind.u32.wrap n=n % 4294967296:=by simp[IntKind.wrap,IntKind.bits,IntKind.signed]
 rw[e];omega
theorem Ek (g:i=n) (h:n<l.length):Ah l i=some l[n]:=by subst g;simp[Ah,h]
theorem Bu {x:α} (g:i=n) (h:l[n]? = some x):Ah l i=some x:=by subst g;simp[Ah,h]
theorem Gv (g:i=n) (x:α):C2 l i x=l.set n x:=by subst g;simp[C2]
theorem Dn {b:Nat} {xs ys:List α} (h:(xs.length+ys.length)*b<=140737488355328):B4 b xs ys=some (xs++ys):=by simp[B4,h]
theorem Kk {b:Nat} {len f:Int} {z:α} {c:Nat} (q:len=n) (u:f=c) (A:n<=c) (g:b*c<=281474976710656) (h:c<=140737488355328):F5 b len f z=some (replicate n z):=by subst q;subst u;have B:(0:Int)<=(n:Int):=ω;have v:(n:Int)<=(c:Int):=ω;have w:(c:Int)<=140737488355328:=ω;simp[F5,v,w,g]
theorem Ag4 {b:Nat} {f:Int} {z:α} {c:Nat} (q:f=c) (h:b*c<=281474976710656) (g:c<=140737488355328):F5 b 0 f z=some []:=by exact Kk (len:=0) (n:=0) (c:=c) rfl q ω h g
theorem Dc (h:a≠b):(a==b)=false:=by simpa using h
theorem Gb (h:a=b):(a==b)=true:=by simpa using h
theorem Gc (h:a≠b):(a != b)=true:=by simpa using h
theorem Hw (h:a=b):(a != b)=false:=by simpa using h
theorem Aq [Decidable p] (h:p):decide p=true:=decide_eq_true h
theorem Aw [Decidable p] (h:¬p):decide p=false:=decide_eq_false h
theorem Sv {g:Int} (h:g=n) (b:n<=l.length):Ei l 0 g=some (l.take n):=by subst h;have:(n:Int)<=(l.length:Int):=ω;simp[Ei,this]
theorem Ll (g:0<=a) (hb:0<b):H8 a b=some (a % b):=by have:b≠0:=ω;simp[H8,this,Int.tmod_eq_emod_of_nonneg g]
theorem Lm (g:0<=a) (c:a<=18446744073709551615) (hb:0<b):G9 .u64 a b=some (a / b):=by have:b≠0:=ω;have h:0<=a / b:=Int.ediv_nonneg g ω;have q:a / b<=a:=Int.ediv_le_self _ g;simp[G9,this,Int.tdiv_eq_ediv_of_nonneg g];exact Dl h ω
theorem Ans (g:0<=a) (c:a<=4294967295) (hb:0<b):G9 .u32 a b=some (a / b):=by have:b≠0:=ω;have h:0<=a / b:=Int.ediv_nonneg g ω;have q:a / b<=a:=Int.ediv_le_self _ g;simp[G9,this,Int.tdiv_eq_ediv_of_nonneg g];exact Gu h ω
def Ak:List Int->Int
 | []=>0
 | d::l=>d+1000000000*Ak l
def B7 (l:List Int):Prop:=∀d∈l,0<=d/\d<1000000000
def Ma (l:List Int):Prop:=∀d∈l,0<=d/\d<4294967296
def Can (l:List Int):Prop:=B7 l/\∀h:l≠[],l.getLast h≠0
def Af (n:Nat):List Int:=if h:n=0 then [] else ((n % 1000000000:Nat):Int)::Af (n / 1000000000)
termination_by n
decreasing_by exact Nat.div_lt_self ω δ
theorem Gw:Af 0 = []:=by rw[Af];simp
theorem M7 (h:n≠0):Af n=((n % 1000000000:Nat):Int)::Af (n / 1000000000):=by rw[Af];simp[h]
theorem B7.nil:B7 []:=λ_ h=>by cases h
theorem B7.append {l m:List Int} (h:B7 l) (h':B7 m):B7 (l++m):=by
 intro d hd;rcases D7.1 hd with hd|hd
 .exact h d hd
 .exact h' d hd
theorem B7.one {d:Int} (h:0<=d) (h':d<1000000000):B7 [d]:=by intro x hx;simp at hx;subst hx;exact⟨h,h'⟩
variable {d:Int} {l:List Int} {i n:Nat}
theorem B7.snoc (h:B7 l) (hd:0<=d) (b:d<1000000000):B7 (l++[d]):=h.append (B7.one hd b)
theorem B7.take (h:B7 l) (k:Nat):B7 (l.take k):=λd hd=>h d (mem_of_mem_take hd)
theorem B7.drop (h:B7 l) (k:Nat):B7 (l.drop k):=λd hd=>h d (mem_of_mem_drop hd)
theorem B7.get (h:B7 l) (hi:i<l.length):0<=l[i]/\l[i]<1000000000:=h _ (getElem_mem hi)
theorem B7.set (h:B7 l) (i:Nat) (hd:0<=d) (b:d<1000000000):B7 (l.set i d):=by
 intro x hx;rcases mem_or_eq_of_mem_set hx with hx|rfl
 .exact h x hx
 .exact⟨hd,b⟩
theorem B7.replicate (n:Nat):B7 (replicate n 0):=by intro d hd;have:=eq_of_mem_replicate hd;subst this;decide
theorem B7.tail (h:B7 (d::l)):B7 l:=λx hx=>h x (by simp[hx])
theorem B7.u32 (h:B7 l):Ma l:=λd hd=>by have:=h d hd;omega
theorem Ant (l m:List Int):Ak (l++m)=Ak l+1000000000 ^ l.length*Ak m:=by induction l with| nil=>simp[Ak]| cons d l ih=>simp only[Eh,Ak,ih,D9,Int.pow_succ];grind
theorem M8 (l:List Int) (d:Int):Ak (l++[d])=Ak l+1000000000 ^ l.length*d:=by rw[Ant];simp[Ak]
theorem G3 (l:List Int) {k:Nat} (h:k<l.length):Ak (l.take (k+1))=Ak (l.take k)+1000000000 ^ k*l[k]:=by rw[take_succ_eq_append_getElem h,M8];simp[Nat.min_eq_left (Nat.le_of_lt h)]
theorem Ab5 (n:Nat):Ak (replicate n 0)=0:=by induction n with| zero=>rfl| succ n ih=>simp[replicate_succ,Ak,ih]
theorem N1 (l:List Int) (k:Nat) (h:k<=l.length):Ak l=Ak (l.take k)+1000000000 ^ k*Ak (l.drop k):=by have e:=Ant (l.take k) (l.drop k);rw[take_append_drop]at e;rw[e,length_take,Nat.min_eq_left h]
theorem Mb (l:List Int) (h:i<l.length) (d:Int):Ak (l.set i d)=Ak l+1000000000 ^ i*(d-l[i]):=by
 induction l generalizing i with
 | nil=>simp at h
 | cons x l ih=>cases i with| zero=>simp[Ak];omega| succ i=>have g:i<l.length:=(by simpa using h);simp only[set_cons_succ,Ak,ih g,getElem_cons_succ,Int.pow_succ];grind
theorem Hs (h:Ma l):0<=Ak l:=by induction l with| nil=>simp[Ak]| cons d l ih=>have q:=h d ψ;have u:=ih λx g=>h x (by simp[g]);simp only[Ak];omega
theorem Ky (n:Nat):(0:Int)<1000000000 ^ n:=Int.pow_pos δ
theorem Kl (h:B7 l):Ak l<1000000000 ^ l.length:=by induction l with| nil=>simp[Ak]| cons d l ih=>have g:=h d ψ;have q:=ih h.tail;simp only[Ak,D9,Int.pow_succ];omega
theorem Fz (n:Nat):Ak (Af n)=n:=by
 induction n using Nat.strongRecOn with
 | _ n ih=>
  by_cases h:n=0
  .subst h;rw[Gw];rfl
  .rw[M7 h,Ak,ih (n / 1000000000) (Nat.div_lt_self ω δ)];omega
theorem Fi (n:Nat):B7 (Af n):=by
 induction n using Nat.strongRecOn with
 | _ n ih=>
  by_cases h:n=0
  .subst h;rw[Gw];exact B7.nil
  .rw[M7 h];intro d g;simp at g;rcases g with rfl|g
   .omega
   .exact ih (n / 1000000000) (Nat.div_lt_self ω δ) d g
theorem Jc (h:n≠0):Af n≠[]:=by rw[M7 h];simp
theorem Ab6 (n:Nat):Can (Af n):=by
 refine⟨Fi n,?_⟩;induction n using Nat.strongRecOn with
 | _ n ih=>
  intro b;have h:n≠0:=λe=>b (by rw[e];exact Gw);have q:=M7 h;by_cases g:n / 1000000000=0
  .have c:Af n = [((n % 1000000000:Nat):Int)]:=(by rw[q,g,Gw]);simp only[c,getLast_singleton];omega
  .have:=ih (n / 1000000000) (Nat.div_lt_self ω δ) (Jc g);simp only[q];rwa [getLast_cons (Jc g)]
theorem Ag5 (h:Can l):Af (Ak l).toNat=l:=by induction l with| nil=>exact Gw| cons d l ih=>obtain⟨q,u⟩:=h;have v:=q d ψ;have g:Can l:=(by refine⟨q.tail,λb=>?_⟩;have:=u ψ;rwa [getLast_cons b]at this);have f:=Hs (q.tail).u32;have b:(Ak (d::l)).toNat≠0:=(by intro e;simp only[Ak]at e;have c:d=0:=ω;have f:Ak l=0:=ω;have:l = []:=(by rw[<-ih g,f];exact Gw);subst this;exact u ψ (by simpa using c));rw[M7 b];simp only[Ak];have j:((d+1000000000*Ak l).toNat % 1000000000:Nat)=d.toNat:=ω;have i:(d+1000000000*Ak l).toNat / 1000000000=(Ak l).toNat:=ω;rw[j,i,ih g];congr 1;omega
theorem Ag6 (h:Can l) (b:Ak l=n):l=Af n:=by rw[<-Ag5 h,b];rfl
def Hx:List Int->List Int
 | []=>[]
 | d::l=>match Hx l with
  | []=>if d=0 then [] else [d]
  | x::m=>d::x::m
theorem Ayy (l:List Int):Hx (l++[0])=Hx l:=by induction l with| nil=>rfl| cons d l ih=>simp only[Eh,Hx,ih]
theorem Ayz (h:d≠0):Hx (l++[d])=l++[d]:=by
 induction l with
 | nil=>simp[Hx,h]
 | cons x l ih=>simp only[Eh,Hx,ih];cases l with| nil=>rfl| cons y l=>rfl
theorem Anu (h:B7 l):Can (Hx l)/\Ak (Hx l)=Ak l:=by
 induction l with
 | nil=>exact⟨⟨B7.nil,λh=>(h rfl).elim⟩,rfl⟩
 | cons d l ih=>
  obtain⟨⟨v,w⟩,g⟩:=ih h.tail;have q:=h d ψ;simp only[Hx];cases A:Hx l with
  | nil=>
   rw[A]at g;simp only[Ak]at g;simp only[];by_cases b:d=0
   .rw[A7 b];refine⟨⟨B7.nil,λh=>(h rfl).elim⟩,?_⟩;simp only[Ak];rw[<-g];omega
   .rw[Ay b];refine⟨⟨B7.one q.1 q.2,λ_=>by simpa using b⟩,?_⟩;simp only[Ak];rw[<-g]
  | cons x m=>
   rw[A]at v w g;simp only[];refine⟨⟨?_,λ_=>?_⟩,?_⟩
   .intro y u;rcases Fp.1 u with rfl|u
    .exact q
    .exact v y u
   .rw[getLast_cons ψ];exact w ψ
   .simp only[Ak]at g ⊢;rw[g]
theorem Ln (h:B7 l) (b:Ak l=n):Hx l=Af n:=by obtain⟨g,q⟩:=Anu h;exact Ag6 g (q.trans b)
theorem Ay0 (h:Can l):Hx l=l:=by obtain⟨g,q⟩:=Anu h.1;rw[<-Ag5 g,q,Ag5 h]
def Bl (n:Nat):Nat:=(Af n).length
variable {j k m n:Nat} {E R S α:Type} {J:E->Option R} {l:List α} {r rf rt:R} {s0:S} {x:α} {p:α×Nat->Bool}
theorem Ag7:Bl 0=0:=by simp[Bl,Gw]
theorem M9 (n:Nat):n<1000000000 ^ Bl n:=by have:=Kl (Fi n);rw[Fz]at this;have e:((1000000000 ^ Bl n:Nat):Int)=1000000000 ^ Bl n:=ψ;unfold Bl at *;omega
theorem J0 (h:n<1000000000 ^ k):Bl n<=k:=by
 induction k generalizing n with
 | zero=>simp at h;subst h;simp[Ag7]
 | succ k ih=>
  by_cases g:n=0
  .subst g;simp[Ag7]
  .unfold Bl;rw[M7 g,D9];have:n / 1000000000<1000000000 ^ k:=(by rw[Nat.div_lt_iff_lt_mul δ];rwa [Nat.pow_succ]at h);have:=ih this;unfold Bl at this;omega
theorem Kz (h:m<=n):Bl m<=Bl n:=J0 (Nat.lt_of_le_of_lt h (M9 n))
theorem Anv (h:k<Bl n):1000000000 ^ k<=n:=by
 rcases Cb n (1000000000 ^ k) with g|g
 .have:=J0 g;omega
 .exact g
theorem Anw (m n:Nat):Bl (m+n)<=max (Bl m) (Bl n)+1:=by apply J0;have g:=M9 m;have h:=M9 n;have q:1000000000 ^ Bl m<=1000000000 ^ max (Bl m) (Bl n):=Nat.pow_le_pow_right δ (Nat.le_max_left _ _);have b:1000000000 ^ Bl n<=1000000000 ^ max (Bl m) (Bl n):=Nat.pow_le_pow_right δ (Nat.le_max_right _ _);rw[Nat.pow_succ];omega
theorem Km (m n:Nat):Bl (m*n)<=Bl m+Bl n:=by apply J0;rw[Nat.pow_add];exact Nat.mul_lt_mul_of_lt_of_le (M9 m) (Nat.le_of_lt (M9 n)) (Nat.pow_pos δ)
theorem Ag8 (m n:Nat):Bl (m / n)<=Bl m:=Kz (Nat.div_le_self _ _)
theorem Anx (h:Bl m<Bl n):m<n:=Nat.lt_of_lt_of_le (M9 m) (Anv h)
theorem Anz {l m:List Int} (g:B7 l) (u:k<l.length) (b:k<m.length) (f:B7 m) (v:l.drop (k+1)=m.drop (k+1)) (c:l[k]<m[k]):Ak l<Ak m:=by have j:=N1 l (k+1) u;have i:=N1 m (k+1) b;rw[G3 l u]at j;rw[G3 m b,<-v]at i;have w:=Kl (g.take k);have q:=Hs ((f.take k).u32);rw[length_take,Nat.min_eq_left (Nat.le_of_lt u)]at w;have h:1000000000 ^ k*(l[k]+1)<=1000000000 ^ k*m[k]:=Int.mul_le_mul_of_nonneg_left c (Int.le_of_lt (Ky k));rw[Int.mul_add]at h;omega
theorem Jl {step:S->Option (S⊕E)} (n:Nat) (b:Nat->S) (h0:s0=b 0) (q:∀j,j<n->step (b j)=some (.inl (b (j+1)))) (c:∃e,step (b n)=some (.inr e)/\J e=some r):(An step s0).bind J=some r:=by
 have g:∀m,m<=n->An step (b 0)=An step (b m):=by intro m;induction m with| zero=>intro _;rfl| succ m ih=>intro h;rw[ih ω,Kd (q m ω)]
 obtain⟨e,u,v⟩:=c;rw[h0,g n (Nat.le_refl _),Fm u];exact v
theorem C3 (h:j<n) (b:n<4611686018427387904):Ac ((j:Int)+1)=((j+1:Nat):Int):=by rw[Ac,B8] <;> omega
theorem An0 (h:l.zipIdx.all p=false):∃j x,l[j]? = some x/\p (x,j)=false/\∀i y,i<j->l[i]? = some y->p (y,i)=true:=by
 have q:∀(n:Nat),(∀i y,i<n->l[i]? = some y->p (y,i)=true)\/∃j x,j<n/\l[j]? = some x/\p (x,j)=false/\∀i y,i<j->l[i]? = some y->p (y,i)=true:=by
  intro n;induction n with
  | zero=>exact .inl (λi y h=>ω)
  | succ n ih=>
   rcases ih with ih|⟨j,x,B,u,v,b⟩
   .cases w:l[n]? with
    | none=>exact .inl (λi y A g=>by
      rcases Cb i n with h|h
      .exact ih i y h g
      .have:i=n:=ω
       subst this;rw[w]at g;cases g)
    | some x=>
     cases hp:p (x,n) with
     | true=>exact .inl (λi y A g=>by
       rcases Cb i n with h|h
       .exact ih i y h g
       .have:i=n:=ω
        subst this;rw[w]at g;cases g;exact hp)
     | false=>exact .inr ⟨n,x,ω,w,hp,ih⟩
   .exact .inr ⟨j,x,ω,u,v,b⟩
 rcases q l.length with C|⟨j,x,B,u,v,b⟩
 .exfalso;have:l.zipIdx.all p=true:=by
   rw[H9];rintro⟨y,i⟩ g;have:=mk_mem_zipIdx_iff_getElem?.1 g;have A:i<l.length:=by
    rcases Cb i l.length with h|h
    .exact h
    .rw[Su h]at this;cases this
   exact C i y A this
  rw[this]at h;cases h
 .exact⟨j,x,u,v,b⟩
theorem K1 (h:l.zipIdx.all p=true) (g:l[j]? = some x):p (x,j)=true := H9.1 h _ (mk_mem_zipIdx_iff_getElem?.2 g)
theorem An1 (h:∀j x,l[j]? = some x->p (x,j)=true):l.zipIdx.all p=true:=by rw[H9];rintro⟨y,i⟩ g;exact h i y (mk_mem_zipIdx_iff_getElem?.1 g)
theorem Ab7 {step:S->Option (S⊕E)} (l:List α) (p:α×Nat->Bool) (b:Nat->S) (h0:s0=b 0) (f:l.length<4611686018427387904) (C:∀(j:Nat) (x:α),l[j]? = some x->(∀i y,i<j->l[i]? = some y->p (y,i)=true)->decide ((j:Int)<(l.length:Int))=true->Ah l (j:Int)=some x->Ac ((j:Int)+1)=((j+1:Nat):Int) -> (p (x,j)=true->step (b j)=some (.inl (b (j+1))))/\(p (x,j)=false->∃e,step (b j)=some (.inr e)/\J e=some rf)) (g:decide ((l.length:Int)<(l.length:Int))=false->l.zipIdx.all p=true->∃e,step (b l.length)=some (.inr e)/\J e=some rt):(An step s0).bind J=some (bif l.zipIdx.all p then rt else rf):=by
 have c:∀(j:Nat) (x:α),l[j]? = some x->(∀i y,i<j->l[i]? = some y->p (y,i)=true)->_:=λj x q u=>
  have v:j<l.length:=by
   rcases Cb j l.length with h|h
   .exact h
   .rw[Su h]at q;cases q
  C j x q u (Aq ω) (Bu rfl q) (C3 v f)
 cases w:l.zipIdx.all p with
 | true=>refine Jl l.length b h0 (λj v=>?_) (g ψ w);have q:l[j]? = some l[j]:=B3 v;exact (c j _ q λi y _ u=>K1 w u).1 (K1 w q)
 | false=>
  obtain⟨j,x,A,D,B⟩:=An0 w;refine Jl j b h0 (λi F=>?_) ((c j x A B).2 D);have v:j<l.length:=by
   rcases Cb j l.length with h|h
   .exact h
   .rw[Su h]at A;cases A
  have q:l[i]? = some l[i]:=B3 ω;exact (c i _ q λk y G u=>B k y ω u).1 (B i _ F q)
theorem Ab8 (l:List α) (p:α->Bool):l.zipIdx.all (λq=>p q.1)=l.all p:=by
 cases h:l.all p with
 | true=>exact An1 λj x g=>H9.1 h _ (B6 g)
 | false=>cases u:l.zipIdx.all (λq=>p q.1) with| false=>rfl| true=>rw[<-h];symm;rw[H9];intro x g;obtain⟨j,v⟩:=Ik g;exact K1 u v
theorem Ab9 {step:S->Option (S⊕E)} (l:List α) (p:α->Bool) (b:Nat->S) (h0:s0=b 0) (c:l.length<4611686018427387904) (g:∀(j:Nat) (x:α),l[j]? = some x->decide ((j:Int)<(l.length:Int))=true->Ah l (j:Int)=some x->Ac ((j:Int)+1)=((j+1:Nat):Int) -> (p x=true->step (b j)=some (.inl (b (j+1))))/\(p x=false->∃e,step (b j)=some (.inr e)/\J e=some rf)) (f:decide ((l.length:Int)<(l.length:Int))=false->∃e,step (b l.length)=some (.inr e)/\J e=some rt):(An step s0).bind J=some (bif l.all p then rt else rf):=by rw[<-Ab8 l p];exact Ab7 l (λq=>p q.1) b h0 c (λj x u _=>g j x u) (λh _=>f h)
theorem F7 {step:S->Option (S⊕E)} (l:List α) (b:Nat->S) (h0:s0=b 0) (c:l.length<4611686018427387904) (q:∀(j:Nat) (x:α),j<l.length->l[j]? = some x->decide ((j:Int)<(l.length:Int))=true->Ah l (j:Int)=some x->Ac ((j:Int)+1)=((j+1:Nat):Int)->step (b j)=some (.inl (b (j+1)))) (f:decide ((l.length:Int)<(l.length:Int))=false->∃e,step (b l.length)=some (.inr e)/\J e=some r):(An step s0).bind J=some r:=by refine Jl l.length b h0 (λj g=>?_) (f ψ);have h:l[j]? = some l[j]:=B3 g;exact q j _ g h (Aq ω) (Bu rfl h) (C3 g c)
theorem Dd (h:l[j]? = some x):l.take (j+1)=l.take j++[x]:=by rw[take_add_one,h];rfl
theorem Ez (h:l[j]? = some x):j<l.length:=by
 rcases Cb j l.length with g|g
 .exact g
 .rw[Su g]at h;cases h
theorem Ag9 (b:Bool):(bif b then true else false)=b:=by cases b <;> rfl
theorem Ay1 (b:Bool):(bif b then false else true) = !b:=by cases b <;> rfl
theorem An2 {A:Type} {X:Option A} {f:A->Option R} {y:R} {Q:A->Prop} (h:∃r,X=some r/\Q r) (g:∀r,Q r->f r=some y):X.bind f=some y:=by obtain⟨r,q,u⟩:=h;rw[q];exact g r u
theorem An3 (l:List α) (p:α->Bool) {step:Int->Option (Int⊕(Int⊕Unit))} {J:Int⊕Unit->Option Int} (g:l.length<4611686018427387904) (v:∀(j:Nat) (x:α),x∈l->decide ((j:Int)<(l.length:Int))=true->Ah l (j:Int)=some x->Ac ((j:Int)+1)=((j+1:Nat):Int) -> step (j:Int)=bif p x then some (.inr (.inl (j:Int))) else some (.inl ((j+1:Nat):Int))) (k:decide ((l.length:Int)<(l.length:Int))=false->step (l.length:Int)=some (.inr (.inr ()))) (c:∀i,J (.inl i)=some i) (b:J (.inr ())=some (-1)):∃i,(An step 0).bind J=some i/\decide (i>=0)=l.any p:=by
 have q:(An step 0).bind (λz=>(J z).bind λi=>some (decide (i>=0)))=some (bif l.all (λx=>!p x) then false else true):=by refine Ab9 l (λx=>!p x) (λj=>(j:Int)) rfl g (λj x w A B C=>?_) λh=>⟨.inr (),k h,by rw[b];rfl⟩;have h:=v j x (B6 w) A B C;simp only[h];cases p x with| true=>exact⟨nofun,λ_=>⟨.inl (j:Int),rfl,by simp only[c,Ad];rw[Aq ω]⟩⟩| false=>exact⟨λ_=>rfl,λh=>by cases h⟩
 have e:l.any p=(bif l.all (λx=>!p x) then false else true):=by rw[Ay1,not_all_eq_any_not];simp
 rw[e];cases f:An step 0 with
 | none=>rw[f]at q;cases q
 | some z=>rw[f,Ad]at q;rw[Ad];cases u:J z with| none=>rw[u]at q;cases q| some i=>rw[u,Ad]at q;exact⟨i,rfl,Fa q⟩
theorem Aha {M:Type} {step:S->Option (S⊕E)} (l:List α) (p:α×Nat->Bool) (b:Nat->M->S) (I:M->Prop) (z A:R->Prop) (g:M) (h0:s0=b 0 g) (h:I g) (B:l.length<4611686018427387904) (T:∀(j:Nat) (x:α) (m:M),I m->l[j]? = some x->(∀i y,i<j->l[i]? = some y->p (y,i)=true)->decide ((j:Int)<(l.length:Int))=true->Ah l (j:Int)=some x->Ac ((j:Int)+1)=((j+1:Nat):Int) -> (p (x,j)=true->∃f,step (b j m)=some (.inl (b (j+1) f))/\I f)/\(p (x,j)=false->∃e,step (b j m)=some (.inr e)/\∃r,J e=some r/\A r)) (D:∀m,I m->decide ((l.length:Int)<(l.length:Int))=false->l.zipIdx.all p=true->∃e,step (b l.length m)=some (.inr e)/\∃r,J e=some r/\z r) : ∃r,(An step s0).bind J=some r/\((l.zipIdx.all p=true/\z r)\/(l.zipIdx.all p=false/\A r)):=by
 have c:∀(j:Nat) (x:α) (m:M),I m->l[j]? = some x->(∀i y,i<j->l[i]? = some y->p (y,i)=true)->_:=λj x m G w v=>
  have U:j<l.length:=Ez w
  T j x m G w v (Aq ω) (Bu rfl w) (C3 U B)
 have F:∀n,n<=l.length->(∀i y,i<n->l[i]? = some y->p (y,i)=true)->∃m,I m/\An step s0=An step (b n m):=by intro n;induction n with| zero=>intro _ _;exact⟨g,h,by rw[h0]⟩| succ n ih=>intro N v;obtain⟨m,C,H⟩:=ih ω λi y V=>v i y ω;have w:l[n]? = some l[n]:=B3 ω;obtain⟨f,K,k⟩:=(c n _ m C w λi y V=>v i y ω).1 (v n _ ω w);exact⟨f,k,by rw[H,Kd K]⟩
 cases P:l.zipIdx.all p with| true=>obtain⟨m,C,H⟩:=F l.length (Nat.le_refl _) λi y _ v=>K1 P v;obtain⟨e,u,r,s,q⟩:=D m C ψ P;exact⟨r,by rw[H,Fm u];exact s,.inl ⟨rfl,q⟩⟩| false=>obtain⟨j,x,C,H,K⟩:=An0 P;obtain⟨m,k,L⟩:=F j (Nat.le_of_lt (Ez C)) K;obtain⟨e,u,r,s,q⟩:=(c j x m k C K).2 H;exact⟨r,by rw[L,Fm u];exact s,.inr ⟨rfl,q⟩⟩
mutual
def Bw:Ag->Nat
 | ⟨_,_,l⟩=>1+De l
def De:List Ag->Nat
 | []=>0
 | x::xs=>Bw x+De xs
end
theorem Jm (t:Ag):Bw t=1+De t.R:=by cases t;simp only[Bw]
theorem Sw (t:Ag):1<=Bw t:=by rw[Jm];omega
theorem J1 {l:List Ag} {a:Ag} (h:a∈l):Bw a<=De l:=by
 induction l with
 | nil=>cases h
 | cons x xs ih=>
  simp only[De];rcases Fp.1 h with rfl|h
  .omega
  .have:=ih h;omega
theorem K2 (l:List Ag):l.length<=De l:=by induction l with| nil=>simp| cons x xs ih=>simp only[De,D9];have:=Sw x;omega
theorem Aca (l m:List Ag):De (l++m)=De l+De m:=by induction l with| nil=>simp[De]| cons x xs ih=>simp only[Eh,De,ih];omega
def Mc (data:List Am) (vars k n:Int) (len:Nat):Bool := if k=1\/k=2\/k=3 then n==0&&len==0 else if k=4 then decide (0<=n)&&decide (n<vars)&&len==0 else if k=5 then decide (0<=n)&&(match data[n.toNat]? with|some d=>(len:Int)==d.V|none=>false) else if k=6 then n==0&&decide (2<=len)&&decide (len<=6) else if k=7\/k=8 then n==0&&len==1 else if k=9 then n==0&&decide (1<=len)&&decide (len<=7) else false
mutual
def G8 (data:List Am) (vars:Int):Ag->Bool
 | ⟨k,n,l⟩=>Mc data vars k n l.length&&Gx data vars l
def Gx (data:List Am) (vars:Int):List Ag->Bool
 | []=>true
 | x::xs=>G8 data vars x&&Gx data vars xs
end
variable {i:Int} {l:List Ag} {j:Nat} {R α:Type}
theorem Ahb (data:List Am) (vars:Int) (t:Ag):G8 data vars t=(Mc data vars t.G t.U t.R.length&&Gx data vars t.R):=by cases t;simp only[G8]
theorem Ay2 (l:List α) (n:Nat):((l.length:Int)==(n:Int))=(l.length==n):=by
 by_cases h:l.length=n
 .subst h;simp
 .rw[Dc ω];simp[h]
theorem Ay3 (k:Nat) (t:Ag) (data:List Am) (vars left:Int) (v:1<=left) (w:left<=1000) : M1 (k+1) t ⟨data,vars,left⟩=bif Mc data vars t.G t.U t.R.length then ((Uz k t.R ⟨data,vars,left-1⟩).bind λh=>some ((!h.1),h.2)) else some (false,⟨data,vars,left-1⟩):=by have q:Ac (left-1)=left-1:=B8 ω ω;have b:¬left-1<0:=ω;rw[M1];simp only[q,Aw b,Ao];generalize g:(Uz k t.R ⟨data,vars,left-1⟩).bind (λh=>some ((!h.1),h.2))=X;generalize f:(some (false,⟨data,vars,left-1⟩):Option (Bool×G7))=Y;unfold Mc Ah;generalize t.R.length=len;generalize t.G=c;generalize t.U=n;cases u:data[n.toNat]? <;> simp only[Bool.cond_eq_ite,Ayx,Ad,Option.bind_none,u] <;> grind
theorem Ahc (h:j<l.length):De (l.take (j+1))=De (l.take j)+Bw l[j]:=by rw[take_succ_eq_append_getElem h,Aca];simp[De]
theorem An4 (data:List Am) (vars:Int) (l m:List Ag):Gx data vars (l++m)=(Gx data vars l&&Gx data vars m):=by induction l with| nil=>simp[Gx]| cons x xs ih=>simp only[Eh,Gx,ih,Bool.and_assoc]
theorem An5 (data:List Am) (vars:Int) (h:j<l.length):Gx data vars (l.take (j+1))=(Gx data vars (l.take j)&&G8 data vars l[j]):=by rw[take_succ_eq_append_getElem h,An4];simp[Gx]
theorem Ahd (l:List Ag) (j:Nat):De (l.take j)<=De l:=by have:=Aca (l.take j) (l.drop j);rw[take_append_drop]at this;omega
theorem Ay4 (data:List Am) (vars:Int) (l:List Ag) (j:Nat) (h:Gx data vars l=true):Gx data vars (l.take j)=true:=by have:=An4 data vars (l.take j) (l.drop j);rw[take_append_drop,h]at this;have:=this.symm;simp only[D3]at this;exact this.1
theorem Ay5 (data:List Am) (vars:Int) (k:Nat) (l:List Ag) (c:Nat) (G:l.length<1099511627776) (ih:∀(a:Ag),a∈l->∀f:Nat,f<=c->∃g:Int,M1 k a ⟨data,vars,f⟩=some (G8 data vars a&&decide (Bw a<=f),⟨data,vars,g⟩)/\((G8 data vars a&&decide (Bw a<=f))=true->g=(f:Int)-Bw a)) : ∃p:Int×Int,Yf (k+2) l ⟨data,vars,c⟩=some (p.1,⟨data,vars,p.2⟩)/\((Gx data vars l&&decide (De l<=c))=true->p.1 = -1/\p.2=(c:Int)-De l)/\((Gx data vars l&&decide (De l<=c))=false->0<=p.1):=by
 rw[Yf];refine U7 (λp:Int×Int=>(p.1,G7.mk data vars p.2)) (Ev (λ(F,v,w,s)=>∃j:Nat,F=j/\j<=l.length/\v=data/\w=vars/\Gx data vars (l.take j)=true/\De (l.take j)<=c/\s=(c:Int)-De (l.take j)) (λ(F,_,_,_)=>l.length-F.toNat) (λz=>match z with|.inl (i,b)=>0<=i/\(∃g,b=⟨data,vars,g⟩)/\(Gx data vars l&&decide (De l<=c))=false | .inr (v,w,s)=>v=data/\w=vars/\(Gx data vars l&&decide (De l<=c))=true/\s=(c:Int)-De l) ⟨0,rfl,ω,rfl,rfl,rfl,by simp[De],by simp[De]⟩ ?_ ?_)
 .rintro⟨F,v,w,s⟩ ⟨j,rfl,N,rfl,rfl,x,A,rfl⟩;rcases Cb j l.length with h|h
  .obtain⟨u,y⟩:∃u:Nat,(c:Int)-De (l.take j)=u/\u<=c:=⟨c-De (l.take j),ω,ω⟩;obtain⟨g,E,D⟩:=ih l[j] (getElem_mem h) u y.2;simp only[Aq (ω:(j:Int)<(l.length:Int)),Al,Ek rfl h,Ad,Xp,y.1,E];cases H:(G8 v w l[j]&&decide (Bw l[j]<=u)) with
   | true=>
    have I:=D H;simp only[D3,D4]at H;refine .inl ⟨(((j+1:Nat):Int),v,w,g),?_,⟨j+1,rfl,ω,rfl,rfl,?_,?_,?_⟩,ζ⟩
    .simp only[bnt,Ao];rw[show Ac ((j:Int)+1)=((j+1:Nat):Int) by rw[Ac,B8] <;> omega]
    .rw[An5 _ _ h,x,H.1];rfl
    .rw[Ahc h];omega
    .show g=_;rw[Ahc h];omega
   | false=>refine .inr ⟨.inl ((j:Int),⟨v,w,g⟩),ψ,ω,⟨g,rfl⟩,?_⟩;cases q:(Gx v w l&&decide (De l<=c)) with| false=>rfl| true=>exfalso;simp only[D3,D4]at q;have C:=Ay4 v w l (j+1) q.1;rw[An5 _ _ h]at C;simp only[D3]at C;have M:=Ahd l (j+1);rw[Ahc h]at M;rw[C.2,Bool.true_and,decide_eq_false_iff_not]at H;omega
  .have:j=l.length:=ω;subst this;rw[Dq]at *;refine .inr ⟨.inr (v,w,(c:Int)-De l),ψ,rfl,rfl,by simp[x,A],rfl⟩
 .rintro (⟨i,b⟩|⟨v,w,s⟩) B
  .obtain⟨C,⟨g,rfl⟩,K⟩:=B;exact⟨_,rfl,(i,g),rfl,(λh=>by rw[K]at h;cases h),λ_=>C⟩
  .obtain⟨rfl,rfl,K,rfl⟩:=B;exact⟨_,rfl,(-1,_),rfl,λ_=>⟨rfl,rfl⟩,λh=>by rw[K]at h;cases h⟩
theorem Ay6 (data:List Am) (vars:Int):∀(left:Nat) (t:Ag) (k:Nat),left<=200->4*left+4<=k->Bw t<1099511627776 -> ∃f:Int,M1 k t ⟨data,vars,left⟩=some (G8 data vars t&&decide (Bw t<=left),⟨data,vars,f⟩)/\((G8 data vars t&&decide (Bw t<=left))=true->f=(left:Int)-Bw t):=by
 intro left;induction left using Nat.strongRecOn with
 | _ left s=>
  intro t k B H I;have hp:=Sw t;obtain⟨g,rfl⟩:∃g,k=g+1:=⟨k-1,ω⟩;cases left with
  | zero=>refine⟨-1,?_,λh=>by simp at h;omega⟩;rw[M1];have C:decide (Bw t<=0)=false:=Aw ω;rw[C,Bool.and_false];rfl
  | succ b=>
   rw[Ay3 g t data vars ((b+1:Nat):Int) ω ω];have z:((b+1:Nat):Int)-1=(b:Int):=ω;rw[z,Ahb];cases A:Mc data vars t.G t.U t.R.length with
   | false=>exact⟨b,ψ,λh=>by simp at h⟩
   | true=>
    obtain⟨q,rfl⟩:∃q,g=q+3:=⟨g-3,ω⟩;have j:=Jm t;have x:=K2 t.R;obtain⟨⟨i,f⟩,D,v,F⟩:=Ay5 data vars q t.R b ω (λa G c y=>by have:=J1 G;exact s c ω a q ω ω ω);have l:decide (Bw t<=b+1)=decide (De t.R<=b):=(by rw[j];congr 1;simp only[eq_iff_iff];omega);simp only[Al,Uz,D,Ad,Bool.true_and,l];refine⟨f,?_,λh=>?_⟩
    .cases w:(Gx data vars t.R&&decide (De t.R<=b)) with| true=>have u:i = -1:=(v w).1;rw[Aw (ω:¬i>=0)];rfl| false=>have u:0<=i:=F w;rw[Aq (ω:i>=0)];rfl
    .have u:f=(b:Int)-De t.R:=(v h).2;rw[u,j];omega
theorem Sx (data:List Am) (t:Ag) (vars:Int) (h:Bw t<1099511627776):Oo data t vars=some (G8 data vars t&&decide (Bw t<=200)):=by unfold Oo;obtain⟨b,g,_⟩:=Ay6 data vars 200 t 4000000 δ δ h;have g:M1 4000000 t ⟨data,vars,200⟩=_:=g;rw[g];rfl
def Sy (a:Ag) (i:Int):Bool:=a.G==4&&a.U==i&&a.R.length==0
def An6 (l:List Ag):Bool:=l.zipIdx.all λq=>Sy q.1 q.2
def K4 (t:Ag) (d vars:Int):Bool:=t.G==5&&t.U==d&&(t.R.length:Int)==vars&&An6 t.R
def Hj (data:List Am) (d c:Int):List Bool := match Ah data d with
 | none=>[]
 | some x=>match Ah x.O c with
  | none=>[]
  | some y=>y.R.map λt=>K4 t d x.V
theorem Iv {l:List α} {x:α} (h:Ah l i=some x):0<=i/\i<l.length/\l[i.toNat]? = some x/\x∈l:=by
 unfold Ah at h;split at h
 .have g:i.toNat<l.length:=Ez h;exact⟨by assumption,ω,h,B6 h⟩
 .cases h
theorem Yl {l:List α} (h:Ah l i=none):i<0\/(l.length:Int)<=i:=by
 unfold Ah at h;split at h
 .rw[List.getElem?_eq_none_iff]at h;right;omega
 .left;omega
theorem Ay7 (data:List Am) (d c:Int) (F:Am->O2->Option R) (z:R) (X:Option R) (f:X=((bif d<(0:Int) then some true else bif d>=(data.length:Int) then some true else bif c<(0:Int) then some true else (Ah data d).bind λb=>some (decide (c>=(b.O.length:Int))):OB).bind λw=>bif w then some z else (Ah data d).bind λq=>(Ah q.O c).bind λA=>F q A)) : X=match Ah data d with
   | none=>some z
   | some x=>match Ah x.O c with
    | none=>some z
    | some y=>F x y:=by
 subst f;cases u:Ah data d with
 | none=>
  rcases Yl u with h|h
  .simp only[Aq h,Al,Ad]
  .by_cases g:d<0
   .simp only[Aq g,Al,Ad]
   .simp only[Aw g,Aq (show d>=(data.length:Int) from h),Al,Ao,Ad]
 | some x=>
  obtain⟨B,C,_,_⟩:=Iv u;simp only[Aw (ω:¬d<0),Aw (ω:¬d>=(data.length:Int)),Ao,Ad];cases v:Ah x.O c with
  | none=>
   rcases Yl v with h|h
   .simp only[Aq h,Al,Ad]
   .by_cases g:c<0
    .simp only[Aq g,Al,Ad]
    .simp only[Aw g,Aq (show c>=(x.O.length:Int) from h),Al,Ao,Ad]
  | some y=>obtain⟨D,G,_,_⟩:=Iv v;simp only[Aw (ω:¬c<0),Aw (ω:¬c>=(x.O.length:Int)),Ao,Ad]
def Ay8 (l:List Ag):Prop:=l.length<=4194304/\∀a∈l,a.R.length<=4194304
def N2 (data:List Am):Prop:=∀x∈data,∀y∈x.O,Ay8 y.R
theorem Ahe (l m:List α) (y x:α) (i:Int) (n:Nat) (h:i=n) (b:n=l.length):C2 (l++y::m) i x=l++x::m:=by rw[Gv h];subst b;simp
theorem Ahf (l m:List α) (y:α) (i:Int) (n:Nat) (h:i=n) (b:n=l.length):Ah (l++y::m) i=some y:=by rw[Bu h];subst b;simp
theorem Ay9 (l:List Ag) (k f:List Bool) (i:Int) (n:Nat) (b:Bool) (h:i=n) (s:n=k.length) (A:l.length<1099511627776) {J:Int×List Bool->Option R} {r:R} (z:J ((l.length:Int),k++(b&&An6 l)::f)=some r) : (An (S:=(Int×List Bool)) (E:=(Int×List Bool)) (λ(c,g)=> bif c<(l.length:Int) then ((Ah l c).bind λv=> bif (v.G != (4:Int)) then ((Ah g i).bind λF=> some (.inl ((Ac (c+1)),(C2 g i false)))) else (bif (v.U != c) then ((Ah g i).bind λy=> some (.inl ((Ac (c+1)),(C2 g i false)))) else (bif (v.R.length:Int)>(0:Int) then ((Ah g i).bind λu=> some (.inl ((Ac (c+1)),(C2 g i false)))) else (some (.inl ((Ac (c+1)),g)))))) else (some (.inr (c,g)))) (0,k++b::f)).bind J=some r:=by
 refine F7 l (λj=>((j:Int),k++(b&&(l.take j).zipIdx.all λq=>Sy q.1 q.2)::f)) ψ ω ?_ ?_
 .intro j x G H C I K;have e:(l.take (j+1)).zipIdx.all (λq=>Sy q.1 q.2)=((l.take j).zipIdx.all (λq=>Sy q.1 q.2)&&Sy x j):=(by rw[Dd H,zipIdx_append,all_append];simp[Nat.min_eq_left (Nat.le_of_lt G)]);simp only[C,I,K,Al,Ad,Ahf k f _ i n h s,Ahe k f _ _ i n h s,e];unfold Sy;by_cases w:x.G=4
  .by_cases B:x.U=j
   .by_cases D:x.R.length=0
    .rw[Aw ω];simp[w,B,D]
    .rw[Aq ω];have:(x.R.length==0)=false:=(by simpa using D);simp[w,B,this]
   .simp[w,B,Gc B]
  .simp[w,Gc w]
 .intro C;refine⟨_,by simp only[C];rfl,?_⟩;rw[Dq];exact z
theorem Acb (data:List Am) (d c:Int) (A:N2 data):Qb data d c=some (Hj data d c):=by
 unfold Qb;rw[Ay7 data d c (λG H=>_) [] _ rfl];unfold Hj;cases B:Ah data d with
 | none=>rfl
 | some x=>
  cases q:Ah x.O c with
  | none=>simp only[q]
  | some y=>
   simp only[q];have v:=A x (Iv B).2.2.2 y (Iv q).2.2.2;have f:=v.1;rw[Kk (n:=y.R.length) (c:=y.R.length) rfl rfl ω ω ω,Ad];refine F7 y.R (λj=>((j:Int),((y.R.take j).map λt=>K4 t d x.V)++replicate (y.R.length-j) false)) rfl ω ?_ ?_
   .intro j t I w u C D;obtain⟨m,g⟩:∃m,y.R.length-j=m+1:=⟨y.R.length-j-1,ω⟩;have h:y.R.length-(j+1)=m:=ω;have b:j=((y.R.take j).map λt=>K4 t d x.V).length:=ζ;simp only[u,C,Al,Ad,g,h,replicate_succ,Dd w,map_append,map_cons,map_nil,append_assoc,Eh,nil_append, Ahf _ _ _ (j:Int) j rfl b,Ahe _ _ _ _ (j:Int) j rfl b];have F:(bif t.G==5 then bif t.U==d then some (map (λt=>K4 t d x.V) (take j y.R)++((t.R.length:Int)==x.V)::replicate m false)
       else some (map (λt=>K4 t d x.V) (take j y.R)++false::replicate m false) else some (map (λt=>K4 t d x.V) (take j y.R)++false::replicate m false))=some (map (λt=>K4 t d x.V) (take j y.R)++(t.G==5&&t.U==d&&((t.R.length:Int)==x.V))::replicate m false):=by cases t.G==5 <;> cases t.U==d <;> simp
    rw[F,Ad];refine Ay9 t.R _ _ (j:Int) j _ rfl b (by have:=v.2 t (B6 w);omega) ?_;rw[D];rfl
   .intro u;exact⟨_,by simp only[u];rfl,ψ⟩
mutual
def mnt (d:Int):Ag->Bool
 | ⟨k,n,l⟩=>(k==5&&n==d)||O3 d l
def O3 (d:Int):List Ag->Bool
 | []=>false
 | x::xs=>mnt d x||O3 d xs
end
theorem Aza (d:Int) (t:Ag):mnt d t=((t.G==5&&t.U==d)||O3 d t.R):=by cases t;simp only[mnt]
theorem Azb (d:Int) (l:List Ag):O3 d l=l.any (mnt d):=by induction l with| nil=>rfl| cons x xs ih=>simp only[O3,ih,any_cons]
theorem Azc (d:Int):∀(n:Nat) (t:Ag) (k:Nat),Bw t<=n->4*n+4<=k->n<1099511627776->Sd k t d=some (mnt d t):=by
 intro n;induction n with
 | zero=>intro t k h;have:=Sw t;omega
 | succ n ih=>intro t k h C g;obtain⟨k,rfl⟩:∃c,k=c+4:=⟨k-4,ω⟩;have f:=Jm t;have b:=K2 t.R;have q:Uy (k+3) t.R d=some (O3 d t.R):=(by rw[Uy,Abt];rw[Azb];refine An2 (An3 t.R (mnt d) ω ?_ (λh=>by simp only[h];rfl) (λ_=>rfl) rfl) (λi u=>by rw[u]);intro j x v w A B;have l:=J1 v;simp only[w,A,B,Al,Ad,X6,ih x k ω ω ω]);rw[Sd,q,Aza];cases t.G==5 <;> cases t.U==d <;> simp
theorem Azd (data:List Am) (v:Int) (l:List Ag):Gx data v l=l.all (G8 data v):=by induction l with| nil=>rfl| cons x xs ih=>simp only[Gx,ih,all_cons]
theorem Aze (data:List Am) (d:Nat) (v k n:Int) (len:Nat):(Mc (data.take (d+1)) v k n len && !(k==5&&n==(d:Int)))=Mc (data.take d) v k n len:=by
 by_cases g:k=5
 .subst g;unfold Mc;simp only[beq_self_eq_true,Bool.true_and,getElem?_take];by_cases b:n=d
  .subst b;simp
  .by_cases q:0<=n
   .have e:(n==(d:Int))=false:=Dc b;rcases Cb n.toNat d with h|h
    .simp[h,e,show n.toNat<d+1 by omega]
    .simp[e,show ¬n.toNat<d by omega,show ¬n.toNat<d+1 by omega]
   .simp[q]
 .have e:(k==(5:Int))=false:=Dc g;simp only[e,Bool.false_and,Bool.not_false,Bool.and_true,Mc,g,if_false]
mutual
theorem An7 (data:List Am) (d:Nat) (v:Int):∀t:Ag,(G8 (data.take (d+1)) v t && !mnt d t)=G8 (data.take d) v t
 | ⟨k,n,l⟩=>by
  have g:=An8 data d v l
  have h:=Aze data d v k n l.length
  simp only[G8,mnt]
  rw[<-g,<-h]
  cases Mc (data.take (d+1)) v k n l.length <;> cases (k==5&&n==(d:Int)) <;> cases Gx (data.take (d+1)) v l <;> simp
theorem An8 (data:List Am) (d:Nat) (v:Int):∀l:List Ag,(Gx (data.take (d+1)) v l && !O3 d l)=Gx (data.take d) v l
 | []=>by simp[Gx,O3]
 | x::xs=>by
  have g:=An7 data d v x
  have h:=An8 data d v xs
  simp only[Gx,O3]
  rw[<-g,<-h]
  cases G8 (data.take (d+1)) v x <;> cases mnt d x <;> cases Gx (data.take (d+1)) v xs <;> simp
end
variable {t:Ag} {x:Am} {s:ByteArray} {o:List (ByteArray×Bool)} {data:List Am} {L:List ByteArray} {a b d:Nat} {y:O2} {R:Type} {Q:R->Prop}
theorem An9:∀l:List Ag,(∀a∈l,a.R.length=0)->De l=l.length
 | [],_=>rfl
 | x::xs,h=>by have g:=h x ψ;simp only[De,D9];rw[An9 xs λa q=>h a (by simp[q]),Jm,Gm.1 g];simp only[De];omega
theorem Aoa (v:data[d]? = some x) (f:x.V<=6) (h:K4 t d x.V=true):G8 (data.take (d+1)) x.V t=true/\Bw t<=200:=by
 unfold K4 at h;simp only[D3,beq_iff_eq]at h;obtain⟨⟨⟨w,A⟩,B⟩,c⟩:=h;have g:∀a∈t.R,∃i:Nat,i<t.R.length/\a.G=4/\a.U=i/\a.R.length=0:=by intro a g;obtain⟨i,q⟩:=Ik g;have:=K1 c q;simp only[Sy,D3,beq_iff_eq]at this;exact⟨i,Ez q,this.1.1,this.1.2,this.2⟩
 refine⟨?_,?_⟩
 .rw[Ahb,Azd,D3];constructor
  .rw[w,A];unfold Mc;simp[v,B]
  .rw[H9];intro a b;obtain⟨i,F,C,D,u⟩:=g a b;rw[Ahb,C,D,u,Gm.1 u];unfold Mc;simp[Gx];omega
 .rw[Jm,An9 _ λa h=>(g a h).choose_spec.2.2.2];omega
def Sz (data:List Am) (d:Nat) (v:Int) (t:Ag):Bool:=K4 t d v||(G8 (data.take d) v t&&decide (Bw t<=200))
theorem Azf (g:data[d]? = some x) (b:x.V<=6) (t:Ag):((G8 (data.take (d+1)) x.V t&&decide (Bw t<=200))&&(K4 t d x.V || !mnt d t))=Sz data d x.V t:=by unfold Sz;cases h:K4 t d x.V with| true=>obtain⟨q,u⟩:=Aoa g b h;rw[q,Aq u];rfl| false=>rw[<-An7 data d x.V t];cases G8 (data.take (d+1)) x.V t <;> cases decide (Bw t<=200) <;> simp
def SzD (data:List Am):Prop:=∀x∈data,x.O.length<=1048576/\∀y∈x.O,De y.R<=1048576
theorem SzD.short (h:SzD data):N2 data:=λx hx y hy=>by have h1:=(h x hx).2 y hy;have h2:=K2 y.R;refine⟨ω,λa ha=>?_⟩;have h3:=J1 ha;have c:=Jm a;have b:=K2 a.R;omega
theorem Azg (g:SzD data) (d c:Nat) (v:data[d]? = some x) (w:x.O[c]? = some y) (q:x.V<=6) (F:data.length<=1048576) : P9 data d c=some (decide (y.R.length<=6)&&y.R.all (Sz data d x.V)):=by
 have b:=Ez v;have l:=(g x (B6 v)).2 y (B6 w);unfold P9;rw[Bu rfl v,Ad,Bu rfl w,Ad,Acb data d c g.short];by_cases k:y.R.length<=6
 .rw[Aw (ω:¬(y.R.length:Int)>6),Aq k];simp only[Ao,Bool.true_and,Ad];refine (Ab9 y.R (Sz data d x.V) (λj=>(j:Int)) rfl ω (rt:=true) (rf:=false) ?_ ?_).trans (by rw[Ag9])
  .intro j t A B C D;have s:=J1 (B6 A);have u:Ah (Hj data d c) (j:Int)=some (K4 t d x.V):=(by unfold Hj;simp only[Bu rfl v,Bu rfl w];rw[Bu rfl];simp[A]);simp only[B,C,D,Al,Ad,show Ac ((d:Int)+1)=((d+1:Nat):Int) from C3 b ω,Sv rfl (show d+1<=data.length from b),Bu rfl v,
    Sx (data.take (d+1)) t x.V ω,u];rw[<-Azf v q t];cases i:(G8 (data.take (d+1)) x.V t&&decide (Bw t<=200)) with
   | false=>exact⟨nofun,λ_=>⟨.inl false,rfl,rfl⟩⟩
   | true=>
    have f:Bw t<=200:=(by simp only[D3,D4]at i;exact i.2);simp only[bnt,Ao,Bool.true_and];cases z:K4 t d x.V with
    | true=>exact⟨λ_=>rfl,λh=>by cases h⟩
    | false=>simp only[Bool.not_false,Al,Azc d 200 t 4000000 f ω ω,Ad,Bool.false_or];cases mnt d t with| true=>exact⟨nofun,λ_=>⟨.inl false,rfl,rfl⟩⟩| false=>exact⟨λ_=>rfl,λh=>by cases h⟩
  .intro h;exact⟨.inr (),by simp only[h];rfl,rfl⟩
 .rw[Aq (ω:(y.R.length:Int)>6),Aw k];rfl
def bI (s:ByteArray) (i:Nat):Int:=if h:i<s.size then (s[i].toNat:Int) else 0
def loI (c:Int):Bool:=decide (97<=c)&&decide (c<=122)
def upI (c:Int):Bool:=decide (65<=c)&&decide (c<=90)
def diI (c:Int):Bool:=decide (48<=c)&&decide (c<=57)
def wiI (c:Int):Bool:=loI c||upI c||diI c||c==95
def I0 (s:ByteArray):Prop:=1<=s.size/\s.size<=24/\upI (bI s 0)=true/\∀i,i<s.size->wiI (bI s i)=true
theorem O4 {i:Int} {n:Nat} (g:i=n) (h:n<s.size):∃c:UInt8,Jh s i=some c/\(c.toNat:Int)=bI s n:=by
 subst g;refine⟨s[n],?_,?_⟩
 .unfold Jh;rw[A7 ω,show ((n:Int)).toNat=n from rfl];simp[h]
 .unfold bI;simp[h]
theorem Ym {j:Nat} (hb:b<=s.size) (h:a+j<b):bI (s.extract a b) j=bI s (a+j):=by
 unfold bI;have g:j<(s.extract a b).size:=by rw[ByteArray.size_extract];omega
 rw[dif_pos g,dif_pos ω,ByteArray.getElem_extract]
theorem Yn {lo g:Int} (h:lo=a) (q:g=b) (u:a<=b) (c:b<=s.size):Gk s lo g=some (s.extract a b):=by subst h;subst q;unfold Gk;rw[A7 ω];rfl
theorem Aob {a b:ByteArray} (h:a.toList=b.toList):a=b:=by rw[ByteArray.toList_eq,ByteArray.toList_eq]at h;have:a.data=b.data:=Array.toList_inj.1 h;cases a;cases b;simp at this;subst this;rfl
theorem Aoc (a b:ByteArray):(a.toList==b.toList)=decide (a=b):=by
 by_cases h:a=b
 .subst h;simp
 .rw[Aw h];cases g:(a.toList==b.toList) with| false=>rfl| true=>exact absurd (Aob (by simpa using g)) h
theorem Aod (c:Int):Uw c=some (loI c):=by unfold Uw loI;by_cases h:(97:Int)<=c <;> simp[h]
theorem Aoe (c:Int):So c=some (upI c):=by unfold So upI;by_cases h:(65:Int)<=c <;> simp[h]
theorem Acd (c:Int):Qi c=some (diI c):=by unfold Qi diI;by_cases h:(48:Int)<=c <;> simp[h]
theorem Aof (c:Int):Ux c=some (wiI c):=by unfold Ux wiI;rw[Aod,Aoe,Acd];simp only[Ad];cases loI c <;> cases upI c <;> cases diI c <;> rfl
theorem Ahg {S E:Type} {step:S->Option (S⊕E)} (s:ByteArray) (p:Int->Bool) (b:Nat->S) (f:Nat->E) (lo:Nat) (g:∀j,lo<=j->j<s.size->p (bI s j)=true->step (b j)=some (.inl (b (j+1)))) (q:∀j,lo<=j->j<s.size->p (bI s j)=false->step (b j)=some (.inr (f j))) (u:step (b s.size)=some (.inr (f s.size))) : ∀(m i:Nat),lo<=i->i+m=s.size->∃n,i<=n/\n<=s.size/\(∀j,i<=j->j<n->p (bI s j)=true)/\(n<s.size->p (bI s n)=false)/\An step (b i)=some (f n):=by
 intro m;induction m with
 | zero=>intro i _ v;have:i=s.size:=ω;subst this;exact⟨s.size,ω,ω,λj _ _=>ω,λh=>ω,Fm u⟩
 | succ m ih=>
  intro i c v;cases hp:p (bI s i) with
  | true=>
   obtain⟨n,F,w,A,B,C⟩:=ih (i+1) ω ω;refine⟨n,ω,w,λj G D=>?_,B,by rw[Kd (g i c ω hp)];exact C⟩;rcases Cb i j with h|h
   .exact A j h D
   .have:j=i:=ω;subst this;exact hp
  | false=>exact⟨i,ω,ω,λj _ _=>ω,λ_=>hp,Fm (q i c ω hp)⟩
theorem Azh (s:ByteArray) (F:s.size<1099511627776):∃n,n<=s.size/\(∀j,j<n->wiI (bI s j)=true)/\(n<s.size->wiI (bI s n)=false)/\Yb s=some (s.extract 0 n):=by
 have H:=Ahg (step:=λh:Int=>bif h<(s.size:Int) then ((Jh s h).bind λA=>(Ux (A.toNat:Int)).bind λB=>bif B then some (.inl (Ac (h+1))) else some (.inr h)) else some (.inr h))
  s wiI (λj=>(j:Int)) (λj=>(j:Int)) 0 (λj _ g hp=>by
   obtain⟨c,q,u⟩:=O4 (s:=s) (i:=(j:Int)) rfl g
   simp only[Aq (ω:(j:Int)<(s.size:Int)),Al,q,Ad,u,Aof,hp,C3 g ω]) (λj _ g hp=>by
   obtain⟨c,q,u⟩:=O4 (s:=s) (i:=(j:Int)) rfl g
   simp only[Aq (ω:(j:Int)<(s.size:Int)),Al,q,Ad,u,Aof,hp,Ao]) ψ s.size 0 ω ω
 obtain⟨n,_,w,C,D,v⟩:=H
 refine⟨n,w,λj g=>C j ω g,D,?_⟩
 unfold Yb
 have v:An _ (0:Int)=some (n:Int):=v
 rw[v,Ad,Yn (lo:=0) (a:=0) (b:=n) rfl rfl ω w];rfl
theorem Azi (s:ByteArray) (F:s.size<1099511627776):∃n,n<=s.size/\(∀j,j<n->diI (bI s j)=true)/\(n<s.size->diI (bI s n)=false)/\Abs s=some (s.extract 0 n):=by
 have H:=Ahg (step:=λh:Int=>bif h<(s.size:Int) then ((Jh s h).bind λA=>(Qi (A.toNat:Int)).bind λB=>bif B then some (.inl (Ac (h+1))) else some (.inr h)) else some (.inr h))
  s diI (λj=>(j:Int)) (λj=>(j:Int)) 0 (λj _ g hp=>by
   obtain⟨c,q,u⟩:=O4 (s:=s) (i:=(j:Int)) rfl g
   simp only[Aq (ω:(j:Int)<(s.size:Int)),Al,q,Ad,u,Acd,hp,C3 g ω]) (λj _ g hp=>by
   obtain⟨c,q,u⟩:=O4 (s:=s) (i:=(j:Int)) rfl g
   simp only[Aq (ω:(j:Int)<(s.size:Int)),Al,q,Ad,u,Acd,hp,Ao]) ψ s.size 0 ω ω
 obtain⟨n,_,w,C,D,v⟩:=H
 refine⟨n,w,λj g=>C j ω g,D,?_⟩
 unfold Abs
 have v:An _ (0:Int)=some (n:Int):=v
 rw[v,Ad,Yn (lo:=0) (a:=0) (b:=n) rfl rfl ω w];rfl
theorem O5 {c:Bool} {X Y:Option R} (g:∃r,X=some r/\Q r) (h:∃r,Y=some r/\Q r):∃r,(bif c then X else Y)=some r/\Q r:=by cases c <;> assumption
theorem Ahh {A:Type} {X:Option A} {f:A->Option R} (P:A->Prop) (g:∃a,X=some a/\P a) (q:∀a,P a->∃r,f a=some r/\Q r):∃r,X.bind f=some r/\Q r:=by obtain⟨a,e,h⟩:=g;rw[e];exact q a h
theorem Azj (s:ByteArray):∃b,Yc s=some b/\True:=by unfold Yc;repeat' first|refine O5 ?_ ?_|exact⟨_,rfl,trivial⟩
theorem Azk (s:ByteArray) (q:1<=s.size):∃r,Ye s=some r/\(r.size<=s.size):=by
 have g:Gk s 0 1=some (s.extract 0 1):=Yn rfl rfl ω q;have c:(s.extract 0 1).size<=s.size:=by rw[ByteArray.size_extract];omega
 unfold Ye;refine Ahh (λz=>∀r,z = .inl r->r.size<=s.size) ?_ ?_
 .by_cases v:2<=s.size
  .have f:Gk s 0 2=some (s.extract 0 2):=Yn rfl rfl ω v;have b:∀r,(Sum.inl (s.extract 0 2):ByteArray⊕Unit) = .inl r->r.size<=s.size:=(by rintro r ⟨⟩;rw[ByteArray.size_extract];omega);simp only[f,Ad];repeat' first|refine O5 ?_ ?_|with_reducible exact⟨_,rfl,b⟩|exact⟨_,rfl,λr h=>by cases h⟩
  .rw[Aw ω];exact⟨_,rfl,λr h=>by cases h⟩
 .rintro (r|u) i
  .exact⟨_,rfl,i r rfl⟩
  .simp only[g,Ad];have w:(ByteArray.mk #[]).size<=s.size:=Nat.zero_le _;repeat' first|refine O5 ?_ ?_|with_reducible exact⟨_,rfl,c⟩|with_reducible exact⟨_,rfl,w⟩
theorem Azl (s:ByteArray) (q:s.size<1099511627776):∃b,Yd s=some b/\True:=by
 unfold Yd;refine Ev (λ(_,i)=>∃j:Nat,i=j/\j<=s.size) (λ(_,i)=>s.size-i.toNat) (λ_=>True) ⟨0,rfl,ω⟩ ?_ ?_
 .rintro⟨v,i⟩ ⟨j,rfl,w⟩;rcases Cb j s.size with h|h
  .obtain⟨c,g,_⟩:=O4 (s:=s) (i:=(j:Int)) rfl h;simp only[Aq (ω:(j:Int)<(s.size:Int)),Al,g,Ad,C3 h ω];cases decide (Ac (Ac (v*10)+Ac (wu8 ((c.toNat:Int)-48)))>1000000) with| true=>exact .inr ⟨_,rfl,trivial⟩| false=>exact .inl ⟨_,rfl,⟨j+1,rfl,ω⟩,ζ⟩
  .have:j=s.size:=ω;subst this;exact .inr ⟨.inr (),ψ,trivial⟩
 .rintro (r|u) _ <;> exact⟨_,rfl,trivial⟩
theorem Azm (s:ByteArray) (i:Nat) (M:i<s.size) (V:s.size<1099511627776) : ∃r,X5 s i=some r/\(r.2=0->1<=r.1.Text.size/\i+r.1.Text.size<=s.size/\(r.1.G=2->I0 r.1.Text))/\(I0 s->i=0->r=(⟨2,s,0⟩,0)):=by
 obtain⟨c,N,P⟩:=O4 (s:=s) (i:=(i:Int)) rfl M;have u:Gk s (i:Int) (s.size:Int)=some (s.extract i s.size):=Yn rfl rfl ω ω;have I:(s.extract i s.size).size=s.size-i:=by rw[ByteArray.size_extract];omega
 have x:bI (s.extract i s.size) 0=bI s i:=Ym ω ω;unfold X5;simp only[N,Ad,P,Aod,Aoe,Acd,u];have T:(bif loI (bI s i) then some true else some (upI (bI s i)))=some (loI (bI s i)||upI (bI s i)):=by cases loI (bI s i) <;> rfl
 rw[T];simp only[Ad];cases l:(loI (bI s i)||upI (bI s i)) with
 | true=>
  obtain⟨n,G,D,y,F⟩:=Azh (s.extract i s.size) ω;have A:1<=n:=by
   rcases Nat.eq_zero_or_pos n with h|h
   .subst h;have:=y ω;rw[x]at this;unfold wiI at this;rw[l]at this;cases this
   .exact h
  have H:(s.extract i s.size).extract 0 n=s.extract i (i+n):=(by rw[ByteArray.extract_extract];congr 1;omega);have q:(s.extract i (i+n)).size=n:=(by rw[ByteArray.size_extract];omega);rw[H]at F;simp only[Al,F,Ad,q];have g:I0 s->i=0->n=s.size:=by
   intro w C;rcases Cb n s.size with h|h
   .have:=y ω;rw[Ym ω ω,w.2.2.2 _ ω]at this;cases this
   .omega
  by_cases J:n<=24
  .rw[Aw ω];cases k:upI (bI s i) with
   | true=>
    refine⟨_,rfl,λ_=>⟨?_,?_,λ_=>⟨?_,?_,?_,?_⟩⟩,?_⟩
    .show 1<=(s.extract i (i+n)).size;omega
    .show i+(s.extract i (i+n)).size<=s.size;omega
    .show 1<=(s.extract i (i+n)).size;omega
    .show (s.extract i (i+n)).size<=24;omega
    .show upI (bI (s.extract i (i+n)) 0)=true;rw[Ym ω ω];exact k
    .show ∀j,j<(s.extract i (i+n)).size->wiI (bI (s.extract i (i+n)) j)=true;intro j W;rw[Ym ω ω];have:=D j ω;rw[Ym ω ω]at this;exact this
    .intro w C;have:=g w C;subst C;subst this;rw[Nat.zero_add,ByteArray.extract_zero_size];rfl
   | false=>obtain⟨b,K,_⟩:=Azj (s.extract i (i+n));simp only[Ao,K,Ad];have f:I0 s->i=0->False:=(by intro w C;subst C;rw[w.2.2.1]at k;cases k);cases b with| true=>exact⟨_,rfl,λ_=>⟨by show 1<=(s.extract i (i+n)).size;omega,by show i+(s.extract i (i+n)).size<=s.size;omega,λh=>by cases h⟩,λw C=>(f w C).elim⟩| false=>exact⟨_,rfl,λ_=>⟨by show 1<=(s.extract i (i+n)).size;omega,by show i+(s.extract i (i+n)).size<=s.size;omega,λh=>by cases h⟩,λw C=>(f w C).elim⟩
  .rw[Aq ω];refine⟨_,rfl,nofun,λw C=>?_⟩;have:=g w C;have:=w.2.1;omega
 | false=>
  have f:I0 s->i=0->False:=(by intro w C;subst C;rw[w.2.2.1,Bool.or_true]at l;cases l);simp only[Ao];cases U:diI (bI s i) with
  | true=>
   obtain⟨n,G,D,y,F⟩:=Azi (s.extract i s.size) ω;have A:1<=n:=by
    rcases Nat.eq_zero_or_pos n with h|h
    .subst h;have:=y ω;rw[x,U]at this;cases this
    .exact h
   have H:(s.extract i s.size).extract 0 n=s.extract i (i+n):=(by rw[ByteArray.extract_extract];congr 1;omega);have q:(s.extract i (i+n)).size=n:=(by rw[ByteArray.size_extract];omega);rw[H]at F;obtain⟨b,K,_⟩:=Azl (s.extract i (i+n)) ω;simp only[Al,F,Ad,K];refine Ahh (λ_=>True) ?_ ?_
   .exact O5 ⟨_,rfl,trivial⟩ ⟨_,rfl,trivial⟩
   .intro v _;refine O5 ⟨_,rfl,nofun,λw C=>(f w C).elim⟩ (O5 ⟨_,rfl,nofun,λw C=>(f w C).elim⟩ ⟨_,rfl,λ_=>⟨?_,?_,λh=>by cases h⟩,λw C=>(f w C).elim⟩)
    .show 1<=(s.extract i (i+n)).size;omega
    .show i+(s.extract i (i+n)).size<=s.size;omega
  | false=>
   obtain⟨r,E,L⟩:=Azk (s.extract i s.size) ω;simp only[Ao,E,Ad];rw[Aoc];by_cases z:r=ByteArray.mk #[]
   .rw[Aq z];exact⟨_,rfl,nofun,λw C=>(f w C).elim⟩
   .rw[Aw z];refine⟨_,rfl,λ_=>⟨?_,?_,λh=>by cases h⟩,λw C=>(f w C).elim⟩
    .show 1<=r.size;rcases Nat.eq_zero_or_pos r.size with h|h
     .have B:r.data.toList.length=0:=(by simpa using h);exact absurd (Aob (by rw[ByteArray.toList_eq,Gm.1 B,ByteArray.toList_eq])) z
     .exact h
    .show i+r.size<=s.size;omega
theorem Azn (c:Int):X4 c=some (c==9||c==10||c==13||c==32):=by unfold X4;cases c==9 <;> cases c==10 <;> cases c==13 <;> rfl
theorem Aog (s:ByteArray) (hs:s.size<1099511627776):∃b,R3 s=some b/\(b=true↔I0 s):=by
 unfold R3 Abg
 by_cases q:(s.size:Int)>16384
 .rw[Aq q]
  refine⟨false,rfl,by simp;rintro⟨_,h,_⟩;omega⟩
 rw[Aw q]
 simp only[Ao]
 refine Ahh (λr:List Jj×Int×Int=>(r.2.2≠0/\¬I0 s)\/(r.2.2=0/\∃o e,r.1=o++[e]/\(∀t∈o,t.G=2->I0 t.Text)/\(I0 s->o = [⟨2,s,0⟩]))) ?_ ?_
 .refine Ev (λ(F,f)=>∃i:Nat,F=i/\i<=s.size/\f.length<=i/\(∀t∈f,t.G=2->I0 t.Text)/\(I0 s->(i=0/\f = [])\/(i=s.size/\f = [⟨2,s,0⟩])))
   (λ(F,_)=>s.size-F.toNat)
   (λz=>match z with|.inl o=>o.length<=16384/\(∀t∈o,t.G=2->I0 t.Text)/\(I0 s->o = [⟨2,s,0⟩]) | .inr (_,_,e)=>e≠0/\¬I0 s)
   ⟨0,rfl,ω,ψ,ψ,λ_=>.inl ⟨rfl,rfl⟩⟩ ?_ ?_
  .rintro⟨v,o⟩ ⟨i,rfl,hi,ho,H,hu⟩
   rcases Cb i s.size with h|h
   .obtain⟨c,K,P⟩:=O4 (s:=s) (i:=(i:Int)) rfl h
    have g:I0 s->i=0/\o = []:=λu=>by
     rcases hu u with w|w
     .exact w
     .omega
    simp only[Aq (ω:(i:Int)<(s.size:Int)),Al,K,Ad,P,Azn]
    cases G:(bI s i==9||bI s i==10||bI s i==13||bI s i==32) with
    | true=>
     have k:¬I0 s:=by
      intro u
      have h0:=(g u).1
      subst h0
      have:=u.2.2.1
      simp only[upI,D3,D4]at this
      simp only[Bool.or_eq_true,beq_iff_eq]at G
      omega
     exact .inl ⟨(((i+1:Nat):Int),o),by simp only[Al];rw[C3 h ω],⟨i+1,rfl,ω,(by show o.length<=i+1;omega),H,λu=>(k u).elim⟩,ζ⟩
    | false=>
     simp only[Ao]
     cases B:(bI s i==35) with
     | true=>
      have k:¬I0 s:=by
       intro u
       have h0:=(g u).1
       subst h0
       have:=u.2.2.1
       simp only[upI,D3,D4]at this
       simp only[beq_iff_eq]at B
       omega
      simp only[Al]
      obtain⟨n,Z,Y,X,n4,E⟩:=Ahg (step:=λC:Int=>bif C<(s.size:Int) then ((Jh s C).bind λI=>bif ((I.toNat:Int)==(10:Int)) then some (.inr (.inl C)) else some (.inl (Ac (C+1)))) else some (.inr (.inr C)))
       s (λc=>!(c==10)) (λj=>(j:Int)) (λj=>if j<s.size then Sum.inl (j:Int) else Sum.inr (j:Int)) 0 (λj _ T hp=>by
        obtain⟨c,K,P⟩:=O4 (s:=s) (i:=(j:Int)) rfl T
        simp only[Bool.not_eq_true']at hp
        simp only[Aq (ω:(j:Int)<(s.size:Int)),Al,K,Ad,P,hp,C3 T ω,Ao]) (λj _ T hp=>by
        obtain⟨c,K,P⟩:=O4 (s:=s) (i:=(j:Int)) rfl T
        simp only[Bool.not_eq_false']at hp
        simp only[Aq (ω:(j:Int)<(s.size:Int)),Al,K,Ad,P,hp,A7 T]) ψ (s.size-i) i ω ω
      have R:i<n:=by
       rcases Cb i n with w|w
       .exact w
       .have:n=i:=ω
        subst this
        have:=n4 h
        simp only[beq_iff_eq]at B
        rw[B]at this;cases this
      have E:An _ (i:Int)=_:=E
      rw[E,Ad]
      rcases Cb n s.size with w|w
      .rw[A7 w]
       exact .inl ⟨((n:Int),o),rfl,⟨n,rfl,ω,(by show o.length<=n;omega),H,λu=>(k u).elim⟩,ζ⟩
      .rw[Ay ω]
       exact .inr ⟨.inl o,rfl,ω,H,λu=>(k u).elim⟩
     | false=>
      obtain⟨r,N,M,J⟩:=Azm s i h hs
      simp only[Ao,N,Ad]
      by_cases D:r.2=0
      .obtain⟨a1,a2,a3⟩:=M D
       simp only[Hw D,Ao]
       rw[Dn ζ,Ad]
       refine .inl ⟨(((i+r.1.Text.size:Nat):Int),o++[r.1]),?_,⟨i+r.1.Text.size,rfl,a2,ζ,?_,?_⟩,ζ⟩
       .rw[show Ac ((i:Int)+(r.1.Text.size:Int))=((i+r.1.Text.size:Nat):Int) by rw[Ac,B8] <;> omega]
       .intro t ht
        rcases D7.1 ht with w|w
        .exact H t w
        .simp at w;subst w;exact a3
       .intro u
        obtain⟨b1,b2⟩:=g u
        have:=J u b1
        subst b1;subst b2;subst this
        exact .inr ⟨ψ,rfl⟩
      .simp only[Gc D,Al]
       refine .inr ⟨_,rfl,D,λu=>?_⟩
       rw[J u (g u).1]at D
       exact D rfl
   .have:i=s.size:=ω
    subst this
    refine .inr ⟨.inl o,ψ,ω,H,λu=>?_⟩
    rcases hu u with⟨w,_⟩|⟨_,w⟩
    .have:=u.1;omega
    .exact w
  .rintro (o|⟨l,p,e⟩) L
   .obtain⟨V,z2,z3⟩:=L
    simp only
    rw[Dn ζ,Ad]
    exact⟨_,rfl,.inr ⟨rfl,o,_,rfl,z2,z3⟩⟩
   .exact⟨_,rfl,.inl L⟩
 .rintro⟨l,p,e⟩ (⟨W,h2⟩|⟨W,o,t,h2,h3,A⟩)
  .simp only at W
   simp only[Dc W,Ao]
   exact⟨_,rfl,by simp[h2]⟩
  .simp only at W h2
   subst W;subst h2
   simp only[beq_self_eq_true,Al]
   match o,h3,A with
   | [],_,A=>exact⟨false,ψ,by simp;intro u;cases A u⟩
   | [x],h3,A=>
    have U:Ah ([x]++[t]) 0=some x:=rfl
    simp only[U,Ad,Aoc]
    have S:((([x]++[t]).length:Int)==2)=true:=rfl
    simp only[S,Al]
    by_cases hx:x.G=2
    .simp only[Gb hx,Al]
     refine⟨_,rfl,?_⟩
     rw[decide_eq_true_iff]
     constructor
     .intro h;rw[<-h];exact h3 x ψ hx
     .intro u;have:=A u;simp at this;rw[this]
    .simp only[Dc hx,Ao]
     refine⟨_,rfl,?_⟩
     simp only[Bool.false_eq_true,false_iff]
     intro u;have:=A u;simp at this;rw[this]at hx;exact hx rfl
   | x::y::ys,_,A=>
    refine⟨false,?_,by simp;intro u;have:=A u;simp at this⟩
    rw[Dc]
    .rfl
    .simp;omega
def Ace (data:List Am) (d:Nat) (v:Int) (y:O2):Prop:=I0 y.S/\y.R.length<=6/\y.R.all (Sz data d v)=true
def Ahi (data:List Am) (d:Nat) (x:Am):Prop:=0<=x.V/\x.V<=6/\1<=x.O.length/\x.O.length<=8/\I0 x.S/\∀y∈x.O,Ace data d x.V y
def J2 (x:Am):List ByteArray:=x.O.map (·.S)
def Hy (data:List Am):Prop:=data.length<=12/\(∀d x,data[d]? = some x->Ahi data d x)/\(data.map (·.S)).Nodup/\(data.flatMap J2).Nodup
structure DSz (data:List Am):Prop where
 len:data.length<=1048576
 sz:SzD data
 nm:∀x∈data,x.S.size<=1048576
 cn:∀x∈data,∀y∈x.O,y.S.size<=1048576
theorem Md (a b:ByteArray):(a==b)=true↔a=b:=by
 constructor
 .intro h;cases a with|mk a=>cases b with|mk b=>
  have:a=b:=(by exact eq_of_beq h);rw[this]
 .rintro rfl;cases a with|mk a=>exact beq_self_eq_true a
def K5 (o:List (ByteArray×Bool)) (L:List ByteArray):Prop:=(∀p∈o,p.2=true)/\∀s,Ej o s=true↔s∈L
theorem K5.nil:K5 [] []:=⟨ψ,by simp[Ej]⟩
theorem K5.get (h:K5 o L) (hs:Ej o s=true):Hq o s false=true:=by unfold Hq;unfold Ej at hs;rw[any_eq_true]at hs;obtain⟨p,c,b⟩:=hs;cases hf:o.find? (λp=>s==p.1) with| none=>exact absurd b (by have:=find?_eq_none.1 hf p c;simpa using this)| some q=>exact h.1 q (mem_of_find?_eq_some hf)
theorem Azo (o:List (ByteArray×Bool)) (s t:ByteArray) (v:Bool):Ej (Fx o s v) t=(Ej o t||t==s):=by
 induction o with
 | nil=>simp[Fx,Ej]
 | cons p o ih=>unfold Fx;cases hp:(s==p.1) with| true=>have:s=p.1:=(Md _ _).1 hp;subst this;simp only[Al,Ej,any_cons];cases t==p.1 <;> simp| false=>simp only[Ej,any_cons]at ih ⊢;simp only[Ao,any_cons,ih,Bool.or_assoc]
theorem K5.put (h:K5 o L) (s:ByteArray):K5 (Fx o s true) (L++[s]):=by
 refine⟨?_,λt=>?_⟩
 .have:∀o:List (ByteArray×Bool),(∀p∈o,p.2=true)->∀p∈Fx o s true,p.2=true:=by
   intro o;induction o with
   | nil=>intro _ p hp;simp[Fx]at hp;rw[hp]
   | cons q o ih=>
    intro b p hp;unfold Fx at hp;cases g:(s==q.1) with
    | true=>
     rw[g]at hp;simp only[Al,Fp]at hp;rcases hp with rfl|hp
     .rfl
     .exact b p (by simp[hp])
    | false=>
     rw[g]at hp;simp only[Ao,Fp]at hp;rcases hp with rfl|hp
     .exact b _ ψ
     .exact ih (λp hp=>b p (by simp[hp])) p hp
  exact this o h.1
 .rw[Azo,Bool.or_eq_true,h.2 t,Md];simp
theorem Azp (x:Am) {c:Nat} (g:x.O[c]? = some y):J2 x=(x.O.take c).map (·.S)++y.S::(x.O.drop (c+1)).map (·.S):=by
 have h:=take_append_drop c x.O
 have q:=Ez g
 have e:x.O.drop c=y::x.O.drop (c+1):=by
  rw[drop_eq_getElem_cons q]
  rw[B3 q]at g
  rw[Fa g]
 unfold J2
 conv=>lhs;rw[<-h,e]
 simp
theorem Aoh {m:List ByteArray} (h:(L++s::m).Nodup):s ∉ L:=by rw[nodup_append]at h;intro g;exact h.2.2 s g s ψ rfl
theorem Aoi (h:L.Nodup) (q:s ∉ L):(L++[s]).Nodup:=by rw[nodup_append];refine⟨h,ψ,?_⟩;intro a u b g;simp at g;subst g;intro e;subst e;exact q u
theorem Azq (s:DSz data) (V:data[d]? = some x) (I:x.V<=6) (o:List (ByteArray×Bool)) (L:List ByteArray) (J:K5 o L) (N:L.Nodup) : ∃z,An (S:=(Int×List (ByteArray×Bool))) (E:=(Bool⊕(Int×List (ByteArray×Bool)))) (λ(f,g)=> bif f<(x.O.length:Int) then ((Ah x.O f).bind λw=> (R3 w.S).bind λA=> bif (!A) then some (.inr (.inl false)) else (bif (Ej g w.S) then (bif (Hq g w.S (false:Bool)) then some (.inr (.inl false)) else ((P9 data d f).bind λu=> bif (!u) then some (.inr (.inl false)) else some (.inl ((Ac (f+1)),(Fx g w.S true))))) else ((P9 data d f).bind λP=> bif (!P) then some (.inr (.inl false)) else some (.inl ((Ac (f+1)),(Fx g w.S true)))))) else some (.inr (.inr (f,g)))) (0,o)=some z /\ match z with
   | .inl r=>r=false/\¬((∀y∈x.O,Ace data d x.V y)/\(L++J2 x).Nodup)
   | .inr (_,o')=>(∀y∈x.O,Ace data d x.V y)/\(L++J2 x).Nodup/\K5 o' (L++J2 x):=by
 have H:=B6 V;have M:=(s.sz x H).1;refine I9 (λ(f,g)=>∃c:Nat,f=c/\c<=x.O.length/\(∀y∈x.O.take c,Ace data d x.V y)/\(L++(x.O.take c).map (·.S)).Nodup/\K5 g (L++(x.O.take c).map (·.S))) (λ(f,_)=>x.O.length-f.toNat) _ ?_ _ ⟨0,rfl,ω,ψ,by simpa using N,by simpa using J⟩;rintro⟨v,g⟩ ⟨c,rfl,hc,T,U,C⟩;rcases Cb c x.O.length with h|h
 .have F:x.O[c]? = some x.O[c]:=B3 h;generalize x.O[c]=y at F;have l:=B6 F;obtain⟨b,b1,W⟩:=Aog y.S (by have:=s.cn x H y l;omega);have ht:=Dd F;have D:L++J2 x=(L++(x.O.take c).map (·.S))++y.S::(x.O.drop (c+1)).map (·.S):=(by rw[Azp x F];simp);simp only[Aq (ω:(c:Int)<(x.O.length:Int)),Al,Bu rfl F,Ad,b1,Azg s.sz d c V F I s.len,C3 h ω];cases b with
  | false=>refine .inr ⟨.inl false,rfl,rfl,λk=>?_⟩;have:=W.2 (k.1 y l).1;cases this
  | true=>
   simp only[bnt,Ao];cases j:Ej g y.S with
   | true=>simp only[Al,C.get j];refine .inr ⟨.inl false,rfl,rfl,λk=>?_⟩;rw[D]at k;exact Aoh k.2 ((C.2 _).1 j)
   | false=>
    simp only[Ao];cases i:(decide (y.R.length<=6)&&y.R.all (Sz data d x.V)) with
    | false=>refine .inr ⟨.inl false,rfl,rfl,λk=>?_⟩;have:=k.1 y l;rw[this.2.2,Aq this.2.1]at i;cases i
    | true=>
     simp only[D3,D4]at i;have B:y.S ∉ L++(x.O.take c).map (·.S):=λk=>by rw[(C.2 _).2 k]at j;cases j
     have e:L++(x.O.take (c+1)).map (·.S)=(L++(x.O.take c).map (·.S))++[y.S]:=(by rw[ht];simp);refine .inl ⟨_,rfl,⟨c+1,rfl,ω,?_,?_,?_⟩,ζ⟩
     .intro G q;rw[ht]at q;rcases D7.1 q with K|K
      .exact T G K
      .simp at K;subst K;exact⟨W.1 rfl,i.1,i.2⟩
     .rw[e];exact Aoi U B
     .rw[e];exact C.put _
 .have:c=x.O.length:=ω;subst this;rw[Dq]at T U C;exact .inr ⟨.inr ((x.O.length:Int),g),ψ,T,U,C⟩
theorem Azr (g:data[d]? = some x):data.flatMap J2=((data.take d).flatMap J2++J2 x)++(data.drop (d+1)).flatMap J2/\data.map (·.S)=(data.take d).map (·.S)++x.S::(data.drop (d+1)).map (·.S):=by
 have h:=take_append_drop d data
 have q:=Ez g
 have e:data.drop d=x::data.drop (d+1):=by
  rw[drop_eq_getElem_cons q]
  rw[B3 q]at g
  rw[Fa g]
 constructor
 .conv=>lhs;rw[<-h,e]
  simp[flatMap_append]
 .conv=>lhs;rw[<-h,e]
  simp
theorem Azs (j:DSz data):∃b,Xc data=some b/\(b=true↔Hy data):=by
 have G:=j.len;unfold Xc;rcases Cb 12 data.length with K|K
 .rw[Aq ω];exact⟨false,rfl,by simp;intro h;have:=h.1;omega⟩
 rw[Aw ω];simp only[Ao];refine Ev (λ(F,f,g)=>∃d:Nat,F=d/\d<=data.length/\(∀k x,k<d->data[k]? = some x->Ahi data k x)/\((data.take d).map (·.S)).Nodup/\((data.take d).flatMap J2).Nodup/\K5 f ((data.take d).map (·.S))/\K5 g ((data.take d).flatMap J2)) (λ(F,_,_)=>data.length-F.toNat) (λz=>match z with|.inl r=>r=false/\¬Hy data | .inr _=>Hy data) ⟨0,rfl,ω,by intro k x h;omega,ψ,ψ,by simpa using K5.nil,by simpa using K5.nil⟩ ?_ ?_
 .rintro⟨v,f,g⟩ ⟨d,rfl,hd,h1,P,T,B,V⟩;rcases Cb d data.length with h|h
  .have w:data[d]? = some data[d]:=B3 h;generalize data[d]=x at w;have W:=B6 w;obtain⟨b,b1,b2⟩:=Aog x.S (by have:=j.nm x W;omega);obtain⟨f1,f2⟩:=Azr w;simp only[Aq (ω:(d:Int)<(data.length:Int)),Al,Bu rfl w,Ad,b1];have C:∀(y:¬Ahi data d x),∃e:Bool⊕(List (ByteArray×Bool)×List (ByteArray×Bool)),(some (Sum.inr (Sum.inl false)):Option ((Int×List (ByteArray×Bool)×List (ByteArray×Bool))⊕(Bool⊕(List (ByteArray×Bool)×List (ByteArray×Bool)))))=some (.inr e)/\(match e with|.inl r=>r=false/\¬Hy data | .inr _=>Hy data) :=
    λy=>⟨.inl false,rfl,rfl,λc=>y (c.2.1 d x w)⟩
   cases b with
   | false=>exact .inr (C λc=>by have:=b2.2 c.2.2.2.2.1;cases this)
   | true=>
    simp only[bnt,Ao];cases i:Ej f x.S with
    | true=>simp only[Al,B.get i,Ad];refine .inr ⟨.inl false,rfl,rfl,λc=>?_⟩;have:=c.2.2.1;rw[f2]at this;exact Aoh this ((B.2 _).1 i)
    | false=>
     simp only[Ao];by_cases q:x.V<0
     .simp only[Aq q,Al,Ad];exact .inr (C λc=>by have:=c.1;omega)
     by_cases u:x.V>6
     .simp only[Aw q,Aq u,Al,Ao,Ad];exact .inr (C λc=>by have:=c.2.1;omega)
     simp only[Aw q,Aw u,Ao,Ad];by_cases s:(x.O.length:Int)<1
     .simp only[Aq s,Al,Ad];exact .inr (C λc=>by have:=c.2.2.1;omega)
     by_cases A:(x.O.length:Int)>8
     .simp only[Aw s,Aq A,Al,Ao,Ad];exact .inr (C λc=>by have:=c.2.2.2.1;omega)
     simp only[Aw s,Aw A,Ao,Ad];obtain⟨z,L,H⟩:=Azq j w ω g _ V T;rw[L,Ad]
     match z,H with
     | .inl r,H=>obtain⟨rfl,H⟩:=H;refine .inr ⟨.inl false,rfl,rfl,λc=>H ⟨(c.2.1 d x w).2.2.2.2.2,?_⟩⟩;have:=c.2.2.2;rw[f1]at this;exact (nodup_append.1 this).1
     | .inr (a0,D),H=>
      obtain⟨R,N,M⟩:=H;have ht:=Dd w;have E:x.S ∉ (data.take d).map (·.S):=λc=>by rw[(B.2 _).2 c]at i;cases i
      have J:(data.take (d+1)).map (·.S)=(data.take d).map (·.S)++[x.S]:=(by rw[ht];simp);have I:(data.take (d+1)).flatMap J2=(data.take d).flatMap J2++J2 x:=(by rw[ht];simp[flatMap_append]);refine .inl ⟨(((d+1:Nat):Int),Fx f x.S true,D),by simp only[C3 h ω],⟨d+1,rfl,ω,?_,?_,?_,?_,?_⟩,ζ⟩
      .intro k S U l;rcases Cb k d with h'|h'
       .exact h1 k S h' l
       .have:k=d:=ω;subst this;rw[w]at l;cases l;exact⟨ω,ω,ω,ω,b2.1 rfl,R⟩
      .rw[J];exact Aoi P E
      .rw[I];exact N
      .rw[J];exact B.put _
      .rw[I];exact M
  .have:d=data.length:=ω;subst this;rw[Dq]at P T;exact .inr ⟨.inr (f,g),ψ,K,λd x w=>h1 d x (Ez w) w,P,T⟩
 .rintro (r|⟨o,o'⟩) j
  .obtain⟨rfl,j⟩:=j;exact⟨false,rfl,by simp[j]⟩
  .exact⟨true,rfl,by simpa using j⟩
theorem Acf (c:DSz data):∃b,Ub data=some b/\(b=true↔Hy data):=by obtain⟨b,g,h⟩:=Azs c;refine⟨b,?_,h⟩;unfold Ub;rw[g,Ad];cases b with| false=>rfl| true=>rfl
theorem SzD.args (h:SzD data) (hx:x∈data) (hy:y∈x.O) (g:t∈y.R):Bw t<=1048576/\t.R.length<=1048576/\y.R.length<=1048576:=by have h1:=(h x hx).2 y hy;have h3:=J1 g;have f:=Jm t;have c:=K2 t.R;have b:=K2 y.R;omega
def isV (σ:List Ag) (k n:Int):Bool:=k==4&&decide (0<=n)&&decide (n<(σ.length:Int))
mutual
def D6 (σ:List Ag):Ag->Ag
 | ⟨k,n,l⟩=>match (if isV σ k n then σ[n.toNat]? else none) with
  | some s=>s
  | none=>⟨k,n,O6 σ l⟩
def O6 (σ:List Ag):List Ag->List Ag
 | []=>[]
 | x::xs=>D6 σ x::O6 σ xs
end
variable {t:Ag} {σ:List Ag}
theorem Azt (σ l:List Ag):O6 σ l=l.map (D6 σ):=by induction l with| nil=>rfl| cons x xs ih=>simp only[O6,ih,map_cons]
theorem Ahj {k n:Int} (h:isV σ k n=true):∃s,σ[n.toNat]? = some s/\Ah σ n=some s/\s∈σ:=by simp only[isV,D3,D4]at h;have b:n.toNat < σ.length:=ω;refine⟨σ[n.toNat],B3 b,?_,getElem_mem b⟩;unfold Ah;rw[A7 ω,B3 b]
theorem Ahk {s:Ag} (h:isV σ t.G t.U=true) (g:σ[t.U.toNat]? = some s):D6 σ t=s:=by cases t;simp only[D6]at *;simp[h,g]
theorem Aoj (h:isV σ t.G t.U=false):D6 σ t=⟨t.G,t.U,t.R.map (D6 σ)⟩:=by cases t;simp only[D6]at *;simp[h,Azt]
mutual
theorem Aok:∀t:Ag,D6 [] t=t
 | ⟨k,n,l⟩=>by
  have g:isV [] k n=false:=by
   unfold isV
   by_cases h:0<=n
   .rw[Aw (by simp;omega:¬n<(([]:List Ag).length:Int))];simp
   .rw[Aw h];simp
  simp only[D6,g,Aol l];rfl
theorem Aol:∀l:List Ag,O6 [] l=l
 | []=>rfl
 | x::xs=>by simp only[O6,Aok x,Aol xs]
end
mutual
theorem Aom (σ:List Ag) (M:Nat) (q:1<=M) (h:∀s∈σ,Bw s<=M):∀t:Ag,Bw (D6 σ t)<=Bw t*M
 | ⟨k,n,l⟩=>by
  cases g:isV σ k n with
  | true=>
   obtain⟨s,u,_,v⟩:=Ahj g
   rw[Ahk (t:=⟨k,n,l⟩) g u]
   have:=h s v
   have w:=Sw ⟨k,n,l⟩
   calc Bw s<=1*M:=ω
    _<=_:=Nat.mul_le_mul_right M w
  | false=>
   have:=Aon σ M q h l
   simp only[D6,g,Bw]
   simp only[Bool.false_eq_true,if_false,Bw]
   rw[Nat.add_mul];omega
theorem Aon (σ:List Ag) (M:Nat) (g:1<=M) (h:∀s∈σ,Bw s<=M):∀l:List Ag,De (O6 σ l)<=De l*M
 | []=>by simp[O6,De]
 | x::xs=>by
  have q:=Aom σ M g h x
  have u:=Aon σ M g h xs
  simp only[O6,De]
  rw[Nat.add_mul];omega
end
variable {t:Ag} {l:List Ag} {data:List Am}
theorem Aoo (σ:List Ag) (t:Ag):(bif t.G==(4:Int) then bif decide (t.U>=(0:Int)) then some (decide (t.U<(σ.length:Int))) else some false else some false)=some (isV σ t.G t.U):=by unfold isV;cases t.G==4 <;> simp;by_cases h:0<=t.U <;> simp[h]
theorem Azu:∀(k:Nat) (t:Ag) (σ:List Ag) (M:Nat),(∀s∈σ,Bw s<=M)->Bw t+M+1<=k->k<1099511627776->Qf k t σ=some (D6 σ t):=by
 intro k;induction k with
 | zero=>intro t σ M _ h;omega
 | succ k ih=>
  intro t σ M c h A;have g:=Jm t;have f:=K2 t.R;rw[Qf];rw[show (show OB from bif t.G==(4:Int) then bif decide (t.U>=(0:Int)) then some (decide (t.U<(σ.length:Int))) else some false else some false)=some (isV σ t.G t.U) from Aoo σ t,Ad];cases b:isV σ t.G t.U with
  | true=>obtain⟨s,q,u,v⟩:=Ahj b;have:=c s v;simp only[Al,u,Ad,Ahk b q,ih s [] 0 ψ ω ω,Aok]
  | false=>
   rw[Aoj b];simp only[Ao];refine F7 t.R (λj=>((j:Int),(t.R.take j).map (D6 σ))) rfl ω ?_ ?_
   .intro j x B w q u v;have:=J1 (B6 w);simp only[q,u,v,Al,Ad,ih x σ M c ω ω];rw[Dn ζ,Ad,Dd w];simp
   .intro q;exact⟨t.R.map (D6 σ),ψ,rfl⟩
theorem Azv:∀(k:Nat) (t:Ag),Bw t<=k->Bw t<1099511627776->Sj k t=some (Bw t:Int):=by
 intro k;induction k with
 | zero=>intro t h;have:=Sw t;omega
 | succ k ih=>
  intro t h A;have b:=Jm t;have c:=K2 t.R;rw[Sj];refine F7 t.R (λj=>(1+(De (t.R.take j):Int),(j:Int))) rfl ω ?_ ?_
  .intro j x B q u v w;have g:=J1 (B6 q);have f:=Ahd t.R (j+1);have e:De (t.R.take (j+1))=De (t.R.take j)+Bw x:=(by rw[Dd q,Aca];simp[De]);simp only[u,v,w,Al,Ad,ih x ω ω];rw[show Ac (1+(De (t.R.take j):Int)+(Bw x:Int))=1+(De (t.R.take (j+1)):Int) by rw[e,Ac,B8] <;> omega]
  .intro u;exact⟨1+(De t.R:Int),ψ,by rw[b];simp⟩
theorem ξ {p:Prop} (h:p:=by rw[Ac,B8]<;>omega):p:=h
theorem Azw (σ:List Ag) (M:Nat) (E:1<=M) (u:M<=1048576) (A:∀s∈σ,Bw s<=M):∀(k:Nat) (t:Ag),Bw t<=k->Bw t<=1048576 -> ∃v:Nat,Sk k t (σ.map λs=>(Bw s:Int))=some (v:Int)/\v<=Bw (D6 σ t)/\((v=Bw (D6 σ t))\/200<v):=by
 intro k;induction k with
 | zero=>intro t h;have:=Sw t;omega
 | succ k ih=>
  intro t h K;have B:=Jm t;have z:=K2 t.R;have l:∀x,Bw x<=1048576->Bw (D6 σ x)<=1099511627776:=λx w=>by have:=Aom σ M E A x;have:Bw x*M<=1048576*1048576:=Nat.mul_le_mul w u;omega
  rw[Sk];rw[show (show OB from bif t.G==(4:Int) then bif decide (t.U>=(0:Int)) then some (decide (t.U<((σ.map λs=>(Bw s:Int)).length:Int))) else some false else some false)=some (isV σ t.G t.U) by rw[C4];exact Aoo σ t,Ad];cases f:isV σ t.G t.U with
  | true=>obtain⟨s,F,N,U⟩:=Ahj f;have P:Ah (σ.map λs=>(Bw s:Int)) t.U=some (Bw s:Int):=(by have:=Iv N;rw[Bu (n:=t.U.toNat) ω];simp[F]);simp only[Al,P,Ad,Ahk f F];exact⟨Bw s,rfl,Nat.le_refl _,.inl rfl⟩
  | false=>
   have y:=l t K;rw[Aoj f]at y ⊢;simp only[Ao];have g:Bw ⟨t.G,t.U,t.R.map (D6 σ)⟩=1+De (t.R.map (D6 σ)):=(by simp only[Bw]);rw[g]at y ⊢;refine U7 (λv:Nat=>(v:Int)) (Ev (λ(n,i)=>∃j:Nat,i=j/\j<=t.R.length/\n=1+(De ((t.R.map (D6 σ)).take j):Int)) (λ(_,i)=>t.R.length-i.toNat) (λn=>∃v:Nat,n=v/\v<=1+De (t.R.map (D6 σ))/\(v=1+De (t.R.map (D6 σ))\/200<v)) ⟨0,rfl,ω,by simp[De]⟩ ?_ ?_)
   .rintro⟨n,i⟩ ⟨j,rfl,V,q⟩;have q:n=_:=q;subst q;rcases Cb j t.R.length with C|C
    .have w:t.R[j]? = some t.R[j]:=B3 C;generalize t.R[j]=x at w;have I:=J1 (B6 w);obtain⟨v,b,H,W⟩:=ih x ω ω;have c:(t.R.map (D6 σ))[j]? = some (D6 σ x):=(by simp[w]);have e:De ((t.R.map (D6 σ)).take (j+1))=De ((t.R.map (D6 σ)).take j)+Bw (D6 σ x):=(by rw[Dd c,Aca];simp[De]);have D:=Ahd (t.R.map (D6 σ)) (j+1);have G:Ac (1+(De ((t.R.map (D6 σ)).take j):Int)+(v:Int))=((1+De ((t.R.map (D6 σ)).take j)+v:Nat):Int):=ξ;simp only[Aq (ω:(j:Int)<(t.R.length:Int)),Al,Bu rfl w,Ad,b,C3 C ω,G];by_cases T:1+De ((t.R.map (D6 σ)).take j)+v>200
     .rw[Aq ω];exact .inr ⟨_,rfl,_,rfl,ω,.inr T⟩
     .rw[Aw ω];refine .inl ⟨_,rfl,⟨j+1,rfl,ω,?_⟩,ζ⟩;have:v=Bw (D6 σ x):=ω;subst this;rw[e];omega
    .have:j=t.R.length:=ω;subst this;refine .inr ⟨_,by simp;rfl,1+De (t.R.map (D6 σ)),?_,ω,.inl rfl⟩;rw[Iz ψ];omega
   .rintro n ⟨v,rfl,b,H⟩;exact⟨_,rfl,v,rfl,b,H⟩
def Na (data:List Am) (t:Ag) (c:Int):Option (List Ag) := if t.G=5 then match Ah data t.U with
  | none=>none
  | some x=>if (t.R.length:Int)=x.V then match Ah x.O c with
    | none=>none
    | some y=>if (y.R.map (D6 t.R)).all (λa=>decide (Bw a<=200)) then some (y.R.map (D6 t.R)) else none else none else none
def okL (o:Option (List Ag)):List Ag×Bool:=match o with|none=>([],false) | some l=>(l,true)
def Szv (data:List Am):Prop:=∀x∈data,∀y∈x.O,y.R.length<=6/\∀a∈y.R,Bw a<=200
theorem Hy.szv (h:Hy data):Szv data:=by
 intro x hx y hy;obtain⟨d,hd⟩:=Ik hx;have h1:=h.2.1 d x hd;obtain⟨_,c2,c3⟩:=h1.2.2.2.2.2 y hy;refine⟨c2,λa ha=>?_⟩;have:=H9.1 c3 a ha;unfold Sz at this;rw[Bool.or_eq_true]at this;rcases this with h'|h'
 .exact (Aoa hd h1.2.1 h').2
 .simp only[D3,D4]at h';exact h'.2
theorem Ahl (A:Szv data) (t:Ag) (W:Bw t<=200) (c:Int):Se data t c=some (okL (Na data t c)):=by
 have B:=Jm t;have q:=K2 t.R;unfold Se Na;by_cases I:t.G=5
 .simp only[Hw I,Ao,A7 I];cases P:Ah data t.U with
  | none=>
   rcases Yl P with h|h
   .simp only[Aq h,Al,Ad,okL]
   .by_cases C:t.U<0
    .simp only[Aq C,Al,Ad,okL]
    .simp only[Aw C,Aq (show t.U>=(data.length:Int) from h),Al,Ao,Ad,okL]
  | some x=>
   obtain⟨a1,a2,_,N⟩:=Iv P;simp only[Aw (ω:¬t.U<0),Aw (ω:¬t.U>=(data.length:Int)),Ao,Ad];by_cases g:(t.R.length:Int)=x.V
   .simp only[Hw g,Ao,A7 g];cases T:Ah x.O c with
    | none=>
     rcases Yl T with h|h
     .simp only[Aq h,Al,Ad,okL]
     .by_cases C:c<0
      .simp only[Aq C,Al,Ad,okL]
      .simp only[Aw C,Aq (show c>=(x.O.length:Int) from h),Al,Ao,Ad,okL]
    | some y=>
     obtain⟨b1,b2,_,i⟩:=Iv T;obtain⟨G,b⟩:=A x N y i;simp only[Aw (ω:¬c<0),Aw (ω:¬c>=(x.O.length:Int)),Ao,Ad];rw[Kk (n:=t.R.length) (c:=t.R.length) rfl rfl ω ω ω,Ad];refine F7 t.R (λj=>((j:Int),((t.R.take j).map λs=>(Bw s:Int))++replicate (t.R.length-j) 0)) rfl ω ?_ ?_
     .intro j s V K w F H;have:=J1 (B6 K);obtain⟨m,D⟩:∃m,t.R.length-j=m+1:=⟨t.R.length-j-1,ω⟩;have E:t.R.length-(j+1)=m:=ω;have k:j=((t.R.take j).map λs=>(Bw s:Int)).length:=ζ;simp only[w,F,H,Al,Ad,Azv 4000000 s ω ω,D,E,replicate_succ,Ahf _ _ _ (j:Int) j rfl k,Ahe _ _ _ _ (j:Int) j rfl k,Dd K];simp
     .intro w;refine⟨t.R.map λs=>(Bw s:Int),ψ,?_⟩;have l:∀s∈t.R,Bw s<=200:=λs K=>by have:=J1 K;omega
      refine (Ab9 (rt:=(y.R.map (D6 t.R),true)) (rf:=([],false)) y.R (λa=>decide (Bw (D6 t.R a)<=200)) (λj=>(j:Int)) rfl ω ?_ ?_).trans ?_
      .intro j a M w F H;have z:=b a (B6 M);obtain⟨v,u,v2,v3⟩:=Azw t.R 200 ω ω l 4000000 a ω ω;simp only[w,F,H,Al,Ad,u];by_cases U:Bw (D6 t.R a)<=200
       .rw[Aq U,Aw ω];exact⟨λ_=>rfl,λh=>by cases h⟩
       .rw[Aw U,Aq ω];exact⟨nofun,λ_=>⟨_,rfl,rfl⟩⟩
      .intro w;refine⟨.inr (),ψ,?_⟩;simp only;refine F7 y.R (λj=>((j:Int),(y.R.take j).map (D6 t.R))) rfl ω ?_ ?_
       .intro j a V M w F H;have z:=b a (B6 M);simp only[w,F,H,Al,Ad,Azu 4000000 a t.R 200 l ω ω];rw[Dn ζ,Ad,Dd M];simp
       .intro w;exact⟨y.R.map (D6 t.R),ψ,rfl⟩
      .rw[all_map];cases f:y.R.all ((λa=>decide (Bw a<=200)) ∘ D6 t.R) with| true=>rw[A7 rfl];rw[show (y.R.all λa=>decide (Bw (D6 t.R a)<=200))=true from f];rfl| false=>rw[show (y.R.all λa=>decide (Bw (D6 t.R a)<=200))=false from f];rfl
   .simp only[Gc g,Al,Ad,Ay g,okL]
 .simp only[Gc I,Al,Ad,Ay I,okL]
theorem U8 {c:Int} (h:Na data t c=some l) : ∃x y,t.G=5/\Ah data t.U=some x/\(t.R.length:Int)=x.V/\Ah x.O c=some y/\l=y.R.map (D6 t.R)/\∀a∈l,Bw a<=200:=by
 unfold Na at h;by_cases g:t.G=5
 .rw[A7 g]at h;cases u:Ah data t.U with
  | none=>rw[u]at h;cases h
  | some x=>
   rw[u]at h;simp only at h;by_cases f:(t.R.length:Int)=x.V
   .rw[A7 f]at h;cases q:Ah x.O c with
    | none=>rw[q]at h;cases h
    | some y=>
     rw[q]at h;simp only at h;by_cases b:(y.R.map (D6 t.R)).all (λa=>decide (Bw a<=200))=true
     .rw[A7 b]at h;cases h;refine⟨x,y,g,rfl,f,q,rfl,λa v=>?_⟩;have:=H9.1 b a v;simpa using this
     .rw[Ay b]at h;cases h
   .rw[Ay f]at h;cases h
 .rw[Ay g]at h;cases h
def Il (l:List Ag) (r:List Bool):List Ag:=((l.zip r).filter λp=>!p.2).map (·.1)
def Ht (data:List Am) (t:Ag) (c:Int):Option (List Ag):=(Na data t c).map λl=>Il l (Hj data t.U c)
theorem Ahm {c:Int} (h:Na data t c=some l):(Hj data t.U c).length=l.length:=by obtain⟨x,y,_,g,_,q,rfl,_⟩:=U8 h;unfold Hj;simp only[g,q,C4]
theorem Ahn {r:List Bool} {j:Nat} {a:Ag} {b:Bool} (g:l[j]? = some a) (h:r[j]? = some b):Il (l.take (j+1)) (r.take (j+1))=Il (l.take j) (r.take j)++bif b then [] else [a]:=by unfold Il;have f:=Ez g;have c:=Ez h;rw[Dd g,Dd h,zip_append ζ];cases b <;> simp
theorem Acg (l:List Ag) (r:List Bool):(Il l r).length<=l.length:=by unfold Il;rw[C4];refine Nat.le_trans (length_filter_le _ _) ?_;rw[length_zip];omega
theorem Ach (f:Szv data) (A:N2 data) (t:Ag) (B:Bw t<=200) (c:Int):Us data t c=some (okL (Ht data t c)):=by
 unfold Us Ht;rw[Ahl f t B c,Ad];cases w:Na data t c with
 | none=>rfl
 | some l=>
  have h:=Ahm w;obtain⟨x,y,_,C,_,D,k,_⟩:=U8 w;obtain⟨g,_⟩:=f x (Iv C).2.2.2 y (Iv D).2.2.2;have i:l.length<=6:=(by rw[k];simpa using g);simp only[okL,bnt,Ao,Acb data t.U c A,Ad,Option.map_some];refine F7 (Hj data t.U c) (λj=>((j:Int),Il (l.take j) ((Hj data t.U c).take j))) (by simp[Il]) ω ?_ ?_
  .intro j b I F u G H;have v:l[j]? = some l[j]:=B3 ω;generalize l[j]=a at v;have q:=Acg (l.take j) ((Hj data t.U c).take j);have:(l.take j).length<=6:=ζ;simp only[u,G,H,Al,Ad,Bu rfl v,Ahn v F];rw[Dn ζ];cases b <;> simp
  .intro u;refine⟨Il l (Hj data t.U c),?_,rfl⟩;simp only[u];rw[Iz ω,Iz (Nat.le_refl _)];rfl
theorem Aho {c:Int} (h:Ht data t c=some l):(∀a∈l,Bw a<=200)/\∃x,Ah data t.U=some x/\0<=c/\c<x.O.length:=by unfold Ht at h;cases g:Na data t c with| none=>rw[g]at h;cases h| some m=>rw[g]at h;cases h;obtain⟨x,y,_,v,_,q,_,f⟩:=U8 g;refine⟨λa u=>?_,x,v,(Iv q).1,(Iv q).2.1⟩;unfold Il at u;obtain⟨p,b,rfl⟩:=mem_map.1 u;exact f _ (of_mem_zip (mem_filter.1 b).1).1
mutual
def Bt:Ai->Nat
 | ⟨_,l⟩=>1+B5 l
def B5:List Ai->Nat
 | []=>0
 | x::xs=>Bt x+B5 xs
end
theorem Fe (t:Ai):Bt t=1+B5 t.K:=by cases t;simp only[Bt]
theorem K6 {l:List Ai} {a:Ai} (h:a∈l):Bt a<=B5 l:=by
 induction l with
 | nil=>cases h
 | cons x xs ih=>
  simp only[B5];rcases Fp.1 h with rfl|h
  .omega
  .have:=ih h;omega
theorem O7 (l:List Ai):l.length<=B5 l:=by induction l with| nil=>simp| cons x xs ih=>simp only[B5,D9];have:=Fe x;omega
mutual
def D2 (data:List Am):Ai->Ag->Option Nat
 | ⟨n,g⟩,t=>
  if t.G=6 then (if n=0 then Di data g t.R else none)
  else if t.G=7 then (if 0<=n/\n<=6/\g.length=0 then some n.toNat else none)
  else if t.G=5 then (if n=0 then F0 data g t else none)
  else if n=0/\g.length=0 then some 0 else none
def Di (data:List Am):List Ai->List Ag->Option Nat
 | [],[]=>some 0
 | i::is,t::g=>(D2 data i t).bind λa=>(Di data is g).map (a + ·)
 | [],_::_=>none
 | _::_,[]=>none
def F0 (data:List Am):List Ai->Ag->Option Nat
 | [],_=>some 0
 | ⟨n,g⟩::h,t=>(Ht data t n).bind λq=>(Di data g q).bind λa=>(F0 data h t).map (1+a + ·)
end
variable {m n:Int} {d:Nat}
theorem N3 (data:List Am) (i:Ai) (t:Ag):D2 data i t=if t.G=6 then (if i.U=0 then Di data i.K t.R else none) else if t.G=7 then (if 0<=i.U/\i.U<=6/\i.K.length=0 then some i.U.toNat else none) else if t.G=5 then (if i.U=0 then F0 data i.K t else none) else if i.U=0/\i.K.length=0 then some 0 else none:=by cases i;simp only[D2]
theorem U9 (data:List Am) (e:Ai) (es:List Ai) (t:Ag):F0 data (e::es) t=(Ht data t e.U).bind λg=>(Di data e.K g).bind λa=>(F0 data es t).map (1+a + ·):=by cases e;simp only[F0]
theorem O8 (data:List Am) (i:Ai) (is:List Ai) (t:Ag) (ts:List Ag):Di data (i::is) (t::ts)=(D2 data i t).bind λa=>(Di data is ts).map (a + ·):=by simp only[Di]
theorem Ahp (data:List Am):∀(is:List Ai) (ts:List Ag),ts.length≠is.length->Di data is ts=none
 | [],[],h=>absurd rfl h
 | i::is,t::ts,h=>by rw[O8,Ahp data is ts (by simpa using h)];cases D2 data i t <;> rfl
 | [],_::_,_=>by simp only[Di]
 | _::_,[],_=>by simp only[Di]
theorem Va (data:List Am):∀(es:List Ai) (t:Ag) (d:Nat),F0 data es t=some d->es.length<=d
 | [],_,_,_=>ψ
 | e::es,t,d,h=>by
  rw[U9]at h;cases q:Ht data t e.U with
  | none=>rw[q]at h;cases h
  | some v=>
   rw[q,Ad]at h;cases u:Di data e.K v with
   | none=>rw[u]at h;cases h
   | some a=>rw[u,Ad]at h;cases g:F0 data es t with| none=>rw[g]at h;cases h| some b=>rw[g]at h;cases h;have:=Va data es t b g;simp only[D9];omega
def Jd (o:Option Nat):Int:=match o with|some d=>if d<=6 then (d:Int) else -1|none => -1
theorem Qq (h:d<=6):Jd (some d)=d:=by simp[Jd,h]
theorem Ahq (h:6<d):Jd (some d) = -1:=by simp only[Jd];rw[Ay ω]
theorem Aop (o:Option Nat):(Jd o = -1/\∀d,o=some d->6<d)\/∃d,o=some d/\d<=6/\Jd o=d:=by
 cases o with
 | none=>exact .inl ⟨rfl,λd h=>by cases h⟩
 | some d=>
  rcases Cb 6 d with h|h
  .exact .inl ⟨Ahq h,λe b=>by cases b;exact h⟩
  .exact .inr ⟨d,rfl,h,Qq h⟩
theorem Aoq {o:Option Nat} (h:∀d,o=some d->6<d):Jd o = -1:=by cases o with| none=>rfl| some d=>exact Ahq (h d rfl)
def Pr (p:Int×Bool) (o:Option Nat):Prop:=(p.2=true/\∃d:Nat,o=some d/\d<=6/\p.1=d)\/(p.2=false/\∀d,o=some d->6<d)
theorem J3 {α:Type} {l:List α} {j:Nat} {x:α} (h:l[j]? = some x):l.drop j=x::l.drop (j+1):=by have g:=Ez h;rw[drop_eq_getElem_cons g];rw[B3 g]at h;rw[Fa h]
theorem Azx {data:List Am} (L:Szv data) (hs:N2 data):∀k:Nat, (∀(i:Ai) (t:Ag),2*Bt i<=k->Bt i<=1048576->Bw t<=200->∃p,Qc k data t i=some p/\Pr p (D2 data i t)) /\ (∀(is:List Ai) (ts:List Ag),2*B5 is+1<=k->B5 is<=1048576->(∀t∈ts,Bw t<=200)->∃p,Qg k data ts is=some p/\Pr p (Di data is ts)):=by
 intro k;induction k with
 | zero=>exact⟨λi t h=>by have:=Fe i;omega,λis ts h=>ω⟩
 | succ k ih=>
  obtain⟨X,I⟩:=ih;constructor
  .intro i t hk hi T;have a6:=Fe i;have Y:=O7 i.K;rw[Qc,N3];by_cases N:t.G=6
   .simp only[Gb N,Al,A7 N];by_cases F:i.U=0
    .simp only[Hw F,Ao,A7 F];obtain⟨p,p1,p2⟩:=I i.K t.R ω ω (λa H=>by have:=J1 H;have:=Jm t;omega);rw[p1];exact⟨p,rfl,p2⟩
    .simp only[Gc F,Al,Ay F];exact⟨_,rfl,.inr ⟨rfl,λd h=>by cases h⟩⟩
   .simp only[Dc N,Ao,Ay N];by_cases M:t.G=7
    .simp only[Gb M,Al,A7 M];by_cases W:0<=i.U
     .by_cases a2:i.U<=6
      .by_cases K:i.K.length=0
       .rw[Aq (show i.U>=0 from W),Aq a2,A7 ⟨W,a2,K⟩];exact⟨_,rfl,.inl ⟨by simp[K],i.U.toNat,rfl,ω,ζ⟩⟩
       .rw[Aq (show i.U>=0 from W),Aq a2,Ay λh=>K h.2.2];exact⟨_,rfl,.inr ⟨Dc ω,λd h=>by cases h⟩⟩
      .rw[Aq (show i.U>=0 from W),Aw a2,Ay λh=>a2 h.2.1];exact⟨_,rfl,.inr ⟨rfl,λd h=>by cases h⟩⟩
     .rw[Aw (show ¬i.U>=0 from W),Ay λh=>W h.1];exact⟨_,rfl,.inr ⟨rfl,λd h=>by cases h⟩⟩
    .simp only[Dc M,Ao,Ay M];by_cases R:t.G=5
     .simp only[Gb R,Al,A7 R];by_cases F:i.U=0
      .simp only[Hw F,Ao,A7 F];have P:∀(m j w:Nat),j+m=i.K.length->w<=6->∃z,An (S:=(Int×Int)) (E:=((Int×Bool)⊕Int)) (λ(v8,v9)=>
         bif v9<(i.K.length:Int) then ((Ah i.K v9).bind λs=> (Us data t s.U).bind λa0=> bif (!a0.2) then some (.inr (.inl (0,false))) else ((Qg k data a0.1 s.K).bind λB=> bif (!B.2) then some (.inr (.inl (0,false))) else (bif (Ac (v8+(Ac (1+B.1))))>(6:Int) then some (.inr (.inl (0,false))) else some (.inl ((Ac (v8+(Ac (1+B.1)))),(Ac (v9+1))))))) else some (.inr (.inr v8))) ((w:Int),(j:Int))=some z/\(match z with|.inl p=>p=(0,false)/\∀d,(F0 data (i.K.drop j) t).map (w + ·)=some d->6<d | .inr v=>∃d:Nat,(F0 data (i.K.drop j) t).map (w + ·)=some d/\d<=6/\v=d):=by
        intro m;induction m with
        | zero=>intro j w hj f;have:j=i.K.length:=ω;subst this;exact⟨.inr (w:Int),Fm ψ,w,by simp[F0],f,rfl⟩
        | succ m x=>
         intro j w hj f;have c:i.K[j]? = some i.K[j]:=B3 ω;generalize i.K[j]=e at c;have Z:=K6 (B6 c);have a7:=Fe e;rw[J3 c,U9];cases hp:Ht data t e.U with
         | none=>refine⟨.inl (0,false),Fm ?_,rfl,λd h=>by simp at h⟩;simp only[Aq (ω:(j:Int)<(i.K.length:Int)),Al,Bu rfl c,Ad,Ach L hs t T e.U,hp,okL,Bool.not_false]
         | some ts=>
          obtain⟨q,G,g⟩:=I e.K ts ω ω (Aho hp).1;rcases g with⟨g,a,y,q4,V⟩|⟨g,y⟩
          .have U:Ac ((w:Int)+Ac (1+q.1))=((w+(1+a):Nat):Int):=(by rw[V,show Ac (1+(a:Int))=((1+a:Nat):Int) by rw[Ac,B8] <;> omega,Ac,B8] <;> omega);by_cases hb:w+(1+a)<=6
           .obtain⟨z,l,C⟩:=x (j+1) (w+(1+a)) ω hb;refine⟨z,?_,?_⟩
            .rw[Kd (s':=(((w+(1+a):Nat):Int),((j+1:Nat):Int)))]
             .exact l
             .simp only[Aq (ω:(j:Int)<(i.K.length:Int)),Al,Bu rfl c,Ad,Ach L hs t T e.U,hp,okL,bnt,Ao,G,g,U,Aw (ω:¬((w+(1+a):Nat):Int)>6),C3 (show j<i.K.length by omega) ω]
            .have D:∀o:Option Nat,(((some a:Option Nat).bind λa=>o.map (1+a + ·)).map (w + ·))=o.map (w+(1+a) + ·):=(by intro o;cases o <;> simp[Nat.add_assoc]);rw[Ad,y,D];exact C
           .refine⟨.inl (0,false),Fm ?_,rfl,λd h=>?_⟩
            .simp only[Aq (ω:(j:Int)<(i.K.length:Int)),Al,Bu rfl c,Ad,Ach L hs t T e.U,hp,okL,bnt,Ao,G,g,U,Aq (ω:((w+(1+a):Nat):Int)>6)]
            .rw[Ad,y,Ad]at h;cases A:F0 data (i.K.drop (j+1)) t with| none=>rw[A]at h;cases h| some b=>rw[A]at h;simp at h;omega
          .refine⟨.inl (0,false),Fm ?_,rfl,λd h=>?_⟩
           .simp only[Aq (ω:(j:Int)<(i.K.length:Int)),Al,Bu rfl c,Ad,Ach L hs t T e.U,hp,okL,bnt,Ao,G,g,Bool.not_false]
           .rw[Ad]at h;cases H:Di data e.K ts with
            | none=>rw[H]at h;cases h
            | some a=>rw[H,Ad]at h;have:=y a H;cases A:F0 data (i.K.drop (j+1)) t with| none=>rw[A]at h;cases h| some b=>rw[A]at h;simp at h;omega
       obtain⟨z,l,C⟩:=P i.K.length 0 0 ω ω;have l:An _ ((0:Int),(0:Int))=some z:=l;rw[l,Ad];have D:∀o:Option Nat,o.map (0 + ·)=o:=(by intro o;cases o <;> simp);rw[drop_zero,D]at C
       match z,C with| .inl p,C=>exact⟨_,rfl,.inr ⟨by rw[C.1],C.2⟩⟩| .inr v,C=>obtain⟨d,d1,d2,d3⟩:=C;exact⟨_,rfl,.inl ⟨rfl,d,d1,d2,d3⟩⟩
      .simp only[Gc F,Al,Ay F];exact⟨_,rfl,.inr ⟨rfl,λd h=>by cases h⟩⟩
     .simp only[Dc R,Ao,Ay R];by_cases F:i.U=0
      .simp only[Gb F,Al];by_cases K:i.K.length=0
       .rw[A7 ⟨F,K⟩];exact⟨_,rfl,.inl ⟨by simp[K],0,rfl,ω,rfl⟩⟩
       .rw[Ay λh=>K h.2];exact⟨_,rfl,.inr ⟨Dc ω,λd h=>by cases h⟩⟩
      .simp only[Dc F,Ao];rw[Ay λh=>F h.1];exact⟨_,rfl,.inr ⟨rfl,λd h=>by cases h⟩⟩
  .intro is ts hk hi T;have Y:=O7 is;rw[Qg];by_cases hl:ts.length=is.length
   .rw[Hw ω];simp only[Ao];have P:∀(m j w:Nat),j+m=is.length->w<=6*j->∃z,An (S:=(Int×Int)) (E:=((Int×Bool)⊕Int)) (λ(v5,J)=>
      bif J<(ts.length:Int) then ((Ah ts J).bind λv7=> (Ah is J).bind λv9=> (Qc k data v7 v9).bind λs=> bif (!s.2) then some (.inr (.inl (0,false))) else some (.inl ((Ac (v5+s.1)),(Ac (J+1))))) else some (.inr (.inr v5))) ((w:Int),(j:Int))=some z/\(match z with|.inl p=>p=(0,false)/\∀d,(Di data (is.drop j) (ts.drop j)).map (w + ·)=some d->6<d | .inr v=>∃d:Nat,(Di data (is.drop j) (ts.drop j)).map (w + ·)=some d/\v=d):=by
     intro m;induction m with
     | zero=>intro j w hj f;have:j=ts.length:=ω;subst this;refine⟨.inr (w:Int),Fm ψ,w,?_,rfl⟩;rw[drop_of_length_le ω,drop_of_length_le ω];simp[Di]
     | succ m x=>
      intro j w hj f;have c:is[j]? = some is[j]:=B3 ω;generalize is[j]=e at c;have hu:ts[j]? = some ts[j]:=B3 ω;generalize ts[j]=u at hu;have Z:=K6 (B6 c);rw[J3 c,J3 hu,O8];obtain⟨q,G,g⟩:=X e u ω ω (T u (B6 hu));rcases g with⟨g,a,y,q4,V⟩|⟨g,y⟩
      .have U:Ac ((w:Int)+q.1)=((w+a:Nat):Int):=(by rw[V,Ac,B8] <;> omega);obtain⟨z,l,C⟩:=x (j+1) (w+a) ω ω;refine⟨z,?_,?_⟩
       .rw[Kd (s':=(((w+a:Nat):Int),((j+1:Nat):Int)))]
        .exact l
        .simp only[Aq (ω:(j:Int)<(ts.length:Int)),Al,Bu rfl c,Bu rfl hu,Ad,bnt,Ao,G,g,U,C3 (show j<is.length by omega) ω]
       .have D:∀o:Option Nat,(((some a:Option Nat).bind λa=>o.map (a + ·)).map (w + ·))=o.map (w+a + ·):=(by intro o;cases o <;> simp[Nat.add_assoc]);rw[y,D];exact C
      .refine⟨.inl (0,false),Fm ?_,rfl,λd h=>?_⟩
       .simp only[Aq (ω:(j:Int)<(ts.length:Int)),Al,Bu rfl c,Bu rfl hu,Ad,G,g,Bool.not_false]
       .cases H:D2 data e u with
        | none=>rw[H]at h;cases h
        | some a=>rw[H,Ad]at h;have:=y a H;cases A:Di data (is.drop (j+1)) (ts.drop (j+1)) with| none=>rw[A]at h;cases h| some b=>rw[A]at h;simp at h;omega
    obtain⟨z,l,C⟩:=P is.length 0 0 ω ω;have l:An _ ((0:Int),(0:Int))=some z:=l;rw[l,Ad];have D:∀o:Option Nat,o.map (0 + ·)=o:=(by intro o;cases o <;> simp);rw[drop_zero,drop_zero,D]at C
    match z,C with
    | .inl p,C=>exact⟨_,rfl,.inr ⟨by rw[C.1],C.2⟩⟩
    | .inr v,C=>
     obtain⟨d,d1,d3⟩:=C;by_cases hd:d<=6
     .exact⟨_,rfl,.inl ⟨Aq ω,d,d1,hd,d3⟩⟩
     .exact⟨_,rfl,.inr ⟨Aw ω,λe c=>by rw[d1]at c;cases c;omega⟩⟩
   .rw[Gc ω,Ahp data is ts hl];exact⟨_,rfl,.inr ⟨rfl,λd h=>by cases h⟩⟩
def El (n:Int):Prop:= -9223372036854775808<=n/\n<=9223372036854775807
def ti (n:Int):List Int:=(Lib.itoa n).map λc=>(c.toNat:Int)
def O9 (c:Int):Bool:=c==45||(decide (48<=c)&&decide (c<=57))
theorem Vb (h:d<10):(UInt8.ofNat (48+d)).toNat=48+d:=by rw[UInt8.toNat_ofNat'];omega
theorem Aci:∀(n u:Nat),u<=n->∀c∈Lib.decDigits u,48<=c.toNat/\c.toNat<=57:=by
 intro n;induction n with
 | zero=>intro u q c g;rw[Lib.decDigits,dif_pos ω]at g;simp only[D0]at g;subst g;rw[Vb ω];omega
 | succ n ih=>
  intro u q c g;rw[Lib.decDigits]at g;split at g
  .simp only[D0]at g;subst g;rw[Vb ω];omega
  .rcases D7.1 g with h|h
   .exact ih (u / 10) ω c h
   .simp only[D0]at h;subst h;rw[Vb ω];omega
def Acj (l:List UInt8):Nat:=l.foldl (λa c=>10*a+(c.toNat-48)) 0
theorem Aor:∀(n u:Nat),u<=n->Acj (Lib.decDigits u)=u:=by
 intro n;induction n with
 | zero=>intro u g;rw[Lib.decDigits,dif_pos ω];simp only[Acj,foldl_cons,foldl_nil];rw[Vb ω];omega
 | succ n ih=>
  intro u g;rw[Lib.decDigits];split
  .simp only[Acj,foldl_cons,foldl_nil];rw[Vb ω];omega
  .have:=ih (u / 10) ω;unfold Acj at *;rw[foldl_append,this];simp only[foldl_cons,foldl_nil];rw[Vb ω];omega
theorem Aos {u v:Nat} (h:Lib.decDigits u=Lib.decDigits v):u=v:=by rw[<-Aor u u (Nat.le_refl _),h,Aor v v (Nat.le_refl _)]
theorem Azy (u:Nat):Lib.decDigits u≠[]:=by rw[Lib.decDigits];split <;> simp
theorem Azz (h:Lib.itoa m=Lib.itoa n):m=n:=by
 have b:∀u v:Nat,45::Lib.decDigits u≠Lib.decDigits v:=by intro u v e;have:=Aci v v (Nat.le_refl _) 45 (by rw[<-e];simp);exact absurd this δ
 unfold Lib.itoa at h;split at h <;> split at h
 .have:=Aos (List.cons.inj h).2;omega
 .exact absurd h (b _ _)
 .exact absurd h.symm (b _ _)
 .have:=Aos h;omega
theorem Im (n:Int):∀c∈ti n,O9 c=true:=by
 intro c u;unfold ti at u;obtain⟨b,g,rfl⟩:=mem_map.1 u;have q:b=45\/(48<=b.toNat/\b.toNat<=57):=by
  unfold Lib.itoa at g;split at g
  .rcases Fp.1 g with h|h
   .exact .inl h
   .exact .inr (Aci _ _ (Nat.le_refl _) b h)
  .exact .inr (Aci _ _ (Nat.le_refl _) b g)
 unfold O9;rcases q with rfl|⟨v,w⟩
 .decide
 .rw[Bool.or_eq_true,D3,D4,D4];right;omega
theorem Ack (n:Int):ti n≠[]:=by
 unfold ti Lib.itoa;split
 .simp
 .simpa using Azy _
theorem S0 (h:ti m=ti n):m=n:=by
 unfold ti at h;have:∀l m:List UInt8,l.map (λc=>(c.toNat:Int))=m.map (λc=>(c.toNat:Int))->l=m:=by
  intro l;induction l with
  | nil=>intro m h;cases m with|nil=>rfl|cons=>simp at h
  | cons x xs ih=>intro m h;cases m with| nil=>simp at h| cons y g=>simp only[map_cons,List.cons.injEq]at h;rw[ih g h.2,UInt8.toNat.inj (ω:x.toNat=y.toNat)]
 exact Azz (this _ _ h)
theorem Nb (h:El n):(ti n).length<=21:=by unfold ti;rw[C4];exact Lib.itoa_length_le n h.1 h.2
def Qs (X:List Int):Prop:=∀c m,X=c::m->O9 c=false/\c≠40
def Lo (X:List Int):Prop:=∀c m,X=c::m->O9 c=false
theorem Pa:∀(a b X Y:List Int),(∀c∈a,O9 c=true)->(∀c∈b,O9 c=true)->Lo X->Lo Y->a++X=b++Y->a=b/\X=Y
 | [],[],_,_,_,_,_,_,h=>⟨rfl,h⟩
 | [],y::b,X,Y,_,q,g,_,h=>by have:=g y (b++Y) h;rw[q y ψ]at this;cases this
 | x::a,[],X,Y,u,_,_,f,h=>by have:=f x (a++X) h.symm;rw[u x ψ]at this;cases this
 | x::a,y::b,X,Y,u,q,g,f,h=>by simp only[Eh,List.cons.injEq]at h;obtain⟨j,i⟩:=Pa a b X Y (λc v=>u c (by simp[v])) (λc v=>q c (by simp[v])) g f h.2;exact⟨by rw[h.1,j],i⟩
mutual
def wx:Ai->List Int
 | ⟨n,g⟩=>ti n++(if g.length=0 then [] else 40::(wxs g++[41]))
def wxs:List Ai->List Int
 | []=>[]
 | x::xs=>wx x++44::wxs xs
end
theorem Acl (i:Ai):wx i=ti i.U++(if i.K.length=0 then [] else 40::(wxs i.K++[41])):=by cases i;simp only[wx]
theorem Aot (l m:List Ai):wxs (l++m)=wxs l++wxs m:=by induction l with| nil=>simp[wxs]| cons x xs ih=>simp only[Eh,wxs,ih,append_assoc]
theorem Aou (b:List Ai) (X:List Int) (f:Qs X):Lo ((if b.length=0 then [] else 40::(wxs b++[41]))++X):=by
 intro c m h;by_cases g:b.length=0
 .rw[A7 g,nil_append]at h;exact (f c m h).1
 .rw[Ay g,Eh]at h;cases h;decide
theorem Aov (X:List Int):Qs (44::X):=by intro c m h;cases h;exact⟨δ,δ⟩
theorem Acm:Qs []:=by intro c m h;cases h
mutual
theorem Acn:∀(i j:Ai) (X Y:List Int),Qs X->Qs Y->wx i++X=wx j++Y->i=j/\X=Y
 | ⟨n,k⟩,⟨C,v⟩,X,Y,w,A,h=>by
  simp only[wx,append_assoc]at h
  obtain⟨B,q⟩:=Pa _ _ _ _ (Im n) (Im C) (Aou k X w) (Aou v Y A) h
  have B:=S0 B
  subst B
  by_cases u:k.length=0
  .by_cases g:v.length=0
   .rw[A7 u,A7 g]at q
    rw[Gm.1 u,Gm.1 g]
    exact⟨rfl,q⟩
   .rw[A7 u,Ay g,nil_append,Eh]at q
    exact absurd rfl (w _ _ q).2
  .by_cases g:v.length=0
   .rw[Ay u,A7 g,nil_append,Eh]at q
    exact absurd rfl (A _ _ q.symm).2
   .rw[Ay u,Ay g,Eh,Eh,append_assoc,append_assoc]at q
    obtain⟨D,F⟩:=Aow k v X Y w A (List.cons.inj q).2
    rw[D];exact⟨rfl,F⟩
theorem Aow:∀(l m:List Ai) (X Y:List Int),Qs X->Qs Y->wxs l++([41]++X)=wxs m++([41]++Y)->l=m/\X=Y
 | [],[],X,Y,_,_,h=>by
  simp only[wxs,nil_append,Eh,List.cons.injEq,true_and]at h
  exact⟨rfl,h⟩
 | [],y::u,X,Y,_,_,h=>by
  exfalso
  cases g:ti y.U with
  | nil=>exact Ack _ g
  | cons c r=>
   have q:=Im y.U c (by rw[g];simp)
   simp only[wxs,Acl y,g,nil_append,Eh,List.cons.injEq]at h
   rw[<-h.1]at q;exact absurd q δ
 | x::xs,[],X,Y,_,_,h=>by
  exfalso
  cases g:ti x.U with
  | nil=>exact Ack _ g
  | cons c r=>
   have q:=Im x.U c (by rw[g];simp)
   simp only[wxs,Acl x,g,nil_append,Eh,List.cons.injEq]at h
   rw[h.1]at q;exact absurd q δ
 | x::xs,y::u,X,Y,v,w,h=>by
  simp only[wxs,append_assoc,Eh]at h
  obtain⟨A,B⟩:=Acn x y _ _ (Aov _) (Aov _) h
  obtain⟨C,D⟩:=Aow xs u X Y v w (by simpa using B)
  exact⟨by rw[A,C],D⟩
end
mutual
def iR:Ai->Prop
 | ⟨n,l⟩=>El n/\En l
def En:List Ai->Prop
 | []=>True
 | x::xs=>iR x/\En xs
end
theorem N4 (i:Ai):iR i↔El i.U/\En i.K:=by cases i;simp only[iR]
theorem Ahr {l:List Ai} (h:En l) {a:Ai} (g:a∈l):iR a:=by
 induction l with
 | nil=>cases g
 | cons x xs ih=>
  simp only[En]at h;rcases Fp.1 g with rfl|g
  .exact h.1
  .exact ih h.2 g
mutual
theorem Ahs:∀i:Ai,iR i->(wx i).length+1<=24*Bt i
 | ⟨n,l⟩,h=>by
  simp only[iR]at h
  have q:=Aco l h.2
  have u:=Nb h.1
  simp only[wx,Bt,Eu]
  by_cases g:l.length=0
  .rw[A7 g];simp;omega
  .rw[Ay g];simp;omega
theorem Aco:∀l:List Ai,En l->(wxs l).length<=24*B5 l
 | [],_=>by simp[wxs,B5]
 | x::xs,h=>by
  simp only[En]at h
  have g:=Ahs x h.1
  have q:=Aco xs h.2
  have u:=Fe x
  simp only[wxs,B5,Eu,D9];omega
end
theorem S3 (l m:List Ai):B5 (l++m)=B5 l+B5 m:=by induction l with| nil=>simp[B5]| cons x xs ih=>simp only[Eh,B5,ih];omega
theorem Aht (l m:List Ai):En (l++m)↔En l/\En m:=by induction l with| nil=>simp[En]| cons x xs ih=>simp only[Eh,En,ih,and_assoc]
theorem Ahu {n:Int} (h:El n):Oj n=some ⟨(Lib.itoa n).toArray⟩:=by unfold Oj;rw[A7 (show _/\_ from h)]
theorem Az0 (n:Int):Mv ⟨(Lib.itoa n).toArray⟩=ti n:=by unfold Mv ti;simp
theorem Aox:∀(k:Nat) (i:Ai) (b:List Int),Bt i<=k->iR i->b.length+24*Bt i<=1099511627776->Nv k i b=some (b++wx i):=by
 intro k;induction k with
 | zero=>intro i b h;have:=Fe i;omega
 | succ k ih=>
  intro i b h c H;have I:=Fe i;have A:=O7 i.K;have c:=(N4 i).1 c;have D:=Nb c.1;rw[Nv,Acl];simp only[Ii,Ahu c.1,Ad,Gt,U1,Az0];rw[Dn ω];simp only[Ad];by_cases w:i.K.length=0
  .rw[Aw ω,A7 w];simp
  .rw[Aq ω,Ay w];simp only[Al,L7,U1,Ad];rw[Dn ζ,Ad];have g:=Aco i.K c.2;have l:∀j,(wxs (i.K.take j)).length<=24*B5 i.K:=λj=>by have:=Aot (i.K.take j) (i.K.drop j);rw[take_append_drop]at this;rw[this,Eu]at g;omega
   refine F7 i.K (λj=>((j:Int),b++ti i.U++[40]++wxs (i.K.take j))) (by simp[wxs]) ω ?_ ?_
   .intro j x K v C F G;have B:=K6 (B6 v);have f:=Ahr c.2 (B6 v);have z:=Ahs x f;have q:=l (j+1);have e:wxs (i.K.take (j+1))=wxs (i.K.take j)++(wx x++[44]):=(by rw[Dd v,Aot];simp[wxs]);rw[e]at q;simp only[Eu,D9,length_nil]at q;simp only[C,F,G,Al,Ad];have y:B5 (i.K.take j)+Bt x<=B5 i.K:=(by have s:=S3 (i.K.take (j+1)) (i.K.drop (j+1));rw[take_append_drop,Dd v,S3]at s;simp only[B5]at s;omega);have u:(wxs (i.K.take j)).length<=24*B5 (i.K.take j):=Aco _ (by have:=(Aht (i.K.take j) (i.K.drop j)).1 (by rw[take_append_drop];exact c.2);exact this.1);rw[ih x _ ω f ζ];simp only[Ad];rw[Dn ζ,e];simp
   .intro C;refine⟨b++ti i.U++[40]++wxs i.K,ψ,?_⟩;rw[Dn ζ];simp
def J4 (v:Int) (i:Ai):List Int:=118::(ti v++58::wx i)
def N5 (v:Int) (i:Ai):ByteArray:=⟨(Ey (J4 v i)).toArray⟩
mutual
theorem Ahv:∀i:Ai,∀c∈wx i,0<=c/\c<256
 | ⟨n,l⟩,c,h=>by
  simp only[wx,D7]at h
  rcases h with h|h
  .have:=Im n c h
   simp only[O9,Bool.or_eq_true,D3,beq_iff_eq,D4]at this
   omega
  .by_cases g:l.length=0
   .rw[A7 g]at h;cases h
   .rw[Ay g]at h
    simp only[Fp,D7,not_mem_nil,or_false]at h
    rcases h with h|h|h
    .omega
    .exact Aoy l c h
    .omega
theorem Aoy:∀l:List Ai,∀c∈wxs l,0<=c/\c<256
 | [],c,h=>by simp[wxs]at h
 | x::xs,c,h=>by
  simp only[wxs,D7,Fp]at h
  rcases h with h|h|h
  .exact Ahv x c h
  .omega
  .exact Aoy xs c h
end
theorem Acp (v:Int) (i:Ai):∀c∈J4 v i,0<=c/\c<256:=by
 intro c h;simp only[J4,Fp,D7]at h;rcases h with h|h|h|h
 .omega
 .have:=Im v c h;simp only[O9,Bool.or_eq_true,D3,beq_iff_eq,D4]at this;omega
 .omega
 .exact Ahv i c h
theorem Ahw:∀l m:List Int,(∀c∈l,0<=c/\c<256)->(∀c∈m,0<=c/\c<256)->Ey l=Ey m->l=m
 | [],[],_,_,_=>rfl
 | [],_::_,_,_,h=>by simp[Ey]at h
 | _::_,[],_,_,h=>by simp[Ey]at h
 | x::xs,y::v,q,u,h=>by simp only[Ey,map_cons,List.cons.injEq]at h;have w:=q x ψ;have A:=u y ψ;have e:x.toNat=y.toNat:=(by have:=congrArg UInt8.toNat h.1;rw[UInt8.toNat_ofNat',UInt8.toNat_ofNat']at this;omega);rw[Ahw xs v (λc g=>q c (by simp[g])) (λc g=>u c (by simp[g])) h.2,show x=y by omega]
theorem Az1 {v w:Int} {i j:Ai} (h:N5 v i=N5 w j):v=w/\i=j:=by
 unfold N5 at h;have u:(Ey (J4 v i)).toArray=(Ey (J4 w j)).toArray:=by injection h
 have A:Ey (J4 v i)=Ey (J4 w j):=by simpa using congrArg Array.toList u
 have q:=Ahw _ _ (Acp v i) (Acp w j) A;simp only[J4,List.cons.injEq,true_and]at q;have b:∀X:List Int,Lo (58::X):=λX c m e=>by cases e;decide
 obtain⟨k,g⟩:=Pa _ _ _ _ (Im v) (Im w) (b _) (b _) q;obtain⟨f,_⟩:=Acn i j [] [] Acm Acm (by simpa using (List.cons.inj g).2);exact⟨S0 k,f⟩
theorem Az2 (l:List UInt8):Mv ⟨l.toArray⟩=l.map λb=>(b.toNat:Int):=by unfold Mv;simp
theorem Acq (v:Int) (i:Ai) (c:El v) (g:iR i) (q:Bt i<=1048576):Li v i=some (N5 v i):=by
 have l:=Nb c;have f:(Lib.itoa v).length=(ti v).length:=by unfold ti;simp
 unfold Li;have k:Fw (ByteArray.mk #[118]) ⟨(Lib.itoa v).toArray⟩=some ⟨(118::Lib.itoa v).toArray⟩:=by
  unfold Fw;rw[A7]
  .congr 1
  .show 1+(Lib.itoa v).toArray.size<=9223372036854775807;rw[size_toArray];omega
 have j:Fw ⟨(118::Lib.itoa v).toArray⟩ (ByteArray.mk #[58])=some ⟨(118::(Lib.itoa v++[58])).toArray⟩:=by
  unfold Fw;rw[A7]
  .congr 1
  .show (118::Lib.itoa v).toArray.size+1<=9223372036854775807;rw[size_toArray,D9];omega
 simp only[Ii,Ahu c,Ad,k,j,Ja,Xs,Az2];rw[Dn ζ];simp only[Ad];rw[Aox 4000000 i _ ω g ζ];simp only[Ad,Ku];have h:([]++(118::(Lib.itoa v++[58])).map λb=>(b.toNat:Int))++wx i=J4 v i:=by unfold J4 ti;simp
 rw[h];unfold Wk N5;rw[A7 (Acp v i)];rfl
end Go.Ab
