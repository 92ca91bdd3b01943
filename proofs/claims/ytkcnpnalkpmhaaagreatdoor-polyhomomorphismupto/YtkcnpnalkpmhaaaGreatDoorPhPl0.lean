/- Plain laws: what the plain functions answer. -/
import Derived.Test.YtkcnpnalkpmhaaaGreatDoorPhDef
import Derived.Lib.ItoaLen
open List
namespace Go.Ab
open Go
variable {i:Nat} {E R S:Type} {α:Type _} {J:E->Option R} {l s t:List α} {X:Option (S⊕E)} {a b e:α}
theorem Ad {α β:Type} (a:α) (f:α->Option β):(some a).bind f=f a:=rfl
theorem Bt {α:Type} {l:List α} (h:i<l.length):l[i]? = some l[i]:=getElem?_eq_getElem h
theorem Bv {α:Type} {l:List α} {a:α} (h:l[i]? = some a):a∈l:=mem_of_getElem? h
theorem C3 (a b:Bool):((a&&b)=true)=(a=true/\b=true):=Bool.and_eq_true a b
theorem bnt:(!true)=false:=rfl
theorem Am (a b:α):(bif true then a else b)=a:=rfl
theorem Aq (a b:α):(bif false then a else b)=b:=rfl
theorem Dt {p:Prop} [Decidable p]:(decide p=true)=p:=decide_eq_true_eq
theorem Ar {c:Prop} {h:Decidable c} (hc:¬c) {t:α}:(if c then t else e)=e:=if_neg hc
theorem Au {c:Prop} {h:Decidable c} (hc:c) {t:α}:(if c then t else e)=t:=if_pos hc
theorem Ch (a b:Nat):a<b\/a>=b:=Nat.lt_or_ge a b
theorem Db:l.take l.length=l:=take_length
theorem Ih (h:l.length<=i):l.take i=l:=take_of_length_le h
theorem Fu:l.length=0↔l = []:=length_eq_zero_iff
theorem Ht (h:a∈l):∃i:Nat,l[i]? = some a:=getElem?_of_mem h
theorem G5 {p:α->Bool}:l.all p=true↔∀x,x∈l->p x=true:=all_eq_true
theorem Ei:a∈s++t↔a∈s\/a∈t:=mem_append
theorem C6 {β:Type _} (f:α->β):(l.map f).length=l.length:=length_map f
theorem Eo (h:some a=some b):a=b:=Option.some.inj h
theorem Ed:a::s++t=a::(s++t):=rfl
theorem Et:a∈[b]↔a=b:=mem_singleton
theorem F1:a∈b::l↔a=b\/a∈l:=mem_cons
theorem D8:(a::l).length=l.length+1:=rfl
theorem E5:(s++t).length=s.length+t.length:=length_append
theorem Lp (h:l.length<=i):l[i]? = none:=getElem?_eq_none h
theorem J9 {step:S->Option (S⊕E)} {s:S} {r:R} (c:S->Prop) (m:S->Nat) (b:E->Prop) (h0:c s) (f:∀s,c s->(∃s',step s=some (.inl s')/\c s'/\m s' < m s)\/(∃e,step s=some (.inr e)/\b e)) (g:∀e,b e->J e=some r):(An step s).bind J=some r:=by obtain⟨e,h1,h2⟩:=Li c m b f s h0;rw[h1];exact g e h2
theorem Ee {step:S->Option (S⊕E)} {s:S} {Q:R->Prop} (c:S->Prop) (m:S->Nat) (b:E->Prop) (h0:c s) (f:∀s,c s->(∃s',step s=some (.inl s')/\c s'/\m s' < m s)\/(∃e,step s=some (.inr e)/\b e)) (g:∀e,b e->∃r,J e=some r/\Q r):∃r,(An step s).bind J=some r/\Q r:=by obtain⟨e,h1,h2⟩:=Li c m b f s h0;rw[h1];exact g e h2
theorem Xr {Q:S->Prop} (h:∃r,X=some r/\∃s',r = .inl s'/\Q s'):∃s',X=some (.inl s')/\Q s':=by obtain⟨r,h1,s',rfl,h2⟩:=h;exact⟨s',h1,h2⟩
theorem A32 {Q:E->Prop} (h:∃r,X=some r/\∃e,r = .inr e/\Q e):∃e,X=some (.inr e)/\Q e:=by obtain⟨r,h1,s',rfl,h2⟩:=h;exact⟨s',h1,h2⟩
theorem Xs {A:Type} {X:Option R} (f:A->R) {Q:A->Prop} (h:∃r,X=some r/\∃a,r=f a/\Q a):∃a,X=some (f a)/\Q a:=by obtain⟨r,h1,a,rfl,h2⟩:=h;exact⟨a,h1,h2⟩
variable {a b i:Int} {n:Nat} {p:Prop} {α:Type} {l:List α}
theorem A33 {β:Type} {c:Prop} [Decidable c] (a b:Option α) (f:α->Option β):(if c then a else b).bind f=if c then a.bind f else b.bind f:=by split <;> rfl
theorem Cj {n:Int} (h1 : -9223372036854775808<=n) (h2:n<=9223372036854775807):IntKind.i64.wrap n=n:=by
 have e:IntKind.i64.wrap n=if 9223372036854775808<=n % 18446744073709551616 then n % 18446744073709551616-18446744073709551616 else n % 18446744073709551616:=by simp[IntKind.wrap,IntKind.bits,IntKind.signed]
 rw[e];split <;> omega
theorem Du {n:Int} (h1:0<=n) (h2:n<=18446744073709551615):IntKind.u64.wrap n=n:=by
 have e:IntKind.u64.wrap n=n % 18446744073709551616:=by simp[IntKind.wrap,IntKind.bits,IntKind.signed]
 rw[e];omega
theorem G7 {n:Int} (h1:0<=n) (h2:n<=4294967295):IntKind.u32.wrap n=n:=by
 have e:IntKind.u32.wrap n=n % 4294967296:=by simp[IntKind.wrap,IntKind.bits,IntKind.signed]
 rw[e];omega
theorem Ek (hi:i=n) (h:n<l.length):Ag l i=some l[n]:=by subst hi;simp[Ag,h]
theorem Bu {x:α} (hi:i=n) (h:l[n]? = some x):Ag l i=some x:=by subst hi;simp[Ag,h]
theorem A34 (h:i<0\/(l.length:Int)<=i):Ag l i=none:=by
 unfold Ag;split
 .rw[Lp];omega
 .rfl
theorem He (hi:i=n) (x:α):C2 l i x=l.set n x:=by subst hi;simp[C2]
theorem Ds {b:Nat} {xs ys:List α} (h:(xs.length+ys.length)*b<=140737488355328):Cg b xs ys=some (xs++ys):=by simp[Cg,h]
theorem K2 {b:Nat} {len f:Int} {z:α} {c:Nat} (h1:len=n) (h2:f=c) (h3:n<=c) (g:b*c<=281474976710656) (h:c<=140737488355328):Gq b len f z=some (replicate n z):=by subst h1;subst h2;have a1:(0:Int)<=(n:Int):=ω;have a2:(n:Int)<=(c:Int):=ω;have a3:(c:Int)<=140737488355328:=ω;simp[Gq,a2,a3,g]
theorem Akq {b:Nat} {f:Int} {z:α} {c:Nat} (h2:f=c) (h:b*c<=281474976710656) (g:c<=140737488355328):Gq b 0 f z=some []:=by exact K2 (len:=0) (n:=0) (c:=c) rfl h2 ω h g
theorem C7 (h:a≠b):(a==b)=false:=by simpa using h
theorem Ew (h:a=b):(a==b)=true:=by simpa using h
theorem Gx (h:a≠b):(a != b)=true:=by simpa using h
theorem H9 (h:a=b):(a != b)=false:=by simpa using h
theorem As [Decidable p] (h:p):decide p=true:=decide_eq_true h
theorem Ay [Decidable p] (h:¬p):decide p=false:=decide_eq_false h
theorem Xt {hi:Int} (h:hi=n) (b:n<=l.length):E2 l 0 hi=some (l.take n):=by subst h;have:(n:Int)<=(l.length:Int):=ω;simp[E2,this]
theorem L9 (ha:0<=a) (hb:0<b):Iq a b=some (a % b):=by have:b≠0:=ω;simp[Iq,this,Int.tmod_eq_emod_of_nonneg ha]
theorem Mt (ha:0<=a) (c:a<=18446744073709551615) (hb:0<b):Hv .u64 a b=some (a / b):=by have:b≠0:=ω;have h1:0<=a / b:=Int.ediv_nonneg ha ω;have h2:a / b<=a:=Int.ediv_le_self _ ha;simp[Hv,this,Int.tdiv_eq_ediv_of_nonneg ha];exact Du h1 ω
theorem Akr (ha:0<=a) (c:a<=4294967295) (hb:0<b):Hv .u32 a b=some (a / b):=by have:b≠0:=ω;have h1:0<=a / b:=Int.ediv_nonneg ha ω;have h2:a / b<=a:=Int.ediv_le_self _ ha;simp[Hv,this,Int.tdiv_eq_ediv_of_nonneg ha];exact G7 h1 ω
def Al:List Int->Int
 | []=>0
 | d::l=>d+1000000000*Al l
def Ci (l:List Int):Prop:=∀d∈l,0<=d/\d<1000000000
def Ny (l:List Int):Prop:=∀d∈l,0<=d/\d<4294967296
def Can (l:List Int):Prop:=Ci l/\∀h:l≠[],l.getLast h≠0
def Ah (n:Nat):List Int:=if h:n=0 then [] else ((n % 1000000000:Nat):Int)::Ah (n / 1000000000)
termination_by n
decreasing_by exact Nat.div_lt_self ω δ
theorem Hn:Ah 0 = []:=by rw[Ah];simp
theorem Ox (h:n≠0):Ah n=((n % 1000000000:Nat):Int)::Ah (n / 1000000000):=by rw[Ah];simp[h]
theorem Ci.nil:Ci []:=λ_ h=>by cases h
theorem Ci.append {l m:List Int} (h:Ci l) (h':Ci m):Ci (l++m):=by
 intro d hd;rcases Ei.1 hd with hd|hd
 .exact h d hd
 .exact h' d hd
variable {d:Int} {l:List Int} {i n:Nat}
theorem Ci.one (h:0<=d) (h':d<1000000000):Ci [d]:=by intro x hx;simp at hx;subst hx;exact⟨h,h'⟩
theorem Ci.snoc (h:Ci l) (hd:0<=d) (b:d<1000000000):Ci (l++[d]):=h.append (Ci.one hd b)
theorem Ci.take (h:Ci l) (k:Nat):Ci (l.take k):=λd hd=>h d (mem_of_mem_take hd)
theorem Ci.drop (h:Ci l) (k:Nat):Ci (l.drop k):=λd hd=>h d (mem_of_mem_drop hd)
theorem Ci.get (h:Ci l) (hi:i<l.length):0<=l[i]/\l[i]<1000000000:=h _ (getElem_mem hi)
theorem Ci.set (h:Ci l) (i:Nat) (hd:0<=d) (b:d<1000000000):Ci (l.set i d):=by
 intro x hx;rcases mem_or_eq_of_mem_set hx with hx|rfl
 .exact h x hx
 .exact⟨hd,b⟩
theorem Ci.replicate (n:Nat):Ci (replicate n 0):=by intro d hd;have:=eq_of_mem_replicate hd;subst this;decide
theorem Ci.tail (h:Ci (d::l)):Ci l:=λx hx=>h x (by simp[hx])
theorem Ci.u32 (h:Ci l):Ny l:=λd hd=>by have:=h d hd;omega
theorem Ar3 (l m:List Int):Al (l++m)=Al l+1000000000 ^ l.length*Al m:=by induction l with| nil=>simp[Al]| cons d l ih=>simp only[Ed,Al,ih,D8,Int.pow_succ];grind
theorem Ma (l:List Int) (d:Int):Al (l++[d])=Al l+1000000000 ^ l.length*d:=by rw[Ar3];simp[Al]
theorem G8 (l:List Int) {k:Nat} (h:k<l.length):Al (l.take (k+1))=Al (l.take k)+1000000000 ^ k*l[k]:=by rw[take_succ_eq_append_getElem h,Ma];simp[Nat.min_eq_left (Nat.le_of_lt h)]
theorem Afk (n:Nat):Al (replicate n 0)=0:=by induction n with| zero=>rfl| succ n ih=>simp[replicate_succ,Al,ih]
theorem Px (l:List Int) (k:Nat) (h:k<=l.length):Al l=Al (l.take k)+1000000000 ^ k*Al (l.drop k):=by have e:=Ar3 (l.take k) (l.drop k);rw[take_append_drop]at e;rw[e,length_take,Nat.min_eq_left h]
theorem Nz (l:List Int) (h:i<l.length) (d:Int):Al (l.set i d)=Al l+1000000000 ^ i*(d-l[i]):=by
 induction l generalizing i with
 | nil=>simp at h
 | cons x l ih=>cases i with| zero=>simp[Al];omega| succ i=>have hi:i<l.length:=(by simpa using h);simp only[set_cons_succ,Al,ih hi,getElem_cons_succ,Int.pow_succ];grind
theorem Il (h:Ny l):0<=Al l:=by induction l with| nil=>simp[Al]| cons d l ih=>have h1:=h d ψ;have h2:=ih (λx hx=>h x (by simp[hx]));simp only[Al];omega
theorem Mb (n:Nat):(0:Int)<1000000000 ^ n:=Int.pow_pos δ
theorem Lq (h:Ci l):Al l<1000000000 ^ l.length:=by induction l with| nil=>simp[Al]| cons d l ih=>have h1:=h d ψ;have h2:=ih h.tail;simp only[Al,D8,Int.pow_succ];omega
theorem Gi (n:Nat):Al (Ah n)=n:=by
 induction n using Nat.strongRecOn with
 | _ n ih=>
  by_cases h:n=0
  .subst h;rw[Hn];rfl
  .rw[Ox h,Al,ih (n / 1000000000) (Nat.div_lt_self ω δ)];omega
theorem F2 (n:Nat):Ci (Ah n):=by
 induction n using Nat.strongRecOn with
 | _ n ih=>
  by_cases h:n=0
  .subst h;rw[Hn];exact Ci.nil
  .rw[Ox h];intro d hd;simp at hd;rcases hd with rfl|hd
   .omega
   .exact ih (n / 1000000000) (Nat.div_lt_self ω δ) d hd
theorem Ka (h:n≠0):Ah n≠[]:=by rw[Ox h];simp
theorem Afl (n:Nat):Can (Ah n):=by
 refine⟨F2 n,?_⟩;induction n using Nat.strongRecOn with
 | _ n ih=>
  intro b;have h:n≠0:=λe=>b (by rw[e];exact Hn);have hc:=Ox h;by_cases h2:n / 1000000000=0
  .have c:Ah n = [((n % 1000000000:Nat):Int)]:=(by rw[hc,h2,Hn]);simp only[c,getLast_singleton];omega
  .have:=ih (n / 1000000000) (Nat.div_lt_self ω δ) (Ka h2);simp only[hc];rwa [getLast_cons (Ka h2)]
theorem Aks (h:Can l):Ah (Al l).toNat=l:=by induction l with| nil=>exact Hn| cons d l ih=>obtain⟨h1,h2⟩:=h;have hd:=h1 d ψ;have f:Can l:=(by refine⟨h1.tail,λb=>?_⟩;have:=h2 ψ;rwa [getLast_cons b]at this);have hv:=Il (h1.tail).u32;have b:(Al (d::l)).toNat≠0:=(by intro e;simp only[Al]at e;have c:d=0:=ω;have hv:Al l=0:=ω;have:l = []:=(by rw[<-ih f,hv];exact Hn);subst this;exact h2 ψ (by simpa using c));rw[Ox b];simp only[Al];have i:((d+1000000000*Al l).toNat % 1000000000:Nat)=d.toNat:=ω;have g:(d+1000000000*Al l).toNat / 1000000000=(Al l).toNat:=ω;rw[i,g,ih f];congr 1;omega
theorem Afm (h:Can l) (hv:Al l=n):l=Ah n:=by rw[<-Aks h,hv];rfl
def Iz:List Int->List Int
 | []=>[]
 | d::l=>match Iz l with
  | []=>if d=0 then [] else [d]
  | x::m=>d::x::m
theorem A35 (l:List Int):Iz (l++[0])=Iz l:=by induction l with| nil=>rfl| cons d l ih=>simp only[Ed,Iz,ih]
theorem A36 (h:d≠0):Iz (l++[d])=l++[d]:=by
 induction l with
 | nil=>simp[Iz,h]
 | cons x l ih=>simp only[Ed,Iz,ih];cases l with| nil=>rfl| cons y l=>rfl
theorem Ar4 (h:Ci l):Can (Iz l)/\Al (Iz l)=Al l:=by
 induction l with
 | nil=>exact⟨⟨Ci.nil,λh=>(h rfl).elim⟩,rfl⟩
 | cons d l ih=>
  obtain⟨⟨i1,i2⟩,i3⟩:=ih h.tail;have hd:=h d ψ;simp only[Iz];cases ht:Iz l with
  | nil=>
   rw[ht]at i3;simp only[Al]at i3;simp only[];by_cases b:d=0
   .rw[Au b];refine⟨⟨Ci.nil,λh=>(h rfl).elim⟩,?_⟩;simp only[Al];rw[<-i3];omega
   .rw[Ar b];refine⟨⟨Ci.one hd.1 hd.2,λ_=>by simpa using b⟩,?_⟩;simp only[Al];rw[<-i3]
  | cons x m=>
   rw[ht]at i1 i2 i3;simp only[];refine⟨⟨?_,λ_=>?_⟩,?_⟩
   .intro y hy;rcases F1.1 hy with rfl|hy
    .exact hd
    .exact i1 y hy
   .rw[getLast_cons ψ];exact i2 ψ
   .simp only[Al]at i3 ⊢;rw[i3]
theorem Mu (h:Ci l) (hv:Al l=n):Iz l=Ah n:=by obtain⟨h1,h2⟩:=Ar4 h;exact Afm h1 (h2.trans hv)
theorem A37 (h:Can l):Iz l=l:=by obtain⟨h1,h2⟩:=Ar4 h.1;rw[<-Aks h1,h2,Aks h]
variable {j k m n:Nat} {E R S α:Type} {J:E->Option R} {l:List α} {r rf rt:R} {s0:S} {x:α} {p:α×Nat->Bool}
def Bp (n:Nat):Nat:=(Ah n).length
theorem Aa6:Bp 0=0:=by simp[Bp,Hn]
theorem Oy (n:Nat):n<1000000000 ^ Bp n:=by have:=Lq (F2 n);rw[Gi]at this;have e:((1000000000 ^ Bp n:Nat):Int)=1000000000 ^ Bp n:=ψ;unfold Bp at *;omega
theorem Kq (h:n<1000000000 ^ k):Bp n<=k:=by
 induction k generalizing n with
 | zero=>simp at h;subst h;simp[Aa6]
 | succ k ih=>
  by_cases h0:n=0
  .subst h0;simp[Aa6]
  .unfold Bp;rw[Ox h0,D8];have:n / 1000000000<1000000000 ^ k:=(by rw[Nat.div_lt_iff_lt_mul δ];rwa [Nat.pow_succ]at h);have:=ih this;unfold Bp at this;omega
theorem I4 (h:m<=n):Bp m<=Bp n:=Kq (Nat.lt_of_le_of_lt h (Oy n))
theorem Ar5 (h:k<Bp n):1000000000 ^ k<=n:=by
 rcases Ch n (1000000000 ^ k) with h'|h'
 .have:=Kq h';omega
 .exact h'
theorem Aa7 (m n:Nat):Bp (m+n)<=max (Bp m) (Bp n)+1:=by apply Kq;have h1:=Oy m;have h2:=Oy n;have h3:1000000000 ^ Bp m<=1000000000 ^ max (Bp m) (Bp n):=Nat.pow_le_pow_right δ (Nat.le_max_left _ _);have b:1000000000 ^ Bp n<=1000000000 ^ max (Bp m) (Bp n):=Nat.pow_le_pow_right δ (Nat.le_max_right _ _);rw[Nat.pow_succ];omega
theorem Hx (m n:Nat):Bp (m*n)<=Bp m+Bp n:=by apply Kq;rw[Nat.pow_add];exact Nat.mul_lt_mul_of_lt_of_le (Oy m) (Nat.le_of_lt (Oy n)) (Nat.pow_pos δ)
theorem Akt (m n:Nat):Bp (m / n)<=Bp m:=I4 (Nat.div_le_self _ _)
theorem Ar6 (h:Bp m<Bp n):m<n:=Nat.lt_of_lt_of_le (Oy m) (Ar5 h)
theorem Ar7 {l m:List Int} (g:Ci l) (hk:k<l.length) (b:k<m.length) (f:Ci m) (hd:l.drop (k+1)=m.drop (k+1)) (c:l[k]<m[k]):Al l<Al m:=by have j:=Px l (k+1) hk;have i:=Px m (k+1) b;rw[G8 l hk]at j;rw[G8 m b,<-hd]at i;have h3:=Lq (g.take k);have q:=Il ((f.take k).u32);rw[length_take,Nat.min_eq_left (Nat.le_of_lt hk)]at h3;have h:1000000000 ^ k*(l[k]+1)<=1000000000 ^ k*m[k]:=Int.mul_le_mul_of_nonneg_left c (Int.le_of_lt (Mb k));rw[Int.mul_add]at h;omega
theorem K4 {step:S->Option (S⊕E)} (n:Nat) (b:Nat->S) (h0:s0=b 0) (c:∀j,j<n->step (b j)=some (.inl (b (j+1)))) (f:∃e,step (b n)=some (.inr e)/\J e=some r):(An step s0).bind J=some r:=by
 have key:∀m,m<=n->An step (b 0)=An step (b m):=by intro m;induction m with| zero=>intro _;rfl| succ m ih=>intro h;rw[ih ω,Lz (c m ω)]
 obtain⟨e,h1,h2⟩:=f;rw[h0,key n (Nat.le_refl _),Gn h1];exact h2
theorem C9 (h:j<n) (b:n<4611686018427387904):Ac ((j:Int)+1)=((j+1:Nat):Int):=by rw[Ac,Cj] <;> omega
theorem Ar8 (h:l.zipIdx.all p=false):∃j x,l[j]? = some x/\p (x,j)=false/\∀i y,i<j->l[i]? = some y->p (y,i)=true:=by
 have key:∀(n:Nat),(∀i y,i<n->l[i]? = some y->p (y,i)=true)\/∃j x,j<n/\l[j]? = some x/\p (x,j)=false/\∀i y,i<j->l[i]? = some y->p (y,i)=true:=by
  intro n;induction n with
  | zero=>exact .inl (λi y h=>ω)
  | succ n ih=>
   rcases ih with ih|⟨j,x,h1,h2,h3,b⟩
   .cases hx:l[n]? with
    | none=>exact .inl (λi y hi hy=>by
      rcases Ch i n with h|h
      .exact ih i y h hy
      .have:i=n:=ω
       subst this;rw[hx]at hy;cases hy)
    | some x=>
     cases hp:p (x,n) with
     | true=>exact .inl (λi y hi hy=>by
       rcases Ch i n with h|h
       .exact ih i y h hy
       .have:i=n:=ω
        subst this;rw[hx]at hy;cases hy;exact hp)
     | false=>exact .inr ⟨n,x,ω,hx,hp,ih⟩
   .exact .inr ⟨j,x,ω,h2,h3,b⟩
 rcases key l.length with hk|⟨j,x,h1,h2,h3,b⟩
 .exfalso;have:l.zipIdx.all p=true:=by
   rw[G5];rintro⟨y,i⟩ hy;have:=mk_mem_zipIdx_iff_getElem?.1 hy;have hi:i<l.length:=by
    rcases Ch i l.length with h|h
    .exact h
    .rw[Lp h]at this;cases this
   exact hk i y hi this
  rw[this]at h;cases h
 .exact⟨j,x,h2,h3,b⟩
theorem Jg (h:l.zipIdx.all p=true) (hx:l[j]? = some x):p (x,j)=true := G5.1 h _ (mk_mem_zipIdx_iff_getElem?.2 hx)
theorem Aku (h:∀j x,l[j]? = some x->p (x,j)=true):l.zipIdx.all p=true:=by rw[G5];rintro⟨y,i⟩ hy;exact h i y (mk_mem_zipIdx_iff_getElem?.1 hy)
theorem Aa8 {step:S->Option (S⊕E)} (l:List α) (p:α×Nat->Bool) (b:Nat->S) (h0:s0=b 0) (g:l.length<4611686018427387904) (f:∀(j:Nat) (x:α),l[j]? = some x->(∀i y,i<j->l[i]? = some y->p (y,i)=true)->decide ((j:Int)<(l.length:Int))=true->Ag l (j:Int)=some x->Ac ((j:Int)+1)=((j+1:Nat):Int) -> (p (x,j)=true->step (b j)=some (.inl (b (j+1))))/\(p (x,j)=false->∃e,step (b j)=some (.inr e)/\J e=some rf)) (q:decide ((l.length:Int)<(l.length:Int))=false->l.zipIdx.all p=true->∃e,step (b l.length)=some (.inr e)/\J e=some rt):(An step s0).bind J=some (bif l.zipIdx.all p then rt else rf):=by
 have c:∀(j:Nat) (x:α),l[j]? = some x->(∀i y,i<j->l[i]? = some y->p (y,i)=true)->_:=λj x hx hy=>
  have hj:j<l.length:=by
   rcases Ch j l.length with h|h
   .exact h
   .rw[Lp h]at hx;cases hx
  f j x hx hy (As ω) (Bu rfl hx) (C9 hj g)
 cases hb:l.zipIdx.all p with
 | true=>refine K4 l.length b h0 (λj hj=>?_) (q ψ hb);have hx:l[j]? = some l[j]:=Bt hj;exact (c j _ hx (λi y _ hy=>Jg hb hy)).1 (Jg hb hx)
 | false=>
  obtain⟨j,x,h1,h2,h3⟩:=Ar8 hb;refine K4 j b h0 (λi hi=>?_) ((c j x h1 h3).2 h2);have hj:j<l.length:=by
   rcases Ch j l.length with h|h
   .exact h
   .rw[Lp h]at h1;cases h1
  have hx:l[i]? = some l[i]:=Bt ω;exact (c i _ hx (λk y hk hy=>h3 k y ω hy)).1 (h3 i _ hi hx)
theorem Afn (l:List α) (p:α->Bool):l.zipIdx.all (λq=>p q.1)=l.all p:=by
 cases h:l.all p with
 | true=>exact Aku λj x hx=>G5.1 h _ (Bv hx)
 | false=>cases h':l.zipIdx.all (λq=>p q.1) with| false=>rfl| true=>rw[<-h];symm;rw[G5];intro x hx;obtain⟨j,hj⟩:=Ht hx;exact Jg h' hj
theorem Aa9 {step:S->Option (S⊕E)} (l:List α) (p:α->Bool) (b:Nat->S) (h0:s0=b 0) (f:l.length<4611686018427387904) (c:∀(j:Nat) (x:α),l[j]? = some x->decide ((j:Int)<(l.length:Int))=true->Ag l (j:Int)=some x->Ac ((j:Int)+1)=((j+1:Nat):Int) -> (p x=true->step (b j)=some (.inl (b (j+1))))/\(p x=false->∃e,step (b j)=some (.inr e)/\J e=some rf)) (g:decide ((l.length:Int)<(l.length:Int))=false->∃e,step (b l.length)=some (.inr e)/\J e=some rt):(An step s0).bind J=some (bif l.all p then rt else rf):=by rw[<-Afn l p];exact Aa8 l (λq=>p q.1) b h0 f (λj x hx _=>c j x hx) (λh _=>g h)
theorem F3 {step:S->Option (S⊕E)} (l:List α) (b:Nat->S) (h0:s0=b 0) (f:l.length<4611686018427387904) (c:∀(j:Nat) (x:α),j<l.length->l[j]? = some x->decide ((j:Int)<(l.length:Int))=true->Ag l (j:Int)=some x->Ac ((j:Int)+1)=((j+1:Nat):Int)->step (b j)=some (.inl (b (j+1)))) (g:decide ((l.length:Int)<(l.length:Int))=false->∃e,step (b l.length)=some (.inr e)/\J e=some r):(An step s0).bind J=some r:=by refine K4 l.length b h0 (λj hj=>?_) (g ψ);have hx:l[j]? = some l[j]:=Bt hj;exact c j _ hj hx (As ω) (Bu rfl hx) (C9 hj f)
theorem Da (h:l[j]? = some x):l.take (j+1)=l.take j++[x]:=by rw[take_add_one,h];rfl
theorem Eg (h:l[j]? = some x):j<l.length:=by
 rcases Ch j l.length with h'|h'
 .exact h'
 .rw[Lp h']at h;cases h
theorem Afo (b:Bool):(bif b then true else false)=b:=by cases b <;> rfl
theorem A38 (b:Bool):(bif b then false else true) = !b:=by cases b <;> rfl
theorem Ar9 {A:Type} {X:Option A} {f:A->Option R} {y:R} {Q:A->Prop} (h:∃r,X=some r/\Q r) (hf:∀r,Q r->f r=some y):X.bind f=some y:=by obtain⟨r,h1,h2⟩:=h;rw[h1];exact hf r h2
theorem Akv (l:List α) (p:α->Bool) {step:Int->Option (Int⊕(Int⊕Unit))} {J:Int⊕Unit->Option Int} (k:l.length<4611686018427387904) (g:∀(j:Nat) (x:α),x∈l->decide ((j:Int)<(l.length:Int))=true->Ag l (j:Int)=some x->Ac ((j:Int)+1)=((j+1:Nat):Int) -> step (j:Int)=bif p x then some (.inr (.inl (j:Int))) else some (.inl ((j+1:Nat):Int))) (q:decide ((l.length:Int)<(l.length:Int))=false->step (l.length:Int)=some (.inr (.inr ()))) (c:∀i,J (.inl i)=some i) (b:J (.inr ())=some (-1)):∃i,(An step 0).bind J=some i/\decide (i>=0)=l.any p:=by
 have key:(An step 0).bind (λz=>(J z).bind λi=>some (decide (i>=0)))=some (bif l.all (λx=>!p x) then false else true):=by refine Aa9 l (λx=>!p x) (λj=>(j:Int)) rfl k (λj x hx h1 h2 h3=>?_) (λh=>⟨.inr (),q h,by rw[b];rfl⟩);have h:=g j x (Bv hx) h1 h2 h3;simp only[h];cases p x with| true=>exact⟨nofun,λ_=>⟨.inl (j:Int),rfl,by simp only[c,Ad];rw[As ω]⟩⟩| false=>exact⟨λ_=>rfl,λh=>by cases h⟩
 have e:l.any p=(bif l.all (λx=>!p x) then false else true):=by rw[A38,not_all_eq_any_not];simp
 rw[e];cases f:An step 0 with
 | none=>rw[f]at key;cases key
 | some z=>rw[f,Ad]at key;rw[Ad];cases hi:J z with| none=>rw[hi]at key;cases key| some i=>rw[hi,Ad]at key;exact⟨i,rfl,Eo key⟩
theorem Akw {M:Type} {step:S->Option (S⊕E)} (l:List α) (p:α×Nat->Bool) (b:Nat->M->S) (I:M->Prop) (z A:R->Prop) (g:M) (h0:s0=b 0 g) (h:I g) (D:l.length<4611686018427387904) (B:∀(j:Nat) (x:α) (m:M),I m->l[j]? = some x->(∀i y,i<j->l[i]? = some y->p (y,i)=true)->decide ((j:Int)<(l.length:Int))=true->Ag l (j:Int)=some x->Ac ((j:Int)+1)=((j+1:Nat):Int) -> (p (x,j)=true->∃f,step (b j m)=some (.inl (b (j+1) f))/\I f)/\(p (x,j)=false->∃e,step (b j m)=some (.inr e)/\∃r,J e=some r/\A r)) (G:∀m,I m->decide ((l.length:Int)<(l.length:Int))=false->l.zipIdx.all p=true->∃e,step (b l.length m)=some (.inr e)/\∃r,J e=some r/\z r) : ∃r,(An step s0).bind J=some r/\((l.zipIdx.all p=true/\z r)\/(l.zipIdx.all p=false/\A r)):=by
 have c:∀(j:Nat) (x:α) (m:M),I m->l[j]? = some x->(∀i y,i<j->l[i]? = some y->p (y,i)=true)->_:=λj x m L hx hy=>
  have hj:j<l.length:=Eg hx
  B j x m L hx hy (As ω) (Bu rfl hx) (C9 hj D)
 have key:∀n,n<=l.length->(∀i y,i<n->l[i]? = some y->p (y,i)=true)->∃m,I m/\An step s0=An step (b n m):=by intro n;induction n with| zero=>intro _ _;exact⟨g,h,by rw[h0]⟩| succ n ih=>intro U hy;obtain⟨m,h1,h2⟩:=ih ω (λi y hi=>hy i y ω);have hx:l[n]? = some l[n]:=Bt ω;obtain⟨f,h3,k⟩:=(c n _ m h1 hx (λi y hi=>hy i y ω)).1 (hy n _ ω hx);exact⟨f,k,by rw[h2,Lz h3]⟩
 cases hb:l.zipIdx.all p with| true=>obtain⟨m,h1,h2⟩:=key l.length (Nat.le_refl _) (λi y _ hy=>Jg hb hy);obtain⟨e,u,r,s,q⟩:=G m h1 ψ hb;exact⟨r,by rw[h2,Gn u];exact s,.inl ⟨rfl,q⟩⟩| false=>obtain⟨j,x,h1,h2,h3⟩:=Ar8 hb;obtain⟨m,k,N⟩:=key j (Nat.le_of_lt (Eg h1)) h3;obtain⟨e,u,r,s,q⟩:=(c j x m k h1 h3).2 h2;exact⟨r,by rw[N,Gn u];exact s,.inr ⟨rfl,q⟩⟩
mutual
def Bz:Af->Nat
 | ⟨_,_,l⟩=>1+Dn l
def Dn:List Af->Nat
 | []=>0
 | x::xs=>Bz x+Dn xs
end
theorem Jx (t:Af):Bz t=1+Dn t.R:=by cases t;simp only[Bz]
theorem Vd (t:Af):1<=Bz t:=by rw[Jx];omega
theorem Kb {l:List Af} {a:Af} (h:a∈l):Bz a<=Dn l:=by
 induction l with
 | nil=>cases h
 | cons x xs ih=>
  simp only[Dn];rcases F1.1 h with rfl|h
  .omega
  .have:=ih h;omega
theorem Lr (l:List Af):l.length<=Dn l:=by induction l with| nil=>simp| cons x xs ih=>simp only[Dn,D8];have:=Vd x;omega
theorem Afp (l m:List Af):Dn (l++m)=Dn l+Dn m:=by induction l with| nil=>simp[Dn]| cons x xs ih=>simp only[Ed,Dn,ih];omega
def Lt (data:List Ak) (vars k n:Int) (len:Nat):Bool := if k=1\/k=2\/k=3 then n==0&&len==0 else if k=4 then decide (0<=n)&&decide (n<vars)&&len==0 else if k=5 then decide (0<=n)&&(match data[n.toNat]? with|some d=>(len:Int)==d.V|none=>false) else if k=6 then n==0&&decide (2<=len)&&decide (len<=6) else if k=7\/k=8 then n==0&&len==1 else if k=9 then n==0&&decide (1<=len)&&decide (len<=7) else false
mutual
def E6 (data:List Ak) (vars:Int):Af->Bool
 | ⟨k,n,l⟩=>Lt data vars k n l.length&&Gj data vars l
def Gj (data:List Ak) (vars:Int):List Af->Bool
 | []=>true
 | x::xs=>E6 data vars x&&Gj data vars xs
end
variable {i:Int} {l:List Af} {j:Nat} {R α:Type}
theorem Aba (data:List Ak) (vars:Int) (t:Af):E6 data vars t=(Lt data vars t.G t.U t.R.length&&Gj data vars t.R):=by cases t;simp only[E6]
theorem Asa (l:List α) (n:Nat):((l.length:Int)==(n:Int))=(l.length==n):=by
 by_cases h:l.length=n
 .subst h;simp
 .rw[C7 ω];simp[h]
theorem A39 (k:Nat) (t:Af) (data:List Ak) (vars left:Int) (h1:1<=left) (h2:left<=1000) : Ot (k+1) t ⟨data,vars,left⟩=bif Lt data vars t.G t.U t.R.length then ((Xk k t.R ⟨data,vars,left-1⟩).bind λv12=>some ((!v12.1),v12.2)) else some (false,⟨data,vars,left-1⟩):=by have hw:Ac (left-1)=left-1:=Cj ω ω;have b:¬left-1<0:=ω;rw[Ot];simp only[hw,Ay b,Aq];generalize g:(Xk k t.R ⟨data,vars,left-1⟩).bind (λv12=>some ((!v12.1),v12.2))=X;generalize f:(some (false,⟨data,vars,left-1⟩):Option (Bool×H8))=Y;unfold Lt Ag;generalize t.R.length=len;generalize t.G=c;generalize t.U=n;cases hd:data[n.toNat]? <;> simp only[Bool.cond_eq_ite,A33,Ad,Option.bind_none,hd] <;> grind
theorem Akx (h:j<l.length):Dn (l.take (j+1))=Dn (l.take j)+Bz l[j]:=by rw[take_succ_eq_append_getElem h,Afp];simp[Dn]
theorem Asb (data:List Ak) (vars:Int) (l m:List Af):Gj data vars (l++m)=(Gj data vars l&&Gj data vars m):=by induction l with| nil=>simp[Gj]| cons x xs ih=>simp only[Ed,Gj,ih,Bool.and_assoc]
theorem Asd (data:List Ak) (vars:Int) (h:j<l.length):Gj data vars (l.take (j+1))=(Gj data vars (l.take j)&&E6 data vars l[j]):=by rw[take_succ_eq_append_getElem h,Asb];simp[Gj]
theorem Aky (l:List Af) (j:Nat):Dn (l.take j)<=Dn l:=by have:=Afp (l.take j) (l.drop j);rw[take_append_drop]at this;omega
theorem A4a (data:List Ak) (vars:Int) (l:List Af) (j:Nat) (h:Gj data vars l=true):Gj data vars (l.take j)=true:=by have:=Asb data vars (l.take j) (l.drop j);rw[take_append_drop,h]at this;have:=this.symm;simp only[C3]at this;exact this.1
theorem A4b (data:List Ak) (vars:Int) (k:Nat) (l:List Af) (c:Nat) (G:l.length<1099511627776) (ih:∀(a:Af),a∈l->∀f:Nat,f<=c->∃g:Int,Ot k a ⟨data,vars,f⟩=some (E6 data vars a&&decide (Bz a<=f),⟨data,vars,g⟩)/\((E6 data vars a&&decide (Bz a<=f))=true->g=(f:Int)-Bz a)) : ∃p:Int×Int,Aaz (k+2) l ⟨data,vars,c⟩=some (p.1,⟨data,vars,p.2⟩)/\((Gj data vars l&&decide (Dn l<=c))=true->p.1 = -1/\p.2=(c:Int)-Dn l)/\((Gj data vars l&&decide (Dn l<=c))=false->0<=p.1):=by
 rw[Aaz];refine Xs (λp:Int×Int=>(p.1,H8.mk data vars p.2)) (Ee (λ(v3,v4,v5,s)=>∃j:Nat,v3=j/\j<=l.length/\v4=data/\v5=vars/\Gj data vars (l.take j)=true/\Dn (l.take j)<=c/\s=(c:Int)-Dn (l.take j)) (λ(v3,_,_,_)=>l.length-v3.toNat) (λz=>match z with|.inl (i,b)=>0<=i/\(∃g,b=⟨data,vars,g⟩)/\(Gj data vars l&&decide (Dn l<=c))=false | .inr (v4,v5,s)=>v4=data/\v5=vars/\(Gj data vars l&&decide (Dn l<=c))=true/\s=(c:Int)-Dn l) ⟨0,rfl,ω,rfl,rfl,rfl,by simp[Dn],by simp[Dn]⟩ ?_ ?_)
 .rintro⟨v3,v4,v5,s⟩ ⟨j,rfl,hj,rfl,rfl,x,A,rfl⟩;rcases Ch j l.length with h|h
  .obtain⟨u,y⟩:∃u:Nat,(c:Int)-Dn (l.take j)=u/\u<=c:=⟨c-Dn (l.take j),ω,ω⟩;obtain⟨g,E,D⟩:=ih l[j] (getElem_mem h) u y.2;simp only[As (ω:(j:Int)<(l.length:Int)),Am,Ek rfl h,Ad,Z8,y.1,E];cases hb:(E6 v4 v5 l[j]&&decide (Bz l[j]<=u)) with
   | true=>
    have I:=D hb;simp only[C3,Dt]at hb;refine .inl ⟨(((j+1:Nat):Int),v4,v5,g),?_,⟨j+1,rfl,ω,rfl,rfl,?_,?_,?_⟩,ζ⟩
    .simp only[bnt,Aq];rw[show Ac ((j:Int)+1)=((j+1:Nat):Int) by rw[Ac,Cj] <;> omega]
    .rw[Asd _ _ h,x,hb.1];rfl
    .rw[Akx h];omega
    .show g=_;rw[Akx h];omega
   | false=>refine .inr ⟨.inl ((j:Int),⟨v4,v5,g⟩),ψ,ω,⟨g,rfl⟩,?_⟩;cases q:(Gj v4 v5 l&&decide (Dn l<=c)) with| false=>rfl| true=>exfalso;simp only[C3,Dt]at q;have a1:=A4a v4 v5 l (j+1) q.1;rw[Asd _ _ h]at a1;simp only[C3]at a1;have a2:=Aky l (j+1);rw[Akx h]at a2;rw[a1.2,Bool.true_and,decide_eq_false_iff_not]at hb;omega
  .have:j=l.length:=ω;subst this;rw[Db]at *;refine .inr ⟨.inr (v4,v5,(c:Int)-Dn l),ψ,rfl,rfl,by simp[x,A],rfl⟩
 .rintro (⟨i,b⟩|⟨v4,v5,s⟩) B
  .obtain⟨a1,⟨g,rfl⟩,a3⟩:=B;exact⟨_,rfl,(i,g),rfl,(λh=>by rw[a3]at h;cases h),λ_=>a1⟩
  .obtain⟨rfl,rfl,a3,rfl⟩:=B;exact⟨_,rfl,(-1,_),rfl,λ_=>⟨rfl,rfl⟩,λh=>by rw[a3]at h;cases h⟩
theorem A4c (data:List Ak) (vars:Int):∀(left:Nat) (t:Af) (k:Nat),left<=200->4*left+4<=k->Bz t<1099511627776 -> ∃f:Int,Ot k t ⟨data,vars,left⟩=some (E6 data vars t&&decide (Bz t<=left),⟨data,vars,f⟩)/\((E6 data vars t&&decide (Bz t<=left))=true->f=(left:Int)-Bz t):=by
 intro left;induction left using Nat.strongRecOn with
 | _ left s=>
  intro t k B hk ht;have hp:=Vd t;obtain⟨g,rfl⟩:∃g,k=g+1:=⟨k-1,ω⟩;cases left with
  | zero=>refine⟨-1,?_,λh=>by simp at h;omega⟩;rw[Ot];have hd:decide (Bz t<=0)=false:=Ay ω;rw[hd,Bool.and_false];rfl
  | succ b=>
   rw[A39 g t data vars ((b+1:Nat):Int) ω ω];have z:((b+1:Nat):Int)-1=(b:Int):=ω;rw[z,Aba];cases A:Lt data vars t.G t.U t.R.length with
   | false=>exact⟨b,ψ,λh=>by simp at h⟩
   | true=>
    obtain⟨q,rfl⟩:∃q,g=q+3:=⟨g-3,ω⟩;have j:=Jx t;have x:=Lr t.R;obtain⟨⟨i,f⟩,h1,h2,h3⟩:=A4b data vars q t.R b ω (λa ha c y=>by have:=Kb ha;exact s c ω a q ω ω ω);have l:decide (Bz t<=b+1)=decide (Dn t.R<=b):=(by rw[j];congr 1;simp only[eq_iff_iff];omega);simp only[Am,Xk,h1,Ad,Bool.true_and,l];refine⟨f,?_,λh=>?_⟩
    .cases hb:(Gj data vars t.R&&decide (Dn t.R<=b)) with| true=>have u:i = -1:=(h2 hb).1;rw[Ay (ω:¬i>=0)];rfl| false=>have u:0<=i:=h3 hb;rw[As (ω:i>=0)];rfl
    .have u:f=(b:Int)-Dn t.R:=(h2 h).2;rw[u,j];omega
theorem Xu (data:List Ak) (t:Af) (vars:Int) (ht:Bz t<1099511627776):Pg data t vars=some (E6 data vars t&&decide (Bz t<=200)):=by unfold Pg;obtain⟨b,h1,_⟩:=A4c data vars 200 t 4000000 δ δ ht;have h1:Ot 4000000 t ⟨data,vars,200⟩=_:=h1;rw[h1];rfl
def S0 (a:Af) (i:Int):Bool:=a.G==4&&a.U==i&&a.R.length==0
def Ase (l:List Af):Bool:=l.zipIdx.all λq=>S0 q.1 q.2
def Kr (t:Af) (d vars:Int):Bool:=t.G==5&&t.U==d&&(t.R.length:Int)==vars&&Ase t.R
def D3 (data:List Ak) (d c:Int):List Bool := match Ag data d with
 | none=>[]
 | some x=>match Ag x.O c with
  | none=>[]
  | some y=>y.R.map λt=>Kr t d x.V
theorem Hf {l:List α} {x:α} (h:Ag l i=some x):0<=i/\i<l.length/\l[i.toNat]? = some x/\x∈l:=by
 unfold Ag at h;split at h
 .have h1:i.toNat<l.length:=Eg h;exact⟨by assumption,ω,h,Bv h⟩
 .cases h
theorem Abb {l:List α} (h:Ag l i=none):i<0\/(l.length:Int)<=i:=by
 unfold Ag at h;split at h
 .rw[List.getElem?_eq_none_iff]at h;right;omega
 .left;omega
theorem A4d (data:List Ak) (d c:Int) (F:Ak->Q3->Option R) (z:R) (X:Option R) (f:X=((bif d<(0:Int) then some true else bif d>=(data.length:Int) then some true else bif c<(0:Int) then some true else (Ag data d).bind λb=>some (decide (c>=(b.O.length:Int))):OB).bind λv2=>bif v2 then some z else (Ag data d).bind λv3=>(Ag v3.O c).bind λv4=>F v3 v4)) : X=match Ag data d with
   | none=>some z
   | some x=>match Ag x.O c with
    | none=>some z
    | some y=>F x y:=by
 subst f;cases hx:Ag data d with
 | none=>
  rcases Abb hx with h|h
  .simp only[As h,Am,Ad]
  .by_cases h':d<0
   .simp only[As h',Am,Ad]
   .simp only[Ay h',As (show d>=(data.length:Int) from h),Am,Aq,Ad]
 | some x=>
  obtain⟨a1,a2,_,_⟩:=Hf hx;simp only[Ay (ω:¬d<0),Ay (ω:¬d>=(data.length:Int)),Aq,Ad];cases hy:Ag x.O c with
  | none=>
   rcases Abb hy with h|h
   .simp only[As h,Am,Ad]
   .by_cases h':c<0
    .simp only[As h',Am,Ad]
    .simp only[Ay h',As (show c>=(x.O.length:Int) from h),Am,Aq,Ad]
  | some y=>obtain⟨b1,b2,_,_⟩:=Hf hy;simp only[Ay (ω:¬c<0),Ay (ω:¬c>=(x.O.length:Int)),Aq,Ad]
def A4e (l:List Af):Prop:=l.length<=4194304/\∀a∈l,a.R.length<=4194304
def Mv (data:List Ak):Prop:=∀x∈data,∀y∈x.O,A4e y.R
theorem Abc (l m:List α) (y x:α) (i:Int) (n:Nat) (h:i=n) (b:n=l.length):C2 (l++y::m) i x=l++x::m:=by rw[He h];subst b;simp
theorem Abd (l m:List α) (y:α) (i:Int) (n:Nat) (h:i=n) (b:n=l.length):Ag (l++y::m) i=some y:=by rw[Bu h];subst b;simp
theorem A4f (l:List Af) (k f:List Bool) (i:Int) (n:Nat) (b:Bool) (h:i=n) (s:n=k.length) (A:l.length<1099511627776) {J:Int×List Bool->Option R} {r:R} (z:J ((l.length:Int),k++(b&&Ase l)::f)=some r) : (An (S:=(Int×List Bool)) (E:=(Int×List Bool)) (λ(c,g)=> bif c<(l.length:Int) then ((Ag l c).bind λv44=> bif (v44.G != (4:Int)) then ((Ag g i).bind λv46=> some (.inl ((Ac (c+1)),(C2 g i false)))) else (bif (v44.U != c) then ((Ag g i).bind λy=> some (.inl ((Ac (c+1)),(C2 g i false)))) else (bif (v44.R.length:Int)>(0:Int) then ((Ag g i).bind λu=> some (.inl ((Ac (c+1)),(C2 g i false)))) else (some (.inl ((Ac (c+1)),g)))))) else (some (.inr (c,g)))) (0,k++b::f)).bind J=some r:=by
 refine F3 l (λj=>((j:Int),k++(b&&(l.take j).zipIdx.all (λq=>S0 q.1 q.2))::f)) ψ ω ?_ ?_
 .intro j x hj hx h1 h2 h3;have e:(l.take (j+1)).zipIdx.all (λq=>S0 q.1 q.2)=((l.take j).zipIdx.all (λq=>S0 q.1 q.2)&&S0 x j):=(by rw[Da hx,zipIdx_append,all_append];simp[Nat.min_eq_left (Nat.le_of_lt hj)]);simp only[h1,h2,h3,Am,Ad,Abd k f _ i n h s,Abc k f _ _ i n h s,e];unfold S0;by_cases g1:x.G=4
  .by_cases g2:x.U=j
   .by_cases g3:x.R.length=0
    .rw[Ay ω];simp[g1,g2,g3]
    .rw[As ω];have:(x.R.length==0)=false:=(by simpa using g3);simp[g1,g2,this]
   .simp[g1,g2,Gx g2]
  .simp[g1,Gx g1]
 .intro h1;refine⟨_,by simp only[h1];rfl,?_⟩;rw[Db];exact z
theorem Xv (data:List Ak) (d c:Int) (hd:Mv data):Pn data d c=some (D3 data d c):=by
 unfold Pn;rw[A4d data d c (λv3 v4=>_) [] _ rfl];unfold D3;cases hx:Ag data d with
 | none=>rfl
 | some x=>
  cases hy:Ag x.O c with
  | none=>simp only[hy]
  | some y=>
   simp only[hy];have f:=hd x (Hf hx).2.2.2 y (Hf hy).2.2.2;have g:=f.1;rw[K2 (n:=y.R.length) (c:=y.R.length) rfl rfl ω ω ω,Ad];refine F3 y.R (λj=>((j:Int),((y.R.take j).map λt=>Kr t d x.V)++replicate (y.R.length-j) false)) rfl ω ?_ ?_
   .intro j t hj ht h1 h2 h3;obtain⟨m,h⟩:∃m,y.R.length-j=m+1:=⟨y.R.length-j-1,ω⟩;have i:y.R.length-(j+1)=m:=ω;have b:j=((y.R.take j).map λt=>Kr t d x.V).length:=ζ;simp only[h1,h2,Am,Ad,h,i,replicate_succ,Da ht,map_append,map_cons,map_nil,append_assoc,Ed,nil_append, Abd _ _ _ (j:Int) j rfl b,Abc _ _ _ _ (j:Int) j rfl b];have hb:(bif t.G==5 then bif t.U==d then some (map (λt=>Kr t d x.V) (take j y.R)++((t.R.length:Int)==x.V)::replicate m false)
       else some (map (λt=>Kr t d x.V) (take j y.R)++false::replicate m false) else some (map (λt=>Kr t d x.V) (take j y.R)++false::replicate m false))=some (map (λt=>Kr t d x.V) (take j y.R)++(t.G==5&&t.U==d&&((t.R.length:Int)==x.V))::replicate m false):=by cases t.G==5 <;> cases t.U==d <;> simp
    rw[hb,Ad];refine A4f t.R _ _ (j:Int) j _ rfl b (by have:=f.2 t (Bv ht);omega) ?_;rw[h3];rfl
   .intro h1;exact⟨_,by simp only[h1];rfl,ψ⟩
mutual
def mnt (d:Int):Af->Bool
 | ⟨k,n,l⟩=>(k==5&&n==d)||Q4 d l
def Q4 (d:Int):List Af->Bool
 | []=>false
 | x::xs=>mnt d x||Q4 d xs
end
theorem A4g (d:Int) (t:Af):mnt d t=((t.G==5&&t.U==d)||Q4 d t.R):=by cases t;simp only[mnt]
theorem A4h (d:Int) (l:List Af):Q4 d l=l.any (mnt d):=by induction l with| nil=>rfl| cons x xs ih=>simp only[Q4,ih,any_cons]
theorem A4i (d:Int):∀(n:Nat) (t:Af) (k:Nat),Bz t<=n->4*n+4<=k->n<1099511627776->Uz k t d=some (mnt d t):=by
 intro n;induction n with
 | zero=>intro t k h;have:=Vd t;omega
 | succ n ih=>intro t k h hk g;obtain⟨k,rfl⟩:∃c,k=c+4:=⟨k-4,ω⟩;have f:=Jx t;have b:=Lr t.R;have key:Xj (k+3) t.R d=some (Q4 d t.R):=(by rw[Xj,Ae7];rw[A4h];refine Ar9 (Akv t.R (mnt d) ω ?_ (λh=>by simp only[h];rfl) (λ_=>rfl) rfl) (λi hi=>by rw[hi]);intro j x hx h1 h2 h3;have l:=Kb hx;simp only[h1,h2,h3,Am,Ad,Aaq,ih x k ω ω ω]);rw[Uz,key,A4g];cases t.G==5 <;> cases t.U==d <;> simp
theorem Asf (data:List Ak) (v:Int) (l:List Af):Gj data v l=l.all (E6 data v):=by induction l with| nil=>rfl| cons x xs ih=>simp only[Gj,ih,all_cons]
theorem A4j (data:List Ak) (d:Nat) (v k n:Int) (len:Nat):(Lt (data.take (d+1)) v k n len && !(k==5&&n==(d:Int)))=Lt (data.take d) v k n len:=by
 by_cases hk:k=5
 .subst hk;unfold Lt;simp only[beq_self_eq_true,Bool.true_and,getElem?_take];by_cases b:n=d
  .subst b;simp
  .by_cases h0:0<=n
   .have e:(n==(d:Int))=false:=C7 b;rcases Ch n.toNat d with h|h
    .simp[h,e,show n.toNat<d+1 by omega]
    .simp[e,show ¬n.toNat<d by omega,show ¬n.toNat<d+1 by omega]
   .simp[h0]
 .have e:(k==(5:Int))=false:=C7 hk;simp only[e,Bool.false_and,Bool.not_false,Bool.and_true,Lt,hk,if_false]
mutual
theorem Asg (data:List Ak) (d:Nat) (v:Int):∀t:Af,(E6 (data.take (d+1)) v t && !mnt d t)=E6 (data.take d) v t
 | ⟨k,n,l⟩=>by
  have h1:=Ash data d v l
  have h2:=A4j data d v k n l.length
  simp only[E6,mnt]
  rw[<-h1,<-h2]
  cases Lt (data.take (d+1)) v k n l.length <;> cases (k==5&&n==(d:Int)) <;> cases Gj (data.take (d+1)) v l <;> simp
theorem Ash (data:List Ak) (d:Nat) (v:Int):∀l:List Af,(Gj (data.take (d+1)) v l && !Q4 d l)=Gj (data.take d) v l
 | []=>by simp[Gj,Q4]
 | x::xs=>by
  have h1:=Asg data d v x
  have h2:=Ash data d v xs
  simp only[Gj,Q4]
  rw[<-h1,<-h2]
  cases E6 (data.take (d+1)) v x <;> cases mnt d x <;> cases Gj (data.take (d+1)) v xs <;> simp
end
variable {t:Af} {x:Ak} {s:ByteArray} {o:List (ByteArray×Bool)} {data:List Ak} {L:List ByteArray} {a b d:Nat} {y:Q3} {R:Type} {Q:R->Prop}
theorem Asi:∀l:List Af,(∀a∈l,a.R.length=0)->Dn l=l.length
 | [],_=>rfl
 | x::xs,h=>by have h1:=h x ψ;simp only[Dn,D8];rw[Asi xs (λa ha=>h a (by simp[ha])),Jx,Fu.1 h1];simp only[Dn];omega
theorem Akz (hx:data[d]? = some x) (hv:x.V<=6) (h:Kr t d x.V=true):E6 (data.take (d+1)) x.V t=true/\Bz t<=200:=by
 unfold Kr at h;simp only[C3,beq_iff_eq]at h;obtain⟨⟨⟨h1,h2⟩,h3⟩,c⟩:=h;have ha:∀a∈t.R,∃i:Nat,i<t.R.length/\a.G=4/\a.U=i/\a.R.length=0:=by intro a ha;obtain⟨i,hi⟩:=Ht ha;have:=Jg c hi;simp only[S0,C3,beq_iff_eq]at this;exact⟨i,Eg hi,this.1.1,this.1.2,this.2⟩
 refine⟨?_,?_⟩
 .rw[Aba,Asf,C3];constructor
  .rw[h1,h2];unfold Lt;simp[hx,h3]
  .rw[G5];intro a b;obtain⟨i,i1,i2,i3,i4⟩:=ha a b;rw[Aba,i2,i3,i4,Fu.1 i4];unfold Lt;simp[Gj];omega
 .rw[Jx,Asi _ (λa h=>(ha a h).choose_spec.2.2.2)];omega
def S3 (data:List Ak) (d:Nat) (v:Int) (t:Af):Bool:=Kr t d v||(E6 (data.take d) v t&&decide (Bz t<=200))
theorem A4k (hx:data[d]? = some x) (hv:x.V<=6) (t:Af):((E6 (data.take (d+1)) x.V t&&decide (Bz t<=200))&&(Kr t d x.V || !mnt d t))=S3 data d x.V t:=by unfold S3;cases h:Kr t d x.V with| true=>obtain⟨h1,h2⟩:=Akz hx hv h;rw[h1,As h2];rfl| false=>rw[<-Asg data d x.V t];cases E6 (data.take (d+1)) x.V t <;> cases decide (Bz t<=200) <;> simp
def SzD (data:List Ak):Prop:=∀x∈data,x.O.length<=1048576/\∀y∈x.O,Dn y.R<=1048576
theorem SzD.short (h:SzD data):Mv data:=λx hx y hy=>by have h1:=(h x hx).2 y hy;have h2:=Lr y.R;refine⟨ω,λa ha=>?_⟩;have h3:=Kb ha;have c:=Jx a;have b:=Lr a.R;omega
theorem A4l (g:SzD data) (d c:Nat) (hx:data[d]? = some x) (hy:x.O[c]? = some y) (hv:x.V<=6) (hd:data.length<=1048576) : Si data d c=some (decide (y.R.length<=6)&&y.R.all (S3 data d x.V)):=by
 have b:=Eg hx;have l:=(g x (Bv hx)).2 y (Bv hy);unfold Si;rw[Bu rfl hx,Ad,Bu rfl hy,Ad,Xv data d c g.short];by_cases k:y.R.length<=6
 .rw[Ay (ω:¬(y.R.length:Int)>6),As k];simp only[Aq,Bool.true_and,Ad];refine (Aa9 y.R (S3 data d x.V) (λj=>(j:Int)) rfl ω (rt:=true) (rf:=false) ?_ ?_).trans (by rw[Afo])
  .intro j t ht h1 h2 h3;have q:=Kb (Bv ht);have s:Ag (D3 data d c) (j:Int)=some (Kr t d x.V):=(by unfold D3;simp only[Bu rfl hx,Bu rfl hy];rw[Bu rfl];simp[ht]);simp only[h1,h2,h3,Am,Ad,show Ac ((d:Int)+1)=((d+1:Nat):Int) from C9 b ω,Xt rfl (show d+1<=data.length from b),Bu rfl hx,
    Xu (data.take (d+1)) t x.V ω,s];rw[<-A4k hx hv t];cases i:(E6 (data.take (d+1)) x.V t&&decide (Bz t<=200)) with
   | false=>exact⟨nofun,λ_=>⟨.inl false,rfl,rfl⟩⟩
   | true=>
    have f:Bz t<=200:=(by simp only[C3,Dt]at i;exact i.2);simp only[bnt,Aq,Bool.true_and];cases u:Kr t d x.V with
    | true=>exact⟨λ_=>rfl,λh=>by cases h⟩
    | false=>simp only[Bool.not_false,Am,A4i d 200 t 4000000 f ω ω,Ad,Bool.false_or];cases mnt d t with| true=>exact⟨nofun,λ_=>⟨.inl false,rfl,rfl⟩⟩| false=>exact⟨λ_=>rfl,λh=>by cases h⟩
  .intro h;exact⟨.inr (),by simp only[h];rfl,rfl⟩
 .rw[As (ω:(y.R.length:Int)>6),Ay k];rfl
def bI (s:ByteArray) (i:Nat):Int:=if h:i<s.size then (s[i].toNat:Int) else 0
def loI (c:Int):Bool:=decide (97<=c)&&decide (c<=122)
def upI (c:Int):Bool:=decide (65<=c)&&decide (c<=90)
def diI (c:Int):Bool:=decide (48<=c)&&decide (c<=57)
def wiI (c:Int):Bool:=loI c||upI c||diI c||c==95
def Jy (s:ByteArray):Prop:=1<=s.size/\s.size<=24/\upI (bI s 0)=true/\∀i,i<s.size->wiI (bI s i)=true
theorem Q5 {i:Int} {n:Nat} (hi:i=n) (h:n<s.size):∃c:UInt8,Kn s i=some c/\(c.toNat:Int)=bI s n:=by
 subst hi;refine⟨s[n],?_,?_⟩
 .unfold Kn;rw[Au ω,show ((n:Int)).toNat=n from rfl];simp[h]
 .unfold bI;simp[h]
theorem Abe {j:Nat} (hb:b<=s.size) (h:a+j<b):bI (s.extract a b) j=bI s (a+j):=by
 unfold bI;have h1:j<(s.extract a b).size:=by rw[ByteArray.size_extract];omega
 rw[dif_pos h1,dif_pos ω,ByteArray.getElem_extract]
theorem Abf {lo hi:Int} (h1:lo=a) (h2:hi=b) (h3:a<=b) (c:b<=s.size):Hi s lo hi=some (s.extract a b):=by subst h1;subst h2;unfold Hi;rw[Au ω];rfl
theorem Asj {a b:ByteArray} (h:a.toList=b.toList):a=b:=by rw[ByteArray.toList_eq,ByteArray.toList_eq]at h;have:a.data=b.data:=Array.toList_inj.1 h;cases a;cases b;simp at this;subst this;rfl
theorem Ask (a b:ByteArray):(a.toList==b.toList)=decide (a=b):=by
 by_cases h:a=b
 .subst h;simp
 .rw[Ay h];cases hb:(a.toList==b.toList) with| false=>rfl| true=>exact absurd (Asj (by simpa using hb)) h
theorem Asl (c:Int):Xh c=some (loI c):=by unfold Xh loI;by_cases h:(97:Int)<=c <;> simp[h]
theorem Asm (c:Int):U6 c=some (upI c):=by unfold U6 upI;by_cases h:(65:Int)<=c <;> simp[h]
theorem Afq (c:Int):Ss c=some (diI c):=by unfold Ss diI;by_cases h:(48:Int)<=c <;> simp[h]
theorem Asn (c:Int):Xi c=some (wiI c):=by unfold Xi wiI;rw[Asl,Asm,Afq];simp only[Ad];cases loI c <;> cases upI c <;> cases diI c <;> rfl
theorem Ak0 {S E:Type} {step:S->Option (S⊕E)} (s:ByteArray) (p:Int->Bool) (b:Nat->S) (f:Nat->E) (lo:Nat) (h1:∀j,lo<=j->j<s.size->p (bI s j)=true->step (b j)=some (.inl (b (j+1)))) (h2:∀j,lo<=j->j<s.size->p (bI s j)=false->step (b j)=some (.inr (f j))) (h3:step (b s.size)=some (.inr (f s.size))) : ∀(m i:Nat),lo<=i->i+m=s.size->∃n,i<=n/\n<=s.size/\(∀j,i<=j->j<n->p (bI s j)=true)/\(n<s.size->p (bI s n)=false)/\An step (b i)=some (f n):=by
 intro m;induction m with
 | zero=>intro i _ hi;have:i=s.size:=ω;subst this;exact⟨s.size,ω,ω,λj _ _=>ω,λh=>ω,Gn h3⟩
 | succ m ih=>
  intro i c hi;cases hp:p (bI s i) with
  | true=>
   obtain⟨n,a1,a2,a3,a4,a5⟩:=ih (i+1) ω ω;refine⟨n,ω,a2,λj b1 b2=>?_,a4,by rw[Lz (h1 i c ω hp)];exact a5⟩;rcases Ch i j with h|h
   .exact a3 j h b2
   .have:j=i:=ω;subst this;exact hp
  | false=>exact⟨i,ω,ω,λj _ _=>ω,λ_=>hp,Gn (h2 i c ω hp)⟩
theorem A4m (s:ByteArray) (f:s.size<1099511627776):∃n,n<=s.size/\(∀j,j<n->wiI (bI s j)=true)/\(n<s.size->wiI (bI s n)=false)/\Aau s=some (s.extract 0 n):=by
 have H:=Ak0 (step:=λv3:Int=>bif v3<(s.size:Int) then ((Kn s v3).bind λc4=>(Xi (c4.toNat:Int)).bind λv5=>bif v5 then some (.inl (Ac (v3+1))) else some (.inr v3)) else some (.inr v3))
  s wiI (λj=>(j:Int)) (λj=>(j:Int)) 0 (λj _ hj hp=>by
   obtain⟨c,c1,c2⟩:=Q5 (s:=s) (i:=(j:Int)) rfl hj
   simp only[As (ω:(j:Int)<(s.size:Int)),Am,c1,Ad,c2,Asn,hp,C9 hj ω]) (λj _ hj hp=>by
   obtain⟨c,c1,c2⟩:=Q5 (s:=s) (i:=(j:Int)) rfl hj
   simp only[As (ω:(j:Int)<(s.size:Int)),Am,c1,Ad,c2,Asn,hp,Aq]) ψ s.size 0 ω ω
 obtain⟨n,_,a2,a3,a4,a5⟩:=H
 refine⟨n,a2,λj hj=>a3 j ω hj,a4,?_⟩
 unfold Aau
 have a5:An _ (0:Int)=some (n:Int):=a5
 rw[a5,Ad,Abf (lo:=0) (a:=0) (b:=n) rfl rfl ω a2];rfl
theorem A4n (s:ByteArray) (f:s.size<1099511627776):∃n,n<=s.size/\(∀j,j<n->diI (bI s j)=true)/\(n<s.size->diI (bI s n)=false)/\Ae6 s=some (s.extract 0 n):=by
 have H:=Ak0 (step:=λv3:Int=>bif v3<(s.size:Int) then ((Kn s v3).bind λc4=>(Ss (c4.toNat:Int)).bind λv5=>bif v5 then some (.inl (Ac (v3+1))) else some (.inr v3)) else some (.inr v3))
  s diI (λj=>(j:Int)) (λj=>(j:Int)) 0 (λj _ hj hp=>by
   obtain⟨c,c1,c2⟩:=Q5 (s:=s) (i:=(j:Int)) rfl hj
   simp only[As (ω:(j:Int)<(s.size:Int)),Am,c1,Ad,c2,Afq,hp,C9 hj ω]) (λj _ hj hp=>by
   obtain⟨c,c1,c2⟩:=Q5 (s:=s) (i:=(j:Int)) rfl hj
   simp only[As (ω:(j:Int)<(s.size:Int)),Am,c1,Ad,c2,Afq,hp,Aq]) ψ s.size 0 ω ω
 obtain⟨n,_,a2,a3,a4,a5⟩:=H
 refine⟨n,a2,λj hj=>a3 j ω hj,a4,?_⟩
 unfold Ae6
 have a5:An _ (0:Int)=some (n:Int):=a5
 rw[a5,Ad,Abf (lo:=0) (a:=0) (b:=n) rfl rfl ω a2];rfl
theorem Py {c:Bool} {X Y:Option R} (h1:∃r,X=some r/\Q r) (h2:∃r,Y=some r/\Q r):∃r,(bif c then X else Y)=some r/\Q r:=by cases c <;> assumption
theorem Ak1 {A:Type} {X:Option A} {f:A->Option R} (P:A->Prop) (h1:∃a,X=some a/\P a) (h2:∀a,P a->∃r,f a=some r/\Q r):∃r,X.bind f=some r/\Q r:=by obtain⟨a,e,h⟩:=h1;rw[e];exact h2 a h
theorem A4o (s:ByteArray):∃b,Aav s=some b/\True:=by unfold Aav;repeat' first|refine Py ?_ ?_|exact⟨_,rfl,trivial⟩
theorem A4p (s:ByteArray) (h1:1<=s.size):∃r,Aax s=some r/\(r.size<=s.size):=by
 have g:Hi s 0 1=some (s.extract 0 1):=Abf rfl rfl ω h1;have c:(s.extract 0 1).size<=s.size:=by rw[ByteArray.size_extract];omega
 unfold Aax;refine Ak1 (λz=>∀r,z = .inl r->r.size<=s.size) ?_ ?_
 .by_cases h2:2<=s.size
  .have f:Hi s 0 2=some (s.extract 0 2):=Abf rfl rfl ω h2;have b:∀r,(Sum.inl (s.extract 0 2):ByteArray⊕Unit) = .inl r->r.size<=s.size:=(by rintro r ⟨⟩;rw[ByteArray.size_extract];omega);simp only[f,Ad];repeat' first|refine Py ?_ ?_|with_reducible exact⟨_,rfl,b⟩|exact⟨_,rfl,λr h=>by cases h⟩
  .rw[Ay ω];exact⟨_,rfl,λr h=>by cases h⟩
 .rintro (r|u) i
  .exact⟨_,rfl,i r rfl⟩
  .simp only[g,Ad];have h0:(ByteArray.mk #[]).size<=s.size:=Nat.zero_le _;repeat' first|refine Py ?_ ?_|with_reducible exact⟨_,rfl,c⟩|with_reducible exact⟨_,rfl,h0⟩
theorem A4q (s:ByteArray) (f:s.size<1099511627776):∃b,Aaw s=some b/\True:=by
 unfold Aaw;refine Ee (λ(_,i)=>∃j:Nat,i=j/\j<=s.size) (λ(_,i)=>s.size-i.toNat) (λ_=>True) ⟨0,rfl,ω⟩ ?_ ?_
 .rintro⟨v,i⟩ ⟨j,rfl,hj⟩;rcases Ch j s.size with h|h
  .obtain⟨c,c1,_⟩:=Q5 (s:=s) (i:=(j:Int)) rfl h;simp only[As (ω:(j:Int)<(s.size:Int)),Am,c1,Ad,C9 h ω];cases decide (Ac (Ac (v*10)+Ac (wu8 ((c.toNat:Int)-48)))>1000000) with| true=>exact .inr ⟨_,rfl,trivial⟩| false=>exact .inl ⟨_,rfl,⟨j+1,rfl,ω⟩,ζ⟩
  .have:j=s.size:=ω;subst this;exact .inr ⟨.inr (),ψ,trivial⟩
 .rintro (r|u) _ <;> exact⟨_,rfl,trivial⟩
theorem A4r (s:ByteArray) (i:Nat) (hi:i<s.size) (M:s.size<1099511627776) : ∃r,Aap s i=some r/\(r.2=0->1<=r.1.Text.size/\i+r.1.Text.size<=s.size/\(r.1.G=2->Jy r.1.Text))/\(Jy s->i=0->r=(⟨2,s,0⟩,0)):=by
 obtain⟨c,c1,c2⟩:=Q5 (s:=s) (i:=(i:Int)) rfl hi;have u:Hi s (i:Int) (s.size:Int)=some (s.extract i s.size):=Abf rfl rfl ω ω;have I:(s.extract i s.size).size=s.size-i:=by rw[ByteArray.size_extract];omega
 have x:bI (s.extract i s.size) 0=bI s i:=Abe ω ω;unfold Aap;simp only[c1,Ad,c2,Asl,Asm,Afq,u];have hw:(bif loI (bI s i) then some true else some (upI (bI s i)))=some (loI (bI s i)||upI (bI s i)):=by cases loI (bI s i) <;> rfl
 rw[hw];simp only[Ad];cases l:(loI (bI s i)||upI (bI s i)) with
 | true=>
  obtain⟨n,G,D,y,n4⟩:=A4m (s.extract i s.size) ω;have A:1<=n:=by
   rcases Nat.eq_zero_or_pos n with h|h
   .subst h;have:=y ω;rw[x]at this;unfold wiI at this;rw[l]at this;cases this
   .exact h
  have hx:(s.extract i s.size).extract 0 n=s.extract i (i+n):=(by rw[ByteArray.extract_extract];congr 1;omega);have q:(s.extract i (i+n)).size=n:=(by rw[ByteArray.size_extract];omega);rw[hx]at n4;simp only[Am,n4,Ad,q];have g:Jy s->i=0->n=s.size:=by
   intro hu h0;rcases Ch n s.size with h|h
   .have:=y ω;rw[Abe ω ω,hu.2.2.2 _ ω]at this;cases this
   .omega
  by_cases J:n<=24
  .rw[Ay ω];cases k:upI (bI s i) with
   | true=>
    refine⟨_,rfl,λ_=>⟨?_,?_,λ_=>⟨?_,?_,?_,?_⟩⟩,?_⟩
    .show 1<=(s.extract i (i+n)).size;omega
    .show i+(s.extract i (i+n)).size<=s.size;omega
    .show 1<=(s.extract i (i+n)).size;omega
    .show (s.extract i (i+n)).size<=24;omega
    .show upI (bI (s.extract i (i+n)) 0)=true;rw[Abe ω ω];exact k
    .show ∀j,j<(s.extract i (i+n)).size->wiI (bI (s.extract i (i+n)) j)=true;intro j hj;rw[Abe ω ω];have:=D j ω;rw[Abe ω ω]at this;exact this
    .intro hu h0;have:=g hu h0;subst h0;subst this;rw[Nat.zero_add,ByteArray.extract_zero_size];rfl
   | false=>obtain⟨b,hb,_⟩:=A4o (s.extract i (i+n));simp only[Aq,hb,Ad];have f:Jy s->i=0->False:=(by intro hu h0;subst h0;rw[hu.2.2.1]at k;cases k);cases b with| true=>exact⟨_,rfl,λ_=>⟨by show 1<=(s.extract i (i+n)).size;omega,by show i+(s.extract i (i+n)).size<=s.size;omega,λh=>by cases h⟩,λhu h0=>(f hu h0).elim⟩| false=>exact⟨_,rfl,λ_=>⟨by show 1<=(s.extract i (i+n)).size;omega,by show i+(s.extract i (i+n)).size<=s.size;omega,λh=>by cases h⟩,λhu h0=>(f hu h0).elim⟩
  .rw[As ω];refine⟨_,rfl,nofun,λhu h0=>?_⟩;have:=g hu h0;have:=hu.2.1;omega
 | false=>
  have f:Jy s->i=0->False:=(by intro hu h0;subst h0;rw[hu.2.2.1,Bool.or_true]at l;cases l);simp only[Aq];cases hd:diI (bI s i) with
  | true=>
   obtain⟨n,G,D,y,n4⟩:=A4n (s.extract i s.size) ω;have A:1<=n:=by
    rcases Nat.eq_zero_or_pos n with h|h
    .subst h;have:=y ω;rw[x,hd]at this;cases this
    .exact h
   have hx:(s.extract i s.size).extract 0 n=s.extract i (i+n):=(by rw[ByteArray.extract_extract];congr 1;omega);have q:(s.extract i (i+n)).size=n:=(by rw[ByteArray.size_extract];omega);rw[hx]at n4;obtain⟨b,hb,_⟩:=A4q (s.extract i (i+n)) ω;simp only[Am,n4,Ad,hb];refine Ak1 (λ_=>True) ?_ ?_
   .exact Py ⟨_,rfl,trivial⟩ ⟨_,rfl,trivial⟩
   .intro v _;refine Py ⟨_,rfl,nofun,λhu h0=>(f hu h0).elim⟩ (Py ⟨_,rfl,nofun,λhu h0=>(f hu h0).elim⟩ ⟨_,rfl,λ_=>⟨?_,?_,λh=>by cases h⟩,λhu h0=>(f hu h0).elim⟩)
    .show 1<=(s.extract i (i+n)).size;omega
    .show i+(s.extract i (i+n)).size<=s.size;omega
  | false=>
   obtain⟨r,E,L⟩:=A4p (s.extract i s.size) ω;simp only[Aq,E,Ad];rw[Ask];by_cases z:r=ByteArray.mk #[]
   .rw[As z];exact⟨_,rfl,nofun,λhu h0=>(f hu h0).elim⟩
   .rw[Ay z];refine⟨_,rfl,λ_=>⟨?_,?_,λh=>by cases h⟩,λhu h0=>(f hu h0).elim⟩
    .show 1<=r.size;rcases Nat.eq_zero_or_pos r.size with h|h
     .have B:r.data.toList.length=0:=(by simpa using h);exact absurd (Asj (by rw[ByteArray.toList_eq,Fu.1 B,ByteArray.toList_eq])) z
     .exact h
    .show i+r.size<=s.size;omega
theorem A4s (c:Int):Aao c=some (c==9||c==10||c==13||c==32):=by unfold Aao;cases c==9 <;> cases c==10 <;> cases c==13 <;> rfl
theorem Aso (s:ByteArray) (R:s.size<1099511627776):∃b,Uo s=some b/\(b=true↔Jy s):=by
 unfold Uo Aey
 by_cases q:(s.size:Int)>16384
 .rw[As q]
  refine⟨false,rfl,by simp;rintro⟨_,h,_⟩;omega⟩
 rw[Ay q]
 simp only[Aq]
 refine Ak1 (λr:List Kp×Int×Int=>(r.2.2≠0/\¬Jy s)\/(r.2.2=0/\∃o e,r.1=o++[e]/\(∀t∈o,t.G=2->Jy t.Text)/\(Jy s->o = [⟨2,s,0⟩]))) ?_ ?_
 .refine Ee (λ(v26,f)=>∃i:Nat,v26=i/\i<=s.size/\f.length<=i/\(∀t∈f,t.G=2->Jy t.Text)/\(Jy s->(i=0/\f = [])\/(i=s.size/\f = [⟨2,s,0⟩])))
   (λ(v26,_)=>s.size-v26.toNat)
   (λz=>match z with|.inl o=>o.length<=16384/\(∀t∈o,t.G=2->Jy t.Text)/\(Jy s->o = [⟨2,s,0⟩]) | .inr (_,_,e)=>e≠0/\¬Jy s)
   ⟨0,rfl,ω,ψ,ψ,λ_=>.inl ⟨rfl,rfl⟩⟩ ?_ ?_
  .rintro⟨v,o⟩ ⟨i,rfl,hi,ho,hk,hu⟩
   rcases Ch i s.size with h|h
   .obtain⟨c,c1,c2⟩:=Q5 (s:=s) (i:=(i:Int)) rfl h
    have g:Jy s->i=0/\o = []:=λu=>by
     rcases hu u with h'|h'
     .exact h'
     .omega
    simp only[As (ω:(i:Int)<(s.size:Int)),Am,c1,Ad,c2,A4s]
    cases G:(bI s i==9||bI s i==10||bI s i==13||bI s i==32) with
    | true=>
     have k:¬Jy s:=by
      intro u
      have h0:=(g u).1
      subst h0
      have:=u.2.2.1
      simp only[upI,C3,Dt]at this
      simp only[Bool.or_eq_true,beq_iff_eq]at G
      omega
     exact .inl ⟨(((i+1:Nat):Int),o),by simp only[Am];rw[C9 h ω],⟨i+1,rfl,ω,(by show o.length<=i+1;omega),hk,λu=>(k u).elim⟩,ζ⟩
    | false=>
     simp only[Aq]
     cases B:(bI s i==35) with
     | true=>
      have k:¬Jy s:=by
       intro u
       have h0:=(g u).1
       subst h0
       have:=u.2.2.1
       simp only[upI,C3,Dt]at this
       simp only[beq_iff_eq]at B
       omega
      simp only[Am]
      obtain⟨n,n1,Z,Y,n4,E⟩:=Ak0 (step:=λv32:Int=>bif v32<(s.size:Int) then ((Kn s v32).bind λI=>bif ((I.toNat:Int)==(10:Int)) then some (.inr (.inl v32)) else some (.inl (Ac (v32+1)))) else some (.inr (.inr v32)))
       s (λc=>!(c==10)) (λj=>(j:Int)) (λj=>if j<s.size then Sum.inl (j:Int) else Sum.inr (j:Int)) 0 (λj _ hj hp=>by
        obtain⟨c,c1,c2⟩:=Q5 (s:=s) (i:=(j:Int)) rfl hj
        simp only[Bool.not_eq_true']at hp
        simp only[As (ω:(j:Int)<(s.size:Int)),Am,c1,Ad,c2,hp,C9 hj ω,Aq]) (λj _ hj hp=>by
        obtain⟨c,c1,c2⟩:=Q5 (s:=s) (i:=(j:Int)) rfl hj
        simp only[Bool.not_eq_false']at hp
        simp only[As (ω:(j:Int)<(s.size:Int)),Am,c1,Ad,c2,hp,Au hj]) ψ (s.size-i) i ω ω
      have S:i<n:=by
       rcases Ch i n with h'|h'
       .exact h'
       .have:n=i:=ω
        subst this
        have:=n4 h
        simp only[beq_iff_eq]at B
        rw[B]at this;cases this
      have E:An _ (i:Int)=_:=E
      rw[E,Ad]
      rcases Ch n s.size with h'|h'
      .rw[Au h']
       exact .inl ⟨((n:Int),o),rfl,⟨n,rfl,ω,(by show o.length<=n;omega),hk,λu=>(k u).elim⟩,ζ⟩
      .rw[Ar ω]
       exact .inr ⟨.inl o,rfl,ω,hk,λu=>(k u).elim⟩
     | false=>
      obtain⟨r,N,M,J⟩:=A4r s i h R
      simp only[Aq,N,Ad]
      by_cases D:r.2=0
      .obtain⟨a1,a2,a3⟩:=M D
       simp only[H9 D,Aq]
       rw[Ds ζ,Ad]
       refine .inl ⟨(((i+r.1.Text.size:Nat):Int),o++[r.1]),?_,⟨i+r.1.Text.size,rfl,a2,ζ,?_,?_⟩,ζ⟩
       .rw[show Ac ((i:Int)+(r.1.Text.size:Int))=((i+r.1.Text.size:Nat):Int) by rw[Ac,Cj] <;> omega]
       .intro t ht
        rcases Ei.1 ht with h'|h'
        .exact hk t h'
        .simp at h';subst h';exact a3
       .intro u
        obtain⟨b1,b2⟩:=g u
        have:=J u b1
        subst b1;subst b2;subst this
        exact .inr ⟨ψ,rfl⟩
      .simp only[Gx D,Am]
       refine .inr ⟨_,rfl,D,λu=>?_⟩
       rw[J u (g u).1]at D
       exact D rfl
   .have:i=s.size:=ω
    subst this
    refine .inr ⟨.inl o,ψ,ω,hk,λu=>?_⟩
    rcases hu u with⟨h',_⟩|⟨_,h'⟩
    .have:=u.1;omega
    .exact h'
  .rintro (o|⟨l,p,e⟩) L
   .obtain⟨X,z2,z3⟩:=L
    simp only
    rw[Ds ζ,Ad]
    exact⟨_,rfl,.inr ⟨rfl,o,_,rfl,z2,z3⟩⟩
   .exact⟨_,rfl,.inl L⟩
 .rintro⟨l,p,e⟩ (⟨h1,h2⟩|⟨h1,o,t,h2,h3,A⟩)
  .simp only at h1
   simp only[C7 h1,Aq]
   exact⟨_,rfl,by simp[h2]⟩
  .simp only at h1 h2
   subst h1;subst h2
   simp only[beq_self_eq_true,Am]
   match o,h3,A with
   | [],_,A=>exact⟨false,ψ,by simp;intro u;cases A u⟩
   | [x],h3,A=>
    have V:Ag ([x]++[t]) 0=some x:=rfl
    simp only[V,Ad,Ask]
    have U:((([x]++[t]).length:Int)==2)=true:=rfl
    simp only[U,Am]
    by_cases hx:x.G=2
    .simp only[Ew hx,Am]
     refine⟨_,rfl,?_⟩
     rw[decide_eq_true_iff]
     constructor
     .intro h;rw[<-h];exact h3 x ψ hx
     .intro u;have:=A u;simp at this;rw[this]
    .simp only[C7 hx,Aq]
     refine⟨_,rfl,?_⟩
     simp only[Bool.false_eq_true,false_iff]
     intro u;have:=A u;simp at this;rw[this]at hx;exact hx rfl
   | x::y::ys,_,A=>
    refine⟨false,?_,by simp;intro u;have:=A u;simp at this⟩
    rw[C7]
    .rfl
    .simp;omega
def Afr (data:List Ak) (d:Nat) (v:Int) (y:Q3):Prop:=Jy y.S/\y.R.length<=6/\y.R.all (S3 data d v)=true
def Ak2 (data:List Ak) (d:Nat) (x:Ak):Prop:=0<=x.V/\x.V<=6/\1<=x.O.length/\x.O.length<=8/\Jy x.S/\∀y∈x.O,Afr data d x.V y
def K5 (x:Ak):List ByteArray:=x.O.map (·.S)
def Ia (data:List Ak):Prop:=data.length<=12/\(∀d x,data[d]? = some x->Ak2 data d x)/\(data.map (·.S)).Nodup/\(data.flatMap K5).Nodup
structure DSz (data:List Ak):Prop where
 len:data.length<=1048576
 sz:SzD data
 nm:∀x∈data,x.S.size<=1048576
 cn:∀x∈data,∀y∈x.O,y.S.size<=1048576
theorem N0 (a b:ByteArray):(a==b)=true↔a=b:=by
 constructor
 .intro h;cases a with|mk a=>cases b with|mk b=>
  have:a=b:=(by exact eq_of_beq h);rw[this]
 .rintro rfl;cases a with|mk a=>exact beq_self_eq_true a
def Mc (o:List (ByteArray×Bool)) (L:List ByteArray):Prop:=(∀p∈o,p.2=true)/\∀s,E3 o s=true↔s∈L
theorem Mc.nil:Mc [] []:=⟨ψ,by simp[E3]⟩
theorem Mc.get (h:Mc o L) (b:E3 o s=true):Ir o s false=true:=by unfold Ir;unfold E3 at b;rw[any_eq_true]at b;obtain⟨p,f,c⟩:=b;cases hf:o.find? (λp=>s==p.1) with| none=>exact absurd c (by have:=find?_eq_none.1 hf p f;simpa using this)| some q=>exact h.1 q (mem_of_find?_eq_some hf)
theorem A4t (o:List (ByteArray×Bool)) (s t:ByteArray) (v:Bool):E3 (Gv o s v) t=(E3 o t||t==s):=by
 induction o with
 | nil=>simp[Gv,E3]
 | cons p o ih=>unfold Gv;cases hp:(s==p.1) with| true=>have:s=p.1:=(N0 _ _).1 hp;subst this;simp only[Am,E3,any_cons];cases t==p.1 <;> simp| false=>simp only[E3,any_cons]at ih ⊢;simp only[Aq,any_cons,ih,Bool.or_assoc]
theorem Mc.put (h:Mc o L) (s:ByteArray):Mc (Gv o s true) (L++[s]):=by
 refine⟨?_,λt=>?_⟩
 .have:∀o:List (ByteArray×Bool),(∀p∈o,p.2=true)->∀p∈Gv o s true,p.2=true:=by
   intro o;induction o with
   | nil=>intro _ p hp;simp[Gv]at hp;rw[hp]
   | cons q o ih=>
    intro b p hp;unfold Gv at hp;cases hq:(s==q.1) with
    | true=>
     rw[hq]at hp;simp only[Am,F1]at hp;rcases hp with rfl|hp
     .rfl
     .exact b p (by simp[hp])
    | false=>
     rw[hq]at hp;simp only[Aq,F1]at hp;rcases hp with rfl|hp
     .exact b _ ψ
     .exact ih (λp hp=>b p (by simp[hp])) p hp
  exact this o h.1
 .rw[A4t,Bool.or_eq_true,h.2 t,N0];simp
theorem A4u (x:Ak) {c:Nat} (hy:x.O[c]? = some y):K5 x=(x.O.take c).map (·.S)++y.S::(x.O.drop (c+1)).map (·.S):=by
 have h:=take_append_drop c x.O
 have hc:=Eg hy
 have e:x.O.drop c=y::x.O.drop (c+1):=by
  rw[drop_eq_getElem_cons hc]
  rw[Bt hc]at hy
  rw[Eo hy]
 unfold K5
 conv=>lhs;rw[<-h,e]
 simp
theorem Asp {m:List ByteArray} (h:(L++s::m).Nodup):s ∉ L:=by rw[nodup_append]at h;intro b;exact h.2.2 s b s ψ rfl
theorem Asq (h:L.Nodup) (c:s ∉ L):(L++[s]).Nodup:=by rw[nodup_append];refine⟨h,ψ,?_⟩;intro a ha b hb;simp at hb;subst hb;intro e;subst e;exact c ha
theorem A4v (q:DSz data) (hx:data[d]? = some x) (hv:x.V<=6) (o:List (ByteArray×Bool)) (L:List ByteArray) (G:Mc o L) (J:L.Nodup) : ∃z,An (S:=(Int×List (ByteArray×Bool))) (E:=(Bool⊕(Int×List (ByteArray×Bool)))) (λ(f,g)=> bif f<(x.O.length:Int) then ((Ag x.O f).bind λv54=> (Uo v54.S).bind λu=> bif (!u) then some (.inr (.inl false)) else (bif (E3 g v54.S) then (bif (Ir g v54.S (false:Bool)) then some (.inr (.inl false)) else ((Si data d f).bind λs=> bif (!s) then some (.inr (.inl false)) else some (.inl ((Ac (f+1)),(Gv g v54.S true))))) else ((Si data d f).bind λv58=> bif (!v58) then some (.inr (.inl false)) else some (.inl ((Ac (f+1)),(Gv g v54.S true)))))) else some (.inr (.inr (f,g)))) (0,o)=some z /\ match z with
   | .inl r=>r=false/\¬((∀y∈x.O,Afr data d x.V y)/\(L++K5 x).Nodup)
   | .inr (_,o')=>(∀y∈x.O,Afr data d x.V y)/\(L++K5 x).Nodup/\Mc o' (L++K5 x):=by
 have hxm:=Bv hx;have I:=(q.sz x hxm).1;refine Li (λ(f,g)=>∃c:Nat,f=c/\c<=x.O.length/\(∀y∈x.O.take c,Afr data d x.V y)/\(L++(x.O.take c).map (·.S)).Nodup/\Mc g (L++(x.O.take c).map (·.S))) (λ(f,_)=>x.O.length-f.toNat) _ ?_ _ ⟨0,rfl,ω,ψ,by simpa using J,by simpa using G⟩;rintro⟨v,g⟩ ⟨c,rfl,hc,h1,h2,h3⟩;rcases Ch c x.O.length with h|h
 .have hy:x.O[c]? = some x.O[c]:=Bt h;generalize x.O[c]=y at hy;have k:=Bv hy;obtain⟨b,b1,b2⟩:=Aso y.S (by have:=q.cn x hxm y k;omega);have ht:=Da hy;have B:L++K5 x=(L++(x.O.take c).map (·.S))++y.S::(x.O.drop (c+1)).map (·.S):=(by rw[A4u x hy];simp);simp only[As (ω:(c:Int)<(x.O.length:Int)),Am,Bu rfl hy,Ad,b1,A4l q.sz d c hx hy hv q.len,C9 h ω];cases b with
  | false=>refine .inr ⟨.inl false,rfl,rfl,λhh=>?_⟩;have:=b2.2 (hh.1 y k).1;cases this
  | true=>
   simp only[bnt,Aq];cases j:E3 g y.S with
   | true=>simp only[Am,h3.get j];refine .inr ⟨.inl false,rfl,rfl,λhh=>?_⟩;rw[B]at hh;exact Asp hh.2 ((h3.2 _).1 j)
   | false=>
    simp only[Aq];cases i:(decide (y.R.length<=6)&&y.R.all (S3 data d x.V)) with
    | false=>refine .inr ⟨.inl false,rfl,rfl,λhh=>?_⟩;have:=hh.1 y k;rw[this.2.2,As this.2.1]at i;cases i
    | true=>
     simp only[C3,Dt]at i;have A:y.S ∉ L++(x.O.take c).map (·.S):=λhh=>by rw[(h3.2 _).2 hh]at j;cases j
     have e:L++(x.O.take (c+1)).map (·.S)=(L++(x.O.take c).map (·.S))++[y.S]:=(by rw[ht];simp);refine .inl ⟨_,rfl,⟨c+1,rfl,ω,?_,?_,?_⟩,ζ⟩
     .intro D l;rw[ht]at l;rcases Ei.1 l with h'|h'
      .exact h1 D h'
      .simp at h';subst h';exact⟨b2.1 rfl,i.1,i.2⟩
     .rw[e];exact Asq h2 A
     .rw[e];exact h3.put _
 .have:c=x.O.length:=ω;subst this;rw[Db]at h1 h2 h3;exact .inr ⟨.inr ((x.O.length:Int),g),ψ,h1,h2,h3⟩
theorem A4w (hx:data[d]? = some x):data.flatMap K5=((data.take d).flatMap K5++K5 x)++(data.drop (d+1)).flatMap K5/\data.map (·.S)=(data.take d).map (·.S)++x.S::(data.drop (d+1)).map (·.S):=by
 have h:=take_append_drop d data
 have hc:=Eg hx
 have e:data.drop d=x::data.drop (d+1):=by
  rw[drop_eq_getElem_cons hc]
  rw[Bt hc]at hx
  rw[Eo hx]
 constructor
 .conv=>lhs;rw[<-h,e]
  simp[flatMap_append]
 .conv=>lhs;rw[<-h,e]
  simp
theorem A4x (i:DSz data):∃b,Zs data=some b/\(b=true↔Ia data):=by
 have E:=i.len;unfold Zs;rcases Ch 12 data.length with h12|h12
 .rw[As ω];exact⟨false,rfl,by simp;intro h;have:=h.1;omega⟩
 rw[Ay ω];simp only[Aq];refine Ee (λ(v31,c,f)=>∃d:Nat,v31=d/\d<=data.length/\(∀j x,j<d->data[j]? = some x->Ak2 data j x)/\((data.take d).map (·.S)).Nodup/\((data.take d).flatMap K5).Nodup/\Mc c ((data.take d).map (·.S))/\Mc f ((data.take d).flatMap K5)) (λ(v31,_,_)=>data.length-v31.toNat) (λz=>match z with|.inl r=>r=false/\¬Ia data | .inr _=>Ia data) ⟨0,rfl,ω,by intro j x h;omega,ψ,ψ,by simpa using Mc.nil,by simpa using Mc.nil⟩ ?_ ?_
 .rintro⟨v,c,f⟩ ⟨d,rfl,hd,h1,h2,h3,A,U⟩;rcases Ch d data.length with h|h
  .have hx:data[d]? = some data[d]:=Bt h;generalize data[d]=x at hx;have hxm:=Bv hx;obtain⟨b,b1,b2⟩:=Aso x.S (by have:=i.nm x hxm;omega);obtain⟨f1,f2⟩:=A4w hx;simp only[As (ω:(d:Int)<(data.length:Int)),Am,Bu rfl hx,Ad,b1];have bad:∀(u:¬Ak2 data d x),∃e:Bool⊕(List (ByteArray×Bool)×List (ByteArray×Bool)),(some (Sum.inr (Sum.inl false)):Option ((Int×List (ByteArray×Bool)×List (ByteArray×Bool))⊕(Bool⊕(List (ByteArray×Bool)×List (ByteArray×Bool)))))=some (.inr e)/\(match e with|.inl r=>r=false/\¬Ia data | .inr _=>Ia data) :=
    λu=>⟨.inl false,rfl,rfl,λhh=>u (hh.2.1 d x hx)⟩
   cases b with
   | false=>exact .inr (bad λhh=>by have:=b2.2 hh.2.2.2.2.1;cases this)
   | true=>
    simp only[bnt,Aq];cases g:E3 c x.S with
    | true=>simp only[Am,A.get g,Ad];refine .inr ⟨.inl false,rfl,rfl,λhh=>?_⟩;have:=hh.2.2.1;rw[f2]at this;exact Asp this ((A.2 _).1 g)
    | false=>
     simp only[Aq];by_cases l:x.V<0
     .simp only[As l,Am,Ad];exact .inr (bad λhh=>by have:=hh.1;omega)
     by_cases s:x.V>6
     .simp only[Ay l,As s,Am,Aq,Ad];exact .inr (bad λhh=>by have:=hh.2.1;omega)
     simp only[Ay l,Ay s,Aq,Ad];by_cases q:(x.O.length:Int)<1
     .simp only[As q,Am,Ad];exact .inr (bad λhh=>by have:=hh.2.2.1;omega)
     by_cases y:(x.O.length:Int)>8
     .simp only[Ay q,As y,Am,Aq,Ad];exact .inr (bad λhh=>by have:=hh.2.2.2.1;omega)
     simp only[Ay q,Ay y,Aq,Ad];obtain⟨z,J,z2⟩:=A4v i hx ω f _ U h3;rw[J,Ad]
     match z,z2 with
     | .inl r,z2=>obtain⟨rfl,z2⟩:=z2;refine .inr ⟨.inl false,rfl,rfl,λhh=>z2 ⟨(hh.2.1 d x hx).2.2.2.2.2,?_⟩⟩;have:=hh.2.2.2;rw[f1]at this;exact (nodup_append.1 this).1
     | .inr (v60,B),z2=>
      obtain⟨N,M,L⟩:=z2;have ht:=Da hx;have D:x.S ∉ (data.take d).map (·.S):=λhh=>by rw[(A.2 _).2 hh]at g;cases g
      have I:(data.take (d+1)).map (·.S)=(data.take d).map (·.S)++[x.S]:=(by rw[ht];simp);have G:(data.take (d+1)).flatMap K5=(data.take d).flatMap K5++K5 x:=(by rw[ht];simp[flatMap_append]);refine .inl ⟨(((d+1:Nat):Int),Gv c x.S true,B),by simp only[C9 h ω],⟨d+1,rfl,ω,?_,?_,?_,?_,?_⟩,ζ⟩
      .intro j R S k;rcases Ch j d with h'|h'
       .exact h1 j R h' k
       .have:j=d:=ω;subst this;rw[hx]at k;cases k;exact⟨ω,ω,ω,ω,b2.1 rfl,N⟩
      .rw[I];exact Asq h2 D
      .rw[G];exact M
      .rw[I];exact A.put _
      .rw[G];exact L
  .have:d=data.length:=ω;subst this;rw[Db]at h2 h3;exact .inr ⟨.inr (c,f),ψ,h12,λd x hx=>h1 d x (Eg hx) hx,h2,h3⟩
 .rintro (r|⟨o,o'⟩) i
  .obtain⟨rfl,i⟩:=i;exact⟨false,rfl,by simp[i]⟩
  .exact⟨true,rfl,by simpa using i⟩
theorem Afs (c:DSz data):∃b,Ud data=some b/\(b=true↔Ia data):=by obtain⟨b,h1,h2⟩:=A4x c;refine⟨b,?_,h2⟩;unfold Ud;rw[h1,Ad];cases b with| false=>rfl| true=>rfl
theorem SzD.args (h:SzD data) (hx:x∈data) (hy:y∈x.O) (ht:t∈y.R):Bz t<=1048576/\t.R.length<=1048576/\y.R.length<=1048576:=by have h1:=(h x hx).2 y hy;have h3:=Kb ht;have f:=Jx t;have c:=Lr t.R;have b:=Lr y.R;omega
def isV (σ:List Af) (k n:Int):Bool:=k==4&&decide (0<=n)&&decide (n<(σ.length:Int))
mutual
def Eb (σ:List Af):Af->Af
 | ⟨k,n,l⟩=>match (if isV σ k n then σ[n.toNat]? else none) with
  | some s=>s
  | none=>⟨k,n,Oz σ l⟩
def Oz (σ:List Af):List Af->List Af
 | []=>[]
 | x::xs=>Eb σ x::Oz σ xs
end
variable {t:Af} {σ:List Af}
theorem Ak3 (σ l:List Af):Oz σ l=l.map (Eb σ):=by induction l with| nil=>rfl| cons x xs ih=>simp only[Oz,ih,map_cons]
theorem Aft {k n:Int} (h:isV σ k n=true):∃s,σ[n.toNat]? = some s/\Ag σ n=some s/\s∈σ:=by simp only[isV,C3,Dt]at h;have b:n.toNat < σ.length:=ω;refine⟨σ[n.toNat],Bt b,?_,getElem_mem b⟩;unfold Ag;rw[Au ω,Bt b]
theorem Abg {s:Af} (h:isV σ t.G t.U=true) (b:σ[t.U.toNat]? = some s):Eb σ t=s:=by cases t;simp only[Eb]at *;simp[h,b]
theorem Afu (h:isV σ t.G t.U=false):Eb σ t=⟨t.G,t.U,t.R.map (Eb σ)⟩:=by cases t;simp only[Eb]at *;simp[h,Ak3]
mutual
theorem Asr:∀t:Af,Eb [] t=t
 | ⟨k,n,l⟩=>by
  have hv:isV [] k n=false:=by
   unfold isV
   by_cases h:0<=n
   .rw[Ay (by simp;omega:¬n<(([]:List Af).length:Int))];simp
   .rw[Ay h];simp
  simp only[Eb,hv,Ass l];rfl
theorem Ass:∀l:List Af,Oz [] l=l
 | []=>rfl
 | x::xs=>by simp only[Oz,Asr x,Ass xs]
end
mutual
theorem Ast (σ:List Af) (M:Nat) (hM:1<=M) (hσ:∀s∈σ,Bz s<=M):∀t:Af,Bz (Eb σ t)<=Bz t*M
 | ⟨k,n,l⟩=>by
  cases hv:isV σ k n with
  | true=>
   obtain⟨s,h1,_,h3⟩:=Aft hv
   rw[Abg (t:=⟨k,n,l⟩) hv h1]
   have:=hσ s h3
   have h2:=Vd ⟨k,n,l⟩
   calc Bz s<=1*M:=ω
    _<=_:=Nat.mul_le_mul_right M h2
  | false=>
   have:=Asu σ M hM hσ l
   simp only[Eb,hv,Bz]
   simp only[Bool.false_eq_true,if_false,Bz]
   rw[Nat.add_mul];omega
theorem Asu (σ:List Af) (M:Nat) (hM:1<=M) (hσ:∀s∈σ,Bz s<=M):∀l:List Af,Dn (Oz σ l)<=Dn l*M
 | []=>by simp[Oz,Dn]
 | x::xs=>by
  have h1:=Ast σ M hM hσ x
  have h2:=Asu σ M hM hσ xs
  simp only[Oz,Dn]
  rw[Nat.add_mul];omega
end
variable {t:Af} {b:Bool} {l:List Af} {data:List Ak} {r:List Bool} {j:Nat}
theorem Asv (σ:List Af) (t:Af):(bif t.G==(4:Int) then bif decide (t.U>=(0:Int)) then some (decide (t.U<(σ.length:Int))) else some false else some false)=some (isV σ t.G t.U):=by unfold isV;cases t.G==4 <;> simp;by_cases h:0<=t.U <;> simp[h]
theorem A4y:∀(k:Nat) (t:Af) (σ:List Af) (M:Nat),(∀s∈σ,Bz s<=M)->Bz t+M+1<=k->k<1099511627776->Qy k t σ=some (Eb σ t):=by
 intro k;induction k with
 | zero=>intro t σ M _ h;omega
 | succ k ih=>
  intro t σ M b h hk;have f:=Jx t;have c:=Lr t.R;rw[Qy];rw[show (show OB from bif t.G==(4:Int) then bif decide (t.U>=(0:Int)) then some (decide (t.U<(σ.length:Int))) else some false else some false)=some (isV σ t.G t.U) from Asv σ t,Ad];cases hv:isV σ t.G t.U with
  | true=>obtain⟨s,h1,h2,h3⟩:=Aft hv;have:=b s h3;simp only[Am,h2,Ad,Abg hv h1,ih s [] 0 ψ ω ω,Asr]
  | false=>
   rw[Afu hv];simp only[Aq];refine F3 t.R (λj=>((j:Int),(t.R.take j).map (Eb σ))) rfl ω ?_ ?_
   .intro j x hj hx h1 h2 h3;have:=Kb (Bv hx);simp only[h1,h2,h3,Am,Ad,ih x σ M b ω ω];rw[Ds ζ,Ad,Da hx];simp
   .intro h1;exact⟨t.R.map (Eb σ),ψ,rfl⟩
theorem A4z:∀(k:Nat) (t:Af),Bz t<=k->Bz t<1099511627776->Sj k t=some (Bz t:Int):=by
 intro k;induction k with
 | zero=>intro t h;have:=Vd t;omega
 | succ k ih=>
  intro t h ht;have b:=Jx t;have c:=Lr t.R;rw[Sj];refine F3 t.R (λj=>(1+(Dn (t.R.take j):Int),(j:Int))) rfl ω ?_ ?_
  .intro j x hj hx h1 h2 h3;have g:=Kb (Bv hx);have f:=Aky t.R (j+1);have e:Dn (t.R.take (j+1))=Dn (t.R.take j)+Bz x:=(by rw[Da hx,Afp];simp[Dn]);simp only[h1,h2,h3,Am,Ad,ih x ω ω];rw[show Ac (1+(Dn (t.R.take j):Int)+(Bz x:Int))=1+(Dn (t.R.take (j+1)):Int) by rw[e,Ac,Cj] <;> omega]
  .intro h1;exact⟨1+(Dn t.R:Int),ψ,by rw[b];simp⟩
theorem ξ {p:Prop} (h:p:=by rw[Ac,Cj]<;>omega):p:=h
theorem A40 (σ:List Af) (M:Nat) (D:1<=M) (q:M<=1048576) (z:∀s∈σ,Bz s<=M):∀(k:Nat) (t:Af),Bz t<=k->Bz t<=1048576 -> ∃v:Nat,Sk k t (σ.map λs=>(Bz s:Int))=some (v:Int)/\v<=Bz (Eb σ t)/\((v=Bz (Eb σ t))\/200<v):=by
 intro k;induction k with
 | zero=>intro t h;have:=Vd t;omega
 | succ k ih=>
  intro t h ht;have A:=Jx t;have y:=Lr t.R;have g:∀x,Bz x<=1048576->Bz (Eb σ x)<=1099511627776:=λx hx=>by have:=Ast σ M D z x;have:Bz x*M<=1048576*1048576:=Nat.mul_le_mul hx q;omega
  rw[Sk];rw[show (show OB from bif t.G==(4:Int) then bif decide (t.U>=(0:Int)) then some (decide (t.U<((σ.map λs=>(Bz s:Int)).length:Int))) else some false else some false)=some (isV σ t.G t.U) by rw[C6];exact Asv σ t,Ad];cases hv:isV σ t.G t.U with
  | true=>obtain⟨s,h1,h2,h3⟩:=Aft hv;have hi:Ag (σ.map λs=>(Bz s:Int)) t.U=some (Bz s:Int):=(by have:=Hf h2;rw[Bu (n:=t.U.toNat) ω];simp[h1]);simp only[Am,hi,Ad,Abg hv h1];exact⟨Bz s,rfl,Nat.le_refl _,.inl rfl⟩
  | false=>
   have u:=g t ht;rw[Afu hv]at u ⊢;simp only[Aq];have f:Bz ⟨t.G,t.U,t.R.map (Eb σ)⟩=1+Dn (t.R.map (Eb σ)):=(by simp only[Bz]);rw[f]at u ⊢;refine Xs (λv:Nat=>(v:Int)) (Ee (λ(n,i)=>∃j:Nat,i=j/\j<=t.R.length/\n=1+(Dn ((t.R.map (Eb σ)).take j):Int)) (λ(_,i)=>t.R.length-i.toNat) (λn=>∃v:Nat,n=v/\v<=1+Dn (t.R.map (Eb σ))/\(v=1+Dn (t.R.map (Eb σ))\/200<v)) ⟨0,rfl,ω,by simp[Dn]⟩ ?_ ?_)
   .rintro⟨n,i⟩ ⟨j,rfl,hj,l⟩;have l:n=_:=l;subst l;rcases Ch j t.R.length with h'|h'
    .have hx:t.R[j]? = some t.R[j]:=Bt h';generalize t.R[j]=x at hx;have G:=Kb (Bv hx);obtain⟨v,b,v2,v3⟩:=ih x ω ω;have c:(t.R.map (Eb σ))[j]? = some (Eb σ x):=(by simp[hx]);have e:Dn ((t.R.map (Eb σ)).take (j+1))=Dn ((t.R.map (Eb σ)).take j)+Bz (Eb σ x):=(by rw[Da c,Afp];simp[Dn]);have B:=Aky (t.R.map (Eb σ)) (j+1);have E:Ac (1+(Dn ((t.R.map (Eb σ)).take j):Int)+(v:Int))=((1+Dn ((t.R.map (Eb σ)).take j)+v:Nat):Int):=ξ;simp only[As (ω:(j:Int)<(t.R.length:Int)),Am,Bu rfl hx,Ad,b,C9 h' ω,E];by_cases hb:1+Dn ((t.R.map (Eb σ)).take j)+v>200
     .rw[As ω];exact .inr ⟨_,rfl,_,rfl,ω,.inr hb⟩
     .rw[Ay ω];refine .inl ⟨_,rfl,⟨j+1,rfl,ω,?_⟩,ζ⟩;have:v=Bz (Eb σ x):=ω;subst this;rw[e];omega
    .have:j=t.R.length:=ω;subst this;refine .inr ⟨_,by simp;rfl,1+Dn (t.R.map (Eb σ)),?_,ω,.inl rfl⟩;rw[Ih ψ];omega
   .rintro n ⟨v,rfl,b,v2⟩;exact⟨_,rfl,v,rfl,b,v2⟩
def Jh (data:List Ak) (t:Af) (c:Int):Option (List Af) := if t.G=5 then match Ag data t.U with
  | none=>none
  | some x=>if (t.R.length:Int)=x.V then match Ag x.O c with
    | none=>none
    | some y=>if (y.R.map (Eb t.R)).all (λa=>decide (Bz a<=200)) then some (y.R.map (Eb t.R)) else none else none else none
def okL (o:Option (List Af)):List Af×Bool:=match o with|none=>([],false) | some l=>(l,true)
def Szv (data:List Ak):Prop:=∀x∈data,∀y∈x.O,y.R.length<=6/\∀a∈y.R,Bz a<=200
theorem Ia.szv (h:Ia data):Szv data:=by
 intro x hx y hy;obtain⟨d,hd⟩:=Ht hx;have h1:=h.2.1 d x hd;obtain⟨_,c2,c3⟩:=h1.2.2.2.2.2 y hy;refine⟨c2,λa ha=>?_⟩;have:=G5.1 c3 a ha;unfold S3 at this;rw[Bool.or_eq_true]at this;rcases this with h'|h'
 .exact (Akz hd h1.2.1 h').2
 .simp only[C3,Dt]at h';exact h'.2
theorem Abh (A:Szv data) (t:Af) (ht:Bz t<=200) (c:Int):Va data t c=some (okL (Jh data t c)):=by
 have B:=Jx t;have q:=Lr t.R;unfold Va Jh;by_cases hk:t.G=5
 .simp only[H9 hk,Aq,Au hk];cases hx:Ag data t.U with
  | none=>
   rcases Abb hx with h|h
   .simp only[As h,Am,Ad,okL]
   .by_cases h':t.U<0
    .simp only[As h',Am,Ad,okL]
    .simp only[Ay h',As (show t.U>=(data.length:Int) from h),Am,Aq,Ad,okL]
  | some x=>
   obtain⟨a1,a2,_,hxm⟩:=Hf hx;simp only[Ay (ω:¬t.U<0),Ay (ω:¬t.U>=(data.length:Int)),Aq,Ad];by_cases hv:(t.R.length:Int)=x.V
   .simp only[H9 hv,Aq,Au hv];cases hy:Ag x.O c with
    | none=>
     rcases Abb hy with h|h
     .simp only[As h,Am,Ad,okL]
     .by_cases h':c<0
      .simp only[As h',Am,Ad,okL]
      .simp only[Ay h',As (show c>=(x.O.length:Int) from h),Am,Aq,Ad,okL]
    | some y=>
     obtain⟨b1,b2,_,i⟩:=Hf hy;obtain⟨G,b⟩:=A x hxm y i;simp only[Ay (ω:¬c<0),Ay (ω:¬c>=(x.O.length:Int)),Aq,Ad];rw[K2 (n:=t.R.length) (c:=t.R.length) rfl rfl ω ω ω,Ad];refine F3 t.R (λj=>((j:Int),((t.R.take j).map λs=>(Bz s:Int))++replicate (t.R.length-j) 0)) rfl ω ?_ ?_
     .intro j s hj g h1 h2 h3;have:=Kb (Bv g);obtain⟨m,D⟩:∃m,t.R.length-j=m+1:=⟨t.R.length-j-1,ω⟩;have E:t.R.length-(j+1)=m:=ω;have k:j=((t.R.take j).map λs=>(Bz s:Int)).length:=ζ;simp only[h1,h2,h3,Am,Ad,A4z 4000000 s ω ω,D,E,replicate_succ,Abd _ _ _ (j:Int) j rfl k,Abc _ _ _ _ (j:Int) j rfl k,Da g];simp
     .intro h1;refine⟨t.R.map λs=>(Bz s:Int),ψ,?_⟩;have l:∀s∈t.R,Bz s<=200:=λs g=>by have:=Kb g;omega
      refine (Aa9 (rt:=(y.R.map (Eb t.R),true)) (rf:=([],false)) y.R (λa=>decide (Bz (Eb t.R a)<=200)) (λj=>(j:Int)) rfl ω ?_ ?_).trans ?_
      .intro j a ha h1 h2 h3;have z:=b a (Bv ha);obtain⟨v,u,v2,v3⟩:=A40 t.R 200 ω ω l 4000000 a ω ω;simp only[h1,h2,h3,Am,Ad,u];by_cases hb:Bz (Eb t.R a)<=200
       .rw[As hb,Ay ω];exact⟨λ_=>rfl,λh=>by cases h⟩
       .rw[Ay hb,As ω];exact⟨nofun,λ_=>⟨_,rfl,rfl⟩⟩
      .intro h1;refine⟨.inr (),ψ,?_⟩;simp only;refine F3 y.R (λj=>((j:Int),(y.R.take j).map (Eb t.R))) rfl ω ?_ ?_
       .intro j a hj ha h1 h2 h3;have z:=b a (Bv ha);simp only[h1,h2,h3,Am,Ad,A4y 4000000 a t.R 200 l ω ω];rw[Ds ζ,Ad,Da ha];simp
       .intro h1;exact⟨y.R.map (Eb t.R),ψ,rfl⟩
      .rw[all_map];cases f:y.R.all ((λa=>decide (Bz a<=200)) ∘ Eb t.R) with| true=>rw[Au rfl];rw[show (y.R.all λa=>decide (Bz (Eb t.R a)<=200))=true from f];rfl| false=>rw[show (y.R.all λa=>decide (Bz (Eb t.R a)<=200))=false from f];rfl
   .simp only[Gx hv,Am,Ad,Ar hv,okL]
 .simp only[Gx hk,Am,Ad,Ar hk,okL]
theorem A41 (b:Szv data) (t:Af) (ht:Bz t<=200) (c:Int):Aei data t c=some (okL (Jh data t c)):=Abh b t ht c
theorem Pz {c:Int} (h:Jh data t c=some l) : ∃x y,t.G=5/\Ag data t.U=some x/\(t.R.length:Int)=x.V/\Ag x.O c=some y/\l=y.R.map (Eb t.R)/\∀a∈l,Bz a<=200:=by
 unfold Jh at h;by_cases hk:t.G=5
 .rw[Au hk]at h;cases hx:Ag data t.U with
  | none=>rw[hx]at h;cases h
  | some x=>
   rw[hx]at h;simp only at h;by_cases hv:(t.R.length:Int)=x.V
   .rw[Au hv]at h;cases hy:Ag x.O c with
    | none=>rw[hy]at h;cases h
    | some y=>
     rw[hy]at h;simp only at h;by_cases b:(y.R.map (Eb t.R)).all (λa=>decide (Bz a<=200))=true
     .rw[Au b]at h;cases h;refine⟨x,y,hk,rfl,hv,hy,rfl,λa ha=>?_⟩;have:=G5.1 b a ha;simpa using this
     .rw[Ar b]at h;cases h
   .rw[Ar hv]at h;cases h
 .rw[Ar hk]at h;cases h
def F7 (l:List Af) (r:List Bool):List Af:=((l.zip r).filter λp=>!p.2).map (·.1)
def Gy (data:List Ak) (t:Af) (c:Int):Option (List Af):=(Jh data t c).map λl=>F7 l (D3 data t.U c)
theorem Xw {c:Int} (h:Jh data t c=some l):(D3 data t.U c).length=l.length:=by obtain⟨x,y,_,hx,_,hy,rfl,_⟩:=Pz h;unfold D3;simp only[hx,hy,C6]
theorem Afv {a:Af} (h1:l[j]? = some a) (h2:r[j]? = some b):F7 (l.take (j+1)) (r.take (j+1))=F7 (l.take j) (r.take j)++bif b then [] else [a]:=by unfold F7;have f:=Eg h1;have c:=Eg h2;rw[Da h1,Da h2,zip_append ζ];cases b <;> simp
theorem Xx (l:List Af) (r:List Bool):(F7 l r).length<=l.length:=by unfold F7;rw[C6];refine Nat.le_trans (length_filter_le _ _) ?_;rw[length_zip];omega
theorem Afw (f:Szv data) (h:Mv data) (t:Af) (ht:Bz t<=200) (c:Int):Xf data t c=some (okL (Gy data t c)):=by
 unfold Xf Gy;rw[Abh f t ht c,Ad];cases hf:Jh data t c with
 | none=>rfl
 | some l=>
  have i:=Xw hf;obtain⟨x,y,_,hx,_,hy,q,_⟩:=Pz hf;obtain⟨g,_⟩:=f x (Hf hx).2.2.2 y (Hf hy).2.2.2;have k:l.length<=6:=(by rw[q];simpa using g);simp only[okL,bnt,Aq,Xv data t.U c h,Ad,Option.map_some];refine F3 (D3 data t.U c) (λj=>((j:Int),F7 (l.take j) ((D3 data t.U c).take j))) (by simp[F7]) ω ?_ ?_
  .intro j b hj hb h1 h2 h3;have ha:l[j]? = some l[j]:=Bt ω;generalize l[j]=a at ha;have s:=Xx (l.take j) ((D3 data t.U c).take j);have:(l.take j).length<=6:=ζ;simp only[h1,h2,h3,Am,Ad,Bu rfl ha,Afv ha hb];rw[Ds ζ];cases b <;> simp
  .intro h1;refine⟨F7 l (D3 data t.U c),?_,rfl⟩;simp only[h1];rw[Ih ω,Ih (Nat.le_refl _)];rfl
def I5 (r:List Bool):List Int:=(r.zipIdx.filter λp=>!p.1).map λp=>(p.2:Int)
theorem A42 (h:r[j]? = some b):(r.take (j+1)).zipIdx=(r.take j).zipIdx++[(b,j)]:=by have:=Eg h;rw[Da h,zipIdx_append];simp;omega
theorem Afx {c:Int} (h:Gy data t c=some l):(∀a∈l,Bz a<=200)/\∃x,Ag data t.U=some x/\0<=c/\c<x.O.length:=by unfold Gy at h;cases hf:Jh data t c with| none=>rw[hf]at h;cases h| some m=>rw[hf]at h;cases h;obtain⟨x,y,_,hx,_,hy,_,f⟩:=Pz hf;refine⟨λa ha=>?_,x,hx,(Hf hy).1,(Hf hy).2.1⟩;unfold F7 at ha;obtain⟨p,b,rfl⟩:=mem_map.1 ha;exact f _ (of_mem_zip (mem_filter.1 b).1).1
mutual
def Ca:Ai->Nat
 | ⟨_,l⟩=>1+Ck l
def Ck:List Ai->Nat
 | []=>0
 | x::xs=>Ca x+Ck xs
end
theorem Ep (t:Ai):Ca t=1+Ck t.K:=by cases t;simp only[Ca]
theorem Kc {l:List Ai} {a:Ai} (h:a∈l):Ca a<=Ck l:=by
 induction l with
 | nil=>cases h
 | cons x xs ih=>
  simp only[Ck];rcases F1.1 h with rfl|h
  .omega
  .have:=ih h;omega
theorem P1 (l:List Ai):l.length<=Ck l:=by induction l with| nil=>simp| cons x xs ih=>simp only[Ck,D8];have:=Ep x;omega
mutual
def Dj (data:List Ak):Ai->Af->Option Nat
 | ⟨n,kids⟩,t=>
  if t.G=6 then (if n=0 then Cy data kids t.R else none)
  else if t.G=7 then (if 0<=n/\n<=6/\kids.length=0 then some n.toNat else none)
  else if t.G=5 then (if n=0 then Fv data kids t else none)
  else if n=0/\kids.length=0 then some 0 else none
def Cy (data:List Ak):List Ai->List Af->Option Nat
 | [],[]=>some 0
 | i::is,t::ts=>(Dj data i t).bind λa=>(Cy data is ts).map (a + ·)
 | [],_::_=>none
 | _::_,[]=>none
def Fv (data:List Ak):List Ai->Af->Option Nat
 | [],_=>some 0
 | ⟨n,kids⟩::es,t=>(Gy data t n).bind λts=>(Cy data kids ts).bind λa=>(Fv data es t).map (1+a + ·)
end
variable {m n:Int} {data:List Ak} {d:Nat}
theorem Mw (data:List Ak) (i:Ai) (t:Af):Dj data i t=if t.G=6 then (if i.U=0 then Cy data i.K t.R else none) else if t.G=7 then (if 0<=i.U/\i.U<=6/\i.K.length=0 then some i.U.toNat else none) else if t.G=5 then (if i.U=0 then Fv data i.K t else none) else if i.U=0/\i.K.length=0 then some 0 else none:=by cases i;simp only[Dj]
theorem Ve (data:List Ak) (e:Ai) (es:List Ai) (t:Af):Fv data (e::es) t=(Gy data t e.U).bind λts=>(Cy data e.K ts).bind λa=>(Fv data es t).map (1+a + ·):=by cases e;simp only[Fv]
theorem N1 (data:List Ak) (i:Ai) (is:List Ai) (t:Af) (ts:List Af):Cy data (i::is) (t::ts)=(Dj data i t).bind λa=>(Cy data is ts).map (a + ·):=by simp only[Cy]
theorem Ak4 (data:List Ak):∀(is:List Ai) (ts:List Af),ts.length≠is.length->Cy data is ts=none
 | [],[],h=>absurd rfl h
 | i::is,t::ts,h=>by rw[N1,Ak4 data is ts (by simpa using h)];cases Dj data i t <;> rfl
 | [],_::_,_=>by simp only[Cy]
 | _::_,[],_=>by simp only[Cy]
theorem Vf (data:List Ak):∀(es:List Ai) (t:Af) (d:Nat),Fv data es t=some d->es.length<=d
 | [],_,_,_=>ψ
 | e::es,t,d,h=>by
  rw[Ve]at h;cases h1:Gy data t e.U with
  | none=>rw[h1]at h;cases h
  | some ts=>
   rw[h1,Ad]at h;cases h2:Cy data e.K ts with
   | none=>rw[h2]at h;cases h
   | some a=>rw[h2,Ad]at h;cases h3:Fv data es t with| none=>rw[h3]at h;cases h| some b=>rw[h3]at h;cases h;have:=Vf data es t b h3;simp only[D8];omega
def Jo (o:Option Nat):Int:=match o with|some d=>if d<=6 then (d:Int) else -1|none => -1
theorem Q6 (h:d<=6):Jo (some d)=d:=by simp[Jo,h]
theorem Ak5 (h:6<d):Jo (some d) = -1:=by simp only[Jo];rw[Ar ω]
theorem Ak6 (o:Option Nat):(Jo o = -1/\∀d,o=some d->6<d)\/∃d,o=some d/\d<=6/\Jo o=d:=by
 cases o with
 | none=>exact .inl ⟨rfl,λd h=>by cases h⟩
 | some d=>
  rcases Ch 6 d with h|h
  .exact .inl ⟨Ak5 h,λe b=>by cases b;exact h⟩
  .exact .inr ⟨d,rfl,h,Q6 h⟩
theorem Asw {o:Option Nat} (h:∀d,o=some d->6<d):Jo o = -1:=by cases o with| none=>rfl| some d=>exact Ak5 (h d rfl)
def Pr (p:Int×Bool) (o:Option Nat):Prop:=(p.2=true/\∃d:Nat,o=some d/\d<=6/\p.1=d)\/(p.2=false/\∀d,o=some d->6<d)
theorem N2 {α:Type} {l:List α} {j:Nat} {x:α} (h:l[j]? = some x):l.drop j=x::l.drop (j+1):=by have hj:=Eg h;rw[drop_eq_getElem_cons hj];rw[Bt hj]at h;rw[Eo h]
theorem A43 (L:Szv data) (M:Mv data):∀k:Nat, (∀(i:Ai) (t:Af),2*Ca i<=k->Ca i<=1048576->Bz t<=200->∃p,Sl k data t i=some p/\Pr p (Dj data i t)) /\ (∀(is:List Ai) (ts:List Af),2*Ck is+1<=k->Ck is<=1048576->(∀t∈ts,Bz t<=200)->∃p,Sp k data ts is=some p/\Pr p (Cy data is ts)):=by
 intro k;induction k with
 | zero=>exact⟨λi t h=>by have:=Ep i;omega,λis ts h=>ω⟩
 | succ k ih=>
  obtain⟨Y,I⟩:=ih;constructor
  .intro i t hk hi ht;have a7:=Ep i;have Z:=P1 i.K;rw[Sl,Mw];by_cases R:t.G=6
   .simp only[Ew R,Am,Au R];by_cases h0:i.U=0
    .simp only[H9 h0,Aq,Au h0];obtain⟨p,p1,p2⟩:=I i.K t.R ω ω (λa ha=>by have:=Kb ha;have:=Jx t;omega);rw[p1];exact⟨p,rfl,p2⟩
    .simp only[Gx h0,Am,Ar h0];exact⟨_,rfl,.inr ⟨rfl,λd h=>by cases h⟩⟩
   .simp only[C7 R,Aq,Ar R];by_cases N:t.G=7
    .simp only[Ew N,Am,Au N];by_cases a1:0<=i.U
     .by_cases a2:i.U<=6
      .by_cases a3:i.K.length=0
       .rw[As (show i.U>=0 from a1),As a2,Au ⟨a1,a2,a3⟩];exact⟨_,rfl,.inl ⟨by simp[a3],i.U.toNat,rfl,ω,ζ⟩⟩
       .rw[As (show i.U>=0 from a1),As a2,Ar (λh=>a3 h.2.2)];exact⟨_,rfl,.inr ⟨C7 ω,λd h=>by cases h⟩⟩
      .rw[As (show i.U>=0 from a1),Ay a2,Ar (λh=>a2 h.2.1)];exact⟨_,rfl,.inr ⟨rfl,λd h=>by cases h⟩⟩
     .rw[Ay (show ¬i.U>=0 from a1),Ar (λh=>a1 h.1)];exact⟨_,rfl,.inr ⟨rfl,λd h=>by cases h⟩⟩
    .simp only[C7 N,Aq,Ar N];by_cases U:t.G=5
     .simp only[Ew U,Am,Au U];by_cases h0:i.U=0
      .simp only[H9 h0,Aq,Au h0];have key:∀(m j acc:Nat),j+m=i.K.length->acc<=6->∃z,An (S:=(Int×Int)) (E:=((Int×Bool)⊕Int)) (λ(v8,v9)=>
         bif v9<(i.K.length:Int) then ((Ag i.K v9).bind λs=> (Xf data t s.U).bind λv12=> bif (!v12.2) then some (.inr (.inl (0,false))) else ((Sp k data v12.1 s.K).bind λB=> bif (!B.2) then some (.inr (.inl (0,false))) else (bif (Ac (v8+(Ac (1+B.1))))>(6:Int) then some (.inr (.inl (0,false))) else some (.inl ((Ac (v8+(Ac (1+B.1)))),(Ac (v9+1))))))) else some (.inr (.inr v8))) ((acc:Int),(j:Int))=some z/\(match z with|.inl p=>p=(0,false)/\∀d,(Fv data (i.K.drop j) t).map (acc + ·)=some d->6<d | .inr v=>∃d:Nat,(Fv data (i.K.drop j) t).map (acc + ·)=some d/\d<=6/\v=d):=by
        intro m;induction m with
        | zero=>intro j acc hj f;have:j=i.K.length:=ω;subst this;exact⟨.inr (acc:Int),Gn ψ,acc,by simp[Fv],f,rfl⟩
        | succ m x=>
         intro j acc hj f;have c:i.K[j]? = some i.K[j]:=Bt ω;generalize i.K[j]=e at c;have a6:=Kc (Bv c);have a8:=Ep e;rw[N2 c,Ve];cases hp:Gy data t e.U with
         | none=>refine⟨.inl (0,false),Gn ?_,rfl,λd h=>by simp at h⟩;simp only[As (ω:(j:Int)<(i.K.length:Int)),Am,Bu rfl c,Ad,Afw L M t ht e.U,hp,okL,Bool.not_false]
         | some ts=>
          obtain⟨q,G,g⟩:=I e.K ts ω ω (Afx hp).1;rcases g with⟨g,a,y,q4,X⟩|⟨g,y⟩
          .have V:Ac ((acc:Int)+Ac (1+q.1))=((acc+(1+a):Nat):Int):=(by rw[X,show Ac (1+(a:Int))=((1+a:Nat):Int) by rw[Ac,Cj] <;> omega,Ac,Cj] <;> omega);by_cases hb:acc+(1+a)<=6
           .obtain⟨z,l,z2⟩:=x (j+1) (acc+(1+a)) ω hb;refine⟨z,?_,?_⟩
            .rw[Lz (s':=(((acc+(1+a):Nat):Int),((j+1:Nat):Int)))]
             .exact l
             .simp only[As (ω:(j:Int)<(i.K.length:Int)),Am,Bu rfl c,Ad,Afw L M t ht e.U,hp,okL,bnt,Aq,G,g,V,Ay (ω:¬((acc+(1+a):Nat):Int)>6),C9 (show j<i.K.length by omega) ω]
            .have D:∀o:Option Nat,(((some a:Option Nat).bind λa=>o.map (1+a + ·)).map (acc + ·))=o.map (acc+(1+a) + ·):=(by intro o;cases o <;> simp[Nat.add_assoc]);rw[Ad,y,D];exact z2
           .refine⟨.inl (0,false),Gn ?_,rfl,λd h=>?_⟩
            .simp only[As (ω:(j:Int)<(i.K.length:Int)),Am,Bu rfl c,Ad,Afw L M t ht e.U,hp,okL,bnt,Aq,G,g,V,As (ω:((acc+(1+a):Nat):Int)>6)]
            .rw[Ad,y,Ad]at h;cases A:Fv data (i.K.drop (j+1)) t with| none=>rw[A]at h;cases h| some b=>rw[A]at h;simp at h;omega
          .refine⟨.inl (0,false),Gn ?_,rfl,λd h=>?_⟩
           .simp only[As (ω:(j:Int)<(i.K.length:Int)),Am,Bu rfl c,Ad,Afw L M t ht e.U,hp,okL,bnt,Aq,G,g,Bool.not_false]
           .rw[Ad]at h;cases ha:Cy data e.K ts with
            | none=>rw[ha]at h;cases h
            | some a=>rw[ha,Ad]at h;have:=y a ha;cases A:Fv data (i.K.drop (j+1)) t with| none=>rw[A]at h;cases h| some b=>rw[A]at h;simp at h;omega
       obtain⟨z,l,z2⟩:=key i.K.length 0 0 ω ω;have l:An _ ((0:Int),(0:Int))=some z:=l;rw[l,Ad];have D:∀o:Option Nat,o.map (0 + ·)=o:=(by intro o;cases o <;> simp);rw[drop_zero,D]at z2
       match z,z2 with| .inl p,z2=>exact⟨_,rfl,.inr ⟨by rw[z2.1],z2.2⟩⟩| .inr v,z2=>obtain⟨d,d1,d2,d3⟩:=z2;exact⟨_,rfl,.inl ⟨rfl,d,d1,d2,d3⟩⟩
      .simp only[Gx h0,Am,Ar h0];exact⟨_,rfl,.inr ⟨rfl,λd h=>by cases h⟩⟩
     .simp only[C7 U,Aq,Ar U];by_cases h0:i.U=0
      .simp only[Ew h0,Am];by_cases a3:i.K.length=0
       .rw[Au ⟨h0,a3⟩];exact⟨_,rfl,.inl ⟨by simp[a3],0,rfl,ω,rfl⟩⟩
       .rw[Ar (λh=>a3 h.2)];exact⟨_,rfl,.inr ⟨C7 ω,λd h=>by cases h⟩⟩
      .simp only[C7 h0,Aq];rw[Ar (λh=>h0 h.1)];exact⟨_,rfl,.inr ⟨rfl,λd h=>by cases h⟩⟩
  .intro is ts hk hi ht;have Z:=P1 is;rw[Sp];by_cases hl:ts.length=is.length
   .rw[H9 ω];simp only[Aq];have key:∀(m j acc:Nat),j+m=is.length->acc<=6*j->∃z,An (S:=(Int×Int)) (E:=((Int×Bool)⊕Int)) (λ(v5,J)=>
      bif J<(ts.length:Int) then ((Ag ts J).bind λv7=> (Ag is J).bind λv9=> (Sl k data v7 v9).bind λs=> bif (!s.2) then some (.inr (.inl (0,false))) else some (.inl ((Ac (v5+s.1)),(Ac (J+1))))) else some (.inr (.inr v5))) ((acc:Int),(j:Int))=some z/\(match z with|.inl p=>p=(0,false)/\∀d,(Cy data (is.drop j) (ts.drop j)).map (acc + ·)=some d->6<d | .inr v=>∃d:Nat,(Cy data (is.drop j) (ts.drop j)).map (acc + ·)=some d/\v=d):=by
     intro m;induction m with
     | zero=>intro j acc hj f;have:j=ts.length:=ω;subst this;refine⟨.inr (acc:Int),Gn ψ,acc,?_,rfl⟩;rw[drop_of_length_le ω,drop_of_length_le ω];simp[Cy]
     | succ m x=>
      intro j acc hj f;have c:is[j]? = some is[j]:=Bt ω;generalize is[j]=e at c;have hu:ts[j]? = some ts[j]:=Bt ω;generalize ts[j]=u at hu;have a6:=Kc (Bv c);rw[N2 c,N2 hu,N1];obtain⟨q,G,g⟩:=Y e u ω ω (ht u (Bv hu));rcases g with⟨g,a,y,q4,X⟩|⟨g,y⟩
      .have V:Ac ((acc:Int)+q.1)=((acc+a:Nat):Int):=(by rw[X,Ac,Cj] <;> omega);obtain⟨z,l,z2⟩:=x (j+1) (acc+a) ω ω;refine⟨z,?_,?_⟩
       .rw[Lz (s':=(((acc+a:Nat):Int),((j+1:Nat):Int)))]
        .exact l
        .simp only[As (ω:(j:Int)<(ts.length:Int)),Am,Bu rfl c,Bu rfl hu,Ad,bnt,Aq,G,g,V,C9 (show j<is.length by omega) ω]
       .have D:∀o:Option Nat,(((some a:Option Nat).bind λa=>o.map (a + ·)).map (acc + ·))=o.map (acc+a + ·):=(by intro o;cases o <;> simp[Nat.add_assoc]);rw[y,D];exact z2
      .refine⟨.inl (0,false),Gn ?_,rfl,λd h=>?_⟩
       .simp only[As (ω:(j:Int)<(ts.length:Int)),Am,Bu rfl c,Bu rfl hu,Ad,G,g,Bool.not_false]
       .cases ha:Dj data e u with
        | none=>rw[ha]at h;cases h
        | some a=>rw[ha,Ad]at h;have:=y a ha;cases A:Cy data (is.drop (j+1)) (ts.drop (j+1)) with| none=>rw[A]at h;cases h| some b=>rw[A]at h;simp at h;omega
    obtain⟨z,l,z2⟩:=key is.length 0 0 ω ω;have l:An _ ((0:Int),(0:Int))=some z:=l;rw[l,Ad];have D:∀o:Option Nat,o.map (0 + ·)=o:=(by intro o;cases o <;> simp);rw[drop_zero,drop_zero,D]at z2
    match z,z2 with
    | .inl p,z2=>exact⟨_,rfl,.inr ⟨by rw[z2.1],z2.2⟩⟩
    | .inr v,z2=>
     obtain⟨d,d1,d3⟩:=z2;by_cases hd:d<=6
     .exact⟨_,rfl,.inl ⟨As ω,d,d1,hd,d3⟩⟩
     .exact⟨_,rfl,.inr ⟨Ay ω,λe c=>by rw[d1]at c;cases c;omega⟩⟩
   .rw[Gx ω,Ak4 data is ts hl];exact⟨_,rfl,.inr ⟨rfl,λd h=>by cases h⟩⟩
theorem Ia.cons8 (h:Ia data):∀x∈data,x.O.length<=8:=by intro x hx;obtain⟨d,hd⟩:=Ht hx;exact (h.2.1 d x hd).2.2.2.1
def Ff (n:Int):Prop:= -9223372036854775808<=n/\n<=9223372036854775807
def ti (n:Int):List Int:=(Lib.itoa n).map λc=>(c.toNat:Int)
def Q7 (c:Int):Bool:=c==45||(decide (48<=c)&&decide (c<=57))
theorem Xy (h:d<10):(UInt8.ofNat (48+d)).toNat=48+d:=by rw[UInt8.toNat_ofNat'];omega
theorem Afy:∀(n u:Nat),u<=n->∀c∈Lib.decDigits u,48<=c.toNat/\c.toNat<=57:=by
 intro n;induction n with
 | zero=>intro u hu c hc;rw[Lib.decDigits,dif_pos ω]at hc;simp only[Et]at hc;subst hc;rw[Xy ω];omega
 | succ n ih=>
  intro u hu c hc;rw[Lib.decDigits]at hc;split at hc
  .simp only[Et]at hc;subst hc;rw[Xy ω];omega
  .rcases Ei.1 hc with h|h
   .exact ih (u / 10) ω c h
   .simp only[Et]at h;subst h;rw[Xy ω];omega
def Afz (l:List UInt8):Nat:=l.foldl (λa c=>10*a+(c.toNat-48)) 0
theorem Asx:∀(n u:Nat),u<=n->Afz (Lib.decDigits u)=u:=by
 intro n;induction n with
 | zero=>intro u hu;rw[Lib.decDigits,dif_pos ω];simp only[Afz,foldl_cons,foldl_nil];rw[Xy ω];omega
 | succ n ih=>
  intro u hu;rw[Lib.decDigits];split
  .simp only[Afz,foldl_cons,foldl_nil];rw[Xy ω];omega
  .have:=ih (u / 10) ω;unfold Afz at *;rw[foldl_append,this];simp only[foldl_cons,foldl_nil];rw[Xy ω];omega
theorem Asy {u v:Nat} (h:Lib.decDigits u=Lib.decDigits v):u=v:=by rw[<-Asx u u (Nat.le_refl _),h,Asx v v (Nat.le_refl _)]
theorem A44 (u:Nat):Lib.decDigits u≠[]:=by rw[Lib.decDigits];split <;> simp
theorem A45 (h:Lib.itoa m=Lib.itoa n):m=n:=by
 have b:∀u v:Nat,45::Lib.decDigits u≠Lib.decDigits v:=by intro u v e;have:=Afy v v (Nat.le_refl _) 45 (by rw[<-e];simp);exact absurd this δ
 unfold Lib.itoa at h;split at h <;> split at h
 .have:=Asy (List.cons.inj h).2;omega
 .exact absurd h (b _ _)
 .exact absurd h.symm (b _ _)
 .have:=Asy h;omega
theorem Ji (n:Int):∀c∈ti n,Q7 c=true:=by
 intro c hc;unfold ti at hc;obtain⟨b,hb,rfl⟩:=mem_map.1 hc;have key:b=45\/(48<=b.toNat/\b.toNat<=57):=by
  unfold Lib.itoa at hb;split at hb
  .rcases F1.1 hb with h|h
   .exact .inl h
   .exact .inr (Afy _ _ (Nat.le_refl _) b h)
  .exact .inr (Afy _ _ (Nat.le_refl _) b hb)
 unfold Q7;rcases key with rfl|⟨h1,h2⟩
 .decide
 .rw[Bool.or_eq_true,C3,Dt,Dt];right;omega
theorem Af0 (n:Int):ti n≠[]:=by
 unfold ti Lib.itoa;split
 .simp
 .simpa using A44 _
theorem Vg (h:ti m=ti n):m=n:=by
 unfold ti at h;have:∀l m:List UInt8,l.map (λc=>(c.toNat:Int))=m.map (λc=>(c.toNat:Int))->l=m:=by
  intro l;induction l with
  | nil=>intro m h;cases m with|nil=>rfl|cons=>simp at h
  | cons x xs ih=>intro m h;cases m with| nil=>simp at h| cons y ys=>simp only[map_cons,List.cons.injEq]at h;rw[ih ys h.2,UInt8.toNat.inj (ω:x.toNat=y.toNat)]
 exact A45 (this _ _ h)
theorem O0 (h:Ff n):(ti n).length<=21:=by unfold ti;rw[C6];exact Lib.itoa_length_le n h.1 h.2
def S4 (X:List Int):Prop:=∀c m,X=c::m->Q7 c=false/\c≠40
def Mx (X:List Int):Prop:=∀c m,X=c::m->Q7 c=false
theorem Q8:∀(a b X Y:List Int),(∀c∈a,Q7 c=true)->(∀c∈b,Q7 c=true)->Mx X->Mx Y->a++X=b++Y->a=b/\X=Y
 | [],[],_,_,_,_,_,_,h=>⟨rfl,h⟩
 | [],y::b,X,Y,_,hb,g,_,h=>by have:=g y (b++Y) h;rw[hb y ψ]at this;cases this
 | x::a,[],X,Y,ha,_,_,f,h=>by have:=f x (a++X) h.symm;rw[ha x ψ]at this;cases this
 | x::a,y::b,X,Y,ha,hb,g,f,h=>by simp only[Ed,List.cons.injEq]at h;obtain⟨j,i⟩:=Q8 a b X Y (λc hc=>ha c (by simp[hc])) (λc hc=>hb c (by simp[hc])) g f h.2;exact⟨by rw[h.1,j],i⟩
mutual
def wx:Ai->List Int
 | ⟨n,kids⟩=>ti n++(if kids.length=0 then [] else 40::(wxs kids++[41]))
def wxs:List Ai->List Int
 | []=>[]
 | x::xs=>wx x++44::wxs xs
end
theorem Af1 (i:Ai):wx i=ti i.U++(if i.K.length=0 then [] else 40::(wxs i.K++[41])):=by cases i;simp only[wx]
theorem Asz (l m:List Ai):wxs (l++m)=wxs l++wxs m:=by induction l with| nil=>simp[wxs]| cons x xs ih=>simp only[Ed,wxs,ih,append_assoc]
theorem As0 (b:List Ai) (X:List Int) (f:S4 X):Mx ((if b.length=0 then [] else 40::(wxs b++[41]))++X):=by
 intro c m h;by_cases hk:b.length=0
 .rw[Au hk,nil_append]at h;exact (f c m h).1
 .rw[Ar hk,Ed]at h;cases h;decide
theorem As1 (X:List Int):S4 (44::X):=by intro c m h;cases h;exact⟨δ,δ⟩
theorem Af2:S4 []:=by intro c m h;cases h
mutual
theorem Af3:∀(i j:Ai) (X Y:List Int),S4 X->S4 Y->wx i++X=wx j++Y->i=j/\X=Y
 | ⟨n,k⟩,⟨n',k'⟩,X,Y,hX,hY,h=>by
  simp only[wx,append_assoc]at h
  obtain⟨e1,e2⟩:=Q8 _ _ _ _ (Ji n) (Ji n') (As0 k X hX) (As0 k' Y hY) h
  have e1:=Vg e1
  subst e1
  by_cases hk:k.length=0
  .by_cases hk':k'.length=0
   .rw[Au hk,Au hk']at e2
    rw[Fu.1 hk,Fu.1 hk']
    exact⟨rfl,e2⟩
   .rw[Au hk,Ar hk',nil_append,Ed]at e2
    exact absurd rfl (hX _ _ e2).2
  .by_cases hk':k'.length=0
   .rw[Ar hk,Au hk',nil_append,Ed]at e2
    exact absurd rfl (hY _ _ e2.symm).2
   .rw[Ar hk,Ar hk',Ed,Ed,append_assoc,append_assoc]at e2
    obtain⟨e3,e4⟩:=As2 k k' X Y hX hY (List.cons.inj e2).2
    rw[e3];exact⟨rfl,e4⟩
theorem As2:∀(l m:List Ai) (X Y:List Int),S4 X->S4 Y->wxs l++([41]++X)=wxs m++([41]++Y)->l=m/\X=Y
 | [],[],X,Y,_,_,h=>by
  simp only[wxs,nil_append,Ed,List.cons.injEq,true_and]at h
  exact⟨rfl,h⟩
 | [],y::ys,X,Y,_,_,h=>by
  exfalso
  cases ht:ti y.U with
  | nil=>exact Af0 _ ht
  | cons c r=>
   have hc:=Ji y.U c (by rw[ht];simp)
   simp only[wxs,Af1 y,ht,nil_append,Ed,List.cons.injEq]at h
   rw[<-h.1]at hc;exact absurd hc δ
 | x::xs,[],X,Y,_,_,h=>by
  exfalso
  cases ht:ti x.U with
  | nil=>exact Af0 _ ht
  | cons c r=>
   have hc:=Ji x.U c (by rw[ht];simp)
   simp only[wxs,Af1 x,ht,nil_append,Ed,List.cons.injEq]at h
   rw[h.1]at hc;exact absurd hc δ
 | x::xs,y::ys,X,Y,hX,hY,h=>by
  simp only[wxs,append_assoc,Ed]at h
  obtain⟨e1,e2⟩:=Af3 x y _ _ (As1 _) (As1 _) h
  obtain⟨e3,e4⟩:=As2 xs ys X Y hX hY (by simpa using e2)
  exact⟨by rw[e1,e3],e4⟩
end
mutual
def iR:Ai->Prop
 | ⟨n,l⟩=>Ff n/\E8 l
def E8:List Ai->Prop
 | []=>True
 | x::xs=>iR x/\E8 xs
end
theorem P3 (i:Ai):iR i↔Ff i.U/\E8 i.K:=by cases i;simp only[iR]
theorem Ak7 {l:List Ai} (h:E8 l) {a:Ai} (ha:a∈l):iR a:=by
 induction l with
 | nil=>cases ha
 | cons x xs ih=>
  simp only[E8]at h;rcases F1.1 ha with rfl|ha
  .exact h.1
  .exact ih h.2 ha
mutual
theorem Ak8:∀i:Ai,iR i->(wx i).length+1<=24*Ca i
 | ⟨n,l⟩,h=>by
  simp only[iR]at h
  have h1:=Af4 l h.2
  have h2:=O0 h.1
  simp only[wx,Ca,E5]
  by_cases hl:l.length=0
  .rw[Au hl];simp;omega
  .rw[Ar hl];simp;omega
theorem Af4:∀l:List Ai,E8 l->(wxs l).length<=24*Ck l
 | [],_=>by simp[wxs,Ck]
 | x::xs,h=>by
  simp only[E8]at h
  have h1:=Ak8 x h.1
  have h2:=Af4 xs h.2
  have h3:=Ep x
  simp only[wxs,Ck,E5,D8];omega
end
theorem Vh (l m:List Ai):Ck (l++m)=Ck l+Ck m:=by induction l with| nil=>simp[Ck]| cons x xs ih=>simp only[Ed,Ck,ih];omega
theorem Ak9 (l m:List Ai):E8 (l++m)↔E8 l/\E8 m:=by induction l with| nil=>simp[E8]| cons x xs ih=>simp only[Ed,E8,ih,and_assoc]
theorem Ala {n:Int} (h:Ff n):Qh n=some ⟨(Lib.itoa n).toArray⟩:=by unfold Qh;rw[Au (show _/\_ from h)]
theorem A46 (n:Int):On ⟨(Lib.itoa n).toArray⟩=ti n:=by unfold On ti;simp
theorem As3:∀(k:Nat) (i:Ai) (b:List Int),Ca i<=k->iR i->b.length+24*Ca i<=1099511627776->Po k i b=some (b++wx i):=by
 intro k;induction k with
 | zero=>intro i b h;have:=Ep i;omega
 | succ k ih=>
  intro i b h c hb;have hi:=Ep i;have z:=P1 i.K;have c:=(P3 i).1 c;have B:=O0 c.1;rw[Po,Af1];simp only[Jd,Ala c.1,Ad,Hm,Xl,A46];rw[Ds ω];simp only[Ad];by_cases h0:i.K.length=0
  .rw[Ay ω,Au h0];simp
  .rw[As ω,Ar h0];simp only[Am,Nu,Xl,Ad];rw[Ds ζ,Ad];have g:=Af4 i.K c.2;have l:∀j,(wxs (i.K.take j)).length<=24*Ck i.K:=λj=>by have:=Asz (i.K.take j) (i.K.drop j);rw[take_append_drop]at this;rw[this,E5]at g;omega
   refine F3 i.K (λj=>((j:Int),b++ti i.U++[40]++wxs (i.K.take j))) (by simp[wxs]) ω ?_ ?_
   .intro j x hj hx h1 h2 h3;have A:=Kc (Bv hx);have f:=Ak7 c.2 (Bv hx);have y:=Ak8 x f;have hh:=l (j+1);have e:wxs (i.K.take (j+1))=wxs (i.K.take j)++(wx x++[44]):=(by rw[Da hx,Asz];simp[wxs]);rw[e]at hh;simp only[E5,D8,length_nil]at hh;simp only[h1,h2,h3,Am,Ad];have u:Ck (i.K.take j)+Ca x<=Ck i.K:=(by have q:=Vh (i.K.take (j+1)) (i.K.drop (j+1));rw[take_append_drop,Da hx,Vh]at q;simp only[Ck]at q;omega);have s:(wxs (i.K.take j)).length<=24*Ck (i.K.take j):=Af4 _ (by have:=(Ak9 (i.K.take j) (i.K.drop j)).1 (by rw[take_append_drop];exact c.2);exact this.1);rw[ih x _ ω f ζ];simp only[Ad];rw[Ds ζ,e];simp
   .intro h1;refine⟨b++ti i.U++[40]++wxs i.K,ψ,?_⟩;rw[Ds ζ];simp
def K6 (v:Int) (i:Ai):List Int:=118::(ti v++58::wx i)
def P4 (v:Int) (i:Ai):ByteArray:=⟨(Fh (K6 v i)).toArray⟩
mutual
theorem Alb:∀i:Ai,∀c∈wx i,0<=c/\c<256
 | ⟨n,l⟩,c,h=>by
  simp only[wx,Ei]at h
  rcases h with h|h
  .have:=Ji n c h
   simp only[Q7,Bool.or_eq_true,C3,beq_iff_eq,Dt]at this
   omega
  .by_cases hl:l.length=0
   .rw[Au hl]at h;cases h
   .rw[Ar hl]at h
    simp only[F1,Ei,not_mem_nil,or_false]at h
    rcases h with h|h|h
    .omega
    .exact As4 l c h
    .omega
theorem As4:∀l:List Ai,∀c∈wxs l,0<=c/\c<256
 | [],c,h=>by simp[wxs]at h
 | x::xs,c,h=>by
  simp only[wxs,Ei,F1]at h
  rcases h with h|h|h
  .exact Alb x c h
  .omega
  .exact As4 xs c h
end
theorem Af5 (v:Int) (i:Ai):∀c∈K6 v i,0<=c/\c<256:=by
 intro c h;simp only[K6,F1,Ei]at h;rcases h with h|h|h|h
 .omega
 .have:=Ji v c h;simp only[Q7,Bool.or_eq_true,C3,beq_iff_eq,Dt]at this;omega
 .omega
 .exact Alb i c h
theorem Alc:∀l m:List Int,(∀c∈l,0<=c/\c<256)->(∀c∈m,0<=c/\c<256)->Fh l=Fh m->l=m
 | [],[],_,_,_=>rfl
 | [],_::_,_,_,h=>by simp[Fh]at h
 | _::_,[],_,_,h=>by simp[Fh]at h
 | x::xs,y::ys,h1,h2,h=>by simp only[Fh,map_cons,List.cons.injEq]at h;have hx:=h1 x ψ;have hy:=h2 y ψ;have e:x.toNat=y.toNat:=(by have:=congrArg UInt8.toNat h.1;rw[UInt8.toNat_ofNat',UInt8.toNat_ofNat']at this;omega);rw[Alc xs ys (λc hc=>h1 c (by simp[hc])) (λc hc=>h2 c (by simp[hc])) h.2,show x=y by omega]
theorem A47 {v w:Int} {i j:Ai} (h:P4 v i=P4 w j):v=w/\i=j:=by
 unfold P4 at h;have h1:(Fh (K6 v i)).toArray=(Fh (K6 w j)).toArray:=by injection h
 have h2:Fh (K6 v i)=Fh (K6 w j):=by simpa using congrArg Array.toList h1
 have h3:=Alc _ _ (Af5 v i) (Af5 w j) h2;simp only[K6,List.cons.injEq,true_and]at h3;have b:∀X:List Int,Mx (58::X):=λX c m e=>by cases e;decide
 obtain⟨k,g⟩:=Q8 _ _ _ _ (Ji v) (Ji w) (b _) (b _) h3;obtain⟨f,_⟩:=Af3 i j [] [] Af2 Af2 (by simpa using (List.cons.inj g).2);exact⟨Vg k,f⟩
theorem A48 (l:List UInt8):On ⟨l.toArray⟩=l.map λb=>(b.toNat:Int):=by unfold On;simp
theorem Af6 (v:Int) (i:Ai) (hv:Ff v) (f:iR i) (hi:Ca i<=1048576):Kz v i=some (P4 v i):=by
 have k:=O0 hv;have c:(Lib.itoa v).length=(ti v).length:=by unfold ti;simp
 unfold Kz;have j:Gu (ByteArray.mk #[118]) ⟨(Lib.itoa v).toArray⟩=some ⟨(118::Lib.itoa v).toArray⟩:=by
  unfold Gu;rw[Au]
  .congr 1
  .show 1+(Lib.itoa v).toArray.size<=9223372036854775807;rw[size_toArray];omega
 have h:Gu ⟨(118::Lib.itoa v).toArray⟩ (ByteArray.mk #[58])=some ⟨(118::(Lib.itoa v++[58])).toArray⟩:=by
  unfold Gu;rw[Au]
  .congr 1
  .show (118::Lib.itoa v).toArray.size+1<=9223372036854775807;rw[size_toArray,D8];omega
 simp only[Jd,Ala hv,Ad,j,h,Jv,Aad,A48];rw[Ds ζ];simp only[Ad];rw[As3 4000000 i _ ω f ζ];simp only[Ad,L7];have g:([]++(118::(Lib.itoa v++[58])).map λb=>(b.toNat:Int))++wx i=K6 v i:=by unfold K6 ti;simp
 rw[g];unfold Y6 P4;rw[Au (Af5 v i)];rfl
end Go.Ab
