/- Plain laws. -/
import Derived.Test.YtgfjdimemmhmeaaGreatDoorMuDef
open List
namespace Go.Ab
open Go
variable{i:Nat}{E R S:Type}{α:Type _}{J:E->Ο R}{l s t:Λ α}{X:Ο (S⊕E)}{a b e:α}
theorem Ac{α β:Type}(a:α)(f:α->Ο β):(some a).bind f=f a:=rfl
theorem Bi{α:Type}{l:Λ α}(h:i<l.length):l[i]?=some l[i]:=getElem?_eq_getElem h
theorem Bm{α:Type}{l:Λ α}{a:α}(h:l[i]?=some a):a∈l:=mem_of_getElem? h
theorem Ec(a b:Bool):((a&&b)=true)=(a=true/\b=true):=Bool.and_eq_true a b
theorem Fc:(!true)=false:=rfl
theorem Ak(a b:α):(bif true then a else b)=a:=rfl
theorem Al(a b:α):(bif false then a else b)=b:=rfl
theorem Es{p:Prop}[Decidable p]:(decide p=true)=p:=decide_eq_true_eq
theorem As{c:Prop}{h:Decidable c}(g:¬c){t:α}:(if c then t else e)=e:=if_neg g
theorem Av{c:Prop}{h:Decidable c}(g:c){t:α}:(if c then t else e)=t:=if_pos g
theorem Cj(a b:Nat):a<b\/a>=b:=Nat.lt_or_ge a b
theorem Dh:l.take l.length=l:=take_length
theorem Hs(h:l.length<=i):l.take i=l:=take_of_length_le h
theorem F5:l.length=0↔l=[]:=length_eq_zero_iff
theorem Gl(h:a∈l):∃i:Nat,l[i]?=some a:=getElem?_of_mem h
theorem Jq{p:α->Bool}:l.all p=true↔∀x,x∈l->p x=true:=all_eq_true
theorem Ea:a∈s++t↔a∈s\/a∈t:=mem_append
theorem C3{β:Type _}(f:α->β):(l.map f).length=l.length:=length_map f
theorem E6(h:some a=some b):a=b:=Option.some.inj h
theorem Fd:a::s++t=a::(s++t):=rfl
theorem Fh:a∈[b]↔a=b:=mem_singleton
theorem En:a∈b::l↔a=b\/a∈l:=mem_cons
theorem Eo:(a::l).length=l.length+1:=rfl
theorem Fe:(s++t).length=s.length+t.length:=length_append
theorem Wv(h:l.length<=i):l[i]?=none:=getElem?_eq_none h
theorem Ka{step:S->Ο (S⊕E)}{s:S}{r:R}(c:S->Prop)(m:S->Nat)(b:E->Prop)(h0:c s)(f:∀s,c s->(∃h,step s=some (.inl h)/\c h/\m h < m s)\/(∃e,step s=some (.inr e)/\b e))(g:∀e,b e->J e=some r):(Am step s).bind J=some r:=by obtain⟨e,q,u⟩:=Kf c m b f s h0;rw[q];exact g e u
theorem Ft{step:S->Ο (S⊕E)}{s:S}{Q:R->Prop}(c:S->Prop)(m:S->Nat)(b:E->Prop)(h0:c s)(f:∀s,c s->(∃h,step s=some (.inl h)/\c h/\m h < m s)\/(∃e,step s=some (.inr e)/\b e))(g:∀e,b e->∃r,J e=some r/\Q r):∃r,(Am step s).bind J=some r/\Q r:=by obtain⟨e,q,u⟩:=Kf c m b f s h0;rw[q];exact g e u
theorem Aho{Q:S->Prop}(h:∃r,X=some r/\∃g,r=.inl g/\Q g):∃g,X=some (.inl g)/\Q g:=by obtain⟨r,q,g,rfl,u⟩:=h;exact⟨g,q,u⟩
theorem A59{Q:E->Prop}(h:∃r,X=some r/\∃e,r=.inr e/\Q e):∃e,X=some (.inr e)/\Q e:=by obtain⟨r,g,q,rfl,u⟩:=h;exact⟨q,g,u⟩
theorem Adb{A:Type}{X:Ο R}(f:A->R){Q:A->Prop}(h:∃r,X=some r/\∃a,r=f a/\Q a):∃a,X=some (f a)/\Q a:=by obtain⟨r,g,a,rfl,q⟩:=h;exact⟨a,g,q⟩
variable{a b i:Int}{n:Nat}{p:Prop}{α:Type}{l:Λ α}
theorem A6a{A R:Type}{X:Ο A}{f g:A->Ο R}(h:∀a,f a=g a):X.bind f=X.bind g:=by have:f=g:=funext h;rw[this]
theorem Am1{β:Type}{c:Prop}[Decidable c](a b:Ο α)(f:α->Ο β):(if c then a else b).bind f=if c then a.bind f else b.bind f:=by split<;>rfl
theorem Bz{n:Int}(g : -9223372036854775808<=n)(h:n<=9223372036854775807):IntKind.i64.wrap n=n:=by(have e:IntKind.i64.wrap n=if 9223372036854775808<=n%18446744073709551616 then n%18446744073709551616-18446744073709551616 else n%18446744073709551616:=by simp[IntKind.wrap,IntKind.bits,IntKind.signed]);rw[e];split<;>omega
theorem D7{n:Int}(g:0<=n)(h:n<=18446744073709551615):IntKind.u64.wrap n=n:=by(have e:IntKind.u64.wrap n=n%18446744073709551616:=by simp[IntKind.wrap,IntKind.bits,IntKind.signed]);rw[e];omega
theorem Ht{n:Int}(g:0<=n)(h:n<=4294967295):IntKind.u32.wrap n=n:=by(have e:IntKind.u32.wrap n=n%4294967296:=by simp[IntKind.wrap,IntKind.bits,IntKind.signed]);rw[e];omega
theorem E7(hi:i=n)(h:n<l.length):Ag l i=some l[n]:=by subst hi;simp[Ag,h]
theorem Bq{x:α}(hi:i=n)(h:l[n]?=some x):Ag l i=some x:=by subst hi;simp[Ag,h]
theorem Gw(hi:i=n)(x:α):Cl l i x=l.set n x:=by subst hi;simp[Cl]
theorem Dj{b:Nat}{xs ys:Λ α}(h:(xs.length+ys.length)*b<=140737488355328):B5 b xs ys=some (xs++ys):=by simp[B5,h]
theorem Mj{b:Nat}{len f:Int}{z:α}{c:Nat}(q:len=n)(u:f=c)(A:n<=c)(g:b*c<=281474976710656)(h:c<=140737488355328):Hi b len f z=some (replicate n z):=by subst q;subst u;have B:(0:Int)<=(n:Int):=ω;have v:(n:Int)<=(c:Int):=ω;have w:(c:Int)<=140737488355328:=ω;simp[Hi,v,w,g]
theorem Am2{b:Nat}{f:Int}{z:α}{c:Nat}(q:f=c)(h:b*c<=281474976710656)(g:c<=140737488355328):Hi b 0 f z=some []:=by exact Mj (len:=0) (n:=0) (c:=c) rfl q ω h g
theorem Cx(h:a≠b):(a==b)=false:=by simpa using h
theorem Ew(h:a=b):(a==b)=true:=by simpa using h
theorem Ep(h:a≠b):(a != b)=true:=by simpa using h
theorem Et(h:a=b):(a != b)=false:=by simpa using h
theorem An[Decidable p](h:p):decide p=true:=decide_eq_true h
theorem Au[Decidable p](h:¬p):decide p=false:=decide_eq_false h
theorem Ww{hi:Int}(h:hi=n)(g:n<=l.length):Fb l 0 hi=some (l.take n):=by subst h;have:(n:Int)<=(l.length:Int):=ω;simp[Fb,this]
theorem M5(g:0<=a)(hb:0<b):I4 a b=some (a%b):=by have:b≠0:=ω;simp[I4,this,Int.tmod_eq_emod_of_nonneg g]
theorem Nr(g:0<=a)(c:a<=18446744073709551615)(hb:0<b):Hj .u64 a b=some (a/b):=by have:b≠0:=ω;have h:0<=a/b:=Int.ediv_nonneg g ω;have q:a/b<=a:=Int.ediv_le_self _ g;simp[Hj,this,Int.tdiv_eq_ediv_of_nonneg g];exact D7 h ω
theorem Am3(g:0<=a)(c:a<=4294967295)(hb:0<b):Hj .u32 a b=some (a/b):=by have:b≠0:=ω;have h:0<=a/b:=Int.ediv_nonneg g ω;have q:a/b<=a:=Int.ediv_le_self _ g;simp[Hj,this,Int.tdiv_eq_ediv_of_nonneg g];exact Ht h ω
def Ar:Ae->Int
 |[]=>0
 |d::l=>d+1000000000*Ar l
def Cm(l:Ae):Prop:=∀d∈l,0<=d/\d<1000000000
def Od(l:Ae):Prop:=∀d∈l,0<=d/\d<4294967296
def Can(l:Ae):Prop:=Cm l/\∀h:l≠[],l.getLast h≠0
def Ai(n:Nat):Ae:=if h:n=0 then[]else((n%1000000000:Nat):Int)::Ai (n/1000000000)
termination_by n
decreasing_by exact Nat.div_lt_self ω δ
theorem Hz:Ai 0=[]:=by rw[Ai];simp
theorem Po(h:n≠0):Ai n=((n%1000000000:Nat):Int)::Ai (n/1000000000):=by rw[Ai];simp[h]
theorem Cm.nil:Cm []:=λ_ h=>by cases h
theorem Cm.append{l m:Ae}(h:Cm l)(h':Cm m):Cm (l++m):=by intro d hd;rcases Ea.1 hd with hd|hd;exact h d hd;exact h' d hd
variable{d:Int}{l:Ae}{i n:Nat}
theorem Cm.one(h:0<=d)(h':d<1000000000):Cm [d]:=by intro x hx;simp at hx;subst hx;exact⟨h,h'⟩
theorem Cm.snoc(h:Cm l)(hd:0<=d)(b:d<1000000000):Cm (l++[d]):=h.append (Cm.one hd b)
theorem Cm.take(h:Cm l)(k:Nat):Cm (l.take k):=λd hd=>h d (mem_of_mem_take hd)
theorem Cm.drop(h:Cm l)(k:Nat):Cm (l.drop k):=λd hd=>h d (mem_of_mem_drop hd)
theorem Cm.get(h:Cm l)(hi:i<l.length):0<=l[i]/\l[i]<1000000000:=h _ (getElem_mem hi)
theorem Cm.set(h:Cm l)(i:Nat)(hd:0<=d)(b:d<1000000000):Cm (l.set i d):=by intro x hx;rcases mem_or_eq_of_mem_set hx with hx|rfl;exact h x hx;exact⟨hd,b⟩
theorem Cm.replicate(n:Nat):Cm (replicate n 0):=by intro d hd;have:=eq_of_mem_replicate hd;subst this;decide
theorem Cm.tail(h:Cm (d::l)):Cm l:=λx hx=>h x (by simp[hx])
theorem Cm.u32(h:Cm l):Od l:=λd hd=>by have:=h d hd;omega
theorem Aup(l m:Ae):Ar (l++m)=Ar l+1000000000^l.length*Ar m:=by induction l with|nil=>simp[Ar]|cons d l ih=>simp only[Fd,Ar,ih,Eo,Int.pow_succ];grind
theorem M6(l:Ae)(d:Int):Ar (l++[d])=Ar l+1000000000^l.length*d:=by rw[Aup];simp[Ar]
theorem Hu(l:Ae){k:Nat}(h:k<l.length):Ar (l.take (k+1))=Ar (l.take k)+1000000000^k*l[k]:=by rw[take_succ_eq_append_getElem h,M6];simp[Nat.min_eq_left (Nat.le_of_lt h)]
theorem Ahp(n:Nat):Ar (replicate n 0)=0:=by induction n with|zero=>rfl|succ n ih=>simp[replicate_succ,Ar,ih]
theorem Qt(l:Ae)(k:Nat)(h:k<=l.length):Ar l=Ar (l.take k)+1000000000^k*Ar (l.drop k):=by have e:=Aup (l.take k) (l.drop k);rw[take_append_drop]at e;rw[e,length_take,Nat.min_eq_left h]
theorem Oe(l:Ae)(h:i<l.length)(d:Int):Ar (l.set i d)=Ar l+1000000000^i*(d-l[i]):=by induction l generalizing i with|nil=>simp at h|cons x l ih=>cases i with|zero=>simp[Ar];omega|succ i=>have g:i<l.length:=(by simpa using h);simp only[set_cons_succ,Ar,ih g,getElem_cons_succ,Int.pow_succ];grind
theorem Iz(h:Od l):0<=Ar l:=by induction l with|nil=>simp[Ar]|cons d l ih=>have q:=h d ψ;have u:=ih λx g=>h x (by simp[g]);simp only[Ar];omega
theorem M7(n:Nat):(0:Int)<1000000000^n:=Int.pow_pos δ
theorem Mk(h:Cm l):Ar l<1000000000^l.length:=by induction l with|nil=>simp[Ar]|cons d l ih=>have g:=h d ψ;have q:=ih h.tail;simp only[Ar,Eo,Int.pow_succ];omega
theorem Gx(n:Nat):Ar (Ai n)=n:=by induction n using Nat.strongRecOn with|_ n ih=>by_cases h:n=0;subst h;rw[Hz];rfl;rw[Po h,Ar,ih (n/1000000000) (Nat.div_lt_self ω δ)];omega
theorem Gj(n:Nat):Cm (Ai n):=by induction n using Nat.strongRecOn with|_ n ih=>by_cases h:n=0;subst h;rw[Hz];exact Cm.nil;rw[Po h];intro d g;simp at g;rcases g with rfl|g;omega;exact ih (n/1000000000) (Nat.div_lt_self ω δ) d g
theorem Kw(h:n≠0):Ai n≠[]:=by rw[Po h];simp
theorem Ahq(n:Nat):Can (Ai n):=by refine⟨Gj n,?_⟩;induction n using Nat.strongRecOn with|_ n ih=>intro b;have h:n≠0:=λe=>b (by rw[e];exact Hz);have q:=Po h;by_cases g:n/1000000000=0;have c:Ai n=[((n%1000000000:Nat):Int)]:=(by rw[q,g,Hz]);simp only[c,getLast_singleton];omega;have:=ih (n/1000000000) (Nat.div_lt_self ω δ) (Kw g);simp only[q];rwa [getLast_cons (Kw g)]
theorem Am4(h:Can l):Ai (Ar l).toNat=l:=by induction l with|nil=>exact Hz|cons d l ih=>obtain⟨q,u⟩:=h;have v:=q d ψ;have g:Can l:=(by refine⟨q.tail,λb=>?_⟩;have:=u ψ;rwa [getLast_cons b]at this);have f:=Iz (q.tail).u32;have b:(Ar (d::l)).toNat≠0:=(by intro e;simp only[Ar]at e;have c:d=0:=ω;have f:Ar l=0:=ω;have:l=[]:=(by rw[<-ih g,f];exact Hz);subst this;exact u ψ (by simpa using c));rw[Po b];simp only[Ar];have j:((d+1000000000*Ar l).toNat%1000000000:Nat)=d.toNat:=ω;have i:(d+1000000000*Ar l).toNat/1000000000=(Ar l).toNat:=ω;rw[j,i,ih g];congr 1;omega
theorem Ahr(h:Can l)(b:Ar l=n):l=Ai n:=by rw[<-Am4 h,b];rfl
def Jg:Ae->Ae
 |[]=>[]
 |d::l=>match Jg l with|[]=>if d=0 then[]else[d]|x::m=>d::x::m
theorem A6b(l:Ae):Jg (l++[0])=Jg l:=by induction l with|nil=>rfl|cons d l ih=>simp only[Fd,Jg,ih]
theorem A6c(h:d≠0):Jg (l++[d])=l++[d]:=by induction l with|nil=>simp[Jg,h]|cons x l ih=>simp only[Fd,Jg,ih];cases l with|nil=>rfl|cons y l=>rfl
theorem Auq(h:Cm l):Can (Jg l)/\Ar (Jg l)=Ar l:=by induction l with|nil=>exact⟨⟨Cm.nil,λh=>(h rfl).elim⟩,rfl⟩|cons d l ih=>obtain⟨⟨v,w⟩,g⟩:=ih h.tail;have q:=h d ψ;simp only[Jg];cases A:Jg l with|nil=>rw[A]at g;simp only[Ar]at g;simp only[];by_cases b:d=0;rw[Av b];refine⟨⟨Cm.nil,λh=>(h rfl).elim⟩,?_⟩;simp only[Ar];rw[<-g];omega;rw[As b];refine⟨⟨Cm.one q.1 q.2,λ_=>by simpa using b⟩,?_⟩;simp only[Ar];rw[<-g]|cons x m=>rw[A]at v w g;simp only[];refine⟨⟨?_,λ_=>?_⟩,?_⟩;intro y u;rcases En.1 u with rfl|u;exact q;exact v y u;rw[getLast_cons ψ];exact w ψ;simp only[Ar]at g⊢;rw[g]
theorem Ns(h:Cm l)(b:Ar l=n):Jg l=Ai n:=by obtain⟨g,q⟩:=Auq h;exact Ahr g (q.trans b)
theorem A6d(h:Can l):Jg l=l:=by obtain⟨g,q⟩:=Auq h.1;rw[<-Am4 g,q,Am4 h]
variable{j k m n:Nat}{E R S α:Type}{J:E->Ο R}{l:Λ α}{r rf rt:R}{s0:S}{x:α}{p:α×Nat->Bool}
def Bw(n:Nat):Nat:=(Ai n).length
theorem Am5:Bw 0=0:=by simp[Bw,Hz]
theorem Pp(n:Nat):n<1000000000^Bw n:=by have:=Mk (Gj n);rw[Gx]at this;have e:((1000000000^Bw n:Nat):Int)=1000000000^Bw n:=ψ;unfold Bw at *;omega
theorem Ip(h:n<1000000000^k):Bw n<=k:=by induction k generalizing n with|zero=>simp at h;subst h;simp[Am5]|succ k ih=>by_cases g:n=0;subst g;simp[Am5];unfold Bw;rw[Po g,Eo];have:n/1000000000<1000000000^k:=(by rw[Nat.div_lt_iff_lt_mul δ];rwa [Nat.pow_succ]at h);have:=ih this;unfold Bw at this;omega
theorem Kx(h:m<=n):Bw m<=Bw n:=Ip (Nat.lt_of_le_of_lt h (Pp n))
theorem Aur(h:k<Bw n):1000000000^k<=n:=by rcases Cj n (1000000000^k)with g|g;have:=Ip g;omega;exact g
theorem Am6(m n:Nat):Bw (m+n)<=max (Bw m) (Bw n)+1:=by apply Ip;have g:=Pp m;have h:=Pp n;have q:1000000000^Bw m<=1000000000^max (Bw m) (Bw n):=Nat.pow_le_pow_right δ (Nat.le_max_left _ _);have b:1000000000^Bw n<=1000000000^max (Bw m) (Bw n):=Nat.pow_le_pow_right δ (Nat.le_max_right _ _);rw[Nat.pow_succ];omega
theorem Jr(m n:Nat):Bw (m*n)<=Bw m+Bw n:=by apply Ip;rw[Nat.pow_add];exact Nat.mul_lt_mul_of_lt_of_le (Pp m) (Nat.le_of_lt (Pp n)) (Nat.pow_pos δ)
theorem Am7(m n:Nat):Bw (m/n)<=Bw m:=Kx (Nat.div_le_self _ _)
theorem Aus(h:Bw m<Bw n):m<n:=Nat.lt_of_lt_of_le (Pp m) (Aur h)
theorem Aut{l m:Ae}(g:Cm l)(u:k<l.length)(b:k<m.length)(f:Cm m)(v:l.drop (k+1)=m.drop (k+1))(c:l[k]<m[k]):Ar l<Ar m:=by have j:=Qt l (k+1) u;have i:=Qt m (k+1) b;rw[Hu l u]at j;rw[Hu m b,<-v]at i;have w:=Mk (g.take k);have q:=Iz ((f.take k).u32);rw[length_take,Nat.min_eq_left (Nat.le_of_lt u)]at w;have h:1000000000^k*(l[k]+1)<=1000000000^k*m[k]:=Int.mul_le_mul_of_nonneg_left c (Int.le_of_lt (M7 k));rw[Int.mul_add]at h;omega
theorem Ml{step:S->Ο (S⊕E)}(n:Nat)(b:Nat->S)(h0:s0=b 0)(c:∀j,j<n->step (b j)=some (.inl (b (j+1))))(q:∃e,step (b n)=some (.inr e)/\J e=some r):(Am step s0).bind J=some r:=by(have g:∀m,m<=n->Am step (b 0)=Am step (b m):=by intro m;induction m with|zero=>intro _;rfl|succ m ih=>intro h;rw[ih ω,Ks (c m ω)]);obtain⟨e,u,v⟩:=q;rw[h0,g n (Nat.le_refl _),Ej u];exact v
theorem Dl(h:j<n)(g:n<4611686018427387904):Aa ((j:Int)+1)=((j+1:Nat):Int):=by rw[Aa,Bz]<;>omega
theorem Auu(h:l.zipIdx.all p=false):∃j x,l[j]?=some x/\p (x,j)=false/\∀i y,i<j->l[i]?=some y->p (y,i)=true:=by(have q:∀(n:Nat),(∀i y,i<n->l[i]?=some y->p (y,i)=true)\/∃j x,j<n/\l[j]?=some x/\p (x,j)=false/\∀i y,i<j->l[i]?=some y->p (y,i)=true:=by intro n;induction n with|zero=>exact .inl (λi y h=>ω)|succ n ih=>rcases ih with ih|⟨j,x,B,u,v,b⟩;(cases w:l[n]? with|none=>exact .inl (λi y A g=>by rcases Cj i n with h|h;exact ih i y h g;have:i=n:=ω;subst this;rw[w]at g;cases g)|some x=>cases hp:p (x,n)with|true=>exact .inl (λi y A g=>by rcases Cj i n with h|h;exact ih i y h g;have:i=n:=ω;subst this;rw[w]at g;cases g;exact hp)|false=>exact .inr ⟨n,x,ω,w,hp,ih⟩);exact .inr ⟨j,x,ω,u,v,b⟩);rcases q l.length with C|⟨j,x,B,u,v,b⟩;exfalso;(have:l.zipIdx.all p=true:=by rw[Jq];rintro⟨y,i⟩ g;have:=mk_mem_zipIdx_iff_getElem?.1 g;(have A:i<l.length:=by rcases Cj i l.length with h|h;exact h;rw[Wv h]at this;cases this);exact C i y A this);rw[this]at h;cases h;exact⟨j,x,u,v,b⟩
theorem Kj(h:l.zipIdx.all p=true)(g:l[j]?=some x):p (x,j)=true:=Jq.1 h _ (mk_mem_zipIdx_iff_getElem?.2 g)
theorem Ahs(h:∀j x,l[j]?=some x->p (x,j)=true):l.zipIdx.all p=true:=by rw[Jq];rintro⟨y,i⟩ g;exact h i y (mk_mem_zipIdx_iff_getElem?.1 g)
theorem Wx{step:S->Ο (S⊕E)}(l:Λ α)(p:α×Nat->Bool)(b:Nat->S)(h0:s0=b 0)(g:l.length<4611686018427387904)(f:∀(j:Nat)(x:α),l[j]?=some x->(∀i y,i<j->l[i]?=some y->p (y,i)=true)->decide ((j:Int)<(l.length:Int))=true->Ag l (j:Int)=some x->Aa ((j:Int)+1)=((j+1:Nat):Int)->(p (x,j)=true->step (b j)=some (.inl (b (j+1))))/\(p (x,j)=false->∃e,step (b j)=some (.inr e)/\J e=some rf))(C:decide ((l.length:Int)<(l.length:Int))=false->l.zipIdx.all p=true->∃e,step (b l.length)=some (.inr e)/\J e=some rt):(Am step s0).bind J=some (bif l.zipIdx.all p then rt else rf):=by
 have c:∀(j:Nat)(x:α),l[j]?=some x->(∀i y,i<j->l[i]?=some y->p (y,i)=true)->_:=λj x q u=>
  have v:j<l.length:=by
   rcases Cj j l.length with h|h
   .exact h
   .rw[Wv h]at q;cases q
  f j x q u (An ω) (Bq rfl q) (Dl v g)
 cases w:l.zipIdx.all p with|true=>refine Ml l.length b h0 (λj v=>?_) (C ψ w);have q:l[j]?=some l[j]:=Bi v;exact(c j _ q λi y _ u=>Kj w u).1 (Kj w q)|false=>obtain⟨j,x,A,D,B⟩:=Auu w;refine Ml j b h0 (λi F=>?_) ((c j x A B).2 D);(have v:j<l.length:=by rcases Cj j l.length with h|h;exact h;rw[Wv h]at A;cases A);have q:l[i]?=some l[i]:=Bi ω;exact(c i _ q λk y G u=>B k y ω u).1 (B i _ F q)
theorem Aht(l:Λ α)(p:α->Bool):l.zipIdx.all (λq=>p q.1)=l.all p:=by cases h:l.all p with|true=>exact Ahs λj x g=>Jq.1 h _ (Bm g)|false=>cases u:l.zipIdx.all (λq=>p q.1)with|false=>rfl|true=>rw[<-h];symm;rw[Jq];intro x g;obtain⟨j,v⟩:=Gl g;exact Kj u v
theorem Uc{step:S->Ο (S⊕E)}(l:Λ α)(p:α->Bool)(b:Nat->S)(h0:s0=b 0)(f:l.length<4611686018427387904)(c:∀(j:Nat)(x:α),l[j]?=some x->decide ((j:Int)<(l.length:Int))=true->Ag l (j:Int)=some x->Aa ((j:Int)+1)=((j+1:Nat):Int)->(p x=true->step (b j)=some (.inl (b (j+1))))/\(p x=false->∃e,step (b j)=some (.inr e)/\J e=some rf))(g:decide ((l.length:Int)<(l.length:Int))=false->∃e,step (b l.length)=some (.inr e)/\J e=some rt):(Am step s0).bind J=some (bif l.all p then rt else rf):=by rw[<-Aht l p];exact Wx l (λq=>p q.1) b h0 f (λj x u _=>c j x u) (λh _=>g h)
theorem Fi{step:S->Ο (S⊕E)}(l:Λ α)(b:Nat->S)(h0:s0=b 0)(f:l.length<4611686018427387904)(c:∀(j:Nat)(x:α),j<l.length->l[j]?=some x->decide ((j:Int)<(l.length:Int))=true->Ag l (j:Int)=some x->Aa ((j:Int)+1)=((j+1:Nat):Int)->step (b j)=some (.inl (b (j+1))))(q:decide ((l.length:Int)<(l.length:Int))=false->∃e,step (b l.length)=some (.inr e)/\J e=some r):(Am step s0).bind J=some r:=by refine Ml l.length b h0 (λj g=>?_) (q ψ);have h:l[j]?=some l[j]:=Bi g;exact c j _ g h (An ω) (Bq rfl h) (Dl g f)
theorem Cs(h:l[j]?=some x):l.take (j+1)=l.take j++[x]:=by rw[take_add_one,h];rfl
theorem Dq(h:l[j]?=some x):j<l.length:=by rcases Cj j l.length with g|g;exact g;rw[Wv g]at h;cases h
theorem R5(b:Bool):(bif b then true else false)=b:=by cases b<;>rfl
theorem A6e(b:Bool):(bif b then false else true) = !b:=by cases b<;>rfl
theorem Adc{A:Type}{X:Ο A}{f:A->Ο R}{y:R}{Q:A->Prop}(h:∃r,X=some r/\Q r)(g:∀r,Q r->f r=some y):X.bind f=some y:=by obtain⟨r,q,u⟩:=h;rw[q];exact g r u
theorem Auv(l:Λ α)(p:α->Bool){step:Int->Ο (Int⊕(Int⊕Unit))}{J:Int⊕Unit->A9}(k:l.length<4611686018427387904)(g:∀(j:Nat)(x:α),x∈l->decide ((j:Int)<(l.length:Int))=true->Ag l (j:Int)=some x->Aa ((j:Int)+1)=((j+1:Nat):Int)->step (j:Int)=bif p x then some (.inr (.inl (j:Int)))else some (.inl ((j+1:Nat):Int)))(v:decide ((l.length:Int)<(l.length:Int))=false->step (l.length:Int)=some (.inr (.inr ())))(c:∀i,J (.inl i)=some i)(b:J (.inr ())=some (-1)):∃i,(Am step 0).bind J=some i/\decide (i>=0)=l.any p:=by(have q:(Am step 0).bind (λz=>(J z).bind λi=>some (decide (i>=0)))=some (bif l.all (λx=>!p x)then false else true):=by refine Uc l (λx=>!p x) (λj=>(j:Int)) rfl k (λj x w A B C=>?_) λh=>⟨.inr (),v h,by rw[b];rfl⟩;have h:=g j x (Bm w) A B C;simp only[h];cases p x with|true=>exact⟨nofun,λ_=>⟨.inl (j:Int),rfl,by simp only[c,Ac];rw[An ω]⟩⟩|false=>exact⟨λ_=>rfl,λh=>by cases h⟩);(have e:l.any p=(bif l.all (λx=>!p x)then false else true):=by rw[A6e,not_all_eq_any_not];simp);rw[e];cases f:Am step 0 with|none=>rw[f]at q;cases q|some z=>rw[f,Ac]at q;rw[Ac];cases u:J z with|none=>rw[u]at q;cases q|some i=>rw[u,Ac]at q;exact⟨i,rfl,E6 q⟩
theorem Add{M:Type}{step:S->Ο (S⊕E)}(l:Λ α)(p:α×Nat->Bool)(b:Nat->M->S)(I:M->Prop)(z A:R->Prop)(g:M)(h0:s0=b 0 g)(h:I g)(D:l.length<4611686018427387904)(B:∀(j:Nat)(x:α)(m:M),I m->l[j]?=some x->(∀i y,i<j->l[i]?=some y->p (y,i)=true)->decide ((j:Int)<(l.length:Int))=true->Ag l (j:Int)=some x->Aa ((j:Int)+1)=((j+1:Nat):Int)->(p (x,j)=true->∃f,step (b j m)=some (.inl (b (j+1) f))/\I f)/\(p (x,j)=false->∃e,step (b j m)=some (.inr e)/\∃r,J e=some r/\A r))(P:∀m,I m->decide ((l.length:Int)<(l.length:Int))=false->l.zipIdx.all p=true->∃e,step (b l.length m)=some (.inr e)/\∃r,J e=some r/\z r):∃r,(Am step s0).bind J=some r/\((l.zipIdx.all p=true/\z r)\/(l.zipIdx.all p=false/\A r)):=by
 have c:∀(j:Nat)(x:α)(m:M),I m->l[j]?=some x->(∀i y,i<j->l[i]?=some y->p (y,i)=true)->_:=λj x m G w v=>
  have T:j<l.length:=Dq w
  B j x m G w v (An ω) (Bq rfl w) (Dl T D)
 (have F:∀n,n<=l.length->(∀i y,i<n->l[i]?=some y->p (y,i)=true)->∃m,I m/\Am step s0=Am step (b n m):=by intro n;induction n with|zero=>intro _ _;exact⟨g,h,by rw[h0]⟩|succ n ih=>intro V v;obtain⟨m,C,H⟩:=ih ω λi y U=>v i y ω;have w:l[n]?=some l[n]:=Bi ω;obtain⟨f,K,k⟩:=(c n _ m C w λi y U=>v i y ω).1 (v n _ ω w);exact⟨f,k,by rw[H,Ks K]⟩);cases N:l.zipIdx.all p with|true=>obtain⟨m,C,H⟩:=F l.length (Nat.le_refl _) λi y _ v=>Kj N v;obtain⟨e,u,r,s,q⟩:=P m C ψ N;exact⟨r,by rw[H,Ej u];exact s,.inl ⟨rfl,q⟩⟩|false=>obtain⟨j,x,C,H,K⟩:=Auu N;obtain⟨m,k,L⟩:=F j (Nat.le_of_lt (Dq C)) K;obtain⟨e,u,r,s,q⟩:=(c j x m k C K).2 H;exact⟨r,by rw[L,Ej u];exact s,.inr ⟨rfl,q⟩⟩
mutual
def Bu:Ah->Nat
 |⟨_,_,l⟩=>1+Dr l
def Dr:List Ah->Nat
 |[]=>0
 |x::xs=>Bu x+Dr xs
end
theorem I0(t:Ah):Bu t=1+Dr t.R:=by cases t;simp only[Bu]
theorem Pq(t:Ah):1<=Bu t:=by rw[I0];omega
theorem I9{l:A1}{a:Ah}(h:a∈l):Bu a<=Dr l:=by induction l with|nil=>cases h|cons x xs ih=>simp only[Dr];rcases En.1 h with rfl|h;omega;have:=ih h;omega
theorem Kb(l:A1):l.length<=Dr l:=by induction l with|nil=>simp|cons x xs ih=>simp only[Dr,Eo];have:=Pq x;omega
theorem Ahu(l m:A1):Dr (l++m)=Dr l+Dr m:=by induction l with|nil=>simp[Dr]|cons x xs ih=>simp only[Fd,Dr,ih];omega
def Nt(Δ:Ad)(Ξ k n:Int)(len:Nat):Bool:=if k=1\/k=2\/k=3 then n==0&&len==0 else if k=4 then decide (0<=n)&&decide (n<Ξ)&&len==0 else if k=5 then decide (0<=n)&&(match Δ[n.toNat]? with|some d=>(len:Int)==d.V|none=>false)else if k=6 then n==0&&decide (2<=len)&&decide (len<=6)else if k=7\/k=8 then n==0&&len==1 else if k=9 then n==0&&decide (1<=len)&&decide (len<=7)else false
mutual
def H3(Δ:List Ao)(Ξ:Int):Ah->Bool
 |⟨k,n,l⟩=>Nt Δ Ξ k n l.length&&Gm Δ Ξ l
def Gm(Δ:List Ao)(Ξ:Int):List Ah->Bool
 |[]=>true
 |x::xs=>H3 Δ Ξ x&&Gm Δ Ξ xs
end
variable{i:Int}{l:A1}{j:Nat}{R α:Type}
theorem Ahv(Δ:Ad)(Ξ:Int)(t:Ah):H3 Δ Ξ t=(Nt Δ Ξ t.G t.U t.R.length&&Gm Δ Ξ t.R):=by cases t;simp only[H3]
theorem Auw(l:Λ α)(n:Nat):((l.length:Int)==(n:Int))=(l.length==n):=by by_cases h:l.length=n;subst h;simp;rw[Cx ω];simp[h]
theorem A6f(k:Nat)(t:Ah)(Δ:Ad)(Ξ left:Int)(v:1<=left)(w:left<=1000):Ph (k+1) t ⟨Δ,Ξ,left⟩=bif Nt Δ Ξ t.G t.U t.R.length then((Zh k t.R ⟨Δ,Ξ,left-1⟩).bind λh=>some (!h.1,h.2))else some (false,⟨Δ,Ξ,left-1⟩):=by have q:Aa (left-1)=left-1:=Bz ω ω;have b:¬left-1<0:=ω;rw[Ph];simp only[q,Au b,Al];generalize g:(Zh k t.R ⟨Δ,Ξ,left-1⟩).bind (λh=>some (!h.1,h.2))=X;generalize f:(some (false,⟨Δ,Ξ,left-1⟩):Ο (Bool×Il))=Y;unfold Nt Ag;generalize t.R.length=len;generalize t.G=c;generalize t.U=n;cases u:Δ[n.toNat]?<;>simp only[Bool.cond_eq_ite,Am1,Ac,Option.bind_none,u]<;>grind
theorem Ade(h:j<l.length):Dr (l.take (j+1))=Dr (l.take j)+Bu l[j]:=by rw[take_succ_eq_append_getElem h,Ahu];simp[Dr]
theorem Aux(Δ:Ad)(Ξ:Int)(l m:A1):Gm Δ Ξ (l++m)=(Gm Δ Ξ l&&Gm Δ Ξ m):=by induction l with|nil=>simp[Gm]|cons x xs ih=>simp only[Fd,Gm,ih,Bool.and_assoc]
theorem Ahw(Δ:Ad)(Ξ:Int)(h:j<l.length):Gm Δ Ξ (l.take (j+1))=(Gm Δ Ξ (l.take j)&&H3 Δ Ξ l[j]):=by rw[take_succ_eq_append_getElem h,Aux];simp[Gm]
theorem Adf(l:A1)(j:Nat):Dr (l.take j)<=Dr l:=by have:=Ahu (l.take j) (l.drop j);rw[take_append_drop]at this;omega
theorem Auy(Δ:Ad)(Ξ:Int)(l:A1)(j:Nat)(h:Gm Δ Ξ l=true):Gm Δ Ξ (l.take j)=true:=by have:=Aux Δ Ξ (l.take j) (l.drop j);rw[take_append_drop,h]at this;have:=this.symm;simp only[Ec]at this;exact this.1
theorem A6g(Δ:Ad)(Ξ:Int)(k:Nat)(l:A1)(c:Nat)(G:l.length<1099511627776)(ih:∀(a:Ah),a∈l->∀f:Nat,f<=c->∃g:Int,Ph k a ⟨Δ,Ξ,f⟩=some (H3 Δ Ξ a&&decide (Bu a<=f),⟨Δ,Ξ,g⟩)/\((H3 Δ Ξ a&&decide (Bu a<=f))=true->g=(f:Int)-Bu a)):∃p:Int×Int,Ac7 (k+2) l ⟨Δ,Ξ,c⟩=some (p.1,⟨Δ,Ξ,p.2⟩)/\((Gm Δ Ξ l&&decide (Dr l<=c))=true->p.1 = -1/\p.2=(c:Int)-Dr l)/\((Gm Δ Ξ l&&decide (Dr l<=c))=false->0<=p.1):=by rw[Ac7];refine Adb (λp:Int×Int=>(p.1,Il.mk Δ Ξ p.2)) (Ft (λ(F,v,w,s)=>∃j:Nat,F=j/\j<=l.length/\v=Δ/\w=Ξ/\Gm Δ Ξ (l.take j)=true/\Dr (l.take j)<=c/\s=(c:Int)-Dr (l.take j)) (λ(F,_,_,_)=>l.length-F.toNat) (λz=>match z with|.inl (i,b)=>0<=i/\(∃g,b=⟨Δ,Ξ,g⟩)/\(Gm Δ Ξ l&&decide (Dr l<=c))=false|.inr (v,w,s)=>v=Δ/\w=Ξ/\(Gm Δ Ξ l&&decide (Dr l<=c))=true/\s=(c:Int)-Dr l) ⟨0,rfl,ω,rfl,rfl,rfl,by simp[Dr],by simp[Dr]⟩ ?_ ?_);rintro⟨F,v,w,s⟩ ⟨j,rfl,N,rfl,rfl,x,A,rfl⟩;rcases Cj j l.length with h|h;obtain⟨u,y⟩:∃u:Nat,(c:Int)-Dr (l.take j)=u/\u<=c:=⟨c-Dr (l.take j),ω,ω⟩;obtain⟨g,E,D⟩:=ih l[j] (getElem_mem h) u y.2;simp only[An (ω:(j:Int)<(l.length:Int)),Ak,E7 rfl h,Ac,Ab8,y.1,E];(cases H:(H3 v w l[j]&&decide (Bu l[j]<=u))with|true=>have I:=D H;simp only[Ec,Es]at H;refine .inl ⟨(((j+1:Nat):Int),v,w,g),?_,⟨j+1,rfl,ω,rfl,rfl,?_,?_,?_⟩,ζ⟩;simp only[Fc,Al];rw[show Aa ((j:Int)+1)=((j+1:Nat):Int)by rw[Aa,Bz]<;>omega];rw[Ahw _ _ h,x,H.1];rfl;rw[Ade h];omega;show g=_;rw[Ade h];omega|false=>refine .inr ⟨.inl ((j:Int),⟨v,w,g⟩),ψ,ω,⟨g,rfl⟩,?_⟩;cases q:(Gm v w l&&decide (Dr l<=c))with|false=>rfl|true=>exfalso;simp only[Ec,Es]at q;have C:=Auy v w l (j+1) q.1;rw[Ahw _ _ h]at C;simp only[Ec]at C;have M:=Adf l (j+1);rw[Ade h]at M;rw[C.2,Bool.true_and,decide_eq_false_iff_not]at H;omega);have:j=l.length:=ω;subst this;rw[Dh]at *;refine .inr ⟨.inr (v,w,(c:Int)-Dr l),ψ,rfl,rfl,by simp[x,A],rfl⟩;rintro(⟨i,b⟩|⟨v,w,s⟩) B;obtain⟨C,⟨g,rfl⟩,K⟩:=B;exact⟨_,rfl,(i,g),rfl,(λh=>by rw[K]at h;cases h),λ_=>C⟩;obtain⟨rfl,rfl,K,rfl⟩:=B;exact⟨_,rfl,(-1,_),rfl,λ_=>⟨rfl,rfl⟩,λh=>by rw[K]at h;cases h⟩
theorem A6h(Δ:Ad)(Ξ:Int):∀(left:Nat)(t:Ah)(k:Nat),left<=200->4*left+4<=k->Bu t<1099511627776->∃f:Int,Ph k t ⟨Δ,Ξ,left⟩=some (H3 Δ Ξ t&&decide (Bu t<=left),⟨Δ,Ξ,f⟩)/\((H3 Δ Ξ t&&decide (Bu t<=left))=true->f=(left:Int)-Bu t):=by intro left;induction left using Nat.strongRecOn with|_ left s=>intro t k A G H;have hp:=Pq t;obtain⟨g,rfl⟩:∃g,k=g+1:=⟨k-1,ω⟩;cases left with|zero=>refine⟨-1,?_,λh=>by simp at h;omega⟩;rw[Ph];have B:decide (Bu t<=0)=false:=Au ω;rw[B,Bool.and_false];rfl|succ b=>rw[A6f g t Δ Ξ ((b+1:Nat):Int) ω ω];have z:((b+1:Nat):Int)-1=(b:Int):=ω;rw[z,Ahv];cases I:Nt Δ Ξ t.G t.U t.R.length with|false=>exact⟨b,ψ,λh=>by simp at h⟩|true=>obtain⟨q,rfl⟩:∃q,g=q+3:=⟨g-3,ω⟩;have j:=I0 t;have x:=Kb t.R;obtain⟨⟨i,f⟩,C,v,D⟩:=A6g Δ Ξ q t.R b ω (λa F c y=>by have:=I9 F;exact s c ω a q ω ω ω);have l:decide (Bu t<=b+1)=decide (Dr t.R<=b):=(by rw[j];congr 1;simp only[eq_iff_iff];omega);simp only[Ak,Zh,C,Ac,Bool.true_and,l];refine⟨f,?_,λh=>?_⟩;(cases w:(Gm Δ Ξ t.R&&decide (Dr t.R<=b))with|true=>have u:i = -1:=(v w).1;rw[Au (ω:¬i>=0)];rfl|false=>have u:0<=i:=D w;rw[An (ω:i>=0)];rfl);have u:f=(b:Int)-Dr t.R:=(v h).2;rw[u,j];omega
theorem Adg(Δ:Ad)(t:Ah)(Ξ:Int)(h:Bu t<1099511627776):Rk Δ t Ξ=some (H3 Δ Ξ t&&decide (Bu t<=200)):=by unfold Rk;obtain⟨b,g,_⟩:=A6h Δ Ξ 200 t 4000000 δ δ h;have g:Ph 4000000 t ⟨Δ,Ξ,200⟩=_:=g;rw[g];rfl
theorem Auz:∀(k:Nat)(t:Ah),Bu t<=k->Bu t<1099511627776->R0 k t=some (Bu t:Int):=by intro k;induction k with|zero=>intro t h;have:=Pq t;omega|succ k ih=>intro t h u;have c:=I0 t;have f:=Kb t.R;rw[R0];refine Ka (λ(n,i)=>∃j:Nat,i=j/\j<=t.R.length/\n=1+(Dr (t.R.take j):Int)) (λ(_,i)=>t.R.length-i.toNat) (λn=>n=(Bu t:Int)) ⟨0,rfl,ω,by simp[Dr]⟩ ?_ (by rintro n rfl;rfl);rintro⟨n,i⟩ ⟨j,rfl,v,rfl⟩;rcases Cj j t.R.length with q|q;have l:=I9 (getElem_mem q);have g:=Adf t.R j;have b:=Adf t.R (j+1);rw[Ade q]at b;refine .inl ⟨(1+(Dr (t.R.take (j+1)):Int),((j+1:Nat):Int)),?_,⟨j+1,rfl,ω,rfl⟩,ζ⟩;simp only[An (ω:(j:Int)<(t.R.length:Int)),Ak,E7 rfl q,Ac,ih t.R[j] ω ω];rw[show Aa ((j:Int)+1)=((j+1:Nat):Int)by rw[Aa,Bz]<;>omega,show Aa (1+(Dr (t.R.take j):Int)+(Bu t.R[j]:Int))=1+(Dr (t.R.take (j+1)):Int)by rw[Ade q,Aa,Bz]<;>omega];have:j=t.R.length:=ω;subst this;exact .inr ⟨1+(Dr t.R:Int),ψ,by rw[c];omega⟩
theorem A6i(Δ:Ad)(Ξ:Int):∀(k:Nat)(t:Ah),Bu t<=k->Bu t<1099511627776->Tq k Δ t Ξ=some (H3 Δ Ξ t):=by intro k;induction k with|zero=>intro t h;have:=Pq t;omega|succ k ih=>intro t h K;have A:=I0 t;have l:=Kb t.R;(have c:(Am (S:=Int) (E:=(Bool⊕Unit)) (λw=>bif w<(t.R.length:Int)then((Ag t.R w).bind λM=>(Tq k Δ M Ξ).bind λx=>bif(!x)then some (.inr (.inl false))else some (.inl (Aa (w+1))))else some (.inr (.inr ()))) 0).bind (λz=>match z with|.inl y=>some y|.inr _=>some true)=some (Gm Δ Ξ t.R):=by refine Ka (λi=>∃j:Nat,i=j/\j<=t.R.length/\Gm Δ Ξ (t.R.take j)=true) (λi=>t.R.length-i.toNat) (λz=>match z with|.inl r=>r=Gm Δ Ξ t.R|.inr _=>Gm Δ Ξ t.R=true) ⟨0,rfl,ω,by simp[Gm]⟩ ?_ ?_;rintro i ⟨j,rfl,V,f⟩;rcases Cj j t.R.length with v|v;have I:=I9 (getElem_mem v);simp only[An (ω:(j:Int)<(t.R.length:Int)),Ak,E7 rfl v,Ac,ih t.R[j] ω ω];(cases F:H3 Δ Ξ t.R[j]with|true=>refine .inl ⟨((j+1:Nat):Int),?_,⟨j+1,rfl,ω,by rw[Ahw _ _ v,f,F];rfl⟩,ζ⟩;simp only[Fc,Al];rw[show Aa ((j:Int)+1)=((j+1:Nat):Int)by rw[Aa,Bz]<;>omega]|false=>refine .inr ⟨.inl false,ψ,?_⟩;show false=_;cases q:Gm Δ Ξ t.R with|false=>rfl|true=>have H:=Auy Δ Ξ t.R (j+1) q;rw[Ahw _ _ v,F,Bool.and_false]at H;cases H);have:j=t.R.length:=ω;subst this;rw[Dh]at f;exact .inr ⟨.inr (),ψ,f⟩;rintro(r|u) s;simp only at s⊢;rw[s];simp only at s⊢;rw[s]);rw[Tq,Ahv];refine Eq.trans (b:=Option.bind _ (λz:Bool⊕Unit=>match z with|.inl D=>some D|.inr _=>some (Gm Δ Ξ t.R))) (A6a ?_) ?_;rintro(r|u);rfl;exact c;have g:t.R.length=0->Gm Δ Ξ t.R=true:=(by intro e;rw[F5.1 e];rfl);unfold Nt Ag;clear c ih h K A l;generalize Gm Δ Ξ t.R=X at *;generalize t.R.length=len at *;generalize t.G=G;generalize t.U=n;by_cases B:len=0;have N:=g B;subst B;subst N;cases C:Δ[n.toNat]?<;>simp only[Bool.cond_eq_ite,Am1,Ac,Option.bind_none,C]<;>grind;have P:((len:Int)==0)=false:=Cx ω;have T:(len==0)=false:=(by simpa using B);(have U:((len:Int) != 1)=(!(len==1)):=by by_cases h:len=1;subst h;rfl;rw[Ep ω];simp[h]);cases C:Δ[n.toNat]?<;>simp only[P,T,U,Bool.cond_eq_ite,Am1,Ac,Option.bind_none,C,Bool.and_false,Bool.false_and]<;>grind
theorem Am8(Δ:Ad)(t:Ah)(Ξ:Int)(g:Bu t<=4000000):Rv Δ t Ξ=some (H3 Δ Ξ t&&decide (Bu t<=200)):=by unfold Rv;rw[Auz 4000000 t g ω,Ac,A6i Δ Ξ 4000000 t g ω];by_cases h:Bu t<=200;rw[An (ω:(Bu t:Int)<=200),An h];simp;rw[Au (ω:¬(Bu t:Int)<=200),Au h];simp
def R6(a:Ah)(i:Int):Bool:=a.G==4&&a.U==i&&a.R.length==0
def Au0(l:A1):Bool:=l.zipIdx.all λq=>R6 q.1 q.2
def Ky(t:Ah)(d Ξ:Int):Bool:=t.G==5&&t.U==d&&(t.R.length:Int)==Ξ&&Au0 t.R
theorem Au1(t:Ah)(d Ξ:Int)(G:t.R.length<1099511627776):Tp t d Ξ=some (Ky t d Ξ):=by unfold Tp Ky;by_cases g:t.G=5;by_cases u:t.U=d;by_cases v:(t.R.length:Int)=Ξ;simp only[Et g,Et u,Et v,Al,Ac,Ew g,Ew u,Ew v,Bool.true_and];refine(Wx t.R (λq=>R6 q.1 q.2) (λj=>(j:Int)) rfl ω (rt:=true) (rf:=false) ?_ ?_).trans (by rw[R5];rfl);intro j x H _ A C D;simp only[A,C,D,Ak,Ac,R6];constructor;intro h;simp only[Ec,beq_iff_eq]at h;simp[h.1.1,h.1.2,h.2];intro h;by_cases w:x.G=4;by_cases B:x.U=j;by_cases F:x.R.length=0;simp[w,B,F]at h;exact⟨.inl false,by simp only[Et w,Et B,Al];rw[An ω];rfl,rfl⟩;exact⟨.inl false,by simp only[Et w,Ep B,Al];rfl,rfl⟩;exact⟨.inl false,by simp only[Ep w];rfl,rfl⟩;intro A _;exact⟨.inr (),by simp only[A];rfl,rfl⟩;simp only[Et g,Et u,Ep v,Al,Ak,Ac,Cx v,Bool.and_false,Bool.false_and];simp only[Et g,Ep u,Al,Ak,Ac,Cx u,Bool.and_false,Bool.false_and];simp only[Ep g,Ak,Ac,Cx g,Bool.false_and]
def Ha(Δ:Ad)(d c:Int):Id:=match Ag Δ d with
 |none=>[]
 |some x=>match Ag x.O c with
  |none=>[]
  |some y=>y.R.map λt=>Ky t d x.V
theorem Hb{l:Λ α}{x:α}(h:Ag l i=some x):0<=i/\i<l.length/\l[i.toNat]?=some x/\x∈l:=by unfold Ag at h;split at h;have g:i.toNat<l.length:=Dq h;exact⟨by assumption,ω,h,Bm h⟩;cases h
theorem Ud{l:Λ α}(h:Ag l i=none):i<0\/(l.length:Int)<=i:=by unfold Ag at h;split at h;rw[List.getElem?_eq_none_iff]at h;right;omega;left;omega
theorem Au2(Δ:Ad)(d c:Int)(F:Ao->Pm->Ο R)(z:R)(X:Ο R)(f:X=((bif d<(0:Int)then some true else bif d>=(Δ.length:Int)then some true else bif c<(0:Int)then some true else(Ag Δ d).bind λb=>some (decide (c>=(b.O.length:Int))):OB).bind λw=>bif w then some z else(Ag Δ d).bind λq=>(Ag q.O c).bind λA=>F q A)):X=match Ag Δ d with
   |none=>some z
   |some x=>match Ag x.O c with
    |none=>some z
    |some y=>F x y:=by
 subst f;cases u:Ag Δ d with
 |none=>
  rcases Ud u with h|h
  .simp only[An h,Ak,Ac]
  .by_cases g:d<0
   .simp only[An g,Ak,Ac]
   .simp only[Au g,An (show d>=(Δ.length:Int)from h),Ak,Al,Ac]
 |some x=>
  obtain⟨B,C,_,_⟩:=Hb u;simp only[Au (ω:¬d<0),Au (ω:¬d>=(Δ.length:Int)),Al,Ac];cases v:Ag x.O c with
  |none=>
   rcases Ud v with h|h
   .simp only[An h,Ak,Ac]
   .by_cases g:c<0
    .simp only[An g,Ak,Ac]
    .simp only[Au g,An (show c>=(x.O.length:Int)from h),Ak,Al,Ac]
  |some y=>obtain⟨D,G,_,_⟩:=Hb v;simp only[Au (ω:¬c<0),Au (ω:¬c>=(x.O.length:Int)),Al,Ac]
def A6j(l:A1):Prop:=l.length<=4194304/\∀a∈l,a.R.length<=4194304
def Kk(Δ:Ad):Prop:=∀x∈Δ,∀y∈x.O,A6j y.R
theorem A6k(Δ:Ad)(d c:Int)(u:Kk Δ):Zf Δ d c=some (Ha Δ d c):=by unfold Zf;rw[Au2 Δ d c (λB C=>_) [] _ rfl];unfold Ha;cases v:Ag Δ d with|none=>rfl|some x=>cases g:Ag x.O c with|none=>simp only[g]|some y=>simp only[g];have b:=u x (Hb v).2.2.2 y (Hb g).2.2.2;refine Fi y.R (λj=>((j:Int),(y.R.take j).map λt=>Ky t d x.V)) rfl (by have:=b.1;omega) ?_ ?_;intro j t D q h w A;simp only[h,w,Ak,Ac,Au1 t d x.V (by have:=b.2 t (Bm q);omega)];rw[Dj (by simp;have:=b.1;omega),Ac,A,Cs q,map_append];rfl;intro h;exact⟨_,by simp only[h];rfl,ψ⟩
theorem A6l(Δ:Ad)(d c:Int)(g:Kk Δ):Zf Δ d c=some (Ha Δ d c):=A6k Δ d c g
theorem Am9(l m:Λ α)(y x:α)(i:Int)(n:Nat)(h:i=n)(g:n=l.length):Cl (l++y::m) i x=l++x::m:=by rw[Gw h];subst g;simp
theorem Ana(l m:Λ α)(y:α)(i:Int)(n:Nat)(h:i=n)(g:n=l.length):Ag (l++y::m) i=some y:=by rw[Bq h];subst g;simp
theorem A6m(l:A1)(k f:Id)(i:Int)(n:Nat)(b:Bool)(h:i=n)(C:n=k.length)(z:l.length<1099511627776){J:Int×List Bool->Ο R}{r:R}(y:J ((l.length:Int),k++(b&&Au0 l)::f)=some r):(Am (S:=(Int×List Bool)) (E:=(Int×List Bool)) (λ(c,g)=>bif c<(l.length:Int)then((Ag l c).bind λv=>bif(v.G != (4:Int))then((Ag g i).bind λF=>some (.inl (Aa (c+1),Cl g i false)))else(bif(v.U != c)then((Ag g i).bind λu=>some (.inl (Aa (c+1),Cl g i false)))else(bif(v.R.length:Int)>(0:Int)then((Ag g i).bind λs=>some (.inl (Aa (c+1),Cl g i false)))else(some (.inl (Aa (c+1),g))))))else(some (.inr (c,g)))) (0,k++b::f)).bind J=some r:=by refine Fi l (λj=>((j:Int),k++(b&&(l.take j).zipIdx.all λq=>R6 q.1 q.2)::f)) ψ ω ?_ ?_;intro j x G H B I K;have e:(l.take (j+1)).zipIdx.all (λq=>R6 q.1 q.2)=((l.take j).zipIdx.all (λq=>R6 q.1 q.2)&&R6 x j):=(by rw[Cs H,zipIdx_append,all_append];simp[Nat.min_eq_left (Nat.le_of_lt G)]);simp only[B,I,K,Ak,Ac,Ana k f _ i n h C,Am9 k f _ _ i n h C,e];unfold R6;by_cases w:x.G=4;by_cases A:x.U=j;by_cases D:x.R.length=0;rw[Au ω];simp[w,A,D];rw[An ω];have:(x.R.length==0)=false:=(by simpa using D);simp[w,A,this];simp[w,A,Ep A];simp[w,Ep w];intro B;refine⟨_,by simp only[B];rfl,?_⟩;rw[Dh];exact y
theorem Ahx(Δ:Ad)(d c:Int)(w:Kk Δ):Tu Δ d c=some (Ha Δ d c):=by unfold Tu;rw[Au2 Δ d c (λF G=>_) [] _ rfl];unfold Ha;cases A:Ag Δ d with|none=>rfl|some x=>cases q:Ag x.O c with|none=>simp only[q]|some y=>simp only[q];have f:=w x (Hb A).2.2.2 y (Hb q).2.2.2;have g:=f.1;rw[Mj (n:=y.R.length) (c:=y.R.length) rfl rfl ω ω ω,Ac];refine Fi y.R (λj=>((j:Int),((y.R.take j).map λt=>Ky t d x.V)++replicate (y.R.length-j) false)) rfl ω ?_ ?_;intro j t H v u B C;obtain⟨m,h⟩:∃m,y.R.length-j=m+1:=⟨y.R.length-j-1,ω⟩;have i:y.R.length-(j+1)=m:=ω;have b:j=((y.R.take j).map λt=>Ky t d x.V).length:=ζ;simp only[u,B,Ak,Ac,h,i,replicate_succ,Cs v,map_append,map_cons,map_nil,append_assoc,Fd,nil_append, Ana _ _ _ (j:Int) j rfl b,Am9 _ _ _ _ (j:Int) j rfl b];(have D:(bif t.G==5 then bif t.U==d then some (map (λt=>Ky t d x.V) (take j y.R)++((t.R.length:Int)==x.V)::replicate m false)else some (map (λt=>Ky t d x.V) (take j y.R)++false::replicate m false)else some (map (λt=>Ky t d x.V) (take j y.R)++false::replicate m false))=some (map (λt=>Ky t d x.V) (take j y.R)++(t.G==5&&t.U==d&&((t.R.length:Int)==x.V))::replicate m false):=by cases t.G==5<;>cases t.U==d<;>simp);rw[D,Ac];refine A6m t.R _ _ (j:Int) j _ rfl b (by have:=f.2 t (Bm v);omega) ?_;rw[C];rfl;intro u;exact⟨_,by simp only[u];rfl,ψ⟩
mutual
def mnt(d:Int):Ah->Bool
 |⟨k,n,l⟩=>(k==5&&n==d)||R7 d l
def R7(d:Int):List Ah->Bool
 |[]=>false
 |x::xs=>mnt d x||R7 d xs
end
theorem A6n(d:Int)(t:Ah):mnt d t=((t.G==5&&t.U==d)||R7 d t.R):=by cases t;simp only[mnt]
theorem A6o(d:Int)(l:A1):R7 d l=l.any (mnt d):=by induction l with|nil=>rfl|cons x xs ih=>simp only[R7,ih,any_cons]
theorem A6p(d:Int):∀(n:Nat)(t:Ah)(k:Nat),Bu t<=n->4*n+4<=k->n<1099511627776->Wc k t d=some (mnt d t):=by intro n;induction n with|zero=>intro t k h;have:=Pq t;omega|succ n ih=>intro t k h C D;obtain⟨k,rfl⟩:∃c,k=c+4:=⟨k-4,ω⟩;have f:=I0 t;have b:=Kb t.R;have q:Zg (k+3) t.R d=some (R7 d t.R):=(by rw[Zg,Ahd];rw[A6o];refine Adc (Auv t.R (mnt d) ω ?_ (λh=>by simp only[h];rfl) (λ_=>rfl) rfl) (λi u=>by rw[u]);intro j x v w A B;have g:=I9 v;simp only[w,A,B,Ak,Ac,Acv,ih x k ω ω ω]);rw[Wc,q,A6n];cases t.G==5<;>cases t.U==d<;>simp
theorem A6q(Δ:Ad)(v:Int)(l:A1):Gm Δ v l=l.all (H3 Δ v):=by induction l with|nil=>rfl|cons x xs ih=>simp only[Gm,ih,all_cons]
theorem A6r(Δ:Ad)(d:Nat)(v k n:Int)(len:Nat):(Nt (Δ.take (d+1)) v k n len && !(k==5&&n==(d:Int)))=Nt (Δ.take d) v k n len:=by by_cases g:k=5;subst g;unfold Nt;simp only[beq_self_eq_true,Bool.true_and,getElem?_take];by_cases q:n=d;subst q;simp;by_cases u:0<=n;have e:(n==(d:Int))=false:=Cx q;rcases Cj n.toNat d with h|h;simp[h,e,show n.toNat<d+1 by omega];simp[e,show ¬n.toNat<d by omega,show ¬n.toNat<d+1 by omega];simp[u];have e:(k==(5:Int))=false:=Cx g;simp only[e,Bool.false_and,Bool.not_false,Bool.and_true,Nt,g,if_false]
mutual
theorem Au3(Δ:List Ao)(d:Nat)(v:Int):∀t:Ah,(H3 (Δ.take (d+1)) v t && !mnt d t)=H3 (Δ.take d) v t
 |⟨k,n,l⟩=>by
  have g:=Au4 Δ d v l
  have h:=A6r Δ d v k n l.length
  simp only[H3,mnt]
  rw[<-g,<-h]
  cases Nt (Δ.take (d+1)) v k n l.length<;>cases(k==5&&n==(d:Int))<;>cases Gm (Δ.take (d+1)) v l<;>simp
theorem Au4(Δ:List Ao)(d:Nat)(v:Int):∀l:List Ah,(Gm (Δ.take (d+1)) v l && !R7 d l)=Gm (Δ.take d) v l
 |[]=>by simp[Gm,R7]
 |x::xs=>by
  have g:=Au3 Δ d v x
  have h:=Au4 Δ d v xs
  simp only[Gm,R7]
  rw[<-g,<-h]
  cases H3 (Δ.take (d+1)) v x<;>cases mnt d x<;>cases Gm (Δ.take (d+1)) v xs<;>simp
end
variable{t:Ah}{x:Ao}{s:Β}{o:Er}{Δ:Ad}{L:Ct}{a b d j:Nat}{y:Pm}{R:Type}{Q:R->Prop}
theorem Au5:∀l:A1,(∀a∈l,a.R.length=0)->Dr l=l.length
 |[],_=>rfl
 |x::xs,h=>by have g:=h x ψ;simp only[Dr,Eo];rw[Au5 xs λa q=>h a (by simp[q]),I0,F5.1 g];simp only[Dr];omega
theorem Au6(v:Δ[d]?=some x)(f:x.V<=6)(h:Ky t d x.V=true):H3 (Δ.take (d+1)) x.V t=true/\Bu t<=200:=by unfold Ky at h;simp only[Ec,beq_iff_eq]at h;obtain⟨⟨⟨w,A⟩,B⟩,c⟩:=h;(have g:∀a∈t.R,∃i:Nat,i<t.R.length/\a.G=4/\a.U=i/\a.R.length=0:=by intro a g;obtain⟨i,q⟩:=Gl g;have:=Kj c q;simp only[R6,Ec,beq_iff_eq]at this;exact⟨i,Dq q,this.1.1,this.1.2,this.2⟩);refine⟨?_,?_⟩;rw[Ahv,A6q,Ec];constructor;rw[w,A];unfold Nt;simp[v,B];rw[Jq];intro a b;obtain⟨i,F,C,D,u⟩:=g a b;rw[Ahv,C,D,u,F5.1 u];unfold Nt;simp[Gm];omega;rw[I0,Au5 _ λa h=>(g a h).choose_spec.2.2.2];omega
def Mm(Δ:Ad)(d:Nat)(v:Int)(t:Ah):Bool:=Ky t d v||(H3 (Δ.take d) v t&&decide (Bu t<=200))
theorem A6s(g:Δ[d]?=some x)(b:x.V<=6)(t:Ah):((H3 (Δ.take (d+1)) x.V t&&decide (Bu t<=200))&&(Ky t d x.V || !mnt d t))=Mm Δ d x.V t:=by unfold Mm;cases h:Ky t d x.V with|true=>obtain⟨q,u⟩:=Au6 g b h;rw[q,An u];rfl|false=>rw[<-Au3 Δ d x.V t];cases H3 (Δ.take (d+1)) x.V t<;>cases decide (Bu t<=200)<;>simp
def SzD(Δ:Ad):Prop:=∀x∈Δ,x.O.length<=1048576/\∀y∈x.O,Dr y.R<=1048576
theorem SzD.short(h:SzD Δ):Kk Δ:=λx hx y hy=>by have h1:=(h x hx).2 y hy;have h2:=Kb y.R;refine⟨ω,λa ha=>?_⟩;have h3:=I9 ha;have c:=I0 a;have b:=Kb a.R;omega
theorem A6t(g:SzD Δ)(d c:Nat)(v:Δ[d]?=some x)(w:x.O[c]?=some y)(q:x.V<=6)(G:Δ.length<=1048576):Tl Δ d c=some (decide (y.R.length<=6)&&y.R.all (Mm Δ d x.V)):=by
 have b:=Dq v;have l:=(g x (Bm v)).2 y (Bm w);unfold Tl;rw[Bq rfl v,Ac,Bq rfl w,Ac,Ahx Δ d c g.short];by_cases k:y.R.length<=6
 .rw[Au (ω:¬(y.R.length:Int)>6),An k];simp only[Al,Bool.true_and,Ac];refine(Uc y.R (Mm Δ d x.V) (λj=>(j:Int)) rfl ω (rt:=true) (rf:=false) ?_ ?_).trans (by rw[R5])
  .intro j t A B C D;have s:=I9 (Bm A);have F:Ag (Ha Δ d c) (j:Int)=some (Ky t d x.V):=(by unfold Ha;simp only[Bq rfl v,Bq rfl w];rw[Bq rfl];simp[A]);simp only[B,C,D,Ak,Ac,show Aa ((d:Int)+1)=((d+1:Nat):Int)from Dl b ω,Ww rfl (show d+1<=Δ.length from b),Bq rfl v,
    Adg (Δ.take (d+1)) t x.V ω,F];rw[<-A6s v q t];cases i:(H3 (Δ.take (d+1)) x.V t&&decide (Bu t<=200))with
   |false=>exact⟨nofun,λ_=>⟨.inl false,rfl,rfl⟩⟩
   |true=>
    have f:Bu t<=200:=(by simp only[Ec,Es]at i;exact i.2);simp only[Fc,Al,Bool.true_and];cases u:Ky t d x.V with
    |true=>exact⟨λ_=>rfl,λh=>by cases h⟩
    |false=>simp only[Bool.not_false,Ak,A6p d 200 t 4000000 f ω ω,Ac,Bool.false_or];cases mnt d t with|true=>exact⟨nofun,λ_=>⟨.inl false,rfl,rfl⟩⟩|false=>exact⟨λ_=>rfl,λh=>by cases h⟩
  intro h;exact⟨.inr (),by simp only[h];rfl,rfl⟩
 rw[An (ω:(y.R.length:Int)>6),Au k];rfl
def bI(s:Β)(i:Nat):Int:=if h:i<s.size then(s[i].toNat:Int)else 0
def loI(c:Int):Bool:=decide (97<=c)&&decide (c<=122)
def upI(c:Int):Bool:=decide (65<=c)&&decide (c<=90)
def diI(c:Int):Bool:=decide (48<=c)&&decide (c<=57)
def wiI(c:Int):Bool:=loI c||upI c||diI c||c==95
def Gy(s:Β):Prop:=1<=s.size/\s.size<=24/\upI (bI s 0)=true/\∀i,i<s.size->wiI (bI s i)=true
theorem Kl{i:Int}{n:Nat}(hi:i=n)(h:n<s.size):∃c:UInt8,G3 s i=some c/\(c.toNat:Int)=bI s n:=by subst hi;refine⟨s[n],?_,?_⟩;unfold G3;rw[Av ω,show((n:Int)).toNat=n from rfl];simp[h];unfold bI;simp[h]
theorem Wy(hb:b<=s.size)(h:a+j<b):bI (s.extract a b) j=bI s (a+j):=by unfold bI;(have g:j<(s.extract a b).size:=by rw[ByteArray.size_extract];omega);rw[dif_pos g,dif_pos ω,ByteArray.getElem_extract]
theorem Qu{lo hi:Int}(g:lo=a)(h:hi=b)(q:a<=b)(c:b<=s.size):Fy s lo hi=some (s.extract a b):=by subst g;subst h;unfold Fy;rw[Av ω];rfl
theorem Au7{a b:Β}(h:a.toList=b.toList):a=b:=by rw[ByteArray.toList_eq,ByteArray.toList_eq]at h;have:a.data=b.data:=Array.toList_inj.1 h;cases a;cases b;simp at this;subst this;rfl
theorem Ahy(a b:Β):(a.toList==b.toList)=decide (a=b):=by by_cases h:a=b;subst h;simp;rw[Au h];cases g:(a.toList==b.toList)with|false=>rfl|true=>exact absurd (Au7 (by simpa using g)) h
theorem Anb(c:Int):Zd c=some (loI c):=by unfold Zd loI;by_cases h:(97:Int)<=c<;>simp[h]
theorem Anc(c:Int):Wn c=some (upI c):=by unfold Wn upI;by_cases h:(65:Int)<=c<;>simp[h]
theorem Adh(c:Int):T0 c=some (diI c):=by unfold T0 diI;by_cases h:(48:Int)<=c<;>simp[h]
theorem Au8(c:Int):Ze c=some (wiI c):=by unfold Ze wiI;rw[Anb,Anc,Adh];simp only[Ac];cases loI c<;>cases upI c<;>cases diI c<;>rfl
theorem A6u(c:Int):Acz c=some (loI c):=Anb c
theorem A6v(c:Int):Zb c=some (upI c):=Anc c
theorem A6w(c:Int):Zc c=some (diI c):=Adh c
theorem Zm{S E:Type}{step:S->Ο (S⊕E)}(s:Β)(p:Int->Bool)(b:Nat->S)(ex:Nat->E)(lo:Nat)(g:∀j,lo<=j->j<s.size->p (bI s j)=true->step (b j)=some (.inl (b (j+1))))(q:∀j,lo<=j->j<s.size->p (bI s j)=false->step (b j)=some (.inr (ex j)))(u:step (b s.size)=some (.inr (ex s.size))):∀(m i:Nat),lo<=i->i+m=s.size->∃n,i<=n/\n<=s.size/\(∀j,i<=j->j<n->p (bI s j)=true)/\(n<s.size->p (bI s n)=false)/\Am step (b i)=some (ex n):=by intro m;induction m with|zero=>intro i _ v;have:i=s.size:=ω;subst this;exact⟨s.size,ω,ω,λj _ _=>ω,λh=>ω,Ej u⟩|succ m ih=>intro i c v;cases hp:p (bI s i)with|true=>(obtain⟨n,F,w,A,B,C⟩:=ih (i+1) ω ω;refine⟨n,ω,w,λj G D=>?_,B,by rw[Ks (g i c ω hp)];exact C⟩;rcases Cj i j with h|h;exact A j h D;have:j=i:=ω;subst this;exact hp)|false=>exact⟨i,ω,ω,λj _ _=>ω,λ_=>hp,Ej (q i c ω hp)⟩
theorem A6x(s:Β)(f:s.size<1099511627776):∃n,n<=s.size/\(∀j,j<n->wiI (bI s j)=true)/\(n<s.size->wiI (bI s n)=false)/\Ac3 s=some (s.extract 0 n):=by have H:=Zm (step:=λh:Int=>bif h<(s.size:Int)then((G3 s h).bind λA=>(Ze (A.toNat:Int)).bind λB=>bif B then some (.inl (Aa (h+1)))else some (.inr h))else some (.inr h)) s wiI (λj=>(j:Int)) (λj=>(j:Int)) 0 (λj _ g hp=>by obtain⟨c,q,u⟩:=Kl (s:=s) (i:=(j:Int)) rfl g;simp only[An (ω:(j:Int)<(s.size:Int)),Ak,q,Ac,u,Au8,hp,Dl g ω]) (λj _ g hp=>by obtain⟨c,q,u⟩:=Kl (s:=s) (i:=(j:Int)) rfl g;simp only[An (ω:(j:Int)<(s.size:Int)),Ak,q,Ac,u,Au8,hp,Al]) ψ s.size 0 ω ω;obtain⟨n,_,w,C,D,v⟩:=H;refine⟨n,w,λj g=>C j ω g,D,?_⟩;unfold Ac3;have v:Am _ (0:Int)=some (n:Int):=v;rw[v,Ac,Qu (lo:=0) (a:=0) (b:=n) rfl rfl ω w];rfl
theorem A6y(s:Β)(f:s.size<1099511627776):∃n,n<=s.size/\(∀j,j<n->diI (bI s j)=true)/\(n<s.size->diI (bI s n)=false)/\Ahc s=some (s.extract 0 n):=by have H:=Zm (step:=λh:Int=>bif h<(s.size:Int)then((G3 s h).bind λA=>(T0 (A.toNat:Int)).bind λB=>bif B then some (.inl (Aa (h+1)))else some (.inr h))else some (.inr h)) s diI (λj=>(j:Int)) (λj=>(j:Int)) 0 (λj _ g hp=>by obtain⟨c,q,u⟩:=Kl (s:=s) (i:=(j:Int)) rfl g;simp only[An (ω:(j:Int)<(s.size:Int)),Ak,q,Ac,u,Adh,hp,Dl g ω]) (λj _ g hp=>by obtain⟨c,q,u⟩:=Kl (s:=s) (i:=(j:Int)) rfl g;simp only[An (ω:(j:Int)<(s.size:Int)),Ak,q,Ac,u,Adh,hp,Al]) ψ s.size 0 ω ω;obtain⟨n,_,w,C,D,v⟩:=H;refine⟨n,w,λj g=>C j ω g,D,?_⟩;unfold Ahc;have v:Am _ (0:Int)=some (n:Int):=v;rw[v,Ac,Qu (lo:=0) (a:=0) (b:=n) rfl rfl ω w];rfl
theorem Qv{c:Bool}{X Y:Ο R}(g:∃r,X=some r/\Q r)(h:∃r,Y=some r/\Q r):∃r,(bif c then X else Y)=some r/\Q r:=by cases c<;>assumption
theorem Adi{A:Type}{X:Ο A}{f:A->Ο R}(P:A->Prop)(g:∃a,X=some a/\P a)(q:∀a,P a->∃r,f a=some r/\Q r):∃r,X.bind f=some r/\Q r:=by obtain⟨a,e,h⟩:=g;rw[e];exact q a h
theorem A6z(s:Β):∃b,Ac4 s=some b/\True:=by unfold Ac4;repeat' first|refine Qv ?_ ?_|exact⟨_,rfl,trivial⟩
theorem A60(s:Β)(q:1<=s.size):∃r,Ac6 s=some r/\(r.size<=s.size):=by
 have g:Fy s 0 1=some (s.extract 0 1):=Qu rfl rfl ω q;(have c:(s.extract 0 1).size<=s.size:=by rw[ByteArray.size_extract];omega);unfold Ac6;refine Adi (λz=>∀r,z=.inl r->r.size<=s.size) ?_ ?_
 .by_cases v:2<=s.size
  .have f:Fy s 0 2=some (s.extract 0 2):=Qu rfl rfl ω v;have b:∀r,(Sum.inl (s.extract 0 2):Β⊕Unit)=.inl r->r.size<=s.size:=(by rintro r ⟨⟩;rw[ByteArray.size_extract];omega);simp only[f,Ac];repeat' first|refine Qv ?_ ?_|with_reducible exact⟨_,rfl,b⟩|exact⟨_,rfl,λr h=>by cases h⟩
  rw[Au ω];exact⟨_,rfl,λr h=>by cases h⟩
 .rintro (r|u) i;exact⟨_,rfl,i r rfl⟩
  .simp only[g,Ac];have w:(ByteArray.mk #[]).size<=s.size:=Nat.zero_le _;repeat' first|refine Qv ?_ ?_|with_reducible exact⟨_,rfl,c⟩|with_reducible exact⟨_,rfl,w⟩
theorem A61(s:Β)(f:s.size<1099511627776):∃b,Ac5 s=some b/\True:=by unfold Ac5;refine Ft (λ(_,i)=>∃j:Nat,i=j/\j<=s.size) (λ(_,i)=>s.size-i.toNat) (λ_=>True) ⟨0,rfl,ω⟩ ?_ ?_;rintro⟨v,i⟩ ⟨j,rfl,q⟩;rcases Cj j s.size with h|h;obtain⟨c,g,_⟩:=Kl (s:=s) (i:=(j:Int)) rfl h;simp only[An (ω:(j:Int)<(s.size:Int)),Ak,g,Ac,Dl h ω];(cases decide (Aa (Aa (v*10)+Aa (wu8 ((c.toNat:Int)-48)))>1000000)with|true=>exact .inr ⟨_,rfl,trivial⟩|false=>exact .inl ⟨_,rfl,⟨j+1,rfl,ω⟩,ζ⟩);have:j=s.size:=ω;subst this;exact .inr ⟨.inr (),ψ,trivial⟩;rintro(r|u) _<;>exact⟨_,rfl,trivial⟩
theorem A62(s:Β)(i:Nat)(hi:i<s.size)(L:s.size<1099511627776):∃r,Acu s i=some r/\(r.2=0->1<=r.1.Text.size/\i+r.1.Text.size<=s.size/\(r.1.G=2->Gy r.1.Text))/\(Gy s->i=0->r=(⟨2,s,0⟩,0)):=by obtain⟨c,N,P⟩:=Kl (s:=s) (i:=(i:Int)) rfl hi;have u:Fy s (i:Int) (s.size:Int)=some (s.extract i s.size):=Qu rfl rfl ω ω;(have G:(s.extract i s.size).size=s.size-i:=by rw[ByteArray.size_extract];omega);have x:bI (s.extract i s.size) 0=bI s i:=Wy ω ω;unfold Acu;simp only[N,Ac,P,Anb,Anc,Adh,u];(have T:(bif loI (bI s i)then some true else some (upI (bI s i)))=some (loI (bI s i)||upI (bI s i)):=by cases loI (bI s i)<;>rfl);rw[T];simp only[Ac];cases l:(loI (bI s i)||upI (bI s i))with|true=>obtain⟨n,E,B,y,F⟩:=A6x (s.extract i s.size) ω;(have z:1<=n:=by rcases Nat.eq_zero_or_pos n with h|h;subst h;have:=y ω;rw[x]at this;unfold wiI at this;rw[l]at this;cases this;exact h);have H:(s.extract i s.size).extract 0 n=s.extract i (i+n):=(by rw[ByteArray.extract_extract];congr 1;omega);have q:(s.extract i (i+n)).size=n:=(by rw[ByteArray.size_extract];omega);rw[H]at F;simp only[Ak,F,Ac,q];(have g:Gy s->i=0->n=s.size:=by intro w C;rcases Cj n s.size with h|h;have:=y ω;rw[Wy ω ω,w.2.2.2 _ ω]at this;cases this;omega);by_cases I:n<=24;rw[Au ω];(cases k:upI (bI s i)with|true=>refine⟨_,rfl,λ_=>⟨?_,?_,λ_=>⟨?_,?_,?_,?_⟩⟩,?_⟩;show 1<=(s.extract i (i+n)).size;omega;show i+(s.extract i (i+n)).size<=s.size;omega;show 1<=(s.extract i (i+n)).size;omega;show(s.extract i (i+n)).size<=24;omega;show upI (bI (s.extract i (i+n)) 0)=true;rw[Wy ω ω];exact k;show ∀j,j<(s.extract i (i+n)).size->wiI (bI (s.extract i (i+n)) j)=true;intro j V;rw[Wy ω ω];have:=B j ω;rw[Wy ω ω]at this;exact this;intro w C;have:=g w C;subst C;subst this;rw[Nat.zero_add,ByteArray.extract_zero_size];rfl|false=>obtain⟨b,K,_⟩:=A6z (s.extract i (i+n));simp only[Al,K,Ac];have f:Gy s->i=0->False:=(by intro w C;subst C;rw[w.2.2.1]at k;cases k);cases b with|true=>exact⟨_,rfl,λ_=>⟨by show 1<=(s.extract i (i+n)).size;omega,by show i+(s.extract i (i+n)).size<=s.size;omega,λh=>by cases h⟩,λw C=>(f w C).elim⟩|false=>exact⟨_,rfl,λ_=>⟨by show 1<=(s.extract i (i+n)).size;omega,by show i+(s.extract i (i+n)).size<=s.size;omega,λh=>by cases h⟩,λw C=>(f w C).elim⟩);rw[An ω];refine⟨_,rfl,nofun,λw C=>?_⟩;have:=g w C;have:=w.2.1;omega|false=>have f:Gy s->i=0->False:=(by intro w C;subst C;rw[w.2.2.1,Bool.or_true]at l;cases l);simp only[Al];cases U:diI (bI s i)with|true=>obtain⟨n,E,B,y,F⟩:=A6y (s.extract i s.size) ω;(have z:1<=n:=by rcases Nat.eq_zero_or_pos n with h|h;subst h;have:=y ω;rw[x,U]at this;cases this;exact h);have H:(s.extract i s.size).extract 0 n=s.extract i (i+n):=(by rw[ByteArray.extract_extract];congr 1;omega);have q:(s.extract i (i+n)).size=n:=(by rw[ByteArray.size_extract];omega);rw[H]at F;obtain⟨b,K,_⟩:=A61 (s.extract i (i+n)) ω;simp only[Ak,F,Ac,K];refine Adi (λ_=>True) ?_ ?_;exact Qv ⟨_,rfl,trivial⟩ ⟨_,rfl,trivial⟩;intro v _;refine Qv ⟨_,rfl,nofun,λw C=>(f w C).elim⟩ (Qv ⟨_,rfl,nofun,λw C=>(f w C).elim⟩ ⟨_,rfl,λ_=>⟨?_,?_,λh=>by cases h⟩,λw C=>(f w C).elim⟩);show 1<=(s.extract i (i+n)).size;omega;show i+(s.extract i (i+n)).size<=s.size;omega|false=>obtain⟨r,D,J⟩:=A60 (s.extract i s.size) ω;simp only[Al,D,Ac];rw[Ahy];by_cases M:r=ByteArray.mk #[];rw[An M];exact⟨_,rfl,nofun,λw C=>(f w C).elim⟩;rw[Au M];refine⟨_,rfl,λ_=>⟨?_,?_,λh=>by cases h⟩,λw C=>(f w C).elim⟩;show 1<=r.size;rcases Nat.eq_zero_or_pos r.size with h|h;have A:r.data.toList.length=0:=(by simpa using h);exact absurd (Au7 (by rw[ByteArray.toList_eq,F5.1 A,ByteArray.toList_eq])) M;exact h;show i+r.size<=s.size;omega
theorem A63(c:Int):Acs c=some (c==9||c==10||c==13||c==32):=by unfold Acs;cases c==9<;>cases c==10<;>cases c==13<;>rfl
theorem Au9(s:Β)(N:s.size<1099511627776):∃b,Vz s=some b/\(b=true↔Gy s):=by unfold Vz Ag0;by_cases q:(s.size:Int)>16384;rw[An q];refine⟨false,rfl,by simp;rintro⟨_,h,_⟩;omega⟩;rw[Au q];simp only[Al];refine Adi (λr:List Lf×Int×Int=>(r.2.2≠0/\¬Gy s)\/(r.2.2=0/\∃o e,r.1=o++[e]/\(∀t∈o,t.G=2->Gy t.Text)/\(Gy s->o=[⟨2,s,0⟩]))) ?_ ?_;refine Ft (λ(F,f)=>∃i:Nat,F=i/\i<=s.size/\f.length<=i/\(∀t∈f,t.G=2->Gy t.Text)/\(Gy s->(i=0/\f=[])\/(i=s.size/\f=[⟨2,s,0⟩]))) (λ(F,_)=>s.size-F.toNat) (λz=>match z with|.inl o=>o.length<=16384/\(∀t∈o,t.G=2->Gy t.Text)/\(Gy s->o=[⟨2,s,0⟩])|.inr (_,_,e)=>e≠0/\¬Gy s) ⟨0,rfl,ω,ψ,ψ,λ_=>.inl ⟨rfl,rfl⟩⟩ ?_ ?_;rintro⟨v,o⟩ ⟨i,rfl,hi,ho,K,hu⟩;rcases Cj i s.size with h|h;obtain⟨c,P,T⟩:=Kl (s:=s) (i:=(i:Int)) rfl h;(have g:Gy s->i=0/\o=[]:=λu=>by rcases hu u with w|w;exact w;omega);simp only[An (ω:(i:Int)<(s.size:Int)),Ak,P,Ac,T,A63];(cases E:(bI s i==9||bI s i==10||bI s i==13||bI s i==32)with|true=>(have k:¬Gy s:=by intro u;have h0:=(g u).1;subst h0;have:=u.2.2.1;simp only[upI,Ec,Es]at this;simp only[Bool.or_eq_true,beq_iff_eq]at E;omega);exact .inl ⟨(((i+1:Nat):Int),o),by simp only[Ak];rw[Dl h ω],⟨i+1,rfl,ω,(by show o.length<=i+1;omega),K,λu=>(k u).elim⟩,ζ⟩|false=>simp only[Al];cases B:(bI s i==35)with|true=>((have k:¬Gy s:=by intro u;have h0:=(g u).1;subst h0;have:=u.2.2.1;simp only[upI,Ec,Es]at this;simp only[beq_iff_eq]at B;omega);simp only[Ak];obtain⟨n,Z,Y,X,n4,D⟩:=Zm (step:=λC:Int=>bif C<(s.size:Int)then((G3 s C).bind λG=>bif((G.toNat:Int)==(10:Int))then some (.inr (.inl C))else some (.inl (Aa (C+1))))else some (.inr (.inr C))) s (λc=>!(c==10)) (λj=>(j:Int)) (λj=>if j<s.size then Sum.inl (j:Int)else Sum.inr (j:Int)) 0 (λj _ W hp=>by obtain⟨c,P,T⟩:=Kl (s:=s) (i:=(j:Int)) rfl W;simp only[Bool.not_eq_true']at hp;simp only[An (ω:(j:Int)<(s.size:Int)),Ak,P,Ac,T,hp,Dl W ω,Al]) (λj _ W hp=>by obtain⟨c,P,T⟩:=Kl (s:=s) (i:=(j:Int)) rfl W;simp only[Bool.not_eq_false']at hp;simp only[An (ω:(j:Int)<(s.size:Int)),Ak,P,Ac,T,hp,Av W]) ψ (s.size-i) i ω ω;(have R:i<n:=by rcases Cj i n with w|w;exact w;have:n=i:=ω;subst this;have:=n4 h;simp only[beq_iff_eq]at B;rw[B]at this;cases this);have D:Am _ (i:Int)=_:=D;rw[D,Ac];rcases Cj n s.size with w|w;rw[Av w];exact .inl ⟨((n:Int),o),rfl,⟨n,rfl,ω,(by show o.length<=n;omega),K,λu=>(k u).elim⟩,ζ⟩;rw[As ω];exact .inr ⟨.inl o,rfl,ω,K,λu=>(k u).elim⟩)|false=>obtain⟨r,M,L,I⟩:=A62 s i h N;simp only[Al,M,Ac];by_cases H:r.2=0;obtain⟨a1,a2,a3⟩:=L H;simp only[Et H,Al];rw[Dj ζ,Ac];refine .inl ⟨(((i+r.1.Text.size:Nat):Int),o++[r.1]),?_,⟨i+r.1.Text.size,rfl,a2,ζ,?_,?_⟩,ζ⟩;rw[show Aa ((i:Int)+(r.1.Text.size:Int))=((i+r.1.Text.size:Nat):Int)by rw[Aa,Bz]<;>omega];intro t ht;rcases Ea.1 ht with w|w;exact K t w;simp at w;subst w;exact a3;intro u;obtain⟨b1,b2⟩:=g u;have:=I u b1;subst b1;subst b2;subst this;exact .inr ⟨ψ,rfl⟩;simp only[Ep H,Ak];refine .inr ⟨_,rfl,H,λu=>?_⟩;rw[I u (g u).1]at H;exact H rfl);have:i=s.size:=ω;subst this;refine .inr ⟨.inl o,ψ,ω,K,λu=>?_⟩;(rcases hu u with⟨w,_⟩|⟨_,w⟩);have:=u.1;omega;exact w;rintro(o|⟨l,p,e⟩) J;obtain⟨V,z2,z3⟩:=J;simp only;rw[Dj ζ,Ac];exact⟨_,rfl,.inr ⟨rfl,o,_,rfl,z2,z3⟩⟩;exact⟨_,rfl,.inl J⟩;rintro⟨l,p,e⟩ (⟨h1,h2⟩|⟨h1,o,t,h2,h3,A⟩);simp only at h1;simp only[Cx h1,Al];exact⟨_,rfl,by simp[h2]⟩;simp only at h1 h2;subst h1;subst h2;simp only[beq_self_eq_true,Ak];match o,h3,A with|[],_,A=>exact⟨false,ψ,by simp;intro u;cases A u⟩|[x],h3,A=>have U:Ag ([x]++[t]) 0=some x:=rfl;simp only[U,Ac,Ahy];have S:((([x]++[t]).length:Int)==2)=true:=rfl;simp only[S,Ak];by_cases hx:x.G=2;simp only[Ew hx,Ak];refine⟨_,rfl,?_⟩;rw[decide_eq_true_iff];constructor;intro h;rw[<-h];exact h3 x ψ hx;intro u;have:=A u;simp at this;rw[this];simp only[Cx hx,Al];refine⟨_,rfl,?_⟩;simp only[Bool.false_eq_true,false_iff];intro u;have:=A u;simp at this;rw[this]at hx;exact hx rfl|x::y::ys,_,A=>refine⟨false,?_,by simp;intro u;have:=A u;simp at this⟩;rw[Cx];rfl;simp;omega
theorem A64(s:Β):∃b,Ag6 s=some b/\True:=by(have g:∀(L:Ct),L.length<1000->∃b,((Am (S:=Int) (E:=(Bool⊕Unit)) (λq=>bif q<(L.length:Int)then((Ag L q).bind λu=>bif(u.toList==s.toList)then some (.inr (.inl true))else some (.inl (Aa (q+1))))else some (.inr (.inr ()))) 0).bind λz=>match z with|.inl c=>some c|.inr _=>some false)=some b/\True:=by intro L f;refine⟨_,Uc L (λv=>!(v.toList==s.toList)) (λj=>(j:Int)) rfl ω (rt:=false) (rf:=true) ?_ ?_,trivial⟩;intro j x C w A B;simp only[w,A,B,Ak,Ac];(cases(x.toList==s.toList)with|true=>exact⟨nofun,λ_=>⟨_,rfl,rfl⟩⟩|false=>exact⟨λ_=>rfl,λh=>by cases h⟩);intro h;exact⟨.inr (),by simp only[h];rfl,rfl⟩);exact g _ δ
theorem A65(s:Β)(v:1<=s.size)(T:Β)(q:T.size<1000):∃r,((Am (S:=Int) (E:=(Int⊕Unit)) (λb=>bif b<(T.size:Int)then((G3 s 0).bind λl=>(G3 T b).bind λk=>bif((l.toNat:Int)==(k.toNat:Int))then some (.inr (.inl 1))else some (.inl (Aa (b+1))))else some (.inr (.inr ()))) 0).bind λz=>match z with|.inl f=>some f|.inr _=>some 0)=some r/\(r=0\/(1<=r/\r<=s.size)):=by refine Ft (λi=>∃j:Nat,i=j/\j<=T.size) (λi=>T.size-i.toNat) (λz=>∀r,z=.inl r->r=1) ⟨0,rfl,ω⟩ ?_ ?_;rintro i ⟨j,rfl,A⟩;rcases Cj j T.size with h|h;obtain⟨c,w,_⟩:=Kl (s:=T) (i:=(j:Int)) rfl h;obtain⟨d,d1,_⟩:=Kl (s:=s) (i:=0) (n:=0) rfl v;simp only[An (ω:(j:Int)<(T.size:Int)),Ak,w,d1,Ac,Dl h ω];(cases((d.toNat:Int)==(c.toNat:Int))with|true=>exact .inr ⟨_,rfl,λr h=>by cases h;rfl⟩|false=>exact .inl ⟨_,rfl,⟨j+1,rfl,ω⟩,ζ⟩);have:j=T.size:=ω;subst this;exact .inr ⟨.inr (),ψ,λr h=>by cases h⟩;rintro(r|u) g;exact⟨r,rfl,.inr (by have:=g r rfl;omega)⟩;exact⟨0,rfl,.inl rfl⟩
theorem A66(s:Β)(q:1<=s.size):∃r,Ac1 s=some r/\(r=0\/(1<=r/\r<=s.size)):=by
 unfold Ac1;refine Adi (λb=>b=true->2<=s.size) ?_ ?_
 .by_cases g:2<=s.size
  .have c:Fy s 0 2=some (s.extract 0 2):=Qu rfl rfl ω g;simp only[c,Ac];repeat' first|refine Qv ?_ ?_|exact⟨_,rfl,λ_=>g⟩
  rw[Au ω];exact⟨_,rfl,λh=>by cases h⟩
 rintro b u;cases b with|true=>exact⟨2,rfl,.inr ⟨ω,by have:=u rfl;omega⟩⟩|false=>exact A65 s q _ δ
theorem A67(s:Β)(g:s.size<1099511627776):∃b,Ac0 s=some b/\True:=by unfold Ac0;refine Ft (λ(_,i)=>∃j:Nat,i=j/\j<=s.size) (λ(_,i)=>s.size-i.toNat) (λ_=>True) ⟨0,rfl,ω⟩ ?_ ?_;rintro⟨v,i⟩ ⟨j,rfl,w⟩;rcases Cj j s.size with h|h;obtain⟨c,q,_⟩:=Kl (s:=s) (i:=(j:Int)) rfl h;simp only[An (ω:(j:Int)<(s.size:Int)),Ak,q,Ac,Dl h ω];(cases decide (Aa (Aa (v*10)+Aa (wu8 ((c.toNat:Int)-48)))>1000000)with|true=>exact .inr ⟨_,rfl,trivial⟩|false=>exact .inl ⟨_,rfl,⟨j+1,rfl,ω⟩,ζ⟩);have:j=s.size:=ω;subst this;exact .inr ⟨.inr v,ψ,trivial⟩;rintro(⟨r,f⟩|u) _<;>exact⟨_,rfl,trivial⟩
theorem Ava(s:Β)(hs:s.size<1099511627776):∃b,Wa s=some b/\(b=true↔Gy s):=by unfold Wa Ag3;by_cases I:(s.size:Int)>16384;rw[An I];refine⟨false,rfl,by simp;rintro⟨_,h,_⟩;omega⟩;rw[Au I];simp only[Al];refine Adi (λr:List Mi×Int×Int=>(r.2.2≠0/\¬Gy s)\/(r.2.2=0/\∃o e,r.1=o++[e]/\(∀t∈o,t.G=2->Gy t.Text)/\(Gy s->o=[⟨2,s,0⟩]))) ?_ ?_;refine Ft (λ(a0,G)=>∃i:Nat,a0=i/\i<=s.size/\G.length<=i/\(∀t∈G,t.G=2->Gy t.Text)/\(Gy s->(i=0/\G=[])\/(i=s.size/\G=[⟨2,s,0⟩]))) (λ(a0,_)=>s.size-a0.toNat) (λz=>match z with|.inr o=>o.length<=16384/\(∀t∈o,t.G=2->Gy t.Text)/\(Gy s->o=[⟨2,s,0⟩])|.inl (_,_,e)=>e≠0/\¬Gy s) ⟨0,rfl,ω,ψ,ψ,λ_=>.inl ⟨rfl,rfl⟩⟩ ?_ ?_;rintro⟨v,o⟩ ⟨i,rfl,hi,ho,hk,hu⟩;rcases Cj i s.size with h|h;obtain⟨c,F,H⟩:=Kl (s:=s) (i:=(i:Int)) rfl h;(have A:Gy s->i=0/\o=[]:=λu=>by rcases hu u with w|w;exact w;omega);(have f:∀j:Nat,i<=j->j<=s.size->Aa ((i:Int)+((j:Int)-(i:Int)))=(j:Int):=λj _ _=>by rw[Aa,Bz]<;>omega);(have U:(bif bI s i==9 then some true else bif bI s i==10 then some true else bif bI s i==13 then some true else some (bI s i==32))=some (bI s i==9||bI s i==10||bI s i==13||bI s i==32):=by cases bI s i==9<;>cases bI s i==10<;>cases bI s i==13<;>rfl);(have hw:(bif loI (bI s i)then some true else some (upI (bI s i)))=some (loI (bI s i)||upI (bI s i)):=by cases loI (bI s i)<;>rfl);simp only[An (ω:(i:Int)<(s.size:Int)),Ak,F,Ac,H,U,A6u,A6v,A6w,hw];(cases U:(bI s i==9||bI s i==10||bI s i==13||bI s i==32)with|true=>(have g:¬Gy s:=by intro u;have W:=(A u).1;subst W;have:=u.2.2.1;simp only[upI,Ec,Es]at this;simp only[Bool.or_eq_true,beq_iff_eq]at U;omega);exact .inl ⟨(((i+1:Nat):Int),o),by simp only[Ak];rw[Dl h ω],⟨i+1,rfl,ω,(by show o.length<=i+1;omega),hk,λu=>(g u).elim⟩,ζ⟩|false=>simp only[Al];cases R:(bI s i==35)with|true=>(have g:¬Gy s:=by intro u;have W:=(A u).1;subst W;have:=u.2.2.1;simp only[upI,Ec,Es]at this;simp only[beq_iff_eq]at R;omega);simp only[Ak];obtain⟨n,n1,D,n3,n4,B⟩:=Zm (step:=λP:Int=>bif P<(s.size:Int)then((G3 s P).bind λah=>bif((ah.toNat:Int) != (10:Int))then some (.inl (Aa (P+1)))else some (.inr P))else some (.inr P)) s (λc=>c != 10) (λj=>(j:Int)) (λj=>(j:Int)) 0 (λj _ K hp=>by obtain⟨c,F,H⟩:=Kl (s:=s) (i:=(j:Int)) rfl K;simp only[An (ω:(j:Int)<(s.size:Int)),Ak,F,Ac,H,hp,Dl K ω]) (λj _ K hp=>by obtain⟨c,F,H⟩:=Kl (s:=s) (i:=(j:Int)) rfl K;simp only[An (ω:(j:Int)<(s.size:Int)),Ak,F,Ac,H,hp,Al]) ψ (s.size-i) i ω ω;(have ai:i<n:=by rcases Cj i n with w|w;exact w;have:n=i:=ω;subst this;have:=n4 h;simp only[beq_iff_eq]at R;rw[R]at this;cases this);have B:Am _ (i:Int)=_:=B;rw[B,Ac];exact .inl ⟨((n:Int),o),rfl,⟨n,rfl,ω,(by show o.length<=n;omega),hk,λu=>(g u).elim⟩,ζ⟩|false=>simp only[Al];cases S:(loI (bI s i)||upI (bI s i))with|true=>simp only[Ak];obtain⟨n,n1,D,n3,n4,B⟩:=Zm (step:=λC:Int=>bif(Aa ((i:Int)+C))<(s.size:Int)then((G3 s (Aa ((i:Int)+C))).bind λag=>(some (loI (ag.toNat:Int))).bind λa8=>bif a8 then some (.inl (Aa (C+1)))else((G3 s (Aa ((i:Int)+C))).bind λaf=>(some (upI (af.toNat:Int))).bind λa7=>bif a7 then some (.inl (Aa (C+1)))else((G3 s (Aa ((i:Int)+C))).bind λae=>(some (diI (ae.toNat:Int))).bind λa6=>bif a6 then some (.inl (Aa (C+1)))else((G3 s (Aa ((i:Int)+C))).bind λad=>bif((ad.toNat:Int)==(95:Int))then some (.inl (Aa (C+1)))else some (.inr C)))))else some (.inr C)) s wiI (λj=>(j:Int)-(i:Int)) (λj=>(j:Int)-(i:Int)) i (λj q K hp=>by obtain⟨c,F,H⟩:=Kl (s:=s) (i:=(j:Int)) rfl K;(have V:Aa ((j:Int)-(i:Int)+1)=((j+1:Nat):Int)-(i:Int):=by rw[Aa,Bz]<;>omega);simp only[f j q ω,An (ω:(j:Int)<(s.size:Int)),Ak,F,Ac,H,V];unfold wiI at hp;revert hp;cases loI (bI s j)<;>cases upI (bI s j)<;>cases diI (bI s j)<;>cases(bI s j==95)<;>simp) (λj q K hp=>by obtain⟨c,F,H⟩:=Kl (s:=s) (i:=(j:Int)) rfl K;simp only[f j q ω,An (ω:(j:Int)<(s.size:Int)),Ak,F,Ac,H];unfold wiI at hp;revert hp;cases loI (bI s j)<;>cases upI (bI s j)<;>cases diI (bI s j)<;>cases(bI s j==95)<;>simp) (by simp only[f s.size hi ω];simp) (s.size-(i+1)) (i+1) ω ω;have Z:((i+1:Nat):Int)-(i:Int)=1:=ω;simp only[Z]at B;simp only[Ac]at B;rw[B,Ac];(have k:Fy s (i:Int) (Aa ((i:Int)+((n:Int)-(i:Int))))=some (s.extract i n):=by rw[f n ω D];exact Qu rfl rfl ω D);(have X:(s.extract i n).size=n-i:=by rw[ByteArray.size_extract];omega);(have Y:∀j,i<=j->j<n->wiI (bI s j)=true:=λj a1 a2=>by rcases Cj i j with w|w;exact n3 j w a2;have:j=i:=ω;subst this;unfold wiI;rw[S];rfl);(have E:Gy s->n=s.size:=by intro u;rcases Cj n s.size with w|w;have:=n4 w;rw[u.2.2.2 _ w]at this;cases this;omega);by_cases aj:n-i<=24;rw[Au ω];simp only[Al];(cases N:upI (bI s i)with|true=>(simp only[Ak,Ac,k];rw[Dj ζ,Ac,f n ω D];refine .inl ⟨_,rfl,⟨n,rfl,D,ζ,?_,?_⟩,ζ⟩;intro t ht;rcases Ea.1 ht with w|w;exact hk t w;simp only[Fh]at w;subst w;intro _;refine⟨?_,?_,?_,?_⟩;show 1<=(s.extract i n).size;omega;show(s.extract i n).size<=24;omega;show upI (bI (s.extract i n) 0)=true;rw[Wy ω ω];exact N;show ∀j,j<(s.extract i n).size->wiI (bI (s.extract i n) j)=true;intro j K;rw[Wy ω ω];exact Y _ ω ω;intro u;obtain⟨b1,b2⟩:=A u;have hf:=E u;subst b1;subst b2;subst hf;rw[ByteArray.extract_zero_size];exact .inr ⟨rfl,rfl⟩)|false=>obtain⟨b,hb,_⟩:=A64 (s.extract i n);(have g:¬Gy s:=by intro u;have W:=(A u).1;subst W;rw[u.2.2.1]at N;cases N);(have ab:∃M:Int,(bif b then some 4 else some 1:A9)=some M/\M≠2:=by cases b<;>exact⟨_,rfl,δ⟩);obtain⟨M,k1,k2⟩:=ab;simp only[Al,Ac,k,hb,k1];rw[Dj ζ,Ac,f n ω D];refine .inl ⟨_,rfl,⟨n,rfl,D,ζ,?_,λu=>(g u).elim⟩,ζ⟩;intro t ht;rcases Ea.1 ht with w|w;exact hk t w;simp only[Fh]at w;subst w;intro w;exact absurd w k2);rw[An ω];refine .inr ⟨_,rfl,(by show(9:Int)≠0;decide),λu=>?_⟩;have:=E u;have:=u.2.1;have:=(A u).1;omega|false=>(have g:¬Gy s:=by intro u;have W:=(A u).1;subst W;rw[u.2.2.1,Bool.or_true]at S;cases S);(have J:∀(n:Nat)(M:Int),i<n->n<=s.size->M≠2->∃s':Int×List Mi,(B5 32 o [Mi.mk M (s.extract i n) i]).bind (λaa=>(some (Sum.inl ((n:Int),aa)):Ο ((Int×List Mi)⊕((List Mi×Int×Int)⊕List Mi))))=some (.inl s')/\(∃j:Nat,s'.1=j/\j<=s.size/\s'.2.length<=j/\(∀t∈s'.2,t.G=2->Gy t.Text)/\(Gy s->(j=0/\s'.2=[])\/(j=s.size/\s'.2=[⟨2,s,0⟩])))/\s.size-s'.1.toNat<s.size-i:=by intro n M a1 a2 a3;rw[Dj ζ,Ac];refine⟨_,rfl,⟨n,rfl,a2,ζ,?_,λu=>(g u).elim⟩,ζ⟩;intro t ht;rcases Ea.1 ht with w|w;exact hk t w;simp only[Fh]at w;subst w;intro w;exact absurd w a3);simp only[Al];cases hd:diI (bI s i)with|true=>(simp only[Ak];obtain⟨n,n1,D,n3,n4,B⟩:=Zm (step:=λT:Int=>bif(Aa ((i:Int)+T))<(s.size:Int)then((G3 s (Aa ((i:Int)+T))).bind λac=>(some (diI (ac.toNat:Int))).bind λa4=>bif a4 then some (.inl (Aa (T+1)))else some (.inr T))else some (.inr T)) s diI (λj=>(j:Int)-(i:Int)) (λj=>(j:Int)-(i:Int)) i (λj q K hp=>by obtain⟨c,F,H⟩:=Kl (s:=s) (i:=(j:Int)) rfl K;(have V:Aa ((j:Int)-(i:Int)+1)=((j+1:Nat):Int)-(i:Int):=by rw[Aa,Bz]<;>omega);simp only[f j q ω,An (ω:(j:Int)<(s.size:Int)),Ak,F,Ac,H,V,hp]) (λj q K hp=>by obtain⟨c,F,H⟩:=Kl (s:=s) (i:=(j:Int)) rfl K;simp only[f j q ω,An (ω:(j:Int)<(s.size:Int)),Ak,F,Ac,H,hp,Al]) (by simp only[f s.size hi ω];simp) (s.size-(i+1)) (i+1) ω ω;have Z:((i+1:Nat):Int)-(i:Int)=1:=ω;simp only[Z]at B;simp only[Ac]at B;rw[B,Ac];have k:Fy s (i:Int) (n:Int)=some (s.extract i n):=Qu rfl rfl ω D;(have X:(s.extract i n).size=n-i:=by rw[ByteArray.size_extract];omega);obtain⟨b,hb,_⟩:=A67 (s.extract i n) ω;(obtain⟨b',a5⟩:∃b':Bool,(bif decide ((n:Int)-(i:Int)>1)then some (bI s i==48)else some false)=some b':=by cases decide ((n:Int)-(i:Int)>1)<;>exact⟨_,rfl⟩);simp only[a5,Ac,k,hb,f n ω D];cases b' with|true=>exact .inr ⟨_,rfl,(by show(2:Int)≠0;decide),g⟩|false=>simp only[Al];cases b.2 with|true=>exact .inl (J n 3 ω D δ)|false=>exact .inr ⟨_,rfl,(by show(9:Int)≠0;decide),g⟩)|false=>have k:Fy s (i:Int) (s.size:Int)=some (s.extract i s.size):=Qu rfl rfl ω ω;(have X:(s.extract i s.size).size=s.size-i:=by rw[ByteArray.size_extract];omega);obtain⟨r,r1,r2⟩:=A66 (s.extract i s.size) ω;simp only[Al,k,Ac,r1];by_cases W:r=0;subst W;exact .inr ⟨_,rfl,(by show(2:Int)≠0;decide),g⟩;simp only[Cx W,Al];obtain⟨m,hm⟩:∃m:Nat,r=m:=⟨r.toNat,ω⟩;subst hm;(have V:Aa ((i:Int)+(m:Int))=((i+m:Nat):Int):=by rw[Aa,Bz]<;>omega);rw[V,Qu (s:=s) (lo:=(i:Int)) (hi:=((i+m:Nat):Int)) rfl rfl ω ω,Ac];exact .inl (J (i+m) 5 ω ω δ));have:i=s.size:=ω;subst this;refine .inr ⟨.inr o,ψ,ω,hk,λu=>?_⟩;(rcases hu u with⟨w,_⟩|⟨_,w⟩);have:=u.1;omega;exact w;rintro(⟨l,p,e⟩|o) hz;exact⟨_,rfl,.inl hz⟩;obtain⟨z1,z2,z3⟩:=hz;simp only;rw[Dj ζ,Ac];exact⟨_,rfl,.inr ⟨rfl,o,_,rfl,z2,z3⟩⟩;rintro⟨l,p,e⟩ (⟨h1,h2⟩|⟨h1,o,t,h2,h3,L⟩);simp only at h1;simp only[Cx h1,Al];exact⟨_,rfl,by simp[h2]⟩;simp only at h1 h2;subst h1;subst h2;simp only[beq_self_eq_true,Ak];match o,h3,L with|[],_,L=>exact⟨false,ψ,by simp;intro u;cases L u⟩|[x],h3,L=>have Z:Ag ([x]++[t]) 0=some x:=rfl;simp only[Z,Ac,Ahy];have V:((([x]++[t]).length:Int)==2)=true:=rfl;simp only[V,Ak];by_cases hx:x.G=2;simp only[Ew hx,Ak];refine⟨_,rfl,?_⟩;rw[decide_eq_true_iff];constructor;intro h;rw[<-h];exact h3 x ψ hx;intro u;have:=L u;simp at this;rw[this];simp only[Cx hx,Al];refine⟨_,rfl,?_⟩;simp only[Bool.false_eq_true,false_iff];intro u;have:=L u;simp at this;rw[this]at hx;exact hx rfl|x::y::ys,_,L=>refine⟨false,?_,by simp;intro u;have:=L u;simp at this⟩;rw[Cx];rfl;simp;omega
def Wz(Δ:Ad)(d:Nat)(v:Int)(y:Pm):Prop:=Gy y.S/\y.R.length<=6/\y.R.all (Mm Δ d v)=true
def Ue(Δ:Ad)(d:Nat)(x:Ao):Prop:=0<=x.V/\x.V<=6/\1<=x.O.length/\x.O.length<=8/\Gy x.S/\∀y∈x.O,Wz Δ d x.V y
def Ig(x:Ao):Ct:=x.O.map (·.S)
def Ih(Δ:Ad):Prop:=Δ.length<=12/\(∀d x,Δ[d]?=some x->Ue Δ d x)/\(Δ.map (·.S)).Nodup/\(Δ.flatMap Ig).Nodup
structure DSz(Δ:List Ao):Prop where
 len:Δ.length<=1048576
 sz:SzD Δ
 nm:∀x∈Δ,x.S.size<=1048576
 cn:∀x∈Δ,∀y∈x.O,y.S.size<=1048576
theorem Of(a b:Β):(a==b)=true↔a=b:=by
 constructor
 .intro h;cases a with|mk a=>cases b with|mk b=>
  have:a=b:=(by exact eq_of_beq h);rw[this]
 rintro rfl;cases a with|mk a=>exact beq_self_eq_true a
def M8(o:Er)(L:Ct):Prop:=(∀p∈o,p.2=true)/\∀s,Fz o s=true↔s∈L
theorem M8.nil:M8 [] []:=⟨ψ,by simp[Fz]⟩
theorem M8.get(h:M8 o L)(b:Fz o s=true):I5 o s false=true:=by unfold I5;unfold Fz at b;rw[any_eq_true]at b;obtain⟨p,f,c⟩:=b;cases hf:o.find? (λp=>s==p.1)with|none=>exact absurd c (by have:=find?_eq_none.1 hf p f;simpa using this)|some q=>exact h.1 q (mem_of_find?_eq_some hf)
theorem A68(o:Er)(s t:Β)(v:Bool):Fz (G7 o s v) t=(Fz o t||t==s):=by induction o with|nil=>simp[G7,Fz]|cons p o ih=>unfold G7;cases hp:(s==p.1)with|true=>have:s=p.1:=(Of _ _).1 hp;subst this;simp only[Ak,Fz,any_cons];cases t==p.1<;>simp|false=>simp only[Fz,any_cons]at ih⊢;simp only[Al,any_cons,ih,Bool.or_assoc]
theorem M8.put(h:M8 o L)(s:Β):M8 (G7 o s true) (L++[s]):=by refine⟨?_,λt=>?_⟩;(have:∀o:Er,(∀p∈o,p.2=true)->∀p∈G7 o s true,p.2=true:=by intro o;induction o with|nil=>intro _ p hp;simp[G7]at hp;rw[hp]|cons q o ih=>intro b p hp;unfold G7 at hp;cases g:(s==q.1)with|true=>(rw[g]at hp;simp only[Ak,En]at hp;rcases hp with rfl|hp;rfl;exact b p (by simp[hp]))|false=>rw[g]at hp;simp only[Al,En]at hp;rcases hp with rfl|hp;exact b _ ψ;exact ih (λp hp=>b p (by simp[hp])) p hp);exact this o h.1;rw[A68,Bool.or_eq_true,h.2 t,Of];simp
theorem A69(x:Ao){c:Nat}(g:x.O[c]?=some y):Ig x=(x.O.take c).map (·.S)++y.S::(x.O.drop (c+1)).map (·.S):=by
 have h:=take_append_drop c x.O
 have q:=Dq g
 have e:x.O.drop c=y::x.O.drop (c+1):=by
  rw[drop_eq_getElem_cons q]
  rw[Bi q]at g
  rw[E6 g]
 unfold Ig
 conv=>lhs;rw[<-h,e]
 simp
theorem Avb{m:Ct}(h:(L++s::m).Nodup):s∉L:=by rw[nodup_append]at h;intro b;exact h.2.2 s b s ψ rfl
theorem Ane(h:L.Nodup)(c:s∉L):(L++[s]).Nodup:=by rw[nodup_append];refine⟨h,ψ,?_⟩;intro a q b g;simp at g;subst g;intro e;subst e;exact c q
theorem A7a(s:DSz Δ)(V:Δ[d]?=some x)(I:x.V<=6)(o:Er)(L:Ct)(J:M8 o L)(N:L.Nodup):∃z,Am (S:=(Int×List (Β×Bool))) (E:=(Bool⊕(Int×List (Β×Bool)))) (λ(f,g)=>bif f<(x.O.length:Int)then((Ag x.O f).bind λw=>(Vz w.S).bind λA=>bif(!A)then some (.inr (.inl false))else(bif(Fz g w.S)then(bif(I5 g w.S (false:Bool))then some (.inr (.inl false))else((Tl Δ d f).bind λu=>bif(!u)then some (.inr (.inl false))else some (.inl (Aa (f+1),G7 g w.S true))))else((Tl Δ d f).bind λP=>bif(!P)then some (.inr (.inl false))else some (.inl (Aa (f+1),G7 g w.S true)))))else some (.inr (.inr (f,g)))) (0,o)=some z/\match z with
   |.inl r=>r=false/\¬((∀y∈x.O,Wz Δ d x.V y)/\(L++Ig x).Nodup)
   |.inr (_,o')=>(∀y∈x.O,Wz Δ d x.V y)/\(L++Ig x).Nodup/\M8 o' (L++Ig x):=by
 have H:=Bm V;have M:=(s.sz x H).1;refine Kf (λ(f,g)=>∃c:Nat,f=c/\c<=x.O.length/\(∀y∈x.O.take c,Wz Δ d x.V y)/\(L++(x.O.take c).map (·.S)).Nodup/\M8 g (L++(x.O.take c).map (·.S))) (λ(f,_)=>x.O.length-f.toNat) _ ?_ _ ⟨0,rfl,ω,ψ,by simpa using N,by simpa using J⟩;rintro⟨v,g⟩ ⟨c,rfl,hc,T,U,C⟩;rcases Cj c x.O.length with h|h
 .have F:x.O[c]?=some x.O[c]:=Bi h;generalize x.O[c]=y at F;have l:=Bm F;obtain⟨b,b1,W⟩:=Au9 y.S (by have:=s.cn x H y l;omega);have ht:=Cs F;have D:L++Ig x=(L++(x.O.take c).map (·.S))++y.S::(x.O.drop (c+1)).map (·.S):=(by rw[A69 x F];simp);simp only[An (ω:(c:Int)<(x.O.length:Int)),Ak,Bq rfl F,Ac,b1,A6t s.sz d c V F I s.len,Dl h ω];cases b with
  |false=>refine .inr ⟨.inl false,rfl,rfl,λk=>?_⟩;have:=W.2 (k.1 y l).1;cases this
  |true=>
   simp only[Fc,Al];cases j:Fz g y.S with
   |true=>simp only[Ak,C.get j];refine .inr ⟨.inl false,rfl,rfl,λk=>?_⟩;rw[D]at k;exact Avb k.2 ((C.2 _).1 j)
   |false=>
    simp only[Al];cases i:(decide (y.R.length<=6)&&y.R.all (Mm Δ d x.V))with
    |false=>refine .inr ⟨.inl false,rfl,rfl,λk=>?_⟩;have:=k.1 y l;rw[this.2.2,An this.2.1]at i;cases i
    |true=>
     simp only[Ec,Es]at i;have B:y.S∉L++(x.O.take c).map (·.S):=λk=>by rw[(C.2 _).2 k]at j;cases j
     have e:L++(x.O.take (c+1)).map (·.S)=(L++(x.O.take c).map (·.S))++[y.S]:=(by rw[ht];simp);refine .inl ⟨_,rfl,⟨c+1,rfl,ω,?_,?_,?_⟩,ζ⟩
     .intro G q;rw[ht]at q;rcases Ea.1 q with K|K
      .exact T G K
      .simp at K;subst K;exact⟨W.1 rfl,i.1,i.2⟩
     .rw[e];exact Ane U B
     .rw[e];exact C.put _
 .have:c=x.O.length:=ω;subst this;rw[Dh]at T U C;exact .inr ⟨.inr ((x.O.length:Int),g),ψ,T,U,C⟩
theorem A7b(g:Δ[d]?=some x):Δ.flatMap Ig=((Δ.take d).flatMap Ig++Ig x)++(Δ.drop (d+1)).flatMap Ig/\Δ.map (·.S)=(Δ.take d).map (·.S)++x.S::(Δ.drop (d+1)).map (·.S):=by
 have h:=take_append_drop d Δ
 have q:=Dq g
 have e:Δ.drop d=x::Δ.drop (d+1):=by
  rw[drop_eq_getElem_cons q]
  rw[Bi q]at g
  rw[E6 g]
 constructor
 .conv=>lhs;rw[<-h,e]
  simp[flatMap_append]
 .conv=>lhs;rw[<-h,e]
  simp
theorem A7c(j:DSz Δ):∃b,Abu Δ=some b/\(b=true↔Ih Δ):=by have G:=j.len;unfold Abu;rcases Cj 12 Δ.length with K|K;rw[An ω];exact⟨false,rfl,by simp;intro h;have:=h.1;omega⟩;rw[Au ω];simp only[Al];refine Ft (λ(F,f,g)=>∃d:Nat,F=d/\d<=Δ.length/\(∀k x,k<d->Δ[k]?=some x->Ue Δ k x)/\((Δ.take d).map (·.S)).Nodup/\((Δ.take d).flatMap Ig).Nodup/\M8 f ((Δ.take d).map (·.S))/\M8 g ((Δ.take d).flatMap Ig)) (λ(F,_,_)=>Δ.length-F.toNat) (λz=>match z with|.inl r=>r=false/\¬Ih Δ|.inr _=>Ih Δ) ⟨0,rfl,ω,by intro k x h;omega,ψ,ψ,by simpa using M8.nil,by simpa using M8.nil⟩ ?_ ?_;rintro⟨v,f,g⟩ ⟨d,rfl,hd,h1,P,T,B,V⟩;rcases Cj d Δ.length with h|h;have w:Δ[d]?=some Δ[d]:=Bi h;generalize Δ[d]=x at w;have W:=Bm w;obtain⟨b,b1,b2⟩:=Au9 x.S (by have:=j.nm x W;omega);obtain⟨f1,f2⟩:=A7b w;simp only[An (ω:(d:Int)<(Δ.length:Int)),Ak,Bq rfl w,Ac,b1];have C:∀(y:¬Ue Δ d x),∃e:Bool⊕(List (Β×Bool)×List (Β×Bool)),(some (Sum.inr (Sum.inl false)):Ο ((Int×List (Β×Bool)×List (Β×Bool))⊕(Bool⊕(List (Β×Bool)×List (Β×Bool)))))=some (.inr e)/\(match e with|.inl r=>r=false/\¬Ih Δ|.inr _=>Ih Δ):=λy=>⟨.inl false,rfl,rfl,λc=>y (c.2.1 d x w)⟩;(cases b with|false=>exact .inr (C λc=>by have:=b2.2 c.2.2.2.2.1;cases this)|true=>simp only[Fc,Al];cases i:Fz f x.S with|true=>simp only[Ak,B.get i,Ac];refine .inr ⟨.inl false,rfl,rfl,λc=>?_⟩;have:=c.2.2.1;rw[f2]at this;exact Avb this ((B.2 _).1 i)|false=>simp only[Al];by_cases q:x.V<0;simp only[An q,Ak,Ac];exact .inr (C λc=>by have:=c.1;omega);by_cases u:x.V>6;simp only[Au q,An u,Ak,Al,Ac];exact .inr (C λc=>by have:=c.2.1;omega);simp only[Au q,Au u,Al,Ac];by_cases s:(x.O.length:Int)<1;simp only[An s,Ak,Ac];exact .inr (C λc=>by have:=c.2.2.1;omega);by_cases A:(x.O.length:Int)>8;simp only[Au s,An A,Ak,Al,Ac];exact .inr (C λc=>by have:=c.2.2.2.1;omega);simp only[Au s,Au A,Al,Ac];obtain⟨z,L,H⟩:=A7a j w ω g _ V T;rw[L,Ac];match z,H with|.inl r,H=>obtain⟨rfl,H⟩:=H;refine .inr ⟨.inl false,rfl,rfl,λc=>H ⟨(c.2.1 d x w).2.2.2.2.2,?_⟩⟩;have:=c.2.2.2;rw[f1]at this;exact(nodup_append.1 this).1|.inr (a0,D),H=>obtain⟨R,N,M⟩:=H;have ht:=Cs w;(have E:x.S∉(Δ.take d).map (·.S):=λc=>by rw[(B.2 _).2 c]at i;cases i);have J:(Δ.take (d+1)).map (·.S)=(Δ.take d).map (·.S)++[x.S]:=(by rw[ht];simp);have I:(Δ.take (d+1)).flatMap Ig=(Δ.take d).flatMap Ig++Ig x:=(by rw[ht];simp[flatMap_append]);refine .inl ⟨(((d+1:Nat):Int),G7 f x.S true,D),by simp only[Dl h ω],⟨d+1,rfl,ω,?_,?_,?_,?_,?_⟩,ζ⟩;intro k S U l;rcases Cj k d with h'|h';exact h1 k S h' l;have:k=d:=ω;subst this;rw[w]at l;cases l;exact⟨ω,ω,ω,ω,b2.1 rfl,R⟩;rw[J];exact Ane P E;rw[I];exact N;rw[J];exact B.put _;rw[I];exact M);have:d=Δ.length:=ω;subst this;rw[Dh]at P T;exact .inr ⟨.inr (f,g),ψ,K,λd x w=>h1 d x (Dq w) w,P,T⟩;rintro(r|⟨o,o'⟩) j;obtain⟨rfl,j⟩:=j;exact⟨false,rfl,by simp[j]⟩;exact⟨true,rfl,by simpa using j⟩
theorem Anf(c:DSz Δ):∃b,Yj Δ=some b/\(b=true↔Ih Δ):=by obtain⟨b,g,h⟩:=A7c c;refine⟨b,?_,h⟩;unfold Yj;rw[g,Ac];cases b with|false=>rfl|true=>rfl
theorem A7d{l:Ct}{x:Β}(h:l[j]?=some x)(v:l.Nodup):∀i y,i<j->l[i]?=some y->y≠x:=by intro i y w g e;subst e;have q:=Dq h;have u:i<l.length:=ω;rw[Bi q]at h;rw[Bi u]at g;have:=(List.nodup_iff_pairwise_ne.1 v);rw[pairwise_iff_getElem]at this;exact this i j u q w (by rw[E6 h,E6 g])
theorem Avc(l:Ct)(M:l.length<1099511627776):∃b,Y4 l=some b/\(b=false↔l.Nodup):=by unfold Y4;refine Ft (λv=>∃i:Nat,v=i/\i<=l.length/\(l.take i).Nodup) (λv=>l.length-v.toNat) (λz=>match z with|.inl r=>r=true/\¬l.Nodup|.inr _=>l.Nodup) ⟨0,rfl,ω,ψ⟩ ?_ ?_;rintro v ⟨i,rfl,V,P⟩;rcases Cj i l.length with h|h;have K:l[i]?=some l[i]:=Bi h;generalize l[i]=x at K;have D:(l.take i).length=i:=ζ;(have B:∃z,Am (S:=Int) (E:=(Bool⊕Int)) (λw=>bif w<(i:Int)then((Ag l (i:Int)).bind λU=>(Ag l w).bind λJ=>bif(U.toList==J.toList)then some (.inr (.inl true))else some (.inl (Aa (w+1))))else some (.inr (.inr w))) 0=some z/\(match z with|.inl r=>r=true/\x∈l.take i|.inr _=>x∉l.take i):=by refine Kf (λw:Int=>∃j:Nat,w=j/\j<=i/\∀k y,k<j->l[k]?=some y->y≠x) (λw=>i-w.toNat) _ ?_ _ ⟨0,rfl,ω,λk y C=>ω⟩;rintro w ⟨j,rfl,W,g⟩;rcases Cj j i with T|T;have N:l[j]?=some l[j]:=Bi ω;generalize l[j]=y at N;simp only[An (ω:(j:Int)<(i:Int)),Ak,Bq rfl K,Bq rfl N,Ac,Ahy];by_cases c:x=y;rw[An c];refine .inr ⟨.inl true,rfl,rfl,?_⟩;subst c;exact Bm (i:=j) (by rw[getElem?_take_of_lt T];exact N);rw[Au c];refine .inl ⟨((j+1:Nat):Int),by simp only[Al];rw[Dl T ω],⟨j+1,rfl,ω,?_⟩,ζ⟩;intro k I C f;rcases Cj k j with H|H;exact g k I H f;have:k=j:=ω;subst this;rw[N]at f;cases f;exactλe=>c e.symm;have:j=i:=ω;subst this;refine .inr ⟨.inr (j:Int),ψ,?_⟩;intro q;obtain⟨k,C⟩:=Gl q;have A:=Dq C;rw[getElem?_take_of_lt ω]at C;exact g k x ω C rfl);obtain⟨z,G,F⟩:=B;simp only[An (ω:(i:Int)<(l.length:Int)),Ak];rw[G,Ac];(match z,F with|.inl r,F=>obtain⟨rfl,F⟩:=F;refine .inr ⟨.inl true,rfl,rfl,λL=>?_⟩;obtain⟨k,C⟩:=Gl F;have A:=Dq C;rw[getElem?_take_of_lt ω]at C;exact A7d K L k x ω C rfl|.inr v8,F=>refine .inl ⟨((i+1:Nat):Int),by simp only[Dl h ω],⟨i+1,rfl,ω,?_⟩,ζ⟩;rw[Cs K];exact Ane P F);have:i=l.length:=ω;subst this;rw[Dh]at P;exact .inr ⟨.inr (),ψ,P⟩;rintro(r|u) s;obtain⟨rfl,s⟩:=s;exact⟨true,rfl,by simp[s]⟩;exact⟨false,rfl,by simpa using s⟩
theorem SzD.args(h:SzD Δ)(hx:x∈Δ)(hy:y∈x.O)(g:t∈y.R):Bu t<=1048576/\t.R.length<=1048576/\y.R.length<=1048576:=by have h1:=(h x hx).2 y hy;have h3:=I9 g;have f:=I0 t;have c:=Kb t.R;have b:=Kb y.R;omega
theorem A7e(l:DSz Δ)(H:Δ[d]?=some x)(K:y∈x.O):∃z,Am (S:=Int) (E:=(Bool⊕Int)) (λb=>bif b<(y.R.length:Int)then((Ag y.R b).bind λf=>(Tp f d x.V).bind λi=>bif i then some (.inl (Aa (b+1)))else((Fb Δ 0 d).bind λw=>(Rv w f x.V).bind λg=>bif(!g)then some (.inr (.inl false))else some (.inl (Aa (b+1)))))else some (.inr (.inr b))) 0=some z/\(match z with|.inl r=>r=false/\y.R.all (Mm Δ d x.V)=false|.inr _=>y.R.all (Mm Δ d x.V)=true):=by have C:=Bm H;have A:=Dq H;have s:=l.len;(have B:y.R.length<=1048576:=by have:=(l.sz x C).2 y K;have:=Kb y.R;omega);refine Kf (λv:Int=>∃j:Nat,v=j/\j<=y.R.length/\(y.R.take j).all (Mm Δ d x.V)=true) (λv=>y.R.length-v.toNat) _ ?_ _ ⟨0,rfl,ω,ψ⟩;rintro v ⟨j,rfl,N,c⟩;rcases Cj j y.R.length with h|h;have F:y.R[j]?=some y.R[j]:=Bi h;generalize y.R[j]=t at F;have k:=Bm F;obtain⟨I,G,D⟩:=l.sz.args C K k;simp only[An (ω:(j:Int)<(y.R.length:Int)),Ak,Bq rfl F,Ac,Au1 t d x.V ω,Ww rfl (show d<=Δ.length by omega),Am8 (Δ.take d) t x.V ω,Dl h ω];(have good:Mm Δ d x.V t=true->(y.R.take (j+1)).all (Mm Δ d x.V)=true:=λM=>by rw[Cs F,all_append,c];simp[M]);(cases q:Ky t d x.V with|true=>exact .inl ⟨_,rfl,⟨j+1,rfl,ω,good (by unfold Mm;rw[q];rfl)⟩,ζ⟩|false=>simp only[Al];cases u:(H3 (Δ.take d) x.V t&&decide (Bu t<=200))with|true=>exact .inl ⟨_,rfl,⟨j+1,rfl,ω,good (by unfold Mm;rw[u,q];rfl)⟩,ζ⟩|false=>refine .inr ⟨.inl false,rfl,rfl,?_⟩;rw[all_eq_false];exact⟨t,k,by unfold Mm;rw[u,q];simp⟩);have:j=y.R.length:=ω;subst this;rw[Dh]at c;exact .inr ⟨.inr (y.R.length:Int),ψ,c⟩
theorem A7f(M:DSz Δ)(hx:Δ[d]?=some x)(Y:x.O.length<=8)(L:Ct)(X:L.length<=1048576) :
  ∃z,Am (S:=(Int×List Β)) (E:=(Bool⊕(Int×List Β))) (λ(f,k)=>
   bif f<(x.O.length:Int)then(
   (show OB from
   (Ag x.O f).bind λA=>
   (Wa A.S).bind λH=>
   bif(!H)then some true
   else(
   (Ag x.O f).bind λu=>
   some (decide ((u.R.length:Int)>(6:Int))))
   ).bind λs=>
   bif s then some (.inr (.inl false))
   else(
   (Ag x.O f).bind λK=>
   (B5 16 k [K.S]).bind λD=>
   (Ag x.O f).bind λC=>
   (Am (S:=Int) (E:=(Bool⊕Int)) (λg=>
   bif g<(C.R.length:Int)then(
   (Ag C.R g).bind λj=>
   (Tp j d x.V).bind λq=>
   bif q then some (.inl (Aa (g+1)))
   else(
   (Fb Δ 0 d).bind λP=>
   (Rv P j x.V).bind λl=>
   bif(!l)then some (.inr (.inl false))
   else some (.inl (Aa (g+1)))))
   else some (.inr (.inr g))) 0).bind λz=>
   match z with
   |.inl B=>some (.inr (.inl B))
   |.inr J=>some (.inl (Aa (f+1),D))))
   else some (.inr (.inr (f,k)))) (0,L)=some z /\
   (match z with|.inl r=>r=false/\¬(∀y∈x.O,Wz Δ d x.V y)|.inr (_,o)=>(∀y∈x.O,Wz Δ d x.V y)/\o=L++Ig x):=by
 have a0:=Bm hx
 refine Kf (λ(v,o)=>∃c:Nat,v=c/\c<=x.O.length/\(∀y∈x.O.take c,Wz Δ d x.V y)/\o=L++(x.O.take c).map (·.S)) (λ(v,_)=>x.O.length-v.toNat) _ ?_ _ ⟨0,rfl,ω,ψ,ψ⟩
 rintro⟨v,o⟩ ⟨c,rfl,hc,h1,V⟩
 subst V
 rcases Cj c x.O.length with h|h
 .have T:x.O[c]?=some x.O[c]:=Bi h
  generalize x.O[c]=y at T
  have i:=Bm T
  obtain⟨b,b1,b2⟩:=Ava y.S (by have:=M.cn x a0 y i;omega)
  obtain⟨z,R,F⟩:=A7e M hx i
  simp only[An (ω:(c:Int)<(x.O.length:Int)),Ak,Bq rfl T,Ac,b1,Dl h ω]
  rw[Dj ζ]
  cases b with
  |false=>
   refine .inr ⟨.inl false,rfl,rfl,λI=>?_⟩
   have:=b2.2 (I y i).1;cases this
  |true=>
   simp only[Fc,Al,Ac]
   by_cases N:(y.R.length:Int)>6
   .rw[An N]
    refine .inr ⟨.inl false,rfl,rfl,λI=>?_⟩
    have:=(I y i).2.1;omega
   .rw[Au N]
    simp only[Al]
    rw[R,Ac]
    match z,F with
    |.inl r,F=>
     obtain⟨rfl,F⟩:=F
     refine .inr ⟨.inl false,rfl,rfl,λI=>?_⟩
     have:=(I y i).2.2
     rw[F]at this;cases this
    |.inr w,F=>
     refine .inl ⟨_,rfl,⟨c+1,rfl,ω,?_,?_⟩,ζ⟩
     .intro U G
      rw[Cs T]at G
      rcases Ea.1 G with W|W
      .exact h1 U W
      .simp at W;subst W;exact⟨b2.1 rfl,ω,F⟩
     .rw[Cs T];simp
 .have:c=x.O.length:=ω
  subst this
  rw[Dh]at h1
  exact .inr ⟨.inr ((x.O.length:Int),L++Ig x),by simp[Ig],h1,rfl⟩
theorem A7g(D:DSz Δ):∃b,Ab3 Δ=some b/\(b=true↔Ih Δ):=by have J:=D.len;unfold Ab3;rcases Cj 12 Δ.length with K|K;rw[An ω];exact⟨false,rfl,by simp;intro h;have:=h.1;omega⟩;rw[Au ω];simp only[Al];(have l:∀d,d<=Δ.length->(∀f x,f<d->Δ[f]?=some x->Ue Δ f x)->((Δ.take d).flatMap Ig).length<=8*d:=by intro d;induction d with|zero=>intro _ _;simp|succ d ih=>intro hd H;have w:Δ[d]?=some Δ[d]:=Bi ω;have:=ih ω λf x E=>H f x ω;have V:=(H d _ ω w).2.2.2.1;rw[Cs w,flatMap_append,Fe];simp only[flatMap_cons,flatMap_nil,append_nil,Ig,C3];omega);refine Ft (λ(v,k,j)=>∃d:Nat,v=d/\d<=Δ.length/\(∀f x,f<d->Δ[f]?=some x->Ue Δ f x)/\k=(Δ.take d).map (·.S)/\j=(Δ.take d).flatMap Ig) (λ(v,_,_)=>Δ.length-v.toNat) (λz=>match z with|.inl r=>r=false/\¬Ih Δ|.inr (k,j)=>(∀d x,Δ[d]?=some x->Ue Δ d x)/\k=Δ.map (·.S)/\j=Δ.flatMap Ig) ⟨0,rfl,ω,by intro f x h;omega,ψ,ψ⟩ ?_ ?_;rintro⟨v,k,j⟩ ⟨d,rfl,hd,H,T,W⟩;rcases Cj d Δ.length with h|h;have w:Δ[d]?=some Δ[d]:=Bi h;generalize Δ[d]=x at w;have a0:=Bm w;obtain⟨b,b1,P⟩:=Ava x.S (by have:=D.nm x a0;omega);simp only[An (ω:(d:Int)<(Δ.length:Int)),Ak,Bq rfl w,Ac,b1];have C:∀(u:¬Ue Δ d x),∃e:Bool⊕(List Β×List Β),(some (Sum.inr (Sum.inl false)):Ο ((Int×List Β×List Β)⊕(Bool⊕(List Β×List Β))))=some (.inr e)/\(match e with|.inl r=>r=false/\¬Ih Δ|.inr (k,j)=>(∀d x,Δ[d]?=some x->Ue Δ d x)/\k=Δ.map (·.S)/\j=Δ.flatMap Ig):=λu=>⟨.inl false,rfl,rfl,λc=>u (c.2.1 d x w)⟩;by_cases g:x.V<0;simp only[An g,Ak,Ac];exact .inr (C λc=>by have:=c.1;omega);by_cases i:x.V>6;simp only[Au g,An i,Ak,Al,Ac];exact .inr (C λc=>by have:=c.2.1;omega);by_cases s:(x.O.length:Int)<1;simp only[Au g,Au i,An s,Al,Ak,Ac];exact .inr (C λc=>by have:=c.2.2.1;omega);by_cases A:(x.O.length:Int)>8;simp only[Au g,Au i,Au s,An A,Ak,Al,Ac];exact .inr (C λc=>by have:=c.2.2.2.1;omega);simp only[Au g,Au i,Au s,Au A,Al,Ac];(cases b with|false=>exact .inr (C λc=>by have:=P.2 c.2.2.2.2.1;cases this)|true=>have y:=l d hd H;rw[T,W];simp only[Fc,Al];rw[Dj ζ,Ac];obtain⟨z,L,F⟩:=A7f D w ω ((Δ.take d).flatMap Ig) ω;erw[L,Ac];match z,F with|.inl r,F=>obtain⟨rfl,F⟩:=F;exact .inr (C λc=>F c.2.2.2.2.2)|.inr (a1,S),F=>obtain⟨N,M⟩:=F;subst M;have ht:=Cs w;refine .inl ⟨(((d+1:Nat):Int),(Δ.take d).map (·.S)++[x.S],(Δ.take d).flatMap Ig++Ig x),by simp only[Dl h ω],⟨d+1,rfl,ω,?_,?_,?_⟩,ζ⟩;intro f R E q;rcases Cj f d with h'|h';exact H f R h' q;have:f=d:=ω;subst this;rw[w]at q;cases q;exact⟨ω,ω,ω,ω,P.1 rfl,N⟩;rw[ht];simp;rw[ht];simp[flatMap_append]);have:d=Δ.length:=ω;subst this;rw[Dh]at T W;exact .inr ⟨.inr (k,j),ψ,λd x w=>H d x (Dq w) w,T,W⟩;rintro(r|⟨k,j⟩) hp;obtain⟨rfl,hp⟩:=hp;exact⟨false,rfl,by simp[hp]⟩;obtain⟨I,rfl,rfl⟩:=hp;have y:=l Δ.length ω λd x _=>I d x;rw[Dh]at y;obtain⟨b,b1,P⟩:=Avc (Δ.map (·.S)) ζ;obtain⟨U,G,B⟩:=Avc (Δ.flatMap Ig) ω;simp only[b1,Ac,G];cases b with|true=>exact⟨false,rfl,by simp;intro c;have:=P.2 c.2.2.1;cases this⟩|false=>cases U with|true=>exact⟨false,rfl,by simp;intro c;have:=B.2 c.2.2.2;cases this⟩|false=>exact⟨true,rfl,by simp;exact⟨K,I,P.1 rfl,B.1 rfl⟩⟩
end Go.Ab
