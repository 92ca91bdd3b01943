/- Plain laws. -/
import Derived.Test.YtadpefofplenmaaGreatDoorWrDef
open List
namespace Go.Ab
open Go
variable{i:Nat}{E R S:Type}{α:Type _}{J:E->Ο R}{l s t:Λ α}{X:Ο (S⊕E)}{a b e:α}
theorem Ac{α β:Type}(a:α)(f:α->Ο β):(some a).bind f=f a:=rfl
theorem Bn{α:Type}{l:Λ α}(h:i<l.length):l[i]?=some l[i]:=getElem?_eq_getElem h
theorem B5{α:Type}{l:Λ α}{a:α}(h:l[i]?=some a):a∈l:=mem_of_getElem? h
theorem Dr(a b:Bool):((a&&b)=true)=(a=true/\b=true):=Bool.and_eq_true a b
theorem Ds:(!true)=false:=rfl
theorem Ak(a b:α):(bif true then a else b)=a:=rfl
theorem Aj(a b:α):(bif false then a else b)=b:=rfl
theorem Eh{p:Prop}[Decidable p]:(decide p=true)=p:=decide_eq_true_eq
theorem Au{c:Prop}{h:Decidable c}(g:¬c){t:α}:(if c then t else e)=e:=if_neg g
theorem Ar{c:Prop}{h:Decidable c}(g:c){t:α}:(if c then t else e)=t:=if_pos g
theorem Cb(a b:Nat):a<b\/a>=b:=Nat.lt_or_ge a b
theorem Du:l.take l.length=l:=take_length
theorem J1(h:l.length<=i):l.take i=l:=take_of_length_le h
theorem Fm:l.length=0↔l=[]:=length_eq_zero_iff
theorem Fo(h:a∈l):∃i:Nat,l[i]?=some a:=getElem?_of_mem h
theorem Gu{p:α->Bool}:l.all p=true↔∀x,x∈l->p x=true:=all_eq_true
theorem Ef:a∈s++t↔a∈s\/a∈t:=mem_append
theorem Lt{β:Type _}(f:α->β):(l.map f).length=l.length:=length_map f
theorem Fv(h:some a=some b):a=b:=Option.some.inj h
theorem Er:a::s++t=a::(s++t):=rfl
theorem De:a∈[b]↔a=b:=mem_singleton
theorem Ed:a∈b::l↔a=b\/a∈l:=mem_cons
theorem Fd:(a::l).length=l.length+1:=rfl
theorem Fe:(s++t).length=s.length+t.length:=length_append
theorem Tk(h:l.length<=i):l[i]?=none:=getElem?_eq_none h
theorem Jm{step:S->Ο (S⊕E)}{s:S}{r:R}(c:S->Prop)(m:S->Nat)(b:E->Prop)(h0:c s)(f:∀s,c s->(∃h,step s=some (.inl h)/\c h/\m h < m s)\/(∃e,step s=some (.inr e)/\b e))(g:∀e,b e->J e=some r):(Ao step s).bind J=some r:=by obtain⟨e,q,u⟩:=Jh c m b f s h0;rw[q];exact g e u
theorem Fz{step:S->Ο (S⊕E)}{s:S}{Q:R->Prop}(c:S->Prop)(m:S->Nat)(b:E->Prop)(h0:c s)(f:∀s,c s->(∃h,step s=some (.inl h)/\c h/\m h < m s)\/(∃e,step s=some (.inr e)/\b e))(g:∀e,b e->∃r,J e=some r/\Q r):∃r,(Ao step s).bind J=some r/\Q r:=by obtain⟨e,q,u⟩:=Jh c m b f s h0;rw[q];exact g e u
theorem Agr{Q:S->Prop}(h:∃r,X=some r/\∃g,r=.inl g/\Q g):∃g,X=some (.inl g)/\Q g:=by obtain⟨r,q,g,rfl,u⟩:=h;exact⟨g,q,u⟩
theorem A5l{Q:E->Prop}(h:∃r,X=some r/\∃e,r=.inr e/\Q e):∃e,X=some (.inr e)/\Q e:=by obtain⟨r,g,q,rfl,u⟩:=h;exact⟨q,g,u⟩
theorem Ags{A:Type}{X:Ο R}(f:A->R){Q:A->Prop}(h:∃r,X=some r/\∃a,r=f a/\Q a):∃a,X=some (f a)/\Q a:=by obtain⟨r,g,a,rfl,q⟩:=h;exact⟨a,g,q⟩
variable{a b i:Int}{n:Nat}{p:Prop}{α:Type}{l:Λ α}
theorem A5m{A R:Type}{X:Ο A}{f g:A->Ο R}(h:∀a,f a=g a):X.bind f=X.bind g:=by have:f=g:=funext h;rw[this]
theorem Alu{β:Type}{c:Prop}[Decidable c](a b:Ο α)(f:α->Ο β):(if c then a else b).bind f=if c then a.bind f else b.bind f:=by split<;>rfl
theorem Bm{n:Int}(g : -9223372036854775808<=n)(h:n<=9223372036854775807):IntKind.i64.wrap n=n:=by(have e:IntKind.i64.wrap n=if 9223372036854775808<=n%18446744073709551616 then n%18446744073709551616-18446744073709551616 else n%18446744073709551616:=by simp[IntKind.wrap,IntKind.bits,IntKind.signed]);rw[e];split<;>omega
theorem D7{n:Int}(g:0<=n)(h:n<=18446744073709551615):IntKind.u64.wrap n=n:=by(have e:IntKind.u64.wrap n=n%18446744073709551616:=by simp[IntKind.wrap,IntKind.bits,IntKind.signed]);rw[e];omega
theorem G8{n:Int}(g:0<=n)(h:n<=4294967295):IntKind.u32.wrap n=n:=by(have e:IntKind.u32.wrap n=n%4294967296:=by simp[IntKind.wrap,IntKind.bits,IntKind.signed]);rw[e];omega
theorem Eu(hi:i=n)(h:n<l.length):Af l i=some l[n]:=by subst hi;simp[Af,h]
theorem B1{x:α}(hi:i=n)(h:l[n]?=some x):Af l i=some x:=by subst hi;simp[Af,h]
theorem Agt(h:i<0\/(l.length:Int)<=i):Af l i=none:=by unfold Af;split;rw[Tk];omega;rfl
theorem Ge(hi:i=n)(x:α):Cd l i x=l.set n x:=by subst hi;simp[Cd]
theorem Di{b:Nat}{xs ys:Λ α}(h:(xs.length+ys.length)*b<=140737488355328):Cj b xs ys=some (xs++ys):=by simp[Cj,h]
theorem Lu{b:Nat}{len f:Int}{z:α}{c:Nat}(q:len=n)(u:f=c)(A:n<=c)(g:b*c<=281474976710656)(h:c<=140737488355328):Gz b len f z=some (replicate n z):=by subst q;subst u;have B:(0:Int)<=(n:Int):=ω;have v:(n:Int)<=(c:Int):=ω;have w:(c:Int)<=140737488355328:=ω;simp[Gz,v,w,g]
theorem Alv{b:Nat}{f:Int}{z:α}{c:Nat}(q:f=c)(h:b*c<=281474976710656)(g:c<=140737488355328):Gz b 0 f z=some []:=by exact Lu (len:=0) (n:=0) (c:=c) rfl q ω h g
theorem Ck(h:a≠b):(a==b)=false:=by simpa using h
theorem Es(h:a=b):(a==b)=true:=by simpa using h
theorem D5(h:a≠b):(a != b)=true:=by simpa using h
theorem Dv(h:a=b):(a != b)=false:=by simpa using h
theorem Al[Decidable p](h:p):decide p=true:=decide_eq_true h
theorem Am[Decidable p](h:¬p):decide p=false:=decide_eq_false h
theorem Ac1{hi:Int}(h:hi=n)(g:n<=l.length):Gc l 0 hi=some (l.take n):=by subst h;have:(n:Int)<=(l.length:Int):=ω;simp[Gc,this]
theorem Mh(g:0<=a)(hb:0<b):Iq a b=some (a%b):=by have:b≠0:=ω;simp[Iq,this,Int.tmod_eq_emod_of_nonneg g]
theorem Nh(g:0<=a)(h:a<=18446744073709551615)(hb:0<b):G0 .u64 a b=some (a/b):=by have:b≠0:=ω;have q:0<=a/b:=Int.ediv_nonneg g ω;have u:a/b<=a:=Int.ediv_le_self _ g;simp[G0,this,Int.tdiv_eq_ediv_of_nonneg g];exact D7 q ω
theorem Alw(g:0<=a)(h:a<=4294967295)(hb:0<b):G0 .u32 a b=some (a/b):=by have:b≠0:=ω;have q:0<=a/b:=Int.ediv_nonneg g ω;have u:a/b<=a:=Int.ediv_le_self _ g;simp[G0,this,Int.tdiv_eq_ediv_of_nonneg g];exact G8 q ω
def Ap:Ag->Int
 |[]=>0
 |d::l=>d+1000000000*Ap l
def Cg(l:Ag):Prop:=∀d∈l,0<=d/\d<1000000000
def Ni(l:Ag):Prop:=∀d∈l,0<=d/\d<4294967296
def Can(l:Ag):Prop:=Cg l/\∀h:l≠[],l.getLast h≠0
def Ah(n:Nat):Ag:=if h:n=0 then[]else((n%1000000000:Nat):Int)::Ah (n/1000000000)
termination_by n
decreasing_by exact Nat.div_lt_self ω δ
theorem He:Ah 0=[]:=by rw[Ah];simp
theorem Pc(h:n≠0):Ah n=((n%1000000000:Nat):Int)::Ah (n/1000000000):=by rw[Ah];simp[h]
theorem Cg.nil:Cg []:=λ_ h=>by cases h
variable{d:Int}{l:Ag}{i n:Nat}
theorem Cg.append{m:Ag}(h:Cg l)(h':Cg m):Cg (l++m):=by intro d hd;rcases Ef.1 hd with hd|hd;exact h d hd;exact h' d hd
theorem Cg.one(h:0<=d)(h':d<1000000000):Cg [d]:=by intro x hx;simp at hx;subst hx;exact⟨h,h'⟩
theorem Cg.snoc(h:Cg l)(hd:0<=d)(b:d<1000000000):Cg (l++[d]):=h.append (Cg.one hd b)
theorem Cg.take(h:Cg l)(k:Nat):Cg (l.take k):=λd hd=>h d (mem_of_mem_take hd)
theorem Cg.drop(h:Cg l)(k:Nat):Cg (l.drop k):=λd hd=>h d (mem_of_mem_drop hd)
theorem Cg.get(h:Cg l)(hi:i<l.length):0<=l[i]/\l[i]<1000000000:=h _ (getElem_mem hi)
theorem Cg.set(h:Cg l)(i:Nat)(hd:0<=d)(b:d<1000000000):Cg (l.set i d):=by intro x hx;rcases mem_or_eq_of_mem_set hx with hx|rfl;exact h x hx;exact⟨hd,b⟩
theorem Cg.replicate(n:Nat):Cg (replicate n 0):=by intro d hd;have:=eq_of_mem_replicate hd;subst this;decide
theorem Cg.tail(h:Cg (d::l)):Cg l:=λx hx=>h x (by simp[hx])
theorem Cg.u32(h:Cg l):Ni l:=λd hd=>by have:=h d hd;omega
theorem Atg(l m:Ag):Ap (l++m)=Ap l+1000000000^l.length*Ap m:=by induction l with|nil=>simp[Ap]|cons d l ih=>simp only[Er,Ap,ih,Fd,Int.pow_succ];grind
theorem Mi(l:Ag)(d:Int):Ap (l++[d])=Ap l+1000000000^l.length*d:=by rw[Atg];simp[Ap]
theorem G9(l:Ag){k:Nat}(h:k<l.length):Ap (l.take (k+1))=Ap (l.take k)+1000000000^k*l[k]:=by rw[take_succ_eq_append_getElem h,Mi];simp[Nat.min_eq_left (Nat.le_of_lt h)]
theorem Agu(n:Nat):Ap (replicate n 0)=0:=by induction n with|zero=>rfl|succ n ih=>simp[replicate_succ,Ap,ih]
theorem Qg(l:Ag)(k:Nat)(h:k<=l.length):Ap l=Ap (l.take k)+1000000000^k*Ap (l.drop k):=by have e:=Atg (l.take k) (l.drop k);rw[take_append_drop]at e;rw[e,length_take,Nat.min_eq_left h]
theorem Oa(l:Ag)(h:i<l.length)(d:Int):Ap (l.set i d)=Ap l+1000000000^i*(d-l[i]):=by induction l generalizing i with|nil=>simp at h|cons x l ih=>cases i with|zero=>simp[Ap];omega|succ i=>have g:i<l.length:=(by simpa using h);simp only[set_cons_succ,Ap,ih g,getElem_cons_succ,Int.pow_succ];grind
theorem Ig(h:Ni l):0<=Ap l:=by induction l with|nil=>simp[Ap]|cons d l ih=>have q:=h d ψ;have u:=ih λx g=>h x (by simp[g]);simp only[Ap];omega
theorem Mj(n:Nat):(0:Int)<1000000000^n:=Int.pow_pos δ
theorem Lv(h:Cg l):Ap l<1000000000^l.length:=by induction l with|nil=>simp[Ap]|cons d l ih=>have g:=h d ψ;have q:=ih h.tail;simp only[Ap,Fd,Int.pow_succ];omega
theorem Gl(n:Nat):Ap (Ah n)=n:=by induction n using Nat.strongRecOn with|_ n ih=>by_cases h:n=0;subst h;rw[He];rfl;rw[Pc h,Ap,ih (n/1000000000) (Nat.div_lt_self ω δ)];omega
theorem F5(n:Nat):Cg (Ah n):=by induction n using Nat.strongRecOn with|_ n ih=>by_cases h:n=0;subst h;rw[He];exact Cg.nil;rw[Pc h];intro d g;simp at g;rcases g with rfl|g;omega;exact ih (n/1000000000) (Nat.div_lt_self ω δ) d g
theorem Kc(h:n≠0):Ah n≠[]:=by rw[Pc h];simp
theorem Agv(n:Nat):Can (Ah n):=by refine⟨F5 n,?_⟩;induction n using Nat.strongRecOn with|_ n ih=>intro b;have h:n≠0:=λe=>b (by rw[e];exact He);have q:=Pc h;by_cases g:n/1000000000=0;have c:Ah n=[((n%1000000000:Nat):Int)]:=(by rw[q,g,He]);simp only[c,getLast_singleton];omega;have:=ih (n/1000000000) (Nat.div_lt_self ω δ) (Kc g);simp only[q];rwa [getLast_cons (Kc g)]
theorem Alx(h:Can l):Ah (Ap l).toNat=l:=by induction l with|nil=>exact He|cons d l ih=>obtain⟨q,u⟩:=h;have v:=q d ψ;have g:Can l:=(by refine⟨q.tail,λb=>?_⟩;have:=u ψ;rwa [getLast_cons b]at this);have f:=Ig (q.tail).u32;have b:(Ap (d::l)).toNat≠0:=(by intro e;simp only[Ap]at e;have c:d=0:=ω;have f:Ap l=0:=ω;have:l=[]:=(by rw[<-ih g,f];exact He);subst this;exact u ψ (by simpa using c));rw[Pc b];simp only[Ap];have j:((d+1000000000*Ap l).toNat%1000000000:Nat)=d.toNat:=ω;have i:(d+1000000000*Ap l).toNat/1000000000=(Ap l).toNat:=ω;rw[j,i,ih g];congr 1;omega
theorem Agw(h:Can l)(b:Ap l=n):l=Ah n:=by rw[<-Alx h,b];rfl
def Ix:Ag->Ag
 |[]=>[]
 |d::l=>match Ix l with|[]=>if d=0 then[]else[d]|x::m=>d::x::m
theorem A5n(l:Ag):Ix (l++[0])=Ix l:=by induction l with|nil=>rfl|cons d l ih=>simp only[Er,Ix,ih]
theorem A5o(h:d≠0):Ix (l++[d])=l++[d]:=by induction l with|nil=>simp[Ix,h]|cons x l ih=>simp only[Er,Ix,ih];cases l with|nil=>rfl|cons y l=>rfl
theorem Ath(h:Cg l):Can (Ix l)/\Ap (Ix l)=Ap l:=by induction l with|nil=>exact⟨⟨Cg.nil,λh=>(h rfl).elim⟩,rfl⟩|cons d l ih=>obtain⟨⟨v,w⟩,g⟩:=ih h.tail;have q:=h d ψ;simp only[Ix];cases A:Ix l with|nil=>rw[A]at g;simp only[Ap]at g;simp only[];by_cases b:d=0;rw[Ar b];refine⟨⟨Cg.nil,λh=>(h rfl).elim⟩,?_⟩;simp only[Ap];rw[<-g];omega;rw[Au b];refine⟨⟨Cg.one q.1 q.2,λ_=>by simpa using b⟩,?_⟩;simp only[Ap];rw[<-g]|cons x m=>rw[A]at v w g;simp only[];refine⟨⟨?_,λ_=>?_⟩,?_⟩;intro y u;rcases Ed.1 u with rfl|u;exact q;exact v y u;rw[getLast_cons ψ];exact w ψ;simp only[Ap]at g⊢;rw[g]
theorem Nj(h:Cg l)(b:Ap l=n):Ix l=Ah n:=by obtain⟨g,q⟩:=Ath h;exact Agw g (q.trans b)
variable{l:Ag}{j k m n:Nat}{E R S α:Type}{J:E->Ο R}{r rf rt:R}{s0:S}{x:α}{p:α×Nat->Bool}
theorem A5p(h:Can l):Ix l=l:=by obtain⟨g,q⟩:=Ath h.1;rw[<-Alx g,q,Alx h]
def Bp(n:Nat):Nat:=(Ah n).length
theorem Ac2:Bp 0=0:=by simp[Bp,He]
theorem Qh(n:Nat):n<1000000000^Bp n:=by have:=Lv (F5 n);rw[Gl]at this;have e:((1000000000^Bp n:Nat):Int)=1000000000^Bp n:=ψ;unfold Bp at *;omega
theorem J2(h:n<1000000000^k):Bp n<=k:=by induction k generalizing n with|zero=>simp at h;subst h;simp[Ac2]|succ k ih=>by_cases g:n=0;subst g;simp[Ac2];unfold Bp;rw[Pc g,Fd];have:n/1000000000<1000000000^k:=(by rw[Nat.div_lt_iff_lt_mul δ];rwa [Nat.pow_succ]at h);have:=ih this;unfold Bp at this;omega
theorem Iy(h:m<=n):Bp m<=Bp n:=J2 (Nat.lt_of_le_of_lt h (Qh n))
theorem Ati(h:k<Bp n):1000000000^k<=n:=by rcases Cb n (1000000000^k)with g|g;have:=J2 g;omega;exact g
theorem Y7(m n:Nat):Bp (m+n)<=max (Bp m) (Bp n)+1:=by apply J2;have g:=Qh m;have h:=Qh n;have q:1000000000^Bp m<=1000000000^max (Bp m) (Bp n):=Nat.pow_le_pow_right δ (Nat.le_max_left _ _);have b:1000000000^Bp n<=1000000000^max (Bp m) (Bp n):=Nat.pow_le_pow_right δ (Nat.le_max_right _ _);rw[Nat.pow_succ];omega
theorem Hn(m n:Nat):Bp (m*n)<=Bp m+Bp n:=by apply J2;rw[Nat.pow_add];exact Nat.mul_lt_mul_of_lt_of_le (Qh m) (Nat.le_of_lt (Qh n)) (Nat.pow_pos δ)
theorem Aly(m n:Nat):Bp (m/n)<=Bp m:=Iy (Nat.div_le_self _ _)
theorem Atj(h:Bp m<Bp n):m<n:=Nat.lt_of_lt_of_le (Qh m) (Ati h)
theorem Atl{m:Ag}(f:Cg l)(q:k<l.length)(b:k<m.length)(u:Cg m)(v:l.drop (k+1)=m.drop (k+1))(c:l[k]<m[k]):Ap l<Ap m:=by have i:=Qg l (k+1) q;have h:=Qg m (k+1) b;rw[G9 l q]at i;rw[G9 m b,<-v]at h;have w:=Lv (f.take k);have j:=Ig ((u.take k).u32);rw[length_take,Nat.min_eq_left (Nat.le_of_lt q)]at w;have g:1000000000^k*(l[k]+1)<=1000000000^k*m[k]:=Int.mul_le_mul_of_nonneg_left c (Int.le_of_lt (Mj k));rw[Int.mul_add]at g;omega
theorem Jt{step:S->Ο (S⊕E)}(n:Nat)(b:Nat->S)(h0:s0=b 0)(c:∀j,j<n->step (b j)=some (.inl (b (j+1))))(q:∃e,step (b n)=some (.inr e)/\J e=some r):(Ao step s0).bind J=some r:=by(have g:∀m,m<=n->Ao step (b 0)=Ao step (b m):=by intro m;induction m with|zero=>intro _;rfl|succ m ih=>intro h;rw[ih ω,Fh (c m ω)]);obtain⟨e,u,v⟩:=q;rw[h0,g n (Nat.le_refl _),Cr u];exact v
theorem Dd(h:j<n)(g:n<4611686018427387904):Aa ((j:Int)+1)=((j+1:Nat):Int):=by rw[Aa,Bm]<;>omega
theorem Atm{l:Λ α}(h:l.zipIdx.all p=false):∃j x,l[j]?=some x/\p (x,j)=false/\∀i y,i<j->l[i]?=some y->p (y,i)=true:=by(have q:∀(n:Nat),(∀i y,i<n->l[i]?=some y->p (y,i)=true)\/∃j x,j<n/\l[j]?=some x/\p (x,j)=false/\∀i y,i<j->l[i]?=some y->p (y,i)=true:=by intro n;induction n with|zero=>exact .inl (λi y h=>ω)|succ n ih=>rcases ih with ih|⟨j,x,B,u,v,b⟩;(cases w:l[n]? with|none=>exact .inl (λi y A g=>by rcases Cb i n with h|h;exact ih i y h g;have:i=n:=ω;subst this;rw[w]at g;cases g)|some x=>cases hp:p (x,n)with|true=>exact .inl (λi y A g=>by rcases Cb i n with h|h;exact ih i y h g;have:i=n:=ω;subst this;rw[w]at g;cases g;exact hp)|false=>exact .inr ⟨n,x,ω,w,hp,ih⟩);exact .inr ⟨j,x,ω,u,v,b⟩);rcases q l.length with C|⟨j,x,B,u,v,b⟩;exfalso;(have:l.zipIdx.all p=true:=by rw[Gu];rintro⟨y,i⟩ g;have:=mk_mem_zipIdx_iff_getElem?.1 g;(have A:i<l.length:=by rcases Cb i l.length with h|h;exact h;rw[Tk h]at this;cases this);exact C i y A this);rw[this]at h;cases h;exact⟨j,x,u,v,b⟩
theorem Ju{l:Λ α}(h:l.zipIdx.all p=true)(g:l[j]?=some x):p (x,j)=true:=Gu.1 h _ (mk_mem_zipIdx_iff_getElem?.2 g)
theorem Agx{l:Λ α}(h:∀j x,l[j]?=some x->p (x,j)=true):l.zipIdx.all p=true:=by rw[Gu];rintro⟨y,i⟩ g;exact h i y (mk_mem_zipIdx_iff_getElem?.1 g)
theorem Ro{step:S->Ο (S⊕E)}(l:Λ α)(p:α×Nat->Bool)(b:Nat->S)(h0:s0=b 0)(g:l.length<4611686018427387904)(f:∀(j:Nat)(x:α),l[j]?=some x->(∀i y,i<j->l[i]?=some y->p (y,i)=true)->decide ((j:Int)<(l.length:Int))=true->Af l (j:Int)=some x->Aa ((j:Int)+1)=((j+1:Nat):Int)->(p (x,j)=true->step (b j)=some (.inl (b (j+1))))/\(p (x,j)=false->∃e,step (b j)=some (.inr e)/\J e=some rf))(C:decide ((l.length:Int)<(l.length:Int))=false->l.zipIdx.all p=true->∃e,step (b l.length)=some (.inr e)/\J e=some rt):(Ao step s0).bind J=some (bif l.zipIdx.all p then rt else rf):=by
 have c:∀(j:Nat)(x:α),l[j]?=some x->(∀i y,i<j->l[i]?=some y->p (y,i)=true)->_:=λj x q u=>
  have v:j<l.length:=by
   rcases Cb j l.length with h|h
   .exact h
   .rw[Tk h]at q;cases q
  f j x q u (Al ω) (B1 rfl q) (Dd v g)
 cases w:l.zipIdx.all p with|true=>refine Jt l.length b h0 (λj v=>?_) (C ψ w);have q:l[j]?=some l[j]:=Bn v;exact(c j _ q λi y _ u=>Ju w u).1 (Ju w q)|false=>obtain⟨j,x,A,D,B⟩:=Atm w;refine Jt j b h0 (λi F=>?_) ((c j x A B).2 D);(have v:j<l.length:=by rcases Cb j l.length with h|h;exact h;rw[Tk h]at A;cases A);have q:l[i]?=some l[i]:=Bn ω;exact(c i _ q λk y G u=>B k y ω u).1 (B i _ F q)
theorem Agy(l:Λ α)(p:α->Bool):l.zipIdx.all (λq=>p q.1)=l.all p:=by cases h:l.all p with|true=>exact Agx λj x g=>Gu.1 h _ (B5 g)|false=>cases u:l.zipIdx.all (λq=>p q.1)with|false=>rfl|true=>rw[<-h];symm;rw[Gu];intro x g;obtain⟨j,v⟩:=Fo g;exact Ju u v
theorem Kv{step:S->Ο (S⊕E)}(l:Λ α)(p:α->Bool)(b:Nat->S)(h0:s0=b 0)(f:l.length<4611686018427387904)(c:∀(j:Nat)(x:α),l[j]?=some x->decide ((j:Int)<(l.length:Int))=true->Af l (j:Int)=some x->Aa ((j:Int)+1)=((j+1:Nat):Int)->(p x=true->step (b j)=some (.inl (b (j+1))))/\(p x=false->∃e,step (b j)=some (.inr e)/\J e=some rf))(g:decide ((l.length:Int)<(l.length:Int))=false->∃e,step (b l.length)=some (.inr e)/\J e=some rt):(Ao step s0).bind J=some (bif l.all p then rt else rf):=by rw[<-Agy l p];exact Ro l (λq=>p q.1) b h0 f (λj x u _=>c j x u) (λh _=>g h)
theorem H5{step:S->Ο (S⊕E)}(l:Λ α)(b:Nat->S)(h0:s0=b 0)(f:l.length<4611686018427387904)(c:∀(j:Nat)(x:α),j<l.length->l[j]?=some x->decide ((j:Int)<(l.length:Int))=true->Af l (j:Int)=some x->Aa ((j:Int)+1)=((j+1:Nat):Int)->step (b j)=some (.inl (b (j+1))))(q:decide ((l.length:Int)<(l.length:Int))=false->∃e,step (b l.length)=some (.inr e)/\J e=some r):(Ao step s0).bind J=some r:=by refine Jt l.length b h0 (λj g=>?_) (q ψ);have h:l[j]?=some l[j]:=Bn g;exact c j _ g h (Al ω) (B1 rfl h) (Dd g f)
theorem C4{l:Λ α}(h:l[j]?=some x):l.take (j+1)=l.take j++[x]:=by rw[take_add_one,h];rfl
theorem D8{l:Λ α}(h:l[j]?=some x):j<l.length:=by rcases Cb j l.length with g|g;exact g;rw[Tk g]at h;cases h
theorem Kw(b:Bool):(bif b then true else false)=b:=by cases b<;>rfl
theorem A5q(b:Bool):(bif b then false else true) = !b:=by cases b<;>rfl
theorem Ac3{A:Type}{X:Ο A}{f:A->Ο R}{y:R}{Q:A->Prop}(h:∃r,X=some r/\Q r)(b:∀r,Q r->f r=some y):X.bind f=some y:=by obtain⟨r,g,q⟩:=h;rw[g];exact b r q
theorem Atn(l:Λ α)(p:α->Bool){step:Int->Ο (Int⊕(Int⊕Unit))}{J:Int⊕Unit->A5}(k:l.length<4611686018427387904)(g:∀(j:Nat)(x:α),x∈l->decide ((j:Int)<(l.length:Int))=true->Af l (j:Int)=some x->Aa ((j:Int)+1)=((j+1:Nat):Int)->step (j:Int)=bif p x then some (.inr (.inl (j:Int)))else some (.inl ((j+1:Nat):Int)))(v:decide ((l.length:Int)<(l.length:Int))=false->step (l.length:Int)=some (.inr (.inr ())))(c:∀i,J (.inl i)=some i)(b:J (.inr ())=some (-1)):∃i,(Ao step 0).bind J=some i/\decide (i>=0)=l.any p:=by(have q:(Ao step 0).bind (λz=>(J z).bind λi=>some (decide (i>=0)))=some (bif l.all (λx=>!p x)then false else true):=by refine Kv l (λx=>!p x) (λj=>(j:Int)) rfl k (λj x w A B C=>?_) λh=>⟨.inr (),v h,by rw[b];rfl⟩;have h:=g j x (B5 w) A B C;simp only[h];cases p x with|true=>exact⟨nofun,λ_=>⟨.inl (j:Int),rfl,by simp only[c,Ac];rw[Al ω]⟩⟩|false=>exact⟨λ_=>rfl,λh=>by cases h⟩);(have e:l.any p=(bif l.all (λx=>!p x)then false else true):=by rw[A5q,not_all_eq_any_not];simp);rw[e];cases f:Ao step 0 with|none=>rw[f]at q;cases q|some z=>rw[f,Ac]at q;rw[Ac];cases u:J z with|none=>rw[u]at q;cases q|some i=>rw[u,Ac]at q;exact⟨i,rfl,Fv q⟩
theorem Ac4{M:Type}{step:S->Ο (S⊕E)}(l:Λ α)(p:α×Nat->Bool)(b:Nat->M->S)(I:M->Prop)(z A:R->Prop)(g:M)(h0:s0=b 0 g)(h:I g)(D:l.length<4611686018427387904)(B:∀(j:Nat)(x:α)(m:M),I m->l[j]?=some x->(∀i y,i<j->l[i]?=some y->p (y,i)=true)->decide ((j:Int)<(l.length:Int))=true->Af l (j:Int)=some x->Aa ((j:Int)+1)=((j+1:Nat):Int)->(p (x,j)=true->∃f,step (b j m)=some (.inl (b (j+1) f))/\I f)/\(p (x,j)=false->∃e,step (b j m)=some (.inr e)/\∃r,J e=some r/\A r))(P:∀m,I m->decide ((l.length:Int)<(l.length:Int))=false->l.zipIdx.all p=true->∃e,step (b l.length m)=some (.inr e)/\∃r,J e=some r/\z r):∃r,(Ao step s0).bind J=some r/\((l.zipIdx.all p=true/\z r)\/(l.zipIdx.all p=false/\A r)):=by
 have c:∀(j:Nat)(x:α)(m:M),I m->l[j]?=some x->(∀i y,i<j->l[i]?=some y->p (y,i)=true)->_:=λj x m G w v=>
  have T:j<l.length:=D8 w
  B j x m G w v (Al ω) (B1 rfl w) (Dd T D)
 (have F:∀n,n<=l.length->(∀i y,i<n->l[i]?=some y->p (y,i)=true)->∃m,I m/\Ao step s0=Ao step (b n m):=by intro n;induction n with|zero=>intro _ _;exact⟨g,h,by rw[h0]⟩|succ n ih=>intro V v;obtain⟨m,C,H⟩:=ih ω λi y U=>v i y ω;have w:l[n]?=some l[n]:=Bn ω;obtain⟨f,K,k⟩:=(c n _ m C w λi y U=>v i y ω).1 (v n _ ω w);exact⟨f,k,by rw[H,Fh K]⟩);cases N:l.zipIdx.all p with|true=>obtain⟨m,C,H⟩:=F l.length (Nat.le_refl _) λi y _ v=>Ju N v;obtain⟨e,u,r,s,q⟩:=P m C ψ N;exact⟨r,by rw[H,Cr u];exact s,.inl ⟨rfl,q⟩⟩|false=>obtain⟨j,x,C,H,K⟩:=Atm N;obtain⟨m,k,L⟩:=F j (Nat.le_of_lt (D8 C)) K;obtain⟨e,u,r,s,q⟩:=(c j x m k C K).2 H;exact⟨r,by rw[L,Cr u];exact s,.inr ⟨rfl,q⟩⟩
mutual
def B2:Ai->Nat
 |⟨_,_,l⟩=>1+Dk l
def Dk:List Ai->Nat
 |[]=>0
 |x::xs=>B2 x+Dk xs
end
theorem J3(t:Ai):B2 t=1+Dk t.R:=by cases t;simp only[B2]
theorem Qi(t:Ai):1<=B2 t:=by rw[J3];omega
theorem Kd{l:A1}{a:Ai}(h:a∈l):B2 a<=Dk l:=by induction l with|nil=>cases h|cons x xs ih=>simp only[Dk];rcases Ed.1 h with rfl|h;omega;have:=ih h;omega
theorem Lw(l:A1):l.length<=Dk l:=by induction l with|nil=>simp|cons x xs ih=>simp only[Dk,Fd];have:=Qi x;omega
theorem Agz(l m:A1):Dk (l++m)=Dk l+Dk m:=by induction l with|nil=>simp[Dk]|cons x xs ih=>simp only[Er,Dk,ih];omega
def Nk(Δ:A0)(Ξ k n:Int)(len:Nat):Bool:=if k=1\/k=2\/k=3 then n==0&&len==0 else if k=4 then decide (0<=n)&&decide (n<Ξ)&&len==0 else if k=5 then decide (0<=n)&&(match Δ[n.toNat]? with|some d=>(len:Int)==d.V|none=>false)else if k=6 then n==0&&decide (2<=len)&&decide (len<=6)else if k=7\/k=8 then n==0&&len==1 else if k=9 then n==0&&decide (1<=len)&&decide (len<=7)else false
mutual
def Hf(Δ:List A4)(Ξ:Int):Ai->Bool
 |⟨k,n,l⟩=>Nk Δ Ξ k n l.length&&F6 Δ Ξ l
def F6(Δ:List A4)(Ξ:Int):List Ai->Bool
 |[]=>true
 |x::xs=>Hf Δ Ξ x&&F6 Δ Ξ xs
end
variable{i:Int}{l:A1}{j:Nat}{R α:Type}
theorem Ag0(Δ:A0)(Ξ:Int)(t:Ai):Hf Δ Ξ t=(Nk Δ Ξ t.G t.U t.R.length&&F6 Δ Ξ t.R):=by cases t;simp only[Hf]
theorem Ato(l:Λ α)(n:Nat):((l.length:Int)==(n:Int))=(l.length==n):=by by_cases h:l.length=n;subst h;simp;rw[Ck ω];simp[h]
theorem A5r(k:Nat)(t:Ai)(Δ:A0)(Ξ left:Int)(v:1<=left)(w:left<=1000):O6 (k+1) t ⟨Δ,Ξ,left⟩=bif Nk Δ Ξ t.G t.U t.R.length then((Y4 k t.R ⟨Δ,Ξ,left-1⟩).bind λh=>some (!h.1,h.2))else some (false,⟨Δ,Ξ,left-1⟩):=by have q:Aa (left-1)=left-1:=Bm ω ω;have b:¬left-1<0:=ω;rw[O6];simp only[q,Am b,Aj];generalize g:(Y4 k t.R ⟨Δ,Ξ,left-1⟩).bind (λh=>some (!h.1,h.2))=X;generalize f:(some (false,⟨Δ,Ξ,left-1⟩):Ο (Bool×Hy))=Y;unfold Nk Af;generalize t.R.length=len;generalize t.G=c;generalize t.U=n;cases u:Δ[n.toNat]?<;>simp only[Bool.cond_eq_ite,Alu,Ac,Option.bind_none,u]<;>grind
theorem Ac5(h:j<l.length):Dk (l.take (j+1))=Dk (l.take j)+B2 l[j]:=by rw[take_succ_eq_append_getElem h,Agz];simp[Dk]
theorem Atp(Δ:A0)(Ξ:Int)(l m:A1):F6 Δ Ξ (l++m)=(F6 Δ Ξ l&&F6 Δ Ξ m):=by induction l with|nil=>simp[F6]|cons x xs ih=>simp only[Er,F6,ih,Bool.and_assoc]
theorem Ag1(Δ:A0)(Ξ:Int)(h:j<l.length):F6 Δ Ξ (l.take (j+1))=(F6 Δ Ξ (l.take j)&&Hf Δ Ξ l[j]):=by rw[take_succ_eq_append_getElem h,Atp];simp[F6]
theorem Ac6(l:A1)(j:Nat):Dk (l.take j)<=Dk l:=by have:=Agz (l.take j) (l.drop j);rw[take_append_drop]at this;omega
theorem Atq(Δ:A0)(Ξ:Int)(l:A1)(j:Nat)(h:F6 Δ Ξ l=true):F6 Δ Ξ (l.take j)=true:=by have:=Atp Δ Ξ (l.take j) (l.drop j);rw[take_append_drop,h]at this;have:=this.symm;simp only[Dr]at this;exact this.1
theorem A5s(Δ:A0)(Ξ:Int)(k:Nat)(l:A1)(c:Nat)(G:l.length<1099511627776)(ih:∀(a:Ai),a∈l->∀f:Nat,f<=c->∃g:Int,O6 k a ⟨Δ,Ξ,f⟩=some (Hf Δ Ξ a&&decide (B2 a<=f),⟨Δ,Ξ,g⟩)/\((Hf Δ Ξ a&&decide (B2 a<=f))=true->g=(f:Int)-B2 a)):∃p:Int×Int,Acu (k+2) l ⟨Δ,Ξ,c⟩=some (p.1,⟨Δ,Ξ,p.2⟩)/\((F6 Δ Ξ l&&decide (Dk l<=c))=true->p.1 = -1/\p.2=(c:Int)-Dk l)/\((F6 Δ Ξ l&&decide (Dk l<=c))=false->0<=p.1):=by rw[Acu];refine Ags (λp:Int×Int=>(p.1,Hy.mk Δ Ξ p.2)) (Fz (λ(F,v,w,s)=>∃j:Nat,F=j/\j<=l.length/\v=Δ/\w=Ξ/\F6 Δ Ξ (l.take j)=true/\Dk (l.take j)<=c/\s=(c:Int)-Dk (l.take j)) (λ(F,_,_,_)=>l.length-F.toNat) (λz=>match z with|.inl (i,b)=>0<=i/\(∃g,b=⟨Δ,Ξ,g⟩)/\(F6 Δ Ξ l&&decide (Dk l<=c))=false|.inr (v,w,s)=>v=Δ/\w=Ξ/\(F6 Δ Ξ l&&decide (Dk l<=c))=true/\s=(c:Int)-Dk l) ⟨0,rfl,ω,rfl,rfl,rfl,by simp[Dk],by simp[Dk]⟩ ?_ ?_);rintro⟨F,v,w,s⟩ ⟨j,rfl,N,rfl,rfl,x,A,rfl⟩;rcases Cb j l.length with h|h;obtain⟨u,y⟩:∃u:Nat,(c:Int)-Dk (l.take j)=u/\u<=c:=⟨c-Dk (l.take j),ω,ω⟩;obtain⟨g,E,D⟩:=ih l[j] (getElem_mem h) u y.2;simp only[Al (ω:(j:Int)<(l.length:Int)),Ak,Eu rfl h,Ac,Abt,y.1,E];(cases H:(Hf v w l[j]&&decide (B2 l[j]<=u))with|true=>have I:=D H;simp only[Dr,Eh]at H;refine .inl ⟨(((j+1:Nat):Int),v,w,g),?_,⟨j+1,rfl,ω,rfl,rfl,?_,?_,?_⟩,ζ⟩;simp only[Ds,Aj];rw[show Aa ((j:Int)+1)=((j+1:Nat):Int)by rw[Aa,Bm]<;>omega];rw[Ag1 _ _ h,x,H.1];rfl;rw[Ac5 h];omega;show g=_;rw[Ac5 h];omega|false=>refine .inr ⟨.inl ((j:Int),⟨v,w,g⟩),ψ,ω,⟨g,rfl⟩,?_⟩;cases q:(F6 v w l&&decide (Dk l<=c))with|false=>rfl|true=>exfalso;simp only[Dr,Eh]at q;have C:=Atq v w l (j+1) q.1;rw[Ag1 _ _ h]at C;simp only[Dr]at C;have M:=Ac6 l (j+1);rw[Ac5 h]at M;rw[C.2,Bool.true_and,decide_eq_false_iff_not]at H;omega);have:j=l.length:=ω;subst this;rw[Du]at *;refine .inr ⟨.inr (v,w,(c:Int)-Dk l),ψ,rfl,rfl,by simp[x,A],rfl⟩;rintro(⟨i,b⟩|⟨v,w,s⟩) B;obtain⟨C,⟨g,rfl⟩,K⟩:=B;exact⟨_,rfl,(i,g),rfl,(λh=>by rw[K]at h;cases h),λ_=>C⟩;obtain⟨rfl,rfl,K,rfl⟩:=B;exact⟨_,rfl,(-1,_),rfl,λ_=>⟨rfl,rfl⟩,λh=>by rw[K]at h;cases h⟩
theorem A5t(Δ:A0)(Ξ:Int):∀(left:Nat)(t:Ai)(k:Nat),left<=200->4*left+4<=k->B2 t<1099511627776->∃f:Int,O6 k t ⟨Δ,Ξ,left⟩=some (Hf Δ Ξ t&&decide (B2 t<=left),⟨Δ,Ξ,f⟩)/\((Hf Δ Ξ t&&decide (B2 t<=left))=true->f=(left:Int)-B2 t):=by intro left;induction left using Nat.strongRecOn with|_ left s=>intro t k A G H;have hp:=Qi t;obtain⟨g,rfl⟩:∃g,k=g+1:=⟨k-1,ω⟩;cases left with|zero=>refine⟨-1,?_,λh=>by simp at h;omega⟩;rw[O6];have B:decide (B2 t<=0)=false:=Am ω;rw[B,Bool.and_false];rfl|succ b=>rw[A5r g t Δ Ξ ((b+1:Nat):Int) ω ω];have z:((b+1:Nat):Int)-1=(b:Int):=ω;rw[z,Ag0];cases I:Nk Δ Ξ t.G t.U t.R.length with|false=>exact⟨b,ψ,λh=>by simp at h⟩|true=>obtain⟨q,rfl⟩:∃q,g=q+3:=⟨g-3,ω⟩;have j:=J3 t;have x:=Lw t.R;obtain⟨⟨i,f⟩,C,v,D⟩:=A5s Δ Ξ q t.R b ω (λa F c y=>by have:=Kd F;exact s c ω a q ω ω ω);have l:decide (B2 t<=b+1)=decide (Dk t.R<=b):=(by rw[j];congr 1;simp only[eq_iff_iff];omega);simp only[Ak,Y4,C,Ac,Bool.true_and,l];refine⟨f,?_,λh=>?_⟩;(cases w:(F6 Δ Ξ t.R&&decide (Dk t.R<=b))with|true=>have u:i = -1:=(v w).1;rw[Am (ω:¬i>=0)];rfl|false=>have u:0<=i:=D w;rw[Al (ω:i>=0)];rfl);have u:f=(b:Int)-Dk t.R:=(v h).2;rw[u,j];omega
theorem Ac7(Δ:A0)(t:Ai)(Ξ:Int)(h:B2 t<1099511627776):Sp Δ t Ξ=some (Hf Δ Ξ t&&decide (B2 t<=200)):=by unfold Sp;obtain⟨b,g,_⟩:=A5t Δ Ξ 200 t 4000000 δ δ h;have g:O6 4000000 t ⟨Δ,Ξ,200⟩=_:=g;rw[g];rfl
theorem Atr:∀(k:Nat)(t:Ai),B2 t<=k->B2 t<1099511627776->Rj k t=some (B2 t:Int):=by intro k;induction k with|zero=>intro t h;have:=Qi t;omega|succ k ih=>intro t h u;have c:=J3 t;have f:=Lw t.R;rw[Rj];refine Jm (λ(n,i)=>∃j:Nat,i=j/\j<=t.R.length/\n=1+(Dk (t.R.take j):Int)) (λ(_,i)=>t.R.length-i.toNat) (λn=>n=(B2 t:Int)) ⟨0,rfl,ω,by simp[Dk]⟩ ?_ (by rintro n rfl;rfl);rintro⟨n,i⟩ ⟨j,rfl,v,rfl⟩;rcases Cb j t.R.length with q|q;have w:=Kd (getElem_mem q);have g:=Ac6 t.R j;have b:=Ac6 t.R (j+1);rw[Ac5 q]at b;refine .inl ⟨(1+(Dk (t.R.take (j+1)):Int),((j+1:Nat):Int)),?_,⟨j+1,rfl,ω,rfl⟩,ζ⟩;simp only[Al (ω:(j:Int)<(t.R.length:Int)),Ak,Eu rfl q,Ac,ih t.R[j] ω ω];rw[show Aa ((j:Int)+1)=((j+1:Nat):Int)by rw[Aa,Bm]<;>omega,show Aa (1+(Dk (t.R.take j):Int)+(B2 t.R[j]:Int))=1+(Dk (t.R.take (j+1)):Int)by rw[Ac5 q,Aa,Bm]<;>omega];have:j=t.R.length:=ω;subst this;exact .inr ⟨1+(Dk t.R:Int),ψ,by rw[c];omega⟩
theorem A5u(Δ:A0)(Ξ:Int):∀(k:Nat)(t:Ai),B2 t<=k->B2 t<1099511627776->S3 k Δ t Ξ=some (Hf Δ Ξ t):=by intro k;induction k with|zero=>intro t h;have:=Qi t;omega|succ k ih=>intro t h I;have A:=J3 t;have l:=Lw t.R;(have c:(Ao (S:=Int) (E:=(Bool⊕Unit)) (λw=>bif w<(t.R.length:Int)then((Af t.R w).bind λK=>(S3 k Δ K Ξ).bind λx=>bif(!x)then some (.inr (.inl false))else some (.inl (Aa (w+1))))else some (.inr (.inr ()))) 0).bind (λz=>match z with|.inl y=>some y|.inr _=>some true)=some (F6 Δ Ξ t.R):=by refine Jm (λi=>∃j:Nat,i=j/\j<=t.R.length/\F6 Δ Ξ (t.R.take j)=true) (λi=>t.R.length-i.toNat) (λz=>match z with|.inl r=>r=F6 Δ Ξ t.R|.inr _=>F6 Δ Ξ t.R=true) ⟨0,rfl,ω,by simp[F6]⟩ ?_ ?_;rintro i ⟨j,rfl,U,f⟩;rcases Cb j t.R.length with v|v;have V:=Kd (getElem_mem v);simp only[Al (ω:(j:Int)<(t.R.length:Int)),Ak,Eu rfl v,Ac,ih t.R[j] ω ω];(cases F:Hf Δ Ξ t.R[j]with|true=>refine .inl ⟨((j+1:Nat):Int),?_,⟨j+1,rfl,ω,by rw[Ag1 _ _ v,f,F];rfl⟩,ζ⟩;simp only[Ds,Aj];rw[show Aa ((j:Int)+1)=((j+1:Nat):Int)by rw[Aa,Bm]<;>omega]|false=>refine .inr ⟨.inl false,ψ,?_⟩;show false=_;cases q:F6 Δ Ξ t.R with|false=>rfl|true=>have H:=Atq Δ Ξ t.R (j+1) q;rw[Ag1 _ _ v,F,Bool.and_false]at H;cases H);have:j=t.R.length:=ω;subst this;rw[Du]at f;exact .inr ⟨.inr (),ψ,f⟩;rintro(r|u) s;simp only at s⊢;rw[s];simp only at s⊢;rw[s]);rw[S3,Ag0];refine Eq.trans (b:=Option.bind _ (λz:Bool⊕Unit=>match z with|.inl D=>some D|.inr _=>some (F6 Δ Ξ t.R))) (A5m ?_) ?_;rintro(r|u);rfl;exact c;have g:t.R.length=0->F6 Δ Ξ t.R=true:=(by intro e;rw[Fm.1 e];rfl);unfold Nk Af;clear c ih h I A l;generalize F6 Δ Ξ t.R=X at *;generalize t.R.length=len at *;generalize t.G=G;generalize t.U=n;by_cases B:len=0;have M:=g B;subst B;subst M;cases C:Δ[n.toNat]?<;>simp only[Bool.cond_eq_ite,Alu,Ac,Option.bind_none,C]<;>grind;have N:((len:Int)==0)=false:=Ck ω;have P:(len==0)=false:=(by simpa using B);(have T:((len:Int) != 1)=(!(len==1)):=by by_cases h:len=1;subst h;rfl;rw[D5 ω];simp[h]);cases C:Δ[n.toNat]?<;>simp only[N,P,T,Bool.cond_eq_ite,Alu,Ac,Option.bind_none,C,Bool.and_false,Bool.false_and]<;>grind
theorem Alz(Δ:A0)(t:Ai)(Ξ:Int)(g:B2 t<=4000000):Re Δ t Ξ=some (Hf Δ Ξ t&&decide (B2 t<=200)):=by unfold Re;rw[Atr 4000000 t g ω,Ac,A5u Δ Ξ 4000000 t g ω];by_cases h:B2 t<=200;rw[Al (ω:(B2 t:Int)<=200),Al h];simp;rw[Am (ω:¬(B2 t:Int)<=200),Am h];simp
def Rq(a:Ai)(i:Int):Bool:=a.G==4&&a.U==i&&a.R.length==0
def Ats(l:A1):Bool:=l.zipIdx.all λq=>Rq q.1 q.2
def Ke(t:Ai)(d Ξ:Int):Bool:=t.G==5&&t.U==d&&(t.R.length:Int)==Ξ&&Ats t.R
theorem Att(t:Ai)(d Ξ:Int)(G:t.R.length<1099511627776):S0 t d Ξ=some (Ke t d Ξ):=by unfold S0 Ke;by_cases g:t.G=5;by_cases u:t.U=d;by_cases v:(t.R.length:Int)=Ξ;simp only[Dv g,Dv u,Dv v,Aj,Ac,Es g,Es u,Es v,Bool.true_and];refine(Ro t.R (λq=>Rq q.1 q.2) (λj=>(j:Int)) rfl ω (rt:=true) (rf:=false) ?_ ?_).trans (by rw[Kw];rfl);intro j x H _ A C D;simp only[A,C,D,Ak,Ac,Rq];constructor;intro h;simp only[Dr,beq_iff_eq]at h;simp[h.1.1,h.1.2,h.2];intro h;by_cases w:x.G=4;by_cases B:x.U=j;by_cases F:x.R.length=0;simp[w,B,F]at h;exact⟨.inl false,by simp only[Dv w,Dv B,Aj];rw[Al ω];rfl,rfl⟩;exact⟨.inl false,by simp only[Dv w,D5 B,Aj];rfl,rfl⟩;exact⟨.inl false,by simp only[D5 w];rfl,rfl⟩;intro A _;exact⟨.inr (),by simp only[A];rfl,rfl⟩;simp only[Dv g,Dv u,D5 v,Aj,Ak,Ac,Ck v,Bool.and_false,Bool.false_and];simp only[Dv g,D5 u,Aj,Ak,Ac,Ck u,Bool.and_false,Bool.false_and];simp only[D5 g,Ak,Ac,Ck g,Bool.false_and]
def I9(Δ:A0)(d c:Int):In:=match Af Δ d with
 |none=>[]
 |some x=>match Af x.O c with
  |none=>[]
  |some y=>y.R.map λt=>Ke t d x.V
theorem Ih{l:Λ α}{x:α}(h:Af l i=some x):0<=i/\i<l.length/\l[i.toNat]?=some x/\x∈l:=by unfold Af at h;split at h;have g:i.toNat<l.length:=D8 h;exact⟨by assumption,ω,h,B5 h⟩;cases h
theorem Tl{l:Λ α}(h:Af l i=none):i<0\/(l.length:Int)<=i:=by unfold Af at h;split at h;rw[List.getElem?_eq_none_iff]at h;right;omega;left;omega
theorem Atu(Δ:A0)(d c:Int)(F:A4->Pb->Ο R)(z:R)(X:Ο R)(f:X=((bif d<(0:Int)then some true else bif d>=(Δ.length:Int)then some true else bif c<(0:Int)then some true else(Af Δ d).bind λb=>some (decide (c>=(b.O.length:Int))):OB).bind λw=>bif w then some z else(Af Δ d).bind λq=>(Af q.O c).bind λA=>F q A)):X=match Af Δ d with
   |none=>some z
   |some x=>match Af x.O c with
    |none=>some z
    |some y=>F x y:=by
 subst f;cases u:Af Δ d with
 |none=>
  rcases Tl u with h|h
  .simp only[Al h,Ak,Ac]
  .by_cases g:d<0
   .simp only[Al g,Ak,Ac]
   .simp only[Am g,Al (show d>=(Δ.length:Int)from h),Ak,Aj,Ac]
 |some x=>
  obtain⟨B,C,_,_⟩:=Ih u;simp only[Am (ω:¬d<0),Am (ω:¬d>=(Δ.length:Int)),Aj,Ac];cases v:Af x.O c with
  |none=>
   rcases Tl v with h|h
   .simp only[Al h,Ak,Ac]
   .by_cases g:c<0
    .simp only[Al g,Ak,Ac]
    .simp only[Am g,Al (show c>=(x.O.length:Int)from h),Ak,Aj,Ac]
  |some y=>obtain⟨D,G,_,_⟩:=Ih v;simp only[Am (ω:¬c<0),Am (ω:¬c>=(x.O.length:Int)),Aj,Ac]
def A5v(l:A1):Prop:=l.length<=4194304/\∀a∈l,a.R.length<=4194304
def Pd(Δ:A0):Prop:=∀x∈Δ,∀y∈x.O,A5v y.R
theorem A5w(Δ:A0)(d c:Int)(u:Pd Δ):Y2 Δ d c=some (I9 Δ d c):=by unfold Y2;rw[Atu Δ d c (λB C=>_) [] _ rfl];unfold I9;cases v:Af Δ d with|none=>rfl|some x=>cases g:Af x.O c with|none=>simp only[g]|some y=>simp only[g];have b:=u x (Ih v).2.2.2 y (Ih g).2.2.2;refine H5 y.R (λj=>((j:Int),(y.R.take j).map λt=>Ke t d x.V)) rfl (by have:=b.1;omega) ?_ ?_;intro j t D q h w A;simp only[h,w,Ak,Ac,Att t d x.V (by have:=b.2 t (B5 q);omega)];rw[Di (by simp;have:=b.1;omega),Ac,A,C4 q,map_append];rfl;intro h;exact⟨_,by simp only[h];rfl,ψ⟩
theorem A5x(Δ:A0)(d c:Int)(g:Pd Δ):Y2 Δ d c=some (I9 Δ d c):=A5w Δ d c g
theorem Al0(l m:Λ α)(y x:α)(i:Int)(n:Nat)(h:i=n)(g:n=l.length):Cd (l++y::m) i x=l++x::m:=by rw[Ge h];subst g;simp
theorem Al1(l m:Λ α)(y:α)(i:Int)(n:Nat)(h:i=n)(g:n=l.length):Af (l++y::m) i=some y:=by rw[B1 h];subst g;simp
theorem A5y(l:A1)(k f:In)(i:Int)(n:Nat)(b:Bool)(h:i=n)(C:n=k.length)(z:l.length<1099511627776){J:Int×List Bool->Ο R}{r:R}(y:J ((l.length:Int),k++(b&&Ats l)::f)=some r):(Ao (S:=(Int×List Bool)) (E:=(Int×List Bool)) (λ(c,g)=>bif c<(l.length:Int)then((Af l c).bind λv=>bif(v.G != (4:Int))then((Af g i).bind λF=>some (.inl (Aa (c+1),Cd g i false)))else(bif(v.U != c)then((Af g i).bind λu=>some (.inl (Aa (c+1),Cd g i false)))else(bif(v.R.length:Int)>(0:Int)then((Af g i).bind λs=>some (.inl (Aa (c+1),Cd g i false)))else(some (.inl (Aa (c+1),g))))))else(some (.inr (c,g)))) (0,k++b::f)).bind J=some r:=by refine H5 l (λj=>((j:Int),k++(b&&(l.take j).zipIdx.all λq=>Rq q.1 q.2)::f)) ψ ω ?_ ?_;intro j x G H B I K;have e:(l.take (j+1)).zipIdx.all (λq=>Rq q.1 q.2)=((l.take j).zipIdx.all (λq=>Rq q.1 q.2)&&Rq x j):=(by rw[C4 H,zipIdx_append,all_append];simp[Nat.min_eq_left (Nat.le_of_lt G)]);simp only[B,I,K,Ak,Ac,Al1 k f _ i n h C,Al0 k f _ _ i n h C,e];unfold Rq;by_cases w:x.G=4;by_cases A:x.U=j;by_cases D:x.R.length=0;rw[Am ω];simp[w,A,D];rw[Al ω];have:(x.R.length==0)=false:=(by simpa using D);simp[w,A,this];simp[w,A,D5 A];simp[w,D5 w];intro B;refine⟨_,by simp only[B];rfl,?_⟩;rw[Du];exact y
theorem Atv(Δ:A0)(d c:Int)(w:Pd Δ):Yn Δ d c=some (I9 Δ d c):=by unfold Yn;rw[Atu Δ d c (λG H=>_) [] _ rfl];unfold I9;cases A:Af Δ d with|none=>rfl|some x=>cases q:Af x.O c with|none=>simp only[q]|some y=>simp only[q];have f:=w x (Ih A).2.2.2 y (Ih q).2.2.2;have g:=f.1;rw[Lu (n:=y.R.length) (c:=y.R.length) rfl rfl ω ω ω,Ac];refine H5 y.R (λj=>((j:Int),((y.R.take j).map λt=>Ke t d x.V)++replicate (y.R.length-j) false)) rfl ω ?_ ?_;intro j t I v u B C;obtain⟨m,D⟩:∃m,y.R.length-j=m+1:=⟨y.R.length-j-1,ω⟩;have h:y.R.length-(j+1)=m:=ω;have b:j=((y.R.take j).map λt=>Ke t d x.V).length:=ζ;simp only[u,B,Ak,Ac,D,h,replicate_succ,C4 v,map_append,map_cons,map_nil,append_assoc,Er,nil_append, Al1 _ _ _ (j:Int) j rfl b,Al0 _ _ _ _ (j:Int) j rfl b];(have F:(bif t.G==5 then bif t.U==d then some (map (λt=>Ke t d x.V) (take j y.R)++((t.R.length:Int)==x.V)::replicate m false)else some (map (λt=>Ke t d x.V) (take j y.R)++false::replicate m false)else some (map (λt=>Ke t d x.V) (take j y.R)++false::replicate m false))=some (map (λt=>Ke t d x.V) (take j y.R)++(t.G==5&&t.U==d&&((t.R.length:Int)==x.V))::replicate m false):=by cases t.G==5<;>cases t.U==d<;>simp);rw[F,Ac];refine A5y t.R _ _ (j:Int) j _ rfl b (by have:=f.2 t (B5 v);omega) ?_;rw[C];rfl;intro u;exact⟨_,by simp only[u];rfl,ψ⟩
mutual
def mnt(d:Int):Ai->Bool
 |⟨k,n,l⟩=>(k==5&&n==d)||Rr d l
def Rr(d:Int):List Ai->Bool
 |[]=>false
 |x::xs=>mnt d x||Rr d xs
end
theorem A5z(d:Int)(t:Ai):mnt d t=((t.G==5&&t.U==d)||Rr d t.R):=by cases t;simp only[mnt]
theorem A50(d:Int)(l:A1):Rr d l=l.any (mnt d):=by induction l with|nil=>rfl|cons x xs ih=>simp only[Rr,ih,any_cons]
theorem A51(d:Int):∀(n:Nat)(t:Ai)(k:Nat),B2 t<=n->4*n+4<=k->n<1099511627776->Vo k t d=some (mnt d t):=by intro n;induction n with|zero=>intro t k h;have:=Qi t;omega|succ n ih=>intro t k h B C;obtain⟨k,rfl⟩:∃c,k=c+4:=⟨k-4,ω⟩;have f:=J3 t;have b:=Lw t.R;have g:Y3 (k+3) t.R d=some (Rr d t.R):=(by rw[Y3,Agh];rw[A50];refine Ac3 (Atn t.R (mnt d) ω ?_ (λh=>by simp only[h];rfl) (λ_=>rfl) rfl) (λi q=>by rw[q]);intro j x u v w A;have D:=Kd u;simp only[v,w,A,Ak,Ac,Ack,ih x k ω ω ω]);rw[Vo,g,A5z];cases t.G==5<;>cases t.U==d<;>simp
theorem A52(Δ:A0)(v:Int)(l:A1):F6 Δ v l=l.all (Hf Δ v):=by induction l with|nil=>rfl|cons x xs ih=>simp only[F6,ih,all_cons]
theorem A53(Δ:A0)(d:Nat)(v k n:Int)(len:Nat):(Nk (Δ.take (d+1)) v k n len && !(k==5&&n==(d:Int)))=Nk (Δ.take d) v k n len:=by by_cases g:k=5;subst g;unfold Nk;simp only[beq_self_eq_true,Bool.true_and,getElem?_take];by_cases q:n=d;subst q;simp;by_cases u:0<=n;have e:(n==(d:Int))=false:=Ck q;rcases Cb n.toNat d with h|h;simp[h,e,show n.toNat<d+1 by omega];simp[e,show ¬n.toNat<d by omega,show ¬n.toNat<d+1 by omega];simp[u];have e:(k==(5:Int))=false:=Ck g;simp only[e,Bool.false_and,Bool.not_false,Bool.and_true,Nk,g,if_false]
mutual
theorem Atw(Δ:List A4)(d:Nat)(v:Int):∀t:Ai,(Hf (Δ.take (d+1)) v t && !mnt d t)=Hf (Δ.take d) v t
 |⟨k,n,l⟩=>by
  have g:=Atx Δ d v l
  have h:=A53 Δ d v k n l.length
  simp only[Hf,mnt]
  rw[<-g,<-h]
  cases Nk (Δ.take (d+1)) v k n l.length<;>cases(k==5&&n==(d:Int))<;>cases F6 (Δ.take (d+1)) v l<;>simp
theorem Atx(Δ:List A4)(d:Nat)(v:Int):∀l:List Ai,(F6 (Δ.take (d+1)) v l && !Rr d l)=F6 (Δ.take d) v l
 |[]=>by simp[F6,Rr]
 |x::xs=>by
  have g:=Atw Δ d v x
  have h:=Atx Δ d v xs
  simp only[F6,Rr]
  rw[<-g,<-h]
  cases Hf (Δ.take (d+1)) v x<;>cases mnt d x<;>cases F6 (Δ.take (d+1)) v xs<;>simp
end
variable{x:A4}{t:Ai}{s:Β}{o:Eg}{Δ:A0}{L:C5}{a b d j:Nat}{y:Pb}{R:Type}{Q:R->Prop}
theorem Aty:∀l:A1,(∀a∈l,a.R.length=0)->Dk l=l.length
 |[],_=>rfl
 |x::xs,h=>by have g:=h x ψ;simp only[Dk,Fd];rw[Aty xs λa q=>h a (by simp[q]),J3,Fm.1 g];simp only[Dk];omega
theorem Atz(v:Δ[d]?=some x)(f:x.V<=6)(h:Ke t d x.V=true):Hf (Δ.take (d+1)) x.V t=true/\B2 t<=200:=by unfold Ke at h;simp only[Dr,beq_iff_eq]at h;obtain⟨⟨⟨w,A⟩,B⟩,c⟩:=h;(have g:∀a∈t.R,∃i:Nat,i<t.R.length/\a.G=4/\a.U=i/\a.R.length=0:=by intro a g;obtain⟨i,q⟩:=Fo g;have:=Ju c q;simp only[Rq,Dr,beq_iff_eq]at this;exact⟨i,D8 q,this.1.1,this.1.2,this.2⟩);refine⟨?_,?_⟩;rw[Ag0,A52,Dr];constructor;rw[w,A];unfold Nk;simp[v,B];rw[Gu];intro a b;obtain⟨i,F,C,D,u⟩:=g a b;rw[Ag0,C,D,u,Fm.1 u];unfold Nk;simp[F6];omega;rw[J3,Aty _ λa h=>(g a h).choose_spec.2.2.2];omega
def Lx(Δ:A0)(d:Nat)(v:Int)(t:Ai):Bool:=Ke t d v||(Hf (Δ.take d) v t&&decide (B2 t<=200))
theorem A54(g:Δ[d]?=some x)(b:x.V<=6)(t:Ai):((Hf (Δ.take (d+1)) x.V t&&decide (B2 t<=200))&&(Ke t d x.V || !mnt d t))=Lx Δ d x.V t:=by unfold Lx;cases h:Ke t d x.V with|true=>obtain⟨q,u⟩:=Atz g b h;rw[q,Al u];rfl|false=>rw[<-Atw Δ d x.V t];cases Hf (Δ.take (d+1)) x.V t<;>cases decide (B2 t<=200)<;>simp
def SzD(Δ:A0):Prop:=∀x∈Δ,x.O.length<=1048576/\∀y∈x.O,Dk y.R<=1048576
theorem SzD.short(h:SzD Δ):Pd Δ:=λx hx y hy=>by have h1:=(h x hx).2 y hy;have h2:=Lw y.R;refine⟨ω,λa ha=>?_⟩;have h3:=Kd ha;have c:=J3 a;have b:=Lw a.R;omega
theorem A55(g:SzD Δ)(d c:Nat)(v:Δ[d]?=some x)(w:x.O[c]?=some y)(q:x.V<=6)(F:Δ.length<=1048576):S5 Δ d c=some (decide (y.R.length<=6)&&y.R.all (Lx Δ d x.V)):=by
 have b:=D8 v;have l:=(g x (B5 v)).2 y (B5 w);unfold S5;rw[B1 rfl v,Ac,B1 rfl w,Ac,Atv Δ d c g.short];by_cases k:y.R.length<=6
 .rw[Am (ω:¬(y.R.length:Int)>6),Al k];simp only[Aj,Bool.true_and,Ac];refine(Kv y.R (Lx Δ d x.V) (λj=>(j:Int)) rfl ω (rt:=true) (rf:=false) ?_ ?_).trans (by rw[Kw])
  .intro j t A B C D;have s:=Kd (B5 A);have u:Af (I9 Δ d c) (j:Int)=some (Ke t d x.V):=(by unfold I9;simp only[B1 rfl v,B1 rfl w];rw[B1 rfl];simp[A]);simp only[B,C,D,Ak,Ac,show Aa ((d:Int)+1)=((d+1:Nat):Int)from Dd b ω,Ac1 rfl (show d+1<=Δ.length from b),B1 rfl v,
    Ac7 (Δ.take (d+1)) t x.V ω,u];rw[<-A54 v q t];cases i:(Hf (Δ.take (d+1)) x.V t&&decide (B2 t<=200))with
   |false=>exact⟨nofun,λ_=>⟨.inl false,rfl,rfl⟩⟩
   |true=>
    have f:B2 t<=200:=(by simp only[Dr,Eh]at i;exact i.2);simp only[Ds,Aj,Bool.true_and];cases z:Ke t d x.V with
    |true=>exact⟨λ_=>rfl,λh=>by cases h⟩
    |false=>simp only[Bool.not_false,Ak,A51 d 200 t 4000000 f ω ω,Ac,Bool.false_or];cases mnt d t with|true=>exact⟨nofun,λ_=>⟨.inl false,rfl,rfl⟩⟩|false=>exact⟨λ_=>rfl,λh=>by cases h⟩
  intro h;exact⟨.inr (),by simp only[h];rfl,rfl⟩
 rw[Al (ω:(y.R.length:Int)>6),Am k];rfl
def bI(s:Β)(i:Nat):Int:=if h:i<s.size then(s[i].toNat:Int)else 0
def loI(c:Int):Bool:=decide (97<=c)&&decide (c<=122)
def upI(c:Int):Bool:=decide (65<=c)&&decide (c<=90)
def diI(c:Int):Bool:=decide (48<=c)&&decide (c<=57)
def wiI(c:Int):Bool:=loI c||upI c||diI c||c==95
def Gm(s:Β):Prop:=1<=s.size/\s.size<=24/\upI (bI s 0)=true/\∀i,i<s.size->wiI (bI s i)=true
theorem J4{i:Int}{n:Nat}(hi:i=n)(h:n<s.size):∃c:UInt8,Gq s i=some c/\(c.toNat:Int)=bI s n:=by subst hi;refine⟨s[n],?_,?_⟩;unfold Gq;rw[Ar ω,show((n:Int)).toNat=n from rfl];simp[h];unfold bI;simp[h]
theorem V9(hb:b<=s.size)(h:a+j<b):bI (s.extract a b) j=bI s (a+j):=by unfold bI;(have g:j<(s.extract a b).size:=by rw[ByteArray.size_extract];omega);rw[dif_pos g,dif_pos ω,ByteArray.getElem_extract]
theorem Qj{lo hi:Int}(g:lo=a)(h:hi=b)(q:a<=b)(c:b<=s.size):Fi s lo hi=some (s.extract a b):=by subst g;subst h;unfold Fi;rw[Ar ω];rfl
theorem At0{a b:Β}(h:a.toList=b.toList):a=b:=by rw[ByteArray.toList_eq,ByteArray.toList_eq]at h;have:a.data=b.data:=Array.toList_inj.1 h;cases a;cases b;simp at this;subst this;rfl
theorem Ag2(a b:Β):(a.toList==b.toList)=decide (a=b):=by by_cases h:a=b;subst h;simp;rw[Am h];cases g:(a.toList==b.toList)with|false=>rfl|true=>exact absurd (At0 (by simpa using g)) h
theorem Al2(c:Int):Y0 c=some (loI c):=by unfold Y0 loI;by_cases h:(97:Int)<=c<;>simp[h]
theorem Al3(c:Int):Vy c=some (upI c):=by unfold Vy upI;by_cases h:(65:Int)<=c<;>simp[h]
theorem Ac8(c:Int):Ta c=some (diI c):=by unfold Ta diI;by_cases h:(48:Int)<=c<;>simp[h]
theorem At1(c:Int):Y1 c=some (wiI c):=by unfold Y1 wiI;rw[Al2,Al3,Ac8];simp only[Ac];cases loI c<;>cases upI c<;>cases diI c<;>rfl
theorem A56(c:Int):Acf c=some (loI c):=Al2 c
theorem A57(c:Int):Yv c=some (upI c):=Al3 c
theorem A58(c:Int):Yw c=some (diI c):=Ac8 c
theorem Y8{S E:Type}{step:S->Ο (S⊕E)}(s:Β)(p:Int->Bool)(b:Nat->S)(f:Nat->E)(lo:Nat)(g:∀j,lo<=j->j<s.size->p (bI s j)=true->step (b j)=some (.inl (b (j+1))))(q:∀j,lo<=j->j<s.size->p (bI s j)=false->step (b j)=some (.inr (f j)))(u:step (b s.size)=some (.inr (f s.size))):∀(m i:Nat),lo<=i->i+m=s.size->∃n,i<=n/\n<=s.size/\(∀j,i<=j->j<n->p (bI s j)=true)/\(n<s.size->p (bI s n)=false)/\Ao step (b i)=some (f n):=by intro m;induction m with|zero=>intro i _ v;have:i=s.size:=ω;subst this;exact⟨s.size,ω,ω,λj _ _=>ω,λh=>ω,Cr u⟩|succ m ih=>intro i c v;cases hp:p (bI s i)with|true=>(obtain⟨n,F,w,A,B,C⟩:=ih (i+1) ω ω;refine⟨n,ω,w,λj G D=>?_,B,by rw[Fh (g i c ω hp)];exact C⟩;rcases Cb i j with h|h;exact A j h D;have:j=i:=ω;subst this;exact hp)|false=>exact⟨i,ω,ω,λj _ _=>ω,λ_=>hp,Cr (q i c ω hp)⟩
theorem A59(s:Β)(f:s.size<1099511627776):∃n,n<=s.size/\(∀j,j<n->wiI (bI s j)=true)/\(n<s.size->wiI (bI s n)=false)/\Acp s=some (s.extract 0 n):=by have H:=Y8 (step:=λh:Int=>bif h<(s.size:Int)then((Gq s h).bind λA=>(Y1 (A.toNat:Int)).bind λB=>bif B then some (.inl (Aa (h+1)))else some (.inr h))else some (.inr h)) s wiI (λj=>(j:Int)) (λj=>(j:Int)) 0 (λj _ g hp=>by obtain⟨c,q,u⟩:=J4 (s:=s) (i:=(j:Int)) rfl g;simp only[Al (ω:(j:Int)<(s.size:Int)),Ak,q,Ac,u,At1,hp,Dd g ω]) (λj _ g hp=>by obtain⟨c,q,u⟩:=J4 (s:=s) (i:=(j:Int)) rfl g;simp only[Al (ω:(j:Int)<(s.size:Int)),Ak,q,Ac,u,At1,hp,Aj]) ψ s.size 0 ω ω;obtain⟨n,_,w,C,D,v⟩:=H;refine⟨n,w,λj g=>C j ω g,D,?_⟩;unfold Acp;have v:Ao _ (0:Int)=some (n:Int):=v;rw[v,Ac,Qj (lo:=0) (a:=0) (b:=n) rfl rfl ω w];rfl
theorem A6a(s:Β)(f:s.size<1099511627776):∃n,n<=s.size/\(∀j,j<n->diI (bI s j)=true)/\(n<s.size->diI (bI s n)=false)/\Agg s=some (s.extract 0 n):=by have H:=Y8 (step:=λh:Int=>bif h<(s.size:Int)then((Gq s h).bind λA=>(Ta (A.toNat:Int)).bind λB=>bif B then some (.inl (Aa (h+1)))else some (.inr h))else some (.inr h)) s diI (λj=>(j:Int)) (λj=>(j:Int)) 0 (λj _ g hp=>by obtain⟨c,q,u⟩:=J4 (s:=s) (i:=(j:Int)) rfl g;simp only[Al (ω:(j:Int)<(s.size:Int)),Ak,q,Ac,u,Ac8,hp,Dd g ω]) (λj _ g hp=>by obtain⟨c,q,u⟩:=J4 (s:=s) (i:=(j:Int)) rfl g;simp only[Al (ω:(j:Int)<(s.size:Int)),Ak,q,Ac,u,Ac8,hp,Aj]) ψ s.size 0 ω ω;obtain⟨n,_,w,C,D,v⟩:=H;refine⟨n,w,λj g=>C j ω g,D,?_⟩;unfold Agg;have v:Ao _ (0:Int)=some (n:Int):=v;rw[v,Ac,Qj (lo:=0) (a:=0) (b:=n) rfl rfl ω w];rfl
theorem Wa{c:Bool}{X Y:Ο R}(g:∃r,X=some r/\Q r)(h:∃r,Y=some r/\Q r):∃r,(bif c then X else Y)=some r/\Q r:=by cases c<;>assumption
theorem Ac9{A:Type}{X:Ο A}{f:A->Ο R}(P:A->Prop)(g:∃a,X=some a/\P a)(q:∀a,P a->∃r,f a=some r/\Q r):∃r,X.bind f=some r/\Q r:=by obtain⟨a,e,h⟩:=g;rw[e];exact q a h
theorem A6b(s:Β):∃b,Acq s=some b/\True:=by unfold Acq;repeat' first|refine Wa ?_ ?_|exact⟨_,rfl,trivial⟩
theorem A6c(s:Β)(q:1<=s.size):∃r,Acs s=some r/\(r.size<=s.size):=by
 have g:Fi s 0 1=some (s.extract 0 1):=Qj rfl rfl ω q;(have c:(s.extract 0 1).size<=s.size:=by rw[ByteArray.size_extract];omega);unfold Acs;refine Ac9 (λz=>∀r,z=.inl r->r.size<=s.size) ?_ ?_
 .by_cases v:2<=s.size
  .have f:Fi s 0 2=some (s.extract 0 2):=Qj rfl rfl ω v;have b:∀r,(Sum.inl (s.extract 0 2):Β⊕Unit)=.inl r->r.size<=s.size:=(by rintro r ⟨⟩;rw[ByteArray.size_extract];omega);simp only[f,Ac];repeat' first|refine Wa ?_ ?_|with_reducible exact⟨_,rfl,b⟩|exact⟨_,rfl,λr h=>by cases h⟩
  rw[Am ω];exact⟨_,rfl,λr h=>by cases h⟩
 .rintro (r|u) i;exact⟨_,rfl,i r rfl⟩
  .simp only[g,Ac];have w:(ByteArray.mk #[]).size<=s.size:=Nat.zero_le _;repeat' first|refine Wa ?_ ?_|with_reducible exact⟨_,rfl,c⟩|with_reducible exact⟨_,rfl,w⟩
theorem A6d(s:Β)(f:s.size<1099511627776):∃b,Acr s=some b/\True:=by unfold Acr;refine Fz (λ(_,i)=>∃j:Nat,i=j/\j<=s.size) (λ(_,i)=>s.size-i.toNat) (λ_=>True) ⟨0,rfl,ω⟩ ?_ ?_;rintro⟨v,i⟩ ⟨j,rfl,q⟩;rcases Cb j s.size with h|h;obtain⟨c,g,_⟩:=J4 (s:=s) (i:=(j:Int)) rfl h;simp only[Al (ω:(j:Int)<(s.size:Int)),Ak,g,Ac,Dd h ω];(cases decide (Aa (Aa (v*10)+Aa (wu8 ((c.toNat:Int)-48)))>1000000)with|true=>exact .inr ⟨_,rfl,trivial⟩|false=>exact .inl ⟨_,rfl,⟨j+1,rfl,ω⟩,ζ⟩);have:j=s.size:=ω;subst this;exact .inr ⟨.inr (),ψ,trivial⟩;rintro(r|u) _<;>exact⟨_,rfl,trivial⟩
theorem A6e(s:Β)(i:Nat)(hi:i<s.size)(M:s.size<1099511627776):∃r,Acj s i=some r/\(r.2=0->1<=r.1.Text.size/\i+r.1.Text.size<=s.size/\(r.1.G=2->Gm r.1.Text))/\(Gm s->i=0->r=(⟨2,s,0⟩,0)):=by obtain⟨c,N,P⟩:=J4 (s:=s) (i:=(i:Int)) rfl hi;have u:Fi s (i:Int) (s.size:Int)=some (s.extract i s.size):=Qj rfl rfl ω ω;(have I:(s.extract i s.size).size=s.size-i:=by rw[ByteArray.size_extract];omega);have x:bI (s.extract i s.size) 0=bI s i:=V9 ω ω;unfold Acj;simp only[N,Ac,P,Al2,Al3,Ac8,u];(have T:(bif loI (bI s i)then some true else some (upI (bI s i)))=some (loI (bI s i)||upI (bI s i)):=by cases loI (bI s i)<;>rfl);rw[T];simp only[Ac];cases l:(loI (bI s i)||upI (bI s i))with|true=>obtain⟨n,G,D,y,F⟩:=A59 (s.extract i s.size) ω;(have A:1<=n:=by rcases Nat.eq_zero_or_pos n with h|h;subst h;have:=y ω;rw[x]at this;unfold wiI at this;rw[l]at this;cases this;exact h);have H:(s.extract i s.size).extract 0 n=s.extract i (i+n):=(by rw[ByteArray.extract_extract];congr 1;omega);have q:(s.extract i (i+n)).size=n:=(by rw[ByteArray.size_extract];omega);rw[H]at F;simp only[Ak,F,Ac,q];(have g:Gm s->i=0->n=s.size:=by intro w C;rcases Cb n s.size with h|h;have:=y ω;rw[V9 ω ω,w.2.2.2 _ ω]at this;cases this;omega);by_cases J:n<=24;rw[Am ω];(cases k:upI (bI s i)with|true=>refine⟨_,rfl,λ_=>⟨?_,?_,λ_=>⟨?_,?_,?_,?_⟩⟩,?_⟩;show 1<=(s.extract i (i+n)).size;omega;show i+(s.extract i (i+n)).size<=s.size;omega;show 1<=(s.extract i (i+n)).size;omega;show(s.extract i (i+n)).size<=24;omega;show upI (bI (s.extract i (i+n)) 0)=true;rw[V9 ω ω];exact k;show ∀j,j<(s.extract i (i+n)).size->wiI (bI (s.extract i (i+n)) j)=true;intro j V;rw[V9 ω ω];have:=D j ω;rw[V9 ω ω]at this;exact this;intro w C;have:=g w C;subst C;subst this;rw[Nat.zero_add,ByteArray.extract_zero_size];rfl|false=>obtain⟨b,K,_⟩:=A6b (s.extract i (i+n));simp only[Aj,K,Ac];have f:Gm s->i=0->False:=(by intro w C;subst C;rw[w.2.2.1]at k;cases k);cases b with|true=>exact⟨_,rfl,λ_=>⟨by show 1<=(s.extract i (i+n)).size;omega,by show i+(s.extract i (i+n)).size<=s.size;omega,λh=>by cases h⟩,λw C=>(f w C).elim⟩|false=>exact⟨_,rfl,λ_=>⟨by show 1<=(s.extract i (i+n)).size;omega,by show i+(s.extract i (i+n)).size<=s.size;omega,λh=>by cases h⟩,λw C=>(f w C).elim⟩);rw[Al ω];refine⟨_,rfl,nofun,λw C=>?_⟩;have:=g w C;have:=w.2.1;omega|false=>have f:Gm s->i=0->False:=(by intro w C;subst C;rw[w.2.2.1,Bool.or_true]at l;cases l);simp only[Aj];cases U:diI (bI s i)with|true=>obtain⟨n,G,D,y,F⟩:=A6a (s.extract i s.size) ω;(have A:1<=n:=by rcases Nat.eq_zero_or_pos n with h|h;subst h;have:=y ω;rw[x,U]at this;cases this;exact h);have H:(s.extract i s.size).extract 0 n=s.extract i (i+n):=(by rw[ByteArray.extract_extract];congr 1;omega);have q:(s.extract i (i+n)).size=n:=(by rw[ByteArray.size_extract];omega);rw[H]at F;obtain⟨b,K,_⟩:=A6d (s.extract i (i+n)) ω;simp only[Ak,F,Ac,K];refine Ac9 (λ_=>True) ?_ ?_;exact Wa ⟨_,rfl,trivial⟩ ⟨_,rfl,trivial⟩;intro v _;refine Wa ⟨_,rfl,nofun,λw C=>(f w C).elim⟩ (Wa ⟨_,rfl,nofun,λw C=>(f w C).elim⟩ ⟨_,rfl,λ_=>⟨?_,?_,λh=>by cases h⟩,λw C=>(f w C).elim⟩);show 1<=(s.extract i (i+n)).size;omega;show i+(s.extract i (i+n)).size<=s.size;omega|false=>obtain⟨r,E,L⟩:=A6c (s.extract i s.size) ω;simp only[Aj,E,Ac];rw[Ag2];by_cases z:r=ByteArray.mk #[];rw[Al z];exact⟨_,rfl,nofun,λw C=>(f w C).elim⟩;rw[Am z];refine⟨_,rfl,λ_=>⟨?_,?_,λh=>by cases h⟩,λw C=>(f w C).elim⟩;show 1<=r.size;rcases Nat.eq_zero_or_pos r.size with h|h;have B:r.data.toList.length=0:=(by simpa using h);exact absurd (At0 (by rw[ByteArray.toList_eq,Fm.1 B,ByteArray.toList_eq])) z;exact h;show i+r.size<=s.size;omega
theorem A6f(c:Int):Aci c=some (c==9||c==10||c==13||c==32):=by unfold Aci;cases c==9<;>cases c==10<;>cases c==13<;>rfl
theorem At2(s:Β)(R:s.size<1099511627776):∃b,Vd s=some b/\(b=true↔Gm s):=by unfold Vd Af5;by_cases q:(s.size:Int)>16384;rw[Al q];refine⟨false,rfl,by simp;rintro⟨_,h,_⟩;omega⟩;rw[Am q];simp only[Aj];refine Ac9 (λr:List Ku×Int×Int=>(r.2.2≠0/\¬Gm s)\/(r.2.2=0/\∃o e,r.1=o++[e]/\(∀t∈o,t.G=2->Gm t.Text)/\(Gm s->o=[⟨2,s,0⟩]))) ?_ ?_;refine Fz (λ(F,f)=>∃i:Nat,F=i/\i<=s.size/\f.length<=i/\(∀t∈f,t.G=2->Gm t.Text)/\(Gm s->(i=0/\f=[])\/(i=s.size/\f=[⟨2,s,0⟩]))) (λ(F,_)=>s.size-F.toNat) (λz=>match z with|.inl o=>o.length<=16384/\(∀t∈o,t.G=2->Gm t.Text)/\(Gm s->o=[⟨2,s,0⟩])|.inr (_,_,e)=>e≠0/\¬Gm s) ⟨0,rfl,ω,ψ,ψ,λ_=>.inl ⟨rfl,rfl⟩⟩ ?_ ?_;rintro⟨v,o⟩ ⟨i,rfl,hi,ho,H,hu⟩;rcases Cb i s.size with h|h;obtain⟨c,K,P⟩:=J4 (s:=s) (i:=(i:Int)) rfl h;(have g:Gm s->i=0/\o=[]:=λu=>by rcases hu u with w|w;exact w;omega);simp only[Al (ω:(i:Int)<(s.size:Int)),Ak,K,Ac,P,A6f];(cases G:(bI s i==9||bI s i==10||bI s i==13||bI s i==32)with|true=>(have k:¬Gm s:=by intro u;have h0:=(g u).1;subst h0;have:=u.2.2.1;simp only[upI,Dr,Eh]at this;simp only[Bool.or_eq_true,beq_iff_eq]at G;omega);exact .inl ⟨(((i+1:Nat):Int),o),by simp only[Ak];rw[Dd h ω],⟨i+1,rfl,ω,(by show o.length<=i+1;omega),H,λu=>(k u).elim⟩,ζ⟩|false=>simp only[Aj];cases B:(bI s i==35)with|true=>((have k:¬Gm s:=by intro u;have h0:=(g u).1;subst h0;have:=u.2.2.1;simp only[upI,Dr,Eh]at this;simp only[beq_iff_eq]at B;omega);simp only[Ak];obtain⟨n,n1,Z,Y,n4,E⟩:=Y8 (step:=λC:Int=>bif C<(s.size:Int)then((Gq s C).bind λI=>bif((I.toNat:Int)==(10:Int))then some (.inr (.inl C))else some (.inl (Aa (C+1))))else some (.inr (.inr C))) s (λc=>!(c==10)) (λj=>(j:Int)) (λj=>if j<s.size then Sum.inl (j:Int)else Sum.inr (j:Int)) 0 (λj _ T hp=>by obtain⟨c,K,P⟩:=J4 (s:=s) (i:=(j:Int)) rfl T;simp only[Bool.not_eq_true']at hp;simp only[Al (ω:(j:Int)<(s.size:Int)),Ak,K,Ac,P,hp,Dd T ω,Aj]) (λj _ T hp=>by obtain⟨c,K,P⟩:=J4 (s:=s) (i:=(j:Int)) rfl T;simp only[Bool.not_eq_false']at hp;simp only[Al (ω:(j:Int)<(s.size:Int)),Ak,K,Ac,P,hp,Ar T]) ψ (s.size-i) i ω ω;(have S:i<n:=by rcases Cb i n with w|w;exact w;have:n=i:=ω;subst this;have:=n4 h;simp only[beq_iff_eq]at B;rw[B]at this;cases this);have E:Ao _ (i:Int)=_:=E;rw[E,Ac];rcases Cb n s.size with w|w;rw[Ar w];exact .inl ⟨((n:Int),o),rfl,⟨n,rfl,ω,(by show o.length<=n;omega),H,λu=>(k u).elim⟩,ζ⟩;rw[Au ω];exact .inr ⟨.inl o,rfl,ω,H,λu=>(k u).elim⟩)|false=>obtain⟨r,N,M,J⟩:=A6e s i h R;simp only[Aj,N,Ac];by_cases D:r.2=0;obtain⟨a1,a2,a3⟩:=M D;simp only[Dv D,Aj];rw[Di ζ,Ac];refine .inl ⟨(((i+r.1.Text.size:Nat):Int),o++[r.1]),?_,⟨i+r.1.Text.size,rfl,a2,ζ,?_,?_⟩,ζ⟩;rw[show Aa ((i:Int)+(r.1.Text.size:Int))=((i+r.1.Text.size:Nat):Int)by rw[Aa,Bm]<;>omega];intro t ht;rcases Ef.1 ht with w|w;exact H t w;simp at w;subst w;exact a3;intro u;obtain⟨b1,b2⟩:=g u;have:=J u b1;subst b1;subst b2;subst this;exact .inr ⟨ψ,rfl⟩;simp only[D5 D,Ak];refine .inr ⟨_,rfl,D,λu=>?_⟩;rw[J u (g u).1]at D;exact D rfl);have:i=s.size:=ω;subst this;refine .inr ⟨.inl o,ψ,ω,H,λu=>?_⟩;(rcases hu u with⟨w,_⟩|⟨_,w⟩);have:=u.1;omega;exact w;rintro(o|⟨l,p,e⟩) L;obtain⟨X,z2,z3⟩:=L;simp only;rw[Di ζ,Ac];exact⟨_,rfl,.inr ⟨rfl,o,_,rfl,z2,z3⟩⟩;exact⟨_,rfl,.inl L⟩;rintro⟨l,p,e⟩ (⟨W,h2⟩|⟨W,o,t,h2,h3,A⟩);simp only at W;simp only[Ck W,Aj];exact⟨_,rfl,by simp[h2]⟩;simp only at W h2;subst W;subst h2;simp only[beq_self_eq_true,Ak];match o,h3,A with|[],_,A=>exact⟨false,ψ,by simp;intro u;cases A u⟩|[x],h3,A=>have V:Af ([x]++[t]) 0=some x:=rfl;simp only[V,Ac,Ag2];have U:((([x]++[t]).length:Int)==2)=true:=rfl;simp only[U,Ak];by_cases hx:x.G=2;simp only[Es hx,Ak];refine⟨_,rfl,?_⟩;rw[decide_eq_true_iff];constructor;intro h;rw[<-h];exact h3 x ψ hx;intro u;have:=A u;simp at this;rw[this];simp only[Ck hx,Aj];refine⟨_,rfl,?_⟩;simp only[Bool.false_eq_true,false_iff];intro u;have:=A u;simp at this;rw[this]at hx;exact hx rfl|x::y::ys,_,A=>refine⟨false,?_,by simp;intro u;have:=A u;simp at this⟩;rw[Ck];rfl;simp;omega
theorem A6g(s:Β):∃b,Agb s=some b/\True:=by(have g:∀(L:C5),L.length<1000->∃b,((Ao (S:=Int) (E:=(Bool⊕Unit)) (λq=>bif q<(L.length:Int)then((Af L q).bind λu=>bif(u.toList==s.toList)then some (.inr (.inl true))else some (.inl (Aa (q+1))))else some (.inr (.inr ()))) 0).bind λz=>match z with|.inl c=>some c|.inr _=>some false)=some b/\True:=by intro L f;refine⟨_,Kv L (λv=>!(v.toList==s.toList)) (λj=>(j:Int)) rfl ω (rt:=false) (rf:=true) ?_ ?_,trivial⟩;intro j x C w A B;simp only[w,A,B,Ak,Ac];(cases(x.toList==s.toList)with|true=>exact⟨nofun,λ_=>⟨_,rfl,rfl⟩⟩|false=>exact⟨λ_=>rfl,λh=>by cases h⟩);intro h;exact⟨.inr (),by simp only[h];rfl,rfl⟩);exact g _ δ
theorem A6h(s:Β)(v:1<=s.size)(T:Β)(q:T.size<1000):∃r,((Ao (S:=Int) (E:=(Int⊕Unit)) (λb=>bif b<(T.size:Int)then((Gq s 0).bind λl=>(Gq T b).bind λk=>bif((l.toNat:Int)==(k.toNat:Int))then some (.inr (.inl 1))else some (.inl (Aa (b+1))))else some (.inr (.inr ()))) 0).bind λz=>match z with|.inl f=>some f|.inr _=>some 0)=some r/\(r=0\/(1<=r/\r<=s.size)):=by refine Fz (λi=>∃j:Nat,i=j/\j<=T.size) (λi=>T.size-i.toNat) (λz=>∀r,z=.inl r->r=1) ⟨0,rfl,ω⟩ ?_ ?_;rintro i ⟨j,rfl,A⟩;rcases Cb j T.size with h|h;obtain⟨c,w,_⟩:=J4 (s:=T) (i:=(j:Int)) rfl h;obtain⟨d,d1,_⟩:=J4 (s:=s) (i:=0) (n:=0) rfl v;simp only[Al (ω:(j:Int)<(T.size:Int)),Ak,w,d1,Ac,Dd h ω];(cases((d.toNat:Int)==(c.toNat:Int))with|true=>exact .inr ⟨_,rfl,λr h=>by cases h;rfl⟩|false=>exact .inl ⟨_,rfl,⟨j+1,rfl,ω⟩,ζ⟩);have:j=T.size:=ω;subst this;exact .inr ⟨.inr (),ψ,λr h=>by cases h⟩;rintro(r|u) g;exact⟨r,rfl,.inr (by have:=g r rfl;omega)⟩;exact⟨0,rfl,.inl rfl⟩
theorem A6i(s:Β)(q:1<=s.size):∃r,Ach s=some r/\(r=0\/(1<=r/\r<=s.size)):=by
 unfold Ach;refine Ac9 (λb=>b=true->2<=s.size) ?_ ?_
 .by_cases g:2<=s.size
  .have c:Fi s 0 2=some (s.extract 0 2):=Qj rfl rfl ω g;simp only[c,Ac];repeat' first|refine Wa ?_ ?_|exact⟨_,rfl,λ_=>g⟩
  rw[Am ω];exact⟨_,rfl,λh=>by cases h⟩
 rintro b u;cases b with|true=>exact⟨2,rfl,.inr ⟨ω,by have:=u rfl;omega⟩⟩|false=>exact A6h s q _ δ
theorem A6j(s:Β)(g:s.size<1099511627776):∃b,Acg s=some b/\True:=by unfold Acg;refine Fz (λ(_,i)=>∃j:Nat,i=j/\j<=s.size) (λ(_,i)=>s.size-i.toNat) (λ_=>True) ⟨0,rfl,ω⟩ ?_ ?_;rintro⟨v,i⟩ ⟨j,rfl,w⟩;rcases Cb j s.size with h|h;obtain⟨c,q,_⟩:=J4 (s:=s) (i:=(j:Int)) rfl h;simp only[Al (ω:(j:Int)<(s.size:Int)),Ak,q,Ac,Dd h ω];(cases decide (Aa (Aa (v*10)+Aa (wu8 ((c.toNat:Int)-48)))>1000000)with|true=>exact .inr ⟨_,rfl,trivial⟩|false=>exact .inl ⟨_,rfl,⟨j+1,rfl,ω⟩,ζ⟩);have:j=s.size:=ω;subst this;exact .inr ⟨.inr v,ψ,trivial⟩;rintro(⟨r,f⟩|u) _<;>exact⟨_,rfl,trivial⟩
theorem At3(s:Β)(hs:s.size<1099511627776):∃b,Vb s=some b/\(b=true↔Gm s):=by unfold Vb Af4;by_cases I:(s.size:Int)>16384;rw[Al I];refine⟨false,rfl,by simp;rintro⟨_,h,_⟩;omega⟩;rw[Am I];simp only[Aj];refine Ac9 (λr:List Lr×Int×Int=>(r.2.2≠0/\¬Gm s)\/(r.2.2=0/\∃o e,r.1=o++[e]/\(∀t∈o,t.G=2->Gm t.Text)/\(Gm s->o=[⟨2,s,0⟩]))) ?_ ?_;refine Fz (λ(a0,G)=>∃i:Nat,a0=i/\i<=s.size/\G.length<=i/\(∀t∈G,t.G=2->Gm t.Text)/\(Gm s->(i=0/\G=[])\/(i=s.size/\G=[⟨2,s,0⟩]))) (λ(a0,_)=>s.size-a0.toNat) (λz=>match z with|.inr o=>o.length<=16384/\(∀t∈o,t.G=2->Gm t.Text)/\(Gm s->o=[⟨2,s,0⟩])|.inl (_,_,e)=>e≠0/\¬Gm s) ⟨0,rfl,ω,ψ,ψ,λ_=>.inl ⟨rfl,rfl⟩⟩ ?_ ?_;rintro⟨v,o⟩ ⟨i,rfl,hi,ho,hk,hu⟩;rcases Cb i s.size with h|h;obtain⟨c,F,H⟩:=J4 (s:=s) (i:=(i:Int)) rfl h;(have A:Gm s->i=0/\o=[]:=λu=>by rcases hu u with w|w;exact w;omega);(have f:∀j:Nat,i<=j->j<=s.size->Aa ((i:Int)+((j:Int)-(i:Int)))=(j:Int):=λj _ _=>by rw[Aa,Bm]<;>omega);(have U:(bif bI s i==9 then some true else bif bI s i==10 then some true else bif bI s i==13 then some true else some (bI s i==32))=some (bI s i==9||bI s i==10||bI s i==13||bI s i==32):=by cases bI s i==9<;>cases bI s i==10<;>cases bI s i==13<;>rfl);(have hw:(bif loI (bI s i)then some true else some (upI (bI s i)))=some (loI (bI s i)||upI (bI s i)):=by cases loI (bI s i)<;>rfl);simp only[Al (ω:(i:Int)<(s.size:Int)),Ak,F,Ac,H,U,A56,A57,A58,hw];(cases U:(bI s i==9||bI s i==10||bI s i==13||bI s i==32)with|true=>(have g:¬Gm s:=by intro u;have W:=(A u).1;subst W;have:=u.2.2.1;simp only[upI,Dr,Eh]at this;simp only[Bool.or_eq_true,beq_iff_eq]at U;omega);exact .inl ⟨(((i+1:Nat):Int),o),by simp only[Ak];rw[Dd h ω],⟨i+1,rfl,ω,(by show o.length<=i+1;omega),hk,λu=>(g u).elim⟩,ζ⟩|false=>simp only[Aj];cases R:(bI s i==35)with|true=>(have g:¬Gm s:=by intro u;have W:=(A u).1;subst W;have:=u.2.2.1;simp only[upI,Dr,Eh]at this;simp only[beq_iff_eq]at R;omega);simp only[Ak];obtain⟨n,n1,D,n3,n4,B⟩:=Y8 (step:=λP:Int=>bif P<(s.size:Int)then((Gq s P).bind λah=>bif((ah.toNat:Int) != (10:Int))then some (.inl (Aa (P+1)))else some (.inr P))else some (.inr P)) s (λc=>c != 10) (λj=>(j:Int)) (λj=>(j:Int)) 0 (λj _ K hp=>by obtain⟨c,F,H⟩:=J4 (s:=s) (i:=(j:Int)) rfl K;simp only[Al (ω:(j:Int)<(s.size:Int)),Ak,F,Ac,H,hp,Dd K ω]) (λj _ K hp=>by obtain⟨c,F,H⟩:=J4 (s:=s) (i:=(j:Int)) rfl K;simp only[Al (ω:(j:Int)<(s.size:Int)),Ak,F,Ac,H,hp,Aj]) ψ (s.size-i) i ω ω;(have ai:i<n:=by rcases Cb i n with w|w;exact w;have:n=i:=ω;subst this;have:=n4 h;simp only[beq_iff_eq]at R;rw[R]at this;cases this);have B:Ao _ (i:Int)=_:=B;rw[B,Ac];exact .inl ⟨((n:Int),o),rfl,⟨n,rfl,ω,(by show o.length<=n;omega),hk,λu=>(g u).elim⟩,ζ⟩|false=>simp only[Aj];cases S:(loI (bI s i)||upI (bI s i))with|true=>simp only[Ak];obtain⟨n,n1,D,n3,n4,B⟩:=Y8 (step:=λC:Int=>bif(Aa ((i:Int)+C))<(s.size:Int)then((Gq s (Aa ((i:Int)+C))).bind λag=>(some (loI (ag.toNat:Int))).bind λa8=>bif a8 then some (.inl (Aa (C+1)))else((Gq s (Aa ((i:Int)+C))).bind λaf=>(some (upI (af.toNat:Int))).bind λa7=>bif a7 then some (.inl (Aa (C+1)))else((Gq s (Aa ((i:Int)+C))).bind λae=>(some (diI (ae.toNat:Int))).bind λa6=>bif a6 then some (.inl (Aa (C+1)))else((Gq s (Aa ((i:Int)+C))).bind λad=>bif((ad.toNat:Int)==(95:Int))then some (.inl (Aa (C+1)))else some (.inr C)))))else some (.inr C)) s wiI (λj=>(j:Int)-(i:Int)) (λj=>(j:Int)-(i:Int)) i (λj q K hp=>by obtain⟨c,F,H⟩:=J4 (s:=s) (i:=(j:Int)) rfl K;(have V:Aa ((j:Int)-(i:Int)+1)=((j+1:Nat):Int)-(i:Int):=by rw[Aa,Bm]<;>omega);simp only[f j q ω,Al (ω:(j:Int)<(s.size:Int)),Ak,F,Ac,H,V];unfold wiI at hp;revert hp;cases loI (bI s j)<;>cases upI (bI s j)<;>cases diI (bI s j)<;>cases(bI s j==95)<;>simp) (λj q K hp=>by obtain⟨c,F,H⟩:=J4 (s:=s) (i:=(j:Int)) rfl K;simp only[f j q ω,Al (ω:(j:Int)<(s.size:Int)),Ak,F,Ac,H];unfold wiI at hp;revert hp;cases loI (bI s j)<;>cases upI (bI s j)<;>cases diI (bI s j)<;>cases(bI s j==95)<;>simp) (by simp only[f s.size hi ω];simp) (s.size-(i+1)) (i+1) ω ω;have Z:((i+1:Nat):Int)-(i:Int)=1:=ω;simp only[Z]at B;simp only[Ac]at B;rw[B,Ac];(have k:Fi s (i:Int) (Aa ((i:Int)+((n:Int)-(i:Int))))=some (s.extract i n):=by rw[f n ω D];exact Qj rfl rfl ω D);(have X:(s.extract i n).size=n-i:=by rw[ByteArray.size_extract];omega);(have Y:∀j,i<=j->j<n->wiI (bI s j)=true:=λj a1 a2=>by rcases Cb i j with w|w;exact n3 j w a2;have:j=i:=ω;subst this;unfold wiI;rw[S];rfl);(have E:Gm s->n=s.size:=by intro u;rcases Cb n s.size with w|w;have:=n4 w;rw[u.2.2.2 _ w]at this;cases this;omega);by_cases aj:n-i<=24;rw[Am ω];simp only[Aj];(cases N:upI (bI s i)with|true=>(simp only[Ak,Ac,k];rw[Di ζ,Ac,f n ω D];refine .inl ⟨_,rfl,⟨n,rfl,D,ζ,?_,?_⟩,ζ⟩;intro t ht;rcases Ef.1 ht with w|w;exact hk t w;simp only[De]at w;subst w;intro _;refine⟨?_,?_,?_,?_⟩;show 1<=(s.extract i n).size;omega;show(s.extract i n).size<=24;omega;show upI (bI (s.extract i n) 0)=true;rw[V9 ω ω];exact N;show ∀j,j<(s.extract i n).size->wiI (bI (s.extract i n) j)=true;intro j K;rw[V9 ω ω];exact Y _ ω ω;intro u;obtain⟨b1,b2⟩:=A u;have hf:=E u;subst b1;subst b2;subst hf;rw[ByteArray.extract_zero_size];exact .inr ⟨rfl,rfl⟩)|false=>obtain⟨b,hb,_⟩:=A6g (s.extract i n);(have g:¬Gm s:=by intro u;have W:=(A u).1;subst W;rw[u.2.2.1]at N;cases N);(have ab:∃M:Int,(bif b then some 4 else some 1:A5)=some M/\M≠2:=by cases b<;>exact⟨_,rfl,δ⟩);obtain⟨M,k1,k2⟩:=ab;simp only[Aj,Ac,k,hb,k1];rw[Di ζ,Ac,f n ω D];refine .inl ⟨_,rfl,⟨n,rfl,D,ζ,?_,λu=>(g u).elim⟩,ζ⟩;intro t ht;rcases Ef.1 ht with w|w;exact hk t w;simp only[De]at w;subst w;intro w;exact absurd w k2);rw[Al ω];refine .inr ⟨_,rfl,(by show(9:Int)≠0;decide),λu=>?_⟩;have:=E u;have:=u.2.1;have:=(A u).1;omega|false=>(have g:¬Gm s:=by intro u;have W:=(A u).1;subst W;rw[u.2.2.1,Bool.or_true]at S;cases S);(have J:∀(n:Nat)(M:Int),i<n->n<=s.size->M≠2->∃s':Int×List Lr,(Cj 32 o [Lr.mk M (s.extract i n) i]).bind (λaa=>(some (Sum.inl ((n:Int),aa)):Ο ((Int×List Lr)⊕((List Lr×Int×Int)⊕List Lr))))=some (.inl s')/\(∃j:Nat,s'.1=j/\j<=s.size/\s'.2.length<=j/\(∀t∈s'.2,t.G=2->Gm t.Text)/\(Gm s->(j=0/\s'.2=[])\/(j=s.size/\s'.2=[⟨2,s,0⟩])))/\s.size-s'.1.toNat<s.size-i:=by intro n M a1 a2 a3;rw[Di ζ,Ac];refine⟨_,rfl,⟨n,rfl,a2,ζ,?_,λu=>(g u).elim⟩,ζ⟩;intro t ht;rcases Ef.1 ht with w|w;exact hk t w;simp only[De]at w;subst w;intro w;exact absurd w a3);simp only[Aj];cases hd:diI (bI s i)with|true=>(simp only[Ak];obtain⟨n,n1,D,n3,n4,B⟩:=Y8 (step:=λT:Int=>bif(Aa ((i:Int)+T))<(s.size:Int)then((Gq s (Aa ((i:Int)+T))).bind λac=>(some (diI (ac.toNat:Int))).bind λa4=>bif a4 then some (.inl (Aa (T+1)))else some (.inr T))else some (.inr T)) s diI (λj=>(j:Int)-(i:Int)) (λj=>(j:Int)-(i:Int)) i (λj q K hp=>by obtain⟨c,F,H⟩:=J4 (s:=s) (i:=(j:Int)) rfl K;(have V:Aa ((j:Int)-(i:Int)+1)=((j+1:Nat):Int)-(i:Int):=by rw[Aa,Bm]<;>omega);simp only[f j q ω,Al (ω:(j:Int)<(s.size:Int)),Ak,F,Ac,H,V,hp]) (λj q K hp=>by obtain⟨c,F,H⟩:=J4 (s:=s) (i:=(j:Int)) rfl K;simp only[f j q ω,Al (ω:(j:Int)<(s.size:Int)),Ak,F,Ac,H,hp,Aj]) (by simp only[f s.size hi ω];simp) (s.size-(i+1)) (i+1) ω ω;have Z:((i+1:Nat):Int)-(i:Int)=1:=ω;simp only[Z]at B;simp only[Ac]at B;rw[B,Ac];have k:Fi s (i:Int) (n:Int)=some (s.extract i n):=Qj rfl rfl ω D;(have X:(s.extract i n).size=n-i:=by rw[ByteArray.size_extract];omega);obtain⟨b,hb,_⟩:=A6j (s.extract i n) ω;(obtain⟨b',a5⟩:∃b':Bool,(bif decide ((n:Int)-(i:Int)>1)then some (bI s i==48)else some false)=some b':=by cases decide ((n:Int)-(i:Int)>1)<;>exact⟨_,rfl⟩);simp only[a5,Ac,k,hb,f n ω D];cases b' with|true=>exact .inr ⟨_,rfl,(by show(2:Int)≠0;decide),g⟩|false=>simp only[Aj];cases b.2 with|true=>exact .inl (J n 3 ω D δ)|false=>exact .inr ⟨_,rfl,(by show(9:Int)≠0;decide),g⟩)|false=>have k:Fi s (i:Int) (s.size:Int)=some (s.extract i s.size):=Qj rfl rfl ω ω;(have X:(s.extract i s.size).size=s.size-i:=by rw[ByteArray.size_extract];omega);obtain⟨r,r1,r2⟩:=A6i (s.extract i s.size) ω;simp only[Aj,k,Ac,r1];by_cases W:r=0;subst W;exact .inr ⟨_,rfl,(by show(2:Int)≠0;decide),g⟩;simp only[Ck W,Aj];obtain⟨m,hm⟩:∃m:Nat,r=m:=⟨r.toNat,ω⟩;subst hm;(have V:Aa ((i:Int)+(m:Int))=((i+m:Nat):Int):=by rw[Aa,Bm]<;>omega);rw[V,Qj (s:=s) (lo:=(i:Int)) (hi:=((i+m:Nat):Int)) rfl rfl ω ω,Ac];exact .inl (J (i+m) 5 ω ω δ));have:i=s.size:=ω;subst this;refine .inr ⟨.inr o,ψ,ω,hk,λu=>?_⟩;(rcases hu u with⟨w,_⟩|⟨_,w⟩);have:=u.1;omega;exact w;rintro(⟨l,p,e⟩|o) hz;exact⟨_,rfl,.inl hz⟩;obtain⟨z1,z2,z3⟩:=hz;simp only;rw[Di ζ,Ac];exact⟨_,rfl,.inr ⟨rfl,o,_,rfl,z2,z3⟩⟩;rintro⟨l,p,e⟩ (⟨h1,h2⟩|⟨h1,o,t,h2,h3,L⟩);simp only at h1;simp only[Ck h1,Aj];exact⟨_,rfl,by simp[h2]⟩;simp only at h1 h2;subst h1;subst h2;simp only[beq_self_eq_true,Ak];match o,h3,L with|[],_,L=>exact⟨false,ψ,by simp;intro u;cases L u⟩|[x],h3,L=>have Z:Af ([x]++[t]) 0=some x:=rfl;simp only[Z,Ac,Ag2];have V:((([x]++[t]).length:Int)==2)=true:=rfl;simp only[V,Ak];by_cases hx:x.G=2;simp only[Es hx,Ak];refine⟨_,rfl,?_⟩;rw[decide_eq_true_iff];constructor;intro h;rw[<-h];exact h3 x ψ hx;intro u;have:=L u;simp at this;rw[this];simp only[Ck hx,Aj];refine⟨_,rfl,?_⟩;simp only[Bool.false_eq_true,false_iff];intro u;have:=L u;simp at this;rw[this]at hx;exact hx rfl|x::y::ys,_,L=>refine⟨false,?_,by simp;intro u;have:=L u;simp at this⟩;rw[Ck];rfl;simp;omega
def Wb(Δ:A0)(d:Nat)(v:Int)(y:Pb):Prop:=Gm y.S/\y.R.length<=6/\y.R.all (Lx Δ d v)=true
def Tm(Δ:A0)(d:Nat)(x:A4):Prop:=0<=x.V/\x.V<=6/\1<=x.O.length/\x.O.length<=8/\Gm x.S/\∀y∈x.O,Wb Δ d x.V y
def Hw(x:A4):C5:=x.O.map (·.S)
def Ld(Δ:A0):Prop:=Δ.length<=12/\(∀d x,Δ[d]?=some x->Tm Δ d x)/\(Δ.map (·.S)).Nodup/\(Δ.flatMap Hw).Nodup
structure DSz(Δ:List A4):Prop where
 len:Δ.length<=1048576
 sz:SzD Δ
 nm:∀x∈Δ,x.S.size<=1048576
 cn:∀x∈Δ,∀y∈x.O,y.S.size<=1048576
theorem Tn(a b:Β):(a==b)=true↔a=b:=by
 constructor
 .intro h;cases a with|mk a=>cases b with|mk b=>
  have:a=b:=(by exact eq_of_beq h);rw[this]
 rintro rfl;cases a with|mk a=>exact beq_self_eq_true a
def Mk(o:Eg)(L:C5):Prop:=(∀p∈o,p.2=true)/\∀s,Gd o s=true↔s∈L
theorem Mk.nil:Mk [] []:=⟨ψ,by simp[Gd]⟩
theorem Mk.get(h:Mk o L)(b:Gd o s=true):Jk o s false=true:=by unfold Jk;unfold Gd at b;rw[any_eq_true]at b;obtain⟨p,g,f⟩:=b;cases c:o.find? (λp=>s==p.1)with|none=>exact absurd f (by have:=find?_eq_none.1 c p g;simpa using this)|some q=>exact h.1 q (mem_of_find?_eq_some c)
theorem A6k(o:Eg)(s t:Β)(v:Bool):Gd (G1 o s v) t=(Gd o t||t==s):=by induction o with|nil=>simp[G1,Gd]|cons p o ih=>unfold G1;cases hp:(s==p.1)with|true=>have:s=p.1:=(Tn _ _).1 hp;subst this;simp only[Ak,Gd,any_cons];cases t==p.1<;>simp|false=>simp only[Gd,any_cons]at ih⊢;simp only[Aj,any_cons,ih,Bool.or_assoc]
theorem Mk.put(h:Mk o L)(s:Β):Mk (G1 o s true) (L++[s]):=by refine⟨?_,λt=>?_⟩;(have:∀o:Eg,(∀p∈o,p.2=true)->∀p∈G1 o s true,p.2=true:=by intro o;induction o with|nil=>intro _ p hp;simp[G1]at hp;rw[hp]|cons q o ih=>intro b p hp;unfold G1 at hp;cases g:(s==q.1)with|true=>(rw[g]at hp;simp only[Ak,Ed]at hp;rcases hp with rfl|hp;rfl;exact b p (by simp[hp]))|false=>rw[g]at hp;simp only[Aj,Ed]at hp;rcases hp with rfl|hp;exact b _ ψ;exact ih (λp hp=>b p (by simp[hp])) p hp);exact this o h.1;rw[A6k,Bool.or_eq_true,h.2 t,Tn];simp
theorem A6l(x:A4){c:Nat}(g:x.O[c]?=some y):Hw x=(x.O.take c).map (·.S)++y.S::(x.O.drop (c+1)).map (·.S):=by
 have h:=take_append_drop c x.O
 have q:=D8 g
 have e:x.O.drop c=y::x.O.drop (c+1):=by
  rw[drop_eq_getElem_cons q]
  rw[Bn q]at g
  rw[Fv g]
 unfold Hw
 conv=>lhs;rw[<-h,e]
 simp
theorem At4{m:C5}(h:(L++s::m).Nodup):s∉L:=by rw[nodup_append]at h;intro b;exact h.2.2 s b s ψ rfl
theorem Al4(h:L.Nodup)(c:s∉L):(L++[s]).Nodup:=by rw[nodup_append];refine⟨h,ψ,?_⟩;intro a q b g;simp at g;subst g;intro e;subst e;exact c q
theorem A6m(s:DSz Δ)(U:Δ[d]?=some x)(I:x.V<=6)(o:Eg)(L:C5)(hm:Mk o L)(M:L.Nodup):∃z,Ao (S:=(Int×List (Β×Bool))) (E:=(Bool⊕(Int×List (Β×Bool)))) (λ(f,g)=>bif f<(x.O.length:Int)then((Af x.O f).bind λw=>(Vd w.S).bind λA=>bif(!A)then some (.inr (.inl false))else(bif(Gd g w.S)then(bif(Jk g w.S (false:Bool))then some (.inr (.inl false))else((S5 Δ d f).bind λu=>bif(!u)then some (.inr (.inl false))else some (.inl (Aa (f+1),G1 g w.S true))))else((S5 Δ d f).bind λN=>bif(!N)then some (.inr (.inl false))else some (.inl (Aa (f+1),G1 g w.S true)))))else some (.inr (.inr (f,g)))) (0,o)=some z/\match z with
   |.inl r=>r=false/\¬((∀y∈x.O,Wb Δ d x.V y)/\(L++Hw x).Nodup)
   |.inr (_,o')=>(∀y∈x.O,Wb Δ d x.V y)/\(L++Hw x).Nodup/\Mk o' (L++Hw x):=by
 have H:=B5 U;have J:=(s.sz x H).1;refine Jh (λ(f,g)=>∃c:Nat,f=c/\c<=x.O.length/\(∀y∈x.O.take c,Wb Δ d x.V y)/\(L++(x.O.take c).map (·.S)).Nodup/\Mk g (L++(x.O.take c).map (·.S))) (λ(f,_)=>x.O.length-f.toNat) _ ?_ _ ⟨0,rfl,ω,ψ,by simpa using M,by simpa using hm⟩;rintro⟨v,g⟩ ⟨c,rfl,hc,P,T,C⟩;rcases Cb c x.O.length with h|h
 .have F:x.O[c]?=some x.O[c]:=Bn h;generalize x.O[c]=y at F;have l:=B5 F;obtain⟨b,b1,V⟩:=At2 y.S (by have:=s.cn x H y l;omega);have W:=C4 F;have D:L++Hw x=(L++(x.O.take c).map (·.S))++y.S::(x.O.drop (c+1)).map (·.S):=(by rw[A6l x F];simp);simp only[Al (ω:(c:Int)<(x.O.length:Int)),Ak,B1 rfl F,Ac,b1,A55 s.sz d c U F I s.len,Dd h ω];cases b with
  |false=>refine .inr ⟨.inl false,rfl,rfl,λk=>?_⟩;have:=V.2 (k.1 y l).1;cases this
  |true=>
   simp only[Ds,Aj];cases j:Gd g y.S with
   |true=>simp only[Ak,C.get j];refine .inr ⟨.inl false,rfl,rfl,λk=>?_⟩;rw[D]at k;exact At4 k.2 ((C.2 _).1 j)
   |false=>
    simp only[Aj];cases i:(decide (y.R.length<=6)&&y.R.all (Lx Δ d x.V))with
    |false=>refine .inr ⟨.inl false,rfl,rfl,λk=>?_⟩;have:=k.1 y l;rw[this.2.2,Al this.2.1]at i;cases i
    |true=>
     simp only[Dr,Eh]at i;have B:y.S∉L++(x.O.take c).map (·.S):=λk=>by rw[(C.2 _).2 k]at j;cases j
     have e:L++(x.O.take (c+1)).map (·.S)=(L++(x.O.take c).map (·.S))++[y.S]:=(by rw[W];simp);refine .inl ⟨_,rfl,⟨c+1,rfl,ω,?_,?_,?_⟩,ζ⟩
     .intro G q;rw[W]at q;rcases Ef.1 q with K|K
      .exact P G K
      .simp at K;subst K;exact⟨V.1 rfl,i.1,i.2⟩
     .rw[e];exact Al4 T B
     .rw[e];exact C.put _
 .have:c=x.O.length:=ω;subst this;rw[Du]at P T C;exact .inr ⟨.inr ((x.O.length:Int),g),ψ,P,T,C⟩
theorem A6n(g:Δ[d]?=some x):Δ.flatMap Hw=((Δ.take d).flatMap Hw++Hw x)++(Δ.drop (d+1)).flatMap Hw/\Δ.map (·.S)=(Δ.take d).map (·.S)++x.S::(Δ.drop (d+1)).map (·.S):=by
 have h:=take_append_drop d Δ
 have q:=D8 g
 have e:Δ.drop d=x::Δ.drop (d+1):=by
  rw[drop_eq_getElem_cons q]
  rw[Bn q]at g
  rw[Fv g]
 constructor
 .conv=>lhs;rw[<-h,e]
  simp[flatMap_append]
 .conv=>lhs;rw[<-h,e]
  simp
theorem A6o(j:DSz Δ):∃b,Abj Δ=some b/\(b=true↔Ld Δ):=by have G:=j.len;unfold Abj;rcases Cb 12 Δ.length with K|K;rw[Al ω];exact⟨false,rfl,by simp;intro h;have:=h.1;omega⟩;rw[Am ω];simp only[Aj];refine Fz (λ(F,f,g)=>∃d:Nat,F=d/\d<=Δ.length/\(∀k x,k<d->Δ[k]?=some x->Tm Δ k x)/\((Δ.take d).map (·.S)).Nodup/\((Δ.take d).flatMap Hw).Nodup/\Mk f ((Δ.take d).map (·.S))/\Mk g ((Δ.take d).flatMap Hw)) (λ(F,_,_)=>Δ.length-F.toNat) (λz=>match z with|.inl r=>r=false/\¬Ld Δ|.inr _=>Ld Δ) ⟨0,rfl,ω,by intro k x h;omega,ψ,ψ,by simpa using Mk.nil,by simpa using Mk.nil⟩ ?_ ?_;rintro⟨v,f,g⟩ ⟨d,rfl,hd,h1,P,T,B,V⟩;rcases Cb d Δ.length with h|h;have w:Δ[d]?=some Δ[d]:=Bn h;generalize Δ[d]=x at w;have W:=B5 w;obtain⟨b,b1,b2⟩:=At2 x.S (by have:=j.nm x W;omega);obtain⟨f1,f2⟩:=A6n w;simp only[Al (ω:(d:Int)<(Δ.length:Int)),Ak,B1 rfl w,Ac,b1];have C:∀(y:¬Tm Δ d x),∃e:Bool⊕(List (Β×Bool)×List (Β×Bool)),(some (Sum.inr (Sum.inl false)):Ο ((Int×List (Β×Bool)×List (Β×Bool))⊕(Bool⊕(List (Β×Bool)×List (Β×Bool)))))=some (.inr e)/\(match e with|.inl r=>r=false/\¬Ld Δ|.inr _=>Ld Δ):=λy=>⟨.inl false,rfl,rfl,λc=>y (c.2.1 d x w)⟩;(cases b with|false=>exact .inr (C λc=>by have:=b2.2 c.2.2.2.2.1;cases this)|true=>simp only[Ds,Aj];cases i:Gd f x.S with|true=>simp only[Ak,B.get i,Ac];refine .inr ⟨.inl false,rfl,rfl,λc=>?_⟩;have:=c.2.2.1;rw[f2]at this;exact At4 this ((B.2 _).1 i)|false=>simp only[Aj];by_cases q:x.V<0;simp only[Al q,Ak,Ac];exact .inr (C λc=>by have:=c.1;omega);by_cases u:x.V>6;simp only[Am q,Al u,Ak,Aj,Ac];exact .inr (C λc=>by have:=c.2.1;omega);simp only[Am q,Am u,Aj,Ac];by_cases s:(x.O.length:Int)<1;simp only[Al s,Ak,Ac];exact .inr (C λc=>by have:=c.2.2.1;omega);by_cases A:(x.O.length:Int)>8;simp only[Am s,Al A,Ak,Aj,Ac];exact .inr (C λc=>by have:=c.2.2.2.1;omega);simp only[Am s,Am A,Aj,Ac];obtain⟨z,L,H⟩:=A6m j w ω g _ V T;rw[L,Ac];match z,H with|.inl r,H=>obtain⟨rfl,H⟩:=H;refine .inr ⟨.inl false,rfl,rfl,λc=>H ⟨(c.2.1 d x w).2.2.2.2.2,?_⟩⟩;have:=c.2.2.2;rw[f1]at this;exact(nodup_append.1 this).1|.inr (a0,D),H=>obtain⟨R,N,M⟩:=H;have ht:=C4 w;(have E:x.S∉(Δ.take d).map (·.S):=λc=>by rw[(B.2 _).2 c]at i;cases i);have J:(Δ.take (d+1)).map (·.S)=(Δ.take d).map (·.S)++[x.S]:=(by rw[ht];simp);have I:(Δ.take (d+1)).flatMap Hw=(Δ.take d).flatMap Hw++Hw x:=(by rw[ht];simp[flatMap_append]);refine .inl ⟨(((d+1:Nat):Int),G1 f x.S true,D),by simp only[Dd h ω],⟨d+1,rfl,ω,?_,?_,?_,?_,?_⟩,ζ⟩;intro k S U l;rcases Cb k d with h'|h';exact h1 k S h' l;have:k=d:=ω;subst this;rw[w]at l;cases l;exact⟨ω,ω,ω,ω,b2.1 rfl,R⟩;rw[J];exact Al4 P E;rw[I];exact N;rw[J];exact B.put _;rw[I];exact M);have:d=Δ.length:=ω;subst this;rw[Du]at P T;exact .inr ⟨.inr (f,g),ψ,K,λd x w=>h1 d x (D8 w) w,P,T⟩;rintro(r|⟨o,o'⟩) j;obtain⟨rfl,j⟩:=j;exact⟨false,rfl,by simp[j]⟩;exact⟨true,rfl,by simpa using j⟩
theorem At5(c:DSz Δ):∃b,Aa5 Δ=some b/\(b=true↔Ld Δ):=by obtain⟨b,g,h⟩:=A6o c;refine⟨b,?_,h⟩;unfold Aa5;rw[g,Ac];cases b with|false=>rfl|true=>rfl
theorem A6p{l:C5}{x:Β}(h:l[j]?=some x)(v:l.Nodup):∀i y,i<j->l[i]?=some y->y≠x:=by intro i y w g e;subst e;have q:=D8 h;have u:i<l.length:=ω;rw[Bn q]at h;rw[Bn u]at g;have:=(List.nodup_iff_pairwise_ne.1 v);rw[pairwise_iff_getElem]at this;exact this i j u q w (by rw[Fv h,Fv g])
theorem At6(l:C5)(M:l.length<1099511627776):∃b,Yc l=some b/\(b=false↔l.Nodup):=by unfold Yc;refine Fz (λv=>∃i:Nat,v=i/\i<=l.length/\(l.take i).Nodup) (λv=>l.length-v.toNat) (λz=>match z with|.inl r=>r=true/\¬l.Nodup|.inr _=>l.Nodup) ⟨0,rfl,ω,ψ⟩ ?_ ?_;rintro v ⟨i,rfl,V,P⟩;rcases Cb i l.length with h|h;have K:l[i]?=some l[i]:=Bn h;generalize l[i]=x at K;have D:(l.take i).length=i:=ζ;(have B:∃z,Ao (S:=Int) (E:=(Bool⊕Int)) (λw=>bif w<(i:Int)then((Af l (i:Int)).bind λU=>(Af l w).bind λJ=>bif(U.toList==J.toList)then some (.inr (.inl true))else some (.inl (Aa (w+1))))else some (.inr (.inr w))) 0=some z/\(match z with|.inl r=>r=true/\x∈l.take i|.inr _=>x∉l.take i):=by refine Jh (λw:Int=>∃j:Nat,w=j/\j<=i/\∀k y,k<j->l[k]?=some y->y≠x) (λw=>i-w.toNat) _ ?_ _ ⟨0,rfl,ω,λk y C=>ω⟩;rintro w ⟨j,rfl,W,g⟩;rcases Cb j i with T|T;have N:l[j]?=some l[j]:=Bn ω;generalize l[j]=y at N;simp only[Al (ω:(j:Int)<(i:Int)),Ak,B1 rfl K,B1 rfl N,Ac,Ag2];by_cases c:x=y;rw[Al c];refine .inr ⟨.inl true,rfl,rfl,?_⟩;subst c;exact B5 (i:=j) (by rw[getElem?_take_of_lt T];exact N);rw[Am c];refine .inl ⟨((j+1:Nat):Int),by simp only[Aj];rw[Dd T ω],⟨j+1,rfl,ω,?_⟩,ζ⟩;intro k I C f;rcases Cb k j with H|H;exact g k I H f;have:k=j:=ω;subst this;rw[N]at f;cases f;exactλe=>c e.symm;have:j=i:=ω;subst this;refine .inr ⟨.inr (j:Int),ψ,?_⟩;intro q;obtain⟨k,C⟩:=Fo q;have A:=D8 C;rw[getElem?_take_of_lt ω]at C;exact g k x ω C rfl);obtain⟨z,G,F⟩:=B;simp only[Al (ω:(i:Int)<(l.length:Int)),Ak];rw[G,Ac];(match z,F with|.inl r,F=>obtain⟨rfl,F⟩:=F;refine .inr ⟨.inl true,rfl,rfl,λL=>?_⟩;obtain⟨k,C⟩:=Fo F;have A:=D8 C;rw[getElem?_take_of_lt ω]at C;exact A6p K L k x ω C rfl|.inr v8,F=>refine .inl ⟨((i+1:Nat):Int),by simp only[Dd h ω],⟨i+1,rfl,ω,?_⟩,ζ⟩;rw[C4 K];exact Al4 P F);have:i=l.length:=ω;subst this;rw[Du]at P;exact .inr ⟨.inr (),ψ,P⟩;rintro(r|u) s;obtain⟨rfl,s⟩:=s;exact⟨true,rfl,by simp[s]⟩;exact⟨false,rfl,by simpa using s⟩
theorem SzD.args(h:SzD Δ)(hx:x∈Δ)(hy:y∈x.O)(g:t∈y.R):B2 t<=1048576/\t.R.length<=1048576/\y.R.length<=1048576:=by have h1:=(h x hx).2 y hy;have h3:=Kd g;have f:=J3 t;have c:=Lw t.R;have b:=Lw y.R;omega
theorem A6q(l:DSz Δ)(H:Δ[d]?=some x)(K:y∈x.O):∃z,Ao (S:=Int) (E:=(Bool⊕Int)) (λb=>bif b<(y.R.length:Int)then((Af y.R b).bind λf=>(S0 f d x.V).bind λi=>bif i then some (.inl (Aa (b+1)))else((Gc Δ 0 d).bind λw=>(Re w f x.V).bind λg=>bif(!g)then some (.inr (.inl false))else some (.inl (Aa (b+1)))))else some (.inr (.inr b))) 0=some z/\(match z with|.inl r=>r=false/\y.R.all (Lx Δ d x.V)=false|.inr _=>y.R.all (Lx Δ d x.V)=true):=by have C:=B5 H;have A:=D8 H;have s:=l.len;(have B:y.R.length<=1048576:=by have:=(l.sz x C).2 y K;have:=Lw y.R;omega);refine Jh (λv:Int=>∃j:Nat,v=j/\j<=y.R.length/\(y.R.take j).all (Lx Δ d x.V)=true) (λv=>y.R.length-v.toNat) _ ?_ _ ⟨0,rfl,ω,ψ⟩;rintro v ⟨j,rfl,N,c⟩;rcases Cb j y.R.length with h|h;have F:y.R[j]?=some y.R[j]:=Bn h;generalize y.R[j]=t at F;have k:=B5 F;obtain⟨I,G,D⟩:=l.sz.args C K k;simp only[Al (ω:(j:Int)<(y.R.length:Int)),Ak,B1 rfl F,Ac,Att t d x.V ω,Ac1 rfl (show d<=Δ.length by omega),Alz (Δ.take d) t x.V ω,Dd h ω];(have good:Lx Δ d x.V t=true->(y.R.take (j+1)).all (Lx Δ d x.V)=true:=λM=>by rw[C4 F,all_append,c];simp[M]);(cases q:Ke t d x.V with|true=>exact .inl ⟨_,rfl,⟨j+1,rfl,ω,good (by unfold Lx;rw[q];rfl)⟩,ζ⟩|false=>simp only[Aj];cases u:(Hf (Δ.take d) x.V t&&decide (B2 t<=200))with|true=>exact .inl ⟨_,rfl,⟨j+1,rfl,ω,good (by unfold Lx;rw[u,q];rfl)⟩,ζ⟩|false=>refine .inr ⟨.inl false,rfl,rfl,?_⟩;rw[all_eq_false];exact⟨t,k,by unfold Lx;rw[u,q];simp⟩);have:j=y.R.length:=ω;subst this;rw[Du]at c;exact .inr ⟨.inr (y.R.length:Int),ψ,c⟩
theorem A6r(M:DSz Δ)(hx:Δ[d]?=some x)(Y:x.O.length<=8)(L:C5)(X:L.length<=1048576) :
  ∃z,Ao (S:=(Int×List Β)) (E:=(Bool⊕(Int×List Β))) (λ(f,k)=>
   bif f<(x.O.length:Int)then(
   (show OB from
   (Af x.O f).bind λA=>
   (Vb A.S).bind λH=>
   bif(!H)then some true
   else(
   (Af x.O f).bind λu=>
   some (decide ((u.R.length:Int)>(6:Int))))
   ).bind λs=>
   bif s then some (.inr (.inl false))
   else(
   (Af x.O f).bind λK=>
   (Cj 16 k [K.S]).bind λD=>
   (Af x.O f).bind λC=>
   (Ao (S:=Int) (E:=(Bool⊕Int)) (λg=>
   bif g<(C.R.length:Int)then(
   (Af C.R g).bind λj=>
   (S0 j d x.V).bind λq=>
   bif q then some (.inl (Aa (g+1)))
   else(
   (Gc Δ 0 d).bind λP=>
   (Re P j x.V).bind λl=>
   bif(!l)then some (.inr (.inl false))
   else some (.inl (Aa (g+1)))))
   else some (.inr (.inr g))) 0).bind λz=>
   match z with
   |.inl B=>some (.inr (.inl B))
   |.inr J=>some (.inl (Aa (f+1),D))))
   else some (.inr (.inr (f,k)))) (0,L)=some z /\
   (match z with|.inl r=>r=false/\¬(∀y∈x.O,Wb Δ d x.V y)|.inr (_,o)=>(∀y∈x.O,Wb Δ d x.V y)/\o=L++Hw x):=by
 have a0:=B5 hx
 refine Jh (λ(v,o)=>∃c:Nat,v=c/\c<=x.O.length/\(∀y∈x.O.take c,Wb Δ d x.V y)/\o=L++(x.O.take c).map (·.S)) (λ(v,_)=>x.O.length-v.toNat) _ ?_ _ ⟨0,rfl,ω,ψ,ψ⟩
 rintro⟨v,o⟩ ⟨c,rfl,hc,h1,V⟩
 subst V
 rcases Cb c x.O.length with h|h
 .have T:x.O[c]?=some x.O[c]:=Bn h
  generalize x.O[c]=y at T
  have i:=B5 T
  obtain⟨b,b1,b2⟩:=At3 y.S (by have:=M.cn x a0 y i;omega)
  obtain⟨z,R,F⟩:=A6q M hx i
  simp only[Al (ω:(c:Int)<(x.O.length:Int)),Ak,B1 rfl T,Ac,b1,Dd h ω]
  rw[Di ζ]
  cases b with
  |false=>
   refine .inr ⟨.inl false,rfl,rfl,λI=>?_⟩
   have:=b2.2 (I y i).1;cases this
  |true=>
   simp only[Ds,Aj,Ac]
   by_cases N:(y.R.length:Int)>6
   .rw[Al N]
    refine .inr ⟨.inl false,rfl,rfl,λI=>?_⟩
    have:=(I y i).2.1;omega
   .rw[Am N]
    simp only[Aj]
    rw[R,Ac]
    match z,F with
    |.inl r,F=>
     obtain⟨rfl,F⟩:=F
     refine .inr ⟨.inl false,rfl,rfl,λI=>?_⟩
     have:=(I y i).2.2
     rw[F]at this;cases this
    |.inr w,F=>
     refine .inl ⟨_,rfl,⟨c+1,rfl,ω,?_,?_⟩,ζ⟩
     .intro U G
      rw[C4 T]at G
      rcases Ef.1 G with W|W
      .exact h1 U W
      .simp at W;subst W;exact⟨b2.1 rfl,ω,F⟩
     .rw[C4 T];simp
 .have:c=x.O.length:=ω
  subst this
  rw[Du]at h1
  exact .inr ⟨.inr ((x.O.length:Int),L++Hw x),by simp[Hw],h1,rfl⟩
theorem A6s(D:DSz Δ):∃b,Abb Δ=some b/\(b=true↔Ld Δ):=by have J:=D.len;unfold Abb;rcases Cb 12 Δ.length with K|K;rw[Al ω];exact⟨false,rfl,by simp;intro h;have:=h.1;omega⟩;rw[Am ω];simp only[Aj];(have l:∀d,d<=Δ.length->(∀f x,f<d->Δ[f]?=some x->Tm Δ f x)->((Δ.take d).flatMap Hw).length<=8*d:=by intro d;induction d with|zero=>intro _ _;simp|succ d ih=>intro hd H;have w:Δ[d]?=some Δ[d]:=Bn ω;have:=ih ω λf x E=>H f x ω;have V:=(H d _ ω w).2.2.2.1;rw[C4 w,flatMap_append,Fe];simp only[flatMap_cons,flatMap_nil,append_nil,Hw,Lt];omega);refine Fz (λ(v,k,j)=>∃d:Nat,v=d/\d<=Δ.length/\(∀f x,f<d->Δ[f]?=some x->Tm Δ f x)/\k=(Δ.take d).map (·.S)/\j=(Δ.take d).flatMap Hw) (λ(v,_,_)=>Δ.length-v.toNat) (λz=>match z with|.inl r=>r=false/\¬Ld Δ|.inr (k,j)=>(∀d x,Δ[d]?=some x->Tm Δ d x)/\k=Δ.map (·.S)/\j=Δ.flatMap Hw) ⟨0,rfl,ω,by intro f x h;omega,ψ,ψ⟩ ?_ ?_;rintro⟨v,k,j⟩ ⟨d,rfl,hd,H,T,W⟩;rcases Cb d Δ.length with h|h;have w:Δ[d]?=some Δ[d]:=Bn h;generalize Δ[d]=x at w;have a0:=B5 w;obtain⟨b,b1,P⟩:=At3 x.S (by have:=D.nm x a0;omega);simp only[Al (ω:(d:Int)<(Δ.length:Int)),Ak,B1 rfl w,Ac,b1];have C:∀(u:¬Tm Δ d x),∃e:Bool⊕(List Β×List Β),(some (Sum.inr (Sum.inl false)):Ο ((Int×List Β×List Β)⊕(Bool⊕(List Β×List Β))))=some (.inr e)/\(match e with|.inl r=>r=false/\¬Ld Δ|.inr (k,j)=>(∀d x,Δ[d]?=some x->Tm Δ d x)/\k=Δ.map (·.S)/\j=Δ.flatMap Hw):=λu=>⟨.inl false,rfl,rfl,λc=>u (c.2.1 d x w)⟩;by_cases g:x.V<0;simp only[Al g,Ak,Ac];exact .inr (C λc=>by have:=c.1;omega);by_cases i:x.V>6;simp only[Am g,Al i,Ak,Aj,Ac];exact .inr (C λc=>by have:=c.2.1;omega);by_cases s:(x.O.length:Int)<1;simp only[Am g,Am i,Al s,Aj,Ak,Ac];exact .inr (C λc=>by have:=c.2.2.1;omega);by_cases A:(x.O.length:Int)>8;simp only[Am g,Am i,Am s,Al A,Ak,Aj,Ac];exact .inr (C λc=>by have:=c.2.2.2.1;omega);simp only[Am g,Am i,Am s,Am A,Aj,Ac];(cases b with|false=>exact .inr (C λc=>by have:=P.2 c.2.2.2.2.1;cases this)|true=>have y:=l d hd H;rw[T,W];simp only[Ds,Aj];rw[Di ζ,Ac];obtain⟨z,L,F⟩:=A6r D w ω ((Δ.take d).flatMap Hw) ω;erw[L,Ac];match z,F with|.inl r,F=>obtain⟨rfl,F⟩:=F;exact .inr (C λc=>F c.2.2.2.2.2)|.inr (a1,S),F=>obtain⟨N,M⟩:=F;subst M;have ht:=C4 w;refine .inl ⟨(((d+1:Nat):Int),(Δ.take d).map (·.S)++[x.S],(Δ.take d).flatMap Hw++Hw x),by simp only[Dd h ω],⟨d+1,rfl,ω,?_,?_,?_⟩,ζ⟩;intro f R E q;rcases Cb f d with h'|h';exact H f R h' q;have:f=d:=ω;subst this;rw[w]at q;cases q;exact⟨ω,ω,ω,ω,P.1 rfl,N⟩;rw[ht];simp;rw[ht];simp[flatMap_append]);have:d=Δ.length:=ω;subst this;rw[Du]at T W;exact .inr ⟨.inr (k,j),ψ,λd x w=>H d x (D8 w) w,T,W⟩;rintro(r|⟨k,j⟩) hp;obtain⟨rfl,hp⟩:=hp;exact⟨false,rfl,by simp[hp]⟩;obtain⟨I,rfl,rfl⟩:=hp;have y:=l Δ.length ω λd x _=>I d x;rw[Du]at y;obtain⟨b,b1,P⟩:=At6 (Δ.map (·.S)) ζ;obtain⟨U,G,B⟩:=At6 (Δ.flatMap Hw) ω;simp only[b1,Ac,G];cases b with|true=>exact⟨false,rfl,by simp;intro c;have:=P.2 c.2.2.1;cases this⟩|false=>cases U with|true=>exact⟨false,rfl,by simp;intro c;have:=B.2 c.2.2.2;cases this⟩|false=>exact⟨true,rfl,by simp;exact⟨K,I,P.1 rfl,B.1 rfl⟩⟩
end Go.Ab
