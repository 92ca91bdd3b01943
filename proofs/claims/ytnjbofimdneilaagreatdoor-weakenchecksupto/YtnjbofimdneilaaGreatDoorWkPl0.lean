/- Plain laws. -/
import Derived.Test.YtnjbofimdneilaaGreatDoorWkDef
open List
namespace Go.Ab
open Go
variable{i:Nat}{E R S:Type}{α:Type _}{J:E->Ο R}{l s t:Λ α}{X:Ο (S⊕E)}{a b e:α}
theorem Aa{α β:Type}(a:α)(f:α->Ο β):(some a).bind f=f a:=rfl
theorem Bk{α:Type}{l:Λ α}(h:i<l.length):l[i]?=some l[i]:=getElem?_eq_getElem h
theorem B2{α:Type}{l:Λ α}{a:α}(h:l[i]?=some a):a∈l:=mem_of_getElem? h
theorem Dp(a b:Bool):((a&&b)=true)=(a=true/\b=true):=Bool.and_eq_true a b
theorem Dj:(!true)=false:=rfl
theorem Aj(a b:α):(bif true then a else b)=a:=rfl
theorem Ai(a b:α):(bif false then a else b)=b:=rfl
theorem Ed{p:Prop}[Decidable p]:(decide p=true)=p:=decide_eq_true_eq
theorem Au{c:Prop}{h:Decidable c}(g:¬c){t:α}:(if c then t else e)=e:=if_neg g
theorem Ar{c:Prop}{h:Decidable c}(g:c){t:α}:(if c then t else e)=t:=if_pos g
theorem Cf(a b:Nat):a<b\/a>=b:=Nat.lt_or_ge a b
theorem Dc:l.take l.length=l:=take_length
theorem J7(h:l.length<=i):l.take i=l:=take_of_length_le h
theorem Fp:l.length=0↔l=[]:=length_eq_zero_iff
theorem Ff(h:a∈l):∃i:Nat,l[i]?=some a:=getElem?_of_mem h
theorem Gb{p:α->Bool}:l.all p=true↔∀x,x∈l->p x=true:=all_eq_true
theorem Ea:a∈s++t↔a∈s\/a∈t:=mem_append
theorem Ki{β:Type _}(f:α->β):(l.map f).length=l.length:=length_map f
theorem Fx(h:some a=some b):a=b:=Option.some.inj h
theorem Es:a::s++t=a::(s++t):=rfl
theorem Df:a∈[b]↔a=b:=mem_singleton
theorem Ef:a∈b::l↔a=b\/a∈l:=mem_cons
theorem Fg:(a::l).length=l.length+1:=rfl
theorem E5:(s++t).length=s.length+t.length:=length_append
theorem Ts(h:l.length<=i):l[i]?=none:=getElem?_eq_none h
theorem Jr{step:S->Ο (S⊕E)}{s:S}{r:R}(c:S->Prop)(m:S->Nat)(b:E->Prop)(h0:c s)(f:∀s,c s->(∃h,step s=some (.inl h)/\c h/\m h < m s)\/(∃e,step s=some (.inr e)/\b e))(g:∀e,b e->J e=some r):(Ap step s).bind J=some r:=by obtain⟨e,q,u⟩:=Jc c m b f s h0;rw[q];exact g e u
theorem F1{step:S->Ο (S⊕E)}{s:S}{Q:R->Prop}(c:S->Prop)(m:S->Nat)(b:E->Prop)(h0:c s)(f:∀s,c s->(∃h,step s=some (.inl h)/\c h/\m h < m s)\/(∃e,step s=some (.inr e)/\b e))(g:∀e,b e->∃r,J e=some r/\Q r):∃r,(Ap step s).bind J=some r/\Q r:=by obtain⟨e,q,u⟩:=Jc c m b f s h0;rw[q];exact g e u
theorem Ahe{Q:S->Prop}(h:∃r,X=some r/\∃g,r=.inl g/\Q g):∃g,X=some (.inl g)/\Q g:=by obtain⟨r,q,g,rfl,u⟩:=h;exact⟨g,q,u⟩
theorem A6k{Q:E->Prop}(h:∃r,X=some r/\∃e,r=.inr e/\Q e):∃e,X=some (.inr e)/\Q e:=by obtain⟨r,g,q,rfl,u⟩:=h;exact⟨q,g,u⟩
theorem Ahf{A:Type}{X:Ο R}(f:A->R){Q:A->Prop}(h:∃r,X=some r/\∃a,r=f a/\Q a):∃a,X=some (f a)/\Q a:=by obtain⟨r,g,a,rfl,q⟩:=h;exact⟨a,g,q⟩
variable{a b i:Int}{n:Nat}{p:Prop}{α:Type}{l:Λ α}
theorem A6l{A R:Type}{X:Ο A}{f g:A->Ο R}(h:∀a,f a=g a):X.bind f=X.bind g:=by have:f=g:=funext h;rw[this]
theorem Amp{β:Type}{c:Prop}[Decidable c](a b:Ο α)(f:α->Ο β):(if c then a else b).bind f=if c then a.bind f else b.bind f:=by split<;>rfl
theorem Bn{n:Int}(g : -9223372036854775808<=n)(h:n<=9223372036854775807):IntKind.i64.wrap n=n:=by(have e:IntKind.i64.wrap n=if 9223372036854775808<=n%18446744073709551616 then n%18446744073709551616-18446744073709551616 else n%18446744073709551616:=by simp[IntKind.wrap,IntKind.bits,IntKind.signed]);rw[e];split<;>omega
theorem D8{n:Int}(g:0<=n)(h:n<=18446744073709551615):IntKind.u64.wrap n=n:=by(have e:IntKind.u64.wrap n=n%18446744073709551616:=by simp[IntKind.wrap,IntKind.bits,IntKind.signed]);rw[e];omega
theorem Hc{n:Int}(g:0<=n)(h:n<=4294967295):IntKind.u32.wrap n=n:=by(have e:IntKind.u32.wrap n=n%4294967296:=by simp[IntKind.wrap,IntKind.bits,IntKind.signed]);rw[e];omega
theorem Eu(hi:i=n)(h:n<l.length):Ae l i=some l[n]:=by subst hi;simp[Ae,h]
theorem Bu{x:α}(hi:i=n)(h:l[n]?=some x):Ae l i=some x:=by subst hi;simp[Ae,h]
theorem Ahg(h:i<0\/(l.length:Int)<=i):Ae l i=none:=by unfold Ae;split;rw[Ts];omega;rfl
theorem F2(hi:i=n)(x:α):Ca l i x=l.set n x:=by subst hi;simp[Ca]
theorem Dd{b:Nat}{xs ys:Λ α}(h:(xs.length+ys.length)*b<=140737488355328):Cg b xs ys=some (xs++ys):=by simp[Cg,h]
theorem Lj{b:Nat}{len f:Int}{z:α}{c:Nat}(q:len=n)(u:f=c)(A:n<=c)(g:b*c<=281474976710656)(h:c<=140737488355328):Gu b len f z=some (replicate n z):=by subst q;subst u;have B:(0:Int)<=(n:Int):=ω;have v:(n:Int)<=(c:Int):=ω;have w:(c:Int)<=140737488355328:=ω;simp[Gu,v,w,g]
theorem Amq{b:Nat}{f:Int}{z:α}{c:Nat}(q:f=c)(h:b*c<=281474976710656)(g:c<=140737488355328):Gu b 0 f z=some []:=by exact Lj (len:=0) (n:=0) (c:=c) rfl q ω h g
theorem Ch(h:a≠b):(a==b)=false:=by simpa using h
theorem Eg(h:a=b):(a==b)=true:=by simpa using h
theorem Dy(h:a≠b):(a != b)=true:=by simpa using h
theorem Dm(h:a=b):(a != b)=false:=by simpa using h
theorem Al[Decidable p](h:p):decide p=true:=decide_eq_true h
theorem An[Decidable p](h:¬p):decide p=false:=decide_eq_false h
theorem Adq{hi:Int}(h:hi=n)(g:n<=l.length):Fb l 0 hi=some (l.take n):=by subst h;have:(n:Int)<=(l.length:Int):=ω;simp[Fb,this]
theorem Mn(g:0<=a)(hb:0<b):It a b=some (a%b):=by have:b≠0:=ω;simp[It,this,Int.tmod_eq_emod_of_nonneg g]
theorem Nn(g:0<=a)(h:a<=18446744073709551615)(hb:0<b):G2 .u64 a b=some (a/b):=by have:b≠0:=ω;have q:0<=a/b:=Int.ediv_nonneg g ω;have u:a/b<=a:=Int.ediv_le_self _ g;simp[G2,this,Int.tdiv_eq_ediv_of_nonneg g];exact D8 q ω
theorem Amr(g:0<=a)(h:a<=4294967295)(hb:0<b):G2 .u32 a b=some (a/b):=by have:b≠0:=ω;have q:0<=a/b:=Int.ediv_nonneg g ω;have u:a/b<=a:=Int.ediv_le_self _ g;simp[G2,this,Int.tdiv_eq_ediv_of_nonneg g];exact Hc q ω
def As:Ag->Int
 |[]=>0
 |d::l=>d+1000000000*As l
def Cj(l:Ag):Prop:=∀d∈l,0<=d/\d<1000000000
def No(l:Ag):Prop:=∀d∈l,0<=d/\d<4294967296
def Can(l:Ag):Prop:=Cj l/\∀h:l≠[],l.getLast h≠0
def Ah(n:Nat):Ag:=if h:n=0 then[]else((n%1000000000:Nat):Int)::Ah (n/1000000000)
termination_by n
decreasing_by exact Nat.div_lt_self ω δ
theorem Hk:Ah 0=[]:=by rw[Ah];simp
theorem Pi(h:n≠0):Ah n=((n%1000000000:Nat):Int)::Ah (n/1000000000):=by rw[Ah];simp[h]
theorem Cj.nil:Cj []:=λ_ h=>by cases h
variable{d:Int}{l:Ag}{i n:Nat}
theorem Cj.append{m:Ag}(h:Cj l)(h':Cj m):Cj (l++m):=by intro d hd;rcases Ea.1 hd with hd|hd;exact h d hd;exact h' d hd
theorem Cj.one(h:0<=d)(h':d<1000000000):Cj [d]:=by intro x hx;simp at hx;subst hx;exact⟨h,h'⟩
theorem Cj.snoc(h:Cj l)(hd:0<=d)(b:d<1000000000):Cj (l++[d]):=h.append (Cj.one hd b)
theorem Cj.take(h:Cj l)(k:Nat):Cj (l.take k):=λd hd=>h d (mem_of_mem_take hd)
theorem Cj.drop(h:Cj l)(k:Nat):Cj (l.drop k):=λd hd=>h d (mem_of_mem_drop hd)
theorem Cj.get(h:Cj l)(hi:i<l.length):0<=l[i]/\l[i]<1000000000:=h _ (getElem_mem hi)
theorem Cj.set(h:Cj l)(i:Nat)(hd:0<=d)(b:d<1000000000):Cj (l.set i d):=by intro x hx;rcases mem_or_eq_of_mem_set hx with hx|rfl;exact h x hx;exact⟨hd,b⟩
theorem Cj.replicate(n:Nat):Cj (replicate n 0):=by intro d hd;have:=eq_of_mem_replicate hd;subst this;decide
theorem Cj.tail(h:Cj (d::l)):Cj l:=λx hx=>h x (by simp[hx])
theorem Cj.u32(h:Cj l):No l:=λd hd=>by have:=h d hd;omega
theorem At7(l m:Ag):As (l++m)=As l+1000000000^l.length*As m:=by induction l with|nil=>simp[As]|cons d l ih=>simp only[Es,As,ih,Fg,Int.pow_succ];grind
theorem Mo(l:Ag)(d:Int):As (l++[d])=As l+1000000000^l.length*d:=by rw[At7];simp[As]
theorem He(l:Ag){k:Nat}(h:k<l.length):As (l.take (k+1))=As (l.take k)+1000000000^k*l[k]:=by rw[take_succ_eq_append_getElem h,Mo];simp[Nat.min_eq_left (Nat.le_of_lt h)]
theorem Ahh(n:Nat):As (replicate n 0)=0:=by induction n with|zero=>rfl|succ n ih=>simp[replicate_succ,As,ih]
theorem Qq(l:Ag)(k:Nat)(h:k<=l.length):As l=As (l.take k)+1000000000^k*As (l.drop k):=by have e:=At7 (l.take k) (l.drop k);rw[take_append_drop]at e;rw[e,length_take,Nat.min_eq_left h]
theorem Of(l:Ag)(h:i<l.length)(d:Int):As (l.set i d)=As l+1000000000^i*(d-l[i]):=by induction l generalizing i with|nil=>simp at h|cons x l ih=>cases i with|zero=>simp[As];omega|succ i=>have g:i<l.length:=(by simpa using h);simp only[set_cons_succ,As,ih g,getElem_cons_succ,Int.pow_succ];grind
theorem Ii(h:No l):0<=As l:=by induction l with|nil=>simp[As]|cons d l ih=>have q:=h d ψ;have u:=ih λx g=>h x (by simp[g]);simp only[As];omega
theorem Mp(n:Nat):(0:Int)<1000000000^n:=Int.pow_pos δ
theorem L0(h:Cj l):As l<1000000000^l.length:=by induction l with|nil=>simp[As]|cons d l ih=>have g:=h d ψ;have q:=ih h.tail;simp only[As,Fg,Int.pow_succ];omega
theorem Gp(n:Nat):As (Ah n)=n:=by induction n using Nat.strongRecOn with|_ n ih=>by_cases h:n=0;subst h;rw[Hk];rfl;rw[Pi h,As,ih (n/1000000000) (Nat.div_lt_self ω δ)];omega
theorem Ga(n:Nat):Cj (Ah n):=by induction n using Nat.strongRecOn with|_ n ih=>by_cases h:n=0;subst h;rw[Hk];exact Cj.nil;rw[Pi h];intro d g;simp at g;rcases g with rfl|g;omega;exact ih (n/1000000000) (Nat.div_lt_self ω δ) d g
theorem Kj(h:n≠0):Ah n≠[]:=by rw[Pi h];simp
theorem Ahi(n:Nat):Can (Ah n):=by refine⟨Ga n,?_⟩;induction n using Nat.strongRecOn with|_ n ih=>intro b;have h:n≠0:=λe=>b (by rw[e];exact Hk);have q:=Pi h;by_cases g:n/1000000000=0;have c:Ah n=[((n%1000000000:Nat):Int)]:=(by rw[q,g,Hk]);simp only[c,getLast_singleton];omega;have:=ih (n/1000000000) (Nat.div_lt_self ω δ) (Kj g);simp only[q];rwa [getLast_cons (Kj g)]
theorem Ams(h:Can l):Ah (As l).toNat=l:=by induction l with|nil=>exact Hk|cons d l ih=>obtain⟨q,u⟩:=h;have v:=q d ψ;have g:Can l:=(by refine⟨q.tail,λb=>?_⟩;have:=u ψ;rwa [getLast_cons b]at this);have f:=Ii (q.tail).u32;have b:(As (d::l)).toNat≠0:=(by intro e;simp only[As]at e;have c:d=0:=ω;have f:As l=0:=ω;have:l=[]:=(by rw[<-ih g,f];exact Hk);subst this;exact u ψ (by simpa using c));rw[Pi b];simp only[As];have j:((d+1000000000*As l).toNat%1000000000:Nat)=d.toNat:=ω;have i:(d+1000000000*As l).toNat/1000000000=(As l).toNat:=ω;rw[j,i,ih g];congr 1;omega
theorem Ahj(h:Can l)(b:As l=n):l=Ah n:=by rw[<-Ams h,b];rfl
def I2:Ag->Ag
 |[]=>[]
 |d::l=>match I2 l with|[]=>if d=0 then[]else[d]|x::m=>d::x::m
theorem A6m(l:Ag):I2 (l++[0])=I2 l:=by induction l with|nil=>rfl|cons d l ih=>simp only[Es,I2,ih]
theorem A6n(h:d≠0):I2 (l++[d])=l++[d]:=by induction l with|nil=>simp[I2,h]|cons x l ih=>simp only[Es,I2,ih];cases l with|nil=>rfl|cons y l=>rfl
theorem At8(h:Cj l):Can (I2 l)/\As (I2 l)=As l:=by induction l with|nil=>exact⟨⟨Cj.nil,λh=>(h rfl).elim⟩,rfl⟩|cons d l ih=>obtain⟨⟨v,w⟩,g⟩:=ih h.tail;have q:=h d ψ;simp only[I2];cases A:I2 l with|nil=>rw[A]at g;simp only[As]at g;simp only[];by_cases b:d=0;rw[Ar b];refine⟨⟨Cj.nil,λh=>(h rfl).elim⟩,?_⟩;simp only[As];rw[<-g];omega;rw[Au b];refine⟨⟨Cj.one q.1 q.2,λ_=>by simpa using b⟩,?_⟩;simp only[As];rw[<-g]|cons x m=>rw[A]at v w g;simp only[];refine⟨⟨?_,λ_=>?_⟩,?_⟩;intro y u;rcases Ef.1 u with rfl|u;exact q;exact v y u;rw[getLast_cons ψ];exact w ψ;simp only[As]at g⊢;rw[g]
theorem Nq(h:Cj l)(b:As l=n):I2 l=Ah n:=by obtain⟨g,q⟩:=At8 h;exact Ahj g (q.trans b)
variable{l:Ag}{j k m n:Nat}{E R S α:Type}{J:E->Ο R}{r rf rt:R}{s0:S}{x:α}{p:α×Nat->Bool}
theorem A6o(h:Can l):I2 l=l:=by obtain⟨g,q⟩:=At8 h.1;rw[<-Ams g,q,Ams h]
def Bp(n:Nat):Nat:=(Ah n).length
theorem Adr:Bp 0=0:=by simp[Bp,Hk]
theorem Qs(n:Nat):n<1000000000^Bp n:=by have:=L0 (Ga n);rw[Gp]at this;have e:((1000000000^Bp n:Nat):Int)=1000000000^Bp n:=ψ;unfold Bp at *;omega
theorem J8(h:n<1000000000^k):Bp n<=k:=by induction k generalizing n with|zero=>simp at h;subst h;simp[Adr]|succ k ih=>by_cases g:n=0;subst g;simp[Adr];unfold Bp;rw[Pi g,Fg];have:n/1000000000<1000000000^k:=(by rw[Nat.div_lt_iff_lt_mul δ];rwa [Nat.pow_succ]at h);have:=ih this;unfold Bp at this;omega
theorem I3(h:m<=n):Bp m<=Bp n:=J8 (Nat.lt_of_le_of_lt h (Qs n))
theorem At9(h:k<Bp n):1000000000^k<=n:=by rcases Cf n (1000000000^k)with g|g;have:=J8 g;omega;exact g
theorem Zx(m n:Nat):Bp (m+n)<=max (Bp m) (Bp n)+1:=by apply J8;have g:=Qs m;have h:=Qs n;have q:1000000000^Bp m<=1000000000^max (Bp m) (Bp n):=Nat.pow_le_pow_right δ (Nat.le_max_left _ _);have b:1000000000^Bp n<=1000000000^max (Bp m) (Bp n):=Nat.pow_le_pow_right δ (Nat.le_max_right _ _);rw[Nat.pow_succ];omega
theorem Ht(m n:Nat):Bp (m*n)<=Bp m+Bp n:=by apply J8;rw[Nat.pow_add];exact Nat.mul_lt_mul_of_lt_of_le (Qs m) (Nat.le_of_lt (Qs n)) (Nat.pow_pos δ)
theorem Amt(m n:Nat):Bp (m/n)<=Bp m:=I3 (Nat.div_le_self _ _)
theorem Aua(h:Bp m<Bp n):m<n:=Nat.lt_of_lt_of_le (Qs m) (At9 h)
theorem Aub{m:Ag}(f:Cj l)(q:k<l.length)(b:k<m.length)(u:Cj m)(v:l.drop (k+1)=m.drop (k+1))(c:l[k]<m[k]):As l<As m:=by have i:=Qq l (k+1) q;have h:=Qq m (k+1) b;rw[He l q]at i;rw[He m b,<-v]at h;have w:=L0 (f.take k);have j:=Ii ((u.take k).u32);rw[length_take,Nat.min_eq_left (Nat.le_of_lt q)]at w;have g:1000000000^k*(l[k]+1)<=1000000000^k*m[k]:=Int.mul_le_mul_of_nonneg_left c (Int.le_of_lt (Mp k));rw[Int.mul_add]at g;omega
theorem Jx{step:S->Ο (S⊕E)}(n:Nat)(b:Nat->S)(h0:s0=b 0)(c:∀j,j<n->step (b j)=some (.inl (b (j+1))))(q:∃e,step (b n)=some (.inr e)/\J e=some r):(Ap step s0).bind J=some r:=by(have g:∀m,m<=n->Ap step (b 0)=Ap step (b m):=by intro m;induction m with|zero=>intro _;rfl|succ m ih=>intro h;rw[ih ω,Fj (c m ω)]);obtain⟨e,u,v⟩:=q;rw[h0,g n (Nat.le_refl _),Cs u];exact v
theorem Dh(h:j<n)(g:n<4611686018427387904):Ac ((j:Int)+1)=((j+1:Nat):Int):=by rw[Ac,Bn]<;>omega
theorem Auc{l:Λ α}(h:l.zipIdx.all p=false):∃j x,l[j]?=some x/\p (x,j)=false/\∀i y,i<j->l[i]?=some y->p (y,i)=true:=by(have q:∀(n:Nat),(∀i y,i<n->l[i]?=some y->p (y,i)=true)\/∃j x,j<n/\l[j]?=some x/\p (x,j)=false/\∀i y,i<j->l[i]?=some y->p (y,i)=true:=by intro n;induction n with|zero=>exact .inl (λi y h=>ω)|succ n ih=>rcases ih with ih|⟨j,x,B,u,v,b⟩;(cases w:l[n]? with|none=>exact .inl (λi y A g=>by rcases Cf i n with h|h;exact ih i y h g;have:i=n:=ω;subst this;rw[w]at g;cases g)|some x=>cases hp:p (x,n)with|true=>exact .inl (λi y A g=>by rcases Cf i n with h|h;exact ih i y h g;have:i=n:=ω;subst this;rw[w]at g;cases g;exact hp)|false=>exact .inr ⟨n,x,ω,w,hp,ih⟩);exact .inr ⟨j,x,ω,u,v,b⟩);rcases q l.length with C|⟨j,x,B,u,v,b⟩;exfalso;(have:l.zipIdx.all p=true:=by rw[Gb];rintro⟨y,i⟩ g;have:=mk_mem_zipIdx_iff_getElem?.1 g;(have A:i<l.length:=by rcases Cf i l.length with h|h;exact h;rw[Ts h]at this;cases this);exact C i y A this);rw[this]at h;cases h;exact⟨j,x,u,v,b⟩
theorem Jy{l:Λ α}(h:l.zipIdx.all p=true)(g:l[j]?=some x):p (x,j)=true:=Gb.1 h _ (mk_mem_zipIdx_iff_getElem?.2 g)
theorem Ahk{l:Λ α}(h:∀j x,l[j]?=some x->p (x,j)=true):l.zipIdx.all p=true:=by rw[Gb];rintro⟨y,i⟩ g;exact h i y (mk_mem_zipIdx_iff_getElem?.1 g)
theorem Qt{step:S->Ο (S⊕E)}(l:Λ α)(p:α×Nat->Bool)(b:Nat->S)(h0:s0=b 0)(g:l.length<4611686018427387904)(f:∀(j:Nat)(x:α),l[j]?=some x->(∀i y,i<j->l[i]?=some y->p (y,i)=true)->decide ((j:Int)<(l.length:Int))=true->Ae l (j:Int)=some x->Ac ((j:Int)+1)=((j+1:Nat):Int)->(p (x,j)=true->step (b j)=some (.inl (b (j+1))))/\(p (x,j)=false->∃e,step (b j)=some (.inr e)/\J e=some rf))(C:decide ((l.length:Int)<(l.length:Int))=false->l.zipIdx.all p=true->∃e,step (b l.length)=some (.inr e)/\J e=some rt):(Ap step s0).bind J=some (bif l.zipIdx.all p then rt else rf):=by
 have c:∀(j:Nat)(x:α),l[j]?=some x->(∀i y,i<j->l[i]?=some y->p (y,i)=true)->_:=λj x q u=>
  have v:j<l.length:=by
   rcases Cf j l.length with h|h
   .exact h
   .rw[Ts h]at q;cases q
  f j x q u (Al ω) (Bu rfl q) (Dh v g)
 cases w:l.zipIdx.all p with|true=>refine Jx l.length b h0 (λj v=>?_) (C ψ w);have q:l[j]?=some l[j]:=Bk v;exact(c j _ q λi y _ u=>Jy w u).1 (Jy w q)|false=>obtain⟨j,x,A,D,B⟩:=Auc w;refine Jx j b h0 (λi F=>?_) ((c j x A B).2 D);(have v:j<l.length:=by rcases Cf j l.length with h|h;exact h;rw[Ts h]at A;cases A);have q:l[i]?=some l[i]:=Bk ω;exact(c i _ q λk y G u=>B k y ω u).1 (B i _ F q)
theorem Ahl(l:Λ α)(p:α->Bool):l.zipIdx.all (λq=>p q.1)=l.all p:=by cases h:l.all p with|true=>exact Ahk λj x g=>Gb.1 h _ (B2 g)|false=>cases u:l.zipIdx.all (λq=>p q.1)with|false=>rfl|true=>rw[<-h];symm;rw[Gb];intro x g;obtain⟨j,v⟩:=Ff g;exact Jy u v
theorem Ix{step:S->Ο (S⊕E)}(l:Λ α)(p:α->Bool)(b:Nat->S)(h0:s0=b 0)(f:l.length<4611686018427387904)(c:∀(j:Nat)(x:α),l[j]?=some x->decide ((j:Int)<(l.length:Int))=true->Ae l (j:Int)=some x->Ac ((j:Int)+1)=((j+1:Nat):Int)->(p x=true->step (b j)=some (.inl (b (j+1))))/\(p x=false->∃e,step (b j)=some (.inr e)/\J e=some rf))(g:decide ((l.length:Int)<(l.length:Int))=false->∃e,step (b l.length)=some (.inr e)/\J e=some rt):(Ap step s0).bind J=some (bif l.all p then rt else rf):=by rw[<-Ahl l p];exact Qt l (λq=>p q.1) b h0 f (λj x u _=>c j x u) (λh _=>g h)
theorem Ij{step:S->Ο (S⊕E)}(l:Λ α)(b:Nat->S)(h0:s0=b 0)(f:l.length<4611686018427387904)(c:∀(j:Nat)(x:α),j<l.length->l[j]?=some x->decide ((j:Int)<(l.length:Int))=true->Ae l (j:Int)=some x->Ac ((j:Int)+1)=((j+1:Nat):Int)->step (b j)=some (.inl (b (j+1))))(q:decide ((l.length:Int)<(l.length:Int))=false->∃e,step (b l.length)=some (.inr e)/\J e=some r):(Ap step s0).bind J=some r:=by refine Jx l.length b h0 (λj g=>?_) (q ψ);have h:l[j]?=some l[j]:=Bk g;exact c j _ g h (Al ω) (Bu rfl h) (Dh g f)
theorem C4{l:Λ α}(h:l[j]?=some x):l.take (j+1)=l.take j++[x]:=by rw[take_add_one,h];rfl
theorem Dz{l:Λ α}(h:l[j]?=some x):j<l.length:=by rcases Cf j l.length with g|g;exact g;rw[Ts g]at h;cases h
theorem Jz(b:Bool):(bif b then true else false)=b:=by cases b<;>rfl
theorem A6p(b:Bool):(bif b then false else true) = !b:=by cases b<;>rfl
theorem Ads{A:Type}{X:Ο A}{f:A->Ο R}{y:R}{Q:A->Prop}(h:∃r,X=some r/\Q r)(b:∀r,Q r->f r=some y):X.bind f=some y:=by obtain⟨r,g,q⟩:=h;rw[g];exact b r q
theorem Amu(l:Λ α)(p:α->Bool){step:Int->Ο (Int⊕(Int⊕Unit))}{J:Int⊕Unit->A4}(k:l.length<4611686018427387904)(g:∀(j:Nat)(x:α),x∈l->decide ((j:Int)<(l.length:Int))=true->Ae l (j:Int)=some x->Ac ((j:Int)+1)=((j+1:Nat):Int)->step (j:Int)=bif p x then some (.inr (.inl (j:Int)))else some (.inl ((j+1:Nat):Int)))(v:decide ((l.length:Int)<(l.length:Int))=false->step (l.length:Int)=some (.inr (.inr ())))(c:∀i,J (.inl i)=some i)(b:J (.inr ())=some (-1)):∃i,(Ap step 0).bind J=some i/\decide (i>=0)=l.any p:=by(have q:(Ap step 0).bind (λz=>(J z).bind λi=>some (decide (i>=0)))=some (bif l.all (λx=>!p x)then false else true):=by refine Ix l (λx=>!p x) (λj=>(j:Int)) rfl k (λj x w A B C=>?_) λh=>⟨.inr (),v h,by rw[b];rfl⟩;have h:=g j x (B2 w) A B C;simp only[h];cases p x with|true=>exact⟨nofun,λ_=>⟨.inl (j:Int),rfl,by simp only[c,Aa];rw[Al ω]⟩⟩|false=>exact⟨λ_=>rfl,λh=>by cases h⟩);(have e:l.any p=(bif l.all (λx=>!p x)then false else true):=by rw[A6p,not_all_eq_any_not];simp);rw[e];cases f:Ap step 0 with|none=>rw[f]at q;cases q|some z=>rw[f,Aa]at q;rw[Aa];cases u:J z with|none=>rw[u]at q;cases q|some i=>rw[u,Aa]at q;exact⟨i,rfl,Fx q⟩
theorem Adt{M:Type}{step:S->Ο (S⊕E)}(l:Λ α)(p:α×Nat->Bool)(b:Nat->M->S)(I:M->Prop)(z A:R->Prop)(g:M)(h0:s0=b 0 g)(h:I g)(D:l.length<4611686018427387904)(B:∀(j:Nat)(x:α)(m:M),I m->l[j]?=some x->(∀i y,i<j->l[i]?=some y->p (y,i)=true)->decide ((j:Int)<(l.length:Int))=true->Ae l (j:Int)=some x->Ac ((j:Int)+1)=((j+1:Nat):Int)->(p (x,j)=true->∃f,step (b j m)=some (.inl (b (j+1) f))/\I f)/\(p (x,j)=false->∃e,step (b j m)=some (.inr e)/\∃r,J e=some r/\A r))(P:∀m,I m->decide ((l.length:Int)<(l.length:Int))=false->l.zipIdx.all p=true->∃e,step (b l.length m)=some (.inr e)/\∃r,J e=some r/\z r):∃r,(Ap step s0).bind J=some r/\((l.zipIdx.all p=true/\z r)\/(l.zipIdx.all p=false/\A r)):=by
 have c:∀(j:Nat)(x:α)(m:M),I m->l[j]?=some x->(∀i y,i<j->l[i]?=some y->p (y,i)=true)->_:=λj x m G w v=>
  have T:j<l.length:=Dz w
  B j x m G w v (Al ω) (Bu rfl w) (Dh T D)
 (have F:∀n,n<=l.length->(∀i y,i<n->l[i]?=some y->p (y,i)=true)->∃m,I m/\Ap step s0=Ap step (b n m):=by intro n;induction n with|zero=>intro _ _;exact⟨g,h,by rw[h0]⟩|succ n ih=>intro V v;obtain⟨m,C,H⟩:=ih ω λi y U=>v i y ω;have w:l[n]?=some l[n]:=Bk ω;obtain⟨f,K,k⟩:=(c n _ m C w λi y U=>v i y ω).1 (v n _ ω w);exact⟨f,k,by rw[H,Fj K]⟩);cases N:l.zipIdx.all p with|true=>obtain⟨m,C,H⟩:=F l.length (Nat.le_refl _) λi y _ v=>Jy N v;obtain⟨e,u,r,s,q⟩:=P m C ψ N;exact⟨r,by rw[H,Cs u];exact s,.inl ⟨rfl,q⟩⟩|false=>obtain⟨j,x,C,H,K⟩:=Auc N;obtain⟨m,k,L⟩:=F j (Nat.le_of_lt (Dz C)) K;obtain⟨e,u,r,s,q⟩:=(c j x m k C K).2 H;exact⟨r,by rw[L,Cs u];exact s,.inr ⟨rfl,q⟩⟩
mutual
def B3:Ak->Nat
 |⟨_,_,l⟩=>1+Dq l
def Dq:List Ak->Nat
 |[]=>0
 |x::xs=>B3 x+Dq xs
end
theorem J9(t:Ak):B3 t=1+Dq t.R:=by cases t;simp only[B3]
theorem Qu(t:Ak):1<=B3 t:=by rw[J9];omega
theorem Kk{l:A1}{a:Ak}(h:a∈l):B3 a<=Dq l:=by induction l with|nil=>cases h|cons x xs ih=>simp only[Dq];rcases Ef.1 h with rfl|h;omega;have:=ih h;omega
theorem L1(l:A1):l.length<=Dq l:=by induction l with|nil=>simp|cons x xs ih=>simp only[Dq,Fg];have:=Qu x;omega
theorem Ahm(l m:A1):Dq (l++m)=Dq l+Dq m:=by induction l with|nil=>simp[Dq]|cons x xs ih=>simp only[Es,Dq,ih];omega
def Nr(Δ:A0)(Ξ k n:Int)(len:Nat):Bool:=if k=1\/k=2\/k=3 then n==0&&len==0 else if k=4 then decide (0<=n)&&decide (n<Ξ)&&len==0 else if k=5 then decide (0<=n)&&(match Δ[n.toNat]? with|some d=>(len:Int)==d.V|none=>false)else if k=6 then n==0&&decide (2<=len)&&decide (len<=6)else if k=7\/k=8 then n==0&&len==1 else if k=9 then n==0&&decide (1<=len)&&decide (len<=7)else false
mutual
def Hm(Δ:List A5)(Ξ:Int):Ak->Bool
 |⟨k,n,l⟩=>Nr Δ Ξ k n l.length&&Gc Δ Ξ l
def Gc(Δ:List A5)(Ξ:Int):List Ak->Bool
 |[]=>true
 |x::xs=>Hm Δ Ξ x&&Gc Δ Ξ xs
end
variable{i:Int}{l:A1}{j:Nat}{R α:Type}
theorem Ahn(Δ:A0)(Ξ:Int)(t:Ak):Hm Δ Ξ t=(Nr Δ Ξ t.G t.U t.R.length&&Gc Δ Ξ t.R):=by cases t;simp only[Hm]
theorem Aud(l:Λ α)(n:Nat):((l.length:Int)==(n:Int))=(l.length==n):=by by_cases h:l.length=n;subst h;simp;rw[Ch ω];simp[h]
theorem A6q(k:Nat)(t:Ak)(Δ:A0)(Ξ left:Int)(v:1<=left)(w:left<=1000):Pc (k+1) t ⟨Δ,Ξ,left⟩=bif Nr Δ Ξ t.G t.U t.R.length then((Zu k t.R ⟨Δ,Ξ,left-1⟩).bind λh=>some (!h.1,h.2))else some (false,⟨Δ,Ξ,left-1⟩):=by have q:Ac (left-1)=left-1:=Bn ω ω;have b:¬left-1<0:=ω;rw[Pc];simp only[q,An b,Ai];generalize g:(Zu k t.R ⟨Δ,Ξ,left-1⟩).bind (λh=>some (!h.1,h.2))=X;generalize f:(some (false,⟨Δ,Ξ,left-1⟩):Ο (Bool×H3))=Y;unfold Nr Ae;generalize t.R.length=len;generalize t.G=c;generalize t.U=n;cases u:Δ[n.toNat]?<;>simp only[Bool.cond_eq_ite,Amp,Aa,Option.bind_none,u]<;>grind
theorem Adu(h:j<l.length):Dq (l.take (j+1))=Dq (l.take j)+B3 l[j]:=by rw[take_succ_eq_append_getElem h,Ahm];simp[Dq]
theorem Aue(Δ:A0)(Ξ:Int)(l m:A1):Gc Δ Ξ (l++m)=(Gc Δ Ξ l&&Gc Δ Ξ m):=by induction l with|nil=>simp[Gc]|cons x xs ih=>simp only[Es,Gc,ih,Bool.and_assoc]
theorem Aho(Δ:A0)(Ξ:Int)(h:j<l.length):Gc Δ Ξ (l.take (j+1))=(Gc Δ Ξ (l.take j)&&Hm Δ Ξ l[j]):=by rw[take_succ_eq_append_getElem h,Aue];simp[Gc]
theorem Adv(l:A1)(j:Nat):Dq (l.take j)<=Dq l:=by have:=Ahm (l.take j) (l.drop j);rw[take_append_drop]at this;omega
theorem Auf(Δ:A0)(Ξ:Int)(l:A1)(j:Nat)(h:Gc Δ Ξ l=true):Gc Δ Ξ (l.take j)=true:=by have:=Aue Δ Ξ (l.take j) (l.drop j);rw[take_append_drop,h]at this;have:=this.symm;simp only[Dp]at this;exact this.1
theorem A6r(Δ:A0)(Ξ:Int)(k:Nat)(l:A1)(c:Nat)(G:l.length<1099511627776)(ih:∀(a:Ak),a∈l->∀f:Nat,f<=c->∃g:Int,Pc k a ⟨Δ,Ξ,f⟩=some (Hm Δ Ξ a&&decide (B3 a<=f),⟨Δ,Ξ,g⟩)/\((Hm Δ Ξ a&&decide (B3 a<=f))=true->g=(f:Int)-B3 a)):∃p:Int×Int,Adj (k+2) l ⟨Δ,Ξ,c⟩=some (p.1,⟨Δ,Ξ,p.2⟩)/\((Gc Δ Ξ l&&decide (Dq l<=c))=true->p.1 = -1/\p.2=(c:Int)-Dq l)/\((Gc Δ Ξ l&&decide (Dq l<=c))=false->0<=p.1):=by rw[Adj];refine Ahf (λp:Int×Int=>(p.1,H3.mk Δ Ξ p.2)) (F1 (λ(F,v,w,s)=>∃j:Nat,F=j/\j<=l.length/\v=Δ/\w=Ξ/\Gc Δ Ξ (l.take j)=true/\Dq (l.take j)<=c/\s=(c:Int)-Dq (l.take j)) (λ(F,_,_,_)=>l.length-F.toNat) (λz=>match z with|.inl (i,b)=>0<=i/\(∃g,b=⟨Δ,Ξ,g⟩)/\(Gc Δ Ξ l&&decide (Dq l<=c))=false|.inr (v,w,s)=>v=Δ/\w=Ξ/\(Gc Δ Ξ l&&decide (Dq l<=c))=true/\s=(c:Int)-Dq l) ⟨0,rfl,ω,rfl,rfl,rfl,by simp[Dq],by simp[Dq]⟩ ?_ ?_);rintro⟨F,v,w,s⟩ ⟨j,rfl,N,rfl,rfl,x,A,rfl⟩;rcases Cf j l.length with h|h;obtain⟨u,y⟩:∃u:Nat,(c:Int)-Dq (l.take j)=u/\u<=c:=⟨c-Dq (l.take j),ω,ω⟩;obtain⟨g,E,D⟩:=ih l[j] (getElem_mem h) u y.2;simp only[Al (ω:(j:Int)<(l.length:Int)),Aj,Eu rfl h,Aa,Acb,y.1,E];(cases H:(Hm v w l[j]&&decide (B3 l[j]<=u))with|true=>have I:=D H;simp only[Dp,Ed]at H;refine .inl ⟨(((j+1:Nat):Int),v,w,g),?_,⟨j+1,rfl,ω,rfl,rfl,?_,?_,?_⟩,ζ⟩;simp only[Dj,Ai];rw[show Ac ((j:Int)+1)=((j+1:Nat):Int)by rw[Ac,Bn]<;>omega];rw[Aho _ _ h,x,H.1];rfl;rw[Adu h];omega;show g=_;rw[Adu h];omega|false=>refine .inr ⟨.inl ((j:Int),⟨v,w,g⟩),ψ,ω,⟨g,rfl⟩,?_⟩;cases q:(Gc v w l&&decide (Dq l<=c))with|false=>rfl|true=>exfalso;simp only[Dp,Ed]at q;have C:=Auf v w l (j+1) q.1;rw[Aho _ _ h]at C;simp only[Dp]at C;have M:=Adv l (j+1);rw[Adu h]at M;rw[C.2,Bool.true_and,decide_eq_false_iff_not]at H;omega);have:j=l.length:=ω;subst this;rw[Dc]at *;refine .inr ⟨.inr (v,w,(c:Int)-Dq l),ψ,rfl,rfl,by simp[x,A],rfl⟩;rintro(⟨i,b⟩|⟨v,w,s⟩) B;obtain⟨C,⟨g,rfl⟩,K⟩:=B;exact⟨_,rfl,(i,g),rfl,(λh=>by rw[K]at h;cases h),λ_=>C⟩;obtain⟨rfl,rfl,K,rfl⟩:=B;exact⟨_,rfl,(-1,_),rfl,λ_=>⟨rfl,rfl⟩,λh=>by rw[K]at h;cases h⟩
theorem A6s(Δ:A0)(Ξ:Int):∀(left:Nat)(t:Ak)(k:Nat),left<=200->4*left+4<=k->B3 t<1099511627776->∃f:Int,Pc k t ⟨Δ,Ξ,left⟩=some (Hm Δ Ξ t&&decide (B3 t<=left),⟨Δ,Ξ,f⟩)/\((Hm Δ Ξ t&&decide (B3 t<=left))=true->f=(left:Int)-B3 t):=by intro left;induction left using Nat.strongRecOn with|_ left s=>intro t k A G H;have hp:=Qu t;obtain⟨g,rfl⟩:∃g,k=g+1:=⟨k-1,ω⟩;cases left with|zero=>refine⟨-1,?_,λh=>by simp at h;omega⟩;rw[Pc];have B:decide (B3 t<=0)=false:=An ω;rw[B,Bool.and_false];rfl|succ b=>rw[A6q g t Δ Ξ ((b+1:Nat):Int) ω ω];have z:((b+1:Nat):Int)-1=(b:Int):=ω;rw[z,Ahn];cases I:Nr Δ Ξ t.G t.U t.R.length with|false=>exact⟨b,ψ,λh=>by simp at h⟩|true=>obtain⟨q,rfl⟩:∃q,g=q+3:=⟨g-3,ω⟩;have j:=J9 t;have x:=L1 t.R;obtain⟨⟨i,f⟩,C,v,D⟩:=A6r Δ Ξ q t.R b ω (λa F c y=>by have:=Kk F;exact s c ω a q ω ω ω);have l:decide (B3 t<=b+1)=decide (Dq t.R<=b):=(by rw[j];congr 1;simp only[eq_iff_iff];omega);simp only[Aj,Zu,C,Aa,Bool.true_and,l];refine⟨f,?_,λh=>?_⟩;(cases w:(Gc Δ Ξ t.R&&decide (Dq t.R<=b))with|true=>have u:i = -1:=(v w).1;rw[An (ω:¬i>=0)];rfl|false=>have u:0<=i:=D w;rw[Al (ω:i>=0)];rfl);have u:f=(b:Int)-Dq t.R:=(v h).2;rw[u,j];omega
theorem Adw(Δ:A0)(t:Ak)(Ξ:Int)(h:B3 t<1099511627776):Sv Δ t Ξ=some (Hm Δ Ξ t&&decide (B3 t<=200)):=by unfold Sv;obtain⟨b,g,_⟩:=A6s Δ Ξ 200 t 4000000 δ δ h;have g:Pc 4000000 t ⟨Δ,Ξ,200⟩=_:=g;rw[g];rfl
theorem Aug:∀(k:Nat)(t:Ak),B3 t<=k->B3 t<1099511627776->Rk k t=some (B3 t:Int):=by intro k;induction k with|zero=>intro t h;have:=Qu t;omega|succ k ih=>intro t h u;have c:=J9 t;have f:=L1 t.R;rw[Rk];refine Jr (λ(n,i)=>∃j:Nat,i=j/\j<=t.R.length/\n=1+(Dq (t.R.take j):Int)) (λ(_,i)=>t.R.length-i.toNat) (λn=>n=(B3 t:Int)) ⟨0,rfl,ω,by simp[Dq]⟩ ?_ (by rintro n rfl;rfl);rintro⟨n,i⟩ ⟨j,rfl,v,rfl⟩;rcases Cf j t.R.length with q|q;have w:=Kk (getElem_mem q);have g:=Adv t.R j;have b:=Adv t.R (j+1);rw[Adu q]at b;refine .inl ⟨(1+(Dq (t.R.take (j+1)):Int),((j+1:Nat):Int)),?_,⟨j+1,rfl,ω,rfl⟩,ζ⟩;simp only[Al (ω:(j:Int)<(t.R.length:Int)),Aj,Eu rfl q,Aa,ih t.R[j] ω ω];rw[show Ac ((j:Int)+1)=((j+1:Nat):Int)by rw[Ac,Bn]<;>omega,show Ac (1+(Dq (t.R.take j):Int)+(B3 t.R[j]:Int))=1+(Dq (t.R.take (j+1)):Int)by rw[Adu q,Ac,Bn]<;>omega];have:j=t.R.length:=ω;subst this;exact .inr ⟨1+(Dq t.R:Int),ψ,by rw[c];omega⟩
theorem A6t(Δ:A0)(Ξ:Int):∀(k:Nat)(t:Ak),B3 t<=k->B3 t<1099511627776->S3 k Δ t Ξ=some (Hm Δ Ξ t):=by intro k;induction k with|zero=>intro t h;have:=Qu t;omega|succ k ih=>intro t h I;have A:=J9 t;have l:=L1 t.R;(have c:(Ap (S:=Int) (E:=(Bool⊕Unit)) (λw=>bif w<(t.R.length:Int)then((Ae t.R w).bind λK=>(S3 k Δ K Ξ).bind λx=>bif(!x)then some (.inr (.inl false))else some (.inl (Ac (w+1))))else some (.inr (.inr ()))) 0).bind (λz=>match z with|.inl y=>some y|.inr _=>some true)=some (Gc Δ Ξ t.R):=by refine Jr (λi=>∃j:Nat,i=j/\j<=t.R.length/\Gc Δ Ξ (t.R.take j)=true) (λi=>t.R.length-i.toNat) (λz=>match z with|.inl r=>r=Gc Δ Ξ t.R|.inr _=>Gc Δ Ξ t.R=true) ⟨0,rfl,ω,by simp[Gc]⟩ ?_ ?_;rintro i ⟨j,rfl,U,f⟩;rcases Cf j t.R.length with v|v;have V:=Kk (getElem_mem v);simp only[Al (ω:(j:Int)<(t.R.length:Int)),Aj,Eu rfl v,Aa,ih t.R[j] ω ω];(cases F:Hm Δ Ξ t.R[j]with|true=>refine .inl ⟨((j+1:Nat):Int),?_,⟨j+1,rfl,ω,by rw[Aho _ _ v,f,F];rfl⟩,ζ⟩;simp only[Dj,Ai];rw[show Ac ((j:Int)+1)=((j+1:Nat):Int)by rw[Ac,Bn]<;>omega]|false=>refine .inr ⟨.inl false,ψ,?_⟩;show false=_;cases q:Gc Δ Ξ t.R with|false=>rfl|true=>have H:=Auf Δ Ξ t.R (j+1) q;rw[Aho _ _ v,F,Bool.and_false]at H;cases H);have:j=t.R.length:=ω;subst this;rw[Dc]at f;exact .inr ⟨.inr (),ψ,f⟩;rintro(r|u) s;simp only at s⊢;rw[s];simp only at s⊢;rw[s]);rw[S3,Ahn];refine Eq.trans (b:=Option.bind _ (λz:Bool⊕Unit=>match z with|.inl D=>some D|.inr _=>some (Gc Δ Ξ t.R))) (A6l ?_) ?_;rintro(r|u);rfl;exact c;have g:t.R.length=0->Gc Δ Ξ t.R=true:=(by intro e;rw[Fp.1 e];rfl);unfold Nr Ae;clear c ih h I A l;generalize Gc Δ Ξ t.R=X at *;generalize t.R.length=len at *;generalize t.G=G;generalize t.U=n;by_cases B:len=0;have M:=g B;subst B;subst M;cases C:Δ[n.toNat]?<;>simp only[Bool.cond_eq_ite,Amp,Aa,Option.bind_none,C]<;>grind;have N:((len:Int)==0)=false:=Ch ω;have P:(len==0)=false:=(by simpa using B);(have T:((len:Int) != 1)=(!(len==1)):=by by_cases h:len=1;subst h;rfl;rw[Dy ω];simp[h]);cases C:Δ[n.toNat]?<;>simp only[N,P,T,Bool.cond_eq_ite,Amp,Aa,Option.bind_none,C,Bool.and_false,Bool.false_and]<;>grind
theorem Amv(Δ:A0)(t:Ak)(Ξ:Int)(g:B3 t<=4000000):Rb Δ t Ξ=some (Hm Δ Ξ t&&decide (B3 t<=200)):=by unfold Rb;rw[Aug 4000000 t g ω,Aa,A6t Δ Ξ 4000000 t g ω];by_cases h:B3 t<=200;rw[Al (ω:(B3 t:Int)<=200),Al h];simp;rw[An (ω:¬(B3 t:Int)<=200),An h];simp
def Rt(a:Ak)(i:Int):Bool:=a.G==4&&a.U==i&&a.R.length==0
def Auh(l:A1):Bool:=l.zipIdx.all λq=>Rt q.1 q.2
def Kl(t:Ak)(d Ξ:Int):Bool:=t.G==5&&t.U==d&&(t.R.length:Int)==Ξ&&Auh t.R
theorem Aui(t:Ak)(d Ξ:Int)(G:t.R.length<1099511627776):S0 t d Ξ=some (Kl t d Ξ):=by unfold S0 Kl;by_cases g:t.G=5;by_cases u:t.U=d;by_cases v:(t.R.length:Int)=Ξ;simp only[Dm g,Dm u,Dm v,Ai,Aa,Eg g,Eg u,Eg v,Bool.true_and];refine(Qt t.R (λq=>Rt q.1 q.2) (λj=>(j:Int)) rfl ω (rt:=true) (rf:=false) ?_ ?_).trans (by rw[Jz];rfl);intro j x H _ A C D;simp only[A,C,D,Aj,Aa,Rt];constructor;intro h;simp only[Dp,beq_iff_eq]at h;simp[h.1.1,h.1.2,h.2];intro h;by_cases w:x.G=4;by_cases B:x.U=j;by_cases F:x.R.length=0;simp[w,B,F]at h;exact⟨.inl false,by simp only[Dm w,Dm B,Ai];rw[Al ω];rfl,rfl⟩;exact⟨.inl false,by simp only[Dm w,Dy B,Ai];rfl,rfl⟩;exact⟨.inl false,by simp only[Dy w];rfl,rfl⟩;intro A _;exact⟨.inr (),by simp only[A];rfl,rfl⟩;simp only[Dm g,Dm u,Dy v,Ai,Aj,Aa,Ch v,Bool.and_false,Bool.false_and];simp only[Dm g,Dy u,Ai,Aj,Aa,Ch u,Bool.and_false,Bool.false_and];simp only[Dy g,Aj,Aa,Ch g,Bool.false_and]
def Jf(Δ:A0)(d c:Int):In:=match Ae Δ d with
 |none=>[]
 |some x=>match Ae x.O c with
  |none=>[]
  |some y=>y.R.map λt=>Kl t d x.V
theorem Ik{l:Λ α}{x:α}(h:Ae l i=some x):0<=i/\i<l.length/\l[i.toNat]?=some x/\x∈l:=by unfold Ae at h;split at h;have g:i.toNat<l.length:=Dz h;exact⟨by assumption,ω,h,B2 h⟩;cases h
theorem Tt{l:Λ α}(h:Ae l i=none):i<0\/(l.length:Int)<=i:=by unfold Ae at h;split at h;rw[List.getElem?_eq_none_iff]at h;right;omega;left;omega
theorem Auj(Δ:A0)(d c:Int)(F:A5->Ph->Ο R)(z:R)(X:Ο R)(f:X=((bif d<(0:Int)then some true else bif d>=(Δ.length:Int)then some true else bif c<(0:Int)then some true else(Ae Δ d).bind λb=>some (decide (c>=(b.O.length:Int))):OB).bind λw=>bif w then some z else(Ae Δ d).bind λq=>(Ae q.O c).bind λA=>F q A)):X=match Ae Δ d with
   |none=>some z
   |some x=>match Ae x.O c with
    |none=>some z
    |some y=>F x y:=by
 subst f;cases u:Ae Δ d with
 |none=>
  rcases Tt u with h|h
  .simp only[Al h,Aj,Aa]
  .by_cases g:d<0
   .simp only[Al g,Aj,Aa]
   .simp only[An g,Al (show d>=(Δ.length:Int)from h),Aj,Ai,Aa]
 |some x=>
  obtain⟨B,C,_,_⟩:=Ik u;simp only[An (ω:¬d<0),An (ω:¬d>=(Δ.length:Int)),Ai,Aa];cases v:Ae x.O c with
  |none=>
   rcases Tt v with h|h
   .simp only[Al h,Aj,Aa]
   .by_cases g:c<0
    .simp only[Al g,Aj,Aa]
    .simp only[An g,Al (show c>=(x.O.length:Int)from h),Aj,Ai,Aa]
  |some y=>obtain⟨D,G,_,_⟩:=Ik v;simp only[An (ω:¬c<0),An (ω:¬c>=(x.O.length:Int)),Ai,Aa]
def A6u(l:A1):Prop:=l.length<=4194304/\∀a∈l,a.R.length<=4194304
def Pj(Δ:A0):Prop:=∀x∈Δ,∀y∈x.O,A6u y.R
theorem A6v(Δ:A0)(d c:Int)(u:Pj Δ):Zs Δ d c=some (Jf Δ d c):=by unfold Zs;rw[Auj Δ d c (λB C=>_) [] _ rfl];unfold Jf;cases v:Ae Δ d with|none=>rfl|some x=>cases g:Ae x.O c with|none=>simp only[g]|some y=>simp only[g];have b:=u x (Ik v).2.2.2 y (Ik g).2.2.2;refine Ij y.R (λj=>((j:Int),(y.R.take j).map λt=>Kl t d x.V)) rfl (by have:=b.1;omega) ?_ ?_;intro j t D q h w A;simp only[h,w,Aj,Aa,Aui t d x.V (by have:=b.2 t (B2 q);omega)];rw[Dd (by simp;have:=b.1;omega),Aa,A,C4 q,map_append];rfl;intro h;exact⟨_,by simp only[h];rfl,ψ⟩
theorem A6w(Δ:A0)(d c:Int)(g:Pj Δ):Zs Δ d c=some (Jf Δ d c):=A6v Δ d c g
theorem Amw(l m:Λ α)(y x:α)(i:Int)(n:Nat)(h:i=n)(g:n=l.length):Ca (l++y::m) i x=l++x::m:=by rw[F2 h];subst g;simp
theorem Amx(l m:Λ α)(y:α)(i:Int)(n:Nat)(h:i=n)(g:n=l.length):Ae (l++y::m) i=some y:=by rw[Bu h];subst g;simp
theorem A6x(l:A1)(k f:In)(i:Int)(n:Nat)(b:Bool)(h:i=n)(C:n=k.length)(z:l.length<1099511627776){J:Int×List Bool->Ο R}{r:R}(y:J ((l.length:Int),k++(b&&Auh l)::f)=some r):(Ap (S:=(Int×List Bool)) (E:=(Int×List Bool)) (λ(c,g)=>bif c<(l.length:Int)then((Ae l c).bind λv=>bif(v.G != (4:Int))then((Ae g i).bind λF=>some (.inl (Ac (c+1),Ca g i false)))else(bif(v.U != c)then((Ae g i).bind λu=>some (.inl (Ac (c+1),Ca g i false)))else(bif(v.R.length:Int)>(0:Int)then((Ae g i).bind λs=>some (.inl (Ac (c+1),Ca g i false)))else(some (.inl (Ac (c+1),g))))))else(some (.inr (c,g)))) (0,k++b::f)).bind J=some r:=by refine Ij l (λj=>((j:Int),k++(b&&(l.take j).zipIdx.all λq=>Rt q.1 q.2)::f)) ψ ω ?_ ?_;intro j x G H B I K;have e:(l.take (j+1)).zipIdx.all (λq=>Rt q.1 q.2)=((l.take j).zipIdx.all (λq=>Rt q.1 q.2)&&Rt x j):=(by rw[C4 H,zipIdx_append,all_append];simp[Nat.min_eq_left (Nat.le_of_lt G)]);simp only[B,I,K,Aj,Aa,Amx k f _ i n h C,Amw k f _ _ i n h C,e];unfold Rt;by_cases w:x.G=4;by_cases A:x.U=j;by_cases D:x.R.length=0;rw[An ω];simp[w,A,D];rw[Al ω];have:(x.R.length==0)=false:=(by simpa using D);simp[w,A,this];simp[w,A,Dy A];simp[w,Dy w];intro B;refine⟨_,by simp only[B];rfl,?_⟩;rw[Dc];exact y
theorem Auk(Δ:A0)(d c:Int)(w:Pj Δ):Y8 Δ d c=some (Jf Δ d c):=by unfold Y8;rw[Auj Δ d c (λG H=>_) [] _ rfl];unfold Jf;cases A:Ae Δ d with|none=>rfl|some x=>cases q:Ae x.O c with|none=>simp only[q]|some y=>simp only[q];have f:=w x (Ik A).2.2.2 y (Ik q).2.2.2;have g:=f.1;rw[Lj (n:=y.R.length) (c:=y.R.length) rfl rfl ω ω ω,Aa];refine Ij y.R (λj=>((j:Int),((y.R.take j).map λt=>Kl t d x.V)++replicate (y.R.length-j) false)) rfl ω ?_ ?_;intro j t I v u B C;obtain⟨m,D⟩:∃m,y.R.length-j=m+1:=⟨y.R.length-j-1,ω⟩;have h:y.R.length-(j+1)=m:=ω;have b:j=((y.R.take j).map λt=>Kl t d x.V).length:=ζ;simp only[u,B,Aj,Aa,D,h,replicate_succ,C4 v,map_append,map_cons,map_nil,append_assoc,Es,nil_append, Amx _ _ _ (j:Int) j rfl b,Amw _ _ _ _ (j:Int) j rfl b];(have F:(bif t.G==5 then bif t.U==d then some (map (λt=>Kl t d x.V) (take j y.R)++((t.R.length:Int)==x.V)::replicate m false)else some (map (λt=>Kl t d x.V) (take j y.R)++false::replicate m false)else some (map (λt=>Kl t d x.V) (take j y.R)++false::replicate m false))=some (map (λt=>Kl t d x.V) (take j y.R)++(t.G==5&&t.U==d&&((t.R.length:Int)==x.V))::replicate m false):=by cases t.G==5<;>cases t.U==d<;>simp);rw[F,Aa];refine A6x t.R _ _ (j:Int) j _ rfl b (by have:=f.2 t (B2 v);omega) ?_;rw[C];rfl;intro u;exact⟨_,by simp only[u];rfl,ψ⟩
mutual
def mnt(d:Int):Ak->Bool
 |⟨k,n,l⟩=>(k==5&&n==d)||Ru d l
def Ru(d:Int):List Ak->Bool
 |[]=>false
 |x::xs=>mnt d x||Ru d xs
end
theorem A6y(d:Int)(t:Ak):mnt d t=((t.G==5&&t.U==d)||Ru d t.R):=by cases t;simp only[mnt]
theorem A6z(d:Int)(l:A1):Ru d l=l.any (mnt d):=by induction l with|nil=>rfl|cons x xs ih=>simp only[Ru,ih,any_cons]
theorem A60(d:Int):∀(n:Nat)(t:Ak)(k:Nat),B3 t<=n->4*n+4<=k->n<1099511627776->Vr k t d=some (mnt d t):=by intro n;induction n with|zero=>intro t k h;have:=Qu t;omega|succ n ih=>intro t k h B C;obtain⟨k,rfl⟩:∃c,k=c+4:=⟨k-4,ω⟩;have f:=J9 t;have b:=L1 t.R;have g:Zt (k+3) t.R d=some (Ru d t.R):=(by rw[Zt,Ag3];rw[A6z];refine Ads (Amu t.R (mnt d) ω ?_ (λh=>by simp only[h];rfl) (λ_=>rfl) rfl) (λi q=>by rw[q]);intro j x u v w A;have D:=Kk u;simp only[v,w,A,Aj,Aa,Ac8,ih x k ω ω ω]);rw[Vr,g,A6y];cases t.G==5<;>cases t.U==d<;>simp
theorem A61(Δ:A0)(v:Int)(l:A1):Gc Δ v l=l.all (Hm Δ v):=by induction l with|nil=>rfl|cons x xs ih=>simp only[Gc,ih,all_cons]
theorem A62(Δ:A0)(d:Nat)(v k n:Int)(len:Nat):(Nr (Δ.take (d+1)) v k n len && !(k==5&&n==(d:Int)))=Nr (Δ.take d) v k n len:=by by_cases g:k=5;subst g;unfold Nr;simp only[beq_self_eq_true,Bool.true_and,getElem?_take];by_cases q:n=d;subst q;simp;by_cases u:0<=n;have e:(n==(d:Int))=false:=Ch q;rcases Cf n.toNat d with h|h;simp[h,e,show n.toNat<d+1 by omega];simp[e,show ¬n.toNat<d by omega,show ¬n.toNat<d+1 by omega];simp[u];have e:(k==(5:Int))=false:=Ch g;simp only[e,Bool.false_and,Bool.not_false,Bool.and_true,Nr,g,if_false]
mutual
theorem Aul(Δ:List A5)(d:Nat)(v:Int):∀t:Ak,(Hm (Δ.take (d+1)) v t && !mnt d t)=Hm (Δ.take d) v t
 |⟨k,n,l⟩=>by
  have g:=Aum Δ d v l
  have h:=A62 Δ d v k n l.length
  simp only[Hm,mnt]
  rw[<-g,<-h]
  cases Nr (Δ.take (d+1)) v k n l.length<;>cases(k==5&&n==(d:Int))<;>cases Gc (Δ.take (d+1)) v l<;>simp
theorem Aum(Δ:List A5)(d:Nat)(v:Int):∀l:List Ak,(Gc (Δ.take (d+1)) v l && !Ru d l)=Gc (Δ.take d) v l
 |[]=>by simp[Gc,Ru]
 |x::xs=>by
  have g:=Aul Δ d v x
  have h:=Aum Δ d v xs
  simp only[Gc,Ru]
  rw[<-g,<-h]
  cases Hm (Δ.take (d+1)) v x<;>cases mnt d x<;>cases Gc (Δ.take (d+1)) v xs<;>simp
end
variable{x:A5}{t:Ak}{s:Β}{o:Ee}{Δ:A0}{L:Cy}{a b d j:Nat}{y:Ph}{R:Type}{Q:R->Prop}
theorem Aun:∀l:A1,(∀a∈l,a.R.length=0)->Dq l=l.length
 |[],_=>rfl
 |x::xs,h=>by have g:=h x ψ;simp only[Dq,Fg];rw[Aun xs λa q=>h a (by simp[q]),J9,Fp.1 g];simp only[Dq];omega
theorem Auo(v:Δ[d]?=some x)(f:x.V<=6)(h:Kl t d x.V=true):Hm (Δ.take (d+1)) x.V t=true/\B3 t<=200:=by unfold Kl at h;simp only[Dp,beq_iff_eq]at h;obtain⟨⟨⟨w,A⟩,B⟩,c⟩:=h;(have g:∀a∈t.R,∃i:Nat,i<t.R.length/\a.G=4/\a.U=i/\a.R.length=0:=by intro a g;obtain⟨i,q⟩:=Ff g;have:=Jy c q;simp only[Rt,Dp,beq_iff_eq]at this;exact⟨i,Dz q,this.1.1,this.1.2,this.2⟩);refine⟨?_,?_⟩;rw[Ahn,A61,Dp];constructor;rw[w,A];unfold Nr;simp[v,B];rw[Gb];intro a b;obtain⟨i,F,C,D,u⟩:=g a b;rw[Ahn,C,D,u,Fp.1 u];unfold Nr;simp[Gc];omega;rw[J9,Aun _ λa h=>(g a h).choose_spec.2.2.2];omega
def L2(Δ:A0)(d:Nat)(v:Int)(t:Ak):Bool:=Kl t d v||(Hm (Δ.take d) v t&&decide (B3 t<=200))
theorem A63(g:Δ[d]?=some x)(b:x.V<=6)(t:Ak):((Hm (Δ.take (d+1)) x.V t&&decide (B3 t<=200))&&(Kl t d x.V || !mnt d t))=L2 Δ d x.V t:=by unfold L2;cases h:Kl t d x.V with|true=>obtain⟨q,u⟩:=Auo g b h;rw[q,Al u];rfl|false=>rw[<-Aul Δ d x.V t];cases Hm (Δ.take (d+1)) x.V t<;>cases decide (B3 t<=200)<;>simp
def SzD(Δ:A0):Prop:=∀x∈Δ,x.O.length<=1048576/\∀y∈x.O,Dq y.R<=1048576
theorem SzD.short(h:SzD Δ):Pj Δ:=λx hx y hy=>by have h1:=(h x hx).2 y hy;have h2:=L1 y.R;refine⟨ω,λa ha=>?_⟩;have h3:=Kk ha;have c:=J9 a;have b:=L1 a.R;omega
theorem A64(g:SzD Δ)(d c:Nat)(v:Δ[d]?=some x)(w:x.O[c]?=some y)(q:x.V<=6)(F:Δ.length<=1048576):S8 Δ d c=some (decide (y.R.length<=6)&&y.R.all (L2 Δ d x.V)):=by
 have b:=Dz v;have l:=(g x (B2 v)).2 y (B2 w);unfold S8;rw[Bu rfl v,Aa,Bu rfl w,Aa,Auk Δ d c g.short];by_cases k:y.R.length<=6
 .rw[An (ω:¬(y.R.length:Int)>6),Al k];simp only[Ai,Bool.true_and,Aa];refine(Ix y.R (L2 Δ d x.V) (λj=>(j:Int)) rfl ω (rt:=true) (rf:=false) ?_ ?_).trans (by rw[Jz])
  .intro j t A B C D;have s:=Kk (B2 A);have u:Ae (Jf Δ d c) (j:Int)=some (Kl t d x.V):=(by unfold Jf;simp only[Bu rfl v,Bu rfl w];rw[Bu rfl];simp[A]);simp only[B,C,D,Aj,Aa,show Ac ((d:Int)+1)=((d+1:Nat):Int)from Dh b ω,Adq rfl (show d+1<=Δ.length from b),Bu rfl v,
    Adw (Δ.take (d+1)) t x.V ω,u];rw[<-A63 v q t];cases i:(Hm (Δ.take (d+1)) x.V t&&decide (B3 t<=200))with
   |false=>exact⟨nofun,λ_=>⟨.inl false,rfl,rfl⟩⟩
   |true=>
    have f:B3 t<=200:=(by simp only[Dp,Ed]at i;exact i.2);simp only[Dj,Ai,Bool.true_and];cases z:Kl t d x.V with
    |true=>exact⟨λ_=>rfl,λh=>by cases h⟩
    |false=>simp only[Bool.not_false,Aj,A60 d 200 t 4000000 f ω ω,Aa,Bool.false_or];cases mnt d t with|true=>exact⟨nofun,λ_=>⟨.inl false,rfl,rfl⟩⟩|false=>exact⟨λ_=>rfl,λh=>by cases h⟩
  intro h;exact⟨.inr (),by simp only[h];rfl,rfl⟩
 rw[Al (ω:(y.R.length:Int)>6),An k];rfl
def bI(s:Β)(i:Nat):Int:=if h:i<s.size then(s[i].toNat:Int)else 0
def loI(c:Int):Bool:=decide (97<=c)&&decide (c<=122)
def upI(c:Int):Bool:=decide (65<=c)&&decide (c<=90)
def diI(c:Int):Bool:=decide (48<=c)&&decide (c<=57)
def wiI(c:Int):Bool:=loI c||upI c||diI c||c==95
def Gq(s:Β):Prop:=1<=s.size/\s.size<=24/\upI (bI s 0)=true/\∀i,i<s.size->wiI (bI s i)=true
theorem Ka{i:Int}{n:Nat}(hi:i=n)(h:n<s.size):∃c:UInt8,Gv s i=some c/\(c.toNat:Int)=bI s n:=by subst hi;refine⟨s[n],?_,?_⟩;unfold Gv;rw[Ar ω,show((n:Int)).toNat=n from rfl];simp[h];unfold bI;simp[h]
theorem Wl(hb:b<=s.size)(h:a+j<b):bI (s.extract a b) j=bI s (a+j):=by unfold bI;(have g:j<(s.extract a b).size:=by rw[ByteArray.size_extract];omega);rw[dif_pos g,dif_pos ω,ByteArray.getElem_extract]
theorem Qv{lo hi:Int}(g:lo=a)(h:hi=b)(q:a<=b)(c:b<=s.size):Fk s lo hi=some (s.extract a b):=by subst g;subst h;unfold Fk;rw[Ar ω];rfl
theorem Aup{a b:Β}(h:a.toList=b.toList):a=b:=by rw[ByteArray.toList_eq,ByteArray.toList_eq]at h;have:a.data=b.data:=Array.toList_inj.1 h;cases a;cases b;simp at this;subst this;rfl
theorem Ahp(a b:Β):(a.toList==b.toList)=decide (a=b):=by by_cases h:a=b;subst h;simp;rw[An h];cases g:(a.toList==b.toList)with|false=>rfl|true=>exact absurd (Aup (by simpa using g)) h
theorem Amy(c:Int):Zq c=some (loI c):=by unfold Zq loI;by_cases h:(97:Int)<=c<;>simp[h]
theorem Amz(c:Int):Wa c=some (upI c):=by unfold Wa upI;by_cases h:(65:Int)<=c<;>simp[h]
theorem Adx(c:Int):Th c=some (diI c):=by unfold Th diI;by_cases h:(48:Int)<=c<;>simp[h]
theorem Auq(c:Int):Zr c=some (wiI c):=by unfold Zr wiI;rw[Amy,Amz,Adx];simp only[Aa];cases loI c<;>cases upI c<;>cases diI c<;>rfl
theorem A65(c:Int):Ac2 c=some (loI c):=Amy c
theorem A66(c:Int):Zb c=some (upI c):=Amz c
theorem A67(c:Int):Zc c=some (diI c):=Adx c
theorem Zy{S E:Type}{step:S->Ο (S⊕E)}(s:Β)(p:Int->Bool)(b:Nat->S)(f:Nat->E)(lo:Nat)(g:∀j,lo<=j->j<s.size->p (bI s j)=true->step (b j)=some (.inl (b (j+1))))(q:∀j,lo<=j->j<s.size->p (bI s j)=false->step (b j)=some (.inr (f j)))(u:step (b s.size)=some (.inr (f s.size))):∀(m i:Nat),lo<=i->i+m=s.size->∃n,i<=n/\n<=s.size/\(∀j,i<=j->j<n->p (bI s j)=true)/\(n<s.size->p (bI s n)=false)/\Ap step (b i)=some (f n):=by intro m;induction m with|zero=>intro i _ v;have:i=s.size:=ω;subst this;exact⟨s.size,ω,ω,λj _ _=>ω,λh=>ω,Cs u⟩|succ m ih=>intro i c v;cases hp:p (bI s i)with|true=>(obtain⟨n,F,w,A,B,C⟩:=ih (i+1) ω ω;refine⟨n,ω,w,λj G D=>?_,B,by rw[Fj (g i c ω hp)];exact C⟩;rcases Cf i j with h|h;exact A j h D;have:j=i:=ω;subst this;exact hp)|false=>exact⟨i,ω,ω,λj _ _=>ω,λ_=>hp,Cs (q i c ω hp)⟩
theorem A68(s:Β)(f:s.size<1099511627776):∃n,n<=s.size/\(∀j,j<n->wiI (bI s j)=true)/\(n<s.size->wiI (bI s n)=false)/\Ade s=some (s.extract 0 n):=by have H:=Zy (step:=λh:Int=>bif h<(s.size:Int)then((Gv s h).bind λA=>(Zr (A.toNat:Int)).bind λB=>bif B then some (.inl (Ac (h+1)))else some (.inr h))else some (.inr h)) s wiI (λj=>(j:Int)) (λj=>(j:Int)) 0 (λj _ g hp=>by obtain⟨c,q,u⟩:=Ka (s:=s) (i:=(j:Int)) rfl g;simp only[Al (ω:(j:Int)<(s.size:Int)),Aj,q,Aa,u,Auq,hp,Dh g ω]) (λj _ g hp=>by obtain⟨c,q,u⟩:=Ka (s:=s) (i:=(j:Int)) rfl g;simp only[Al (ω:(j:Int)<(s.size:Int)),Aj,q,Aa,u,Auq,hp,Ai]) ψ s.size 0 ω ω;obtain⟨n,_,w,C,D,v⟩:=H;refine⟨n,w,λj g=>C j ω g,D,?_⟩;unfold Ade;have v:Ap _ (0:Int)=some (n:Int):=v;rw[v,Aa,Qv (lo:=0) (a:=0) (b:=n) rfl rfl ω w];rfl
theorem A69(s:Β)(f:s.size<1099511627776):∃n,n<=s.size/\(∀j,j<n->diI (bI s j)=true)/\(n<s.size->diI (bI s n)=false)/\Ag2 s=some (s.extract 0 n):=by have H:=Zy (step:=λh:Int=>bif h<(s.size:Int)then((Gv s h).bind λA=>(Th (A.toNat:Int)).bind λB=>bif B then some (.inl (Ac (h+1)))else some (.inr h))else some (.inr h)) s diI (λj=>(j:Int)) (λj=>(j:Int)) 0 (λj _ g hp=>by obtain⟨c,q,u⟩:=Ka (s:=s) (i:=(j:Int)) rfl g;simp only[Al (ω:(j:Int)<(s.size:Int)),Aj,q,Aa,u,Adx,hp,Dh g ω]) (λj _ g hp=>by obtain⟨c,q,u⟩:=Ka (s:=s) (i:=(j:Int)) rfl g;simp only[Al (ω:(j:Int)<(s.size:Int)),Aj,q,Aa,u,Adx,hp,Ai]) ψ s.size 0 ω ω;obtain⟨n,_,w,C,D,v⟩:=H;refine⟨n,w,λj g=>C j ω g,D,?_⟩;unfold Ag2;have v:Ap _ (0:Int)=some (n:Int):=v;rw[v,Aa,Qv (lo:=0) (a:=0) (b:=n) rfl rfl ω w];rfl
theorem Wm{c:Bool}{X Y:Ο R}(g:∃r,X=some r/\Q r)(h:∃r,Y=some r/\Q r):∃r,(bif c then X else Y)=some r/\Q r:=by cases c<;>assumption
theorem Ady{A:Type}{X:Ο A}{f:A->Ο R}(P:A->Prop)(g:∃a,X=some a/\P a)(q:∀a,P a->∃r,f a=some r/\Q r):∃r,X.bind f=some r/\Q r:=by obtain⟨a,e,h⟩:=g;rw[e];exact q a h
theorem A7a(s:Β):∃b,Adf s=some b/\True:=by unfold Adf;repeat' first|refine Wm ?_ ?_|exact⟨_,rfl,trivial⟩
theorem A7b(s:Β)(q:1<=s.size):∃r,Adh s=some r/\(r.size<=s.size):=by
 have g:Fk s 0 1=some (s.extract 0 1):=Qv rfl rfl ω q;(have c:(s.extract 0 1).size<=s.size:=by rw[ByteArray.size_extract];omega);unfold Adh;refine Ady (λz=>∀r,z=.inl r->r.size<=s.size) ?_ ?_
 .by_cases v:2<=s.size
  .have f:Fk s 0 2=some (s.extract 0 2):=Qv rfl rfl ω v;have b:∀r,(Sum.inl (s.extract 0 2):Β⊕Unit)=.inl r->r.size<=s.size:=(by rintro r ⟨⟩;rw[ByteArray.size_extract];omega);simp only[f,Aa];repeat' first|refine Wm ?_ ?_|with_reducible exact⟨_,rfl,b⟩|exact⟨_,rfl,λr h=>by cases h⟩
  rw[An ω];exact⟨_,rfl,λr h=>by cases h⟩
 .rintro (r|u) i;exact⟨_,rfl,i r rfl⟩
  .simp only[g,Aa];have w:(ByteArray.mk #[]).size<=s.size:=Nat.zero_le _;repeat' first|refine Wm ?_ ?_|with_reducible exact⟨_,rfl,c⟩|with_reducible exact⟨_,rfl,w⟩
theorem A7c(s:Β)(f:s.size<1099511627776):∃b,Adg s=some b/\True:=by unfold Adg;refine F1 (λ(_,i)=>∃j:Nat,i=j/\j<=s.size) (λ(_,i)=>s.size-i.toNat) (λ_=>True) ⟨0,rfl,ω⟩ ?_ ?_;rintro⟨v,i⟩ ⟨j,rfl,q⟩;rcases Cf j s.size with h|h;obtain⟨c,g,_⟩:=Ka (s:=s) (i:=(j:Int)) rfl h;simp only[Al (ω:(j:Int)<(s.size:Int)),Aj,g,Aa,Dh h ω];(cases decide (Ac (Ac (v*10)+Ac (wu8 ((c.toNat:Int)-48)))>1000000)with|true=>exact .inr ⟨_,rfl,trivial⟩|false=>exact .inl ⟨_,rfl,⟨j+1,rfl,ω⟩,ζ⟩);have:j=s.size:=ω;subst this;exact .inr ⟨.inr (),ψ,trivial⟩;rintro(r|u) _<;>exact⟨_,rfl,trivial⟩
theorem A7d(s:Β)(i:Nat)(hi:i<s.size)(M:s.size<1099511627776):∃r,Ac7 s i=some r/\(r.2=0->1<=r.1.Text.size/\i+r.1.Text.size<=s.size/\(r.1.G=2->Gq r.1.Text))/\(Gq s->i=0->r=(⟨2,s,0⟩,0)):=by obtain⟨c,N,P⟩:=Ka (s:=s) (i:=(i:Int)) rfl hi;have u:Fk s (i:Int) (s.size:Int)=some (s.extract i s.size):=Qv rfl rfl ω ω;(have I:(s.extract i s.size).size=s.size-i:=by rw[ByteArray.size_extract];omega);have x:bI (s.extract i s.size) 0=bI s i:=Wl ω ω;unfold Ac7;simp only[N,Aa,P,Amy,Amz,Adx,u];(have T:(bif loI (bI s i)then some true else some (upI (bI s i)))=some (loI (bI s i)||upI (bI s i)):=by cases loI (bI s i)<;>rfl);rw[T];simp only[Aa];cases l:(loI (bI s i)||upI (bI s i))with|true=>obtain⟨n,G,D,y,F⟩:=A68 (s.extract i s.size) ω;(have A:1<=n:=by rcases Nat.eq_zero_or_pos n with h|h;subst h;have:=y ω;rw[x]at this;unfold wiI at this;rw[l]at this;cases this;exact h);have H:(s.extract i s.size).extract 0 n=s.extract i (i+n):=(by rw[ByteArray.extract_extract];congr 1;omega);have q:(s.extract i (i+n)).size=n:=(by rw[ByteArray.size_extract];omega);rw[H]at F;simp only[Aj,F,Aa,q];(have g:Gq s->i=0->n=s.size:=by intro w C;rcases Cf n s.size with h|h;have:=y ω;rw[Wl ω ω,w.2.2.2 _ ω]at this;cases this;omega);by_cases J:n<=24;rw[An ω];(cases k:upI (bI s i)with|true=>refine⟨_,rfl,λ_=>⟨?_,?_,λ_=>⟨?_,?_,?_,?_⟩⟩,?_⟩;show 1<=(s.extract i (i+n)).size;omega;show i+(s.extract i (i+n)).size<=s.size;omega;show 1<=(s.extract i (i+n)).size;omega;show(s.extract i (i+n)).size<=24;omega;show upI (bI (s.extract i (i+n)) 0)=true;rw[Wl ω ω];exact k;show ∀j,j<(s.extract i (i+n)).size->wiI (bI (s.extract i (i+n)) j)=true;intro j V;rw[Wl ω ω];have:=D j ω;rw[Wl ω ω]at this;exact this;intro w C;have:=g w C;subst C;subst this;rw[Nat.zero_add,ByteArray.extract_zero_size];rfl|false=>obtain⟨b,K,_⟩:=A7a (s.extract i (i+n));simp only[Ai,K,Aa];have f:Gq s->i=0->False:=(by intro w C;subst C;rw[w.2.2.1]at k;cases k);cases b with|true=>exact⟨_,rfl,λ_=>⟨by show 1<=(s.extract i (i+n)).size;omega,by show i+(s.extract i (i+n)).size<=s.size;omega,λh=>by cases h⟩,λw C=>(f w C).elim⟩|false=>exact⟨_,rfl,λ_=>⟨by show 1<=(s.extract i (i+n)).size;omega,by show i+(s.extract i (i+n)).size<=s.size;omega,λh=>by cases h⟩,λw C=>(f w C).elim⟩);rw[Al ω];refine⟨_,rfl,nofun,λw C=>?_⟩;have:=g w C;have:=w.2.1;omega|false=>have f:Gq s->i=0->False:=(by intro w C;subst C;rw[w.2.2.1,Bool.or_true]at l;cases l);simp only[Ai];cases U:diI (bI s i)with|true=>obtain⟨n,G,D,y,F⟩:=A69 (s.extract i s.size) ω;(have A:1<=n:=by rcases Nat.eq_zero_or_pos n with h|h;subst h;have:=y ω;rw[x,U]at this;cases this;exact h);have H:(s.extract i s.size).extract 0 n=s.extract i (i+n):=(by rw[ByteArray.extract_extract];congr 1;omega);have q:(s.extract i (i+n)).size=n:=(by rw[ByteArray.size_extract];omega);rw[H]at F;obtain⟨b,K,_⟩:=A7c (s.extract i (i+n)) ω;simp only[Aj,F,Aa,K];refine Ady (λ_=>True) ?_ ?_;exact Wm ⟨_,rfl,trivial⟩ ⟨_,rfl,trivial⟩;intro v _;refine Wm ⟨_,rfl,nofun,λw C=>(f w C).elim⟩ (Wm ⟨_,rfl,nofun,λw C=>(f w C).elim⟩ ⟨_,rfl,λ_=>⟨?_,?_,λh=>by cases h⟩,λw C=>(f w C).elim⟩);show 1<=(s.extract i (i+n)).size;omega;show i+(s.extract i (i+n)).size<=s.size;omega|false=>obtain⟨r,E,L⟩:=A7b (s.extract i s.size) ω;simp only[Ai,E,Aa];rw[Ahp];by_cases z:r=ByteArray.mk #[];rw[Al z];exact⟨_,rfl,nofun,λw C=>(f w C).elim⟩;rw[An z];refine⟨_,rfl,λ_=>⟨?_,?_,λh=>by cases h⟩,λw C=>(f w C).elim⟩;show 1<=r.size;rcases Nat.eq_zero_or_pos r.size with h|h;have B:r.data.toList.length=0:=(by simpa using h);exact absurd (Aup (by rw[ByteArray.toList_eq,Fp.1 B,ByteArray.toList_eq])) z;exact h;show i+r.size<=s.size;omega
theorem A7e(c:Int):Ac6 c=some (c==9||c==10||c==13||c==32):=by unfold Ac6;cases c==9<;>cases c==10<;>cases c==13<;>rfl
theorem Aur(s:Β)(R:s.size<1099511627776):∃b,Vm s=some b/\(b=true↔Gq s):=by unfold Vm Agn;by_cases q:(s.size:Int)>16384;rw[Al q];refine⟨false,rfl,by simp;rintro⟨_,h,_⟩;omega⟩;rw[An q];simp only[Ai];refine Ady (λr:List K0×Int×Int=>(r.2.2≠0/\¬Gq s)\/(r.2.2=0/\∃o e,r.1=o++[e]/\(∀t∈o,t.G=2->Gq t.Text)/\(Gq s->o=[⟨2,s,0⟩]))) ?_ ?_;refine F1 (λ(F,f)=>∃i:Nat,F=i/\i<=s.size/\f.length<=i/\(∀t∈f,t.G=2->Gq t.Text)/\(Gq s->(i=0/\f=[])\/(i=s.size/\f=[⟨2,s,0⟩]))) (λ(F,_)=>s.size-F.toNat) (λz=>match z with|.inl o=>o.length<=16384/\(∀t∈o,t.G=2->Gq t.Text)/\(Gq s->o=[⟨2,s,0⟩])|.inr (_,_,e)=>e≠0/\¬Gq s) ⟨0,rfl,ω,ψ,ψ,λ_=>.inl ⟨rfl,rfl⟩⟩ ?_ ?_;rintro⟨v,o⟩ ⟨i,rfl,hi,ho,H,hu⟩;rcases Cf i s.size with h|h;obtain⟨c,K,P⟩:=Ka (s:=s) (i:=(i:Int)) rfl h;(have g:Gq s->i=0/\o=[]:=λu=>by rcases hu u with w|w;exact w;omega);simp only[Al (ω:(i:Int)<(s.size:Int)),Aj,K,Aa,P,A7e];(cases G:(bI s i==9||bI s i==10||bI s i==13||bI s i==32)with|true=>(have k:¬Gq s:=by intro u;have h0:=(g u).1;subst h0;have:=u.2.2.1;simp only[upI,Dp,Ed]at this;simp only[Bool.or_eq_true,beq_iff_eq]at G;omega);exact .inl ⟨(((i+1:Nat):Int),o),by simp only[Aj];rw[Dh h ω],⟨i+1,rfl,ω,(by show o.length<=i+1;omega),H,λu=>(k u).elim⟩,ζ⟩|false=>simp only[Ai];cases B:(bI s i==35)with|true=>((have k:¬Gq s:=by intro u;have h0:=(g u).1;subst h0;have:=u.2.2.1;simp only[upI,Dp,Ed]at this;simp only[beq_iff_eq]at B;omega);simp only[Aj];obtain⟨n,n1,Z,Y,n4,E⟩:=Zy (step:=λC:Int=>bif C<(s.size:Int)then((Gv s C).bind λI=>bif((I.toNat:Int)==(10:Int))then some (.inr (.inl C))else some (.inl (Ac (C+1))))else some (.inr (.inr C))) s (λc=>!(c==10)) (λj=>(j:Int)) (λj=>if j<s.size then Sum.inl (j:Int)else Sum.inr (j:Int)) 0 (λj _ T hp=>by obtain⟨c,K,P⟩:=Ka (s:=s) (i:=(j:Int)) rfl T;simp only[Bool.not_eq_true']at hp;simp only[Al (ω:(j:Int)<(s.size:Int)),Aj,K,Aa,P,hp,Dh T ω,Ai]) (λj _ T hp=>by obtain⟨c,K,P⟩:=Ka (s:=s) (i:=(j:Int)) rfl T;simp only[Bool.not_eq_false']at hp;simp only[Al (ω:(j:Int)<(s.size:Int)),Aj,K,Aa,P,hp,Ar T]) ψ (s.size-i) i ω ω;(have S:i<n:=by rcases Cf i n with w|w;exact w;have:n=i:=ω;subst this;have:=n4 h;simp only[beq_iff_eq]at B;rw[B]at this;cases this);have E:Ap _ (i:Int)=_:=E;rw[E,Aa];rcases Cf n s.size with w|w;rw[Ar w];exact .inl ⟨((n:Int),o),rfl,⟨n,rfl,ω,(by show o.length<=n;omega),H,λu=>(k u).elim⟩,ζ⟩;rw[Au ω];exact .inr ⟨.inl o,rfl,ω,H,λu=>(k u).elim⟩)|false=>obtain⟨r,N,M,J⟩:=A7d s i h R;simp only[Ai,N,Aa];by_cases D:r.2=0;obtain⟨a1,a2,a3⟩:=M D;simp only[Dm D,Ai];rw[Dd ζ,Aa];refine .inl ⟨(((i+r.1.Text.size:Nat):Int),o++[r.1]),?_,⟨i+r.1.Text.size,rfl,a2,ζ,?_,?_⟩,ζ⟩;rw[show Ac ((i:Int)+(r.1.Text.size:Int))=((i+r.1.Text.size:Nat):Int)by rw[Ac,Bn]<;>omega];intro t ht;rcases Ea.1 ht with w|w;exact H t w;simp at w;subst w;exact a3;intro u;obtain⟨b1,b2⟩:=g u;have:=J u b1;subst b1;subst b2;subst this;exact .inr ⟨ψ,rfl⟩;simp only[Dy D,Aj];refine .inr ⟨_,rfl,D,λu=>?_⟩;rw[J u (g u).1]at D;exact D rfl);have:i=s.size:=ω;subst this;refine .inr ⟨.inl o,ψ,ω,H,λu=>?_⟩;(rcases hu u with⟨w,_⟩|⟨_,w⟩);have:=u.1;omega;exact w;rintro(o|⟨l,p,e⟩) L;obtain⟨X,z2,z3⟩:=L;simp only;rw[Dd ζ,Aa];exact⟨_,rfl,.inr ⟨rfl,o,_,rfl,z2,z3⟩⟩;exact⟨_,rfl,.inl L⟩;rintro⟨l,p,e⟩ (⟨W,h2⟩|⟨W,o,t,h2,h3,A⟩);simp only at W;simp only[Ch W,Ai];exact⟨_,rfl,by simp[h2]⟩;simp only at W h2;subst W;subst h2;simp only[beq_self_eq_true,Aj];match o,h3,A with|[],_,A=>exact⟨false,ψ,by simp;intro u;cases A u⟩|[x],h3,A=>have V:Ae ([x]++[t]) 0=some x:=rfl;simp only[V,Aa,Ahp];have U:((([x]++[t]).length:Int)==2)=true:=rfl;simp only[U,Aj];by_cases hx:x.G=2;simp only[Eg hx,Aj];refine⟨_,rfl,?_⟩;rw[decide_eq_true_iff];constructor;intro h;rw[<-h];exact h3 x ψ hx;intro u;have:=A u;simp at this;rw[this];simp only[Ch hx,Ai];refine⟨_,rfl,?_⟩;simp only[Bool.false_eq_true,false_iff];intro u;have:=A u;simp at this;rw[this]at hx;exact hx rfl|x::y::ys,_,A=>refine⟨false,?_,by simp;intro u;have:=A u;simp at this⟩;rw[Ch];rfl;simp;omega
theorem A7f(s:Β):∃b,Agt s=some b/\True:=by(have g:∀(L:Cy),L.length<1000->∃b,((Ap (S:=Int) (E:=(Bool⊕Unit)) (λq=>bif q<(L.length:Int)then((Ae L q).bind λu=>bif(u.toList==s.toList)then some (.inr (.inl true))else some (.inl (Ac (q+1))))else some (.inr (.inr ()))) 0).bind λz=>match z with|.inl c=>some c|.inr _=>some false)=some b/\True:=by intro L f;refine⟨_,Ix L (λv=>!(v.toList==s.toList)) (λj=>(j:Int)) rfl ω (rt:=false) (rf:=true) ?_ ?_,trivial⟩;intro j x C w A B;simp only[w,A,B,Aj,Aa];(cases(x.toList==s.toList)with|true=>exact⟨nofun,λ_=>⟨_,rfl,rfl⟩⟩|false=>exact⟨λ_=>rfl,λh=>by cases h⟩);intro h;exact⟨.inr (),by simp only[h];rfl,rfl⟩);exact g _ δ
theorem A7g(s:Β)(v:1<=s.size)(T:Β)(q:T.size<1000):∃r,((Ap (S:=Int) (E:=(Int⊕Unit)) (λb=>bif b<(T.size:Int)then((Gv s 0).bind λl=>(Gv T b).bind λk=>bif((l.toNat:Int)==(k.toNat:Int))then some (.inr (.inl 1))else some (.inl (Ac (b+1))))else some (.inr (.inr ()))) 0).bind λz=>match z with|.inl f=>some f|.inr _=>some 0)=some r/\(r=0\/(1<=r/\r<=s.size)):=by refine F1 (λi=>∃j:Nat,i=j/\j<=T.size) (λi=>T.size-i.toNat) (λz=>∀r,z=.inl r->r=1) ⟨0,rfl,ω⟩ ?_ ?_;rintro i ⟨j,rfl,A⟩;rcases Cf j T.size with h|h;obtain⟨c,w,_⟩:=Ka (s:=T) (i:=(j:Int)) rfl h;obtain⟨d,d1,_⟩:=Ka (s:=s) (i:=0) (n:=0) rfl v;simp only[Al (ω:(j:Int)<(T.size:Int)),Aj,w,d1,Aa,Dh h ω];(cases((d.toNat:Int)==(c.toNat:Int))with|true=>exact .inr ⟨_,rfl,λr h=>by cases h;rfl⟩|false=>exact .inl ⟨_,rfl,⟨j+1,rfl,ω⟩,ζ⟩);have:j=T.size:=ω;subst this;exact .inr ⟨.inr (),ψ,λr h=>by cases h⟩;rintro(r|u) g;exact⟨r,rfl,.inr (by have:=g r rfl;omega)⟩;exact⟨0,rfl,.inl rfl⟩
theorem A7h(s:Β)(q:1<=s.size):∃r,Ac4 s=some r/\(r=0\/(1<=r/\r<=s.size)):=by
 unfold Ac4;refine Ady (λb=>b=true->2<=s.size) ?_ ?_
 .by_cases g:2<=s.size
  .have c:Fk s 0 2=some (s.extract 0 2):=Qv rfl rfl ω g;simp only[c,Aa];repeat' first|refine Wm ?_ ?_|exact⟨_,rfl,λ_=>g⟩
  rw[An ω];exact⟨_,rfl,λh=>by cases h⟩
 rintro b u;cases b with|true=>exact⟨2,rfl,.inr ⟨ω,by have:=u rfl;omega⟩⟩|false=>exact A7g s q _ δ
theorem A7i(s:Β)(g:s.size<1099511627776):∃b,Ac3 s=some b/\True:=by unfold Ac3;refine F1 (λ(_,i)=>∃j:Nat,i=j/\j<=s.size) (λ(_,i)=>s.size-i.toNat) (λ_=>True) ⟨0,rfl,ω⟩ ?_ ?_;rintro⟨v,i⟩ ⟨j,rfl,w⟩;rcases Cf j s.size with h|h;obtain⟨c,q,_⟩:=Ka (s:=s) (i:=(j:Int)) rfl h;simp only[Al (ω:(j:Int)<(s.size:Int)),Aj,q,Aa,Dh h ω];(cases decide (Ac (Ac (v*10)+Ac (wu8 ((c.toNat:Int)-48)))>1000000)with|true=>exact .inr ⟨_,rfl,trivial⟩|false=>exact .inl ⟨_,rfl,⟨j+1,rfl,ω⟩,ζ⟩);have:j=s.size:=ω;subst this;exact .inr ⟨.inr v,ψ,trivial⟩;rintro(⟨r,f⟩|u) _<;>exact⟨_,rfl,trivial⟩
theorem Aus(s:Β)(hs:s.size<1099511627776):∃b,Vi s=some b/\(b=true↔Gq s):=by unfold Vi Agm;by_cases I:(s.size:Int)>16384;rw[Al I];refine⟨false,rfl,by simp;rintro⟨_,h,_⟩;omega⟩;rw[An I];simp only[Ai];refine Ady (λr:List Ly×Int×Int=>(r.2.2≠0/\¬Gq s)\/(r.2.2=0/\∃o e,r.1=o++[e]/\(∀t∈o,t.G=2->Gq t.Text)/\(Gq s->o=[⟨2,s,0⟩]))) ?_ ?_;refine F1 (λ(a0,G)=>∃i:Nat,a0=i/\i<=s.size/\G.length<=i/\(∀t∈G,t.G=2->Gq t.Text)/\(Gq s->(i=0/\G=[])\/(i=s.size/\G=[⟨2,s,0⟩]))) (λ(a0,_)=>s.size-a0.toNat) (λz=>match z with|.inr o=>o.length<=16384/\(∀t∈o,t.G=2->Gq t.Text)/\(Gq s->o=[⟨2,s,0⟩])|.inl (_,_,e)=>e≠0/\¬Gq s) ⟨0,rfl,ω,ψ,ψ,λ_=>.inl ⟨rfl,rfl⟩⟩ ?_ ?_;rintro⟨v,o⟩ ⟨i,rfl,hi,ho,hk,hu⟩;rcases Cf i s.size with h|h;obtain⟨c,F,H⟩:=Ka (s:=s) (i:=(i:Int)) rfl h;(have A:Gq s->i=0/\o=[]:=λu=>by rcases hu u with w|w;exact w;omega);(have f:∀j:Nat,i<=j->j<=s.size->Ac ((i:Int)+((j:Int)-(i:Int)))=(j:Int):=λj _ _=>by rw[Ac,Bn]<;>omega);(have U:(bif bI s i==9 then some true else bif bI s i==10 then some true else bif bI s i==13 then some true else some (bI s i==32))=some (bI s i==9||bI s i==10||bI s i==13||bI s i==32):=by cases bI s i==9<;>cases bI s i==10<;>cases bI s i==13<;>rfl);(have hw:(bif loI (bI s i)then some true else some (upI (bI s i)))=some (loI (bI s i)||upI (bI s i)):=by cases loI (bI s i)<;>rfl);simp only[Al (ω:(i:Int)<(s.size:Int)),Aj,F,Aa,H,U,A65,A66,A67,hw];(cases U:(bI s i==9||bI s i==10||bI s i==13||bI s i==32)with|true=>(have g:¬Gq s:=by intro u;have W:=(A u).1;subst W;have:=u.2.2.1;simp only[upI,Dp,Ed]at this;simp only[Bool.or_eq_true,beq_iff_eq]at U;omega);exact .inl ⟨(((i+1:Nat):Int),o),by simp only[Aj];rw[Dh h ω],⟨i+1,rfl,ω,(by show o.length<=i+1;omega),hk,λu=>(g u).elim⟩,ζ⟩|false=>simp only[Ai];cases R:(bI s i==35)with|true=>(have g:¬Gq s:=by intro u;have W:=(A u).1;subst W;have:=u.2.2.1;simp only[upI,Dp,Ed]at this;simp only[beq_iff_eq]at R;omega);simp only[Aj];obtain⟨n,n1,D,n3,n4,B⟩:=Zy (step:=λP:Int=>bif P<(s.size:Int)then((Gv s P).bind λah=>bif((ah.toNat:Int) != (10:Int))then some (.inl (Ac (P+1)))else some (.inr P))else some (.inr P)) s (λc=>c != 10) (λj=>(j:Int)) (λj=>(j:Int)) 0 (λj _ K hp=>by obtain⟨c,F,H⟩:=Ka (s:=s) (i:=(j:Int)) rfl K;simp only[Al (ω:(j:Int)<(s.size:Int)),Aj,F,Aa,H,hp,Dh K ω]) (λj _ K hp=>by obtain⟨c,F,H⟩:=Ka (s:=s) (i:=(j:Int)) rfl K;simp only[Al (ω:(j:Int)<(s.size:Int)),Aj,F,Aa,H,hp,Ai]) ψ (s.size-i) i ω ω;(have ai:i<n:=by rcases Cf i n with w|w;exact w;have:n=i:=ω;subst this;have:=n4 h;simp only[beq_iff_eq]at R;rw[R]at this;cases this);have B:Ap _ (i:Int)=_:=B;rw[B,Aa];exact .inl ⟨((n:Int),o),rfl,⟨n,rfl,ω,(by show o.length<=n;omega),hk,λu=>(g u).elim⟩,ζ⟩|false=>simp only[Ai];cases S:(loI (bI s i)||upI (bI s i))with|true=>simp only[Aj];obtain⟨n,n1,D,n3,n4,B⟩:=Zy (step:=λC:Int=>bif(Ac ((i:Int)+C))<(s.size:Int)then((Gv s (Ac ((i:Int)+C))).bind λag=>(some (loI (ag.toNat:Int))).bind λa8=>bif a8 then some (.inl (Ac (C+1)))else((Gv s (Ac ((i:Int)+C))).bind λaf=>(some (upI (af.toNat:Int))).bind λa7=>bif a7 then some (.inl (Ac (C+1)))else((Gv s (Ac ((i:Int)+C))).bind λae=>(some (diI (ae.toNat:Int))).bind λa6=>bif a6 then some (.inl (Ac (C+1)))else((Gv s (Ac ((i:Int)+C))).bind λad=>bif((ad.toNat:Int)==(95:Int))then some (.inl (Ac (C+1)))else some (.inr C)))))else some (.inr C)) s wiI (λj=>(j:Int)-(i:Int)) (λj=>(j:Int)-(i:Int)) i (λj q K hp=>by obtain⟨c,F,H⟩:=Ka (s:=s) (i:=(j:Int)) rfl K;(have V:Ac ((j:Int)-(i:Int)+1)=((j+1:Nat):Int)-(i:Int):=by rw[Ac,Bn]<;>omega);simp only[f j q ω,Al (ω:(j:Int)<(s.size:Int)),Aj,F,Aa,H,V];unfold wiI at hp;revert hp;cases loI (bI s j)<;>cases upI (bI s j)<;>cases diI (bI s j)<;>cases(bI s j==95)<;>simp) (λj q K hp=>by obtain⟨c,F,H⟩:=Ka (s:=s) (i:=(j:Int)) rfl K;simp only[f j q ω,Al (ω:(j:Int)<(s.size:Int)),Aj,F,Aa,H];unfold wiI at hp;revert hp;cases loI (bI s j)<;>cases upI (bI s j)<;>cases diI (bI s j)<;>cases(bI s j==95)<;>simp) (by simp only[f s.size hi ω];simp) (s.size-(i+1)) (i+1) ω ω;have Z:((i+1:Nat):Int)-(i:Int)=1:=ω;simp only[Z]at B;simp only[Aa]at B;rw[B,Aa];(have k:Fk s (i:Int) (Ac ((i:Int)+((n:Int)-(i:Int))))=some (s.extract i n):=by rw[f n ω D];exact Qv rfl rfl ω D);(have X:(s.extract i n).size=n-i:=by rw[ByteArray.size_extract];omega);(have Y:∀j,i<=j->j<n->wiI (bI s j)=true:=λj a1 a2=>by rcases Cf i j with w|w;exact n3 j w a2;have:j=i:=ω;subst this;unfold wiI;rw[S];rfl);(have E:Gq s->n=s.size:=by intro u;rcases Cf n s.size with w|w;have:=n4 w;rw[u.2.2.2 _ w]at this;cases this;omega);by_cases aj:n-i<=24;rw[An ω];simp only[Ai];(cases N:upI (bI s i)with|true=>(simp only[Aj,Aa,k];rw[Dd ζ,Aa,f n ω D];refine .inl ⟨_,rfl,⟨n,rfl,D,ζ,?_,?_⟩,ζ⟩;intro t ht;rcases Ea.1 ht with w|w;exact hk t w;simp only[Df]at w;subst w;intro _;refine⟨?_,?_,?_,?_⟩;show 1<=(s.extract i n).size;omega;show(s.extract i n).size<=24;omega;show upI (bI (s.extract i n) 0)=true;rw[Wl ω ω];exact N;show ∀j,j<(s.extract i n).size->wiI (bI (s.extract i n) j)=true;intro j K;rw[Wl ω ω];exact Y _ ω ω;intro u;obtain⟨b1,b2⟩:=A u;have hf:=E u;subst b1;subst b2;subst hf;rw[ByteArray.extract_zero_size];exact .inr ⟨rfl,rfl⟩)|false=>obtain⟨b,hb,_⟩:=A7f (s.extract i n);(have g:¬Gq s:=by intro u;have W:=(A u).1;subst W;rw[u.2.2.1]at N;cases N);(have ab:∃M:Int,(bif b then some 4 else some 1:A4)=some M/\M≠2:=by cases b<;>exact⟨_,rfl,δ⟩);obtain⟨M,k1,k2⟩:=ab;simp only[Ai,Aa,k,hb,k1];rw[Dd ζ,Aa,f n ω D];refine .inl ⟨_,rfl,⟨n,rfl,D,ζ,?_,λu=>(g u).elim⟩,ζ⟩;intro t ht;rcases Ea.1 ht with w|w;exact hk t w;simp only[Df]at w;subst w;intro w;exact absurd w k2);rw[Al ω];refine .inr ⟨_,rfl,(by show(9:Int)≠0;decide),λu=>?_⟩;have:=E u;have:=u.2.1;have:=(A u).1;omega|false=>(have g:¬Gq s:=by intro u;have W:=(A u).1;subst W;rw[u.2.2.1,Bool.or_true]at S;cases S);(have J:∀(n:Nat)(M:Int),i<n->n<=s.size->M≠2->∃s':Int×List Ly,(Cg 32 o [Ly.mk M (s.extract i n) i]).bind (λaa=>(some (Sum.inl ((n:Int),aa)):Ο ((Int×List Ly)⊕((List Ly×Int×Int)⊕List Ly))))=some (.inl s')/\(∃j:Nat,s'.1=j/\j<=s.size/\s'.2.length<=j/\(∀t∈s'.2,t.G=2->Gq t.Text)/\(Gq s->(j=0/\s'.2=[])\/(j=s.size/\s'.2=[⟨2,s,0⟩])))/\s.size-s'.1.toNat<s.size-i:=by intro n M a1 a2 a3;rw[Dd ζ,Aa];refine⟨_,rfl,⟨n,rfl,a2,ζ,?_,λu=>(g u).elim⟩,ζ⟩;intro t ht;rcases Ea.1 ht with w|w;exact hk t w;simp only[Df]at w;subst w;intro w;exact absurd w a3);simp only[Ai];cases hd:diI (bI s i)with|true=>(simp only[Aj];obtain⟨n,n1,D,n3,n4,B⟩:=Zy (step:=λT:Int=>bif(Ac ((i:Int)+T))<(s.size:Int)then((Gv s (Ac ((i:Int)+T))).bind λac=>(some (diI (ac.toNat:Int))).bind λa4=>bif a4 then some (.inl (Ac (T+1)))else some (.inr T))else some (.inr T)) s diI (λj=>(j:Int)-(i:Int)) (λj=>(j:Int)-(i:Int)) i (λj q K hp=>by obtain⟨c,F,H⟩:=Ka (s:=s) (i:=(j:Int)) rfl K;(have V:Ac ((j:Int)-(i:Int)+1)=((j+1:Nat):Int)-(i:Int):=by rw[Ac,Bn]<;>omega);simp only[f j q ω,Al (ω:(j:Int)<(s.size:Int)),Aj,F,Aa,H,V,hp]) (λj q K hp=>by obtain⟨c,F,H⟩:=Ka (s:=s) (i:=(j:Int)) rfl K;simp only[f j q ω,Al (ω:(j:Int)<(s.size:Int)),Aj,F,Aa,H,hp,Ai]) (by simp only[f s.size hi ω];simp) (s.size-(i+1)) (i+1) ω ω;have Z:((i+1:Nat):Int)-(i:Int)=1:=ω;simp only[Z]at B;simp only[Aa]at B;rw[B,Aa];have k:Fk s (i:Int) (n:Int)=some (s.extract i n):=Qv rfl rfl ω D;(have X:(s.extract i n).size=n-i:=by rw[ByteArray.size_extract];omega);obtain⟨b,hb,_⟩:=A7i (s.extract i n) ω;(obtain⟨b',a5⟩:∃b':Bool,(bif decide ((n:Int)-(i:Int)>1)then some (bI s i==48)else some false)=some b':=by cases decide ((n:Int)-(i:Int)>1)<;>exact⟨_,rfl⟩);simp only[a5,Aa,k,hb,f n ω D];cases b' with|true=>exact .inr ⟨_,rfl,(by show(2:Int)≠0;decide),g⟩|false=>simp only[Ai];cases b.2 with|true=>exact .inl (J n 3 ω D δ)|false=>exact .inr ⟨_,rfl,(by show(9:Int)≠0;decide),g⟩)|false=>have k:Fk s (i:Int) (s.size:Int)=some (s.extract i s.size):=Qv rfl rfl ω ω;(have X:(s.extract i s.size).size=s.size-i:=by rw[ByteArray.size_extract];omega);obtain⟨r,r1,r2⟩:=A7h (s.extract i s.size) ω;simp only[Ai,k,Aa,r1];by_cases W:r=0;subst W;exact .inr ⟨_,rfl,(by show(2:Int)≠0;decide),g⟩;simp only[Ch W,Ai];obtain⟨m,hm⟩:∃m:Nat,r=m:=⟨r.toNat,ω⟩;subst hm;(have V:Ac ((i:Int)+(m:Int))=((i+m:Nat):Int):=by rw[Ac,Bn]<;>omega);rw[V,Qv (s:=s) (lo:=(i:Int)) (hi:=((i+m:Nat):Int)) rfl rfl ω ω,Aa];exact .inl (J (i+m) 5 ω ω δ));have:i=s.size:=ω;subst this;refine .inr ⟨.inr o,ψ,ω,hk,λu=>?_⟩;(rcases hu u with⟨w,_⟩|⟨_,w⟩);have:=u.1;omega;exact w;rintro(⟨l,p,e⟩|o) hz;exact⟨_,rfl,.inl hz⟩;obtain⟨z1,z2,z3⟩:=hz;simp only;rw[Dd ζ,Aa];exact⟨_,rfl,.inr ⟨rfl,o,_,rfl,z2,z3⟩⟩;rintro⟨l,p,e⟩ (⟨h1,h2⟩|⟨h1,o,t,h2,h3,L⟩);simp only at h1;simp only[Ch h1,Ai];exact⟨_,rfl,by simp[h2]⟩;simp only at h1 h2;subst h1;subst h2;simp only[beq_self_eq_true,Aj];match o,h3,L with|[],_,L=>exact⟨false,ψ,by simp;intro u;cases L u⟩|[x],h3,L=>have Z:Ae ([x]++[t]) 0=some x:=rfl;simp only[Z,Aa,Ahp];have V:((([x]++[t]).length:Int)==2)=true:=rfl;simp only[V,Aj];by_cases hx:x.G=2;simp only[Eg hx,Aj];refine⟨_,rfl,?_⟩;rw[decide_eq_true_iff];constructor;intro h;rw[<-h];exact h3 x ψ hx;intro u;have:=L u;simp at this;rw[this];simp only[Ch hx,Ai];refine⟨_,rfl,?_⟩;simp only[Bool.false_eq_true,false_iff];intro u;have:=L u;simp at this;rw[this]at hx;exact hx rfl|x::y::ys,_,L=>refine⟨false,?_,by simp;intro u;have:=L u;simp at this⟩;rw[Ch];rfl;simp;omega
def Wn(Δ:A0)(d:Nat)(v:Int)(y:Ph):Prop:=Gq y.S/\y.R.length<=6/\y.R.all (L2 Δ d v)=true
def Tu(Δ:A0)(d:Nat)(x:A5):Prop:=0<=x.V/\x.V<=6/\1<=x.O.length/\x.O.length<=8/\Gq x.S/\∀y∈x.O,Wn Δ d x.V y
def Hy(x:A5):Cy:=x.O.map (·.S)
def Ll(Δ:A0):Prop:=Δ.length<=12/\(∀d x,Δ[d]?=some x->Tu Δ d x)/\(Δ.map (·.S)).Nodup/\(Δ.flatMap Hy).Nodup
structure DSz(Δ:List A5):Prop where
 len:Δ.length<=1048576
 sz:SzD Δ
 nm:∀x∈Δ,x.S.size<=1048576
 cn:∀x∈Δ,∀y∈x.O,y.S.size<=1048576
theorem Tv(a b:Β):(a==b)=true↔a=b:=by
 constructor
 .intro h;cases a with|mk a=>cases b with|mk b=>
  have:a=b:=(by exact eq_of_beq h);rw[this]
 rintro rfl;cases a with|mk a=>exact beq_self_eq_true a
def Mq(o:Ee)(L:Cy):Prop:=(∀p∈o,p.2=true)/\∀s,Gj o s=true↔s∈L
theorem Mq.nil:Mq [] []:=⟨ψ,by simp[Gj]⟩
theorem Mq.get(h:Mq o L)(b:Gj o s=true):Jp o s false=true:=by unfold Jp;unfold Gj at b;rw[any_eq_true]at b;obtain⟨p,g,f⟩:=b;cases c:o.find? (λp=>s==p.1)with|none=>exact absurd f (by have:=find?_eq_none.1 c p g;simpa using this)|some q=>exact h.1 q (mem_of_find?_eq_some c)
theorem A7j(o:Ee)(s t:Β)(v:Bool):Gj (G3 o s v) t=(Gj o t||t==s):=by induction o with|nil=>simp[G3,Gj]|cons p o ih=>unfold G3;cases hp:(s==p.1)with|true=>have:s=p.1:=(Tv _ _).1 hp;subst this;simp only[Aj,Gj,any_cons];cases t==p.1<;>simp|false=>simp only[Gj,any_cons]at ih⊢;simp only[Ai,any_cons,ih,Bool.or_assoc]
theorem Mq.put(h:Mq o L)(s:Β):Mq (G3 o s true) (L++[s]):=by refine⟨?_,λt=>?_⟩;(have:∀o:Ee,(∀p∈o,p.2=true)->∀p∈G3 o s true,p.2=true:=by intro o;induction o with|nil=>intro _ p hp;simp[G3]at hp;rw[hp]|cons q o ih=>intro b p hp;unfold G3 at hp;cases g:(s==q.1)with|true=>(rw[g]at hp;simp only[Aj,Ef]at hp;rcases hp with rfl|hp;rfl;exact b p (by simp[hp]))|false=>rw[g]at hp;simp only[Ai,Ef]at hp;rcases hp with rfl|hp;exact b _ ψ;exact ih (λp hp=>b p (by simp[hp])) p hp);exact this o h.1;rw[A7j,Bool.or_eq_true,h.2 t,Tv];simp
theorem A7k(x:A5){c:Nat}(g:x.O[c]?=some y):Hy x=(x.O.take c).map (·.S)++y.S::(x.O.drop (c+1)).map (·.S):=by
 have h:=take_append_drop c x.O
 have q:=Dz g
 have e:x.O.drop c=y::x.O.drop (c+1):=by
  rw[drop_eq_getElem_cons q]
  rw[Bk q]at g
  rw[Fx g]
 unfold Hy
 conv=>lhs;rw[<-h,e]
 simp
theorem Aut{m:Cy}(h:(L++s::m).Nodup):s∉L:=by rw[nodup_append]at h;intro b;exact h.2.2 s b s ψ rfl
theorem Am0(h:L.Nodup)(c:s∉L):(L++[s]).Nodup:=by rw[nodup_append];refine⟨h,ψ,?_⟩;intro a q b g;simp at g;subst g;intro e;subst e;exact c q
theorem A7l(s:DSz Δ)(U:Δ[d]?=some x)(I:x.V<=6)(o:Ee)(L:Cy)(hm:Mq o L)(M:L.Nodup):∃z,Ap (S:=(Int×List (Β×Bool))) (E:=(Bool⊕(Int×List (Β×Bool)))) (λ(f,g)=>bif f<(x.O.length:Int)then((Ae x.O f).bind λw=>(Vm w.S).bind λA=>bif(!A)then some (.inr (.inl false))else(bif(Gj g w.S)then(bif(Jp g w.S (false:Bool))then some (.inr (.inl false))else((S8 Δ d f).bind λu=>bif(!u)then some (.inr (.inl false))else some (.inl (Ac (f+1),G3 g w.S true))))else((S8 Δ d f).bind λN=>bif(!N)then some (.inr (.inl false))else some (.inl (Ac (f+1),G3 g w.S true)))))else some (.inr (.inr (f,g)))) (0,o)=some z/\match z with
   |.inl r=>r=false/\¬((∀y∈x.O,Wn Δ d x.V y)/\(L++Hy x).Nodup)
   |.inr (_,o')=>(∀y∈x.O,Wn Δ d x.V y)/\(L++Hy x).Nodup/\Mq o' (L++Hy x):=by
 have H:=B2 U;have J:=(s.sz x H).1;refine Jc (λ(f,g)=>∃c:Nat,f=c/\c<=x.O.length/\(∀y∈x.O.take c,Wn Δ d x.V y)/\(L++(x.O.take c).map (·.S)).Nodup/\Mq g (L++(x.O.take c).map (·.S))) (λ(f,_)=>x.O.length-f.toNat) _ ?_ _ ⟨0,rfl,ω,ψ,by simpa using M,by simpa using hm⟩;rintro⟨v,g⟩ ⟨c,rfl,hc,P,T,C⟩;rcases Cf c x.O.length with h|h
 .have F:x.O[c]?=some x.O[c]:=Bk h;generalize x.O[c]=y at F;have l:=B2 F;obtain⟨b,b1,V⟩:=Aur y.S (by have:=s.cn x H y l;omega);have W:=C4 F;have D:L++Hy x=(L++(x.O.take c).map (·.S))++y.S::(x.O.drop (c+1)).map (·.S):=(by rw[A7k x F];simp);simp only[Al (ω:(c:Int)<(x.O.length:Int)),Aj,Bu rfl F,Aa,b1,A64 s.sz d c U F I s.len,Dh h ω];cases b with
  |false=>refine .inr ⟨.inl false,rfl,rfl,λk=>?_⟩;have:=V.2 (k.1 y l).1;cases this
  |true=>
   simp only[Dj,Ai];cases j:Gj g y.S with
   |true=>simp only[Aj,C.get j];refine .inr ⟨.inl false,rfl,rfl,λk=>?_⟩;rw[D]at k;exact Aut k.2 ((C.2 _).1 j)
   |false=>
    simp only[Ai];cases i:(decide (y.R.length<=6)&&y.R.all (L2 Δ d x.V))with
    |false=>refine .inr ⟨.inl false,rfl,rfl,λk=>?_⟩;have:=k.1 y l;rw[this.2.2,Al this.2.1]at i;cases i
    |true=>
     simp only[Dp,Ed]at i;have B:y.S∉L++(x.O.take c).map (·.S):=λk=>by rw[(C.2 _).2 k]at j;cases j
     have e:L++(x.O.take (c+1)).map (·.S)=(L++(x.O.take c).map (·.S))++[y.S]:=(by rw[W];simp);refine .inl ⟨_,rfl,⟨c+1,rfl,ω,?_,?_,?_⟩,ζ⟩
     .intro G q;rw[W]at q;rcases Ea.1 q with K|K
      .exact P G K
      .simp at K;subst K;exact⟨V.1 rfl,i.1,i.2⟩
     .rw[e];exact Am0 T B
     .rw[e];exact C.put _
 .have:c=x.O.length:=ω;subst this;rw[Dc]at P T C;exact .inr ⟨.inr ((x.O.length:Int),g),ψ,P,T,C⟩
theorem A7m(g:Δ[d]?=some x):Δ.flatMap Hy=((Δ.take d).flatMap Hy++Hy x)++(Δ.drop (d+1)).flatMap Hy/\Δ.map (·.S)=(Δ.take d).map (·.S)++x.S::(Δ.drop (d+1)).map (·.S):=by
 have h:=take_append_drop d Δ
 have q:=Dz g
 have e:Δ.drop d=x::Δ.drop (d+1):=by
  rw[drop_eq_getElem_cons q]
  rw[Bk q]at g
  rw[Fx g]
 constructor
 .conv=>lhs;rw[<-h,e]
  simp[flatMap_append]
 .conv=>lhs;rw[<-h,e]
  simp
theorem A7n(j:DSz Δ):∃b,Ab4 Δ=some b/\(b=true↔Ll Δ):=by have G:=j.len;unfold Ab4;rcases Cf 12 Δ.length with K|K;rw[Al ω];exact⟨false,rfl,by simp;intro h;have:=h.1;omega⟩;rw[An ω];simp only[Ai];refine F1 (λ(F,f,g)=>∃d:Nat,F=d/\d<=Δ.length/\(∀k x,k<d->Δ[k]?=some x->Tu Δ k x)/\((Δ.take d).map (·.S)).Nodup/\((Δ.take d).flatMap Hy).Nodup/\Mq f ((Δ.take d).map (·.S))/\Mq g ((Δ.take d).flatMap Hy)) (λ(F,_,_)=>Δ.length-F.toNat) (λz=>match z with|.inl r=>r=false/\¬Ll Δ|.inr _=>Ll Δ) ⟨0,rfl,ω,by intro k x h;omega,ψ,ψ,by simpa using Mq.nil,by simpa using Mq.nil⟩ ?_ ?_;rintro⟨v,f,g⟩ ⟨d,rfl,hd,h1,P,T,B,V⟩;rcases Cf d Δ.length with h|h;have w:Δ[d]?=some Δ[d]:=Bk h;generalize Δ[d]=x at w;have W:=B2 w;obtain⟨b,b1,b2⟩:=Aur x.S (by have:=j.nm x W;omega);obtain⟨f1,f2⟩:=A7m w;simp only[Al (ω:(d:Int)<(Δ.length:Int)),Aj,Bu rfl w,Aa,b1];have C:∀(y:¬Tu Δ d x),∃e:Bool⊕(List (Β×Bool)×List (Β×Bool)),(some (Sum.inr (Sum.inl false)):Ο ((Int×List (Β×Bool)×List (Β×Bool))⊕(Bool⊕(List (Β×Bool)×List (Β×Bool)))))=some (.inr e)/\(match e with|.inl r=>r=false/\¬Ll Δ|.inr _=>Ll Δ):=λy=>⟨.inl false,rfl,rfl,λc=>y (c.2.1 d x w)⟩;(cases b with|false=>exact .inr (C λc=>by have:=b2.2 c.2.2.2.2.1;cases this)|true=>simp only[Dj,Ai];cases i:Gj f x.S with|true=>simp only[Aj,B.get i,Aa];refine .inr ⟨.inl false,rfl,rfl,λc=>?_⟩;have:=c.2.2.1;rw[f2]at this;exact Aut this ((B.2 _).1 i)|false=>simp only[Ai];by_cases q:x.V<0;simp only[Al q,Aj,Aa];exact .inr (C λc=>by have:=c.1;omega);by_cases u:x.V>6;simp only[An q,Al u,Aj,Ai,Aa];exact .inr (C λc=>by have:=c.2.1;omega);simp only[An q,An u,Ai,Aa];by_cases s:(x.O.length:Int)<1;simp only[Al s,Aj,Aa];exact .inr (C λc=>by have:=c.2.2.1;omega);by_cases A:(x.O.length:Int)>8;simp only[An s,Al A,Aj,Ai,Aa];exact .inr (C λc=>by have:=c.2.2.2.1;omega);simp only[An s,An A,Ai,Aa];obtain⟨z,L,H⟩:=A7l j w ω g _ V T;rw[L,Aa];match z,H with|.inl r,H=>obtain⟨rfl,H⟩:=H;refine .inr ⟨.inl false,rfl,rfl,λc=>H ⟨(c.2.1 d x w).2.2.2.2.2,?_⟩⟩;have:=c.2.2.2;rw[f1]at this;exact(nodup_append.1 this).1|.inr (a0,D),H=>obtain⟨R,N,M⟩:=H;have ht:=C4 w;(have E:x.S∉(Δ.take d).map (·.S):=λc=>by rw[(B.2 _).2 c]at i;cases i);have J:(Δ.take (d+1)).map (·.S)=(Δ.take d).map (·.S)++[x.S]:=(by rw[ht];simp);have I:(Δ.take (d+1)).flatMap Hy=(Δ.take d).flatMap Hy++Hy x:=(by rw[ht];simp[flatMap_append]);refine .inl ⟨(((d+1:Nat):Int),G3 f x.S true,D),by simp only[Dh h ω],⟨d+1,rfl,ω,?_,?_,?_,?_,?_⟩,ζ⟩;intro k S U l;rcases Cf k d with h'|h';exact h1 k S h' l;have:k=d:=ω;subst this;rw[w]at l;cases l;exact⟨ω,ω,ω,ω,b2.1 rfl,R⟩;rw[J];exact Am0 P E;rw[I];exact N;rw[J];exact B.put _;rw[I];exact M);have:d=Δ.length:=ω;subst this;rw[Dc]at P T;exact .inr ⟨.inr (f,g),ψ,K,λd x w=>h1 d x (Dz w) w,P,T⟩;rintro(r|⟨o,o'⟩) j;obtain⟨rfl,j⟩:=j;exact⟨false,rfl,by simp[j]⟩;exact⟨true,rfl,by simpa using j⟩
theorem Auu(c:DSz Δ):∃b,Abu Δ=some b/\(b=true↔Ll Δ):=by obtain⟨b,g,h⟩:=A7n c;refine⟨b,?_,h⟩;unfold Abu;rw[g,Aa];cases b with|false=>rfl|true=>rfl
theorem A7o{l:Cy}{x:Β}(h:l[j]?=some x)(v:l.Nodup):∀i y,i<j->l[i]?=some y->y≠x:=by intro i y w g e;subst e;have q:=Dz h;have u:i<l.length:=ω;rw[Bk q]at h;rw[Bk u]at g;have:=(List.nodup_iff_pairwise_ne.1 v);rw[pairwise_iff_getElem]at this;exact this i j u q w (by rw[Fx h,Fx g])
theorem Auv(l:Cy)(M:l.length<1099511627776):∃b,Yp l=some b/\(b=false↔l.Nodup):=by unfold Yp;refine F1 (λv=>∃i:Nat,v=i/\i<=l.length/\(l.take i).Nodup) (λv=>l.length-v.toNat) (λz=>match z with|.inl r=>r=true/\¬l.Nodup|.inr _=>l.Nodup) ⟨0,rfl,ω,ψ⟩ ?_ ?_;rintro v ⟨i,rfl,V,P⟩;rcases Cf i l.length with h|h;have K:l[i]?=some l[i]:=Bk h;generalize l[i]=x at K;have D:(l.take i).length=i:=ζ;(have B:∃z,Ap (S:=Int) (E:=(Bool⊕Int)) (λw=>bif w<(i:Int)then((Ae l (i:Int)).bind λU=>(Ae l w).bind λJ=>bif(U.toList==J.toList)then some (.inr (.inl true))else some (.inl (Ac (w+1))))else some (.inr (.inr w))) 0=some z/\(match z with|.inl r=>r=true/\x∈l.take i|.inr _=>x∉l.take i):=by refine Jc (λw:Int=>∃j:Nat,w=j/\j<=i/\∀k y,k<j->l[k]?=some y->y≠x) (λw=>i-w.toNat) _ ?_ _ ⟨0,rfl,ω,λk y C=>ω⟩;rintro w ⟨j,rfl,W,g⟩;rcases Cf j i with T|T;have N:l[j]?=some l[j]:=Bk ω;generalize l[j]=y at N;simp only[Al (ω:(j:Int)<(i:Int)),Aj,Bu rfl K,Bu rfl N,Aa,Ahp];by_cases c:x=y;rw[Al c];refine .inr ⟨.inl true,rfl,rfl,?_⟩;subst c;exact B2 (i:=j) (by rw[getElem?_take_of_lt T];exact N);rw[An c];refine .inl ⟨((j+1:Nat):Int),by simp only[Ai];rw[Dh T ω],⟨j+1,rfl,ω,?_⟩,ζ⟩;intro k I C f;rcases Cf k j with H|H;exact g k I H f;have:k=j:=ω;subst this;rw[N]at f;cases f;exactλe=>c e.symm;have:j=i:=ω;subst this;refine .inr ⟨.inr (j:Int),ψ,?_⟩;intro q;obtain⟨k,C⟩:=Ff q;have A:=Dz C;rw[getElem?_take_of_lt ω]at C;exact g k x ω C rfl);obtain⟨z,G,F⟩:=B;simp only[Al (ω:(i:Int)<(l.length:Int)),Aj];rw[G,Aa];(match z,F with|.inl r,F=>obtain⟨rfl,F⟩:=F;refine .inr ⟨.inl true,rfl,rfl,λL=>?_⟩;obtain⟨k,C⟩:=Ff F;have A:=Dz C;rw[getElem?_take_of_lt ω]at C;exact A7o K L k x ω C rfl|.inr v8,F=>refine .inl ⟨((i+1:Nat):Int),by simp only[Dh h ω],⟨i+1,rfl,ω,?_⟩,ζ⟩;rw[C4 K];exact Am0 P F);have:i=l.length:=ω;subst this;rw[Dc]at P;exact .inr ⟨.inr (),ψ,P⟩;rintro(r|u) s;obtain⟨rfl,s⟩:=s;exact⟨true,rfl,by simp[s]⟩;exact⟨false,rfl,by simpa using s⟩
theorem SzD.args(h:SzD Δ)(hx:x∈Δ)(hy:y∈x.O)(g:t∈y.R):B3 t<=1048576/\t.R.length<=1048576/\y.R.length<=1048576:=by have h1:=(h x hx).2 y hy;have h3:=Kk g;have f:=J9 t;have c:=L1 t.R;have b:=L1 y.R;omega
theorem A7p(l:DSz Δ)(H:Δ[d]?=some x)(K:y∈x.O):∃z,Ap (S:=Int) (E:=(Bool⊕Int)) (λb=>bif b<(y.R.length:Int)then((Ae y.R b).bind λf=>(S0 f d x.V).bind λi=>bif i then some (.inl (Ac (b+1)))else((Fb Δ 0 d).bind λw=>(Rb w f x.V).bind λg=>bif(!g)then some (.inr (.inl false))else some (.inl (Ac (b+1)))))else some (.inr (.inr b))) 0=some z/\(match z with|.inl r=>r=false/\y.R.all (L2 Δ d x.V)=false|.inr _=>y.R.all (L2 Δ d x.V)=true):=by have C:=B2 H;have A:=Dz H;have s:=l.len;(have B:y.R.length<=1048576:=by have:=(l.sz x C).2 y K;have:=L1 y.R;omega);refine Jc (λv:Int=>∃j:Nat,v=j/\j<=y.R.length/\(y.R.take j).all (L2 Δ d x.V)=true) (λv=>y.R.length-v.toNat) _ ?_ _ ⟨0,rfl,ω,ψ⟩;rintro v ⟨j,rfl,N,c⟩;rcases Cf j y.R.length with h|h;have F:y.R[j]?=some y.R[j]:=Bk h;generalize y.R[j]=t at F;have k:=B2 F;obtain⟨I,G,D⟩:=l.sz.args C K k;simp only[Al (ω:(j:Int)<(y.R.length:Int)),Aj,Bu rfl F,Aa,Aui t d x.V ω,Adq rfl (show d<=Δ.length by omega),Amv (Δ.take d) t x.V ω,Dh h ω];(have good:L2 Δ d x.V t=true->(y.R.take (j+1)).all (L2 Δ d x.V)=true:=λM=>by rw[C4 F,all_append,c];simp[M]);(cases q:Kl t d x.V with|true=>exact .inl ⟨_,rfl,⟨j+1,rfl,ω,good (by unfold L2;rw[q];rfl)⟩,ζ⟩|false=>simp only[Ai];cases u:(Hm (Δ.take d) x.V t&&decide (B3 t<=200))with|true=>exact .inl ⟨_,rfl,⟨j+1,rfl,ω,good (by unfold L2;rw[u,q];rfl)⟩,ζ⟩|false=>refine .inr ⟨.inl false,rfl,rfl,?_⟩;rw[all_eq_false];exact⟨t,k,by unfold L2;rw[u,q];simp⟩);have:j=y.R.length:=ω;subst this;rw[Dc]at c;exact .inr ⟨.inr (y.R.length:Int),ψ,c⟩
theorem A7q(M:DSz Δ)(hx:Δ[d]?=some x)(Y:x.O.length<=8)(L:Cy)(X:L.length<=1048576) :
  ∃z,Ap (S:=(Int×List Β)) (E:=(Bool⊕(Int×List Β))) (λ(f,k)=>bif f<(x.O.length:Int)then((show OB from
   (Ae x.O f).bind λA=>(Vi A.S).bind λH=>bif(!H)then some true
   else((Ae x.O f).bind λu=>some (decide ((u.R.length:Int)>(6:Int))))).bind λs=>bif s then some (.inr (.inl false))else((Ae x.O f).bind λK=>(Cg 16 k [K.S]).bind λD=>(Ae x.O f).bind λC=>(Ap (S:=Int) (E:=(Bool⊕Int)) (λg=>bif g<(C.R.length:Int)then((Ae C.R g).bind λj=>(S0 j d x.V).bind λq=>bif q then some (.inl (Ac (g+1)))else((Fb Δ 0 d).bind λP=>(Rb P j x.V).bind λl=>bif(!l)then some (.inr (.inl false))
   else some (.inl (Ac (g+1)))))
   else some (.inr (.inr g))) 0).bind λz=>match z with
   |.inl B=>some (.inr (.inl B))
   |.inr J=>some (.inl (Ac (f+1),D))))
   else some (.inr (.inr (f,k)))) (0,L)=some z /\
   (match z with|.inl r=>r=false/\¬(∀y∈x.O,Wn Δ d x.V y)|.inr (_,o)=>(∀y∈x.O,Wn Δ d x.V y)/\o=L++Hy x):=by
 have a0:=B2 hx
 refine Jc (λ(v,o)=>∃c:Nat,v=c/\c<=x.O.length/\(∀y∈x.O.take c,Wn Δ d x.V y)/\o=L++(x.O.take c).map (·.S)) (λ(v,_)=>x.O.length-v.toNat) _ ?_ _ ⟨0,rfl,ω,ψ,ψ⟩
 rintro⟨v,o⟩ ⟨c,rfl,hc,h1,V⟩
 subst V
 rcases Cf c x.O.length with h|h
 .have T:x.O[c]?=some x.O[c]:=Bk h
  generalize x.O[c]=y at T
  have i:=B2 T
  obtain⟨b,b1,b2⟩:=Aus y.S (by have:=M.cn x a0 y i;omega)
  obtain⟨z,R,F⟩:=A7p M hx i
  simp only[Al (ω:(c:Int)<(x.O.length:Int)),Aj,Bu rfl T,Aa,b1,Dh h ω]
  rw[Dd ζ]
  cases b with
  |false=>
   refine .inr ⟨.inl false,rfl,rfl,λI=>?_⟩
   have:=b2.2 (I y i).1;cases this
  |true=>
   simp only[Dj,Ai,Aa]
   by_cases N:(y.R.length:Int)>6
   .rw[Al N]
    refine .inr ⟨.inl false,rfl,rfl,λI=>?_⟩
    have:=(I y i).2.1;omega
   .rw[An N]
    simp only[Ai]
    rw[R,Aa]
    match z,F with
    |.inl r,F=>
     obtain⟨rfl,F⟩:=F
     refine .inr ⟨.inl false,rfl,rfl,λI=>?_⟩
     have:=(I y i).2.2
     rw[F]at this;cases this
    |.inr w,F=>
     refine .inl ⟨_,rfl,⟨c+1,rfl,ω,?_,?_⟩,ζ⟩
     .intro U G
      rw[C4 T]at G
      rcases Ea.1 G with W|W
      .exact h1 U W
      .simp at W;subst W;exact⟨b2.1 rfl,ω,F⟩
     .rw[C4 T];simp
 .have:c=x.O.length:=ω
  subst this
  rw[Dc]at h1
  exact .inr ⟨.inr ((x.O.length:Int),L++Hy x),by simp[Hy],h1,rfl⟩
theorem A7r(D:DSz Δ):∃b,Aby Δ=some b/\(b=true↔Ll Δ):=by have J:=D.len;unfold Aby;rcases Cf 12 Δ.length with K|K;rw[Al ω];exact⟨false,rfl,by simp;intro h;have:=h.1;omega⟩;rw[An ω];simp only[Ai];(have l:∀d,d<=Δ.length->(∀f x,f<d->Δ[f]?=some x->Tu Δ f x)->((Δ.take d).flatMap Hy).length<=8*d:=by intro d;induction d with|zero=>intro _ _;simp|succ d ih=>intro hd H;have w:Δ[d]?=some Δ[d]:=Bk ω;have:=ih ω λf x E=>H f x ω;have V:=(H d _ ω w).2.2.2.1;rw[C4 w,flatMap_append,E5];simp only[flatMap_cons,flatMap_nil,append_nil,Hy,Ki];omega);refine F1 (λ(v,k,j)=>∃d:Nat,v=d/\d<=Δ.length/\(∀f x,f<d->Δ[f]?=some x->Tu Δ f x)/\k=(Δ.take d).map (·.S)/\j=(Δ.take d).flatMap Hy) (λ(v,_,_)=>Δ.length-v.toNat) (λz=>match z with|.inl r=>r=false/\¬Ll Δ|.inr (k,j)=>(∀d x,Δ[d]?=some x->Tu Δ d x)/\k=Δ.map (·.S)/\j=Δ.flatMap Hy) ⟨0,rfl,ω,by intro f x h;omega,ψ,ψ⟩ ?_ ?_;rintro⟨v,k,j⟩ ⟨d,rfl,hd,H,T,W⟩;rcases Cf d Δ.length with h|h;have w:Δ[d]?=some Δ[d]:=Bk h;generalize Δ[d]=x at w;have a0:=B2 w;obtain⟨b,b1,P⟩:=Aus x.S (by have:=D.nm x a0;omega);simp only[Al (ω:(d:Int)<(Δ.length:Int)),Aj,Bu rfl w,Aa,b1];have C:∀(u:¬Tu Δ d x),∃e:Bool⊕(List Β×List Β),(some (Sum.inr (Sum.inl false)):Ο ((Int×List Β×List Β)⊕(Bool⊕(List Β×List Β))))=some (.inr e)/\(match e with|.inl r=>r=false/\¬Ll Δ|.inr (k,j)=>(∀d x,Δ[d]?=some x->Tu Δ d x)/\k=Δ.map (·.S)/\j=Δ.flatMap Hy):=λu=>⟨.inl false,rfl,rfl,λc=>u (c.2.1 d x w)⟩;by_cases g:x.V<0;simp only[Al g,Aj,Aa];exact .inr (C λc=>by have:=c.1;omega);by_cases i:x.V>6;simp only[An g,Al i,Aj,Ai,Aa];exact .inr (C λc=>by have:=c.2.1;omega);by_cases s:(x.O.length:Int)<1;simp only[An g,An i,Al s,Ai,Aj,Aa];exact .inr (C λc=>by have:=c.2.2.1;omega);by_cases A:(x.O.length:Int)>8;simp only[An g,An i,An s,Al A,Aj,Ai,Aa];exact .inr (C λc=>by have:=c.2.2.2.1;omega);simp only[An g,An i,An s,An A,Ai,Aa];(cases b with|false=>exact .inr (C λc=>by have:=P.2 c.2.2.2.2.1;cases this)|true=>have y:=l d hd H;rw[T,W];simp only[Dj,Ai];rw[Dd ζ,Aa];obtain⟨z,L,F⟩:=A7q D w ω ((Δ.take d).flatMap Hy) ω;erw[L,Aa];match z,F with|.inl r,F=>obtain⟨rfl,F⟩:=F;exact .inr (C λc=>F c.2.2.2.2.2)|.inr (a1,S),F=>obtain⟨N,M⟩:=F;subst M;have ht:=C4 w;refine .inl ⟨(((d+1:Nat):Int),(Δ.take d).map (·.S)++[x.S],(Δ.take d).flatMap Hy++Hy x),by simp only[Dh h ω],⟨d+1,rfl,ω,?_,?_,?_⟩,ζ⟩;intro f R E q;rcases Cf f d with h'|h';exact H f R h' q;have:f=d:=ω;subst this;rw[w]at q;cases q;exact⟨ω,ω,ω,ω,P.1 rfl,N⟩;rw[ht];simp;rw[ht];simp[flatMap_append]);have:d=Δ.length:=ω;subst this;rw[Dc]at T W;exact .inr ⟨.inr (k,j),ψ,λd x w=>H d x (Dz w) w,T,W⟩;rintro(r|⟨k,j⟩) hp;obtain⟨rfl,hp⟩:=hp;exact⟨false,rfl,by simp[hp]⟩;obtain⟨I,rfl,rfl⟩:=hp;have y:=l Δ.length ω λd x _=>I d x;rw[Dc]at y;obtain⟨b,b1,P⟩:=Auv (Δ.map (·.S)) ζ;obtain⟨U,G,B⟩:=Auv (Δ.flatMap Hy) ω;simp only[b1,Aa,G];cases b with|true=>exact⟨false,rfl,by simp;intro c;have:=P.2 c.2.2.1;cases this⟩|false=>cases U with|true=>exact⟨false,rfl,by simp;intro c;have:=B.2 c.2.2.2;cases this⟩|false=>exact⟨true,rfl,by simp;exact⟨K,I,P.1 rfl,B.1 rfl⟩⟩
def isV(σ:A1)(k n:Int):Bool:=k==4&&decide (0<=n)&&decide (n<(σ.length:Int))
mutual
def Eb(σ:List Ak):Ak->Ak
 |⟨k,n,l⟩=>match(if isV σ k n then σ[n.toNat]? else none)with
  |some s=>s
  |none=>⟨k,n,Rv σ l⟩
def Rv(σ:List Ak):List Ak->List Ak
 |[]=>[]
 |x::xs=>Eb σ x::Rv σ xs
end
variable{t:Ak}{σ:A1}
theorem A7s(σ l:A1):Rv σ l=l.map (Eb σ):=by induction l with|nil=>rfl|cons x xs ih=>simp only[Rv,ih,map_cons]
theorem Ahq{k n:Int}(h:isV σ k n=true):∃s,σ[n.toNat]?=some s/\Ae σ n=some s/\s∈σ:=by simp only[isV,Dp,Ed]at h;have b:n.toNat < σ.length:=ω;refine⟨σ[n.toNat],Bk b,?_,getElem_mem b⟩;unfold Ae;rw[Ar ω,Bk b]
theorem Ahr{s:Ak}(h:isV σ t.G t.U=true)(b:σ[t.U.toNat]?=some s):Eb σ t=s:=by cases t;simp only[Eb]at *;simp[h,b]
theorem Am1(h:isV σ t.G t.U=false):Eb σ t=⟨t.G,t.U,t.R.map (Eb σ)⟩:=by cases t;simp only[Eb]at *;simp[h,A7s]
mutual
theorem Auw:∀t:Ak,Eb [] t=t
 |⟨k,n,l⟩=>by
  have g:isV [] k n=false:=by
   unfold isV
   by_cases h:0<=n
   .rw[An (by simp;omega:¬n<(([]:List Ak).length:Int))];simp
   .rw[An h];simp
  simp only[Eb,g,Aux l];rfl
theorem Aux:∀l:List Ak,Rv [] l=l
 |[]=>rfl
 |x::xs=>by simp only[Rv,Auw x,Aux xs]
end
mutual
theorem Am2(σ:List Ak)(M:Nat)(q:1<=M)(h:∀s∈σ,B3 s<=M):∀t:Ak,B3 (Eb σ t)<=B3 t*M
 |⟨k,n,l⟩=>by
  cases g:isV σ k n with
  |true=>
   obtain⟨s,u,_,v⟩:=Ahq g
   rw[Ahr (t:=⟨k,n,l⟩) g u]
   have:=h s v
   have w:=Qu ⟨k,n,l⟩
   calc B3 s<=1*M:=ω
    _<=_:=Nat.mul_le_mul_right M w
  |false=>
   have:=Auy σ M q h l
   simp only[Eb,g,B3]
   simp only[Bool.false_eq_true,if_false,B3]
   rw[Nat.add_mul];omega
theorem Auy(σ:List Ak)(M:Nat)(g:1<=M)(h:∀s∈σ,B3 s<=M):∀l:List Ak,Dq (Rv σ l)<=Dq l*M
 |[]=>by simp[Rv,Dq]
 |x::xs=>by
  have q:=Am2 σ M g h x
  have u:=Auy σ M g h xs
  simp only[Rv,Dq]
  rw[Nat.add_mul];omega
end
variable{a t:Ak}{b:Bool}{Δ:A0}{l:A1}{r:In}{j:Nat}
theorem Am3(σ:A1)(t:Ak):(bif t.G==(4:Int)then bif decide (t.U>=(0:Int))then some (decide (t.U<(σ.length:Int)))else some false else some false)=some (isV σ t.G t.U):=by unfold isV;cases t.G==4<;>simp;by_cases h:0<=t.U<;>simp[h]
theorem A7t:∀(k:Nat)(t:Ak)(σ:A1)(M:Nat),(∀s∈σ,B3 s<=M)->B3 t+M+1<=k->k<1099511627776->Ti k t σ=some (Eb σ t):=by intro k;induction k with|zero=>intro t σ M _ h;omega|succ k ih=>intro t σ M c h A;have g:=J9 t;have f:=L1 t.R;rw[Ti];rw[show(show OB from bif t.G==(4:Int)then bif decide (t.U>=(0:Int))then some (decide (t.U<(σ.length:Int)))else some false else some false)=some (isV σ t.G t.U)from Am3 σ t,Aa];cases b:isV σ t.G t.U with|true=>obtain⟨s,q,u,v⟩:=Ahq b;have:=c s v;simp only[Aj,u,Aa,Ahr b q,ih s [] 0 ψ ω ω,Auw]|false=>rw[Am1 b];simp only[Ai];refine Ij t.R (λj=>((j:Int),(t.R.take j).map (Eb σ))) rfl ω ?_ ?_;intro j x B w q u v;have:=Kk (B2 w);simp only[q,u,v,Aj,Aa,ih x σ M c ω ω];rw[Dd ζ,Aa,C4 w];simp;intro q;exact⟨t.R.map (Eb σ),ψ,rfl⟩
theorem A7u:∀(k:Nat)(t:Ak),B3 t<=k->k<1099511627776->We k t=some t:=by intro k;induction k with|zero=>intro t h;have:=Qu t;omega|succ k ih=>intro t h w;have c:=J9 t;have b:=L1 t.R;rw[We];refine Ij t.R (λj=>((j:Int),t.R.take j)) rfl ω ?_ ?_;intro j x A g q u v;have:=Kk (B2 g);simp only[q,u,v,Aj,Aa,ih x ω ω];rw[Dd ζ,Aa,C4 g];intro q;exact⟨t.R,ψ,by cases t;rfl⟩
theorem A7v:∀(k:Nat)(t:Ak)(σ:A1)(M:Nat),(∀s∈σ,B3 s<=M)->M<=4000000->B3 t<=k->k<1099511627776->Tj k t σ=some (Eb σ t):=by intro k;induction k with|zero=>intro t σ M _ _ h;have:=Qu t;omega|succ k ih=>intro t σ M c i h A;have g:=J9 t;have f:=L1 t.R;rw[Tj];rw[show(show OB from bif t.G==(4:Int)then bif decide (t.U>=(0:Int))then some (decide (t.U<(σ.length:Int)))else some false else some false)=some (isV σ t.G t.U)from Am3 σ t,Aa];cases b:isV σ t.G t.U with|true=>obtain⟨s,q,u,v⟩:=Ahq b;have:=c s v;simp only[Aj,u,Aa,Ahr b q,A7u 4000000 s ω ω]|false=>rw[Am1 b];simp only[Ai];refine Ij t.R (λj=>((j:Int),(t.R.take j).map (Eb σ))) rfl ω ?_ ?_;intro j x B w q u v;have:=Kk (B2 w);simp only[q,u,v,Aj,Aa,ih x σ M c i ω ω];rw[Dd ζ,Aa,C4 w];simp;intro q;exact⟨t.R.map (Eb σ),ψ,rfl⟩
theorem A7w:∀(k:Nat)(t:Ak),B3 t<=k->B3 t<1099511627776->Wb k t=some (B3 t:Int):=by intro k;induction k with|zero=>intro t h;have:=Qu t;omega|succ k ih=>intro t h w;have b:=J9 t;have c:=L1 t.R;rw[Wb];refine Ij t.R (λj=>(1+(Dq (t.R.take j):Int),(j:Int))) rfl ω ?_ ?_;intro j x A g q u v;have B:=Kk (B2 g);have f:=Adv t.R (j+1);have e:Dq (t.R.take (j+1))=Dq (t.R.take j)+B3 x:=(by rw[C4 g,Ahm];simp[Dq]);simp only[q,u,v,Aj,Aa,ih x ω ω];rw[show Ac (1+(Dq (t.R.take j):Int)+(B3 x:Int))=1+(Dq (t.R.take (j+1)):Int)by rw[e,Ac,Bn]<;>omega];intro q;exact⟨1+(Dq t.R:Int),ψ,by rw[b];simp⟩
theorem ξ{p:Prop}(h:p:=by rw[Ac,Bn]<;>omega):p:=h
theorem A7x(σ:A1)(M:Nat)(D:1<=M)(q:M<=1048576)(z:∀s∈σ,B3 s<=M):∀(k:Nat)(t:Ak),B3 t<=k->B3 t<=1048576->∃v:Nat,Wc k t (σ.map λs=>(B3 s:Int))=some (v:Int)/\v<=B3 (Eb σ t)/\((v=B3 (Eb σ t))\/200<v):=by intro k;induction k with|zero=>intro t h;have:=Qu t;omega|succ k ih=>intro t h I;have A:=J9 t;have y:=L1 t.R;(have l:∀x,B3 x<=1048576->B3 (Eb σ x)<=1099511627776:=λx w=>by have:=Am2 σ M D z x;have:B3 x*M<=1048576*1048576:=Nat.mul_le_mul w q;omega);rw[Wc];rw[show(show OB from bif t.G==(4:Int)then bif decide (t.U>=(0:Int))then some (decide (t.U<((σ.map λs=>(B3 s:Int)).length:Int)))else some false else some false)=some (isV σ t.G t.U)by rw[Ki];exact Am3 σ t,Aa];cases f:isV σ t.G t.U with|true=>obtain⟨s,G,K,T⟩:=Ahq f;have N:Ae (σ.map λs=>(B3 s:Int)) t.U=some (B3 s:Int):=(by have:=Ik K;rw[Bu (n:=t.U.toNat) ω];simp[G]);simp only[Aj,N,Aa,Ahr f G];exact⟨B3 s,rfl,Nat.le_refl _,.inl rfl⟩|false=>have u:=l t I;rw[Am1 f]at u⊢;simp only[Ai];have g:B3 ⟨t.G,t.U,t.R.map (Eb σ)⟩=1+Dq (t.R.map (Eb σ)):=(by simp only[B3]);rw[g]at u⊢;refine Ahf (λv:Nat=>(v:Int)) (F1 (λ(n,i)=>∃j:Nat,i=j/\j<=t.R.length/\n=1+(Dq ((t.R.map (Eb σ)).take j):Int)) (λ(_,i)=>t.R.length-i.toNat) (λn=>∃v:Nat,n=v/\v<=1+Dq (t.R.map (Eb σ))/\(v=1+Dq (t.R.map (Eb σ))\/200<v)) ⟨0,rfl,ω,by simp[Dq]⟩ ?_ ?_);rintro⟨n,i⟩ ⟨j,rfl,U,C⟩;have C:n=_:=C;subst C;rcases Cf j t.R.length with F|F;have w:t.R[j]?=some t.R[j]:=Bk F;generalize t.R[j]=x at w;have V:=Kk (B2 w);obtain⟨v,b,H,W⟩:=ih x ω ω;have c:(t.R.map (Eb σ))[j]?=some (Eb σ x):=(by simp[w]);have e:Dq ((t.R.map (Eb σ)).take (j+1))=Dq ((t.R.map (Eb σ)).take j)+B3 (Eb σ x):=(by rw[C4 c,Ahm];simp[Dq]);have B:=Adv (t.R.map (Eb σ)) (j+1);have E:Ac (1+(Dq ((t.R.map (Eb σ)).take j):Int)+(v:Int))=((1+Dq ((t.R.map (Eb σ)).take j)+v:Nat):Int):=ξ;simp only[Al (ω:(j:Int)<(t.R.length:Int)),Aj,Bu rfl w,Aa,b,Dh F ω,E];by_cases P:1+Dq ((t.R.map (Eb σ)).take j)+v>200;rw[Al ω];exact .inr ⟨_,rfl,_,rfl,ω,.inr P⟩;rw[An ω];refine .inl ⟨_,rfl,⟨j+1,rfl,ω,?_⟩,ζ⟩;have:v=B3 (Eb σ x):=ω;subst this;rw[e];omega;have:j=t.R.length:=ω;subst this;refine .inr ⟨_,by simp;rfl,1+Dq (t.R.map (Eb σ)),?_,ω,.inl rfl⟩;rw[J7 ψ];omega;rintro n ⟨v,rfl,b,H⟩;exact⟨_,rfl,v,rfl,b,H⟩
def Og(Δ:A0)(t:Ak)(c:Int):Ο (List Ak):=if t.G=5 then match Ae Δ t.U with
  |none=>none
  |some x=>if(t.R.length:Int)=x.V then match Ae x.O c with
    |none=>none
    |some y=>if(y.R.map (Eb t.R)).all (λa=>decide (B3 a<=200))then some (y.R.map (Eb t.R))else none else none else none
def okL(o:Ο (List Ak)):List Ak×Bool:=match o with|none=>([],false)|some l=>(l,true)
theorem A7y{R:Type}(Δ:A0)(t:Ak)(c:Int)(F:A5->Ph->Ο R)(z:R)(X:Ο R)(b:X=(match Ae Δ t.U with
   |none=>some z
   |some x=>match Ae x.O c with
    |none=>some z
    |some y=>if t.G=5/\(t.R.length:Int)=x.V then F x y else some z)):X=if t.G=5 then match Ae Δ t.U with
  |none=>some z
  |some x=>if(t.R.length:Int)=x.V then match Ae x.O c with
    |none=>some z
    |some y=>F x y else some z else some z:=by
 subst b;by_cases h:t.G=5
 .rw[Ar h];cases Ae Δ t.U with
  |none=>rfl
  |some x=>
   simp only;by_cases g:(t.R.length:Int)=x.V
   .rw[Ar g];cases Ae x.O c with|none=>rfl|some y=>simp[h,g]
   .rw[Au g];cases Ae x.O c with|none=>rfl|some y=>simp[g]
 .rw[Au h];cases Ae Δ t.U with
  |none=>rfl
  |some x=>simp only;cases Ae x.O c with|none=>rfl|some y=>simp[h]
def Szv(Δ:A0):Prop:=∀x∈Δ,∀y∈x.O,y.R.length<=6/\∀a∈y.R,B3 a<=200
theorem Ll.szv(h:Ll Δ):Szv Δ:=by intro x hx y hy;obtain⟨d,hd⟩:=Ff hx;have h1:=h.2.1 d x hd;obtain⟨_,g,q⟩:=h1.2.2.2.2.2 y hy;refine⟨g,λa ha=>?_⟩;have:=Gb.1 q a ha;unfold L2 at this;rw[Bool.or_eq_true]at this;rcases this with h'|h';exact(Auo hd h1.2.1 h').2;simp only[Dp,Ed]at h';exact h'.2
theorem A7z(h:B3 t<=200)(g:B3 a<=200):B3 (Eb t.R a)<=40000:=by have q:=Am2 t.R 200 ω (λs b=>by have:=Kk b;have:=J9 t;omega) a;have:B3 a*200<=200*200:=Nat.mul_le_mul_right 200 g;omega
theorem Auz(B:Szv Δ)(t:Ak)(V:B3 t<=200)(c:Int):V8 Δ t c=some (okL (Og Δ t c)):=by
 have G:V8 Δ t c=_:=A7y Δ t c (λx y=>(Ap (S:=(Int×List Ak)) (E:=((List Ak×Bool)⊕List Ak)) (λ(w,f)=>bif w<(y.R.length:Int)then((Ae y.R w).bind λM=>(Tj (4000000) M t.R).bind λF=>(Rk (4000000) F).bind λN=>bif N>(200:Int)then some (.inr (.inl ([],false)))else((Cg 40 f [F]).bind λu=>some (.inl (Ac (w+1),u))))
   else some (.inr (.inr f))) (0,[])).bind λz=>match z with
   |.inl (l,k)=>some (l,k)
   |.inr q=>some (q,true)) ([],false) _ (by
  unfold V8
  by_cases v:t.G=5
  .simp only[Dm v,Ai]
   cases H:Ae Δ t.U with
   |none=>
    rcases Tt H with h|h
    .simp only[Al h,Aj,Aa]
    .by_cases K:t.U<0
     .simp only[Al K,Aj,Aa]
     .simp only[An K,Al (show t.U>=(Δ.length:Int)from h),Aj,Ai,Aa]
   |some x=>
    obtain⟨a1,a2,_,_⟩:=Ik H
    simp only[An (ω:¬t.U<0),An (ω:¬t.U>=(Δ.length:Int)),Ai,Aa]
    by_cases b:(t.R.length:Int)=x.V
    .simp only[Dm b,Ai]
     cases C:Ae x.O c with
     |none=>
      rcases Tt C with h|h
      .simp only[Al h,Aj,Aa]
      .by_cases K:c<0
       .simp only[Al K,Aj,Aa]
       .simp only[An K,Al (show c>=(x.O.length:Int)from h),Aj,Ai,Aa]
     |some y=>
      obtain⟨b1,b2,_,_⟩:=Ik C
      simp only[An (ω:¬c<0),An (ω:¬c>=(x.O.length:Int)),Ai,Aa,v,b,and_self,if_true]
      rfl
    .simp only[Dy b,Aj,Aa]
     cases C:Ae x.O c with
     |none=>rfl
     |some y=>simp[b]
  .simp only[Dy v,Aj,Aa]
   cases H:Ae Δ t.U with
   |none=>rfl
   |some x=>
    simp only
    cases C:Ae x.O c with
    |none=>rfl
    |some y=>simp[v])
 rw[G];unfold Og;by_cases v:t.G=5;rw[Ar v,Ar v];(cases H:Ae Δ t.U with|none=>rfl|some x=>simp only;by_cases b:(t.R.length:Int)=x.V;rw[Ar b,Ar b];(cases C:Ae x.O c with|none=>rfl|some y=>simp only;obtain⟨I,i⟩:=B x (Ik H).2.2.2 y (Ik C).2.2.2;refine(Ix (rt:=(y.R.map (Eb t.R),true)) (rf:=([],false)) y.R (λa=>decide (B3 (Eb t.R a)<=200)) (λj=>((j:Int),(y.R.take j).map (Eb t.R))) rfl ω ?_ ?_).trans ?_;intro j a P T W h3;have hj:=Dz P;have A:=i a (B2 P);have J:=A7z V A;simp only[T,W,h3,Aj,Aa,A7v 4000000 a t.R 200 (λs D=>by have:=Kk D;have:=J9 t;omega) ω ω ω,Aug 4000000 (Eb t.R a) ω ω];by_cases U:B3 (Eb t.R a)<=200;rw[Al U,An ω];refine⟨λ_=>?_,λh=>by cases h⟩;rw[Dd ζ];simp only[Ai,Aa];rw[C4 P];simp;rw[An U,Al ω];exact⟨nofun,λ_=>⟨_,rfl,rfl⟩⟩;intro T;exact⟨.inr (y.R.map (Eb t.R)),ψ,rfl⟩;rw[all_map];cases g:y.R.all ((λa=>decide (B3 a<=200))∘Eb t.R)with|true=>rw[Ar rfl];rw[show(y.R.all λa=>decide (B3 (Eb t.R a)<=200))=true from g];rfl|false=>rw[show(y.R.all λa=>decide (B3 (Eb t.R a)<=200))=false from g];rfl);rw[Au b,Au b];rfl);rw[Au v,Au v];rfl
theorem A70(B:Szv Δ)(t:Ak)(W:B3 t<=200)(c:Int):Ac9 Δ t c=some (okL (Og Δ t c)):=by have D:=J9 t;have u:=L1 t.R;unfold Ac9 Og;by_cases I:t.G=5;simp only[Dm I,Ai,Ar I];(cases N:Ae Δ t.U with|none=>(rcases Tt N with h|h;simp only[Al h,Aj,Aa,okL];by_cases C:t.U<0;simp only[Al C,Aj,Aa,okL];simp only[An C,Al (show t.U>=(Δ.length:Int)from h),Aj,Ai,Aa,okL])|some x=>obtain⟨a1,a2,_,M⟩:=Ik N;simp only[An (ω:¬t.U<0),An (ω:¬t.U>=(Δ.length:Int)),Ai,Aa];by_cases g:(t.R.length:Int)=x.V;simp only[Dm g,Ai,Ar g];(cases P:Ae x.O c with|none=>(rcases Tt P with h|h;simp only[Al h,Aj,Aa,okL];by_cases C:c<0;simp only[Al C,Aj,Aa,okL];simp only[An C,Al (show c>=(x.O.length:Int)from h),Aj,Ai,Aa,okL])|some y=>obtain⟨b1,b2,_,k⟩:=Ik P;obtain⟨G,b⟩:=B x M y k;simp only[An (ω:¬c<0),An (ω:¬c>=(x.O.length:Int)),Ai,Aa];rw[Lj (n:=t.R.length) (c:=t.R.length) rfl rfl ω ω ω,Aa];refine Ij t.R (λj=>((j:Int),((t.R.take j).map λs=>(B3 s:Int))++replicate (t.R.length-j) 0)) rfl ω ?_ ?_;intro j s U i w F H;have:=Kk (B2 i);obtain⟨m,V⟩:∃m,t.R.length-j=m+1:=⟨t.R.length-j-1,ω⟩;have E:t.R.length-(j+1)=m:=ω;have l:j=((t.R.take j).map λs=>(B3 s:Int)).length:=ζ;simp only[w,F,H,Aj,Aa,A7w 4000000 s ω ω,V,E,replicate_succ,Amx _ _ _ (j:Int) j rfl l,Amw _ _ _ _ (j:Int) j rfl l,C4 i];simp;intro w;refine⟨t.R.map λs=>(B3 s:Int),ψ,?_⟩;(have q:∀s∈t.R,B3 s<=200:=λs i=>by have:=Kk i;omega);refine(Ix (rt:=(y.R.map (Eb t.R),true)) (rf:=([],false)) y.R (λa=>decide (B3 (Eb t.R a)<=200)) (λj=>(j:Int)) rfl ω ?_ ?_).trans ?_;intro j a K w F H;have A:=b a (B2 K);obtain⟨v,z,v2,v3⟩:=A7x t.R 200 ω ω q 4000000 a ω ω;simp only[w,F,H,Aj,Aa,z];by_cases T:B3 (Eb t.R a)<=200;rw[Al T,An ω];exact⟨λ_=>rfl,λh=>by cases h⟩;rw[An T,Al ω];exact⟨nofun,λ_=>⟨_,rfl,rfl⟩⟩;intro w;refine⟨.inr (),ψ,?_⟩;simp only;refine Ij y.R (λj=>((j:Int),(y.R.take j).map (Eb t.R))) rfl ω ?_ ?_;intro j a U K w F H;have A:=b a (B2 K);simp only[w,F,H,Aj,Aa,A7t 4000000 a t.R 200 q ω ω];rw[Dd ζ,Aa,C4 K];simp;intro w;exact⟨y.R.map (Eb t.R),ψ,rfl⟩;rw[all_map];cases f:y.R.all ((λa=>decide (B3 a<=200))∘Eb t.R)with|true=>rw[Ar rfl];rw[show(y.R.all λa=>decide (B3 (Eb t.R a)<=200))=true from f];rfl|false=>rw[show(y.R.all λa=>decide (B3 (Eb t.R a)<=200))=false from f];rfl);simp only[Dy g,Aj,Aa,Au g,okL]);simp only[Dy I,Aj,Aa,Au I,okL]
theorem Adz{c:Int}(h:Og Δ t c=some l):∃x y,t.G=5/\Ae Δ t.U=some x/\(t.R.length:Int)=x.V/\Ae x.O c=some y/\l=y.R.map (Eb t.R)/\∀a∈l,B3 a<=200:=by unfold Og at h;by_cases g:t.G=5;rw[Ar g]at h;(cases u:Ae Δ t.U with|none=>rw[u]at h;cases h|some x=>rw[u]at h;simp only at h;by_cases f:(t.R.length:Int)=x.V;rw[Ar f]at h;(cases q:Ae x.O c with|none=>rw[q]at h;cases h|some y=>rw[q]at h;simp only at h;by_cases b:(y.R.map (Eb t.R)).all (λa=>decide (B3 a<=200))=true;rw[Ar b]at h;cases h;refine⟨x,y,g,rfl,f,q,rfl,λa v=>?_⟩;have:=Gb.1 b a v;simpa using this;rw[Au b]at h;cases h);rw[Au f]at h;cases h);rw[Au g]at h;cases h
def Jg(l:A1)(r:In):A1:=((l.zip r).filter λp=>!p.2).map (·.1)
def I4(Δ:A0)(t:Ak)(c:Int):Ο (List Ak):=(Og Δ t c).map λl=>Jg l (Jf Δ t.U c)
theorem Am4{c:Int}(h:Og Δ t c=some l):(Jf Δ t.U c).length=l.length:=by obtain⟨x,y,_,g,_,q,rfl,_⟩:=Adz h;unfold Jf;simp only[g,q,Ki]
theorem Au0(g:l[j]?=some a)(h:r[j]?=some b):Jg (l.take (j+1)) (r.take (j+1))=Jg (l.take j) (r.take j)++bif b then[]else[a]:=by unfold Jg;have f:=Dz g;have c:=Dz h;rw[C4 g,C4 h,zip_append ζ];cases b<;>simp
theorem Au1(l:A1)(r:In):(Jg l r).length<=l.length:=by unfold Jg;rw[Ki];refine Nat.le_trans (length_filter_le _ _) ?_;rw[length_zip];omega
def Oh(r:In):Ag:=(r.zipIdx.filter λp=>!p.1).map λp=>(p.2:Int)
def Wo(r:In):Ag:=(r.zipIdx.filter λp=>p.1).map λp=>(p.2:Int)
theorem Am5(h:r[j]?=some b):(r.take (j+1)).zipIdx=(r.take j).zipIdx++[(b,j)]:=by have:=Dz h;rw[C4 h,zipIdx_append];simp;omega
theorem A71(g:Szv Δ)(i:Pj Δ)(t:Ak)(w:B3 t<=200)(c:Int)(f:Og Δ t c=some l):Add Δ t c=some (Oh (Jf Δ t.U c),Wo (Jf Δ t.U c),true):=by unfold Add;have k:=Am4 f;obtain⟨x,y,_,A,_,B,s,_⟩:=Adz f;obtain⟨h,_⟩:=g x (Ik A).2.2.2 y (Ik B).2.2.2;(have q:l.length<=6:=by rw[s];simpa using h);rw[Auz g t w c,f,Aa];simp only[okL,Dj,Ai,A6w Δ t.U c i,Aa];generalize Jf Δ t.U c=r at *;refine Ij r (λj=>((j:Int),Oh (r.take j),Wo (r.take j))) (by simp[Oh,Wo]) ω ?_ ?_;intro j b G C v D F;have z:(Oh (r.take j)).length<=6:=(by unfold Oh;rw[Ki];refine Nat.le_trans (length_filter_le _ _) ?_;simp;omega);have u:(Wo (r.take j)).length<=6:=(by unfold Wo;rw[Ki];refine Nat.le_trans (length_filter_le _ _) ?_;simp;omega);simp only[v,D,F,Aj,Aa];rw[Dd ζ,Dd ζ];unfold Oh Wo;rw[Am5 C];cases b<;>simp;intro v;exact⟨(Oh r,Wo r),ψ,rfl⟩
theorem A72(h:r.length=l.length):∀(j:Nat)(a:Int),(Oh r)[j]?=some a->∃x,Ae l a=some x/\(Jg l r)[j]?=some x:=by intro j a g;(have e:Jg l r=(r.zipIdx.filter λp=>!p.1).map λp=>(l[p.2]?).getD ⟨0,0,[]⟩:=by unfold Jg;have q:∀n,n<=r.length->(((l.take n).zip (r.take n)).filter λp=>!p.2).map (·.1)=((r.take n).zipIdx.filter λp=>!p.1).map λp=>(l[p.2]?).getD ⟨0,0,[]⟩:=(by intro n;induction n with|zero=>intro _;simp|succ n ih=>intro B;have u:l[n]?=some l[n]:=Bk ω;have v:r[n]?=some r[n]:=Bk ω;have:=Au0 u v;unfold Jg at this;rw[this,ih ω,Am5 v];cases r[n]<;>simp[u]);have:=q r.length (Nat.le_refl _);rw[J7 ω,J7 (Nat.le_refl _)]at this;exact this);unfold Oh at g;rw[getElem?_map]at g;cases hp:(r.zipIdx.filter λp=>!p.1)[j]? with|none=>rw[hp]at g;cases g|some p=>rw[hp]at g;cases g;have w:=B2 hp;rw[mem_filter]at w;have b:r[p.2]?=some p.1:=mk_mem_zipIdx_iff_getElem?.1 w.1;have c:=Dz b;have A:l[p.2]?=some l[p.2]:=Bk ω;refine⟨l[p.2],Bu rfl A,?_⟩;rw[e,getElem?_map,hp];simp[A]
theorem A73(h:r.length=l.length):(Oh r).length=(Jg l r).length:=by unfold Oh Jg;simp only[Ki];(have g:∀n,n<=r.length->(((l.take n).zip (r.take n)).filter λp=>!p.2).length=((r.take n).zipIdx.filter λp=>!p.1).length:=by intro n;induction n with|zero=>intro _;simp|succ n ih=>intro v;have u:l[n]?=some l[n]:=Bk ω;have q:r[n]?=some r[n]:=Bk ω;rw[Am5 q,C4 u,C4 q,zip_append ζ,filter_append,E5,ih ω,filter_append,E5];cases r[n]<;>simp);have:=g r.length (Nat.le_refl _);rw[J7 ω,J7 (Nat.le_refl _)]at this;exact this.symm
theorem Ahs(g:Szv Δ)(k:Pj Δ)(t:Ak)(w:B3 t<=200)(c:Int):Zd Δ t c=some (okL (I4 Δ t c)):=by unfold Zd I4;rw[Auz g t w c,Aa];cases h:Og Δ t c with|none=>rfl|some l=>have f:=Am4 h;obtain⟨x,y,_,A,_,B,u,_⟩:=Adz h;obtain⟨i,_⟩:=g x (Ik A).2.2.2 y (Ik B).2.2.2;have s:l.length<=6:=(by rw[u];simpa using i);simp only[okL,Dj,Ai,A71 g k t w c h,Aa,Option.map_some];generalize Jf Δ t.U c=r at *;have q:=A73 f;have z:=Au1 l r;refine Ij (Oh r) (λj=>((j:Int),(Jg l r).take j)) ψ ω ?_ ?_;intro j b I C v D F;obtain⟨a,G,H⟩:=A72 f j b C;simp only[v,D,F,Aj,Aa,G];rw[Dd ζ,Aa,C4 H];intro v;refine⟨Jg l r,?_,rfl⟩;simp only[v];rw[J7 ω];rfl
theorem Au2{c:Int}(h:I4 Δ t c=some l):(∀a∈l,B3 a<=200)/\∃x,Ae Δ t.U=some x/\0<=c/\c<x.O.length:=by unfold I4 at h;cases b:Og Δ t c with|none=>rw[b]at h;cases h|some m=>rw[b]at h;cases h;obtain⟨x,y,_,v,_,q,_,g⟩:=Adz b;refine⟨λa u=>?_,x,v,(Ik q).1,(Ik q).2.1⟩;unfold Jg at u;obtain⟨p,f,rfl⟩:=mem_map.1 u;exact g _ (of_mem_zip (mem_filter.1 f).1).1
mutual
def C5:A3->Nat
 |⟨_,l⟩=>1+Ey l
def Ey:List A3->Nat
 |[]=>0
 |x::xs=>C5 x+Ey xs
end
theorem Gr(t:A3):C5 t=1+Ey t.K:=by cases t;simp only[C5]
theorem Ns{l:Bo}{a:A3}(h:a∈l):C5 a<=Ey l:=by induction l with|nil=>cases h|cons x xs ih=>simp only[Ey];rcases Ef.1 h with rfl|h;omega;have:=ih h;omega
theorem Oi(l:Bo):l.length<=Ey l:=by induction l with|nil=>simp|cons x xs ih=>simp only[Ey,Fg];have:=Gr x;omega
mutual
def Ej(Δ:List A5):A3->Ak->Option Nat
 |⟨n,g⟩,t=>
  if t.G=6 then(if n=0 then D0 Δ g t.R else none)
  else if t.G=7 then(if 0<=n/\n<=6/\g.length=0 then some n.toNat else none)
  else if t.G=5 then(if n=0 then I5 Δ g t else none)
  else if n=0/\g.length=0 then some 0 else none
def D0(Δ:List A5):List A3->List Ak->Option Nat
 |[],[]=>some 0
 |i::is,t::ts=>(Ej Δ i t).bind λa=>(D0 Δ is ts).map (a + ·)
 |[],_::_=>none
 |_::_,[]=>none
def I5(Δ:List A5):List A3->Ak->Option Nat
 |[],_=>some 0
 |⟨n,g⟩::h,t=>(I4 Δ t n).bind λts=>(D0 Δ g ts).bind λa=>(I5 Δ h t).map (1+a + ·)
end
theorem Oj(Δ:A0)(i:A3)(t:Ak):Ej Δ i t=if t.G=6 then(if i.U=0 then D0 Δ i.K t.R else none)else if t.G=7 then(if 0<=i.U/\i.U<=6/\i.K.length=0 then some i.U.toNat else none)else if t.G=5 then(if i.U=0 then I5 Δ i.K t else none)else if i.U=0/\i.K.length=0 then some 0 else none:=by cases i;simp only[Ej]
theorem Ad0(Δ:A0)(e:A3)(es:Bo)(t:Ak):I5 Δ (e::es) t=(I4 Δ t e.U).bind λts=>(D0 Δ e.K ts).bind λa=>(I5 Δ es t).map (1+a + ·):=by cases e;simp only[I5]
theorem Rw(Δ:A0)(i:A3)(is:Bo)(t:Ak)(ts:A1):D0 Δ (i::is) (t::ts)=(Ej Δ i t).bind λa=>(D0 Δ is ts).map (a + ·):=by simp only[D0]
theorem Am6(Δ:A0):∀(is:Bo)(ts:A1),ts.length≠is.length->D0 Δ is ts=none
 |[],[],h=>absurd rfl h
 |i::is,t::ts,h=>by rw[Rw,Am6 Δ is ts (by simpa using h)];cases Ej Δ i t<;>rfl
 |[],_::_,_=>by simp only[D0]
 |_::_,[],_=>by simp only[D0]
theorem Au3(Δ:A0):∀(es:Bo)(t:Ak)(d:Nat),I5 Δ es t=some d->es.length<=d
 |[],_,_,_=>ψ
 |e::es,t,d,h=>by rw[Ad0]at h;cases q:I4 Δ t e.U with|none=>rw[q]at h;cases h|some ts=>rw[q,Aa]at h;cases u:D0 Δ e.K ts with|none=>rw[u]at h;cases h|some a=>rw[u,Aa]at h;cases g:I5 Δ es t with|none=>rw[g]at h;cases h|some b=>rw[g]at h;cases h;have:=Au3 Δ es t b g;simp only[Fg];omega
def Hu(o:Cq):Int:=match o with|some d=>if d<=6 then(d:Int)else -1|none => -1
theorem Am7{d:Nat}(h:d<=6):Hu (some d)=d:=by simp[Hu,h]
theorem Am8{d:Nat}(h:6<d):Hu (some d) = -1:=by simp only[Hu];rw[Au ω]
theorem Aht(o:Cq):(Hu o = -1/\∀d,o=some d->6<d)\/∃d,o=some d/\d<=6/\Hu o=d:=by cases o with|none=>exact .inl ⟨rfl,λd h=>by cases h⟩|some d=>rcases Cf 6 d with h|h;exact .inl ⟨Am8 h,λe g=>by cases g;exact h⟩;exact .inr ⟨d,rfl,h,Am7 h⟩
theorem Zz{o:Cq}(h:∀d,o=some d->6<d):Hu o = -1:=by cases o with|none=>rfl|some d=>exact Am8 (h d rfl)
theorem Kb{α:Type}{l:Λ α}{j:Nat}{x:α}(h:l[j]?=some x):l.drop j=x::l.drop (j+1):=by have g:=Dz h;rw[drop_eq_getElem_cons g];rw[Bk g]at h;rw[Fx h]
end Go.Ab
