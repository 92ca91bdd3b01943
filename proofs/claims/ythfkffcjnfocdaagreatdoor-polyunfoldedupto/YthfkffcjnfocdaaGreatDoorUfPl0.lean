/- Plain laws. -/
import Derived.Test.YthfkffcjnfocdaaGreatDoorUfDef
import Derived.Lib.ItoaLen
open List
namespace Go.Ab
open Go
variable{i:Nat}{E R S:Type}{α:Type _}{J:E->Ο R}{l s t:Λ α}{X:Ο (S⊕E)}{a b e:α}
theorem Ae{α β:Type}(a:α)(f:α->Ο β):(some a).bind f=f a:=rfl
theorem Bl{α:Type}{l:Λ α}(h:i<l.length):l[i]?=some l[i]:=getElem?_eq_getElem h
theorem Bu{α:Type}{l:Λ α}{a:α}(h:l[i]?=some a):a∈l:=mem_of_getElem? h
theorem C5(a b:Bool):((a&&b)=true)=(a=true/\b=true):=Bool.and_eq_true a b
theorem bnt:(!true)=false:=rfl
theorem Al(a b:α):(bif true then a else b)=a:=rfl
theorem An(a b:α):(bif false then a else b)=b:=rfl
theorem D2{p:Prop}[Decidable p]:(decide p=true)=p:=decide_eq_true_eq
theorem Ao{c:Prop}{h:Decidable c}(g:¬c){t:α}:(if c then t else e)=e:=if_neg g
theorem Aq{c:Prop}{h:Decidable c}(g:c){t:α}:(if c then t else e)=t:=if_pos g
theorem Co(a b:Nat):a<b\/a>=b:=Nat.lt_or_ge a b
theorem C6:l.take l.length=l:=take_length
theorem H8(h:l.length<=i):l.take i=l:=take_of_length_le h
theorem Hb:l.length=0↔l=[]:=length_eq_zero_iff
theorem Hw(h:a∈l):∃i:Nat,l[i]?=some a:=getElem?_of_mem h
theorem Hx{p:α->Bool}:l.all p=true↔∀x,x∈l->p x=true:=all_eq_true
theorem E9:a∈s++t↔a∈s\/a∈t:=mem_append
theorem Cp{β:Type _}(f:α->β):(l.map f).length=l.length:=length_map f
theorem Fv(h:some a=some b):a=b:=Option.some.inj h
theorem Ej:a::s++t=a::(s++t):=rfl
theorem Ee:a∈[b]↔a=b:=mem_singleton
theorem F0:a∈b::l↔a=b\/a∈l:=mem_cons
theorem D3:(a::l).length=l.length+1:=rfl
theorem D6:(s++t).length=s.length+t.length:=length_append
theorem Mu(h:l.length<=i):l[i]?=none:=getElem?_eq_none h
theorem Oy{step:S->Ο (S⊕E)}{s:S}{r:R}(c:S->Prop)(m:S->Nat)(b:E->Prop)(h0:c s)(f:∀s,c s->(∃h,step s=some (.inl h)/\c h/\m h < m s)\/(∃e,step s=some (.inr e)/\b e))(g:∀e,b e->J e=some r):(Ak step s).bind J=some r:=by obtain⟨e,q,u⟩:=J6 c m b f s h0;rw[q];exact g e u
theorem Fo{step:S->Ο (S⊕E)}{s:S}{Q:R->Prop}(c:S->Prop)(m:S->Nat)(b:E->Prop)(h0:c s)(f:∀s,c s->(∃h,step s=some (.inl h)/\c h/\m h < m s)\/(∃e,step s=some (.inr e)/\b e))(g:∀e,b e->∃r,J e=some r/\Q r):∃r,(Ak step s).bind J=some r/\Q r:=by obtain⟨e,q,u⟩:=J6 c m b f s h0;rw[q];exact g e u
theorem Aic{Q:S->Prop}(h:∃r,X=some r/\∃g,r=.inl g/\Q g):∃g,X=some (.inl g)/\Q g:=by obtain⟨r,q,g,rfl,u⟩:=h;exact⟨g,q,u⟩
theorem A9k{Q:E->Prop}(h:∃r,X=some r/\∃e,r=.inr e/\Q e):∃e,X=some (.inr e)/\Q e:=by obtain⟨r,g,q,rfl,u⟩:=h;exact⟨q,g,u⟩
theorem Add{A:Type}{X:Ο R}(f:A->R){Q:A->Prop}(h:∃r,X=some r/\∃a,r=f a/\Q a):∃a,X=some (f a)/\Q a:=by obtain⟨r,g,a,rfl,q⟩:=h;exact⟨a,g,q⟩
variable{a b i:Int}{n:Nat}{p:Prop}{α:Type}{l:Λ α}
theorem A9l{β:Type}{c:Prop}[Decidable c](a b:Ο α)(f:α->Ο β):(if c then a else b).bind f=if c then a.bind f else b.bind f:=by split<;>rfl
theorem Ct{n:Int}(g : -9223372036854775808<=n)(h:n<=9223372036854775807):IntKind.i64.wrap n=n:=by(have e:IntKind.i64.wrap n=if 9223372036854775808<=n%18446744073709551616 then n%18446744073709551616-18446744073709551616 else n%18446744073709551616:=by simp[IntKind.wrap,IntKind.bits,IntKind.signed]);rw[e];split<;>omega
theorem Gu{n:Int}(g:0<=n)(h:n<=18446744073709551615):IntKind.u64.wrap n=n:=by(have e:IntKind.u64.wrap n=n%18446744073709551616:=by simp[IntKind.wrap,IntKind.bits,IntKind.signed]);rw[e];omega
theorem Kp{n:Int}(g:0<=n)(h:n<=4294967295):IntKind.u32.wrap n=n:=by(have e:IntKind.u32.wrap n=n%4294967296:=by simp[IntKind.wrap,IntKind.bits,IntKind.signed]);rw[e];omega
theorem Iv(g:i=n)(h:n<l.length):Ah l i=some l[n]:=by subst g;simp[Ah,h]
theorem Br{x:α}(g:i=n)(h:l[n]?=some x):Ah l i=some x:=by subst g;simp[Ah,h]
theorem Ade(h:i<0\/(l.length:Int)<=i):Ah l i=none:=by unfold Ah;split;rw[Mu];omega;rfl
theorem Ii(g:i=n)(x:α):Cn l i x=l.set n x:=by subst g;simp[Cn]
theorem D7{b:Nat}{xs ys:Λ α}(h:(xs.length+ys.length)*b<=140737488355328):Bw b xs ys=some (xs++ys):=by simp[Bw,h]
theorem Nm{b:Nat}{len f:Int}{z:α}{c:Nat}(h:len=n)(q:f=c)(A:n<=c)(u:b*c<=281474976710656)(g:c<=140737488355328):G1 b len f z=some (replicate n z):=by subst h;subst q;have B:(0:Int)<=(n:Int):=ω;have v:(n:Int)<=(c:Int):=ω;have w:(c:Int)<=140737488355328:=ω;simp[G1,v,w,u]
theorem Anr{b:Nat}{f:Int}{z:α}{c:Nat}(h:f=c)(q:b*c<=281474976710656)(g:c<=140737488355328):G1 b 0 f z=some []:=by exact Nm (len:=0) (n:=0) (c:=c) rfl h ω q g
theorem Da(h:a≠b):(a==b)=false:=by simpa using h
theorem Fa(h:a=b):(a==b)=true:=by simpa using h
theorem Ga(h:a≠b):(a != b)=true:=by simpa using h
theorem Gx(h:a=b):(a != b)=false:=by simpa using h
theorem Av[Decidable p](h:p):decide p=true:=decide_eq_true h
theorem A6[Decidable p](h:¬p):decide p=false:=decide_eq_false h
theorem W2{g:Int}(h:g=n)(b:n<=l.length):En l 0 g=some (l.take n):=by subst h;have:(n:Int)<=(l.length:Int):=ω;simp[En,this]
theorem Re(g:0<=a)(hb:0<b):Jv a b=some (a%b):=by have:b≠0:=ω;simp[Jv,this,Int.tmod_eq_emod_of_nonneg g]
theorem Si(g:0<=a)(c:a<=18446744073709551615)(hb:0<b):I5 .u64 a b=some (a/b):=by have:b≠0:=ω;have h:0<=a/b:=Int.ediv_nonneg g ω;have q:a/b<=a:=Int.ediv_le_self _ g;simp[I5,this,Int.tdiv_eq_ediv_of_nonneg g];exact Gu h ω
theorem Av5(g:0<=a)(c:a<=4294967295)(hb:0<b):I5 .u32 a b=some (a/b):=by have:b≠0:=ω;have h:0<=a/b:=Int.ediv_nonneg g ω;have q:a/b<=a:=Int.ediv_le_self _ g;simp[I5,this,Int.tdiv_eq_ediv_of_nonneg g];exact Kp h ω
def Ax:Aa->Int
 |[]=>0
 |d::l=>d+1000000000*Ax l
def C8(l:Aa):Prop:=∀d∈l,0<=d/\d<1000000000
def Sj(l:Aa):Prop:=∀d∈l,0<=d/\d<4294967296
def Can(l:Aa):Prop:=C8 l/\∀h:l≠[],l.getLast h≠0
def Am(n:Nat):Aa:=if h:n=0 then[]else((n%1000000000:Nat):Int)::Am (n/1000000000)
termination_by n
decreasing_by exact Nat.div_lt_self ω δ
theorem Ka:Am 0=[]:=by rw[Am];simp
theorem Rf(h:n≠0):Am n=((n%1000000000:Nat):Int)::Am (n/1000000000):=by rw[Am];simp[h]
theorem C8.nil:C8 []:=λ_ h=>by cases h
theorem C8.append{l m:Aa}(h:C8 l)(h':C8 m):C8 (l++m):=by intro d hd;rcases E9.1 hd with hd|hd;exact h d hd;exact h' d hd
variable{d:Int}{l:Aa}{i n:Nat}
theorem C8.one(h:0<=d)(h':d<1000000000):C8 [d]:=by intro x hx;simp at hx;subst hx;exact⟨h,h'⟩
theorem C8.snoc(h:C8 l)(hd:0<=d)(b:d<1000000000):C8 (l++[d]):=h.append (C8.one hd b)
theorem C8.take(h:C8 l)(k:Nat):C8 (l.take k):=λd hd=>h d (mem_of_mem_take hd)
theorem C8.drop(h:C8 l)(k:Nat):C8 (l.drop k):=λd hd=>h d (mem_of_mem_drop hd)
theorem C8.get(h:C8 l)(hi:i<l.length):0<=l[i]/\l[i]<1000000000:=h _ (getElem_mem hi)
theorem C8.set(h:C8 l)(i:Nat)(hd:0<=d)(b:d<1000000000):C8 (l.set i d):=by intro x hx;rcases mem_or_eq_of_mem_set hx with hx|rfl;exact h x hx;exact⟨hd,b⟩
theorem C8.replicate(n:Nat):C8 (replicate n 0):=by intro d hd;have:=eq_of_mem_replicate hd;subst this;decide
theorem C8.tail(h:C8 (d::l)):C8 l:=λx hx=>h x (by simp[hx])
theorem C8.u32(h:C8 l):Sj l:=λd hd=>by have:=h d hd;omega
theorem Av6(l m:Aa):Ax (l++m)=Ax l+1000000000^l.length*Ax m:=by induction l with|nil=>simp[Ax]|cons d l ih=>simp only[Ej,Ax,ih,D3,Int.pow_succ];grind
theorem Sk(l:Aa)(d:Int):Ax (l++[d])=Ax l+1000000000^l.length*d:=by rw[Av6];simp[Ax]
theorem Jy(l:Aa){k:Nat}(h:k<l.length):Ax (l.take (k+1))=Ax (l.take k)+1000000000^k*l[k]:=by rw[take_succ_eq_append_getElem h,Sk];simp[Nat.min_eq_left (Nat.le_of_lt h)]
theorem Av7(n:Nat):Ax (replicate n 0)=0:=by induction n with|zero=>rfl|succ n ih=>simp[replicate_succ,Ax,ih]
theorem Rg(l:Aa)(k:Nat)(h:k<=l.length):Ax l=Ax (l.take k)+1000000000^k*Ax (l.drop k):=by have e:=Av6 (l.take k) (l.drop k);rw[take_append_drop]at e;rw[e,length_take,Nat.min_eq_left h]
theorem Up(l:Aa)(h:i<l.length)(d:Int):Ax (l.set i d)=Ax l+1000000000^i*(d-l[i]):=by induction l generalizing i with|nil=>simp at h|cons x l ih=>cases i with|zero=>simp[Ax];omega|succ i=>have g:i<l.length:=(by simpa using h);simp only[set_cons_succ,Ax,ih g,getElem_cons_succ,Int.pow_succ];grind
theorem Jz(h:Sj l):0<=Ax l:=by induction l with|nil=>simp[Ax]|cons d l ih=>have q:=h d ψ;have u:=ih λx g=>h x (by simp[g]);simp only[Ax];omega
theorem Nn(n:Nat):(0:Int)<1000000000^n:=Int.pow_pos δ
theorem M4(h:C8 l):Ax l<1000000000^l.length:=by induction l with|nil=>simp[Ax]|cons d l ih=>have g:=h d ψ;have q:=ih h.tail;simp only[Ax,D3,Int.pow_succ];omega
theorem Ji(n:Nat):Ax (Am n)=n:=by induction n using Nat.strongRecOn with|_ n ih=>by_cases h:n=0;subst h;rw[Ka];rfl;rw[Rf h,Ax,ih (n/1000000000) (Nat.div_lt_self ω δ)];omega
theorem Jj(n:Nat):C8 (Am n):=by induction n using Nat.strongRecOn with|_ n ih=>by_cases h:n=0;subst h;rw[Ka];exact C8.nil;rw[Rf h];intro d g;simp at g;rcases g with rfl|g;omega;exact ih (n/1000000000) (Nat.div_lt_self ω δ) d g
theorem No(h:n≠0):Am n≠[]:=by rw[Rf h];simp
theorem A9m(n:Nat):Can (Am n):=by refine⟨Jj n,?_⟩;induction n using Nat.strongRecOn with|_ n ih=>intro b;have h:n≠0:=λe=>b (by rw[e];exact Ka);have q:=Rf h;by_cases g:n/1000000000=0;have c:Am n=[((n%1000000000:Nat):Int)]:=(by rw[q,g,Ka]);simp only[c,getLast_singleton];omega;have:=ih (n/1000000000) (Nat.div_lt_self ω δ) (No g);simp only[q];rwa [getLast_cons (No g)]
theorem A9n(h:Can l):Am (Ax l).toNat=l:=by induction l with|nil=>exact Ka|cons d l ih=>obtain⟨q,u⟩:=h;have w:=q d ψ;have f:Can l:=(by refine⟨q.tail,λb=>?_⟩;have:=u ψ;rwa [getLast_cons b]at this);have v:=Jz (q.tail).u32;have b:(Ax (d::l)).toNat≠0:=(by intro e;simp only[Ax]at e;have c:d=0:=ω;have v:Ax l=0:=ω;have:l=[]:=(by rw[<-ih f,v];exact Ka);subst this;exact u ψ (by simpa using c));rw[Rf b];simp only[Ax];have i:((d+1000000000*Ax l).toNat%1000000000:Nat)=d.toNat:=ω;have g:(d+1000000000*Ax l).toNat/1000000000=(Ax l).toNat:=ω;rw[i,g,ih f];congr 1;omega
theorem Ans(h:Can l)(g:Ax l=n):l=Am n:=by rw[<-A9n h,g];rfl
def Lt:Aa->Aa
 |[]=>[]
 |d::l=>match Lt l with|[]=>if d=0 then[]else[d]|x::m=>d::x::m
theorem A9o(l:Aa):Lt (l++[0])=Lt l:=by induction l with|nil=>rfl|cons d l ih=>simp only[Ej,Lt,ih]
theorem A9p(h:d≠0):Lt (l++[d])=l++[d]:=by induction l with|nil=>simp[Lt,h]|cons x l ih=>simp only[Ej,Lt,ih];cases l with|nil=>rfl|cons y l=>rfl
theorem A9q(h:C8 l):Can (Lt l)/\Ax (Lt l)=Ax l:=by induction l with|nil=>exact⟨⟨C8.nil,λh=>(h rfl).elim⟩,rfl⟩|cons d l ih=>obtain⟨⟨v,w⟩,g⟩:=ih h.tail;have q:=h d ψ;simp only[Lt];cases A:Lt l with|nil=>rw[A]at g;simp only[Ax]at g;simp only[];by_cases b:d=0;rw[Aq b];refine⟨⟨C8.nil,λh=>(h rfl).elim⟩,?_⟩;simp only[Ax];rw[<-g];omega;rw[Ao b];refine⟨⟨C8.one q.1 q.2,λ_=>by simpa using b⟩,?_⟩;simp only[Ax];rw[<-g]|cons x m=>rw[A]at v w g;simp only[];refine⟨⟨?_,λ_=>?_⟩,?_⟩;intro y u;rcases F0.1 u with rfl|u;exact q;exact v y u;rw[getLast_cons ψ];exact w ψ;simp only[Ax]at g⊢;rw[g]
theorem W3(h:C8 l)(g:Ax l=n):Lt l=Am n:=by obtain⟨q,u⟩:=A9q h;exact Ans q (u.trans g)
def Cq(n:Nat):Nat:=(Am n).length
variable{j k m n:Nat}{E R S α:Type}{J:E->Ο R}{l:Λ α}{r rf rt:R}{s0:S}{x:α}{p:α×Nat->Bool}
theorem Zg:Cq 0=0:=by simp[Cq,Ka]
theorem Rh(n:Nat):n<1000000000^Cq n:=by have:=M4 (Jj n);rw[Ji]at this;have e:((1000000000^Cq n:Nat):Int)=1000000000^Cq n:=ψ;unfold Cq at *;omega
theorem Lu(h:n<1000000000^k):Cq n<=k:=by induction k generalizing n with|zero=>simp at h;subst h;simp[Zg]|succ k ih=>by_cases g:n=0;subst g;simp[Zg];unfold Cq;rw[Rf g,D3];have:n/1000000000<1000000000^k:=(by rw[Nat.div_lt_iff_lt_mul δ];rwa [Nat.pow_succ]at h);have:=ih this;unfold Cq at this;omega
theorem Nq(h:m<=n):Cq m<=Cq n:=Lu (Nat.lt_of_le_of_lt h (Rh n))
theorem Av8(h:k<Cq n):1000000000^k<=n:=by rcases Co n (1000000000^k)with g|g;have:=Lu g;omega;exact g
theorem Aid(m n:Nat):Cq (m+n)<=max (Cq m) (Cq n)+1:=by apply Lu;have g:=Rh m;have h:=Rh n;have q:1000000000^Cq m<=1000000000^max (Cq m) (Cq n):=Nat.pow_le_pow_right δ (Nat.le_max_left _ _);have u:1000000000^Cq n<=1000000000^max (Cq m) (Cq n):=Nat.pow_le_pow_right δ (Nat.le_max_right _ _);rw[Nat.pow_succ];omega
theorem Kq(m n:Nat):Cq (m*n)<=Cq m+Cq n:=by apply Lu;rw[Nat.pow_add];exact Nat.mul_lt_mul_of_lt_of_le (Rh m) (Nat.le_of_lt (Rh n)) (Nat.pow_pos δ)
theorem Av9(m n:Nat):Cq (m/n)<=Cq m:=Nq (Nat.div_le_self _ _)
theorem Awa(h:Cq m<Cq n):m<n:=Nat.lt_of_lt_of_le (Rh m) (Av8 h)
theorem Awb{l m:Aa}(f:C8 l)(q:k<l.length)(b:k<m.length)(u:C8 m)(v:l.drop (k+1)=m.drop (k+1))(c:l[k]<m[k]):Ax l<Ax m:=by have i:=Rg l (k+1) q;have h:=Rg m (k+1) b;rw[Jy l q]at i;rw[Jy m b,<-v]at h;have w:=M4 (f.take k);have A:=Jz ((u.take k).u32);rw[length_take,Nat.min_eq_left (Nat.le_of_lt q)]at w;have g:1000000000^k*(l[k]+1)<=1000000000^k*m[k]:=Int.mul_le_mul_of_nonneg_left c (Int.le_of_lt (Nn k));rw[Int.mul_add]at g;omega
theorem Lv{step:S->Ο (S⊕E)}(n:Nat)(b:Nat->S)(h0:s0=b 0)(c:∀j,j<n->step (b j)=some (.inl (b (j+1))))(f:∃e,step (b n)=some (.inr e)/\J e=some r):(Ak step s0).bind J=some r:=by(have g:∀m,m<=n->Ak step (b 0)=Ak step (b m):=by intro m;induction m with|zero=>intro _;rfl|succ m ih=>intro h;rw[ih ω,Mo (c m ω)]);obtain⟨e,q,u⟩:=f;rw[h0,g n (Nat.le_refl _),G0 q];exact u
theorem Db(h:j<n)(b:n<4611686018427387904):Ac ((j:Int)+1)=((j+1:Nat):Int):=by rw[Ac,Ct]<;>omega
theorem Awc(h:l.zipIdx.all p=false):∃j x,l[j]?=some x/\p (x,j)=false/\∀i y,i<j->l[i]?=some y->p (y,i)=true:=by(have q:∀(n:Nat),(∀i y,i<n->l[i]?=some y->p (y,i)=true)\/∃j x,j<n/\l[j]?=some x/\p (x,j)=false/\∀i y,i<j->l[i]?=some y->p (y,i)=true:=by intro n;induction n with|zero=>exact .inl (λi y h=>ω)|succ n ih=>rcases ih with ih|⟨j,x,C,u,v,w⟩;(cases A:l[n]? with|none=>exact .inl (λi y B g=>by rcases Co i n with h|h;exact ih i y h g;have:i=n:=ω;subst this;rw[A]at g;cases g)|some x=>cases hp:p (x,n)with|true=>exact .inl (λi y B g=>by rcases Co i n with h|h;exact ih i y h g;have:i=n:=ω;subst this;rw[A]at g;cases g;exact hp)|false=>exact .inr ⟨n,x,ω,A,hp,ih⟩);exact .inr ⟨j,x,ω,u,v,w⟩);rcases q l.length with F|⟨j,x,C,u,v,w⟩;exfalso;(have:l.zipIdx.all p=true:=by rw[Hx];rintro⟨y,i⟩ g;have:=mk_mem_zipIdx_iff_getElem?.1 g;(have B:i<l.length:=by rcases Co i l.length with h|h;exact h;rw[Mu h]at this;cases this);exact F i y B this);rw[this]at h;cases h;exact⟨j,x,u,v,w⟩
theorem Kb(h:l.zipIdx.all p=true)(g:l[j]?=some x):p (x,j)=true:=Hx.1 h _ (mk_mem_zipIdx_iff_getElem?.2 g)
theorem Ant(h:∀j x,l[j]?=some x->p (x,j)=true):l.zipIdx.all p=true:=by rw[Hx];rintro⟨y,i⟩ g;exact h i y (mk_mem_zipIdx_iff_getElem?.1 g)
theorem Adf{step:S->Ο (S⊕E)}(l:Λ α)(p:α×Nat->Bool)(b:Nat->S)(h0:s0=b 0)(g:l.length<4611686018427387904)(f:∀(j:Nat)(x:α),l[j]?=some x->(∀i y,i<j->l[i]?=some y->p (y,i)=true)->decide ((j:Int)<(l.length:Int))=true->Ah l (j:Int)=some x->Ac ((j:Int)+1)=((j+1:Nat):Int)->(p (x,j)=true->step (b j)=some (.inl (b (j+1))))/\(p (x,j)=false->∃e,step (b j)=some (.inr e)/\J e=some rf))(q:decide ((l.length:Int)<(l.length:Int))=false->l.zipIdx.all p=true->∃e,step (b l.length)=some (.inr e)/\J e=some rt):(Ak step s0).bind J=some (bif l.zipIdx.all p then rt else rf):=by
 have c:∀(j:Nat)(x:α),l[j]?=some x->(∀i y,i<j->l[i]?=some y->p (y,i)=true)->_:=λj x u v=>
  have w:j<l.length:=by
   rcases Co j l.length with h|h
   .exact h
   .rw[Mu h]at u;cases u
  f j x u v (Av ω) (Br rfl u) (Db w g)
 cases A:l.zipIdx.all p with|true=>refine Lv l.length b h0 (λj w=>?_) (q ψ A);have u:l[j]?=some l[j]:=Bl w;exact(c j _ u λi y _ v=>Kb A v).1 (Kb A u)|false=>obtain⟨j,x,B,F,C⟩:=Awc A;refine Lv j b h0 (λi G=>?_) ((c j x B C).2 F);(have w:j<l.length:=by rcases Co j l.length with h|h;exact h;rw[Mu h]at B;cases B);have u:l[i]?=some l[i]:=Bl ω;exact(c i _ u λk y H v=>C k y ω v).1 (C i _ G u)
theorem Aie(l:Λ α)(p:α->Bool):l.zipIdx.all (λq=>p q.1)=l.all p:=by cases h:l.all p with|true=>exact Ant λj x g=>Hx.1 h _ (Bu g)|false=>cases u:l.zipIdx.all (λq=>p q.1)with|false=>rfl|true=>rw[<-h];symm;rw[Hx];intro x g;obtain⟨j,v⟩:=Hw g;exact Kb u v
theorem Adg{step:S->Ο (S⊕E)}(l:Λ α)(p:α->Bool)(b:Nat->S)(h0:s0=b 0)(f:l.length<4611686018427387904)(c:∀(j:Nat)(x:α),l[j]?=some x->decide ((j:Int)<(l.length:Int))=true->Ah l (j:Int)=some x->Ac ((j:Int)+1)=((j+1:Nat):Int)->(p x=true->step (b j)=some (.inl (b (j+1))))/\(p x=false->∃e,step (b j)=some (.inr e)/\J e=some rf))(g:decide ((l.length:Int)<(l.length:Int))=false->∃e,step (b l.length)=some (.inr e)/\J e=some rt):(Ak step s0).bind J=some (bif l.all p then rt else rf):=by rw[<-Aie l p];exact Adf l (λq=>p q.1) b h0 f (λj x u _=>c j x u) (λh _=>g h)
theorem Gj{step:S->Ο (S⊕E)}(l:Λ α)(b:Nat->S)(h0:s0=b 0)(f:l.length<4611686018427387904)(c:∀(j:Nat)(x:α),j<l.length->l[j]?=some x->decide ((j:Int)<(l.length:Int))=true->Ah l (j:Int)=some x->Ac ((j:Int)+1)=((j+1:Nat):Int)->step (b j)=some (.inl (b (j+1))))(g:decide ((l.length:Int)<(l.length:Int))=false->∃e,step (b l.length)=some (.inr e)/\J e=some r):(Ak step s0).bind J=some r:=by refine Lv l.length b h0 (λj h=>?_) (g ψ);have q:l[j]?=some l[j]:=Bl h;exact c j _ h q (Av ω) (Br rfl q) (Db h f)
theorem Cu(h:l[j]?=some x):l.take (j+1)=l.take j++[x]:=by rw[take_add_one,h];rfl
theorem Ek(h:l[j]?=some x):j<l.length:=by rcases Co j l.length with g|g;exact g;rw[Mu g]at h;cases h
theorem Aif(b:Bool):(bif b then true else false)=b:=by cases b<;>rfl
theorem A9r(b:Bool):(bif b then false else true) = !b:=by cases b<;>rfl
theorem Awd{A:Type}{X:Ο A}{f:A->Ο R}{y:R}{Q:A->Prop}(h:∃r,X=some r/\Q r)(g:∀r,Q r->f r=some y):X.bind f=some y:=by obtain⟨r,q,u⟩:=h;rw[q];exact g r u
theorem Anu(l:Λ α)(p:α->Bool){step:Int->Ο (Int⊕(Int⊕Unit))}{J:Int⊕Unit->Bg}(k:l.length<4611686018427387904)(g:∀(j:Nat)(x:α),x∈l->decide ((j:Int)<(l.length:Int))=true->Ah l (j:Int)=some x->Ac ((j:Int)+1)=((j+1:Nat):Int)->step (j:Int)=bif p x then some (.inr (.inl (j:Int)))else some (.inl ((j+1:Nat):Int)))(q:decide ((l.length:Int)<(l.length:Int))=false->step (l.length:Int)=some (.inr (.inr ())))(c:∀i,J (.inl i)=some i)(b:J (.inr ())=some (-1)):∃i,(Ak step 0).bind J=some i/\decide (i>=0)=l.any p:=by(have u:(Ak step 0).bind (λz=>(J z).bind λi=>some (decide (i>=0)))=some (bif l.all (λx=>!p x)then false else true):=by refine Adg l (λx=>!p x) (λj=>(j:Int)) rfl k (λj x w A B C=>?_) λh=>⟨.inr (),q h,by rw[b];rfl⟩;have h:=g j x (Bu w) A B C;simp only[h];cases p x with|true=>exact⟨nofun,λ_=>⟨.inl (j:Int),rfl,by simp only[c,Ae];rw[Av ω]⟩⟩|false=>exact⟨λ_=>rfl,λh=>by cases h⟩);(have e:l.any p=(bif l.all (λx=>!p x)then false else true):=by rw[A9r,not_all_eq_any_not];simp);rw[e];cases f:Ak step 0 with|none=>rw[f]at u;cases u|some z=>rw[f,Ae]at u;rw[Ae];cases v:J z with|none=>rw[v]at u;cases u|some i=>rw[v,Ae]at u;exact⟨i,rfl,Fv u⟩
theorem Anv{M:Type}{step:S->Ο (S⊕E)}(l:Λ α)(p:α×Nat->Bool)(b:Nat->M->S)(I:M->Prop)(u z:R->Prop)(g:M)(h0:s0=b 0 g)(h:I g)(B:l.length<4611686018427387904)(A:∀(j:Nat)(x:α)(m:M),I m->l[j]?=some x->(∀i y,i<j->l[i]?=some y->p (y,i)=true)->decide ((j:Int)<(l.length:Int))=true->Ah l (j:Int)=some x->Ac ((j:Int)+1)=((j+1:Nat):Int)->(p (x,j)=true->∃f,step (b j m)=some (.inl (b (j+1) f))/\I f)/\(p (x,j)=false->∃e,step (b j m)=some (.inr e)/\∃r,J e=some r/\z r))(D:∀m,I m->decide ((l.length:Int)<(l.length:Int))=false->l.zipIdx.all p=true->∃e,step (b l.length m)=some (.inr e)/\∃r,J e=some r/\u r):∃r,(Ak step s0).bind J=some r/\((l.zipIdx.all p=true/\u r)\/(l.zipIdx.all p=false/\z r)):=by
 have c:∀(j:Nat)(x:α)(m:M),I m->l[j]?=some x->(∀i y,i<j->l[i]?=some y->p (y,i)=true)->_:=λj x m G w v=>
  have U:j<l.length:=Ek w
  A j x m G w v (Av ω) (Br rfl w) (Db U B)
 (have F:∀n,n<=l.length->(∀i y,i<n->l[i]?=some y->p (y,i)=true)->∃m,I m/\Ak step s0=Ak step (b n m):=by intro n;induction n with|zero=>intro _ _;exact⟨g,h,by rw[h0]⟩|succ n ih=>intro N v;obtain⟨m,C,H⟩:=ih ω λi y V=>v i y ω;have w:l[n]?=some l[n]:=Bl ω;obtain⟨f,K,P⟩:=(c n _ m C w λi y V=>v i y ω).1 (v n _ ω w);exact⟨f,P,by rw[H,Mo K]⟩);cases T:l.zipIdx.all p with|true=>obtain⟨m,C,H⟩:=F l.length (Nat.le_refl _) λi y _ v=>Kb T v;obtain⟨e,s,r,q,k⟩:=D m C ψ T;exact⟨r,by rw[H,G0 s];exact q,.inl ⟨rfl,k⟩⟩|false=>obtain⟨j,x,C,H,K⟩:=Awc T;obtain⟨m,P,L⟩:=F j (Nat.le_of_lt (Ek C)) K;obtain⟨e,s,r,q,k⟩:=(c j x m P C K).2 H;exact⟨r,by rw[L,G0 s];exact q,.inr ⟨rfl,k⟩⟩
mutual
def Bz:Ad->Nat
 |⟨_,_,l⟩=>1+Dx l
def Dx:List Ad->Nat
 |[]=>0
 |x::xs=>Bz x+Dx xs
end
theorem Jc(t:Ad):Bz t=1+Dx t.R:=by cases t;simp only[Bz]
theorem Uq(t:Ad):1<=Bz t:=by rw[Jc];omega
theorem Kr{l:Au}{a:Ad}(h:a∈l):Bz a<=Dx l:=by induction l with|nil=>cases h|cons x xs ih=>simp only[Dx];rcases F0.1 h with rfl|h;omega;have:=ih h;omega
theorem Lw(l:Au):l.length<=Dx l:=by induction l with|nil=>simp|cons x xs ih=>simp only[Dx,D3];have:=Uq x;omega
theorem Aig(l m:Au):Dx (l++m)=Dx l+Dx m:=by induction l with|nil=>simp[Dx]|cons x xs ih=>simp only[Ej,Dx,ih];omega
def Ma(Δ:Ap)(Ξ k n:Int)(len:Nat):Bool:=if k=1\/k=2\/k=3 then n==0&&len==0 else if k=4 then decide (0<=n)&&decide (n<Ξ)&&len==0 else if k=5 then decide (0<=n)&&(match Δ[n.toNat]? with|some d=>(len:Int)==d.V|none=>false)else if k=6 then n==0&&decide (2<=len)&&decide (len<=6)else if k=7\/k=8 then n==0&&len==1 else if k=9 then n==0&&decide (1<=len)&&decide (len<=7)else false
mutual
def Fw(Δ:List Ai)(Ξ:Int):Ad->Bool
 |⟨k,n,l⟩=>Ma Δ Ξ k n l.length&&G7 Δ Ξ l
def G7(Δ:List Ai)(Ξ:Int):List Ad->Bool
 |[]=>true
 |x::xs=>Fw Δ Ξ x&&G7 Δ Ξ xs
end
variable{i:Int}{l:Au}{j:Nat}{R α:Type}
theorem Zh(Δ:Ap)(Ξ:Int)(t:Ad):Fw Δ Ξ t=(Ma Δ Ξ t.G t.U t.R.length&&G7 Δ Ξ t.R):=by cases t;simp only[Fw]
theorem Awe(l:Λ α)(n:Nat):((l.length:Int)==(n:Int))=(l.length==n):=by by_cases h:l.length=n;subst h;simp;rw[Da ω];simp[h]
theorem A9s(k:Nat)(t:Ad)(Δ:Ap)(Ξ left:Int)(u:1<=left)(v:left<=1000):Pl (k+1) t ⟨Δ,Ξ,left⟩=bif Ma Δ Ξ t.G t.U t.R.length then((Za k t.R ⟨Δ,Ξ,left-1⟩).bind λg=>some (!g.1,g.2))else some (false,⟨Δ,Ξ,left-1⟩):=by have h:Ac (left-1)=left-1:=Ct ω ω;have b:¬left-1<0:=ω;rw[Pl];simp only[h,A6 b,An];generalize f:(Za k t.R ⟨Δ,Ξ,left-1⟩).bind (λg=>some (!g.1,g.2))=X;generalize c:(some (false,⟨Δ,Ξ,left-1⟩):Ο (Bool×It))=Y;unfold Ma Ah;generalize t.R.length=len;generalize t.G=w;generalize t.U=n;cases q:Δ[n.toNat]?<;>simp only[Bool.cond_eq_ite,A9l,Ae,Option.bind_none,q]<;>grind
theorem Anw(h:j<l.length):Dx (l.take (j+1))=Dx (l.take j)+Bz l[j]:=by rw[take_succ_eq_append_getElem h,Aig];simp[Dx]
theorem Awf(Δ:Ap)(Ξ:Int)(l m:Au):G7 Δ Ξ (l++m)=(G7 Δ Ξ l&&G7 Δ Ξ m):=by induction l with|nil=>simp[G7]|cons x xs ih=>simp only[Ej,G7,ih,Bool.and_assoc]
theorem Awg(Δ:Ap)(Ξ:Int)(h:j<l.length):G7 Δ Ξ (l.take (j+1))=(G7 Δ Ξ (l.take j)&&Fw Δ Ξ l[j]):=by rw[take_succ_eq_append_getElem h,Awf];simp[G7]
theorem Anx(l:Au)(j:Nat):Dx (l.take j)<=Dx l:=by have:=Aig (l.take j) (l.drop j);rw[take_append_drop]at this;omega
theorem A9t(Δ:Ap)(Ξ:Int)(l:Au)(j:Nat)(h:G7 Δ Ξ l=true):G7 Δ Ξ (l.take j)=true:=by have:=Awf Δ Ξ (l.take j) (l.drop j);rw[take_append_drop,h]at this;have:=this.symm;simp only[C5]at this;exact this.1
theorem A9u(Δ:Ap)(Ξ:Int)(k:Nat)(l:Au)(c:Nat)(G:l.length<1099511627776)(ih:∀(a:Ad),a∈l->∀f:Nat,f<=c->∃g:Int,Pl k a ⟨Δ,Ξ,f⟩=some (Fw Δ Ξ a&&decide (Bz a<=f),⟨Δ,Ξ,g⟩)/\((Fw Δ Ξ a&&decide (Bz a<=f))=true->g=(f:Int)-Bz a)):∃p:Int×Int,Ac7 (k+2) l ⟨Δ,Ξ,c⟩=some (p.1,⟨Δ,Ξ,p.2⟩)/\((G7 Δ Ξ l&&decide (Dx l<=c))=true->p.1 = -1/\p.2=(c:Int)-Dx l)/\((G7 Δ Ξ l&&decide (Dx l<=c))=false->0<=p.1):=by rw[Ac7];refine Add (λp:Int×Int=>(p.1,It.mk Δ Ξ p.2)) (Fo (λ(F,v,w,s)=>∃j:Nat,F=j/\j<=l.length/\v=Δ/\w=Ξ/\G7 Δ Ξ (l.take j)=true/\Dx (l.take j)<=c/\s=(c:Int)-Dx (l.take j)) (λ(F,_,_,_)=>l.length-F.toNat) (λz=>match z with|.inl (i,b)=>0<=i/\(∃g,b=⟨Δ,Ξ,g⟩)/\(G7 Δ Ξ l&&decide (Dx l<=c))=false|.inr (v,w,s)=>v=Δ/\w=Ξ/\(G7 Δ Ξ l&&decide (Dx l<=c))=true/\s=(c:Int)-Dx l) ⟨0,rfl,ω,rfl,rfl,rfl,by simp[Dx],by simp[Dx]⟩ ?_ ?_);rintro⟨F,v,w,s⟩ ⟨j,rfl,N,rfl,rfl,x,A,rfl⟩;rcases Co j l.length with h|h;obtain⟨u,y⟩:∃u:Nat,(c:Int)-Dx (l.take j)=u/\u<=c:=⟨c-Dx (l.take j),ω,ω⟩;obtain⟨g,E,D⟩:=ih l[j] (getElem_mem h) u y.2;simp only[Av (ω:(j:Int)<(l.length:Int)),Al,Iv rfl h,Ae,Ab4,y.1,E];(cases H:(Fw v w l[j]&&decide (Bz l[j]<=u))with|true=>have I:=D H;simp only[C5,D2]at H;refine .inl ⟨(((j+1:Nat):Int),v,w,g),?_,⟨j+1,rfl,ω,rfl,rfl,?_,?_,?_⟩,ζ⟩;simp only[bnt,An];rw[show Ac ((j:Int)+1)=((j+1:Nat):Int)by rw[Ac,Ct]<;>omega];rw[Awg _ _ h,x,H.1];rfl;rw[Anw h];omega;show g=_;rw[Anw h];omega|false=>refine .inr ⟨.inl ((j:Int),⟨v,w,g⟩),ψ,ω,⟨g,rfl⟩,?_⟩;cases q:(G7 v w l&&decide (Dx l<=c))with|false=>rfl|true=>exfalso;simp only[C5,D2]at q;have C:=A9t v w l (j+1) q.1;rw[Awg _ _ h]at C;simp only[C5]at C;have M:=Anx l (j+1);rw[Anw h]at M;rw[C.2,Bool.true_and,decide_eq_false_iff_not]at H;omega);have:j=l.length:=ω;subst this;rw[C6]at *;refine .inr ⟨.inr (v,w,(c:Int)-Dx l),ψ,rfl,rfl,by simp[x,A],rfl⟩;rintro(⟨i,b⟩|⟨v,w,s⟩) B;obtain⟨C,⟨g,rfl⟩,K⟩:=B;exact⟨_,rfl,(i,g),rfl,(λh=>by rw[K]at h;cases h),λ_=>C⟩;obtain⟨rfl,rfl,K,rfl⟩:=B;exact⟨_,rfl,(-1,_),rfl,λ_=>⟨rfl,rfl⟩,λh=>by rw[K]at h;cases h⟩
theorem A9v(Δ:Ap)(Ξ:Int):∀(left:Nat)(t:Ad)(k:Nat),left<=200->4*left+4<=k->Bz t<1099511627776->∃f:Int,Pl k t ⟨Δ,Ξ,left⟩=some (Fw Δ Ξ t&&decide (Bz t<=left),⟨Δ,Ξ,f⟩)/\((Fw Δ Ξ t&&decide (Bz t<=left))=true->f=(left:Int)-Bz t):=by intro left;induction left using Nat.strongRecOn with|_ left s=>intro t k A I K;have hp:=Uq t;obtain⟨g,rfl⟩:∃g,k=g+1:=⟨k-1,ω⟩;cases left with|zero=>refine⟨-1,?_,λh=>by simp at h;omega⟩;rw[Pl];have C:decide (Bz t<=0)=false:=A6 ω;rw[C,Bool.and_false];rfl|succ b=>rw[A9s g t Δ Ξ ((b+1:Nat):Int) ω ω];have y:((b+1:Nat):Int)-1=(b:Int):=ω;rw[y,Zh];cases z:Ma Δ Ξ t.G t.U t.R.length with|false=>exact⟨b,ψ,λh=>by simp at h⟩|true=>obtain⟨q,rfl⟩:∃q,g=q+3:=⟨g-3,ω⟩;have j:=Jc t;have u:=Lw t.R;obtain⟨⟨i,f⟩,F,w,G⟩:=A9u Δ Ξ q t.R b ω (λa H c x=>by have:=Kr H;exact s c ω a q ω ω ω);have l:decide (Bz t<=b+1)=decide (Dx t.R<=b):=(by rw[j];congr 1;simp only[eq_iff_iff];omega);simp only[Al,Za,F,Ae,Bool.true_and,l];refine⟨f,?_,λh=>?_⟩;(cases B:(G7 Δ Ξ t.R&&decide (Dx t.R<=b))with|true=>have v:i = -1:=(w B).1;rw[A6 (ω:¬i>=0)];rfl|false=>have v:0<=i:=G B;rw[Av (ω:i>=0)];rfl);have v:f=(b:Int)-Dx t.R:=(w h).2;rw[v,j];omega
theorem W4(Δ:Ap)(t:Ad)(Ξ:Int)(ht:Bz t<1099511627776):Qp Δ t Ξ=some (Fw Δ Ξ t&&decide (Bz t<=200)):=by unfold Qp;obtain⟨b,g,_⟩:=A9v Δ Ξ 200 t 4000000 δ δ ht;have g:Pl 4000000 t ⟨Δ,Ξ,200⟩=_:=g;rw[g];rfl
def Ur(a:Ad)(i:Int):Bool:=a.G==4&&a.U==i&&a.R.length==0
def Awh(l:Au):Bool:=l.zipIdx.all λq=>Ur q.1 q.2
def La(t:Ad)(d Ξ:Int):Bool:=t.G==5&&t.U==d&&(t.R.length:Int)==Ξ&&Awh t.R
def B5(Δ:Ap)(d c:Int):Bp:=match Ah Δ d with
 |none=>[]
 |some x=>match Ah x.O c with
  |none=>[]
  |some y=>y.R.map λt=>La t d x.V
theorem Gb{l:Λ α}{x:α}(h:Ah l i=some x):0<=i/\i<l.length/\l[i.toNat]?=some x/\x∈l:=by unfold Ah at h;split at h;have g:i.toNat<l.length:=Ek h;exact⟨by assumption,ω,h,Bu h⟩;cases h
theorem Adh{l:Λ α}(h:Ah l i=none):i<0\/(l.length:Int)<=i:=by unfold Ah at h;split at h;rw[List.getElem?_eq_none_iff]at h;right;omega;left;omega
theorem A9w(Δ:Ap)(d c:Int)(F:Ai->Q8->Ο R)(z:R)(X:Ο R)(f:X=((bif d<(0:Int)then some true else bif d>=(Δ.length:Int)then some true else bif c<(0:Int)then some true else(Ah Δ d).bind λb=>some (decide (c>=(b.O.length:Int))):OB).bind λw=>bif w then some z else(Ah Δ d).bind λq=>(Ah q.O c).bind λA=>F q A)):X=match Ah Δ d with
   |none=>some z
   |some x=>match Ah x.O c with
    |none=>some z
    |some y=>F x y:=by
 subst f;cases u:Ah Δ d with
 |none=>
  rcases Adh u with h|h
  .simp only[Av h,Al,Ae]
  .by_cases g:d<0
   .simp only[Av g,Al,Ae]
   .simp only[A6 g,Av (show d>=(Δ.length:Int)from h),Al,An,Ae]
 |some x=>
  obtain⟨B,C,_,_⟩:=Gb u;simp only[A6 (ω:¬d<0),A6 (ω:¬d>=(Δ.length:Int)),An,Ae];cases v:Ah x.O c with
  |none=>
   rcases Adh v with h|h
   .simp only[Av h,Al,Ae]
   .by_cases g:c<0
    .simp only[Av g,Al,Ae]
    .simp only[A6 g,Av (show c>=(x.O.length:Int)from h),Al,An,Ae]
  |some y=>obtain⟨G,H,_,_⟩:=Gb v;simp only[A6 (ω:¬c<0),A6 (ω:¬c>=(x.O.length:Int)),An,Ae]
def A9x(l:Au):Prop:=l.length<=4194304/\∀a∈l,a.R.length<=4194304
def Nr(Δ:Ap):Prop:=∀x∈Δ,∀y∈x.O,A9x y.R
theorem Adi(l m:Λ α)(y x:α)(i:Int)(n:Nat)(h:i=n)(b:n=l.length):Cn (l++y::m) i x=l++x::m:=by rw[Ii h];subst b;simp
theorem Adj(l m:Λ α)(y:α)(i:Int)(n:Nat)(h:i=n)(b:n=l.length):Ah (l++y::m) i=some y:=by rw[Br h];subst b;simp
theorem A9y(l:Au)(k f:Bp)(i:Int)(n:Nat)(b:Bool)(h:i=n)(s:n=k.length)(A:l.length<1099511627776){J:Int×List Bool->Ο R}{r:R}(z:J ((l.length:Int),k++(b&&Awh l)::f)=some r):(Ak (S:=(Int×List Bool)) (E:=(Int×List Bool)) (λ(c,g)=>bif c<(l.length:Int)then((Ah l c).bind λv=>bif(v.G != (4:Int))then((Ah g i).bind λG=>some (.inl (Ac (c+1),Cn g i false)))else(bif(v.U != c)then((Ah g i).bind λy=>some (.inl (Ac (c+1),Cn g i false)))else(bif(v.R.length:Int)>(0:Int)then((Ah g i).bind λu=>some (.inl (Ac (c+1),Cn g i false)))else(some (.inl (Ac (c+1),g))))))else(some (.inr (c,g)))) (0,k++b::f)).bind J=some r:=by refine Gj l (λj=>((j:Int),k++(b&&(l.take j).zipIdx.all λq=>Ur q.1 q.2)::f)) ψ ω ?_ ?_;intro j x H I C K M;have e:(l.take (j+1)).zipIdx.all (λq=>Ur q.1 q.2)=((l.take j).zipIdx.all (λq=>Ur q.1 q.2)&&Ur x j):=(by rw[Cu I,zipIdx_append,all_append];simp[Nat.min_eq_left (Nat.le_of_lt H)]);simp only[C,K,M,Al,Ae,Adj k f _ i n h s,Adi k f _ _ i n h s,e];unfold Ur;by_cases w:x.G=4;by_cases B:x.U=j;by_cases F:x.R.length=0;rw[A6 ω];simp[w,B,F];rw[Av ω];have:(x.R.length==0)=false:=(by simpa using F);simp[w,B,this];simp[w,B,Ga B];simp[w,Ga w];intro C;refine⟨_,by simp only[C];rfl,?_⟩;rw[C6];exact z
theorem W5(Δ:Ap)(d c:Int)(w:Nr Δ):Pp Δ d c=some (B5 Δ d c):=by unfold Pp;rw[A9w Δ d c (λH I=>_) [] _ rfl];unfold B5;cases A:Ah Δ d with|none=>rfl|some x=>cases q:Ah x.O c with|none=>simp only[q]|some y=>simp only[q];have f:=w x (Gb A).2.2.2 y (Gb q).2.2.2;have g:=f.1;rw[Nm (n:=y.R.length) (c:=y.R.length) rfl rfl ω ω ω,Ae];refine Gj y.R (λj=>((j:Int),((y.R.take j).map λt=>La t d x.V)++replicate (y.R.length-j) false)) rfl ω ?_ ?_;intro j t K v u B C;obtain⟨m,F⟩:∃m,y.R.length-j=m+1:=⟨y.R.length-j-1,ω⟩;have h:y.R.length-(j+1)=m:=ω;have b:j=((y.R.take j).map λt=>La t d x.V).length:=ζ;simp only[u,B,Al,Ae,F,h,replicate_succ,Cu v,map_append,map_cons,map_nil,append_assoc,Ej,nil_append, Adj _ _ _ (j:Int) j rfl b,Adi _ _ _ _ (j:Int) j rfl b];(have G:(bif t.G==5 then bif t.U==d then some (map (λt=>La t d x.V) (take j y.R)++((t.R.length:Int)==x.V)::replicate m false)else some (map (λt=>La t d x.V) (take j y.R)++false::replicate m false)else some (map (λt=>La t d x.V) (take j y.R)++false::replicate m false))=some (map (λt=>La t d x.V) (take j y.R)++(t.G==5&&t.U==d&&((t.R.length:Int)==x.V))::replicate m false):=by cases t.G==5<;>cases t.U==d<;>simp);rw[G,Ae];refine A9y t.R _ _ (j:Int) j _ rfl b (by have:=f.2 t (Bu v);omega) ?_;rw[C];rfl;intro u;exact⟨_,by simp only[u];rfl,ψ⟩
mutual
def mnt(d:Int):Ad->Bool
 |⟨k,n,l⟩=>(k==5&&n==d)||Sl d l
def Sl(d:Int):List Ad->Bool
 |[]=>false
 |x::xs=>mnt d x||Sl d xs
end
theorem A9z(d:Int)(t:Ad):mnt d t=((t.G==5&&t.U==d)||Sl d t.R):=by cases t;simp only[mnt]
theorem A90(d:Int)(l:Au):Sl d l=l.any (mnt d):=by induction l with|nil=>rfl|cons x xs ih=>simp only[Sl,ih,any_cons]
theorem A91(d:Int):∀(n:Nat)(t:Ad)(k:Nat),Bz t<=n->4*n+4<=k->n<1099511627776->Wj k t d=some (mnt d t):=by intro n;induction n with|zero=>intro t k h;have:=Uq t;omega|succ n ih=>intro t k h C g;obtain⟨k,rfl⟩:∃c,k=c+4:=⟨k-4,ω⟩;have f:=Jc t;have b:=Lw t.R;have q:Y9 (k+3) t.R d=some (Sl d t.R):=(by rw[Y9,Ahw];rw[A90];refine Awd (Anu t.R (mnt d) ω ?_ (λh=>by simp only[h];rfl) (λ_=>rfl) rfl) (λi u=>by rw[u]);intro j x v w A B;have F:=Kr v;simp only[w,A,B,Al,Ae,Acq,ih x k ω ω ω]);rw[Wj,q,A9z];cases t.G==5<;>cases t.U==d<;>simp
theorem Awi(Δ:Ap)(v:Int)(l:Au):G7 Δ v l=l.all (Fw Δ v):=by induction l with|nil=>rfl|cons x xs ih=>simp only[G7,ih,all_cons]
theorem A92(Δ:Ap)(d:Nat)(v k n:Int)(len:Nat):(Ma (Δ.take (d+1)) v k n len && !(k==5&&n==(d:Int)))=Ma (Δ.take d) v k n len:=by by_cases g:k=5;subst g;unfold Ma;simp only[beq_self_eq_true,Bool.true_and,getElem?_take];by_cases b:n=d;subst b;simp;by_cases q:0<=n;have e:(n==(d:Int))=false:=Da b;rcases Co n.toNat d with h|h;simp[h,e,show n.toNat<d+1 by omega];simp[e,show ¬n.toNat<d by omega,show ¬n.toNat<d+1 by omega];simp[q];have e:(k==(5:Int))=false:=Da g;simp only[e,Bool.false_and,Bool.not_false,Bool.and_true,Ma,g,if_false]
mutual
theorem Awj(Δ:List Ai)(d:Nat)(v:Int):∀t:Ad,(Fw (Δ.take (d+1)) v t && !mnt d t)=Fw (Δ.take d) v t
 |⟨k,n,l⟩=>by
  have g:=Awk Δ d v l
  have h:=A92 Δ d v k n l.length
  simp only[Fw,mnt]
  rw[<-g,<-h]
  cases Ma (Δ.take (d+1)) v k n l.length<;>cases(k==5&&n==(d:Int))<;>cases G7 (Δ.take (d+1)) v l<;>simp
theorem Awk(Δ:List Ai)(d:Nat)(v:Int):∀l:List Ad,(G7 (Δ.take (d+1)) v l && !Sl d l)=G7 (Δ.take d) v l
 |[]=>by simp[G7,Sl]
 |x::xs=>by
  have g:=Awj Δ d v x
  have h:=Awk Δ d v xs
  simp only[G7,Sl]
  rw[<-g,<-h]
  cases Fw (Δ.take (d+1)) v x<;>cases mnt d x<;>cases G7 (Δ.take (d+1)) v xs<;>simp
end
variable{t:Ad}{x:Ai}{s:Β}{o:Ea}{Δ:Ap}{L:If}{a b d:Nat}{y:Q8}{R:Type}{Q:R->Prop}
theorem Awl:∀l:Au,(∀a∈l,a.R.length=0)->Dx l=l.length
 |[],_=>rfl
 |x::xs,h=>by have g:=h x ψ;simp only[Dx,D3];rw[Awl xs λa q=>h a (by simp[q]),Jc,Hb.1 g];simp only[Dx];omega
theorem Anz(v:Δ[d]?=some x)(H:x.V<=6)(h:La t d x.V=true):Fw (Δ.take (d+1)) x.V t=true/\Bz t<=200:=by unfold La at h;simp only[C5,beq_iff_eq]at h;obtain⟨⟨⟨w,A⟩,B⟩,C⟩:=h;(have g:∀a∈t.R,∃i:Nat,i<t.R.length/\a.G=4/\a.U=i/\a.R.length=0:=by intro a g;obtain⟨i,q⟩:=Hw g;have:=Kb C q;simp only[Ur,C5,beq_iff_eq]at this;exact⟨i,Ek q,this.1.1,this.1.2,this.2⟩);refine⟨?_,?_⟩;rw[Zh,Awi,C5];constructor;rw[w,A];unfold Ma;simp[v,B];rw[Hx];intro a b;obtain⟨i,I,F,G,u⟩:=g a b;rw[Zh,F,G,u,Hb.1 u];unfold Ma;simp[G7];omega;rw[Jc,Awl _ λa h=>(g a h).choose_spec.2.2.2];omega
def Us(Δ:Ap)(d:Nat)(v:Int)(t:Ad):Bool:=La t d v||(Fw (Δ.take d) v t&&decide (Bz t<=200))
theorem A93(g:Δ[d]?=some x)(q:x.V<=6)(t:Ad):((Fw (Δ.take (d+1)) x.V t&&decide (Bz t<=200))&&(La t d x.V || !mnt d t))=Us Δ d x.V t:=by unfold Us;cases h:La t d x.V with|true=>obtain⟨u,v⟩:=Anz g q h;rw[u,Av v];rfl|false=>rw[<-Awj Δ d x.V t];cases Fw (Δ.take (d+1)) x.V t<;>cases decide (Bz t<=200)<;>simp
def SzD(Δ:Ap):Prop:=∀x∈Δ,x.O.length<=1048576/\∀y∈x.O,Dx y.R<=1048576
theorem SzD.short(h:SzD Δ):Nr Δ:=λx hx y hy=>by have h1:=(h x hx).2 y hy;have h2:=Lw y.R;refine⟨ω,λa ha=>?_⟩;have h3:=Kr ha;have g:=Jc a;have b:=Lw a.R;omega
theorem A94(g:SzD Δ)(d c:Nat)(v:Δ[d]?=some x)(w:x.O[c]?=some y)(B:x.V<=6)(H:Δ.length<=1048576):Ua Δ d c=some (decide (y.R.length<=6)&&y.R.all (Us Δ d x.V)):=by
 have b:=Ek v;have l:=(g x (Bu v)).2 y (Bu w);unfold Ua;rw[Br rfl v,Ae,Br rfl w,Ae,W5 Δ d c g.short];by_cases k:y.R.length<=6
 .rw[A6 (ω:¬(y.R.length:Int)>6),Av k];simp only[An,Bool.true_and,Ae];refine(Adg y.R (Us Δ d x.V) (λj=>(j:Int)) rfl ω (rt:=true) (rf:=false) ?_ ?_).trans (by rw[Aif])
  .intro j t A C F G;have q:=Kr (Bu A);have s:Ah (B5 Δ d c) (j:Int)=some (La t d x.V):=(by unfold B5;simp only[Br rfl v,Br rfl w];rw[Br rfl];simp[A]);simp only[C,F,G,Al,Ae,show Ac ((d:Int)+1)=((d+1:Nat):Int)from Db b ω,W2 rfl (show d+1<=Δ.length from b),Br rfl v,
    W4 (Δ.take (d+1)) t x.V ω,s];rw[<-A93 v B t];cases i:(Fw (Δ.take (d+1)) x.V t&&decide (Bz t<=200))with
   |false=>exact⟨nofun,λ_=>⟨.inl false,rfl,rfl⟩⟩
   |true=>
    have f:Bz t<=200:=(by simp only[C5,D2]at i;exact i.2);simp only[bnt,An,Bool.true_and];cases u:La t d x.V with
    |true=>exact⟨λ_=>rfl,λh=>by cases h⟩
    |false=>simp only[Bool.not_false,Al,A91 d 200 t 4000000 f ω ω,Ae,Bool.false_or];cases mnt d t with|true=>exact⟨nofun,λ_=>⟨.inl false,rfl,rfl⟩⟩|false=>exact⟨λ_=>rfl,λh=>by cases h⟩
  intro h;exact⟨.inr (),by simp only[h];rfl,rfl⟩
 rw[Av (ω:(y.R.length:Int)>6),A6 k];rfl
def bI(s:Β)(i:Nat):Int:=if h:i<s.size then(s[i].toNat:Int)else 0
def loI(c:Int):Bool:=decide (97<=c)&&decide (c<=122)
def upI(c:Int):Bool:=decide (65<=c)&&decide (c<=90)
def diI(c:Int):Bool:=decide (48<=c)&&decide (c<=57)
def wiI(c:Int):Bool:=loI c||upI c||diI c||c==95
def Kw(s:Β):Prop:=1<=s.size/\s.size<=24/\upI (bI s 0)=true/\∀i,i<s.size->wiI (bI s i)=true
theorem Sn{i:Int}{n:Nat}(g:i=n)(h:n<s.size):∃c:UInt8,Lp s i=some c/\(c.toNat:Int)=bI s n:=by subst g;refine⟨s[n],?_,?_⟩;unfold Lp;rw[Aq ω,show((n:Int)).toNat=n from rfl];simp[h];unfold bI;simp[h]
theorem Adk{j:Nat}(hb:b<=s.size)(h:a+j<b):bI (s.extract a b) j=bI s (a+j):=by unfold bI;(have g:j<(s.extract a b).size:=by rw[ByteArray.size_extract];omega);rw[dif_pos g,dif_pos ω,ByteArray.getElem_extract]
theorem Adl{lo g:Int}(h:lo=a)(q:g=b)(u:a<=b)(v:b<=s.size):H7 s lo g=some (s.extract a b):=by subst h;subst q;unfold H7;rw[Aq ω];rfl
theorem Awm{a b:Β}(h:a.toList=b.toList):a=b:=by rw[ByteArray.toList_eq,ByteArray.toList_eq]at h;have:a.data=b.data:=Array.toList_inj.1 h;cases a;cases b;simp at this;subst this;rfl
theorem Awn(a b:Β):(a.toList==b.toList)=decide (a=b):=by by_cases h:a=b;subst h;simp;rw[A6 h];cases g:(a.toList==b.toList)with|false=>rfl|true=>exact absurd (Awm (by simpa using g)) h
theorem Awo(c:Int):Y7 c=some (loI c):=by unfold Y7 loI;by_cases h:(97:Int)<=c<;>simp[h]
theorem Awp(c:Int):Wt c=some (upI c):=by unfold Wt upI;by_cases h:(65:Int)<=c<;>simp[h]
theorem Aih(c:Int):Ug c=some (diI c):=by unfold Ug diI;by_cases h:(48:Int)<=c<;>simp[h]
theorem Awq(c:Int):Y8 c=some (wiI c):=by unfold Y8 wiI;rw[Awo,Awp,Aih];simp only[Ae];cases loI c<;>cases upI c<;>cases diI c<;>rfl
theorem An0{S E:Type}{step:S->Ο (S⊕E)}(s:Β)(p:Int->Bool)(b:Nat->S)(f:Nat->E)(lo:Nat)(g:∀j,lo<=j->j<s.size->p (bI s j)=true->step (b j)=some (.inl (b (j+1))))(q:∀j,lo<=j->j<s.size->p (bI s j)=false->step (b j)=some (.inr (f j)))(u:step (b s.size)=some (.inr (f s.size))):∀(m i:Nat),lo<=i->i+m=s.size->∃n,i<=n/\n<=s.size/\(∀j,i<=j->j<n->p (bI s j)=true)/\(n<s.size->p (bI s n)=false)/\Ak step (b i)=some (f n):=by intro m;induction m with|zero=>intro i _ v;have:i=s.size:=ω;subst this;exact⟨s.size,ω,ω,λj _ _=>ω,λh=>ω,G0 u⟩|succ m ih=>intro i c v;cases hp:p (bI s i)with|true=>(obtain⟨n,G,w,A,B,C⟩:=ih (i+1) ω ω;refine⟨n,ω,w,λj H F=>?_,B,by rw[Mo (g i c ω hp)];exact C⟩;rcases Co i j with h|h;exact A j h F;have:j=i:=ω;subst this;exact hp)|false=>exact⟨i,ω,ω,λj _ _=>ω,λ_=>hp,G0 (q i c ω hp)⟩
theorem A95(s:Β)(f:s.size<1099511627776):∃n,n<=s.size/\(∀j,j<n->wiI (bI s j)=true)/\(n<s.size->wiI (bI s n)=false)/\Acx s=some (s.extract 0 n):=by have H:=An0 (step:=λh:Int=>bif h<(s.size:Int)then((Lp s h).bind λA=>(Y8 (A.toNat:Int)).bind λB=>bif B then some (.inl (Ac (h+1)))else some (.inr h))else some (.inr h)) s wiI (λj=>(j:Int)) (λj=>(j:Int)) 0 (λj _ g hp=>by obtain⟨c,q,u⟩:=Sn (s:=s) (i:=(j:Int)) rfl g;simp only[Av (ω:(j:Int)<(s.size:Int)),Al,q,Ae,u,Awq,hp,Db g ω]) (λj _ g hp=>by obtain⟨c,q,u⟩:=Sn (s:=s) (i:=(j:Int)) rfl g;simp only[Av (ω:(j:Int)<(s.size:Int)),Al,q,Ae,u,Awq,hp,An]) ψ s.size 0 ω ω;obtain⟨n,_,w,C,F,v⟩:=H;refine⟨n,w,λj g=>C j ω g,F,?_⟩;unfold Acx;have v:Ak _ (0:Int)=some (n:Int):=v;rw[v,Ae,Adl (lo:=0) (a:=0) (b:=n) rfl rfl ω w];rfl
theorem A96(s:Β)(f:s.size<1099511627776):∃n,n<=s.size/\(∀j,j<n->diI (bI s j)=true)/\(n<s.size->diI (bI s n)=false)/\Ahv s=some (s.extract 0 n):=by have H:=An0 (step:=λh:Int=>bif h<(s.size:Int)then((Lp s h).bind λA=>(Ug (A.toNat:Int)).bind λB=>bif B then some (.inl (Ac (h+1)))else some (.inr h))else some (.inr h)) s diI (λj=>(j:Int)) (λj=>(j:Int)) 0 (λj _ g hp=>by obtain⟨c,q,u⟩:=Sn (s:=s) (i:=(j:Int)) rfl g;simp only[Av (ω:(j:Int)<(s.size:Int)),Al,q,Ae,u,Aih,hp,Db g ω]) (λj _ g hp=>by obtain⟨c,q,u⟩:=Sn (s:=s) (i:=(j:Int)) rfl g;simp only[Av (ω:(j:Int)<(s.size:Int)),Al,q,Ae,u,Aih,hp,An]) ψ s.size 0 ω ω;obtain⟨n,_,w,C,F,v⟩:=H;refine⟨n,w,λj g=>C j ω g,F,?_⟩;unfold Ahv;have v:Ak _ (0:Int)=some (n:Int):=v;rw[v,Ae,Adl (lo:=0) (a:=0) (b:=n) rfl rfl ω w];rfl
theorem So{c:Bool}{X Y:Ο R}(g:∃r,X=some r/\Q r)(h:∃r,Y=some r/\Q r):∃r,(bif c then X else Y)=some r/\Q r:=by cases c<;>assumption
theorem An1{A:Type}{X:Ο A}{f:A->Ο R}(P:A->Prop)(g:∃a,X=some a/\P a)(q:∀a,P a->∃r,f a=some r/\Q r):∃r,X.bind f=some r/\Q r:=by obtain⟨a,e,h⟩:=g;rw[e];exact q a h
theorem A97(s:Β):∃b,Acy s=some b/\True:=by unfold Acy;repeat' first|refine So ?_ ?_|exact⟨_,rfl,trivial⟩
theorem A98(s:Β)(q:1<=s.size):∃r,Ac0 s=some r/\(r.size<=s.size):=by
 have g:H7 s 0 1=some (s.extract 0 1):=Adl rfl rfl ω q;(have c:(s.extract 0 1).size<=s.size:=by rw[ByteArray.size_extract];omega);unfold Ac0;refine An1 (λz=>∀r,z=.inl r->r.size<=s.size) ?_ ?_
 .by_cases v:2<=s.size
  .have f:H7 s 0 2=some (s.extract 0 2):=Adl rfl rfl ω v;have b:∀r,(Sum.inl (s.extract 0 2):Β⊕Unit)=.inl r->r.size<=s.size:=(by rintro r ⟨⟩;rw[ByteArray.size_extract];omega);simp only[f,Ae];repeat' first|refine So ?_ ?_|with_reducible exact⟨_,rfl,b⟩|exact⟨_,rfl,λr h=>by cases h⟩
  rw[A6 ω];exact⟨_,rfl,λr h=>by cases h⟩
 .rintro (r|u) i;exact⟨_,rfl,i r rfl⟩
  .simp only[g,Ae];have w:(ByteArray.mk #[]).size<=s.size:=Nat.zero_le _;repeat' first|refine So ?_ ?_|with_reducible exact⟨_,rfl,c⟩|with_reducible exact⟨_,rfl,w⟩
theorem A99(s:Β)(f:s.size<1099511627776):∃b,Acz s=some b/\True:=by unfold Acz;refine Fo (λ(_,i)=>∃j:Nat,i=j/\j<=s.size) (λ(_,i)=>s.size-i.toNat) (λ_=>True) ⟨0,rfl,ω⟩ ?_ ?_;rintro⟨v,i⟩ ⟨j,rfl,q⟩;rcases Co j s.size with h|h;obtain⟨c,g,_⟩:=Sn (s:=s) (i:=(j:Int)) rfl h;simp only[Av (ω:(j:Int)<(s.size:Int)),Al,g,Ae,Db h ω];(cases decide (Ac (Ac (v*10)+Ac (wu8 ((c.toNat:Int)-48)))>1000000)with|true=>exact .inr ⟨_,rfl,trivial⟩|false=>exact .inl ⟨_,rfl,⟨j+1,rfl,ω⟩,ζ⟩);have:j=s.size:=ω;subst this;exact .inr ⟨.inr (),ψ,trivial⟩;rintro(r|u) _<;>exact⟨_,rfl,trivial⟩
theorem Baa(s:Β)(i:Nat)(N:i<s.size)(M:s.size<1099511627776):∃r,Acp s i=some r/\(r.2=0->1<=r.1.Text.size/\i+r.1.Text.size<=s.size/\(r.1.G=2->Kw r.1.Text))/\(Kw s->i=0->r=(⟨2,s,0⟩,0)):=by obtain⟨c,P,T⟩:=Sn (s:=s) (i:=(i:Int)) rfl N;have u:H7 s (i:Int) (s.size:Int)=some (s.extract i s.size):=Adl rfl rfl ω ω;(have I:(s.extract i s.size).size=s.size-i:=by rw[ByteArray.size_extract];omega);have x:bI (s.extract i s.size) 0=bI s i:=Adk ω ω;unfold Acp;simp only[P,Ae,T,Awo,Awp,Aih,u];(have U:(bif loI (bI s i)then some true else some (upI (bI s i)))=some (loI (bI s i)||upI (bI s i)):=by cases loI (bI s i)<;>rfl);rw[U];simp only[Ae];cases l:(loI (bI s i)||upI (bI s i))with|true=>obtain⟨n,G,D,y,F⟩:=A95 (s.extract i s.size) ω;(have A:1<=n:=by rcases Nat.eq_zero_or_pos n with h|h;subst h;have:=y ω;rw[x]at this;unfold wiI at this;rw[l]at this;cases this;exact h);have H:(s.extract i s.size).extract 0 n=s.extract i (i+n):=(by rw[ByteArray.extract_extract];congr 1;omega);have q:(s.extract i (i+n)).size=n:=(by rw[ByteArray.size_extract];omega);rw[H]at F;simp only[Al,F,Ae,q];(have g:Kw s->i=0->n=s.size:=by intro w C;rcases Co n s.size with h|h;have:=y ω;rw[Adk ω ω,w.2.2.2 _ ω]at this;cases this;omega);by_cases J:n<=24;rw[A6 ω];(cases k:upI (bI s i)with|true=>refine⟨_,rfl,λ_=>⟨?_,?_,λ_=>⟨?_,?_,?_,?_⟩⟩,?_⟩;show 1<=(s.extract i (i+n)).size;omega;show i+(s.extract i (i+n)).size<=s.size;omega;show 1<=(s.extract i (i+n)).size;omega;show(s.extract i (i+n)).size<=24;omega;show upI (bI (s.extract i (i+n)) 0)=true;rw[Adk ω ω];exact k;show ∀j,j<(s.extract i (i+n)).size->wiI (bI (s.extract i (i+n)) j)=true;intro j W;rw[Adk ω ω];have:=D j ω;rw[Adk ω ω]at this;exact this;intro w C;have:=g w C;subst C;subst this;rw[Nat.zero_add,ByteArray.extract_zero_size];rfl|false=>obtain⟨b,K,_⟩:=A97 (s.extract i (i+n));simp only[An,K,Ae];have f:Kw s->i=0->False:=(by intro w C;subst C;rw[w.2.2.1]at k;cases k);cases b with|true=>exact⟨_,rfl,λ_=>⟨by show 1<=(s.extract i (i+n)).size;omega,by show i+(s.extract i (i+n)).size<=s.size;omega,λh=>by cases h⟩,λw C=>(f w C).elim⟩|false=>exact⟨_,rfl,λ_=>⟨by show 1<=(s.extract i (i+n)).size;omega,by show i+(s.extract i (i+n)).size<=s.size;omega,λh=>by cases h⟩,λw C=>(f w C).elim⟩);rw[Av ω];refine⟨_,rfl,nofun,λw C=>?_⟩;have:=g w C;have:=w.2.1;omega|false=>have f:Kw s->i=0->False:=(by intro w C;subst C;rw[w.2.2.1,Bool.or_true]at l;cases l);simp only[An];cases V:diI (bI s i)with|true=>obtain⟨n,G,D,y,F⟩:=A96 (s.extract i s.size) ω;(have A:1<=n:=by rcases Nat.eq_zero_or_pos n with h|h;subst h;have:=y ω;rw[x,V]at this;cases this;exact h);have H:(s.extract i s.size).extract 0 n=s.extract i (i+n):=(by rw[ByteArray.extract_extract];congr 1;omega);have q:(s.extract i (i+n)).size=n:=(by rw[ByteArray.size_extract];omega);rw[H]at F;obtain⟨b,K,_⟩:=A99 (s.extract i (i+n)) ω;simp only[Al,F,Ae,K];refine An1 (λ_=>True) ?_ ?_;exact So ⟨_,rfl,trivial⟩ ⟨_,rfl,trivial⟩;intro v _;refine So ⟨_,rfl,nofun,λw C=>(f w C).elim⟩ (So ⟨_,rfl,nofun,λw C=>(f w C).elim⟩ ⟨_,rfl,λ_=>⟨?_,?_,λh=>by cases h⟩,λw C=>(f w C).elim⟩);show 1<=(s.extract i (i+n)).size;omega;show i+(s.extract i (i+n)).size<=s.size;omega|false=>obtain⟨r,E,L⟩:=A98 (s.extract i s.size) ω;simp only[An,E,Ae];rw[Awn];by_cases z:r=ByteArray.mk #[];rw[Av z];exact⟨_,rfl,nofun,λw C=>(f w C).elim⟩;rw[A6 z];refine⟨_,rfl,λ_=>⟨?_,?_,λh=>by cases h⟩,λw C=>(f w C).elim⟩;show 1<=r.size;rcases Nat.eq_zero_or_pos r.size with h|h;have B:r.data.toList.length=0:=(by simpa using h);exact absurd (Awm (by rw[ByteArray.toList_eq,Hb.1 B,ByteArray.toList_eq])) z;exact h;show i+r.size<=s.size;omega
theorem Bab(c:Int):Aco c=some (c==9||c==10||c==13||c==32):=by unfold Aco;cases c==9<;>cases c==10<;>cases c==13<;>rfl
theorem Awr(s:Β)(N:s.size<1099511627776):∃b,Wg s=some b/\(b=true↔Kw s):=by unfold Wg Ahj;by_cases q:(s.size:Int)>16384;rw[Av q];refine⟨false,rfl,by simp;rintro⟨_,h,_⟩;omega⟩;rw[A6 q];simp only[An];refine An1 (λr:List Lr×Int×Int=>(r.2.2≠0/\¬Kw s)\/(r.2.2=0/\∃o e,r.1=o++[e]/\(∀t∈o,t.G=2->Kw t.Text)/\(Kw s->o=[⟨2,s,0⟩]))) ?_ ?_;refine Fo (λ(H,f)=>∃i:Nat,H=i/\i<=s.size/\f.length<=i/\(∀t∈f,t.G=2->Kw t.Text)/\(Kw s->(i=0/\f=[])\/(i=s.size/\f=[⟨2,s,0⟩]))) (λ(H,_)=>s.size-H.toNat) (λz=>match z with|.inl o=>o.length<=16384/\(∀t∈o,t.G=2->Kw t.Text)/\(Kw s->o=[⟨2,s,0⟩])|.inr (_,_,e)=>e≠0/\¬Kw s) ⟨0,rfl,ω,ψ,ψ,λ_=>.inl ⟨rfl,rfl⟩⟩ ?_ ?_;rintro⟨v,o⟩ ⟨i,rfl,hi,ho,K,hu⟩;rcases Co i s.size with h|h;obtain⟨c,P,T⟩:=Sn (s:=s) (i:=(i:Int)) rfl h;(have g:Kw s->i=0/\o=[]:=λu=>by rcases hu u with w|w;exact w;omega);simp only[Av (ω:(i:Int)<(s.size:Int)),Al,P,Ae,T,Bab];(cases E:(bI s i==9||bI s i==10||bI s i==13||bI s i==32)with|true=>(have k:¬Kw s:=by intro u;have h0:=(g u).1;subst h0;have:=u.2.2.1;simp only[upI,C5,D2]at this;simp only[Bool.or_eq_true,beq_iff_eq]at E;omega);exact .inl ⟨(((i+1:Nat):Int),o),by simp only[Al];rw[Db h ω],⟨i+1,rfl,ω,(by show o.length<=i+1;omega),K,λu=>(k u).elim⟩,ζ⟩|false=>simp only[An];cases A:(bI s i==35)with|true=>((have k:¬Kw s:=by intro u;have h0:=(g u).1;subst h0;have:=u.2.2.1;simp only[upI,C5,D2]at this;simp only[beq_iff_eq]at A;omega);simp only[Al];obtain⟨n,Z,Y,X,n4,D⟩:=An0 (step:=λC:Int=>bif C<(s.size:Int)then((Lp s C).bind λG=>bif((G.toNat:Int)==(10:Int))then some (.inr (.inl C))else some (.inl (Ac (C+1))))else some (.inr (.inr C))) s (λc=>!(c==10)) (λj=>(j:Int)) (λj=>if j<s.size then Sum.inl (j:Int)else Sum.inr (j:Int)) 0 (λj _ W hp=>by obtain⟨c,P,T⟩:=Sn (s:=s) (i:=(j:Int)) rfl W;simp only[Bool.not_eq_true']at hp;simp only[Av (ω:(j:Int)<(s.size:Int)),Al,P,Ae,T,hp,Db W ω,An]) (λj _ W hp=>by obtain⟨c,P,T⟩:=Sn (s:=s) (i:=(j:Int)) rfl W;simp only[Bool.not_eq_false']at hp;simp only[Av (ω:(j:Int)<(s.size:Int)),Al,P,Ae,T,hp,Aq W]) ψ (s.size-i) i ω ω;(have R:i<n:=by rcases Co i n with w|w;exact w;have:n=i:=ω;subst this;have:=n4 h;simp only[beq_iff_eq]at A;rw[A]at this;cases this);have D:Ak _ (i:Int)=_:=D;rw[D,Ae];rcases Co n s.size with w|w;rw[Aq w];exact .inl ⟨((n:Int),o),rfl,⟨n,rfl,ω,(by show o.length<=n;omega),K,λu=>(k u).elim⟩,ζ⟩;rw[Ao ω];exact .inr ⟨.inl o,rfl,ω,K,λu=>(k u).elim⟩)|false=>obtain⟨r,M,L,I⟩:=Baa s i h N;simp only[An,M,Ae];by_cases B:r.2=0;obtain⟨a1,a2,a3⟩:=L B;simp only[Gx B,An];rw[D7 ζ,Ae];refine .inl ⟨(((i+r.1.Text.size:Nat):Int),o++[r.1]),?_,⟨i+r.1.Text.size,rfl,a2,ζ,?_,?_⟩,ζ⟩;rw[show Ac ((i:Int)+(r.1.Text.size:Int))=((i+r.1.Text.size:Nat):Int)by rw[Ac,Ct]<;>omega];intro t ht;rcases E9.1 ht with w|w;exact K t w;simp at w;subst w;exact a3;intro u;obtain⟨b1,b2⟩:=g u;have:=I u b1;subst b1;subst b2;subst this;exact .inr ⟨ψ,rfl⟩;simp only[Ga B,Al];refine .inr ⟨_,rfl,B,λu=>?_⟩;rw[I u (g u).1]at B;exact B rfl);have:i=s.size:=ω;subst this;refine .inr ⟨.inl o,ψ,ω,K,λu=>?_⟩;(rcases hu u with⟨w,_⟩|⟨_,w⟩);have:=u.1;omega;exact w;rintro(o|⟨l,p,e⟩) J;obtain⟨V,z2,z3⟩:=J;simp only;rw[D7 ζ,Ae];exact⟨_,rfl,.inr ⟨rfl,o,_,rfl,z2,z3⟩⟩;exact⟨_,rfl,.inl J⟩;rintro⟨l,p,e⟩ (⟨h1,h2⟩|⟨h1,o,t,h2,h3,F⟩);simp only at h1;simp only[Da h1,An];exact⟨_,rfl,by simp[h2]⟩;simp only at h1 h2;subst h1;subst h2;simp only[beq_self_eq_true,Al];match o,h3,F with|[],_,F=>exact⟨false,ψ,by simp;intro u;cases F u⟩|[x],h3,F=>have U:Ah ([x]++[t]) 0=some x:=rfl;simp only[U,Ae,Awn];have S:((([x]++[t]).length:Int)==2)=true:=rfl;simp only[S,Al];by_cases hx:x.G=2;simp only[Fa hx,Al];refine⟨_,rfl,?_⟩;rw[decide_eq_true_iff];constructor;intro h;rw[<-h];exact h3 x ψ hx;intro u;have:=F u;simp at this;rw[this];simp only[Da hx,An];refine⟨_,rfl,?_⟩;simp only[Bool.false_eq_true,false_iff];intro u;have:=F u;simp at this;rw[this]at hx;exact hx rfl|x::y::ys,_,F=>refine⟨false,?_,by simp;intro u;have:=F u;simp at this⟩;rw[Da];rfl;simp;omega
def Aii(Δ:Ap)(d:Nat)(v:Int)(y:Q8):Prop:=Kw y.S/\y.R.length<=6/\y.R.all (Us Δ d v)=true
def An2(Δ:Ap)(d:Nat)(x:Ai):Prop:=0<=x.V/\x.V<=6/\1<=x.O.length/\x.O.length<=8/\Kw x.S/\∀y∈x.O,Aii Δ d x.V y
def Mb(x:Ai):If:=x.O.map (·.S)
def Hj(Δ:Ap):Prop:=Δ.length<=12/\(∀d x,Δ[d]?=some x->An2 Δ d x)/\(Δ.map (·.S)).Nodup/\(Δ.flatMap Mb).Nodup
structure DSz(Δ:List Ai):Prop where
 len:Δ.length<=1048576
 sz:SzD Δ
 nm:∀x∈Δ,x.S.size<=1048576
 cn:∀x∈Δ,∀y∈x.O,y.S.size<=1048576
theorem Ns(a b:Β):(a==b)=true↔a=b:=by
 constructor
 .intro h;cases a with|mk a=>cases b with|mk b=>
  have:a=b:=(by exact eq_of_beq h);rw[this]
 rintro rfl;cases a with|mk a=>exact beq_self_eq_true a
def M5(o:Ea)(L:If):Prop:=(∀p∈o,p.2=true)/\∀s,Fk o s=true↔s∈L
theorem M5.nil:M5 [] []:=⟨ψ,by simp[Fk]⟩
theorem M5.get(h:M5 o L)(b:Fk o s=true):Ir o s false=true:=by unfold Ir;unfold Fk at b;rw[any_eq_true]at b;obtain⟨p,f,c⟩:=b;cases hf:o.find? (λp=>s==p.1)with|none=>exact absurd c (by have:=find?_eq_none.1 hf p f;simpa using this)|some q=>exact h.1 q (mem_of_find?_eq_some hf)
theorem Bac(o:Ea)(s t:Β)(v:Bool):Fk (G5 o s v) t=(Fk o t||t==s):=by induction o with|nil=>simp[G5,Fk]|cons p o ih=>unfold G5;cases hp:(s==p.1)with|true=>have:s=p.1:=(Ns _ _).1 hp;subst this;simp only[Al,Fk,any_cons];cases t==p.1<;>simp|false=>simp only[Fk,any_cons]at ih⊢;simp only[An,any_cons,ih,Bool.or_assoc]
theorem M5.put(h:M5 o L)(s:Β):M5 (G5 o s true) (L++[s]):=by refine⟨?_,λt=>?_⟩;(have:∀o:Ea,(∀p∈o,p.2=true)->∀p∈G5 o s true,p.2=true:=by intro o;induction o with|nil=>intro _ p hp;simp[G5]at hp;rw[hp]|cons q o ih=>intro b p hp;unfold G5 at hp;cases g:(s==q.1)with|true=>(rw[g]at hp;simp only[Al,F0]at hp;rcases hp with rfl|hp;rfl;exact b p (by simp[hp]))|false=>rw[g]at hp;simp only[An,F0]at hp;rcases hp with rfl|hp;exact b _ ψ;exact ih (λp hp=>b p (by simp[hp])) p hp);exact this o h.1;rw[Bac,Bool.or_eq_true,h.2 t,Ns];simp
theorem Bad(x:Ai){c:Nat}(g:x.O[c]?=some y):Mb x=(x.O.take c).map (·.S)++y.S::(x.O.drop (c+1)).map (·.S):=by
 have h:=take_append_drop c x.O
 have q:=Ek g
 have e:x.O.drop c=y::x.O.drop (c+1):=by
  rw[drop_eq_getElem_cons q]
  rw[Bl q]at g
  rw[Fv g]
 unfold Mb
 conv=>lhs;rw[<-h,e]
 simp
theorem Aws{m:If}(h:(L++s::m).Nodup):s∉L:=by rw[nodup_append]at h;intro b;exact h.2.2 s b s ψ rfl
theorem Awt(h:L.Nodup)(c:s∉L):(L++[s]).Nodup:=by rw[nodup_append];refine⟨h,ψ,?_⟩;intro a q b g;simp at g;subst g;intro e;subst e;exact c q
theorem Bae(q:DSz Δ)(U:Δ[d]?=some x)(hv:x.V<=6)(o:Ea)(L:If)(hm:M5 o L)(I:L.Nodup):∃z,Ak (S:=(Int×List (Β×Bool))) (E:=(Bool⊕(Int×List (Β×Bool)))) (λ(f,g)=>bif f<(x.O.length:Int)then((Ah x.O f).bind λw=>(Wg w.S).bind λu=>bif(!u)then some (.inr (.inl false))else(bif(Fk g w.S)then(bif(Ir g w.S (false:Bool))then some (.inr (.inl false))else((Ua Δ d f).bind λs=>bif(!s)then some (.inr (.inl false))else some (.inl (Ac (f+1),G5 g w.S true))))else((Ua Δ d f).bind λN=>bif(!N)then some (.inr (.inl false))else some (.inl (Ac (f+1),G5 g w.S true)))))else some (.inr (.inr (f,g)))) (0,o)=some z/\match z with
   |.inl r=>r=false/\¬((∀y∈x.O,Aii Δ d x.V y)/\(L++Mb x).Nodup)
   |.inr (_,o')=>(∀y∈x.O,Aii Δ d x.V y)/\(L++Mb x).Nodup/\M5 o' (L++Mb x):=by
 have K:=Bu U;have G:=(q.sz x K).1;refine J6 (λ(f,g)=>∃c:Nat,f=c/\c<=x.O.length/\(∀y∈x.O.take c,Aii Δ d x.V y)/\(L++(x.O.take c).map (·.S)).Nodup/\M5 g (L++(x.O.take c).map (·.S))) (λ(f,_)=>x.O.length-f.toNat) _ ?_ _ ⟨0,rfl,ω,ψ,by simpa using I,by simpa using hm⟩;rintro⟨v,g⟩ ⟨c,rfl,hc,P,T,F⟩;rcases Co c x.O.length with h|h
 .have H:x.O[c]?=some x.O[c]:=Bl h;generalize x.O[c]=y at H;have k:=Bu H;obtain⟨b,b1,V⟩:=Awr y.S (by have:=q.cn x K y k;omega);have W:=Cu H;have B:L++Mb x=(L++(x.O.take c).map (·.S))++y.S::(x.O.drop (c+1)).map (·.S):=(by rw[Bad x H];simp);simp only[Av (ω:(c:Int)<(x.O.length:Int)),Al,Br rfl H,Ae,b1,A94 q.sz d c U H hv q.len,Db h ω];cases b with
  |false=>refine .inr ⟨.inl false,rfl,rfl,λC=>?_⟩;have:=V.2 (C.1 y k).1;cases this
  |true=>
   simp only[bnt,An];cases j:Fk g y.S with
   |true=>simp only[Al,F.get j];refine .inr ⟨.inl false,rfl,rfl,λC=>?_⟩;rw[B]at C;exact Aws C.2 ((F.2 _).1 j)
   |false=>
    simp only[An];cases i:(decide (y.R.length<=6)&&y.R.all (Us Δ d x.V))with
    |false=>refine .inr ⟨.inl false,rfl,rfl,λC=>?_⟩;have:=C.1 y k;rw[this.2.2,Av this.2.1]at i;cases i
    |true=>
     simp only[C5,D2]at i;have A:y.S∉L++(x.O.take c).map (·.S):=λC=>by rw[(F.2 _).2 C]at j;cases j
     have e:L++(x.O.take (c+1)).map (·.S)=(L++(x.O.take c).map (·.S))++[y.S]:=(by rw[W];simp);refine .inl ⟨_,rfl,⟨c+1,rfl,ω,?_,?_,?_⟩,ζ⟩
     .intro D l;rw[W]at l;rcases E9.1 l with M|M
      .exact P D M
      .simp at M;subst M;exact⟨V.1 rfl,i.1,i.2⟩
     .rw[e];exact Awt T A
     .rw[e];exact F.put _
 .have:c=x.O.length:=ω;subst this;rw[C6]at P T F;exact .inr ⟨.inr ((x.O.length:Int),g),ψ,P,T,F⟩
theorem Baf(g:Δ[d]?=some x):Δ.flatMap Mb=((Δ.take d).flatMap Mb++Mb x)++(Δ.drop (d+1)).flatMap Mb/\Δ.map (·.S)=(Δ.take d).map (·.S)++x.S::(Δ.drop (d+1)).map (·.S):=by
 have h:=take_append_drop d Δ
 have q:=Ek g
 have e:Δ.drop d=x::Δ.drop (d+1):=by
  rw[drop_eq_getElem_cons q]
  rw[Bl q]at g
  rw[Fv g]
 constructor
 .conv=>lhs;rw[<-h,e]
  simp[flatMap_append]
 .conv=>lhs;rw[<-h,e]
  simp
theorem Bag(i:DSz Δ):∃b,Abp Δ=some b/\(b=true↔Hj Δ):=by have D:=i.len;unfold Abp;rcases Co 12 Δ.length with P|P;rw[Av ω];exact⟨false,rfl,by simp;intro h;have:=h.1;omega⟩;rw[A6 ω];simp only[An];refine Fo (λ(H,c,f)=>∃d:Nat,H=d/\d<=Δ.length/\(∀j x,j<d->Δ[j]?=some x->An2 Δ j x)/\((Δ.take d).map (·.S)).Nodup/\((Δ.take d).flatMap Mb).Nodup/\M5 c ((Δ.take d).map (·.S))/\M5 f ((Δ.take d).flatMap Mb)) (λ(H,_,_)=>Δ.length-H.toNat) (λz=>match z with|.inl r=>r=false/\¬Hj Δ|.inr _=>Hj Δ) ⟨0,rfl,ω,by intro j x h;omega,ψ,ψ,by simpa using M5.nil,by simpa using M5.nil⟩ ?_ ?_;rintro⟨v,c,f⟩ ⟨d,rfl,hd,h1,U,V,T,S⟩;rcases Co d Δ.length with h|h;have C:Δ[d]?=some Δ[d]:=Bl h;generalize Δ[d]=x at C;have W:=Bu C;obtain⟨b,b1,b2⟩:=Awr x.S (by have:=i.nm x W;omega);obtain⟨f1,f2⟩:=Baf C;simp only[Av (ω:(d:Int)<(Δ.length:Int)),Al,Br rfl C,Ae,b1];have F:∀(u:¬An2 Δ d x),∃e:Bool⊕(List (Β×Bool)×List (Β×Bool)),(some (Sum.inr (Sum.inl false)):Ο ((Int×List (Β×Bool)×List (Β×Bool))⊕(Bool⊕(List (Β×Bool)×List (Β×Bool)))))=some (.inr e)/\(match e with|.inl r=>r=false/\¬Hj Δ|.inr _=>Hj Δ):=λu=>⟨.inl false,rfl,rfl,λw=>u (w.2.1 d x C)⟩;(cases b with|false=>exact .inr (F λw=>by have:=b2.2 w.2.2.2.2.1;cases this)|true=>simp only[bnt,An];cases g:Fk c x.S with|true=>simp only[Al,T.get g,Ae];refine .inr ⟨.inl false,rfl,rfl,λw=>?_⟩;have:=w.2.2.1;rw[f2]at this;exact Aws this ((T.2 _).1 g)|false=>simp only[An];by_cases l:x.V<0;simp only[Av l,Al,Ae];exact .inr (F λw=>by have:=w.1;omega);by_cases s:x.V>6;simp only[A6 l,Av s,Al,An,Ae];exact .inr (F λw=>by have:=w.2.1;omega);simp only[A6 l,A6 s,An,Ae];by_cases q:(x.O.length:Int)<1;simp only[Av q,Al,Ae];exact .inr (F λw=>by have:=w.2.2.1;omega);by_cases y:(x.O.length:Int)>8;simp only[A6 q,Av y,Al,An,Ae];exact .inr (F λw=>by have:=w.2.2.2.1;omega);simp only[A6 q,A6 y,An,Ae];obtain⟨z,I,K⟩:=Bae i C ω f _ S V;rw[I,Ae];match z,K with|.inl r,K=>obtain⟨rfl,K⟩:=K;refine .inr ⟨.inl false,rfl,rfl,λw=>K ⟨(w.2.1 d x C).2.2.2.2.2,?_⟩⟩;have:=w.2.2.2;rw[f1]at this;exact(nodup_append.1 this).1|.inr (a0,A),K=>obtain⟨M,L,J⟩:=K;have ht:=Cu C;(have B:x.S∉(Δ.take d).map (·.S):=λw=>by rw[(T.2 _).2 w]at g;cases g);have G:(Δ.take (d+1)).map (·.S)=(Δ.take d).map (·.S)++[x.S]:=(by rw[ht];simp);have E:(Δ.take (d+1)).flatMap Mb=(Δ.take d).flatMap Mb++Mb x:=(by rw[ht];simp[flatMap_append]);refine .inl ⟨(((d+1:Nat):Int),G5 c x.S true,A),by simp only[Db h ω],⟨d+1,rfl,ω,?_,?_,?_,?_,?_⟩,ζ⟩;intro j N R k;rcases Co j d with h'|h';exact h1 j N h' k;have:j=d:=ω;subst this;rw[C]at k;cases k;exact⟨ω,ω,ω,ω,b2.1 rfl,M⟩;rw[G];exact Awt U B;rw[E];exact L;rw[G];exact T.put _;rw[E];exact J);have:d=Δ.length:=ω;subst this;rw[C6]at U V;exact .inr ⟨.inr (c,f),ψ,P,λd x C=>h1 d x (Ek C) C,U,V⟩;rintro(r|⟨o,o'⟩) i;obtain⟨rfl,i⟩:=i;exact⟨false,rfl,by simp[i]⟩;exact⟨true,rfl,by simpa using i⟩
theorem Adm(c:DSz Δ):∃b,V5 Δ=some b/\(b=true↔Hj Δ):=by obtain⟨b,g,h⟩:=Bag c;refine⟨b,?_,h⟩;unfold V5;rw[g,Ae];cases b with|false=>rfl|true=>rfl
theorem SzD.args(h:SzD Δ)(hx:x∈Δ)(hy:y∈x.O)(ht:t∈y.R):Bz t<=1048576/\t.R.length<=1048576/\y.R.length<=1048576:=by have h1:=(h x hx).2 y hy;have h3:=Kr ht;have g:=Jc t;have c:=Lw t.R;have b:=Lw y.R;omega
def isV(σ:Au)(k n:Int):Bool:=k==4&&decide (0<=n)&&decide (n<(σ.length:Int))
mutual
def Ey(σ:List Ad):Ad->Ad
 |⟨k,n,l⟩=>match(if isV σ k n then σ[n.toNat]? else none)with
  |some s=>s
  |none=>⟨k,n,Px σ l⟩
def Px(σ:List Ad):List Ad->List Ad
 |[]=>[]
 |x::xs=>Ey σ x::Px σ xs
end
variable{t:Ad}{σ:Au}
theorem An3(σ l:Au):Px σ l=l.map (Ey σ):=by induction l with|nil=>rfl|cons x xs ih=>simp only[Px,ih,map_cons]
theorem Aij{k n:Int}(h:isV σ k n=true):∃s,σ[n.toNat]?=some s/\Ah σ n=some s/\s∈σ:=by simp only[isV,C5,D2]at h;have b:n.toNat < σ.length:=ω;refine⟨σ[n.toNat],Bl b,?_,getElem_mem b⟩;unfold Ah;rw[Aq ω,Bl b]
theorem Adn{s:Ad}(h:isV σ t.G t.U=true)(b:σ[t.U.toNat]?=some s):Ey σ t=s:=by cases t;simp only[Ey]at *;simp[h,b]
theorem Aik(h:isV σ t.G t.U=false):Ey σ t=⟨t.G,t.U,t.R.map (Ey σ)⟩:=by cases t;simp only[Ey]at *;simp[h,An3]
mutual
theorem Awu:∀t:Ad,Ey [] t=t
 |⟨k,n,l⟩=>by
  have g:isV [] k n=false:=by
   unfold isV
   by_cases h:0<=n
   .rw[A6 (by simp;omega:¬n<(([]:List Ad).length:Int))];simp
   .rw[A6 h];simp
  simp only[Ey,g,Awv l];rfl
theorem Awv:∀l:List Ad,Px [] l=l
 |[]=>rfl
 |x::xs=>by simp only[Px,Awu x,Awv xs]
end
mutual
theorem Aww(σ:List Ad)(M:Nat)(q:1<=M)(h:∀s∈σ,Bz s<=M):∀t:Ad,Bz (Ey σ t)<=Bz t*M
 |⟨k,n,l⟩=>by
  cases g:isV σ k n with
  |true=>
   obtain⟨s,u,_,v⟩:=Aij g
   rw[Adn (t:=⟨k,n,l⟩) g u]
   have:=h s v
   have w:=Uq ⟨k,n,l⟩
   calc Bz s<=1*M:=ω
    _<=_:=Nat.mul_le_mul_right M w
  |false=>
   have:=Awx σ M q h l
   simp only[Ey,g,Bz]
   simp only[Bool.false_eq_true,if_false,Bz]
   rw[Nat.add_mul];omega
theorem Awx(σ:List Ad)(M:Nat)(g:1<=M)(h:∀s∈σ,Bz s<=M):∀l:List Ad,Dx (Px σ l)<=Dx l*M
 |[]=>by simp[Px,Dx]
 |x::xs=>by
  have q:=Aww σ M g h x
  have u:=Awx σ M g h xs
  simp only[Px,Dx]
  rw[Nat.add_mul];omega
end
variable{t:Ad}{b:Bool}{l:Au}{Δ:Ap}{r:Bp}{j:Nat}
theorem Awy(σ:Au)(t:Ad):(bif t.G==(4:Int)then bif decide (t.U>=(0:Int))then some (decide (t.U<(σ.length:Int)))else some false else some false)=some (isV σ t.G t.U):=by unfold isV;cases t.G==4<;>simp;by_cases h:0<=t.U<;>simp[h]
theorem Bah:∀(k:Nat)(t:Ad)(σ:Au)(M:Nat),(∀s∈σ,Bz s<=M)->Bz t+M+1<=k->k<1099511627776->R5 k t σ=some (Ey σ t):=by intro k;induction k with|zero=>intro t σ M _ h;omega|succ k ih=>intro t σ M b h A;have f:=Jc t;have c:=Lw t.R;rw[R5];rw[show(show OB from bif t.G==(4:Int)then bif decide (t.U>=(0:Int))then some (decide (t.U<(σ.length:Int)))else some false else some false)=some (isV σ t.G t.U)from Awy σ t,Ae];cases q:isV σ t.G t.U with|true=>obtain⟨s,g,u,v⟩:=Aij q;have:=b s v;simp only[Al,u,Ae,Adn q g,ih s [] 0 ψ ω ω,Awu]|false=>rw[Aik q];simp only[An];refine Gj t.R (λj=>((j:Int),(t.R.take j).map (Ey σ))) rfl ω ?_ ?_;intro j x B w g u v;have:=Kr (Bu w);simp only[g,u,v,Al,Ae,ih x σ M b ω ω];rw[D7 ζ,Ae,Cu w];simp;intro g;exact⟨t.R.map (Ey σ),ψ,rfl⟩
theorem Bai:∀(k:Nat)(t:Ad),Bz t<=k->Bz t<1099511627776->T0 k t=some (Bz t:Int):=by intro k;induction k with|zero=>intro t h;have:=Uq t;omega|succ k ih=>intro t h w;have b:=Jc t;have c:=Lw t.R;rw[T0];refine Gj t.R (λj=>(1+(Dx (t.R.take j):Int),(j:Int))) rfl ω ?_ ?_;intro j x A g q u v;have B:=Kr (Bu g);have f:=Anx t.R (j+1);have e:Dx (t.R.take (j+1))=Dx (t.R.take j)+Bz x:=(by rw[Cu g,Aig];simp[Dx]);simp only[q,u,v,Al,Ae,ih x ω ω];rw[show Ac (1+(Dx (t.R.take j):Int)+(Bz x:Int))=1+(Dx (t.R.take (j+1)):Int)by rw[e,Ac,Ct]<;>omega];intro q;exact⟨1+(Dx t.R:Int),ψ,by rw[b];simp⟩
theorem ξ{p:Prop}(h:p:=by rw[Ac,Ct]<;>omega):p:=h
theorem Baj(σ:Au)(M:Nat)(D:1<=M)(q:M<=1048576)(z:∀s∈σ,Bz s<=M):∀(k:Nat)(t:Ad),Bz t<=k->Bz t<=1048576->∃v:Nat,T1 k t (σ.map λs=>(Bz s:Int))=some (v:Int)/\v<=Bz (Ey σ t)/\((v=Bz (Ey σ t))\/200<v):=by intro k;induction k with|zero=>intro t h;have:=Uq t;omega|succ k ih=>intro t h I;have A:=Jc t;have y:=Lw t.R;(have g:∀x,Bz x<=1048576->Bz (Ey σ x)<=1099511627776:=λx w=>by have:=Aww σ M D z x;have:Bz x*M<=1048576*1048576:=Nat.mul_le_mul w q;omega);rw[T1];rw[show(show OB from bif t.G==(4:Int)then bif decide (t.U>=(0:Int))then some (decide (t.U<((σ.map λs=>(Bz s:Int)).length:Int)))else some false else some false)=some (isV σ t.G t.U)by rw[Cp];exact Awy σ t,Ae];cases C:isV σ t.G t.U with|true=>obtain⟨s,G,K,T⟩:=Aij C;have N:Ah (σ.map λs=>(Bz s:Int)) t.U=some (Bz s:Int):=(by have:=Gb K;rw[Br (n:=t.U.toNat) ω];simp[G]);simp only[Al,N,Ae,Adn C G];exact⟨Bz s,rfl,Nat.le_refl _,.inl rfl⟩|false=>have u:=g t I;rw[Aik C]at u⊢;simp only[An];have f:Bz ⟨t.G,t.U,t.R.map (Ey σ)⟩=1+Dx (t.R.map (Ey σ)):=(by simp only[Bz]);rw[f]at u⊢;refine Add (λv:Nat=>(v:Int)) (Fo (λ(n,i)=>∃j:Nat,i=j/\j<=t.R.length/\n=1+(Dx ((t.R.map (Ey σ)).take j):Int)) (λ(_,i)=>t.R.length-i.toNat) (λn=>∃v:Nat,n=v/\v<=1+Dx (t.R.map (Ey σ))/\(v=1+Dx (t.R.map (Ey σ))\/200<v)) ⟨0,rfl,ω,by simp[Dx]⟩ ?_ ?_);rintro⟨n,i⟩ ⟨j,rfl,U,l⟩;have l:n=_:=l;subst l;rcases Co j t.R.length with F|F;have w:t.R[j]?=some t.R[j]:=Bl F;generalize t.R[j]=x at w;have V:=Kr (Bu w);obtain⟨v,b,H,W⟩:=ih x ω ω;have c:(t.R.map (Ey σ))[j]?=some (Ey σ x):=(by simp[w]);have e:Dx ((t.R.map (Ey σ)).take (j+1))=Dx ((t.R.map (Ey σ)).take j)+Bz (Ey σ x):=(by rw[Cu c,Aig];simp[Dx]);have B:=Anx (t.R.map (Ey σ)) (j+1);have E:Ac (1+(Dx ((t.R.map (Ey σ)).take j):Int)+(v:Int))=((1+Dx ((t.R.map (Ey σ)).take j)+v:Nat):Int):=ξ;simp only[Av (ω:(j:Int)<(t.R.length:Int)),Al,Br rfl w,Ae,b,Db F ω,E];by_cases P:1+Dx ((t.R.map (Ey σ)).take j)+v>200;rw[Av ω];exact .inr ⟨_,rfl,_,rfl,ω,.inr P⟩;rw[A6 ω];refine .inl ⟨_,rfl,⟨j+1,rfl,ω,?_⟩,ζ⟩;have:v=Bz (Ey σ x):=ω;subst this;rw[e];omega;have:j=t.R.length:=ω;subst this;refine .inr ⟨_,by simp;rfl,1+Dx (t.R.map (Ey σ)),?_,ω,.inl rfl⟩;rw[H8 ψ];omega;rintro n ⟨v,rfl,b,H⟩;exact⟨_,rfl,v,rfl,b,H⟩
def H9(Δ:Ap)(t:Ad)(c:Int):In:=if t.G=5 then match Ah Δ t.U with
  |none=>none
  |some x=>if(t.R.length:Int)=x.V then match Ah x.O c with
    |none=>none
    |some y=>if(y.R.map (Ey t.R)).all (λa=>decide (Bz a<=200))then some (y.R.map (Ey t.R))else none else none else none
def okL(o:In):List Ad×Bool:=match o with|none=>([],false)|some l=>(l,true)
def Szv(Δ:Ap):Prop:=∀x∈Δ,∀y∈x.O,y.R.length<=6/\∀a∈y.R,Bz a<=200
theorem Hj.szv(h:Hj Δ):Szv Δ:=by intro x hx y hy;obtain⟨d,hd⟩:=Hw hx;have h1:=h.2.1 d x hd;obtain⟨_,c2,c3⟩:=h1.2.2.2.2.2 y hy;refine⟨c2,λa ha=>?_⟩;have:=Hx.1 c3 a ha;unfold Us at this;rw[Bool.or_eq_true]at this;rcases this with h'|h';exact(Anz hd h1.2.1 h').2;simp only[C5,D2]at h';exact h'.2
theorem Ut(A:Szv Δ)(t:Ad)(ht:Bz t<=200)(c:Int):Pj Δ t c=some (okL (H9 Δ t c)):=by have B:=Jc t;have q:=Lw t.R;unfold Pj H9;by_cases H:t.G=5;simp only[Gx H,An,Aq H];(cases N:Ah Δ t.U with|none=>(rcases Adh N with h|h;simp only[Av h,Al,Ae,okL];by_cases C:t.U<0;simp only[Av C,Al,Ae,okL];simp only[A6 C,Av (show t.U>=(Δ.length:Int)from h),Al,An,Ae,okL])|some x=>obtain⟨W,a2,_,M⟩:=Gb N;simp only[A6 (ω:¬t.U<0),A6 (ω:¬t.U>=(Δ.length:Int)),An,Ae];by_cases I:(t.R.length:Int)=x.V;simp only[Gx I,An,Aq I];(cases P:Ah x.O c with|none=>(rcases Adh P with h|h;simp only[Av h,Al,Ae,okL];by_cases C:c<0;simp only[Av C,Al,Ae,okL];simp only[A6 C,Av (show c>=(x.O.length:Int)from h),Al,An,Ae,okL])|some y=>obtain⟨b1,b2,_,i⟩:=Gb P;obtain⟨E,b⟩:=A x M y i;simp only[A6 (ω:¬c<0),A6 (ω:¬c>=(x.O.length:Int)),An,Ae];rw[Nm (n:=t.R.length) (c:=t.R.length) rfl rfl ω ω ω,Ae];refine Gj t.R (λj=>((j:Int),((t.R.take j).map λs=>(Bz s:Int))++replicate (t.R.length-j) 0)) rfl ω ?_ ?_;intro j s U g w F G;have:=Kr (Bu g);obtain⟨m,V⟩:∃m,t.R.length-j=m+1:=⟨t.R.length-j-1,ω⟩;have D:t.R.length-(j+1)=m:=ω;have k:j=((t.R.take j).map λs=>(Bz s:Int)).length:=ζ;simp only[w,F,G,Al,Ae,Bai 4000000 s ω ω,V,D,replicate_succ,Adj _ _ _ (j:Int) j rfl k,Adi _ _ _ _ (j:Int) j rfl k,Cu g];simp;intro w;refine⟨t.R.map λs=>(Bz s:Int),ψ,?_⟩;(have l:∀s∈t.R,Bz s<=200:=λs g=>by have:=Kr g;omega);refine(Adg (rt:=(y.R.map (Ey t.R),true)) (rf:=([],false)) y.R (λa=>decide (Bz (Ey t.R a)<=200)) (λj=>(j:Int)) rfl ω ?_ ?_).trans ?_;intro j a K w F G;have z:=b a (Bu K);obtain⟨v,u,v2,v3⟩:=Baj t.R 200 ω ω l 4000000 a ω ω;simp only[w,F,G,Al,Ae,u];by_cases T:Bz (Ey t.R a)<=200;rw[Av T,A6 ω];exact⟨λ_=>rfl,λh=>by cases h⟩;rw[A6 T,Av ω];exact⟨nofun,λ_=>⟨_,rfl,rfl⟩⟩;intro w;refine⟨.inr (),ψ,?_⟩;simp only;refine Gj y.R (λj=>((j:Int),(y.R.take j).map (Ey t.R))) rfl ω ?_ ?_;intro j a U K w F G;have z:=b a (Bu K);simp only[w,F,G,Al,Ae,Bah 4000000 a t.R 200 l ω ω];rw[D7 ζ,Ae,Cu K];simp;intro w;exact⟨y.R.map (Ey t.R),ψ,rfl⟩;rw[all_map];cases f:y.R.all ((λa=>decide (Bz a<=200))∘Ey t.R)with|true=>rw[Aq rfl];rw[show(y.R.all λa=>decide (Bz (Ey t.R a)<=200))=true from f];rfl|false=>rw[show(y.R.all λa=>decide (Bz (Ey t.R a)<=200))=false from f];rfl);simp only[Ga I,Al,Ae,Ao I,okL]);simp only[Ga H,Al,Ae,Ao H,okL]
theorem Bak(b:Szv Δ)(t:Ad)(ht:Bz t<=200)(c:Int):Anj Δ t c=some (okL (H9 Δ t c)):=Ut b t ht c
theorem Lb{c:Int}(h:H9 Δ t c=some l):∃x y,t.G=5/\Ah Δ t.U=some x/\(t.R.length:Int)=x.V/\Ah x.O c=some y/\l=y.R.map (Ey t.R)/\∀a∈l,Bz a<=200:=by unfold H9 at h;by_cases g:t.G=5;rw[Aq g]at h;(cases v:Ah Δ t.U with|none=>rw[v]at h;cases h|some x=>rw[v]at h;simp only at h;by_cases q:(t.R.length:Int)=x.V;rw[Aq q]at h;(cases u:Ah x.O c with|none=>rw[u]at h;cases h|some y=>rw[u]at h;simp only at h;by_cases b:(y.R.map (Ey t.R)).all (λa=>decide (Bz a<=200))=true;rw[Aq b]at h;cases h;refine⟨x,y,g,rfl,q,u,rfl,λa w=>?_⟩;have:=Hx.1 b a w;simpa using this;rw[Ao b]at h;cases h);rw[Ao q]at h;cases h);rw[Ao g]at h;cases h
def Fq(l:Au)(r:Bp):Au:=((l.zip r).filter λp=>!p.2).map (·.1)
def Gv(Δ:Ap)(t:Ad)(c:Int):In:=(H9 Δ t c).map λl=>Fq l (B5 Δ t.U c)
theorem M6{c:Int}(h:H9 Δ t c=some l):(B5 Δ t.U c).length=l.length:=by obtain⟨x,y,_,g,_,q,rfl,_⟩:=Lb h;unfold B5;simp only[g,q,Cp]
theorem Ado{a:Ad}(g:l[j]?=some a)(h:r[j]?=some b):Fq (l.take (j+1)) (r.take (j+1))=Fq (l.take j) (r.take j)++bif b then[]else[a]:=by unfold Fq;have f:=Ek g;have c:=Ek h;rw[Cu g,Cu h,zip_append ζ];cases b<;>simp
theorem Zi(l:Au)(r:Bp):(Fq l r).length<=l.length:=by unfold Fq;rw[Cp];refine Nat.le_trans (length_filter_le _ _) ?_;rw[length_zip];omega
theorem Ail(f:Szv Δ)(h:Nr Δ)(t:Ad)(ht:Bz t<=200)(c:Int):Y6 Δ t c=some (okL (Gv Δ t c)):=by unfold Y6 Gv;rw[Ut f t ht c,Ae];cases w:H9 Δ t c with|none=>rfl|some l=>have i:=M6 w;obtain⟨x,y,_,A,_,B,q,_⟩:=Lb w;obtain⟨g,_⟩:=f x (Gb A).2.2.2 y (Gb B).2.2.2;have k:l.length<=6:=(by rw[q];simpa using g);simp only[okL,bnt,An,W5 Δ t.U c h,Ae,Option.map_some];refine Gj (B5 Δ t.U c) (λj=>((j:Int),Fq (l.take j) ((B5 Δ t.U c).take j))) (by simp[Fq]) ω ?_ ?_;intro j b H C u F G;have v:l[j]?=some l[j]:=Bl ω;generalize l[j]=a at v;have s:=Zi (l.take j) ((B5 Δ t.U c).take j);have:(l.take j).length<=6:=ζ;simp only[u,F,G,Al,Ae,Br rfl v,Ado v C];rw[D7 ζ];cases b<;>simp;intro u;refine⟨Fq l (B5 Δ t.U c),?_,rfl⟩;simp only[u];rw[H8 ω,H8 (Nat.le_refl _)];rfl
def Ep(r:Bp):Aa:=(r.zipIdx.filter λp=>!p.1).map λp=>(p.2:Int)
def Py(r:Bp):Aa:=(r.zipIdx.filter λp=>p.1).map λp=>(p.2:Int)
theorem Aim(h:r[j]?=some b):(r.take (j+1)).zipIdx=(r.take j).zipIdx++[(b,j)]:=by have:=Ek h;rw[Cu h,zipIdx_append];simp;omega
theorem Bal(h:r.length=l.length):∀(j:Nat)(a:Int),(Ep r)[j]?=some a->∃x,Ah l a=some x/\(Fq l r)[j]?=some x:=by intro j a g;(have e:Fq l r=(r.zipIdx.filter λp=>!p.1).map λp=>(l[p.2]?).getD ⟨0,0,[]⟩:=by unfold Fq;have q:∀n,n<=r.length->(((l.take n).zip (r.take n)).filter λp=>!p.2).map (·.1)=((r.take n).zipIdx.filter λp=>!p.1).map λp=>(l[p.2]?).getD ⟨0,0,[]⟩:=(by intro n;induction n with|zero=>intro _;simp|succ n ih=>intro f;have u:l[n]?=some l[n]:=Bl ω;have v:r[n]?=some r[n]:=Bl ω;have:=Ado u v;unfold Fq at this;rw[this,ih ω,Aim v];cases r[n]<;>simp[u]);have:=q r.length (Nat.le_refl _);rw[H8 ω,H8 (Nat.le_refl _)]at this;exact this);unfold Ep at g;rw[getElem?_map]at g;cases hp:(r.zipIdx.filter λp=>!p.1)[j]? with|none=>rw[hp]at g;cases g|some p=>rw[hp]at g;cases g;have w:=Bu hp;rw[mem_filter]at w;have b:r[p.2]?=some p.1:=mk_mem_zipIdx_iff_getElem?.1 w.1;have c:=Ek b;have A:l[p.2]?=some l[p.2]:=Bl ω;refine⟨l[p.2],Br rfl A,?_⟩;rw[e,getElem?_map,hp];simp[A]
theorem Bam(h:r.length=l.length):(Ep r).length=(Fq l r).length:=by unfold Ep Fq;simp only[Cp];(have g:∀n,n<=r.length->(((l.take n).zip (r.take n)).filter λp=>!p.2).length=((r.take n).zipIdx.filter λp=>!p.1).length:=by intro n;induction n with|zero=>intro _;simp|succ n ih=>intro b;have u:l[n]?=some l[n]:=Bl ω;have q:r[n]?=some r[n]:=Bl ω;rw[Aim q,Cu u,Cu q,zip_append ζ,filter_append,D6,ih ω,filter_append,D6];cases r[n]<;>simp);have:=g r.length (Nat.le_refl _);rw[H8 ω,H8 (Nat.le_refl _)]at this;exact this.symm
theorem Ain{c:Int}(h:Gv Δ t c=some l):(∀a∈l,Bz a<=200)/\∃x,Ah Δ t.U=some x/\0<=c/\c<x.O.length:=by unfold Gv at h;cases g:H9 Δ t c with|none=>rw[g]at h;cases h|some m=>rw[g]at h;cases h;obtain⟨x,y,_,v,_,q,_,f⟩:=Lb g;refine⟨λa u=>?_,x,v,(Gb q).1,(Gb q).2.1⟩;unfold Fq at u;obtain⟨p,b,rfl⟩:=mem_map.1 u;exact f _ (of_mem_zip (mem_filter.1 b).1).1
mutual
def Bt:Ag->Nat
 |⟨_,l⟩=>1+B7 l
def B7:List Ag->Nat
 |[]=>0
 |x::xs=>Bt x+B7 xs
end
theorem Er(t:Ag):Bt t=1+B7 t.K:=by cases t;simp only[Bt]
theorem Kc{l:A0}{a:Ag}(h:a∈l):Bt a<=B7 l:=by induction l with|nil=>cases h|cons x xs ih=>simp only[B7];rcases F0.1 h with rfl|h;omega;have:=ih h;omega
theorem Ri(l:A0):l.length<=B7 l:=by induction l with|nil=>simp|cons x xs ih=>simp only[B7,D3];have:=Er x;omega
mutual
def Dc(Δ:List Ai):Ag->Ad->Option Nat
 |⟨n,g⟩,t=>
  if t.G=6 then(if n=0 then Cj Δ g t.R else none)
  else if t.G=7 then(if 0<=n/\n<=6/\g.length=0 then some n.toNat else none)
  else if t.G=5 then(if n=0 then Ew Δ g t else none)
  else if n=0/\g.length=0 then some 0 else none
def Cj(Δ:List Ai):List Ag->List Ad->Option Nat
 |[],[]=>some 0
 |i::is,t::g=>(Dc Δ i t).bind λa=>(Cj Δ is g).map (a + ·)
 |[],_::_=>none
 |_::_,[]=>none
def Ew(Δ:List Ai):List Ag->Ad->Option Nat
 |[],_=>some 0
 |⟨n,g⟩::h,t=>(Gv Δ t n).bind λq=>(Cj Δ g q).bind λa=>(Ew Δ h t).map (1+a + ·)
end
variable{m n:Int}{Δ:Ap}{d:Nat}
theorem Lx(Δ:Ap)(i:Ag)(t:Ad):Dc Δ i t=if t.G=6 then(if i.U=0 then Cj Δ i.K t.R else none)else if t.G=7 then(if 0<=i.U/\i.U<=6/\i.K.length=0 then some i.U.toNat else none)else if t.G=5 then(if i.U=0 then Ew Δ i.K t else none)else if i.U=0/\i.K.length=0 then some 0 else none:=by cases i;simp only[Dc]
theorem Sp(Δ:Ap)(e:Ag)(es:A0)(t:Ad):Ew Δ (e::es) t=(Gv Δ t e.U).bind λg=>(Cj Δ e.K g).bind λa=>(Ew Δ es t).map (1+a + ·):=by cases e;simp only[Ew]
theorem Lc(Δ:Ap)(i:Ag)(is:A0)(t:Ad)(ts:Au):Cj Δ (i::is) (t::ts)=(Dc Δ i t).bind λa=>(Cj Δ is ts).map (a + ·):=by simp only[Cj]
theorem An4(Δ:Ap):∀(is:A0)(ts:Au),ts.length≠is.length->Cj Δ is ts=none
 |[],[],h=>absurd rfl h
 |i::is,t::ts,h=>by rw[Lc,An4 Δ is ts (by simpa using h)];cases Dc Δ i t<;>rfl
 |[],_::_,_=>by simp only[Cj]
 |_::_,[],_=>by simp only[Cj]
theorem Sq(Δ:Ap):∀(es:A0)(t:Ad)(d:Nat),Ew Δ es t=some d->es.length<=d
 |[],_,_,_=>ψ
 |e::es,t,d,h=>by rw[Sp]at h;cases q:Gv Δ t e.U with|none=>rw[q]at h;cases h|some v=>rw[q,Ae]at h;cases u:Cj Δ e.K v with|none=>rw[u]at h;cases h|some a=>rw[u,Ae]at h;cases g:Ew Δ es t with|none=>rw[g]at h;cases h|some b=>rw[g]at h;cases h;have:=Sq Δ es t b g;simp only[D3];omega
def J0(o:B9):Int:=match o with|some d=>if d<=6 then(d:Int)else -1|none => -1
theorem Oz(h:d<=6):J0 (some d)=d:=by simp[J0,h]
theorem An5(h:6<d):J0 (some d) = -1:=by simp only[J0];rw[Ao ω]
theorem Aio(o:B9):(J0 o = -1/\∀d,o=some d->6<d)\/∃d,o=some d/\d<=6/\J0 o=d:=by cases o with|none=>exact .inl ⟨rfl,λd h=>by cases h⟩|some d=>rcases Co 6 d with h|h;exact .inl ⟨An5 h,λe b=>by cases b;exact h⟩;exact .inr ⟨d,rfl,h,Oz h⟩
theorem Awz{o:B9}(h:∀d,o=some d->6<d):J0 o = -1:=by cases o with|none=>rfl|some d=>exact An5 (h d rfl)
def Pr(p:Int×Bool)(o:B9):Prop:=(p.2=true/\∃d:Nat,o=some d/\d<=6/\p.1=d)\/(p.2=false/\∀d,o=some d->6<d)
theorem Nt{α:Type}{l:Λ α}{j:Nat}{x:α}(h:l[j]?=some x):l.drop j=x::l.drop (j+1):=by have g:=Ek h;rw[drop_eq_getElem_cons g];rw[Bl g]at h;rw[Fv h]
theorem Ban(L:Szv Δ)(M:Nr Δ):∀k:Nat, (∀(i:Ag)(t:Ad),2*Bt i<=k->Bt i<=1048576->Bz t<=200->∃p,Uc k Δ t i=some p/\Pr p (Dc Δ i t))/\(∀(is:A0)(ts:Au),2*B7 is+1<=k->B7 is<=1048576->(∀t∈ts,Bz t<=200)->∃p,Ue k Δ ts is=some p/\Pr p (Cj Δ is ts)):=by intro k;induction k with|zero=>exact⟨λi t h=>by have:=Er i;omega,λis ts h=>ω⟩|succ k ih=>obtain⟨Y,I⟩:=ih;constructor;intro i t hk hi T;have a7:=Er i;have Z:=Ri i.K;rw[Uc,Lx];by_cases R:t.G=6;simp only[Fa R,Al,Aq R];by_cases F:i.U=0;simp only[Gx F,An,Aq F];obtain⟨p,p1,p2⟩:=I i.K t.R ω ω (λa H=>by have:=Kr H;have:=Jc t;omega);rw[p1];exact⟨p,rfl,p2⟩;simp only[Ga F,Al,Ao F];exact⟨_,rfl,.inr ⟨rfl,λd h=>by cases h⟩⟩;simp only[Da R,An,Ao R];by_cases N:t.G=7;simp only[Fa N,Al,Aq N];by_cases W:0<=i.U;by_cases a2:i.U<=6;by_cases K:i.K.length=0;rw[Av (show i.U>=0 from W),Av a2,Aq ⟨W,a2,K⟩];exact⟨_,rfl,.inl ⟨by simp[K],i.U.toNat,rfl,ω,ζ⟩⟩;rw[Av (show i.U>=0 from W),Av a2,Ao λh=>K h.2.2];exact⟨_,rfl,.inr ⟨Da ω,λd h=>by cases h⟩⟩;rw[Av (show i.U>=0 from W),A6 a2,Ao λh=>a2 h.2.1];exact⟨_,rfl,.inr ⟨rfl,λd h=>by cases h⟩⟩;rw[A6 (show ¬i.U>=0 from W),Ao λh=>W h.1];exact⟨_,rfl,.inr ⟨rfl,λd h=>by cases h⟩⟩;simp only[Da N,An,Ao N];by_cases U:t.G=5;simp only[Fa U,Al,Aq U];by_cases F:i.U=0;simp only[Gx F,An,Aq F];(have P:∀(m j w:Nat),j+m=i.K.length->w<=6->∃z,Ak (S:=(Int×Int)) (E:=((Int×Bool)⊕Int)) (λ(v8,v9)=>bif v9<(i.K.length:Int)then((Ah i.K v9).bind λs=>(Y6 Δ t s.U).bind λa0=>bif(!a0.2)then some (.inr (.inl (0,false)))else((Ue k Δ a0.1 s.K).bind λB=>bif(!B.2)then some (.inr (.inl (0,false)))else(bif(Ac (v8+(Ac (1+B.1))))>(6:Int)then some (.inr (.inl (0,false)))else some (.inl (Ac (v8+(Ac (1+B.1))),Ac (v9+1))))))else some (.inr (.inr v8))) ((w:Int),(j:Int))=some z/\(match z with|.inl p=>p=(0,false)/\∀d,(Ew Δ (i.K.drop j) t).map (w + ·)=some d->6<d|.inr v=>∃d:Nat,(Ew Δ (i.K.drop j) t).map (w + ·)=some d/\d<=6/\v=d):=by intro m;induction m with|zero=>intro j w hj f;have:j=i.K.length:=ω;subst this;exact⟨.inr (w:Int),G0 ψ,w,by simp[Ew],f,rfl⟩|succ m x=>intro j w hj f;have c:i.K[j]?=some i.K[j]:=Bl ω;generalize i.K[j]=e at c;have a6:=Kc (Bu c);have a8:=Er e;rw[Nt c,Sp];cases hp:Gv Δ t e.U with|none=>refine⟨.inl (0,false),G0 ?_,rfl,λd h=>by simp at h⟩;simp only[Av (ω:(j:Int)<(i.K.length:Int)),Al,Br rfl c,Ae,Ail L M t T e.U,hp,okL,Bool.not_false]|some ts=>obtain⟨q,G,g⟩:=I e.K ts ω ω (Ain hp).1;(rcases g with⟨g,a,y,q4,X⟩|⟨g,y⟩);have V:Ac ((w:Int)+Ac (1+q.1))=((w+(1+a):Nat):Int):=(by rw[X,show Ac (1+(a:Int))=((1+a:Nat):Int)by rw[Ac,Ct]<;>omega,Ac,Ct]<;>omega);by_cases hb:w+(1+a)<=6;obtain⟨z,l,C⟩:=x (j+1) (w+(1+a)) ω hb;refine⟨z,?_,?_⟩;rw[Mo (s':=(((w+(1+a):Nat):Int),((j+1:Nat):Int)))];exact l;simp only[Av (ω:(j:Int)<(i.K.length:Int)),Al,Br rfl c,Ae,Ail L M t T e.U,hp,okL,bnt,An,G,g,V,A6 (ω:¬((w+(1+a):Nat):Int)>6),Db (show j<i.K.length by omega) ω];have D:∀o:B9,(((some a:B9).bind λa=>o.map (1+a + ·)).map (w + ·))=o.map (w+(1+a) + ·):=(by intro o;cases o<;>simp[Nat.add_assoc]);rw[Ae,y,D];exact C;refine⟨.inl (0,false),G0 ?_,rfl,λd h=>?_⟩;simp only[Av (ω:(j:Int)<(i.K.length:Int)),Al,Br rfl c,Ae,Ail L M t T e.U,hp,okL,bnt,An,G,g,V,Av (ω:((w+(1+a):Nat):Int)>6)];rw[Ae,y,Ae]at h;(cases A:Ew Δ (i.K.drop (j+1)) t with|none=>rw[A]at h;cases h|some b=>rw[A]at h;simp at h;omega);refine⟨.inl (0,false),G0 ?_,rfl,λd h=>?_⟩;simp only[Av (ω:(j:Int)<(i.K.length:Int)),Al,Br rfl c,Ae,Ail L M t T e.U,hp,okL,bnt,An,G,g,Bool.not_false];rw[Ae]at h;cases H:Cj Δ e.K ts with|none=>rw[H]at h;cases h|some a=>rw[H,Ae]at h;have:=y a H;cases A:Ew Δ (i.K.drop (j+1)) t with|none=>rw[A]at h;cases h|some b=>rw[A]at h;simp at h;omega);obtain⟨z,l,C⟩:=P i.K.length 0 0 ω ω;have l:Ak _ ((0:Int),(0:Int))=some z:=l;rw[l,Ae];have D:∀o:B9,o.map (0 + ·)=o:=(by intro o;cases o<;>simp);rw[drop_zero,D]at C;(match z,C with|.inl p,C=>exact⟨_,rfl,.inr ⟨by rw[C.1],C.2⟩⟩|.inr v,C=>obtain⟨d,d1,d2,d3⟩:=C;exact⟨_,rfl,.inl ⟨rfl,d,d1,d2,d3⟩⟩);simp only[Ga F,Al,Ao F];exact⟨_,rfl,.inr ⟨rfl,λd h=>by cases h⟩⟩;simp only[Da U,An,Ao U];by_cases F:i.U=0;simp only[Fa F,Al];by_cases K:i.K.length=0;rw[Aq ⟨F,K⟩];exact⟨_,rfl,.inl ⟨by simp[K],0,rfl,ω,rfl⟩⟩;rw[Ao λh=>K h.2];exact⟨_,rfl,.inr ⟨Da ω,λd h=>by cases h⟩⟩;simp only[Da F,An];rw[Ao λh=>F h.1];exact⟨_,rfl,.inr ⟨rfl,λd h=>by cases h⟩⟩;intro is ts hk hi T;have Z:=Ri is;rw[Ue];by_cases hl:ts.length=is.length;rw[Gx ω];simp only[An];(have P:∀(m j w:Nat),j+m=is.length->w<=6*j->∃z,Ak (S:=(Int×Int)) (E:=((Int×Bool)⊕Int)) (λ(v5,J)=>bif J<(ts.length:Int)then((Ah ts J).bind λv7=>(Ah is J).bind λv9=>(Uc k Δ v7 v9).bind λs=>bif(!s.2)then some (.inr (.inl (0,false)))else some (.inl (Ac (v5+s.1),Ac (J+1))))else some (.inr (.inr v5))) ((w:Int),(j:Int))=some z/\(match z with|.inl p=>p=(0,false)/\∀d,(Cj Δ (is.drop j) (ts.drop j)).map (w + ·)=some d->6<d|.inr v=>∃d:Nat,(Cj Δ (is.drop j) (ts.drop j)).map (w + ·)=some d/\v=d):=by intro m;induction m with|zero=>intro j w hj f;have:j=ts.length:=ω;subst this;refine⟨.inr (w:Int),G0 ψ,w,?_,rfl⟩;rw[drop_of_length_le ω,drop_of_length_le ω];simp[Cj]|succ m x=>intro j w hj f;have c:is[j]?=some is[j]:=Bl ω;generalize is[j]=e at c;have hu:ts[j]?=some ts[j]:=Bl ω;generalize ts[j]=u at hu;have a6:=Kc (Bu c);rw[Nt c,Nt hu,Lc];obtain⟨q,G,g⟩:=Y e u ω ω (T u (Bu hu));(rcases g with⟨g,a,y,q4,X⟩|⟨g,y⟩);have V:Ac ((w:Int)+q.1)=((w+a:Nat):Int):=(by rw[X,Ac,Ct]<;>omega);obtain⟨z,l,C⟩:=x (j+1) (w+a) ω ω;refine⟨z,?_,?_⟩;rw[Mo (s':=(((w+a:Nat):Int),((j+1:Nat):Int)))];exact l;simp only[Av (ω:(j:Int)<(ts.length:Int)),Al,Br rfl c,Br rfl hu,Ae,bnt,An,G,g,V,Db (show j<is.length by omega) ω];have D:∀o:B9,(((some a:B9).bind λa=>o.map (a + ·)).map (w + ·))=o.map (w+a + ·):=(by intro o;cases o<;>simp[Nat.add_assoc]);rw[y,D];exact C;refine⟨.inl (0,false),G0 ?_,rfl,λd h=>?_⟩;simp only[Av (ω:(j:Int)<(ts.length:Int)),Al,Br rfl c,Br rfl hu,Ae,G,g,Bool.not_false];cases H:Dc Δ e u with|none=>rw[H]at h;cases h|some a=>rw[H,Ae]at h;have:=y a H;cases A:Cj Δ (is.drop (j+1)) (ts.drop (j+1))with|none=>rw[A]at h;cases h|some b=>rw[A]at h;simp at h;omega);obtain⟨z,l,C⟩:=P is.length 0 0 ω ω;have l:Ak _ ((0:Int),(0:Int))=some z:=l;rw[l,Ae];have D:∀o:B9,o.map (0 + ·)=o:=(by intro o;cases o<;>simp);rw[drop_zero,drop_zero,D]at C;(match z,C with|.inl p,C=>exact⟨_,rfl,.inr ⟨by rw[C.1],C.2⟩⟩|.inr v,C=>obtain⟨d,d1,d3⟩:=C;by_cases hd:d<=6;exact⟨_,rfl,.inl ⟨Av ω,d,d1,hd,d3⟩⟩;exact⟨_,rfl,.inr ⟨A6 ω,λe c=>by rw[d1]at c;cases c;omega⟩⟩);rw[Ga ω,An4 Δ is ts hl];exact⟨_,rfl,.inr ⟨rfl,λd h=>by cases h⟩⟩
theorem Hj.cons8(h:Hj Δ):∀x∈Δ,x.O.length<=8:=by intro x hx;obtain⟨d,hd⟩:=Hw hx;exact(h.2.1 d x hd).2.2.2.1
def Es(n:Int):Prop:= -9223372036854775808<=n/\n<=9223372036854775807
def ti(n:Int):Aa:=(Lib.itoa n).map λc=>(c.toNat:Int)
def Sr(c:Int):Bool:=c==45||(decide (48<=c)&&decide (c<=57))
theorem Zj(h:d<10):(UInt8.ofNat (48+d)).toNat=48+d:=by rw[UInt8.toNat_ofNat'];omega
theorem Aip:∀(n u:Nat),u<=n->∀c∈Lib.decDigits u,48<=c.toNat/\c.toNat<=57:=by intro n;induction n with|zero=>intro u q c g;rw[Lib.decDigits,dif_pos ω]at g;simp only[Ee]at g;subst g;rw[Zj ω];omega|succ n ih=>intro u q c g;rw[Lib.decDigits]at g;split at g;simp only[Ee]at g;subst g;rw[Zj ω];omega;rcases E9.1 g with h|h;exact ih (u/10) ω c h;simp only[Ee]at h;subst h;rw[Zj ω];omega
def Aiq(l:Λ UInt8):Nat:=l.foldl (λa c=>10*a+(c.toNat-48)) 0
theorem Aw0:∀(n u:Nat),u<=n->Aiq (Lib.decDigits u)=u:=by intro n;induction n with|zero=>intro u g;rw[Lib.decDigits,dif_pos ω];simp only[Aiq,foldl_cons,foldl_nil];rw[Zj ω];omega|succ n ih=>intro u g;rw[Lib.decDigits];split;simp only[Aiq,foldl_cons,foldl_nil];rw[Zj ω];omega;have:=ih (u/10) ω;unfold Aiq at *;rw[foldl_append,this];simp only[foldl_cons,foldl_nil];rw[Zj ω];omega
theorem Aw1{u v:Nat}(h:Lib.decDigits u=Lib.decDigits v):u=v:=by rw[<-Aw0 u u (Nat.le_refl _),h,Aw0 v v (Nat.le_refl _)]
theorem Bao(u:Nat):Lib.decDigits u≠[]:=by rw[Lib.decDigits];split<;>simp
theorem Bap(h:Lib.itoa m=Lib.itoa n):m=n:=by(have b:∀u v:Nat,45::Lib.decDigits u≠Lib.decDigits v:=by intro u v e;have:=Aip v v (Nat.le_refl _) 45 (by rw[<-e];simp);exact absurd this δ);unfold Lib.itoa at h;split at h<;>split at h;have:=Aw1 (List.cons.inj h).2;omega;exact absurd h (b _ _);exact absurd h.symm (b _ _);have:=Aw1 h;omega
theorem Kd(n:Int):∀c∈ti n,Sr c=true:=by intro c u;unfold ti at u;obtain⟨b,g,rfl⟩:=mem_map.1 u;(have q:b=45\/(48<=b.toNat/\b.toNat<=57):=by unfold Lib.itoa at g;split at g;rcases F0.1 g with h|h;exact .inl h;exact .inr (Aip _ _ (Nat.le_refl _) b h);exact .inr (Aip _ _ (Nat.le_refl _) b g));unfold Sr;rcases q with rfl|⟨v,w⟩;decide;rw[Bool.or_eq_true,C5,D2,D2];right;omega
theorem Air(n:Int):ti n≠[]:=by unfold ti Lib.itoa;split;simp;simpa using Bao _
theorem W6(h:ti m=ti n):m=n:=by unfold ti at h;(have:∀l m:Λ UInt8,l.map (λc=>(c.toNat:Int))=m.map (λc=>(c.toNat:Int))->l=m:=by intro l;induction l with|nil=>(intro m h;cases m with|nil=>rfl|cons=>simp at h)|cons x xs ih=>intro m h;cases m with|nil=>simp at h|cons y g=>simp only[map_cons,List.cons.injEq]at h;rw[ih g h.2,UInt8.toNat.inj (ω:x.toNat=y.toNat)]);exact Bap (this _ _ h)
theorem Pz(h:Es n):(ti n).length<=21:=by unfold ti;rw[Cp];exact Lib.itoa_length_le n h.1 h.2
def Uu(X:Aa):Prop:=∀c m,X=c::m->Sr c=false/\c≠40
def Nu(X:Aa):Prop:=∀c m,X=c::m->Sr c=false
theorem Ss:∀(a b X Y:Aa),(∀c∈a,Sr c=true)->(∀c∈b,Sr c=true)->Nu X->Nu Y->a++X=b++Y->a=b/\X=Y
 |[],[],_,_,_,_,_,_,h=>⟨rfl,h⟩
 |[],y::b,X,Y,_,q,g,_,h=>by have:=g y (b++Y) h;rw[q y ψ]at this;cases this
 |x::a,[],X,Y,u,_,_,f,h=>by have:=f x (a++X) h.symm;rw[u x ψ]at this;cases this
 |x::a,y::b,X,Y,u,q,g,f,h=>by simp only[Ej,List.cons.injEq]at h;obtain⟨j,i⟩:=Ss a b X Y (λc v=>u c (by simp[v])) (λc v=>q c (by simp[v])) g f h.2;exact⟨by rw[h.1,j],i⟩
mutual
def wx:Ag->List Int
 |⟨n,g⟩=>ti n++(if g.length=0 then[]else 40::(wxs g++[41]))
def wxs:List Ag->List Int
 |[]=>[]
 |x::xs=>wx x++44::wxs xs
end
theorem Ais(i:Ag):wx i=ti i.U++(if i.K.length=0 then[]else 40::(wxs i.K++[41])):=by cases i;simp only[wx]
theorem Aw2(l m:A0):wxs (l++m)=wxs l++wxs m:=by induction l with|nil=>simp[wxs]|cons x xs ih=>simp only[Ej,wxs,ih,append_assoc]
theorem Aw3(kids:A0)(X:Aa)(b:Uu X):Nu ((if kids.length=0 then[]else 40::(wxs kids++[41]))++X):=by intro c m h;by_cases g:kids.length=0;rw[Aq g,nil_append]at h;exact(b c m h).1;rw[Ao g,Ej]at h;cases h;decide
theorem Aw4(X:Aa):Uu (44::X):=by intro c m h;cases h;exact⟨δ,δ⟩
theorem Ait:Uu []:=by intro c m h;cases h
mutual
theorem Aiu:∀(i j:Ag)(X Y:List Int),Uu X->Uu Y->wx i++X=wx j++Y->i=j/\X=Y
 |⟨n,k⟩,⟨C,v⟩,X,Y,w,A,h=>by
  simp only[wx,append_assoc]at h
  obtain⟨B,q⟩:=Ss _ _ _ _ (Kd n) (Kd C) (Aw3 k X w) (Aw3 v Y A) h
  have B:=W6 B
  subst B
  by_cases u:k.length=0
  .by_cases g:v.length=0
   .rw[Aq u,Aq g]at q
    rw[Hb.1 u,Hb.1 g]
    exact⟨rfl,q⟩
   .rw[Aq u,Ao g,nil_append,Ej]at q
    exact absurd rfl (w _ _ q).2
  .by_cases g:v.length=0
   .rw[Ao u,Aq g,nil_append,Ej]at q
    exact absurd rfl (A _ _ q.symm).2
   .rw[Ao u,Ao g,Ej,Ej,append_assoc,append_assoc]at q
    obtain⟨F,G⟩:=Aw5 k v X Y w A (List.cons.inj q).2
    rw[F];exact⟨rfl,G⟩
theorem Aw5:∀(l m:List Ag)(X Y:List Int),Uu X->Uu Y->wxs l++([41]++X)=wxs m++([41]++Y)->l=m/\X=Y
 |[],[],X,Y,_,_,h=>by
  simp only[wxs,nil_append,Ej,List.cons.injEq,true_and]at h
  exact⟨rfl,h⟩
 |[],y::u,X,Y,_,_,h=>by
  exfalso
  cases g:ti y.U with
  |nil=>exact Air _ g
  |cons c r=>
   have q:=Kd y.U c (by rw[g];simp)
   simp only[wxs,Ais y,g,nil_append,Ej,List.cons.injEq]at h
   rw[<-h.1]at q;exact absurd q δ
 |x::xs,[],X,Y,_,_,h=>by
  exfalso
  cases g:ti x.U with
  |nil=>exact Air _ g
  |cons c r=>
   have q:=Kd x.U c (by rw[g];simp)
   simp only[wxs,Ais x,g,nil_append,Ej,List.cons.injEq]at h
   rw[h.1]at q;exact absurd q δ
 |x::xs,y::u,X,Y,v,w,h=>by
  simp only[wxs,append_assoc,Ej]at h
  obtain⟨A,B⟩:=Aiu x y _ _ (Aw4 _) (Aw4 _) h
  obtain⟨C,F⟩:=Aw5 xs u X Y v w (by simpa using B)
  exact⟨by rw[A,C],F⟩
end
mutual
def iR:Ag->Prop
 |⟨n,l⟩=>Es n/\E5 l
def E5:List Ag->Prop
 |[]=>True
 |x::xs=>iR x/\E5 xs
end
theorem Mc(i:Ag):iR i↔Es i.U/\E5 i.K:=by cases i;simp only[iR]
theorem Adp{l:A0}(h:E5 l){a:Ag}(g:a∈l):iR a:=by induction l with|nil=>cases g|cons x xs ih=>simp only[E5]at h;rcases F0.1 g with rfl|g;exact h.1;exact ih h.2 g
mutual
theorem An6:∀i:Ag,iR i->(wx i).length+1<=24*Bt i
 |⟨n,l⟩,h=>by
  simp only[iR]at h
  have q:=Aiv l h.2
  have u:=Pz h.1
  simp only[wx,Bt,D6]
  by_cases g:l.length=0
  .rw[Aq g];simp;omega
  .rw[Ao g];simp;omega
theorem Aiv:∀l:List Ag,E5 l->(wxs l).length<=24*B7 l
 |[],_=>by simp[wxs,B7]
 |x::xs,h=>by
  simp only[E5]at h
  have g:=An6 x h.1
  have q:=Aiv xs h.2
  have u:=Er x
  simp only[wxs,B7,D6,D3];omega
end
theorem Uv(l m:A0):B7 (l++m)=B7 l+B7 m:=by induction l with|nil=>simp[B7]|cons x xs ih=>simp only[Ej,B7,ih];omega
theorem Aiw(l m:A0):E5 (l++m)↔E5 l/\E5 m:=by induction l with|nil=>simp[E5]|cons x xs ih=>simp only[Ej,E5,ih,and_assoc]
theorem An7{n:Int}(h:Es n):R1 n=some ⟨(Lib.itoa n).toArray⟩:=by unfold R1;rw[Aq (show _/\_ from h)]
theorem Baq(n:Int):Pg ⟨(Lib.itoa n).toArray⟩=ti n:=by unfold Pg ti;simp
theorem Aw6:∀(k:Nat)(i:Ag)(b:Aa),Bt i<=k->iR i->b.length+24*Bt i<=1099511627776->Qy k i b=some (b++wx i):=by intro k;induction k with|zero=>intro i b h;have:=Er i;omega|succ k ih=>intro i b h c H;have I:=Er i;have z:=Ri i.K;have c:=(Mc i).1 c;have A:=Pz c.1;rw[Qy,Ais];simp only[J8,An7 c.1,Ae,Ig,Zb,Baq];rw[D7 ω];simp only[Ae];by_cases w:i.K.length=0;rw[A6 ω,Aq w];simp;rw[Av ω,Ao w];simp only[Al,Ov,Zb,Ae];rw[D7 ζ,Ae];have g:=Aiv i.K c.2;(have l:∀j,(wxs (i.K.take j)).length<=24*B7 i.K:=λj=>by have:=Aw2 (i.K.take j) (i.K.drop j);rw[take_append_drop]at this;rw[this,D6]at g;omega);refine Gj i.K (λj=>((j:Int),b++ti i.U++[40]++wxs (i.K.take j))) (by simp[wxs]) ω ?_ ?_;intro j x K v B F G;have M:=Kc (Bu v);have f:=Adp c.2 (Bu v);have y:=An6 x f;have C:=l (j+1);have e:wxs (i.K.take (j+1))=wxs (i.K.take j)++(wx x++[44]):=(by rw[Cu v,Aw2];simp[wxs]);rw[e]at C;simp only[D6,D3,length_nil]at C;simp only[B,F,G,Al,Ae];have u:B7 (i.K.take j)+Bt x<=B7 i.K:=(by have q:=Uv (i.K.take (j+1)) (i.K.drop (j+1));rw[take_append_drop,Cu v,Uv]at q;simp only[B7]at q;omega);have s:(wxs (i.K.take j)).length<=24*B7 (i.K.take j):=Aiv _ (by have:=(Aiw (i.K.take j) (i.K.drop j)).1 (by rw[take_append_drop];exact c.2);exact this.1);rw[ih x _ ω f ζ];simp only[Ae];rw[D7 ζ,e];simp;intro B;refine⟨b++ti i.U++[40]++wxs i.K,ψ,?_⟩;rw[D7 ζ];simp
def Md(v:Int)(i:Ag):Aa:=118::(ti v++58::wx i)
def Mv(v:Int)(i:Ag):Β:=⟨(Fj (Md v i)).toArray⟩
mutual
theorem An8:∀i:Ag,∀c∈wx i,0<=c/\c<256
 |⟨n,l⟩,c,h=>by
  simp only[wx,E9]at h
  rcases h with h|h
  .have:=Kd n c h
   simp only[Sr,Bool.or_eq_true,C5,beq_iff_eq,D2]at this
   omega
  .by_cases g:l.length=0
   .rw[Aq g]at h;cases h
   .rw[Ao g]at h
    simp only[F0,E9,not_mem_nil,or_false]at h
    rcases h with h|h|h
    .omega
    .exact Aw7 l c h
    .omega
theorem Aw7:∀l:List Ag,∀c∈wxs l,0<=c/\c<256
 |[],c,h=>by simp[wxs]at h
 |x::xs,c,h=>by
  simp only[wxs,E9,F0]at h
  rcases h with h|h|h
  .exact An8 x c h
  .omega
  .exact Aw7 xs c h
end
theorem Aix(v:Int)(i:Ag):∀c∈Md v i,0<=c/\c<256:=by intro c h;simp only[Md,F0,E9]at h;rcases h with h|h|h|h;omega;have:=Kd v c h;simp only[Sr,Bool.or_eq_true,C5,beq_iff_eq,D2]at this;omega;omega;exact An8 i c h
theorem An9:∀l m:Aa,(∀c∈l,0<=c/\c<256)->(∀c∈m,0<=c/\c<256)->Fj l=Fj m->l=m
 |[],[],_,_,_=>rfl
 |[],_::_,_,_,h=>by simp[Fj]at h
 |_::_,[],_,_,h=>by simp[Fj]at h
 |x::xs,y::v,q,u,h=>by simp only[Fj,map_cons,List.cons.injEq]at h;have w:=q x ψ;have A:=u y ψ;have e:x.toNat=y.toNat:=(by have:=congrArg UInt8.toNat h.1;rw[UInt8.toNat_ofNat',UInt8.toNat_ofNat']at this;omega);rw[An9 xs v (λc g=>q c (by simp[g])) (λc g=>u c (by simp[g])) h.2,show x=y by omega]
theorem Aw8{v w:Int}{i j:Ag}(h:Mv v i=Mv w j):v=w/\i=j:=by unfold Mv at h;(have u:(Fj (Md v i)).toArray=(Fj (Md w j)).toArray:=by injection h);(have A:Fj (Md v i)=Fj (Md w j):=by simpa using congrArg Array.toList u);have q:=An9 _ _ (Aix v i) (Aix w j) A;simp only[Md,List.cons.injEq,true_and]at q;(have b:∀X:Aa,Nu (58::X):=λX c m e=>by cases e;decide);obtain⟨k,g⟩:=Ss _ _ _ _ (Kd v) (Kd w) (b _) (b _) q;obtain⟨f,_⟩:=Aiu i j [] [] Ait Ait (by simpa using(List.cons.inj g).2);exact⟨W6 k,f⟩
theorem Bar(l:Λ UInt8):Pg ⟨l.toArray⟩=l.map λb=>(b.toNat:Int):=by unfold Pg;simp
theorem Adq(v:Int)(i:Ag)(q:Es v)(f:iR i)(u:Bt i<=1048576):M1 v i=some (Mv v i):=by have k:=Pz q;(have c:(Lib.itoa v).length=(ti v).length:=by unfold ti;simp);unfold M1;(have j:Hg (ByteArray.mk #[118]) ⟨(Lib.itoa v).toArray⟩=some ⟨(118::Lib.itoa v).toArray⟩:=by unfold Hg;rw[Aq];congr 1;show 1+(Lib.itoa v).toArray.size<=9223372036854775807;rw[size_toArray];omega);(have h:Hg ⟨(118::Lib.itoa v).toArray⟩ (ByteArray.mk #[58])=some ⟨(118::(Lib.itoa v++[58])).toArray⟩:=by unfold Hg;rw[Aq];congr 1;show(118::Lib.itoa v).toArray.size+1<=9223372036854775807;rw[size_toArray,D3];omega);simp only[J8,An7 q,Ae,j,h,K8,Acf,Bar];rw[D7 ζ];simp only[Ae];rw[Aw6 4000000 i _ ω f ζ];simp only[Ae,M2];(have g:([]++(118::(Lib.itoa v++[58])).map λb=>(b.toNat:Int))++wx i=Md v i:=by unfold Md ti;simp);rw[g];unfold Vz Mv;rw[Aq (Aix v i)];rfl
end Go.Ab
