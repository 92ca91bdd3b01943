/- Plain laws. -/
import Derived.Test.YtgfjdimemmhmeaaGreatDoorMuPl3
open List
namespace Go.Ab
open Go
variable{e i:Af}{t:Ah}{y:Ay}{x:Bh}{ps:D4}{es:A2}{L R p:Ap}{Δ:Ad}{A B l:A7}{K N a b d j k m n:Nat}{g:Nat->Nat}{α β:Type}{cmp:α->α->A9}
theorem Axn(x:Bh)(g:CSz x)(ps:D4)(B:∀p∈ps,∀t∈p,TSz t)(L:ps.length<=1048576):∃r,Qc x ps=some r/\(((I1 x/\∀p∈ps,K1 x.D x.V x.E p=true)/\∃A,r=.inl (true,x,A,[],x.D,x.V,x.E.G,x.E.U,x.E.R)/\Ed x.D x.V x.E A)\/((¬(I1 x/\∀p∈ps,K1 x.D x.V x.E p=true))/\r=.inr false)):=by obtain⟨b,Q,F⟩:=Anf g.ds;have J:=g.nv;have I:=g.rs;unfold Qc;rw[Q,Adg x.D x.E 0 ω];by_cases l:x.V.length<=3000;rw[Au ω];simp only[Al,Ac];(cases b with|false=>exact⟨_,rfl,.inr ⟨λh=>(by have:=F.2 h.1.2.1;cases this),rfl⟩⟩|true=>have G:=F.1 rfl;simp only[Fc,Al];cases H:(H3 x.D 0 x.E&&decide (Bu x.E<=200))with|false=>exact⟨_,rfl,.inr ⟨λh=>(by have:=h.1.2.2.1;rw[show Hm x.D x.E=false from H]at this;cases this),rfl⟩⟩|true=>simp only[Fc,Al,Ac];refine Ft (λi=>∃j:Nat,i=j/\j<=x.V.length/\(x.V.take j).all (Hm x.D)=true) (λi=>x.V.length-i.toNat) (λz=>match z with|.inl r=>r=false/\¬I1 x|.inr _=>I1 x) ⟨0,rfl,ω,ψ⟩ ?_ ?_;rintro i ⟨j,rfl,S,c⟩;rcases Cj j x.V.length with h|h;have v:x.V[j]?=some x.V[j]:=Bi h;generalize x.V[j]=t at v;have:=g.vs t (Bm v);simp only[An (ω:(j:Int)<(x.V.length:Int)),Ak,Bq rfl v,Ac,Adg x.D t 0 ω,Dl h ω];rw[show(H3 x.D 0 t&&decide (Bu t<=200))=Hm x.D t from rfl];(cases M:Hm x.D t with|true=>exact .inl ⟨_,rfl,⟨j+1,rfl,ω,by rw[Cs v,all_append,c];simp[M]⟩,ζ⟩|false=>refine .inr ⟨.inl false,rfl,rfl,λD=>?_⟩;have:=Jq.1 D.2.2.2 t (Bm v);rw[M]at this;cases this);have:j=x.V.length:=ω;subst this;rw[Dh]at c;exact .inr ⟨.inr (),ψ,l,G,H,c⟩;rintro(r|u) f;obtain⟨rfl,f⟩:=f;exact⟨_,rfl,.inr ⟨λh=>f h.1,rfl⟩⟩;have P:I1 x:=f;simp only;refine Ft (λs=>∃(j:Nat)(o:At),s=((j:Int),o)/\j<=ps.length/\Ed x.D x.V x.E o/\∀p∈ps.take j,K1 x.D x.V x.E p=true) (λs=>ps.length-s.1.toNat) (λz=>match z with|.inl r=>r=false/\¬(∀p∈ps,K1 x.D x.V x.E p=true)|.inr o=>Ed x.D x.V x.E o/\∀p∈ps,K1 x.D x.V x.E p=true) ⟨0,[],rfl,ω,(λq h=>by cases h),(λq h=>by simp at h)⟩ ?_ ?_;rintro _ ⟨j,o,rfl,S,E,c⟩;rcases Cj j ps.length with h|h;have v:ps[j]?=some ps[j]:=Bi h;generalize ps[j]=p at v;have k:=Bm v;obtain⟨A,T,U⟩:=A9e (P.ctx g) [] E p (B p k);simp only[An (ω:(j:Int)<(ps.length:Int)),Ak,Bq rfl v,Ac,T,Dl h ω];(cases y:K1 x.D x.V x.E p with|true=>(refine .inl ⟨_,rfl,⟨j+1,A,rfl,ω,U,λq w=>?_⟩,ζ⟩;rw[Cs v]at w;rcases Ea.1 w with w|w;exact c q w;simp only[Fh]at w;subst w;exact y)|false=>refine .inr ⟨.inl false,rfl,rfl,λD=>?_⟩;have:=D p k;rw[y]at this;cases this);have:j=ps.length:=ω;subst this;rw[Dh]at c;exact .inr ⟨.inr o,ψ,E,c⟩;rintro(r|o) C;obtain⟨rfl,C⟩:=C;exact⟨_,rfl,.inr ⟨λh=>C h.2,rfl⟩⟩;exact⟨_,rfl,.inl ⟨⟨P,C.2⟩,o,rfl,C.1⟩⟩);rw[An ω];exact⟨_,rfl,.inr ⟨λh=>l h.1.1,rfl⟩⟩
theorem Baq{Ξ:A1}{Θ:Ah}{m:A4}(h:Ji Δ Ξ Θ m=true)(k:MSz m):CMo m:=by have q:=(A9i h).2;unfold Ji at h;simp only[Ec,Es]at h;obtain⟨⟨u,v⟩,D⟩:=h;(have b:∀f∈m.F,0<=Dt Δ Ξ Θ f:=by intro f q;obtain⟨j,r⟩:=Gl q;have:=Kj u r;simp only[M9,Ec,Es]at this;omega);(have o:∀a∈m.A,1<=a.P/\Ii a.L=true/\a.L.T≠[]:=by intro a o;obtain⟨j,r⟩:=Gl o;have:=Kj v r;simp only[Lh,Ec,Es]at this;refine⟨this.1.1.1.1,this.1.1.1.2,λe=>?_⟩;have i:=this.1.1.2;rw[e]at i;simp at i);(obtain⟨E,F,w⟩:=Ads m.A λa h=>by have:=(o a h).1;omega);have f1:=Av4 m.F b;(have G:(m.A.length:Int)<=Co m.A:=by have s:∀l:A7,(∀a∈l,1<=a.P)->(l.length:Int)<=Co l:=(by intro l;induction l with|nil=>intro _;simp[Co]|cons f H ih=>intro c;have u:=c f ψ;have v:=ih λg C=>c g (by simp[C]);unfold Co at *;simp only[map_cons,sum_cons,Eo];omega);exact s _ λa h=>(o a h).1);exact⟨k,q,ω,λa h=>⟨(o a h).2.1,(o a h).2.2,(o a h).1,by have:=w a h;omega⟩⟩
def Fm(x:Bh)(m:A4):Prop:=Ji x.D x.V x.E m=true/\MSz m
theorem Fm.cmo{m:A4}(h:Fm x m):CMo m:=Baq h.1 h.2
structure Kd(x:Bh)(p:List Aj):Prop where
 can:K1 x.D x.V x.E p=true
 sz:∀t∈p,TSz t
theorem Kd.cp(h:Kd x p):CP p:=(Ai7.1 h.can).2.1
theorem Kd.mo(h:Kd x p):∀t∈p,Fm x t.M:=λt o=>⟨(Ai7.1 h.can).2.2 t o,(h.sz t o).mo⟩
theorem Kd.of(hc:CP p)(b:∀t∈p,Fm x t.M)(o:∀t∈p,RB 1048576 t.C)(c:p.length<=1000):Kd x p:=⟨Ai7.2 ⟨c,hc,λt h=>(b t h).1⟩,λt h=>⟨o t h,(b t h).2⟩⟩
theorem Kd.tb(h:Kd x p):∀t∈p,RB 1048576 t.C/\Fm x t.M:=λt o=>⟨(h.sz t o).co,h.mo t o⟩
def bc:Nat->Nat->Nat
 |_,0=>1
 |0,_+1=>0
 |n+1,k+1=>bc n k+bc n (k+1)
theorem Kn(n:Nat):bc n 0=1:=by cases n<;>rfl
theorem Aow:∀{n k:Nat},n<k->Iq n k=0
 |n,0,h=>absurd h ω
 |n,k+1,h=>by rw[Iq];by_cases e:n<k;rw[Aow e,Nat.zero_mul];rw[show n-k=0 by omega,Nat.mul_zero]
theorem Axo(n:Nat):∀k,Iq (n+1) (k+1)=(n+1)*Iq n k
 |0=>by simp[Iq]
 |k+1=>by rw[Iq,Axo n k,Iq,show n+1-(k+1)=n-k by omega,Nat.mul_assoc]
theorem Ajg:∀n k,Iq n k=fct k*bc n k
 |n,0=>by rw[Kn];rfl
 |0,k+1=>by rw[Aow ω];simp[bc]
 |n+1,k+1=>by have h:=Ajg n (k+1);have o:=Ajg n k;rw[Axo,bc,Nat.mul_add,<-h,fct,Iq,Nat.mul_right_comm,<-o];by_cases e:k<=n;rw[<-Nat.mul_add,Nat.mul_comm,show k+1+(n-k)=n+1 by omega];rw[Aow ω];simp
theorem Ad7:∀n k,bc n k<=2^n
 |n,0=>by rw[Kn];exact Nat.one_le_two_pow
 |0,k+1=>by simp[bc]
 |n+1,k+1=>by have h:=Ad7 n (k+1);have o:=Ad7 n k;rw[bc,Nat.pow_succ];omega
def cR(n:Nat):Ay:=Cd false n 1
theorem Xe(n:Nat):sv (cR n)=false/\nv (cR n)=n/\dv (cR n)=1:=by obtain⟨g,f,c,b⟩:=Aiw false n 1 δ;refine⟨?_,?_,?_⟩;by_cases h:n=0;exact b h;exact c h;unfold cR;rw[g];simp;unfold cR;rw[f];simp
theorem Ll(h:Bw n<=k)(o:1<=k):RB k (cR n):=Sf _ _ _ _ h (by rw[Um];exact o) o
theorem Bar(o:Bw a<=K)(hb:Bw b<=K)(c:1<=K)(h:K<60000000000):N7 (cR a) (cR b)=some (cR (a+b)):=by obtain⟨q,r,s⟩:=Xe a;obtain⟨u,v,f⟩:=Xe b;rw[Aiv _ _ K K (Ll o c) (Ll hb c) ω ω,q,r,s,u,v,f];simp[Ol,Na,cR]
theorem Bas:Hy 0=some (cR 0):=Aiu 0 δ δ
theorem Pv:Hy 1=some (cR 1):=Aiu 1 δ δ
theorem Bat(n k:Nat)(h:n<1000000000)(o:k<=64):Rs (n:Int) (k:Int)=some (cR (bc n k),true):=by unfold Rs;(have e:(if(n:Int)>0 then(n:Int)else 0)=(n:Int):=by split<;>omega);simp only[Au (ω:¬(k:Int)<0),Al,Au (ω:¬(k:Int)>64),Ac,e,Awl n k h o];rw[Ajg,show Cd false (fct k*bc n k) (fct k)=Cd false (fct k*bc n k) (fct k*1)by rw[Nat.mul_one],Un _ _ _ _ (Ai3 k)];rfl
theorem Bau(n k:Nat)(h:n<1000000000)(o:k<=64):Rs (n:Int) (k:Int)=some (cR (bc n k),true):=Bat n k h o
theorem Xf(Δ:Ad):∀(is:A2)(ts:A1)(d:Nat),Cg Δ is ts=some d->is.length=ts.length/\∀(j:Nat)(i:Af)(t:Ah),is[j]?=some i->ts[j]?=some t->∃e,C7 Δ i t=some e/\e<=d
 |[],[],d,_=>⟨rfl,λj i t h=>by simp at h⟩
 |i::is,t::ts,d,h=>by rw[Mn]at h;cases o:C7 Δ i t with|none=>rw[o]at h;cases h|some a=>rw[o,Ac]at h;cases q:Cg Δ is ts with|none=>rw[q]at h;cases h|some b=>rw[q]at h;have h:a+b=d:=E6 h;obtain⟨u,v⟩:=Xf Δ is ts b q;refine⟨by simp[u],λj c t' r s=>?_⟩;cases j with|zero=>cases r;cases s;exact⟨a,o,ω⟩|succ j=>obtain⟨e,f,g⟩:=v j c t' r s;exact⟨e,f,ω⟩
 |[],_::_,_,h=>by simp only[Cg]at h;cases h
 |_::_,[],_,h=>by simp only[Cg]at h;cases h
structure Asc(b:List Int)(n:Nat)(l:List Int):Prop where
 up:l.Pairwise (· < ·)
 mem:∀y,y∈l↔y∈b.take n
theorem Asc.same{b:Ae}{q:Nat}{l:Ae}{x:Int}(h:Asc b (q+1) l)(hp:b[q]?=some x)(hx:b[q+1]?=some x):Asc b (q+2) l:=by refine⟨h.up,λy=>?_⟩;rw[Cs hx,Ea,h.mem y];constructor;exact .inl;rintro(h1|h1);exact h1;rw[Fh]at h1;subst h1;rw[Cs hp];simp
theorem Uu{l:Λ α}{off:Nat}{i:Int}{x:α}(hi:i=j)(o:j<n)(h:l[off+j]?=some x):Gk l off n i=some x:=by subst hi;unfold Gk;rw[Av ω];simpa using h
noncomputable def Z3(cmp:α->α->A9)(a0:Int):Int×List α->Ο ((Int×List α)⊕(Int×List α)):=λ(h,b)=>(show OB from bif h>a0 then((Ag b h).bind λq=>(Ag b (Aa (h-1))).bind λg=>(cmp q g).bind λr=>some (decide (r<(0:Int))))else some false).bind λf=>bif f then((Ag b (Aa (h-1))).bind λo=>(Ag b h).bind λc=>(Ag b h).bind λs=>(Ag (Cl b h o) (Aa (h-1))).bind λu=>some (.inl (Aa (h-1),Cl (Cl b h o) (Aa (h-1)) c)))else some (.inr (h,b))
noncomputable def Ad8(cmp:α->α->A9)(a0 a1:Int)(g:Λ α):Ο (List α):=(Am (S:=(Int×(List α))) (E:=(List α)) (λ(h,b)=>bif h<a1 then((Am (Z3 cmp a0) (h,b)).bind λ(o,f)=>some (.inl (Aa (h+1),f)))else(some (.inr b))) (Aa (a0+1),g)).bind λc=>some c
theorem Bav(A R:Λ α)(x y:α):((A++y::x::R).set (A.length+1) y).set A.length x=A++x::y::R:=by induction A with|nil=>rfl|cons a A ih=>simp only[Fd,Eo,set_cons_succ,ih]
theorem Axp(A R:Λ α)(x:α):(A++x::R)[A.length]?=some x:=by simp
theorem Baw(A R:Λ α)(x y:α):(A++y::x::R)[A.length+1]?=some x:=by induction A with|nil=>rfl|cons a A ih=>simp
theorem Bax(cmp:α->α->A9)(y:α)(R:Λ α):Z3 cmp 0 (0,y::R)=some (.inr (0,y::R)):=by unfold Z3;simp only[Au (ω:¬(0:Int)>0),Al,Ac]
theorem Bay{c:α->α->Int}(i:N<=1099511627776)(A R:Λ α)(u y:α)(b:cmp u y=some (c u y))(f:(A++y::u::R).length<=N):Z3 cmp 0 (((A.length+1:Nat):Int),A++y::u::R)=if c u y<0 then some (.inl ((A.length:Int),A++u::y::R))else some (.inr (((A.length+1:Nat):Int),A++y::u::R)):=by(have h:A.length+1<N:=by simp at f;omega);(have g:Aa (((A.length+1:Nat):Int)-1)=(A.length:Int):=by rw[Aa,Bz]<;>omega);unfold Z3;simp only[An (ω:((A.length+1:Nat):Int)>0),Ak,g,Bq (n:=A.length+1) rfl (Baw A R u y),Bq (n:=A.length) rfl (Axp A (u::R) y),Ac,b];by_cases o:c u y<0;rw[An o,Av o];simp only[Ak];rw[Gw (n:=A.length+1) rfl,Gw (n:=A.length) rfl,Bav];have:Ag ((A++y::u::R).set (A.length+1) y) (A.length:Int)=some y:=(by refine Bq rfl ?_;rw[getElem?_set_ne ω];exact Axp A (u::R) y);rw[this];rfl;rw[Au o,As o];rfl
theorem Baz{c:α->α->Int}(s:N<=1099511627776):∀(n:Nat)(A R:Λ α)(x:α),A.length=n->(∀t∈A,cmp x t=some (c x t))->(A++x::R).length<=N->∃f i,Am (Z3 cmp 0) ((A.length:Int),A++x::R)=some ((f.length:Int),f++x::(i++R))/\A=f++i/\(∀a∈i,c x a<0)/\∀k y,f=k++[y]->¬c x y<0:=by intro n;induction n with|zero=>intro A R x g _ _;have:A=[]:=F5.1 g;subst this;exact⟨[],[],Ej (Bax cmp x R),rfl,nofun,(λk y h=>by simp at h)⟩|succ n ih=>intro A R x g l b;(obtain⟨B,y,rfl⟩:∃B y,A=B++[y]:=by rcases eq_nil_or_concat A with h|⟨B,y,h⟩;rw[h]at g;cases g;exact⟨B,y,by simpa using h⟩);have u:B.length=n:=(by simpa using g);have E:(B++[y])++x::R=B++y::x::R:=ψ;have el:(((B++[y]).length:Nat):Int)=((B.length+1:Nat):Int):=ψ;rw[E]at b⊢;rw[el];have j:=Bay (cmp:=cmp) (c:=c) s B R x y (l y ψ) b;by_cases r:c x y<0;rw[Av r]at j;obtain⟨f,i,v,w,C,D⟩:=ih B (y::R) x u (λt F=>l t (by simp[F])) (by simpa using b);refine⟨f,i++[y],?_,by rw[w];simp,?_,D⟩;rw[Ks j,v];simp;intro a o;rcases Ea.1 o with o|o;exact C a o;simp only[Fh]at o;subst o;exact r;rw[As r]at j;refine⟨B++[y],[],?_,ψ,nofun,?_⟩;rw[Ej j];simp;intro k z q;have:=append_inj' q rfl;have e:y=z:=(by simpa using this.2);subst e;exact r
theorem Ba0{c:α->α->Int}(L:P8 c){f j:Λ α}{x:α}(s:(f++j).Pairwise λa b=>¬c b a<0)(u:∀a∈j,c x a<0)(v:∀g y,f=g++[y]->¬c x y<0):(f++x::j).Pairwise (λa b=>¬c b a<0):=by obtain⟨i,l,k⟩:=pairwise_append.1 s;(have w:∀a∈f,¬c x a<0:=by intro a o;rcases eq_nil_or_concat f with h|⟨g,y,h⟩;rw[h]at o;cases o;have h:f=g++[y]:=(by simpa using h);have q:=v g y h;rw[h]at o i;rcases Ea.1 o with o|o;exact L.ntr x y a q ((pairwise_append.1 i).2.2 a o y ψ);simp only[Fh]at o;subst o;exact q);refine pairwise_append.2 ⟨i,pairwise_cons.2 ⟨λa o h=>L.irr x (L.trs x a x (u a o) h),l⟩,λa o b r=>?_⟩;rcases En.1 r with rfl|r;exact w a o;exact k a o b r
theorem Axq{c:α->α->Int}(L:P8 c)(f:Λ α)(A:∀x∈f,∀y∈f,cmp x y=some (c x y))(M:f.length<=1099511627776):∃R,Ad8 cmp 0 (f.length:Int) f=some R/\R.Perm f/\R.Pairwise (λa b=>¬c b a<0):=by
 unfold Ad8;cases f with
 |nil=>refine⟨[],?_,Perm.refl _,Pairwise.nil⟩;refine Ml 0 (λ_=>((1:Int),([]:Λ α))) (by simp[Aa,Bz]) (λj P=>ω) ⟨[],?_,rfl⟩;simp
 |cons F B=>
 generalize k:F::B=f at *;have o:1<=f.length:=by rw[<-k];simp
 refine Ft (λs=>∃(i:Nat)(S:Λ α),s=((i:Int),S++f.drop i)/\1<=i/\i<=f.length/\S.length=i/\S.Perm (f.take i)/\S.Pairwise λa b=>¬c b a<0) (λs=>f.length-s.1.toNat) (λR=>R.Perm f/\R.Pairwise λa b=>¬c b a<0) ⟨1,[F],by rw[<-k];simp[Aa,Bz],ω,o,rfl,by rw[<-k];simp,pairwise_singleton _ _⟩ ?_ ?_
 .rintro _ ⟨i,S,rfl,G,Q,E,g,l⟩;rcases Cj i f.length with h|h
  .have C:f[i]?=some f[i]:=Bi h;have r:f[i]∈f:=getElem_mem h;generalize f[i]=x at C r;have D:f.drop i=x::f.drop (i+1):=Mo C;have z:(S++x::f.drop (i+1)).length=f.length:=ζ;simp only[An (ω:(i:Int)<(f.length:Int)),Ak,Dl h ω];rw[D];left;obtain⟨u,q,v,w,H,I⟩:=Baz (cmp:=cmp) (c:=c) (N:=f.length) ω S.length S (f.drop (i+1)) x rfl (λt J=>A x r t (mem_of_mem_take (g.mem_iff.1 J))) (by rw[z];exact Nat.le_refl _);rw[E]at v;have hp:(u++x::q).Perm (f.take (i+1)):=(by rw[Cs C];have:(u++x::q).Perm ((u++q)++[x]):=(by rw[append_assoc];exact Perm.append_left u (perm_append_singleton x q).symm);exact this.trans (by rw[<-w];exact g.append_right [x]));refine⟨(((i+1:Nat):Int),(u++x::q)++f.drop (i+1)),Ff v ψ,⟨i+1,u++x::q,rfl,ω,ω,?_,hp,?_⟩,ζ⟩
   .rw[hp.length_eq,length_take];omega
   .rw[w]at l;exact Ba0 L l H I
  .have:i=f.length:=ω;subst this;rw[Dh]at g;simp only[Au (ω:¬(f.length:Int)<(f.length:Int)),Al,drop_length,append_nil];exact .inr ⟨S,rfl,g,l⟩
 .rintro R ⟨v,w⟩;exact⟨R,rfl,v,w⟩
noncomputable def Ajh(B:Nat)(gr:Int->Ο (List α))(a0:Λ (List α)):Ο (List α):=(Am (S:=(Int×Int)) (E:=Int) (λ(o,q)=>bif q<(a0.length:Int)then((Ag a0 q).bind λr=>bif(Aa (o+(r.length:Int)))<(0:Int)then(none)else(some (.inl (Aa (o+(r.length:Int)),Aa (q+1)))))else(some (.inr o))) (0,0)).bind λs=>(gr s).bind λi=>(Am (S:=(Int×(List α))) (E:=(List α)) (λ(b,c)=>bif b<(a0.length:Int)then((Ag a0 b).bind λf=>(B5 B c f).bind λh=>some (.inl (Aa (b+1),h)))else(some (.inr c))) (0,i)).bind λg=>some g
theorem Aox{B:Nat}(g:B<=1024){gr:Int->Ο (List α)}(hg:∀n:Nat,n<=1000000->gr (n:Int)=some [])(a b:Λ α)(h:a.length+b.length<=1000000):Ajh B gr [a,b]=some (a++b):=by have u:a.length*B<=1000000*1024:=Nat.mul_le_mul ω g;have v:(a.length+b.length)*B<=1000000*1024:=Nat.mul_le_mul h g;(have f:Aa 1=1:=by rw[Aa,Bz]<;>omega);(have c:Aa 2=2:=by rw[Aa,Bz]<;>omega);(have k:Aa (a.length:Int)=(a.length:Int):=by rw[Aa,Bz]<;>omega);(have i:Aa ((a.length:Int)+(b.length:Int))=((a.length:Int)+(b.length:Int)):=by rw[Aa,Bz]<;>omega);have o:Ag [a,b] 0=some a:=rfl;have r:Ag [a,b] 1=some b:=rfl;(have q:B5 B [] a=some a:=by rw[Dj ζ];rfl);have l:B5 B a b=some (a++b):=Dj ω;unfold Ajh;refine Ml 2 (λj=>if j=0 then(0,0)else if j=1 then((a.length:Int),1)else(((a.length+b.length:Nat):Int),2)) rfl ?_ ⟨((a.length+b.length:Nat):Int),?_,?_⟩;intro j s;rcases(ω:j=0\/j=1)with rfl|rfl;have:¬((a.length:Int)<0):=ω;simp[o,k,f,this];have:¬((a.length:Int)+(b.length:Int)<0):=ω;simp[r,i,c,this];simp;rw[hg _ h,Ac];refine Ml 2 (λj=>if j=0 then(0,[])else if j=1 then(1,a)else(2,a++b)) rfl ?_ ⟨a++b,?_,rfl⟩;intro j s;rcases(ω:j=0\/j=1)with rfl|rfl;simp[o,f,q];simp[r,c,l];simp
def sm:Nat->(Nat->Nat)->Nat
 |0,_=>0
 |n+1,f=>sm n f+f n
theorem Z4{f g:Nat->Nat}:∀{n:Nat},(∀k,k<n->f k=g k)->sm n f=sm n g
 |0,_=>rfl
 |n+1,h=>by rw[sm,sm,Z4 (n:=n) λk o=>h k ω,h n ω]
theorem Xg(f g:Nat->Nat):∀n,sm n (λk=>f k+g k)=sm n f+sm n g
 |0=>rfl
 |n+1=>by simp only[sm,Xg f g n];omega
theorem Axr(c:Nat)(f:Nat->Nat):∀n,sm n (λk=>c*f k)=c*sm n f
 |0=>rfl
 |n+1=>by simp only[sm,Axr c f n,Nat.mul_add]
theorem Xh{f:Nat->Nat}:∀{n:Nat},(∀k,k<n->f k=0)->sm n f=0
 |0,_=>rfl
 |n+1,h=>by rw[sm,Xh (n:=n) λk o=>h k ω,h n ω]
theorem Ad9(f:Nat->Nat):∀n,sm (n+1) f=f 0+sm n (λk=>f (k+1))
 |0=>by simp[sm]
 |n+1=>by rw[sm,Ad9 f n,sm];omega
theorem Axs{f:Nat->Nat}{n:Nat}:∀{m:Nat},n<=m->(∀k,n<=k->f k=0)->sm m f=sm n f
 |0,h,_=>by rw[show n=0 by omega]
 |m+1,h,o=>by by_cases e:n=m+1;rw[e];rw[sm,Axs (m:=m) ω o,o m ω,Nat.add_zero]
theorem Aea{f:Nat->Nat}(o:k<n)(h:∀j,j≠k->f j=0):sm n f=f k:=by induction n with|zero=>omega|succ n ih=>rw[sm];by_cases e:k=n;subst e;rw[Xh λj q=>h j ω,Nat.zero_add];rw[ih ω,h n ω,Nat.add_zero]
theorem Xi:∀n,bc n n=1
 |0=>rfl
 |n+1=>by
  rw[bc,Xi n]
  have:bc n (n+1)=0:=by have:=bc_big2 n (n+1) ω;exact this
  omega
where bc_big2:∀n k,n<k->bc n k=0
 |n,0,h=>absurd h ω
 |0,k+1,_=>rfl
 |n+1,k+1,h=>by rw[bc,bc_big2 n k ω,bc_big2 n (k+1) ω]
theorem Z5(h:n<k):bc n k=0:=Xi.bc_big2 n k h
theorem Z6(n k:Nat):bc (n+1) (k+1)=bc n k+bc n (k+1):=by rw[bc]
def Rc(a b k:Nat):Nat:=if b<=k then bc k a*bc a (k-b)else 0
theorem Axt(h:a+b<k):Rc a b k=0:=by unfold Rc;rw[Av ω,Z5 (show a<k-b by omega),Nat.mul_zero]
theorem Axu(h:k<a):Rc a b k=0:=by unfold Rc;split;rw[Z5 h,Nat.zero_mul];rfl
theorem Aeb(b k:Nat):Rc 0 b k=if k=b then 1 else 0:=by unfold Rc;by_cases h:k=b;subst h;rw[Av (Nat.le_refl _),Av rfl,Nat.sub_self,Kn,Kn];rw[As h];split;rw[Z5 (show 0<k-b by omega),Nat.mul_zero];rfl
theorem Aec(a k:Nat):Rc a 0 k=if k=a then 1 else 0:=by unfold Rc;rw[Av (Nat.zero_le _),Nat.sub_zero];by_cases h:k=a;subst h;rw[Av rfl,Xi];rw[As h];rcases Cj k a with o|o;rw[Z5 o,Nat.zero_mul];rw[Z5 (show a<k by omega),Nat.mul_zero]
theorem Axv(a b k:Nat):Rc (a+1) (b+1) (k+1)=Rc a (b+1) k+Rc (a+1) b k+Rc a b k:=by unfold Rc;by_cases h:b<=k;rw[Av ω,Av h,Av h,show k+1-(b+1)=k-b by omega,Z6];by_cases o:b+1<=k;rw[Av o];obtain⟨j,q⟩:∃j,k-b=j+1:=⟨k-b-1,ω⟩;rw[q,show k-(b+1)=j by omega,Z6];simp only[Nat.add_mul,Nat.mul_add];omega;rw[As o,show k-b=0 by omega,Kn,Kn];omega;rw[As ω,As h,As h,As ω]
theorem Axw(a b:Nat):Rc (a+1) (b+1) 0=0:=by unfold Rc;rw[As ω]
theorem Ba1(f:Nat->Nat)(n N:Nat):sm (N+1) (λk=>f k*bc (n+1) k)=sm (N+1) (λk=>f k*bc n k)+sm N (λk=>f (k+1)*bc n k):=by rw[Ad9,Ad9 λk=>f k*bc n k,Kn,Kn];(have:sm N (λk=>f (k+1)*bc (n+1) (k+1))=sm N (λk=>f (k+1)*bc n (k+1))+sm N (λk=>f (k+1)*bc n k):=by rw[<-Xg];exact Z4 λk _=>by rw[Z6,Nat.mul_add];omega);rw[this];omega
theorem Xj:∀(n a b N:Nat),a+b<N->sm N (λk=>Rc a b k*bc n k)=bc n a*bc n b
 |n,0,b,N,h=>by rw[Kn,Nat.one_mul,Aea (k:=b) ω λj o=>by rw[Aeb,As o,Nat.zero_mul],Aeb,Av rfl,Nat.one_mul]
 |n,a+1,0,N,h=>by rw[Kn,Nat.mul_one,Aea (k:=a+1) ω λj o=>by rw[Aec,As o,Nat.zero_mul],Aec,Av rfl,Nat.one_mul]
 |0,a+1,b+1,N,h=>by rw[show bc 0 (a+1)=0 from rfl,Nat.zero_mul];refine Xh λk _=>?_;cases k with|zero=>rw[Axw,Nat.zero_mul]|succ k=>rw[show bc 0 (k+1)=0 from rfl,Nat.mul_zero]
 |n+1,a+1,b+1,N,h=>by obtain⟨N,rfl⟩:∃M,N=M+1:=⟨N-1,ω⟩;rw[Ba1,Xj n (a+1) (b+1) (N+1) h];have q:=Xj n a (b+1) N ω;have r:=Xj n (a+1) b N ω;have s:=Xj n a b N ω;have c:sm N (λk=>Rc (a+1) (b+1) (k+1)*bc n k)=sm N (λk=>Rc a (b+1) k*bc n k)+sm N (λk=>Rc (a+1) b k*bc n k)+sm N (λk=>Rc a b k*bc n k):=(by rw[<-Xg,<-Xg];exact Z4 λk _=>by rw[Axv,Nat.add_mul,Nat.add_mul]);rw[c,q,r,s,Z6,Z6,Nat.add_mul,Nat.mul_add,Nat.mul_add];omega
theorem Ba2{f:Nat->Nat}(h:∀n,n<N->sm N (λk=>f k*bc n k)=sm N λk=>g k*bc n k):∀k,k<N->f k=g k:=by intro k;induction k using Nat.strongRecOn with|ind k ih=>intro r;(have o:∀F:Nat->Nat,sm N (λj=>F j*bc k j)=sm k (λj=>F j*bc k j)+F k:=by intro F;(have e:sm N (λj=>F j*bc k j)=sm (k+1) (λj=>F j*bc k j):=Axs ω λj q=>by rw[Z5 ω,Nat.mul_zero]);rw[e,sm,Xi,Nat.mul_one]);have:=h k r;rw[o f,o g,Z4 (f:=λj=>f j*bc k j) (g:=λj=>g j*bc k j) λj q=>by rw[ih j q ω]]at this;omega
theorem Ba3:Aba=some true:=by kernel_rfl
def Axx(l:A7):Ae:=l.flatMap λa=>a.L.T.map (·.v)
def Aed(m:A4):Ae:=m.F.map (·.v)++Axx m.A
theorem Axy(l:Ae)(b:l.length<=1099511627776):Yq l l=some true:=by unfold Yq;rw[Et rfl,Al];refine Fi l (λj=>(j:Int)) rfl ω ?_ ?_;intro j x s u o q r;simp only[o,q,r,Ak,Ac,bne_self_eq_false,Al];intro h;exact⟨.inr (),by simp only[h];rfl,rfl⟩
theorem Ba4(a:Ay)(h:a.U.length<=1099511627776)(o:a.B.length<=1099511627776):Yh a a=some true:=by unfold Yh;rw[beq_self_eq_true,Ak,Axy _ h,Ac,Ak,Axy _ o,Ac]
theorem Aoy:∀(k:Nat)(t:Af),Br t<=k->k<1099511627776->Rx k t=some t:=by intro k;induction k with|zero=>intro t h;have:=Dy t;omega|succ k ih=>intro t h u;have c:=Dy t;have b:=Ly t.K;rw[Rx];refine Fi t.K (λj=>((j:Int),t.K.take j)) rfl ω ?_ ?_;intro j x v o q r s;have:=Jh (Bm o);simp only[q,r,s,Ak,Ac,ih x ω ω];rw[Dj ζ,Ac,Cs o];intro q;exact⟨t.K,ψ,by cases t;rfl⟩
theorem Ba5(m:A4)(b:MSz m):Abr m=some m:=by have g:=b.nf;have f:=b.na;unfold Abr;refine Fi m.F (λj=>((j:Int),m.F.take j)) rfl ω ?_ ?_;intro j x s h o q r;have c:=Bm h;have:=b.fi x c;simp only[o,q,r,Ak,Ac,Aoy 4000000 x.I ω ω];rw[Dj ζ,Ac,Cs h];intro o;refine⟨m.F,ψ,?_⟩;dsimp only;refine Fi m.A (λj=>((j:Int),m.A.take j)) rfl ω ?_ ?_;intro j x s h o q r;have c:=Bm h;have:=b.al x c;simp only[o,q,r,Ak,Ac,Yw];rw[Dj ζ,Ac,Ac,Dj ζ,Ac,Cs h];rfl;intro o;exact⟨m.A,ψ,by cases m;rfl⟩
theorem Aoz(b:Λ α)(n k:Nat)(z x:α)(G:n<=b.length)(U:k<=n)(hb:n<=1000000):∃c:Λ α,((Jn (n+1) (Aa ((k:Int)+1)) (((n+1:Nat):Nat):Int)).bind λv=>match v with
    |.inl o=>(Iy (n+1) (k:Int) (((n+1:Nat):Nat):Int)).bind λf=>(Lt (Ef b n [z]) (0+o.1) (o.2-o.1) (0+f.1) (f.2-f.1)).bind λl=>some l
    |.inr _=>(Iy (n+1) (k:Int) (((n+1:Nat):Nat):Int)).bind λw=>some (Ef b n [z]))=some c/\c.length=max b.length (n+1)/\(c.set k x).take (n+1)=(b.take n).take k++x::(b.take n).drop k:=by
 have g:(Ef b n [z]).length=max b.length (n+1):=by rw[Q8 G];rfl
 have s:∀i,i<n->(Ef b n [z])[i]?=b[i]?:=λi r=>by rw[U8 G,Av r]
 have D:Aa ((k:Int)+1)=((k+1:Nat):Int):=Dl (n:=n+1) ω ω;have u:Iy (n+1) (k:Int) (((n+1:Nat):Nat):Int)=some (k,n+1):=by unfold Iy;rw[Av ω];simp
 have C:∃c:Λ α,((Jn (n+1) (Aa ((k:Int)+1)) (((n+1:Nat):Nat):Int)).bind λv=>
    match v with
    |.inl o=>(Iy (n+1) (k:Int) (((n+1:Nat):Nat):Int)).bind λf=>(Lt (Ef b n [z]) (0+o.1) (o.2-o.1) (0+f.1) (f.2-f.1)).bind λl=>some l
    |.inr _=>(Iy (n+1) (k:Int) (((n+1:Nat):Nat):Int)).bind λw=>some (Ef b n [z]))=some c/\c.length=max b.length (n+1)/\(∀i,i<k->c[i]?=b[i]?)/\∀i,k<=i->i<n->c[i+1]?=b[i]?:=by
  rw[D,u];by_cases E:k<n
  .have q:Jn (n+1) ((k+1:Nat):Int) (((n+1:Nat):Nat):Int)=some (.inl (k+1,n+1)):=(by unfold Jn;rw[Av ω,Av ω];simp);rw[q,Ac];dsimp only;have A:Lt (Ef b n [z]) (0+(k+1)) (n+1-(k+1)) (0+k) (n+1-k)=some (Ef (Ef b n [z]) (0+(k+1)) (((Ef b n [z]).drop (0+k)).take (min (n+1-k) (n+1-(k+1))))):=(by unfold Lt;rw[Av ω]);rw[Ac];dsimp only;rw[A,Ac];have H:(((Ef b n [z]).drop (0+k)).take (min (n+1-k) (n+1-(k+1)))).length=n-k:=(by rw[length_take,length_drop,g];omega);refine⟨_,rfl,?_,λi r=>?_,λi r h=>?_⟩
   .rw[Q8 (by rw[g];omega),g,H];omega
   .rw[U8 (by rw[g];omega),Av ω,s i ω]
   .rw[U8 (by rw[g];omega),As ω,Av (by rw[H];omega),getElem?_take,Av ω,getElem?_drop,show 0+k+(i+1-(0+(k+1)))=i by omega,s i h]
  .have B:k=n:=ω;have q:Jn (n+1) ((k+1:Nat):Int) (((n+1:Nat):Nat):Int)=some (.inr ()):=(by unfold Jn;rw[Av ω,As ω]);rw[q,Ac];dsimp only;rw[Ac];exact⟨_,rfl,g,λi r=>s i ω,λi r h=>ω⟩
 obtain⟨c,J,M,P,Q⟩:=C;refine⟨c,J,M,?_⟩;have y:((b.take n).take k).length=k:=by rw[length_take,length_take];omega
 apply ext_getElem?;intro i;rw[getElem?_take,getElem?_set];by_cases I:i<k
 .rw[Av ω,As ω,P i I,getElem?_append_left ω,getElem?_take,Av I,getElem?_take,Av ω]
 .rw[getElem?_append_right ω,y];by_cases S:i=k
  .subst S;rw[Av ω,Av rfl,Av ω,Nat.sub_self];rfl
  .obtain⟨j,T⟩:∃j,i=j+1:=⟨i-1,ω⟩;subst T;rw[show j+1-k=(j-k)+1 by omega,getElem?_cons_succ,getElem?_drop,show k+(j-k)=j by omega,getElem?_take];by_cases F:j<n
   .rw[Av ω,As ω,Q j ω F,Av F]
   .rw[As ω,As F]
theorem Ba6(c:Nat)(b:Λ α)(n k:Nat)(G:n<=b.length)(H:k<n)(hb:(b.length+n)*c<=140737488355328)(q:n<=1000000):∃o:Λ α,((Jn n (Aa ((k:Int)+1)) ((n:Nat):Int)).bind λw=>match w with|.inl r=>(Vk c b k (0+r.1) (r.2-r.1)).bind λu=>some (u.2,u.1)|.inr _=>(Nk c b k []).bind λv=>some (v.2,v.1))=some (n-1,o)/\n-1<=o.length/\o.length<=b.length/\o.take (n-1)=(b.take n).take k++(b.take n).drop (k+1):=by have l:Aa ((k:Int)+1)=((k+1:Nat):Int):=Dl (n:=n+1) ω ω;rw[l];by_cases h:k+1<n;have f:Jn n ((k+1:Nat):Int) ((n:Nat):Int)=some (.inl (k+1,n)):=(by unfold Jn;rw[Av ω,Av ω];simp);rw[f,Ac];dsimp only;have C:Vk c b k (0+(k+1)) (n-(k+1))=some (Ef b k ((b.drop (0+(k+1))).take (n-(k+1))),k+(n-(k+1))):=(by unfold Vk;rw[Av ⟨ω,ω,Nat.le_trans (Nat.mul_le_mul_right _ ω) hb⟩]);rw[C,Ac];have D:((b.drop (0+(k+1))).take (n-(k+1))).length=n-(k+1):=(by rw[length_take,length_drop];omega);refine⟨_,by rw[show k+(n-(k+1))=n-1 by omega],?_,?_,?_⟩;rw[Q8 ω,D];omega;rw[Q8 ω,D];omega;have j:((b.take n).take k).length=k:=(by rw[length_take,length_take];omega);apply ext_getElem?;intro i;rw[getElem?_take];by_cases E:i<k;rw[Av ω,U8 ω,Av E,getElem?_append_left ω,getElem?_take,Av E,getElem?_take,Av ω];rw[getElem?_append_right ω,j,getElem?_drop,getElem?_take];by_cases F:i<n-1;rw[Av F,U8 ω,As E,Av (by rw[D];omega),getElem?_take,Av ω,getElem?_drop,Av ω,show 0+(k+1)+(i-k)=k+1+(i-k)by omega];rw[As F,As ω];have s:k+1=n:=ω;have f:Jn n ((k+1:Nat):Int) ((n:Nat):Int)=some (.inr ()):=(by unfold Jn;rw[Av ω,As ω]);rw[f,Ac];dsimp only;have C:Nk c b k []=some (Ef b k [],k):=(by unfold Nk;rw[Av ⟨ω,Nat.le_trans (Nat.mul_le_mul_right _ ψ) hb⟩];rfl);rw[C,Ac];have g:Ef b k []=b:=(by unfold Ef;simp);rw[g];refine⟨b,by rw[show n-1=k by omega],ω,Nat.le_refl _,?_⟩;have:(b.take n).drop (k+1)=[]:=(by rw[List.drop_eq_nil_iff,length_take];omega);rw[this,append_nil,take_take,show min k n=n-1 by omega]
theorem Ba7(a:Nat)(h:a<1099511627776):Hj .i64 (Aa (a:Int)) 2=some ((a/2:Nat):Int):=by(have o:Aa (a:Int)=(a:Int):=by rw[Aa,Bz]<;>omega);rw[o];unfold Hj;rw[As δ,Int.tdiv_eq_ediv_of_nonneg ω,show((a:Int)/2)=((a/2:Nat):Int)from rfl,Bz ω ω]
theorem Ba8(b:Ap)(n:Nat)(m:A4)(hn:n<=b.length)(R:(b.take n).Pairwise ltT)(N:∀t∈b.take n,MSz t.M)(hb:n<=1000000):∃k:Nat,k<=n/\(∀(i:Nat)(t:Aj),i<k->(b.take n)[i]?=some t->D5 t.M m<0)/\(∀(i:Nat)(t:Aj),k<=i->(b.take n)[i]?=some t->0<=D5 t.M m)/\Am (S:=(Int×Int)) (E:=Int) (λ(y,z)=>bif y<z then((Hj .i64 (Aa (y+z)) 2).bind λr=>(Gk b 0 n r).bind λC=>(Pe C.M m).bind λA=>bif A<(0:Int)then some (.inl (Aa (r+1),z))else some (.inl (y,r)))else some (.inr y)) (0,((n:Nat):Int))=some (k:Int):=by(have L:(b.take n).length=n:=by rw[length_take];omega);(have I:∀i,i<n->(b.take n)[i]?=b[i]?:=λi Q=>by rw[getElem?_take,Av Q]);(have D:∀(i j:Nat)(t u:Aj),i<j->(b.take n)[i]?=some t->(b.take n)[j]?=some u->D5 t.M u.M<0:=λi j t u G o F=>by have v:=Dq o;have w:=Dq F;have:=(pairwise_iff_getElem.1 R) i j v w G;rw[Bi v]at o;rw[Bi w]at F;cases o;cases F;exact this);obtain⟨e,v,k,w,T,X,V⟩:=Kf (step:=(λ(y,z)=>bif y<z then((Hj .i64 (Aa (y+z)) 2).bind λr=>(Gk b 0 n r).bind λC=>(Pe C.M m).bind λA=>bif A<(0:Int)then some (.inl (Aa (r+1),z))else some (.inl (y,r)))else some (.inr y):Int×Int->Ο ((Int×Int)⊕Int))) (λs=>∃i j:Nat,s=((i:Int),(j:Int))/\i<=j/\j<=n/\(∀(q:Nat)(t:Aj),q<i->(b.take n)[q]?=some t->D5 t.M m<0)/\(∀(q:Nat)(t:Aj),j<=q->(b.take n)[q]?=some t->0<=D5 t.M m)) (λs=>s.2.toNat-s.1.toNat) (λe=>∃k:Nat,e=(k:Int)/\k<=n/\(∀(i:Nat)(t:Aj),i<k->(b.take n)[i]?=some t->D5 t.M m<0)/\(∀(i:Nat)(t:Aj),k<=i->(b.take n)[i]?=some t->0<=D5 t.M m)) (by rintro s ⟨i,j,rfl,G,P,v,w⟩;rcases Cj i j with h|h;obtain⟨c,U⟩:∃c:Nat,c=(i+j)/2:=⟨_,rfl⟩;have H:b[c]?=some (b[c]' ω):=Bi _;generalize b[c]'_=x at H;have f:(b.take n)[c]?=some x:=(by rw[I c ω];exact H);have J:=N x (Bm f);have M:((i:Int)+(j:Int))=((i+j:Nat):Int):=ω;simp only[An (ω:(i:Int)<(j:Int)),Ak,M,Ba7 (i+j) ω,<-U,Ac,Uu (l:=b) (off:=0) (n:=n) (i:=(c:Int)) rfl ω (by rw[Nat.zero_add];exact H),Aim x.M m J];by_cases e:D5 x.M m<0;rw[An e,Ak,Dl (n:=n) ω ω];refine .inl ⟨_,rfl,⟨c+1,j,rfl,ω,P,λq t W o=>?_,w⟩,by simp only[Int.toNat_natCast];omega⟩;by_cases B:q=c;subst B;rw[f]at o;cases o;exact e;exact Ut (D q c t x ω o f) e;rw[Au e,Al];refine .inl ⟨_,rfl,⟨i,c,rfl,ω,ω,v,λq t W o=>?_⟩,by simp only[Int.toNat_natCast];omega⟩;by_cases B:q=c;subst B;rw[f]at o;cases o;omega;have g:=D c q x t ω f o;refine Classical.byContradiction λhc=>?_;exact e (Ut g ω);have:i=j:=ω;subst this;exact .inr ⟨(i:Int),by simp only[Au (ω:¬(i:Int)<(i:Int)),Al],i,rfl,P,v,w⟩) (0,((n:Nat):Int)) ⟨0,n,rfl,ω,Nat.le_refl _,λq t h=>ω,λq t h o=>by have:=Dq o;omega⟩;subst w;exact⟨k,T,X,V,v⟩
theorem Z7(x:Rat):Qz x=0↔x=0:=by unfold Qz;constructor;intro h;split at h;cases h;split at h;cases h;grind;rintro rfl;rw[As (by grind),As (by grind)]
theorem Axz(L:Ap)(k:Nat)(m:A4):cf L m=cf (L.take k) m+cf (L.drop k) m:=by rw[<-Sg,take_append_drop]
theorem CP.insert{x:Aj}(h:CP L)(h1:∀(i:Nat)(t:Aj),i<k->L[i]?=some t->D5 t.M x.M<0)(h2:∀(i:Nat)(t:Aj),k<=i->L[i]?=some t->D5 x.M t.M<0)(h3:J3 x.C)(f:rq x.C≠0):CP (L.take k++x::L.drop k):=by refine⟨?_,λt o=>?_⟩;rw[pairwise_append];refine⟨h.srt.sublist (List.take_sublist _ _),?_,?_⟩;rw[pairwise_cons];refine⟨λt o=>?_,h.srt.sublist (drop_sublist _ _)⟩;obtain⟨i,hi⟩:=Gl o;rw[getElem?_drop]at hi;exact h2 (k+i) t ω hi;intro a ha c hc;obtain⟨i,hi⟩:=Gl ha;rw[getElem?_take]at hi;split at hi;rename_i b;rcases En.1 hc with rfl|hc;exact h1 i a b hi;obtain⟨j,q⟩:=Gl hc;rw[getElem?_drop]at q;have r:=Dq hi;have s:=Dq q;have:=(pairwise_iff_getElem.1 h.srt) i (k+j) r s ω;rw[Bi r]at hi;rw[Bi s]at q;cases hi;cases q;exact this;cases hi;rw[Ea,En]at o;rcases o with o|rfl|o;exact h.coe t (mem_of_mem_take o);exact⟨h3,f⟩;exact h.coe t (mem_of_mem_drop o)
theorem CP.remove(k:Nat)(h:CP L):CP (L.take k++L.drop (k+1)):=by
 have b:(L.take k++L.drop (k+1)).Sublist L:=by
  have:L=L.take k++L.drop k:=(take_append_drop k L).symm
  conv=>rhs;rw[this]
  refine List.Sublist.append (List.Sublist.refl _) ?_
  rw[show k+1=k+1 from rfl,<-drop_drop]
  exact drop_sublist _ _
 exact⟨h.srt.sublist b,λt o=>h.coe t (b.subset o)⟩
open Classical in
theorem Ba9(L:Ap)(k:Nat)(x:Aj)(m:A4):cf (L.take k++x::L.drop k) m=cf L m+(if x.M=m then rq x.C else 0):=by rw[Sg,Pu,Axz L k m];grind
theorem Bba{t:Aj}(h:L[k]?=some t):L.drop k=t::L.drop (k+1):=by have o:=Dq h;rw[drop_eq_getElem_cons o];rw[Bi o]at h;cases h;rfl
open Classical in
theorem Bbb{L:Ap}{k:Nat}{t:Aj}(h:L[k]?=some t)(m:A4):cf (L.take k++L.drop (k+1)) m=cf L m-(if t.M=m then rq t.C else 0):=by rw[Sg,Axz L k m,Bba h,Pu];grind
structure PSt(K:Nat)(n:Nat)(b:List Aj):Prop where
 le:n<=b.length
 cp:CP (b.take n)
 tm:∀t∈b.take n,RB K t.C/\MSz t.M
open Classical in
theorem Ax0{K kc:Nat}{n:Nat}{b:Ap}(h:PSt K n b){m:A4}{c:Ay}(hc:RB kc c)(hm:MSz m)(hK:K+kc+3<30000000000)(hb:b.length<=100000):∃(n':Nat)(o:Ap),J6 n m c b=some (n',o)/\o.length<=b.length+1/\PSt (K+kc+3) n' o/\∀w,cf (o.take n') w=cf (b.take n) w+(if m=w then rq c else 0):=by obtain⟨k,k1,k2,k3,k4⟩:=Ba8 b n m h.le h.cp.srt (λt C=>(h.tm t C).2) (by have:=h.le;omega);(have b2:(b.take n).length=n:=by rw[length_take];have:=h.le;omega);(have G:∀i,i<n->(b.take n)[i]?=b[i]?:=λi H=>by rw[getElem?_take,Av H]);have b3:=h.le;unfold J6;rw[k4,Ac];by_cases T:∃t,k<n/\(b.take n)[k]?=some t/\D5 t.M m=0;obtain⟨t,I,U,h3⟩:=T;have J:=h.tm t (Bm U);have V:t.M=m:=Lj.1 h3;have W:b[k]?=some t:=(by rw[<-G k I];exact U);have X:Gk b 0 n (k:Int)=some t:=Uu rfl I (by rw[Nat.zero_add];exact W);obtain⟨s,s1,s2,s3,s4,s5⟩:=Ady J.1 hc ω ω;have D:Cl b (((0:Nat):Int)+(k:Int)) (Aj.mk s t.M)=b.set k ⟨s,t.M⟩:=Gw (n:=k) ω _;have a5:(b.set k ⟨s,t.M⟩)[k]?=some ⟨s,t.M⟩:=(by rw[getElem?_set,Av rfl,Av (Dq W)]);have M:Gk (b.set k ⟨s,t.M⟩) 0 n (k:Int)=some ⟨s,t.M⟩:=Uu rfl I (by rw[Nat.zero_add];exact a5);simp only[An (ω:(k:Int)<(n:Int)),Ak,X,Ac,Aim t.M m J.2,Ew h3,s2,D,M,(W9 s3 ω).2];have E:(b.set k ⟨s,t.M⟩).take n=(b.take n).set k ⟨s,t.M⟩:=(by rw[List.take_set]);have P:(b.set k ⟨s,t.M⟩).length=b.length:=length_set;by_cases F:rq s=0;rw[Ew ((Z7 _).2 F),Ak];have a0:Yb n (k:Int)=some k:=(by unfold Yb;rw[Av ω];simp);rw[a0,Ac];obtain⟨o,d1,d2,d3,d4⟩:=Ba6 104 (b.set k ⟨s,t.M⟩) n k ω I (by rw[P];omega) ω;have a6:(b.set k ⟨s,t.M⟩).take n=(b.take n).set k ⟨s,t.M⟩:=E;have a7:((b.take n).set k ⟨s,t.M⟩).take k++((b.take n).set k ⟨s,t.M⟩).drop (k+1)=(b.take n).take k++(b.take n).drop (k+1):=(by rw[take_set_of_le (Nat.le_refl _),drop_set_of_lt ω]);rw[a6,a7]at d4;refine⟨n-1,o,d1,ω,⟨d2,by rw[d4];exact h.cp.remove k,λu r=>?_⟩,λw=>?_⟩;rw[d4,Ea]at r;(have a1:u∈b.take n:=by rcases r with r|r;exact mem_of_mem_take r;exact mem_of_mem_drop r);exact⟨((h.tm u a1).1).mono ω,(h.tm u a1).2⟩;rw[d4,Bbb U w,V];by_cases e:m=w;rw[Av e,Av e];have:rq c = - rq t.C:=(by rw[s5]at F;grind);rw[this];grind;rw[As e,As e];grind;rw[Cx λe=>F ((Z7 _).1 e),Al];refine⟨n,b.set k ⟨s,t.M⟩,rfl,ω,⟨ω,?_,λu r=>?_⟩,λw=>?_⟩;rw[E];refine⟨?_,λu r=>?_⟩;rw[pairwise_iff_getElem];intro i j H hj a8;(have g:∀(q:Nat)(hq:q<((b.take n).set k ⟨s,t.M⟩).length),(((b.take n).set k ⟨s,t.M⟩)[q]).M=((b.take n)[q]'(by rw[length_set]at hq;exact hq)).M:=by intro q hq;rw[List.getElem_set];split;rename_i e;subst e;have:=Bi (l:=b.take n) (i:=k) ω;rw[U]at this;rw[<-E6 this];rfl);unfold ltT;rw[g i H,g j hj];exact(pairwise_iff_getElem.1 h.cp.srt) i j _ _ a8;rcases mem_or_eq_of_mem_set r with r|rfl;exact h.cp.coe u r;exact⟨s4,F⟩;rw[E]at r;rcases mem_or_eq_of_mem_set r with r|rfl;exact⟨((h.tm u r).1).mono ω,(h.tm u r).2⟩;exact⟨s3,J.2⟩;rw[E,Aou (u:=⟨s,t.M⟩) U rfl w,V];by_cases e:m=w;rw[Av e,Av e];show cf (b.take n) w+(rq s-rq t.C)=_;rw[s5];grind;rw[As e,As e];have Q:∀t,(b.take n)[k]?=some t->D5 t.M m≠0:=λt C e=>T ⟨t,by have:=Dq C;omega,C,e⟩;(have hq:(bif decide ((k:Int)<(n:Int))then(Gk b 0 n (k:Int)).bind λa9=>(Pe a9.M m).bind λb0=>some (b0==0)else some false)=some false:=by by_cases I:k<n;have S:b[k]?=some (b[k]' ω):=Bi _;generalize b[k]'_=x at S;have a2:(b.take n)[k]?=some x:=(by rw[G k I];exact S);rw[An (ω:(k:Int)<(n:Int)),Ak,Uu (l:=b) (off:=0) (n:=n) (i:=(k:Int)) rfl I (by rw[Nat.zero_add];exact S),Ac,Aim x.M m (h.tm x (Bm a2)).2,Ac,Cx (Q x a2)];rw[Au ω];rfl);erw[hq];simp only[Ac,Al,(W9 hc ω).2];by_cases F:rq c=0;rw[Ew ((Z7 _).2 F),Ak];refine⟨n,b,rfl,ω,⟨h.le,h.cp,λu r=>⟨((h.tm u r).1).mono ω,(h.tm u r).2⟩⟩,λw=>?_⟩;rw[F];split<;>grind;rw[Cx λe=>F ((Z7 _).1 e),Al];have b1:Nk 104 b n [Aj.mk (Ay.mk false [] []) (A4.mk [] [])]=some (Ef b n [Aj.mk (Ay.mk false [] []) (A4.mk [] [])],n+1):=(by unfold Nk;rw[Av ⟨h.le,ζ⟩];rfl);rw[b1,Ac];dsimp only;obtain⟨cc,c1,c2,c3,c4,c5⟩:=Aws hc ω;obtain⟨v,g1,g2,g3⟩:=Aoz b n k (Aj.mk (Ay.mk false [] []) (A4.mk [] [])) ⟨cc,m⟩ h.le k1 ω;erw[g1];rw[Ac,c2,Ac,Ba5 m hm,Ac];have a3:v[k]?=some (v[k]' ω):=Bi _;rw[Uu (l:=v) (off:=0) (n:=n+1) (i:=(k:Int)) rfl ω (by rw[Nat.zero_add];exact a3),Ac];have D:Cl v (((0:Nat):Int)+(k:Int)) (Aj.mk cc m)=v.set k ⟨cc,m⟩:=Gw (n:=k) ω _;rw[D];refine⟨n+1,v.set k ⟨cc,m⟩,rfl,by rw[length_set];omega,⟨by rw[length_set];omega,?_,λu r=>?_⟩,λw=>?_⟩;rw[g3];refine h.cp.insert (λi t H C=>k2 i t H C) (λi t H C=>?_) c3 (by rw[c4];exact F);have g:=k3 i t H C;(have b4:D5 t.M m≠0:=by by_cases e:i=k;subst e;exact Q t C;have a4:=Dq C;have S:(b.take n)[k]?=some ((b.take n)[k]' ω):=Bi _;have g5:=k3 k _ (Nat.le_refl _) S;have g6:=Q _ S;have g7:=(pairwise_iff_getElem.1 h.cp.srt) k i ω a4 ω;rw[Bi a4]at C;cases C;intro e2;have:=Lj.1 e2;unfold ltT at g7;rw[this]at g7;omega);show D5 m t.M<0;rw[Xa t.M m];omega;rw[g3,Ea,En]at r;rcases r with r|rfl|r;have:=h.tm u (mem_of_mem_take r);exact⟨this.1.mono ω,this.2⟩;exact⟨c5.mono ω,hm⟩;have:=h.tm u (mem_of_mem_drop r);exact⟨this.1.mono ω,this.2⟩;rw[g3,Ba9,c4]
theorem PSt.mono{c:Nat}{b:Ap}(h:PSt K n b)(f:K<=c):PSt c n b:=⟨h.le,h.cp,λt o=>⟨((h.tm t o).1).mono f,(h.tm t o).2⟩⟩
theorem Ax1:∀(k:Nat)(t:Ah)(a:Int),Bu t<=k->k<1099511627776->∃r,Tf k t a=some r/\True:=by intro k;induction k with|zero=>intro i a h;have:=I0 i;omega|succ k ih=>intro i a h s;have f:=I0 i;have g:=Kb i.R;rw[Tf];refine Qv ⟨_,rfl,trivial⟩ ?_;refine Ft (λ(v,_)=>∃j:Nat,v=j/\j<=i.R.length) (λ(v,_)=>i.R.length-v.toNat) (λ_=>True) ⟨0,rfl,ω⟩ ?_ ?_;rintro⟨v,b⟩ ⟨j,rfl,u⟩;rcases Cj j i.R.length with o|o;have q:i.R[j]?=some i.R[j]:=Bi o;generalize i.R[j]=x at q;have l:=I9 (Bm q);obtain⟨⟨y,z⟩,c,_⟩:=ih x b ω ω;simp only[An (ω:(j:Int)<(i.R.length:Int)),Ak,Bq rfl q,Ac,c,Dl o ω];(cases y with|false=>exact .inr ⟨_,rfl,trivial⟩|true=>exact .inl ⟨_,rfl,⟨j+1,rfl,ω⟩,by simp only[Int.toNat_natCast];omega⟩);have:j=i.R.length:=ω;subst this;exact .inr ⟨.inr b,ψ,trivial⟩;rintro(⟨x,y⟩|e) _;exact⟨_,rfl,trivial⟩;exact⟨_,rfl,trivial⟩
theorem Ax2(t:Ah)(h:Bu t<=1048576):∃b,Yi t=some b:=by unfold Yi;obtain⟨r,o,_⟩:=Ax1 4000000 t 250 ω ω;exact⟨_,by rw[o];rfl⟩
theorem Bbc(l:A1)(n:Int)(c:l.length<=1048576)(h:∀t∈l,Bu t<=1048576):∃b,Abi l n=some b/\True:=by unfold Abi;refine Ft (λv=>∃j:Nat,v=j/\j<=l.length) (λv=>l.length-v.toNat) (λ_=>True) ⟨0,rfl,ω⟩ ?_ ?_;rintro v ⟨j,rfl,u⟩;rcases Cj j l.length with o|o;have q:l[j]?=some l[j]:=Bi o;generalize l[j]=x at q;obtain⟨b,s⟩:=Ax2 x (h x (Bm q));simp only[An (ω:(j:Int)<(l.length:Int)),Ak,Bq rfl q,Ac,s,Dl o ω];(cases decide ((j:Int)<=n)with|false=>exact .inr ⟨_,rfl,trivial⟩|true=>cases b with|false=>exact .inr ⟨_,rfl,trivial⟩|true=>exact .inl ⟨_,rfl,⟨j+1,rfl,ω⟩,by simp only[Int.toNat_natCast];omega⟩);simp only[Au (ω:¬(j:Int)<(l.length:Int)),Al];exact .inr ⟨_,rfl,trivial⟩;rintro(r|r) _;exact⟨_,rfl,trivial⟩;exact⟨_,rfl,trivial⟩
theorem Bbd(l:Ad)(f:DSz l):∃b,Abh l=some b/\True:=by unfold Abh;have z:=f.len;refine Qv ⟨_,rfl,trivial⟩ ?_;refine Ft (λv=>∃j:Nat,v=j/\j<=l.length) (λv=>l.length-v.toNat) (λ_=>True) ⟨0,rfl,ω⟩ ?_ ?_;rintro v ⟨j,rfl,P⟩;rcases Cj j l.length with F|F;have G:l[j]?=some l[j]:=Bi F;generalize l[j]=x at G;obtain⟨Q,J⟩:=f.sz x (Bm G);simp only[An (ω:(j:Int)<(l.length:Int)),Ak,Bq rfl G,Ac,Dl F ω];have o:∃q,(bif decide ((x.S.size:Int)>40)then some true else some (decide ((x.O.length:Int)>10)))=some q:=(by cases decide ((x.S.size:Int)>40)<;>exact⟨_,rfl⟩);obtain⟨q,o⟩:=o;erw[o];simp only[Ac];(cases q with|true=>exact .inr ⟨_,rfl,trivial⟩|false=>simp only[Al];(have C:∀(W:Ο (Int⊕(Bool⊕Unit))),(∃r,W=some r/\(r=.inl ((j+1:Nat):Int)\/∃e,r=.inr e))->(∃D,W=some (Sum.inl D)/\(∃j:Nat,D=(j:Int)/\j<=l.length)/\l.length-D.toNat<l.length-((j:Int)).toNat)\/∃e,W=some (Sum.inr e)/\True:=by rintro W ⟨r,rfl,rfl|⟨e,rfl⟩⟩;exact .inl ⟨_,rfl,⟨j+1,rfl,ω⟩,by simp only[Int.toNat_natCast];omega⟩;exact .inr ⟨_,rfl,trivial⟩);refine C _ ?_;refine Ft (λv=>∃j:Nat,v=j/\j<=x.O.length) (λv=>x.O.length-v.toNat) (λ_=>True) ⟨0,rfl,ω⟩ ?_ ?_;rintro v ⟨i,rfl,S⟩;rcases Cj i x.O.length with E|E;have H:x.O[i]?=some x.O[i]:=Bi E;generalize x.O[i]=y at H;have d1:=J y (Bm H);have d2:=Kb y.R;simp only[An (ω:(i:Int)<(x.O.length:Int)),Ak,Bq rfl H,Ac,Dl E ω];have o:∃q,(bif decide ((y.S.size:Int)>40)then some true else some (decide ((y.R.length:Int)>8)))=some q:=(by cases decide ((y.S.size:Int)>40)<;>exact⟨_,rfl⟩);obtain⟨q,o⟩:=o;erw[o];simp only[Ac];(cases q with|true=>exact .inr ⟨_,rfl,trivial⟩|false=>simp only[Al];(have C:∀(W:Ο (Int⊕(Bool⊕Int))),(∃r,W=some r/\(r=.inl ((i+1:Nat):Int)\/∃e,r=.inr e))->(∃D,W=some (Sum.inl D)/\(∃j:Nat,D=(j:Int)/\j<=x.O.length)/\x.O.length-D.toNat<x.O.length-((i:Int)).toNat)\/∃e,W=some (Sum.inr e)/\True:=by rintro W ⟨r,rfl,rfl|⟨e,rfl⟩⟩;exact .inl ⟨_,rfl,⟨i+1,rfl,ω⟩,by simp only[Int.toNat_natCast];omega⟩;exact .inr ⟨_,rfl,trivial⟩);refine C _ ?_;refine Ft (λs=>∃j:Nat,s.1=j/\j<=y.R.length) (λs=>y.R.length-s.1.toNat) (λ_=>True) ⟨0,rfl,ω⟩ ?_ ?_;rintro⟨_,w⟩ ⟨u,rfl,T⟩;rcases Cj u y.R.length with I|I;have c:y.R[u]?=some y.R[u]:=Bi I;generalize y.R[u]=t at c;have k:=I9 (Bm c);obtain⟨⟨g,h⟩,M,_⟩:=Ax1 4000000 t w ω ω;simp only[An (ω:(u:Int)<(y.R.length:Int)),Ak,Bq rfl c,Ac,M,Dl I ω];(cases g with|false=>exact .inr ⟨_,rfl,trivial⟩|true=>exact .inl ⟨_,rfl,⟨u+1,rfl,ω⟩,by simp only[Int.toNat_natCast];omega⟩);simp only[Au (ω:¬(u:Int)<(y.R.length:Int)),Al];exact .inr ⟨_,rfl,trivial⟩;rintro(r|r) _;exact⟨_,rfl,.inr ⟨_,rfl⟩⟩;exact⟨_,rfl,.inl rfl⟩);simp only[Au (ω:¬(i:Int)<(x.O.length:Int)),Al];exact .inr ⟨_,rfl,trivial⟩;rintro(r|r) _;exact⟨_,rfl,.inr ⟨_,rfl⟩⟩;exact⟨_,rfl,.inl rfl⟩);simp only[Au (ω:¬(j:Int)<(l.length:Int)),Al];exact .inr ⟨_,rfl,trivial⟩;rintro(r|r) _;exact⟨_,rfl,trivial⟩;exact⟨_,rfl,trivial⟩
theorem Bbe(x:Bh)(f:CSz x):∃b,Abc x=some b:=by unfold Abc;obtain⟨a,h,_⟩:=Bbd x.D f.ds;obtain⟨b,o,_⟩:=Bbc x.V 40 f.nv f.vs;obtain⟨c,q⟩:=Ax2 x.E f.rs;rw[h,o,q];cases a<;>cases b<;>exact⟨_,rfl⟩
theorem CP.dst(h:CP p):Dst p:=h.srt.imp λ{a b} o e=>by unfold ltT at o;rw[Lj.2 e]at o;omega
theorem Ax3:P8 (λt u:Aj=>D5 t.M u.M) where
 irr x:=by
  show ¬D5 x.M x.M<0
  rw[Awz];omega
 trs x y z o h:=Ut o h
 ntr x y z o h:=by
  show ¬D5 x.M z.M<0
  have o:¬D5 x.M y.M<0:=o
  have h:¬D5 y.M z.M<0:=h
  intro q
  rcases Int.lt_trichotomy (D5 x.M y.M) 0 with k|k|k
  .exact o k
  .rw[Lj.1 k]at q;exact h q
  .exact h (Ut (Aod.1 k) q)
def Aji(b:Ap):Ap:=b.mergeSort λt u=>decide (D5 t.M u.M<=0)
theorem Ax4(b:Ap):(Aji b).Perm b:=mergeSort_perm _ _
theorem Bbf(f:Ap)(r:Dst f):(Aji f).Pairwise ltT:=by have o:=pairwise_mergeSort (le:=λt u:Aj=>decide (D5 t.M u.M<=0)) (λa b c o q=>by simp only[Es]at *;have:=Ax3.ntr c b a (by show ¬D5 _ _<0;rw[Xa];omega) (by show ¬D5 _ _<0;rw[Xa];omega);have this:¬D5 c.M a.M<0:=this;rw[Xa]at this;omega) (λa b=>by simp only[Bool.or_eq_true,Es];rw[Xa a.M b.M];omega) f;have q:(Aji f).Pairwise λt u=>t.M≠u.M:=((Ax4 f).pairwise_iff λ{x y} h=>h.symm).2 r;refine(o.and q).imp λ{t u} h=>?_;have a:=of_decide_eq_true h.1;have b:D5 t.M u.M≠0:=λe=>h.2 (Lj.1 e);unfold ltT;omega
theorem Bbg(b:Ap)(o:Dst b)(f:∀t∈b,MSz t.M):∃R,Ro b=some R/\R.Perm b/\R.Pairwise ltT:=by rcases Cj 12 b.length with h|h;have e:Nat.ble b.length 12=false:=(by cases k:Nat.ble b.length 12 with|false=>rfl|true=>have:=Nat.le_of_ble_eq_true k;omega);unfold Ro;rw[e,Al];obtain⟨r,g,j,s,v,hp,i⟩:=Asr (cmp:=Rq) (l:=b) (r:=Aji b) ⟨_,Ax3,λx w y _=>Aov x y (f x w),Ax4 b,Bbf b o⟩;refine⟨r,g,hp,?_⟩;refine(Pairwise.imp_of_mem (S:=ltT) (λ{t u} q C h=>?_) i);have c:=v t (hp.mem_iff.1 q) u (hp.mem_iff.1 C);rw[Aov t u (f t (hp.mem_iff.1 q))]at c;have c:=E6 c;unfold ltT;rw[c];exact h;exact Bak b o f h
theorem Bbh:∀(k:Nat),k<1099511627776->(∀i:Af,2*Br i<=k->Vs k i i=some true)/\(∀l:A2,2*Bv l+1<=k->Yy k l l=some true):=by intro k;induction k with|zero=>exactλ_=>⟨λi h=>(by have:=Dy i;omega),λl h=>ω⟩|succ k ih=>intro u;have ih:=ih ω;refine⟨λi h=>?_,λl h=>?_⟩;have:=Dy i;rw[Vs,beq_self_eq_true,Ak,ih.2 i.K ω];rfl;have b:=Ly l;rw[Yy,bne_self_eq_false,Al];refine Fi l (λj=>(j:Int)) rfl ω ?_ ?_;intro j x v o q r s;have:=Jh (Bm o);simp only[q,r,s,Ak,Ac,ih.1 x ω,Fc,Al];intro h;exact⟨.inr (),by simp only[h];rfl,rfl⟩
theorem Bbi(l:Bp)(h:l.T.length<=1048576):Abs l l=some true:=by unfold Abs;rw[bne_self_eq_false,bne_self_eq_false];simp only[Al,Ac];refine Fi l.T (λj=>(j:Int)) rfl ω ?_ ?_;intro j x s u o q r;simp only[o,q,r,Ak,Ac,beq_self_eq_true,Bool.and_true,Fc,Al];intro h;exact⟨.inr (),by simp only[h];rfl,rfl⟩
theorem Bbj(m:A4)(h:MSz m):Abe m m=some true:=by have c:=h.nf;have b:=h.na;unfold Abe;rw[bne_self_eq_false,bne_self_eq_false];simp only[Al,Ac];refine Fi m.F (λj=>(j:Int)) rfl ω ?_ ?_;intro j x u q o r s;have:=h.fi x (Bm q);simp only[o,r,s,Ak,Ac,bne_self_eq_false,(Bbh 4000000 ω).1 x.I ω,Fc,Al];intro o;refine⟨.inr (),by simp only[o];rfl,?_⟩;dsimp only;refine Fi m.A (λj=>(j:Int)) rfl ω ?_ ?_;intro j x u q o r s;have:=h.al x (Bm q);simp only[o,r,s,Ak,Ac,bne_self_eq_false,Bbi x.L ω,Fc,Al];intro o;exact⟨.inr (),by simp only[o];rfl,rfl⟩
theorem Ao0(p:Ap)(b:p.length<=1048576)(h:∀t∈p,MSz t.M/\RB 34359738000 t.C):Qb p p=some true:=by unfold Qb;rw[bne_self_eq_false];simp only[Al];refine Fi p (λj=>(j:Int)) rfl ω ?_ ?_;intro j x w r o s u;obtain⟨v,q⟩:=h x (Bm r);simp only[o,s,u,Ak,Ac,Ba4 x.C (by have:=q.nl;omega) (by have:=q.dl;omega),Bbj x.M v,Fc,Al];intro o;exact⟨.inr (),by simp only[o];rfl,rfl⟩
theorem Bbk(g:CSz x)(b:∀p∈ps,∀t∈p,TSz t)(i:ps.length<=1048576)(h:¬(I1 x/\∀p∈ps,K1 x.D x.V x.E p=true)):Qc x ps=some (.inr false):=by obtain⟨r,f,c⟩:=Axn x g ps b i;(rcases c with⟨o,_⟩|⟨_,rfl⟩);exact(h o).elim;exact f
theorem Bbl(i:CSz x)(c:∀p∈ps,∀t∈p,TSz t)(k:ps.length<=1048576)(h:I1 x/\∀p∈ps,K1 x.D x.V x.E p=true):∃b,Qc x ps=some (.inl (true,x,b,[],x.D,x.V,x.E.G,x.E.U,x.E.R))/\Ed x.D x.V x.E b:=by obtain⟨r,g,f⟩:=Axn x i ps c k;(rcases f with⟨_,b,e,j⟩|⟨o,_⟩);exact⟨b,by rw[g,e],j⟩;exact(o h).elim
structure PR(x:Bh)(n:Nat)(f:A4->Rat)(R:List Aj):Prop where
 cp:CP R
 val:∀m,cf R m=f m
 tb:∀t∈R,Fm x t.M/\RB 8589934592 t.C
 len:R.length<=n
theorem PR.of{f g:A4->Rat}(h:PR x n f R)(hn:n<=m)(hf:∀a,f a=g a):PR x m g R:=⟨h.cp,λa=>by rw[h.val,hf],h.tb,Nat.le_trans h.len hn⟩
theorem Kd.nil(x:Bh):Kd x []:=⟨Ai7.2 ⟨ψ,CP.nil,λt h=>by cases h⟩,λt h=>by cases h⟩
theorem PR.same{f:A4->Rat}{S:Ap}(h:PR x n f R)(hn:n<=1000)(b:CP S)(e:∀m,cf S m=f m):R=S/\Qb R S=some true:=by(have:R=S:=CP.ext h.cp b λm=>by rw[h.val,e]);subst this;refine⟨rfl,Ao0 R (by have:=h.len;omega) λt o=>⟨(h.tb t o).1.2,(h.tb t o).2.mono ω⟩⟩
theorem Ao1:Qb [] []=some true:=Ao0 [] ψ (λt h=>by cases h)
def Mq(Δ:Ad)(t:Ah)(c:Int):A1:=match Gz Δ t c with|some ts=>ts|none=>[]
theorem Ao2:∀n k,bc n k<=n^k
 |n,0=>by rw[Kn];exact Nat.le_refl _
 |0,k+1=>by simp[bc]
 |n+1,k+1=>by have o:=Ao2 n k;have q:=Ao2 n (k+1);have h:n^k<=(n+1)^k:=Nat.pow_le_pow_left ω k;have b:n^(k+1)<=n*(n+1)^k:=(by rw[Nat.pow_succ,Nat.mul_comm];exact Nat.mul_le_mul_left _ h);rw[bc,Nat.pow_succ,Nat.mul_add,Nat.mul_one,Nat.mul_comm];omega
def pdg(Δ:Ad)(t:Ah)(e:Af):Nat:=match Cg Δ e.K (Mq Δ t e.U)with|some a=>a|none=>0
def pds(Δ:Ad)(t:Ah)(es:A2):Nat:=(es.map (pdg Δ t)).sum
theorem Xk(Δ:Ad):∀(es:A2)(t:Ah)(d:Nat),Fo Δ es t=some d->d=es.length+pds Δ t es/\∀e∈es,∃ts,Gz Δ t e.U=some ts/\Cg Δ e.K ts=some (pdg Δ t e)
 |[],t,d,h=>by simp only[Fo,Option.some.injEq]at h;subst h;exact⟨rfl,λe u=>by cases u⟩
 |e::es,t,d,h=>by rw[Uf]at h;cases o:Gz Δ t e.U with|none=>rw[o]at h;cases h|some ts=>rw[o,Ac]at h;cases q:Cg Δ e.K ts with|none=>rw[q]at h;cases h|some a=>rw[q,Ac]at h;cases r:Fo Δ es t with|none=>rw[r]at h;cases h|some b=>rw[r]at h;have h:1+a+b=d:=E6 h;obtain⟨w,v⟩:=Xk Δ es t b r;have hp:pdg Δ t e=a:=(by unfold pdg Mq;rw[o];simp only[q]);refine⟨by unfold pds at *;simp only[map_cons,sum_cons,Eo,hp];omega,λx s=>?_⟩;rcases En.1 s with rfl|s;exact⟨ts,o,by rw[hp];exact q⟩;exact v x s
theorem Ax5(o:Bw a<=K)(hb:Bw b<=K)(c:1<=K)(h:K<60000000000):H5 (cR a) (cR b)=some (cR (a*b)):=by obtain⟨q,r,s⟩:=Xe a;obtain⟨u,v,f⟩:=Xe b;rw[Zw _ _ K K (Ll o c) (Ll hb c) ω ω,q,r,s,u,v,f];simp[cR]
def Sm(a:Nat):Prop:=a<=5000^6
theorem Sm.of(h:a<=5000^d)(hd:d<=6):Sm a:=Nat.le_trans h (Nat.pow_le_pow_right δ hd)
theorem Aee(Δ:Ad):∀(is:A2)(ts:A1)(d j:Nat),Cg Δ is ts=some d->∃e,Cg Δ (is.take j) (ts.take j)=some e/\e<=d
 |[],[],d,j,_=>⟨0,by simp[Cg],ω⟩
 |i::is,t::ts,d,0,_=>⟨0,by simp[Cg],ω⟩
 |i::is,t::ts,d,j+1,h=>by rw[Mn]at h;cases o:C7 Δ i t with|none=>rw[o]at h;cases h|some a=>rw[o,Ac]at h;cases q:Cg Δ is ts with|none=>rw[q]at h;cases h|some b=>rw[q]at h;have h:a+b=d:=E6 h;obtain⟨e,c,f⟩:=Aee Δ is ts b j q;refine⟨a+e,?_,ω⟩;rw[take_succ_cons,take_succ_cons,Mn,o,Ac,c];rfl
 |[],_::_,_,_,h=>by simp only[Cg]at h;cases h
 |_::_,[],_,_,h=>by simp only[Cg]at h;cases h
def F0:Nat:=1000000000^100
structure Np(x:Ay)(a:Nat):Prop where
 rb:RB 200 x
 s:sv x=false
 n:nv x=a
 d:dv x=1
theorem Ao3(h:a<F0):Bw a<=100:=Ip h
theorem Np.cR(h:Bw a<=200):Np (cR a) a:=⟨Ll h δ,(Xe a).1,(Xe a).2.1,(Xe a).2.2⟩
theorem Np.c(h:a<F0):Np (Ab.cR a) a:=Np.cR (by have:=Ao3 h;omega)
theorem Np.z:Np ⟨false,[],[]⟩ 0:=⟨A9l 200,by unfold sv;simp,by unfold nv;simp[Ar],by unfold dv;simp[Ar]⟩
theorem Np.add{x:Ay}(hx:Np x a)(hy:Np y b):N7 x y=some (Ab.cR (a+b)):=by rw[Aiv _ _ 200 200 hx.rb hy.rb ω ω,hx.s,hx.n,hx.d,hy.s,hy.n,hy.d];simp[Ol,Na,Ab.cR]
theorem Np.mul{x:Ay}(hx:Np x a)(hy:Np y b):H5 x y=some (Ab.cR (a*b)):=by rw[Zw _ _ 200 200 hx.rb hy.rb ω ω,hx.s,hx.n,hx.d,hy.s,hy.n,hy.d];simp[Ab.cR]
theorem Np.sign{x:Ay}(hx:Np x a):Kh x=some (if a=0 then 0 else 1):=by rw[An3 _ 200 hx.rb ω,hx.s,hx.n];simp[Li]
theorem Np.can{x:Ay}(hx:Np x a):Kt x=some (Ab.cR a):=by rw[Ait _ 200 hx.rb ω,hx.s,hx.n,hx.d];rfl
def Ls(n:Nat)(f:Nat->Nat):Ei:=(range n).map λk=>cR (f k)
theorem K4(n:Nat)(f:Nat->Nat):(Ls n f).length=n:=by simp[Ls]
theorem Mr(f:Nat->Nat)(h:k<n):(Ls n f)[k]?=some (cR (f k)):=by simp[Ls,h]
theorem Aef{l:Ei}{f:Nat->Nat}(b:l.length=n)(h:∀k,k<n->l[k]?=some (cR (f k))):l=Ls n f:=by apply ext_getElem?;intro k;rcases Cj k n with o|o;rw[h k o,Mr f o];rw[Wv ω,Wv (by rw[K4];omega)]
theorem Ajj{R:Type}{step:Int×List α->Ο ((Int×List α)⊕List α)}{J:Λ α->Ο R}{r:R}{i:Nat}(o:Λ α)(g:Nat->α)(hi:i<=n)(E:o.length=n)(l:∀(j:Nat)(o':Λ α),i<=j->j<n->o'.length=n->step ((j:Int),o')=some (.inl (((j+1:Nat):Int),o'.set j (g j))))(F:∀o',o'.length=n->step ((n:Int),o')=some (.inr o'))(x:∀o',o'.length=n->(∀k,k<i->o'[k]?=o[k]?)->(∀k,i<=k->k<n->o'[k]?=some (g k))->J o'=some r):(Am step ((i:Int),o)).bind J=some r:=by obtain⟨e,y,f⟩:=Kf (step:=step) (λs=>∃(j:Nat)(o':Λ α),s=((j:Int),o')/\i<=j/\j<=n/\o'.length=n/\(∀k,k<i->o'[k]?=o[k]?)/\∀k,i<=k->k<j->o'[k]?=some (g k)) (λs=>n-s.1.toNat) (λo'=>o'.length=n/\(∀k,k<i->o'[k]?=o[k]?)/\∀k,i<=k->k<n->o'[k]?=some (g k)) (by rintro _ ⟨j,o',rfl,c,u,v,w,C⟩;rcases Cj j n with h|h;refine .inl ⟨_,l j o' c h v,⟨j+1,o'.set j (g j),rfl,ω,ω,by simp[v],λk G=>?_,λk b q=>?_⟩,ζ⟩;rw[getElem?_set_ne ω];exact w k G;rcases Cj k j with D|D;rw[getElem?_set_ne ω];exact C k b D;have:k=j:=ω;subst this;rw[getElem?_set_self ω];have:j=n:=ω;subst this;exact .inr ⟨o',F o' v,v,w,C⟩) ((i:Int),o) ⟨i,o,rfl,ω,hi,E,λ_ _=>rfl,λk v w=>ω⟩;rw[y,Ac];exact x e f.1 f.2.1 f.2.2
theorem Bbm(n:Nat)(w:n<=1000):Acq (n:Int)=some (Ls n λ_=>0):=by unfold Acq;rw[Mj rfl rfl (Nat.le_refl _) ω ω,Ac];refine Ajj (i:=0) (n:=n) _ (λ_=>cR 0) ω ψ ?_ ?_ ?_;intro j o _ r q;have s:o[j]?=some o[j]:=Bi ω;simp only[length_replicate,An (ω:(j:Int)<(n:Int)),Ak,Bas,Ac,Bq rfl s,Dl r ω,Gw (n:=j) rfl];intro o h;simp only[length_replicate,Au (ω:¬(n:Int)<(n:Int)),Al];intro o u _ q;rw[Aef u (f:=λ_=>0) λk v=>q k ω v]
theorem Ax6(n k:Nat)(o:n<1000000000)(q:k<=64):Ahe (n:Int) (k:Int)=some (cR (bc n k)):=by(have h:Y2 (n:Int) (k:Int)=some (cR (bc n k)):=by rw[Awl n k o q,Ajg,show Cd false (fct k*bc n k) (fct k)=Cd false (fct k*bc n k) (fct k*1)by rw[Nat.mul_one],Un _ _ _ _ (Ai3 k)];rfl);exact h
theorem Ax7(h:n<=40):bc n k<F0:=by refine Nat.lt_of_le_of_lt (Ad7 n k) ?_;exact Nat.lt_of_le_of_lt (Nat.pow_le_pow_right δ h) δ
theorem Ax8(a b:Nat)(D:a<=16)(hb:b<=16):V5 (a:Int) (b:Int)=some (Ls (a+b+1) (Rc a b)):=by unfold V5;(have q:Aa ((a:Int)+(b:Int))=((a+b:Nat):Int):=by rw[Aa,Bz]<;>omega);(have l:Aa (((a+b:Nat):Int)+1)=((a+b+1:Nat):Int):=by rw[Aa,Bz]<;>omega);(have e:(if(b:Int)>(a:Int)then(b:Int)else(a:Int))=((max a b:Nat):Int):=by split<;>omega);rw[q,l,Bbm _ ω,Ac,e];refine Ajj (i:=max a b) (n:=a+b+1) _ (λk=>cR (Rc a b k)) ω (by simp[K4]) ?_ ?_ ?_;intro j o u r v;have C:o[j]?=some o[j]:=Bi ω;have g:Aa ((j:Int)-(b:Int))=((j-b:Nat):Int):=ξ;have s:Rc a b j=bc j a*bc a (j-b):=(by unfold Rc;rw[Av ω]);simp only[An (ω:(j:Int)<=((a+b:Nat):Int)),Ak,Ax6 j a ω ω,g,Ax6 a (j-b) ω ω,Ac,(Np.c (Ax7 (ω:j<=40))).mul (Np.c (Ax7 (k:=j-b) (ω:a<=40))),Bq rfl C,Dl r ω,Gw (n:=j) rfl,s];intro o h;simp only[Au (ω:¬((a+b+1:Nat):Int)<=((a+b:Nat):Int)),Al];intro o u r v;rw[Aef u (f:=Rc a b) λk w=>?_];rcases Cj k (max a b)with h|h;rw[r k h,Mr _ w];(have:Rc a b k=0:=by rcases(ω:k<a\/k<b)with h|h;exact Axu h;unfold Rc;rw[As ω]);rw[this];exact v k h w
theorem Bbn{f:Nat->Nat}{c:Nat}(A:m<=1000)(I:n<=1000)(w:∀k,k<m->f k<F0)(hg:∀k,k<n->g k<F0)(r:c<F0):V4 (Ls m f) (Ls n g) (cR c)=some (Ls (max m n) λk=>(if k<m then f k else 0)+(if k<n then g k else 0)*c):=by unfold V4;rw[K4,K4];(have e:(if(n:Int)>(m:Int)then(n:Int)else(m:Int))=((max m n:Nat):Int):=by split<;>omega);rw[e,Mj rfl rfl (Nat.le_refl _) ω ω,Ac];refine Ajj (i:=0) (n:=max m n) _ (λk=>cR ((if k<m then f k else 0)+(if k<n then g k else 0)*c)) ω ψ ?_ ?_ ?_;intro j o _ C v;have D:o[j]?=some o[j]:=Bi ω;(obtain⟨x,u,s⟩:∃x:Ay,(bif decide ((j:Int)<(m:Int))then((Ag (Ls m f) (j:Int)).bind λb=>some (b.N,b.U,b.B))else some (false,[],[]))=some (x.N,x.U,x.B)/\Np x (if j<m then f j else 0):=by by_cases h:j<m;rw[An ω,Ak,Bq rfl (Mr f h),Av h];exact⟨_,rfl,Np.c (w j h)⟩;rw[Au ω,Al,As h];exact⟨⟨false,[],[]⟩,rfl,Np.z⟩);(obtain⟨y,q,l⟩:∃x:Ay,(bif decide ((j:Int)<(n:Int))then((Ag (Ls n g) (j:Int)).bind λb=>some (b.N,b.U,b.B))else some (false,[],[]))=some (x.N,x.U,x.B)/\Np x (if j<n then g j else 0)/\(if j<n then g j else 0)<F0:=by by_cases h:j<n;rw[An ω,Ak,Bq rfl (Mr g h),Av h];exact⟨_,rfl,Np.c (hg j h),hg j h⟩;rw[Au ω,Al,As h];exact⟨⟨false,[],[]⟩,rfl,Np.z,δ⟩);have E:Bw ((if j<n then g j else 0)*c)<=200:=(by have:=Jr (if j<n then g j else 0) c;have:=Ao3 l.2;have:=Ao3 r;omega);have F:Acd x y (cR c)=some (cR ((if j<m then f j else 0)+(if j<n then g j else 0)*c)):=(by unfold Acd;rw[(Np.c r).mul l.1,Ac,Nat.mul_comm c,s.add (Np.cR E)];rfl);simp only[length_replicate,An (ω:(j:Int)<((max m n:Nat):Int)),Ak];erw[u,Ac,q,Ac];dsimp only;rw[F,Ac,Bq rfl D,Ac,Dl C ω,Gw (n:=j) rfl];intro o h;simp only[length_replicate,Au (ω:¬((max m n:Nat):Int)<((max m n:Nat):Int)),Al];intro o G _ v;rw[Aef G (f:=λk=>(if k<m then f k else 0)+(if k<n then g k else 0)*c) λk H=>v k ω H]
theorem Ao4{p:Ei}{f:Nat->Nat}(E:n<1000)(s:p.length=n+1)(hp:∀k,k<n+1->∃x,p[k]?=some x/\Np x (f k))(b:f n≠0):Qk p=some (Ls (n+1) f):=by unfold Qk;obtain⟨x,q,l⟩:=hp n ω;(have w:Aa (((n+1:Nat):Int)-1)=(n:Int):=by rw[Aa,Bz]<;>omega);refine Ff (a:=((n+1:Nat):Int)) (Ej ?_) ?_;rw[s];simp only[An (ω:((n+1:Nat):Int)>0),Ak,w,Bq rfl q,Ac,l.sign,As b];rfl;rw[Mj rfl rfl (Nat.le_refl _) ω ω,Ac];refine Ajj (i:=0) (n:=n+1) _ (λk=>cR (f k)) ω ψ ?_ ?_ ?_;intro j o _ r u;have v:o[j]?=some o[j]:=Bi ω;obtain⟨y,g,c⟩:=hp j r;simp only[length_replicate,An (ω:(j:Int)<((n+1:Nat):Int)),Ak,Bq rfl g,c.can,Ac,Bq rfl v,Dl r ω,Gw (n:=j) rfl];intro o h;simp only[length_replicate,Au (ω:¬((n+1:Nat):Int)<((n+1:Nat):Int)),Al];intro o C _ u;rw[Aef C (f:=f) λk D=>u k ω D]
def Ir(n d:Nat)(f:Nat->Nat)(k:Nat):Nat:=sm n λa=>f a*Rc a d k
theorem Ax9(a d:Nat):0<Rc a d (a+d):=by unfold Rc;rw[Av ω,show a+d-d=a by omega,Xi];(have:0<bc (a+d) a:=by(have h:∀d,0<bc (a+d) a:=by intro d;induction d with|zero=>rw[Nat.add_zero,Xi];decide|succ d ih=>cases a with|zero=>rw[Kn];decide|succ a=>rw[show a+1+(d+1)=(a+1+d)+1 by omega,Z6];omega);exact h d);omega
theorem Bbo{f:Nat->Nat}{p q:Ei}(a1:n+d<=12)(hp:p=Ls (n+1) f)(i:f n≠0)(hq:q.length=d+1)(R:∀k,k<d+1->∃x,q[k]?=some x/\Np x (if k=d then 1 else 0))(hf:∀k,k<n+1->f k<F0)(X:∀a k,a<=n+1->Ir a d f k<F0):Aby p q=some (Ls (n+d+1) (Ir (n+1) d f),true):=by
 unfold Aby;(have l:p.length=n+1:=by rw[hp,K4]);rw[l,hq,Au ω,Au ω];simp only[Al,Ac];have c1:Qk p=some (Ls (n+1) f):=Ao4 ω l (λk o=>⟨_,by rw[hp];exact Mr f o,Np.c (hf k o)⟩) i;have c2:Qk q=some (Ls (d+1) λk=>if k=d then 1 else 0):=Ao4 ω hq R ψ;(have w:Aa (((n+1:Nat):Int)+((d+1:Nat):Int))=((n+d+2:Nat):Int):=by rw[Aa,Bz]<;>omega);rw[c1,Ac,c2,Ac,K4,K4,Cx ω,Cx ω];simp only[Al,Ac];rw[w,Au ω,Al]
 obtain⟨r,Z,Y⟩:=Ft (J:=λB=>(Qk B).bind λA=>some (A,true)) (Q:=λr=>r=(Ls (n+d+1) (Ir (n+1) d f),true)) (step:=λ(x:List Ay×Int)=>match x with
  |(H,C)=>
   bif C<((n+1:Nat):Int)then(
   (Ag (Ls (n+1) f) C).bind λM=>
   (Am (S:=(List Ay×Int)) (E:=(List Ay×Int)) (λ(g,v)=>
   bif v<((d+1:Nat):Int)then(
   (Ag (Ls (d+1) λk=>if k=d then 1 else 0) v).bind λI=>
   (H5 M I).bind λP=>
   (Kh P).bind λG=>
   bif(G==(0:Int))then(
   some (.inl (g,Aa (v+1)))
   )
   else(
   (V5 C v).bind λD=>
   (V4 g D P).bind λa0=>
   some (.inl (a0,Aa (v+1)))
   )
   )
   else(
   some (.inr (g,v))
   )
    ) (H,0)).bind λ(a2,a3)=>
   some (.inl (a2,Aa (C+1)))
   )
   else(
   some (.inr H)
   )) (s:=([],0))
  (λs=>∃(a L:Nat)(h:Nat->Nat),s=(Ls L h,(a:Int))/\a<=n+1/\L<=a+d/\(∀k,(if k<L then h k else 0)=Ir a d f k)/\(a=n+1->L=n+d+1)) (λs=>n+1-s.2.toNat)
  (λe=>e=Ls (n+d+1) (Ir (n+1) d f)) ⟨0,0,λ_=>0,rfl,ω,ω,λk=>by simp[Ir,sm],ω⟩ (by
  rintro _ ⟨a,L,h,rfl,ha,hL,z,y⟩
  rcases Cj a (n+1)with F|F
  .left
   have N:Np (cR 0) 0:=Np.c δ
   have b:∀k,Ir (a+1) d f k=Ir a d f k+f a*Rc a d k:=λk=>rfl
   have hh:∀k,k<L->h k<F0:=λk o=>by
    have:=z k
    rw[Av o]at this
    rw[this];exact X a k ω
   by_cases W:f a=0
   .refine⟨(Ls L h,((a+1:Nat):Int)),?_,⟨a+1,L,h,rfl,ω,ω,λk=>by rw[b,W,z];simp,λe=>?_⟩,ζ⟩
    .simp only[An (ω:(a:Int)<((n+1:Nat):Int)),Ak,Bq rfl (Mr f F),Ac,W]
     refine Ml (d+1) (λj=>(Ls L h,(j:Int))) rfl ?_ ⟨(Ls L h,((d+1:Nat):Int)),?_,?_⟩
     .intro j T
      have hy:Np (cR (if j=d then 1 else 0)) (if j=d then 1 else 0):=Np.c (by split<;>decide)
      simp only[An (ω:(j:Int)<((d+1:Nat):Int)),Ak,Bq rfl (Mr _ T),Ac,N.mul hy,Nat.zero_mul,N.sign,if_true,Dl T ω]
      rfl
     .simp only[Au (ω:¬((d+1:Nat):Int)<((d+1:Nat):Int)),Al]
     .rw[Dl F ω]
    .have:a=n:=ω
     subst this;exact(i W).elim
   .have u:=Np.c (hf a F)
    have U:V4 (Ls L h) (Ls (a+d+1) (Rc a d)) (cR (f a))=some (Ls (a+d+1) λk=>(if k<L then h k else 0)+(if k<a+d+1 then Rc a d k else 0)*f a):=by
     rw[Bbn ω ω hh (λk o=>?_) (hf a F),show max L (a+d+1)=a+d+1 by omega]
     unfold Rc
     split
     .refine Nat.lt_of_le_of_lt (Nat.mul_le_mul (Ad7 k a) (Ad7 a (k-d))) ?_
      rw[<-Nat.pow_add]
      exact Nat.lt_of_le_of_lt (Nat.pow_le_pow_right δ (ω:k+a<=40)) δ
     .decide
    refine⟨(Ls (a+d+1) λk=>(if k<L then h k else 0)+(if k<a+d+1 then Rc a d k else 0)*f a,((a+1:Nat):Int)),?_,⟨a+1,a+d+1,_,rfl,ω,ω,λk=>?_,λe=>ω⟩,ζ⟩
    .simp only[An (ω:(a:Int)<((n+1:Nat):Int)),Ak,Bq rfl (Mr f F),Ac]
     refine Ml (d+1) (λj=>if j<=d then(Ls L h,(j:Int))else(Ls (a+d+1) λk=>(if k<L then h k else 0)+(if k<a+d+1 then Rc a d k else 0)*f a,(j:Int))) ψ ?_ ⟨((Ls (a+d+1) λk=>(if k<L then h k else 0)+(if k<a+d+1 then Rc a d k else 0)*f a),((d+1:Nat):Int)),?_,?_⟩
     .intro j T
      have hy:Np (cR (if j=d then 1 else 0)) (if j=d then 1 else 0):=Np.c (by split<;>decide)
      rw[Av ω]
      simp only[An (ω:(j:Int)<((d+1:Nat):Int)),Ak,Bq rfl (Mr _ T),Ac,u.mul hy,Dl T ω]
      rcases Cj j d with h2|h2
      .rw[As (ω:¬j=d),Nat.mul_zero,N.sign,Ac,Av (ω:j+1<=d)]
       rfl
      .have:j=d:=ω
       subst this
       rw[Av rfl,Nat.mul_one,u.sign,Ac,As W,Ax8 a j ω ω,Ac,U,As ω]
       rfl
     .rw[As ω]
      simp only[Au (ω:¬((d+1:Nat):Int)<((d+1:Nat):Int)),Al]
     .rw[Dl F ω]
    .rw[b,<-z]
     by_cases o:k<a+d+1
     .rw[Av o,Av o,Nat.mul_comm (Rc a d k)]
     .rw[As o,As ω,Axt ω];simp
  .have:a=n+1:=ω
   subst this
   right
   have V:=y rfl
   refine⟨Ls L h,?_,?_⟩
   .simp only[Au (ω:¬((n+1:Nat):Int)<((n+1:Nat):Int)),Al]
   .subst V
    refine Aef (K4 _ _) λk o=>?_
    have:=z k
    rw[Av o]at this
    rw[Mr _ o,this]) (by
  rintro _ rfl
  refine⟨_,Ff (Ao4 (n:=n+d) (f:=Ir (n+1) d f) ω (K4 _ _) (λk o=>⟨_,Mr _ o,Np.c (X _ _ ω)⟩) ?_) rfl,rfl⟩
  have e:Ir (n+1) d f (n+d)=Ir n d f (n+d)+f n*Rc n d (n+d):=rfl
  have:=Nat.mul_pos (Nat.pos_of_ne_zero i) (Ax9 n d)
  omega)
 rw[<-Y];exact Z
theorem Bbp(d x N:Nat)(f:Nat->Nat):∀M,(∀a,a<M->a+d<N)->sm N (λk=>Ir M d f k*bc x k)=sm M (λa=>f a*bc x a)*bc x d:=by intro M;induction M with|zero=>intro _;rw[Xh (λk _=>by simp[Ir,sm])];simp[sm]|succ M ih=>intro h;(have e:∀k,Ir (M+1) d f k*bc x k=Ir M d f k*bc x k+f M*(Rc M d k*bc x k):=λk=>by show(Ir M d f k+f M*Rc M d k)*bc x k=_;rw[Nat.add_mul,Nat.mul_assoc]);rw[Z4 λk _=>e k,Xg,ih λa o=>h a ω,Axr,Xj x M d N (h M ω)];show _=(sm M (λa=>f a*bc x a)+f M*bc x M)*bc x d;rw[Nat.add_mul,Nat.mul_assoc (f M)]
theorem Bbq(d:Nat)(f:Nat->Nat)(k:Nat):∀{m n:Nat},m<=n->Ir m d f k<=Ir n d f k:=by intro m n h;induction n with|zero=>have:m=0:=ω;subst this;exact Nat.le_refl _|succ n ih=>rcases Cj m (n+1)with o|o;have:=ih ω;have e:Ir (n+1) d f k=Ir n d f k+f n*Rc n d k:=rfl;omega;have:m=n+1:=ω;subst this;exact Nat.le_refl _
def prb(x:Nat):A7->Nat
 |[]=>1
 |a::l=>bc x a.P.toNat*prb x l
def Cq:A7->Nat
 |[]=>0
 |a::l=>a.P.toNat+Cq l
theorem Aya(x:Nat)(l m:A7):prb x (l++m)=prb x l*prb x m:=by induction l with|nil=>simp[prb]|cons a l ih=>simp only[Fd,prb,ih,Nat.mul_assoc]
theorem Uv(l m:A7):Cq (l++m)=Cq l+Cq m:=by induction l with|nil=>simp[Cq]|cons a l ih=>simp only[Fd,Cq,ih,Nat.add_assoc]
theorem Ao5{m:A7}(h:l.Perm m):Cq l=Cq m:=by induction h with|nil=>rfl|cons a _ ih=>simp only[Cq,ih]|swap a b l=>simp only[Cq];omega|trans _ _ o q=>exact o.trans q
theorem Bbr(x d:Nat):bc x d<=(x+1)^d:=Nat.le_trans (Ao2 x d) (Nat.pow_le_pow_left ω d)
theorem Ayb(x:Nat):∀l:A7,prb x l<=(x+1)^Cq l
 |[]=>by simp[prb,Cq]
 |a::l=>by simp only[prb,Cq,Nat.pow_add];exact Nat.mul_le_mul (Bbr x _) (Ayb x l)
theorem Z8{x:Nat}(o:x<=1048576)(h:Cq l<=12):prb x l<F0:=by refine Nat.lt_of_le_of_lt (Ayb x l) ?_;refine Nat.lt_of_le_of_lt (Nat.pow_le_pow_left (ω:x+1<=1048577) _) ?_;exact Nat.lt_of_le_of_lt (Nat.pow_le_pow_right δ h) δ
def PwN(l:A7)(N:Nat)(f:Nat->Nat):Prop:=N=Cq l/\f N≠0/\∀x,sm (N+1) (λk=>f k*bc x k)=prb x l
theorem PwN.le{f:Nat->Nat}(h:PwN l N f)(hk:k<N+1):f k<=prb k l:=by have h1:=h.2.2 k;(have h2:f k*bc k k<=sm (N+1) (λj=>f j*bc k j):=by(have:∀n,k<n->f k*bc k k<=sm n (λj=>f j*bc k j):=by intro n;induction n with|zero=>intro h;omega|succ n ih=>intro h;show _<=sm n _+f n*bc k n;rcases Cj k n with h'|h';have:=ih h';omega;have:k=n:=ω;subst this;omega);exact this _ hk);rw[Xi,Nat.mul_one]at h2;omega
theorem PwN.step{f:Nat->Nat}(h:PwN l N f)(a:Bf):PwN (l++[a]) (N+a.P.toNat) (Ir (N+1) a.P.toNat f):=by refine⟨by rw[Uv,h.1];simp[Cq],?_,λx=>?_⟩;have e:Ir (N+1) a.P.toNat f (N+a.P.toNat)=Ir N a.P.toNat f (N+a.P.toNat)+f N*Rc N a.P.toNat (N+a.P.toNat):=rfl;have:=Nat.mul_pos (Nat.pos_of_ne_zero h.2.1) (Ax9 N a.P.toNat);omega;rw[Bbp _ x _ f (N+1) λb ha=>ω,h.2.2 x,Aya];simp[prb]
theorem Bbs(l:A7)(x:l≠[])(C:∀a∈l,a.L.T.length≠0)(F:∀a∈l,0<=a.P)(R:Cq l<=12)(S:l.length<=1000):∃N f,Qf l=some (Ls (N+1) f)/\PwN l N f:=by(have H:Ahh l=false:=by cases l with|nil=>exact(x rfl).elim|cons a M=>have:=C a ψ;show(a.L.T.length==0)=false;simpa using this);(have P:∃N f,Ahg l=some (Ls (N+1) f)/\PwN l N f:=by unfold Ahg;rw[Pv,Ac];(suffices h:∃r,_/\∃N f,r=Ls (N+1) f/\PwN l N f by obtain⟨r,G,N,f,E,D⟩:=h;exact⟨N,f,by rw[<-E];exact G,D⟩);refine Ft (λs=>∃(i N:Nat)(f:Nat->Nat),s=(Ls (N+1) f,(i:Int))/\i<=l.length/\PwN (l.take i) N f) (λs=>l.length-s.2.toNat) (λe=>∃N f,e=Ls (N+1) f/\PwN l N f) ⟨0,0,λ_=>1,rfl,ω,by simp[PwN,Cq,prb,sm,Kn]⟩ ?_ ?_;rintro _ ⟨i,N,f,rfl,X,g⟩;rcases Cj i l.length with h|h;left;have v:l[i]?=some l[i]:=Bi h;have b:=getElem_mem h;generalize l[i]=a at v b;have U:=C a b;have L:=F a b;have B:Cq l=Cq (l.take i)+(a.P.toNat+Cq (l.drop (i+1))):=(by have:=Uv (l.take i) (l.drop i);rw[take_append_drop]at this;rw[this,Mo v];rfl);have V:=g.1;have w:Aa (a.P+1)=((a.P.toNat+1:Nat):Int):=ξ;have I:Ag (replicate (a.P.toNat+1) (⟨false,[],[]⟩:Ay)) a.P=some ⟨false,[],[]⟩:=Bq (n:=a.P.toNat) ω ψ;have u:=g.step a;(have Q:∀A k,A<=N+1->Ir A a.P.toNat f k<F0:=by intro A k y;refine Nat.lt_of_le_of_lt (Bbq _ f k y) ?_;rcases Cj k (N+a.P.toNat+1)with o|o;refine Nat.lt_of_le_of_lt (u.le o) (Z8 ω ?_);rw[Uv];simp only[Cq];omega;(have:Ir (N+1) a.P.toNat f k=0:=Xh λj hj=>by rw[Axt ω];rfl);rw[this];decide);have J:=Bbo (n:=N) (d:=a.P.toNat) (f:=f) (p:=Ls (N+1) f) (q:=Cl (replicate (a.P.toNat+1) ⟨false,[],[]⟩) a.P (cR 1)) ω rfl g.2.1 (by rw[Gw (n:=a.P.toNat) ω];simp) (λk o=>by rw[Gw (n:=a.P.toNat) ω];by_cases e:k=a.P.toNat;subst e;rw[Av rfl];exact⟨_,getElem?_set_self ψ,Np.c δ⟩;rw[As e,getElem?_set_ne ω];exact⟨⟨false,[],[]⟩,by simp[o],Np.z⟩) (λk o=>Nat.lt_of_le_of_lt (g.le o) (Z8 ω ω)) Q;refine⟨(Ls (N+a.P.toNat+1) (Ir (N+1) a.P.toNat f),((i+1:Nat):Int)),?_,⟨i+1,_,_,rfl,ω,by rw[Cs v];exact u⟩,ζ⟩;simp only[An (ω:(i:Int)<(l.length:Int)),Ak,Bq rfl v,Ac,Cx (ω:¬(a.L.T.length:Int)=0),Al,w,Mj rfl rfl (Nat.le_refl _) (ω:56*(a.P.toNat+1)<=281474976710656) ω,Pv,I,J,Dl h ω];have:i=l.length:=ω;subst this;rw[Dh]at g;right;exact⟨_,by simp only[Au (ω:¬(l.length:Int)<(l.length:Int)),Al],_,_,rfl,g⟩;rintro _ ⟨N,f,rfl,h⟩;exact⟨_,rfl,N,f,rfl,h⟩);obtain⟨N,f,T,W⟩:=P;refine⟨N,f,?_,W⟩;unfold Qf;rw[H,Al];exact T
theorem Bbt{c:Int}{d:Int}(o:c<=1048576)(q:0<=d)(b:d<=64):Rs c d=some (cR (bc c.toNat d.toNat),true):=by have h:=Bau c.toNat d.toNat ω ω;have e:((d.toNat:Nat):Int)=d:=ω;rw[e]at h;rw[<-h];unfold Rs;(have f:(if c>(0:Int)then c else 0)=(if((c.toNat:Nat):Int)>(0:Int)then((c.toNat:Nat):Int)else 0):=by split<;>split<;>omega);rw[f]
theorem Bbu(l:A7){c:Int}(H:c<=1048576)(F:∀a∈l,a.L.T.length=0/\a.L.Q=c)(M:∀a∈l,0<=a.P)(G:Cq l<=12)(I:l.length<=1000) :
  Qf l=some [cR (prb c.toNat l)]:=by
 have P:Ahf l=some [cR (prb c.toNat l)]:=by
  unfold Ahf
  rw[Pv,Ac]
  obtain⟨r,B,A⟩:∃r,_/\r=[cR (prb c.toNat l)]:=Ft (λs=>∃i:Nat,s=((i:Int),[cR (prb c.toNat (l.take i))])/\i<=l.length) (λs=>l.length-s.1.toNat) (λe=>e=[cR (prb c.toNat l)]) (J:=λo=>some o)
   (step:=λ(x:Int×List Ay)=>match x with
    |(g,f)=>
     bif g<(l.length:Int)then(
     (Ag l g).bind λb=>
     bif((b.L.T.length:Int)==(0:Int))then(
     (Rs b.L.Q b.P).bind λk=>
     (Ag f 0).bind λw=>
     (H5 w k.1).bind λC=>
     (Ag f 0).bind λQ=>
     some (.inl (Aa (g+1),Cl f 0 C))
     )
     else(
     (Hi 56 (Aa (b.P+1)) (Aa (b.P+1)) ((Ay.mk false [] []):Ay)).bind λq=>
     (Hy 1).bind λS=>
     (Ag q b.P).bind λT=>
     none
     )
     )
     else(
     some (.inr f)
     )) (s:=(0,[cR 1]))
   ⟨0,rfl,ω⟩ (by
   rintro _ ⟨i,rfl,W⟩
   rcases Cj i l.length with h|h
   .left
    have v:l[i]?=some l[i]:=Bi h
    have j:=getElem_mem h
    generalize l[i]=a at v j
    obtain⟨L,D⟩:=F a j
    have y:=M a j
    have e:Cq l=Cq (l.take i)+(a.P.toNat+Cq (l.drop (i+1))):=by
     have:=Uv (l.take i) (l.drop i)
     rw[take_append_drop]at this
     rw[this,Mo v];rfl
    have U:prb c.toNat (l.take i)<F0:=Z8 ω ω
    have z:bc c.toNat a.P.toNat<F0:=by
     have:=Z8 (x:=c.toNat) (l:=[a]) ω (by simp only[Cq];omega)
     simpa[prb]using this
    have u:Ag [cR (prb c.toNat (l.take i))] 0=some (cR (prb c.toNat (l.take i))):=rfl
    refine⟨_,?_,⟨i+1,rfl,ω⟩,ζ⟩
    simp only[An (ω:(i:Int)<(l.length:Int)),Ak,Bq rfl v,Ac,Ew (ω:(a.L.T.length:Int)=0),D,Bbt H y (ω:a.P<=64),u,(Np.c U).mul (Np.c z),Dl h ω]
    rw[Cs v,Aya]
    simp[prb,Cl]
   .have:i=l.length:=ω
    subst this
    right
    exact⟨[cR (prb c.toNat (take l.length l))],by simp only[Au (ω:¬(l.length:Int)<(l.length:Int)),Al],by rw[Dh]⟩) (by
   rintro _ rfl
   exact⟨_,rfl,rfl⟩)
  rw[<-A]
  exact B
 have V:Ahh l=true:=by
  cases l with
  |nil=>rfl
  |cons a E=>
   have:=(F a ψ).1
   show(a.L.T.length==0)=true
   simpa using this
 unfold Qf
 rw[V,Ak,P]
noncomputable def Ajk(cmp:α->α->A9)(a0:Int)(g:Λ α):Ο (List α):=(Am (S:=(Int×Int×(List α))) (E:=(Int×Int×(List α))) (λ(q,o,i)=>bif o<=a0 then((Ad8 cmp q o i).bind λh=>(Hx g.length h).bind λl=>some (.inl (o,Aa (o+20),h)))else(some (.inr (q,o,i)))) (0,20,g)).bind λ(r,s,f)=>(Ad8 cmp r a0 f).bind λc=>(Hx g.length c).bind λu=>(Am (S:=(Int×Int×Int)) (E:=Unit) (λ(b,k,j)=>bif b<a0 then((Am (S:=Unit) (E:=Unit) (λ_=>bif(Aa (2*b))<=a0 then(none)else(some (.inr ()))) ()).bind λ_=>bif(Aa (0+b))<a0 then(none)else(some (.inl (Aa (b*2),0,Aa (2*b)))))else(some (.inr ()))) (20,r,s)).bind λ_=>some c
theorem Ayc{c:α->α->Int}(L:P8 c)(f:Λ α)(g:∀x∈f,∀y∈f,cmp x y=some (c x y))(r:f.length<20):∃R,Ajk cmp (f.length:Int) f=some R/\R.Perm f/\R.Pairwise (λa b=>¬c b a<0):=by obtain⟨R,o,h,q⟩:=Axq L f g ω;refine⟨R,?_,h,q⟩;unfold Ajk;refine Ff (a:=(0,20,f)) (Ej ?_) ?_;simp only[Au (ω:¬(20:Int)<=(f.length:Int)),Al];dsimp only;rw[o,Ac,On h.length_eq.symm,Ac];refine Ff (a:=()) (Ej ?_) rfl;simp only[Au (ω:¬(20:Int)<(f.length:Int)),Al]
theorem Z9:P8 Eh where
 irr x:=by rw[(Ja.zero x x trivial trivial).2 rfl];omega
 trs x y z o h:=Ja.trans x y z trivial trivial trivial o h
 ntr x y z o h q:=by
  rcases Int.lt_trichotomy (Eh x y) 0 with k|k|k
  .exact o k
  .have:=(Ja.zero x y trivial trivial).1 k
   subst this;exact h q
  .have b:Eh y x<0:=by rw[Ja.anti x y trivial trivial];omega
   exact h (Ja.trans y x z trivial trivial trivial b q)
theorem Bbv:P8 (λa b:Bf=>Eh a.L b.L):=⟨λ_=>Z9.irr _,λ_ _ _=>Z9.trs _ _ _,λ_ _ _=>Z9.ntr _ _ _⟩
def Aeg(l:A7):Prop:=l.Pairwise λa b=>¬Eh b.L a.L<0
theorem Bbw(b:A7)(o:∀a∈b,a.L.T.length<1099511627776)(q:b.length<20):∃R,Abn b=some R/\R.Perm b/\Aeg R:=by obtain⟨R,r,h,s⟩:=Ayc (cmp:=Yl) Bbv b (λx u y _=>by unfold Yl;rw[Aij x.L y.L (o x u)];rfl) q;refine⟨R,?_,h,s⟩;unfold Abn;have e:Agi (b.length:Int) b=Ajk Yl (b.length:Int) b:=rfl;rw[e,r,Ac,On h.length_eq.symm];rfl
theorem Ajl(n:Nat)(h:n<=1000000):N5 (α:=α) (n:Int)=some []:=by unfold N5;rw[An ω,An ω];rfl
theorem Bbx(a b:A7)(h:a.length+b.length<=1000000):Agf [a,b]=some (a++b):=Aox (B:=40) δ (gr:=Agm) (λn h=>Ajl n h) a b h
theorem Bby(a b:Ba)(h:a.length+b.length<=1000000):Age [a,b]=some (a++b):=Aox (B:=40) δ (gr:=Agl) (λn h=>Ajl n h) a b h
theorem Ao6(m n:A4)(h:m.F.length+n.F.length<=1000000)(o:m.A.length+n.A.length<=1000000):S8 m n=some ⟨m.F++n.F,m.A++n.A⟩:=by unfold S8;rw[Bby _ _ h,Ac,Bbx _ _ o];rfl
def atO(l:Bp)(k:Nat):A7:=if k=0 then[]else[⟨l,k⟩]
theorem Bbz(l:Bp)(k:Nat):Ym l (k:Int)=some (atO l k):=by unfold Ym atO;by_cases h:k=0;rw[Ew ω,Av h];rfl;rw[Cx ω,As h];rfl
theorem Ayd(l:Bp)(k:Nat):(atO l k).length<=1:=by unfold atO;split<;>simp
abbrev FS:={F:List Bd // F.length<=1000}
theorem Bb0{t:Aj}{x:Ay}{F:FS}(b:t.M=⟨F.1,A⟩)(f:A.length+B.length<=1000000)(g:K<30000000000)(h:RB K t.C)(o:RB 200 x):∃u,Pc t x ⟨[],B⟩=some u/\u.M=⟨F.1,A++B⟩/\rq u.C=rq t.C*rq x/\RB (K+202) u.C:=by obtain⟨c,q,r,_,s⟩:=Ai5 h o ω ω;refine⟨⟨c,⟨F.1,A++B⟩⟩,?_,rfl,s,r⟩;unfold Pc;have:=F.2;rw[q,Ac,b,Ao6 _ _ ζ f,append_nil];rfl
abbrev Ent:=List Bf×Nat
inductive Ms(F:FS)(c:Rat)(K:Nat):List Aj->List Ent->Prop
 |nil:Ms F c K [] []
 |cons{t:Aj}{b:Ent}{ts:List Aj}{bs:List Ent}:t.M=⟨F.1,b.1⟩->rq t.C=c*(b.2:Rat)->RB K t.C->Ms F c K ts bs->Ms F c K (t::ts) (b::bs)
theorem Ms.len{F:FS}{c:Rat}{ts:Ap}{bs:Λ Ent}(h:Ms F c K ts bs):ts.length=bs.length:=by induction h with|nil=>rfl|cons _ _ _ _ ih=>simp[ih]
theorem Ms.app{F:FS}{c:Rat}{ts f:Ap}{bs cs:Λ Ent}(h:Ms F c K ts bs)(h':Ms F c K f cs):Ms F c K (ts++f) (bs++cs):=by induction h with|nil=>exact h'|cons a b d _ ih=>exact .cons a b d ih
theorem Ms.mono{F:FS}{c:Rat}{f:Nat}{ts:Ap}{bs:Λ Ent}(h:Ms F c K ts bs)(hk:K<=f):Ms F c f ts bs:=by induction h with|nil=>exact .nil|cons a b d _ ih=>exact .cons a b (d.mono hk) ih
theorem Ms.get{F:FS}{c:Rat}{ts:Ap}{bs:Λ Ent}(h:Ms F c K ts bs):∀{j:Nat}{t:Aj},ts[j]?=some t->∃b,bs[j]?=some b/\t.M=⟨F.1,b.1⟩/\rq t.C=c*(b.2:Rat)/\RB K t.C:=by induction h with|nil=>intro j t h;simp at h|@cons t b ts bs q r s _ ih=>intro j u o;cases j with|zero=>simp only[getElem?_cons_zero,Option.some.injEq]at o;subst o;exact⟨b,rfl,q,r,s⟩|succ j=>simp only[getElem?_cons_succ]at o;simpa using ih o
def fs0:FS:=⟨[],δ⟩
abbrev Rep(c:Rat)(K:Nat):Ap->Λ Ent->Prop:=Ms fs0 c K
def Jk(B:Λ Ent)(l:Bp)(f:Nat->Nat)(n:Nat):Λ Ent:=(range n).flatMap λk=>if f k=0 then[]else B.map λb=>(b.1++atO l k,b.2*f k)
theorem Aye(B:Λ Ent)(l:Bp)(f:Nat->Nat)(n:Nat):Jk B l f (n+1)=Jk B l f n++(if f n=0 then[]else B.map λb=>(b.1++atO l n,b.2*f n)):=by unfold Jk;rw[range_succ,flatMap_append];simp
noncomputable def Aeh(h:Ap)(l:Bp)(k:Int)(x:Ay):Int×List Aj->Cv:=λ(b,c)=>bif b<(h.length:Int)then((Ag h b).bind λg=>(Ym l k).bind λo=>(Pc g x (A4.mk [] o)).bind λf=>(B5 104 c [f]).bind λi=>some (.inl (Aa (b+1),i)))else(some (.inr (b,c)))
theorem Ao7(z:Int):mkRat z 1=(z:Rat):=by rw[Rat.mkRat_eq_div,show((1:Nat):Rat)=1 from rfl];grind
theorem Sh(n:Nat):rq (cR n)=(n:Rat):=by unfold cR;rw[Ur _ _ _ δ,Ao7];rfl
def Ey:Ca->Nat
 |[]=>1
 |a::l=>a*Ey l
theorem Ayf:∀(l:Ca)(a:Nat),Ey (l++[a])=Ey l*a
 |[],a=>by simp[Ey]
 |b::l,a=>by rw[Fd,Ey,Ey,Ayf l a,Nat.mul_assoc]
theorem Bb1{f:α->Nat}{l:Λ α}{x:α}(h:l[j]?=some x):Ey ((l.take (j+1)).map f)=Ey ((l.take j).map f)*f x:=by rw[Cs h,map_append];exact Ayf _ _
open Classical in
noncomputable def cfW:Cy->A4->Rat
 |[],_=>0
 |t::l,m=>(if t.2=m then t.1 else 0)+cfW l m
def Lm(v:A4->Nat):Cy->Rat
 |[]=>0
 |t::l=>t.1*(v t.2:Rat)+Lm v l
open Classical in
noncomputable def Uw(l:Cy)(m:A4):Cy:=l.filter λt=>decide (t.2≠m)
open Classical in
theorem Ayg(v:A4->Nat)(m:A4):∀l:Cy,Lm v l=cfW l m*(v m:Rat)+Lm v (Uw l m)
 |[]=>by simp only[Lm,cfW,Uw,filter_nil];grind
 |t::l=>by have ih:=Ayg v m l;unfold Uw at *;simp only[Lm,cfW];by_cases e:t.2=m;rw[Av e,filter_cons_of_neg (by simp[e]),ih,e];grind;rw[As e,filter_cons_of_pos (by simp[e])];simp only[Lm];rw[ih];grind
open Classical in
theorem Ayh(m:A4):∀(l:Cy)(q:A4),cfW (Uw l m) q=if q=m then 0 else cfW l q
 |[],q=>by simp[Uw,cfW]
 |t::l,q=>by have ih:=Ayh m l q;unfold Uw at *;by_cases e:t.2=m;rw[filter_cons_of_neg (by simp[e]),ih];by_cases o:q=m;rw[Av o,Av o];rw[As o,As o];simp only[cfW];rw[As (by rw[e];exactλh=>o h.symm)];grind;rw[filter_cons_of_pos (by simp[e])];simp only[cfW];rw[ih];by_cases o:q=m;rw[Av o,Av o,As (by rw[o];exact e)];grind;rw[As o,As o]
open Classical in
theorem Bb2(v:A4->Nat):∀(n:Nat)(l:Cy),l.length<=n->(∀m,0<=cfW l m)->0<=Lm v l:=by intro n;induction n with|zero=>intro l o _;have:l=[]:=F5.1 ω;subst this;exact Rat.le_refl|succ n ih=>intro l o h;cases l with|nil=>exact Rat.le_refl|cons t l=>rw[Ayg v t.2 (t::l)];(have q:0<=Lm v (Uw (t::l) t.2):=by refine ih _ ?_ λm=>?_;unfold Uw;rw[filter_cons_of_neg ψ];have:=length_filter_le (λu:Rat×A4=>decide (u.2≠t.2)) l;simp only[Eo]at o;omega;rw[Ayh];split;exact Rat.le_refl;exact h m);have r:=Rat.mul_nonneg (h t.2) (Rat.natCast_nonneg (a:=v t.2));grind
def wT(t:Aj):Rat×A4:=(rq t.C,t.M)
def nT(t:Aj):Rat×A4:=(- rq t.C,t.M)
theorem Bb3(p:Ap)(m:A4):cfW (p.map wT) m=cf p m:=by induction p with|nil=>rfl|cons t p ih=>simp only[map_cons,cfW,ih,Pu,wT]
theorem Bb4(p:Ap)(m:A4):cfW (p.map nT) m = - cf p m:=by induction p with|nil=>show(0:Rat) = - 0;grind|cons t p ih=>simp only[map_cons,cfW,ih,Pu,nT];split<;>grind
theorem Bb5(l k:Cy)(m:A4):cfW (l++k) m=cfW l m+cfW k m:=by induction l with|nil=>simp only[nil_append,cfW];grind|cons t l ih=>simp only[Fd,cfW,ih];grind
theorem Bb6(v:A4->Nat)(l k:Cy):Lm v (l++k)=Lm v l+Lm v k:=by induction l with|nil=>simp only[nil_append,Lm];grind|cons t l ih=>simp only[Fd,Lm,ih];grind
noncomputable def Ajm(g:Ap)(l:Bp)(p:Ei):Int×List Aj->Cv:=λ(o,b)=>bif o<(p.length:Int)then((Ag p o).bind λq=>(Kh q).bind λc=>bif(c==(0:Int))then(some (.inl (Aa (o+1),b)))else((Am (Aeh g l o q) (0,b)).bind λ(h,f)=>some (.inl (Aa (o+1),f))))else(some (.inr (o,b)))
def Pw(l:Bp)(N:Nat)(f:Nat->Nat)(g:A7):Prop:=(l.T.length≠0/\PwN g N f)\/(l.T.length=0/\N=0/\f 0=prb l.Q.toNat g)
abbrev Grp:=Bp×Nat×(Nat->Nat)
inductive Gs:List Grp->List Bf->Prop
 |nil:Gs [] []
 |cons{l:Bp}{N:Nat}{f:Nat->Nat}{g rest:List Bf}{gs:List Grp}:g≠[]->(∀a∈g,a.L=l)->(∀a∈rest,Eh l a.L<0)->Pw l N f g->Gs gs rest->Gs ((l,N,f)::gs) (g++rest)
def Oo(B:Λ Ent):Λ Grp->Λ Ent
 |[]=>B
 |q::h=>Oo (Jk B q.1 q.2.2 (q.2.1+1)) h
structure Atk(A:List Bf):Prop where
 deg:∀a∈A,0<=a.P
 lin:∀a∈A,Ii a.L=true
 sum:Cq A<=12
 len:A.length<=12
theorem Ajn{a:Bp}(h:Ii a=true):a.T.length<=16/\-1048576<=a.Q/\a.Q<=1048576:=by unfold Ii at h;simp only[Ec,Es]at h;exact⟨h.1.2.2,h.1.1,h.1.2.1⟩
theorem Atk.sub(h:Atk (A++B)):Atk A/\Atk B:=by have h1:=h.sum;have h2:=h.len;rw[Uv]at h1;rw[Fe]at h2;exact⟨⟨λa ha=>h.deg a (by simp[ha]),λa ha=>h.lin a (by simp[ha]),ω,ω⟩,⟨λa ha=>h.deg a (by simp[ha]),λa ha=>h.lin a (by simp[ha]),ω,ω⟩⟩
theorem Bb7{l:Bp}{g:A7}(o:Atk g)(b:g≠[])(hg:∀a∈g,a.L=l):∃N f,Qf g=some (Ls (N+1) f)/\Pw l N f g/\N<=Cq g/\∀k,k<N+1->f k<F0:=by have q:=o.len;have j:=o.sum;(obtain⟨a,r⟩:∃a,a∈g:=by cases g with|nil=>exact(b rfl).elim|cons a _=>exact⟨a,ψ⟩);have c:=o.lin a r;rw[hg a r]at c;have v:=(Ajn c).2.2;by_cases h:l.T.length=0;have u:=Bbu g v (λa r=>by rw[hg a r];exact⟨h,rfl⟩) o.deg o.sum ω;exact⟨0,λ_=>prb l.Q.toNat g,u,.inr ⟨h,rfl,rfl⟩,ω,λk _=>Z8 ω j⟩;obtain⟨N,f,u,s⟩:=Bbs g b (λa r=>by rw[hg a r];exact h) o.deg o.sum ω;refine⟨N,f,u,.inl ⟨h,s⟩,by rw[s.1];exact Nat.le_refl _,λk i=>Nat.lt_of_le_of_lt (s.le i) (Z8 ?_ j)⟩;have:=s.1;omega
noncomputable def Ajo(r:A7)(l:Bp):Int->Ο (Int⊕Int):=λb=>bif b<(r.length:Int)then((Ag r b).bind λh=>(Pd h.L l).bind λc=>bif(c==(0:Int))then(some (.inl (Aa (b+1))))else(some (.inr b)))else(some (.inr b))
theorem Bb8{r:A7}{a:Bf}(h0:r[0]?=some a)(E:∀b∈r,b.L.T.length<1099511627776)(u:r.length<=1000) :
  ∃n:Nat,Am (Ajo r a.L) 1=some (n:Int)/\1<=n/\n<=r.length/\(∀b∈r.take n,b.L=a.L)/\∀b,r[n]?=some b->b.L≠a.L:=by
 have v:=Dq h0
 obtain⟨e,q,n,l,k⟩:=Kf (step:=Ajo r a.L) (λs=>∃n:Nat,s=(n:Int)/\1<=n/\n<=r.length/\∀b∈r.take n,b.L=a.L) (λs=>r.length-s.toNat)
  (λe=>∃n:Nat,e=(n:Int)/\1<=n/\n<=r.length/\(∀b∈r.take n,b.L=a.L)/\∀b,r[n]?=some b->b.L≠a.L) (by
  rintro _ ⟨j,rfl,g,f,c⟩
  unfold Ajo
  rcases Cj j r.length with h|h
  .have w:r[j]?=some r[j]:=Bi h
   have i:=getElem_mem h
   generalize r[j]=b at w i
   simp only[An (ω:(j:Int)<(r.length:Int)),Ak,Bq rfl w,Ac,Aij _ _ (E b i),Dl h ω]
   by_cases C:b.L=a.L
   .left
    rw[Ew ((Ja.zero _ _ trivial trivial).2 C)]
    refine⟨_,rfl,⟨j+1,rfl,ω,ω,λd o=>?_⟩,ω⟩
    rw[Cs w]at o
    rcases Ea.1 o with o|o
    .exact c d o
    .simp only[Fh]at o
     rw[o];exact C
   .right
    rw[Cx λh=>C ((Ja.zero _ _ trivial trivial).1 h)]
    exact⟨_,rfl,j,rfl,g,f,c,λd o=>by rw[w]at o;cases o;exact C⟩
  .right
   refine⟨_,by simp only[Au (ω:¬(j:Int)<(r.length:Int)),Al],j,rfl,g,f,c,λd o=>?_⟩
   have:=Dq o
   omega) 1 ⟨1,rfl,ω,ω,λb D=>by
    cases r with
    |nil=>simp at v
    |cons x r=>simp at D h0;rw[D,h0]⟩
 exact⟨n,by rw[<-l];exact q,k⟩
noncomputable def Aei:(List Aj×List Bf)->Ο ((List Aj×List Bf)⊕List Aj):=λ(g,b)=>bif(b.length:Int)>(0:Int)then((Ag b 0).bind λf=>(Am (Ajo b f.L) 1).bind λc=>(Fb b 0 c).bind λi=>(Qf i).bind λh=>(Am (Ajm g f.L h) (0,[])).bind λ(k,j)=>(Fb b c b.length).bind λo=>some (.inl (j,o)))else(some (.inr g))
theorem Bb9(n:Nat):n+1<=2^n:=by induction n with|zero=>decide|succ n ih=>rw[Nat.pow_succ];omega
theorem Bca{B:Λ Ent}{l:Bp}{f:Nat->Nat}{M:Nat}(c:∀b∈B,b.1.length<=M):∀b∈Jk B l f n,b.1.length<=M+1:=by intro b o;unfold Jk at o;rw[mem_flatMap]at o;obtain⟨k,_,h⟩:=o;split at h;cases h;rw[mem_map]at h;obtain⟨d,q,rfl⟩:=h;have:=c d q;have:=Ayd l k;simp only[Fe];omega
theorem Oq(k:t.G=6)(h:C7 Δ i t=some d):Cg Δ i.K t.R=some d:=by rw[Lg,Av k]at h;by_cases e:i.U=0;rw[Av e]at h;exact h;rw[As e]at h;cases h
theorem Q3(k:t.G=7)(h:C7 Δ i t=some d):(0<=i.U/\i.U<=6/\i.K.length=0)/\i.U.toNat=d:=by rw[Lg,As ω,Av k]at h;by_cases e:0<=i.U/\i.U<=6/\i.K.length=0;rw[Av e]at h;exact⟨e,E6 h⟩;rw[As e]at h;cases h
theorem Ot(k:t.G=5)(h:C7 Δ i t=some d):Fo Δ i.K t=some d:=by rw[Lg,As ω,As ω,Av k]at h;by_cases e:i.U=0;rw[Av e]at h;exact h;rw[As e]at h;cases h
def pv{α:Type}(f:α->Nat):Λ (α×Nat)->Nat
 |[]=>0
 |p::l=>p.2*f p.1+pv f l
theorem Hn(f:α->Nat)(l m:Λ (α×Nat)):pv f (l++m)=pv f l+pv f m:=by induction l with|nil=>simp[pv]|cons p l ih=>simp only[Fd,pv,ih];omega
theorem Ux(f:α->Nat)(g:β->α)(l:Λ (β×Nat)):pv f (l.map λp=>(g p.1,p.2))=pv (λx=>f (g x)) l:=by induction l with|nil=>rfl|cons p l ih=>simp only[map_cons,pv,ih]
theorem Px{f g:α->Nat}{l:Λ (α×Nat)}(h:∀p∈l,f p.1=g p.1):pv f l=pv g l:=by induction l with|nil=>rfl|cons p l ih=>simp only[pv,h p ψ,ih λq o=>h q (by simp[o])]
theorem Ln(c:Nat)(f:α->Nat)(l:Λ (α×Nat)):pv (λx=>c*f x) l=c*pv f l:=by induction l with|nil=>rfl|cons p l ih=>simp only[pv,ih,Nat.mul_add];rw[Nat.mul_left_comm]
theorem Si(f:β->Nat)(g:α×Nat->Λ (β×Nat))(h:α->Nat)(l:Λ (α×Nat))(hg:∀p∈l,pv f (g p)=p.2*h p.1):pv f (l.flatMap g)=pv h l:=by induction l with|nil=>rfl|cons p l ih=>rw[flatMap_cons,Hn,hg p ψ,ih λq o=>hg q (by simp[o]),pv]
theorem Uy{f g:α->Nat}{l:Λ (α×Nat)}(h:∀p∈l,f p.1<=g p.1):pv f l<=pv g l:=by induction l with|nil=>exact Nat.le_refl _|cons p l ih=>have r:=Nat.mul_le_mul_left p.2 (h p ψ);have s:=ih λq o=>h q (by simp[o]);simp only[pv];omega
def E9(h:Af)(c:Nat)(l:Bj):Bj:=l.map λr=>(h::r.1,c*r.2)
def D3(b:Ah->Af->Af->A0):A1->A2->A2->Bj
 |t::ts,i::is,j::c=>(b t i j).flatMap λw=>E9 w.1 w.2 (D3 b ts is c)
 |_,_,_=>[([],1)]
def Ayi(row:Af->Af->A0)(a:Af)(l:A2)(M:A2->Bj):A2->Bj
 |[]=>[(a::l,1)]
 |b::m=>E9 a 1 (M (b::m))++(E9 b 1 (Ayi row a l M m)++(row a b).flatMap λw=>E9 w.1 w.2 (M m))
def Is(row:Af->Af->A0):A2->A2->Bj
 |[]=>λm=>[(m,1)]
 |a::l=>Ayi row a l (Is row l)
theorem Xl(row:Af->Af->A0)(m:A2):Is row [] m=[(m,1)]:=rfl
theorem Aej(row:Af->Af->A0)(a:Af)(l:A2):Is row (a::l) []=[(a::l,1)]:=rfl
theorem Aaa(row:Af->Af->A0)(a b:Af)(l m:A2):Is row (a::l) (b::m)=E9 a 1 (Is row l (b::m))++(E9 b 1 (Is row (a::l) m)++(row a b).flatMap λw=>E9 w.1 w.2 (Is row l m)):=rfl
def Ho(Δ:Ad)(t:Ah)(rows:A1->A2->A2->Bj)(a b:Af):A0:=if a.U=b.U then(rows (Mq Δ t a.U) a.K b.K).map λr=>(⟨a.U,r.1⟩,r.2)else[]
def Uz(a b:Nat):A0:=((range (a+b+1)).filter λk=>Rc a b k != 0).map λ(k:Nat)=>(⟨(k:Int),[]⟩,Rc a b k)
def Dc(Δ:Ad):Nat->Ah->Af->Af->A0
 |0,_,_,_=>[]
 |k+1,t,i,j=>if t.G=6 then(D3 (Dc Δ k) t.R i.K j.K).map λr=>(⟨0,r.1⟩,r.2)else if t.G=7 then Uz i.U.toNat j.U.toNat else if t.G=5 then(Is (Ho Δ t (D3 (Dc Δ k))) i.K j.K).map λr=>(⟨0,r.1⟩,r.2)else[(⟨0,[]⟩,1)]
def eS{α:Type}:Λ (α->Nat)->Λ α->Nat
 |[],_=>1
 |_::_,[]=>0
 |w::b,x::xs=>eS (w::b) xs+w x*eS b xs
theorem Aek(xs:Λ α):eS [] xs=1:=by cases xs<;>rfl
theorem Ao8(b:Af->β->Nat)(h:Af)(c:Nat)(L:Bj):pv (λr=>eS (r.map b) []) (E9 h c L)=0:=by induction L with|nil=>rfl|cons r L ih=>show _*eS (b h::r.1.map b) []+pv (λr=>eS (r.map b) []) (E9 h c L)=0;rw[ih];rfl
theorem Ao9(b:Af->β->Nat)(h:Af)(c:Nat)(x:β)(xs:Λ β)(L:Bj):pv (λr=>eS (r.map b) (x::xs)) (E9 h c L)=pv (λr=>eS (r.map b) xs) (E9 h c L)+c*b h x*pv (λr=>eS (r.map b) xs) L:=by induction L with|nil=>rfl|cons r L ih=>show c*r.2*eS (b h::r.1.map b) (x::xs)+pv (λr=>eS (r.map b) (x::xs)) (E9 h c L)=(c*r.2*eS (b h::r.1.map b) xs+pv (λr=>eS (r.map b) xs) (E9 h c L))+c*b h x*(r.2*eS (r.1.map b) xs+pv (λr=>eS (r.map b) xs) L);rw[ih,eS];simp only[Nat.mul_add];have:c*r.2*(b h x*eS (r.1.map b) xs)=c*b h x*(r.2*eS (r.1.map b) xs):=(by ac_rfl);omega
theorem Ayj{β:Type}(b:Af->β->Nat)(x:β)(xs:Λ β)(L:Bj):∀R:A0, pv (λr=>eS (r.map b) (x::xs)) (R.flatMap λw=>E9 w.1 w.2 L)=pv (λr=>eS (r.map b) xs) (R.flatMap λw=>E9 w.1 w.2 L)+pv (λe=>b e x) R*pv (λr=>eS (r.map b) xs) L
 |[]=>by simp[pv]
 |w::R=>by rw[flatMap_cons,Hn,Hn,Ao9,Ayj b x xs L R];simp only[pv,Nat.add_mul];omega
theorem Bcb{row:Af->Af->A0}{c:Af->β->Nat}{P Q:Af->Prop}:∀(xs:Λ β),(∀x∈xs,∀a,P a->∀b,Q b->pv (λe=>c e x) (row a b)=c a x*c b x)->∀(l m:A2),(∀a∈l,P a)->(∀b∈m,Q b)->pv (λr=>eS (r.map c) xs) (Is row l m)=eS (l.map c) xs*eS (m.map c) xs:=by(have one:∀(xs:Λ β)(m:A2),pv (λr:List Af=>eS (r.map c) xs) [(m,1)]=eS (m.map c) xs:=λxs m=>by show 1*eS (m.map c) xs+0=_;omega);intro xs;induction xs with|nil=>(intro _ l;cases l with|nil=>intro m _ _;rw[Xl,one,map_nil,Aek,Nat.one_mul]|cons a l=>intro m z s;show _=0*_;rw[Nat.zero_mul];cases m with|nil=>rw[Aej,one];rfl|cons b m=>rw[Aaa,Hn,Hn,Ao8,Ao8];rw[Si (h:=λ_=>0) (hg:=λp _=>by rw[Ao8,Nat.mul_zero])];(have:∀L:A0,pv (λ_=>0) L=0:=λL=>by induction L with|nil=>rfl|cons p L ih=>simp only[pv,ih];omega);rw[this])|cons x xs ih=>intro f l;have ih:=ih λy o=>f y (by simp[o]);cases l with|nil=>intro m _ _;rw[Xl,one,map_nil,Aek,Nat.one_mul]|cons a l=>intro m;cases m with|nil=>intro _ _;rw[Aej,one,map_nil,Aek,Nat.mul_one]|cons b m=>intro z s;have u:∀a∈l,P a:=λy o=>z y (by simp[o]);have q:∀b∈m,Q b:=λy o=>s y (by simp[o]);have v:=ih (a::l) (b::m) z s;rw[Aaa,Hn,Hn]at v;rw[Aaa,Hn,Hn,Ao9,Ao9,Ayj,f x ψ a (z a ψ) b (s b ψ),ih l (b::m) u s,ih (a::l) m z q,ih l m u q];simp only[map_cons,eS]at v⊢;generalize eS (c a::l.map c) xs=A at *;generalize eS (c b::m.map c) xs=B at *;generalize eS (l.map c) xs=k at *;generalize eS (m.map c) xs=j at *;generalize c a x=i at *;generalize c b x=g at *;have D:(A+i*k)*(B+g*j)=A*B+i*(k*B)+g*(A*j)+i*g*(k*j):=(by simp only[Nat.add_mul,Nat.mul_add];have I:A*(g*j)=g*(A*j):=(by ac_rfl);have G:i*k*B=i*(k*B):=(by ac_rfl);have E:i*k*(g*j)=i*g*(k*j):=(by ac_rfl);omega);rw[D,<-v];simp only[Nat.one_mul];omega
theorem Xm(f:A2->Nat)(h:Af)(c:Nat)(L:Bj):pv f (E9 h c L)=c*pv (λr=>f (h::r)) L:=by induction L with|nil=>rfl|cons r L ih=>show c*r.2*f (h::r.1)+pv f (E9 h c L)=c*(r.2*f (h::r.1)+pv (λr=>f (h::r)) L);rw[ih,Nat.mul_add,Nat.mul_assoc]
theorem Ayk(L:Λ (α×Nat)):pv (λ_=>0) L=0:=by induction L with|nil=>rfl|cons p L ih=>simp only[pv,ih];omega
theorem Bcc(a b n:Nat):pv (λx:Af=>bc n x.U.toNat) (Uz a b)=bc n a*bc n b:=by rw[<-Xj n a b (a+b+1) ω];unfold Uz;generalize a+b+1=N;induction N with|zero=>rfl|succ N ih=>rw[range_succ,filter_append,map_append,Hn,ih,sm];congr 1;by_cases h:Rc a b N=0;simp[h,pv];simp[h,pv]
theorem Ael:∀(a b N:Nat),sm N (Rc a b)<=3^(a+b)
 |0,b,N=>by have o:1<=3^(0+b):=Nat.pow_pos δ;by_cases h:b<N;rw[Aea (k:=b) h λj q=>by rw[Aeb,As q],Aeb,Av rfl];exact o;rw[Xh λk r=>by rw[Aeb,As ω]];omega
 |a+1,0,N=>by have o:1<=3^(a+1+0):=Nat.pow_pos δ;by_cases h:a+1<N;rw[Aea (k:=a+1) h λj q=>by rw[Aec,As q],Aec,Av rfl];exact o;rw[Xh λk r=>by rw[Aec,As ω]];omega
 |a+1,b+1,0=>Nat.zero_le _
 |a+1,b+1,N+1=>by rw[Ad9,Axw,Z4 λk _=>Axv a b k];have e:sm N (λk=>Rc a (b+1) k+Rc (a+1) b k+Rc a b k)=sm N (Rc a (b+1))+sm N (Rc (a+1) b)+sm N (Rc a b):=(by rw[Xg λk=>Rc a (b+1) k+Rc (a+1) b k,Xg]);have o:=Ael a (b+1) N;have s:=Ael (a+1) b N;have u:=Ael a b N;have g:a+(b+1)=a+b+1:=ω;have f:a+1+b=a+b+1:=ω;have c:a+1+(b+1)=a+b+2:=ω;rw[g]at o;rw[f]at s;rw[e,c];have l:3^(a+b+1)=3^(a+b)*3:=Nat.pow_succ ..;have i:3^(a+b+2)=3^(a+b+1)*3:=Nat.pow_succ ..;omega
theorem Bcd(a b:Nat):pv (λ_=>1) (Uz a b)<=3^(a+b):=by have h:=Ael a b (a+b+1);refine Nat.le_trans (Nat.le_of_eq ?_) h;unfold Uz;generalize a+b+1=N;induction N with|zero=>rfl|succ N ih=>rw[range_succ,filter_append,map_append,Hn,ih,sm];congr 1;by_cases h:Rc a b N=0;simp[h,pv];simp[h,pv]
structure Gp(Δ:List Ao)(t:Ah)(D S:Nat)(p:Af×Nat):Prop where
 pos:1<=p.2
 deg:∃d,C7 Δ p.1 t=some d/\d<=D
 siz:Br p.1<=S
 num:iR p.1
structure Gr(Δ:List Ao)(ts:List Ah)(D S:Nat)(p:List Af×Nat):Prop where
 pos:1<=p.2
 deg:∃d,Cg Δ p.1 ts=some d/\d<=D
 siz:Bv p.1<=S
 num:Eu p.1
structure Ge(Δ:List Ao)(t:Ah)(D S:Nat)(p:List Af×Nat):Prop where
 pos:1<=p.2
 deg:∃d,Fo Δ p.1 t=some d/\d<=D
 siz:Bv p.1<=S
 num:Eu p.1
def Aem(Δ:Ad)(k:Nat)(b:Ah->Af->Af->A0):Prop:=∀(t:Ah)(i j:Af)(f c:Nat),Br i<=k->C7 Δ i t=some f->C7 Δ j t=some c->f+c<=6->iR i->iR j->(∀p∈b t i j,Gp Δ t (f+c) (Br i+Br j) p)/\pv (λ_=>1) (b t i j)<=3^(f+c)
theorem Ajp{h:Af}{c:Nat}{L:Bj}{p:List Af×Nat}(hp:p∈E9 h c L):∃r∈L,p=(h::r.1,c*r.2):=by obtain⟨r,o,q⟩:=mem_map.1 hp;exact⟨r,o,q.symm⟩
theorem Aab{c:Ah->Af->Af->A0}(z:Aem Δ k c):∀(ts:A1)(is f:A2)(l g:Nat),Bv is<=k->Cg Δ is ts=some l->Cg Δ f ts=some g->l+g<=6->Eu is->Eu f->(∀p∈D3 c ts is f,Gr Δ ts (l+g) (Bv is+Bv f) p)/\pv (λ_=>1) (D3 c ts is f)<=3^(l+g):=by intro ts;induction ts with|nil=>(intro is f l g _ o v _ _ _;cases is with|cons i is=>simp only[Cg]at o;cases o|nil=>cases f with|cons j f=>simp only[Cg]at v;cases v|nil=>refine⟨λp hp=>?_,?_⟩;simp only[D3,Fh]at hp;subst hp;exact⟨Nat.le_refl _,⟨0,by simp only[Cg],ω⟩,by simp[Bv],by simp[Eu]⟩;show 1*1+0<=_;exact Nat.pow_pos δ)|cons t ts ih=>intro is f l g y o v I s q;cases is with|nil=>simp only[Cg]at o;cases o|cons i is=>cases f with|nil=>simp only[Cg]at v;cases v|cons j f=>simp only[Bv]at y;simp only[Eu]at s q;rw[Mn]at o v;cases C:C7 Δ i t with|none=>rw[C]at o;cases o|some a=>cases M:Cg Δ is ts with|none=>rw[C,M]at o;cases o|some x=>cases F:C7 Δ j t with|none=>rw[F]at v;cases v|some b=>cases P:Cg Δ f ts with|none=>rw[F,P]at v;cases v|some u=>rw[C,M]at o;rw[F,P]at v;have o:a+x=l:=E6 o;have v:b+u=g:=E6 v;obtain⟨B,A⟩:=z t i j a b ω C F ω s.1 q.1;obtain⟨f1,f2⟩:=ih is f x u ω M P ω s.2 q.2;refine⟨λp hp=>?_,?_⟩;obtain⟨w,Q,hp⟩:=mem_flatMap.1 (show p∈(c t i j).flatMap λw=>E9 w.1 w.2 (D3 c ts is f)from hp);obtain⟨r,S,rfl⟩:=Ajp hp;have H:=B w Q;have J:=f1 r S;obtain⟨d,d1,d2⟩:=H.deg;obtain⟨D,d3,d4⟩:=J.deg;refine⟨Nat.mul_pos H.pos J.pos,⟨d+D,by rw[Mn,d1,Ac,d3];rfl,ω⟩,?_,?_⟩;have G:=H.siz;have E:=J.siz;simp only[Bv];omega;simp only[Eu];exact⟨H.num,J.num⟩;show pv (λ_=>1) ((c t i j).flatMap λw=>E9 w.1 w.2 (D3 c ts is f))<=_;rw[Si (h:=λ_=>pv (λ_=>1) (D3 c ts is f)*1) (hg:=λp _=>by rw[Xm,Nat.mul_one]),Ln];have:=Nat.mul_le_mul f2 A;rw[<-Nat.pow_add,show x+u+(a+b)=l+g by omega]at this;exact this
theorem Aac(h:Fo Δ (e::es) t=some d):∃ts a b,Gz Δ t e.U=some ts/\Cg Δ e.K ts=some a/\Fo Δ es t=some b/\d=1+a+b:=by rw[Uf]at h;cases q:Gz Δ t e.U with|none=>rw[q]at h;cases h|some ts=>rw[q,Ac]at h;cases o:Cg Δ e.K ts with|none=>rw[o]at h;cases h|some a=>rw[o,Ac]at h;cases r:Fo Δ es t with|none=>rw[r]at h;cases h|some b=>rw[r]at h;exact⟨ts,a,b,rfl,o,rfl,(E6 h).symm⟩
theorem Apa{ts:A1}(h:Gz Δ t e.U=some ts)(o:Cg Δ e.K ts=some a)(q:Fo Δ es t=some b):Fo Δ (e::es) t=some (1+a+b):=by rw[Uf,h,Ac,o,Ac,q];rfl
theorem Bce{c:Ah->Af->Af->A0}(y:Aem Δ k c){a b:Af}{ts i:A1}{h f:Nat}(x:Bv a.K<=k)(a1:Gz Δ t a.U=some ts)(A:Cg Δ a.K ts=some h)(b1:Gz Δ t b.U=some i)(b2:Cg Δ b.K i=some f)(z:h+f<=6)(j:iR a)(u:iR b):(∀p∈Ho Δ t (D3 c) a b,1<=p.2/\(∃d,Cg Δ p.1.K ts=some d/\d<=h+f)/\p.1.U=a.U/\Br p.1+1<=Br a+Br b/\iR p.1)/\pv (λ_=>1) (Ho Δ t (D3 c) a b)<=3^(h+f):=by unfold Ho;by_cases e:a.U=b.U;have q:Mq Δ t a.U=ts:=(by unfold Mq;rw[a1]);have l:i=ts:=(by rw[<-e,a1]at b1;exact(E6 b1).symm);subst l;rw[Oh]at j u;obtain⟨f1,f2⟩:=Aab y i a.K b.K h f x A b2 z j.2 u.2;rw[Av e,q];refine⟨λp hp=>?_,by rw[Ux];exact f2⟩;obtain⟨r,o,rfl⟩:=mem_map.1 hp;have g:=f1 r o;have s:=g.siz;have D:=Dy a;have B:=Dy b;refine⟨g.pos,g.deg,rfl,?_,?_⟩;rw[Dy];show 1+Bv r.1+1<=_;omega;rw[Oh];exact⟨j.1,g.num⟩;rw[As e];exact⟨λp hp=>(by cases hp),Nat.zero_le _⟩
theorem Apb{u:Ah->Af->Af->A0}(hm:Aem Δ k u)(t:Ah):∀(l m:A2)(z y:Nat),Bv l<=k+1->(∀e∈l,Bv e.K<=k)->Fo Δ l t=some z->Fo Δ m t=some y->z+y<=6->Eu l->Eu m->(∀p∈Is (Ho Δ t (D3 u)) l m,Ge Δ t (z+y) (Bv l+Bv m) p)/\pv (λ_=>1) (Is (Ho Δ t (D3 u)) l m)<=3^(z+y):=by(have x:∀(l m:A2)(D S:Nat),(∃d,Fo Δ l t=some d/\d<=D)->Bv l<=S->Eu l->(∀p∈[(l,1)],Ge Δ t D S p)/\pv (λ_=>1) [(l,1)]<=3^D:=λl m D S v C h3=>by refine⟨λp hp=>?_,?_⟩;simp only[Fh]at hp;subst hp;exact⟨Nat.le_refl _,v,C,h3⟩;show 1*1+0<=_;exact Nat.pow_pos δ);intro l;induction l with|nil=>intro m z y _ _ _ C _ _ E;rw[Xl];exact x m m _ _ ⟨y,C,ω⟩ ω E|cons a l A=>intro m;induction m with|nil=>intro z y _ _ v _ _ G _;rw[Aej];exact x _ [] _ _ ⟨z,v,ω⟩ ω G|cons b m I=>intro z y Z H v C h6 G E;obtain⟨ts,q,o,P,Q,T,rfl⟩:=Aac v;obtain⟨us,j,c,W,b2,J,rfl⟩:=Aac C;have i:=G;have f:=E;simp only[Eu]at i f;have za:Bv (a::l)=Br a+Bv l:=(by simp only[Bv]);have zb:Bv (b::m)=Br b+Bv m:=(by simp only[Bv]);have B:∀e∈l,Bv e.K<=k:=λe he=>H e (by simp[he]);obtain⟨N,x2⟩:=A (b::m) o (1+j+c) ω B T C ω i.2 E;obtain⟨M,y2⟩:=I (1+q+o) c Z H v J ω G f.2;obtain⟨L,z2⟩:=A m o c ω B T J ω i.2 f.2;obtain⟨U,R⟩:=Bce hm (t:=t) (H a ψ) P Q W b2 ω i.1 f.1;rw[Aaa];refine⟨λp hp=>?_,?_⟩;rcases Ea.1 hp with hp|hp;obtain⟨r,F,rfl⟩:=Ajp hp;have g:=N r F;obtain⟨d,d1,d2⟩:=g.deg;have s:=g.siz;refine⟨by have:=g.pos;show 1<=1*r.2;omega,⟨_,Apa P Q d1,ω⟩,?_,?_⟩;simp only[Bv]at s⊢;omega;simp only[Eu];exact⟨i.1,g.num⟩;rcases Ea.1 hp with hp|hp;obtain⟨r,F,rfl⟩:=Ajp hp;have g:=M r F;obtain⟨d,d1,d2⟩:=g.deg;have s:=g.siz;refine⟨by have:=g.pos;show 1<=1*r.2;omega,⟨_,Apa W b2 d1,ω⟩,?_,?_⟩;simp only[Bv]at s⊢;omega;simp only[Eu];exact⟨f.1,g.num⟩;obtain⟨w,hw,hp⟩:=mem_flatMap.1 hp;obtain⟨r,F,rfl⟩:=Ajp hp;obtain⟨X,⟨d',v2,v3⟩,v4,v5,V⟩:=U w hw;have g:=L r F;obtain⟨d,d1,d2⟩:=g.deg;have s:=g.siz;refine⟨Nat.mul_pos X g.pos,⟨_,Apa (by rw[v4];exact P) v2 d1,ω⟩,?_,?_⟩;simp only[Bv]at s⊢;omega;simp only[Eu];exact⟨V,g.num⟩;rw[Hn,Hn,Xm,Xm];rw[Si (h:=λ_=>pv (λ_=>1) (Is (Ho Δ t (D3 u)) l m)*1) (hg:=λp _=>by rw[Xm,Nat.mul_one]),Ln];have Y:=Nat.mul_le_mul z2 R;rw[<-Nat.pow_add]at Y;have p1:3^(o+(1+j+c))<=3^(1+q+o+(j+c)):=Nat.pow_le_pow_right δ ω;have p2:3^(1+q+o+c)<=3^(1+q+o+(j+c)):=Nat.pow_le_pow_right δ ω;have p3:3^(o+c+(q+j))<=3^(1+q+o+(j+c)):=Nat.pow_le_pow_right δ ω;have p4:3^(1+q+o+(1+j+c))=3^(1+q+o+(j+c))*3:=(by rw[show 1+q+o+(1+j+c)=(1+q+o+(j+c))+1 by omega,Nat.pow_succ]);omega
theorem Mt(Δ:Ad):∀k,Aem Δ k (Dc Δ k):=by intro k;induction k with|zero=>intro t i j x u h;have:=Dy i;omega|succ k ih=>intro t i j x u I o v z B A;have G:=Dy i;have E:=Dy j;have f:=B;have c:=A;rw[Oh]at f c;rw[Dc];by_cases b:t.G=6;rw[Av b,Ux];have o:=Oq b o;have v:=Oq b v;obtain⟨f1,f2⟩:=Aab ih t.R i.K j.K x u ω o v z f.2 c.2;refine⟨λp hp=>?_,f2⟩;obtain⟨r,w,rfl⟩:=mem_map.1 hp;have g:=f1 r w;obtain⟨d,d1,d2⟩:=g.deg;refine⟨g.pos,⟨d,by rw[Lg,Av b,Av rfl];exact d1,d2⟩,?_,?_⟩;have s:=g.siz;rw[Dy];show 1+Bv r.1<=_;omega;rw[Oh];exact⟨by show Fj 0;unfold Fj;omega,g.num⟩;rw[As b];by_cases l:t.G=7;rw[Av l,(Q3 l o).2,(Q3 l v).2];refine⟨λp hp=>?_,Bcd x u⟩;obtain⟨n,C,rfl⟩:=mem_map.1 hp;obtain⟨D,y⟩:=mem_filter.1 C;rw[mem_range]at D;have y:Rc x u n≠0:=(by simpa using y);refine⟨Nat.pos_of_ne_zero y,⟨n,by rw[Lg,As b,Av l,Av ⟨by show(0:Int)<=n;omega,by show(n:Int)<=6;omega,rfl⟩];rfl,ω⟩,?_,?_⟩;rw[Dy];show 1+Bv []<=_;simp only[Bv];omega;rw[Oh];exact⟨by show Fj (n:Int);unfold Fj;omega,by show Eu [];simp only[Eu]⟩;rw[As l];by_cases q:t.G=5;rw[Av q,Ux];have o:=Ot q o;have v:=Ot q v;obtain⟨f1,f2⟩:=Apb ih t i.K j.K x u ω (λe F=>by have:=Jh F;have:=Dy e;omega) o v z f.2 c.2;refine⟨λp hp=>?_,f2⟩;obtain⟨r,w,rfl⟩:=mem_map.1 hp;have g:=f1 r w;obtain⟨d,d1,d2⟩:=g.deg;refine⟨g.pos,⟨d,by rw[Lg,As b,As l,Av q,Av rfl];exact d1,d2⟩,?_,?_⟩;have s:=g.siz;rw[Dy];show 1+Bv r.1<=_;omega;rw[Oh];exact⟨by show Fj 0;unfold Fj;omega,g.num⟩;rw[As q];refine⟨λp hp=>?_,?_⟩;simp only[Fh]at hp;subst hp;refine⟨Nat.le_refl _,⟨0,by rw[Lg,As b,As l,As q,Av ⟨rfl,rfl⟩],ω⟩,?_,?_⟩;rw[Dy];show 1+Bv []<=_;simp only[Bv];omega;rw[Oh];exact⟨by show Fj 0;unfold Fj;omega,by show Eu [];simp only[Eu]⟩;show 1*1+0<=_;exact Nat.pow_pos δ
theorem L3{l:Λ (α×Nat)}(h:∀p∈l,1<=p.2):l.length<=pv (λ_=>1) l:=by induction l with|nil=>exact Nat.le_refl _|cons p l ih=>have r:=h p ψ;have s:=ih λq o=>h q (by simp[o]);simp only[Eo,pv];omega
theorem Ou{l:Λ (α×Nat)}{p:α×Nat}(h:p∈l):p.2<=pv (λ_=>1) l:=by induction l with|nil=>cases h|cons q l ih=>simp only[pv];rcases En.1 h with rfl|h;omega;have:=ih h;omega
end Go.Ab
