/- Plain laws. -/
import Derived.Test.YtnjbofimdneilaaGreatDoorWkPl4
open List
namespace Go.Ab
open Go
variable{i:A3}{P Q:A3->Prop}{x:A9}{Θ t:Ak}{E s:Ao}{v:Ao->Nat}{m:Ax}{χ:Bm->Nat}{L M:Bv}{C:Ei}{b1:At}{Δ:A0}{A:A2}{R p q:Ad}{Ξ:A1}{F l:Bi}{B:Λ D1}{D K N b d j k n:Nat}{a:Rat}{α β:Type}{g:α->Nat}
def sq:Nat->(Nat->Rat)->Rat
 |0,_=>0
 |n+1,f=>sq n f+f n
theorem IP.up{L L':Nat}{f g:Ax->Rat}(h:IP x n L f R)(hn:n<=b)(i:L<=L')(e:∀m,f m=g m):IP x b L' g R:=⟨h.cp,λm=>by rw[h.val,e],h.mo,Nat.le_trans h.len hn,λt o=>by obtain⟨z,c,r⟩:=h.int t o;exact⟨z,c,ω⟩⟩
noncomputable def aP(x:A9)(l:Ao)(k:Int):Ad:=match Oc x l k with|some r=>r.1|none=>[]
theorem Aaj(h:CSz x)(j:F4 x){l:Ao}{k:Int}(i:Cd l=true)(h0:0<=k)(q:k<=6)(hi:Ek x.V x.E l=true):Oc x l k=some (aP x l k,0)/\IP x 1 4900 (λm=>(ec (eB [⟨l,k⟩]) m:Rat)) (aP x l k)/\∀t∈aP x l k,NoF x k.toNat t.M/\t.M.A.length<=1:=by obtain⟨R,B,b,g,f,c⟩:=Aji h j i h0 q hi;(have e:aP x l k=R:=by unfold aP;rw[b]);rw[e,Ape g];exact⟨b,f,c⟩
noncomputable def shF(x:A9)(E F s:Ao)(K:Nat)(m:Ax):Rat:=(ec (eB [⟨s,(K:Int)⟩]) m:Rat)-sq (K+1) λj=>Pv (aP x E (j:Int)) (aP x F ((K-j:Nat):Int)) m
theorem NoF.dsum_le(h:NoF x D m):Bz m.A<=D:=by have h1:=h.2.2;(have h2:∀l:A2,(∀a∈l,1<=a.P)->Bq l=(Bz l:Nat):=λl=>by induction l with|nil=>intro _;rfl|cons a l ih=>intro h;have e:=ih λb hb=>h b (by simp[hb]);have c:=h a ψ;unfold Bq at *;simp only[map_cons,sum_cons,Bz];omega);rw[h2 _ λa ha=>(h.1.cmo.al a ha).2.2.1]at h1;omega
def cs(K:Nat):Nat->Nat
 |0=>0
 |j+1=>cs K j+(1+min j (K-j))
theorem Ajk(b:K<=6)(e:j<=K+1):cs K j<=16:=(by decide:∀K,K<7->∀j,j<K+2->cs K j<=16) K ω j ω
theorem Aza(b:CSz x)(c:F4 x){F:Ao}(y:Cd E=true)(s:Cd F=true)(q:Ek x.V x.E E=true)(i:Ek x.V x.E F=true)(A:K<=6)(J:j<=K):∃R,Yz x ⟨1,E,F,(K:Int)⟩ (j:Int)=some (R,0)/\IP x (1+min j (K-j)) 13000 (Pv (aP x E (j:Int)) (aP x F ((K-j:Nat):Int))) R:=by obtain⟨G,H,o⟩:=Aaj b c (l:=E) (k:=(j:Int)) y ω ω q;obtain⟨b1,I,f⟩:=Aaj b c (l:=F) (k:=((K-j:Nat):Int)) s ω ω i;obtain⟨R,h,g⟩:=Bdx b c (D:=j) (D':=K-j) ω H I (λt e=>(o t e).1.mono ω) (λt e=>(f t e).1.mono ω) (n:=1+min j (K-j)) (λt e u r B z=>by have T:=z.cnt1 (o t e).2 (f u r).2;have U:=(o t e).1.dsum_le;have V:=(f u r).1.dsum_le;omega);refine⟨R,?_,g⟩;(have w:Ac ((K:Int)-(j:Int))=((K-j:Nat):Int):=by rw[Ac,Bn]<;>omega);unfold Yz;simp only[G,Aa,bne_self_eq_false,Ai,w,b1,h]
theorem Azb{l:A7}{v:Int}(h:cl l v≠0):∃t∈l,t.v=v:=by rcases Classical.em (∃t∈l,t.v=v)with o|o;exact o;exact(h (Ui λt r e=>o ⟨t,r,e⟩)).elim
theorem Ln.cl{L:A7}(h:Ln L){t:Bh}(r:t∈L):Ab.cl L t.v=t.C:=by induction L with|nil=>cases r|cons s L ih=>simp only[Ab.cl];rcases Ef.1 r with rfl|e;rw[Ar rfl,Ui λu o=>by have:=(pairwise_cons.1 h.srt).1 u o;omega];omega;have:=(pairwise_cons.1 h.srt).1 t e;rw[Au ω,ih ⟨(pairwise_cons.1 h.srt).2,λu o=>h.nz u (by simp[o])⟩ e];omega
theorem Azc{a b:Ao}(c:Ln s.T)(h:∀v,cl s.T v=cl a.T v+cl b.T v)(G:Ek Ξ Θ a=true)(hb:Ek Ξ Θ b=true):Ek Ξ Θ s=true:=by unfold Ek at *;rw[Gb]at *;intro t y;have H:=c.cl y;rw[h]at H;have J:=c.nz t y;(have o:∀u:Bh,u.v=t.v->Il Ξ Θ u=true->Il Ξ Θ t=true:=λu e r=>by unfold Il at *;rw[<-e];exact r);by_cases I:cl a.T t.v=0;obtain⟨u,r,e⟩:=Azb (l:=b.T) (v:=t.v) ω;exact o u e (hb u r);obtain⟨u,r,e⟩:=Azb I;exact o u e (G u r)
theorem Azd(A:CSz x)(B:F4 x){F:Ao}(T:Cd E=true)(W:Cd F=true)(Y:Ek x.V x.E E=true)(X:Ek x.V x.E F=true)(G:K<=6)(Z:Ml E F=some (s,0))(ls:Cd s=true)(is:Ek x.V x.E s=true) :
  ∃R,Ab9 x ⟨1,E,F,(K:Int)⟩=some (R,0)/\IP x 17 13010 (shF x E F s K) R:=by
 obtain⟨a1,a2,a3⟩:=Aaj A B (l:=s) (k:=(K:Int)) ls ω ω is
 unfold Ab9
 simp only[Z,Aa,bne_self_eq_false,Ai,a1]
 obtain⟨r,N,M⟩:=F1 (J:=λ(z:Int×List Af)=>match z with|(i,u)=>bif(i != (0:Int))then some (([]:Ad),i)else some (u,0)) (Q:=λr=>∃R,r=(R,(0:Int))/\IP x 17 13010 (shF x E F s K) R)
  (step:=λ(z:Int×List Af×Int)=>match z with
   |(H,f,b)=>
    (show OB from
    bif b<=(K:Int)then(some (H==(0:Int)))else(some false)).bind λo=>bif o then((Yz x ⟨1,E,F,(K:Int)⟩ b).bind λc=>bif(c.2==(0:Int))then((Nd x f c.1).bind λq=>some (.inl (q.2,q.1,Ac (b+1))))else(some (.inl (c.2,f,Ac (b+1)))))else(some (.inr (H,f)))) (s:=(0,aP x s (K:Int),0))
  (λy=>∃(j:Nat)(R:Ad),y=(0,R,(j:Int))/\j<=K+1/\IP x (1+cs K j) (13000+j) (λm=>(ec (eB [⟨s,(K:Int)⟩]) m:Rat)-sq j λj=>Pv (aP x E (j:Int)) (aP x F ((K-j:Nat):Int)) m) R) (λy=>K+1-y.2.2.toNat)
  (λe=>∃R,e=(0,R)/\IP x 17 13010 (shF x E F s K) R)
  ⟨0,_,rfl,ω,a2.up ω ω λm=>by simp only[sq];grind⟩ (by
  rintro _ ⟨j,R,rfl,hj,g⟩
  rcases Cf j (K+1)with h|h
  .left
   obtain⟨P,V,U⟩:=Aza A B T W Y X G (ω:j<=K)
   have D:=Ajk G (j:=j+1) ω
   have a6:cs K (j+1)=cs K j+(1+min j (K-j)):=rfl
   obtain⟨S,L,I⟩:=Ai7 A B g (U.up (L':=13000+j) (Nat.le_refl _) ω λ_=>rfl) ω ω
   refine⟨(0,S,((j+1:Nat):Int)),?_,⟨j+1,S,rfl,ω,I.up ω ω λm=>by simp only[sq];grind⟩,ζ⟩
   simp only[Al (ω:(j:Int)<=(K:Int)),Aj,beq_self_eq_true,Aa,V,L,Dh h ω]
  .right
   have:j=K+1:=ω
   subst this
   have D:=Ajk G (j:=K+1) ω
   refine⟨(0,R),by simp only[An (ω:¬((K+1:Nat):Int)<=(K:Int)),Ai,Aa],R,rfl,g.up ω ω λm=>rfl⟩) (by
  rintro _ ⟨R,rfl,g⟩
  exact⟨_,rfl,R,rfl,g⟩)
 obtain⟨R,rfl,g⟩:=M
 exact⟨R,N,g⟩
theorem Bdy(j:CSz x)(E F:Ao)(K:Int)(U:E.T.length<=6)(S:F.T.length<=6):∃R v f,Ra x ⟨1,E,F,K⟩=some (R,Ajb x v f E F)/\Re ⟨1,E,F,K⟩=some v/\Nb x []=some f/\(Ajb x v f E F≠0->R=[])/\(Ajb x v f E F=0->F4 x/\0<=K/\K<=6/\Cd E=true/\Cd F=true/\Ek x.V x.E E=true/\Ek x.V x.E F=true/\∃s,Ml E F=some (s,0)/\IP x 17 13010 (shF x E F s K.toNat) R):=by obtain⟨v,B,T⟩:=Aja ⟨1,E,F,K⟩ (by show E.T.length+F.T.length<=12;omega);obtain⟨f,f1,f2⟩:=Ua x j [] (λt V=>by cases V);have N:=j.nv;have G:=Aag x E ω ω;have D:=Aag x F ω ω;unfold Ra;rw[B,f1,G,D];unfold Ajb;cases v with|false=>exact⟨[],false,f,rfl,rfl,rfl,λ_=>rfl,λh=>absurd (show(1:Int)=0 from h) δ⟩|true=>cases f with|false=>exact⟨[],true,false,rfl,rfl,rfl,λ_=>rfl,λh=>absurd (show(1:Int)=0 from h) δ⟩|true=>cases r:Ek x.V x.E E with|false=>exact⟨[],true,true,rfl,rfl,rfl,λ_=>rfl,λh=>absurd (show(6:Int)=0 from h) δ⟩|true=>cases H:Ek x.V x.E F with|false=>exact⟨[],true,true,rfl,rfl,rfl,λ_=>rfl,λh=>absurd (show(6:Int)=0 from h) δ⟩|true=>obtain⟨z,y,e,i,W⟩:=T.1 rfl;have e:0<=K:=e;have i:K<=6:=i;have A:=(f2.1 rfl).1;(rcases W with⟨_,s,g⟩|⟨X,_⟩);(rcases Ai9 E F ω with⟨_,_,L,c,M,J⟩|⟨_,c⟩);rw[g]at c;have c:=Fx c;unfold Uj at c;by_cases o:Cd ⟨E.Q+F.Q,L⟩=true;rw[Ar o]at c;have k:s=⟨E.Q+F.Q,L⟩:=congrArg Prod.fst c;subst k;have is:=Azc (Ξ:=x.V) (Θ:=x.E) (a:=E) (b:=F) (s:=⟨E.Q+F.Q,L⟩) M J r H;have l:((K.toNat:Nat):Int)=K:=ω;obtain⟨R,u,I⟩:=Azd j A (K:=K.toNat) z y r H ω g o is;rw[l]at u;refine⟨R,true,true,?_,rfl,rfl,λh=>absurd rfl h,λ_=>⟨A,e,i,z,y,rfl,rfl,_,g,I⟩⟩;have q:((1:Int)==2)=false:=rfl;simp only[Dj,Aa,Ai,Bool.and_self,q,u];rw[Au o]at c;exact absurd (show(0:Int)=9 from congrArg Prod.snd c) δ;rw[g]at c;exact absurd (show(0:Int)=1 from congrArg Prod.snd (Fx c)) δ;exact absurd (show(1:Int)=2 from X) δ
theorem Bdz(b2:Aq)(T:Ms Δ Ξ Θ)(U:Fc Δ Ξ Θ b1)(m:Ax)(l:Ep m)(hp:Nu Δ Ξ Θ m=true):∃p:Int×List (Β×Int),Ob m b1 b2 Δ Ξ Θ.G Θ.U Θ.R=some p/\(p.1=B8 Δ Ξ Θ m.F+Bq m.A\/(6<p.1/\6<B8 Δ Ξ Θ m.F+Bq m.A))/\Fc Δ Ξ Θ p.2:=by have A:=l.nf;have ha:=l.na;unfold Nu at hp;rw[Dp,Gb,Gb]at hp;unfold Ob;refine F1 (λ(e,u,g)=>∃j:Nat,u=j/\j<=m.F.length/\Fc Δ Ξ Θ g/\0<=e/\e<=12/\(e=B8 Δ Ξ Θ (m.F.take j)\/(6<e/\6<B8 Δ Ξ Θ (m.F.take j)))) (λ(_,u,_)=>m.F.length-u.toNat) (λ(e,g)=>Fc Δ Ξ Θ g/\0<=e/\e<=12/\(e=B8 Δ Ξ Θ m.F\/(6<e/\6<B8 Δ Ξ Θ m.F))) ⟨0,rfl,ω,U,ω,ω,.inl (by simp[B8])⟩ ?_ ?_;rintro⟨e,u,g⟩ ⟨j,rfl,V,q,I,r,k⟩;rcases Cf j m.F.length with h|h;have o:m.F[j]?=some m.F[j]:=Bk h;generalize m.F[j]=f at o;have c:=B2 o;have G:=hp.1 f c;rw[Ed]at G;have z:=(Ah8 Δ Ξ Θ f).2;have H:B8 Δ Ξ Θ (m.F.take (j+1))=B8 Δ Ξ Θ (m.F.take j)+Eh Δ Ξ Θ f:=Anl _ o;simp only[Al (ω:(j:Int)<(m.F.length:Int)),Aj,Bu rfl o,Aa,Dh h ω];by_cases s:e<=6;(have x:(Ez Ξ Θ f.v).isSome=true:=by unfold Eh at G;cases W:Ez Ξ Θ f.v with|none=>rw[W]at G;have G:(0:Int)<=-1:=G;omega|some t=>rfl);obtain⟨B,d1,d2⟩:=Ad3 b2 T q f (l.fr f c).2 (l.fr f c).1 (l.fi f c) x;rw[Al s];simp only[Aj,d1,Aa];have b:Ac (e+Eh Δ Ξ Θ f)=e+Eh Δ Ξ Θ f:=ξ;exact .inl ⟨_,rfl,⟨j+1,rfl,ω,d2,by simp only[b];omega,by simp only[b];omega,by simp only[b,H];omega⟩,ζ⟩;rw[An s];exact .inl ⟨_,rfl,⟨j+1,rfl,ω,q,I,r,by simp only[H];omega⟩,ζ⟩;have:j=m.F.length:=ω;subst this;rw[Dc]at k;exact .inr ⟨(e,g),ψ,q,I,r,k⟩;rintro⟨e,g⟩ ⟨q,I,r,k⟩;simp only;refine F1 (λ(v,i)=>∃j:Nat,i=j/\j<=m.A.length/\0<=v/\v<=13/\(v=B8 Δ Ξ Θ m.F+Bq (m.A.take j)\/(6<v/\6<B8 Δ Ξ Θ m.F+Bq (m.A.take j)))) (λ(_,i)=>m.A.length-i.toNat) (λv=>(v=B8 Δ Ξ Θ m.F+Bq m.A\/(6<v/\6<B8 Δ Ξ Θ m.F+Bq m.A))) ⟨0,rfl,ω,I,ω,by simpa[Bq]using k⟩ ?_ ?_;rintro⟨v,i⟩ ⟨j,rfl,V,X,J,gv⟩;rcases Cf j m.A.length with h|h;have o:m.A[j]?=some m.A[j]:=Bk h;generalize m.A[j]=a at o;have G:=hp.2 a (B2 o);rw[Dp,Ed]at G;have H:=Anm o;simp only[Al (ω:(j:Int)<(m.A.length:Int)),Aj,Bu rfl o,Aa,Dh h ω];by_cases s:v<=6;rw[Al s];simp only[Aj];by_cases y:7<a.P;rw[Ar y];have b:Ac (v+7)=v+7:=ξ;exact .inl ⟨_,rfl,⟨j+1,rfl,ω,by simp only[b];omega,by simp only[b];omega,by simp only[b,H];omega⟩,ζ⟩;rw[Au y];have b:Ac (v+a.P)=v+a.P:=ξ;exact .inl ⟨_,rfl,⟨j+1,rfl,ω,by simp only[b];omega,by simp only[b];omega,by simp only[b,H];omega⟩,ζ⟩;rw[An s];exact .inl ⟨_,rfl,⟨j+1,rfl,ω,X,J,by simp only[H];omega⟩,ζ⟩;have:j=m.A.length:=ω;subst this;rw[Dc]at gv;exact .inr ⟨v,ψ,gv⟩;intro v k;exact⟨(v,g),rfl,k,q⟩
def D5(x:A9)(m:Ax):Int:=B8 x.D x.V x.E m.F+Bq m.A
structure Aak(x:A9)(m:Ax):Prop where
 fac:∀f∈m.F,1<=Eh x.D x.V x.E f
 asc:m.F.Pairwise λa b=>a.v<b.v
 atm:∀a∈m.A,1<=a.P/\Cd a.L=true/\a.L.T.length≠0/\Ek x.V x.E a.L=true
 srt:m.A.Pairwise λa b=>Dl a.L b.L<0
 deg:D5 x m<=6
theorem D2.f(h:D2 x m):Aak x m:=by have hc:=h.1;unfold Iy at hc;rw[Dp,Dp,Ed]at hc;obtain⟨⟨h1,h2⟩,h3⟩:=hc;(have o:∀j f,m.F[j]?=some f->1<=Eh x.D x.V x.E f/\K6 (·.v) m.F f j=true:=λj f e=>by have:=Jy h1 e;unfold Mt at this;rw[Dp,Ed]at this;exact this);(have r:∀j a,m.A[j]?=some a->(1<=a.P/\Cd a.L=true/\a.L.T.length≠0/\Ek x.V x.E a.L=true)/\Qx m.A a j=true:=λj a e=>by have:=Jy h2 e;unfold Km at this;simp only[Dp,Ed,Bool.not_eq_true',beq_eq_false_iff_ne,ne_eq]at this;exact⟨⟨this.1.1.1.1,this.1.1.1.2,this.1.1.2,this.1.2⟩,this.2⟩);refine⟨λf k=>?_,Ayn _ _ λj f e=>(o j f e).2,λa ha=>?_,?_,h3⟩;obtain⟨j,e⟩:=Ff k;exact(o j f e).1;obtain⟨j,e⟩:=Ff ha;exact(r j a e).1;have step:∀j x y,m.A[j]?=some x->m.A[j+1]?=some y->Dl x.L y.L<0:=(by intro j x y hx hy;have:=(r (j+1) y hy).2;unfold Qx at this;rw[Nat.add_sub_cancel,hx]at this;simpa using this);have b:∀d j x y,m.A[j]?=some x->m.A[j+d+1]?=some y->Dl x.L y.L<0:=(by intro d;induction d with|zero=>exactλj x y h1 h2=>step j x y h1 h2|succ d ih=>intro j x y h1 h2;have c:m.A[j+d+1]?=some (m.A[j+d+1]'(by have:=Dz h2;omega)):=Bk _;exact Pt.trs _ _ _ (ih j x _ h1 c) (step _ _ _ c h2));rw[pairwise_iff_getElem];intro i j hi e g;obtain⟨d,hd⟩:∃d,j=i+d+1:=⟨j-i-1,ω⟩;subst hd;exact b d i _ _ (Bk hi) (Bk e)
theorem Aak.fsum0(h:Aak x m):0<=B8 x.D x.V x.E m.F:=by(have e:∀l:Bi,(∀f∈l,1<=Eh x.D x.V x.E f)->0<=B8 x.D x.V x.E l:=λl=>by induction l with|nil=>intro _;simp[B8]|cons f l ih=>intro b;have h1:=b f ψ;have h2:=ih λg o=>b g (by simp[o]);unfold B8 at *;simp only[map_cons,sum_cons];omega);exact e _ h.fac
theorem Xb{l:A2}(h:∀a∈l,1<=a.P):Bq l=(Bz l:Nat)/\l.length<=Bz l:=by induction l with|nil=>exact⟨rfl,Nat.le_refl _⟩|cons a l ih=>obtain⟨e,c⟩:=ih λb o=>h b (by simp[o]);have f:=h a ψ;unfold Bq at *;simp only[map_cons,sum_cons,Bz,Fg];omega
theorem Aak.as(h:Aak x m):Bq m.A=(Bz m.A:Nat)/\m.A.length<=Bz m.A:=Xb λa ha=>(h.atm a ha).1
theorem Bd0(h:Aak x m):Nu x.D x.V x.E m=true:=by unfold Nu;rw[Dp,Gb,Gb];refine⟨λf b=>decide_eq_true (by have:=h.fac f b;omega),λa e=>?_⟩;obtain⟨o,_,_,c⟩:=h.atm a e;rw[c,Al ω];rfl
theorem Bd1(b2:Aq)(r:Ms x.D x.V x.E)(u:Fc x.D x.V x.E b1)(h:D2 x m):∃b,Ob m b1 b2 x.D x.V x.E.G x.E.U x.E.R=some (D5 x m,b)/\Fc x.D x.V x.E b:=by obtain⟨⟨d,b⟩,y,G,o⟩:=Bdz b2 r u m h.2 (Bd0 h.f);have:=h.f.deg;unfold D5 at *;dsimp only at G o;have e:d=B8 x.D x.V x.E m.F+Bq m.A:=ω;subst e;exact⟨b,y,o⟩
theorem Ajl(h:D2 x m):0<=D5 x m:=by have e:=h.f.fsum0;have o:=h.f.as;unfold D5;omega
theorem Aze(b2:Aq)(X:Ms x.D x.V x.E)(H:Fc x.D x.V x.E b1)(q:Ad)(D:q.length<=1000000)(h:∀u∈q,D2 x u.M):∃G b,Sz q b1 b2 x.D x.V x.E.G x.E.U x.E.R=some (G,b)/\Fc x.D x.V x.E b/\0<=G/\G<=6/\(∀u∈q,D5 x u.M<=G)/\(G=0\/∃u∈q,D5 x u.M=G):=by unfold Sz;obtain⟨e,B,G,b,rfl,A⟩:=Jc (step:=(λ(T,U,k)=>bif U<(q.length:Int)then((Ae q U).bind λl=>(Ob l.M k b2 x.D x.V x.E.G x.E.U x.E.R).bind λV=>some (.inl ((if V.1>T then V.1 else T),Ac (U+1),V.2)))else(some (.inr (T,k))):Int×Int×List (Β×Int)->Ο ((Int×Int×List (Β×Int))⊕(Int×List (Β×Int))))) (λs=>∃(j:Nat)(G:Int)(b:At),s=(G,(j:Int),b)/\j<=q.length/\Fc x.D x.V x.E b/\0<=G/\G<=6/\(∀u∈q.take j,D5 x u.M<=G)/\(G=0\/∃u∈q,D5 x u.M=G)) (λs=>q.length-s.2.1.toNat) (λe=>∃G b,e=(G,b)/\Fc x.D x.V x.E b/\0<=G/\G<=6/\(∀u∈q,D5 x u.M<=G)/\(G=0\/∃u∈q,D5 x u.M=G)) (by rintro _ ⟨j,G,b,rfl,hj,H,h0,z,g,r⟩;dsimp only;rcases Cf j q.length with W|W;left;have I:q[j]?=some q[j]:=Bk W;generalize q[j]=u at I;have i:=B2 I;have J:=h u i;obtain⟨c,c1,c2⟩:=Bd1 b2 X H J;have y:=J.f.deg;refine⟨(if D5 x u.M>G then D5 x u.M else G,((j+1:Nat):Int),c),?_,⟨j+1,_,c,rfl,ω,c2,by split<;>omega,by split<;>omega,λw o=>?_,by split;exact .inr ⟨u,i,rfl⟩;exact r⟩,ζ⟩;rw[Al ω,Aj,Bu rfl I,Aa,c1,Aa,Dh W ω];rw[C4 I]at o;rcases Ea.1 o with o|o;have:=g w o;split<;>omega;rw[Df]at o;subst o;split<;>omega;right;have:j=q.length:=ω;subst this;rw[Dc]at g;exact⟨(G,b),by rw[An ω,Ai],G,b,rfl,H,h0,z,g,r⟩) (0,0,b1) ⟨0,0,b1,rfl,ω,H,ω,ω,λu J=>by simp at J,.inl rfl⟩;exact⟨G,b,Cp B rfl,A⟩
def E2(v:Ao->Nat):A2->Nat
 |[]=>1
 |a::l=>bc (v a.L) a.P.toNat*E2 v l
theorem Ul(v:Ao->Nat)(l m:A2):E2 v (l++m)=E2 v l*E2 v m:=by induction l with|nil=>simp[E2]|cons a l ih=>simp only[Es,E2,ih,Nat.mul_assoc]
theorem Azf(v:Ao->Nat){l m:A2}(h:l.Perm m):E2 v l=E2 v m:=by induction h with|nil=>rfl|cons a _ ih=>simp only[E2,ih]|swap a b l=>simp only[E2];rw[<-Nat.mul_assoc,<-Nat.mul_assoc,Nat.mul_comm (bc (v b.L) _)]|trans _ _ e o=>exact e.trans o
theorem Api{v:Ao->Nat}{l:Ao}:∀{g:A2},(∀a∈g,a.L=l)->E2 v g=Ft (v l) g
 |[],_=>rfl
 |a::g,h=>by simp only[E2,Ft];rw[h a ψ,Api λb e=>h b (by simp[e])]
def I9(v:Ao->Nat):Λ D1->Nat
 |[]=>0
 |b::bs=>b.2*E2 v b.1+I9 v bs
theorem Bd2(v:Ao->Nat)(B C:Λ D1):I9 v (B++C)=I9 v B+I9 v C:=by induction B with|nil=>simp[I9]|cons b B ih=>simp only[Es,I9,ih,Nat.add_assoc]
theorem Bd3(v:Ao->Nat)(l:Ao)(k c:Nat)(B:Λ D1):I9 v (B.map λb=>(b.1++atO l k,b.2*c))=I9 v B*(c*bc (v l) k):=by(have e:E2 v (atO l k)=bc (v l) k:=by unfold atO;by_cases h:k=0;subst h;rw[Ar rfl,J2];rfl;rw[Au h];simp[E2]);induction B with|nil=>simp[I9]|cons b B ih=>simp only[map_cons,I9,ih,Ul,e];rw[Nat.add_mul];congr 1;rw[Nat.mul_assoc,Nat.mul_assoc,<-Nat.mul_assoc c,Nat.mul_comm c,Nat.mul_assoc]
theorem Azg(v:Ao->Nat)(B:Λ D1)(l:Ao)(f:Nat->Nat):∀n,I9 v (El B l f n)=I9 v B*sm n λk=>f k*bc (v l) k
 |0=>by simp[El,I9,sm]
 |n+1=>by rw[Nx,Bd2,Azg v B l f n];show _=I9 v B*(sm n (λk=>f k*bc (v l) k)+f n*bc (v l) n);rw[Nat.mul_add];congr 1;by_cases h:f n=0;rw[Ar h,h];simp[I9];rw[Au h,Bd3]
def Ow(v:Ao->Nat):Prop:=∀l:Ao,l.T.length=0->v l=l.Q.toNat
theorem Gs.val(c:Ow v):∀{b:Λ Grp}{A:A2},Gs b A->∀B,I9 v (H9 B b)=I9 v B*E2 v A:=by intro b A h;induction h with|nil=>intro B;simp[H9,E2]|@cons l N f g rest b i e k j q ih=>intro B;show I9 v (H9 (El B l f (N+1)) b)=_;rw[ih,Azg,Ul,Api e,<-Nat.mul_assoc];congr 2;(rcases j with⟨_,_,_,h3⟩|⟨h1,h2,h3⟩);exact h3 (v l);subst h2;rw[c l h1];simp[sm,J2,h3]
theorem IsE.val(f:Ow v)(h:IsE A B):I9 v B=E2 v A:=by obtain⟨gs,i,c,g,b,rfl⟩:=h;rw[b.val f,<-Azf v c];simp[I9,E2]
def eW(c:Rat)(B:Λ D1):C7:=B.map λb=>(c*(b.2:Rat),⟨[],b.1⟩)
theorem Bd4(g:CSz x)(h:D2 x m):FOk x.D x.V x.E m.F:=by(have c:∀f∈m.F,(Ez x.V x.E f.v).isSome=true:=λf b=>by have e:=h.f.fac f b;unfold Eh at e;cases o:Ez x.V x.E f.v with|none=>rw[o]at e;exact absurd (show(1:Int)<=-1 from e) δ|some t=>rfl);refine⟨h.f.asc,λf b=>⟨⟨(h.2.fr f b).2,(h.2.fr f b).1,h.2.fi f b⟩,c f b,h.f.fac f b⟩,h.cmo.nf,λf b=>?_⟩;have e:=c f b;rw[Avk,Ed]at e;have:=g.nv;omega
theorem Azh(e:D2 x m){L:A2}(h:W8 x.V x.E L)(b:B8 x.D x.V x.E m.F+Bq L<=6):D2 x ⟨m.F,L⟩:=by have y:=e.f.fsum0;obtain⟨o,u⟩:=Aye h ω;have r:=e.1;unfold Iy at r o;rw[Dp,Dp]at r o;refine⟨?_,⟨e.2.nf,u.na,e.2.fi,e.2.fr,u.al⟩⟩;unfold Iy;rw[Dp,Dp];exact⟨⟨r.1.1,o.1.2⟩,decide_eq_true b⟩
theorem IsE.goods(h:IsE A B)(g:∀a∈A,Cd a.L=true/\Ek x.V x.E a.L=true):∀b∈B,W8 x.V x.E b.1/\Bq b.1<=(Bz A:Nat):=by intro b hb;obtain⟨gs,j,c,i,f,rfl⟩:=h;obtain⟨h1,h2⟩:=Ai6 (Ξ:=x.V) (Θ:=x.E) f (λa ha=>g a (c.mem_iff.1 ha)) [([],1)] 0 (λb hb=>by simp only[Df]at hb;subst hb;exact⟨⟨Pairwise.nil,λ_ h=>by cases h⟩,by simp[Bq],λ_ h=>by cases h⟩) b hb;rw[Ps c]at h2;exact⟨h1,ω⟩
noncomputable def Ajm(x:A9)(t:Af)(q:Ad):(Int×List (Β×Int)×List (Β×List Co)×List (Β×Int)×List Af)->Ο ((Int×List (Β×Int)×List (Β×List Co)×List (Β×Int)×List Af)⊕((List Af×Int)⊕(Int×List (Β×Int)×List (Β×List Co)×List (Β×Int)×List Af))):=λ(c,j,i,h,g)=>bif c<(q.length:Int)then((Ae q c).bind λf=>(Iu t.C f.C).bind λo=>(Rj t.M f.M).bind λk=>(Ri o k j i x.D x.V x.E.G x.E.U x.E.R).bind λb=>bif(b.2.1 != (0:Int))then(some (.inr (.inl ([],b.2.1))))else((Mf b.1 h g).bind λe=>some (.inl (Ac (c+1),b.2.2.1,b.2.2.2,e.1,e.2))))else(some (.inr (.inr (c,j,i,h,g))))
theorem Azi(h:D2 x m){b:Am}(o:H4 b)(r:rq b=1)(c:RB 3 b):Hf x [⟨b,m⟩]:=Hf.of ⟨pairwise_singleton _ _,λt e=>by simp only[Df]at e;subst e;exact⟨o,by show rq b≠0;rw[r];decide⟩⟩ (λt e=>by simp only[Df]at e;subst e;exact h) (λt e=>by simp only[Df]at e;subst e;exact c.mono δ) ψ
theorem Aal(k:t.G=6)(h:Ej Δ i t=some d):D0 Δ i.K t.R=some d:=by rw[Oj,Ar k]at h;by_cases e:i.U=0;rw[Ar e]at h;exact h;rw[Au e]at h;cases h
theorem Ajn(k:t.G=7)(h:Ej Δ i t=some d):(0<=i.U/\i.U<=6/\i.K.length=0)/\i.U.toNat=d:=by rw[Oj,Au ω,Ar k]at h;by_cases e:0<=i.U/\i.U<=6/\i.K.length=0;rw[Ar e]at h;exact⟨e,Fx h⟩;rw[Au e]at h;cases h
theorem Aam(k:t.G=5)(h:Ej Δ i t=some d):I5 Δ i.K t=some d:=by rw[Oj,Au ω,Au ω,Ar k]at h;by_cases e:i.U=0;rw[Ar e]at h;exact h;rw[Au e]at h;cases h
def pv{α:Type}(f:α->Nat):Λ (α×Nat)->Nat
 |[]=>0
 |p::l=>p.2*f p.1+pv f l
theorem Lo(f:α->Nat)(l m:Λ (α×Nat)):pv f (l++m)=pv f l+pv f m:=by induction l with|nil=>simp[pv]|cons p l ih=>simp only[Es,pv,ih];omega
theorem Apj(f:α->Nat)(g:β->α)(l:Λ (β×Nat)):pv f (l.map λp=>(g p.1,p.2))=pv (λx=>f (g x)) l:=by induction l with|nil=>rfl|cons p l ih=>simp only[map_cons,pv,ih]
theorem Aey{f:α->Nat}{l:Λ (α×Nat)}(h:∀p∈l,f p.1=g p.1):pv f l=pv g l:=by induction l with|nil=>rfl|cons p l ih=>simp only[pv,h p ψ,ih λq e=>h q (by simp[e])]
theorem Ajo(c:Nat)(f:α->Nat)(l:Λ (α×Nat)):pv (λx=>c*f x) l=c*pv f l:=by induction l with|nil=>rfl|cons p l ih=>simp only[pv,ih,Nat.mul_add];rw[Nat.mul_left_comm]
theorem Azj(f:β->Nat)(g:α×Nat->Λ (β×Nat))(h:α->Nat)(l:Λ (α×Nat))(hg:∀p∈l,pv f (g p)=p.2*h p.1):pv f (l.flatMap g)=pv h l:=by induction l with|nil=>rfl|cons p l ih=>rw[flatMap_cons,Lo,hg p ψ,ih λq e=>hg q (by simp[e]),pv]
theorem Ajp{f:α->Nat}{l:Λ (α×Nat)}(h:∀p∈l,f p.1<=g p.1):pv f l<=pv g l:=by induction l with|nil=>exact Nat.le_refl _|cons p l ih=>have o:=Nat.mul_le_mul_left p.2 (h p ψ);have r:=ih λq e=>h q (by simp[e]);simp only[pv];omega
def Kr(h:A3)(c:Nat)(l:Ci):Ci:=l.map λr=>(h::r.1,c*r.2)
def Um(b:Ak->A3->A3->Bv):A1->Bo->Bo->Ci
 |t::ts,i::is,j::c=>(b t i j).flatMap λw=>Kr w.1 w.2 (Um b ts is c)
 |_,_,_=>[([],1)]
def Azk(row:A3->A3->Bv)(a:A3)(l:Bo)(M:Bo->Ci):Bo->Ci
 |[]=>[(a::l,1)]
 |b::m=>Kr a 1 (M (b::m))++(Kr b 1 (Azk row a l M m)++(row a b).flatMap λw=>Kr w.1 w.2 (M m))
def R9(row:A3->A3->Bv):Bo->Bo->Ci
 |[]=>λm=>[(m,1)]
 |a::l=>Azk row a l (R9 row l)
theorem Azl(row:A3->A3->Bv)(m:Bo):R9 row [] m=[(m,1)]:=rfl
theorem Azm(row:A3->A3->Bv)(a:A3)(l:Bo):R9 row (a::l) []=[(a::l,1)]:=rfl
theorem Apk(row:A3->A3->Bv)(a b:A3)(l m:Bo):R9 row (a::l) (b::m)=Kr a 1 (R9 row l (b::m))++(Kr b 1 (R9 row (a::l) m)++(row a b).flatMap λw=>Kr w.1 w.2 (R9 row l m)):=rfl
def Apl(Δ:A0)(t:Ak)(rows:A1->Bo->Bo->Ci)(a b:A3):Bv:=if a.U=b.U then(rows (R7 Δ t a.U) a.K b.K).map λr=>(⟨a.U,r.1⟩,r.2)else[]
def Apm(a b:Nat):Bv:=((range (a+b+1)).filter λk=>Rc a b k != 0).map λ(k:Nat)=>(⟨(k:Int),[]⟩,Rc a b k)
def Xc(Δ:A0):Nat->Ak->A3->A3->Bv
 |0,_,_,_=>[]
 |k+1,t,i,j=>if t.G=6 then(Um (Xc Δ k) t.R i.K j.K).map λr=>(⟨0,r.1⟩,r.2)else if t.G=7 then Apm i.U.toNat j.U.toNat else if t.G=5 then(R9 (Apl Δ t (Um (Xc Δ k))) i.K j.K).map λr=>(⟨0,r.1⟩,r.2)else[(⟨0,[]⟩,1)]
def eS{α:Type}:Λ (α->Nat)->Λ α->Nat
 |[],_=>1
 |_::_,[]=>0
 |w::b,x::xs=>eS (w::b) xs+w x*eS b xs
theorem Aez(xs:Λ α):eS [] xs=1:=by cases xs<;>rfl
theorem Apn(b:A3->β->Nat)(h:A3)(c:Nat)(L:Ci):pv (λr=>eS (r.map b) []) (Kr h c L)=0:=by induction L with|nil=>rfl|cons r L ih=>show _*eS (b h::r.1.map b) []+pv (λr=>eS (r.map b) []) (Kr h c L)=0;rw[ih];rfl
theorem Apo(b:A3->β->Nat)(h:A3)(c:Nat)(x:β)(xs:Λ β)(L:Ci):pv (λr=>eS (r.map b) (x::xs)) (Kr h c L)=pv (λr=>eS (r.map b) xs) (Kr h c L)+c*b h x*pv (λr=>eS (r.map b) xs) L:=by induction L with|nil=>rfl|cons r L ih=>show c*r.2*eS (b h::r.1.map b) (x::xs)+pv (λr=>eS (r.map b) (x::xs)) (Kr h c L)=(c*r.2*eS (b h::r.1.map b) xs+pv (λr=>eS (r.map b) xs) (Kr h c L))+c*b h x*(r.2*eS (r.1.map b) xs+pv (λr=>eS (r.map b) xs) L);rw[ih,eS];simp only[Nat.mul_add];have:c*r.2*(b h x*eS (r.1.map b) xs)=c*b h x*(r.2*eS (r.1.map b) xs):=(by ac_rfl);omega
theorem Azn{β:Type}(b:A3->β->Nat)(x:β)(xs:Λ β)(L:Ci):∀R:Bv, pv (λr=>eS (r.map b) (x::xs)) (R.flatMap λw=>Kr w.1 w.2 L)=pv (λr=>eS (r.map b) xs) (R.flatMap λw=>Kr w.1 w.2 L)+pv (λe=>b e x) R*pv (λr=>eS (r.map b) xs) L
 |[]=>by simp[pv]
 |w::R=>by rw[flatMap_cons,Lo,Lo,Apo,Azn b x xs L R];simp only[pv,Nat.add_mul];omega
theorem Bd5{row:A3->A3->Bv}{c:A3->β->Nat}:∀(xs:Λ β),(∀x∈xs,∀a,P a->∀b,Q b->pv (λe=>c e x) (row a b)=c a x*c b x)->∀(l m:Bo),(∀a∈l,P a)->(∀b∈m,Q b)->pv (λr=>eS (r.map c) xs) (R9 row l m)=eS (l.map c) xs*eS (m.map c) xs:=by(have one:∀(xs:Λ β)(m:Bo),pv (λr:List A3=>eS (r.map c) xs) [(m,1)]=eS (m.map c) xs:=λxs m=>by show 1*eS (m.map c) xs+0=_;omega);intro xs;induction xs with|nil=>(intro _ l;cases l with|nil=>intro m _ _;rw[Azl,one,map_nil,Aez,Nat.one_mul]|cons a l=>intro m u o;show _=0*_;rw[Nat.zero_mul];cases m with|nil=>rw[Azm,one];rfl|cons b m=>rw[Apk,Lo,Lo,Apn,Apn];rw[Azj (h:=λ_=>0) (hg:=λp _=>by rw[Apn,Nat.mul_zero])];(have:∀L:Bv,pv (λ_=>0) L=0:=λL=>by induction L with|nil=>rfl|cons p L ih=>simp only[pv,ih];omega);rw[this])|cons x xs ih=>intro f l;have ih:=ih λy H=>f y (by simp[H]);cases l with|nil=>intro m _ _;rw[Azl,one,map_nil,Aez,Nat.one_mul]|cons a l=>intro m;cases m with|nil=>intro _ _;rw[Azm,one,map_nil,Aez,Nat.mul_one]|cons b m=>intro u o;have s:∀a∈l,P a:=λy H=>u y (by simp[H]);have q:∀b∈m,Q b:=λy H=>o y (by simp[H]);have I:=ih (a::l) (b::m) u o;rw[Apk,Lo,Lo]at I;rw[Apk,Lo,Lo,Apo,Apo,Azn,f x ψ a (u a ψ) b (o b ψ),ih l (b::m) s o,ih (a::l) m u q,ih l m s q];simp only[map_cons,eS]at I⊢;generalize eS (c a::l.map c) xs=A at *;generalize eS (c b::m.map c) xs=B at *;generalize eS (l.map c) xs=k at *;generalize eS (m.map c) xs=j at *;generalize c a x=i at *;generalize c b x=g at *;have z:(A+i*k)*(B+g*j)=A*B+i*(k*B)+g*(A*j)+i*g*(k*j):=(by simp only[Nat.add_mul,Nat.mul_add];have G:A*(g*j)=g*(A*j):=(by ac_rfl);have E:i*k*B=i*(k*B):=(by ac_rfl);have D:i*k*(g*j)=i*g*(k*j):=(by ac_rfl);omega);rw[z,<-I];simp only[Nat.one_mul];omega
theorem Bd6(f:Bo->Nat)(h:A3)(c:Nat)(L:Ci):pv f (Kr h c L)=c*pv (λr=>f (h::r)) L:=by induction L with|nil=>rfl|cons r L ih=>show c*r.2*f (h::r.1)+pv f (Kr h c L)=c*(r.2*f (h::r.1)+pv (λr=>f (h::r)) L);rw[ih,Nat.mul_add,Nat.mul_assoc]
theorem Bd7(L:Λ (α×Nat)):pv (λ_=>0) L=0:=by induction L with|nil=>rfl|cons p L ih=>simp only[pv,ih];omega
theorem Bd8(a b n:Nat):pv (λx:A3=>bc n x.U.toNat) (Apm a b)=bc n a*bc n b:=by rw[<-W5 n a b (a+b+1) ω];unfold Apm;generalize a+b+1=N;induction N with|zero=>rfl|succ N ih=>rw[range_succ,filter_append,map_append,Lo,ih,sm];congr 1;by_cases h:Rc a b N=0;simp[h,pv];simp[h,pv]
theorem App{l:Λ (α×Nat)}(h:∀p∈l,1<=p.2):l.length<=pv (λ_=>1) l:=by induction l with|nil=>exact Nat.le_refl _|cons p l ih=>have o:=h p ψ;have r:=ih λq e=>h q (by simp[e]);simp only[Fg,pv];omega
theorem Bd9{l:Λ (α×Nat)}{p:α×Nat}(h:p∈l):p.2<=pv (λ_=>1) l:=by induction l with|nil=>cases h|cons q l ih=>simp only[pv];rcases Ef.1 h with rfl|h;omega;have:=ih h;omega
def toR(p:List A3×Nat):A43:=⟨p.1,cR p.2⟩
def Dw(ts:Bv):Prop:=ts.Pairwise λt u=>t.1≠u.1
structure Cw(P:A3->Prop)(ts:List (A3×Nat)):Prop where
 dst:Dw ts
 mo:∀t∈ts,P t.1
 pos:∀t∈ts,1<=t.2
theorem Cw.nil(P:A3->Prop):Cw P []:=⟨Pairwise.nil,λ_ h=>(by cases h),λ_ h=>(by cases h)⟩
theorem Dw.set{ts:Bv}(h:Dw ts){t u:A3×Nat}(o:ts[j]?=some t)(hm:u.1=t.1):Dw (ts.set j u):=by(have e:∀l:Bv,Dw l↔(l.map (·.1)).Pairwise (·≠·):=λl=>by unfold Dw;rw[pairwise_map]);rw[e]at h⊢;(have:(ts.set j u).map (·.1)=ts.map (·.1):=by refine ext_getElem? λn=>?_;rw[getElem?_map,getElem?_map,getElem?_set];by_cases k:j=n;subst k;rw[Ar rfl,Ar (Dz o),o];simp[hm];rw[Au k]);rw[this];exact h
def GI(Δ:A0)(t:Ak)(S D:Nat)(i:A3):Prop:=C5 i<=S/\iR i/\∃d,Ej Δ i t=some d/\d<=D
theorem GI.mono{S D':Nat}(h:GI Δ t S D i)(c:S<=b)(f:D<=D'):GI Δ t b D' i:=by obtain⟨h1,h2,d,h3,g⟩:=h;exact⟨ω,h2,d,h3,ω⟩
theorem Cw.imp(h:Cw P L)(hi:∀i,P i->Q i):Cw Q L:=⟨h.dst,λt e=>hi _ (h.mo t e),h.pos⟩
def KM:Nat:=400000
def Azo(Δ:A0)(t:Ak):Bo->(A3->Nat)->A3->Nat
 |[],f,a=>f a
 |r::e,f,a=>pv (Azo Δ t e f) (Xc Δ KM t a r)
def dgo(Δ:A0)(t:Ak)(i:A3):Nat:=match Ej Δ i t with|some d=>d|none=>0
def dsm(Δ:A0)(t:Ak)(is:Bo):Nat:=(is.map (dgo Δ t)).sum
structure GG(Δ:List A5)(t:Ak)(is:List A3):Prop where
 num:∀i∈is,iR i
 deg:∀i∈is,Ej Δ i t=some (dgo Δ t i)
 siz:Ey is<=400000
 sum:dsm Δ t is<=6
 len:is.length<=8
def Azp(Δ:A0)(t:Ak)(f:A3->Nat):Prop:=∀i j a b,C5 i<=KM->Ej Δ i t=some a->Ej Δ j t=some b->a+b<=6->iR i->iR j->pv f (Xc Δ KM t i j)=f i*f j
structure PRg(Δ:List A5)(t:Ak)(i0:A3)(rs:List A3)(R:List (A3×Nat)):Prop where
 cw:Cw (GI Δ t (Ey (i0::rs)) (dsm Δ t (i0::rs))) R
 len:R.length<=1000
 val:∀f:A3->Nat,pv f R=Azo Δ t rs f i0
 cnt:pv (λ_=>1) R<=3^(dsm Δ t (i0::rs)*rs.length)
theorem PRg.one(h:GG Δ t [i]):PRg Δ t i [] [(i,1)]:=by refine⟨⟨pairwise_singleton _ _,λp hp=>?_,λp hp=>?_⟩,ψ,λf=>?_,by simp[pv]⟩;simp only[Df]at hp;subst hp;exact⟨by simp[Ey],h.num i ψ,_,h.deg i ψ,by simp[dsm]⟩;simp only[Df]at hp;subst hp;exact Nat.le_refl _;show 1*f i+0=f i;omega
theorem GG.take{c:A3}{b:Bo}(h:GG Δ t (c::b))(j:Nat):GG Δ t (c::b.take j):=by have g:=h.siz;have hd:=h.sum;have k:=h.len;have f:b=b.take j++b.drop j:=(take_append_drop j b).symm;(have s:Ey b=Ey (b.take j)+Ey (b.drop j):=by rw[<-Ane,<-f]);(have q:dsm Δ t b=dsm Δ t (b.take j)+dsm Δ t (b.drop j):=by unfold dsm;rw[<-sum_append,<-map_append,<-f]);(have e4:∀l,dsm Δ t (c::l)=dgo Δ t c+dsm Δ t l:=λl=>by unfold dsm;simp);rw[e4]at hd;simp only[Ey]at g;simp only[Fg]at k;refine⟨λi hi=>?_,λi hi=>?_,by simp only[Ey];omega,by rw[e4];omega,by rw[Fg,length_take];omega⟩;rcases Ef.1 hi with rfl|hi;exact h.num _ ψ;exact h.num i (by have:=mem_of_mem_take hi;simp[this]);rcases Ef.1 hi with rfl|hi;exact h.deg _ ψ;exact h.deg i (by have:=mem_of_mem_take hi;simp[this])
def fl(v:Int)(is:Bo):Bi:=is.map λi=>⟨v,i⟩
abbrev Ip:=(List Bm×Rat)×D1
inductive Kd(K:Nat):List Af->List Ip->Prop
 |nil:Kd K [] []
 |cons{t:Af}{b:Ip}{ts:List Af}{bs:List Ip}:t.M=⟨b.1.1,b.2.1⟩->rq t.C=b.1.2*(b.2.2:Rat)->RB K t.C->b.1.1.length<=1000->Kd K ts bs->Kd K (t::ts) (b::bs)
theorem Kd.len{ts:Ad}{bs:Λ Ip}(h:Kd K ts bs):ts.length=bs.length:=by induction h with|nil=>rfl|cons _ _ _ _ _ ih=>simp[ih]
theorem Kd.app{ts c:Ad}{bs cs:Λ Ip}(h:Kd K ts bs)(h':Kd K c cs):Kd K (ts++c) (bs++cs):=by induction h with|nil=>exact h'|cons a b d e _ ih=>exact .cons a b d e ih
theorem Kd.mono{c:Nat}{ts:Ad}{bs:Λ Ip}(h:Kd K ts bs)(hk:K<=c):Kd c ts bs:=by induction h with|nil=>exact .nil|cons a b d e _ ih=>exact .cons a b (d.mono hk) e ih
theorem Kd.get{ts:Ad}{bs:Λ Ip}(h:Kd K ts bs):∀{j:Nat}{t:Af},ts[j]?=some t->∃b,bs[j]?=some b/\t.M=⟨b.1.1,b.2.1⟩/\rq t.C=b.1.2*(b.2.2:Rat)/\RB K t.C/\b.1.1.length<=1000:=by induction h with|nil=>intro j t h;simp at h|@cons t b ts bs o r y G _ ih=>intro j u e;cases j with|zero=>simp only[getElem?_cons_zero,Option.some.injEq]at e;subst e;exact⟨b,rfl,o,r,y,G⟩|succ j=>simp only[getElem?_cons_succ]at e;simpa using ih e
theorem Kd.mem{ts:Ad}{bs:Λ Ip}(h:Kd K ts bs){t:Af}(e:t∈ts):∃b∈bs,t.M=⟨b.1.1,b.2.1⟩/\rq t.C=b.1.2*(b.2.2:Rat)/\RB K t.C:=by obtain⟨j,o⟩:=Ff e;obtain⟨b,b1,r,f,c,_⟩:=h.get o;exact⟨b,B2 b1,r,f,c⟩
def Ajq(l:Ao)(k c:Nat)(b:Ip):Ip:=(b.1,(b.2.1++atO l k,b.2.2*c))
def Sa(B:Λ Ip)(l:Ao)(f:Nat->Nat)(n:Nat):Λ Ip:=(range n).flatMap λk=>if f k=0 then[]else B.map (Ajq l k (f k))
theorem Bea(B:Λ Ip)(l:Ao)(f:Nat->Nat)(n:Nat):Sa B l f (n+1)=Sa B l f n++(if f n=0 then[]else B.map (Ajq l n (f n))):=by unfold Sa;rw[range_succ,flatMap_append];simp
def Aan(B:Λ Ip):Λ Grp->Λ Ip
 |[]=>B
 |q::e=>Aan (Sa B q.1 q.2.2 (q.2.1+1)) e
theorem Beb{B:Λ Ip}{l:Ao}{f:Nat->Nat}{b:Ip}(hb:b∈Sa B l f n):∃g∈B,b.1=g.1/\b.2∈El [g.2] l f n:=by unfold Sa at hb;rw[mem_flatMap]at hb;obtain⟨k,c,e⟩:=hb;split at e;cases e;rename_i h;obtain⟨d,o,rfl⟩:=mem_map.1 e;refine⟨d,o,rfl,?_⟩;unfold El;rw[mem_flatMap];exact⟨k,c,by rw[Au h];exact mem_map.2 ⟨d.2,ψ,rfl⟩⟩
theorem Azq:∀(f:Λ Grp){B C:Λ D1},(∀b∈B,b∈C)->∀b∈H9 B f,b∈H9 C f
 |[],B,C,h,b,e=>h b e
 |q::f,B,C,h,b,e=>by refine Azq f (B:=El B q.1 q.2.2 (q.2.1+1)) (λc o=>?_) b e;unfold El at o⊢;rw[mem_flatMap]at o⊢;obtain⟨k,i,g⟩:=o;refine⟨k,i,?_⟩;split at g;cases g;rename_i r;rw[Au r];obtain⟨d,d1,d2⟩:=mem_map.1 g;exact mem_map.2 ⟨d,h d d1,d2⟩
theorem Apq:∀(f:Λ Grp){B:Λ Ip}{b:Ip},b∈Aan B f->∃g∈B,b.1=g.1/\b.2∈H9 [g.2] f
 |[],B,b,h=>⟨b,h,rfl,by simp[H9]⟩
 |q::f,B,b,h=>by obtain⟨c,r,u,y⟩:=Apq f h;obtain⟨d,d1,d2,d3⟩:=Beb r;refine⟨d,d1,u.trans d2,?_⟩;exact Azq f (λe o=>by simp only[Df]at o;rw[o];exact d3) b.2 y
abbrev Apr:=List Bm×Nat
def Ajr(c:Rat)(p:Apr):Ip:=((p.1,c),([],p.2))
theorem Azr{f:Bm}(h:1<=Eh Δ Ξ Θ f):∃t d,Ez Ξ Θ f.v=some t/\Ej Δ f.I t=some d/\1<=d/\d<=6/\Eh Δ Ξ Θ f=(d:Nat):=by unfold Eh at h⊢;cases e:Ez Ξ Θ f.v with|none=>rw[e]at h;exact absurd (show(1:Int)<=-1 from h) δ|some t=>rw[e]at h;(rcases Aht (Ej Δ f.I t)with⟨o,_⟩|⟨d,o,r,u⟩);have h:1<=Hu (Ej Δ f.I t):=h;omega;have h:1<=Hu (Ej Δ f.I t):=h;exact⟨t,d,rfl,o,ω,r,u⟩
theorem Aps(l m:Bi):B8 Δ Ξ Θ (l++m)=B8 Δ Ξ Θ l+B8 Δ Ξ Θ m:=by unfold B8;simp[sum_append]
theorem Ajs{Δ:A0}{Ξ:A1}{Θ:Ak}:∀{l:Bi},(∀f∈l,1<=Eh Δ Ξ Θ f)->(l.length:Int)<=B8 Δ Ξ Θ l
 |[],_=>by simp[B8]
 |f::l,h=>by have o:=h f ψ;have r:=Ajs (l:=l) λg e=>h g (by simp[e]);have:B8 Δ Ξ Θ (f::l)=Eh Δ Ξ Θ f+B8 Δ Ξ Θ l:=(by unfold B8;simp);simp only[Fg];omega
structure FGz(Δ:List A5)(Ξ:List Ak)(Θ:Ak)(F:List Bm):Prop where
 fac:∀f∈F,I64 f.v/\iR f.I/\0<=Eh Δ Ξ Θ f
 siz:(F.map λf=>C5 f.I).sum<=400000
 sum:B8 Δ Ξ Θ F<=6
 len:F.length<=8
theorem Apt{Δ:A0}{Ξ:A1}{Θ:Ak}:∀{l:Bi},(∀f∈l,0<=Eh Δ Ξ Θ f)->0<=B8 Δ Ξ Θ l
 |[],_=>by simp[B8]
 |f::l,h=>by have o:=h f ψ;have r:=Apt (l:=l) λg e=>h g (by simp[e]);have:B8 Δ Ξ Θ (f::l)=Eh Δ Ξ Θ f+B8 Δ Ξ Θ l:=(by unfold B8;simp);omega
theorem FGz.app{m:Bi}(h:FGz Δ Ξ Θ (l++m)):FGz Δ Ξ Θ l/\FGz Δ Ξ Θ m:=by have h1:=h.siz;have h2:=h.sum;have h3:=h.len;rw[map_append,sum_append]at h1;rw[Aps]at h2;rw[E5]at h3;have f1:=Apt (Δ:=Δ) (Ξ:=Ξ) (Θ:=Θ) (l:=l) λf b=>(h.fac f (by simp[b])).2.2;have f2:=Apt (Δ:=Δ) (Ξ:=Ξ) (Θ:=Θ) (l:=m) λf b=>(h.fac f (by simp[b])).2.2;exact⟨⟨λf b=>h.fac f (by simp[b]),ω,ω,ω⟩,⟨λf b=>h.fac f (by simp[b]),ω,ω,ω⟩⟩
def Ae0(Δ:A0)(Ξ:A1)(Θ:Ak)(χ:Bm->Nat)(P:Bi):Prop:=∀g∈P,∀t,Ez Ξ Θ g.v=some t->Azp Δ t (λi=>χ ⟨g.v,i⟩)/\∀i,Ej Δ i t=some 0->iR i->C5 i<=400000->χ ⟨g.v,i⟩=1
structure Apu(Δ:List A5)(Ξ:List Ak)(Θ:Ak)(P:List Bm)(FE:List Apr):Prop where
 pos:∀p∈FE,1<=p.2
 fac:∀p∈FE,∀f∈p.1,I64 f.v/\iR f.I/\C5 f.I<=(P.map λf=>C5 f.I).sum/\1<=Eh Δ Ξ Θ f/\∃g∈P,g.v=f.v
 asc:∀p∈FE,p.1.Pairwise λa b=>a.v<b.v
 sum:∀p∈FE,B8 Δ Ξ Θ p.1<=B8 Δ Ξ Θ P
 val:∀χ,Ae0 Δ Ξ Θ χ P->pv (λF=>Iz (F.map χ)) FE=Iz (P.map χ)
 len:FE.length*FE.length<=10^((B8 Δ Ξ Θ P).toNat+P.length)
theorem Apu.nil(Δ:A0)(Ξ:A1)(Θ:Ak):Apu Δ Ξ Θ [] [([],1)]:=by(have h:∀p∈[(([]:Bi),1)],p=([],1):=λp hp=>by simpa using hp);refine⟨λp hp=>?_,λp hp f b=>?_,λp hp=>?_,λp hp=>?_,λχ _=>rfl,Nat.le_refl _⟩;rw[h p hp];exact Nat.le_refl _;rw[h p hp]at b;cases b;rw[h p hp];exact Pairwise.nil;rw[h p hp];exact Int.le_refl _
def Apv(l:Bi):Prop:=∃v:Int,3<=(l.filter λf=>f.v==v).length
theorem Apv.app{m:Bi}(h:Apv m):Apv (l++m):=by obtain⟨v,h⟩:=h;exact⟨v,by rw[filter_append,E5];omega⟩
def ls(g:Int->Int):A7->Int
 |[]=>0
 |t::l=>t.C*g t.v+ls g l
structure PX(x:A9)(n k:Nat)(R:List Af):Prop where
 cp:CP R
 mo:∀t∈R,D2 x t.M
 rb:∀t∈R,RB k t.C
 len:R.length<=n
theorem PX.can(h:PX x n k R)(hn:n<=1000)(hk:k<=1048576):Hf x R:=Hf.of h.cp h.mo (λt e=>(h.rb t e).mono hk) (Nat.le_trans h.len hn)
theorem PX.up{c:Nat}(h:PX x n k R)(hn:n<=b)(hk:k<=c):PX x b c R:=⟨h.cp,h.mo,λt e=>(h.rb t e).mono hk,Nat.le_trans h.len hn⟩
theorem IP.px{L:Nat}{f:Ax->Rat}(h:IP x n L f R):PX x n (L+1) R:=⟨h.cp,h.mo,λt e=>by obtain⟨z,b,o⟩:=h.int t e;exact W9 (h.cp.coe t e).1 b o,h.len⟩
theorem Apw(u:CP p)(h:∀t∈p,RB k t.C)(G:3<=k)(m:Ax):∃a,RB k a/\rq a=cf p m:=by by_cases r:∃t∈p,Du t.M m=0;obtain⟨t,o,e⟩:=r;exact⟨t.C,h t o,by rw[<-L6 u o,Ho.1 e]⟩;obtain⟨y,g,c,f,b⟩:=Ai2 0 ω ω;exact⟨y,c.mono G,by rw[b,Ain λt o e=>r ⟨t,o,e⟩];rfl⟩
theorem Azs(h:CSz x)(u:F4 x){m l:Nat}(hp:PX x n k p)(o:PX x m l q)(X:n+m<=1000)(G:3<=k)(y:3<=l)(H:k<=1048576)(s:l<=1048576):∃R,Nd x p q=some (R,0)/\PX x (n+m) (k+l+3) R/\∀a,cf R a=cf p a-cf q a:=by have j:=hp.len;have i:=o.len;obtain⟨R,g,f⟩:=Aot h u (hp.can ω H) (o.can ω s) ω;refine⟨R,g,⟨f.cp,λt r=>(f.tb t r).1,λt r=>?_,by have:=f.len;omega⟩,f.val⟩;obtain⟨a,I,J⟩:=Apw hp.cp hp.rb G t.M;obtain⟨b,b1,T⟩:=Apw o.cp o.rb y t.M;obtain⟨c,c1,U,V,W⟩:=Ax8 I b1 ω ω;have e:t.C=c:=Z9 (f.cp.coe t r).1 V (by rw[<-L6 f.cp r,f.val,W,J,T]);rw[e];exact U
theorem Bec(h:CSz x)(l:F4 x){r:Am}(hp:PX x n k p)(f:RB j r)(V:n<=1000)(u:3<=k)(y:k<=1048576)(G:j<=1048576):∃R,Ss x p r=some (R,0)/\PX x n (j+k+2) R/\∀a,cf R a=rq r*cf p a:=by have i:=hp.len;obtain⟨R,g,b⟩:=Axy h l (hp.can ω y) (f.mono G) ω;refine⟨R,g,⟨b.cp,λt o=>(b.tb t o).1,λt o=>?_,by have:=b.len;omega⟩,b.val⟩;obtain⟨a,H,I⟩:=Apw hp.cp hp.rb u t.M;obtain⟨c,W,J,T,U⟩:=W0 f H ω ω;have e:t.C=c:=Z9 (b.cp.coe t o).1 T (by rw[<-L6 b.cp o,b.val,U,I]);rw[e];exact J
theorem Ae1{m:Ax}(e:m.F≠[]):∀B:Λ D1,ec B m=0
 |[]=>rfl
 |b::B=>by have h:Du ⟨[],b.1⟩ m≠0:=λh=>e (by rw[<-Ho.1 h]);simp only[ec,Au h,Ae1 e B]
theorem Bed(e:m.F≠[])(p q:Ad):Pv p q m=0:=by cases p with|nil=>rfl|cons t p=>cases q with|nil=>rfl|cons u q=>simp only[Pv,Ae1 e];show _*(((0:Nat):Rat))=0;rw[show(((0:Nat):Rat))=0 from rfl];grind
theorem Azt{f:Nat->Rat}(h:∀j,f j=0):∀n,sq n f=0
 |0=>rfl
 |n+1=>by simp only[sq,Azt h n,h];grind
theorem IP.noF{L:Nat}{f:Ax->Rat}(h:IP x n L f R)(b:∀m:Ax,m.F≠[]->f m=0):∀u∈R,u.M.F=[]:=λu o=>by rcases Classical.em (u.M.F=[])with e|e;exact e;exact absurd (b _ e) (by rw[<-h.val,L6 h.cp o];exact(h.cp.coe u o).2)
def AxV(_:A9)(_:Gx)(_:Ad):Prop:=True
theorem Bee(b:CSz x)(a:Gx)(A:a.E.T.length<=6)(z:a.F.T.length<=6):∃R e,Ra x a=some (R,e)/\(e=0->F4 x/\IP x 17 13010 (cf R) R/\(∀u∈R,u.M.F=[])/\AxV x a R):=by obtain⟨k,E,F,K⟩:=a;have A:E.T.length<=6:=A;have z:F.T.length<=6:=z;by_cases I:k=1;subst I;obtain⟨R,v,f,i,rv,_,_,N⟩:=Bdy b E F K A z;refine⟨R,_,i,λh=>?_⟩;obtain⟨c,_,q,G,D,iE,iF,s,hs,r⟩:=N h;have hv:v=true:=(by cases v with|false=>exact absurd (show(1:Int)=0 from h) δ|true=>rfl);refine⟨c,r.up (Nat.le_refl _) (Nat.le_refl _) λm=>(r.val m).symm,r.noF λm o=>?_,trivial⟩;unfold shF;rw[Ae1 o,Azt λj=>Bed o _ _,show((0:Nat):Rat)=0 from rfl];grind;obtain⟨v,J,T⟩:=Aja ⟨k,E,F,K⟩ (by show E.T.length+F.T.length<=12;omega);obtain⟨f,f1,f2⟩:=Ua x b [] (λt W=>by cases W);have Y:=b.nv;have M:=Aag x E ω ω;have L:=Aag x F ω ω;unfold Ra;rw[J,f1,M,L];cases v with|false=>exact⟨[],1,rfl,λh=>absurd h δ⟩|true=>cases f with|false=>exact⟨[],1,rfl,λh=>absurd h δ⟩|true=>cases hi:Ek x.V x.E E with|false=>exact⟨[],6,rfl,λh=>absurd h δ⟩|true=>cases hj:Ek x.V x.E F with|false=>exact⟨[],6,rfl,λh=>absurd h δ⟩|true=>obtain⟨G,D,H,q,hk⟩:=T.1 rfl;(rcases hk with⟨h,_⟩|⟨y,s0,Z⟩);exact(I h).elim;have y:k=2:=y;subst y;have c:=(f2.1 rfl).1;obtain⟨P,B,X,p2,V,_⟩:=Aji b c (l:=E) (k:=K) G H q hi;obtain⟨Q,C,U,q2,S,_⟩:=Aji b c (l:=F) (k:=K) D H q hj;obtain⟨R,i,g⟩:=Ai7 b c V S δ δ;refine⟨R,0,?_,λ_=>⟨c,g.up δ δ λm=>(g.val m).symm,g.noF λm o=>?_,trivial⟩⟩;simp only[Dj,Aa,Ai,beq_self_eq_true,Aj];unfold Ab8;simp only[X,U,i,Aa,bne_self_eq_false,Ai];rw[Ae1 o,Ae1 o,show((0:Nat):Rat)=0 from rfl];grind
theorem Bef{m:Bi}(h:l.Perm m):B8 Δ Ξ Θ l=B8 Δ Ξ Θ m:=by induction h with|nil=>rfl|cons a _ ih=>simp only[B8,map_cons,sum_cons]at ih⊢;omega|swap a b l=>simp only[B8,map_cons,sum_cons];omega|trans _ _ e o=>exact e.trans o
theorem Beg{l m:Dr}(h:l.Perm m):l.sum=m.sum:=by induction h with|nil=>rfl|cons a _ ih=>simp only[sum_cons,ih]|swap a b l=>simp only[sum_cons];omega|trans _ _ e o=>exact e.trans o
structure Ajt(Δ:List A5)(Ξ:List Ak)(Θ:Ak)(c:Rat)(F:List Bm)(A:List A8)(K:Nat)(out:List Af):Prop where
 ex:∃Fs FE S gs,Fs.Perm F/\Apu Δ Ξ Θ Fs FE/\S.Perm A/\Aeq S/\Gs gs S/\Kd K out (Aan (FE.map (Ajr c)) gs)
 len:∃n,n*n<=10^((B8 Δ Ξ Θ F).toNat+F.length)/\out.length<=n*2^Bz A
def Ja(χ:Bm->Nat)(v:Ao->Nat):Λ Ip->Nat
 |[]=>0
 |b::bs=>Iz (b.1.1.map χ)*(b.2.2*E2 v b.2.1)+Ja χ v bs
theorem Beh(χ:Bm->Nat)(v:Ao->Nat)(B C:Λ Ip):Ja χ v (B++C)=Ja χ v B+Ja χ v C:=by induction B with|nil=>simp[Ja]|cons b B ih=>simp only[Es,Ja,ih,Nat.add_assoc]
theorem Bei(χ:Bm->Nat)(v:Ao->Nat)(l:Ao)(k c:Nat)(B:Λ Ip):Ja χ v (B.map (Ajq l k c))=Ja χ v B*(c*bc (v l) k):=by(have e:E2 v (atO l k)=bc (v l) k:=by unfold atO;by_cases h:k=0;subst h;rw[Ar rfl,J2];rfl;rw[Au h];simp[E2]);induction B with|nil=>simp[Ja]|cons b B ih=>simp only[map_cons,Ja,ih,Ajq,Ul,e];rw[Nat.add_mul];congr 1;ac_rfl
theorem Azu(χ:Bm->Nat)(v:Ao->Nat)(B:Λ Ip)(l:Ao)(f:Nat->Nat):∀n,Ja χ v (Sa B l f n)=Ja χ v B*sm n λk=>f k*bc (v l) k
 |0=>by simp[Sa,Ja,sm]
 |n+1=>by rw[Bea,Beh,Azu χ v B l f n];show _=Ja χ v B*(sm n (λk=>f k*bc (v l) k)+f n*bc (v l) n);rw[Nat.mul_add];congr 1;by_cases h:f n=0;rw[Ar h,h];simp[Ja];rw[Au h,Bei]
theorem Gs.valG(c:Ow v):∀{b:Λ Grp}{A:A2},Gs b A->∀B,Ja χ v (Aan B b)=Ja χ v B*E2 v A:=by intro b A h;induction h with|nil=>intro B;simp[Aan,E2]|@cons l N f g rest b i e k j q ih=>intro B;show Ja χ v (Aan (Sa B l f (N+1)) b)=_;rw[ih,Azu,Ul,Api e,<-Nat.mul_assoc];congr 2;(rcases j with⟨_,_,_,h3⟩|⟨h1,h2,h3⟩);exact h3 (v l);subst h2;rw[c l h1];simp[sm,J2,h3]
theorem Azv(χ:Bm->Nat)(v:Ao->Nat)(c:Rat):∀b:Λ Apr,Ja χ v (b.map (Ajr c))=pv (λF=>Iz (F.map χ)) b
 |[]=>rfl
 |p::b=>by rw[map_cons,Ja,Azv χ v c b,pv];show Iz (p.1.map χ)*(p.2*1)+_=_;rw[Nat.mul_one,Nat.mul_comm]
def Db(χ:Bm->Nat)(v:Ao->Nat):Ad->Rat
 |[]=>0
 |t::p=>rq t.C*((Iz (t.M.F.map χ)*E2 v t.M.A:Nat):Rat)+Db χ v p
theorem Aao(χ:Bm->Nat)(v:Ao->Nat):∀p q:Ad,Db χ v (p++q)=Db χ v p+Db χ v q
 |[],q=>by simp only[nil_append,Db];grind
 |t::p,q=>by simp only[Es,Db,Aao χ v p q];grind
theorem Kd.polX{c:Rat}{ts:Ad}{bs:Λ Ip}(h:Kd K ts bs)(hc:∀b∈bs,b.1.2=c):Go.Ab.Db χ v ts=c*(Ja χ v bs:Rat):=by induction h with|nil=>simp only[Go.Ab.Db,Ja];grind|@cons t b ts bs e o r u _ ih=>have hb:=hc b ψ;simp only[Go.Ab.Db,Ja,ih λd hd=>hc d (by simp[hd]),e,o,hb,Rat.natCast_add,Rat.natCast_mul];grind
theorem Bej{l m:Dr}(h:l.Perm m):Iz l=Iz m:=by induction h with|nil=>rfl|cons a _ ih=>simp only[Iz,ih]|swap a b l=>simp only[Iz];ac_rfl|trans _ _ e o=>exact e.trans o
theorem Ajt.val{c:Rat}{f:Ad}(h:Ajt Δ Ξ Θ c F A K f)(i:Ae0 Δ Ξ Θ χ F)(j:Ow v):Db χ v f=c*((Iz (F.map χ)*E2 v A:Nat):Rat):=by obtain⟨u,x,S,gs,h1,h2,h3,q,l,k⟩:=h.ex;rw[k.polX (c:=c) λb hb=>by obtain⟨s,b1,e,_⟩:=Apq gs hb;obtain⟨p,_,rfl⟩:=mem_map.1 b1;rw[e];rfl];rw[l.valG j,Azv,h2.val χ λg o=>i g (h1.mem_iff.1 o),Azf v h3,Bej (h1.map χ)]
theorem Bek{l:Ao}{f:Nat->Nat}{b:D1}(hb:b∈El B l f n):∃c∈B,∀a∈b.1,a∈c.1\/a.L=l:=by unfold El at hb;rw[mem_flatMap]at hb;obtain⟨k,_,h⟩:=hb;split at h;cases h;obtain⟨d,o,rfl⟩:=mem_map.1 h;refine⟨d,o,λa e=>?_⟩;rcases Ea.1 e with e|e;exact .inl e;unfold atO at e;split at e;cases e;simp only[Df]at e;right;rw[e]
theorem Bel{j:Λ Grp}(h:Gs j A):∀(B:Λ D1)(b:D1),b∈H9 B j->∃q∈B,∀a∈b.1,a∈q.1\/∃c∈A,a.L=c.L:=by induction h with|nil=>intro B b e;exact⟨b,e,λa o=>.inl o⟩|@cons l N f g r j k G s u x ih=>intro B b e;obtain⟨b1,H,I⟩:=ih _ b (show b∈H9 (El B l f (N+1)) j from e);obtain⟨q,d1,d2⟩:=Bek H;obtain⟨y,i⟩:∃a,a∈g:=(by cases g with|nil=>exact(k rfl).elim|cons a _=>exact⟨a,ψ⟩);refine⟨q,d1,λa o=>?_⟩;rcases I a o with h|⟨c,J,T⟩;rcases d2 a h with h|h;exact .inl h;exact .inr ⟨y,by simp[i],by rw[h,G y i]⟩;exact .inr ⟨c,by simp[J],T⟩
theorem Ajt.mono{c:Rat}{i:Ad}(h:Ajt Δ Ξ Θ c F A K i)(D:∀a∈A,Cd a.L=true/\Ek Ξ Θ a.L=true):∀t∈i,RB K t.C/\(∃n:Nat,rq t.C=c*(n:Rat))/\(∀f∈t.M.F,I64 f.v/\iR f.I/\C5 f.I<=(F.map λf=>C5 f.I).sum/\1<=Eh Δ Ξ Θ f)/\t.M.F.Pairwise (λa b=>a.v<b.v)/\B8 Δ Ξ Θ t.M.F<=B8 Δ Ξ Θ F/\W8 Ξ Θ t.M.A/\Bq t.M.A<=(Bz A:Nat)/\(∀f∈t.M.F,∃g∈F,g.v=f.v)/\∀a∈t.M.A,∃c∈A,a.L=c.L:=by obtain⟨U,V,S,gs,h1,h2,h3,N,q,l⟩:=h.ex;intro t r;obtain⟨b,b1,H,M,L⟩:=l.mem r;obtain⟨R,T,e,o⟩:=Apq gs b1;obtain⟨p,j,rfl⟩:=mem_map.1 T;obtain⟨W,X⟩:=Ai6 (Ξ:=Ξ) (Θ:=Θ) q (λa ha=>D a (h3.mem_iff.1 ha)) [(Ajr c p).2] 0 (λd hd=>by simp only[Df]at hd;subst hd;exact⟨⟨Pairwise.nil,λ_ h=>by cases h⟩,by simp[Bq,Ajr],λ_ h=>by cases h⟩) b.2 o;rw[Ps h3]at X;(have I:b.1.1=p.1:=by rw[e];rfl);(have G:b.1.2=c:=by rw[e];rfl);rw[H];dsimp only;rw[I];refine⟨L,⟨b.2.2,by rw[M,G]⟩,λf k=>?_,h2.asc p j,by have:=h2.sum p j;rw[Bef h1]at this;exact this,W,ω,λf k=>?_,λa ha=>?_⟩;obtain⟨B,z,y,x,_⟩:=h2.fac p j f k;exact⟨B,z,by rw[<-Beg (h1.map λf=>C5 f.I)];exact y,x⟩;obtain⟨_,_,_,_,g,u,s⟩:=h2.fac p j f k;exact⟨g,h1.mem_iff.1 u,s⟩;obtain⟨d,d1,d2⟩:=Bel q _ _ o;simp only[Df]at d1;subst d1;rcases d2 a ha with h|⟨J,l,E⟩;cases h;exact⟨J,h3.mem_iff.1 l,E⟩
def lim(R:Ad):List Af×Int:=if 1000<R.length then([],9)else(R,0)
theorem Azw(h:R.length<=1000):lim R=(R,0):=Au ω
theorem Bem(h:1000<R.length):lim R=([],9):=Ar h
def mX(χ:Bm->Nat)(v:Ao->Nat)(m:Ax):Nat:=Iz (m.F.map χ)*E2 v m.A
theorem Ben(χ:Bm->Nat)(v:Ao->Nat)(p:Ad):La (mX χ v) (p.map wT)=Db χ v p:=by induction p with|nil=>rfl|cons t p ih=>simp only[map_cons,La,Db,ih,wT];rfl
theorem Beo(χ:Bm->Nat)(v:Ao->Nat)(p:Ad):La (mX χ v) (p.map nT) = - Db χ v p:=by induction p with|nil=>show(0:Rat) = - 0;grind|cons t p ih=>simp only[map_cons,La,Db,ih,nT];show-rq t.C*((Iz (t.M.F.map χ)*E2 v t.M.A:Nat):Rat)+_=_;grind
theorem Azx(h:∀m,cf q m<=cf p m):Db χ v q<=Db χ v p:=by have:=Bcg (mX χ v) _ (p.map wT++q.map nT) (Nat.le_refl _) (λm=>by rw[Bcj,Bch,Bci];have:=h m;grind);rw[Bck,Ben,Beo]at this;grind
theorem Apx(h:∀m,cf q m=cf p m):Db χ v q=Db χ v p:=Rat.le_antisymm (Azx λm=>by rw[h m];exact Rat.le_refl) (Azx λm=>by rw[h m];exact Rat.le_refl)
theorem Bep(o:∀f∈F,I64 f.v/\iR f.I/\C5 f.I<=1048576/\1<=Eh x.D x.V x.E f)(u:F.Pairwise λa b=>a.v<b.v)(J:B8 x.D x.V x.E F<=6):D2 x ⟨F,[]⟩:=by have h:=Ajs (Δ:=x.D) (Ξ:=x.V) (Θ:=x.E) (l:=F) λf c=>(o f c).2.2.2;refine⟨?_,⟨by show F.length<=_;omega,ψ,λf c=>(o f c).2.2.1,λf c=>⟨(o f c).2.1,(o f c).1⟩,λa y=>by cases y⟩⟩;unfold Iy;(have i:F.zipIdx.all (λq=>Mt x.D x.V x.E F q.1 q.2)=true:=by rw[Gb];rintro⟨a,j⟩ G;have r:F[j]?=some a:=mk_mem_zipIdx_iff_getElem?.1 G;have H:=(o a (B2 r)).2.2.2;show Mt x.D x.V x.E F a j=true;unfold Mt;have hp:K6 (·.v) F a j=true:=(by unfold K6;cases j with|zero=>rfl|succ j=>have h:=Dz r;have I:F[j]?=some F[j]:=Bk ω;have g:=pairwise_iff_getElem.1 u j (j+1) ω h ω;have e:F[j+1]=a:=(by have:=Bk h;rw[r]at this;exact(Fx this).symm);rw[e]at g;simp only[Nat.add_sub_cancel,I,Bool.or_eq_true];exact .inr (decide_eq_true g));rw[hp,Al H];rfl);show(F.zipIdx.all (λq=>Mt x.D x.V x.E F q.1 q.2)&&([]:A2).zipIdx.all _&&decide (B8 x.D x.V x.E F+Bq []<=6))=true;rw[i];have:Bq []=0:=rfl;rw[this,Al ω];rfl
def Ks(x:A9)(Z:Nat)(m:Ax):Prop:=D2 x m/\∀f∈m.F,C5 f.I<=Z
structure TmZ(x:A9)(k Z:Nat)(W:Int->Prop)(t:Af):Prop where
 vr:∀w∈Bbn t.M,W w
 mo:Ks x Z t.M
 rb:RB k t.C
 nz:rq t.C≠0
def Xd(x:A9)(p q:Ad):Prop:=∃t∈p,∃u∈q,6<D5 x t.M+D5 x u.M
theorem Hq.polX{F:FS}{c:Rat}{ts:Ad}{bs:Λ D1}(h:Hq F c K ts bs):Go.Ab.Db χ v ts=c*((Iz (F.1.map χ)*I9 v bs:Nat):Rat):=by induction h with|nil=>simp only[Go.Ab.Db,I9,Nat.mul_zero];grind|@cons t b ts bs e o r _ ih=>simp only[Go.Ab.Db,I9,ih,e,o,Rat.natCast_add,Rat.natCast_mul];grind
theorem Beq(hz:CSz x)(hf:F4 x)(H:D2 x m){R:Am}(h1:rq R=1)(V:RB 3 R){f:Ax->Rat}(T:IP x 17 13010 f q)(U:∀u∈q,u.M.F=[])(hG:∀u∈q,D5 x m+D5 x u.M<=6)(a1:Fc x.D x.V x.E b1):∃(A:At)(l:Aq)(ts L:Ad),Ap (Ajm x ⟨R,m⟩ q) (0,b1,[],[],[])=some (.inr ((q.length:Int),A,l,Fh ts,ts))/\Col 3000000 (D2 x) ts/\ts.length<=136/\L.length<=136/\(∀t∈L,∃z:Int,rq t.C=(z:Rat)/\Bp z.natAbs<=15480)/\(∀a,cf ts a=cf L a)/\∀χ v,Ow v->Db χ v L=(mX χ v m:Rat)*Db χ v q:=by have G:=hf.ctx hz;have a7:=T.len;obtain⟨e,e1,A,l,ts,L,rfl,I⟩:=Jc (step:=Ajm x ⟨R,m⟩ q) (λs=>∃(j:Nat)(A:At)(l:Aq)(ts L:Ad),s=((j:Int),A,l,Fh ts,ts)/\j<=q.length/\Fc x.D x.V x.E A/\Ug l/\Col (15475+j*8*15500) (D2 x) ts/\ts.length<=8*j/\L.length<=8*j/\(∀t∈L,∃z:Int,rq t.C=(z:Rat)/\Bp z.natAbs<=15480)/\(∀a,cf ts a=cf L a)/\∀χ v,Ow v->Db χ v L=(mX χ v m:Rat)*Db χ v (q.take j)) (λs=>q.length-s.1.toNat) (λe=>∃(A:At)(l:Aq)(ts L:Ad),e=.inr ((q.length:Int),A,l,Fh ts,ts)/\Col 3000000 (D2 x) ts/\ts.length<=136/\L.length<=136/\(∀t∈L,∃z:Int,rq t.C=(z:Rat)/\Bp z.natAbs<=15480)/\(∀a,cf ts a=cf L a)/\∀χ v,Ow v->Db χ v L=(mX χ v m:Rat)*Db χ v q) (by rintro _ ⟨j,A,l,ts,L,rfl,hj,k1,k2,J,k4,k5,k6,k7,k8⟩;unfold Ajm;dsimp only;rcases Cf j q.length with h|h;left;have W:q[j]?=some q[j]:=Bk h;generalize q[j]=u at W;have g:=B2 W;have hu:=T.mo u g;obtain⟨z,z1,z2⟩:=T.int u g;have S:=W9 (T.cp.coe u g).1 z1 z2;obtain⟨c,m1,m2,m3,m4⟩:=W0 V S δ δ;have Z:rq c≠0:=(by rw[m4,h1];have:=(T.cp.coe u g).2;grind);have E:=hG u g;have am:=H.f.as;have au:=hu.f.as;have f0:=H.f.fsum0;have f1:=hu.f.fsum0;have aa:Bz (m.A++u.M.A)=Bz m.A+Bz u.M.A:=Oq _ _;unfold D5 at E;have a6:Bz (m.A++u.M.A)<=6:=ω;(have k:∀a∈m.A++u.M.A,1<=a.P/\Cd a.L=true/\a.L.T.length≠0/\Ek x.V x.E a.L=true:=λa r=>by rcases Ea.1 r with h|h;exact H.f.atm a h;exact hu.f.atm a h);have hA:Atk (m.A++u.M.A):=⟨λa r=>by have:=(k a r).1;omega,λa r=>(k a r).2.1,ω,by rw[E5];omega⟩;have Y:Rj m u.M=some ⟨m.F,m.A++u.M.A⟩:=(by have n1:=H.cmo.nf;rw[Ai0 _ _ (by rw[U u g];simp;omega) ω,U u g,append_nil]);obtain⟨out,B,d1,d2,e1,I,N,e4,e5,e6,_⟩:=Bcw G m2 δ Z (Bd4 hz H) hA k1 k2;have a8:out.length<=8:=(by rw[N.len];exact Nat.le_trans (I.cnt H.f.srt hu.f.srt) (Nat.le_trans (Nat.pow_le_pow_right δ (ω:_<=3)) δ));have D:=I.goods (x:=x) λa r=>⟨(k a r).2.1,(k a r).2.2.2⟩;(have X:∀w∈out,RB 15470 w.C/\D2 x w.M:=λw hw=>by obtain⟨i,hi⟩:=Ff hw;obtain⟨b,b1,b2,b3,b4⟩:=N.get hi;obtain⟨g1,g2⟩:=D b (B2 b1);refine⟨b4.mono δ,?_⟩;rw[b2];exact Azh H g1 ω);obtain⟨v,v1,v2,v3,v4⟩:=Aab (P:=D2 x) (λm h=>h.cmo) out ts J X ω ω ω;refine⟨(((j+1:Nat):Int),d1,d2,Fh v,v),?_,⟨j+1,d1,d2,v,L++out,rfl,ω,e5,e6,⟨v2.dst,λt o=>(v2.tb t o).mono ω,v2.mo⟩,ω,by rw[E5];omega,λt o=>?_,λa=>?_,λχ v M=>?_⟩,ζ⟩;rw[Al ω,Aj,Bu rfl W,Aa,m1,Aa,Y,Aa,e1,Aa];dsimp only;rw[Dm rfl,Ai,v1,Aa,Dh h ω];rcases Ea.1 o with o|o;exact k6 t o;obtain⟨y,y1,y2⟩:=N.listI (z:=z) (by rw[m4,h1,z1];grind) t o;exact⟨y,y1,ω⟩;rw[v4,k7,Mv];have hc:rq c=rq u.C:=(by rw[m4,h1];grind);rw[Aao,k8 χ v M,N.polX,I.val M,Ul,C4 W,Aao,hc];show _=_*(_+(rq u.C*((Iz (u.M.F.map χ)*E2 v u.M.A:Nat):Rat)+0));rw[U u g];unfold mX;simp only[Rat.natCast_mul,map_nil,Iz,Nat.one_mul];grind;right;have:j=q.length:=ω;subst this;exact⟨_,by rw[An ω,Ai],A,l,ts,L,rfl,⟨J.dst,λt o=>(J.tb t o).mono ω,J.mo⟩,ω,ω,k6,k7,λχ v M=>by rw[k8 χ v M,Dc]⟩) (0,b1,[],[],[]) ⟨0,b1,[],[],[],rfl,ω,a1,λp hp=>(by cases hp),Col.nil _ _,ψ,ψ,λt o=>(by cases o),λa=>rfl,λχ v _=>by rw[take_zero];simp only[Go.Ab.Db];grind⟩;exact⟨A,l,ts,L,e1,I⟩
theorem Ber(V:CSz x)(Y:F4 x)(W:D2 x m){b:Am}(hc:H4 b)(o:rq b=1)(I:RB 3 b){f:Ax->Rat}(T:IP x 17 13010 f q)(nq:∀u∈q,u.M.F=[]) :
  (Xd x [⟨b,m⟩] q/\Oa x [⟨b,m⟩] q=some ([],13))\/(¬Xd x [⟨b,m⟩] q/\∃R,Oa x [⟨b,m⟩] q=some (R,0)/\IP x 136 16000 (cf R) R/\∀χ v,Ow v->Db χ v R=(mX χ v m:Rat)*Db χ v q):=by
 have l:=Y.ctx V
 have a7:=T.len
 have hp:=Azi W hc o I
 have M:=T.can δ δ
 obtain⟨b',hb,S⟩:=Aos V (ps:=[[⟨b,m⟩],q]) (λr J=>by
  simp only[Ef,not_mem_nil,or_false]at J
  rcases J with rfl|rfl
  .exact hp.sz
  .exact M.sz) ψ ⟨Y,λr J=>by
  simp only[Ef,not_mem_nil,or_false]at J
  rcases J with rfl|rfl
  .exact hp.can
  .exact M.can⟩
 have w1:Ac (0+1)=1:=by rw[Ac,Bn]<;>omega
 have it:Ae [(⟨b,m⟩:Af)] 0=some ⟨b,m⟩:=rfl
 unfold Oa
 rw[hb]
 simp only[Aa,Dj,Ai,Nf]
 rw[Al ψ,Aj]
 have fin:∀c:At,Fc x.D x.V x.E c->(∀u∈q,D5 x m+D5 x u.M<=6)->∃k j ts R,Ap (Ajm x ⟨b,m⟩ q) (0,c,[],[],[])=some (.inr ((q.length:Int),k,j,Fh ts,ts))/\Ng (Fh ts) ts=some (R,0)/\IP x 136 16000 (cf R) R/\∀χ v,Ow v->Db χ v R=(mX χ v m:Rat)*Db χ v q:=by
  intro c Z s
  obtain⟨k,j,ts,L,E,l2,l3,l4,l5,l6,l7⟩:=Beq V Y W o I T nq s Z
  have hint:∀a,∃z:Int,cf ts a=(z:Rat)/\Bp z.natAbs<=16000:=λa=>by
   obtain⟨z,U,z2⟩:=Ao5 a L l5
   exact⟨z,by rw[l6];exact U,ω⟩
  obtain⟨R,D,i⟩:=Ao6 (x:=x) l2 δ ω λa=>⟨(hint a).choose,(hint a).choose_spec.1⟩
  refine⟨k,j,ts,R,E,D,⟨i.cp,λ_=>rfl,i.mo,by have:=i.len;omega,λw hw=>?_⟩,λχ v hv=>by rw[<-l7 χ v hv];exact Apx λa=>by rw[i.val,l6]⟩
  obtain⟨z,U,z2⟩:=hint w.M
  exact⟨z,by rw[<-L6 i.cp hw,i.val,U],z2⟩
 by_cases N:q.length=0
 .have:q=[]:=Fp.1 N
  subst this
  obtain⟨k,j,ts,R,E,D,i⟩:=fin b' S λu e=>by cases e
  refine .inr ⟨λ⟨_,_,u,e,_⟩=>(by cases e),R,?_,i⟩
  rw[An ψ,Ai]
  simp only[Aa,Ai]
  refine Cp (a:=.inr (k,j,Fh ts,ts)) ?_ (by simp only[D,Aa])
  refine(Fj (s':=(1,k,j,Fh ts,ts)) ?_).trans (Cs ?_)
  .simp only[it,Aa]
   rw[Al ψ,Aj]
   exact Cp E (by simp only[w1])
  .rfl
 .obtain⟨G,c,g1,g2,g3,g4,g5,g6⟩:=Aze [] l S [⟨b,m⟩] ψ (λu e=>by simp only[Df]at e;subst e;exact W)
  obtain⟨B,c',a6,a1,aa,a8,A,y⟩:=Aze [] l g2 q ω T.mo
  have wG:Ac (G+B)=G+B:=by clear g6 y;rw[Ac,Bn]<;>omega
  rw[Al (by clear g6 y;omega),Aj,g1,Aa]
  dsimp only
  rw[a6,Aa]
  dsimp only
  rw[wG,Aa]
  have X:G+B>6->Xd x [⟨b,m⟩] q:=λs=>by
   have e1:G=D5 x m:=by
    have o:=g5 ⟨b,m⟩ ψ
    have o:D5 x m<=G:=o
    have h0:=Ajl W
    rcases g6 with h|⟨u,e,h⟩
    .omega
    .simp only[Df]at e
     subst e
     exact h.symm
   have e2:∃u∈q,D5 x u.M=B:=by
    rcases y with h|h
    .have H:0<q.length:=Nat.pos_of_ne_zero N
     have g:=getElem_mem H
     generalize q[0]'H=u at g
     have o:=A u g
     have h0:=Ajl (T.mo u g)
     have h3:D5 x u.M=B:=by rw[h]at o⊢;exact Int.le_antisymm o h0
     exact⟨u,g,h3⟩
    .exact h
   obtain⟨u,e,e2⟩:=e2
   exact⟨_,Df.2 rfl,u,e,by show 6<D5 x m+D5 x u.M;rw[e2,<-e1];exact s⟩
  by_cases s:G+B>6
  .rw[Al s]
   exact .inl ⟨X s,rfl⟩
  .rw[An s]
   simp only[Ai,Aa]
   obtain⟨k,j,ts,R,E,D,i⟩:=fin c' a1 λu e=>by
    have o:=g5 ⟨b,m⟩ ψ
    have h2:=A u e
    have o:D5 x m<=G:=o
    omega
   refine .inr ⟨λ⟨t,ht,u,e,h⟩=>?_,R,?_,i⟩
   .rw[Df]at ht
    subst ht
    have o:=g5 ⟨b,m⟩ ψ
    have h2:=A u e
    have o:D5 x m<=G:=o
    have h:6<D5 x m+D5 x u.M:=h
    omega
   refine Cp (a:=.inr (k,j,Fh ts,ts)) ?_ (by simp only[D,Aa])
   refine(Fj (s':=(1,k,j,Fh ts,ts)) ?_).trans (Cs ?_)
   .simp only[it,Aa]
    rw[Al ψ,Aj]
    exact Cp E (by simp only[w1])
   .rfl
theorem Bes{step:Int->Hl}{stop:Nat->Prop}(o:∀j,j<n->¬stop j->step (j:Int)=some (.inl ((j+1:Nat):Int)))(r:∀j,j<n->stop j->step (j:Int)=some (.inr (j:Int)))(u:step (n:Int)=some (.inr (n:Int))):∀(d j:Nat),j+d=n->∃k,j<=k/\k<=n/\Ap step (j:Int)=some (k:Int)/\(∀i,j<=i->i<k->¬stop i)/\(k<n->stop k):=by intro d;induction d with|zero=>intro j y;obtain rfl:j=n:=ω;exact⟨j,ω,ω,Cs u,λi _ _=>ω,λh=>ω⟩|succ d ih=>intro j y;by_cases b:stop j;exact⟨j,ω,ω,Cs (r j ω b),λi _ _=>ω,λ_=>b⟩;obtain⟨k,q,l,g,f,c⟩:=ih (j+1) ω;refine⟨k,ω,l,(Fj (o j ω b)).trans g,λi H G=>?_,c⟩;by_cases e:i=j;subst e;exact b;exact f i ω G
structure Lk{α:Type}(L M:List (α×Nat)):Prop where
 eq:∀f:α->Nat,pv f L=pv f M
 pos:∀p∈L,1<=p.2
open Classical in
theorem Apy{α:Type}{f:α->Nat}:∀{L:Λ (α×Nat)},1<=pv f L->∃p∈L,1<=f p.1
 |[],h=>by simp[pv]at h
 |p::L,h=>by by_cases e:f p.1=0;obtain⟨q,o,r⟩:=Apy (f:=f) (L:=L) (by simp only[pv,e,Nat.mul_zero,Nat.zero_add]at h;exact h);exact⟨q,by simp[o],r⟩;exact⟨p,ψ,ω⟩
theorem Azy(f:α->Nat){L:Λ (α×Nat)}{p:α×Nat}(h:p∈L):p.2*f p.1<=pv f L:=by induction L with|nil=>cases h|cons q L ih=>simp only[pv];rcases Ef.1 h with rfl|h;omega;have:=ih h;omega
open Classical in
theorem Lk.mem{α:Type}{L M:Λ (α×Nat)}(h:Lk L M){p:α×Nat}(hp:p∈L):∃q∈M,q.1=p.1:=by have h1:=Azy (λx=>if x=p.1 then 1 else 0) hp;rw[h.eq]at h1;have h2:=h.pos p hp;simp only[if_true]at h1;obtain⟨q,o,r⟩:=Apy (f:=λx=>if x=p.1 then 1 else 0) (L:=M) ω;refine⟨q,o,?_⟩;by_cases e:q.1=p.1;exact e;simp only[Au e]at r;omega
theorem Lk.num{L M:Λ (α×Nat)}(h:Lk L M){p:α×Nat}(hp:p∈L):p.2<=pv (λ_=>1) M:=by rw[<-h.eq];exact Bd9 hp
theorem Lk.len{L M:Λ (α×Nat)}(h:Lk L M):L.length<=pv (λ_=>1) M:=by rw[<-h.eq];exact App h.pos
theorem Lk.refl{L:Λ (α×Nat)}(h:∀p∈L,1<=p.2):Lk L L:=⟨λ_=>rfl,h⟩
structure Fit(M:List (A3×Nat)):Prop where
 tot:pv (λ_=>1) M<=100000
 all:∀q∈M,C5 q.1<=2000000
theorem Fit.left{N:Bv}(h:Fit (M++N)):Fit M:=⟨by have:=h.tot;rw[Lo]at this;omega,λq e=>h.all q (by simp[e])⟩
theorem Un{S E:Type}{step:S->Ο (S⊕E)}(P:Nat->S->Prop)(n:Nat)(b:∀j s,j<n->P j s->∃e,step s=some (.inl e)/\P (j+1) e){s0:S}(h0:P 0 s0):∃s,P n s/\Ap step s0=Ap step s:=by(have h:∀m,m<=n->∃s,P m s/\Ap step s0=Ap step s:=by intro m;induction m with|zero=>intro _;exact⟨s0,h0,rfl⟩|succ m ih=>intro y;obtain⟨s,o,r⟩:=ih ω;obtain⟨e,u,c⟩:=b m s ω o;exact⟨e,c,r.trans (Fj u)⟩);exact h n (Nat.le_refl _)
theorem Azz{α β:Type}(f:β->Nat)(g:α->β)(c:Nat):∀L:Λ (α×Nat),pv f (L.map λw=>(g w.1,w.2*c))=c*pv (λx=>f (g x)) L
 |[]=>rfl
 |w::L=>by simp only[map_cons,pv,Azz f g c L,Nat.mul_add];rw[Nat.mul_comm w.2 c,Nat.mul_assoc]
theorem Lk.trans{L M N:Λ (α×Nat)}(h:Lk L M)(h':∀f:α->Nat,pv f M=pv f N):Lk L N:=⟨λf=>(h.eq f).trans (h' f),h.pos⟩
theorem Lk.nil:Lk ([]:Λ (α×Nat)) []:=⟨λ_=>rfl,λ_ h=>by cases h⟩
theorem Fit.of(h:Lk L M)(b:Fit M):Fit L:=⟨by rw[h.eq];exact b.tot,λq e=>by obtain⟨r,f,c⟩:=h.mem e;rw[<-c];exact b.all r f⟩
theorem Bet:∀(a b:Nat),a+b<=6->Zh ((a:Nat):Int) ((b:Nat):Int)=some (Ls (a+b+1) (Rc a b),true)
 |0,0,_=>κ
 |0,1,_=>κ
 |0,2,_=>κ
 |0,3,_=>κ
 |0,4,_=>κ
 |0,5,_=>κ
 |0,6,_=>κ
 |0,b+7,h=>absurd h ω
 |1,0,_=>κ
 |1,1,_=>κ
 |1,2,_=>κ
 |1,3,_=>κ
 |1,4,_=>κ
 |1,5,_=>κ
 |1,b+6,h=>absurd h ω
 |2,0,_=>κ
 |2,1,_=>κ
 |2,2,_=>κ
 |2,3,_=>κ
 |2,4,_=>κ
 |2,b+5,h=>absurd h ω
 |3,0,_=>κ
 |3,1,_=>κ
 |3,2,_=>κ
 |3,3,_=>κ
 |3,b+4,h=>absurd h ω
 |4,0,_=>κ
 |4,1,_=>κ
 |4,2,_=>κ
 |4,b+3,h=>absurd h ω
 |5,0,_=>κ
 |5,1,_=>κ
 |5,b+2,h=>absurd h ω
 |6,0,_=>κ
 |6,b+1,h=>absurd h ω
 |a+7,b,h=>absurd h ω
def Ju:B0->Dr->Rat
 |c::cs,n::e=>c*(n:Rat)+Ju cs e
 |_,_=>0
def CbR(cs:B0)(N:Nat)(a:Rat):Prop:=∃e:Dr,e.length=cs.length/\e.sum<=N/\a=Ju cs e
theorem Apz:∀{cs:B0}{ns:Dr},ns.sum=0->Ju cs ns=0
 |[],_,_=>by simp only[Ju]
 |_::_,[],_=>by simp only[Ju]
 |c::cs,n::ns,h=>by rw[sum_cons]at h;have:n=0:=ω;subst this;rw[Ju,Apz (ns:=ns) ω];grind
theorem CbR.mono{cs:B0}{M:Nat}(h:CbR cs N a)(b:N<=M):CbR cs M a:=by obtain⟨e,h1,h2,h3⟩:=h;exact⟨e,h1,ω,h3⟩
theorem CbR.zero(cs:B0)(N:Nat):CbR cs N 0:=by(have b:∀k:Nat,(replicate k 0).sum=0:=λk=>by induction k with|zero=>rfl|succ k ih=>rw[replicate_succ,sum_cons,ih]);exact⟨replicate cs.length 0,ψ,by rw[b];omega,(Apz (b _)).symm⟩
theorem CbR.add{cs:B0}{M:Nat}{b:Rat}(h:CbR cs N a)(h':CbR cs M b):CbR cs (N+M) (a+b):=by(have r:∀(cs:B0)(e o:Dr),e.length=cs.length->o.length=cs.length->∃f:Dr,f.length=cs.length/\f.sum=e.sum+o.sum/\Ju cs f=Ju cs e+Ju cs o:=by intro cs;induction cs with|nil=>intro e o _ _;exact⟨e++o,by simp_all,ψ,by simp only[Ju];grind⟩|cons c cs ih=>intro e o h1 h2;cases e with|nil=>simp at h1|cons n e=>cases o with|nil=>simp at h2|cons m o=>obtain⟨f,i,j,g⟩:=ih e o (by simpa using h1) (by simpa using h2);refine⟨(n+m)::f,by simp[i],by simp only[sum_cons,j];omega,?_⟩;simp only[Ju,g,Rat.natCast_add];grind);obtain⟨e,h1,h2,rfl⟩:=h;obtain⟨o,h3,k,rfl⟩:=h';obtain⟨f,i,j,g⟩:=r cs e o h1 h3;exact⟨f,i,ω,g.symm⟩
theorem CbR.smul{cs:B0}(k:Nat)(h:CbR cs N a):CbR cs (k*N) (a*(k:Rat)):=by(have o:∀(cs:B0)(e:Dr),(e.map (k * ·)).sum=k*e.sum/\Ju cs (e.map (k * ·))=Ju cs e*(k:Rat):=by intro cs e;induction e generalizing cs with|nil=>exact⟨ψ,by cases cs<;>simp only[map_nil,Ju]<;>grind⟩|cons n e ih=>refine⟨by rw[map_cons,sum_cons,(ih []).1,sum_cons,Nat.mul_add],?_⟩;cases cs with|nil=>simp only[Ju];grind|cons c cs=>simp only[map_cons,Ju,(ih cs).2,Rat.natCast_mul];grind);obtain⟨e,h1,h2,rfl⟩:=h;exact⟨e.map (k * ·),by simp[h1],by rw[(o cs e).1];exact Nat.mul_le_mul_left k h2,(o cs e).2.symm⟩
theorem CbR.mem{cs:B0}{c:Rat}(h:c∈cs):CbR cs 1 c:=by induction cs with|nil=>cases h|cons d cs ih=>rcases Ef.1 h with rfl|h;obtain⟨e,h1,h2,h3⟩:=CbR.zero cs 0;exact⟨1::e,by simp[h1],by rw[sum_cons];omega,by rw[Ju,<-h3];grind⟩;obtain⟨e,h1,h2,h3⟩:=ih h;exact⟨0::e,by simp[h1],by rw[sum_cons];omega,by rw[Ju,<-h3];grind⟩
theorem CbR.pos{cs:B0}(h:CbR cs N a)(ha:a≠0):1<=N:=by obtain⟨o,h1,h2,rfl⟩:=h;by_cases e:o.sum=0;exact(ha (Apz e)).elim;omega
theorem CbR.rb{l:Bc}(z:∀c∈l,RB k c)(hk:k<=1000000)(hn:l.length<=1000)(D:N<=100000000){a:Am}(ha:H4 a)(h:CbR (l.map rq) N (rq a)):RB (1+l.length*(k+10)) a:=by(have o:∀(l:Bc)(e:Dr),(∀c∈l,RB k c)->l.length<=1000->e.length=l.length->(∀n∈e,n<=100000000)->∃a:Am,H4 a/\RB (1+l.length*(k+10)) a/\rq a=Ju (l.map rq) e:=by intro l;induction l with|nil=>intro e _ _ _ _;exact⟨cR 0,Pp _ _ _ δ,(R5 (n:=0) (k:=1) (J8 δ) δ).mono ω,by rw[Ot];simp only[map_nil,Ju];rfl⟩|cons c l ih=>intro e h1 h2 h3 i;cases e with|nil=>simp at h3|cons n e=>rw[Fg]at h2;obtain⟨a,I,r,G⟩:=ih e (λd hd=>h1 d (by simp[hd])) ω (by simpa using h3) λm hm=>i m (by simp[hm]);have g:l.length*(k+10)<=1000*1000010:=Nat.mul_le_mul ω ω;obtain⟨p,_,_,y,B,x⟩:=R4 (h1 c ψ) (R5 (n:=n) (k:=2) (J8 (by have:=i n ψ;omega)) δ) ω δ;obtain⟨s,_,_,u,q,j⟩:=Aaa y r ω ω;refine⟨s,q,u.mono ?_,?_⟩;rw[Fg,Nat.add_mul];omega;rw[j,x,G,Ot,map_cons,Ju]);obtain⟨e,h1,h2,h3⟩:=h;(have f:∀(e:Dr),∀n∈e,n<=e.sum:=λe=>by induction e with|nil=>intro n hn;cases hn|cons m e ih=>intro n hn;rw[sum_cons];rcases Ef.1 hn with rfl|hn;omega;have:=ih n hn;omega);(obtain⟨b,b1,H,A⟩:=o l e z hn (by rw[h1,Ki]) λn hn=>by have:=f e n hn;omega);rw[Z9 ha b1 (by rw[h3,A])];exact H
open Classical in
noncomputable def Iq(C:Ei)(m:Ax):Nat:=pv (λe=>if e=m then 1 else 0) C
theorem Beu(C:Ei)(m:Ax):Iq C m<=pv (λ_=>1) C:=Ajp λp _=>by split<;>omega
theorem Az0(h:1<=Iq C m):∃q∈C,q.1=m:=by obtain⟨q,c,b⟩:=Apy h;refine⟨q,c,?_⟩;by_cases e:q.1=m;exact e;simp only[Au e]at b;omega
structure PIS(cs:List Rat)(K:Nat)(C:List (Ax×Nat))(n:Nat)(b:List Af):Prop where
 base:PSt K n b
 cmb:∀m,CbR cs (Iq C m) (cf (b.take n) m)
theorem PIS.nil(cs:B0)(K:Nat):PIS cs K [] 0 []:=⟨⟨Nat.le_refl _,CP.nil,λt e=>by cases e⟩,λm=>CbR.zero _ _⟩
theorem PIS.mem{cs:B0}{b:Ad}(h:PIS cs K C n b){t:Af}(e:t∈b.take n):∃q∈C,q.1=t.M:=Az0 ((h.cmb t.M).pos (by rw[L6 h.base.cp e];exact(h.base.cp.coe t e).2))
open Classical in
theorem PIS.plus{cs:B0}{K:Nat}{C:Ei}{n:Nat}{b:Ad}(h:PIS cs K C n b){m:Ax}{c:Am}{N I:Nat}(hc:RB I c)(hm:Ep m)(T:CbR cs N (rq c))(U:∀N a,N<=100000000->H4 a->CbR cs N (rq a)->RB K a)(V:pv (λ_=>1) (C++[(m,N)])<=100000000)(hb:b.length<=100000)(H:K+I+3<30000000000):∃y o,Jq n m c b=some (y,o)/\o.length<=b.length+1/\PIS cs K (C++[(m,N)]) y o/\∀χ v,Db χ v (o.take y)=Db χ v (b.take n)+rq c*(mX χ v m:Rat):=by obtain⟨y,o,h1,h2,h3,J⟩:=R6 h.base hc hm H hb;(have u:∀r,CbR cs (Iq (C++[(m,N)]) r) (cf (o.take y) r):=λr=>by have e:Iq (C++[(m,N)]) r=Iq C r+(if m=r then N else 0):=(by unfold Iq;rw[Lo];simp only[pv];split<;>simp);rw[e,J];refine(h.cmb r).add ?_;by_cases e:m=r;rw[Ar e,Ar e];exact T;rw[Au e,Au e];exact CbR.zero _ _);refine⟨y,o,h1,h2,⟨⟨h3.le,h3.cp,λt G=>⟨U _ _ (Nat.le_trans (Beu _ _) V) (h3.cp.coe t G).1 (by rw[<-L6 h3.cp G];exact u t.M),(h3.tm t G).2⟩⟩,u⟩,λχ v=>?_⟩;rw[Apx (p:=b.take n++[⟨c,m⟩]) (q:=o.take y) λr=>?_,Aao];simp only[Db,mX];grind;rw[J,Mv];congr 1;show _=(if Du m r=0 then rq c else 0)+0;by_cases e:m=r;rw[Ar e,Ar (Ho.2 e)];grind;rw[Au e,Au λh=>e (Ho.1 h)];grind
theorem Ae2(m:Ax)(b:Ep m):Tl m=some (m,m.F,m.A):=by have f:=b.nf;have c:=b.na;unfold Tl;refine Ij m.F (λj=>((j:Int),m.F.take j)) rfl ω ?_ ?_;intro j x y e h o r;have u:=B2 e;have:=b.fi x u;simp only[h,o,r,Aj,Aa,Axr 4000000 x.I ω ω];rw[Dd ζ,Aa,C4 e];intro h;refine⟨m.F,ψ,?_⟩;dsimp only;refine Ij m.A (λj=>((j:Int),m.A.take j)) rfl ω ?_ ?_;intro j x y e h o r;have u:=B2 e;have:=b.al x u;simp only[h,o,r,Aj,Aa,Zg];rw[Dd ζ,Aa,Aa,Dd ζ,Aa,C4 e];rfl;intro h;exact⟨m.A,ψ,rfl⟩
theorem Bev(b:Λ α)(z:α):D9 b b.length [z]=b++[z]:=by unfold D9;simp
theorem Ap0(b:Λ α)(k:Nat)(z x:α)(y:k<=b.length)(hb:b.length<=1000000):∃o:Λ α,((H6 (b++[z]).length (Ac ((k:Int)+1)) (((b++[z]).length:Nat):Int)).bind λG=>match G with|.inl e=>(H5 (b++[z]).length (k:Int) (((b++[z]).length:Nat):Int)).bind λc=>(Lt (b++[z]) (0+e.1) (e.2-e.1) (0+c.1) (c.2-c.1)).bind λf=>some f|.inr _=>(H5 (b++[z]).length (k:Int) (((b++[z]).length:Nat):Int)).bind λH=>some (b++[z]))=some o/\o.length=b.length+1/\o.set k x=b.take k++x::b.drop k:=by obtain⟨o,h,r,u⟩:=Aoq b b.length k z x (Nat.le_refl _) y hb;rw[Bev]at h;have g:(b++[z]).length=b.length+1:=ψ;rw[Nat.max_eq_right ω]at r;refine⟨o,?_,r,?_⟩;rw[g];exact h;rw[Dc,J7 (by rw[length_set];omega)]at u;exact u
open Classical in
theorem Bew{R:Ad}{m:Ax}(h:CP R)(u:∀a,cf R a=if m=a then(1:Rat)else 0):R=[⟨cR 1,m⟩]:=by(have o:rq (cR 1)=1:=by rw[Ot];rfl);refine CP.ext h ⟨pairwise_singleton _ _,λt r=>by simp only[Df]at r;subst r;exact⟨Aet 1,by show rq (cR 1)≠0;rw[o];decide⟩⟩ λa=>?_;rw[u];simp only[cf,o];by_cases e:m=a;rw[Ar e,Ar (Ho.2 e)];grind;rw[Au e,Au λh=>e (Ho.1 h)];grind
theorem Ae3(K:Nat):PSt K 0 []:=⟨ψ,by simpa using CP.nil,λt e=>by simp at e⟩
theorem Ae4:RB 3 (cR 1):=(R5 (k:=1) (by rw[Jh];decide) δ).mono δ
theorem Aap:rq (cR 1)=1:=by rw[Ot];rfl
open Classical in
theorem Bex{m:Ax}(u:Ep m):∃n o,Jq 0 m (cR 1) []=some (n,o)/\Jn o n=some [⟨cR 1,m⟩]:=by obtain⟨n,o,y,H,r,G⟩:=R6 (Ae3 0) Ae4 u δ ψ;refine⟨n,o,y,?_⟩;have h:=r.le;(have e:Jn o n=some (o.take n):=by unfold Jn;rw[Ar h]);rw[e,Bew (m:=m) r.cp λa=>by rw[G];simp only[take_nil,cf,Aap];split<;>grind]
theorem Bey{L:A2}{l:Ao}{k:Int}(r:Ep ⟨F,L++[⟨l,k⟩]⟩)(V:k≠0)(R:l.T.length≠0)(u:∀a∈L,Dl a.L l<0)(G:L.length<=1000) :
  Kh [⟨cR 1,⟨F,L⟩⟩] l k=some [⟨cR 1,⟨F,L++[⟨l,k⟩]⟩⟩]:=by
 have N:=r.na
 have nF:F.length<=1048576:=r.nf
 have i:Ep ⟨F,L⟩:=⟨r.nf,by show L.length<=1048576;omega,r.fi,r.fr,λa h=>r.al a (mem_append_left _ h)⟩
 obtain⟨o,D,M,x⟩:=Ap0 L L.length ⟨⟨0,[]⟩,0⟩ ⟨l,k⟩ (Nat.le_refl _) ω
 obtain⟨n,q,B,A⟩:=Bex r
 have U:o[L.length]?=some (o[L.length]' ω):=Bk _
 generalize o[L.length]'_=w at U
 rw[Dc,drop_length]at x
 unfold Kh
 rw[Ch V,Ai]
 refine Cp (a:=(n,q)) ?_ (by dsimp only;rw[A];rfl)
 refine(Fj (s':=(n,1,q)) ?_).trans (Cs (by rfl))
 have it:Ae [(⟨cR 1,⟨F,L⟩⟩:Af)] 0=some ⟨cR 1,⟨F,L⟩⟩:=rfl
 have z:Ac (0+1)=1:=by rw[Ac,Bn]<;>omega
 have g:Ap (S:=Int) (E:=Int) (λb=>bif b<(L.length:Int)then((Ae L b).bind λc=>(Je c.L l).bind λH=>bif H<(0:Int)then(some (.inl (Ac (b+1))))else(some (.inr b)))else(some (.inr b))) 0=some (L.length:Int):=by
  obtain⟨e,J,I⟩:=Jc (step:=(λb:Int=>bif b<(L.length:Int)then((Ae L b).bind λc=>(Je c.L l).bind λH=>bif H<(0:Int)then(some (.inl (Ac (b+1))))else(some (.inr b)))else(some (.inr b)):Int->Hl)) (λs=>∃j:Nat,s=(j:Int)/\j<=L.length) (λs=>L.length-s.toNat) (λe=>e=(L.length:Int)) (by
   rintro s ⟨j,rfl,W⟩
   rcases Cf j L.length with h|h
   .have T:L[j]?=some L[j]:=Bk h
    generalize L[j]=f at T
    have y:=B2 T
    have:=i.al f y
    rw[Al ω,Aj,Bu rfl T,Aa,Z3 f.L l ω,Aa,Al (u f y),Aj,Dh h ω]
    exact .inl ⟨_,rfl,⟨j+1,rfl,ω⟩,by simp only[Int.toNat_natCast];omega⟩
   .have:j=L.length:=ω
    subst this
    exact .inr ⟨_,by rw[An ω,Ai],rfl⟩) 0 ⟨0,rfl,ω⟩
  rw[J,I]
 dsimp only
 rw[Al ψ,Aj,it,Aa,Ch ω,Ai]
 refine Cp g ?_
 dsimp only
 rw[An ω,Ai,Aa,Ai,Ae2 _ i,Aa]
 dsimp only
 rw[Dd ζ,Aa]
 refine Cp D ?_
 rw[Bu rfl U,Aa,F2 (n:=L.length) rfl,x,B,Aa,z]
structure Gy where
 gn:Int
 gk:List Gy
def noV:Gy:=.mk 0 []
mutual
def gv(Δ:List A5):A3->Ak->Gy->Nat
 |⟨n,e⟩,t,w=>if t.G=6 then gvs Δ e t.R w.gk else if t.G=7 then bc w.gk.length n.toNat else if t.G=5 then eS (gws Δ e t) w.gk else 1
def gvs(Δ:List A5):List A3->List Ak->List Gy->Nat
 |i::is,t::ts,e=>gv Δ i t (e.headD noV)*gvs Δ is ts e.tail
 |[],_,_=>1
 |_::_,[],_=>1
def gws(Δ:List A5):List A3->Ak->List (Gy->Nat)
 |[],_=>[]
 |⟨n,e⟩::h,t=>(λx=>if x.gn=n then gvs Δ e (R7 Δ t n) x.gk else 0)::gws Δ h t
end
variable{x:A9}{s:Af}{l:Ao}{p q:Ao->Bool}{m:Ax}{w w':Ax->Nat}{d:Int}{C:Ei}{Δ:A0}{S:Ad}{K N b j k n:Nat}{α:Type}
theorem Ox(Δ:A0)(i:A3)(t:Ak)(w:Gy):gv Δ i t w=if t.G=6 then gvs Δ i.K t.R w.gk else if t.G=7 then bc w.gk.length i.U.toNat else if t.G=5 then eS (gws Δ i.K t) w.gk else 1:=by cases i;simp only[gv]
theorem Aaq(Δ:A0)(i:A3)(is:Bo)(t:Ak)(ts:A1)(b:Λ Gy):gvs Δ (i::is) (t::ts) b=gv Δ i t (b.headD noV)*gvs Δ is ts b.tail:=by simp only[gvs]
theorem Aju(Δ:A0)(ts:A1)(b:Λ Gy):gvs Δ [] ts b=1:=by simp only[gvs]
def gOf(Δ:A0)(t:Ak)(e:A3)(x:Gy):Nat:=if x.gn=e.U then gvs Δ e.K (R7 Δ t e.U) x.gk else 0
theorem Xe(Δ:A0)(t:Ak):∀e:Bo,gws Δ e t=e.map (gOf Δ t)
 |[]=>by simp only[gws,map_nil]
 |⟨n,b⟩::e=>by simp only[gws,Xe Δ t e,map_cons];rfl
theorem Az1{g:Ak->A3->A3->Bv}(J:∀t i j w a b,C5 i<=k->Ej Δ i t=some a->Ej Δ j t=some b->pv (λx=>gv Δ x t w) (g t i j)=gv Δ i t w*gv Δ j t w):∀(ts:A1)(is f:Bo)(c:Λ Gy)(q l:Nat),Ey is<=k->D0 Δ is ts=some q->D0 Δ f ts=some l->pv (λr=>gvs Δ r ts c) (Um g ts is f)=gvs Δ is ts c*gvs Δ f ts c:=by intro ts;induction ts with|nil=>(intro is f c q l _ e o;cases is with|cons i is=>simp only[D0]at e;cases e|nil=>cases f with|cons j f=>simp only[D0]at o;cases o|nil=>simp only[Um,pv,Aju])|cons t ts ih=>intro is f c q l s e o;cases is with|nil=>simp only[D0]at e;cases e|cons i is=>cases f with|nil=>simp only[D0]at o;cases o|cons j f=>simp only[Ey]at s;rw[Rw]at e o;cases G:Ej Δ i t with|none=>rw[G]at e;cases e|some a=>cases H:D0 Δ is ts with|none=>rw[G,H]at e;cases e|some A=>cases b1:Ej Δ j t with|none=>rw[b1]at o;cases o|some b=>cases I:D0 Δ f ts with|none=>rw[b1,I]at o;cases o|some z=>have y:=J t i j (c.headD noV) a b ω G b1;have u:=ih is f c.tail A z ω H I;show pv (λr=>gvs Δ r (t::ts) c) ((g t i j).flatMap λw=>Kr w.1 w.2 (Um g ts is f))=_;rw[Azj (h:=λx=>pv (λr=>gvs Δ r ts c.tail) (Um g ts is f)*gv Δ x t (c.headD noV)) (hg:=λp _=>by rw[Bd6];have:(λr=>gvs Δ (p.1::r) (t::ts) c)=λr=>gv Δ p.1 t (c.headD noV)*gvs Δ r ts c.tail:=(by funext r;rw[Aaq]);rw[this,Ajo,Nat.mul_comm (gv Δ p.1 t _)]),Ajo,y,u,Aaq,Aaq];ac_rfl
theorem Bez:∀(k:Nat)(t:Ak)(i j:A3)(w:Gy)(y u:Nat),C5 i<=k->Ej Δ i t=some y->Ej Δ j t=some u->pv (λx=>gv Δ x t w) (Xc Δ k t i j)=gv Δ i t w*gv Δ j t w:=by intro k;induction k with|zero=>intro t i j w y u h;have:=Gr i;omega|succ k ih=>intro t i j w y u L T U;have B:=Gr i;rw[Ox Δ i,Ox Δ j,Xc];by_cases c:t.G=6;rw[Ar c,Ar c,Ar c,Apj,<-Az1 (k:=k) ih t.R i.K j.K w.gk y u ω (Aal c T) (Aal c U)];(exact Aey λp _=>by rw[Ox,Ar c]);rw[Au c,Au c,Au c];by_cases q:t.G=7;rw[Ar q,Ar q,Ar q,<-Bd8];(exact Aey λp _=>by rw[Ox,Au c,Ar q]);rw[Au q,Au q,Au q];by_cases l:t.G=5;obtain⟨_,J⟩:=W6 Δ _ _ _ (Aam l T);obtain⟨_,I⟩:=W6 Δ _ _ _ (Aam l U);rw[Ar l,Ar l,Ar l,Apj,Xe,Xe];rw[<-Bd5 (P:=λa=>C5 a<=k/\∃ts,I4 Δ t a.U=some ts/\D0 Δ a.K ts=some (pdg Δ t a)) (Q:=λb=>∃ts,I4 Δ t b.U=some ts/\D0 Δ b.K ts=some (pdg Δ t b)) (row:=Apl Δ t (Um (Xc Δ k))) w.gk (λx _ a H b W=>?_) i.K j.K (λa H=>⟨by have:=Ns H;omega,J a H⟩) I];(exact Aey λp _=>by rw[Ox,Au c,Au q,Ar l,Xe]);obtain⟨G,ts,V,X⟩:=H;obtain⟨A,b1,b2⟩:=W;have E:=Gr a;unfold Apl;by_cases e:a.U=b.U;rw[Ar e,Apj];by_cases o:x.gn=a.U;have s:R7 Δ t a.U=ts:=(by unfold R7;rw[V]);have z:A=ts:=(by rw[<-e,V]at b1;exact(Fx b1).symm);subst z;have D:=Az1 (k:=k) ih A a.K b.K x.gk _ _ ω X b2;unfold gOf;rw[Ar o,Ar ω,s,<-e,s,<-D];(exact Aey λp _=>by rw[Ar o];rw[s]);(have B:∀r:Bo,gOf Δ t ⟨a.U,r⟩ x=0:=λr=>by unfold gOf;rw[Au o]);have f:gOf Δ t a x=0:=(by unfold gOf;rw[Au o]);rw[f,Nat.zero_mul,Aey (g:=λ_=>0) λp _=>B p.1,Bd7];rw[Au e];show 0=_;by_cases o:x.gn=a.U;have f:gOf Δ t b x=0:=(by unfold gOf;rw[Au ω]);rw[f,Nat.mul_zero];have f:gOf Δ t a x=0:=(by unfold gOf;rw[Au o]);rw[f,Nat.zero_mul];rw[Au l,Au l,Au l];show 1*gv Δ ⟨0,[]⟩ t w+0=1*1;rw[Ox,Au c,Au q,Au l]
theorem Be0(Δ:A0)(t:Ak)(w:Gy):Azp Δ t λi=>gv Δ i t w:=λi j a b e h o _ _ _=>Bez KM t i j w a b e h o
theorem Be1(Δ:A0):∀n:Nat,(∀(i:A3)(t:Ak)(d:Nat),C5 i<=n->Ej Δ i t=some d->gv Δ i t noV=if d=0 then 1 else 0)/\(∀(is:Bo)(ts:A1)(d:Nat),Ey is<=n->D0 Δ is ts=some d->gvs Δ is ts []=if d=0 then 1 else 0):=by intro n;induction n with|zero=>(refine⟨λi t d h=>by have:=Gr i;omega,λis ts d h o=>?_⟩;have:=Oi is;have:is=[]:=Fp.1 ω;subst this;cases ts with|nil=>simp only[D0]at o;cases o;rfl|cons t ts=>simp only[D0]at o;cases o)|succ n ih=>(have r:∀(i:A3)(t:Ak)(d:Nat),C5 i<=n+1->Ej Δ i t=some d->gv Δ i t noV=if d=0 then 1 else 0:=by intro i t d G o;have l:=Gr i;rw[Ox];by_cases f:t.G=6;rw[Ar f];exact ih.2 i.K t.R d ω (Aal f o);rw[Au f];by_cases c:t.G=7;rw[Ar c,(Ajn c o).2];cases d<;>rfl;rw[Au c];by_cases g:t.G=5;rw[Ar g,Xe];obtain⟨k,_⟩:=W6 Δ _ _ _ (Aam g o);(cases H:i.K with|nil=>rw[H]at k;rw[Ar (by simpa[pds]using k)];rfl|cons e I=>rw[H,Fg]at k;rw[Au ω];rfl);rw[Au g];rw[Oj,Au f,Au c,Au g]at o;split at o;cases o;rfl;cases o);refine⟨r,?_⟩;intro is;induction is with|nil=>(intro ts d _ o;cases ts with|nil=>simp only[D0]at o;cases o;rfl|cons t ts=>simp only[D0]at o;cases o)|cons i is j=>intro ts d G o;cases ts with|nil=>simp only[D0]at o;cases o|cons t ts=>simp only[Ey]at G;rw[Rw]at o;cases u:Ej Δ i t with|none=>rw[u]at o;cases o|some a=>cases y:D0 Δ is ts with|none=>rw[u,y]at o;cases o|some b=>rw[u,y]at o;have o:a+b=d:=Fx o;rw[Aaq];show gv Δ i t noV*gvs Δ is ts []=_;rw[r i t a ω u,j ts b ω y,<-o];cases a<;>cases b<;>simp
theorem Be2(Δ:A0)(i:A3)(t:Ak)(w:Gy):∀n:Nat,C5 i<=n->Ej Δ i t=some 0->gv Δ i t w=1:=by(have all:∀n:Nat,(∀(i:A3)(t:Ak)(w:Gy),C5 i<=n->Ej Δ i t=some 0->gv Δ i t w=1)/\(∀(is:Bo)(ts:A1)(c:Λ Gy),Ey is<=n->D0 Δ is ts=some 0->gvs Δ is ts c=1):=by intro n;induction n with|zero=>refine⟨λi t w h=>by have:=Gr i;omega,λis ts c h _=>?_⟩;have:=Oi is;have:is=[]:=Fp.1 ω;subst this;exact Aju _ _ _|succ n ih=>(have o:∀(i:A3)(t:Ak)(w:Gy),C5 i<=n+1->Ej Δ i t=some 0->gv Δ i t w=1:=by intro i t w y e;have l:=Gr i;rw[Ox];by_cases g:t.G=6;rw[Ar g];exact ih.2 i.K t.R w.gk ω (Aal g e);rw[Au g];by_cases f:t.G=7;rw[Ar f,(Ajn f e).2,J2];rw[Au f];by_cases j:t.G=5;rw[Ar j,Xe];obtain⟨q,_⟩:=W6 Δ _ _ _ (Aam j e);have:i.K=[]:=Fp.1 ω;rw[this,map_nil,Aez];rw[Au j]);refine⟨o,?_⟩;intro is;induction is with|nil=>intro ts c _ _;exact Aju _ _ _|cons i is k=>intro ts c y e;cases ts with|nil=>simp only[D0]at e;cases e|cons t ts=>simp only[Ey]at y;rw[Rw]at e;cases r:Ej Δ i t with|none=>rw[r]at e;cases e|some a=>cases u:D0 Δ is ts with|none=>rw[r,u]at e;cases e|some b=>rw[r,u]at e;have e:a+b=0:=Fx e;have G:a=0:=ω;have H:b=0:=ω;subst G;subst H;rw[Aaq,o i t _ ω r,k ts _ ω u]);exactλn=>(all n).1 i t w
theorem Be3(h:∀f∈m.F,I64 f.v/\iR f.I/\C5 f.I<=1048576/\1<=Eh x.D x.V x.E f)(e:m.F.Pairwise λa b=>a.v<b.v)(g:W8 x.V x.E m.A)(c:D5 x m<=6):D2 x m:=by(have o:0<=Bq m.A:=by rw[(Xb λa e=>(g.2 a e).1).1];omega);unfold D5 at c;exact Azh (m:=⟨m.F,[]⟩) (Bep h e ω) g c
theorem Az2{Ξ:A1}{Θ:Ak}(f:Bm)(l:Bi):B8 Δ Ξ Θ (f::l)=Eh Δ Ξ Θ f+B8 Δ Ξ Θ l:=by unfold B8;simp
structure CK(cs:List Rat)(K:Nat):Prop where
 rb:∀N a,N<=100000000->H4 a->CbR cs N (rq a)->RB K a
 le:K<=10000000
structure BS(x:A9)(cs:List Rat)(K Z:Nat)(d:Int)(C:List (Ax×Nat))(n:Nat)(b:List Af):Prop where
 pis:PIS cs K C n b
 len:b.length<=C.length
 mo:∀q∈C,Ks x Z q.1/\D5 x q.1<=d/\1<=q.2
theorem BS.nil(x:A9)(cs:B0)(K Z:Nat)(d:Int):BS x cs K Z d [] 0 []:=⟨PIS.nil cs K,Nat.le_refl _,λq e=>by cases e⟩
theorem Ap1{w:α->Nat}(e:∀m,1<=w m)(C:Λ (α×Nat)):pv (λ_=>1) C<=pv w C:=Ajp λp _=>e p.1
theorem BS.add{cs:B0}{Z:Nat}{b:Ad}(hc:CK cs K)(h:BS x cs K Z d C n b)(G:∀m,1<=w m){c:Am}(k:RB (K+10) c)(hm:Ks x Z m)(hd:D5 x m<=d)(h1:1<=N)(l:CbR cs N (rq c))(I:pv w (C++[(m,N)])<=100000):∃f o,Jq n m c b=some (f,o)/\BS x cs K Z d (C++[(m,N)]) f o/\∀χ v,Db χ v (o.take f)=Db χ v (b.take n)+rq c*(mX χ v m:Rat):=by have y:=hc.le;(have r:∀q∈C++[(m,N)],1<=q.2:=λq e=>by simp only[Ea,Df]at e;rcases e with e|rfl;exact(h.mo q e).2.2;exact h1);have J:=Ap1 G (C++[(m,N)]);have H:=App r;have u:=h.len;rw[E5,length_singleton]at H;obtain⟨f,o,j,s,i,g⟩:=h.pis.plus k hm.1.2 l hc.rb ω ω ω;refine⟨f,o,j,⟨i,by rw[E5,length_singleton];omega,λq e=>?_⟩,g⟩;simp only[Ea,Df]at e;rcases e with e|rfl;exact h.mo q e;exact⟨hm,hd,h1⟩
theorem Be4{l:Λ α}{x:α}(h:l[k]?=some x):l=l.take k++x::l.drop (k+1):=by have e:=Dz h;rw[Bk e]at h;cases h;rw[List.getElem_cons_drop,take_append_drop]
structure Az3(x:A9)(Y:Nat)(v:Int)(t:Ak)(i:A3)(b:Nat):Prop where
 ty:Ez x.V x.E v=some t
 v64:I64 v
 ir:iR i
 sz:C5 i<=Y
 dg:Ej x.D i t=some b
 pos:1<=b
 le:b<=6
theorem Az3.deg{Y:Nat}{v:Int}{t:Ak}{i:A3}(h:Az3 x Y v t i b):Eh x.D x.V x.E ⟨v,i⟩=(b:Int):=by unfold Eh;rw[show(⟨v,i⟩:Bm).v=v from rfl,h.ty];show Hu (Ej x.D i t)=_;rw[h.dg];have:=h.le;unfold Hu;simp;omega
structure TS(x:A9)(cs:List Rat)(K Z:Nat)(d:Int)(C:List (Ax×Nat))(S:List Af):Prop where
 cp:CP S
 rb:∀t∈S,RB K t.C
 cmb:∀m,CbR cs (Iq C m) (cf S m)
 mo:∀q∈C,Ks x Z q.1/\D5 x q.1<=d/\1<=q.2
theorem BS.ts{cs:B0}{Z:Nat}{b:Ad}(h:BS x cs K Z d C n b):TS x cs K Z d C (b.take n):=⟨h.pis.base.cp,λt e=>(h.pis.base.tm t e).1,h.pis.cmb,h.mo⟩
theorem TS.mem{cs:B0}{Z:Nat}(h:TS x cs K Z d C S){t:Af}(e:t∈S):Ks x Z t.M/\D5 x t.M<=d/\1<=Iq C t.M/\CbR cs (Iq C t.M) (rq t.C):=by have h1:=h.cmb t.M;rw[L6 h.cp e]at h1;have h2:=h1.pos (h.cp.coe t e).2;obtain⟨q,c,b⟩:=Az0 h2;obtain⟨o,r,_⟩:=h.mo q c;rw[b]at o r;exact⟨o,r,h2,h1⟩
theorem TS.nodup{cs:B0}{Z:Nat}(h:TS x cs K Z d C S):(S.map (·.M)).Nodup:=by unfold Nodup;rw[pairwise_map];refine h.cp.srt.imp λ{a b} o e=>?_;unfold ltT at o;rw[Ho.2 e]at o;omega
theorem Az4(w:Ax->Nat)(A B:Ax->Nat):∀L:Λ Ax,pv w (L.map λm=>(m,A m+B m))=pv w (L.map λm=>(m,A m))+pv w (L.map λm=>(m,B m))
 |[]=>rfl
 |m::L=>by simp only[map_cons,pv,Az4 w A B L,Nat.add_mul];omega
open Classical in
theorem Be5(w:Ax->Nat):∀(C:Ei){L:Λ Ax},L.Nodup->pv w (L.map λm=>(m,Iq C m))<=pv w C:=by intro C;induction C with|nil=>intro L _;(have o:∀L:Λ Ax,pv w (L.map λm=>(m,Iq [] m))=0:=λL=>by induction L with|nil=>rfl|cons m L ih=>rw[map_cons,pv,ih];unfold Iq;simp[pv]);rw[o];exact Nat.zero_le _|cons q C ih=>intro L r;have e:(λm=>(m,Iq (q::C) m))=λm=>(m,q.2*(if q.1=m then 1 else 0)+Iq C m):=(by funext m;unfold Iq;rw[pv]);rw[e,Az4,pv];(have o:∀L:Λ Ax,q.1∉L->pv w (L.map λm=>(m,q.2*(if q.1=m then 1 else 0)))=0:=λL=>by induction L with|nil=>intro _;rfl|cons m L ih=>intro h;simp only[Ef,not_or]at h;rw[map_cons,pv,ih h.2];dsimp only;rw[Au h.1];simp);(have u:∀L:Λ Ax,L.Nodup->pv w (L.map λm=>(m,q.2*(if q.1=m then 1 else 0)))<=q.2*w q.1:=λL=>by induction L with|nil=>intro _;exact Nat.zero_le _|cons m L ih=>intro h;rw[List.nodup_cons]at h;rw[map_cons,pv];dsimp only;by_cases e:q.1=m;rw[Ar e,o L (by rw[e];exact h.1),Nat.mul_one,e];omega;rw[Au e,Nat.mul_zero,Nat.zero_mul,Nat.zero_add];exact ih h.2);have:=u L r;have:=ih r;omega
theorem TS.wle{cs:B0}{Z:Nat}(h:TS x cs K Z d C S)(w:Ax->Nat)(j:Nat):pv w ((S.take j).map λt=>(t.M,Iq C t.M))<=pv w C:=by have h1:=Be5 w C h.nodup;rw[map_map]at h1;(have e:S.map ((λm=>(m,Iq C m))∘λt=>t.M)=(S.take j).map (λt=>(t.M,Iq C t.M))++(S.drop j).map (λt=>(t.M,Iq C t.M)):=by rw[<-map_append,take_append_drop];rfl);rw[e,Lo]at h1;omega
theorem TS.len{cs:B0}{Z:Nat}(h:TS x cs K Z d C S)(e:∀m,1<=w m):S.length<=pv w C:=by have h1:=h.wle w S.length;rw[Dc]at h1;have h2:=Ap1 e (S.map λt=>(t.M,Iq C t.M));(have h3:(S.map λt=>(t.M,Iq C t.M)).length<=pv (λ_=>1) (S.map λt=>(t.M,Iq C t.M)):=App λp hp=>by obtain⟨t,o,rfl⟩:=mem_map.1 hp;exact(h.mem o).2.2.1);rw[Ki]at h3;omega
theorem Ap2(χ:Bm->Nat)(u:Ao->Nat)(p:Ad)(t:Af):Db χ u (p++[t])=Db χ u p+rq t.C*(mX χ u t.M:Rat):=by rw[Aao];simp only[Db,mX];grind
theorem Az5{o:Λ α}(h:n<=o.length):Jn o n=some (o.take n):=by unfold Jn;rw[Ar h]
def nF(x:A9)(g:Bm):Nat:=(Eh x.D x.V x.E g).toNat
def sF(x:A9)(F:Bi):Nat:=(F.map (nF x)).sum
theorem Be6{F:Bi}(h:∀f∈F,1<=Eh x.D x.V x.E f):B8 x.D x.V x.E F=(sF x F:Nat):=by induction F with|nil=>rfl|cons f F ih=>have o:=h f ψ;rw[Az2,ih λg e=>h g (by simp[e])];unfold sF nF;rw[map_cons,sum_cons];omega
theorem Az6{Z:Nat}(o:Ks x Z m){h c:A2}(j:(h++c).Sublist m.A)(H:∀a∈h,Dl a.L l<0)(I:∀a∈c,Dl l a.L<0){k:Int}(u:Cd l=true/\l.T.length≠0/\Ek x.V x.E l=true)(J:1<=k)(y:B8 x.D x.V x.E m.F+Bq (h++c)+k<=6):Ks x Z ⟨m.F,h++⟨l,k⟩::c⟩/\D5 x ⟨m.F,h++⟨l,k⟩::c⟩=B8 x.D x.V x.E m.F+Bq (h++c)+k:=by(have q:∀a∈h++⟨l,k⟩::c,a=⟨l,k⟩\/a∈m.A:=λa e=>by simp only[Ea,Ef]at e;rcases e with e|rfl|e;exact .inr (j.subset (by simp[e]));exact .inl rfl;exact .inr (j.subset (by simp[e])));(have G:D5 x ⟨m.F,h++⟨l,k⟩::c⟩=B8 x.D x.V x.E m.F+Bq (h++c)+k:=by show B8 x.D x.V x.E m.F+Bq (h++⟨l,k⟩::c)=_;unfold Bq;simp only[map_append,map_cons,sum_append,sum_cons];omega);have i:=Pairwise.sublist j o.1.f.srt;rw[pairwise_append]at i;refine⟨⟨Be3 (λf s=>⟨(o.1.2.fr f s).2,(o.1.2.fr f s).1,o.1.2.fi f s,o.1.f.fac f s⟩) o.1.f.asc ⟨?_,λa e=>?_⟩ (by rw[G];exact y),o.2⟩,G⟩;show(h++⟨l,k⟩::c).Pairwise _;rw[pairwise_append,pairwise_cons];refine⟨i.1,⟨λg T=>I g T,i.2.1⟩,λa e b r=>?_⟩;rcases Ef.1 r with rfl|r;exact H a e;exact i.2.2 a e b r;rcases q a e with rfl|e;exact⟨J,u.1,u.2.1,u.2.2⟩;exact o.1.f.atm a e
noncomputable def Ae5(s:Af)(i:Int)(h:Bc):Nat×Int×List Af->Cx:=λ(f,e,g)=>bif e<(h.length:Int)then((Tl s.M).bind λb=>(Ae b.2.2 i).bind λl=>(Ae h e).bind λk=>(Iv s.C k).bind λj=>(Jq f (Ax.mk b.2.1 (Ca b.2.2 i (A8.mk l.L e))) j g).bind λc=>some (.inl (c.1,Ac (e+1),c.2)))else(some (.inr (f,e,g)))
def Rp(a b d:Nat):Nat:=max 1 (Rc a b d)
theorem Be7:∀a,a<7->∀b,b<7->a+b<=6->pv (λ_=>1) ((range (a+b)).map λd=>(d,Rp a b (d+1)))<=3^(a+b):=by decide +kernel
theorem Be8:∀a,a<7->∀b,b<7->a+b<=6->∀d,d<7->Rc a b d<=729:=by decide +kernel
def tav(F:Bi)(f c:A2)(l:Ao)(a b N:Nat)(j:Nat):Ei:=(range j).map λd=>(⟨F,f++⟨l,((d+1:Nat):Int)⟩::c⟩,Rp a b (d+1)*N)
theorem Ap3(F:Bi)(f c:A2)(l:Ao)(a b N j:Nat):tav F f c l a b N (j+1)=tav F f c l a b N j++[(⟨F,f++⟨l,((j+1:Nat):Int)⟩::c⟩,Rp a b (j+1)*N)]:=by unfold tav;rw[range_succ,map_append];rfl
theorem Be9(F:Bi)(f c:A2)(l:Ao)(a b N:Nat){i:Nat}(h:i<=j):∃r,tav F f c l a b N j=tav F f c l a b N i++r:=by obtain⟨d,rfl⟩:∃d,j=i+d:=⟨j-i,ω⟩;clear h;induction d with|zero=>exact⟨[],ψ⟩|succ d ih=>obtain⟨r,g⟩:=ih;rw[show i+(d+1)=(i+d)+1 by omega,Ap3,g];exact⟨_,append_assoc ..⟩
theorem Bfa{cs:B0}{Z:Nat}(W:CK cs K)(hw:∀m,1<=w m){i f:A2}{g:A8}(U:s.M.A=i++g::f)(hm:Ep s.M)(B:RB K s.C)(Y:CbR cs N (rq s.C))(G:1<=N){a:Nat}(H:a+b<=6)(X:∀j,j<a+b->Ks x Z ⟨s.M.F,i++⟨g.L,((j+1:Nat):Int)⟩::f⟩/\D5 x ⟨s.M.F,i++⟨g.L,((j+1:Nat):Int)⟩::f⟩<=d){C0:Ei}{q:Nat}{l:Ad}(h:BS x cs K Z d C0 q l)(hb:pv w (C0++tav s.M.F i f g.L a b N (a+b))<=100000):∃n o,Ap (Ae5 s (i.length:Int) (Ls (a+b+1) (Rc a b))) (q,1,l)=some (n,((a+b+1:Nat):Int),o)/\BS x cs K Z d (C0++tav s.M.F i f g.L a b N (a+b)) n o/\∀χ v,Db χ v (o.take n)=Db χ v (l.take q)+rq s.C*(sm (a+b) (λj=>Rc a b (j+1)*mX χ v ⟨s.M.F,i++⟨g.L,((j+1:Nat):Int)⟩::f⟩):Nat):=by obtain⟨z,⟨n,o,rfl,M,L⟩,e⟩:=Un (step:=Ae5 s (i.length:Int) (Ls (a+b+1) (Rc a b))) (λj z=>∃n o,z=(n,((j+1:Nat):Int),o)/\BS x cs K Z d (C0++tav s.M.F i f g.L a b N j) n o/\∀χ v,Db χ v (o.take n)=Db χ v (l.take q)+rq s.C*(sm j (λj=>Rc a b (j+1)*mX χ v ⟨s.M.F,i++⟨g.L,((j+1:Nat):Int)⟩::f⟩):Nat)) (a+b) (λj z hj ⟨n,o,A,b1,b2⟩=>by subst A;obtain⟨S,R⟩:=X j hj;have V:=Be8 a ω b ω H (j+1) ω;have y:1<=Rp a b (j+1)/\Rc a b (j+1)<=Rp a b (j+1):=(by unfold Rp;omega);obtain⟨c,_,c2,c3,c4,T⟩:=R4 B (R5 (n:=Rc a b (j+1)) (k:=3) (J8 ω) δ) (by have:=W.le;omega) δ;rw[Ot]at T;have E:pv w ((C0++tav s.M.F i f g.L a b N j)++[(⟨s.M.F,i++⟨g.L,((j+1:Nat):Int)⟩::f⟩,Rp a b (j+1)*N)])<=100000:=(by obtain⟨r,B⟩:=Be9 s.M.F i f g.L a b N (show j+1<=a+b by omega);rw[B,Ap3,<-append_assoc,Lo,<-append_assoc]at hb;exact Nat.le_trans (Nat.le_add_right _ _) hb);obtain⟨I,o',e1,e2,e3⟩:=b1.add W hw (c:=c) (m:=⟨s.M.F,i++⟨g.L,((j+1:Nat):Int)⟩::f⟩) (N:=Rp a b (j+1)*N) (c3.mono ω) S R (Nat.mul_pos y.1 G) (by rw[T];exact(Y.smul (Rc a b (j+1))).mono (Nat.mul_le_mul_right _ y.2)) E;refine⟨(I,((j+1+1:Nat):Int),o'),?_,I,o',rfl,?_,λχ v=>?_⟩;unfold Ae5;have J:Ac (((j+1:Nat):Int)+1)=((j+1+1:Nat):Int):=ξ;have D:(i++g::f)[i.length]?=some g:=ψ;have u:Ca (i++g::f) (i.length:Int) (A8.mk g.L ((j+1:Nat):Int))=i++⟨g.L,((j+1:Nat):Int)⟩::f:=(by rw[F2 (n:=i.length) rfl];simp);dsimp only;rw[Nw,Al ω,Aj,Ae2 _ hm,Aa];dsimp only;rw[U,Bu rfl D,Aa,Bu rfl (Mx (Rc a b) (show j+1<a+b+1 by omega)),Aa,c2,Aa,u,e1,Aa,J];rw[Ap3,<-append_assoc];exact e2;rw[e3,b2,T,sm,Rat.natCast_add,Rat.natCast_mul];grind) (s0:=(q,1,l)) ⟨q,l,rfl,by simpa[tav]using h,λχ v=>by simp only[sm];grind⟩;refine⟨n,o,e.trans (Cs ?_),M,L⟩;unfold Ae5;dsimp only;rw[Nw,An ω,Ai]
noncomputable def Ae6(l:Ao)(k:Int)(S:Ad):Nat×Int×List Af->Id:=λ(o,e,j)=>
 bif e<(S.length:Int)then((Ae S e).bind λc=>bif((l.T.length:Int)==(0:Int))then((Hj l.Q).bind λM=>(V3 M k).bind λL=>(Iv c.C L).bind λH=>(Jq o c.M H j).bind λx=>some (.inl (x.1,Ac (e+1),x.2)))else((Ap (S:=Int) (E:=Int) (λg=>bif g<(c.M.A.length:Int)then((Ae c.M.A g).bind λJ=>(Je J.L l).bind λT=>bif T<(0:Int)then(some (.inl (Ac (g+1))))else(some (.inr g)))else(some (.inr g))) 0).bind λf=>(show OB from
 bif f<(c.M.A.length:Int)then((Ae c.M.A f).bind λU=>(Je U.L l).bind λI=>some (I==(0:Int)))else(some false)).bind λG=>bif G then((Ae c.M.A f).bind λD=>(Zh D.P k).bind λB=>(Ap (Ae5 c f B.1) (o,1,j)).bind λ(y,V,A)=>some (.inl (y,Ac (e+1),A)))else((Tl c.M).bind λs=>(Cg 40 s.2.2 [A8.mk (Ao.mk 0 []) 0]).bind λb=>(show Option (List A8)from
 (H6 b.length (Ac (f+1)) ((b.length:Nat):Int)).bind λr=>match r with
 |.inl i=>(
 (H5 b.length f ((b.length:Nat):Int)).bind λh=>(Lt b (0+i.1) (i.2-i.1) (0+h.1) (h.2-h.1)).bind λz=>some z)
 |.inr _=>(
 (H5 b.length f ((b.length:Nat):Int)).bind λW=>some b)).bind λu=>(Ae u f).bind λX=>(Jq o (Ax.mk s.2.1 (Ca u f (A8.mk l k))) c.C j).bind λq=>some (.inl (q.1,Ac (e+1),q.2)))))else(some (.inr (o,j)))
theorem Ap4(u:Ao->Nat)(c b:A2)(g:A8):E2 u (c++g::b)=E2 u (c++b)*bc (u g.L) g.P.toNat:=by rw[Ul,E2,Ul];ac_rfl
structure Ap5(x:A9)(l:Ao)(b:Nat):Prop where
 lin:Cd l=true/\l.T.length≠0/\Ek x.V x.E l=true
 pos:1<=b
 le:b<=6
structure AW(x:A9)(l:Ao)(b:Nat)(w w':Ax->Nat):Prop where
 one:∀m,1<=w' m
 put:∀m pre post,m.A=pre++post->D2 x m->(∀a∈pre,Dl a.L l<0)->(∀a∈post,Dl l a.L<0)->w' ⟨m.F,pre++⟨l,(b:Int)⟩::post⟩<=w m
 mul:∀m pre post g,m.A=pre++g::post->D2 x m->(∀a∈pre,Dl a.L l<0)->(∀a∈post,Dl l a.L<0)->g.L=l->∀j,w' ⟨m.F,pre++⟨l,j⟩::post⟩*3^(g.P.toNat+b)<=w m
theorem Bfb{cs:B0}{Z:Nat}(hc:CK cs K)(hi:Ap5 x l b)(hw:AW x l b w w')(hj:S[j]?=some s)(am:S.length<=1000000)(T:Ks x Z s.M)(hd:D5 x s.M<=d)(ap:d+b<=6)(hr:RB K s.C)(hN:CbR cs N (rq s.C))(a8:1<=N) :
  ∃V,pv w' V<=N*w s.M/\∀C0 R M,BS x cs K Z (d+b) C0 R M->pv w' (C0++V)<=100000->∃n o,Ae6 l (b:Int) S (R,(j:Int),M)=some (.inl (n,((j+1:Nat):Int),o))/\BS x cs K Z (d+b) (C0++V) n o/\∀χ u,Db χ u (o.take n)=Db χ u (M.take R)+rq s.C*((mX χ u s.M*bc (u l) b:Nat):Rat):=by
 have ak:=Dz hj
 have wj:Ac ((j:Int)+1)=((j+1:Nat):Int):=by rw[Ac,Bn]<;>omega
 have U:=Bu rfl hj
 have ar:=T.1.cmo.na
 have a7:=T.1.f.srt
 have G:∀a∈s.M.A,Je a.L l=some (Dl a.L l):=λa ha=>Z3 _ _ (by have:=T.1.2.al a ha;omega)
 have a1:((l.T.length:Int)==(0:Int))=false:=Ch (by have:=hi.lin.2.1;omega)
 obtain⟨k,_,k1,k2,k3,k4⟩:=Bes (step:=λI=>
 bif I<(s.M.A.length:Int)then((Ae s.M.A I).bind λab=>(Je ab.L l).bind λa4=>bif a4<(0:Int)then(some (.inl (Ac (I+1))))else(some (.inr I)))else(some (.inr I))) (n:=s.M.A.length) (stop:=λj=>∀f,s.M.A[j]?=some f->¬Dl f.L l<0) (λj hj X=>by
  have H:s.M.A[j]?=some (s.M.A[j]'hj):=Bk _
  generalize s.M.A[j]'hj=q at H
  have ad:Dl q.L l<0:=by
   by_cases e:Dl q.L l<0
   .exact e
   .exact (X λq' a2=>by rw[H]at a2;cases a2;exact e).elim
  have w1:Ac ((j:Int)+1)=((j+1:Nat):Int):=by rw[Ac,Bn]<;>omega
  simp only[Al (ω:(j:Int)<(s.M.A.length:Int)),Aj,Bu rfl H,Aa,G q (B2 H),Al ad,w1]) (λj hj X=>by
  have H:s.M.A[j]?=some (s.M.A[j]'hj):=Bk _
  generalize s.M.A[j]'hj=q at H
  simp only[Al (ω:(j:Int)<(s.M.A.length:Int)),Aj,Bu rfl H,Aa,G q (B2 H),An (X q H),Ai]) (by
  simp only[An (ω:¬(s.M.A.length:Int)<(s.M.A.length:Int)),Ai]) s.M.A.length 0 ω
 have E:∀g∈s.M.A.take k,Dl g.L l<0:=λg hg=>by
  obtain⟨n,r⟩:=Ff hg
  rw[getElem?_take]at r
  split at r
  .rename_i ag
   by_cases e:Dl g.L l<0
   .exact e
   .exact (k3 n ω ag λf hf=>by rw[r]at hf;cases hf;exact e).elim
  .cases r
 have hp:=pairwise_iff_getElem.1 a7
 have aq:=T.1.f.fsum0
 by_cases L:∃g,s.M.A[k]?=some g/\g.L=l
 .obtain⟨g,hg,A⟩:=L
  have z:=Dz hg
  have y:=Be4 hg
  have i:∀q∈s.M.A.drop (k+1),Dl l q.L<0:=λq hq=>by
   obtain⟨n,r⟩:=Ff hq
   rw[getElem?_drop]at r
   have h1:=Dz r
   have:=hp k (k+1+n) z h1 ω
   rw[Bk z]at hg
   rw[Bk h1]at r
   cases hg;cases r
   rw[<-A];exact this
  have a6:=B2 hg
  have ao:=(T.1.f.atm g a6).1
  have D:(s.M.A.take k++s.M.A.drop (k+1)).Sublist s.M.A:=by
   conv=>rhs;rw[y]
   exact List.Sublist.append (List.Sublist.refl _) (List.sublist_cons_self _ _)
  have aj:Bq s.M.A=Bq (s.M.A.take k++s.M.A.drop (k+1))+g.P:=by
   conv=>lhs;rw[y]
   unfold Bq
   simp only[map_append,map_cons,sum_append,sum_cons]
   omega
  have h0:0<=Bq (s.M.A.take k++s.M.A.drop (k+1)):=by rw[(Xb λa ha=>(T.1.f.atm a (D.subset ha)).1).1];omega
  have ac:D5 x s.M=B8 x.D x.V x.E s.M.F+Bq s.M.A:=rfl
  obtain⟨a,ha⟩:∃a:Nat,g.P=(a:Int):=⟨g.P.toNat,ω⟩
  have a0:a+b<=6:=ω
  have a3:=hi.pos
  have hW:∀j,j<a+b->Ks x Z ⟨s.M.F,s.M.A.take k++⟨g.L,((j+1:Nat):Int)⟩::s.M.A.drop (k+1)⟩/\D5 x ⟨s.M.F,s.M.A.take k++⟨g.L,((j+1:Nat):Int)⟩::s.M.A.drop (k+1)⟩<=d+b:=λj hj=>by
   obtain⟨c1,c2⟩:=Az6 T D (l:=g.L) (by rw[A];exact E) (by rw[A];exact i) (by rw[A];exact hi.lin) (k:=((j+1:Nat):Int)) ω ω
   exact⟨c1,by rw[c2];omega⟩
  have hP:=Bet a b a0
  refine⟨tav s.M.F (s.M.A.take k) (s.M.A.drop (k+1)) g.L a b N (a+b),?_,λC0 R M hB hb=>?_⟩
  .have J:=hw.mul s.M _ _ g y T.1 E i A
   have ai:g.P.toNat=a:=ω
   rw[ai]at J
   have e1:tav s.M.F (s.M.A.take k) (s.M.A.drop (k+1)) g.L a b N (a+b)=((range (a+b)).map λd=>(d,Rp a b (d+1))).map λp=>((λd:Nat=>(⟨s.M.F,s.M.A.take k++⟨g.L,((d+1:Nat):Int)⟩::s.M.A.drop (k+1)⟩:Ax)) p.1,p.2*N):=by
    unfold tav
    rw[map_map];rfl
   rw[e1,Azz w' (λd:Nat=>(⟨s.M.F,s.M.A.take k++⟨g.L,((d+1:Nat):Int)⟩::s.M.A.drop (k+1)⟩:Ax)) N]
   refine Nat.mul_le_mul_left N ?_
   have h3:=Be7 a ω b ω a0
   generalize((range (a+b)).map λd=>(d,Rp a b (d+1)))=W at h3
   have a5:3^(a+b)*pv (λd:Nat=>w' ⟨s.M.F,s.M.A.take k++⟨g.L,((d+1:Nat):Int)⟩::s.M.A.drop (k+1)⟩) W<=3^(a+b)*w s.M:=by
    rw[<-Ajo]
    have h1:pv (λd:Nat=>3^(a+b)*w' ⟨s.M.F,s.M.A.take k++⟨g.L,((d+1:Nat):Int)⟩::s.M.A.drop (k+1)⟩) W<=pv (λ_=>w s.M*1) W:=Ajp λp _=>by
     have:=J ((p.1+1:Nat):Int)
     rw[Nat.mul_one,Nat.mul_comm,A];exact this
    refine Nat.le_trans h1 ?_
    rw[Ajo,Nat.mul_comm]
    exact Nat.mul_le_mul_right _ h3
   exact Nat.le_of_mul_le_mul_left a5 (Nat.pow_pos δ)
  .obtain⟨n,o,l1,l2,l3⟩:=Bfa hc hw.one y T.1.2 hr hN a8 a0 hW hB hb
   have ah:(s.M.A.take k).length=k:=by rw[length_take];omega
   rw[ah]at l1
   refine⟨n,o,?_,l2,λχ u=>?_⟩
   .unfold Ae6
    dsimp only
    rw[Al ω,Aj,U,Aa,a1,Ai]
    refine Cp k2 ?_
    rw[Al ω,Aj,Bu rfl hg,Aa,G g a6,Aa,Eg ((G5.zero _ _ trivial trivial).2 A),Aa,Aj,Aa,ha,hP,Aa]
    refine Cp l1 ?_
    dsimp only
    rw[wj]
   .rw[l3]
    have e8:sm (a+b) (λj=>Rc a b (j+1)*mX χ u ⟨s.M.F,s.M.A.take k++⟨g.L,((j+1:Nat):Int)⟩::s.M.A.drop (k+1)⟩)=mX χ u s.M*bc (u l) b:=by
     have e7:∀j:Nat,mX χ u ⟨s.M.F,s.M.A.take k++⟨g.L,(j:Int)⟩::s.M.A.drop (k+1)⟩=(Iz (s.M.F.map χ)*E2 u (s.M.A.take k++s.M.A.drop (k+1)))*bc (u l) j:=λj=>by
      unfold mX
      dsimp only
      rw[Ap4,Int.toNat_natCast,A];ac_rfl
     have e6:mX χ u s.M=(Iz (s.M.F.map χ)*E2 u (s.M.A.take k++s.M.A.drop (k+1)))*bc (u l) a:=by
      unfold mX
      conv=>lhs;rw[y]
      rw[Ap4,ha,Int.toNat_natCast,A];ac_rfl
     have Y:=W5 (u l) a b (a+b+1) ω
     rw[Aix,Axn (show 0<a by omega),Nat.zero_mul,Nat.zero_add]at Y
     rw[e6,Nat.mul_assoc,<-Y]
     generalize Iz (s.M.F.map χ)*E2 u (s.M.A.take k++s.M.A.drop (k+1))=B at e7
     have X:∀n,sm n (λj=>Rc a b (j+1)*mX χ u ⟨s.M.F,s.M.A.take k++⟨g.L,((j+1:Nat):Int)⟩::s.M.A.drop (k+1)⟩)=B*sm n (λj=>Rc a b (j+1)*bc (u l) (j+1)):=λn=>by
      induction n with
      |zero=>rfl
      |succ n ih=>rw[sm,sm,ih,e7,Nat.mul_add];congr 1;ac_rfl
     exact X _
    rw[e8]
 .have y:s.M.A=s.M.A.take k++s.M.A.drop k:=(take_append_drop _ _).symm
  have i:∀q∈s.M.A.drop k,Dl l q.L<0:=λq hq=>by
   obtain⟨n,r⟩:=Ff hq
   rw[getElem?_drop]at r
   have h1:=Dz r
   have z:k<s.M.A.length:=ω
   have hg:s.M.A[k]?=some (s.M.A[k]'z):=Bk _
   have h2:=k4 z _ hg
   have h3:(s.M.A[k]'z).L≠l:=λe=>L ⟨_,hg,e⟩
   have h4:Dl l (s.M.A[k]'z).L<0:=by
    have e0:Dl (s.M.A[k]'z).L l≠0:=λe=>h3 ((G5.zero _ _ trivial trivial).1 e)
    rw[G5.anti _ _ trivial trivial]
    omega
   by_cases e:n=0
   .subst e
    rw[Nat.add_zero,hg]at r
    cases r
    exact h4
   .have:=hp k (k+n) z h1 ω
    rw[Bk h1]at r
    cases r
    exact G5.trans _ _ _ trivial trivial trivial h4 this
  have D:(s.M.A.take k++s.M.A.drop k).Sublist s.M.A:=by rw[<-y];exact List.Sublist.refl _
  have ac:D5 x s.M=B8 x.D x.V x.E s.M.F+Bq (s.M.A.take k++s.M.A.drop k):=by
   rw[<-y];rfl
  have a3:=hi.pos
  obtain⟨c1,c2⟩:=Az6 T D (l:=l) E i hi.lin (k:=(b:Int)) ω ω
  refine⟨[(⟨s.M.F,s.M.A.take k++⟨l,(b:Int)⟩::s.M.A.drop k⟩,N)],?_,λC0 R M hB hb=>?_⟩
  .simp only[pv,Nat.add_zero]
   exact Nat.mul_le_mul_left N (hw.put s.M _ _ y T.1 E i)
  .obtain⟨n,o,p1,p2,p3⟩:=hB.add hc hw.one (c:=s.C) (hr.mono ω) c1 (by rw[c2];omega) a8 hN hb
   obtain⟨q,q1,q2,q3⟩:=Ap0 s.M.A k ⟨⟨0,[]⟩,0⟩ ⟨l,(b:Int)⟩ k1 ω
   have af:(bif decide ((k:Int)<(s.M.A.length:Int))then(Ae s.M.A (k:Int)).bind λa9=>(Je a9.L l).bind λaa=>some (aa==(0:Int))else some false)=some false:=by
    by_cases h:k<s.M.A.length
    .have H:s.M.A[k]?=some (s.M.A[k]'h):=Bk _
     rw[Al (ω:(k:Int)<(s.M.A.length:Int)),Aj,Bu rfl H,Aa,G _ (B2 H),Aa,Ch λe=>L ⟨_,H,(G5.zero _ _ trivial trivial).1 e⟩]
    .rw[An ω];rfl
   have ae:q[k]?=some (q[k]' ω):=Bk _
   refine⟨n,o,?_,p2,λχ u=>?_⟩
   .unfold Ae6
    dsimp only
    rw[Al ω,Aj,U,Aa,a1,Ai]
    refine Cp k2 ?_
    refine Cp af ?_
    rw[Ai,Ae2 _ T.1.2,Aa]
    dsimp only
    rw[Dd (by rw[length_singleton];omega),Aa]
    refine Cp q1 ?_
    rw[Bu rfl ae,Aa,F2 (n:=k) rfl,q3,p1,Aa,wj]
   .rw[p3]
    have e6:mX χ u ⟨s.M.F,s.M.A.take k++⟨l,(b:Int)⟩::s.M.A.drop k⟩=mX χ u s.M*bc (u l) b:=by
     unfold mX
     dsimp only
     rw[Ap4,<-y,Int.toNat_natCast];ac_rfl
    rw[e6]
theorem Bfc{cs:B0}{Z:Nat}(U:CK cs K)(hi:Ap5 x l b)(W:AW x l b w w')(i:∀m,1<=w m)(h:TS x cs K Z d C S)(q:d+b<=6)(M:pv w C<=100000):∃y B,Kh S l (b:Int)=some y/\TS x cs K Z (d+b) B y/\pv w' B<=pv w C/\∀χ u,Db χ u y=Db χ u S*(bc (u l) b:Rat):=by have L:=h.len i;have H:=hi.pos;obtain⟨g,⟨n,o,C0,rfl,A,D,z⟩,e⟩:=Un (step:=Ae6 l (b:Int) S) (λj g=>∃n o C0,g=(n,(j:Int),o)/\BS x cs K Z (d+b) C0 n o/\pv w' C0<=pv w ((S.take j).map λt=>(t.M,Iq C t.M))/\∀χ u,Db χ u (o.take n)=Db χ u (S.take j)*(bc (u l) b:Rat)) S.length (λj g T ⟨n,o,C0,k,b1,b2,I⟩=>by subst k;have r:S[j]?=some (S[j]'T):=Bk _;generalize S[j]'T=s at r;have c:=B2 r;obtain⟨X,m2,m3,m4⟩:=h.mem c;obtain⟨V,J,v2⟩:=Bfb U hi W r ω X m2 q (h.rb s c) m4 m3;have f:pv w' (C0++V)<=pv w ((S.take (j+1)).map λt=>(t.M,Iq C t.M)):=(by rw[C4 r,map_append,Lo,Lo];simp only[map_cons,map_nil,pv,Nat.add_zero];omega);have G:=h.wle w (j+1);obtain⟨E,o',g1,g2,g3⟩:=v2 C0 n o b1 ω;refine⟨_,g1,E,o',C0++V,rfl,g2,f,λχ u=>?_⟩;rw[g3,I,C4 r,Ap2,Rat.natCast_mul];grind) (s0:=(0,0,[])) ⟨0,[],[],rfl,BS.nil _ _ _ _ _,by simp[pv],λχ u=>by show(0:Rat)=0*_;grind⟩;rw[Dc]at z;refine⟨o.take n,C0,?_,A.ts,Nat.le_trans D (h.wle w _),z⟩;unfold Kh;rw[Ch ω,Ai];refine Cp (e.trans (Cs (e:=(n,o)) ?_)) ?_;unfold Ae6;dsimp only;rw[An ω,Ai];dsimp only;rw[Az5 A.pis.base.le];rfl
def eA(p:Ao->Bool)(L:A2):Nat:=(L.map λa=>bif p a.L then a.P.toNat else 0).sum
def wA(p:Ao->Bool)(R:Nat)(m:Ax):Nat:=3^(eA p m.A+R)
def pGe(l b:Ao):Bool:=decide (¬Dl b l<0)
def pGt(l b:Ao):Bool:=decide (Dl l b<0)
theorem Ap6(p:Ao->Bool)(R:Nat)(m:Ax):1<=wA p R m:=Nat.pow_pos δ
theorem Ajv(p:Ao->Bool)(F G:A2):eA p (F++G)=eA p F+eA p G:=by unfold eA;simp
theorem Xf(p:Ao->Bool)(g:A8)(F:A2):eA p (g::F)=(bif p g.L then g.P.toNat else 0)+eA p F:=by unfold eA;simp
theorem Ap7(h:∀l,p l=true->q l=true)(F:A2):eA p F<=eA q F:=by induction F with|nil=>exact Nat.le_refl _|cons g F ih=>rw[Xf,Xf];cases e:p g.L;rw[Ai];omega;rw[Aj,h _ e,Aj];omega
theorem Bfd{F:A2}(h:∀g∈F,p g.L=false):eA p F=0:=by induction F with|nil=>rfl|cons g F ih=>rw[Xf,ih λq e=>h q (by simp[e]),h g ψ,Ai]
theorem Bfe(F:A2):eA (λ_=>true) F=Bz F:=by induction F with|nil=>rfl|cons g F ih=>rw[Xf,ih,Aj,Bz]
theorem Bff(h:∀l,p l=true->q l=true)(R:Nat)(m:Ax):wA p R m<=wA q R m:=by unfold wA;exact Nat.pow_le_pow_right δ (by have:=Ap7 h m.A;omega)
theorem Az7{a b:Ao}(h:Dl a b<0):¬Dl b a<0:=by rw[G5.anti a b trivial trivial];omega
theorem Az8{b:Ao}(h:pGt l b=true):pGe l b=true:=decide_eq_true (Az7 (of_decide_eq_true h))
theorem Bfg{b c:Ao}(h:Dl l b<0)(o:pGe b c=true):pGt l c=true:=by have r:¬Dl c b<0:=of_decide_eq_true o;refine decide_eq_true ?_;by_cases e:Dl c b=0;rw[(G5.zero _ _ trivial trivial).1 e];exact h;exact G5.trans _ _ _ trivial trivial trivial h (by rw[G5.anti c b trivial trivial];omega)
theorem Bfh(R:Nat):AW x l b (wA (pGe l) (R+b)) (wA (pGt l) R):=by have low:∀e:A2,(∀a∈e,Dl a.L l<0)->eA (pGt l) e=0:=λe h=>Bfd λg r=>decide_eq_false (Az7 (h g r));have c:pGt l l=false:=decide_eq_false (Pt.irr l);refine⟨λm=>Ap6 _ _ _,λm e o u _ y H=>?_,λm e o g u I y H r j=>?_⟩;unfold wA;refine Nat.pow_le_pow_right δ ?_;dsimp only;rw[u,Ajv,Ajv,Xf,low e y,c,Ai];have:=Ap7 (p:=pGt l) (q:=pGe l) (λf h=>Az8 h) o;omega;unfold wA;rw[<-Nat.pow_add];refine Nat.pow_le_pow_right δ ?_;dsimp only;have G:pGe l g.L=true:=decide_eq_true (by rw[r];exact Pt.irr l);rw[u,Ajv,Ajv,Xf,Xf,low e y,c,Ai,G,Aj];have:=Ap7 (p:=pGt l) (q:=pGe l) (λf h=>Az8 h) o;omega
noncomputable def Ajw(L:A2):List Af×Int->Ο ((List Af×Int)⊕List Af):=λ(c,b)=>bif b<(L.length:Int)then((Ae L b).bind λe=>(Kh c e.L e.P).bind λf=>some (.inl (f,Ac (b+1))))else(some (.inr c))
theorem Az9(L M:A2):Bz (L++M)=Bz L+Bz M:=by induction L with|nil=>simp[Bz]|cons a L ih=>rw[Es,Bz,Bz,ih];omega
theorem Bfi{cs:B0}{Z Y:Nat}(W:CK cs K)(r:Ks x Y m)(h:TS x cs K Z d C S)(a6:d+(Bz m.A:Nat)<=6){A:Nat}(hA:pv (wA (λ_=>true) (Bz m.A)) C<=A)(a7:A<=100000):∃c g,Ap (Ajw m.A) (S,0)=some c/\TS x cs K Z (d+(Bz m.A:Nat)) g c/\pv (λ_=>1) g<=A/\∀χ u,Db χ u c=Db χ u S*(E2 u m.A:Rat):=by have X:=r.1.cmo.na;have z:=pairwise_iff_getElem.1 r.1.f.srt;(have i:∀j,Bz m.A=Bz (m.A.take j)+Bz (m.A.drop j):=λj=>by rw[<-Az9,take_append_drop]);obtain⟨B,⟨c,g,p,rfl,L,q2,V,J⟩,e⟩:=Un (step:=Ajw m.A) (λj B=>∃c g p,B=(c,(j:Int))/\TS x cs K Z (d+(Bz (m.A.take j):Nat)) g c/\(∀a∈m.A.drop j,∀D,pGe a.L D=true->p D=true)/\pv (wA p (Bz (m.A.drop j))) g<=A/\∀χ u,Db χ u c=Db χ u S*(E2 u (m.A.take j):Rat)) m.A.length (λj B T ⟨c,g,p,k,b1,b2,b3,b4⟩=>by subst k;have H:m.A[j]?=some (m.A[j]'T):=Bk _;have E:∃f,m.A[j]'T=f:=⟨_,rfl⟩;obtain⟨f,l⟩:=E;rw[l]at H;have s:=B2 H;obtain⟨a1,a2,a3,a4⟩:=r.1.f.atm f s;obtain⟨b,hb⟩:∃b:Nat,f.P=(b:Int):=⟨f.P.toNat,ω⟩;have o:f.P.toNat=b:=ω;have y:m.A.drop j=f::m.A.drop (j+1):=(by rw[drop_eq_getElem_cons T,l]);have G:Bz (m.A.drop j)=b+Bz (m.A.drop (j+1)):=(by rw[y,Bz,o]);have k:Bz (m.A.take (j+1))=Bz (m.A.take j)+b:=(by rw[C4 H,Az9,Bz,o];rfl);have h1:=i j;have hi:Ap5 x f.L b:=⟨⟨a2,a3,a4⟩,ω,by have:=r.1.f.deg;have:=(r.1.cmo.al f s).2.2.2;omega⟩;have N:pv (wA (pGe f.L) (Bz (m.A.drop (j+1))+b)) g<=A:=(by refine Nat.le_trans (Ajp λq _=>?_) b3;have:=Bff (b2 f (by rw[y];simp)) (Bz (m.A.drop (j+1))+b) q.1;rw[G,Nat.add_comm b];exact this);obtain⟨R,C2,g1,g2,g3,g4⟩:=Bfc W hi (Bfh (Bz (m.A.drop (j+1)))) (λm=>Ap6 _ _ _) b1 ω ω;have U:Ac ((j:Int)+1)=((j+1:Nat):Int):=ξ;refine⟨(R,((j+1:Nat):Int)),?_,R,C2,pGt f.L,rfl,?_,λq hq D I=>?_,ω,λχ u=>?_⟩;unfold Ajw;dsimp only;rw[Al ω,Aj,Bu rfl H,Aa,hb,g1,Aa,U];rw[k];have:d+((Bz (m.A.take j)+b:Nat):Int)=d+(Bz (m.A.take j):Nat)+(b:Int):=ω;rw[this];exact g2;obtain⟨n,o⟩:=Ff hq;rw[getElem?_drop]at o;have M:=Dz o;have:=z j (j+1+n) T M ω;rw[Bk M]at o;cases o;rw[l]at this;exact Bfg this I;have:E2 u (m.A.take (j+1))=E2 u (m.A.take j)*bc (u f.L) b:=(by rw[C4 H,Ul,E2,E2,Nat.mul_one,o]);rw[g4,b4,this,Rat.natCast_mul,Rat.mul_assoc]) (s0:=(S,0)) ⟨S,C,λ_=>true,rfl,by simpa[Bz]using h,λ_ _ _ _=>rfl,by simpa using hA,λχ u=>by simp only[take_zero,E2];grind⟩;rw[Dc]at L J;refine⟨c,g,e.trans (Cs ?_),L,Nat.le_trans (Ap1 (λm=>Ap6 _ _ _) g) V,J⟩;unfold Ajw;dsimp only;rw[An ω,Ai]
theorem Ap8{m:Ax}:∀{p:Ad},(∀t∈p,t.M≠m)->cf p m=0
 |[],_=>rfl
 |t::p,h=>by rw[Nv,Ap8 λu o=>h u (by simp[o]),Au λe=>h t ψ e];grind
theorem Ks.mono{Z:Nat}(h:Ks x Z m)(g:Z<=b):Ks x b m:=⟨h.1,λf c=>Nat.le_trans (h.2 f c) g⟩
theorem A0a(h:D2 x m):D5 x m=((sF x m.F+Bz m.A:Nat):Int):=by unfold D5;rw[Be6 h.f.fac,h.f.as.1];omega
noncomputable def dgF(x:A9)(F:Bi):Int×Int->D7:=λ(o,b)=>bif b<(F.length:Int)then((Ae F b).bind λc=>(S4 x c.v).bind λf=>(show OB from bif(!f.2)then(some true)else(bif b>(0:Int)then((Ae F (Ac (b-1))).bind λh=>some (decide (h.v>=c.v)))else(some false))).bind λg=>bif g then(some (.inr (.inl (-1))))else((Vj x.D f.1 c.I).bind λe=>bif e<(1:Int)then(some (.inr (.inl (-1))))else(some (.inl (Ac (o+e),Ac (b+1))))))else(some (.inr (.inr o)))
noncomputable def dgA(x:A9)(L:A2):Int×Int->D7:=λ(o,h)=>bif h<(L.length:Int)then((Ae L h).bind λe=>(Lh e.L).bind λr=>bif(!r)then(some (.inr (.inl (-1))))else(bif((e.L.T.length:Int)==(0:Int))then(some (.inr (.inl (-1))))else((Rl x e.L).bind λc=>bif(!c)then(some (.inr (.inl (-1))))else(bif h>(0:Int)then((Ae L (Ac (h-1))).bind λb=>(Je b.L e.L).bind λu=>bif u>=(0:Int)then(some (.inr (.inl (-1))))else(bif e.P<(1:Int)then(some (.inr (.inl (-1))))else(bif e.P>(6:Int)then(some (.inr (.inl (-1))))else(some (.inl (Ac (o+e.P),Ac (h+1)))))))else(bif e.P<(1:Int)then(some (.inr (.inl (-1))))else(bif e.P>(6:Int)then(some (.inr (.inl (-1))))else(some (.inl (Ac (o+e.P),Ac (h+1))))))))))else(some (.inr (.inr o)))
theorem Bfj(W:Ms x.D x.V x.E)(h:D2 x m):Pa x m=some (D5 x m):=by have U:=h.cmo.nf;have V:=h.cmo.na;have u:=pairwise_iff_getElem.1 h.f.asc;have y:=pairwise_iff_getElem.1 h.f.srt;have J:=h.f.deg;(have B:∀j,0<=B8 x.D x.V x.E (m.F.take j)/\B8 x.D x.V x.E (m.F.take j)<=B8 x.D x.V x.E m.F:=λj=>by have h1:=Ajs (Δ:=x.D) (Ξ:=x.V) (Θ:=x.E) (l:=m.F.take j) λf G=>h.f.fac f (mem_of_mem_take G);have h2:=Ajs (Δ:=x.D) (Ξ:=x.V) (Θ:=x.E) (l:=m.F.drop j) λf G=>h.f.fac f (mem_of_mem_drop G);have h3:=Aps (Δ:=x.D) (Ξ:=x.V) (Θ:=x.E) (m.F.take j) (m.F.drop j);rw[take_append_drop]at h3;omega);(have L:∀j,0<=Bq (m.A.take j)/\Bq (m.A.take j)<=Bq m.A:=λj=>by have h1:=(Xb (l:=m.A.take j) λa ha=>(h.f.atm a (mem_of_mem_take ha)).1).1;have h2:=(Xb (l:=m.A.drop j) λa ha=>(h.f.atm a (mem_of_mem_drop ha)).1).1;(have h3:Bq m.A=Bq (m.A.take j)+Bq (m.A.drop j):=by unfold Bq;rw[<-sum_append,<-map_append,take_append_drop]);omega);unfold D5 at J⊢;(have S:Ap (dgF x m.F) (0,0)=some (.inr (B8 x.D x.V x.E m.F)):=by obtain⟨i,rfl,e⟩:=Un (step:=dgF x m.F) (λj i=>i=(B8 x.D x.V x.E (m.F.take j),(j:Int))) m.F.length (λj i r q=>by subst q;have o:m.F[j]?=some (m.F[j]'r):=Bk _;have k:∃f,m.F[j]'r=f:=⟨_,rfl⟩;obtain⟨f,g⟩:=k;rw[g]at o;have c:=B2 o;obtain⟨t,b,N,Y,Z,e4,X⟩:=Azr (h.f.fac f c);(have E:B8 x.D x.V x.E (m.F.take (j+1))=B8 x.D x.V x.E (m.F.take j)+(b:Int):=by rw[C4 o,Aps,Az2,X];have:B8 x.D x.V x.E []=0:=rfl;omega);have b1:=B j;have b2:=B (j+1);have H:=L 0;(have A:Ac (B8 x.D x.V x.E (m.F.take j)+(b:Int))=B8 x.D x.V x.E (m.F.take (j+1)):=by rw[E,Ac,Bn]<;>omega);(have z:Ac ((j:Int)+1)=((j+1:Nat):Int):=by rw[Ac,Bn]<;>omega);(have s:(show OB from bif(!(true:Bool))then some true else(bif(j:Int)>(0:Int)then((Ae m.F (Ac ((j:Int)-1))).bind λD=>some (decide (D.v>=f.v)))else some false))=some false:=by by_cases H:j=0;subst H;rfl;(have e:Ac ((j:Int)-1)=((j-1:Nat):Int):=by rw[Ac,Bn]<;>omega);have T:m.F[j-1]?=some m.F[j-1]:=Bk ω;have:=u (j-1) j ω r ω;rw[g]at this;show(bif(j:Int)>(0:Int)then _ else _)=_;rw[Al ω,Aj,e,Bu rfl T,Aa,An ω]);refine⟨_,?_,rfl⟩;unfold dgF;dsimp only;rw[Al ω,Aj,Bu rfl o,Aa,Ank,N,Aa];refine Cp s ?_;(have I:Hu (some b)=(b:Int):=by unfold Hu;simp;omega);rw[Ai,Au4 W.vd W.sh t f.I (W.sz _ _ N) (h.2.fi f c),Y,Aa,I,An ω,Ai,A,z]) (s0:=(0,0)) rfl;rw[Dc]at e;refine e.trans (Cs ?_);unfold dgF;dsimp only;rw[An ω,Ai]);(have R:Ap (dgA x m.A) (B8 x.D x.V x.E m.F,0)=some (.inr (B8 x.D x.V x.E m.F+Bq m.A)):=by obtain⟨i,rfl,e⟩:=Un (step:=dgA x m.A) (λj i=>i=(B8 x.D x.V x.E m.F+Bq (m.A.take j),(j:Int))) m.A.length (λj i r q=>by subst q;have o:m.A[j]?=some (m.A[j]'r):=Bk _;have k:∃f,m.A[j]'r=f:=⟨_,rfl⟩;obtain⟨f,g⟩:=k;rw[g]at o;have c:=B2 o;obtain⟨a1,a2,a3,a4⟩:=h.f.atm f c;have a6:=(h.cmo.al f c).2.2.2;(have E:Bq (m.A.take (j+1))=Bq (m.A.take j)+f.P:=by rw[C4 o];unfold Bq;rw[map_append,sum_append];simp);have b1:=L j;have b2:=L (j+1);have H:=B 0;have M:=B m.F.length;rw[Dc]at M;(have A:Ac (B8 x.D x.V x.E m.F+Bq (m.A.take j)+f.P)=B8 x.D x.V x.E m.F+Bq (m.A.take (j+1)):=by rw[E,Ac,Bn]<;>omega);(have z:Ac ((j:Int)+1)=((j+1:Nat):Int):=by rw[Ac,Bn]<;>omega);refine⟨_,?_,rfl⟩;unfold dgA;dsimp only;rw[Al ω,Aj,Bu rfl o,Aa,Pm,a2,Aa,Dj,Ai,Ch ω,Ai,Ah7 x f.L (h.2.al f c),a4,Aa,Dj,Ai];by_cases H:j=0;subst H;rw[An ω,Ai,An ω,Ai,An ω,Ai,A,z];(have e:Ac ((j:Int)-1)=((j-1:Nat):Int):=by rw[Ac,Bn]<;>omega);have T:m.A[j-1]?=some m.A[j-1]:=Bk ω;have:=y (j-1) j ω r ω;rw[g]at this;rw[Al ω,Aj,e,Bu rfl T,Aa,Z3 _ _ (by have:=h.2.al _ (B2 T);omega),Aa,An ω,Ai,An ω,Ai,An ω,Ai,A,z]) (s0:=(B8 x.D x.V x.E m.F,0)) (by show _=(_+Bq [],_);have:Bq []=0:=rfl;rw[this,Int.add_zero];rfl);rw[Dc]at e;refine e.trans (Cs ?_);unfold dgA;dsimp only;rw[An ω,Ai]);unfold Pa;refine Cp S ?_;dsimp only;refine Cp R ?_;dsimp only;rw[An ω,Ai]
theorem A0b(J:Ms x.D x.V x.E){p:Ad}(h:∀t∈p,D2 x t.M)(D:p.length<=1000):∃T,Mk x p=some T/\0<=T/\T<=6/\(∀t∈p,D5 x t.M<=T)/\(T=0\/∃t∈p,D5 x t.M=T):=by obtain⟨i,⟨T,rfl,A,z,q,l⟩,e⟩:=Un (step:=λ(G,g)=>bif g<(p.length:Int)then((Ae p g).bind λy=>(Pa x y.M).bind λH=>some (.inl ((if H>G then H else G),Ac (g+1))))else(some (.inr G))) (λj i=>∃T:Int,i=(T,(j:Int))/\0<=T/\T<=6/\(∀t∈p.take j,D5 x t.M<=T)/\(T=0\/∃t∈p.take j,D5 x t.M=T)) p.length (λj i I ⟨T,k,b1,V,B,c⟩=>by subst k;have r:p[j]?=some (p[j]'I):=Bk _;generalize p[j]'I=t at r;have b:=h t (B2 r);have W:=Ajl b;have E:=b.f.deg;(have s:Ac ((j:Int)+1)=((j+1:Nat):Int):=by rw[Ac,Bn]<;>omega);refine⟨((if D5 x t.M>T then D5 x t.M else T),((j+1:Nat):Int)),?_,_,rfl,?_,?_,λu o=>?_,?_⟩;simp only[Al (ω:(j:Int)<(p.length:Int)),Aj,Bu rfl r,Aa,Bfj J b,s];split<;>omega;split<;>omega;rw[C4 r,Ea,Df]at o;rcases o with o|rfl;have:=B u o;split<;>omega;split<;>omega;rw[C4 r];by_cases e:D5 x t.M>T;rw[Ar e];exact .inr ⟨t,ψ,rfl⟩;rw[Au e];rcases c with c|⟨u,o,c⟩;exact .inl c;exact .inr ⟨u,by simp[o],c⟩) (s0:=(0,0)) ⟨0,rfl,δ,δ,λt U=>by simp at U,.inl rfl⟩;rw[Dc]at q l;refine⟨T,?_,A,z,q,l⟩;unfold Mk;refine Cp (e.trans (Cs (e:=T) ?_)) rfl;simp only[An (ω:¬(p.length:Int)<(p.length:Int)),Ai]
open Classical in
theorem Bfk{K y:Nat}{n:Nat}{b:Ad}(h:PSt K n b){m:Ax}{c:Am}(X:RB y c)(hm:Ep m)(hK:K+y+3<30000000000)(hb:b.length<=100000){Q:Ax->Prop}(hQ:∀t∈b.take n,Q t.M)(G:Q m):∃r o,Jq n m c b=some (r,o)/\o.length<=b.length+1/\PSt (K+y+3) r o/\(∀t∈o.take r,Q t.M)/\∀χ v,Db χ v (o.take r)=Db χ v (b.take n)+rq c*(mX χ v m:Rat):=by obtain⟨r,o,h1,h2,H,T⟩:=R6 h X hm hK hb;refine⟨r,o,h1,h2,H,λt U=>?_,λχ v=>?_⟩;by_cases e:m=t.M;rw[<-e];exact G;have I:=T t.M;rw[Au e,L6 H.cp U]at I;by_cases V:∃u∈b.take n,u.M=t.M;obtain⟨u,J,e3⟩:=V;rw[<-e3];exact hQ u J;rw[Ap8 λu J h=>V ⟨u,J,h⟩]at I;exact((H.cp.coe t U).2 (by rw[I];grind)).elim;rw[Apx (p:=b.take n++[⟨c,m⟩]) (q:=o.take r) λW=>?_,Aao];simp only[Db,mX];grind;rw[T,Mv];congr 1;show _=(if Du m W=0 then rq c else 0)+0;by_cases e:m=W;rw[Ar e,Ar (Ho.2 e)];grind;rw[Au e,Au λh=>e (Ho.1 h)];grind
noncomputable def Ae7(S:Ad)(c:Am):Nat×Int×List Af->Cx:=λ(h,e,f)=>bif e<(S.length:Int)then((Ae S e).bind λo=>(Iv o.C c).bind λr=>(Jq h o.M r f).bind λb=>some (.inl (b.1,Ac (e+1),b.2)))else(some (.inr (h,e,f)))
theorem Bfl{l G:Nat}(hG:k+l+5<=G)(M:73000*G<30000000000){Q:Ax->Prop}(E:∀t∈S,RB k t.C/\Ep t.M/\Q t.M)(hk:k<=10000000)(Y:l<=10000000){c:Am}(hc:RB l c){f:Nat}{b:Ad}(h:PSt (N*G) f b)(Z:b.length<=N)(J:N+S.length<=72900)(I:∀t∈b.take f,Q t.M):∃n o,Ap (Ae7 S c) (f,0,b)=some (n,(S.length:Int),o)/\PSt ((N+S.length)*G) n o/\o.length<=N+S.length/\(∀t∈o.take n,Q t.M)/\∀χ v,Db χ v (o.take n)=Db χ v (b.take f)+Db χ v S*rq c:=by obtain⟨i,⟨n,o,rfl,D,B,A,s⟩,e⟩:=Un (step:=Ae7 S c) (λj i=>∃n o,i=(n,(j:Int),o)/\PSt ((N+j)*G) n o/\o.length<=N+j/\(∀t∈o.take n,Q t.M)/\∀χ v,Db χ v (o.take n)=Db χ v (b.take f)+Db χ v (S.take j)*rq c) S.length (λj i H ⟨n,o,q,b1,b2,X,V⟩=>by subst q;have r:S[j]?=some (S[j]'H):=Bk _;generalize S[j]'H=t at r;obtain⟨t1,t2,t3⟩:=E t (B2 r);obtain⟨z,_,z2,z3,z4,z5⟩:=R4 t1 hc ω ω;have L:(N+j)*G+G<=73000*G:=(by rw[<-Nat.succ_mul];exact Nat.mul_le_mul_right _ ω);obtain⟨x,T,U,e2,g,e4,R⟩:=Bfk b1 z3 t2 ω ω X t3;have y:Ac ((j:Int)+1)=((j+1:Nat):Int):=ξ;refine⟨(x,((j+1:Nat):Int),T),?_,x,T,rfl,?_,ω,e4,λχ v=>?_⟩;unfold Ae7;dsimp only;rw[Al ω,Aj,Bu rfl r,Aa,z2,Aa,U,Aa,y];refine⟨g.le,g.cp,λu W=>⟨((g.tm u W).1).mono ?_,(g.tm u W).2⟩⟩;have:(N+(j+1))*G=(N+j)*G+G:=(by rw[show N+(j+1)=(N+j)+1 by omega,Nat.succ_mul]);omega;rw[R,V,z5,C4 r,Ap2];grind) (s0:=(f,0,b)) ⟨f,b,rfl,by simpa using h,ω,I,λχ v=>by show _=_+0*_;grind⟩;rw[Dc]at s;refine⟨n,o,e.trans (Cs ?_),D,B,A,s⟩;unfold Ae7;dsimp only;rw[An ω,Ai]
end Go.Ab
