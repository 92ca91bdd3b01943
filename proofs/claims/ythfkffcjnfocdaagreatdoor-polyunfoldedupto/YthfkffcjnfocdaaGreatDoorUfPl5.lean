/- Plain laws. -/
import Derived.Test.YthfkffcjnfocdaaGreatDoorUfPl4
import Derived.Test.YthfkffcjnfocdaaGreatDoorUfPl3
open List
namespace Go.Ab
open Go
variable{χ:A8->Nat}{Θ t:Ad}{i j:Ag}{u:Aj}{a:Bh}{x:Bx}{v:Int}{M R:A2}{b1:Af}{b2:At}{F l m:Bf}{Ξ:Au}{b g:A0}{Δ:Ap}{ts:A1}{A L:A7}{B:Λ F2}{D' K N S S' d k n:Nat}{α:Type}
def KM:Nat:=400000
theorem A08{α:Type}(f:α->Nat)(c:Nat):∀L:Λ (α×Nat),pv f (L.map λp=>(p.1,p.2*c))=c*pv f L
 |[]=>rfl
 |p::L=>by rw[map_cons,pv,A08 f c L,pv,Nat.mul_add];have:p.2*c*f p.1=c*(p.2*f p.1):=(by ac_rfl);show p.2*c*f p.1+_=_;omega
theorem Bgm(f:α->Nat){A B:Λ (α×Nat)}(h:A.Perm B):pv f A=pv f B:=by induction h with|nil=>rfl|cons x _ ih=>simp only[pv,ih]|swap x y l=>simp only[pv];omega|trans _ _ e o=>rw[e,o]
def pv2(Δ:Ap)(t:Ad)(f:Ag->Nat)(P Q:A2):Nat:=pv (λa=>pv (λb=>pv f (Eu Δ KM t a b)) Q) P
theorem Akk(f:α->Nat){L:Λ (α×Nat)}{j:Nat}{x:α×Nat}(h:L[j]?=some x):pv f (L.take (j+1))=pv f (L.take j)+x.2*f x.1:=by rw[Cu h,Li];simp only[pv];omega
theorem A09(f:α->Nat)(L:Λ (α×Nat))(j:Nat):pv f (L.take j)<=pv f L:=by have:=Li f (L.take j) (L.drop j);rw[take_append_drop]at this;omega
theorem Akl{f g:α->Nat}{L:Λ (α×Nat)}(h:∀p∈L,f p.1<=g p.1):pv f L<=pv g L:=Bft h
noncomputable def Ae4(Δ:Ap)(t:Ad)(v:As)(q:Bv):Int×List (Β×Int)×List As->Ο ((Int×List (Β×Int)×List As)⊕(Int×List (Β×Int)×List As)):=λ(b,j,g)=>bif b<(q.length:Int)then((Ah q b).bind λf=>(Pq (4000000) Δ t v.I f.I).bind λi=>(Fz v.C f.C).bind λh=>(Wm i h).bind λe=>(Ud e j g Δ t.G t.U t.R).bind λc=>some (.inl (Ac (b+1),c.1,c.2)))else(some (.inr (b,j,g)))
theorem Bgn(hz:DSz Δ)(hv:Hj Δ)(hg:Fc Δ t=true){D:Nat}(hS:S+S'<=400000)(hD:D+D'<=6){v:Ag×Nat}(B:GI Δ t S D v.1)(E:v.2<F1)(G:1<=v.2){Q:A2}(N:Cw (GI Δ t S' D') Q)(a7:Q.length<=1000)(a8:pv (λ_=>1) Q<F1){g:A2}(J:Cw (GI Δ t (S+S') (D+D')) g)(X:g.length<=900000000)(hb:pv (λ_=>1) g+729*(v.2*pv (λ_=>1) Q)<F1):∃u,Ak (Ae4 Δ t (Bc v) (Q.map Bc)) (0,pls g,g.map Bc)=some ((Q.length:Int),pls u,u.map Bc)/\Cw (GI Δ t (S+S') (D+D')) u/\u.length<=g.length+729*Q.length/\∀f:Ag->Nat,pv f u=pv f g+v.2*pv (λb=>pv f (Eu Δ KM t v.1 b)) Q:=by(have y:(((Q.map Bc).length:Nat):Int)=(Q.length:Int):=by rw[Cp]);obtain⟨e,e1,u,rfl,e2,e3,e4⟩:=J6 (step:=Ae4 Δ t (Bc v) (Q.map Bc)) (λ(s:Int×List (Β×Int)×List As)=>∃(j:Nat)(u:A2),s=((j:Int),pls u,u.map Bc)/\j<=Q.length/\Cw (GI Δ t (S+S') (D+D')) u/\u.length<=g.length+729*j/\∀f:Ag->Nat,pv f u=pv f g+v.2*pv (λb=>pv f (Eu Δ KM t v.1 b)) (Q.take j)) (λs=>Q.length-s.1.toNat) (λe=>∃u,e=((Q.length:Int),pls u,u.map Bc)/\Cw (GI Δ t (S+S') (D+D')) u/\u.length<=g.length+729*Q.length/\∀f:Ag->Nat,pv f u=pv f g+v.2*pv (λb=>pv f (Eu Δ KM t v.1 b)) Q) (by rintro _ ⟨j,u,rfl,hj,hu,I,k⟩;rcases Co j Q.length with h|h;left;have o:Q[j]?=some Q[j]:=Bl h;generalize Q[j]=w at o;have H:=Bu o;obtain⟨w1,V,R,U,w4⟩:=N.mo w H;have wp:=N.pos w H;have wb:=Rq H;obtain⟨v1,W,dv,v3,v4⟩:=B;have A:(Q.map Bc)[j]?=some (Bc w):=(by rw[getElem?_map,o];rfl);have x:Pq 4000000 Δ t (Bc v).I (Bc w).I=some ((Eu Δ KM t v.1 w.1).map Bc):=Bf8 hv.szv hz.sz.short KM t v.1 w.1 4000000 dv R (by unfold KM;omega) (by unfold KM;omega) v3 U ω (by have:=hg;simp only[Fc,C5,D2]at this;exact this.2) W V;obtain⟨r,g2⟩:=S6 Δ KM t v.1 w.1 dv R (by unfold KM;omega) v3 U ω W V;have Z:=Vb (show dv+R<=6 by omega);have Y:(Eu Δ KM t v.1 w.1).length<=729:=(by have:=N4 λp hp=>(r p hp).pos;omega);have M:Fz (Bc v).C (Bc w).C=some (cR (v.2*w.2)):=Np.mul (Np.c E) (Np.c ω);have a6:v.2*w.2<=v.2*pv (λ_=>1) Q:=Nat.mul_le_mul_left _ wb;have L:Wm ((Eu Δ KM t v.1 w.1).map Bc) (cR (v.2*w.2))=some (((Eu Δ KM t v.1 w.1).map λp=>(p.1,p.2*(v.2*w.2))).map Bc):=Bgl (λp hp=>by have:=Rq hp;have:(1000:Nat)<F1:=(by unfold F1;decide);omega) ω ω;have l:∀f:Ag->Nat,pv f ((Eu Δ KM t v.1 w.1).map λp=>(p.1,p.2*(v.2*w.2)))=v.2*w.2*pv f (Eu Δ KM t v.1 w.1):=λf=>A08 f _ _;have z:pv (λ_=>1) u+pv (λ_=>1) ((Eu Δ KM t v.1 w.1).map λp=>(p.1,p.2*(v.2*w.2)))<F1:=(by rw[l,k];have k0:pv (λb=>pv (λ_=>1) (Eu Δ KM t v.1 b)) (Q.take (j+1))<=729*pv (λ_=>1) Q:=(by refine Nat.le_trans (A09 _ Q (j+1)) ?_;rw[<-Qb];refine Akl λp hp=>?_;obtain⟨p1,p2,dp,p3,p4⟩:=N.mo p hp;have:=(S6 Δ KM t v.1 p.1 dv dp (by unfold KM;omega) v3 p3 ω W p2).2;have:=Vb (show dv+dp<=6 by omega);omega);have k1:=Akk (λb=>pv (λ_=>1) (Eu Δ KM t v.1 b)) o;have k2:=Nat.mul_le_mul_left v.2 k0;rw[k1,Nat.mul_add]at k2;have k3:v.2*(729*pv (λ_=>1) Q)=729*(v.2*pv (λ_=>1) Q):=(by ac_rfl);have k4:v.2*(w.2*pv (λ_=>1) (Eu Δ KM t v.1 w.1))=v.2*w.2*pv (λ_=>1) (Eu Δ KM t v.1 w.1):=(by ac_rfl);omega);obtain⟨T,a1,a2,a3,a4⟩:=A00 (P:=GI Δ t (S+S') (D+D')) (λi h=>⟨by have:=h.1;omega,h.2.1⟩) ((Eu Δ KM t v.1 w.1).map λp=>(p.1,p.2*(v.2*w.2))) u hu (λp hp=>by obtain⟨q,C,rfl⟩:=mem_map.1 hp;obtain⟨d,d1,d2⟩:=(r q C).deg;refine⟨⟨by have:=(r q C).siz;show Bt q.1<=_;omega,(r q C).num,d,d1,ω⟩,?_⟩;exact Nat.mul_pos (r q C).pos (Nat.mul_pos G wp)) z (by rw[Cp];omega) Δ t.G t.U t.R;refine⟨((j+1:Nat),pls T,T.map Bc),?_,⟨j+1,T,rfl,ω,a2,by rw[Cp]at a3;omega,λf=>?_⟩,ζ⟩;unfold Ae4;simp only[y,Av (ω:(j:Int)<(Q.length:Int)),Al,Br rfl A,Ae,x,M,L,a1,Db h ω];rw[a4,k,l,Akk _ o,Nat.mul_add];have:v.2*(w.2*pv f (Eu Δ KM t v.1 w.1))=v.2*w.2*pv f (Eu Δ KM t v.1 w.1):=(by ac_rfl);omega;right;have:j=Q.length:=ω;subst this;rw[C6]at k;exact⟨_,by unfold Ae4;simp only[y,A6 (ω:¬(Q.length:Int)<(Q.length:Int)),An],u,rfl,hu,I,k⟩) (0,pls g,g.map Bc) ⟨0,g,rfl,ω,J,ω,λf=>by rw[take_zero];show _=_+v.2*0;omega⟩;exact⟨u,e1,e2,e3,e4⟩
theorem A1a:(729:Nat)<F1:=by unfold F1;decide
noncomputable def Ae5(Δ:Ap)(t:Ad)(p q:Bv):Int×List (Β×Int)×List As->Ο ((Int×List (Β×Int)×List As)⊕(List (Β×Int)×List As)):=λ(e,c,b)=>bif e<(p.length:Int)then((Ah p e).bind λh=>(Ak (Ae4 Δ t h q) (0,c,b)).bind λ(_,g,f)=>some (.inl (Ac (e+1),g,f)))else(some (.inr (c,b)))
theorem Bgo(A:DSz Δ)(C:Hj Δ)(hg:Fc Δ t=true){D:Nat}(hS:S+S'<=400000)(hD:D+D'<=6){L:A2}(hL:∀p∈L,GI Δ t S D p.1/\1<=p.2)(hM:∀p∈M,GI Δ t S' D' p.1/\1<=p.2)(Y:L.length<=2000)(V:M.length<=2000)(ae:L≠[])(ad:M≠[])(hN:729*(pv (λ_=>1) L*pv (λ_=>1) M)<F1):(1000<729*(pv (λ_=>1) L*pv (λ_=>1) M)/\L9 Δ t (L.map Bc) (M.map Bc)=some ([],9))\/∃R,L9 Δ t (L.map Bc) (M.map Bc)=some (R.map Bc,0)/\Cw (GI Δ t (S+S') (D+D')) R/\R.length<=1000/\∀f:Ag->Nat,pv f R=pv2 Δ t f L M:=by(have n1:1<=pv (λ_=>1) L:=by have o:=N4 λp hp=>(hL p hp).2;cases L with|nil=>exact(ae rfl).elim|cons a l=>simp at o;omega);(have n2:1<=pv (λ_=>1) M:=by have o:=N4 λp hp=>(hM p hp).2;cases M with|nil=>exact(ad rfl).elim|cons a l=>simp at o;omega);have m1:pv (λ_=>1) L<=pv (λ_=>1) L*pv (λ_=>1) M:=Nat.le_mul_of_pos_right _ n2;have m2:pv (λ_=>1) M<=pv (λ_=>1) L*pv (λ_=>1) M:=Nat.le_mul_of_pos_left _ n1;unfold L9;rw[Akj A C hg (show S<=1048576 by omega) (show D<=6 by omega) (λp hp=>(hL p hp).1) Y,Akj A C hg (show S'<=1048576 by omega) (show D'<=6 by omega) (λp hp=>(hM p hp).1) V];simp only[Ae,bnt,An];(rcases Aki A C hg (show S<=1048576 by omega) (show D<=6 by omega) hL ω Y with⟨hb,h⟩|⟨P,p1,Z,p3,p5⟩);left;exact⟨by have:=N4 λp hp=>(hL p hp).2;omega,by rw[h];rfl⟩;rw[p1];simp only[Ae,show((0:Int) != 0)=false from rfl,An];(rcases Aki A C hg (show S'<=1048576 by omega) (show D'<=6 by omega) hM ω V with⟨hb,h⟩|⟨Q,q1,q2,q3,q5⟩);left;exact⟨by have:=N4 λp hp=>(hM p hp).2;omega,by rw[h];rfl⟩;rw[q1];simp only[Ae,show((0:Int) != 0)=false from rfl,An];(have ac:P.length≠0:=λe=>by have:P=[]:=Hb.1 e;have h:=p5 λ_=>1;rw[this]at h;have h:0=pv (λ_=>1) L:=h;omega);(have ab:Q.length≠0:=λe=>by have:Q=[]:=Hb.1 e;have h:=q5 λ_=>1;rw[this]at h;have h:0=pv (λ_=>1) M:=h;omega);have wP:Ac (((P.map Bc).length:Int)-1)=((P.length-1:Nat):Int):=(by rw[Cp,Ac,Ct]<;>omega);have wQ:Ac (((Q.map Bc).length:Int)-1)=((Q.length-1:Nat):Int):=(by rw[Cp,Ac,Ct]<;>omega);(have q:∀{R:A2}{S D:Nat},S<=1048576->D<=6->Cw (GI Δ t S D) R->R.length≠0->∃(w:As)(d:Nat),(R.map Bc)[R.length-1]?=some w/\Nk Δ t w.I=some (d:Int)/\d<=D:=λ{R S D} o H W h4=>by have r:R[R.length-1]?=some (R[R.length-1]' ω):=Bl _;generalize R[R.length-1]'_=x at r;obtain⟨g1,g2,d,g3,g4⟩:=W.mo x (Bu r);refine⟨Bc x,d,by rw[getElem?_map,r];rfl,?_,g4⟩;show Nk Δ t x.1=_;rw[Zu A C t hg x.1 ω,g3,Oz ω]);obtain⟨a,da,a1,a2,a3⟩:=q (show S<=1048576 by omega) ω Z ac;obtain⟨b,db,b1,b2,b3⟩:=q (show S'<=1048576 by omega) ω q2 ab;have a6:Ac ((da:Int)+(db:Int))=(da:Int)+(db:Int):=ξ;have lP:(((P.map Bc).length:Nat):Int)=(P.length:Int):=(by rw[Cp]);rw[Da (by rw[Cp];omega),Da (by rw[Cp];omega)];simp only[An,Ae,wP,wQ,Br rfl a1,Br rfl b1,a2,b2,a6];rw[A6 ω,An];unfold Y2;simp only[Ae];have N:pv (λ_=>1) Q=pv (λ_=>1) M:=q5 _;have U:pv (λ_=>1) P=pv (λ_=>1) L:=p5 _;(have z:∀j,729*(pv (λ_=>1) (P.take j)*pv (λ_=>1) Q)<F1:=λj=>by have o:=A09 (λ_=>1) P j;have H:=Nat.mul_le_mul_right (pv (λ_=>1) Q) o;rw[U]at H;rw[N]at H⊢;omega);(have G:∀a,GI Δ t S D a->pv (λb=>pv (λ_=>1) (Eu Δ KM t a b)) Q<=729*pv (λ_=>1) Q:=λa ha=>by rw[<-Qb];refine Akl λp hp=>?_;obtain⟨x1,x2,dp,x3,x4⟩:=q2.mo p hp;obtain⟨v1,v2,dv,v3,v4⟩:=ha;have:=(S6 Δ KM t a p.1 dv dp (by unfold KM;omega) v3 x3 ω v2 x2).2;have:=Vb (show dv+dp<=6 by omega);omega);(have s:∀j,pv2 Δ t (λ_=>1) (P.take j) Q<=729*(pv (λ_=>1) (P.take j)*pv (λ_=>1) Q):=λj=>by unfold pv2;(have o:pv (λa=>pv (λb=>pv (λ_=>1) (Eu Δ KM t a b)) Q) (P.take j)<=pv (λa=>729*pv (λ_=>1) Q*1) (P.take j):=Akl λp hp=>by rw[Nat.mul_one];exact G p.1 (Z.mo p (mem_of_mem_take hp)));rw[Qb]at o;refine Nat.le_trans o (Nat.le_of_eq ?_);ac_rfl);(have E:∃T:A2,Cw (GI Δ t (S+S') (D+D')) T/\T.length<=900000000/\(∀f:Ag->Nat,pv f T=pv2 Δ t f P Q)/\∀{X:Type}{J:List (Β×Int)×List As->Ο X}{x:X},J (pls T,T.map Bc)=some x->(Ak (Ae5 Δ t (P.map Bc) (Q.map Bc)) (0,[],[])).bind J=some x:=by(have I:∀j,j<=P.length->∃u:A2,Cw (GI Δ t (S+S') (D+D')) u/\u.length<=729*Q.length*j/\(∀f:Ag->Nat,pv f u=pv2 Δ t f (P.take j) Q)/\∀{X:Type}{J:List (Β×Int)×List As->Ο X},(Ak (Ae5 Δ t (P.map Bc) (Q.map Bc)) (0,[],[])).bind J=(Ak (Ae5 Δ t (P.map Bc) (Q.map Bc)) ((j:Int),pls u,u.map Bc)).bind J:=by intro j;induction j with|zero=>intro _;exact⟨[],Cw.nil _,ψ,λf=>by rw[take_zero];rfl,λ{X J}=>rfl⟩|succ j ih=>intro hj;obtain⟨u,u1,u2,u3,u4⟩:=ih ω;have r:P[j]?=some (P[j]' ω):=Bl _;generalize P[j]'_=v at r;have hm:=Bu r;have a7:(P.map Bc)[j]?=some (Bc v):=(by rw[getElem?_map,r];rfl);have ah:=Rq hm;have af:=Akk (λ_=>1) r;have b3:=z (j+1);have b4:=s j;rw[af,Nat.add_mul,Nat.mul_one]at b3;have ag:=u3 λ_=>1;have a8:729*Q.length*j<=729*1000*1000:=Nat.mul_le_mul ω ω;obtain⟨T,t1,t2,t3,t4⟩:=Bgn A C hg hS hD (Z.mo v hm) ω (Z.pos v hm) q2 q3 ω u1 ω ω;refine⟨T,t2,by rw[Nat.mul_succ];omega,λf=>?_,λ{X J}=>?_⟩;rw[t4,u3];unfold pv2;rw[Akk _ r];rw[u4,Mo (s':=(((j+1:Nat):Int),pls T,T.map Bc))];unfold Ae5;simp only[lP,Av (ω:(j:Int)<(P.length:Int)),Al,Br rfl a7,Ae,t1,Db (show j<P.length by omega) ω]);obtain⟨T,t1,t2,t3,t4⟩:=I P.length (Nat.le_refl _);rw[C6]at t3;have a8:729*Q.length*P.length<=729*1000*1000:=Nat.mul_le_mul ω ω;refine⟨T,t1,ω,t3,λ{X J x} hJ=>?_⟩;rw[t4,G0 (e:=(pls T,T.map Bc)) (by unfold Ae5;simp only[lP,A6 (ω:¬(P.length:Int)<(P.length:Int)),An])];exact hJ);obtain⟨T,t1,t2,t3,t4⟩:=E;have aa:pv (λ_=>1) T<F1:=(by rw[t3];have o:=s P.length;rw[C6]at o;have H:=z P.length;rw[C6]at H;omega);(have B:∀f:Ag->Nat,pv2 Δ t f P Q=pv2 Δ t f L M:=λf=>by unfold pv2;rw[p5];congr 1;funext a;exact q5 _);(rcases A07 A C hg (t1.imp λi h=>h.good ω ω) aa ω with⟨hb,h⟩|⟨o,R,H,W⟩);left;refine⟨by have g1:=N4 λp hp=>t1.pos p hp;have g2:=t3 λ_=>1;have g3:=s P.length;rw[C6,U,N]at g3;omega,?_⟩;exact t4 (J:=λ(k,g)=>(Ow k g Δ t.G t.U t.R).bind λc=>some (c.1,c.2)) (by show(Ow (pls T) (T.map Bc) Δ t.G t.U t.R).bind _=_;rw[h];rfl);right;refine⟨R,t4 (J:=λ(k,g)=>(Ow k g Δ t.G t.U t.R).bind λc=>some (c.1,c.2)) (by show(Ow (pls T) (T.map Bc) Δ t.G t.U t.R).bind _=_;rw[H];rfl),⟨(W.pairwise_iff λ{x y} h=>h.symm).2 t1.dst,λp hp=>t1.mo p (W.mem_iff.1 hp),λp hp=>t1.pos p (W.mem_iff.1 hp)⟩,by rw[W.length_eq];exact o,λf=>?_⟩;rw[Bgm f W,t3,B]
def S7(Δ:Ap)(t:Ad):A0->(Ag->Nat)->Ag->Nat
 |[],f,a=>f a
 |r::e,f,a=>pv (S7 Δ t e f) (Eu Δ KM t a r)
theorem Ap9(Δ:Ap)(t:Ad)(r:Ag)(f:Ag->Nat):∀(c:A0)(a:Ag),S7 Δ t (c++[r]) f a=S7 Δ t c (λb=>pv f (Eu Δ KM t b r)) a
 |[],a=>rfl
 |q::c,a=>by show pv (S7 Δ t (c++[r]) f) (Eu Δ KM t a q)=pv (S7 Δ t c λb=>pv f (Eu Δ KM t b r)) (Eu Δ KM t a q);exact S5 λp _=>Ap9 Δ t r f c p.1
def dgo(Δ:Ap)(t:Ad)(i:Ag):Nat:=match Dc Δ i t with|some d=>d|none=>0
def Fd(Δ:Ap)(t:Ad)(is:A0):Nat:=(is.map (dgo Δ t)).sum
theorem Bgp(Δ:Ap)(t:Ad)(is:A0)(r:Ag):Fd Δ t (is++[r])=Fd Δ t is+dgo Δ t r:=by unfold Fd;simp
structure GG(Δ:List Ai)(t:Ad)(is:List Ag):Prop where
 num:∀i∈is,iR i
 deg:∀i∈is,Dc Δ i t=some (dgo Δ t i)
 siz:B7 is<=400000
 sum:Fd Δ t is<=6
 len:is.length<=8
def Aqa(Δ:Ap)(t:Ad)(f:Ag->Nat):Prop:=∀i j a b,Bt i<=KM->Dc Δ i t=some a->Dc Δ j t=some b->a+b<=6->iR i->iR j->pv f (Eu Δ KM t i j)=f i*f j
theorem Bgq(Δ:Ap)(t:Ad){w:A3}(h:Hs Δ w t=true):Aqa Δ t λi=>bv Δ i t w:=λi j a b e o p _ _ _=>Bfy KM t i j w a b e o p h
theorem A1b{Δ:Ap}{t:Ad}{f:Ag->Nat}(o:Aqa Δ t f):∀(b:A0)(a:Ag),GG Δ t (a::b)->S7 Δ t b f a=f a*Du (b.map f)
 |[],a,_=>by simp[S7,Du]
 |r::b,a,h=>by
  have s:=h.siz;have w:=h.sum;have u:=h.len;have z:Fd Δ t (a::r::b)=dgo Δ t a+(dgo Δ t r+Fd Δ t b):=(by unfold Fd;simp);rw[z]at w;simp only[B7]at s;simp only[D3]at u;have j:=h.num a ψ;have c:=h.num r ψ;have l:=h.deg a ψ;have k:=h.deg r ψ;obtain⟨C,_⟩:=S6 Δ KM t a r _ _ (by unfold KM;omega) l k ω j c;show pv (S7 Δ t b f) (Eu Δ KM t a r)=f a*(f r*Du (b.map f));rw[S5 (g:=λx=>Du (b.map f)*f x) λp hp=>by
   have g:=C p hp;obtain⟨d,d1,d2⟩:=g.deg;have q:=g.siz;have y:dgo Δ t p.1=d:=(by unfold dgo;rw[d1]);have hp:GG Δ t (p.1::b):=by
    refine⟨λi e=>?_,λi e=>?_,by simp only[B7];omega,?_,by simp only[D3];omega⟩
    .rcases F0.1 e with rfl|e
     .exact g.num
     .exact h.num i (by simp[e])
    .rcases F0.1 e with rfl|e
     .rw[y];exact d1
     .exact h.deg i (by simp[e])
    .have:Fd Δ t (p.1::b)=dgo Δ t p.1+Fd Δ t b:=(by unfold Fd;simp);omega
   rw[A1b o b p.1 hp,Nat.mul_comm],Qb,o a r _ _ (by unfold KM;omega) l k ω j c]
  ac_rfl
structure PRg(Δ:List Ai)(t:Ad)(i0:Ag)(rs:List Ag)(R:List (Ag×Nat)):Prop where
 cw:Cw (GI Δ t (B7 (i0::rs)) (Fd Δ t (i0::rs))) R
 len:R.length<=1000
 val:∀f:Ag->Nat,pv f R=S7 Δ t rs f i0
 cnt:pv (λ_=>1) R<=3^(Fd Δ t (i0::rs)*rs.length)
theorem PRg.one(h:GG Δ t [i]):PRg Δ t i [] [(i,1)]:=by refine⟨⟨pairwise_singleton _ _,λp hp=>?_,λp hp=>?_⟩,ψ,λf=>?_,by simp[pv]⟩;simp only[Ee]at hp;subst hp;exact⟨by simp[B7],h.num i ψ,_,h.deg i ψ,by simp[Fd]⟩;simp only[Ee]at hp;subst hp;exact Nat.le_refl _;show 1*f i+0=f i;omega
theorem GG.take{c:Ag}(h:GG Δ t (c::b))(j:Nat):GG Δ t (c::b.take j):=by have k:=h.siz;have hd:=h.sum;have q:=h.len;have g:b=b.take j++b.drop j:=(take_append_drop j b).symm;(have u:B7 b=B7 (b.take j)+B7 (b.drop j):=by rw[<-Uv,<-g]);(have s:Fd Δ t b=Fd Δ t (b.take j)+Fd Δ t (b.drop j):=by unfold Fd;rw[<-sum_append,<-map_append,<-g]);(have f:∀l,Fd Δ t (c::l)=dgo Δ t c+Fd Δ t l:=λl=>by unfold Fd;simp);rw[f]at hd;simp only[B7]at k;simp only[D3]at q;refine⟨λi hi=>?_,λi hi=>?_,by simp only[B7];omega,by rw[f];omega,by rw[D3,length_take];omega⟩;rcases F0.1 hi with rfl|hi;exact h.num _ ψ;exact h.num i (by have:=mem_of_mem_take hi;simp[this]);rcases F0.1 hi with rfl|hi;exact h.deg _ ψ;exact h.deg i (by have:=mem_of_mem_take hi;simp[this])
theorem Bgr(c:DSz Δ)(e:Hj Δ)(hg:Fc Δ t=true){D:Nat}(f:S<=1048576)(g:D<=6)(j:∀p∈M,GI Δ t S D p.1/\1<=p.2)(b:M.length<=2000)(u:pv (λ_=>1) M<F1):L9 Δ t [] (M.map Bc)=some ([],9)\/L9 Δ t [] (M.map Bc)=some ([],0):=by have r:=A1a;unfold L9;rw[show Wl Δ t []=some true from Akj c e hg f g (L:=[]) (λp hp=>by cases hp) ψ,Akj c e hg f g (λp hp=>(j p hp).1) b];simp only[Ae,bnt,An];(rcases Aki c e hg f g (L:=[]) (λp hp=>by cases hp) (by show 0<F1;omega) ψ with⟨_,h⟩|⟨P,i,q,A,l⟩);have h:Sf Δ t []=some ([],9):=h;left;rw[h];rfl;have i:Sf Δ t []=some (P.map Bc,0):=i;have s:P=[]:=(by have o:=N4 q.pos;rw[l]at o;have o:P.length<=0:=o;exact Hb.1 ω);subst s;rw[i];simp only[Ae,show((0:Int) != 0)=false from rfl,An];(rcases Aki c e hg f g j u b with⟨_,h⟩|⟨Q,k,z,y,x⟩);left;rw[h];rfl;right;rw[k];rfl
theorem PRg.step(B:DSz Δ)(hv:Hj Δ)(hg:Fc Δ t=true){r:Ag}(h:PRg Δ t i b R)(u:GG Δ t (i::(b++[r]))):(b≠[]/\L9 Δ t (R.map Bc) [⟨r,cR 1⟩]=some ([],9))\/∃x,L9 Δ t (R.map Bc) [⟨r,cR 1⟩]=some (x.map Bc,0)/\PRg Δ t i (b++[r]) x:=by have hs:=u.siz;have hd:=u.sum;have X:=u.len;(have J:∀l,Fd Δ t (i::l)=dgo Δ t i+Fd Δ t l:=λl=>by unfold Fd;simp);(have o:B7 (i::(b++[r]))=B7 (i::b)+Bt r:=by simp only[B7,Uv];omega);(have Z:Fd Δ t (i::(b++[r]))=Fd Δ t (i::b)+dgo Δ t r:=by rw[J,J,Bgp];omega);(have z:b.length<=6:=by simp only[D3,D6,length_nil]at X;omega);have A:=u.num r ψ;have N:=u.deg r ψ;have s:=h.cnt;have E:(3:Nat)^(Fd Δ t (i::b)*b.length)<=3^36:=Nat.pow_le_pow_right δ (Nat.mul_le_mul (ω:_<=6) z);(have Y:(729:Nat)*(3^36*1)<F1:=by unfold F1;decide);have j:pv (λ_:Ag=>1) [(r,1)]=1:=rfl;(have I:∀p∈[(r,1)],GI Δ t (Bt r) (dgo Δ t r) p.1/\1<=p.2:=λp hp=>by simp only[Ee]at hp;subst hp;exact⟨⟨Nat.le_refl _,A,_,N,Nat.le_refl _⟩,Nat.le_refl _⟩);have k:[(r,1)].map Bc=[⟨r,cR 1⟩]:=rfl;by_cases G:R=[];subst G;(have y:b≠[]:=λe=>by subst e;have h0:(0:Nat)=1:=h.val λ_=>1;omega);rcases Bgr B hv hg (S:=Bt r) (D:=dgo Δ t r) ω ω I ψ (by rw[j];have:=A1a;omega)with c|c;left;rw[<-k];exact⟨y,c⟩;right;refine⟨[],by rw[<-k];exact c,⟨Cw.nil _,ψ,λf=>?_,Nat.zero_le _⟩⟩;rw[Ap9,<-h.val];rfl;(rcases Bgo B hv hg (S:=B7 (i::b)) (S':=Bt r) (D:=Fd Δ t (i::b)) (D':=dgo Δ t r) ω ω (L:=R) (M:=[(r,1)]) (λp hp=>⟨h.cw.mo p hp,h.cw.pos p hp⟩) I (by have:=h.len;omega) ψ G ψ (by rw[j];have:729*(pv (λ_=>1) R*1)<=729*(3^36*1):=ω;omega)with⟨hb,c⟩|⟨x,c1,c2,c3,c5⟩);left;rw[<-k];refine⟨λe=>?_,c⟩;subst e;rw[j]at hb;simp only[length_nil,Nat.mul_zero,Nat.pow_zero]at s;omega;right;(have q:∀f:Ag->Nat,pv f x=pv (λa=>pv f (Eu Δ KM t a r)) R:=λf=>by rw[c5];unfold pv2;refine S5 λp hp=>?_;show 1*pv f (Eu Δ KM t p.1 r)+0=pv f (Eu Δ KM t p.1 r);omega);refine⟨x,by rw[<-k];exact c1,⟨by rw[o,Z];exact c2,c3,λf=>by rw[q,h.val,Ap9],?_⟩⟩;rw[q];(have h1:pv (λa=>pv (λ_=>1) (Eu Δ KM t a r)) R<=pv (λ_=>3^(Fd Δ t (i::(b++[r])))*1) R:=Akl λp hp=>by obtain⟨w,V,d,U,C⟩:=h.cw.mo p hp;have g:=(S6 Δ KM t p.1 r d _ (by unfold KM;omega) U N ω V A).2;rw[Nat.mul_one];exact Nat.le_trans g (Nat.pow_le_pow_right δ ω));rw[Qb]at h1;have h2:=Nat.mul_le_mul_left (3^(Fd Δ t (i::(b++[r])))) s;refine Nat.le_trans h1 (Nat.le_trans h2 ?_);rw[<-Nat.pow_add];refine Nat.pow_le_pow_right δ ?_;rw[D6,length_singleton,Nat.mul_add,Nat.mul_one,Nat.add_comm];exact Nat.add_le_add_right (Nat.mul_le_mul_right _ ω) _
def fl(v:Int)(is:A0):Bf:=is.map λi=>⟨v,i⟩
noncomputable def Aaa(Δ:Ap)(t:Ad):A0->Bv->Ck
 |[],w=>some w
 |i::is,w=>match L9 Δ t w [⟨i,cR 1⟩]with|some (h,e)=>if e=0 then Aaa Δ t is h else none|none=>none
noncomputable def S8(Δ:Ap)(t:Ad)(c:Ag)(b:A0):Ck:=Aaa Δ t b [⟨c,cR 1⟩]
theorem A1c{is:A0}{w w':Bv}{e:Int}(h:L9 Δ t w [⟨i,cR 1⟩]=some (w',e)):Aaa Δ t (i::is) w=if e=0 then Aaa Δ t is w' else none:=by show(match L9 Δ t w [⟨i,cR 1⟩]with|some (w',e)=>if e=0 then Aaa Δ t is w' else none|none=>none)=_;rw[h]
def PMg(Δ:Ap)(Ξ:Au)(Θ:Ad)(b:At):Prop:=∀p∈b,∃(v:Int)(t:Ad)(e:Ag)(h:A0)(R:A2),p.1=bs ((fl v (e::h)).flatMap El)/\p.2=R.map Bc/\De Ξ Θ v=some t/\PRg Δ t e h R/\S8 Δ t e h=some p.2
theorem PMg.nil(Δ:Ap)(Ξ:Au)(Θ:Ad):PMg Δ Ξ Θ []:=λp hp=>by cases hp
theorem Bgs{w:Int}{l m:A0}(h:bs ((fl v (i::l)).flatMap El)=bs ((fl w (j::m)).flatMap El)):v=w/\i=j/\l=m:=by
 have o:=Aoy (By.flat By.fac _) (By.flat By.fac _) h;have p:=(Aox (fl v (i::l)) (fl w (j::m)) [] [] Kt.nil Kt.nil (by rw[append_nil,append_nil];exact o)).1;have q:(⟨v,i⟩:A8)::fl v l=⟨w,j⟩::fl w m:=p;injection q with a b;injection a with r s;subst r;refine⟨rfl,s,?_⟩;unfold fl at b;have e:∀(l m:A0),(l.map λi=>(⟨v,i⟩:A8))=(m.map λi=>(⟨v,i⟩:A8))->l=m:=by
  intro l;induction l with
  |nil=>intro m h;cases m with
   |nil=>rfl
   |cons a m=>simp at h
  |cons a l ih=>intro m h;cases m with
   |nil=>simp at h
   |cons b m=>
    simp only[map_cons,List.cons.injEq,A8.mk.injEq,true_and]at h
    rw[h.1,ih m h.2]
 exact e l m b
noncomputable def Akm(Δ:Ap)(t:Ad)(F:Bf)(b2:At):List As×Int->Ο ((List As×Int)⊕((List As×Int×List (Β×List As))⊕List As)):=λ(c,e)=>bif e<(F.length:Int)then((Ah F e).bind λh=>(L9 Δ t c [As.mk h.I (cR 1)]).bind λb=>bif(b.2 != (0:Int))then(some (.inr (.inl ([],b.2,b2))))else(some (.inl (b.1,Ac (e+1)))))else(some (.inr (.inr c)))
theorem Bgt(y:DSz Δ)(C:Hj Δ)(hg:Fc Δ t=true){f:Ag}(x:GG Δ t (f::b))(b2:At):∃z,Ak (Akm Δ t (fl v b) b2) ([⟨f,cR 1⟩],0)=some z/\((2<=b.length/\z=.inl ([],9,b2)/\S8 Δ t f b=none)\/∃R:A2,z=.inr (R.map Bc)/\PRg Δ t f b R/\S8 Δ t f b=some (R.map Bc)):=by have l:=x.len;simp only[D3]at l;(have g:((fl v b).length:Int)=(b.length:Int):=by unfold fl;rw[Cp]);obtain⟨e,B,A⟩:=J6 (step:=Akm Δ t (fl v b) b2) (λ(s:List As×Int)=>∃(j:Nat)(R:A2),s=(R.map Bc,(j:Int))/\j<=b.length/\PRg Δ t f (b.take j) R/\S8 Δ t f b=Aaa Δ t (b.drop j) (R.map Bc)) (λs=>b.length-s.2.toNat) (λz=>(2<=b.length/\z=(.inl ([],9,b2):((List As×Int×List (Β×List As))⊕List As))/\S8 Δ t f b=none)\/∃R:A2,z=.inr (R.map Bc)/\PRg Δ t f b R/\S8 Δ t f b=some (R.map Bc)) (by rintro _ ⟨j,R,rfl,H,u,o⟩;rcases Co j b.length with h|h;have p:b[j]?=some b[j]:=Bl h;have q:b.drop j=b[j]::b.drop (j+1):=(List.getElem_cons_drop ..).symm;rw[q]at o;generalize b[j]=r at p o;have k:(fl v b)[j]?=some ⟨v,r⟩:=(by unfold fl;rw[getElem?_map,p];rfl);have i:=x.take (j+1);rw[Cu p]at i;unfold Akm;simp only[g,Av (ω:(j:Int)<(b.length:Int)),Al,Br rfl k,Ae];(rcases u.step y C hg i with⟨E,c⟩|⟨D,w,G⟩);right;refine⟨_,by rw[c];rfl,.inl ⟨?_,rfl,by rw[o,A1c c,Ao δ]⟩⟩;have:(b.take j).length≠0:=λe=>E (Hb.1 e);rw[length_take]at this;omega;left;refine⟨_,by rw[w];rfl,⟨j+1,D,by rw[Db h ω],ω,by rw[Cu p];exact G,by rw[o,A1c w,Aq rfl]⟩,?_⟩;rw[Db h ω];show b.length-((j+1:Nat):Int).toNat<b.length-(j:Int).toNat;omega;right;have:j=b.length:=ω;subst this;rw[C6]at u;rw[drop_length]at o;exact⟨_,by unfold Akm;simp only[g,A6 (ω:¬(b.length:Int)<(b.length:Int)),An],.inr ⟨R,rfl,u,o⟩⟩) ([⟨f,cR 1⟩],0) ⟨0,[(f,1)],rfl,ω,by rw[take_zero];exact PRg.one (by have:=x.take 0;rwa [take_zero]at this),rfl⟩;exact⟨e,B,A⟩
theorem Aqb(hz:DSz Δ)(hv:Hj Δ)(hg:Fc Δ t=true)(ht:De Ξ Θ v=some t)(I:Es v){c:Ag}(L:GG Δ t (c::g))(b1:Af)(Q:PMg Δ Ξ Θ b2):∃l e Z,Qw (fl v (c::g)) b1 b2 Δ Ξ Θ.G Θ.U Θ.R=some (l,e,Z)/\PMg Δ Ξ Θ Z/\((e=9/\l=[]/\2<=g.length/\S8 Δ t c g=none)\/(e=0/\∃R:A2,l=R.map Bc/\PRg Δ t c g R/\S8 Δ t c g=some l)):=by have hs:=L.siz;have a6:=L.len;simp only[D3]at a6;(have y:∀i∈c::g,Bt i<=1048576:=λi o=>by have:=Kc o;omega);have D:∀i∈c::g,(El ⟨v,i⟩).length<=33554432:=λi o=>Ajo (y i o) ⟨L.num i o,I⟩;(have a7:∀j,((fl v (c::g.take j)).flatMap El).length<=8*33554432:=λj=>by refine Nat.le_trans (Ao4 (n:=33554432) _ λa ha=>?_) (Nat.mul_le_mul_right _ ?_);unfold fl at ha;obtain⟨i,o,rfl⟩:=mem_map.1 ha;refine D i ?_;rcases F0.1 o with rfl|o;simp;have:=mem_of_mem_take o;simp[this];unfold fl;rw[Cp,D3,length_take];omega);have q:Ah (fl v (c::g)) 0=some ⟨v,c⟩:=rfl;have B:M1 v c=some (bs (El ⟨v,c⟩)):=Adq v c I (L.num c ψ) (y c ψ);(have s:K8 (bs (El ⟨v,c⟩)) []=some (((El ⟨v,c⟩).length:Int),El ⟨v,c⟩):=by have:=Xi (b:=[]) (By.fac ⟨v,c⟩) (by have:=D c ψ;simp;omega);rw[nil_append]at this;exact this);(have w1:Ac (0+1)=1:=by rw[Ac,Ct]<;>omega);(have h:∀{X:Type}{J:Aa->Ο X}{x:Ο X},J ((fl v (c::g)).flatMap El)=x->(Ak (S:=(Int×List Int)) (E:=(List Int)) (λ(C,N)=>bif C<((fl v (c::g)).length:Int)then((Ah (fl v (c::g)) C).bind λM=>(M1 M.v M.I).bind λa0=>(Ig a0 N).bind λa2=>some (.inl (Ac (C+1),a2.2)))else(some (.inr N))) (1,El ⟨v,c⟩)).bind J=x:=λ{X J x} hJ=>by refine bnd (a:=(fl v (c::g)).flatMap El) ?_ hJ;rw[<-Option.bind_fun_some (Ak _ _)];have Y:fl v (c::g)=⟨v,c⟩::fl v g:=rfl;rw[Y];refine Ad8 (⟨v,c⟩:A8) (fl v g) (λj=>(((j+1:Nat):Int),(fl v (c::g.take j)).flatMap El)) (by simp[fl]) (by unfold fl;rw[Cp];omega) ?_ ?_;intro j f r H h2 h3;have a8:∃i,g[j]?=some i/\f=⟨v,i⟩:=(by unfold fl at r;rw[getElem?_map]at r;obtain⟨i,H,h2⟩:=Option.map_eq_some_iff.1 r;exact⟨i,H,h2.symm⟩);obtain⟨i,o,rfl⟩:=a8;have A:i∈c::g:=(by have:=Bu o;simp[this]);have hk:=a7 j;have ab:=D i A;have e1:M1 v i=some (bs (El ⟨v,i⟩)):=Adq v i I (L.num i A) (y i A);have e2:Ig (bs (El ⟨v,i⟩)) ((fl v (c::g.take j)).flatMap El)=some (((El ⟨v,i⟩).length:Int),(fl v (c::g.take j)).flatMap El++El ⟨v,i⟩):=O4 (By.fac _) ω;simp only[H,h2,h3,Al,Ae,e1,e2];have:fl v (c::g.take (j+1))=fl v (c::g.take j)++[⟨v,i⟩]:=(by unfold fl;rw[Cu o];simp);rw[this,flatMap_append];simp;intro H;have V:(fl v g).length=g.length:=(by unfold fl;rw[Cp]);refine⟨(fl v (c::g)).flatMap El,?_,rfl⟩;rw[V]at H⊢;simp only[C6,H,An]);have G:By ((fl v (c::g)).flatMap El):=By.flat By.fac _;(have a1:Nat.beq (bs ((fl v (c::g)).flatMap El)).size 0=false:=by rw[Zx];have:(fl v (c::g)).flatMap El=118::((ti v++58::wx c)++(fl v g).flatMap El):=rfl;rw[this];rfl);have U:Jw v b1 b2 Δ Ξ Θ.G Θ.U Θ.R=some t:=Uw b1 b2 Δ Ξ Θ ht;have k:En (fl v (c::g)) 1 ((fl v (c::g)).length:Int)=some (fl v g):=Ap3 ⟨v,c⟩ (fl v g);have u:decide ((0:Int)<((fl v (c::g)).length:Int))=true:=Av (by unfold fl;rw[Cp,D3];omega);cases P:Fk b2 (bs ((fl v (c::g)).flatMap El))with|true=>have a3:∃R:A2,Ir b2 (bs ((fl v (c::g)).flatMap El)) []=R.map Bc/\PRg Δ t c g R/\S8 Δ t c g=some (R.map Bc):=(by unfold Ir;unfold Fk at P;cases r:b2.find? λp=>bs ((fl v (c::g)).flatMap El)==p.1 with|none=>rw[find?_eq_none]at r;obtain⟨p,hp,e⟩:=any_eq_true.1 P;exact(r p hp e).elim|some p=>obtain⟨w,t',j0,ss,R,g1,g2,g3,g4,g5⟩:=Q p (mem_of_find?_eq_some r);have e:=find?_some r;have e:bs ((fl v (c::g)).flatMap El)=p.1:=(Ns _ _).1 e;rw[g1]at e;obtain⟨rfl,rfl,rfl⟩:=Bgs e;rw[ht]at g3;cases g3;exact⟨R,g2,g4,by rw[g5,g2]⟩);obtain⟨R,r1,T,W⟩:=a3;refine⟨R.map Bc,0,b2,?_,Q,.inr ⟨rfl,R,rfl,T,W⟩⟩;unfold Qw;rw[u,Al,q,Ae,B,Ae,s,Ae,w1];refine h ?_;rw[Rn G,Ae,P,Al,r1];rfl|false=>obtain⟨z,z1,z2⟩:=Bgt hz hv hg (v:=v) L b2;(rcases z2 with⟨hb,rfl,aa⟩|⟨R,rfl,T,W⟩);refine⟨[],9,b2,?_,Q,.inl ⟨rfl,rfl,hb,aa⟩⟩;unfold Qw;rw[u,Al,q,Ae,B,Ae,s,Ae,w1];refine h ?_;rw[Rn G,Ae,P,An,Ae];dsimp only;rw[An,Ae,U,Ae,Ae,Na,Ae,k,Ae];exact bnd z1 rfl;refine⟨R.map Bc,0,G5 b2 (bs ((fl v (c::g)).flatMap El)) (R.map Bc),?_,λp hp=>?_,.inr ⟨rfl,R,rfl,T,W⟩⟩;unfold Qw;rw[u,Al,q,Ae,B,Ae,s,Ae,w1];refine h ?_;rw[Rn G,Ae,P,An,Ae];dsimp only;rw[An,Ae,U,Ae,Ae,Na,Ae,k,Ae];refine bnd z1 ?_;unfold Ze;dsimp only;rw[a1,An,Ae];rcases Aiz _ _ _ p hp with hp|rfl;exact Q p hp;exact⟨v,t,c,g,R,rfl,rfl,ht,T,W⟩
theorem Bgu(u:DSz Δ)(o:Hj Δ)(hg:Fc Δ t=true)(ht:De Ξ Θ v=some t)(f:Es v)(x:GG Δ t (i::g)):(2<=g.length/\∀b1 b2,PMg Δ Ξ Θ b2->∃b,Qw (fl v (i::g)) b1 b2 Δ Ξ Θ.G Θ.U Θ.R=some ([],9,b)/\PMg Δ Ξ Θ b)\/∃R:A2,PRg Δ t i g R/\∀b1 b2,PMg Δ Ξ Θ b2->∃b,Qw (fl v (i::g)) b1 b2 Δ Ξ Θ.G Θ.U Θ.R=some (R.map Bc,0,b)/\PMg Δ Ξ Θ b:=by obtain⟨l,e,k,y,C,w⟩:=Aqb u o hg ht f x [] (PMg.nil Δ Ξ Θ);(rcases w with⟨_,_,p,j⟩|⟨_,R,rfl,p,j⟩);refine .inl ⟨p,λb1 b2 r=>?_⟩;obtain⟨l,e,k,h,s,q⟩:=Aqb u o hg ht f x b1 r;(rcases q with⟨rfl,rfl,_⟩|⟨_,_,_,_,c⟩);exact⟨k,h,s⟩;rw[j]at c;cases c;refine .inr ⟨R,p,λb1 b2 r=>?_⟩;obtain⟨l,e,k,h,s,q⟩:=Aqb u o hg ht f x b1 r;(rcases q with⟨_,_,_,c⟩|⟨rfl,_,rfl,_,c⟩);rw[j]at c;cases c;rw[j]at c;rw[<-Fv c]at h;exact⟨k,h,s⟩
abbrev Hz:=(List A8×Rat)×F2
inductive Gf(K:Nat):List Aj->List Hz->Prop
 |nil:Gf K [] []
 |cons{t:Aj}{b:Hz}{ts:List Aj}{bs:List Hz}:t.M=⟨b.1.1,b.2.1⟩->rq t.C=b.1.2*(b.2.2:Rat)->RB K t.C->b.1.1.length<=1000->Gf K ts bs->Gf K (t::ts) (b::bs)
theorem Gf.len{bs:Λ Hz}(h:Gf K ts bs):ts.length=bs.length:=by induction h with|nil=>rfl|cons _ _ _ _ _ ih=>simp[ih]
theorem Gf.app{c:A1}{bs cs:Λ Hz}(h:Gf K ts bs)(h':Gf K c cs):Gf K (ts++c) (bs++cs):=by induction h with|nil=>exact h'|cons a b d e _ ih=>exact .cons a b d e ih
theorem Gf.mono{c:Nat}{bs:Λ Hz}(h:Gf K ts bs)(hk:K<=c):Gf c ts bs:=by induction h with|nil=>exact .nil|cons a b d e _ ih=>exact .cons a b (d.mono hk) e ih
theorem Gf.get{bs:Λ Hz}(h:Gf K ts bs):∀{j:Nat}{t:Aj},ts[j]?=some t->∃b,bs[j]?=some b/\t.M=⟨b.1.1,b.2.1⟩/\rq t.C=b.1.2*(b.2.2:Rat)/\RB K t.C/\b.1.1.length<=1000:=by induction h with|nil=>intro j t h;simp at h|@cons t b ts bs o p q r _ ih=>intro j u e;cases j with|zero=>simp only[getElem?_cons_zero,Option.some.injEq]at e;subst e;exact⟨b,rfl,o,p,q,r⟩|succ j=>simp only[getElem?_cons_succ]at e;simpa using ih e
theorem Gf.mem{bs:Λ Hz}(h:Gf K ts bs){t:Aj}(ht:t∈ts):∃b∈bs,t.M=⟨b.1.1,b.2.1⟩/\rq t.C=b.1.2*(b.2.2:Rat)/\RB K t.C:=by obtain⟨j,e⟩:=Hw ht;obtain⟨b,b1,b2,f,c,_⟩:=h.get e;exact⟨b,Bu b1,b2,f,c⟩
def Vc(l:Cg)(k c:Nat)(b:Hz):Hz:=(b.1,(b.2.1++atO l k,b.2.2*c))
def L3(B:Λ Hz)(l:Cg)(f:Nat->Nat)(n:Nat):Λ Hz:=(range n).flatMap λk=>if f k=0 then[]else B.map (Vc l k (f k))
theorem Akn(B:Λ Hz)(l:Cg)(f:Nat->Nat)(n:Nat):L3 B l f (n+1)=L3 B l f n++(if f n=0 then[]else B.map (Vc l n (f n))):=by unfold L3;rw[range_succ,flatMap_append];simp
theorem A1d(B:Λ Hz)(l:Cg)(f:Nat->Nat)(n:Nat):(L3 B l f n).length<=n*B.length:=by induction n with|zero=>simp[L3]|succ n ih=>rw[Akn,D6,Nat.add_mul,Nat.one_mul];have:(if f n=0 then([]:Λ Hz)else B.map (Vc l n (f n))).length<=B.length:=(by split<;>simp);omega
theorem Bgv{M:Nat}{c o:A1}{B:Λ Hz}{l:Cg}{f:Nat}{x:Ar}(y:Gf K c B)(p:rq x=(f:Rat))(i:RB 200 x)(S:K<30000000000)(R:∀b∈B,b.2.1.length<=M)(N:M<=1000)(r:o.length+c.length<=100000000000) :
  ∃T,Ak (Aeu c l (k:Int) x) (0,o)=some ((c.length:Int),o++T)/\Gf (K+202) T (B.map (Vc l k f)):=by
 obtain⟨e,X,T,V,U⟩:=J6 (step:=Aeu c l (k:Int) x) (λs=>∃(j:Nat)(T:A1),s=((j:Int),o++T)/\j<=c.length/\T.length=j/\Gf (K+202) T ((B.take j).map (Vc l k f))) (λs=>c.length-s.1.toNat)
  (λe=>∃T,e=((c.length:Int),o++T)/\Gf (K+202) T (B.map (Vc l k f))) (by
  rintro _ ⟨j,T,rfl,w,L,q⟩
  rcases Co j c.length with h|h
  .left
   have g:c[j]?=some c[j]:=Bl h
   generalize c[j]=t at g
   obtain⟨b,b1,b2,Z,Y,z⟩:=y.get g
   have J:=R b (Bu b1)
   have:=A0f l k
   obtain⟨u,I,G,E,D⟩:=Bez (F:=⟨b.1.1,z⟩) (A:=b.2.1) (B:=atO l k) b2 ω S Y i
   refine⟨_,?_,⟨j+1,T++[u],rfl,ω,by simp[L],?_⟩,ζ⟩
   .unfold Aeu
    simp only[Av (ω:(j:Int)<(c.length:Int)),Al,Br rfl g,Ae,Bey,I,Db h ω]
    rw[D7 ζ,Ae,append_assoc]
   .rw[Cu b1,map_append]
    refine q.app (.cons G ?_ D z .nil)
    rw[E,Z,p]
    show _=b.1.2*((b.2.2*f:Nat):Rat)
    rw[Rat.natCast_mul];grind
  .have:j=c.length:=ω
   subst this
   right
   rw[y.len,C6]at q
   exact⟨_,by unfold Aeu;simp only[A6 (ω:¬(c.length:Int)<(c.length:Int)),An],T,rfl,q⟩) (0,o) ⟨0,[],ψ,ω,rfl,by simpa using Gf.nil⟩
 exact⟨T,by rw[<-V];exact X,U⟩
theorem Bgw{M:Nat}{g:A1}{B:Λ Hz}{l:Cg}{f:Nat->Nat}(z:Gf K g B)(r:∀k,k<n->f k<F1)(L:K<30000000000)(J:∀b∈B,b.2.1.length<=M)(y:M<=1000)(X:n<=20)(Y:g.length<=1000000000) :
  ∃T,Ak (Aj8 g l (Ls n f)) (0,[])=some ((n:Int),T)/\Gf (K+202) T (L3 B l f n):=by
 obtain⟨e,V,T,S,R⟩:=J6 (step:=Aj8 g l (Ls n f)) (λs=>∃(j:Nat)(T:A1),s=((j:Int),T)/\j<=n/\Gf (K+202) T (L3 B l f j)) (λs=>n-s.1.toNat)
  (λe=>∃T,e=((n:Int),T)/\Gf (K+202) T (L3 B l f n)) (by
  rintro _ ⟨j,T,rfl,w,q⟩
  unfold Aj8
  rw[N2]
  rcases Co j n with h|h
  .left
   have D:=A1d B l f j
   have I:=q.len
   have N:=z.len
   have A:j*B.length<=20*1000000000:=Nat.mul_le_mul ω ω
   have x:j*B.length+B.length<=20*B.length:=by
    have:(j+1)*B.length<=20*B.length:=Nat.mul_le_mul_right _ ω
    rw[Nat.add_mul]at this;omega
   have i:=r j h
   simp only[Av (ω:(j:Int)<(n:Int)),Al,Br rfl (N3 f h),Ae,(Np.c i).sign,Db h ω]
   by_cases p:f j=0
   .refine⟨_,by rw[Aq p];rfl,⟨j+1,T,rfl,ω,?_⟩,ζ⟩
    rw[Akn,Aq p,append_nil];exact q
   .have u:RB 200 (cR (f j)):=(Np.c i).rb
    obtain⟨U,G,E⟩:=Bgv (o:=T) (l:=l) (k:=j) (f:=f j) z (S3 (f j)) u L J y ω
    refine⟨_,by rw[Ao p,G];rfl,⟨j+1,T++U,rfl,ω,?_⟩,ζ⟩
    rw[Akn,Ao p]
    exact q.app E
  .have:j=n:=ω
   subst this
   right
   exact⟨_,by simp only[A6 (ω:¬(j:Int)<(j:Int)),An],T,rfl,q⟩) (0,[]) ⟨0,[],rfl,ω,.nil⟩
 exact⟨T,by rw[<-S];exact V,R⟩
def S9(B:Λ Hz):Λ Grp->Λ Hz
 |[]=>B
 |q::e=>S9 (L3 B q.1 q.2.2 (q.2.1+1)) e
theorem A1e{B:Λ Hz}{l:Cg}{f:Nat->Nat}{b:Hz}(hb:b∈L3 B l f n):∃g∈B,b.1=g.1/\b.2∈Hy [g.2] l f n:=by unfold L3 at hb;rw[mem_flatMap]at hb;obtain⟨k,c,e⟩:=hb;split at e;cases e;rename_i h;obtain⟨d,o,rfl⟩:=mem_map.1 e;refine⟨d,o,rfl,?_⟩;unfold Hy;rw[mem_flatMap];exact⟨k,c,by rw[Ao h];exact mem_map.2 ⟨d.2,ψ,rfl⟩⟩
theorem A1f:∀(f:Λ Grp){B C:Λ F2},(∀b∈B,b∈C)->∀b∈Mx B f,b∈Mx C f
 |[],B,C,h,b,e=>h b e
 |q::f,B,C,h,b,e=>by refine A1f f (B:=Hy B q.1 q.2.2 (q.2.1+1)) (λc o=>?_) b e;unfold Hy at o⊢;rw[mem_flatMap]at o⊢;obtain⟨k,i,g⟩:=o;refine⟨k,i,?_⟩;split at g;cases g;rename_i p;rw[Ao p];obtain⟨d,d1,d2⟩:=mem_map.1 g;exact mem_map.2 ⟨d,h d d1,d2⟩
theorem Aqc:∀(f:Λ Grp){B:Λ Hz}{b:Hz},b∈S9 B f->∃h∈B,b.1=h.1/\b.2∈Mx [h.2] f
 |[],B,b,o=>⟨b,o,rfl,by simp[Mx]⟩
 |q::f,B,b,o=>by obtain⟨c,p,r,s⟩:=Aqc f o;obtain⟨d,d1,d2,d3⟩:=A1e p;refine⟨d,d1,r.trans d2,?_⟩;exact A1f f (λe g=>by simp only[Ee]at g;rw[g];exact d3) b.2 s
theorem Bgx{B:Λ Hz}{l:Cg}{f:Nat->Nat}{M:Nat}(h:∀b∈B,b.2.1.length<=M):∀b∈L3 B l f n,b.2.1.length<=M+1:=by intro b o;obtain⟨g,p,_,q⟩:=A1e o;exact Bfs (B:=[g.2]) (λc e=>by simp only[Ee]at e;rw[e];exact h g p) b.2 q
theorem Bgy:∀(n:Nat)(rest:A7)(i:A1)(B:Λ Hz)(K M:Nat),rest.length<=n->Aet rest->Atk rest->Gf K i B->(∀b∈B,b.2.1.length<=M)->M+rest.length<=1000->K+202*rest.length<30000000000->B.length*2^Dt rest<=1000000000->∃o g,Ak Aev (i,rest)=some g/\Gs o rest/\Gf (K+202*rest.length) g (S9 B o)/\g.length<=B.length*2^Dt rest:=by intro n;induction n with|zero=>intro rest i B K M P _ _ z _ _ _ _;have:rest=[]:=Hb.1 ω;subst this;exact⟨[],i,G0 (by unfold Aev;simp),.nil,by simpa[S9]using z,by rw[z.len];simp[Dt]⟩|succ n ih=>intro rest i B K M P r L z C ad hK A;cases c:rest with|nil=>exact⟨[],i,G0 (by unfold Aev;simp),.nil,by simpa[S9]using z.mono ω,by rw[z.len];simp[Dt]⟩|cons a Q=>rw[<-c];have w:rest[0]?=some a:=(by rw[c];rfl);have aa:0<rest.length:=Ek w;(have W:∀b∈rest,b.L.T.length<1099511627776:=λb e=>by have:=(Aj9 (L.lin b e)).1;omega);have ae:=L.len;obtain⟨m,m1,m2,m3,H,m5⟩:=Bfq w W ω;have s:rest=rest.take m++rest.drop m:=(take_append_drop m rest).symm;have J:=(s▸L:Atk (rest.take m++rest.drop m)).sub;have x:rest.take m≠[]:=(by intro h;have:=congrArg length h;rw[length_take]at this;simp only[length_nil]at this;omega);obtain⟨N,f,p1,p2,p3,p4⟩:=Bfp J.1 x H;have Y:Dt rest=Dt (rest.take m)+Dt (rest.drop m):=(by rw[<-U8,take_append_drop]);have ab:=L.sum;have S:2^Dt rest=2^Dt (rest.take m)*2^Dt (rest.drop m):=(by rw[Y,Nat.pow_add]);have a8:B.length<=1000000000:=Nat.le_trans (Nat.le_mul_of_pos_right _ (Nat.pow_pos δ)) A;obtain⟨T,t1,t2⟩:=Bgw (l:=a.L) (n:=N+1) z p4 ω C ω ω (by rw[z.len];exact a8);have y:Aev (i,rest)=some (.inl (T,rest.drop m)):=(by have X:Ah rest 0=some a:=Br (n:=0) rfl w;have R:En rest (m:Int) (rest.length:Int)=some (rest.drop m):=(by unfold En;simp[drop_take];omega);unfold Aev;simp only[Av (ω:(rest.length:Int)>0),Al,X,Ae,m1,W2 rfl m3,p1,t1,R]);have ac:(rest.drop m).length+m=rest.length:=(by rw[length_drop];omega);have a7:=A1d B a.L f (N+1);have I:(N+1)*B.length<=B.length*2^Dt (rest.take m):=(by rw[Nat.mul_comm];refine Nat.mul_le_mul_left _ (Nat.le_trans (Bfr N) (Nat.pow_le_pow_right δ p3)));have u:(L3 B a.L f (N+1)).length*2^Dt (rest.drop m)<=B.length*2^Dt rest:=(by rw[S,<-Nat.mul_assoc];exact Nat.mul_le_mul_right _ (Nat.le_trans a7 I));obtain⟨o,g,g1,g2,g3,g4⟩:=ih (rest.drop m) T (L3 B a.L f (N+1)) (K+202) (M+1) ω (Pairwise.sublist (drop_sublist m rest) r) J.2 t2 (Bgx C) ω ω (Nat.le_trans u A);refine⟨(a.L,N,f)::o,g,by rw[Mo y,g1],?_,g3.mono ω,Nat.le_trans g4 u⟩;(have V:∀b∈rest.drop m,Hn a.L b.L<0:=by intro b e;cases p:rest.drop m with|nil=>rw[p]at e;cases e|cons d D=>have j:rest[m]?=some d:=(by have:=congrArg (λl=>l[0]?) p;simpa using this);have a1:=m5 d j;have a6:¬Hn d.L a.L<0:=(by have G:=r;rw[c]at G;have Z:d∈Q:=(by have U:m=(m-1)+1:=ω;rw[c,U,getElem?_cons_succ]at j;exact Bu j);exact(pairwise_cons.1 G).1 d Z);(have q:Hn a.L d.L<0:=by rcases Int.lt_trichotomy (Hn d.L a.L) 0 with k|k|k;exact(a6 k).elim;exact(a1 ((Mh.zero _ _ trivial trivial).1 k)).elim;rw[Mh.anti d.L a.L trivial trivial];omega);rw[p]at e;rcases F0.1 e with rfl|e;exact q;have E:Aet (rest.drop m):=Pairwise.sublist (drop_sublist m rest) r;rw[p]at E;have h3:=(pairwise_cons.1 E).1 b e;rcases Int.lt_trichotomy (Hn b.L d.L) 0 with k|k|k;exact(h3 k).elim;rw[(Mh.zero _ _ trivial trivial).1 k];exact q;exact Mh.trans a.L d.L b.L trivial trivial trivial q (by rw[Mh.anti b.L d.L trivial trivial];omega));have:=Gs.cons x H V p2 g2;rwa [take_append_drop]at this
def Ja(Δ:Ap)(t:Ad)(v:Int)(i:Ag):Bf:=if dgo Δ t i=0 then[]else[⟨v,i⟩]
abbrev O6:=List A8×Nat
def L5(c:Rat)(p:O6):Hz:=((p.1,c),([],p.2))
def Aab(Δ:Ap)(t:Ad)(v:Int)(p:O6)(w:Ag×Nat):O6:=(p.1++Ja Δ t v w.1,p.2*w.2)
def upF(Δ:Ap)(t:Ad)(v:Int)(R:A2)(b:Λ O6):Λ O6:=b.flatMap λp=>R.map (Aab Δ t v p)
theorem A1g(o:O1 Δ Ξ Θ)(b2:At)(p:Dz Δ Ξ Θ b1)(ht:De Ξ Θ v=some t)(g:Es v){D:Nat}(l:S<=1048576)(q:D<=6)(r:GI Δ t S D i):∃b,Oo v i b1 b2 Δ Ξ Θ.G Θ.U Θ.R=some (Ja Δ t v i,b)/\Dz Δ Ξ Θ b:=by obtain⟨w,s,d,e,y⟩:=r;obtain⟨b,j,k⟩:=Ai3 (b2:=b2) o p ⟨v,i⟩ g s (by show Bt i<=_;omega) (by show(De Ξ Θ v).isSome=true;rw[ht];rfl);(have c:D0 Δ Ξ Θ ⟨v,i⟩=(d:Int):=by unfold D0;rw[ht];show J0 (Dc Δ i t)=_;rw[e,Oz ω]);(have f:dgo Δ t i=d:=by unfold dgo;rw[e]);refine⟨b,?_,k⟩;unfold Oo Ja;have j:Ot v i b1 b2 Δ Ξ Θ.G Θ.U Θ.R=some (D0 Δ Ξ Θ ⟨v,i⟩,b):=j;rw[j,Ae,c,f];by_cases h:d=0;rw[Aq h,h];rfl;rw[Ao h];have:((d:Int)==0)=false:=Da ω;simp only[this,An]
theorem Bgz{fs:Bf}(e:u.M=⟨F,[]⟩)(g:F.length+fs.length<=1000)(f:K<30000000000)(h:RB K u.C)(b:n<F1):∃w,Nj u (cR n) ⟨fs,[]⟩=some w/\w.M=⟨F++fs,[]⟩/\rq w.C=rq u.C*(n:Rat)/\RB (K+202) w.C:=by obtain⟨c,o,p,_,q⟩:=Sy h (Np.c b).rb ω ω;refine⟨⟨c,⟨F++fs,[]⟩⟩,?_,rfl,by rw[q,S3],p⟩;unfold Nj;rw[o,Ae,e,Aj4 _ _ (by show F.length+fs.length<=_;omega) ψ];rfl
theorem Aqd(Δ:Ap)(t:Ad)(v:Int)(i:Ag):(Ja Δ t v i).length<=1:=by unfold Ja;split<;>simp
noncomputable def Ae6(Δ:Ap)(Ξ:Au)(Θ:Ad)(b2:At)(v:Int)(R:Bv)(u:Aj):Int×List (Β×Int)×List Aj->Ci:=λ(b,g,f)=>bif b<(R.length:Int)then((Ah R b).bind λe=>(Oo v e.I g b2 Δ Ξ Θ.G Θ.U Θ.R).bind λc=>(Nj u e.C (A4.mk c.1 [])).bind λo=>(Bw 104 f [o]).bind λh=>some (.inl (Ac (b+1),c.2,h)))else(some (.inr (b,g,f)))
noncomputable def Ae7(Δ:Ap)(Ξ:Au)(Θ:Ad)(b2:At)(v:Int)(R:Bv)(ts:A1):Int×List (Β×Int)×List Aj->Ci:=λ(b,f,c)=>bif b<(ts.length:Int)then((Ah ts b).bind λe=>(Ak (Ae6 Δ Ξ Θ b2 v R e) (0,f,c)).bind λ(_,h,g)=>some (.inl (Ac (b+1),h,g)))else(some (.inr (b,f,c)))
noncomputable def tmO(Δ:Ap)(t:Ad)(v:Int)(u:Aj)(w:Ag×Nat):Aj:=(Nj u (cR w.2) ⟨Ja Δ t v w.1,[]⟩).getD u
theorem Bg0(C:O1 Δ Ξ Θ)(b2:At)(ht:De Ξ Θ v=some t)(E:Es v){D:Nat}(X:S<=1048576)(H:D<=6)(Z:∀w∈R,GI Δ t S D w.1/\w.2<F1)(Y:R.length<=1000){p:O6}{c:Rat}(P:K<30000000000)(Q:u.M=⟨p.1,[]⟩)(B:rq u.C=c*(p.2:Rat))(A:RB K u.C)(N:p.1.length<=900){l:Af}(W:Dz Δ Ξ Θ l)(o:A1)(ho:o.length<=100000000) :
  ∃(f:Af)(T:A1),Ak (Ae6 Δ Ξ Θ b2 v (R.map Bc) u) (0,l,o)=some ((R.length:Int),f,o++T)/\Dz Δ Ξ Θ f/\T=R.map (tmO Δ t v u)/\Gf (K+202) T ((R.map (Aab Δ t v p)).map (L5 c)):=by
 have i:(((R.map Bc).length:Nat):Int)=(R.length:Int):=by rw[Cp]
 obtain⟨e,e1,f,T,e2,e3,e4,e5⟩:=J6 (step:=Ae6 Δ Ξ Θ b2 v (R.map Bc) u) (λ(s:Int×List (Β×Int)×List Aj)=>∃(j:Nat)(m:Af)(T:A1),s=((j:Int),m,o++T)/\j<=R.length/\Dz Δ Ξ Θ m/\T=(R.take j).map (tmO Δ t v u)/\Gf (K+202) T (((R.take j).map (Aab Δ t v p)).map (L5 c))) (λs=>R.length-s.1.toNat)
  (λ(e:Int×List (Β×Int)×List Aj)=>∃(m:Af)(T:A1),e=((R.length:Int),m,o++T)/\Dz Δ Ξ Θ m/\T=R.map (tmO Δ t v u)/\Gf (K+202) T ((R.map (Aab Δ t v p)).map (L5 c))) (by
  rintro _ ⟨j,m,T,rfl,hj,g,x,b⟩
  have V:T.length=j:=by rw[x,Cp,length_take];omega
  rcases Co j R.length with h|h
  .left
   have r:R[j]?=some R[j]:=Bl h
   generalize R[j]=w at r
   obtain⟨I,G⟩:=Z w (Bu r)
   have z:(R.map Bc)[j]?=some (Bc w):=by rw[getElem?_map,r];rfl
   obtain⟨y,f1,f2⟩:=A1g C b2 g ht E X H I
   have f1:Oo v (Bc w).I m b2 Δ Ξ Θ.G Θ.U Θ.R=some (Ja Δ t v w.1,y):=f1
   have U:=Aqd Δ t v w.1
   obtain⟨q,k,M,L,J⟩:=Bgz (fs:=Ja Δ t v w.1) Q ω P A G
   have k:Nj u (Bc w).C ⟨Ja Δ t v w.1,[]⟩=some q:=k
   refine⟨((j+1:Nat),y,o++(T++[q])),?_,⟨j+1,y,T++[q],rfl,ω,f2,by rw[Cu r,map_append,x,List.map_singleton];unfold tmO;rw[show Nj u (cR w.2) ⟨Ja Δ t v w.1,[]⟩=some q from k];rfl,?_⟩,ζ⟩
   .unfold Ae6
    simp only[i,Av (ω:(j:Int)<(R.length:Int)),Al,Br rfl z,Ae,f1,k,Db h ω]
    rw[D7 ζ,Ae,append_assoc]
   .rw[Cu r,map_append,map_append]
    refine b.app (.cons M ?_ J (by show(p.1++Ja Δ t v w.1).length<=1000;rw[D6];omega) .nil)
    rw[L,B]
    show _=c*((p.2*w.2:Nat):Rat)
    rw[Rat.natCast_mul];grind
  .have:j=R.length:=ω
   subst this
   rw[C6]at b x
   exact .inr ⟨_,by unfold Ae6;simp only[i,A6 (ω:¬(R.length:Int)<(R.length:Int)),An],m,T,rfl,g,x,b⟩) (0,l,o) ⟨0,l,[],ψ,ω,W,rfl,by simpa using Gf.nil⟩
 exact⟨f,T,by rw[<-e2];exact e1,e3,e4,e5⟩
theorem Bg1(r:O1 Δ Ξ Θ)(b2:At)(ht:De Ξ Θ v=some t)(B:Es v){D:Nat}(X:S<=1048576)(C:D<=6)(Y:∀w∈R,GI Δ t S D w.1/\w.2<F1)(z:R.length<=1000){i:Λ O6}{c:Rat}(Z:K<30000000000)(l:Gf K ts (i.map (L5 c)))(A:∀p∈i,p.1.length<=900)(hl:i.length*R.length<=90000000)(a1:i.length<=10000000){x:Af}(H:Dz Δ Ξ Θ x) :
  ∃(g:Af)(T:A1),Ak (Ae7 Δ Ξ Θ b2 v (R.map Bc) ts) (0,x,[])=some ((ts.length:Int),g,T)/\Dz Δ Ξ Θ g/\T=ts.flatMap (λu=>R.map (tmO Δ t v u))/\Gf (K+202) T ((upF Δ t v R i).map (L5 c)):=by
 have y:ts.length=i.length:=by rw[l.len,Cp]
 obtain⟨e,P,g,T,Q,W,e5,e4⟩:=J6 (step:=Ae7 Δ Ξ Θ b2 v (R.map Bc) ts) (λ(s:Int×List (Β×Int)×List Aj)=>∃(j:Nat)(m:Af)(T:A1),s=((j:Int),m,T)/\j<=ts.length/\Dz Δ Ξ Θ m/\T=(ts.take j).flatMap (λu=>R.map (tmO Δ t v u))/\T.length=j*R.length/\Gf (K+202) T ((upF Δ t v R (i.take j)).map (L5 c))) (λs=>ts.length-s.1.toNat)
  (λ(e:Int×List (Β×Int)×List Aj)=>∃(m:Af)(T:A1),e=((ts.length:Int),m,T)/\Dz Δ Ξ Θ m/\T=ts.flatMap (λu=>R.map (tmO Δ t v u))/\Gf (K+202) T ((upF Δ t v R i).map (L5 c))) (by
  rintro _ ⟨j,m,T,rfl,hj,q,k,V,f⟩
  rcases Co j ts.length with h|h
  .left
   have o:ts[j]?=some ts[j]:=Bl h
   generalize ts[j]=u at o
   obtain⟨b,b1,E,b3,b4,b5⟩:=l.get o
   rw[getElem?_map]at b1
   obtain⟨p,hp,rfl⟩:=Option.map_eq_some_iff.1 b1
   have N:j*R.length<=i.length*R.length:=Nat.mul_le_mul_right _ ω
   obtain⟨I,U,M,L,G,J⟩:=Bg0 r b2 ht B X C Y z Z E b3 b4 (A p (Bu hp)) q T ω
   refine⟨((j+1:Nat),I,T++U),?_,⟨j+1,I,T++U,rfl,ω,L,by rw[Ap2 _ o,k,G],by rw[D6,V,G,Cp,Nat.add_mul,Nat.one_mul],?_⟩,ζ⟩
   .unfold Ae7
    simp only[Av (ω:(j:Int)<(ts.length:Int)),Al,Br rfl o,Ae,M,Db h ω]
   .unfold upF at f ⊢
    rw[Ap2 _ hp,map_append]
    exact f.app J
  .have:j=ts.length:=ω
   subst this
   rw[y,C6]at f
   rw[C6]at k
   exact .inr ⟨_,by unfold Ae7;simp only[A6 (ω:¬(ts.length:Int)<(ts.length:Int)),An],m,T,rfl,q,k,f⟩) (0,x,[]) ⟨0,x,[],rfl,ω,H,ψ,ψ,by simpa[upF]using Gf.nil⟩
 exact⟨g,T,by rw[<-Q];exact P,W,e5,e4⟩
structure Ta(Δ:List Ai)(Ξ:List Ad)(Θ:Ad)(F:List A8):Prop where
 fac:∀f∈F,Es f.v/\iR f.I/\1<=D0 Δ Ξ Θ f
 siz:(F.map λf=>Bt f.I).sum<=400000
 sum:Cf Δ Ξ Θ F<=6
theorem Aac{f:A8}(h:1<=D0 Δ Ξ Θ f):∃t d,De Ξ Θ f.v=some t/\Dc Δ f.I t=some d/\1<=d/\d<=6/\D0 Δ Ξ Θ f=(d:Nat):=by unfold D0 at h⊢;cases e:De Ξ Θ f.v with|none=>rw[e]at h;exact absurd (show(1:Int)<=-1 from h) δ|some t=>rw[e]at h;(rcases Aio (Dc Δ f.I t)with⟨o,_⟩|⟨d,o,p,q⟩);have h:1<=J0 (Dc Δ f.I t):=h;omega;have h:1<=J0 (Dc Δ f.I t):=h;exact⟨t,d,rfl,o,ω,p,q⟩
theorem Rr(l m:Bf):Cf Δ Ξ Θ (l++m)=Cf Δ Ξ Θ l+Cf Δ Ξ Θ m:=by unfold Cf;simp[sum_append]
theorem O7{Δ:Ap}{Ξ:Au}{Θ:Ad}:∀{l:Bf},(∀f∈l,1<=D0 Δ Ξ Θ f)->(l.length:Int)<=Cf Δ Ξ Θ l
 |[],_=>by simp[Cf]
 |f::l,h=>by have o:=h f ψ;have p:=O7 (l:=l) λg e=>h g (by simp[e]);have:Cf Δ Ξ Θ (f::l)=D0 Δ Ξ Θ f+Cf Δ Ξ Θ l:=(by unfold Cf;simp);simp only[D3];omega
structure FGz(Δ:List Ai)(Ξ:List Ad)(Θ:Ad)(F:List A8):Prop where
 fac:∀f∈F,Es f.v/\iR f.I/\0<=D0 Δ Ξ Θ f
 siz:(F.map λf=>Bt f.I).sum<=400000
 sum:Cf Δ Ξ Θ F<=6
 len:F.length<=8
theorem Ta.gz(h:Ta Δ Ξ Θ F):FGz Δ Ξ Θ F:=by have h1:=O7 (Δ:=Δ) (Ξ:=Ξ) (Θ:=Θ) (l:=F) λf hf=>(h.fac f hf).2.2;have h2:=h.sum;exact⟨λf hf=>by have:=h.fac f hf;exact⟨this.1,this.2.1,ω⟩,h.siz,h.sum,ω⟩
theorem Aqe{f:A8}(h:0<=D0 Δ Ξ Θ f):∃t d,De Ξ Θ f.v=some t/\Dc Δ f.I t=some d/\d<=6/\D0 Δ Ξ Θ f=(d:Nat):=by unfold D0 at h⊢;cases e:De Ξ Θ f.v with|none=>rw[e]at h;exact absurd (show(0:Int)<=-1 from h) δ|some t=>rw[e]at h;(rcases Aio (Dc Δ f.I t)with⟨o,_⟩|⟨d,o,p,q⟩);have h:0<=J0 (Dc Δ f.I t):=h;omega;exact⟨t,d,rfl,o,p,q⟩
theorem Xr{Δ:Ap}{Ξ:Au}{Θ:Ad}:∀{l:Bf},(∀f∈l,0<=D0 Δ Ξ Θ f)->0<=Cf Δ Ξ Θ l
 |[],_=>by simp[Cf]
 |f::l,h=>by have o:=h f ψ;have p:=Xr (l:=l) λg e=>h g (by simp[e]);have:Cf Δ Ξ Θ (f::l)=D0 Δ Ξ Θ f+Cf Δ Ξ Θ l:=(by unfold Cf;simp);omega
theorem FGz.app(h:FGz Δ Ξ Θ (l++m)):FGz Δ Ξ Θ l/\FGz Δ Ξ Θ m:=by have h1:=h.siz;have h2:=h.sum;have h3:=h.len;rw[map_append,sum_append]at h1;rw[Rr]at h2;rw[D6]at h3;have f1:=Xr (Δ:=Δ) (Ξ:=Ξ) (Θ:=Θ) (l:=l) λf hf=>(h.fac f (by simp[hf])).2.2;have f2:=Xr (Δ:=Δ) (Ξ:=Ξ) (Θ:=Θ) (l:=m) λf hf=>(h.fac f (by simp[hf])).2.2;exact⟨⟨λf hf=>h.fac f (by simp[hf]),ω,ω,ω⟩,⟨λf hf=>h.fac f (by simp[hf]),ω,ω,ω⟩⟩
theorem Bg2{g:Bf}(s:g≠[])(hg:∀f∈g,f.v=v)(c:FGz Δ Ξ Θ g):∃t k r,De Ξ Θ v=some t/\Es v/\g=fl v (k::r)/\GG Δ t (k::r)/\Cf Δ Ξ Θ g=(Fd Δ t (k::r):Nat):=by cases g with|nil=>exact(s rfl).elim|cons f0 g=>have j:=hg f0 ψ;obtain⟨t,d0,w,_⟩:=Aqe (c.fac f0 ψ).2.2;rw[j]at w;have x:∀l:Bf,(∀f∈l,f.v=v)->l=fl v (l.map (·.I)):=(by intro l;induction l with|nil=>intro _;rfl|cons a l ih=>intro h;have H:=h a ψ;have C:=ih λf e=>h f (by simp[e]);show a::l=⟨v,a.I⟩::fl v (l.map (·.I));rw[<-C,<-H]);(have G:∀f∈f0::g,Dc Δ f.I t=some (dgo Δ t f.I)/\D0 Δ Ξ Θ f=(dgo Δ t f.I:Nat):=λf e=>by obtain⟨t',d,t1,t2,t4,t5⟩:=Aqe (c.fac f e).2.2;rw[hg f e,w]at t1;cases t1;have:dgo Δ t f.I=d:=(by unfold dgo;rw[t2]);rw[this];exact⟨t2,t5⟩);have y:∀l:Bf,(∀f∈l,f∈f0::g)->Cf Δ Ξ Θ l=(Fd Δ t (l.map (·.I)):Nat):=(by intro l;induction l with|nil=>intro _;simp[Cf,Fd]|cons a l ih=>intro h;obtain⟨_,C⟩:=G a (h a ψ);have I:=ih λf e=>h f (by simp[e]);have E:Cf Δ Ξ Θ (a::l)=D0 Δ Ξ Θ a+Cf Δ Ξ Θ l:=(by unfold Cf;simp);have D:Fd Δ t ((a::l).map (·.I))=dgo Δ t a.I+Fd Δ t (l.map (·.I)):=(by unfold Fd;simp);rw[E,D];omega);have z:=y (f0::g) λf e=>e;have A:=c.sum;have q:∀l:Bf,(l.map λf=>Bt f.I).sum=B7 (l.map (·.I)):=(by intro l;induction l with|nil=>rfl|cons a l ih=>simp only[map_cons,sum_cons,B7,ih]);have b:=c.siz;rw[q]at b;have p:(f0::g).map (·.I)=f0.I::g.map (·.I):=rfl;rw[p]at z b;have u:=c.len;simp only[D3]at u;have B:=x (f0::g) hg;rw[p]at B;refine⟨t,f0.I,g.map (·.I),w,by rw[<-j];exact(c.fac f0 ψ).1,B,⟨λi o=>?_,λi o=>?_,b,ω,by rw[D3,Cp];omega⟩,z⟩;rw[<-p]at o;obtain⟨f,e,rfl⟩:=mem_map.1 o;exact(c.fac f e).2.1;rw[<-p]at o;obtain⟨f,e,rfl⟩:=mem_map.1 o;exact(G f e).1
def Vd(Δ:Ap)(Ξ:Au)(Θ:Ad)(χ:A8->Nat)(P:Bf):Prop:=∀g∈P,∀t,De Ξ Θ g.v=some t->Aqa Δ t (λi=>χ ⟨g.v,i⟩)/\∀i,Dc Δ i t=some 0->iR i->Bt i<=400000->χ ⟨g.v,i⟩=1
structure Tb(Δ:List Ai)(Ξ:List Ad)(Θ:Ad)(P:List A8)(FE:List O6):Prop where
 pos:∀p∈FE,1<=p.2
 fac:∀p∈FE,∀f∈p.1,Es f.v/\iR f.I/\Bt f.I<=(P.map λf=>Bt f.I).sum/\1<=D0 Δ Ξ Θ f/\∃g∈P,g.v=f.v
 asc:∀p∈FE,p.1.Pairwise λa b=>a.v<b.v
 sum:∀p∈FE,Cf Δ Ξ Θ p.1<=Cf Δ Ξ Θ P
 val:∀χ,Vd Δ Ξ Θ χ P->pv (λF=>Du (F.map χ)) FE=Du (P.map χ)
 len:FE.length*FE.length<=10^((Cf Δ Ξ Θ P).toNat+P.length)
theorem Tb.nil(Δ:Ap)(Ξ:Au)(Θ:Ad):Tb Δ Ξ Θ [] [([],1)]:=by(have h:∀p∈[(([]:Bf),1)],p=([],1):=λp hp=>by simpa using hp);refine⟨λp hp=>?_,λp hp f hf=>?_,λp hp=>?_,λp hp=>?_,λχ _=>rfl,Nat.le_refl _⟩;rw[h p hp];exact Nat.le_refl _;rw[h p hp]at hf;cases hf;rw[h p hp];exact Pairwise.nil;rw[h p hp];exact Int.le_refl _
theorem Xs:∀(l m:D4),Du (l++m)=Du l*Du m
 |[],m=>by simp[Du]
 |a::l,m=>by rw[Ej,Du,Du,Xs l m,Nat.mul_assoc]
theorem A1h{α β:Type}(f:β->Nat)(g:α->β)(c:Nat):∀L:Λ (α×Nat),pv f (L.map λw=>(g w.1,c*w.2))=c*pv (λx=>f (g x)) L
 |[]=>rfl
 |p::L=>by rw[map_cons,pv,A1h f g c L,pv,Nat.mul_add,Nat.mul_assoc]
theorem Tb.step{P:Bf}{u:Λ O6}(h:Tb Δ Ξ Θ P u)(ht:De Ξ Θ v=some t)(U:Es v){c:A0}(S:GG Δ t (j::c))(M:Cf Δ Ξ Θ (fl v (j::c))=(Fd Δ t (j::c):Nat))(T:∀f∈P,f.v<v)(a7:0<=Cf Δ Ξ Θ P)(z:PRg Δ t j c R):Tb Δ Ξ Θ (P++fl v (j::c)) (upF Δ t v R u):=by have hs:=S.siz;have a6:=S.sum;(have s:∀q∈upF Δ t v R u,∃p∈u,∃w∈R,q=Aab Δ t v p w:=λq r=>by unfold upF at r;obtain⟨p,hp,r⟩:=mem_flatMap.1 r;obtain⟨w,o,rfl⟩:=mem_map.1 r;exact⟨p,hp,w,o,rfl⟩);(have B:∀w∈R,∀f∈Ja Δ t v w.1,f=⟨v,w.1⟩/\1<=dgo Δ t w.1:=λw o f hf=>by unfold Ja at hf;split at hf;cases hf;rename_i h0;simp only[Ee]at hf;exact⟨hf,ω⟩);(have A:∀w∈R,Dc Δ w.1 t=some (dgo Δ t w.1)/\dgo Δ t w.1<=Fd Δ t (j::c)/\D0 Δ Ξ Θ ⟨v,w.1⟩=(dgo Δ t w.1:Nat):=λw o=>by obtain⟨_,_,d,d1,d2⟩:=z.cw.mo w o;have e:dgo Δ t w.1=d:=(by unfold dgo;rw[d1]);rw[e];refine⟨d1,d2,?_⟩;unfold D0;rw[ht];show J0 (Dc Δ w.1 t)=_;rw[d1,Oz ω]);(have x:((P++fl v (j::c)).map λf=>Bt f.I).sum=(P.map λf=>Bt f.I).sum+B7 (j::c):=by rw[map_append,sum_append];congr 1;(have C:∀l:A0,((fl v l).map λf=>Bt f.I).sum=B7 l:=λl=>by induction l with|nil=>rfl|cons a l ih=>show Bt a+((fl v l).map λf=>Bt f.I).sum=B7 (a::l);rw[ih];simp only[B7]);exact C _);(have I:Cf Δ Ξ Θ (P++fl v (j::c))=Cf Δ Ξ Θ P+(Fd Δ t (j::c):Nat):=by rw[Rr,M]);have J:(Cf Δ Ξ Θ (P++fl v (j::c))).toNat=(Cf Δ Ξ Θ P).toNat+Fd Δ t (j::c):=ω;(have y:(upF Δ t v R u).length<=u.length*R.length:=by unfold upF;exact Akh _ _ _ λp _=>by rw[Cp];exact Nat.le_refl _);have D:R.length<=3^(Fd Δ t (j::c)*c.length):=Nat.le_trans (N4 z.cw.pos) z.cnt;refine⟨λq r=>?_,λq r f hf=>?_,λq r=>?_,λq r=>?_,λχ Z=>?_,?_⟩;obtain⟨p,hp,w,o,rfl⟩:=s q r;exact Nat.mul_pos (h.pos p hp) (z.cw.pos w o);obtain⟨p,hp,w,o,rfl⟩:=s q r;rcases E9.1 hf with hf|hf;obtain⟨W,a2,a3,a4,g,H,Q⟩:=h.fac p hp f hf;exact⟨W,a2,by rw[x];omega,a4,g,by simp[H],Q⟩;obtain⟨rfl,h1⟩:=B w o f hf;obtain⟨x1,G,_⟩:=z.cw.mo w o;obtain⟨_,_,E⟩:=A w o;exact⟨U,G,by rw[x];show Bt w.1<=_;omega,by rw[E];omega,⟨v,j⟩,by simp[fl],rfl⟩;obtain⟨p,hp,w,o,rfl⟩:=s q r;refine pairwise_append.2 ⟨h.asc p hp,?_,λa ha b hb=>?_⟩;unfold Ja;split<;>simp;obtain⟨rfl,_⟩:=B w o b hb;obtain⟨_,_,_,_,g,H,Q⟩:=h.fac p hp a ha;rw[<-Q];exact T g H;obtain⟨p,hp,w,o,rfl⟩:=s q r;have h1:=h.sum p hp;obtain⟨_,y2,E⟩:=A w o;show Cf Δ Ξ Θ (p.1++Ja Δ t v w.1)<=_;rw[Rr,I];(have:Cf Δ Ξ Θ (Ja Δ t v w.1)<=(Fd Δ t (j::c):Nat):=by unfold Ja;split;show(0:Int)<=_;omega;show D0 Δ Ξ Θ ⟨v,w.1⟩+0<=_;rw[E];omega);omega;obtain⟨m1,m2⟩:=Z ⟨v,j⟩ (by simp[fl]) t ht;(have X:pv (λF=>Du (F.map χ)) (upF Δ t v R u)=pv (λF=>pv (λi=>χ ⟨v,i⟩) R*Du (F.map χ)) u:=by unfold upF;refine Aew _ _ _ _ λp hp=>?_;have V:R.map (Aab Δ t v p)=R.map λw=>(p.1++Ja Δ t v w.1,p.2*w.2):=rfl;rw[V,A1h (λF=>Du (F.map χ)) (λi=>p.1++Ja Δ t v i) p.2 R];congr 1;rw[<-Nat.mul_comm (Du _),<-Qb];refine S5 λw o=>?_;show Du ((p.1++Ja Δ t v w.1).map χ)=Du (p.1.map χ)*χ ⟨v,w.1⟩;rw[map_append,Xs];congr 1;obtain⟨x1,G,_⟩:=z.cw.mo w o;obtain⟨Y,_⟩:=A w o;unfold Ja;split;rename_i h0;rw[h0]at Y;rw[m2 w.1 Y G ω];rfl;show χ ⟨v,w.1⟩*1=_;omega);rw[X,Qb,h.val χ λg hg=>Z g (by simp[hg]),z.val,A1b m1 c j S,map_append,Xs,Nat.mul_comm];congr 1;show _=χ ⟨v,j⟩*Du ((fl v c).map χ);unfold fl;rw[map_map];rfl;have hl:=z.len;have L:(fl v (j::c)).length=c.length+1:=(by unfold fl;rw[Cp,D3]);(have N:R.length*R.length<=10^(Fd Δ t (j::c)+(c.length+1)):=by rcases Co (Fd Δ t (j::c)+c.length) 5 with k|k;have h0:∀a,a<5->∀b,b<5->a+b<5->a*b<=a+b+1:=δ;have h1:(3:Nat)^(Fd Δ t (j::c)*c.length)<=3^(Fd Δ t (j::c)+(c.length+1)):=Nat.pow_le_pow_right δ (by have:=h0 _ ω _ ω k;omega);have h2:=Nat.mul_le_mul (Nat.le_trans D h1) (Nat.le_trans D h1);rw[<-Nat.mul_pow]at h2;exact Nat.le_trans h2 (Nat.pow_le_pow_left δ _);have h1:(10:Nat)^6<=10^(Fd Δ t (j::c)+(c.length+1)):=Nat.pow_le_pow_right δ ω;have h2:=Nat.mul_le_mul hl hl;omega);have X:(Cf Δ Ξ Θ (P++fl v (j::c))).toNat+(P++fl v (j::c)).length=((Cf Δ Ξ Θ P).toNat+P.length)+(Fd Δ t (j::c)+(c.length+1)):=(by rw[J,D6,L];omega);rw[X,Nat.pow_add];refine Nat.le_trans (Nat.mul_le_mul y y) ?_;have V:u.length*R.length*(u.length*R.length)=u.length*u.length*(R.length*R.length):=(by ac_rfl);rw[V];exact Nat.mul_le_mul h.len N
noncomputable def Ako(r:Bf)(v:Int):Int->Ο (Int⊕Int):=λb=>bif b<(r.length:Int)then((Ah r b).bind λc=>bif(c.v==v)then(some (.inl (Ac (b+1))))else(some (.inr b)))else(some (.inr b))
theorem Bg3{r:Bf}{a:A8}(h0:r[0]?=some a)(q:r.length<=1000) :
  ∃n:Nat,Ak (Ako r a.v) 1=some (n:Int)/\1<=n/\n<=r.length/\(∀b∈r.take n,b.v=a.v)/\∀b,r[n]?=some b->b.v≠a.v:=by
 have p:=Ek h0
 obtain⟨e,l,n,k,i⟩:=J6 (step:=Ako r a.v) (λs=>∃n:Nat,s=(n:Int)/\1<=n/\n<=r.length/\∀b∈r.take n,b.v=a.v) (λs=>r.length-s.toNat)
  (λe=>∃n:Nat,e=(n:Int)/\1<=n/\n<=r.length/\(∀b∈r.take n,b.v=a.v)/\∀b,r[n]?=some b->b.v≠a.v) (by
  rintro _ ⟨j,rfl,g,f,c⟩
  unfold Ako
  rcases Co j r.length with h|h
  .have w:r[j]?=some r[j]:=Bl h
   generalize r[j]=b at w
   simp only[Av (ω:(j:Int)<(r.length:Int)),Al,Br rfl w,Ae,Db h ω]
   by_cases y:b.v=a.v
   .left
    rw[Fa y]
    refine⟨_,rfl,⟨j+1,rfl,ω,ω,λd o=>?_⟩,ω⟩
    rw[Cu w]at o
    rcases E9.1 o with o|o
    .exact c d o
    .simp only[Ee]at o
     rw[o];exact y
   .right
    rw[Da y]
    exact⟨_,rfl,j,rfl,g,f,c,λd o=>by rw[w]at o;cases o;exact y⟩
  .right
   refine⟨_,by simp only[A6 (ω:¬(j:Int)<(r.length:Int)),An],j,rfl,g,f,c,λd o=>?_⟩
   have:=Ek o
   omega) 1 ⟨1,rfl,ω,ω,λb C=>by
    cases r with
    |nil=>simp at p
    |cons x r=>simp at C h0;rw[C,h0]⟩
 exact⟨n,by rw[<-k];exact l,i⟩
noncomputable def Xt(Δ:Ap)(Ξ:Au)(Θ:Ad):(List Aj×List A8×List (Β×Int)×List (Β×List As))->Ο ((List Aj×List A8×List (Β×Int)×List (Β×List As))⊕((List Aj×Int×List (Β×Int)×List (Β×List As))⊕(List Aj×List (Β×Int)×List (Β×List As)))):=λ(e,c,f,h)=>bif(c.length:Int)>(0:Int)then((Ah c 0).bind λo=>(Ak (Ako c o.v) 1).bind λg=>(En c 0 g).bind λj=>(Qw j f h Δ Ξ Θ.G Θ.U Θ.R).bind λb=>bif(b.2.1 != (0:Int))then(some (.inr (.inl ([],b.2.1,f,b.2.2))))else((Ak (Ae7 Δ Ξ Θ b.2.2 o.v b.1 e) (0,f,[])).bind λ(p,l,k)=>(En c g c.length).bind λi=>some (.inl (k,i,l,b.2.2))))else(some (.inr (.inr (e,f,h))))
theorem A1i(Δ:Ap)(t:Ad)(v:Int)(R:A2):∀b:Λ O6,(upF Δ t v R b).length=b.length*R.length
 |[]=>by simp[upF]
 |p::b=>by have ih:=A1i Δ t v R b;unfold upF at ih⊢;rw[flatMap_cons,D6,ih,Cp,D3,Nat.add_mul];omega
def Tc(l:Bf):Prop:=∃v:Int,3<=(l.filter λf=>f.v==v).length
theorem Tc.app(h:Tc m):Tc (l++m):=by obtain⟨v,h⟩:=h;exact⟨v,by rw[filter_append,D6];omega⟩
theorem Tc.perm(hp:l.Perm m)(h:Tc l):Tc m:=by obtain⟨v,h⟩:=h;exact⟨v,by rw[<-(hp.filter _).length_eq];exact h⟩
theorem Aqf(h:n*n<=10^k)(o:k<=14):n<=10000000:=by rcases Co 10000000 n with e|e;have p:=Nat.mul_le_mul e e;have q:(10:Nat)^k<=10^14:=Nat.pow_le_pow_right δ o;omega;exact e
theorem Bg4(h:d<=6):10^d<=1000000:=Nat.le_trans (Nat.pow_le_pow_right δ h) δ
theorem Bg5(hz:DSz Δ)(hv:Hj Δ)(hx:O1 Δ Ξ Θ)(ah:∀v t,De Ξ Θ v=some t->Fc Δ t=true){c:Rat}:∀(n:Nat)(rest P:Bf)(ts:A1)(A:Λ O6)(K:Nat),rest.length<=n->rest.Pairwise (λa b=>a.v<=b.v)->(∀f∈P,∀g∈rest,f.v<g.v)->FGz Δ Ξ Θ (P++rest)->Gf K ts (A.map (L5 c))->Tb Δ Ξ Θ P A->(∀p∈A,p.1.length<=6)->K+202*rest.length<30000000000->(Tc rest/\∀i s,Dz Δ Ξ Θ i->PMg Δ Ξ Θ s->∃k u,Ak (Xt Δ Ξ Θ) (ts,rest,i,s)=some (.inl ([],9,k,u))/\Dz Δ Ξ Θ k/\PMg Δ Ξ Θ u)\/(∃B J,Gf (K+202*rest.length) B (J.map (L5 c))/\Tb Δ Ξ Θ (P++rest) J/\∀i s,Dz Δ Ξ Θ i->PMg Δ Ξ Θ s->∃k u,Ak (Xt Δ Ξ Θ) (ts,rest,i,s)=some (.inr (B,k,u))/\Dz Δ Ξ Θ k/\PMg Δ Ξ Θ u):=by intro n;induction n with|zero=>intro rest P ts A K hn _ _ _ W C _ _;have:rest=[]:=Hb.1 ω;subst this;exact .inr ⟨ts,A,by simpa using W,by rw[append_nil];exact C,λi s o H=>⟨i,s,G0 (by unfold Xt;simp),o,H⟩⟩|succ n ih=>intro rest P ts A K hn hS a8 S W C ao hK;cases j:rest with|nil=>exact .inr ⟨ts,A,by simpa using W,by rw[append_nil];exact C,λi s o H=>⟨i,s,G0 (by unfold Xt;simp),o,H⟩⟩|cons a r'=>rw[<-j];(have h0:rest[0]?=some a:=by rw[j];rfl);have aq:0<rest.length:=Ek h0;have az:=S.sum;have ab:=S.len;rw[D6]at ab;obtain⟨m,m1,m2,m3,m4,m5⟩:=Bg3 h0 ω;have E:rest=rest.take m++rest.drop m:=(take_append_drop m rest).symm;(have Z:rest.take m≠[]:=by intro h;have:=congrArg length h;rw[length_take]at this;simp only[length_nil]at this;omega);have aa:=S.app.2;(have ap:FGz Δ Ξ Θ (rest.take m):=by rw[E]at aa;exact aa.app.1);obtain⟨t,i0,Q,t1,t2,t3,t4,t5⟩:=Bg2 Z m4 ap;have Y:Ah rest 0=some a:=Br (n:=0) rfl h0;(have ad:En rest (m:Int) (rest.length:Int)=some (rest.drop m):=by unfold En;simp[drop_take];omega);have am:0<=Cf Δ Ξ Θ P:=Xr λf e=>(S.fac f (by simp[e])).2.2;have b0:0<=Cf Δ Ξ Θ (rest.drop m):=Xr λf e=>(S.fac f (by have:=mem_of_mem_drop e;simp[this])).2.2;(have eP:Cf Δ Ξ Θ (P++rest.take m)+Cf Δ Ξ Θ (rest.drop m)=Cf Δ Ξ Θ (P++rest):=by rw[Rr,Rr,Int.add_assoc,<-Rr (rest.take m),take_append_drop]);have ay:0<=Cf Δ Ξ Θ (rest.take m):=Xr λf e=>(S.fac f (by have:=mem_of_mem_take e;simp[this])).2.2;(have ax:(Cf Δ Ξ Θ P).toNat<=6:=by rw[Rr]at eP;omega);(have ar:(rest.drop m).length+m=rest.length:=by rw[length_drop];omega);(rcases Bgu hz hv (ah a.v t t1) t1 t2 t4 with⟨r,q⟩|⟨R,G,q⟩);refine .inl ⟨⟨a.v,?_⟩,λi s N M=>?_⟩;rw[<-take_append_drop m rest,filter_append,D6,filter_eq_self.2 λf e=>by simp[m4 f e],t3];unfold fl;rw[Cp,D3];omega;obtain⟨I,V,q2⟩:=q i s M;rw[<-t3]at V;refine⟨i,I,G0 ?_,N,q2⟩;unfold Xt;simp only[Av (ω:(rest.length:Int)>0),Al,Y,Ae,m1,W2 rfl m3,V];rfl;have z:=C.step t1 t2 t4 (by rw[<-t3];exact t5) (λf e=>by have:=a8 f e a (by rw[j];simp);exact this) am G;have ac:=Aqf C.len ω;have ak:=G.len;(have h9:A.length*R.length<=10000000:=by have o:=z.len;rw[A1i Δ t a.v R A,<-t3]at o;refine Aqf o ?_;rw[D6,length_take];omega);rw[<-t3]at z;have ag:=t4.len;simp only[D3]at ag;(have aj:∀w∈R,GI Δ t (B7 (i0::Q)) (Fd Δ t (i0::Q)) w.1/\w.2<F1:=λw hw=>by refine⟨G.cw.mo w hw,?_⟩;have o:=Rq hw;have H:=G.cnt;have h3:(3:Nat)^(Fd Δ t (i0::Q)*Q.length)<=3^42:=Nat.pow_le_pow_right δ (Nat.mul_le_mul t4.sum (show Q.length<=7 by omega));(have h4:(3:Nat)^42<F1:=by unfold F1;decide);omega);have a1:=λ(b2:At) (i:Af) (hm:Dz Δ Ξ Θ i)=>Bg1 hx b2 t1 t2 (by have:=t4.siz;omega) t4.sum aj ak ω W (λp hp=>by have:=ao p hp;omega) ω ω hm;obtain⟨_,T,_,_,hT,u3⟩:=a1 [] [] (λp hp=>by cases hp);(have x:∀i s,Dz Δ Ξ Θ i->PMg Δ Ξ Θ s->∃k u,Xt Δ Ξ Θ (ts,rest,i,s)=some (.inl (T,rest.drop m,k,u))/\Dz Δ Ξ Θ k/\PMg Δ Ξ Θ u:=λi s N M=>by obtain⟨I,V,q2⟩:=q i s M;rw[<-t3]at V;obtain⟨k,U,u1,u2,hU,_⟩:=a1 I i N;rw[<-hT]at hU;subst hU;refine⟨k,I,?_,u2,q2⟩;unfold Xt;simp only[Av (ω:(rest.length:Int)>0),Al,Y,Ae,m1,W2 rfl m3,V,show((0:Int) != 0)=false from rfl,An,u1,ad]);(have af:∀b∈rest.drop m,a.v<b.v:=by intro b r;cases hd:rest.drop m with|nil=>rw[hd]at r;cases r|cons d D=>(have y:rest[m]?=some d:=by have:=congrArg (λl=>l[0]?) hd;simpa using this);have au:=m5 d y;(have av:a.v<=d.v:=by have a7:=hS;rw[j]at a7;(have ai:d∈r':=by have ae:m=(m-1)+1:=ω;rw[j,ae,getElem?_cons_succ]at y;exact Bu y);exact(pairwise_cons.1 a7).1 d ai);have a6:(rest.drop m).Pairwise (λa b=>a.v<=b.v):=Pairwise.sublist (drop_sublist m rest) hS;rw[hd]at r a6;rcases F0.1 r with rfl|r;omega;have:=(pairwise_cons.1 a6).1 b r;omega);(have L:P++rest.take m++rest.drop m=P++rest:=by rw[append_assoc,take_append_drop]);have X:=ih (rest.drop m) (P++rest.take m) T (upF Δ t a.v R A) (K+202) ω (Pairwise.sublist (drop_sublist m rest) hS) (λf e g hg=>by rcases E9.1 e with e|e;exact a8 f e g (mem_of_mem_drop hg);rw[m4 f e];exact af g hg) (by rw[L];exact S) u3 z (λp hp=>by have o:=z.sum p hp;have H:=O7 (Δ:=Δ) (Ξ:=Ξ) (Θ:=Θ) (l:=p.1) λf e=>(z.fac p hp f e).2.2.2.1;omega) ω;rw[L]at X;(rcases X with⟨y1,y2⟩|⟨B,J,w4,w5,y2⟩);refine .inl ⟨by rw[<-take_append_drop m rest];exact y1.app,λi s N M=>?_⟩;obtain⟨p1,p2,s1,s2,s3⟩:=x i s N M;obtain⟨r1,r2,s4,s5⟩:=y2 p1 p2 s2 s3;exact⟨r1,r2,by rw[Mo s1,s4],s5⟩;refine .inr ⟨B,J,w4.mono ω,w5,λi s N M=>?_⟩;obtain⟨p1,p2,s1,s2,s3⟩:=x i s N M;obtain⟨r1,r2,s4,s5⟩:=y2 p1 p2 s2 s3;exact⟨r1,r2,by rw[Mo s1,s4],s5⟩
def IsE(A:A7)(B:Λ F2):Prop:=∃e b,b.Perm A/\Aet b/\Gs e b/\B=Mx [([],1)] e
def Ae8(Ξ:Au)(Θ:Ad)(L:A7):Prop:=L.Pairwise (λa b=>Hn a.L b.L<0)/\∀a∈L,1<=a.P/\Jd a.L=true/\a.L.T.length≠0/\Kx Ξ Θ a.L=true
theorem Bg6(l m:A7):E6 (l++m)=E6 l+E6 m:=by unfold E6;simp[sum_append]
theorem A1j:∀{u:Λ Grp}{rest:A7},Gs u rest->(∀a∈rest,Jd a.L=true/\Kx Ξ Θ a.L=true)->∀(B:Λ F2)(S:Int),(∀b∈B,Ae8 Ξ Θ b.1/\E6 b.1<=S/\∀a∈b.1,∀r∈rest,Hn a.L r.L<0)->∀b∈Mx B u,Ae8 Ξ Θ b.1/\E6 b.1<=S+(Dt rest:Nat):=by intro u rest h;induction h with|nil=>intro _ B S z b o;have:=z b o;exact⟨this.1,by have:=this.2.1;omega⟩|@cons l N f g rest u x P E I M ih=>intro A B S z;obtain⟨w,j⟩:∃a,a∈g:=(by cases g with|nil=>exact(x rfl).elim|cons a _=>exact⟨a,ψ⟩);have s:=P w j;have q:=A w (by simp[j]);rw[s]at q;(have J:∀k,k<N+1->k≠0->l.T.length≠0/\k<=Dt g:=by intro k p G;(rcases I with⟨Q,H⟩|⟨_,H,_⟩);exact⟨Q,by rw[<-H.1];omega⟩;omega);intro b o;have:=ih (λa e=>A a (by simp[e])) (Hy B l f (N+1)) (S+(Dt g:Nat)) (by intro b o;unfold Hy at o;rw[mem_flatMap]at o;obtain⟨k,i,p⟩:=o;have i:=mem_range.1 i;split at p;cases p;rw[mem_map]at p;obtain⟨d,T,rfl⟩:=p;obtain⟨d1,d2,d3⟩:=z d T;(have y:∀a∈d.1,Hn a.L l<0:=λa e=>by have:=d3 a e w (by simp[j]);rwa [s]at this);unfold atO;by_cases C:k=0;rw[Aq C,append_nil];exact⟨d1,by show E6 d.1<=S+((Dt g:Nat):Int);omega,λa e r c=>d3 a e r (by simp[c])⟩;rw[Ao C];obtain⟨D,L⟩:=J k i C;refine⟨⟨pairwise_append.2 ⟨d1.1,pairwise_singleton _ _,λa e b o=>?_⟩,λa e=>?_⟩,?_,λa e r c=>?_⟩;simp only[Ee]at o;subst o;exact y a e;rcases E9.1 e with e|e;exact d1.2 a e;simp only[Ee]at e;subst e;exact⟨by show(1:Int)<=(k:Int);omega,q.1,D,q.2⟩;show E6 (d.1++[⟨l,k⟩])<=_;rw[Bg6];have:E6 [(⟨l,(k:Int)⟩:Bh)]=(k:Int):=(by simp[E6]);omega;rcases E9.1 e with e|e;exact d3 a e r (by simp[c]);simp only[Ee]at e;subst e;exact E r c) b o;refine⟨this.1,?_⟩;rw[U8];have:=this.2;omega
theorem A1k(h:Ae8 x.V x.E L)(s:E6 L<=6):Kg x ⟨[],L⟩:=by(have i:(L.length:Int)<=E6 L:=by have o:∀l:A7,(∀a∈l,1<=a.P)->(l.length:Int)<=E6 l:=(by intro l;induction l with|nil=>intro _;simp[E6]|cons f J ih=>intro c;have w:=c f ψ;have y:=ih λg C=>c g (by simp[C]);unfold E6 at *;simp only[map_cons,sum_cons,D3];omega);exact o _ λa p=>(h.2 a p).1);constructor;unfold Ks;have k:L.zipIdx.all (λq=>O2 x.V x.E L q.1 q.2)=true:=(by rw[Hx];rintro⟨a,j⟩ E;have r:L[j]?=some a:=mk_mem_zipIdx_iff_getElem?.1 E;obtain⟨w,y,G,H⟩:=h.2 a (Bu r);show O2 x.V x.E L a j=true;unfold O2;have hp:Sw L a j=true:=(by unfold Sw;cases j with|zero=>rfl|succ j=>have c:=Ek r;have I:L[j]?=some L[j]:=Bl ω;have b:=pairwise_iff_getElem.1 h.1 j (j+1) ω c ω;have e:L[j+1]=a:=(by have:=Bl c;rw[r]at this;exact(Fv this).symm);rw[e]at b;simp only[Nat.add_sub_cancel,I,Bool.or_eq_true];exact .inr (decide_eq_true b));rw[hp,Av w,y,H];simp only[Bool.true_and,Bool.and_true,Bool.not_eq_true',beq_eq_false_iff_ne,ne_eq];exact G);show(([]:Bf).zipIdx.all _&&L.zipIdx.all (λq=>O2 x.V x.E L q.1 q.2)&&decide (Cf x.D x.V x.E []+E6 L<=6))=true;rw[k];have:Cf x.D x.V x.E []=0:=rfl;rw[this];simp;exact s;exact⟨ψ,by show L.length<=1048576;omega,nofun,nofun,λa p=>by have:=(Aj9 (h.2 a p).2.1).1;omega⟩
def ec:Λ F2->A4->Nat
 |[],_=>0
 |b::bs,m=>(if Et ⟨[],b.1⟩ m=0 then b.2 else 0)+ec bs m
theorem Rep.mem{c:Rat}{bs:Λ F2}(h:Rep c K ts bs){t:Aj}(ht:t∈ts):∃b∈bs,t.M=⟨[],b.1⟩/\rq t.C=c*(b.2:Rat)/\RB K t.C:=by obtain⟨j,e⟩:=Hw ht;obtain⟨b,b1,b2⟩:=h.get e;exact⟨b,Bu b1,b2⟩
def Aqg(L:Nat)(p:A1):Prop:=∀t∈p,∃z:Int,rq t.C=(z:Rat)/\Cq z.natAbs<=L
theorem Bg7{a:Ar}{z:Int}(e:Hu a)(h:rq a=(z:Rat)):a=Dd (decide (z<0)) z.natAbs 1:=by refine Ad2 e (U4 _ _ _ δ) ?_;rw[h,P3 _ _ _ δ,Aj6];congr 1;unfold sg;by_cases h:z<0;rw[Av h,Aq rfl];omega;rw[A6 h,Ao δ];omega
theorem Bg8{a:Ar}{z:Int}{L:Nat}(e:Hu a)(h:rq a=(z:Rat))(b:Cq z.natAbs<=L):RB (L+1) a:=by rw[Bg7 e h];exact P1 _ _ _ _ ω (by rw[U2];omega) ω
theorem Aqg.of{p:A1}{L:Nat}(hc:CP p)(h:∀m,∃z:Int,cf p m=(z:Rat)/\Cq z.natAbs<=L):Aqg L p:=λt e=>by obtain⟨z,b,o⟩:=h t.M;exact⟨z,by rw[<-Ayo hc e];exact b,o⟩
structure IP(x:Bx)(n L:Nat)(f:A4->Rat)(R:List Aj):Prop where
 cp:CP R
 val:∀m,cf R m=f m
 mo:∀t∈R,Kg x t.M
 len:R.length<=n
 int:Aqg L R
theorem IP.can{L:Nat}{f:A4->Rat}{R:A1}(h:IP x n L f R)(c:n<=1000)(g:L<=1000000):Lf x R:=Lf.of h.cp h.mo (λt e=>by obtain⟨z,b,o⟩:=h.int t e;exact(Bg8 (h.cp.coe t e).1 b o).mono ω) (by have:=h.len;omega)
theorem IP.ext{y:Bx}{L b c:Nat}{f g:A4->Rat}{R S:A1}(h:IP x n L f R)(h':IP y b c g S)(e:∀m,f m=g m):R=S:=CP.ext h.cp h'.cp λm=>by rw[h.val,h'.val,e]
def cl:Ch->Int->Int
 |[],_=>0
 |t::l,v=>(if t.v=v then t.C else 0)+cl l v
theorem Ae9{l:Ch}(h:∀t∈l,t.v≠v):cl l v=0:=by induction l with|nil=>rfl|cons t l ih=>simp only[cl];rw[Ao (h t ψ),ih λu e=>h u (by simp[e])];rfl
structure Aqh(L:List Fm):Prop where
 srt:L.Pairwise λa b=>a.v<b.v
 nz:∀t∈L,t.C≠0
theorem Aqh.ext:∀{L M:Ch},Aqh L->Aqh M->(∀v,cl L v=cl M v)->L=M:=by intro L;induction L with|nil=>(intro M _ b h;cases M with|nil=>rfl|cons t M=>have:=h t.v;simp only[cl,if_true]at this;rw[Ae9 λu o=>by have:=(pairwise_cons.1 b.srt).1 u o;omega]at this;exact(b.nz t ψ ω).elim)|cons s L ih=>intro M c b h;have f:cl (s::L) s.v=s.C:=(by simp only[cl,if_true];rw[Ae9 λu o=>by have:=(pairwise_cons.1 c.srt).1 u o;omega];omega);cases M with|nil=>have:=h s.v;rw[f]at this;exact(c.nz s ψ (by simpa[cl]using this)).elim|cons t M=>have p:cl (t::M) t.v=t.C:=(by simp only[cl,if_true];rw[Ae9 λu o=>by have:=(pairwise_cons.1 b.srt).1 u o;omega];omega);(have hv:s.v=t.v:=by rcases Int.lt_trichotomy s.v t.v with k|k|k;have h1:=h s.v;rw[f,Ae9 (l:=t::M) λu o=>by rcases F0.1 o with rfl|o;omega;have:=(pairwise_cons.1 b.srt).1 u o;omega]at h1;exact(c.nz s ψ h1).elim;exact k;have h1:=h t.v;rw[p,Ae9 (l:=s::L) λu o=>by rcases F0.1 o with rfl|o;omega;have:=(pairwise_cons.1 c.srt).1 u o;omega]at h1;exact(b.nz t ψ h1.symm).elim);have hc:s.C=t.C:=(by rw[<-f,<-p,h,hv]);have e:s=t:=(by cases s;cases t;simp only at hv hc;rw[hv,hc]);subst e;rw[ih (M:=M) ⟨(pairwise_cons.1 c.srt).2,λu o=>c.nz u (by simp[o])⟩ ⟨(pairwise_cons.1 b.srt).2,λu o=>b.nz u (by simp[o])⟩ λv=>by have:=h v;simp only[cl]at this;omega]
theorem IsE.good(h:IsE A B)(g:Atk A)(hi:∀a∈A,Kx x.V x.E a.L=true)(j:Dt A<=6):∀b∈B,Kg x ⟨[],b.1⟩:=by obtain⟨gs,k,c,i,f,rfl⟩:=h;intro b hb;obtain⟨h1,h2⟩:=A1j (Ξ:=x.V) (Θ:=x.E) f (λa ha=>⟨g.lin a (c.mem_iff.1 ha),hi a (c.mem_iff.1 ha)⟩) [([],1)] 0 (λb hb=>by simp only[Ee]at hb;subst hb;exact⟨⟨Pairwise.nil,λ_ h=>by cases h⟩,by simp[E6],λ_ h=>by cases h⟩) b hb;refine A1k h1 ?_;rw[Aer c]at h2;omega
def NoF(x:Bx)(D:Nat)(m:A4):Prop:=Kg x m/\m.F=[]/\E6 m.A<=(D:Nat)
theorem NoF.mono{D:Nat}{m:A4}(h:NoF x D m)(hd:D<=D'):NoF x D' m:=⟨h.1,h.2.1,by have:=h.2.2;omega⟩
theorem Gs.nil_of{c:Λ Grp}(h:Gs c A):A=[]->c=[]:=by cases h with|nil=>exactλ_=>rfl|cons b _ _ _ _=>exactλe=>absurd (append_eq_nil_iff.1 e).1 b
theorem IsE.one(h:IsE [a] B):B.length<=1:=by obtain⟨gs,G,x,I,q,rfl⟩:=h;have E:G=[a]:=perm_singleton.1 x;rw[E]at q;generalize c:[a]=X at q;cases q with|nil=>cases c|@cons l N f g rest gs s P J z D=>have L:g.length+rest.length=1:=(by have:=congrArg length c;simpa using this.symm);have y:g.length=1:=(by have:=length_pos_iff.2 s;have:rest.length≠1\/g.length=0:=ω;omega);have b:rest=[]:=Hb.1 ω;subst b;rw[append_nil]at c;subst c;have u:=D.nil_of rfl;subst u;show(Hy [([],1)] l f (N+1)).length<=1;(have p:∀n,(∀i j,i<n->j<n->f i≠0->f j≠0->i=j)->(Hy [(([],1):F2)] l f n).length<=1/\((Hy [(([],1):F2)] l f n).length=1->∃i,i<n/\f i≠0):=by intro n;induction n with|zero=>intro _;simp[Hy]|succ n ih=>intro h;obtain⟨C,w⟩:=ih λi j hi o=>h i j ω ω;rw[Aj5,D6];by_cases h0:f n=0;rw[Aq h0];refine⟨by simpa using C,λe=>?_⟩;obtain⟨i,H,r⟩:=w (by simpa using e);exact⟨i,ω,r⟩;rw[Ao h0];(have:(Hy [(([],1):F2)] l f n).length≠1:=λe=>by obtain⟨i,H,r⟩:=w e;have:=h i n ω ω r h0;omega);refine⟨by simp only[Cp,length_singleton];omega,λ_=>⟨n,ω,h0⟩⟩);refine(p (N+1) ?_).1;(rcases z with⟨_,h2⟩|⟨_,h2,_⟩);(have e:∀k,k<N+1->f k=if k=N then 1 else 0:=by refine Bek λn _=>?_;rw[h2.2.2 n];have A:N=a.P.toNat:=(by have:=h2.1;simpa[Dt]using this);rw[Aen (k:=N) ω (λj o=>by simp[o])];simp[prb,A]);intro i j hi o h1 h2;rw[e i hi]at h1;rw[e j o]at h2;split at h1;split at h2;omega;exact(h2 rfl).elim;exact(h1 rfl).elim;intro i j hi o _ _;omega
noncomputable def eB(A:A7):Λ F2:=open Classical in if h:∃B,IsE A B then Classical.choose h else[]
theorem Akp{B:Λ F2}{l:Cg}{f:Nat->Nat}{m:Nat}(h:∀k,k<m->f k=0):∀n,(Hy B l f n).length<=(n-m)*B.length
 |0=>by simp[Hy]
 |n+1=>by have ih:=Akp (B:=B) (l:=l) h n;rw[Aj5,D6];rcases Co n m with o|o;rw[Aq (h n o),show n-m=0 by omega]at *;simp only[length_nil];omega;have e:n+1-m=(n-m)+1:=ω;rw[e,Nat.add_mul,Nat.one_mul];have:(if f n=0 then([]:Λ F2)else B.map λb=>(b.1++atO l n,b.2*f n)).length<=B.length:=(by split<;>simp);omega
theorem Bg9{x:Nat}(h:x<d):bc x d=0:=by induction x generalizing d with|zero=>(cases d with|zero=>omega|succ d=>rfl)|succ x ih=>cases d with|zero=>omega|succ d=>show bc x d+bc x (d+1)=0;rw[ih ω,ih ω]
theorem A1l{x:Nat}{a:Bh}(h:x<a.P.toNat):∀{l:A7},a∈l->prb x l=0
 |b::l,e=>by simp only[prb];rcases F0.1 e with rfl|e;rw[Bg9 h,Nat.zero_mul];rw[A1l h e,Nat.mul_zero]
theorem Aqi{l:Cg}{f:Nat->Nat}{g:A7}(h:PwN g N f)(e:a∈g)(b:a.P.toNat<=N):∀k,k<a.P.toNat->f k=0:=λk o=>by have:=h.le (k:=k) ω;rw[A1l o e]at this;omega
theorem Bha{l:Cg}{f:Nat->Nat}(h:Pw l N f [a]):(Hy B l f (N+1)).length<=B.length:=by(rcases h with⟨_,h⟩|⟨_,h,_⟩);have b:N=a.P.toNat:=(by have:=h.1;simpa[Dt]using this);have:=Akp (B:=B) (l:=l) (Aqi (l:=l) h (Ee.2 rfl) ω) (N+1);rw[show N+1-a.P.toNat=1 by omega,Nat.one_mul]at this;exact this;subst h;have:=A0g B l f 1;rw[Nat.one_mul]at this;exact this
theorem Bhb{l:Cg}{f:Nat->Nat}{b:Bh}(h:Pw l N f [a,b]):(Hy B l f (N+1)).length<=(1+min a.P.toNat b.P.toNat)*B.length:=by(rcases h with⟨_,h⟩|⟨_,h,_⟩);have c:N=a.P.toNat+b.P.toNat:=(by have:=h.1;simp only[Dt]at this;omega);have e:=Akp (B:=B) (l:=l) (Aqi (l:=l) h (a:=a) ψ ω) (N+1);have o:=Akp (B:=B) (l:=l) (Aqi (l:=l) h (a:=b) ψ ω) (N+1);rcases Nat.le_total a.P.toNat b.P.toNat with k|k;rw[Nat.min_eq_left k];rw[show N+1-b.P.toNat=1+a.P.toNat by omega]at o;exact o;rw[Nat.min_eq_right k];rw[show N+1-a.P.toNat=1+b.P.toNat by omega]at e;exact e;subst h;have e:=A0g B l f 1;rw[Nat.one_mul]at e;rw[Nat.add_mul,Nat.one_mul];exact Nat.le_trans e (Nat.le_add_right _ _)
theorem Bhc(a b:Nat):1+min a b<=2^((a+b)/2):=by(have e:∀n:Nat,1+n<=2^n:=λn=>by induction n with|zero=>decide|succ n ih=>rw[Nat.pow_succ];omega);exact Nat.le_trans (e _) (Nat.pow_le_pow_right δ ω)
theorem Bhd(a b:Nat):2^(a/2)*2^(b/2)<=2^((a+b)/2):=by rw[<-Nat.pow_add];exact Nat.pow_le_pow_right δ ω
def Few(A:A7):Prop:=∀l,(A.filter λa=>decide (Hn a.L l=0)).length<=2
theorem Few.perm{b:A7}(h:Few A)(hp:b.Perm A):Few b:=λl=>by rw[(hp.filter _).length_eq];exact h l
theorem Aqj{l:Cg}:∀{L:A7},L.Pairwise (λa b=>Hn a.L b.L<0)->(L.filter λa=>decide (Hn a.L l=0)).length<=1
 |[],_=>ψ
 |a::L,h=>by obtain⟨q,r⟩:=pairwise_cons.1 h;by_cases e:Hn a.L l=0;rw[filter_cons_of_pos (by simpa using e)];(have:L.filter (λa=>decide (Hn a.L l=0))=[]:=filter_eq_nil_iff.2 λb s=>by have p:=q b s;intro o;have o:=of_decide_eq_true o;rw[(Mh.zero _ _ trivial trivial).1 e,(Mh.zero _ _ trivial trivial).1 o]at p;exact Aes.irr l p);rw[this];simp;rw[filter_cons_of_neg (by simpa using e)];exact Aqj r
theorem Bhe{M:A7}(f:L.Pairwise λa b=>Hn a.L b.L<0)(c:M.Pairwise λa b=>Hn a.L b.L<0):Few (L++M):=λl=>by rw[filter_append,D6];have:=Aqj (l:=l) f;have:=Aqj (l:=l) c;omega
theorem Gs.cnt:∀{j:Λ Grp}{A:A7},Gs j A->Few A->∀B,(Mx B j).length<=2^(Dt A/2)*B.length:=by intro j A h;induction h with|nil=>intro _ B;simp[Mx,Dt]|@cons l N f g rest j k e x i y ih=>intro u B;have q:g.length<=2:=(by have h1:=u l;rw[filter_append,D6,filter_eq_self.2 (λa ha=>by rw[e a ha];exact decide_eq_true ((Mh.zero l l trivial trivial).2 rfl))]at h1;omega);(have s:Few rest:=λm=>by have h1:=u m;rw[filter_append,D6]at h1;omega);have c:(Hy B l f (N+1)).length<=2^(Dt g/2)*B.length:=(by match g,k,q,i with|[a],_,_,i=>refine Nat.le_trans (Bha i) ?_;exact Nat.le_mul_of_pos_left _ (Nat.pow_pos δ)|[a,b],_,_,i=>refine Nat.le_trans (Bhb i) (Nat.mul_le_mul_right _ ?_);have:=Bhc a.P.toNat b.P.toNat;simpa[Dt]using this);show(Mx (Hy B l f (N+1)) j).length<=_;refine Nat.le_trans (ih s _) ?_;rw[U8];refine Nat.le_trans (Nat.mul_le_mul_left _ c) ?_;rw[<-Nat.mul_assoc];refine Nat.mul_le_mul_right _ ?_;rw[Nat.mul_comm];exact Bhd _ _
theorem IsE.cnt{M:A7}(h:IsE (L++M) B)(i:L.Pairwise λa b=>Hn a.L b.L<0)(g:M.Pairwise λa b=>Hn a.L b.L<0):B.length<=2^(Dt (L++M)/2):=by obtain⟨gs,k,c,j,f,rfl⟩:=h;have:=f.cnt ((Bhe i g).perm c) [([],1)];rw[Aer c]at this;simpa using this
def sq:Nat->(Nat->Rat)->Rat
 |0,_=>0
 |n+1,f=>sq n f+f n
theorem IP.up{b L c:Nat}{f g:A4->Rat}{R:A1}(h:IP x n L f R)(j:n<=b)(k:L<=c)(e:∀m,f m=g m):IP x b c g R:=⟨h.cp,λm=>by rw[h.val,e],h.mo,Nat.le_trans h.len j,λt o=>by obtain⟨z,i,p⟩:=h.int t o;exact⟨z,i,ω⟩⟩
def cs(K:Nat):Nat->Nat
 |0=>0
 |j+1=>cs K j+(1+min j (K-j))
theorem Bhf(f:α->Int)(l:Λ α)(h:∀j x,l[j]?=some x->O0 f l x j=true):l.Pairwise λa b=>f a<f b:=by(have step:∀j x y,l[j]?=some x->l[j+1]?=some y->f x<f y:=by intro j x y p q;have:=h (j+1) y q;unfold O0 at this;rw[Nat.add_sub_cancel,p]at this;simpa using this);(have c:∀d j x y,l[j]?=some x->l[j+d+1]?=some y->f x<f y:=by intro d;induction d with|zero=>exactλj x y o e=>step j x y o e|succ d ih=>intro j x y o e;have g:l[j+d+1]?=some (l[j+d+1]'(by have:=Ek e;omega)):=Bl _;have C:=ih j x _ o g;have E:=step _ _ _ g e;omega);rw[pairwise_iff_getElem];intro i j r s k;obtain⟨d,w⟩:∃d,j=i+d+1:=⟨j-i-1,ω⟩;subst w;exact c d i _ _ (Bl r) (Bl s)
def Aqk(x:Bx)(m:A4):Int:=Cf x.D x.V x.E m.F+E6 m.A
structure Aad(x:Bx)(m:A4):Prop where
 fac:∀f∈m.F,1<=D0 x.D x.V x.E f
 asc:m.F.Pairwise λa b=>a.v<b.v
 atm:∀a∈m.A,1<=a.P/\Jd a.L=true/\a.L.T.length≠0/\Kx x.V x.E a.L=true
 srt:m.A.Pairwise λa b=>Hn a.L b.L<0
 deg:Aqk x m<=6
theorem Kg.f{m:A4}(h:Kg x m):Aad x m:=by have hc:=h.1;unfold Ks at hc;rw[C5,C5,D2]at hc;obtain⟨⟨h1,h2⟩,h3⟩:=hc;(have o:∀j f,m.F[j]?=some f->1<=D0 x.D x.V x.E f/\O0 (·.v) m.F f j=true:=λj f e=>by have:=Kb h1 e;unfold Rj at this;rw[C5,D2]at this;exact this);(have p:∀j a,m.A[j]?=some a->(1<=a.P/\Jd a.L=true/\a.L.T.length≠0/\Kx x.V x.E a.L=true)/\Sw m.A a j=true:=λj a e=>by have:=Kb h2 e;unfold O2 at this;simp only[C5,D2,Bool.not_eq_true',beq_eq_false_iff_ne,ne_eq]at this;exact⟨⟨this.1.1.1.1,this.1.1.1.2,this.1.1.2,this.1.2⟩,this.2⟩);refine⟨λf hf=>?_,Bhf _ _ λj f e=>(o j f e).2,λa ha=>?_,?_,h3⟩;obtain⟨j,e⟩:=Hw hf;exact(o j f e).1;obtain⟨j,e⟩:=Hw ha;exact(p j a e).1;have step:∀j x y,m.A[j]?=some x->m.A[j+1]?=some y->Hn x.L y.L<0:=(by intro j x y hx hy;have:=(p (j+1) y hy).2;unfold Sw at this;rw[Nat.add_sub_cancel,hx]at this;simpa using this);have b:∀d j x y,m.A[j]?=some x->m.A[j+d+1]?=some y->Hn x.L y.L<0:=(by intro d;induction d with|zero=>exactλj x y h1 h2=>step j x y h1 h2|succ d ih=>intro j x y h1 h2;have c:m.A[j+d+1]?=some (m.A[j+d+1]'(by have:=Ek h2;omega)):=Bl _;exact Aes.trs _ _ _ (ih j x _ h1 c) (step _ _ _ c h2));rw[pairwise_iff_getElem];intro i j hi e g;obtain⟨d,hd⟩:∃d,j=i+d+1:=⟨j-i-1,ω⟩;subst hd;exact b d i _ _ (Bl hi) (Bl e)
theorem Aad.fsum0{m:A4}(h:Aad x m):0<=Cf x.D x.V x.E m.F:=by(have e:∀l:Bf,(∀f∈l,1<=D0 x.D x.V x.E f)->0<=Cf x.D x.V x.E l:=λl=>by induction l with|nil=>intro _;simp[Cf]|cons f l ih=>intro b;have h1:=b f ψ;have h2:=ih λg o=>b g (by simp[o]);unfold Cf at *;simp only[map_cons,sum_cons];omega);exact e _ h.fac
theorem Bhg{l:A7}(h:∀a∈l,1<=a.P):E6 l=(Dt l:Nat)/\l.length<=Dt l:=by induction l with|nil=>exact⟨rfl,Nat.le_refl _⟩|cons a l ih=>obtain⟨e,c⟩:=ih λb o=>h b (by simp[o]);have f:=h a ψ;unfold E6 at *;simp only[map_cons,sum_cons,Dt,D3];omega
theorem Aad.as{m:A4}(h:Aad x m):E6 m.A=(Dt m.A:Nat)/\m.A.length<=Dt m.A:=Bhg λa ha=>(h.atm a ha).1
def F7(v:Cg->Nat):A7->Nat
 |[]=>1
 |a::l=>bc (v a.L) a.P.toNat*F7 v l
theorem Aae(v:Cg->Nat)(l m:A7):F7 v (l++m)=F7 v l*F7 v m:=by induction l with|nil=>simp[F7]|cons a l ih=>simp only[Ej,F7,ih,Nat.mul_assoc]
theorem A1m(v:Cg->Nat){l m:A7}(h:l.Perm m):F7 v l=F7 v m:=by induction h with|nil=>rfl|cons a _ ih=>simp only[F7,ih]|swap a b l=>simp only[F7];rw[<-Nat.mul_assoc,<-Nat.mul_assoc,Nat.mul_comm (bc (v b.L) _)]|trans _ _ e o=>exact e.trans o
theorem Aql{v:Cg->Nat}{l:Cg}:∀{g:A7},(∀a∈g,a.L=l)->F7 v g=prb (v l) g
 |[],_=>rfl
 |a::g,h=>by simp only[F7,prb];rw[h a ψ,Aql λb e=>h b (by simp[e])]
def Ku(v:Cg->Nat):Λ F2->Nat
 |[]=>0
 |b::bs=>b.2*F7 v b.1+Ku v bs
theorem Bhh(v:Cg->Nat)(B C:Λ F2):Ku v (B++C)=Ku v B+Ku v C:=by induction B with|nil=>simp[Ku]|cons b B ih=>simp only[Ej,Ku,ih,Nat.add_assoc]
theorem Bhi(v:Cg->Nat)(l:Cg)(k c:Nat)(B:Λ F2):Ku v (B.map λb=>(b.1++atO l k,b.2*c))=Ku v B*(c*bc (v l) k):=by(have e:F7 v (atO l k)=bc (v l) k:=by unfold atO;by_cases h:k=0;subst h;rw[Aq rfl,Kz];rfl;rw[Ao h];simp[F7]);induction B with|nil=>simp[Ku]|cons b B ih=>simp only[map_cons,Ku,ih,Aae,e];rw[Nat.add_mul];congr 1;rw[Nat.mul_assoc,Nat.mul_assoc,<-Nat.mul_assoc c,Nat.mul_comm c,Nat.mul_assoc]
theorem A1n(v:Cg->Nat)(B:Λ F2)(l:Cg)(f:Nat->Nat):∀n,Ku v (Hy B l f n)=Ku v B*sm n λk=>f k*bc (v l) k
 |0=>by simp[Hy,Ku,sm]
 |n+1=>by rw[Aj5,Bhh,A1n v B l f n];show _=Ku v B*(sm n (λk=>f k*bc (v l) k)+f n*bc (v l) n);rw[Nat.mul_add];congr 1;by_cases h:f n=0;rw[Aq h,h];simp[Ku];rw[Ao h,Bhi]
def Rs(v:Cg->Nat):Prop:=∀l:Cg,l.T.length=0->v l=l.Q.toNat
theorem Gs.val{v:Cg->Nat}(hv:Rs v):∀{b:Λ Grp}{A:A7},Gs b A->∀B,Ku v (Mx B b)=Ku v B*F7 v A:=by intro b A h;induction h with|nil=>intro B;simp[Mx,F7]|@cons l N f g rest b c e j i k ih=>intro B;show Ku v (Mx (Hy B l f (N+1)) b)=_;rw[ih,A1n,Aae,Aql e,<-Nat.mul_assoc];congr 2;(rcases i with⟨_,_,_,h3⟩|⟨h1,h2,h3⟩);exact h3 (v l);subst h2;rw[hv l h1];simp[sm,Kz,h3]
theorem IsE.val{v:Cg->Nat}(hv:Rs v)(h:IsE A B):Ku v B=F7 v A:=by obtain⟨gs,g,c,f,b,rfl⟩:=h;rw[b.val hv,<-A1m v c];simp[Ku,F7]
def eW(c:Rat)(B:Λ F2):Dl:=B.map λb=>(c*(b.2:Rat),⟨[],b.1⟩)
def fv(val:Int->A3)(l:Cg):Nat:=(O5 val l).toNat
theorem Bhj(val:Int->A3):Rs (fv val):=λl h=>by unfold fv O5;rw[Hb.1 h];simp
theorem Bhk(x:Bx)(val:Int->A3)(L:A7):U9 x val ⟨[],L⟩=F7 (fv val) L:=by unfold U9;(have h:∀L:A7,Du (L.map (S4 val))=F7 (fv val) L:=by intro L;induction L with|nil=>rfl|cons a L ih=>rw[map_cons];show S4 val a*Du (L.map (S4 val))=_;rw[ih];rfl);rw[h];show 1*_=_;rw[Nat.one_mul]
theorem Bhl{m:A4}(e:Kg x m)(h:Ae8 x.V x.E L)(b:Cf x.D x.V x.E m.F+E6 L<=6):Kg x ⟨m.F,L⟩:=by have r:=e.f.fsum0;obtain⟨o,q⟩:=A1k h ω;have p:=e.1;unfold Ks at p o;rw[C5,C5]at p o;refine⟨?_,⟨e.2.nf,q.na,e.2.fi,e.2.fr,q.al⟩⟩;unfold Ks;rw[C5,C5];exact⟨⟨p.1.1,o.1.2⟩,decide_eq_true b⟩
theorem Bhm(x:Bx)(val:Int->A3)(F:Bf)(L:A7):U9 x val ⟨F,L⟩=Du (F.map (Iy x val))*F7 (fv val) L:=by have h:=Bhk x val L;unfold U9 at h⊢;rw[<-h];show _=_*(1*_);rw[Nat.one_mul]
def ls(g:Int->Int):Ch->Int
 |[]=>0
 |t::l=>t.C*g t.v+ls g l
structure PX(x:Bx)(n k:Nat)(R:List Aj):Prop where
 cp:CP R
 mo:∀t∈R,Kg x t.M
 rb:∀t∈R,RB k t.C
 len:R.length<=n
theorem PX.can{R:A1}(h:PX x n k R)(b:n<=1000)(hk:k<=1048576):Lf x R:=Lf.of h.cp h.mo (λt e=>(h.rb t e).mono hk) (Nat.le_trans h.len b)
theorem PX.up{b c:Nat}{R:A1}(h:PX x n k R)(f:n<=b)(hk:k<=c):PX x b c R:=⟨h.cp,h.mo,λt e=>(h.rb t e).mono hk,Nat.le_trans h.len f⟩
theorem Bhn:Ph (λa b:A8=>a.v-b.v):=⟨λ_ h=>ω,λ_ _ _ e o=>ω,λ_ _ _ e o p=>ω⟩
theorem Bho(o:∀f∈F,-1<=f.v/\f.v<=1000000000)(c:F.length<20):∃R,Abr F=some R/\R.Perm F/\R.Pairwise (λa b=>a.v<=b.v):=by obtain⟨R,q,p,r⟩:=A0e (cmp:=Ym) Bhn F (λx s y C=>by have:=o x s;have:=o y C;unfold Ym;have w:Ac (x.v-y.v)=x.v-y.v:=ξ;rw[w]) c;refine⟨R,?_,p,r.imp λ{a b} h=>ω⟩;unfold Abr;have e:Ahc (F.length:Int) F=Aj2 Ym (F.length:Int) F:=rfl;rw[e,q,Ae,Nw p.length_eq.symm];rfl
theorem Akq(h:l.Perm m):Cf Δ Ξ Θ l=Cf Δ Ξ Θ m:=by induction h with|nil=>rfl|cons a _ ih=>simp only[Cf,map_cons,sum_cons]at ih⊢;omega|swap a b l=>simp only[Cf,map_cons,sum_cons];omega|trans _ _ e o=>exact e.trans o
theorem Aqm{l m:D4}(h:l.Perm m):l.sum=m.sum:=by induction h with|nil=>rfl|cons a _ ih=>simp only[sum_cons,ih]|swap a b l=>simp only[sum_cons];omega|trans _ _ e o=>exact e.trans o
theorem Ta.perm(hp:l.Perm m)(h:Ta Δ Ξ Θ m):Ta Δ Ξ Θ l:=by refine⟨λf hf=>h.fac f (hp.mem_iff.1 hf),?_,by rw[Akq hp];exact h.sum⟩;rw[Aqm (hp.map λf=>Bt f.I)];exact h.siz
theorem FGz.perm(hp:l.Perm m)(h:FGz Δ Ξ Θ m):FGz Δ Ξ Θ l:=by refine⟨λf hf=>h.fac f (hp.mem_iff.1 hf),?_,by rw[Akq hp];exact h.sum,by rw[hp.length_eq];exact h.len⟩;rw[Aqm (hp.map λf=>Bt f.I)];exact h.siz
structure N5(Δ:List Ai)(Ξ:List Ad)(Θ:Ad)(c:Rat)(F:List A8)(A:List Bh)(K:Nat)(out:List Aj):Prop where
 ex:∃Fs FE S gs,Fs.Perm F/\Tb Δ Ξ Θ Fs FE/\S.Perm A/\Aet S/\Gs gs S/\Gf K out (S9 (FE.map (L5 c)) gs)
 len:∃n,n*n<=10^((Cf Δ Ξ Θ F).toNat+F.length)/\out.length<=n*2^Dt A
theorem Bhp(P:DSz Δ)(Q:Hj Δ)(H:O1 Δ Ξ Θ)(U:∀v t,De Ξ Θ v=some t->Fc Δ t=true){c:Ar}(r:RB K c)(hK:K<20000000000)(h0:rq c≠0)(z:FGz Δ Ξ Θ F)(D:Atk A)(hs:Cf Δ Ξ Θ F+(Dt A:Nat)<=6):(Tc F/\∀b1 b2,Dz Δ Ξ Θ b1->PMg Δ Ξ Θ b2->∃i h,Qq c ⟨F,A⟩ b1 b2 Δ Ξ Θ.G Θ.U Θ.R=some ([],9,i,h)/\Dz Δ Ξ Θ i/\PMg Δ Ξ Θ h)\/∃out,N5 Δ Ξ Θ (rq c) F A (K+202*F.length+2424) out/\∀b1 b2,Dz Δ Ξ Θ b1->PMg Δ Ξ Θ b2->∃i h,Qq c ⟨F,A⟩ b1 b2 Δ Ξ Θ.G Θ.U Θ.R=some (out,0,i,h)/\Dz Δ Ξ Θ i/\PMg Δ Ξ Θ h:=by have a7:=z.len;have a1:0<=Cf Δ Ξ Θ F:=Xr λf e=>(z.fac f e).2.2;have a6:=z.sum;(have T:∀b∈A,b.L.T.length<1099511627776:=λb w=>by have:=(Aj9 (D.lin b w)).1;omega);have Y:=D.len;have X:=D.sum;obtain⟨S,W,q,Z⟩:=Bev A T ω;have j:Atk S:=⟨λa C=>D.deg a (q.mem_iff.1 C),λa C=>D.lin a (q.mem_iff.1 C),by rw[Aer q];exact X,by rw[q.length_eq];exact Y⟩;obtain⟨G,f1,f2,f3⟩:=Bho (F:=F) (λf e=>by obtain⟨t,d,o,_⟩:=Aqe (z.fac f e).2.2;have:=Adw Ξ Θ f.v;rw[o]at this;have:=of_decide_eq_true this.symm;have:=H.nv;omega) ω;have y:=z.perm f2;(have x:O3 (rq c)≠0:=by unfold O3;split;decide;split;decide;rename_i o h2;exact(h0 (by grind)).elim);(have V:Abs A=some ([],A):=by unfold Abs Ol;rw[D7 ζ];rfl);(have k:Abq F=some ([],F):=by unfold Abq Ol;rw[D7 ζ];rfl);have g:=f2.length_eq;(rcases Bg5 P Q H U (c:=rq c) G.length G [] [⟨c,⟨[],[]⟩⟩] [([],1)] K (Nat.le_refl _) f3 (λf e=>by cases e) y (.cons rfl (by show rq c=rq c*((1:Nat):Rat);grind) r (by simp[L5]) .nil) (Tb.nil _ _ _) (λp hp=>by simp only[Ee]at hp;subst hp;simp) ω with⟨wt,l⟩|⟨ts,u,w3,I,l⟩);refine .inl ⟨wt.perm f2,λb1 b2 N M=>?_⟩;obtain⟨i,h,l,L,J⟩:=l b1 b2 N M;refine⟨i,h,?_,L,J⟩;unfold Qq;rw[(Ajg r ω).1,Ae,Da x,An,k,Ae];dsimp only;rw[f1,Ae,Nw g.symm,Ae];exact bnd l rfl;rw[nil_append]at I;have s:=I.len;rw[Akq f2,g]at s;have R:=Aqf s ω;have B:(u.map (L5 (rq c))).length*2^Dt S<=u.length*2^Dt A:=(by rw[Cp,Aer q];exact Nat.le_refl _);have E:u.length*2^Dt A<=1000000000:=(by have o:2^Dt A<=2^6:=Nat.pow_le_pow_right δ ω;have h2:=Nat.mul_le_mul R o;omega);obtain⟨gs,out,g1,g2,g3,g4⟩:=Bgy S.length S ts (u.map (L5 (rq c))) (K+202*G.length) 0 (Nat.le_refl _) Z j w3 (λb w=>by obtain⟨p,_,rfl⟩:=mem_map.1 w;simp[L5]) (by have:=j.len;omega) (by have:=j.len;omega) (Nat.le_trans B E);refine .inr ⟨out,⟨⟨G,u,S,gs,f2,I,q,Z,g2,g3.mono (by have:=j.len;omega)⟩,u.length,s,Nat.le_trans g4 B⟩,λb1 b2 N M=>?_⟩;obtain⟨i,h,l,L,J⟩:=l b1 b2 N M;refine⟨i,h,?_,L,J⟩;unfold Qq;rw[(Ajg r ω).1,Ae,Da x,An,k,Ae];dsimp only;rw[f1,Ae,Nw g.symm,Ae];refine bnd l ?_;dsimp only;rw[V,Ae];dsimp only;rw[W,Ae,Nw q.length_eq.symm,Ae];exact bnd g1 rfl
theorem N5.mono'{c:Rat}{f:Nat}{b:A1}(h:N5 Δ Ξ Θ c F A K b)(hk:K<=f):N5 Δ Ξ Θ c F A f b:=by obtain⟨⟨i,j,S,gs,e,o,p,q,r,g⟩,l⟩:=h;exact⟨⟨i,j,S,gs,e,o,p,q,r,g.mono hk⟩,l⟩
theorem N5.lenG{c:Rat}{b:A1}(h:N5 Δ Ξ Θ c F A K b)(i:Ta Δ Ξ Θ F):b.length<=10^(Cf Δ Ξ Θ F).toNat*2^Dt A:=by obtain⟨n,h1,h2⟩:=h.len;have j:=O7 (Δ:=Δ) (Ξ:=Ξ) (Θ:=Θ) (l:=F) λf hf=>(i.fac f hf).2.2;refine Nat.le_trans h2 (Nat.mul_le_mul_right _ ?_);have h3:(10:Nat)^((Cf Δ Ξ Θ F).toNat+F.length)<=10^((Cf Δ Ξ Θ F).toNat+(Cf Δ Ξ Θ F).toNat):=Nat.pow_le_pow_right δ ω;rw[Nat.pow_add _ _ (Cf Δ Ξ Θ F).toNat]at h3;generalize(10:Nat)^(Cf Δ Ξ Θ F).toNat=m at h3;rcases Co m n with e|e;have g:=Nat.mul_le_mul e e;have k:(m+1)*(m+1)=m*m+m+m+1:=(by rw[Nat.add_mul,Nat.mul_add];omega);have g:(m+1)*(m+1)<=n*n:=g;omega;exact e
theorem Bhq(s:DSz Δ)(C:Hj Δ)(E:O1 Δ Ξ Θ)(h:∀v t,De Ξ Θ v=some t->Fc Δ t=true){c:Ar}(G:RB K c)(x:K<20000000000)(h0:rq c≠0)(i:Ta Δ Ξ Θ F)(y:Atk A)(u:Cf Δ Ξ Θ F+(Dt A:Nat)<=6)(q:Dz Δ Ξ Θ b1)(k:PMg Δ Ξ Θ b2):∃out e g b,Qq c ⟨F,A⟩ b1 b2 Δ Ξ Θ.G Θ.U Θ.R=some (out,e,g,b)/\Dz Δ Ξ Θ g/\PMg Δ Ξ Θ b/\((e=9/\out=[]/\Tc F)\/(e=0/\N5 Δ Ξ Θ (rq c) F A (K+3636) out)):=by(rcases Bhp s C E h G x h0 i.gz y u with⟨o,p⟩|⟨out,o,p⟩);obtain⟨g,b,r,w,j⟩:=p b1 b2 q k;exact⟨[],9,g,b,r,w,j,.inl ⟨rfl,rfl,o⟩⟩;obtain⟨g,b,r,w,j⟩:=p b1 b2 q k;exact⟨out,0,g,b,r,w,j,.inr ⟨rfl,o.mono' (by have o:=O7 (Δ:=Δ) (Ξ:=Ξ) (Θ:=Θ) (l:=F) λf H=>(i.fac f H).2.2;have p:=i.sum;omega)⟩⟩
def Js(χ:A8->Nat)(v:Cg->Nat):Λ Hz->Nat
 |[]=>0
 |b::bs=>Du (b.1.1.map χ)*(b.2.2*F7 v b.2.1)+Js χ v bs
theorem Bhr(χ:A8->Nat)(v:Cg->Nat)(B C:Λ Hz):Js χ v (B++C)=Js χ v B+Js χ v C:=by induction B with|nil=>simp[Js]|cons b B ih=>simp only[Ej,Js,ih,Nat.add_assoc]
theorem Bhs(χ:A8->Nat)(v:Cg->Nat)(l:Cg)(k c:Nat)(B:Λ Hz):Js χ v (B.map (Vc l k c))=Js χ v B*(c*bc (v l) k):=by(have e:F7 v (atO l k)=bc (v l) k:=by unfold atO;by_cases h:k=0;subst h;rw[Aq rfl,Kz];rfl;rw[Ao h];simp[F7]);induction B with|nil=>simp[Js]|cons b B ih=>simp only[map_cons,Js,ih,Vc,Aae,e];rw[Nat.add_mul];congr 1;ac_rfl
theorem A1o(χ:A8->Nat)(v:Cg->Nat)(B:Λ Hz)(l:Cg)(f:Nat->Nat):∀n,Js χ v (L3 B l f n)=Js χ v B*sm n λk=>f k*bc (v l) k
 |0=>by simp[L3,Js,sm]
 |n+1=>by rw[Akn,Bhr,A1o χ v B l f n];show _=Js χ v B*(sm n (λk=>f k*bc (v l) k)+f n*bc (v l) n);rw[Nat.mul_add];congr 1;by_cases h:f n=0;rw[Aq h,h];simp[Js];rw[Ao h,Bhs]
theorem Gs.valG{v:Cg->Nat}(hv:Rs v):∀{b:Λ Grp}{A:A7},Gs b A->∀B,Js χ v (S9 B b)=Js χ v B*F7 v A:=by intro b A h;induction h with|nil=>intro B;simp[S9,F7]|@cons l N f g rest b c e j i k ih=>intro B;show Js χ v (S9 (L3 B l f (N+1)) b)=_;rw[ih,A1o,Aae,Aql e,<-Nat.mul_assoc];congr 2;(rcases i with⟨_,_,_,h3⟩|⟨h1,h2,h3⟩);exact h3 (v l);subst h2;rw[hv l h1];simp[sm,Kz,h3]
theorem A1p(χ:A8->Nat)(v:Cg->Nat)(c:Rat):∀b:Λ O6,Js χ v (b.map (L5 c))=pv (λF=>Du (F.map χ)) b
 |[]=>rfl
 |p::b=>by rw[map_cons,Js,A1p χ v c b,pv];show Du (p.1.map χ)*(p.2*1)+_=_;rw[Nat.mul_one,Nat.mul_comm]
def H3(χ:A8->Nat)(v:Cg->Nat):A1->Rat
 |[]=>0
 |t::p=>rq t.C*((Du (t.M.F.map χ)*F7 v t.M.A:Nat):Rat)+H3 χ v p
theorem A1q(χ:A8->Nat)(v:Cg->Nat):∀p q:A1,H3 χ v (p++q)=H3 χ v p+H3 χ v q
 |[],q=>by simp only[nil_append,H3];grind
 |t::p,q=>by simp only[Ej,H3,A1q χ v p q];grind
theorem Gf.polX{v:Cg->Nat}{c:Rat}{bs:Λ Hz}(h:Gf K ts bs)(hc:∀b∈bs,b.1.2=c):Go.Ab.H3 χ v ts=c*(Js χ v bs:Rat):=by induction h with|nil=>simp only[Go.Ab.H3,Js];grind|@cons t b ts bs e o p q _ ih=>have hb:=hc b ψ;simp only[Go.Ab.H3,Js,ih λd hd=>hc d (by simp[hd]),e,o,hb,Rat.natCast_add,Rat.natCast_mul];grind
theorem Bht{l m:D4}(h:l.Perm m):Du l=Du m:=by induction h with|nil=>rfl|cons a _ ih=>simp only[Du,ih]|swap a b l=>simp only[Du];ac_rfl|trans _ _ e o=>exact e.trans o
theorem N5.val{c:Rat}{f:A1}(h:N5 Δ Ξ Θ c F A K f)(i:Vd Δ Ξ Θ χ F){v:Cg->Nat}(hv:Rs v):H3 χ v f=c*((Du (F.map χ)*F7 v A:Nat):Rat):=by obtain⟨q,s,S,gs,h1,h2,h3,o,k,j⟩:=h.ex;rw[j.polX (c:=c) λb hb=>by obtain⟨l,b1,b2,_⟩:=Aqc gs hb;obtain⟨p,_,rfl⟩:=mem_map.1 b1;rw[b2];rfl];rw[k.valG hv,A1p,h2.val χ λg e=>i g (h1.mem_iff.1 e),A1m v h3,Bht (h1.map χ)]
theorem Bhu{l:Cg}{f:Nat->Nat}{b:F2}(hb:b∈Hy B l f n):∃c∈B,∀a∈b.1,a∈c.1\/a.L=l:=by unfold Hy at hb;rw[mem_flatMap]at hb;obtain⟨k,_,h⟩:=hb;split at h;cases h;obtain⟨d,o,rfl⟩:=mem_map.1 h;refine⟨d,o,λa e=>?_⟩;rcases E9.1 e with e|e;exact .inl e;unfold atO at e;split at e;cases e;simp only[Ee]at e;right;rw[e]
theorem Bhv{j:Λ Grp}(h:Gs j A):∀(B:Λ F2)(b:F2),b∈Mx B j->∃q∈B,∀a∈b.1,a∈q.1\/∃c∈A,a.L=c.L:=by induction h with|nil=>intro B b e;exact⟨b,e,λa o=>.inl o⟩|@cons l N f g p j k w s u x ih=>intro B b e;obtain⟨b1,y,C⟩:=ih _ b (show b∈Mx (Hy B l f (N+1)) j from e);obtain⟨q,d1,d2⟩:=Bhu y;obtain⟨r,i⟩:∃a,a∈g:=(by cases g with|nil=>exact(k rfl).elim|cons a _=>exact⟨a,ψ⟩);refine⟨q,d1,λa o=>?_⟩;rcases C a o with h|⟨c,E,G⟩;rcases d2 a h with h|h;exact .inl h;exact .inr ⟨r,by simp[i],by rw[h,w r i]⟩;exact .inr ⟨c,by simp[E],G⟩
theorem N5.mono{c:Rat}{i:A1}(h:N5 Δ Ξ Θ c F A K i)(B:∀a∈A,Jd a.L=true/\Kx Ξ Θ a.L=true):∀t∈i,RB K t.C/\(∃n:Nat,rq t.C=c*(n:Rat))/\(∀f∈t.M.F,Es f.v/\iR f.I/\Bt f.I<=(F.map λf=>Bt f.I).sum/\1<=D0 Δ Ξ Θ f)/\t.M.F.Pairwise (λa b=>a.v<b.v)/\Cf Δ Ξ Θ t.M.F<=Cf Δ Ξ Θ F/\Ae8 Ξ Θ t.M.A/\E6 t.M.A<=(Dt A:Nat)/\(∀f∈t.M.F,∃g∈F,g.v=f.v)/\∀a∈t.M.A,∃c∈A,a.L=c.L:=by obtain⟨N,R,S,gs,h1,h2,h3,w,l,k⟩:=h.ex;intro t e;obtain⟨b,b1,b2,L,J⟩:=k.mem e;obtain⟨M,c1,c2,c3⟩:=Aqc gs b1;obtain⟨p,j,rfl⟩:=mem_map.1 c1;obtain⟨o,r⟩:=A1j (Ξ:=Ξ) (Θ:=Θ) l (λa ha=>B a (h3.mem_iff.1 ha)) [(L5 c p).2] 0 (λd hd=>by simp only[Ee]at hd;subst hd;exact⟨⟨Pairwise.nil,λ_ h=>by cases h⟩,by simp[E6,L5],λ_ h=>by cases h⟩) b.2 c3;rw[Aer h3]at r;(have G:b.1.1=p.1:=by rw[c2];rfl);(have E:b.1.2=c:=by rw[c2];rfl);rw[b2];dsimp only;rw[G];refine⟨J,⟨b.2.2,by rw[L,E]⟩,λf hf=>?_,h2.asc p j,by have:=h2.sum p j;rw[Akq h1]at this;exact this,o,ω,λf hf=>?_,λa ha=>?_⟩;obtain⟨z,y,x,u,_⟩:=h2.fac p j f hf;exact⟨z,y,by rw[<-Aqm (h1.map λf=>Bt f.I)];exact x,u⟩;obtain⟨_,_,_,_,g,s,q⟩:=h2.fac p j f hf;exact⟨g,h1.mem_iff.1 s,q⟩;obtain⟨d,d1,d2⟩:=Bhv l _ _ c3;simp only[Ee]at d1;subst d1;rcases d2 a ha with h|⟨I,k,D⟩;cases h;exact⟨I,h3.mem_iff.1 k,D⟩
end Go.Ab
