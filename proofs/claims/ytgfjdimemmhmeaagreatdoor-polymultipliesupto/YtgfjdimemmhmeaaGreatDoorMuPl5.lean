/- Plain laws. -/
import Derived.Test.YtgfjdimemmhmeaaGreatDoorMuPl4
open List
namespace Go.Ab
open Go
variable{e i:Af}{P:Af->Prop}{p u v:Af×Nat}{t:Ah}{L M X vs:A0}{R:Bj}{es:A2}{Δ:Ad}{D D' K I S S' a b j k:Nat}{E Q α β:Type}{J:Bs->Ο Q}{q:Q}
def A3(p:Af×Nat):Aq:=⟨p.1,cR p.2⟩
def toR(p:List Af×Nat):I8:=⟨p.1,cR p.2⟩
theorem Ayl(d:a<=729)(hb:b<=729):H5 (cR a) (cR b)=some (cR (a*b)):=Ax5 (K:=3) (Ip ω) (Ip ω) δ δ
theorem Nc{d:Nat}(h:d<=6):3^d<=729:=Nat.le_trans (Nat.pow_le_pow_right δ h) δ
theorem Aym{α:Type}(h:Af)(c:Nat)(f:α->Bj):∀L:Λ α,E9 h c (L.flatMap f)=L.flatMap λr=>E9 h c (f r)
 |[]=>rfl
 |r::L=>by have ih:=Aym h c f L;unfold E9 at ih⊢;rw[flatMap_cons,flatMap_cons,map_append,ih]
def Jt(W:A0)(r:List Af×Nat):Bj:=W.map λw=>(r.1++[w.1],r.2*w.2)
theorem Apc(b:Ah->Af->Af->A0)(t:Ah)(i j:Af):∀(ts:A1)(is c:A2),is.length=ts.length->c.length=ts.length->D3 b (ts++[t]) (is++[i]) (c++[j])=(D3 b ts is c).flatMap (Jt (b t i j))
 |[],[],[],_,_=>by show(b t i j).flatMap (λw=>E9 w.1 w.2 [([],1)])=Jt (b t i j) ([],1)++[];rw[append_nil];unfold Jt;induction b t i j with|nil=>rfl|cons w W ih=>rw[flatMap_cons,ih];show[([w.1],w.2*1)]++_=_;rw[Nat.mul_one,map_cons,Nat.one_mul];rfl
 |t0::ts,d::is,f::c,g,l=>by show(b t0 d f).flatMap (λw=>E9 w.1 w.2 (D3 b (ts++[t]) (is++[i]) (c++[j])))=((b t0 d f).flatMap λw=>E9 w.1 w.2 (D3 b ts is c)).flatMap (Jt (b t i j));rw[Apc b t i j ts is c (by simpa using g) (by simpa using l),flatMap_assoc];congr 1;funext w;rw[Aym];unfold E9;rw[flatMap_map];congr 1;funext r;unfold Jt;rw[map_map];congr 1;funext v;show(w.1::(r.1++[v.1]),w.2*(r.2*v.2))=(w.1::r.1++[v.1],w.2*r.2*v.2);rw[Nat.mul_assoc];rfl
 |[],_::_,_,h,_=>by simp at h
 |[],[],_::_,_,h=>by simp at h
 |_::_,[],_,h,_=>by simp at h
 |_::_,_::_,[],_,h=>by simp at h
theorem Ajq(f:α->Λ β){l:Λ α}{x:α}(h:l[j]?=some x):(l.take (j+1)).flatMap f=(l.take j).flatMap f++f x:=by rw[Cs h,flatMap_append];simp
theorem Aen{α β:Type}(f:α->Λ β)(n:Nat):∀l:Λ α,(∀a∈l,(f a).length<=n)->(l.flatMap f).length<=l.length*n
 |[],_=>ψ
 |a::l,h=>by have g:=h a ψ;have m:=Aen f n l λb d=>h b (by simp[d]);rw[flatMap_cons,Fe,Eo,Nat.add_mul];omega
theorem Bcf(l:A2)(h:l.length<=1048576):Za l=some ([],l):=by unfold Za Rj;rw[Dj ζ];rfl
theorem Bcg{c:Ah->Af->Af->A0}(hg:Aem Δ k c)(X:∀t i j a b,Br i<=k->C7 Δ i t=some a->C7 Δ j t=some b->a+b<=6->Bu t<=200->iR i->iR j->Pj K Δ t i j=some ((c t i j).map A3))(ts:A1)(is f:A2){N:Nat}(hk:Bv is<=k)(h1:Cg Δ is ts=some S)(h2:Cg Δ f ts=some N)(h6:S+N<=6)(ht:∀t∈ts,Bu t<=200)(hl:ts.length<=100000)(V:Eu is)(U:Eu f):Tw (K+1) Δ ts is f=some ((D3 c ts is f).map toR):=by obtain⟨l1,g1⟩:=Xf Δ _ _ _ h1;obtain⟨l2,g2⟩:=Xf Δ _ _ _ h2;(have u:∀j,(∀r∈D3 c (ts.take j) (is.take j) (f.take j),1<=r.2/\r.2<=729/\r.1.length<=100000)/\(D3 c (ts.take j) (is.take j) (f.take j)).length<=729:=λj=>by obtain⟨a,F,a2⟩:=Aee Δ is ts S j h1;obtain⟨b,H,b2⟩:=Aee Δ f ts N j h2;have hs:Bv (is.take j)<=Bv is:=(by have:=Uh (is.take j) (is.drop j);rw[take_append_drop]at this;omega);have q1:Eu (is.take j):=(by have:=Adn (is.take j) (is.drop j);rw[take_append_drop]at this;exact(this.1 V).1);have q2:Eu (f.take j):=(by have:=Adn (f.take j) (f.drop j);rw[take_append_drop]at this;exact(this.1 U).1);obtain⟨s,Y⟩:=Aab hg (ts.take j) (is.take j) (f.take j) a b ω F H ω q1 q2;have D:=Nc (show a+b<=6 by omega);refine⟨λr C=>?_,?_⟩;have g:=s r C;have:=Ou C;obtain⟨d,d1,_⟩:=g.deg;have B:=(Xf Δ _ _ _ d1).1;rw[length_take]at B;exact⟨g.pos,ω,ω⟩;have:=L3 λp hp=>(s p hp).pos;omega);rw[Tw,Pv,Ac];refine Fi ts (λj=>((D3 c (ts.take j) (is.take j) (f.take j)).map toR,(j:Int))) (by simp[D3,toR]) ω ?_ ?_;intro j t hj T s Y e3;have o:is[j]?=some (is[j]' ω):=Bi _;generalize is[j]'_=i at o;have h:f[j]?=some (f[j]' ω):=Bi _;generalize f[j]'_=l at h;obtain⟨a,F,a2⟩:=g1 j i t o T;obtain⟨b,H,b2⟩:=g2 j l t h T;have a7:=Jh (Bm o);have L:=ht t (Bm T);have y:=Adm V (Bm o);have x:=Adm U (Bm h);obtain⟨w1,w2⟩:=hg t i l a b ω F H ω y x;have D:=Nc (show a+b<=6 by omega);have I:(c t i l).length<=729:=(by have:=L3 λp hp=>(w1 p hp).pos;omega);(have J:∀w∈c t i l,w.2<=729:=λw hw=>by have:=Ou hw;omega);obtain⟨x1,x2⟩:=u j;have M:D3 c (ts.take (j+1)) (is.take (j+1)) (f.take (j+1))=(D3 c (ts.take j) (is.take j) (f.take j)).flatMap (Jt (c t i l)):=(by rw[Cs T,Cs o,Cs h,Apc _ _ _ _ _ _ _ ζ ζ]);rw[M];have A:=X t i l a b ω F H ω L y x;generalize D3 c (ts.take j) (is.take j) (f.take j)=R at *;generalize c t i l=W at *;simp only[s,Y,Ak,Ac];refine Fi (R.map toR) (λn=>((n:Int),((R.take n).flatMap (Jt W)).map toR)) ψ (by rw[C3];omega) ?_ ?_;intro n r' hn C f1 f2 f3;rw[getElem?_map]at C;obtain⟨r,hq,rfl⟩:=Option.map_eq_some_iff.1 C;obtain⟨y1,Z,y3⟩:=x1 r (Bm hq);have a6:((R.take n).flatMap (Jt W)).length<=729*729:=(by refine Nat.le_trans (Aen _ 729 _ λq _=>by unfold Jt;rw[C3];exact I) (Nat.mul_le_mul_right _ ?_);rw[length_take];omega);simp only[f1,f2,f3,Ak,Ac,Bq rfl o,Bq rfl h,A];refine Fi (W.map A3) (λm=>((m:Int),((R.take n).flatMap (Jt W)).map toR++((Jt (W.take m) r).map toR))) (by simp[Jt]) (by rw[C3];omega) ?_ ?_;intro m w' X hw E p2 p3;rw[getElem?_map]at hw;obtain⟨w,z,rfl⟩:=Option.map_eq_some_iff.1 hw;have G:=J w (Bm z);have a8:(Jt (W.take m) r).length<=729:=(by unfold Jt;rw[C3,length_take];omega);have aa:(((R.take n).flatMap (Jt W)).map toR++(Jt (W.take m) r).map toR).length<=729*729+729:=(by rw[Fe,C3,C3];omega);simp only[E,p2,p3,Ak,Ac];show(Za r.1).bind _=_;rw[Bcf _ ω,Ac,Dj ζ,Ac];show(H5 (cR r.2) (cR w.2)).bind _=_;rw[Ayl Z G,Ac,Dj (by rw[length_singleton];omega),Ac];have:Jt (W.take (m+1)) r=Jt (W.take m) r++[(r.1++[w.1],r.2*w.2)]:=(by unfold Jt;rw[Cs z,map_append];rfl);rw[this,map_append,append_assoc];rfl;intro E;refine⟨_,by simp only[E];rfl,?_⟩;rw[C3,Dh,Ajq _ hq,map_append];intro f1;refine⟨_,by simp only[f1];rfl,?_⟩;rw[C3,Dh,e3];intro s;refine⟨_,by simp only[s];rfl,?_⟩;rw[Hs ω,Hs ω,Hs ω]
theorem Aeo(a:α)(l:Λ α):Fb (a::l) 1 ((a::l).length:Int)=some l:=by unfold Fb;rw[Av ⟨δ,by simp only[Eo];omega,ω⟩];simp
theorem Bch(a:Af)(l:A2)(h:l.length<=999999):Acw [[a],l]=some (a::l):=Aox (B:=32) δ (gr:=Ag7) (λn h=>Ajl n h) [a] l ζ
theorem Apd(e:Af){c:Nat}(m:c<=729)(l:R.length<=729)(o:∀r∈R,r.2<=729/\r.1.length<=100000)(b:Λ I8)(k:b.length<=1000000):Tz e (cR c) (R.map toR) b=some (b++(E9 e c R).map toR):=by unfold Tz;refine Fi (R.map toR) (λn=>((n:Int),b++(E9 e c (R.take n)).map toR)) (by simp[E9]) (by rw[C3];omega) ?_ ?_;intro n j s f f1 f2 f3;rw[getElem?_map]at f;obtain⟨r,d,rfl⟩:=Option.map_eq_some_iff.1 f;obtain⟨g,i⟩:=o r (Bm d);have h:(b++(E9 e c (R.take n)).map toR).length<=1000729:=(by rw[Fe,C3];unfold E9;rw[C3,length_take];omega);simp only[f1,f2,f3,Ak,Ac];show(Acw [[e],r.1]).bind _=_;rw[Bch _ _ ω,Ac];show(H5 (cR c) (cR r.2)).bind _=_;rw[Ayl m g,Ac,Dj (by rw[length_singleton];omega),Ac];have:E9 e c (R.take (n+1))=E9 e c (R.take n)++[(e::r.1,c*r.2)]:=(by unfold E9;rw[Cs d,map_append];rfl);rw[this,map_append,append_assoc];rfl;intro f1;refine⟨_,by simp only[f1];rfl,?_⟩;rw[C3,Dh]
theorem Bci(f:Szv Δ)(i:Kk Δ)(t:Ah)(o:Bu t<=200)(c:Int){ts:A1}(h:Gz Δ t c=some ts):Acx Δ t c=some ts:=by unfold Acx;unfold Gz at h;rw[Anj f t o c,Ac];cases d:Lx Δ t c with|none=>rw[d]at h;cases h|some l=>rw[d]at h;have h:H7 l (Ha Δ t.U c)=ts:=E6 h;subst h;have k:=Adj d;obtain⟨x,y,_,r,_,w,s,_⟩:=R9 d;obtain⟨g,_⟩:=f x (Hb r).2.2.2 y (Hb w).2.2.2;have q:l.length<=6:=(by rw[s];simpa using g);simp only[okL,Ahx Δ t.U c i,Ac];refine Fi (Ha Δ t.U c) (λj=>((j:Int),H7 (l.take j) ((Ha Δ t.U c).take j))) (by simp[H7]) ω ?_ ?_;intro j b F A m B C;have n:l[j]?=some l[j]:=Bi ω;generalize l[j]=a at n;have u:=Zn (l.take j) ((Ha Δ t.U c).take j);have:(l.take j).length<=6:=ζ;simp only[m,B,C,Ak,Ac,Bq rfl n,Ah1 n A];rw[Dj ζ];cases b<;>simp;intro m;refine⟨_,by simp only[m];rfl,?_⟩;rw[Hs ω,Hs (Nat.le_refl _)]
def Ape(Δ:Ad)(k K:Nat):Prop:=∀(ts:A1)(is b:A2)(f c:Nat),Bv is<=k->Cg Δ is ts=some f->Cg Δ b ts=some c->f+c<=6->(∀t∈ts,Bu t<=200)->ts.length<=100000->Eu is->Eu b->Tw K Δ ts is b=some ((D3 (Dc Δ k) ts is b).map toR)
theorem Bcj(hz:Szv Δ)(hs:Kk Δ)(ht:Bu t<=200)(hR:∀K,I<=K->Ape Δ k K):∀(n:Nat)(l m:A2)(K u s:Nat),l.length+m.length<=n->I+n+1<=K->Bv l<=k+1->(∀e∈l,Bv e.K<=k)->Fo Δ l t=some u->Fo Δ m t=some s->u+s<=6->Eu l->Eu m->Ql K Δ t l m=some ((Is (Ho Δ t (D3 (Dc Δ k))) l m).map toR):=by intro n;induction n with|zero=>intro l m K u s hn hK _ _ _ _ _ _ _;have e1:l=[]:=F5.1 ω;obtain⟨K,rfl⟩:∃Z,K=Z+1:=⟨K-1,ω⟩;subst e1;rw[Ql,Xl,Pv];rfl|succ n ih=>intro l m K u s hn hK E T h1 h2 h6 L J;obtain⟨K,rfl⟩:∃Z,K=Z+1:=⟨K-1,ω⟩;rw[Ql];cases l with|nil=>rw[Xl,Pv];rfl|cons a l=>rw[Cx ζ,Al];cases m with|nil=>rw[Aej,Pv];rfl|cons b m=>rw[Cx ζ,Al];obtain⟨ts,D,H,C,a2,a3,rfl⟩:=Aac h1;obtain⟨i,B,A,b1,b2,o,rfl⟩:=Aac h2;have h:=L;have g:=J;simp only[Eu]at h g;have za:Bv (a::l)=Br a+Bv l:=(by simp only[Bv]);have j:∀e∈l,Bv e.K<=k:=λe he=>T e (by simp[he]);have n1:=Sa Δ _ _ _ h1;have n2:=Sa Δ _ _ _ h2;simp only[Eo]at hn n1 n2;(have f:∀(l m:A2)(u s:Nat),Bv l<=k+1->(∀e∈l,Bv e.K<=k)->Fo Δ l t=some u->Fo Δ m t=some s->u+s<=6->Eu l->Eu m->(∀r∈Is (Ho Δ t (D3 (Dc Δ k))) l m,r.2<=729/\r.1.length<=100000)/\(Is (Ho Δ t (D3 (Dc Δ k))) l m).length<=729:=λl m u s q1 q2 q3 q4 q5 q6 q7=>by obtain⟨G,x2⟩:=Apb (Mt Δ k) t l m u s q1 q2 q3 q4 q5 q6 q7;have:=Nc q5;refine⟨λr F=>⟨by have:=Ou F;omega,?_⟩,?_⟩;obtain⟨d,d1,d2⟩:=(G r F).deg;have:=Sa Δ _ _ _ d1;omega;have:=L3 λp hp=>(G p hp).pos;omega);have s1:Fb (a::l) 1 ((a::l).length:Int)=some l:=Aeo a l;have s2:Fb (b::m) 1 ((b::m).length:Int)=some m:=Aeo b m;have i1:Ag (a::l) 0=some a:=rfl;have i2:Ag (b::m) 0=some b:=rfl;obtain⟨G,x2⟩:=f l (b::m) H (1+B+A) ω j a3 h2 ω h.2 J;obtain⟨y1,y2⟩:=f (a::l) m (1+D+H) A E T h1 o ω L g.2;obtain⟨z1,z2⟩:=f l m H A ω j a3 o ω h.2 g.2;(have Y:∀(e:Af)(c:Nat)(R:Bj),((E9 e c R).map toR).length=R.length:=λe c R=>by unfold E9;simp);have c1:Hy 1=some (cR 1):=Pv;rw[i1,Ac,c1,Ac,s1,Ac,ih l (b::m) K H (1+B+A) ζ ω ω j a3 h2 ω h.2 J,Ac,Apd a δ x2 G [] ψ,Ac,i2,Ac,Ac,s2,Ac, ih (a::l) m K (1+D+H) A ζ ω E T h1 o ω L g.2,Ac,Apd b δ y2 y1 _ (by rw[nil_append,Y];omega),Ac,Ac,Ac];rw[Aaa];by_cases e:a.U=b.U;have S:i=ts:=(by rw[<-e,C]at b1;exact(E6 b1).symm);subst S;have U:Mq Δ t a.U=i:=(by unfold Mq;rw[C]);obtain⟨p1,p2⟩:=Adl C;have pl:i.length<=100000:=(by unfold Gz at C;cases hf:Lx Δ t a.U with|none=>rw[hf]at C;cases C|some l=>rw[hf]at C;have C:H7 l (Ha Δ t.U a.U)=i:=E6 C;obtain⟨x,y,_,hx,_,hy,hl,_⟩:=R9 hf;obtain⟨y6,_⟩:=hz x (Hb hx).2.2.2 y (Hb hy).2.2.2;have a8:l.length<=6:=(by rw[hl];simpa using y6);have:=Zn l (Ha Δ t.U a.U);rw[C]at this;omega);have ha:=h.1;have hb:=g.1;rw[Oh]at ha hb;have z:=hR K ω i a.K b.K D B (T a ψ) a2 b2 ω p1 pl ha.2 hb.2;obtain⟨w1,w2⟩:=Aab (Mt Δ k) i a.K b.K D B (T a ψ) a2 b2 ω ha.2 hb.2;have a6:=Nc (show D+B<=6 by omega);have a7:(D3 (Dc Δ k) i a.K b.K).length<=729:=(by have:=L3 λp hp=>(w1 p hp).pos;omega);(have N:∀r∈D3 (Dc Δ k) i a.K b.K,r.2<=729:=λr F=>by have:=Ou F;omega);rw[Ew e,Ak,Ac,Ac,ih l m K H A ω ω ω j a3 o ω h.2 g.2,Ac,Ac,Bci hz hs t ht _ C,Ac,Ac,Ac,z,Ac];have X:Ho Δ t (D3 (Dc Δ k)) a b=(D3 (Dc Δ k) i a.K b.K).map λr=>(⟨a.U,r.1⟩,r.2):=(by unfold Ho;rw[Av e,U]);rw[X];generalize D3 (Dc Δ k) i a.K b.K=W at *;generalize Is (Ho Δ t (D3 (Dc Δ k))) l m=M at *;(have hO:∀n,(flatMap (λw:Af×Nat=>E9 w.1 w.2 M) ((W.take n).map λr=>(⟨a.U,r.1⟩,r.2))).length<=729*729:=λn=>by refine Nat.le_trans (Aen _ 729 _ λq _=>by unfold E9;rw[C3];exact z2) (Nat.mul_le_mul_right _ ?_);rw[C3,length_take];omega);refine Fi (W.map toR) (λn=>((n:Int),[]++(E9 a 1 (Is (Ho Δ t (D3 (Dc Δ k))) l (b::m))).map toR++(E9 b 1 (Is (Ho Δ t (D3 (Dc Δ k))) (a::l) m)).map toR++(flatMap (λw:Af×Nat=>E9 w.1 w.2 M) ((W.take n).map λr=>(⟨a.U,r.1⟩,r.2))).map toR)) ψ (by rw[C3];omega) ?_ ?_;intro n r' hn F f1 f2 f3;rw[getElem?_map]at F;obtain⟨r,hq,rfl⟩:=Option.map_eq_some_iff.1 F;have V:=N r (Bm hq);have aa:=hO n;simp only[f1,f2,f3,Ak,Ac,i1];show(Tz ⟨a.U,r.1⟩ (cR r.2) _ _).bind _=_;rw[Apd _ V z2 z1 _ (by rw[Fe,Fe,Fe,Y,Y,C3,length_nil];omega),Ac];rw[Cs hq,map_append,flatMap_append,map_append,append_assoc];simp;intro f1;refine⟨_,by simp only[f1];rfl,?_⟩;rw[C3,Dh,map_append,map_append];simp;rw[Cx e,Al];have X:Ho Δ t (D3 (Dc Δ k)) a b=[]:=(by unfold Ho;rw[As e]);rw[X,map_append,map_append];simp
theorem Bck(h:∀t i j a b,Br i<=k->C7 Δ i t=some a->C7 Δ j t=some b->a+b<=6->Bu t<=200->iR i->iR j->Pj K Δ t i j=some ((Dc Δ k t i j).map A3)):Ape Δ k (K+1):=λts is g _ _ d m n q o l f c=>Bcg (Mt Δ k) h ts is g d m n q o l f c
theorem Ayn(g:R.length<=100000){step:Int×List Aq->Ο ((Int×List Aq)⊕List Aq)}(b:∀(v:Int)(o:Bs),step (v,o)=bif v<((R.map toR).length:Int)then((Ag (R.map toR) v).bind λr=>(B5 88 o [Aq.mk (Af.mk 0 r.list) r.coef]).bind λo=>some (.inl (Aa (v+1),o)))else some (.inr o))(c:J ((R.map λr=>((⟨0,r.1⟩:Af),r.2)).map A3)=some q):(Am step (0,[])).bind J=some q:=by refine Fi (R.map toR) (λn=>((n:Int),((R.take n).map λr=>((⟨0,r.1⟩:Af),r.2)).map A3)) ψ (by rw[C3];omega) ?_ ?_;intro n f l d f1 f2 f3;rw[getElem?_map]at d;obtain⟨r,h,rfl⟩:=Option.map_eq_some_iff.1 d;rw[b,f1,Ak,f2,Ac,Dj (by rw[C3,C3,length_take,length_singleton];omega),Ac,f3,Cs h,map_append,map_append];rfl;intro f1;refine⟨_,by rw[b,f1,Al],?_⟩;rw[C3,Dh];exact c
theorem Bcl(h:a+b<=12){step:Int×List Aq->Ο ((Int×List Aq)⊕List Aq)}(c:∀(v:Int)(o:Bs),step (v,o)=bif v<((Ls (a+b+1) (Rc a b)).length:Int)then((Ag (Ls (a+b+1) (Rc a b)) v).bind λx=>(Kh x).bind λs=>bif(s != (0:Int))then((B5 88 o [Aq.mk (Af.mk v []) x]).bind λo=>some (.inl (Aa (v+1),o)))else some (.inl (Aa (v+1),o)))else some (.inr o))(j:J ((Uz a b).map A3)=some q):(Am step (0,[])).bind J=some q:=by(have f:∀n,(((range (n+1)).filter λk=>Rc a b k != 0).map λ(k:Nat)=>((⟨(k:Int),[]⟩:Af),Rc a b k)).map A3=(((range n).filter λk=>Rc a b k != 0).map λ(k:Nat)=>((⟨(k:Int),[]⟩:Af),Rc a b k)).map A3++(if Rc a b n=0 then[]else[⟨⟨(n:Int),[]⟩,cR (Rc a b n)⟩]):=λn=>by rw[range_succ,filter_append,map_append,map_append];by_cases h:Rc a b n=0;simp[h];simp[h,A3]);refine Fi (Ls (a+b+1) (Rc a b)) (λn=>((n:Int),(((range n).filter λk=>Rc a b k != 0).map λ(k:Nat)=>((⟨(k:Int),[]⟩:Af),Rc a b k)).map A3)) ψ (by rw[K4];omega) ?_ ?_;intro n x l d f1 f2 f3;rw[K4]at l;rw[Mr _ l]at d;have d:cR (Rc a b n)=x:=E6 d;subst d;have i:Rc a b n<=3^12:=(by have m:=Ael a b (n+1);have r:Rc a b n<=sm (n+1) (Rc a b):=(by rw[sm];omega);exact Nat.le_trans r (Nat.le_trans m (Nat.pow_le_pow_right δ h)));have g:((((range n).filter λk=>Rc a b k != 0).map λ(k:Nat)=>((⟨(k:Int),[]⟩:Af),Rc a b k)).map A3).length<=13:=(by rw[C3,C3];refine Nat.le_trans (length_filter_le _ _) ?_;rw[length_range];omega);rw[c,f1,Ak,f2,Ac,(Np.cR (a:=Rc a b n) (Ip ω)).sign,Ac,f n];by_cases h:Rc a b n=0;rw[Av h,Av h,append_nil,f3];rfl;rw[As h,As h,show((1:Int) != 0)=true from rfl,Ak,Dj (by rw[length_singleton];omega),Ac,f3];intro f1;refine⟨_,by rw[c,f1,Al],?_⟩;rw[K4];exact j
theorem Bcm(N:Szv Δ)(U:Kk Δ):∀(k:Nat)(t:Ah)(i j:Af)(K q l:Nat),Br i<=k->10*k<=K->C7 Δ i t=some q->C7 Δ j t=some l->q+l<=6->Bu t<=200->iR i->iR j->Pj K Δ t i j=some ((Dc Δ k t i j).map A3):=by intro k;induction k with|zero=>intro t i j K q l h;have:=Dy i;omega|succ k ih=>intro t i j K q l z X d m y n E D;obtain⟨K,rfl⟩:∃B,K=B+1:=⟨K-1,ω⟩;have M:=Dy i;have g:=E;have f:=D;rw[Oh]at g f;(have J:∀K,10*k+1<=K->Ape Δ k K:=λK X=>by obtain⟨K,rfl⟩:∃B,K=B+1:=⟨K-1,ω⟩;exact Bck λt i j a b r w C F Z y Y=>ih t i j K a b r ω w C F Z y Y);have A:=Mt Δ (k+1) t i j q l z d m y E D;have L:=Nc y;have c:(Dc Δ (k+1) t i j).length<=729:=(by have:=L3 λp hp=>(A.1 p hp).pos;omega);rw[Pj];rw[Dc]at c⊢;have R:=I0 t;by_cases u:t.G=6;rw[Av u]at c⊢;rw[Ew u,Ak];have d:=Oq u d;have m:=Oq u m;have S:=Kb t.R;rw[J K ω t.R i.K j.K q l ω d m y (λa H=>by have:=I9 H;omega) ω g.2 f.2,Ac];rw[C3]at c;exact Ayn ω (λv o=>rfl) rfl;rw[As u]at c⊢;rw[Cx u,Al];by_cases s:t.G=7;rw[Av s];rw[Ew s,Ak];obtain⟨e,_⟩:=Q3 s d;obtain⟨W,_⟩:=Q3 s m;have I:(i.U.toNat:Int)=i.U:=ω;have G:(j.U.toNat:Int)=j.U:=ω;have V:Acp i.U j.U=some (Ls (i.U.toNat+j.U.toNat+1) (Rc i.U.toNat j.U.toNat),true):=(by unfold Acp;rw[Au ω,Au ω,Au ω,Au ω];simp only[Al,Ac];have:=Ax8 i.U.toNat j.U.toNat ω ω;rw[I,G]at this;rw[this,Ac]);rw[V,Ac];exact Bcl ω (λv o=>rfl) rfl;rw[As s]at c⊢;rw[Cx s,Al];by_cases x:t.G=5;rw[Av x]at c⊢;rw[Ew x,Ak];have d:=Ot x d;have m:=Ot x m;have I:=Sa Δ _ _ _ d;have G:=Sa Δ _ _ _ m;rw[Bcj N U n J (i.K.length+j.K.length) i.K j.K K q l (Nat.le_refl _) ω ω (λe T=>by have:=Jh T;have:=Dy e;omega) d m y g.2 f.2,Ac];rw[C3]at c;exact Ayn ω (λv o=>rfl) rfl;rw[As x];rw[Cx x,Al,Pv,Ac,Dj ψ,Ac];rfl
theorem Ayo:∀k,Zj k=Qj k
 |0=>by funext i b;rfl
 |k+1=>by have ih:=Ayo k;funext i b;rw[Zj,Qj,ih]
theorem Bcn(i:Af)(hi:Br i<=1048576)(d:iR i):Aco i []=some (wx i):=by have h:=Avn 4000001 i [] ω d ζ;rw[nil_append]at h;rw[<-h,show(4000001:Nat)=4000000+1 from rfl,Qj,<-Ayo];rfl
theorem By.wx(i:Af):By (Go.Ab.wx i):=Anq i
def Lo(i:Af):Β:=bs (wx i)
theorem Ayp{j:Af}(h:Lo i=Lo j):i=j:=by have d:=Aol (By.wx i) (By.wx j) h;have g:=Aia i j [] [] Ah9 Ah9 (by rw[append_nil,append_nil];exact d);exact g.1
theorem Bco(i:Af):wx i≠[]:=by rw[Ah8];intro h;exact Ah7 _ (append_eq_nil_iff.1 h).1
theorem Bcp(i:Af):Nat.beq (Lo i).size 0=false:=by unfold Lo;rw[Z2];have:=Bco i;cases h:wx i with|nil=>exact(this h).elim|cons a l=>rfl
def pls(ts:A0):At:=ts.zipIdx.map λq=>(Lo q.1.1,(q.2:Int))
def Dw(ts:A0):Prop:=ts.Pairwise λt u=>t.1≠u.1
theorem Bcq(ts:A0)(t:Af×Nat):pls (ts++[t])=pls ts++[(Lo t.1,(ts.length:Int))]:=by unfold pls;rw[zipIdx_append];simp
theorem Aep(ts:A0)(j:Nat):(pls ts)[j]?=(ts[j]?).map λt=>(Lo t.1,(j:Int)):=by unfold pls;rw[getElem?_map,getElem?_zipIdx];cases ts[j]?<;>simp
theorem Bcr{ts:A0}{t:Af×Nat}(h:ts[j]?=some t)(b:u.1=t.1):pls (ts.set j u)=pls ts:=by refine ext_getElem? λn=>?_;rw[Aep,Aep,getElem?_set];by_cases e:j=n;subst e;rw[Av rfl,h];have:=Dq h;rw[Av this];simp[b];rw[As e]
theorem Bcs{ts:A0}{m:Af}(h:∀t∈ts,t.1≠m):Fz (pls ts) (Lo m)=false:=by cases e:Fz (pls ts) (Lo m)with|false=>rfl|true=>unfold Fz at e;obtain⟨p,hp,e⟩:=any_eq_true.1 e;obtain⟨j,d⟩:=Gl hp;rw[Aep]at d;obtain⟨t,g,rfl⟩:=Option.map_eq_some_iff.1 d;exact(h t (Bm g) (Ayp ((Of _ _).1 e)).symm).elim
theorem Bct{ts:A0}(m:Dw ts){t:Af×Nat}(h:ts[j]?=some t):Fz (pls ts) (Lo t.1)=true/\I5 (pls ts) (Lo t.1) 0=(j:Int):=by have o:=Aep ts j;rw[h]at o;have b:(Lo t.1,(j:Int))∈pls ts:=Bm o;refine⟨?_,?_⟩;unfold Fz;exact any_eq_true.2 ⟨_,b,(Of _ _).2 rfl⟩;unfold I5;cases l:(pls ts).find? λp=>Lo t.1==p.1 with|none=>rw[find?_eq_none]at l;exact(l _ b ((Of _ _).2 rfl)).elim|some p=>have g:=find?_some l;have g:Lo t.1=p.1:=(Of _ _).1 g;obtain⟨n,r⟩:=Gl (mem_of_find?_eq_some l);rw[Aep]at r;obtain⟨u,d,rfl⟩:=Option.map_eq_some_iff.1 r;have g:=Ayp g;show(n:Int)=j;rcases Nat.lt_trichotomy n j with k|k|k;exact(pairwise_iff_getElem.1 m n j (Dq d) (Dq h) k (by rw[Bi (Dq d)]at d;rw[Bi (Dq h)]at h;rw[E6 d,E6 h];exact g.symm)).elim;rw[k];exact(pairwise_iff_getElem.1 m j n (Dq h) (Dq d) k (by rw[Bi (Dq d)]at d;rw[Bi (Dq h)]at h;rw[E6 d,E6 h];exact g)).elim
theorem Apf{α:Type}(f:α->Nat):∀{ts:Λ (α×Nat)}{j:Nat}{t:α×Nat}(c:Nat),ts[j]?=some t->pv f (ts.set j (t.1,t.2+c))=pv f ts+c*f t.1
 |t'::ts,0,t,c,h=>by have h:t'=t:=(by simpa using h);subst h;simp only[set_cons_zero,pv,Nat.add_mul];omega
 |t'::ts,j+1,t,c,h=>by have ih:=Apf f (ts:=ts) (j:=j) (t:=t) c (by simpa using h);simp only[set_cons_succ,pv,ih];omega
 |[],_,_,_,h=>by simp at h
structure Cw(P:Af->Prop)(ts:List (Af×Nat)):Prop where
 dst:Dw ts
 mo:∀t∈ts,P t.1
 pos:∀t∈ts,1<=t.2
theorem Cw.nil(P:Af->Prop):Cw P []:=⟨Pairwise.nil,λ_ h=>(by cases h),λ_ h=>(by cases h)⟩
theorem Dw.set{ts:A0}(h:Dw ts){t:Af×Nat}(d:ts[j]?=some t)(b:u.1=t.1):Dw (ts.set j u):=by(have e:∀l:A0,Dw l↔(l.map (·.1)).Pairwise (·≠·):=λl=>by unfold Dw;rw[pairwise_map]);rw[e]at h⊢;(have:(ts.set j u).map (·.1)=ts.map (·.1):=by refine ext_getElem? λn=>?_;rw[getElem?_map,getElem?_map,getElem?_set];by_cases k:j=n;subst k;rw[Av rfl,Av (Dq d),d];simp[b];rw[As k]);rw[this];exact h
theorem Ayq(Y:∀i,P i->Br i<=1048576/\iR i)(l ts:A0)(I:Cw P ts)(X:∀t∈l,P t.1/\1<=t.2)(Z:pv (λ_=>1) ts+pv (λ_=>1) l<F0)(hn:ts.length+l.length<=1000000000)(Δ:Ad)(a b:Int)(c:A1):∃k,To (l.map A3) (pls ts) (ts.map A3) Δ a b c=some (pls k,k.map A3)/\Cw P k/\k.length<=ts.length+l.length/\∀f:Af->Nat,pv f k=pv f ts+pv f l:=by unfold To;refine Adb (A:=List (Af×Nat)) (λk=>(pls k,k.map A3)) ?_;refine Ft (λs=>∃(j:Nat)(u:A0),s=((j:Int),pls u,u.map A3)/\j<=l.length/\Cw P u/\u.length<=ts.length+j/\∀f:Af->Nat,pv f u=pv f ts+pv f (l.take j)) (λs=>l.length-s.1.toNat) (λz=>∃u,z=(pls u,u.map A3)/\Cw P u/\u.length<=ts.length+l.length/\∀f:Af->Nat,pv f u=pv f ts+pv f l) ⟨0,ts,rfl,ω,I,ω,λf=>by simp only[take_zero,pv];omega⟩ ?_ ?_;rintro _ ⟨j,u,rfl,hj,n,G,B⟩;rcases Cj j l.length with h|h;have F:l[j]?=some l[j]:=Bi h;generalize l[j]=x at F;obtain⟨N,hp⟩:=X x (Bm F);obtain⟨S,R⟩:=Y _ N;have E:(l.map A3)[j]?=some (A3 x):=(by rw[getElem?_map,F];rfl);have J:pv (λ_=>1) (l.take (j+1))<=pv (λ_=>1) l:=(by have:=Hn (λ_=>1) (l.take (j+1)) (l.drop (j+1));rw[take_append_drop]at this;omega);(have q:∀f:Af->Nat,pv f (l.take (j+1))=pv f (l.take j)+x.2*f x.1:=λf=>by rw[Cs F,Hn];simp only[pv];omega);have V:=q λ_=>1;have U:=B λ_=>1;have y:((l.map A3).length:Int)=(l.length:Int):=(by rw[C3]);have d:Aco (A3 x).I []=some (wx x.1):=Bcn x.1 S R;simp only[y,An (ω:(j:Int)<(l.length:Int)),Ak,Bq rfl E,Ac,d,Dl h ω,Q2 (By.wx x.1)];have H:bs (wx x.1)=Lo x.1:=rfl;rw[H];left;by_cases o:∃t∈u,t.1=x.1;obtain⟨t,r,T⟩:=o;obtain⟨i,C⟩:=Gl r;obtain⟨W,g2⟩:=Bct n.dst C;rw[T]at W g2;have L:(u.map A3)[i]?=some (A3 t):=(by rw[getElem?_map,C];rfl);have tb:=Ou r;have D:N7 (A3 t).C (A3 x).C=some (cR (t.2+x.2)):=Np.add (Np.c ω) (Np.c ω);refine⟨((j+1:Nat),pls (u.set i (t.1,t.2+x.2)),(u.set i (t.1,t.2+x.2)).map A3),?_,⟨j+1,u.set i (t.1,t.2+x.2),rfl,ω,⟨n.dst.set C rfl,?_,?_⟩,by rw[length_set];omega,λf=>?_⟩,ζ⟩;simp only[W,g2,Ak,Ac,Bq rfl L,D,Gw rfl,Bcr (u:=(t.1,t.2+x.2)) C rfl];rw[map_set];rfl;intro w d;rcases mem_or_eq_of_mem_set d with d|rfl;exact n.mo w d;exact n.mo t r;intro w d;rcases mem_or_eq_of_mem_set d with d|rfl;exact n.pos w d;show 1<=t.2+x.2;omega;rw[Apf f x.2 C,B f,q f,T];omega;have g:=Bcs (m:=x.1) (ts:=u) λt r e=>o ⟨t,r,e⟩;have M:Zk (Lo x.1)=some (Lo x.1):=(by unfold Zk;rw[Bcp,Al]);refine⟨((j+1:Nat),pls (u++[x]),(u++[x]).map A3),?_,⟨j+1,u++[x],rfl,ω,⟨?_,?_,?_⟩,ζ,λf=>?_⟩,ζ⟩;simp only[g,Al,Ac,M];rw[Dj (by rw[C3,length_singleton];omega),Ac,Aot _ _ _ g,Bcq,map_append,C3];rfl;refine pairwise_append.2 ⟨n.dst,pairwise_singleton _ _,λa ha b H=>?_⟩;simp only[Fh]at H;subst H;exactλe=>o ⟨a,ha,e⟩;intro w d;rcases Ea.1 d with d|d;exact n.mo w d;simp only[Fh]at d;subst d;exact N;intro w d;rcases Ea.1 d with d|d;exact n.pos w d;simp only[Fh]at d;subst d;exact hp;rw[Hn,B f,q f];simp only[pv];omega;have:j=l.length:=ω;subst this;rw[Dh]at B;have y:((l.map A3).length:Int)=(l.length:Int):=(by rw[C3]);simp only[y,Au (ω:¬(l.length:Int)<(l.length:Int)),Al];exact .inr ⟨_,rfl,u,rfl,n,G,B⟩;rintro _ ⟨u,rfl,h1,h2,h3⟩;exact⟨_,rfl,u,rfl,h1,h2,h3⟩
theorem Bcu{B:Nat}(f:B<=1024){gr:Int->Ο (List α)}(hg:∀n:Nat,n<=1000000->gr (n:Int)=some [])(ls:Λ (List α))(g:ls.length<=1000)(h:ls.flatten.length<=1000000):Ajh B gr ls=some ls.flatten:=by(have b:∀{j x},ls[j]?=some x->(ls.take (j+1)).flatten=(ls.take j).flatten++x:=λ{j x} d=>by rw[Cs d,flatten_append];simp);(have c:∀j,(ls.take j).flatten.length<=1000000:=λj=>by have:ls.flatten=(ls.take j).flatten++(ls.drop j).flatten:=(by rw[<-flatten_append,take_append_drop]);rw[this,Fe]at h;omega);unfold Ajh;refine Fi ls (λj=>(((ls.take j).flatten.length:Int),(j:Int))) rfl ω ?_ ?_;intro j x s d l o r;have m:=c (j+1);rw[b d,Fe]at m;have w:Aa (((ls.take j).flatten.length:Int)+(x.length:Int))=(((ls.take (j+1)).flatten.length:Nat):Int):=(by rw[b d,Fe,Aa,Bz]<;>omega);simp only[l,o,r,Ak,Ac,w,Au (ω:¬(((ls.take (j+1)).flatten.length:Nat):Int)<0),Al];intro l;refine⟨(((ls.take ls.length).flatten.length:Nat):Int),by simp only[l];rfl,?_⟩;rw[Dh,hg _ h,Ac];refine Fi ls (λj=>((j:Int),(ls.take j).flatten)) rfl ω ?_ ?_;intro j x s d l o r;have m:=c (j+1);rw[b d,Fe]at m;have:((ls.take j).flatten.length+x.length)*B<=1000000*1024:=Nat.mul_le_mul m f;simp only[l,o,r,Ak,Ac];rw[Dj ω,Ac,b d];intro l;exact⟨ls.flatten,by simp only[l,Dh];rfl,rfl⟩
theorem Bcv(ls:Io)(b:ls.length<=1000)(h:ls.flatten.length<=1000000):Ag2 ls=some ls.flatten:=Bcu (B:=88) δ (gr:=Ag5) (λn h=>Ajl n h) ls b h
theorem Ayr:∀k,M3 k=Rz k
 |0=>by funext i;rfl
 |k+1=>by have ih:=Ayr k;funext i;rw[M3,Rz,ih]
theorem Aeq{a b:Af}:Fp a b=0↔a=b:=Ai6.zero a b trivial trivial
theorem Aer(a b:Af):Fp b a = - Fp a b:=Ai6.anti a b trivial trivial
theorem Ays{a b c:Af}(h:Fp a b<0)(d:Fp b c<0):Fp a c<0:=Ai6.trans a b c trivial trivial trivial h d
theorem Apg:P8 (λt u:Aq=>Fp t.I u.I) where
 irr x:=by
  show ¬Fp x.I x.I<0
  rw[Aeq.2 rfl];omega
 trs x y z g d:=Ays g d
 ntr x y z g d:=by
  show ¬Fp x.I z.I<0
  have g:¬Fp x.I y.I<0:=g
  have d:¬Fp y.I z.I<0:=d
  intro h
  rcases Int.lt_trichotomy (Fp x.I y.I) 0 with k|k|k
  .exact g k
  .rw[Aeq.1 k]at h;exact d h
  .exact d (Ays (show Fp y.I x.I<0 by rw[Aer x.I y.I];omega) h)
theorem Ayt(a b:Aq)(h:Br a.I<=1048576):Qm a b=some (Fp a.I b.I):=by unfold Qm;rw[Avs 1048576 4000000 a.I b.I h ω ω];rfl
def Aph(b:Bs):Bs:=b.mergeSort λt u=>decide (Fp t.I u.I<=0)
theorem Bcw(f:Bs)(l:f.Pairwise λt u=>t.I≠u.I):(Aph f).Pairwise λt u=>Fp t.I u.I<0:=by have d:=pairwise_mergeSort (le:=λt u:Aq=>decide (Fp t.I u.I<=0)) (λa b c d g=>by simp only[Es]at *;have:=Apg.ntr c b a (by show ¬Fp _ _<0;rw[Aer];omega) (by show ¬Fp _ _<0;rw[Aer];omega);have this:¬Fp c.I a.I<0:=this;rw[Aer]at this;omega) (λa b=>by simp only[Bool.or_eq_true,Es];rw[Aer a.I b.I];omega) f;have g:(Aph f).Pairwise λt u=>t.I≠u.I:=((mergeSort_perm f _).pairwise_iff λ{x y} h=>h.symm).2 l;refine(d.and g).imp λ{t u} h=>?_;have a:=of_decide_eq_true h.1;have b:Fp t.I u.I≠0:=λe=>h.2 (Aeq.1 e);omega
theorem Bcx(b:Bs)(o:b.Pairwise λt u=>t.I≠u.I)(c:∀t∈b,Br t.I<=1048576):∃R,Mf b=some R/\R.Perm b:=by rcases Cj 12 b.length with h|h;have e:Nat.ble b.length 12=false:=(by cases k:Nat.ble b.length 12 with|false=>rfl|true=>have:=Nat.le_of_ble_eq_true k;omega);unfold Mf;rw[e,Al];obtain⟨r,f,i,s,B,hp,_⟩:=Asr (cmp:=Qm) (l:=b) (r:=Aph b) ⟨_,Apg,λx d y _=>Ayt x y (c x d),mergeSort_perm b _,Bcw b o⟩;exact⟨r,f,hp⟩;obtain⟨R,A,m,_⟩:=Axq (cmp:=Qm) Apg b (λx d y _=>Ayt x y (c x d)) ω;obtain⟨v,g⟩:=Axl (n:=b.length) ω;refine⟨R,?_,m⟩;unfold Mf;rw[Nat.ble_eq_true_of_le h,Ak];unfold Amt;rw[g,Ac];have hp:Acy 0 (b.length:Int) v b=some R:=(by unfold Acy;have e:Ag8 0 (b.length:Int) b=Ad8 Qm 0 (b.length:Int) b:=rfl;have w:Aa ((b.length:Int)-0)=(b.length:Int):=ξ;refine Ff (a:=R) (Ej ?_) rfl;rw[w,An ω,Ak,e,A,Ac,On m.length_eq.symm];rfl);rw[hp,Ac,On m.length_eq.symm];rfl
def dgi(Δ:Ad)(t:Ah)(p:Af×Nat):Nat:=match C7 Δ p.1 t with|some d=>d|none=>0
def bk(Δ:Ad)(t:Ah)(L:A0)(d:Nat):A0:=L.filter λp=>dgi Δ t p==d
theorem Ayu{α:Type}(f:α->Nat):∀(n:Nat)(L:Λ α),(∀x∈L,f x<n)->((range n).flatMap λd=>L.filter λx=>f x==d).Perm L
 |0,L,h=>by cases L with|nil=>exact Perm.refl _|cons x L=>exact absurd (h x ψ) ω
 |n+1,L,h=>by(have ih:=Ayu f n (L.filter λx=>!(f x==n)) λx l=>by obtain⟨m,o⟩:=mem_filter.1 l;have:=h x m;have:f x≠n:=(by simpa using o);omega);rw[range_succ,flatMap_append];(have e:((range n).flatMap λd=>(L.filter λx=>!(f x==n)).filter λx=>f x==d)=(range n).flatMap λd=>L.filter λx=>f x==d:=by(have g:∀R:Ca,(∀d∈R,d<n)->(R.flatMap λd=>(L.filter λx=>!(f x==n)).filter λx=>f x==d)=R.flatMap λd=>L.filter λx=>f x==d:=by intro R;induction R with|nil=>intro _;rfl|cons d R b=>intro c;rw[flatMap_cons,flatMap_cons,b λq r=>c q (by simp[r]),filter_filter];congr 1;refine filter_congr λx _=>?_;have:=c d ψ;by_cases e:f x=d;have:f x≠n:=ω;simp[e];omega;simp[e]);exact g _ λd s=>mem_range.1 s);rw[e]at ih;refine(Perm.append_right _ ih).trans ?_;have:=filter_append_perm (λx=>!(f x==n)) L;simp only[Bool.not_not]at this;simpa using this
theorem Ayv(d:Bw a<=3)(hb:Bw b<=3):Ik (cR a) (cR b)=some (cR (a*b)):=by have h:=Ax5 d hb δ δ;obtain⟨c,g,l,_⟩:=Adz (Ll (k:=3) d δ) (Ll (k:=3) hb δ) δ δ;rw[h]at g;cases g;exact l
theorem Bcy(d:Bw a<=3)(hb:Bw b<=3):Pf (cR a) (cR b)=some (cR (a+b)):=by have h:=Bar d hb δ δ;obtain⟨c,g,l,_⟩:=Ady (Ll (k:=3) d δ) (Ll (k:=3) hb δ) δ δ;rw[h]at g;cases g;exact l
theorem Ayw(d:Bw a<=3)(h:1<=a):∃s,My (cR a)=some s/\(s==0)=false:=by refine⟨_,(W9 (Ll (k:=3) d δ) δ).2,Cx λe=>?_⟩;have:=(Z7 _).1 e;rw[Sh]at this;(have:a=0:=by exact_mod_cast this);omega
theorem Bcz:∃s,My (cR 0)=some s/\(s==0)=true:=by refine⟨_,(W9 (Ll (k:=3) (Ip ω) δ) δ).2,Ew ((Z7 _).2 ?_)⟩;rw[Sh];rfl
theorem Bc0(d:Bw a<=3):Lu (cR a)=some (cR a):=by obtain⟨c,_,g,h,l,_⟩:=Aws (Ll (k:=3) d δ) δ;rw[g,Adx h (Us _ _ _ δ) l];rfl
theorem Aes:La 1=some (cR 1):=A85 1 δ δ
theorem Api{step:Int->Ο (Int⊕Int)}{n:Nat}{stop:Nat->Prop}(m:∀j,j<n->¬stop j->step (j:Int)=some (.inl ((j+1:Nat):Int)))(o:∀j,j<n->stop j->step (j:Int)=some (.inr (j:Int)))(r:step (n:Int)=some (.inr (n:Int))):∀(d j:Nat),j+d=n->∃k,j<=k/\k<=n/\Am step (j:Int)=some (k:Int)/\(∀i,j<=i->i<k->¬stop i)/\(k<n->stop k):=by intro d;induction d with|zero=>intro j s;obtain rfl:j=n:=ω;exact⟨j,ω,ω,Ej r,λi _ _=>ω,λh=>ω⟩|succ d ih=>intro j s;by_cases b:stop j;exact⟨j,ω,ω,Ej (o j ω b),λi _ _=>ω,λ_=>b⟩;obtain⟨k,q,l,g,f,c⟩:=ih (j+1) ω;refine⟨k,ω,l,(Ks (m j ω b)).trans g,λi x w=>?_,c⟩;by_cases e:i=j;subst e;exact b;exact f i ω w
structure Lk{α:Type}(L M:List (α×Nat)):Prop where
 eq:∀f:α->Nat,pv f L=pv f M
 pos:∀p∈L,1<=p.2
open Classical in
theorem Apj{α:Type}{f:α->Nat}:∀{L:Λ (α×Nat)},1<=pv f L->∃p∈L,1<=f p.1
 |[],h=>by simp[pv]at h
 |p::L,h=>by by_cases e:f p.1=0;obtain⟨q,d,g⟩:=Apj (f:=f) (L:=L) (by simp only[pv,e,Nat.mul_zero,Nat.zero_add]at h;exact h);exact⟨q,by simp[d],g⟩;exact⟨p,ψ,ω⟩
theorem Apk(f:α->Nat){L:Λ (α×Nat)}{p:α×Nat}(h:p∈L):p.2*f p.1<=pv f L:=by induction L with|nil=>cases h|cons q L ih=>simp only[pv];rcases En.1 h with rfl|h;omega;have:=ih h;omega
open Classical in
theorem Lk.mem{α:Type}{L M:Λ (α×Nat)}(h:Lk L M){p:α×Nat}(hp:p∈L):∃q∈M,q.1=p.1:=by have h1:=Apk (λx=>if x=p.1 then 1 else 0) hp;rw[h.eq]at h1;have h2:=h.pos p hp;simp only[if_true]at h1;obtain⟨q,d,g⟩:=Apj (f:=λx=>if x=p.1 then 1 else 0) (L:=M) ω;refine⟨q,d,?_⟩;by_cases e:q.1=p.1;exact e;simp only[As e]at g;omega
theorem Lk.num{L M:Λ (α×Nat)}(h:Lk L M){p:α×Nat}(hp:p∈L):p.2<=pv (λ_=>1) M:=by rw[<-h.eq];exact Ou hp
theorem Lk.len{L M:Λ (α×Nat)}(h:Lk L M):L.length<=pv (λ_=>1) M:=by rw[<-h.eq];exact L3 h.pos
theorem Lk.refl{L:Λ (α×Nat)}(h:∀p∈L,1<=p.2):Lk L L:=⟨λ_=>rfl,h⟩
def Aet(p:Af×Nat)(L b:A0):Prop:=I6 L.length p.1 (cR p.2) (L.map A3)=some (b.length,b.map A3)/\(∀f,pv f b=pv f L+p.2*f p.1)/\∀q∈b,1<=q.2
theorem Bc1(hl:L.length<=100000)(B:∀q∈L,Br q.1<=2000000/\1<=q.2/\q.2<=100000)(hi:Br p.1<=2000000)(h2:p.2<=100000):∃L',Aet p L L':=by
 have x:(L.map A3).length=L.length:=C3 ..
 have y:∀{j:Nat}{q:Af×Nat},L[j]?=some q->Gk (L.map A3) 0 L.length (j:Int)=some (A3 q):=λ{j q} h=>Uu rfl (Dq h) (by rw[Nat.zero_add,getElem?_map,h];rfl)
 have c:∀q∈L,Me 4000000 q.1 p.1=some (Fp q.1 p.1):=λq o=>Avt 2000000 _ _ _ (B q o).1 δ δ
 have u:∀{a:Nat},a<=200000->Bw a<=3:=λ{a} h=>Ip ω
 unfold Aet I6
 obtain⟨k,_,k1,k2,k3,k4⟩:=Api (step:=λw=>
 bif w<((L.length:Nat):Int)then(
 (Gk (L.map A3) 0 L.length w).bind λv6=>
 (Me (4000000) v6.I p.1).bind λZ=>
 bif Z<(0:Int)then(
 some (.inl (Aa (w+1)))
 )
 else(
 some (.inr w)
 )
 )
 else(
 some (.inr w)
 )) (n:=L.length) (stop:=λj=>∀q,L[j]?=some q->¬Fp q.1 p.1<0) (λj C G=>by
  have d:L[j]?=some (L[j]'C):=Bi _
  generalize L[j]'C=q at d
  have U:Fp q.1 p.1<0:=by
   by_cases e:Fp q.1 p.1<0
   .exact e
   .exact (G λq' F=>by rw[d]at F;cases F;exact e).elim
  have Y:Aa ((j:Int)+1)=((j+1:Nat):Int):=by rw[Aa,Bz]<;>omega
  simp only[An (ω:(j:Int)<(L.length:Int)),Ak,y d,Ac,A3,c q (Bm d),An U,Y]) (λj C G=>by
  have d:L[j]?=some (L[j]'C):=Bi _
  generalize L[j]'C=q at d
  simp only[An (ω:(j:Int)<(L.length:Int)),Ak,y d,Ac,A3,c q (Bm d),Au (G q d),Al]) (by
  simp only[Au (ω:¬(L.length:Int)<(L.length:Int)),Al]) L.length 0 ω
 erw[k2]
 rw[Ac]
 by_cases M:∃q,L[k]?=some q/\q.1=p.1
 .obtain⟨q,o,H⟩:=M
  have I:=Dq o
  obtain⟨q1,q2,q3⟩:=B q (Bm o)
  have hz:Fp q.1 p.1=0:=Aeq.2 H
  have g:Cl (L.map A3) (((0:Nat):Int)+(k:Int)) (Aq.mk (A3 q).I (cR (q.2+p.2)))=(L.set k (q.1,q.2+p.2)).map A3:=by
   rw[Gw (n:=k) ω,map_set];rfl
  have N:Gk ((L.set k (q.1,q.2+p.2)).map A3) 0 L.length (k:Int)=some (A3 (q.1,q.2+p.2)):=Uu rfl I (by rw[Nat.zero_add,getElem?_map,getElem?_set,Av rfl,Av I];rfl)
  have R:Pf (A3 q).C (cR p.2)=some (cR (q.2+p.2)):=Bcy (u ω) (u ω)
  obtain⟨s,E,D⟩:=Ayw (a:=q.2+p.2) (u ω) ω
  have A:Me 4000000 (A3 q).I p.1=some (Fp q.1 p.1):=c q (Bm o)
  refine⟨L.set k (q.1,q.2+p.2),?_,λf=>?_,λr m=>?_⟩
  .have G:My (A3 (q.1,q.2+p.2)).C=some s:=E
   simp only[An (ω:(k:Int)<(L.length:Int)),Ak,y o,Ac,A,hz,R,g,N,G,D,Al,length_set]
   rfl
  .rw[Apf f p.2 o,H]
  .rcases mem_or_eq_of_mem_set m with m|rfl
   .exact (B r m).2.1
   .show 1<=q.2+p.2;omega
 .have V:(bif decide ((k:Int)<(L.length:Int))then(Gk (L.map A3) 0 L.length (k:Int)).bind λv9=>(Me 4000000 v9.I p.1).bind λS=>some (S==0)else some false)=some false:=by
   by_cases h:k<L.length
   .have d:L[k]?=some (L[k]'h):=Bi _
    generalize L[k]'h=q at d
    have A:Me 4000000 (A3 q).I p.1=some (Fp q.1 p.1):=c q (Bm d)
    rw[An (ω:(k:Int)<(L.length:Int)),Ak,y d,Ac,A,Ac,Cx λe=>M ⟨q,d,Aeq.1 e⟩]
   .rw[Au ω];rfl
  erw[V]
  by_cases T:p.2=0
  .obtain⟨s,E,D⟩:=Bcz
   refine⟨L,?_,λf=>by rw[T];omega,λq o=>(B q o).2.1⟩
   rw[T]
   simp only[Ac,Al,E,D,Ak]
  obtain⟨s,E,D⟩:=Ayw (a:=p.2) (u ω) ω
  have X:Nk 88 (L.map A3) L.length [Aq.mk (Af.mk 0 []) (Ay.mk false [] [])]=some (Ef (L.map A3) L.length [Aq.mk (Af.mk 0 []) (Ay.mk false [] [])],L.length+1):=by
   unfold Nk
   rw[Av ⟨by rw[x];omega,ζ⟩];rfl
  obtain⟨b,g1,g2,W⟩:=Aoz (L.map A3) L.length k (Aq.mk (Af.mk 0 []) (Ay.mk false [] [])) (A3 p) (by rw[x];omega) k1 ω
  rw[x]at g2
  have ho:b.length=L.length+1:=ω
  have J:b[k]?=some (b[k]' ω):=Bi _
  refine⟨L.take k++p::L.drop k,?_,λf=>?_,λr m=>?_⟩
  .simp only[Ac,Al,E,D]
   rw[X,Ac]
   dsimp only
   erw[g1]
   rw[Ac,Aoy 4000000 p.1 ω δ,Ac,Bc0 (u ω),Ac,Uu (l:=b) (off:=0) (n:=L.length+1) (i:=(k:Int)) rfl ω (by rw[Nat.zero_add];exact J),Ac]
   have g:Cl b (((0:Nat):Int)+(k:Int)) (Aq.mk p.1 (cR p.2))=b.set k (A3 p):=Gw (n:=k) ω _
   rw[g]
   have z:b.set k (A3 p)=(L.take k++p::L.drop k).map A3:=by
    have e2:(L.map A3).take L.length=L.map A3:=Hs ω
    rw[Hs (by rw[length_set];omega),e2]at W
    rw[W];simp
   rw[z]
   have:(L.take k++p::L.drop k).length=L.length+1:=by simp;omega
   rw[this]
  .have:=Hn f (L.take k) (L.drop k)
   rw[take_append_drop]at this
   rw[Hn,pv];omega
  .simp only[Ea,En]at m
   rcases m with m|rfl|m
   .exact (B r (mem_of_mem_take m)).2.1
   .omega
   .exact (B r (mem_of_mem_drop m)).2.1
open Classical in
noncomputable def Q4(L:A0)(p:Af×Nat):A0:=if h:∃d,Aet p L d then Classical.choose h else L
theorem Bc2(h:∃b,Aet p L b):Aet p L (Q4 L p):=by unfold Q4;rw[dif_pos h];exact Classical.choose_spec h
noncomputable def Fu(L vs:A0):A0:=vs.foldl Q4 L
structure Fit(M:List (Af×Nat)):Prop where
 tot:pv (λ_=>1) M<=100000
 all:∀q∈M,Br q.1<=2000000
theorem Fit.left{N:A0}(h:Fit (M++N)):Fit M:=⟨by have:=h.tot;rw[Hn]at this;omega,λq d=>h.all q (by simp[d])⟩
theorem Lk.add(h:Lk L M)(hf:Fit (M++[p])):Lk (Q4 L p) (M++[p])/\I6 L.length p.1 (cR p.2) (L.map A3)=some ((Q4 L p).length,(Q4 L p).map A3):=by have o:=hf.tot;have g:=hf.all p ψ;have i:p.2<=pv (λ_=>1) (M++[p]):=Ou ψ;have j:=hf.left.tot;obtain⟨l,m,n⟩:=Bc2 (Bc1 (L:=L) (p:=p) (by have:=h.len;omega) (λq d=>⟨by obtain⟨r,c,b⟩:=h.mem d;rw[<-b];exact hf.left.all r c,h.pos q d,by have:=h.num d;omega⟩) g ω);exact⟨⟨λf=>by rw[m,h.eq,Hn];simp[pv],n⟩,l⟩
theorem Ayx(h:Lk L M)(l:Fit (M++vs)):∀j,j<=vs.length->Lk (Fu L (vs.take j)) (M++vs.take j)/\∀v,vs[j]?=some v->I6 (Fu L (vs.take j)).length v.1 (cR v.2) ((Fu L (vs.take j)).map A3)=some ((Fu L (vs.take (j+1))).length,(Fu L (vs.take (j+1))).map A3):=by(have c:∀j,Fit (M++vs.take j):=λj=>by have:M++vs=(M++vs.take j)++vs.drop j:=(by rw[append_assoc,take_append_drop]);rw[this]at l;exact l.left);(have f:∀j v,vs[j]?=some v->Fu L (vs.take (j+1))=Q4 (Fu L (vs.take j)) v:=λj v b=>by unfold Fu;rw[Cs b,foldl_append];rfl);(have d:∀j,j<=vs.length->Lk (Fu L (vs.take j)) (M++vs.take j):=by intro j;induction j with|zero=>intro _;rw[take_zero,append_nil];exact h|succ j ih=>intro g;have b:vs[j]?=some (vs[j]' ω):=Bi _;generalize vs[j]'_=v at b;rw[f j v b,Cs b,<-append_assoc];refine((ih ω).add ?_).1;have:=c (j+1);rwa [Cs b,<-append_assoc]at this);refineλj g=>⟨d j g,λv b=>?_⟩;rw[f j v b];refine((d j g).add ?_).2;have:=c (j+1);rwa [Cs b,<-append_assoc]at this
theorem Q5(h:Lk L M)(d:Fit (M++vs)):Lk (Fu L vs) (M++vs):=by have:=(Ayx h d vs.length (Nat.le_refl _)).1;rwa [Dh]at this
def toQ(p:List Af×Nat):Kv:=⟨p.1,cR p.2⟩
def mk0(M:Bj):A0:=M.map λr=>(⟨0,r.1⟩,r.2)
def Fv(e:Af)(c:Nat)(X:A0):A0:=X.map λw=>(⟨0,e::w.1.K⟩,c*w.2)
theorem Ov{S:Type}{step:S->Ο (S⊕E)}(P:Nat->S->Prop)(n:Nat)(b:∀j s,j<n->P j s->∃d,step s=some (.inl d)/\P (j+1) d){s0:S}(h0:P 0 s0):∃s,P n s/\Am step s0=Am step s:=by(have g:∀m,m<=n->∃s,P m s/\Am step s0=Am step s:=by intro m;induction m with|zero=>intro _;exact⟨s0,h0,rfl⟩|succ m ih=>intro f;obtain⟨s,h,l⟩:=ih ω;obtain⟨d,o,c⟩:=b m s ω h;exact⟨d,c,l.trans (Ks o)⟩);exact g n (Nat.le_refl _)
theorem Ayy{α:Type}(f g:α->Nat):∀L:Λ (α×Nat),pv (λx=>f x+g x) L=pv f L+pv g L
 |[]=>rfl
 |p::L=>by simp only[pv,Ayy f g L,Nat.mul_add];omega
theorem Ayz{α β:Type}(F:α->β->Nat)(M:Λ (β×Nat)):∀L:Λ (α×Nat),pv (λa=>pv (F a) M) L=pv (λb=>pv (λa=>F a b) L) M
 |[]=>(Ayk M).symm
 |p::L=>by show p.2*pv (F p.1) M+pv (λa=>pv (F a) M) L=pv (λb=>p.2*F p.1 b+pv (λa=>F a b) L) M;rw[Ayy,Ln,Ayz F M L]
theorem Ajr{α β:Type}(f:β->Nat)(g:α->β)(c:Nat):∀L:Λ (α×Nat),pv f (L.map λw=>(g w.1,w.2*c))=c*pv (λx=>f (g x)) L
 |[]=>rfl
 |w::L=>by simp only[map_cons,pv,Ajr f g c L,Nat.mul_add];rw[Nat.mul_comm w.2 c,Nat.mul_assoc]
theorem Apl{α β:Type}(f:β->Nat)(g:α->β)(c:Nat):∀L:Λ (α×Nat),pv f (L.map λw=>(g w.1,c*w.2))=c*pv (λx=>f (g x)) L
 |[]=>rfl
 |w::L=>by simp only[map_cons,pv,Apl f g c L,Nat.mul_add,Nat.mul_assoc]
theorem Sj(f:Af->Nat)(M:Bj):pv f (mk0 M)=pv (λr=>f ⟨0,r⟩) M:=Ux f (λr=>(⟨0,r⟩:Af)) M
theorem Ay0(f:Af->Nat)(e:Af)(c:Nat)(X:A0):pv f (Fv e c X)=c*pv (λx=>f ⟨0,e::x.K⟩) X:=Apl f (λx:Af=>(⟨0,e::x.K⟩:Af)) c X
theorem Lk.trans{L M N:Λ (α×Nat)}(h:Lk L M)(h':∀f:α->Nat,pv f M=pv f N):Lk L N:=⟨λf=>(h.eq f).trans (h' f),h.pos⟩
theorem Lk.nil:Lk ([]:Λ (α×Nat)) []:=⟨λ_=>rfl,λ_ h=>by cases h⟩
theorem Fit.of(h:Lk L M)(b:Fit M):Fit L:=⟨by rw[h.eq];exact b.tot,λq d=>by obtain⟨r,f,c⟩:=h.mem d;rw[<-c];exact b.all r f⟩
theorem Aad(g:α->β)(L:Λ α):Kg (L.map g) L.length=some (L.map g):=by unfold Kg;rw[Av ψ,Hs ψ]
theorem Aeu(xs:Λ β)(g:vs.length=xs.length){step:Nat×Int×List Aq->Ο ((Nat×Int×List Aq)⊕E)}{ex:Nat->Bs->E}(h:Lk L M)(m:Fit (M++vs))(A:xs.length<=1000000)(f:∀(j:Nat)(x:β)(v:Af×Nat)(n:Nat)(o:Bs)(r:Nat×List Aq),xs[j]?=some x->vs[j]?=some v->v∈vs->decide ((j:Int)<(xs.length:Int))=true->Ag xs (j:Int)=some x->Aa ((j:Int)+1)=((j+1:Nat):Int)->I6 n v.1 (cR v.2) o=some r->step (n,(j:Int),o)=some (.inl (r.1,((j+1:Nat):Int),r.2)))(s:∀n o,decide ((xs.length:Int)<(xs.length:Int))=false->step (n,(xs.length:Int),o)=some (.inr (ex n o))):Am step (L.length,0,L.map A3)=some (ex (Fu L vs).length ((Fu L vs).map A3)):=by have d:=Fi (J:=some) (step:=step) (r:=ex (Fu L vs).length ((Fu L vs).map A3)) xs (λj=>((Fu L (vs.take j)).length,(j:Int),(Fu L (vs.take j)).map A3)) (s0:=(L.length,0,L.map A3)) rfl ω (λj x B c l w y=>by have b:vs[j]?=some (vs[j]' ω):=Bi _;generalize vs[j]'_=v at b;exact f j x v _ _ _ c b (Bm b) l w y ((Ayx h m j ω).2 v b)) λl=>⟨_,s _ _ l,by rw[Hs ω]⟩;(have hid:∀X:Ο E,X.bind some=X:=λX=>by cases X<;>rfl);rw[hid]at d;exact d
theorem Ajs(h:Br i<=2000000):∃L,((I6 0 i (cR 1) []).bind λv=>(Kg v.2 v.1).bind λo=>some o)=some (L.map A3)/\Lk L [(i,1)]:=by obtain⟨a,b⟩:=Lk.add (L:=[]) (M:=[]) (p:=(i,1)) Lk.nil ⟨by simp[pv],λq d=>by simp only[nil_append,Fh]at d;subst d;exact h⟩;refine⟨Q4 [] (i,1),?_,a⟩;have c:I6 0 i (cR 1) []=some ((Q4 [] (i,1)).length,(Q4 [] (i,1)).map A3):=b;rw[c,Ac];dsimp only;rw[Aad];rfl
def Py(W:A0)(R:Bj):Bj:=W.flatMap λw=>R.map λr=>(r.1++[w.1],r.2*w.2)
theorem Bc3{W b:A0}{c:Bj}(h:Lk W b)(i:Lk R c):Lk (Py W R) (c.flatMap (Jt b)):=by refine⟨λf=>?_,λp hp=>?_⟩;unfold Py;rw[Si f _ (λw=>pv (λr=>f (r++[w])) R) W λp _=>Ajr f (λr=>r++[p.1]) p.2 R,Si f (Jt b) (λr=>pv (λw=>f (r++[w])) b) c λp _=>Apl f (λw=>p.1++[w]) p.2 b,h.eq, Px (g:=λw=>pv (λr=>f (r++[w])) c) λw _=>i.eq _,Ayz];unfold Py at hp;obtain⟨w,d,hp⟩:=mem_flatMap.1 hp;obtain⟨r,l,rfl⟩:=mem_map.1 hp;exact Nat.mul_pos (i.pos r l) (h.pos w d)
def Ay1(Δ:Ad)(k K:Nat):Prop:=∀(t:Ah)(i j:Af)(a b:Nat),Br i<=k->Br j<=400000->C7 Δ i t=some a->C7 Δ j t=some b->a+b<=6->Bu t<=200->iR i->iR j->∃W,Tt K Δ t i j=some (W.map A3)/\Lk W (Dc Δ k t i j)
theorem Bc4(hm:Ay1 Δ k K)(ts:A1)(is c:A2){da db:Nat}(hk:Bv is<=k)(ao:Bv c<=400000)(h1:Cg Δ is ts=some da)(h2:Cg Δ c ts=some db)(h6:da+db<=6)(ht:∀t∈ts,Bu t<=200)(hl:ts.length<=100000)(r1:Eu is)(r2:Eu c) :
  ∃R,R4 (K+1) Δ ts is c=some (R.map toQ)/\Lk R (D3 (Dc Δ k) ts is c):=by
 have hg:=Mt Δ k
 obtain⟨l1,g1⟩:=Xf Δ _ _ _ h1
 obtain⟨l2,g2⟩:=Xf Δ _ _ _ h2
 have Y:∀j,(∀r∈D3 (Dc Δ k) (ts.take j) (is.take j) (c.take j),r.1.length<=100000)/\pv (λ_=>1) (D3 (Dc Δ k) (ts.take j) (is.take j) (c.take j))<=729:=λj=>by
  obtain⟨a,a1,a2⟩:=Aee Δ is ts da j h1
  obtain⟨b,b1,b2⟩:=Aee Δ c ts db j h2
  have hs:Bv (is.take j)<=Bv is:=by
   have:=Uh (is.take j) (is.drop j)
   rw[take_append_drop]at this;omega
  have J:Eu (is.take j):=by
   have:=Adn (is.take j) (is.drop j)
   rw[take_append_drop]at this;exact(this.1 r1).1
  have I:Eu (c.take j):=by
   have:=Adn (c.take j) (c.drop j)
   rw[take_append_drop]at this;exact(this.1 r2).1
  obtain⟨e1,e2⟩:=Aab hg (ts.take j) (is.take j) (c.take j) a b ω a1 b1 ω J I
  have ac:=Nc (show a+b<=6 by omega)
  refine⟨λr hr=>?_,ω⟩
  obtain⟨d,d1,_⟩:=(e1 r hr).deg
  have ab:=(Xf Δ _ _ _ d1).1
  rw[length_take]at ab
  omega
 rw[R4,Aes,Ac]
 obtain⟨s,⟨R,rfl,B⟩,e⟩:=Ov (step:=λ(l,f)=>
  bif f<(ts.length:Int)then(
  (Ag ts f).bind λG=>
  (Ag is f).bind λD=>
  (Ag c f).bind λH=>
  (Tt K Δ G D H).bind λy=>
  (Am (S:=(Int×List Kv)) (E:=(Int×List Kv)) (λ(o,A)=>
  bif o<(y.length:Int)then(
  (Ag y o).bind λx=>
  (Am (S:=(Int×List Kv)) (E:=(Int×List Kv)) (λ(g,z)=>
  bif g<(l.length:Int)then(
  (Ag l g).bind λu=>
  (B5 32 [] u.kids).bind λV=>
  (B5 32 V [x.I]).bind λU=>
  (Ik u.coef x.C).bind λT=>
  (B5 80 z [Kv.mk U T]).bind λN=>
  some (.inl (Aa (g+1),N))
  )
  else(
  some (.inr (g,z))
  )
   ) (0,A)).bind λ(a0,M)=>
  some (.inl (Aa (o+1),M))
  )
  else(
  some (.inr (o,A))
  )
   ) (0,[])).bind λ(a3,L)=>
  some (.inl (L,Aa (f+1)))
  )
  else(
  some (.inr l)
  )) (λj s=>∃R,s=(R.map toQ,(j:Int))/\Lk R (D3 (Dc Δ k) (ts.take j) (is.take j) (c.take j))) ts.length (λj s hj ⟨R,hs,B⟩=>by
  subst hs
  have C:ts[j]?=some (ts[j]'hj):=Bi _
  generalize ts[j]'hj=t at C
  have F:is[j]?=some (is[j]' ω):=Bi _
  generalize is[j]'_=i at F
  have h:c[j]?=some (c[j]' ω):=Bi _
  generalize c[j]'_=i' at h
  obtain⟨a,a1,a2⟩:=g1 j i t F C
  obtain⟨b,b1,b2⟩:=g2 j i' t h C
  have aq:=Jh (Bm F)
  have ap:=Jh (Bm h)
  have ae:=ht t (Bm C)
  have a6:=Adm r1 (Bm F)
  have Z:=Adm r2 (Bm h)
  obtain⟨w1,w2⟩:=hg t i i' a b ω a1 b1 ω a6 Z
  have ac:=Nc (show a+b<=6 by omega)
  obtain⟨W,aa,hW⟩:=hm t i i' a b ω ω a1 b1 ω ae a6 Z
  have aj:W.length<=729:=by have:=hW.len;omega
  have ad:∀w∈W,w.2<=729:=λw hw=>by have:=hW.num hw;omega
  obtain⟨x1,x2⟩:=Y j
  have ag:R.length<=729:=by have:=B.len;omega
  have ah:∀r∈R,r.2<=729/\r.1.length<=100000:=λr hr=>⟨by have:=B.num hr;omega,by
   obtain⟨q,J,I⟩:=B.mem hr
   rw[<-I];exact x1 q J⟩
  have af:D3 (Dc Δ k) (ts.take (j+1)) (is.take (j+1)) (c.take (j+1))=(D3 (Dc Δ k) (ts.take j) (is.take j) (c.take j)).flatMap (Jt (Dc Δ k t i i')):=by
   rw[Cs C,Cs F,Cs h,Apc _ _ _ _ _ _ _ ζ ζ]
  refine⟨((Py W R).map toQ,((j+1:Nat):Int)),?_,Py W R,rfl,by rw[af];exact Bc3 hW B⟩
  have wj:Aa ((j:Int)+1)=((j+1:Nat):Int):=by rw[Aa,Bz]<;>omega
  simp only[An (ω:(j:Int)<(ts.length:Int)),Ak,Bq rfl C,Bq rfl F,Bq rfl h,Ac,aa,wj]
  refine Fi (W.map A3) (λn=>((n:Int),(Py (W.take n) R).map toQ)) (by simp[Py]) (by rw[C3];omega) ?_ ?_
  .intro n w' hn X f1 f2 f3
   rw[getElem?_map]at X
   obtain⟨w,hq,rfl⟩:=Option.map_eq_some_iff.1 X
   have ai:=ad w (Bm hq)
   have ak:(Py (W.take n) R).length<=729*729:=by
    refine Nat.le_trans (Aen _ 729 _ λq _=>by rw[C3];exact ag) (Nat.mul_le_mul_right _ ?_)
    rw[length_take];omega
   simp only[f1,f2,f3,Ak,Ac]
   refine Fi (R.map toQ) (λm=>((m:Int),(Py (W.take n) R).map toQ++((R.take m).map λr=>(r.1++[w.1],r.2*w.2)).map toQ)) ψ (by rw[C3];omega) ?_ ?_
   .intro m r' am a7 p1 p2 p3
    rw[getElem?_map]at a7
    obtain⟨r,a8,rfl⟩:=Option.map_eq_some_iff.1 a7
    obtain⟨y1,y2⟩:=ah r (Bm a8)
    have ar:((Py (W.take n) R).map toQ++((R.take m).map λr=>(r.1++[w.1],r.2*w.2)).map toQ).length<=729*729+729:=by rw[Fe,C3,C3,C3,length_take];omega
    simp only[p1,p2,p3,Ak,Ac]
    have J:B5 32 [] (toQ r).kids=some r.1:=by show B5 32 [] r.1=_;rw[Dj ζ];rfl
    have I:Ik (toQ r).coef (A3 w).C=some (cR (r.2*w.2)):=Ayv (Ip ω) (Ip ω)
    rw[J,Ac,Dj (by rw[length_singleton];omega),Ac,I,Ac,Dj (by rw[length_singleton];omega),Ac,Cs a8,map_append,map_append,append_assoc]
    rfl
   .intro p1
    refine⟨_,by simp only[p1];rfl,?_⟩
    rw[C3,Dh]
    dsimp only
    unfold Py
    rw[Ajq _ hq,map_append]
  .intro f1
   refine⟨_,by simp only[f1];rfl,?_⟩
   rw[C3,Dh]) ⟨[([],1)],rfl,by
   rw[take_zero,take_zero,take_zero]
   exact Lk.refl λp hp=>by simp only[Fh]at hp;subst hp;exact Nat.le_refl _⟩
 refine⟨R,?_,by rwa [Hs ω,Hs ω,Hs ω]at B⟩
 refine Ff (a:=R.map toQ) (e.trans (Ej ?_)) rfl
 simp only[Au (ω:¬(ts.length:Int)<(ts.length:Int)),Al]
noncomputable def Aev(i:A2)(c:Bs):Nat×Int×List Aq->Gf:=λ(l,d,f)=>bif d<(c.length:Int)then((Ag c d).bind λb=>(Ag i 0).bind λh=>(Pl h b.I).bind λg=>(I6 l g b.C f).bind λm=>some (.inl (m.1,Aa (d+1),m.2)))else(some (.inr (l,f)))
theorem Ay2(h:Br ⟨0,e::i.K⟩<=2000000):Pl e i=some ⟨0,e::i.K⟩:=by have d:=Dy ⟨0,e::i.K⟩;have g:=Ly (e::i.K);have l:(e::i.K).length=i.K.length+1:=rfl;have b:Bv (Af.mk 0 (e::i.K)).K=Bv (e::i.K):=rfl;unfold Pl;rw[Dj (by rw[length_singleton];omega)];rfl
theorem Ay3{c:Nat}(h:(Fv e c X)[j]?=some v):∃w,X[j]?=some w/\v=(⟨0,e::w.1.K⟩,c*w.2):=by unfold Fv at h;rw[getElem?_map]at h;obtain⟨w,d,g⟩:=Option.map_eq_some_iff.1 h;exact⟨w,d,g.symm⟩
theorem Ay4(h:Lk L M)(g:Fit (M++Fv e 1 X))(C:X.length<=100000):Am (Aev (e::es) (X.map A3)) (L.length,0,L.map A3)=some ((Fu L (Fv e 1 X)).length,(Fu L (Fv e 1 X)).map A3):=by refine Aeu (X.map A3) (vs:=Fv e 1 X) (ex:=λn o=>(n,o)) (by unfold Fv;simp) h g (by rw[C3];omega) (λj x v n o r l c f d s y m=>?_) (λn o d=>?_);obtain⟨w,b,rfl⟩:=Ay3 c;rw[getElem?_map,b]at l;cases l;have A:=Ay2 (g.all _ (Ea.2 (.inr f)));rw[Nat.one_mul]at m;unfold Aev;simp only[d,s,y,Ak,Ac];have B:Ag (e::es) 0=some e:=rfl;rw[B,Ac];show(Pl e w.1).bind _=_;rw[A,Ac];show(I6 n ⟨0,e::w.1.K⟩ (cR w.2) o).bind _=_;rw[m];rfl;unfold Aev;simp only[d,Al]
noncomputable def Ajt(i:A2)(n:Bs)(c:Kv):Nat×Int×List Aq->Ο ((Nat×Int×List Aq)⊕(Nat×Int×List Aq)):=λ(b,d,f)=>bif d<(n.length:Int)then((Ag n d).bind λl=>(Ag i 0).bind λh=>(Pl (Af.mk h.U c.kids) l.I).bind λo=>(Ik c.coef l.C).bind λg=>(I6 b o g f).bind λm=>some (.inl (m.1,Aa (d+1),m.2)))else(some (.inr (b,d,f)))
noncomputable def Aju(j:A2)(f:Λ Kv)(m:Bs):Nat×Int×List Aq->Gf:=λ(d,b,c)=>bif b<(f.length:Int)then((Ag f b).bind λg=>(Am (Ajt j m g) (d,0,c)).bind λ(l,i,h)=>some (.inl (l,Aa (b+1),h)))else(some (.inr (d,c)))
theorem Bc5{a:Af}{r:List Af×Nat}{Z:A0}(h:Lk L M)(l:Fit (M++Fv ⟨a.U,r.1⟩ r.2 Z))(G:r.2<=729)(f:∀w∈Z,w.2<=729)(H:Z.length<=100000):Am (Ajt (a::es) (Z.map A3) (toQ r)) (L.length,0,L.map A3)=some ((Fu L (Fv ⟨a.U,r.1⟩ r.2 Z)).length,(Z.length:Int),(Fu L (Fv ⟨a.U,r.1⟩ r.2 Z)).map A3):=by refine Aeu (Z.map A3) (vs:=Fv ⟨a.U,r.1⟩ r.2 Z) (ex:=λn o=>(n,(Z.length:Int),o)) (by unfold Fv;simp) h l (by rw[C3];omega) (λj x v n o s m g i d y A B=>?_) (λn o d=>?_);obtain⟨w,c,rfl⟩:=Ay3 g;rw[getElem?_map,c]at m;cases m;have C:=Ay2 (l.all _ (Ea.2 (.inr i)));have b:Ik (cR r.2) (cR w.2)=some (cR (r.2*w.2)):=Ayv (Ip ω) (Ip (by have:=f w (Bm c);omega));unfold Ajt;simp only[d,y,A,Ak,Ac];have F:Ag (a::es) 0=some a:=rfl;rw[F,Ac];show(Pl ⟨a.U,r.1⟩ w.1).bind _=_;rw[C,Ac];show(Ik (cR r.2) (cR w.2)).bind _=_;rw[b,Ac];show(I6 n ⟨0,⟨a.U,r.1⟩::w.1.K⟩ (cR (r.2*w.2)) o).bind _=_;rw[B];rfl;unfold Ajt;simp only[d,Al];rw[C3]
def Ju(c:Int)(R:Bj)(Z:A0):A0:=R.flatMap λr=>Fv ⟨c,r.1⟩ r.2 Z
theorem Bc6{a:Af}{Z:A0}(h:Lk L M)(n:Fit (M++Ju a.U R Z))(s:∀r∈R,r.2<=729)(k:∀w∈Z,w.2<=729)(y:Z.length<=100000)(l:R.length<=100000):Am (Aju (a::es) (R.map toQ) (Z.map A3)) (L.length,0,L.map A3)=some ((Fu L (Ju a.U R Z)).length,(Fu L (Ju a.U R Z)).map A3):=by(have c:∀j,Fit (M++Ju a.U (R.take j) Z):=λj=>by have:Ju a.U R Z=Ju a.U (R.take j) Z++Ju a.U (R.drop j) Z:=(by unfold Ju;rw[<-flatMap_append,take_append_drop]);rw[this,<-append_assoc]at n;exact n.left);have d:=Fi (J:=some) (step:=Aju (a::es) (R.map toQ) (Z.map A3)) (r:=((Fu L (Ju a.U R Z)).length,(Fu L (Ju a.U R Z)).map A3)) (R.map toQ) (λj=>((Fu L (Ju a.U (R.take j) Z)).length,(j:Int),(Fu L (Ju a.U (R.take j) Z)).map A3)) (s0:=(L.length,0,L.map A3)) (by simp[Ju,Fu]) (by rw[C3];omega) (λj x C b m A B=>by rw[getElem?_map]at b;obtain⟨r,o,rfl⟩:=Option.map_eq_some_iff.1 b;have f:Ju a.U (R.take (j+1)) Z=Ju a.U (R.take j) Z++Fv ⟨a.U,r.1⟩ r.2 Z:=(by unfold Ju;rw[Ajq _ o]);have g:=c (j+1);rw[f,<-append_assoc]at g;have i:=Bc5 (es:=es) (Q5 h (c j)) g (s r (Bm o)) k y;unfold Aju;simp only[m,A,B,Ak,Ac,i];rw[f];unfold Fu;rw[foldl_append]) λm=>⟨_,by unfold Aju;simp only[m,Al];rfl,by rw[C3,Dh]⟩;(have hid:∀X:Ο (Nat×List Aq),X.bind some=X:=λX=>by cases X<;>rfl);rw[hid]at d;exact d
theorem Ay5{c:Nat}{M:Bj}(h:Lk X (mk0 M))(f:Af->Nat):pv f (Fv e c X)=pv f (mk0 (E9 e c M)):=by rw[Ay0,h.eq,Sj,Sj,Xm]
theorem Bc7{c:Int}{b:Bj}{Z:A0}{M:Bj}(h:Lk R b)(g:Lk Z (mk0 M))(f:Af->Nat):pv f (Ju c R Z)=pv f (mk0 ((b.map λr=>((⟨c,r.1⟩:Af),r.2)).flatMap λw=>E9 w.1 w.2 M)):=by unfold Ju;rw[Si f _ (λr=>pv (λx=>f ⟨0,⟨c,r⟩::x.K⟩) Z) R λp _=>Ay0 f _ _ _,h.eq,Sj, Si (λr=>f ⟨0,r⟩) _ (λe=>pv (λs=>f ⟨0,e::s⟩) M) _ λp _=>Xm _ _ _ _,Ux (λe=>pv (λs=>f ⟨0,e::s⟩) M) (λr=>(⟨c,r⟩:Af)) b];refine Px λp _=>?_;rw[g.eq,Sj]
theorem Apm{c:Nat}(d:1<=c)(h:∀p∈X,1<=p.2):∀p∈Fv e c X,1<=p.2:=λp hp=>by obtain⟨w,g,rfl⟩:=mem_map.1 hp;exact Nat.mul_pos d (h w g)
theorem Bc8{c:Int}{Z:A0}(d:∀p∈R,1<=p.2)(f:∀p∈Z,1<=p.2):∀p∈Ju c R Z,1<=p.2:=λp hp=>by obtain⟨r,b,hp⟩:=mem_flatMap.1 hp;exact Apm (d r b) f p hp
def Ay6(Δ:Ad)(k K:Nat):Prop:=∀(ts:A1)(is b:A2)(f c:Nat),Bv is<=k->Bv b<=400000->Cg Δ is ts=some f->Cg Δ b ts=some c->f+c<=6->(∀t∈ts,Bu t<=200)->ts.length<=100000->Eu is->Eu b->∃R,R4 K Δ ts is b=some (R.map toQ)/\Lk R (D3 (Dc Δ k) ts is b)
theorem Bc9(g:Szv Δ){c:Int}{b:A1}(a1:Gz Δ t c=some b):b.length<=100000:=by unfold Gz at a1;cases d:Lx Δ t c with|none=>rw[d]at a1;cases a1|some l=>rw[d]at a1;have a1:H7 l (Ha Δ t.U c)=b:=E6 a1;obtain⟨x,y,_,m,_,n,i,_⟩:=R9 d;obtain⟨f,_⟩:=g x (Hb m).2.2.2 y (Hb n).2.2.2;have h:l.length<=6:=(by rw[i];simpa using f);have:=Zn l (Ha Δ t.U c);rw[a1]at this;omega
theorem Bda(hz:Szv Δ)(hs:Kk Δ)(ah:k<=400000)(ht:Bu t<=200)(hR:∀K,I<=K->Ay6 Δ k K):∀(n:Nat)(l m:A2)(K D B:Nat),l.length+m.length<=n->I+n+1<=K->Bv l<=k+1->(∀e∈l,Bv e.K<=k)->Bv m<=400000->Fo Δ l t=some D->Fo Δ m t=some B->D+B<=6->Eu l->Eu m->∃L,Qo K Δ t l m=some (L.map A3)/\Lk L (mk0 (Is (Ho Δ t (D3 (Dc Δ k))) l m)):=by
 intro n;induction n with
 |zero=>intro l m K D B hn hK _ _ ac _ _ _ _ _;have e1:l=[]:=F5.1 ω;obtain⟨K,rfl⟩:∃K',K=K'+1:=⟨K-1,ω⟩;subst e1;obtain⟨L,G,E⟩:=Ajs (i:=⟨0,m⟩) (by rw[Dy];show 1+Bv m<=_;omega);refine⟨L,?_,by rw[Xl];exact E⟩;rw[Qo,Aes,Ac];exact G
 |succ n ih=>
  intro l m K D B hn hK d F ac H T h6 r1 r2;obtain⟨K,rfl⟩:∃K',K=K'+1:=⟨K-1,ω⟩;rw[Qo];cases l with
  |nil=>obtain⟨L,G,E⟩:=Ajs (i:=⟨0,m⟩) (by rw[Dy];show 1+Bv m<=_;omega);refine⟨L,?_,by rw[Xl];exact E⟩;rw[Ew (by rfl),Ak,Aes,Ac];exact G
  |cons a l=>
   rw[Cx ζ,Al];cases m with
   |nil=>obtain⟨L,G,E⟩:=Ajs (i:=⟨0,a::l⟩) (by rw[Dy];show 1+Bv (a::l)<=_;omega);refine⟨L,?_,by rw[Aej];exact E⟩;rw[Ew (by rfl),Ak,Aes,Ac];exact G
   |cons b m=>
    rw[Cx ζ,Al];obtain⟨ts,U,o,W,a2,a3,rfl⟩:=Aac H;obtain⟨N,S,J,b1,b2,b3,rfl⟩:=Aac T;have u:=r1;have s:=r2;simp only[Eu]at u s;have za:Bv (a::l)=Br a+Bv l:=(by simp only[Bv]);have zb:Bv (b::m)=Br b+Bv m:=(by simp only[Bv]);have ag:=Dy b;have A:∀e∈l,Bv e.K<=k:=λe he=>F e (by simp[he]);simp only[Eo]at hn;(have g:∀(l m:A2)(D B:Nat),Bv l<=k+1->(∀e∈l,Bv e.K<=k)->Fo Δ l t=some D->Fo Δ m t=some B->D+B<=6->Eu l->Eu m->(∀p∈Is (Ho Δ t (D3 (Dc Δ k))) l m,Bv p.1<=Bv l+Bv m)/\pv (λ_=>1) (Is (Ho Δ t (D3 (Dc Δ k))) l m)<=729:=λl m D B G E q3 q4 q5 q6 q7=>by obtain⟨x1,x2⟩:=Apb (Mt Δ k) t l m D B G E q3 q4 q5 q6 q7;have:=Nc q5;exact⟨λp hp=>(x1 p hp).siz,ω⟩);have s1:Fb (a::l) 1 ((a::l).length:Int)=some l:=Aeo a l;have s2:Fb (b::m) 1 ((b::m).length:Int)=some m:=Aeo b m;have i1:Ag (a::l) 0=some a:=rfl;have i2:Ag (b::m) 0=some b:=rfl;obtain⟨X,x1,x2⟩:=ih l (b::m) K o (1+S+J) ζ ω ω A ω a3 T ω u.2 r2;obtain⟨Y,y1,y2⟩:=ih (a::l) m K (1+U+o) J ζ ω d F ω H b3 ω r1 s.2;obtain⟨Z,z1,z2⟩:=ih l m K o J ω ω ω A ω a3 b3 ω u.2 s.2;have C:∀{X:A0}{M:Bj},Lk X (mk0 M)->pv (λ_=>1) M<=729->X.length<=729/\∀w∈X,w.2<=729:=λ{X M} hX hM=>by have e:=Sj (λ_=>1) M;exact⟨by have:=hX.len;omega,λw hw=>by have:=hX.num hw;omega⟩
    obtain⟨xl,_⟩:=C x2 (g l (b::m) o (1+S+J) ω A a3 T ω u.2 r2).2;obtain⟨yl,_⟩:=C y2 (g (a::l) m (1+U+o) J d F H b3 ω r1 s.2).2;obtain⟨zl,zc⟩:=C z2 (g l m o J ω A a3 b3 ω u.2 s.2).2;obtain⟨gs,gt⟩:=g (a::l) (b::m) (1+U+o) (1+S+J) d F H T h6 r1 r2;have y:Fit (mk0 (Is (Ho Δ t (D3 (Dc Δ k))) (a::l) (b::m))):=⟨by rw[Sj];omega,λq hq=>by obtain⟨r,hr,rfl⟩:=mem_map.1 hq;have:=gs r hr;rw[Dy];show 1+Bv r.1<=_;omega⟩;rw[Aaa]at y⊢;have ae:∀p∈Fv a 1 X,1<=p.2:=Apm (Nat.le_refl _) x2.pos;have ad:∀p∈Fv b 1 Y,1<=p.2:=Apm (Nat.le_refl _) y2.pos;have z:∀(V:A0),(∀p∈V,1<=p.2)->(∀f,pv f V=pv f (mk0 ((Ho Δ t (D3 (Dc Δ k)) a b).flatMap λw=>E9 w.1 w.2 (Is (Ho Δ t (D3 (Dc Δ k))) l m))))->Lk (Fv a 1 X++Fv b 1 Y++V) (mk0 (E9 a 1 (Is (Ho Δ t (D3 (Dc Δ k))) l (b::m))++(E9 b 1 (Is (Ho Δ t (D3 (Dc Δ k))) (a::l) m)++(Ho Δ t (D3 (Dc Δ k)) a b).flatMap λw=>E9 w.1 w.2 (Is (Ho Δ t (D3 (Dc Δ k))) l m)))):=λV H T=>⟨λf=>by
      have e1:=Ay5 (e:=a) (c:=1) x2 f;have e2:=Ay5 (e:=b) (c:=1) y2 f;rw[Hn,Hn,e1,e2,T f];simp only[Sj,Hn];omega,λp hp=>by
      simp only[Ea]at hp;rcases hp with (hp|hp)|hp
      .exact ae p hp
      .exact ad p hp
      .exact H p hp⟩
    (have fin:∀V,Fit (Fv a 1 X++Fv b 1 Y++V)->Fit ([]++Fv a 1 X)/\Fit ((([]:A0)++Fv a 1 X)++Fv b 1 Y):=λV h=>by rw[nil_append];exact⟨h.left.left,h.left⟩);have l1:∀hf:Fit ([]++Fv a 1 X),Am (Aev (a::l) (X.map A3)) (0,0,[])=some ((Fu [] (Fv a 1 X)).length,(Fu [] (Fv a 1 X)).map A3):=λhf=>Ay4 (L:=[]) (M:=[]) (es:=l) Lk.nil hf ω;have l2:∀(hf:Fit ([]++Fv a 1 X))(a6:Fit (([]++Fv a 1 X)++Fv b 1 Y)),Am (Aev (b::m) (Y.map A3)) ((Fu [] (Fv a 1 X)).length,0,(Fu [] (Fv a 1 X)).map A3)=some ((Fu (Fu [] (Fv a 1 X)) (Fv b 1 Y)).length,(Fu (Fu [] (Fv a 1 X)) (Fv b 1 Y)).map A3):=λhf a6=>Ay4 (es:=m) (Q5 (L:=[]) (M:=[]) Lk.nil hf) a6 ω;rw[s1,Ac,x1,Ac];by_cases e:a.U=b.U;have aa:N=ts:=(by rw[<-e,W]at b1;exact(E6 b1).symm);subst aa;have ab:Mq Δ t a.U=N:=(by unfold Mq;rw[W]);obtain⟨p1,p2⟩:=Adl W;have ha:=u.1;have hb:=s.1;rw[Oh]at ha hb;obtain⟨R,w1,w2⟩:=hR K ω N a.K b.K U S (F a ψ) ω a2 b2 ω p1 (Bc9 hz W) ha.2 hb.2;obtain⟨v1,v2⟩:=Aab (Mt Δ k) N a.K b.K U S (F a ψ) a2 b2 ω ha.2 hb.2;have af:=Nc (show U+S<=6 by omega);have x:Ho Δ t (D3 (Dc Δ k)) a b=(D3 (Dc Δ k) N a.K b.K).map λr=>((⟨a.U,r.1⟩:Af),r.2):=(by unfold Ho;rw[Av e,ab]);have j:=z (Ju a.U R Z) (Bc8 w2.pos z2.pos) (λf=>by rw[x];exact Bc7 w2 z2 f);have hF:=Fit.of j y;obtain⟨f1,f2⟩:=fin _ hF;have a8:Fit ((([]++Fv a 1 X)++Fv b 1 Y)++Ju a.U R Z):=(by rw[nil_append];exact hF);have a7:=Q5 (Q5 Lk.nil f1) f2;have l3:=Bc6 (es:=l) a7 a8 (λr hr=>by have:=w2.num hr;omega) zc ω (by have:=w2.len;omega);refine⟨Fu (Fu (Fu [] (Fv a 1 X)) (Fv b 1 Y)) (Ju a.U R Z),?_,(Q5 a7 a8).trans λf=>by rw[nil_append];exact j.eq f⟩;refine Ff (l1 f1) ?_;dsimp only;rw[s2,Ac,y1,Ac];refine Ff (l2 f1 f2) ?_;dsimp only;rw[i1,Ac,i2,Ac,Et e,Al,Ac,Adk hz hs t ht,W,Ac,Ac,Ac,z1,Ac,Ac,Ac];show(R4 K Δ N a.K b.K).bind _=_;rw[w1,Ac];refine Ff l3 ?_;dsimp only;rw[Aad];rfl;have x:Ho Δ t (D3 (Dc Δ k)) a b=[]:=(by unfold Ho;rw[As e]);have j:=z [] (λp hp=>by cases hp) (λf=>by rw[x];rfl);have hF:=Fit.of j y;obtain⟨f1,f2⟩:=fin _ hF;refine⟨Fu (Fu [] (Fv a 1 X)) (Fv b 1 Y),?_,(Q5 (Q5 Lk.nil f1) f2).trans λf=>by have:=j.eq f;rw[append_nil]at this;rw[nil_append];exact this⟩;refine Ff (l1 f1) ?_;dsimp only;rw[s2,Ac,y1,Ac];refine Ff (l2 f1 f2) ?_;dsimp only;rw[i1,Ac,i2,Ac,Ep e,Ak,Aad];rfl
def i7:Nat->I7
 |0=>.c0
 |1=>.c1
 |2=>.c2
 |3=>.c3
 |4=>.c4
 |5=>.c5
 |_=>.c6
theorem Ay7(d:Nat)(h:d<7):Aa7 (d:Int)=some (i7 d):=by rcases(ω:d=0\/d=1\/d=2\/d=3\/d=4\/d=5\/d=6)with rfl|rfl|rfl|rfl|rfl|rfl|rfl<;>rfl
theorem Bdb{x:Af×Nat}(h:L[j]?=some x)(d:Nat):(bk Δ t (L.take (j+1)) d).map A3=(bk Δ t (L.take j) d).map A3++(if dgi Δ t x=d then[A3 x]else[]):=by unfold bk;rw[Axm h,map_append];by_cases e:dgi Δ t x=d;simp[e];simp[e]
def Ay8(Δ:Ad)(t:Ah)(i:Af):Prop:=Br i<=1048576/\iR i/\∃d,C7 Δ i t=some d/\d<=6
theorem Ay9(H:DSz Δ)(T:Ih Δ)(hg:Hm Δ t=true)(y:Cw (Ay8 Δ t) L)(hN:pv (λ_=>1) L<F0)(X:L.length<=1000000000):(1000<L.length/\Oa (pls L) (L.map A3) Δ t.G t.U t.R=some ([],9))\/(L.length<=1000/\∃R:A0,Oa (pls L) (L.map A3) Δ t.G t.U t.R=some (R.map A3,0)/\R.Perm L):=by(have q:∀x∈L,C7 Δ x.1 t=some (dgi Δ t x)/\dgi Δ t x<7:=λx o=>by obtain⟨_,_,d,d1,d2⟩:=y.mo x o;have:dgi Δ t x=d:=(by unfold dgi;rw[d1]);rw[this];exact⟨d1,ω⟩);(have G:Ah.mk t.G t.U t.R=t:=by cases t;rfl);(have V:∀j d,((bk Δ t (L.take j) d).map A3).length<=1000000000:=λj d=>by unfold bk;rw[C3];refine Nat.le_trans (length_filter_le _ _) ?_;rw[length_take];omega);(have g:∀d,∃S:A0,Mf ((bk Δ t L d).map A3)=some (S.map A3)/\S.Perm (bk Δ t L d):=λd=>by have W:((bk Δ t L d).map A3).Pairwise λa b=>a.I≠b.I:=(by rw[pairwise_map];exact Pairwise.sublist filter_sublist y.dst);(obtain⟨R,r1,r2⟩:=Bcx ((bk Δ t L d).map A3) W λw C=>by obtain⟨p,hp,rfl⟩:=mem_map.1 C;exact(y.mo p (mem_filter.1 hp).1).1);(obtain⟨S,D,A⟩:∃S:A0,R=S.map A3/\S.Perm (bk Δ t L d):=by(have F:∀(M:Bs)(B:A0),M.Perm (B.map A3)->∃S:A0,M=S.map A3/\S.Perm B:=by intro M;induction M with|nil=>(intro B h;have h:=h.symm.eq_nil;cases B with|nil=>exact⟨[],rfl,Perm.refl _⟩|cons b B=>simp at h)|cons w M ih=>intro B h;obtain⟨b,hb,e⟩:=mem_map.1 (h.mem_iff.1 (by simp:w∈w::M));obtain⟨Z,Y,rfl⟩:=append_of_mem hb;have h2:(w::M).Perm (w::(Z++Y).map A3):=(by refine h.trans ?_;rw[map_append,map_append,map_cons,e];exact perm_middle);obtain⟨S,D,A⟩:=ih (Z++Y) h2.cons_inv;exact⟨b::S,by rw[map_cons,e,D],(A.cons b).trans perm_middle.symm⟩);exact F R _ r2);subst D;exact⟨S,r1,A⟩);obtain⟨S,U⟩:=Classical.axiomOfChoice g;(have f:((range 7).flatMap S).Perm L:=by have h1:=Ayu (dgi Δ t) 7 L λx o=>(q x o).2;refine Perm.trans ?_ h1;(have:∀R:Ca,(R.flatMap S).Perm (R.flatMap λd=>L.filter λx=>dgi Δ t x==d):=λR=>by induction R with|nil=>exact Perm.refl _|cons d R ih=>rw[flatMap_cons,flatMap_cons];exact(U d).2.append ih);exact this _);(have m:Oa (pls L) (L.map A3) Δ t.G t.U t.R=some (if 1000<L.length then([],9)else(((range 7).flatMap S).map A3,0)):=by unfold Oa;refine Ml L.length (λj=>((j:Int),(j:Int),(bk Δ t (L.take j) 0).map A3,(bk Δ t (L.take j) 1).map A3,(bk Δ t (L.take j) 2).map A3,(bk Δ t (L.take j) 3).map A3,(bk Δ t (L.take j) 4).map A3,(bk Δ t (L.take j) 5).map A3,(bk Δ t (L.take j) 6).map A3)) (by simp[bk]) ?_ ⟨((L.length:Int),(bk Δ t L 0).map A3,(bk Δ t L 1).map A3,(bk Δ t L 2).map A3,(bk Δ t L 3).map A3,(bk Δ t L 4).map A3,(bk Δ t L 5).map A3,(bk Δ t L 6).map A3),?_,?_⟩;intro j r;have o:L[j]?=some L[j]:=Bi r;generalize L[j]=x at o;have z:=Bm o;obtain⟨g1,g2,g3⟩:=y.mo x z;obtain⟨d1,d2⟩:=q x z;have hp:=y.pos x z;have a1:=Ou z;have E:(L.map A3)[j]?=some (A3 x):=(by rw[getElem?_map,o];rfl);have i:(((L.map A3).length:Nat):Int)=(L.length:Int):=(by rw[C3]);have k:Np (A3 x).C x.2:=Np.c ω;have I:Kh (A3 x).C=some 1:=(by rw[k.sign,As ω]);have u:Kt (A3 x).C=some (cR x.2):=k.can;have s:Nq Δ t (A3 x).I=some (dgi Δ t x:Int):=(by show Nq Δ t x.1=_;rw[Aoa H T t hg x.1 g1,d1,Sb ω]);have J:M3 4000000 (A3 x).I=some x.1:=(by rw[Ayr];exact Aw2 4000000 x.1 ω ω);have N:∀d,B5 88 ((bk Δ t (L.take j) d).map A3) [⟨x.1,cR x.2⟩]=some ((bk Δ t (L.take j) d).map A3++[⟨x.1,cR x.2⟩]):=λd=>Dj (by have:=V j d;rw[length_singleton];omega);simp only[i,An (ω:(j:Int)<(L.length:Int)),Ak,Bq rfl E,Ac,I,show((1:Int) != 0)=true from rfl,G,s,Ay7 _ d2,Dl r ω];simp only[Bdb o];rcases(ω:dgi Δ t x=0\/dgi Δ t x=1\/dgi Δ t x=2\/dgi Δ t x=3\/dgi Δ t x=4\/dgi Δ t x=5\/dgi Δ t x=6)with e|e|e|e|e|e|e<;>(simp only[e,i7,J,u,N,Ac];simp[A3]);have i:(((L.map A3).length:Nat):Int)=(L.length:Int):=(by rw[C3]);simp only[i,Au (ω:¬(L.length:Int)<(L.length:Int)),Al,Dh];dsimp only;by_cases h:1000<L.length;rw[An ω,Ak,Av h];rw[Au ω,Al,As h];have hB:∀d,Mf ((bk Δ t L d).map A3)=some ((S d).map A3):=λd=>(U d).1;have hG:∀d,Hx (bk Δ t L d).length ((S d).map A3)=some ():=λd=>On (by have h:((S d).map A3).length=(S d).length:=ψ;rw[h];exact(U d).2.length_eq.symm);refine Ml 7 (λj=>((j:Int),(if 0<j then(S 0).map A3 else(bk Δ t L 0).map A3),(if 1<j then(S 1).map A3 else(bk Δ t L 1).map A3),(if 2<j then(S 2).map A3 else(bk Δ t L 2).map A3),(if 3<j then(S 3).map A3 else(bk Δ t L 3).map A3),(if 4<j then(S 4).map A3 else(bk Δ t L 4).map A3),(if 5<j then(S 5).map A3 else(bk Δ t L 5).map A3),(if 6<j then(S 6).map A3 else(bk Δ t L 6).map A3))) rfl ?_ ⟨((S 0).map A3,(S 1).map A3,(S 2).map A3,(S 3).map A3,(S 4).map A3,(S 5).map A3,(S 6).map A3),rfl,?_⟩;intro j r;have C:Aa ((j:Int)+1)=((j+1:Nat):Int):=Dl (n:=7) r ω;simp only[An (ω:(j:Int)<((7:Nat):Int)),Ak,Ay7 j r,Ac,C];rcases(ω:j=0\/j=1\/j=2\/j=3\/j=4\/j=5\/j=6)with rfl|rfl|rfl|rfl|rfl|rfl|rfl<;>(dsimp only[i7];simp[hB,hG]);have l:([(S 0).map A3,(S 1).map A3,(S 2).map A3,(S 3).map A3,(S 4).map A3,(S 5).map A3,(S 6).map A3]:Io).flatten=((range 7).flatMap S).map A3:=(by rw[show range 7=[0,1,2,3,4,5,6]from rfl];simp[map_append]);dsimp only;rw[Bcv _ ψ (by rw[l,C3,f.length_eq];omega),l];rfl);by_cases h:1000<L.length;rw[Av h]at m;exact .inl ⟨h,m⟩;rw[As h]at m;exact .inr ⟨ω,_,m,f⟩
def GI(Δ:Ad)(t:Ah)(S D:Nat)(i:Af):Prop:=Br i<=S/\iR i/\∃d,C7 Δ i t=some d/\d<=D
theorem GI.mono(h:GI Δ t S D i)(b:S<=S')(c:D<=D'):GI Δ t S' D' i:=by obtain⟨h1,h2,d,h3,f⟩:=h;exact⟨ω,h2,d,h3,ω⟩
theorem Cw.imp{Q:Af->Prop}(h:Cw P L)(hi:∀i,P i->Q i):Cw Q L:=⟨h.dst,λt d=>hi _ (h.mo t d),h.pos⟩
theorem GI.good(b:S<=1048576)(c:D<=6)(h:GI Δ t S D i):Ay8 Δ t i:=h.mono b c
theorem Ajv(b:DSz Δ)(c:Ih Δ)(hg:Hm Δ t=true)(g:S<=1048576)(q:D<=6)(k:∀p∈L,GI Δ t S D p.1/\1<=p.2)(j:pv (λ_=>1) L<F0)(C:L.length<=2000):(1000<L.length/\Ry Δ t (L.map A3)=some ([],9))\/∃P,Ry Δ t (L.map A3)=some (P.map A3,0)/\Cw (GI Δ t S D) P/\P.length<=1000/\∀f:Af->Nat,pv f P=pv f L:=by
 unfold Ry Y1;rw[Au (by rw[C3];omega),Al];simp only[Ac];obtain⟨T,o,m,w,n⟩:=Ayq (P:=GI Δ t S D) (λi h=>⟨by have:=h.1;omega,h.2.1⟩) L [] (Cw.nil _) k (by show 0+_<F0;omega) ζ Δ t.G t.U t.R;have o:To (L.map A3) [] [] Δ t.G t.U t.R=some (pls T,T.map A3):=o;rw[o];simp only[Ac];(have n:∀f:Af->Nat,pv f T=pv f L:=λf=>by rw[n];show 0+_=_;omega);(rcases Ay9 b c hg (m.imp λi h=>h.good g q) (by rw[n];exact j) (by simp at w;omega)with⟨F,h⟩|⟨r,R,s,d⟩);left;exact⟨by simp only[length_nil]at w;omega,by rw[h];rfl⟩
 .right;rw[s];refine⟨R,rfl,⟨(d.pairwise_iff λ{x y} h=>h.symm).2 m.dst,λp hp=>m.mo p (d.mem_iff.1 hp),λp hp=>m.pos p (d.mem_iff.1 hp)⟩,by rw[d.length_eq];exact r,λf=>?_⟩;rw[<-n f];(have:∀{A B:A0},A.Perm B->pv f A=pv f B:=λ{A B} h=>by induction h with|nil=>rfl|cons x _ ih=>simp only[pv,ih]|swap x y l=>simp only[pv];omega|trans _ _ r s=>rw[r,s]);exact this d
theorem Ajw(g:DSz Δ)(h:Ih Δ)(hg:Hm Δ t=true)(u:S<=1048576)(x:D<=6)(s:∀p∈L,GI Δ t S D p.1)(F:L.length<=2000):V2 Δ t (L.map A3)=some true:=by(have b:Wf Δ t=some true:=by have f:=hg;simp only[Hm,Ec,Es]at f;obtain⟨q,l,k⟩:=Anf g;have m:q=true:=k.2 h;subst m;unfold Wf;rw[l,Adg Δ t 0 ω];simp only[Ac,Ak];rw[show(H3 Δ 0 t&&decide (Bu t<=200))=Hm Δ t from rfl,hg]);(have c:∃i,Acl Δ t=some (i,true):=by unfold Acl;rw[b,Ac];simp only[Fc,Al];have f:=hg;simp only[Hm,Ec,Es]at f;obtain⟨i,n,_⟩:=A9h 4000000 t ω ω;exact⟨i,by rw[n];rfl⟩);obtain⟨i,n⟩:=c;unfold V2;rw[n,Ac];simp only[Ak];(have y:Acm (L.map A3) Δ t=some false:=by unfold Acm Ag4;refine Ff (a:= -1) ?_ rfl;refine Fi (L.map A3) (λj=>(j:Int)) rfl (by rw[C3];omega) ?_ ?_;intro j G H r o A B;rw[getElem?_map]at r;obtain⟨w,m,rfl⟩:=Option.map_eq_some_iff.1 r;obtain⟨I,N,d,d1,d2⟩:=s w (Bm m);have:Acn (A3 w) Δ t=some false:=(by unfold Acn Ag1;show((Nq Δ t w.1).bind λC=>some (decide (C>=0))).bind _=_;rw[Aoa g h t hg w.1 ω,d1,Sb ω];simp only[Ac];rw[An ω];rfl);simp only[o,A,B,Ak,Ac,this,Al];intro o;exact⟨_,by simp only[o];rfl,rfl⟩);rw[y];rfl
theorem Bdc{c:Nat}(f:∀p∈L,p.2<F0)(l:c<F0)(o:L.length<=1000000):V3 (L.map A3) (cR c)=some ((L.map λp=>(p.1,p.2*c)).map A3):=by unfold V3;refine Fi (L.map A3) (λj=>((j:Int),((L.take j).map λp=>(p.1,p.2*c)).map A3)) ψ (by rw[C3];omega) ?_ ?_;intro j r s g d m n;rw[getElem?_map]at g;obtain⟨w,h,rfl⟩:=Option.map_eq_some_iff.1 g;have b:H5 (A3 w).C (cR c)=some (cR (w.2*c)):=Np.mul (Np.c (f w (Bm h))) (Np.c l);simp only[d,m,n,Ak,Ac,b];rw[Dj (by rw[C3,C3,length_take,length_singleton];omega),Ac,Cs h,map_append,map_append];rfl;intro d;refine⟨_,by simp only[d];rfl,?_⟩;rw[C3,Dh]
def KM:Nat:=400000
theorem Aza{α:Type}(f:α->Nat)(c:Nat):∀L:Λ (α×Nat),pv f (L.map λp=>(p.1,p.2*c))=c*pv f L
 |[]=>rfl
 |p::L=>by rw[map_cons,pv,Aza f c L,pv,Nat.mul_add];have:p.2*c*f p.1=c*(p.2*f p.1):=(by ac_rfl);show p.2*c*f p.1+_=_;omega
theorem Bdd(f:α->Nat){A B:Λ (α×Nat)}(h:A.Perm B):pv f A=pv f B:=by induction h with|nil=>rfl|cons x _ ih=>simp only[pv,ih]|swap x y l=>simp only[pv];omega|trans _ _ d g=>rw[d,g]
def pv2(Δ:Ad)(t:Ah)(f:Af->Nat)(P Q:A0):Nat:=pv (λa=>pv (λb=>pv f (Dc Δ KM t a b)) Q) P
theorem Aew(f:α->Nat){L:Λ (α×Nat)}{x:α×Nat}(h:L[j]?=some x):pv f (L.take (j+1))=pv f (L.take j)+x.2*f x.1:=by rw[Cs h,Hn];simp only[pv];omega
theorem Azb(f:α->Nat)(L:Λ (α×Nat))(j:Nat):pv f (L.take j)<=pv f L:=by have:=Hn f (L.take j) (L.drop j);rw[take_append_drop]at this;omega
theorem Ajx{f g:α->Nat}{L:Λ (α×Nat)}(h:∀p∈L,f p.1<=g p.1):pv f L<=pv g L:=Uy h
noncomputable def Aex(Δ:Ad)(t:Ah)(v:Aq)(q:Bs):Int×List (Β×Int)×List Aq->Ο ((Int×List (Β×Int)×List Aq)⊕(Int×List (Β×Int)×List Aq)):=λ(b,j,g)=>bif b<(q.length:Int)then((Ag q b).bind λf=>(Pj (4000000) Δ t v.I f.I).bind λi=>(H5 v.C f.C).bind λh=>(V3 i h).bind λd=>(To d j g Δ t.G t.U t.R).bind λc=>some (.inl (Aa (b+1),c.1,c.2)))else(some (.inr (b,j,g)))
theorem Bde(W:DSz Δ)(hv:Ih Δ)(hg:Hm Δ t=true)(hS:S+S'<=400000)(hD:D+D'<=6)(B:GI Δ t S D v.1)(E:v.2<F0)(G:1<=v.2){Q:A0}(R:Cw (GI Δ t S' D') Q)(a8:Q.length<=1000)(aa:pv (λ_=>1) Q<F0){g:A0}(J:Cw (GI Δ t (S+S') (D+D')) g)(Y:g.length<=900000000)(hb:pv (λ_=>1) g+729*(v.2*pv (λ_=>1) Q)<F0):∃u,Am (Aex Δ t (A3 v) (Q.map A3)) (0,pls g,g.map A3)=some ((Q.length:Int),pls u,u.map A3)/\Cw (GI Δ t (S+S') (D+D')) u/\u.length<=g.length+729*Q.length/\∀f:Af->Nat,pv f u=pv f g+v.2*pv (λb=>pv f (Dc Δ KM t v.1 b)) Q:=by(have y:(((Q.map A3).length:Nat):Int)=(Q.length:Int):=by rw[C3]);obtain⟨e,e1,u,rfl,e2,e3,e4⟩:=Kf (step:=Aex Δ t (A3 v) (Q.map A3)) (λ(s:Int×List (Β×Int)×List Aq)=>∃(j:Nat)(u:A0),s=((j:Int),pls u,u.map A3)/\j<=Q.length/\Cw (GI Δ t (S+S') (D+D')) u/\u.length<=g.length+729*j/\∀f:Af->Nat,pv f u=pv f g+v.2*pv (λb=>pv f (Dc Δ KM t v.1 b)) (Q.take j)) (λs=>Q.length-s.1.toNat) (λe=>∃u,e=((Q.length:Int),pls u,u.map A3)/\Cw (GI Δ t (S+S') (D+D')) u/\u.length<=g.length+729*Q.length/\∀f:Af->Nat,pv f u=pv f g+v.2*pv (λb=>pv f (Dc Δ KM t v.1 b)) Q) (by rintro _ ⟨j,u,rfl,hj,F,I,k⟩;rcases Cj j Q.length with h|h;left;have m:Q[j]?=some Q[j]:=Bi h;generalize Q[j]=w at m;have M:=Bm m;obtain⟨w1,X,U,V,w4⟩:=R.mo w M;have wp:=R.pos w M;have wb:=Ou M;obtain⟨v1,r,dv,C,v4⟩:=B;have A:(Q.map A3)[j]?=some (A3 w):=(by rw[getElem?_map,m];rfl);have x:Pj 4000000 Δ t (A3 v).I (A3 w).I=some ((Dc Δ KM t v.1 w.1).map A3):=Bcm hv.szv W.sz.short KM t v.1 w.1 4000000 dv U (by unfold KM;omega) (by unfold KM;omega) C V ω (by have:=hg;simp only[Hm,Ec,Es]at this;exact this.2) r X;obtain⟨n,g2⟩:=Mt Δ KM t v.1 w.1 dv U (by unfold KM;omega) C V ω r X;have a6:=Nc (show dv+U<=6 by omega);have Z:(Dc Δ KM t v.1 w.1).length<=729:=(by have:=L3 λp hp=>(n p hp).pos;omega);have N:H5 (A3 v).C (A3 w).C=some (cR (v.2*w.2)):=Np.mul (Np.c E) (Np.c ω);have a7:v.2*w.2<=v.2*pv (λ_=>1) Q:=Nat.mul_le_mul_left _ wb;have L:V3 ((Dc Δ KM t v.1 w.1).map A3) (cR (v.2*w.2))=some (((Dc Δ KM t v.1 w.1).map λp=>(p.1,p.2*(v.2*w.2))).map A3):=Bdc (λp hp=>by have:=Ou hp;have:(1000:Nat)<F0:=(by unfold F0;decide);omega) ω ω;have l:∀f:Af->Nat,pv f ((Dc Δ KM t v.1 w.1).map λp=>(p.1,p.2*(v.2*w.2)))=v.2*w.2*pv f (Dc Δ KM t v.1 w.1):=λf=>Aza f _ _;have z:pv (λ_=>1) u+pv (λ_=>1) ((Dc Δ KM t v.1 w.1).map λp=>(p.1,p.2*(v.2*w.2)))<F0:=(by rw[l,k];have k0:pv (λb=>pv (λ_=>1) (Dc Δ KM t v.1 b)) (Q.take (j+1))<=729*pv (λ_=>1) Q:=(by refine Nat.le_trans (Azb _ Q (j+1)) ?_;rw[<-Ln];refine Ajx λp hp=>?_;obtain⟨p1,p2,H,p3,p4⟩:=R.mo p hp;have:=(Mt Δ KM t v.1 p.1 dv H (by unfold KM;omega) C p3 ω r p2).2;have:=Nc (show dv+H<=6 by omega);omega);have k1:=Aew (λb=>pv (λ_=>1) (Dc Δ KM t v.1 b)) m;have k2:=Nat.mul_le_mul_left v.2 k0;rw[k1,Nat.mul_add]at k2;have k3:v.2*(729*pv (λ_=>1) Q)=729*(v.2*pv (λ_=>1) Q):=(by ac_rfl);have k4:v.2*(w.2*pv (λ_=>1) (Dc Δ KM t v.1 w.1))=v.2*w.2*pv (λ_=>1) (Dc Δ KM t v.1 w.1):=(by ac_rfl);omega);obtain⟨T,a1,a2,a3,a4⟩:=Ayq (P:=GI Δ t (S+S') (D+D')) (λi h=>⟨by have:=h.1;omega,h.2.1⟩) ((Dc Δ KM t v.1 w.1).map λp=>(p.1,p.2*(v.2*w.2))) u F (λp hp=>by obtain⟨q,o,rfl⟩:=mem_map.1 hp;obtain⟨d,d1,d2⟩:=(n q o).deg;refine⟨⟨by have:=(n q o).siz;show Br q.1<=_;omega,(n q o).num,d,d1,ω⟩,?_⟩;exact Nat.mul_pos (n q o).pos (Nat.mul_pos G wp)) z (by rw[C3];omega) Δ t.G t.U t.R;refine⟨((j+1:Nat),pls T,T.map A3),?_,⟨j+1,T,rfl,ω,a2,by rw[C3]at a3;omega,λf=>?_⟩,ζ⟩;unfold Aex;simp only[y,An (ω:(j:Int)<(Q.length:Int)),Ak,Bq rfl A,Ac,x,N,L,a1,Dl h ω];rw[a4,k,l,Aew _ m,Nat.mul_add];have:v.2*(w.2*pv f (Dc Δ KM t v.1 w.1))=v.2*w.2*pv f (Dc Δ KM t v.1 w.1):=(by ac_rfl);omega;right;have:j=Q.length:=ω;subst this;rw[Dh]at k;exact⟨_,by unfold Aex;simp only[y,Au (ω:¬(Q.length:Int)<(Q.length:Int)),Al],u,rfl,F,I,k⟩) (0,pls g,g.map A3) ⟨0,g,rfl,ω,J,ω,λf=>by rw[take_zero];show _=_+v.2*0;omega⟩;exact⟨u,e1,e2,e3,e4⟩
theorem Azc:∀(a b:Nat),a+b<=6->Yv ((a:Nat):Int) ((b:Nat):Int)=some (Ls (a+b+1) (Rc a b),true)
 |0,0,_=>κ
 |0,1,_=>κ
 |0,2,_=>κ
 |0,3,_=>κ
 |0,4,_=>κ
 |0,5,_=>κ
 |0,6,_=>κ
 |0,b+7,h=>absurd h ω
 |1,0,_=>κ
 |1,1,_=>κ
 |1,2,_=>κ
 |1,3,_=>κ
 |1,4,_=>κ
 |1,5,_=>κ
 |1,b+6,h=>absurd h ω
 |2,0,_=>κ
 |2,1,_=>κ
 |2,2,_=>κ
 |2,3,_=>κ
 |2,4,_=>κ
 |2,b+5,h=>absurd h ω
 |3,0,_=>κ
 |3,1,_=>κ
 |3,2,_=>κ
 |3,3,_=>κ
 |3,b+4,h=>absurd h ω
 |4,0,_=>κ
 |4,1,_=>κ
 |4,2,_=>κ
 |4,b+3,h=>absurd h ω
 |5,0,_=>κ
 |5,1,_=>κ
 |5,b+2,h=>absurd h ω
 |6,0,_=>κ
 |6,b+1,h=>absurd h ω
 |a+7,b,h=>absurd h ω
def Sk(a b:Nat):A0:=(range (a+b+1)).map λ(k:Nat)=>(⟨(k:Int),[]⟩,Rc a b k)
theorem Bdf(a b:Nat)(f:Af->Nat):pv f (Sk a b)=pv f (Uz a b):=by unfold Sk Uz;induction range (a+b+1)with|nil=>rfl|cons k l ih=>by_cases h:Rc a b k=0;rw[map_cons,filter_cons_of_neg (by simp[h]),<-ih];simp[pv,h];rw[map_cons,filter_cons_of_pos (by simp[h]),map_cons];simp only[pv,ih]
theorem Bdg(hz:Szv Δ)(hs:Kk Δ):∀k:Nat,k<=400000->∀K,10*k<=K->Ay1 Δ k K:=by intro k;induction k with|zero=>intro _ K _ t i j S N h;have:=Dy i;omega|succ k ih=>intro ab K hK t i j S N Z ac C d J ht ri rj;obtain⟨K,rfl⟩:∃K',K=K'+1:=⟨K-1,ω⟩;have a7:=Dy i;have a6:=Dy j;have D:=ri;have B:=rj;rw[Oh]at D B;(have hR:∀K,10*k+1<=K->Ay6 Δ k K:=λK hK=>by obtain⟨K,rfl⟩:∃K',K=K'+1:=⟨K-1,ω⟩;intro ts is js S N w F H h4 h5 J h7 h8 h9;exact Bc4 (ih ω K ω) ts is js w F H h4 h5 J h7 h8 h9);obtain⟨g1,g2⟩:=Mt Δ (k+1) t i j S N Z C d J ri rj;have a1:=Nc J;have b:Fit (Dc Δ (k+1) t i j):=⟨ω,λq W=>by have:=(g1 q W).siz;omega⟩;rw[Tt];rw[Dc]at b⊢;have a8:=I0 t;by_cases G:t.G=6;rw[Av G]at b⊢;rw[Ew G,Ak];have C:=Oq G C;have d:=Oq G d;have aa:=Kb t.R;obtain⟨R,w1,w2⟩:=hR K ω t.R i.K j.K S N ω ω C d J (λa T=>by have:=I9 T;omega) ω D.2 B.2;have u:Lk (mk0 R) (mk0 (D3 (Dc Δ k) t.R i.K j.K)):=⟨λf=>by rw[Sj,Sj,w2.eq],λp hp=>by obtain⟨r,hr,rfl⟩:=mem_map.1 hp;exact w2.pos r hr⟩;have A:Fit ([]++mk0 R):=Fit.of u b;refine⟨Fu [] (mk0 R),?_,(Q5 Lk.nil A).trans λf=>u.eq f⟩;rw[w1,Ac];have c:=b.tot;have s:=u.len;have l:(mk0 R).length=R.length:=(by unfold mk0;simp);refine Ff (Aeu (R.map toQ) (vs:=mk0 R) (L:=[]) (M:=[]) (ex:=λn o=>(n,o)) (by rw[l,C3]) Lk.nil A (by rw[C3,<-l];exact Nat.le_trans s (Nat.le_trans c δ)) (λj x v n o r d y hm w F H T=>?_) λn o w=>?_) ?_;unfold mk0 at y;rw[getElem?_map]at d y;obtain⟨q,q1,rfl⟩:=Option.map_eq_some_iff.1 d;rw[q1]at y;cases y;simp only[w,F,H,Ak,Ac];show(I6 n ⟨0,q.1⟩ (cR q.2) o).bind _=_;rw[T];rfl;simp only[w,Al];dsimp only;rw[Aad];rfl;rw[As G]at b⊢;rw[Cx G,Al];by_cases E:t.G=7;rw[Av E]at b⊢;rw[Ew E,Ak];obtain⟨e,e6⟩:=Q3 E C;obtain⟨e',ad⟩:=Q3 E d;have n1:(i.U.toNat:Int)=i.U:=ω;have n2:(j.U.toNat:Int)=j.U:=ω;have hP:=Azc i.U.toNat j.U.toNat ω;rw[n1,n2]at hP;have z:=Bdf i.U.toNat j.U.toNat;have A:Fit ([]++Sk i.U.toNat j.U.toNat):=⟨by rw[nil_append,z];exact b.tot,λq W=>by rw[nil_append]at W;obtain⟨n,_,rfl⟩:=mem_map.1 W;rw[Dy];simp[Bv]⟩;refine⟨Fu [] (Sk i.U.toNat j.U.toNat),?_,(Q5 Lk.nil A).trans λf=>z f⟩;rw[hP,Ac];have Y:(Sk i.U.toNat j.U.toNat).length=(Ls (i.U.toNat+j.U.toNat+1) (Rc i.U.toNat j.U.toNat)).length:=(by rw[K4];unfold Sk;simp);refine Ff (Aeu (Ls (i.U.toNat+j.U.toNat+1) (Rc i.U.toNat j.U.toNat)) (vs:=Sk i.U.toNat j.U.toNat) (L:=[]) (M:=[]) (ex:=λn o=>(n,o)) Y Lk.nil A (by rw[K4];omega) (λm x v n o r d y hm w F H T=>?_) λn o w=>?_) ?_;have g:=Dq d;rw[K4]at g;rw[Mr _ g]at d;cases d;have V:(Sk i.U.toNat j.U.toNat)[m]?=some (⟨(m:Int),[]⟩,Rc i.U.toNat j.U.toNat m):=(by unfold Sk;simp[g]);rw[V]at y;cases y;simp only[w,F,H,Ak,Ac,T];simp only[w,Al];dsimp only;rw[Aad];rfl;rw[As E]at b⊢;rw[Cx E,Al];by_cases I:t.G=5;rw[Av I]at b⊢;rw[Ew I,Ak];have C:=Ot I C;have d:=Ot I d;have n1:=Sa Δ _ _ _ C;have n2:=Sa Δ _ _ _ d;obtain⟨X,x1,U⟩:=Bda hz hs ω ht hR (i.K.length+j.K.length) i.K j.K K S N (Nat.le_refl _) ω ω (λe he=>by have:=Jh he;have:=Dy e;omega) ω C d J D.2 B.2;have A:Fit ([]++X):=Fit.of U b;refine⟨Fu [] X,?_,(Q5 Lk.nil A).trans λf=>U.eq f⟩;rw[x1,Ac];have s:=U.len;have c:=b.tot;refine Ff (Aeu (X.map A3) (vs:=X) (L:=[]) (M:=[]) (ex:=λn o=>(n,o)) (by rw[C3]) Lk.nil A (by rw[C3];exact Nat.le_trans s (Nat.le_trans c δ)) (λj x v n o r d y hm w F H T=>?_) λn o w=>?_) ?_;rw[getElem?_map,y]at d;cases d;simp only[w,F,H,Ak,Ac];show(I6 n v.1 (cR v.2) o).bind _=_;rw[T];rfl;simp only[w,Al];dsimp only;rw[Aad];rfl;rw[As I];rw[Cx I,Al,Aes,Ac];exact Ajs (i:=⟨0,[]⟩) (by rw[Dy];simp[Bv])
theorem Bdh(q:Szv Δ)(s:Kk Δ)(d:Bu t<=200){j:Af}(f:Br i<=400000)(c:Br j<=400000)(hi:C7 Δ i t=some a)(m:C7 Δ j t=some b)(u:a+b<=6)(l:iR i)(k:iR j):∃W,Yu Δ t i j=some (W.map A3)/\Lk W (Dc Δ KM t i j):=by obtain⟨W,h,g⟩:=Bdg q s KM δ 4000000 δ t i j a b f c hi m u d l k;exact⟨W,by unfold Yu;rw[h];rfl,g⟩
theorem Azd:(729:Nat)<F0:=by unfold F0;decide
noncomputable def Aey(Δ:Ad)(t:Ah)(p q:Bs):Int×List (Β×Int)×List Aq->Ο ((Int×List (Β×Int)×List Aq)⊕(List (Β×Int)×List Aq)):=λ(d,c,b)=>bif d<(p.length:Int)then((Ag p d).bind λh=>(Am (Aex Δ t h q) (0,c,b)).bind λ(_,g,f)=>some (.inl (Aa (d+1),g,f)))else(some (.inr (c,b)))
theorem Bdi(A:DSz Δ)(B:Ih Δ)(hg:Hm Δ t=true)(hS:S+S'<=400000)(hD:D+D'<=6)(C:∀p∈L,GI Δ t S D p.1/\1<=p.2)(F:∀p∈M,GI Δ t S' D' p.1/\1<=p.2)(Z:L.length<=2000)(Y:M.length<=2000)(ae:L≠[])(ad:M≠[])(hN:729*(pv (λ_=>1) L*pv (λ_=>1) M)<F0):(1000<729*(pv (λ_=>1) L*pv (λ_=>1) M)/\No Δ t (L.map A3) (M.map A3)=some ([],9))\/∃R,No Δ t (L.map A3) (M.map A3)=some (R.map A3,0)/\Cw (GI Δ t (S+S') (D+D')) R/\R.length<=1000/\∀f:Af->Nat,pv f R=pv2 Δ t f L M:=by(have n1:1<=pv (λ_=>1) L:=by have m:=L3 λp hp=>(C p hp).2;cases L with|nil=>exact(ae rfl).elim|cons a l=>simp at m;omega);(have n2:1<=pv (λ_=>1) M:=by have m:=L3 λp hp=>(F p hp).2;cases M with|nil=>exact(ad rfl).elim|cons a l=>simp at m;omega);have m1:pv (λ_=>1) L<=pv (λ_=>1) L*pv (λ_=>1) M:=Nat.le_mul_of_pos_right _ n2;have m2:pv (λ_=>1) M<=pv (λ_=>1) L*pv (λ_=>1) M:=Nat.le_mul_of_pos_left _ n1;unfold No;rw[Ajw A B hg (show S<=1048576 by omega) (show D<=6 by omega) (λp hp=>(C p hp).1) Z,Ajw A B hg (show S'<=1048576 by omega) (show D'<=6 by omega) (λp hp=>(F p hp).1) Y];simp only[Ac,Fc,Al];(rcases Ajv A B hg (show S<=1048576 by omega) (show D<=6 by omega) C ω Z with⟨hb,h⟩|⟨P,p1,H,p3,W⟩);left;exact⟨by have:=L3 λp hp=>(C p hp).2;omega,by rw[h];rfl⟩;rw[p1];simp only[Ac,show((0:Int) != 0)=false from rfl,Al];(rcases Ajv A B hg (show S'<=1048576 by omega) (show D'<=6 by omega) F ω Y with⟨hb,h⟩|⟨Q,q1,q2,q3,q5⟩);left;exact⟨by have:=L3 λp hp=>(F p hp).2;omega,by rw[h];rfl⟩;rw[q1];simp only[Ac,show((0:Int) != 0)=false from rfl,Al];(have ac:P.length≠0:=λe=>by have:P=[]:=F5.1 e;have h:=W λ_=>1;rw[this]at h;have h:0=pv (λ_=>1) L:=h;omega);(have ab:Q.length≠0:=λe=>by have:Q=[]:=F5.1 e;have h:=q5 λ_=>1;rw[this]at h;have h:0=pv (λ_=>1) M:=h;omega);have wP:Aa (((P.map A3).length:Int)-1)=((P.length-1:Nat):Int):=(by rw[C3,Aa,Bz]<;>omega);have wQ:Aa (((Q.map A3).length:Int)-1)=((Q.length-1:Nat):Int):=(by rw[C3,Aa,Bz]<;>omega);(have q:∀{R:A0}{S D:Nat},S<=1048576->D<=6->Cw (GI Δ t S D) R->R.length≠0->∃(w:Aq)(d:Nat),(R.map A3)[R.length-1]?=some w/\Nq Δ t w.I=some (d:Int)/\d<=D:=λ{R S D} m o r h4=>by have n:R[R.length-1]?=some (R[R.length-1]' ω):=Bi _;generalize R[R.length-1]'_=x at n;obtain⟨g1,g2,d,g3,g4⟩:=r.mo x (Bm n);refine⟨A3 x,d,by rw[getElem?_map,n];rfl,?_,g4⟩;show Nq Δ t x.1=_;rw[Aoa A B t hg x.1 ω,g3,Sb ω]);obtain⟨a,da,a1,a2,a3⟩:=q (show S<=1048576 by omega) ω H ac;obtain⟨b,db,b1,b2,b3⟩:=q (show S'<=1048576 by omega) ω q2 ab;have a6:Aa ((da:Int)+(db:Int))=(da:Int)+(db:Int):=ξ;have lP:(((P.map A3).length:Nat):Int)=(P.length:Int):=(by rw[C3]);rw[Cx (by rw[C3];omega),Cx (by rw[C3];omega)];simp only[Al,Ac,wP,wQ,Bq rfl a1,Bq rfl b1,a2,b2,a6];rw[Au ω,Al];unfold Y1;simp only[Ac];have U:pv (λ_=>1) Q=pv (λ_=>1) M:=q5 _;have V:pv (λ_=>1) P=pv (λ_=>1) L:=W _;(have z:∀j,729*(pv (λ_=>1) (P.take j)*pv (λ_=>1) Q)<F0:=λj=>by have m:=Azb (λ_=>1) P j;have o:=Nat.mul_le_mul_right (pv (λ_=>1) Q) m;rw[V]at o;rw[U]at o⊢;omega);(have I:∀a,GI Δ t S D a->pv (λb=>pv (λ_=>1) (Dc Δ KM t a b)) Q<=729*pv (λ_=>1) Q:=λa ha=>by rw[<-Ln];refine Ajx λp hp=>?_;obtain⟨x1,x2,dp,x3,x4⟩:=q2.mo p hp;obtain⟨v1,v2,dv,v3,v4⟩:=ha;have:=(Mt Δ KM t a p.1 dv dp (by unfold KM;omega) v3 x3 ω v2 x2).2;have:=Nc (show dv+dp<=6 by omega);omega);(have s:∀j,pv2 Δ t (λ_=>1) (P.take j) Q<=729*(pv (λ_=>1) (P.take j)*pv (λ_=>1) Q):=λj=>by unfold pv2;(have m:pv (λa=>pv (λb=>pv (λ_=>1) (Dc Δ KM t a b)) Q) (P.take j)<=pv (λa=>729*pv (λ_=>1) Q*1) (P.take j):=Ajx λp hp=>by rw[Nat.mul_one];exact I p.1 (H.mo p (mem_of_mem_take hp)));rw[Ln]at m;refine Nat.le_trans m (Nat.le_of_eq ?_);ac_rfl);(have G:∃T:A0,Cw (GI Δ t (S+S') (D+D')) T/\T.length<=900000000/\(∀f:Af->Nat,pv f T=pv2 Δ t f P Q)/\∀{X:Type}{J:List (Β×Int)×List Aq->Ο X}{x:X},J (pls T,T.map A3)=some x->(Am (Aey Δ t (P.map A3) (Q.map A3)) (0,[],[])).bind J=some x:=by(have N:∀j,j<=P.length->∃u:A0,Cw (GI Δ t (S+S') (D+D')) u/\u.length<=729*Q.length*j/\(∀f:Af->Nat,pv f u=pv2 Δ t f (P.take j) Q)/\∀{X:Type}{J:List (Β×Int)×List Aq->Ο X},(Am (Aey Δ t (P.map A3) (Q.map A3)) (0,[],[])).bind J=(Am (Aey Δ t (P.map A3) (Q.map A3)) ((j:Int),pls u,u.map A3)).bind J:=by intro j;induction j with|zero=>intro _;exact⟨[],Cw.nil _,ψ,λf=>by rw[take_zero];rfl,λ{X J}=>rfl⟩|succ j ih=>intro hj;obtain⟨u,u1,u2,u3,u4⟩:=ih ω;have n:P[j]?=some (P[j]' ω):=Bi _;generalize P[j]'_=v at n;have hm:=Bm n;have a7:(P.map A3)[j]?=some (A3 v):=(by rw[getElem?_map,n];rfl);have ah:=Ou hm;have af:=Aew (λ_=>1) n;have b3:=z (j+1);have b4:=s j;rw[af,Nat.add_mul,Nat.mul_one]at b3;have ag:=u3 λ_=>1;have a8:729*Q.length*j<=729*1000*1000:=Nat.mul_le_mul ω ω;obtain⟨T,t1,t2,t3,t4⟩:=Bde A B hg hS hD (H.mo v hm) ω (H.pos v hm) q2 q3 ω u1 ω ω;refine⟨T,t2,by rw[Nat.mul_succ];omega,λf=>?_,λ{X J}=>?_⟩;rw[t4,u3];unfold pv2;rw[Aew _ n];rw[u4,Ks (s':=(((j+1:Nat):Int),pls T,T.map A3))];unfold Aey;simp only[lP,An (ω:(j:Int)<(P.length:Int)),Ak,Bq rfl a7,Ac,t1,Dl (show j<P.length by omega) ω]);obtain⟨T,t1,t2,t3,t4⟩:=N P.length (Nat.le_refl _);rw[Dh]at t3;have a8:729*Q.length*P.length<=729*1000*1000:=Nat.mul_le_mul ω ω;refine⟨T,t1,ω,t3,λ{X J x} hJ=>?_⟩;rw[t4,Ej (e:=(pls T,T.map A3)) (by unfold Aey;simp only[lP,Au (ω:¬(P.length:Int)<(P.length:Int)),Al])];exact hJ);obtain⟨T,t1,t2,t3,t4⟩:=G;have aa:pv (λ_=>1) T<F0:=(by rw[t3];have m:=s P.length;rw[Dh]at m;have o:=z P.length;rw[Dh]at o;omega);(have E:∀f:Af->Nat,pv2 Δ t f P Q=pv2 Δ t f L M:=λf=>by unfold pv2;rw[W];congr 1;funext a;exact q5 _);(rcases Ay9 A B hg (t1.imp λi h=>h.good ω ω) aa ω with⟨hb,h⟩|⟨m,R,o,r⟩);left;refine⟨by have g1:=L3 λp hp=>t1.pos p hp;have g2:=t3 λ_=>1;have g3:=s P.length;rw[Dh,V,U]at g3;omega,?_⟩;exact t4 (J:=λ(k,g)=>(Oa k g Δ t.G t.U t.R).bind λc=>some (c.1,c.2)) (by show(Oa (pls T) (T.map A3) Δ t.G t.U t.R).bind _=_;rw[h];rfl);right;refine⟨R,t4 (J:=λ(k,g)=>(Oa k g Δ t.G t.U t.R).bind λc=>some (c.1,c.2)) (by show(Oa (pls T) (T.map A3) Δ t.G t.U t.R).bind _=_;rw[o];rfl),⟨(r.pairwise_iff λ{x y} h=>h.symm).2 t1.dst,λp hp=>t1.mo p (r.mem_iff.1 hp),λp hp=>t1.pos p (r.mem_iff.1 hp)⟩,by rw[r.length_eq];exact m,λf=>?_⟩;rw[Bdd f r,t3,E]
def Sl(Δ:Ad)(t:Ah):A2->(Af->Nat)->Af->Nat
 |[],f,a=>f a
 |r::d,f,a=>pv (Sl Δ t d f) (Dc Δ KM t a r)
theorem Apn(Δ:Ad)(t:Ah)(r:Af)(f:Af->Nat):∀(c:A2)(a:Af),Sl Δ t (c++[r]) f a=Sl Δ t c (λb=>pv f (Dc Δ KM t b r)) a
 |[],a=>rfl
 |q::c,a=>by show pv (Sl Δ t (c++[r]) f) (Dc Δ KM t a q)=pv (Sl Δ t c λb=>pv f (Dc Δ KM t b r)) (Dc Δ KM t a q);exact Px λp _=>Apn Δ t r f c p.1
def dgo(Δ:Ad)(t:Ah)(i:Af):Nat:=match C7 Δ i t with|some d=>d|none=>0
def E2(Δ:Ad)(t:Ah)(is:A2):Nat:=(is.map (dgo Δ t)).sum
theorem Bdj(Δ:Ad)(t:Ah)(is:A2)(r:Af):E2 Δ t (is++[r])=E2 Δ t is+dgo Δ t r:=by unfold E2;simp
structure GG(Δ:List Ao)(t:Ah)(is:List Af):Prop where
 num:∀i∈is,iR i
 deg:∀i∈is,C7 Δ i t=some (dgo Δ t i)
 siz:Bv is<=400000
 sum:E2 Δ t is<=6
 len:is.length<=6
def Apo(Δ:Ad)(t:Ah)(f:Af->Nat):Prop:=∀i j a b,Br i<=KM->C7 Δ i t=some a->C7 Δ j t=some b->a+b<=6->iR i->iR j->pv f (Dc Δ KM t i j)=f i*f j
theorem Aze{Δ:Ad}{t:Ah}{f:Af->Nat}(n:Apo Δ t f):∀(b:A2)(a:Af),GG Δ t (a::b)->Sl Δ t b f a=f a*Ey (b.map f)
 |[],a,_=>by simp[Sl,Ey]
 |r::b,a,h=>by
  have s:=h.siz;have o:=h.sum;have u:=h.len;have z:E2 Δ t (a::r::b)=dgo Δ t a+(dgo Δ t r+E2 Δ t b):=(by unfold E2;simp);rw[z]at o;simp only[Bv]at s;simp only[Eo]at u;have j:=h.num a ψ;have c:=h.num r ψ;have l:=h.deg a ψ;have k:=h.deg r ψ;obtain⟨w,_⟩:=Mt Δ KM t a r _ _ (by unfold KM;omega) l k ω j c;show pv (Sl Δ t b f) (Dc Δ KM t a r)=f a*(f r*Ey (b.map f));rw[Px (g:=λx=>Ey (b.map f)*f x) λp hp=>by
   have g:=w p hp;obtain⟨d,d1,d2⟩:=g.deg;have q:=g.siz;have y:dgo Δ t p.1=d:=(by unfold dgo;rw[d1]);have hp:GG Δ t (p.1::b):=by
    refine⟨λi m=>?_,λi m=>?_,by simp only[Bv];omega,?_,by simp only[Eo];omega⟩
    .rcases En.1 m with rfl|m
     .exact g.num
     .exact h.num i (by simp[m])
    .rcases En.1 m with rfl|m
     .rw[y];exact d1
     .exact h.deg i (by simp[m])
    .have:E2 Δ t (p.1::b)=dgo Δ t p.1+E2 Δ t b:=(by unfold E2;simp);omega
   rw[Aze n b p.1 hp,Nat.mul_comm],Ln,n a r _ _ (by unfold KM;omega) l k ω j c]
  ac_rfl
structure PRg(Δ:List Ao)(t:Ah)(i0:Af)(rs:List Af)(R:List (Af×Nat)):Prop where
 cw:Cw (GI Δ t (Bv (i0::rs)) (E2 Δ t (i0::rs))) R
 len:R.length<=1000
 val:∀f:Af->Nat,pv f R=Sl Δ t rs f i0
 cnt:pv (λ_=>1) R<=3^(E2 Δ t (i0::rs)*rs.length)
theorem PRg.one(h:GG Δ t [i]):PRg Δ t i [] [(i,1)]:=by refine⟨⟨pairwise_singleton _ _,λp hp=>?_,λp hp=>?_⟩,ψ,λf=>?_,by simp[pv]⟩;simp only[Fh]at hp;subst hp;exact⟨by simp[Bv],h.num i ψ,_,h.deg i ψ,by simp[E2]⟩;simp only[Fh]at hp;subst hp;exact Nat.le_refl _;show 1*f i+0=f i;omega
theorem GG.take{c:Af}{b:A2}(h:GG Δ t (c::b))(j:Nat):GG Δ t (c::b.take j):=by have k:=h.siz;have hd:=h.sum;have q:=h.len;have g:b=b.take j++b.drop j:=(take_append_drop j b).symm;(have u:Bv b=Bv (b.take j)+Bv (b.drop j):=by rw[<-Uh,<-g]);(have s:E2 Δ t b=E2 Δ t (b.take j)+E2 Δ t (b.drop j):=by unfold E2;rw[<-sum_append,<-map_append,<-g]);(have f:∀l,E2 Δ t (c::l)=dgo Δ t c+E2 Δ t l:=λl=>by unfold E2;simp);rw[f]at hd;simp only[Bv]at k;simp only[Eo]at q;refine⟨λi hi=>?_,λi hi=>?_,by simp only[Bv];omega,by rw[f];omega,by rw[Eo,length_take];omega⟩;rcases En.1 hi with rfl|hi;exact h.num _ ψ;exact h.num i (by have:=mem_of_mem_take hi;simp[this]);rcases En.1 hi with rfl|hi;exact h.deg _ ψ;exact h.deg i (by have:=mem_of_mem_take hi;simp[this])
theorem Bdk(c:DSz Δ)(f:Ih Δ)(hg:Hm Δ t=true)(g:S<=1048576)(i:D<=6)(k:∀p∈M,GI Δ t S D p.1/\1<=p.2)(b:M.length<=2000)(x:pv (λ_=>1) M<F0):No Δ t [] (M.map A3)=some ([],9)\/No Δ t [] (M.map A3)=some ([],0):=by have m:=Azd;unfold No;rw[show V2 Δ t []=some true from Ajw c f hg g i (L:=[]) (λp hp=>by cases hp) ψ,Ajw c f hg g i (λp hp=>(k p hp).1) b];simp only[Ac,Fc,Al];(rcases Ajv c f hg g i (L:=[]) (λp hp=>by cases hp) (by show 0<F0;omega) ψ with⟨_,h⟩|⟨P,j,s,B,q⟩);have h:Ry Δ t []=some ([],9):=h;left;rw[h];rfl;have j:Ry Δ t []=some (P.map A3,0):=j;have u:P=[]:=(by have d:=L3 s.pos;rw[q]at d;have d:P.length<=0:=d;exact F5.1 ω);subst u;rw[j];simp only[Ac,show((0:Int) != 0)=false from rfl,Al];(rcases Ajv c f hg g i k x b with⟨_,h⟩|⟨Q,l,A,z,y⟩);left;rw[h];rfl;right;rw[l];rfl
theorem PRg.step(B:DSz Δ)(E:Ih Δ)(hg:Hm Δ t=true){r:Af}{b:A2}{R:A0}(h:PRg Δ t i b R)(u:GG Δ t (i::(b++[r]))):(b≠[]/\No Δ t (R.map A3) [⟨r,cR 1⟩]=some ([],9))\/∃x,No Δ t (R.map A3) [⟨r,cR 1⟩]=some (x.map A3,0)/\PRg Δ t i (b++[r]) x:=by have hs:=u.siz;have hd:=u.sum;have Y:=u.len;(have N:∀l,E2 Δ t (i::l)=dgo Δ t i+E2 Δ t l:=λl=>by unfold E2;simp);(have m:Bv (i::(b++[r]))=Bv (i::b)+Br r:=by simp only[Bv,Uh];omega);(have n:E2 Δ t (i::(b++[r]))=E2 Δ t (i::b)+dgo Δ t r:=by rw[N,N,Bdj];omega);(have z:b.length<=4:=by simp only[Eo,Fe,length_nil]at Y;omega);have A:=u.num r ψ;have U:=u.deg r ψ;have s:=h.cnt;have G:(3:Nat)^(E2 Δ t (i::b)*b.length)<=3^24:=Nat.pow_le_pow_right δ (Nat.mul_le_mul (ω:_<=6) z);(have Z:(729:Nat)*(3^24*1)<F0:=by unfold F0;decide);have j:pv (λ_:Af=>1) [(r,1)]=1:=rfl;(have J:∀p∈[(r,1)],GI Δ t (Br r) (dgo Δ t r) p.1/\1<=p.2:=λp hp=>by simp only[Fh]at hp;subst hp;exact⟨⟨Nat.le_refl _,A,_,U,Nat.le_refl _⟩,Nat.le_refl _⟩);have k:[(r,1)].map A3=[⟨r,cR 1⟩]:=rfl;by_cases I:R=[];subst I;(have y:b≠[]:=λe=>by subst e;have h0:(0:Nat)=1:=h.val λ_=>1;omega);rcases Bdk B E hg (S:=Br r) (D:=dgo Δ t r) ω ω J ψ (by rw[j];have:=Azd;omega)with c|c;left;rw[<-k];exact⟨y,c⟩;right;refine⟨[],by rw[<-k];exact c,⟨Cw.nil _,ψ,λf=>?_,Nat.zero_le _⟩⟩;rw[Apn,<-h.val];rfl;(rcases Bdi B E hg (S:=Bv (i::b)) (S':=Br r) (D:=E2 Δ t (i::b)) (D':=dgo Δ t r) ω ω (L:=R) (M:=[(r,1)]) (λp hp=>⟨h.cw.mo p hp,h.cw.pos p hp⟩) J (by have:=h.len;omega) ψ I ψ (by rw[j];have:729*(pv (λ_=>1) R*1)<=729*(3^24*1):=ω;omega)with⟨hb,c⟩|⟨x,c1,c2,c3,c5⟩);left;rw[<-k];refine⟨λe=>?_,c⟩;subst e;rw[j]at hb;simp only[length_nil,Nat.mul_zero,Nat.pow_zero]at s;omega;right;(have q:∀f:Af->Nat,pv f x=pv (λa=>pv f (Dc Δ KM t a r)) R:=λf=>by rw[c5];unfold pv2;refine Px λp hp=>?_;show 1*pv f (Dc Δ KM t p.1 r)+0=pv f (Dc Δ KM t p.1 r);omega);refine⟨x,by rw[<-k];exact c1,⟨by rw[m,n];exact c2,c3,λf=>by rw[q,h.val,Apn],?_⟩⟩;rw[q];(have h1:pv (λa=>pv (λ_=>1) (Dc Δ KM t a r)) R<=pv (λ_=>3^(E2 Δ t (i::(b++[r])))*1) R:=Ajx λp hp=>by obtain⟨o,X,d,V,w⟩:=h.cw.mo p hp;have g:=(Mt Δ KM t p.1 r d _ (by unfold KM;omega) V U ω X A).2;rw[Nat.mul_one];exact Nat.le_trans g (Nat.pow_le_pow_right δ ω));rw[Ln]at h1;have h2:=Nat.mul_le_mul_left (3^(E2 Δ t (i::(b++[r])))) s;refine Nat.le_trans h1 (Nat.le_trans h2 ?_);rw[<-Nat.pow_add];refine Nat.pow_le_pow_right δ ?_;rw[Fe,length_singleton,Nat.mul_add,Nat.mul_one,Nat.add_comm];exact Nat.add_le_add_right (Nat.mul_le_mul_right _ ω) _
def fl(v:Int)(is:A2):Ba:=is.map λi=>⟨v,i⟩
def PMg(Δ:Ad)(Ξ:A1)(Θ:Ah)(b:Aw):Prop:=∀p∈b,∃(v:Int)(t:Ah)(d:Af)(g:A2)(R:A0),p.1=bs ((fl v (d::g)).flatMap Ek)/\p.2=R.map A3/\E5 Ξ Θ v=some t/\PRg Δ t d g R
theorem PMg.nil(Δ:Ad)(Ξ:A1)(Θ:Ah):PMg Δ Ξ Θ []:=λp hp=>by cases hp
theorem Bdl{v w:Int}{j:Af}{l m:A2}(h:bs ((fl v (i::l)).flatMap Ek)=bs ((fl w (j::m)).flatMap Ek)):v=w/\i=j/\l=m:=by
 have g:=Aol (By.flat By.fac _) (By.flat By.fac _) h;have n:=(Aok (fl v (i::l)) (fl w (j::m)) [] [] Kc.nil Kc.nil (by rw[append_nil,append_nil];exact g)).1;have o:(⟨v,i⟩:Bd)::fl v l=⟨w,j⟩::fl w m:=n;injection o with a b;injection a with r s;subst r;refine⟨rfl,s,?_⟩;unfold fl at b;have d:∀(l m:A2),(l.map λi=>(⟨v,i⟩:Bd))=(m.map λi=>(⟨v,i⟩:Bd))->l=m:=by
  intro l;induction l with
  |nil=>intro m h;cases m with
   |nil=>rfl
   |cons a m=>simp at h
  |cons a l ih=>intro m h;cases m with
   |nil=>simp at h
   |cons b m=>
    simp only[map_cons,List.cons.injEq,Bd.mk.injEq,true_and]at h
    rw[h.1,ih m h.2]
 exact d l m b
noncomputable def Ajy(Δ:Ad)(t:Ah)(F:Ba)(b2:Aw):List Aq×Int->Ο ((List Aq×Int)⊕((List Aq×Int×List (Β×List Aq))⊕List Aq)):=λ(c,d)=>bif d<(F.length:Int)then((Ag F d).bind λg=>(No Δ t c [Aq.mk g.I (cR 1)]).bind λb=>bif(b.2 != (0:Int))then(some (.inr (.inl ([],b.2,b2))))else(some (.inl (b.1,Aa (d+1)))))else(some (.inr (.inr c)))
theorem Bdm(x:DSz Δ)(y:Ih Δ)(hg:Hm Δ t=true){v:Int}{f:Af}{b:A2}(u:GG Δ t (f::b))(b2:Aw):∃z,Am (Ajy Δ t (fl v b) b2) ([⟨f,cR 1⟩],0)=some z/\((2<=b.length/\z=.inl ([],9,b2))\/∃R:A0,z=.inr (R.map A3)/\PRg Δ t f b R):=by have l:=u.len;simp only[Eo]at l;(have g:((fl v b).length:Int)=(b.length:Int):=by unfold fl;rw[C3]);obtain⟨e,B,A⟩:=Kf (step:=Ajy Δ t (fl v b) b2) (λ(s:List Aq×Int)=>∃(j:Nat)(R:A0),s=(R.map A3,(j:Int))/\j<=b.length/\PRg Δ t f (b.take j) R) (λs=>b.length-s.2.toNat) (λz=>(2<=b.length/\z=(.inl ([],9,b2):((List Aq×Int×List (Β×List Aq))⊕List Aq)))\/∃R:A0,z=.inr (R.map A3)/\PRg Δ t f b R) (by rintro _ ⟨j,R,rfl,w,q⟩;rcases Cj j b.length with h|h;have d:b[j]?=some b[j]:=Bi h;generalize b[j]=r at d;have k:(fl v b)[j]?=some ⟨v,r⟩:=(by unfold fl;rw[getElem?_map,d];rfl);have i:=u.take (j+1);rw[Cs d]at i;unfold Ajy;simp only[g,An (ω:(j:Int)<(b.length:Int)),Ak,Bq rfl k,Ac];(rcases q.step x y hg i with⟨m,c⟩|⟨D,n,o⟩);right;refine⟨_,by rw[c];rfl,.inl ⟨?_,rfl⟩⟩;have:(b.take j).length≠0:=λe=>m (F5.1 e);rw[length_take]at this;omega;left;refine⟨_,by rw[n];rfl,⟨j+1,D,by rw[Dl h ω],ω,by rw[Cs d];exact o⟩,?_⟩;rw[Dl h ω];show b.length-((j+1:Nat):Int).toNat<b.length-(j:Int).toNat;omega;right;have:j=b.length:=ω;subst this;rw[Dh]at q;exact⟨_,by unfold Ajy;simp only[g,Au (ω:¬(b.length:Int)<(b.length:Int)),Al],.inr ⟨R,rfl,q⟩⟩) ([⟨f,cR 1⟩],0) ⟨0,[(f,1)],rfl,ω,by rw[take_zero];exact PRg.one (by have:=u.take 0;rwa [take_zero]at this)⟩;exact⟨e,B,A⟩
theorem Bdn(hz:DSz Δ)(hv:Ih Δ){Ξ:A1}{Θ:Ah}(hg:Hm Δ t=true){v:Int}(H:E5 Ξ Θ v=some t)(I:Fj v){c:Af}{g:A2}(L:GG Δ t (c::g))(b1:At){b2:Aw}(C:PMg Δ Ξ Θ b2):∃l e a1,Tc (fl v (c::g)) b1 b2 Δ Ξ Θ.G Θ.U Θ.R=some (l,e,a1)/\PMg Δ Ξ Θ a1/\((e=9/\l=[]/\2<=g.length)\/(e=0/\∃R:A0,l=R.map A3/\PRg Δ t c g R)):=by have hs:=L.siz;have a7:=L.len;simp only[Eo]at a7;(have y:∀i∈c::g,Br i<=1048576:=λi d=>by have:=Jh d;omega);have D:∀i∈c::g,(Ek ⟨v,i⟩).length<=33554432:=λi d=>Ajf (y i d) ⟨L.num i d,I⟩;(have a8:∀j,((fl v (c::g.take j)).flatMap Ek).length<=6*33554432:=λj=>by refine Nat.le_trans (Aor (n:=33554432) _ λa ha=>?_) (Nat.mul_le_mul_right _ ?_);unfold fl at ha;obtain⟨i,d,rfl⟩:=mem_map.1 ha;refine D i ?_;rcases En.1 d with rfl|d;simp;have:=mem_of_mem_take d;simp[this];unfold fl;rw[C3,Eo,length_take];omega);have q:Ag (fl v (c::g)) 0=some ⟨v,c⟩:=rfl;have B:Nn v c=some (bs (Ek ⟨v,c⟩)):=Aid v c I (L.num c ψ) (y c ψ);(have s:Ku (bs (Ek ⟨v,c⟩)) []=some (((Ek ⟨v,c⟩).length:Int),Ek ⟨v,c⟩):=by have:=Xd (b:=[]) (By.fac ⟨v,c⟩) (by have:=D c ψ;simp;omega);rw[nil_append]at this;exact this);(have T:Aa (0+1)=1:=by rw[Aa,Bz]<;>omega);(have h:∀{X:Type}{J:Ae->Ο X}{x:Ο X},J ((fl v (c::g)).flatMap Ek)=x->(Am (S:=(Int×List Int)) (E:=(List Int)) (λ(o,N)=>bif o<((fl v (c::g)).length:Int)then((Ag (fl v (c::g)) o).bind λM=>(Nn M.v M.I).bind λW=>(H8 W N).bind λa0=>some (.inl (Aa (o+1),a0.2)))else(some (.inr N))) (1,Ek ⟨v,c⟩)).bind J=x:=λ{X J x} hJ=>by refine Ff (a:=(fl v (c::g)).flatMap Ek) ?_ hJ;rw[<-Option.bind_fun_some (Am _ _)];have Z:fl v (c::g)=⟨v,c⟩::fl v g:=rfl;rw[Z];refine Ad3 (⟨v,c⟩:Bd) (fl v g) (λj=>(((j+1:Nat):Int),(fl v (c::g.take j)).flatMap Ek)) (by simp[fl]) (by unfold fl;rw[C3];omega) ?_ ?_;intro j f m r h2 h3;have aa:∃i,g[j]?=some i/\f=⟨v,i⟩:=(by unfold fl at m;rw[getElem?_map]at m;obtain⟨i,r,h2⟩:=Option.map_eq_some_iff.1 m;exact⟨i,r,h2.symm⟩);obtain⟨i,d,rfl⟩:=aa;have A:i∈c::g:=(by have:=Bm d;simp[this]);have hk:=a8 j;have ab:=D i A;have e1:Nn v i=some (bs (Ek ⟨v,i⟩)):=Aid v i I (L.num i A) (y i A);have e2:H8 (bs (Ek ⟨v,i⟩)) ((fl v (c::g.take j)).flatMap Ek)=some (((Ek ⟨v,i⟩).length:Int),(fl v (c::g.take j)).flatMap Ek++Ek ⟨v,i⟩):=Om (By.fac _) ω;simp only[r,h2,h3,Ak,Ac,e1,e2];have:fl v (c::g.take (j+1))=fl v (c::g.take j)++[⟨v,i⟩]:=(by unfold fl;rw[Cs d];simp);rw[this,flatMap_append];simp;intro r;have V:(fl v g).length=g.length:=(by unfold fl;rw[C3]);refine⟨(fl v (c::g)).flatMap Ek,?_,rfl⟩;rw[V]at r⊢;simp only[Dh,r,Al]);have G:By ((fl v (c::g)).flatMap Ek):=By.flat By.fac _;(have a6:Nat.beq (bs ((fl v (c::g)).flatMap Ek)).size 0=false:=by rw[Z2];have:(fl v (c::g)).flatMap Ek=118::((ti v++58::wx c)++(fl v g).flatMap Ek):=rfl;rw[this];rfl);have U:Pi v b1 b2 Δ Ξ Θ.G Θ.U Θ.R=some t:=Av0 b1 b2 Δ Ξ Θ H;have k:Fb (fl v (c::g)) 1 ((fl v (c::g)).length:Int)=some (fl v g):=Aeo ⟨v,c⟩ (fl v g);have u:decide ((0:Int)<((fl v (c::g)).length:Int))=true:=An (by unfold fl;rw[C3,Eo];omega);cases Y:Fz b2 (bs ((fl v (c::g)).flatMap Ek))with|true=>have a2:∃R:A0,I5 b2 (bs ((fl v (c::g)).flatMap Ek)) []=R.map A3/\PRg Δ t c g R:=(by unfold I5;unfold Fz at Y;cases m:b2.find? λp=>bs ((fl v (c::g)).flatMap Ek)==p.1 with|none=>rw[find?_eq_none]at m;obtain⟨p,hp,e⟩:=any_eq_true.1 Y;exact(m p hp e).elim|some p=>obtain⟨w,t',j0,ss,R,g1,g2,g3,g4⟩:=C p (mem_of_find?_eq_some m);have e:=find?_some m;have e:bs ((fl v (c::g)).flatMap Ek)=p.1:=(Of _ _).1 e;rw[g1]at e;obtain⟨rfl,rfl,rfl⟩:=Bdl e;rw[H]at g3;cases g3;exact⟨R,g2,g4⟩);obtain⟨R,r1,F⟩:=a2;refine⟨R.map A3,0,b2,?_,C,.inr ⟨rfl,R,rfl,F⟩⟩;unfold Tc;rw[u,Ak,q,Ac,B,Ac,s,Ac,T];refine h ?_;rw[Q2 G,Ac,Y,Ak,r1];rfl|false=>obtain⟨z,z1,z2⟩:=Bdm hz hv hg (v:=v) L b2;(rcases z2 with⟨hb,rfl⟩|⟨R,rfl,F⟩);refine⟨[],9,b2,?_,C,.inl ⟨rfl,rfl,hb⟩⟩;unfold Tc;rw[u,Ak,q,Ac,B,Ac,s,Ac,T];refine h ?_;rw[Q2 G,Ac,Y,Al,Ac];dsimp only;rw[Al,Ac,U,Ac,Ac,Pv,Ac,k,Ac];exact Ff z1 rfl;refine⟨R.map A3,0,G7 b2 (bs ((fl v (c::g)).flatMap Ek)) (R.map A3),?_,λp hp=>?_,.inr ⟨rfl,R,rfl,F⟩⟩;unfold Tc;rw[u,Ak,q,Ac,B,Ac,s,Ac,T];refine h ?_;rw[Q2 G,Ac,Y,Al,Ac];dsimp only;rw[Al,Ac,U,Ac,Ac,Pv,Ac,k,Ac];refine Ff z1 ?_;unfold Zk;dsimp only;rw[a6,Al,Ac];rcases Ans _ _ _ p hp with hp|rfl;exact C p hp;exact⟨v,t,c,g,R,rfl,rfl,H,F⟩
end Go.Ab
