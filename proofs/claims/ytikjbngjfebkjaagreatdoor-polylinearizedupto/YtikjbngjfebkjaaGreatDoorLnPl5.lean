/- Plain laws. -/
import Derived.Test.YtikjbngjfebkjaaGreatDoorLnPl4
open List
namespace Go.Ab
open Go
variable {res t:Af} {i:Ai} {P:Ai->Prop} {u:Ai×Nat} {v:Int} {L M R ts:List (Ai×Nat)} {vars:List Af} {b:List Ai} {data:List Aj} {l m:List Bi} {D D' K S S' a d j k n:Nat} {Q α:Type} {J:List Ax->Option Q} {q:Q}
def Bd (p:Ai×Nat):Ax:=⟨p.1,cR p.2⟩
def toR (p:List Ai×Nat):Ix:=⟨p.1,cR p.2⟩
theorem Axi {b:Nat} (e:a<=729) (hb:b<=729):E6 (cR a) (cR b)=some (cR (a*b)):=Anq (K:=3) (Kk ω) (Kk ω) δ δ
theorem Tj (h:d<=6):3 ^ d<=729:=Nat.le_trans (Nat.pow_le_pow_right δ h) δ
theorem Axj {α:Type} (h:Ai) (c:Nat) (f:α->List (List Ai×Nat)):∀L:List α,Fi h c (L.flatMap f)=L.flatMap λr=>Fi h c (f r)
 | []=>rfl
 | r::L=>by have ih:=Axj h c f L;unfold Fi at ih ⊢;rw[flatMap_cons,flatMap_cons,map_append,ih]
def Ka (W:List (Ai×Nat)) (r:List Ai×Nat):List (List Ai×Nat):=W.map λw=>(r.1++[w.1],r.2*w.2)
theorem Axk (b:Af->Ai->Ai->List (Ai×Nat)) (t:Af) (i j:Ai):∀(ts:List Af) (is c:List Ai),is.length=ts.length->c.length=ts.length -> Fc b (ts++[t]) (is++[i]) (c++[j])=(Fc b ts is c).flatMap (Ka (b t i j))
 | [],[],[],_,_=>by show (b t i j).flatMap (λw=>Fi w.1 w.2 [([],1)])=Ka (b t i j) ([],1)++[];rw[append_nil];unfold Ka;induction b t i j with| nil=>rfl| cons w W ih=>rw[flatMap_cons,ih];show [([w.1],w.2*1)]++_=_;rw[Nat.mul_one,map_cons,Nat.one_mul];rfl
 | t0::ts,e::is,f::c,g,o=>by show (b t0 e f).flatMap (λw=>Fi w.1 w.2 (Fc b (ts++[t]) (is++[i]) (c++[j])))=((b t0 e f).flatMap λw=>Fi w.1 w.2 (Fc b ts is c)).flatMap (Ka (b t i j));rw[Axk b t i j ts is c (by simpa using g) (by simpa using o),flatMap_assoc];congr 1;funext w;rw[Axj];unfold Fi;rw[flatMap_map];congr 1;funext r;unfold Ka;rw[map_map];congr 1;funext v;show (w.1::(r.1++[v.1]),w.2*(r.2*v.2))=(w.1::r.1++[v.1],w.2*r.2*v.2);rw[Nat.mul_assoc];rfl
 | [],_::_,_,h,_=>by simp at h
 | [],[],_::_,_,h=>by simp at h
 | _::_,[],_,h,_=>by simp at h
 | _::_,_::_,[],_,h=>by simp at h
theorem Axl {β:Type} (f:α->List β) {l:List α} {x:α} (h:l[j]? = some x):(l.take (j+1)).flatMap f=(l.take j).flatMap f++f x:=by rw[Cz h,flatMap_append];simp
theorem Yx {α β:Type} (f:α->List β) (n:Nat):∀l:List α,(∀a∈l,(f a).length<=n)->(l.flatMap f).length<=l.length*n
 | [],_=>ψ
 | a::l,h=>by have g:=h a ψ;have o:=Yx f n l λb e=>h b (by simp[e]);rw[flatMap_cons,Ew,D2,Nat.add_mul];omega
theorem Bby (l:List Ai) (h:l.length<=1048576):Xm l=some ([],l):=by unfold Xm Lc;rw[Dl ζ];rfl
theorem Bbz {c:Af->Ai->Ai->List (Ai×Nat)} (hg:Adn data k c) (V:∀t i j a b,Bw i<=k->Dj data i t=some a->Dj data j t=some b->a+b<=6->B0 t<=200->iR i->iR j->On K data t i j=some ((c t i j).map Bd)) (ts:List Af) (is f:List Ai) {N M:Nat} (hk:Ci is<=k) (h1:C4 data is ts=some N) (h2:C4 data f ts=some M) (h6:N+M<=6) (ht:∀t∈ts,B0 t<=200) (hl:ts.length<=100000) (U:Ff is) (S:Ff f) : Sn (K+1) data ts is f=some ((Fc c ts is f).map toR):=by
 obtain⟨l1,g1⟩:=Yk data _ _ _ h1;obtain⟨l2,g2⟩:=Yk data _ _ _ h2;have s:∀j,(∀r∈Fc c (ts.take j) (is.take j) (f.take j),1<=r.2/\r.2<=729/\r.1.length<=100000)/\(Fc c (ts.take j) (is.take j) (f.take j)).length<=729:=λj=>by
  obtain⟨a,o,a2⟩:=Adc data is ts N j h1;obtain⟨b,C,b2⟩:=Adc data f ts M j h2;have hs:Ci (is.take j)<=Ci is:=(by have:=Vk (is.take j) (is.drop j);rw[take_append_drop]at this;omega);have q1:Ff (is.take j):=(by have:=Al7 (is.take j) (is.drop j);rw[take_append_drop]at this;exact (this.1 U).1);have q2:Ff (f.take j):=(by have:=Al7 (f.take j) (f.drop j);rw[take_append_drop]at this;exact (this.1 S).1);obtain⟨l,X⟩:=Aik hg (ts.take j) (is.take j) (f.take j) a b ω o C ω q1 q2;have D:=Tj (show a+b<=6 by omega);refine⟨λr y=>?_,?_⟩
  .have g:=l r y;have:=Qa y;obtain⟨d,d1,_⟩:=g.deg;have B:=(Yk data _ _ _ d1).1;rw[length_take]at B;exact⟨g.pos,ω,ω⟩
  .have:=Nc λp hp=>(l p hp).pos;omega
 rw[Sn,Ml,Ad];refine Gd ts (λj=>((Fc c (ts.take j) (is.take j) (f.take j)).map toR,(j:Int))) (by simp[Fc,toR]) ω ?_ ?_
 .intro j t hj F l X e3;have e:is[j]? = some (is[j]' ω):=Bq _;generalize is[j]'_=i at e;have h:f[j]? = some (f[j]' ω):=Bq _;generalize f[j]'_=i' at h;obtain⟨a,o,a2⟩:=g1 j i t e F;obtain⟨b,C,b2⟩:=g2 j i' t h F;have a7:=Km (Bz e);have T:=ht t (Bz F);have x:=Al5 U (Bz e);have u:=Al5 S (Bz h);obtain⟨w1,w2⟩:=hg t i i' a b ω o C ω x u;have D:=Tj (show a+b<=6 by omega);have I:(c t i i').length<=729:=(by have:=Nc λp hp=>(w1 p hp).pos;omega);have J:∀w∈c t i i',w.2<=729:=λw H=>by have:=Qa H;omega
  obtain⟨Z,x2⟩:=s j;have L:Fc c (ts.take (j+1)) (is.take (j+1)) (f.take (j+1))=(Fc c (ts.take j) (is.take j) (f.take j)).flatMap (Ka (c t i i')):=(by rw[Cz F,Cz e,Cz h,Axk _ _ _ _ _ _ _ ζ ζ]);rw[L];have A:=V t i i' a b ω o C ω T x u;generalize Fc c (ts.take j) (is.take j) (f.take j)=R at *;generalize c t i i'=W at *;simp only[l,X,Ak,Ad];refine Gd (R.map toR) (λn=>((n:Int),((R.take n).flatMap (Ka W)).map toR)) ψ (by rw[C5];omega) ?_ ?_
  .intro n r' hn y f1 f2 f3;rw[getElem?_map]at y;obtain⟨r,hq,rfl⟩:=Option.map_eq_some_iff.1 y;obtain⟨y1,Y,y3⟩:=Z r (Bz hq);have a6:((R.take n).flatMap (Ka W)).length<=729*729:=(by refine Nat.le_trans (Yx _ 729 _ λq _=>by unfold Ka;rw[C5];exact I) (Nat.mul_le_mul_right _ ?_);rw[length_take];omega);simp only[f1,f2,f3,Ak,Ad,Br rfl e,Br rfl h,A];refine Gd (W.map Bd) (λm=>((m:Int),((R.take n).flatMap (Ka W)).map toR++((Ka (W.take m) r).map toR))) (by simp[Ka]) (by rw[C5];omega) ?_ ?_
   .intro m w' V H E p2 p3;rw[getElem?_map]at H;obtain⟨w,z,rfl⟩:=Option.map_eq_some_iff.1 H;have G:=J w (Bz z);have a8:(Ka (W.take m) r).length<=729:=(by unfold Ka;rw[C5,length_take];omega);have aa:(((R.take n).flatMap (Ka W)).map toR++(Ka (W.take m) r).map toR).length<=729*729+729:=(by rw[Ew,C5,C5];omega);simp only[E,p2,p3,Ak,Ad];show (Xm r.1).bind _=_;rw[Bby _ ω,Ad,Dl ζ,Ad];show (E6 (cR r.2) (cR w.2)).bind _=_;rw[Axi Y G,Ad,Dl (by rw[length_singleton];omega),Ad];have:Ka (W.take (m+1)) r=Ka (W.take m) r++[(r.1++[w.1],r.2*w.2)]:=(by unfold Ka;rw[Cz z,map_append];rfl);rw[this,map_append,append_assoc];rfl
   .intro E;refine⟨_,by simp only[E];rfl,?_⟩;rw[C5,Db,Axl _ hq,map_append]
  .intro f1;refine⟨_,by simp only[f1];rfl,?_⟩;rw[C5,Db,e3]
 .intro l;refine⟨_,by simp only[l];rfl,?_⟩;rw[Ii ω,Ii ω,Ii ω]
theorem An2 (a:α) (l:List α):F5 (a::l) 1 ((a::l).length:Int)=some l:=by unfold F5;rw[Au ⟨δ,by simp only[D2];omega,ω⟩];simp
theorem Bb0 (a:Ai) (l:List Ai) (h:l.length<=999999):Abt [[a],l]=some (a::l) := Anj (B:=32) δ (gr:=Af0) (λn h=>Aib n h) [a] l ζ
theorem An3 (e:Ai) {c:Nat} (p:c<=729) {R:List (List Ai×Nat)} (s:R.length<=729) (h:∀r∈R,r.2<=729/\r.1.length<=100000) (b:List Ix) (l:b.length<=1000000) : Sp e (cR c) (R.map toR) b=some (b++(Fi e c R).map toR):=by
 unfold Sp;refine Gd (R.map toR) (λn=>((n:Int),b++(Fi e c (R.take n)).map toR)) (by simp[Fi]) (by rw[C5];omega) ?_ ?_
 .intro n k q f f1 f2 f3;rw[getElem?_map]at f;obtain⟨r,o,rfl⟩:=Option.map_eq_some_iff.1 f;obtain⟨g,j⟩:=h r (Bz o);have i:(b++(Fi e c (R.take n)).map toR).length<=1000729:=(by rw[Ew,C5];unfold Fi;rw[C5,length_take];omega);simp only[f1,f2,f3,Ak,Ad];show (Abt [[e],r.1]).bind _=_;rw[Bb0 _ _ ω,Ad];show (E6 (cR c) (cR r.2)).bind _=_;rw[Axi p g,Ad,Dl (by rw[length_singleton];omega),Ad];have:Fi e c (R.take (n+1))=Fi e c (R.take n)++[(e::r.1,c*r.2)]:=(by unfold Fi;rw[Cz o,map_append];rfl);rw[this,map_append,append_assoc];rfl
 .intro f1;refine⟨_,by simp only[f1];rfl,?_⟩;rw[C5,Db]
theorem Bb1 (r:Szv data) (g:M1 data) (t:Af) (ht:B0 t<=200) (c:Int) {ts:List Af} (h:G2 data t c=some ts):Abu data t c=some ts:=by
 unfold Abu;unfold G2 at h;rw[Acg r t ht c,Ad];cases e:Jp data t c with
 | none=>rw[e]at h;cases h
 | some l=>
  rw[e]at h;have h:Gf l (Eb data t.U c)=ts:=Eu h;subst h;have i:=Xz e;obtain⟨x,y,_,w,_,A,q,_⟩:=Pv e;obtain⟨f,_⟩:=r x (Hg w).2.2.2 y (Hg A).2.2.2;have k:l.length<=6:=(by rw[q];simpa using f);simp only[okL,Xy data t.U c g,Ad];refine Gd (Eb data t.U c) (λj=>((j:Int),Gf (l.take j) ((Eb data t.U c).take j))) (by simp[Gf]) ω ?_ ?_
  .intro j b F B o C E;have p:l[j]? = some l[j]:=Bq ω;generalize l[j]=a at p;have s:=X0 (l.take j) ((Eb data t.U c).take j);have:(l.take j).length<=6:=ζ;simp only[o,C,E,Ak,Ad,Br rfl p,Ags p B];rw[Dl ζ];cases b <;> simp
  .intro o;refine⟨_,by simp only[o];rfl,?_⟩;rw[Ii ω,Ii (Nat.le_refl _)]
def An4 (data:List Aj) (k K:Nat):Prop:=∀(ts:List Af) (is b:List Ai) (f c:Nat),Ci is<=k->C4 data is ts=some f->C4 data b ts=some c->f+c<=6->(∀t∈ts,B0 t<=200)->ts.length<=100000->Ff is->Ff b->Sn K data ts is b=some ((Fc (Ed data k) ts is b).map toR)
theorem Bb2 (hz:Szv data) (hs:M1 data) (ht:B0 t<=200) {K0:Nat} (hR:∀K,K0<=K->An4 data k K):∀(n:Nat) (l m:List Ai) (K u s:Nat),l.length+m.length<=n->K0+n+1<=K->Ci l<=k+1->(∀e∈l,Ci e.K<=k)->F1 data l t=some u->F1 data m t=some s->u+s<=6->Ff l->Ff m -> Po K data t l m=some ((Kr (J9 data t (Fc (Ed data k))) l m).map toR):=by
 intro n;induction n with
 | zero=>intro l m K u s Y hK _ _ _ _ _ _ _;have e1:l = []:=Fr.1 ω;obtain⟨K,rfl⟩:∃K',K=K' + 1:=⟨K-1,ω⟩;subst e1;rw[Po,Adj,Ml];rfl
 | succ n ih=>
  intro l m K u s Y hK G F H T h6 N L;obtain⟨K,rfl⟩:∃K',K=K' + 1:=⟨K-1,ω⟩;rw[Po];cases l with
  | nil=>rw[Adj,Ml];rfl
  | cons a l=>
   rw[Cu ζ,Ap];cases m with
   | nil=>rw[Aih,Ml];rfl
   | cons b m=>
    rw[Cu ζ,Ap];obtain⟨ts,E,C,o,a2,a3,rfl⟩:=Ail H;obtain⟨i,D,B,b1,b2,J,rfl⟩:=Ail T;have h:=N;have g:=L;simp only[Ff]at h g;have za:Ci (a::l)=Bw a+Ci l:=(by simp only[Ci]);have j:∀e∈l,Ci e.K<=k:=λe he=>F e (by simp[he]);have n1:=Vi data _ _ _ H;have n2:=Vi data _ _ _ T;simp only[D2]at Y n1 n2;have f:∀(l m:List Ai) (u s:Nat),Ci l<=k+1->(∀e∈l,Ci e.K<=k)->F1 data l t=some u->F1 data m t=some s->u+s<=6->Ff l->Ff m->(∀r∈Kr (J9 data t (Fc (Ed data k))) l m,r.2<=729/\r.1.length<=100000)/\(Kr (J9 data t (Fc (Ed data k))) l m).length<=729:=λl m u s q1 q2 q3 q4 q5 q6 q7=>by
     obtain⟨I,x2⟩:=Axh (Re data k) t l m u s q1 q2 q3 q4 q5 q6 q7;have:=Tj q5;refine⟨λr A=>⟨by have:=Qa A;omega,?_⟩,?_⟩
     .obtain⟨d,d1,d2⟩:=(I r A).deg;have:=Vi data _ _ _ d1;omega
     .have:=Nc λp hp=>(I p hp).pos;omega
    have s1:F5 (a::l) 1 ((a::l).length:Int)=some l:=An2 a l;have s2:F5 (b::m) 1 ((b::m).length:Int)=some m:=An2 b m;have i1:Ag (a::l) 0=some a:=rfl;have i2:Ag (b::m) 0=some b:=rfl;obtain⟨I,x2⟩:=f l (b::m) C (1+D+B) ω j a3 T ω h.2 L;obtain⟨y1,y2⟩:=f (a::l) m (1+E+C) B G F H J ω N g.2;obtain⟨z1,z2⟩:=f l m C B ω j a3 J ω h.2 g.2;have L1:∀(e:Ai) (c:Nat) (R:List (List Ai×Nat)),((Fi e c R).map toR).length=R.length:=λe c R=>by unfold Fi;simp
    have c1:Ei 1=some (cR 1):=Ml;rw[i1,Ad,c1,Ad,s1,Ad,ih l (b::m) K C (1+D+B) ζ ω ω j a3 T ω h.2 L,Ad,An3 a δ x2 I [] ψ,Ad,i2,Ad,Ad,s2,Ad, ih (a::l) m K (1+E+C) B ζ ω G F H J ω N g.2,Ad,An3 b δ y2 y1 _ (by rw[nil_append,L1];omega),Ad,Ad,Ad];rw[Adk];by_cases e:a.U=b.U
    .have U:i=ts:=(by rw[<-e,o]at b1;exact (Eu b1).symm);subst U;have V:J8 data t a.U=i:=(by unfold J8;rw[o]);obtain⟨p1,p2⟩:=Agu o;have pl:i.length<=100000:=(by unfold G2 at o;cases hf:Jp data t a.U with| none=>rw[hf]at o;cases o| some l=>rw[hf]at o;have o:Gf l (Eb data t.U a.U)=i:=Eu o;obtain⟨x,y,_,hx,_,hy,hl,_⟩:=Pv hf;obtain⟨y6,_⟩:=hz x (Hg hx).2.2.2 y (Hg hy).2.2.2;have a8:l.length<=6:=(by rw[hl];simpa using y6);have:=X0 l (Eb data t.U a.U);rw[o]at this;omega);have ha:=h.1;have hb:=g.1;rw[Py]at ha hb;have z:=hR K ω i a.K b.K E D (F a ψ) a2 b2 ω p1 pl ha.2 hb.2;obtain⟨w1,w2⟩:=Aik (Re data k) i a.K b.K E D (F a ψ) a2 b2 ω ha.2 hb.2;have a6:=Tj (show E+D<=6 by omega);have a7:(Fc (Ed data k) i a.K b.K).length<=729:=(by have:=Nc λp hp=>(w1 p hp).pos;omega);have S:∀r∈Fc (Ed data k) i a.K b.K,r.2<=729:=λr A=>by have:=Qa A;omega
     rw[Ef e,Ak,Ad,Ad,ih l m K C B ω ω ω j a3 J ω h.2 g.2,Ad,Ad,Bb1 hz hs t ht _ o,Ad,Ad,Ad,z,Ad];have Z:J9 data t (Fc (Ed data k)) a b=(Fc (Ed data k) i a.K b.K).map λr=>(⟨a.U,r.1⟩,r.2):=(by unfold J9;rw[Au e,V]);rw[Z];generalize Fc (Ed data k) i a.K b.K=W at *;generalize Kr (J9 data t (Fc (Ed data k))) l m=M at *;have hO:∀n,(flatMap (λw:Ai×Nat=>Fi w.1 w.2 M) ((W.take n).map λr=>(⟨a.U,r.1⟩,r.2))).length<=729*729:=λn=>by refine Nat.le_trans (Yx _ 729 _ λq _=>by unfold Fi;rw[C5];exact z2) (Nat.mul_le_mul_right _ ?_);rw[C5,length_take];omega
     refine Gd (W.map toR) (λn=>((n:Int),[]++(Fi a 1 (Kr (J9 data t (Fc (Ed data k))) l (b::m))).map toR++(Fi b 1 (Kr (J9 data t (Fc (Ed data k))) (a::l) m)).map toR++(flatMap (λw:Ai×Nat=>Fi w.1 w.2 M) ((W.take n).map λr=>(⟨a.U,r.1⟩,r.2))).map toR)) ψ (by rw[C5];omega) ?_ ?_
     .intro n r' Y A f1 f2 f3;rw[getElem?_map]at A;obtain⟨r,hq,rfl⟩:=Option.map_eq_some_iff.1 A;have X:=S r (Bz hq);have aa:=hO n;simp only[f1,f2,f3,Ak,Ad,i1];show (Sp ⟨a.U,r.1⟩ (cR r.2) _ _).bind _=_;rw[An3 _ X z2 z1 _ (by rw[Ew,Ew,Ew,L1,L1,C5,length_nil];omega),Ad];rw[Cz hq,map_append,flatMap_append,map_append,append_assoc];simp
     .intro f1;refine⟨_,by simp only[f1];rfl,?_⟩;rw[C5,Db,map_append,map_append];simp
    .rw[Cu e,Ap];have Z:J9 data t (Fc (Ed data k)) a b = []:=(by unfold J9;rw[Ar e]);rw[Z,map_append,map_append];simp
theorem Bb3 (h:∀t i j a b,Bw i<=k->Dj data i t=some a->Dj data j t=some b->a+b<=6->B0 t<=200->iR i->iR j->On K data t i j=some ((Ed data k t i j).map Bd)):An4 data k (K+1) := λts is g _ _ e o p q r l f c=>Bbz (Re data k) h ts is g e o p q r l f c
theorem Axm {R:List (List Ai×Nat)} (i:R.length<=100000) {step:Int×List Ax->Option ((Int×List Ax)⊕List Ax)} (b:∀(v:Int) (o:List Ax),step (v,o)=bif v<((R.map toR).length:Int) then ((Ag (R.map toR) v).bind λr=>(B6 88 o [Ax.mk (Ai.mk 0 r.list) r.coef]).bind λo=>some (.inl ((Ac (v+1)),o))) else some (.inr o)) (f:J ((R.map λr=>((⟨0,r.1⟩:Ai),r.2)).map Bd)=some q):(Am step (0,[])).bind J=some q:=by
 refine Gd (R.map toR) (λn=>((n:Int),((R.take n).map λr=>((⟨0,r.1⟩:Ai),r.2)).map Bd)) ψ (by rw[C5];omega) ?_ ?_
 .intro n g h c f1 f2 f3;rw[getElem?_map]at c;obtain⟨r,e,rfl⟩:=Option.map_eq_some_iff.1 c;rw[b,f1,Ak,f2,Ad,Dl (by rw[C5,C5,length_take,length_singleton];omega),Ad,f3,Cz e,map_append,map_append];rfl
 .intro f1;refine⟨_,by rw[b,f1,Ap],?_⟩;rw[C5,Db];exact f
theorem Bb4 {b:Nat} (h:a+b<=12) {step:Int×List Ax->Option ((Int×List Ax)⊕List Ax)} (c:∀(v:Int) (o:List Ax),step (v,o)=bif v<((Ls (a+b+1) (Rc a b)).length:Int) then ((Ag (Ls (a+b+1) (Rc a b)) v).bind λx=>(I1 x).bind λs=>bif (s != (0:Int)) then ((B6 88 o [Ax.mk (Ai.mk v []) x]).bind λo=>some (.inl ((Ac (v+1)),o))) else some (.inl ((Ac (v+1)),o))) else some (.inr o)) (l:J ((Yw a b).map Bd)=some q):(Am step (0,[])).bind J=some q:=by
 have f:∀n,(((range (n+1)).filter λk=>Rc a b k != 0).map λ(k:Nat)=>((⟨(k:Int),[]⟩:Ai),Rc a b k)).map Bd=(((range n).filter λk=>Rc a b k != 0).map λ(k:Nat)=>((⟨(k:Int),[]⟩:Ai),Rc a b k)).map Bd++(if Rc a b n=0 then [] else [⟨⟨(n:Int),[]⟩,cR (Rc a b n)⟩]):=λn=>by
  rw[range_succ,filter_append,map_append,map_append];by_cases h:Rc a b n=0
  .simp[h]
  .simp[h,Bd]
 refine Gd (Ls (a+b+1) (Rc a b)) (λn=>((n:Int),(((range n).filter λk=>Rc a b k != 0).map λ(k:Nat)=>((⟨(k:Int),[]⟩:Ai),Rc a b k)).map Bd)) ψ (by rw[Na];omega) ?_ ?_
 .intro n x g e f1 f2 f3;rw[Na]at g;rw[Nb _ g]at e;have e:cR (Rc a b n)=x:=Eu e;subst e;have j:Rc a b n<=3 ^ 12:=(by have p:=Adm a b (n+1);have r:Rc a b n<=sm (n+1) (Rc a b):=(by rw[sm];omega);exact Nat.le_trans r (Nat.le_trans p (Nat.pow_le_pow_right δ h)));have i:((((range n).filter λk=>Rc a b k != 0).map λ(k:Nat)=>((⟨(k:Int),[]⟩:Ai),Rc a b k)).map Bd).length<=13:=(by rw[C5,C5];refine Nat.le_trans (length_filter_le _ _) ?_;rw[length_range];omega);rw[c,f1,Ak,f2,Ad,(Np.cR (a:=Rc a b n) (Kk ω)).sign,Ad,f n];by_cases h:Rc a b n=0
  .rw[Au h,Au h,append_nil,f3];rfl
  .rw[Ar h,Ar h,show ((1:Int) != 0)=true from rfl,Ak,Dl (by rw[length_singleton];omega),Ad,f3]
 .intro f1;refine⟨_,by rw[c,f1,Ap],?_⟩;rw[Na];exact l
theorem Bb5 (C:Szv data) (S:M1 data):∀(k:Nat) (t:Af) (i j:Ai) (K q l:Nat),Bw i<=k->10*k<=K->Dj data i t=some q->Dj data j t=some l->q+l<=6->B0 t<=200->iR i->iR j -> On K data t i j=some ((Ed data k t i j).map Bd):=by
 intro k;induction k with
 | zero=>intro t i j K q l h;have:=Ey i;omega
 | succ k ih=>
  intro t i j K q l z X r w y F E D;obtain⟨K,rfl⟩:∃B,K=B+1:=⟨K-1,ω⟩;have M:=Ey i;have g:=E;have f:=D;rw[Py]at g f;have J:∀K,10*k+1<=K->An4 data k K:=λK X=>by obtain⟨K,rfl⟩:∃B,K=B+1:=⟨K-1,ω⟩;exact Bb3 λt i j a b H T W h4 Z y Y=>ih t i j K a b H ω T W h4 Z y Y
  have A:=Re data (k+1) t i j q l z r w y E D;have L:=Tj y;have c:(Ed data (k+1) t i j).length<=729:=(by have:=Nc λp hp=>(A.1 p hp).pos;omega);rw[On];rw[Ed]at c ⊢;have N:=J2 t;by_cases u:t.G=6
  .rw[Au u]at c ⊢;rw[Ef u,Ak];have r:=Yt u r;have w:=Yt u w;have R:=Lw t.R;rw[J K ω t.R i.K j.K q l ω r w y (λa ha=>by have:=Kl ha;omega) ω g.2 f.2,Ad];rw[C5]at c;exact Axm ω (λv o=>rfl) rfl
  .rw[Ar u]at c ⊢;rw[Cu u,Ap];by_cases s:t.G=7
   .rw[Au s];rw[Ef s,Ak];obtain⟨e,_⟩:=Aig s r;obtain⟨e',_⟩:=Aig s w;have I:(i.U.toNat:Int)=i.U:=ω;have G:(j.U.toNat:Int)=j.U:=ω;have V:Abn i.U j.U=some (Ls (i.U.toNat+j.U.toNat+1) (Rc i.U.toNat j.U.toNat),true):=(by unfold Abn;rw[Aw ω,Aw ω,Aw ω,Aw ω];simp only[Ap,Ad];have:=Awz i.U.toNat j.U.toNat ω ω;rw[I,G]at this;rw[this,Ad]);rw[V,Ad];exact Bb4 ω (λv o=>rfl) rfl
   .rw[Ar s]at c ⊢;rw[Cu s,Ap];by_cases x:t.G=5
    .rw[Au x]at c ⊢;rw[Ef x,Ak];have r:=Yu x r;have w:=Yu x w;have I:=Vi data _ _ _ r;have G:=Vi data _ _ _ w;rw[Bb2 C S F J (i.K.length+j.K.length) i.K j.K K q l (Nat.le_refl _) ω ω (λe U=>by have:=Km U;have:=Ey e;omega) r w y g.2 f.2,Ad];rw[C5]at c;exact Axm ω (λv o=>rfl) rfl
    .rw[Ar x];rw[Cu x,Ap,Ml,Ad,Dl ψ,Ad];rfl
theorem Axn:∀k,Xr k=Pm k
 | 0=>by funext i b;rfl
 | k+1=>by have ih:=Axn k;funext i b;rw[Xr,Pm,ih]
theorem Bb6 (i:Ai) (e:Bw i<=1048576) (b:iR i):Abm i []=some (wx i):=by have h:=At4 4000001 i [] ω b ζ;rw[nil_append]at h;rw[<-h,show (4000001:Nat)=4000000+1 from rfl,Pm,<-Axn];rfl
theorem By.wx (i:Ai):By (Go.Ab.wx i):=Al9 i
def K5 (i:Ai):ByteArray:=bs (wx i)
theorem Axo {j:Ai} (h:K5 i=K5 j):i=j:=by have e:=Am1 (By.wx i) (By.wx j) h;have g:=Ag0 i j [] [] Agz Agz (by rw[append_nil,append_nil];exact e);exact g.1
theorem Bb7 (i:Ai):wx i≠[]:=by rw[Agy];intro h;exact Agx _ (append_eq_nil_iff.1 h).1
theorem Bb8 (i:Ai):Nat.beq (K5 i).size 0=false:=by unfold K5;rw[Yi];have:=Bb7 i;cases h:wx i with| nil=>exact (this h).elim| cons a l=>rfl
def pls (ts:List (Ai×Nat)):List (ByteArray×Int):=ts.zipIdx.map λq=>(K5 q.1.1,(q.2:Int))
def Dw (ts:List (Ai×Nat)):Prop:=ts.Pairwise λt u=>t.1≠u.1
theorem Bb9 (ts:List (Ai×Nat)) (t:Ai×Nat):pls (ts++[t])=pls ts++[(K5 t.1,(ts.length:Int))]:=by unfold pls;rw[zipIdx_append];simp
theorem Ado (ts:List (Ai×Nat)) (j:Nat):(pls ts)[j]? = (ts[j]?).map λt=>(K5 t.1,(j:Int)):=by unfold pls;rw[getElem?_map,getElem?_zipIdx];cases ts[j]? <;> simp
theorem Bca {t:Ai×Nat} (h:ts[j]? = some t) (b:u.1=t.1):pls (ts.set j u)=pls ts:=by
 refine ext_getElem? λn=>?_;rw[Ado,Ado,getElem?_set];by_cases e:j=n
 .subst e;rw[Au rfl,h];have:=Ek h;rw[Au this];simp[b]
 .rw[Ar e]
theorem Bcb {m:Ai} (h:∀t∈ts,t.1≠m):Fd (pls ts) (K5 m)=false:=by cases e:Fd (pls ts) (K5 m) with| false=>rfl| true=>unfold Fd at e;obtain⟨p,hp,e⟩:=any_eq_true.1 e;obtain⟨j,g⟩:=Hu hp;rw[Ado]at g;obtain⟨t,o,rfl⟩:=Option.map_eq_some_iff.1 g;exact (h t (Bz o) (Axo ((Nw _ _).1 e)).symm).elim
theorem Bcc (r:Dw ts) {t:Ai×Nat} (h:ts[j]? = some t):Fd (pls ts) (K5 t.1)=true/\Iv (pls ts) (K5 t.1) 0=(j:Int):=by
 have s:=Ado ts j;rw[h]at s;have c:(K5 t.1,(j:Int))∈pls ts:=Bz s;refine⟨?_,?_⟩
 .unfold Fd;exact any_eq_true.2 ⟨_,c,(Nw _ _).2 rfl⟩
 .unfold Iv;cases o:(pls ts).find? λp=>K5 t.1==p.1 with
  | none=>rw[find?_eq_none]at o;exact (o _ c ((Nw _ _).2 rfl)).elim
  | some p=>
   have g:=find?_some o;have g:K5 t.1=p.1:=(Nw _ _).1 g;obtain⟨n,b⟩:=Hu (mem_of_find?_eq_some o);rw[Ado]at b;obtain⟨u,e,rfl⟩:=Option.map_eq_some_iff.1 b;have g:=Axo g;show (n:Int)=j;rcases Nat.lt_trichotomy n j with k|k|k
   .exact (pairwise_iff_getElem.1 r n j (Ek e) (Ek h) k (by
     rw[Bq (Ek e)]at e
     rw[Bq (Ek h)]at h
     rw[Eu e,Eu h];exact g.symm)).elim
   .rw[k]
   .exact (pairwise_iff_getElem.1 r j n (Ek h) (Ek e) k (by
     rw[Bq (Ek e)]at e
     rw[Bq (Ek h)]at h
     rw[Eu e,Eu h];exact g)).elim
theorem Axp {α:Type} (f:α->Nat):∀{ts:List (α×Nat)} {j:Nat} {t:α×Nat} (c:Nat),ts[j]? = some t->pv f (ts.set j (t.1,t.2+c))=pv f ts+c*f t.1
 | t' :: ts,0,t,c,h=>by have h:t'=t:=(by simpa using h);subst h;simp only[set_cons_zero,pv,Nat.add_mul];omega
 | t' :: ts,j+1,t,c,h=>by have ih:=Axp f (ts:=ts) (j:=j) (t:=t) c (by simpa using h);simp only[set_cons_succ,pv,ih];omega
 | [],_,_,_,h=>by simp at h
structure Cw (P:Ai->Prop) (ts:List (Ai×Nat)):Prop where
 dst:Dw ts
 mo:∀t∈ts,P t.1
 pos:∀t∈ts,1<=t.2
theorem Cw.nil (P:Ai->Prop):Cw P []:=⟨Pairwise.nil,λ_ h=>(by cases h),λ_ h=>(by cases h)⟩
theorem Dw.set (h:Dw ts) {t:Ai×Nat} (ht:ts[j]? = some t) (b:u.1=t.1):Dw (ts.set j u):=by
 have e:∀l:List (Ai×Nat),Dw l↔(l.map (·.1)).Pairwise (·≠·):=λl=>by unfold Dw;rw[pairwise_map]
 rw[e]at h ⊢;have:(ts.set j u).map (·.1)=ts.map (·.1):=by
  refine ext_getElem? λn=>?_;rw[getElem?_map,getElem?_map,getElem?_set];by_cases k:j=n
  .subst k;rw[Au rfl,Au (Ek ht),ht];simp[b]
  .rw[Ar k]
 rw[this];exact h
theorem Axq (Y:∀i,P i->Bw i<=1048576/\iR i) (l ts:List (Ai×Nat)) (G:Cw P ts) (X:∀t∈l,P t.1/\1<=t.2) (hN:pv (λ_=>1) ts+pv (λ_=>1) l<Fh) (Z:ts.length+l.length<=1000000000) (data:List Aj) (a b:Int) (c:List Af) : ∃k,Sk (l.map Bd) (pls ts) (ts.map Bd) data a b c=some (pls k,k.map Bd)/\Cw P k/\k.length<=ts.length+l.length/\∀f:Ai->Nat,pv f k=pv f ts+pv f l:=by
 unfold Sk;refine Ab2 (A:=List (Ai×Nat)) (λk=>(pls k,k.map Bd)) ?_;refine Ej (λs=>∃(j:Nat) (u:List (Ai×Nat)),s=((j:Int),pls u,u.map Bd)/\j<=l.length/\Cw P u/\u.length<=ts.length+j/\∀f:Ai->Nat,pv f u=pv f ts+pv f (l.take j)) (λs=>l.length-s.1.toNat) (λz=>∃u,z=(pls u,u.map Bd)/\Cw P u/\u.length<=ts.length+l.length/\∀f:Ai->Nat,pv f u=pv f ts+pv f l) ⟨0,ts,rfl,ω,G,ω,λf=>by simp only[take_zero,pv];omega⟩ ?_ ?_
 .rintro _ ⟨j,u,rfl,hj,p,E,C⟩;rcases Cf j l.length with h|h
  .have T:l[j]? = some l[j]:=Bq h;generalize l[j]=x at T;obtain⟨M,hp⟩:=X x (Bz T);obtain⟨S,R⟩:=Y _ M;have D:(l.map Bd)[j]? = some (Bd x):=(by rw[getElem?_map,T];rfl);have I:pv (λ_=>1) (l.take (j+1))<=pv (λ_=>1) l:=(by have:=Kq (λ_=>1) (l.take (j+1)) (l.drop (j+1));rw[take_append_drop]at this;omega);have q:∀f:Ai->Nat,pv f (l.take (j+1))=pv f (l.take j)+x.2*f x.1:=λf=>by rw[Cz T,Kq];simp only[pv];omega
   have V:=q λ_=>1;have U:=C λ_=>1;have y:((l.map Bd).length:Int)=(l.length:Int):=(by rw[C5]);have o:Abm (Bd x).I []=some (wx x.1):=Bb6 x.1 S R;simp only[y,As (ω:(j:Int)<(l.length:Int)),Ak,Br rfl D,Ad,o,C6 h ω,P8 (By.wx x.1)];have W:bs (wx x.1)=K5 x.1:=rfl;rw[W];left;by_cases r:∃t∈u,t.1=x.1
   .obtain⟨t,F,N⟩:=r;obtain⟨i,H⟩:=Hu F;obtain⟨g1,g2⟩:=Bcc p.dst H;rw[N]at g1 g2;have J:(u.map Bd)[i]? = some (Bd t):=(by rw[getElem?_map,H];rfl);have tb:=Qa F;have B:Jj (Bd t).C (Bd x).C=some (cR (t.2+x.2)):=Np.add (Np.c ω) (Np.c ω);refine⟨((j+1:Nat),pls (u.set i (t.1,t.2+x.2)),(u.set i (t.1,t.2+x.2)).map Bd),?_,⟨j+1,u.set i (t.1,t.2+x.2),rfl,ω,⟨p.dst.set H rfl,?_,?_⟩,by rw[length_set];omega,λf=>?_⟩,ζ⟩
    .simp only[g1,g2,Ak,Ad,Br rfl J,B,He rfl,Bca (u:=(t.1,t.2+x.2)) H rfl];rw[map_set];rfl
    .intro w o;rcases mem_or_eq_of_mem_set o with o|rfl
     .exact p.mo w o
     .exact p.mo t F
    .intro w o;rcases mem_or_eq_of_mem_set o with o|rfl
     .exact p.pos w o
     .show 1<=t.2+x.2;omega
    .rw[Axp f x.2 H,C f,q f,N];omega
   .have g:=Bcb (m:=x.1) (ts:=u) λt F e=>r ⟨t,F,e⟩;have L:Xs (K5 x.1)=some (K5 x.1):=(by unfold Xs;rw[Bb8,Ap]);refine⟨((j+1:Nat),pls (u++[x]),(u++[x]).map Bd),?_,⟨j+1,u++[x],rfl,ω,⟨?_,?_,?_⟩,ζ,λf=>?_⟩,ζ⟩
    .simp only[g,Ap,Ad,L];rw[Dl (by rw[C5,length_singleton];omega),Ad,Am9 _ _ _ g,Bb9,map_append,C5];rfl
    .refine pairwise_append.2 ⟨p.dst,pairwise_singleton _ _,λa ha b W=>?_⟩;simp only[D5]at W;subst W;exact λe=>r ⟨a,ha,e⟩
    .intro w o;rcases En.1 o with o|o
     .exact p.mo w o
     .simp only[D5]at o;subst o;exact M
    .intro w o;rcases En.1 o with o|o
     .exact p.pos w o
     .simp only[D5]at o;subst o;exact hp
    .rw[Kq,C f,q f];simp only[pv];omega
  .have:j=l.length:=ω;subst this;rw[Db]at C;have y:((l.map Bd).length:Int)=(l.length:Int):=(by rw[C5]);simp only[y,Aw (ω:¬(l.length:Int)<(l.length:Int)),Ap];exact .inr ⟨_,rfl,u,rfl,p,E,C⟩
 .rintro _ ⟨u,rfl,h1,h2,h3⟩;exact⟨_,rfl,u,rfl,h1,h2,h3⟩
theorem Bcd {B:Nat} (f:B<=1024) {gr:Int->Option (List α)} (hg:∀n:Nat,n<=1000000->gr (n:Int)=some []) (ls:List (List α)) (g:ls.length<=1000) (h:ls.flatten.length<=1000000):Ah2 B gr ls=some ls.flatten:=by
 have b:∀{j x},ls[j]? = some x->(ls.take (j+1)).flatten=(ls.take j).flatten++x:=λ{j x} e=>by rw[Cz e,flatten_append];simp
 have c:∀j,(ls.take j).flatten.length<=1000000:=λj=>by have:ls.flatten=(ls.take j).flatten++(ls.drop j).flatten:=(by rw[<-flatten_append,take_append_drop]);rw[this,Ew]at h;omega
 unfold Ah2;refine Gd ls (λj=>(((ls.take j).flatten.length:Int),(j:Int))) rfl ω ?_ ?_
 .intro j x y e o r s;have p:=c (j+1);rw[b e,Ew]at p;have w:Ac (((ls.take j).flatten.length:Int)+(x.length:Int))=(((ls.take (j+1)).flatten.length:Nat):Int):=(by rw[b e,Ew,Ac,B4] <;> omega);simp only[o,r,s,Ak,Ad,w,Aw (ω:¬(((ls.take (j+1)).flatten.length:Nat):Int)<0),Ap]
 .intro o;refine⟨(((ls.take ls.length).flatten.length:Nat):Int),by simp only[o];rfl,?_⟩;rw[Db,hg _ h,Ad];refine Gd ls (λj=>((j:Int),(ls.take j).flatten)) rfl ω ?_ ?_
  .intro j x y e o r s;have p:=c (j+1);rw[b e,Ew]at p;have:((ls.take j).flatten.length+x.length)*B<=1000000*1024:=Nat.mul_le_mul p f;simp only[o,r,s,Ak,Ad];rw[Dl ω,Ad,b e]
  .intro o;exact⟨ls.flatten,by simp only[o,Db];rfl,rfl⟩
theorem Bce (ls:List (List Ax)) (b:ls.length<=1000) (h:ls.flatten.length<=1000000):Afw ls=some ls.flatten := Bcd (B:=88) δ (gr:=Afz) (λn h=>Aib n h) ls b h
theorem Axr:∀k,Me k=Qv k
 | 0=>by funext i;rfl
 | k+1=>by have ih:=Axr k;funext i;rw[Me,Qv,ih]
theorem An5 {a b:Ai}:Hh a b=0↔a=b:=Ahq.zero a b trivial trivial
theorem Adp (a b:Ai):Hh b a = - Hh a b:=Ahq.anti a b trivial trivial
theorem Axs {a b c:Ai} (h:Hh a b<0) (e:Hh b c<0):Hh a c<0:=Ahq.trans a b c trivial trivial trivial h e
theorem An6:Oe (λt u:Ax=>Hh t.I u.I) where
 irr x:=by
  show ¬Hh x.I x.I<0
  rw[An5.2 rfl];omega
 trs x y z g e:=Axs g e
 ntr x y z g e:=by
  show ¬Hh x.I z.I<0
  have g:¬Hh x.I y.I<0:=g
  have e:¬Hh y.I z.I<0:=e
  intro h
  rcases Int.lt_trichotomy (Hh x.I y.I) 0 with k|k|k
  .exact g k
  .rw[An5.1 k]at h;exact e h
  .exact e (Axs (show Hh y.I x.I<0 by rw[Adp x.I y.I];omega) h)
theorem Axt (a b:Ax) (h:Bw a.I<=1048576):Pp a b=some (Hh a.I b.I):=by unfold Pp;rw[Aua 1048576 4000000 a.I b.I h ω ω];rfl
def An7 (b:List Ax):List Ax:=b.mergeSort λt u=>decide (Hh t.I u.I<=0)
theorem Bcf (f:List Ax) (p:f.Pairwise λt u=>t.I≠u.I):(An7 f).Pairwise λt u=>Hh t.I u.I<0:=by
 have g:=pairwise_mergeSort (le:=λt u:Ax=>decide (Hh t.I u.I<=0)) (λa b c g o=>by
  simp only[Dk]at *
  have:=An6.ntr c b a (by show ¬Hh _ _<0;rw[Adp];omega) (by show ¬Hh _ _<0;rw[Adp];omega)
  have this:¬Hh c.I a.I<0:=this
  rw[Adp]at this;omega) (λa b=>by
  simp only[Bool.or_eq_true,Dk]
  rw[Adp a.I b.I];omega) f
 have o:(An7 f).Pairwise λt u=>t.I≠u.I:=((mergeSort_perm f _).pairwise_iff λ{x y} h=>h.symm).2 p
 refine (g.and o).imp λ{t u} h=>?_
 have a:=of_decide_eq_true h.1
 have b:Hh t.I u.I≠0:=λe=>h.2 (An5.1 e)
 omega
theorem Bcg (b:List Ax) (s:b.Pairwise λt u=>t.I≠u.I) (c:∀t∈b,Bw t.I<=1048576):∃R,Lo b=some R/\R.Perm b:=by
 rcases Cf 12 b.length with h|h
 .have e:Nat.ble b.length 12=false:=(by cases k:Nat.ble b.length 12 with| false=>rfl| true=>have:=Nat.le_of_ble_eq_true k;omega);unfold Lo;rw[e,Ap];obtain⟨r,f,g,A,E,hp,_⟩:=Aq6 (cmp:=Pp) (l:=b) (r:=An7 b) ⟨_,An6,λx o y _=>Axt x y (c x o),mergeSort_perm b _,Bcf b s⟩;exact⟨r,f,hp⟩
 .obtain⟨R,B,p,_⟩:=Ani (cmp:=Pp) An6 b (λx o y _=>Axt x y (c x o)) ω;obtain⟨v,C⟩:=Anb (n:=b.length) ω;refine⟨R,?_,p⟩
  .unfold Lo;rw[Nat.ble_eq_true_of_le h,Ak];unfold Ald;rw[C,Ad];have hp:Abv 0 (b.length:Int) v b=some R:=(by unfold Abv;have e:Af1 0 (b.length:Int) b=Ym Pp 0 (b.length:Int) b:=rfl;have w:Ac ((b.length:Int)-0)=(b.length:Int):=ξ;refine bnd (a:=R) (Ga ?_) rfl;rw[w,As ω,Ak,e,B,Ad,Lj p.length_eq.symm];rfl);rw[hp,Ad,Lj p.length_eq.symm];rfl
def dgi (data:List Aj) (t:Af) (p:Ai×Nat):Nat:=match Dj data p.1 t with|some d=>d|none=>0
def bk (data:List Aj) (t:Af) (L:List (Ai×Nat)) (d:Nat):List (Ai×Nat):=L.filter λp=>dgi data t p==d
theorem Axu {α:Type} (f:α->Nat):∀(n:Nat) (L:List α),(∀x∈L,f x<n)->((range n).flatMap λd=>L.filter λx=>f x==d).Perm L
 | 0,L,h=>by cases L with| nil=>exact Perm.refl _| cons x L=>exact absurd (h x ψ) ω
 | n+1,L,h=>by
  have ih:=Axu f n (L.filter λx=>!(f x==n)) λx o=>by obtain⟨p,r⟩:=mem_filter.1 o;have:=h x p;have:f x≠n:=(by simpa using r);omega
  rw[range_succ,flatMap_append];have e:((range n).flatMap λd=>(L.filter λx=>!(f x==n)).filter λx=>f x==d)=(range n).flatMap λd=>L.filter λx=>f x==d:=by
   have g:∀R:List Nat,(∀d∈R,d<n)->(R.flatMap λd=>(L.filter λx=>!(f x==n)).filter λx=>f x==d)=R.flatMap λd=>L.filter λx=>f x==d:=by
    intro R;induction R with
    | nil=>intro _;rfl
    | cons d R b=>
     intro c;rw[flatMap_cons,flatMap_cons,b λq s=>c q (by simp[s]),filter_filter];congr 1;refine filter_congr λx _=>?_;have:=c d ψ;by_cases e:f x=d
     .have:f x≠n:=ω;simp[e];omega
     .simp[e]
   exact g _ λd w=>mem_range.1 w
  rw[e]at ih;refine (Perm.append_right _ ih).trans ?_;have:=filter_append_perm (λx=>!(f x==n)) L;simp only[Bool.not_not]at this;simpa using this
def i7:Nat->I7
 | 0=>.c0
 | 1=>.c1
 | 2=>.c2
 | 3=>.c3
 | 4=>.c4
 | 5=>.c5
 | _=>.c6
theorem Axv (d:Nat) (h:d<7):Zo (d:Int)=some (i7 d):=by rcases (ω:d=0\/d=1\/d=2\/d=3\/d=4\/d=5\/d=6) with rfl|rfl|rfl|rfl|rfl|rfl|rfl <;> rfl
theorem Bch {x:Ai×Nat} (h:L[j]? = some x) (d:Nat):(bk data t (L.take (j+1)) d).map Bd=(bk data t (L.take j) d).map Bd++(if dgi data t x=d then [Bd x] else []):=by
 unfold bk;rw[Av5 h,map_append];by_cases e:dgi data t x=d
 .simp[e]
 .simp[e]
def Axw (data:List Aj) (t:Af) (i:Ai):Prop:=Bw i<=1048576/\iR i/\∃d,Dj data i t=some d/\d<=6
theorem Axx (T:DSz data) (W:H9 data) (hg:G4 data t=true) (y:Cw (Axw data t) L) (hN:pv (λ_=>1) L<Fh) (X:L.length<=1000000000) : (1000<L.length/\Nr (pls L) (L.map Bd) data t.G t.U t.R=some ([],9))\/(L.length<=1000/\∃R:List (Ai×Nat),Nr (pls L) (L.map Bd) data t.G t.U t.R=some (R.map Bd,0)/\R.Perm L):=by
 have q:∀x∈L,Dj data x.1 t=some (dgi data t x)/\dgi data t x<7:=λx r=>by obtain⟨_,_,d,d1,d2⟩:=y.mo x r;have:dgi data t x=d:=(by unfold dgi;rw[d1]);rw[this];exact⟨d1,ω⟩
 have G:Af.mk t.G t.U t.R=t:=by cases t;rfl
 have V:∀j d,((bk data t (L.take j) d).map Bd).length<=1000000000:=λj d=>by unfold bk;rw[C5];refine Nat.le_trans (length_filter_le _ _) ?_;rw[length_take];omega
 have g:∀d,∃S:List (Ai×Nat),Lo ((bk data t L d).map Bd)=some (S.map Bd)/\S.Perm (bk data t L d):=λd=>by
  have hd:((bk data t L d).map Bd).Pairwise λa b=>a.I≠b.I:=(by rw[pairwise_map];exact Pairwise.sublist filter_sublist y.dst);obtain⟨R,r1,r2⟩:=Bcg ((bk data t L d).map Bd) hd λw F=>by obtain⟨p,hp,rfl⟩:=mem_map.1 F;exact (y.mo p (mem_filter.1 hp).1).1
  obtain⟨S,D,A⟩:∃S:List (Ai×Nat),R=S.map Bd/\S.Perm (bk data t L d):=by
   have H:∀(M:List Ax) (B:List (Ai×Nat)),M.Perm (B.map Bd)->∃S:List (Ai×Nat),M=S.map Bd/\S.Perm B:=by
    intro M;induction M with
    | nil=>intro B h;have h:=h.symm.eq_nil;cases B with| nil=>exact⟨[],rfl,Perm.refl _⟩| cons b B=>simp at h
    | cons w M ih=>intro B h;obtain⟨b,hb,e⟩:=mem_map.1 (h.mem_iff.1 (by simp:w∈w::M));obtain⟨Z,Y,rfl⟩:=append_of_mem hb;have h2:(w::M).Perm (w::(Z++Y).map Bd):=(by refine h.trans ?_;rw[map_append,map_append,map_cons,e];exact perm_middle);obtain⟨S,D,A⟩:=ih (Z++Y) h2.cons_inv;exact⟨b::S,by rw[map_cons,e,D],(A.cons b).trans perm_middle.symm⟩
   exact H R _ r2
  subst D;exact⟨S,r1,A⟩
 obtain⟨S,U⟩:=Classical.axiomOfChoice g;have f:((range 7).flatMap S).Perm L:=by
  have h1:=Axu (dgi data t) 7 L λx r=>(q x r).2;refine Perm.trans ?_ h1;have:∀R:List Nat,(R.flatMap S).Perm (R.flatMap λd=>L.filter λx=>dgi data t x==d):=λR=>by induction R with| nil=>exact Perm.refl _| cons d R ih=>rw[flatMap_cons,flatMap_cons];exact (U d).2.append ih
  exact this _
 have o:Nr (pls L) (L.map Bd) data t.G t.U t.R=some (if 1000<L.length then ([],9) else (((range 7).flatMap S).map Bd,0)):=by
  unfold Nr;refine Jn L.length (λj=>((j:Int),(j:Int),(bk data t (L.take j) 0).map Bd,(bk data t (L.take j) 1).map Bd,(bk data t (L.take j) 2).map Bd,(bk data t (L.take j) 3).map Bd,(bk data t (L.take j) 4).map Bd,(bk data t (L.take j) 5).map Bd,(bk data t (L.take j) 6).map Bd)) (by simp[bk]) ?_ ⟨((L.length:Int),(bk data t L 0).map Bd,(bk data t L 1).map Bd,(bk data t L 2).map Bd,(bk data t L 3).map Bd,(bk data t L 4).map Bd,(bk data t L 5).map Bd,(bk data t L 6).map Bd),?_,?_⟩
  .intro j C;have r:L[j]? = some L[j]:=Bq C;generalize L[j]=x at r;have z:=Bz r;obtain⟨g1,g2,g3⟩:=y.mo x z;obtain⟨d1,d2⟩:=q x z;have hp:=y.pos x z;have a1:=Qa z;have E:(L.map Bd)[j]? = some (Bd x):=(by rw[getElem?_map,r];rfl);have i:(((L.map Bd).length:Nat):Int)=(L.length:Int):=(by rw[C5]);have k:Np (Bd x).C x.2:=Np.c ω;have I:I1 (Bd x).C=some 1:=(by rw[k.sign,Ar ω]);have u:Kg (Bd x).C=some (cR x.2):=k.can;have s:Mu data t (Bd x).I=some (dgi data t x:Int):=(by show Mu data t x.1=_;rw[Ahn T W t hg x.1 g1,d1,Q3 ω]);have J:Me 4000000 (Bd x).I=some x.1:=(by rw[Axr];exact Avl 4000000 x.1 ω ω);have N:∀d,B6 88 ((bk data t (L.take j) d).map Bd) [⟨x.1,cR x.2⟩]=some ((bk data t (L.take j) d).map Bd++[⟨x.1,cR x.2⟩]):=λd=>Dl (by have:=V j d;rw[length_singleton];omega);simp only[i,As (ω:(j:Int)<(L.length:Int)),Ak,Br rfl E,Ad,I,show ((1:Int) != 0)=true from rfl,G,s,Axv _ d2,C6 C ω];simp only[Bch r];rcases (ω:dgi data t x=0\/dgi data t x=1\/dgi data t x=2\/dgi data t x=3\/dgi data t x=4\/dgi data t x=5\/dgi data t x=6) with e|e|e|e|e|e|e <;> (simp only[e,i7,J,u,N,Ad];simp[Bd])
  .have i:(((L.map Bd).length:Nat):Int)=(L.length:Int):=(by rw[C5]);simp only[i,Aw (ω:¬(L.length:Int)<(L.length:Int)),Ap,Db]
  .dsimp only;by_cases h:1000<L.length
   .rw[As ω,Ak,Au h]
   .rw[Aw ω,Ap,Ar h];have hB:∀d,Lo ((bk data t L d).map Bd)=some ((S d).map Bd):=λd=>(U d).1;have hG:∀d,F6 (bk data t L d).length ((S d).map Bd)=some ():=λd=>Lj (by have h:((S d).map Bd).length=(S d).length:=ψ;rw[h];exact (U d).2.length_eq.symm);refine Jn 7 (λj=>((j:Int),(if 0<j then (S 0).map Bd else (bk data t L 0).map Bd),(if 1<j then (S 1).map Bd else (bk data t L 1).map Bd),(if 2<j then (S 2).map Bd else (bk data t L 2).map Bd),(if 3<j then (S 3).map Bd else (bk data t L 3).map Bd),(if 4<j then (S 4).map Bd else (bk data t L 4).map Bd),(if 5<j then (S 5).map Bd else (bk data t L 5).map Bd),(if 6<j then (S 6).map Bd else (bk data t L 6).map Bd))) rfl ?_ ⟨((S 0).map Bd,(S 1).map Bd,(S 2).map Bd,(S 3).map Bd,(S 4).map Bd,(S 5).map Bd,(S 6).map Bd),rfl,?_⟩
    .intro j C;have F:Ac ((j:Int)+1)=((j+1:Nat):Int):=C6 (n:=7) C ω;simp only[As (ω:(j:Int)<((7:Nat):Int)),Ak,Axv j C,Ad,F];rcases (ω:j=0\/j=1\/j=2\/j=3\/j=4\/j=5\/j=6) with rfl|rfl|rfl|rfl|rfl|rfl|rfl <;> (dsimp only[i7];simp[hB,hG])
    .have l:([(S 0).map Bd,(S 1).map Bd,(S 2).map Bd,(S 3).map Bd,(S 4).map Bd,(S 5).map Bd,(S 6).map Bd]:List (List Ax)).flatten=((range 7).flatMap S).map Bd:=(by rw[show range 7 = [0,1,2,3,4,5,6] from rfl];simp[map_append]);dsimp only;rw[Bce _ ψ (by rw[l,C5,f.length_eq];omega),l];rfl
 by_cases h:1000<L.length
 .rw[Au h]at o;exact .inl ⟨h,o⟩
 .rw[Ar h]at o;exact .inr ⟨ω,_,o,f⟩
def GI (data:List Aj) (t:Af) (S D:Nat) (i:Ai):Prop:=Bw i<=S/\iR i/\∃d,Dj data i t=some d/\d<=D
theorem GI.mono (h:GI data t S D i) (b:S<=S') (c:D<=D'):GI data t S' D' i:=by obtain⟨h1,h2,d,h3,e⟩:=h;exact⟨ω,h2,d,h3,ω⟩
theorem Cw.imp {Q:Ai->Prop} (h:Cw P L) (hi:∀i,P i->Q i):Cw Q L:=⟨h.dst,λt e=>hi _ (h.mo t e),h.pos⟩
theorem GI.good (b:S<=1048576) (c:D<=6) (h:GI data t S D i):Axw data t i:=h.mono b c
theorem Aim (F:DSz data) (G:H9 data) (hg:G4 data t=true) (b:S<=1048576) (j:D<=6) (g:∀p∈L,GI data t S D p.1/\1<=p.2) (c:pv (λ_=>1) L<Fh) (k:L.length<=2000) : (1000<L.length/\Qu data t (L.map Bd)=some ([],9))\/∃P,Qu data t (L.map Bd)=some (P.map Bd,0)/\Cw (GI data t S D) P/\P.length<=1000/\∀f:Ai->Nat,pv f P=pv f L:=by
 unfold Qu Xg;rw[Aw (by rw[C5];omega),Ap];simp only[Ad];obtain⟨T,s,o,E,r⟩:=Axq (P:=GI data t S D) (λi h=>⟨by have:=h.1;omega,h.2.1⟩) L [] (Cw.nil _) g (by show 0+_<Fh;omega) ζ data t.G t.U t.R;have s:Sk (L.map Bd) [] [] data t.G t.U t.R=some (pls T,T.map Bd):=s;rw[s];simp only[Ad];have r:∀f:Ai->Nat,pv f T=pv f L:=λf=>by rw[r];show 0+_=_;omega
 rcases Axx F G hg (o.imp λi h=>h.good b j) (by rw[r];exact c) (by simp at E;omega) with⟨H,h⟩|⟨w,R,C,e⟩
 .left;exact⟨by simp only[length_nil]at E;omega,by rw[h];rfl⟩
 .right;rw[C];refine⟨R,rfl,⟨(e.pairwise_iff λ{x y} h=>h.symm).2 o.dst,λp hp=>o.mo p (e.mem_iff.1 hp),λp hp=>o.pos p (e.mem_iff.1 hp)⟩,by rw[e.length_eq];exact w,λf=>?_⟩;rw[<-r f];have:∀{A B:List (Ai×Nat)},A.Perm B->pv f A=pv f B:=λ{A B} h=>by induction h with| nil=>rfl| cons x _ ih=>simp only[pv,ih]| swap x y l=>simp only[pv];omega| trans _ _ w C=>rw[w,C]
  exact this e
theorem Ain (x:DSz data) (y:H9 data) (hg:G4 data t=true) (s:S<=1048576) (u:D<=6) (k:∀p∈L,GI data t S D p.1) (l:L.length<=2000):Uw data t (L.map Bd)=some true:=by
 have b:Us data t=some true:=by have f:=hg;simp only[G4,Cv,Dk]at f;obtain⟨q,h,g⟩:=Agp x;have e:q=true:=g.2 y;subst e;unfold Us;rw[h,Xx data t 0 ω];simp only[Ad,Ak];rw[show (Fe data 0 t&&decide (B0 t<=200))=G4 data t from rfl,hg]
 have c:∃i,Abj data t=some (i,true):=by unfold Abj;rw[b,Ad];simp only[Fz,Ap];have f:=hg;simp only[G4,Cv,Dk]at f;obtain⟨i,o,_⟩:=A75 4000000 t ω ω;exact⟨i,by rw[o];rfl⟩
 obtain⟨i,o⟩:=c;unfold Uw;rw[o,Ad];simp only[Ak];have B:Abk (L.map Bd) data t=some false:=by
  unfold Abk Afy;refine bnd (a:= -1) ?_ rfl;refine Gd (L.map Bd) (λj=>(j:Int)) rfl (by rw[C5];omega) ?_ ?_
  .intro j G H A r C E;rw[getElem?_map]at A;obtain⟨w,e,rfl⟩:=Option.map_eq_some_iff.1 A;obtain⟨I,N,d,d1,d2⟩:=k w (Bz e);have:Abl (Bd w) data t=some false:=(by unfold Abl W2;show ((Mu data t w.1).bind λF=>some (decide (F>=0))).bind _=_;rw[Ahn x y t hg w.1 ω,d1,Q3 ω];simp only[Ad];rw[As ω];rfl);simp only[r,C,E,Ak,Ad,this,Ap]
  .intro r;exact⟨_,by simp only[r];rfl,rfl⟩
 rw[B];rfl
theorem Bci {c:Nat} (f:∀p∈L,p.2<Fh) (r:c<Fh) (g:L.length<=1000000):Ux (L.map Bd) (cR c)=some ((L.map λp=>(p.1,p.2*c)).map Bd):=by
 unfold Ux;refine Gd (L.map Bd) (λj=>((j:Int),((L.take j).map λp=>(p.1,p.2*c)).map Bd)) ψ (by rw[C5];omega) ?_ ?_
 .intro j y A h e s x;rw[getElem?_map]at h;obtain⟨w,o,rfl⟩:=Option.map_eq_some_iff.1 h;have b:E6 (Bd w).C (cR c)=some (cR (w.2*c)):=Np.mul (Np.c (f w (Bz o))) (Np.c r);simp only[e,s,x,Ak,Ad,b];rw[Dl (by rw[C5,C5,length_take,length_singleton];omega),Ad,Cz o,map_append,map_append];rfl
 .intro e;refine⟨_,by simp only[e];rfl,?_⟩;rw[C5,Db]
def KM:Nat:=400000
theorem Axy {α:Type} (f:α->Nat) (c:Nat):∀L:List (α×Nat),pv f (L.map λp=>(p.1,p.2*c))=c*pv f L
 | []=>rfl
 | p::L=>by rw[map_cons,pv,Axy f c L,pv,Nat.mul_add];have:p.2*c*f p.1=c*(p.2*f p.1):=(by ac_rfl);show p.2*c*f p.1+_=_;omega
theorem Bcj (f:α->Nat) {A B:List (α×Nat)} (h:A.Perm B):pv f A=pv f B:=by induction h with| nil=>rfl| cons x _ ih=>simp only[pv,ih]| swap x y l=>simp only[pv];omega| trans _ _ e g=>rw[e,g]
def pv2 (data:List Aj) (t:Af) (f:Ai->Nat) (P Q:List (Ai×Nat)):Nat:=pv (λa=>pv (λb=>pv f (Ed data KM t a b)) Q) P
theorem Aio (f:α->Nat) {L:List (α×Nat)} {x:α×Nat} (h:L[j]? = some x):pv f (L.take (j+1))=pv f (L.take j)+x.2*f x.1:=by rw[Cz h,Kq];simp only[pv];omega
theorem Axz (f:α->Nat) (L:List (α×Nat)) (j:Nat):pv f (L.take j)<=pv f L:=by have:=Kq f (L.take j) (L.drop j);rw[take_append_drop]at this;omega
theorem Aip {f g:α->Nat} {L:List (α×Nat)} (h:∀p∈L,f p.1<=g p.1):pv f L<=pv g L:=Bbq h
noncomputable def Adq (data:List Aj) (t:Af) (v:Ax) (q:List Ax):Int×List (ByteArray×Int)×List Ax->Option ((Int×List (ByteArray×Int)×List Ax)⊕(Int×List (ByteArray×Int)×List Ax)):=λ(b,j,g)=> bif b<(q.length:Int) then ((Ag q b).bind λf=> (On (4000000) data t v.I f.I).bind λi=> (E6 v.C f.C).bind λh=> (Ux i h).bind λe=> (Sk e j g data t.G t.U t.R).bind λc=> some (.inl ((Ac (b+1)),c.1,c.2))) else (some (.inr (b,j,g)))
theorem Bck (hz:DSz data) (hv:H9 data) (hg:G4 data t=true) (hS:S+S'<=400000) (hD:D+D'<=6) {v:Ai×Nat} (B:GI data t S D v.1) (E:v.2<Fh) (G:1<=v.2) {Q:List (Ai×Nat)} (R:Cw (GI data t S' D') Q) (a8:Q.length<=1000) (aa:pv (λ_=>1) Q<Fh) {g:List (Ai×Nat)} (J:Cw (GI data t (S+S') (D+D')) g) (Y:g.length<=900000000) (hb:pv (λ_=>1) g+729*(v.2*pv (λ_=>1) Q)<Fh) : ∃u,Am (Adq data t (Bd v) (Q.map Bd)) (0,pls g,g.map Bd)=some ((Q.length:Int),pls u,u.map Bd)/\Cw (GI data t (S+S') (D+D')) u/\u.length<=g.length+729*Q.length/\∀f:Ai->Nat,pv f u=pv f g+v.2*pv (λb=>pv f (Ed data KM t v.1 b)) Q:=by
 have y:(((Q.map Bd).length:Nat):Int)=(Q.length:Int):=by rw[C5]
 obtain⟨e,e1,u,rfl,e2,e3,e4⟩:=Kf (step:=Adq data t (Bd v) (Q.map Bd)) (λ(s:Int×List (ByteArray×Int)×List Ax)=>∃(j:Nat) (u:List (Ai×Nat)),s=((j:Int),pls u,u.map Bd)/\j<=Q.length/\Cw (GI data t (S+S') (D+D')) u/\u.length<=g.length+729*j/\∀f:Ai->Nat,pv f u=pv f g+v.2*pv (λb=>pv f (Ed data KM t v.1 b)) (Q.take j)) (λs=>Q.length-s.1.toNat) (λe=>∃u,e=((Q.length:Int),pls u,u.map Bd)/\Cw (GI data t (S+S') (D+D')) u/\u.length<=g.length+729*Q.length/\∀f:Ai->Nat,pv f u=pv f g+v.2*pv (λb=>pv f (Ed data KM t v.1 b)) Q) (by
   rintro _ ⟨j,u,rfl,hj,W,I,k⟩;rcases Cf j Q.length with h|h
   .left;have o:Q[j]? = some Q[j]:=Bq h;generalize Q[j]=w at o;have M:=Bz o;obtain⟨w1,X,U,V,w4⟩:=R.mo w M;have wp:=R.pos w M;have wb:=Qa M;obtain⟨v1,F,dv,H,v4⟩:=B;have A:(Q.map Bd)[j]? = some (Bd w):=(by rw[getElem?_map,o];rfl);have x:On 4000000 data t (Bd v).I (Bd w).I=some ((Ed data KM t v.1 w.1).map Bd):=Bb5 hv.szv hz.sz.short KM t v.1 w.1 4000000 dv U (by unfold KM;omega) (by unfold KM;omega) H V ω (by have:=hg;simp only[G4,Cv,Dk]at this;exact this.2) F X;obtain⟨r,g2⟩:=Re data KM t v.1 w.1 dv U (by unfold KM;omega) H V ω F X;have a6:=Tj (show dv+U<=6 by omega);have Z:(Ed data KM t v.1 w.1).length<=729:=(by have:=Nc λp hp=>(r p hp).pos;omega);have N:E6 (Bd v).C (Bd w).C=some (cR (v.2*w.2)):=Np.mul (Np.c E) (Np.c ω);have a7:v.2*w.2<=v.2*pv (λ_=>1) Q:=Nat.mul_le_mul_left _ wb;have L:Ux ((Ed data KM t v.1 w.1).map Bd) (cR (v.2*w.2))=some (((Ed data KM t v.1 w.1).map λp=>(p.1,p.2*(v.2*w.2))).map Bd):=Bci (λp hp=>by have:=Qa hp;have:(1000:Nat)<Fh:=(by unfold Fh;decide);omega) ω ω;have l:∀f:Ai->Nat,pv f ((Ed data KM t v.1 w.1).map λp=>(p.1,p.2*(v.2*w.2)))=v.2*w.2*pv f (Ed data KM t v.1 w.1):=λf=>Axy f _ _;have z:pv (λ_=>1) u+pv (λ_=>1) ((Ed data KM t v.1 w.1).map λp=>(p.1,p.2*(v.2*w.2)))<Fh:=(by rw[l,k];have k0:pv (λb=>pv (λ_=>1) (Ed data KM t v.1 b)) (Q.take (j+1))<=729*pv (λ_=>1) Q:=(by refine Nat.le_trans (Axz _ Q (j+1)) ?_;rw[<-O1];refine Aip λp hp=>?_;obtain⟨p1,p2,dp,p3,p4⟩:=R.mo p hp;have:=(Re data KM t v.1 p.1 dv dp (by unfold KM;omega) H p3 ω F p2).2;have:=Tj (show dv+dp<=6 by omega);omega);have k1:=Aio (λb=>pv (λ_=>1) (Ed data KM t v.1 b)) o;have k2:=Nat.mul_le_mul_left v.2 k0;rw[k1,Nat.mul_add]at k2;have k3:v.2*(729*pv (λ_=>1) Q)=729*(v.2*pv (λ_=>1) Q):=(by ac_rfl);have k4:v.2*(w.2*pv (λ_=>1) (Ed data KM t v.1 w.1))=v.2*w.2*pv (λ_=>1) (Ed data KM t v.1 w.1):=(by ac_rfl);omega);obtain⟨T,a1,a2,a3,a4⟩:=Axq (P:=GI data t (S+S') (D+D')) (λi h=>⟨by have:=h.1;omega,h.2.1⟩) ((Ed data KM t v.1 w.1).map λp=>(p.1,p.2*(v.2*w.2))) u W (λp hp=>by obtain⟨q,C,rfl⟩:=mem_map.1 hp;obtain⟨d,d1,d2⟩:=(r q C).deg;refine⟨⟨by have:=(r q C).siz;show Bw q.1<=_;omega,(r q C).num,d,d1,ω⟩,?_⟩;exact Nat.mul_pos (r q C).pos (Nat.mul_pos G wp)) z (by rw[C5];omega) data t.G t.U t.R;refine⟨((j+1:Nat),pls T,T.map Bd),?_,⟨j+1,T,rfl,ω,a2,by rw[C5]at a3;omega,λf=>?_⟩,ζ⟩
    .unfold Adq;simp only[y,As (ω:(j:Int)<(Q.length:Int)),Ak,Br rfl A,Ad,x,N,L,a1,C6 h ω]
    .rw[a4,k,l,Aio _ o,Nat.mul_add];have:v.2*(w.2*pv f (Ed data KM t v.1 w.1))=v.2*w.2*pv f (Ed data KM t v.1 w.1):=(by ac_rfl);omega
   .right;have:j=Q.length:=ω;subst this;rw[Db]at k;exact⟨_,by unfold Adq;simp only[y,Aw (ω:¬(Q.length:Int)<(Q.length:Int)),Ap],u,rfl,W,I,k⟩)
  (0,pls g,g.map Bd) ⟨0,g,rfl,ω,J,ω,λf=>by rw[take_zero];show _=_+v.2*0;omega⟩;exact⟨u,e1,e2,e3,e4⟩
theorem Ax0:(729:Nat)<Fh:=by unfold Fh;decide
noncomputable def Adr (data:List Aj) (t:Af) (p q:List Ax):Int×List (ByteArray×Int)×List Ax->Option ((Int×List (ByteArray×Int)×List Ax)⊕(List (ByteArray×Int)×List Ax)):=λ(e,c,b)=> bif e<(p.length:Int) then ((Ag p e).bind λh=> (Am (Adq data t h q) (0,c,b)).bind λ(_,g,f)=> some (.inl ((Ac (e+1)),g,f))) else (some (.inr (c,b)))
theorem Bcl (C:DSz data) (F:H9 data) (hg:G4 data t=true) (hS:S+S'<=400000) (hD:D+D'<=6) (hL:∀p∈L,GI data t S D p.1/\1<=p.2) (Z:∀p∈M,GI data t S' D' p.1/\1<=p.2) (V:L.length<=2000) (U:M.length<=2000) (ae:L≠[]) (ad:M≠[]) (hN:729*(pv (λ_=>1) L*pv (λ_=>1) M)<Fh) : (1000<729*(pv (λ_=>1) L*pv (λ_=>1) M)/\Mx data t (L.map Bd) (M.map Bd)=some ([],9))\/∃R,Mx data t (L.map Bd) (M.map Bd)=some (R.map Bd,0)/\Cw (GI data t (S+S') (D+D')) R/\R.length<=1000/\∀f:Ai->Nat,pv f R=pv2 data t f L M:=by
 have n1:1<=pv (λ_=>1) L:=by have o:=Nc λp hp=>(hL p hp).2;cases L with| nil=>exact (ae rfl).elim| cons a l=>simp at o;omega
 have n2:1<=pv (λ_=>1) M:=by have o:=Nc λp hp=>(Z p hp).2;cases M with| nil=>exact (ad rfl).elim| cons a l=>simp at o;omega
 have m1:pv (λ_=>1) L<=pv (λ_=>1) L*pv (λ_=>1) M:=Nat.le_mul_of_pos_right _ n2;have m2:pv (λ_=>1) M<=pv (λ_=>1) L*pv (λ_=>1) M:=Nat.le_mul_of_pos_left _ n1;unfold Mx;rw[Ain C F hg (show S<=1048576 by omega) (show D<=6 by omega) (λp hp=>(hL p hp).1) V,Ain C F hg (show S'<=1048576 by omega) (show D'<=6 by omega) (λp hp=>(Z p hp).1) U];simp only[Ad,Fz,Ap];rcases Aim C F hg (show S<=1048576 by omega) (show D<=6 by omega) hL ω V with⟨hb,h⟩|⟨P,p1,Y,p3,p5⟩
 .left;exact⟨by have:=Nc λp hp=>(hL p hp).2;omega,by rw[h];rfl⟩
 .rw[p1];simp only[Ad,show ((0:Int) != 0)=false from rfl,Ap];rcases Aim C F hg (show S'<=1048576 by omega) (show D'<=6 by omega) Z ω U with⟨hb,h⟩|⟨Q,q1,q2,q3,q5⟩
  .left;exact⟨by have:=Nc λp hp=>(Z p hp).2;omega,by rw[h];rfl⟩
  .rw[q1];simp only[Ad,show ((0:Int) != 0)=false from rfl,Ap];have ac:P.length≠0:=λe=>by have:P = []:=Fr.1 e;have h:=p5 λ_=>1;rw[this]at h;have h:0=pv (λ_=>1) L:=h;omega
   have ab:Q.length≠0:=λe=>by have:Q = []:=Fr.1 e;have h:=q5 λ_=>1;rw[this]at h;have h:0=pv (λ_=>1) M:=h;omega
   have wP:Ac (((P.map Bd).length:Int)-1)=((P.length-1:Nat):Int):=(by rw[C5,Ac,B4] <;> omega);have wQ:Ac (((Q.map Bd).length:Int)-1)=((Q.length-1:Nat):Int):=(by rw[C5,Ac,B4] <;> omega);have q:∀{R:List (Ai×Nat)} {S D:Nat},S<=1048576->D<=6->Cw (GI data t S D) R->R.length≠0->∃(w:Ax) (d:Nat),(R.map Bd)[R.length-1]? = some w/\Mu data t w.I=some (d:Int)/\d<=D:=λ{R S D} o H W h4=>by have r:R[R.length-1]? = some (R[R.length-1]' ω):=Bq _;generalize R[R.length-1]'_=x at r;obtain⟨g1,g2,d,g3,g4⟩:=W.mo x (Bz r);refine⟨Bd x,d,by rw[getElem?_map,r];rfl,?_,g4⟩;show Mu data t x.1=_;rw[Ahn C F t hg x.1 ω,g3,Q3 ω]
   obtain⟨a,da,a1,a2,a3⟩:=q (show S<=1048576 by omega) ω Y ac;obtain⟨b,db,b1,b2,b3⟩:=q (show S'<=1048576 by omega) ω q2 ab;have a6:Ac ((da:Int)+(db:Int))=(da:Int)+(db:Int):=ξ;have lP:(((P.map Bd).length:Nat):Int)=(P.length:Int):=(by rw[C5]);rw[Cu (by rw[C5];omega),Cu (by rw[C5];omega)];simp only[Ap,Ad,wP,wQ,Br rfl a1,Br rfl b1,a2,b2,a6];rw[Aw ω,Ap];unfold Xg;simp only[Ad];have I:pv (λ_=>1) Q=pv (λ_=>1) M:=q5 _;have N:pv (λ_=>1) P=pv (λ_=>1) L:=p5 _;have z:∀j,729*(pv (λ_=>1) (P.take j)*pv (λ_=>1) Q)<Fh:=λj=>by have o:=Axz (λ_=>1) P j;have H:=Nat.mul_le_mul_right (pv (λ_=>1) Q) o;rw[N]at H;rw[I]at H ⊢;omega
   have E:∀a,GI data t S D a->pv (λb=>pv (λ_=>1) (Ed data KM t a b)) Q<=729*pv (λ_=>1) Q:=λa ha=>by rw[<-O1];refine Aip λp hp=>?_;obtain⟨x1,x2,dp,x3,x4⟩:=q2.mo p hp;obtain⟨v1,v2,dv,v3,v4⟩:=ha;have:=(Re data KM t a p.1 dv dp (by unfold KM;omega) v3 x3 ω v2 x2).2;have:=Tj (show dv+dp<=6 by omega);omega
   have s:∀j,pv2 data t (λ_=>1) (P.take j) Q<=729*(pv (λ_=>1) (P.take j)*pv (λ_=>1) Q):=λj=>by
    unfold pv2;have o:pv (λa=>pv (λb=>pv (λ_=>1) (Ed data KM t a b)) Q) (P.take j)<=pv (λa=>729*pv (λ_=>1) Q*1) (P.take j):=Aip λp hp=>by rw[Nat.mul_one];exact E p.1 (Y.mo p (mem_of_mem_take hp))
    rw[O1]at o;refine Nat.le_trans o (Nat.le_of_eq ?_)
    ac_rfl
   have B:∃T:List (Ai×Nat),Cw (GI data t (S+S') (D+D')) T/\T.length<=900000000/\(∀f:Ai->Nat,pv f T=pv2 data t f P Q)/\∀{X:Type} {J:List (ByteArray×Int)×List Ax->Option X} {x:X},J (pls T,T.map Bd)=some x->(Am (Adr data t (P.map Bd) (Q.map Bd)) (0,[],[])).bind J=some x:=by
    have G:∀j,j<=P.length->∃u:List (Ai×Nat),Cw (GI data t (S+S') (D+D')) u/\u.length<=729*Q.length*j/\(∀f:Ai->Nat,pv f u=pv2 data t f (P.take j) Q)/\∀{X:Type} {J:List (ByteArray×Int)×List Ax->Option X},(Am (Adr data t (P.map Bd) (Q.map Bd)) (0,[],[])).bind J=(Am (Adr data t (P.map Bd) (Q.map Bd)) ((j:Int),pls u,u.map Bd)).bind J:=by
     intro j;induction j with
     | zero=>intro _;exact⟨[],Cw.nil _,ψ,λf=>by rw[take_zero];rfl,λ{X J}=>rfl⟩
     | succ j ih=>
      intro hj;obtain⟨u,u1,u2,u3,u4⟩:=ih ω;have r:P[j]? = some (P[j]' ω):=Bq _;generalize P[j]'_=v at r;have hm:=Bz r;have a7:(P.map Bd)[j]? = some (Bd v):=(by rw[getElem?_map,r];rfl);have ah:=Qa hm;have af:=Aio (λ_=>1) r;have b3:=z (j+1);have b4:=s j;rw[af,Nat.add_mul,Nat.mul_one]at b3;have ag:=u3 λ_=>1;have a8:729*Q.length*j<=729*1000*1000:=Nat.mul_le_mul ω ω;obtain⟨T,t1,t2,t3,t4⟩:=Bck C F hg hS hD (Y.mo v hm) ω (Y.pos v hm) q2 q3 ω u1 ω ω;refine⟨T,t2,by rw[Nat.mul_succ];omega,λf=>?_,λ{X J}=>?_⟩
      .rw[t4,u3];unfold pv2;rw[Aio _ r]
      .rw[u4,Lm (s':=(((j+1:Nat):Int),pls T,T.map Bd))];unfold Adr;simp only[lP,As (ω:(j:Int)<(P.length:Int)),Ak,Br rfl a7,Ad,t1,C6 (show j<P.length by omega) ω]
    obtain⟨T,t1,t2,t3,t4⟩:=G P.length (Nat.le_refl _);rw[Db]at t3;have a8:729*Q.length*P.length<=729*1000*1000:=Nat.mul_le_mul ω ω;refine⟨T,t1,ω,t3,λ{X J x} hJ=>?_⟩;rw[t4,Ga (e:=(pls T,T.map Bd)) (by unfold Adr;simp only[lP,Aw (ω:¬(P.length:Int)<(P.length:Int)),Ap])];exact hJ
   obtain⟨T,t1,t2,t3,t4⟩:=B;have aa:pv (λ_=>1) T<Fh:=(by rw[t3];have o:=s P.length;rw[Db]at o;have H:=z P.length;rw[Db]at H;omega);have A:∀f:Ai->Nat,pv2 data t f P Q=pv2 data t f L M:=λf=>by unfold pv2;rw[p5];congr 1;funext a;exact q5 _
   rcases Axx C F hg (t1.imp λi h=>h.good ω ω) aa ω with⟨hb,h⟩|⟨o,R,H,W⟩
   .left;refine⟨by have g1:=Nc λp hp=>t1.pos p hp;have g2:=t3 λ_=>1;have g3:=s P.length;rw[Db,N,I]at g3;omega,?_⟩;exact t4 (J:=λ(k,g)=>(Nr k g data t.G t.U t.R).bind λc=>some (c.1,c.2)) (by show (Nr (pls T) (T.map Bd) data t.G t.U t.R).bind _=_;rw[h];rfl)
   .right;refine⟨R,t4 (J:=λ(k,g)=>(Nr k g data t.G t.U t.R).bind λc=>some (c.1,c.2)) (by show (Nr (pls T) (T.map Bd) data t.G t.U t.R).bind _=_;rw[H];rfl),⟨(W.pairwise_iff λ{x y} h=>h.symm).2 t1.dst,λp hp=>t1.mo p (W.mem_iff.1 hp),λp hp=>t1.pos p (W.mem_iff.1 hp)⟩,by rw[W.length_eq];exact o,λf=>?_⟩;rw[Bcj f W,t3,A]
def Rf (data:List Aj) (t:Af):List Ai->(Ai->Nat)->Ai->Nat
 | [],f,a=>f a
 | r::e,f,a=>pv (Rf data t e f) (Ed data KM t a r)
theorem An8 (data:List Aj) (t:Af) (r:Ai) (f:Ai->Nat):∀(c:List Ai) (a:Ai),Rf data t (c++[r]) f a=Rf data t c (λb=>pv f (Ed data KM t b r)) a
 | [],a=>rfl
 | q::c,a=>by show pv (Rf data t (c++[r]) f) (Ed data KM t a q)=pv (Rf data t c λb=>pv f (Ed data KM t b r)) (Ed data KM t a q);exact Rb λp _=>An8 data t r f c p.1
def dgo (data:List Aj) (t:Af) (i:Ai):Nat:=match Dj data i t with|some d=>d|none=>0
def Eh (data:List Aj) (t:Af) (is:List Ai):Nat:=(is.map (dgo data t)).sum
theorem Bcm (data:List Aj) (t:Af) (is:List Ai) (r:Ai):Eh data t (is++[r])=Eh data t is+dgo data t r:=by unfold Eh;simp
structure GG (data:List Aj) (t:Af) (is:List Ai):Prop where
 num:∀i∈is,iR i
 deg:∀i∈is,Dj data i t=some (dgo data t i)
 siz:Ci is<=400000
 sum:Eh data t is<=6
 len:is.length<=6
def An9 (data:List Aj) (t:Af) (f:Ai->Nat):Prop:=∀i j a b,Bw i<=KM->Dj data i t=some a->Dj data j t=some b->a+b<=6->iR i->iR j->pv f (Ed data KM t i j)=f i*f j
theorem Bcn (data:List Aj) (t:Af) {w:Az} (h:Hi data w t=true):An9 data t λi=>bv data i t w:=λi j a b e g o _ _ _=>Bbv KM t i j w a b e g o h
theorem Ax1 {data:List Aj} {t:Af} {f:Ai->Nat} (o:An9 data t f):∀(b:List Ai) (a:Ai),GG data t (a::b)->Rf data t b f a=f a*D1 (b.map f)
 | [],a,_=>by simp[Rf,D1]
 | r::b,a,h=>by
  have s:=h.siz;have w:=h.sum;have u:=h.len;have z:Eh data t (a::r::b)=dgo data t a+(dgo data t r+Eh data t b):=(by unfold Eh;simp);rw[z]at w;simp only[Ci]at s;simp only[D2]at u;have j:=h.num a ψ;have c:=h.num r ψ;have l:=h.deg a ψ;have k:=h.deg r ψ;obtain⟨A,_⟩:=Re data KM t a r _ _ (by unfold KM;omega) l k ω j c;show pv (Rf data t b f) (Ed data KM t a r)=f a*(f r*D1 (b.map f));rw[Rb (g:=λx=>D1 (b.map f)*f x) λp hp=>by
   have g:=A p hp;obtain⟨d,d1,d2⟩:=g.deg;have q:=g.siz;have y:dgo data t p.1=d:=(by unfold dgo;rw[d1]);have hp:GG data t (p.1::b):=by
    refine⟨λi e=>?_,λi e=>?_,by simp only[Ci];omega,?_,by simp only[D2];omega⟩
    .rcases Gl.1 e with rfl|e
     .exact g.num
     .exact h.num i (by simp[e])
    .rcases Gl.1 e with rfl|e
     .rw[y];exact d1
     .exact h.deg i (by simp[e])
    .have:Eh data t (p.1::b)=dgo data t p.1+Eh data t b:=(by unfold Eh;simp);omega
   rw[Ax1 o b p.1 hp,Nat.mul_comm],O1,o a r _ _ (by unfold KM;omega) l k ω j c]
  ac_rfl
structure PRg (data:List Aj) (t:Af) (i0:Ai) (rs:List Ai) (R:List (Ai×Nat)):Prop where
 cw:Cw (GI data t (Ci (i0::rs)) (Eh data t (i0::rs))) R
 len:R.length<=1000
 val:∀f:Ai->Nat,pv f R=Rf data t rs f i0
 cnt:pv (λ_=>1) R<=3 ^ (Eh data t (i0::rs)*rs.length)
theorem PRg.one (h:GG data t [i]):PRg data t i [] [(i,1)]:=by
 refine⟨⟨pairwise_singleton _ _,λp hp=>?_,λp hp=>?_⟩,ψ,λf=>?_,by simp[pv]⟩
 .simp only[D5]at hp;subst hp;exact⟨by simp[Ci],h.num i ψ,_,h.deg i ψ,by simp[Eh]⟩
 .simp only[D5]at hp;subst hp;exact Nat.le_refl _
 .show 1*f i+0=f i;omega
theorem GG.take {c:Ai} (h:GG data t (c::b)) (j:Nat):GG data t (c::b.take j):=by
 have k:=h.siz;have hd:=h.sum;have q:=h.len;have g:b=b.take j++b.drop j:=(take_append_drop j b).symm;have u:Ci b=Ci (b.take j)+Ci (b.drop j):=by rw[<-Vk,<-g]
 have s:Eh data t b=Eh data t (b.take j)+Eh data t (b.drop j):=by unfold Eh;rw[<-sum_append,<-map_append,<-g]
 have f:∀l,Eh data t (c::l)=dgo data t c+Eh data t l:=λl=>by unfold Eh;simp
 rw[f]at hd;simp only[Ci]at k;simp only[D2]at q;refine⟨λi hi=>?_,λi hi=>?_,by simp only[Ci];omega,by rw[f];omega,by rw[D2,length_take];omega⟩
 .rcases Gl.1 hi with rfl|hi
  .exact h.num _ ψ
  .exact h.num i (by have:=mem_of_mem_take hi;simp[this])
 .rcases Gl.1 hi with rfl|hi
  .exact h.deg _ ψ
  .exact h.deg i (by have:=mem_of_mem_take hi;simp[this])
theorem Bco (e:DSz data) (o:H9 data) (hg:G4 data t=true) (c:S<=1048576) (f:D<=6) (i:∀p∈M,GI data t S D p.1/\1<=p.2) (b:M.length<=2000) (s:pv (λ_=>1) M<Fh) : Mx data t [] (M.map Bd)=some ([],9)\/Mx data t [] (M.map Bd)=some ([],0):=by
 have w:=Ax0;unfold Mx;rw[show Uw data t []=some true from Ain e o hg c f (L:=[]) (λp hp=>by cases hp) ψ,Ain e o hg c f (λp hp=>(i p hp).1) b];simp only[Ad,Fz,Ap];rcases Aim e o hg c f (L:=[]) (λp hp=>by cases hp) (by show 0<Fh;omega) ψ with⟨_,h⟩|⟨P,g,l,z,k⟩
 .have h:Qu data t []=some ([],9):=h;left;rw[h];rfl
 .have g:Qu data t []=some (P.map Bd,0):=g;have q:P = []:=(by have r:=Nc l.pos;rw[k]at r;have r:P.length<=0:=r;exact Fr.1 ω);subst q;rw[g];simp only[Ad,show ((0:Int) != 0)=false from rfl,Ap];rcases Aim e o hg c f i s b with⟨_,h⟩|⟨Q,j,y,x,u⟩
  .left;rw[h];rfl
  .right;rw[j];rfl
theorem PRg.step (hz:DSz data) (hv:H9 data) (hg:G4 data t=true) {r:Ai} (h:PRg data t i b R) (u:GG data t (i::(b++[r]))) : (b≠[]/\Mx data t (R.map Bd) [⟨r,cR 1⟩]=some ([],9))\/∃x,Mx data t (R.map Bd) [⟨r,cR 1⟩]=some (x.map Bd,0)/\PRg data t i (b++[r]) x:=by
 have hs:=u.siz;have hd:=u.sum;have V:=u.len;have I:∀l,Eh data t (i::l)=dgo data t i+Eh data t l:=λl=>by unfold Eh;simp
 have Z:Ci (i::(b++[r]))=Ci (i::b)+Bw r:=by simp only[Ci,Vk];omega
 have Y:Eh data t (i::(b++[r]))=Eh data t (i::b)+dgo data t r:=by rw[I,I,Bcm];omega
 have z:b.length<=4:=by simp only[D2,Ew,length_nil]at V;omega
 have A:=u.num r ψ;have J:=u.deg r ψ;have s:=h.cnt;have B:(3:Nat) ^ (Eh data t (i::b)*b.length)<=3 ^ 24:=Nat.pow_le_pow_right δ (Nat.mul_le_mul (ω:_<=6) z);have X:(729:Nat)*(3 ^ 24*1)<Fh:=by unfold Fh;decide
 have j:pv (λ_:Ai=>1) [(r,1)]=1:=rfl;have G:∀p∈[(r,1)],GI data t (Bw r) (dgo data t r) p.1/\1<=p.2:=λp hp=>by simp only[D5]at hp;subst hp;exact⟨⟨Nat.le_refl _,A,_,J,Nat.le_refl _⟩,Nat.le_refl _⟩
 have k:[(r,1)].map Bd = [⟨r,cR 1⟩]:=rfl;by_cases E:R = []
 .subst E;have y:b≠[]:=λe=>by subst e;have h0:(0:Nat)=1:=h.val λ_=>1;omega
  rcases Bco hz hv hg (S:=Bw r) (D:=dgo data t r) ω ω G ψ (by rw[j];have:=Ax0;omega) with c|c
  .left;rw[<-k];exact⟨y,c⟩
  .right;refine⟨[],by rw[<-k];exact c,⟨Cw.nil _,ψ,λf=>?_,Nat.zero_le _⟩⟩;rw[An8,<-h.val];rfl
 rcases Bcl hz hv hg (S:=Ci (i::b)) (S':=Bw r) (D:=Eh data t (i::b)) (D':=dgo data t r) ω ω (L:=R) (M:=[(r,1)]) (λp hp=>⟨h.cw.mo p hp,h.cw.pos p hp⟩) G (by have:=h.len;omega) ψ E ψ (by rw[j];have:729*(pv (λ_=>1) R*1)<=729*(3 ^ 24*1):=ω;omega) with⟨hb,c⟩|⟨x,c1,c2,c3,c5⟩
 .left;rw[<-k];refine⟨λe=>?_,c⟩;subst e;rw[j]at hb;simp only[length_nil,Nat.mul_zero,Nat.pow_zero]at s;omega
 .right;have q:∀f:Ai->Nat,pv f x=pv (λa=>pv f (Ed data KM t a r)) R:=λf=>by rw[c5];unfold pv2;refine Rb λp hp=>?_;show 1*pv f (Ed data KM t p.1 r)+0=pv f (Ed data KM t p.1 r);omega
  refine⟨x,by rw[<-k];exact c1,⟨by rw[Z,Y];exact c2,c3,λf=>by rw[q,h.val,An8],?_⟩⟩
  .rw[q];have h1:pv (λa=>pv (λ_=>1) (Ed data KM t a r)) R<=pv (λ_=>3 ^ (Eh data t (i::(b++[r])))*1) R:=Aip λp hp=>by obtain⟨o,U,d,N,w⟩:=h.cw.mo p hp;have g:=(Re data KM t p.1 r d _ (by unfold KM;omega) N J ω U A).2;rw[Nat.mul_one];exact Nat.le_trans g (Nat.pow_le_pow_right δ ω)
   rw[O1]at h1;have h2:=Nat.mul_le_mul_left (3 ^ (Eh data t (i::(b++[r])))) s;refine Nat.le_trans h1 (Nat.le_trans h2 ?_);rw[<-Nat.pow_add];refine Nat.pow_le_pow_right δ ?_;rw[Ew,length_singleton,Nat.mul_add,Nat.mul_one,Nat.add_comm];exact Nat.add_le_add_right (Nat.mul_le_mul_right _ ω) _
def fl (v:Int) (is:List Ai):List Bi:=is.map λi=>⟨v,i⟩
def PMg (data:List Aj) (vars:List Af) (res:Af) (b:List (ByteArray×List Ax)):Prop := ∀p∈b,∃(v:Int) (t:Af) (e:Ai) (g:List Ai) (R:List (Ai×Nat)),p.1=bs ((fl v (e::g)).flatMap D9)/\p.2=R.map Bd/\D3 vars res v=some t/\PRg data t e g R
theorem PMg.nil (data:List Aj) (vars:List Af) (res:Af):PMg data vars res []:=λp hp=>by cases hp
theorem Bcp {w:Int} {j:Ai} {l m:List Ai} (h:bs ((fl v (i::l)).flatMap D9)=bs ((fl w (j::m)).flatMap D9)):v=w/\i=j/\l=m:=by
 have g:=Am1 (By.flat By.fac _) (By.flat By.fac _) h;have o:=(Am0 (fl v (i::l)) (fl w (j::m)) [] [] Jx.nil Jx.nil (by rw[append_nil,append_nil];exact g)).1;have p:(⟨v,i⟩:Bi)::fl v l=⟨w,j⟩::fl w m:=o;injection p with a b;injection a with r s;subst r;refine⟨rfl,s,?_⟩;unfold fl at b;have e:∀(l m:List Ai),(l.map λi=>(⟨v,i⟩:Bi))=(m.map λi=>(⟨v,i⟩:Bi))->l=m:=by
  intro l;induction l with
  | nil=>intro m h;cases m with
   | nil=>rfl
   | cons a m=>simp at h
  | cons a l ih=>intro m h;cases m with
   | nil=>simp at h
   | cons b m=>
    simp only[map_cons,List.cons.injEq,Bi.mk.injEq,true_and]at h
    rw[h.1,ih m h.2]
 exact e l m b
noncomputable def Aiq (data:List Aj) (t:Af) (F:List Bi) (b2:List (ByteArray×List Ax)):List Ax×Int->Option ((List Ax×Int)⊕((List Ax×Int×List (ByteArray×List Ax))⊕List Ax)):=λ(c,e)=> bif e<(F.length:Int) then ((Ag F e).bind λg=> (Mx data t c [(Ax.mk g.I (cR 1))]).bind λb=> bif (b.2 != (0:Int)) then (some (.inr (.inl ([],b.2,b2)))) else (some (.inl (b.1,(Ac (e+1)))))) else (some (.inr (.inr c)))
theorem Bcq (p:DSz data) (w:H9 data) (hg:G4 data t=true) {f:Ai} (u:GG data t (f::b)) (b2:List (ByteArray×List Ax)) : ∃z,Am (Aiq data t (fl v b) b2) ([⟨f,cR 1⟩],0)=some z/\((2<=b.length/\z = .inl ([],9,b2))\/∃R:List (Ai×Nat),z = .inr (R.map Bd)/\PRg data t f b R):=by
 have l:=u.len;simp only[D2]at l;have g:((fl v b).length:Int)=(b.length:Int):=by unfold fl;rw[C5]
 obtain⟨e,y,x⟩:=Kf (step:=Aiq data t (fl v b) b2) (λ(s:List Ax×Int)=>∃(j:Nat) (R:List (Ai×Nat)),s=(R.map Bd,(j:Int))/\j<=b.length/\PRg data t f (b.take j) R) (λs=>b.length-s.2.toNat) (λz=>(2<=b.length/\z=(.inl ([],9,b2):((List Ax×Int×List (ByteArray×List Ax))⊕List Ax)))\/∃R:List (Ai×Nat),z = .inr (R.map Bd)/\PRg data t f b R) (by
   rintro _ ⟨j,R,rfl,F,q⟩;rcases Cf j b.length with h|h
   .have o:b[j]? = some b[j]:=Bq h;generalize b[j]=r at o;have k:(fl v b)[j]? = some ⟨v,r⟩:=(by unfold fl;rw[getElem?_map,o];rfl);have i:=u.take (j+1);rw[Cz o]at i;unfold Aiq;simp only[g,As (ω:(j:Int)<(b.length:Int)),Ak,Br rfl k,Ad];rcases q.step p w hg i with⟨B,c⟩|⟨A,C,E⟩
    .right;refine⟨_,by rw[c];rfl,.inl ⟨?_,rfl⟩⟩;have:(b.take j).length≠0:=λe=>B (Fr.1 e);rw[length_take]at this;omega
    .left;refine⟨_,by rw[C];rfl,⟨j+1,A,by rw[C6 h ω],ω,by rw[Cz o];exact E⟩,?_⟩;rw[C6 h ω];show b.length-((j+1:Nat):Int).toNat<b.length-(j:Int).toNat;omega
   .right;have:j=b.length:=ω;subst this;rw[Db]at q;exact⟨_,by unfold Aiq;simp only[g,Aw (ω:¬(b.length:Int)<(b.length:Int)),Ap],.inr ⟨R,rfl,q⟩⟩)
  ([⟨f,cR 1⟩],0) ⟨0,[(f,1)],rfl,ω,by rw[take_zero];exact PRg.one (by have:=u.take 0;rwa [take_zero]at this)⟩;exact⟨e,y,x⟩
theorem Bcr (hz:DSz data) (hv:H9 data) (hg:G4 data t=true) (ht:D3 vars res v=some t) (I:Ee v) {c:Ai} {g:List Ai} (L:GG data t (c::g)) (b1:List (ByteArray×Int)) {b2:List (ByteArray×List Ax)} (T:PMg data vars res b2) : ∃l e Z,Sc (fl v (c::g)) b1 b2 data vars res.G res.U res.R=some (l,e,Z)/\PMg data vars res Z/\((e=9/\l = []/\2<=g.length)\/(e=0/\∃R:List (Ai×Nat),l=R.map Bd/\PRg data t c g R)):=by
 have hs:=L.siz;have a6:=L.len;simp only[D2]at a6;have y:∀i∈c::g,Bw i<=1048576:=λi o=>by have:=Km o;omega
 have D:∀i∈c::g,(D9 ⟨v,i⟩).length<=33554432:=λi o=>Ah0 (y i o) ⟨L.num i o,I⟩;have a7:∀j,((fl v (c::g.take j)).flatMap D9).length<=6*33554432:=λj=>by
  refine Nat.le_trans (Am7 (n:=33554432) _ λa ha=>?_) (Nat.mul_le_mul_right _ ?_)
  .unfold fl at ha;obtain⟨i,o,rfl⟩:=mem_map.1 ha;refine D i ?_;rcases Gl.1 o with rfl|o
   .simp
   .have:=mem_of_mem_take o;simp[this]
  .unfold fl;rw[C5,D2,length_take];omega
 have q:Ag (fl v (c::g)) 0=some ⟨v,c⟩:=rfl;have B:Mw v c=some (bs (D9 ⟨v,c⟩)):=Ag3 v c I (L.num c ψ) (y c ψ);have s:Kh (bs (D9 ⟨v,c⟩)) []=some (((D9 ⟨v,c⟩).length:Int),D9 ⟨v,c⟩):=by have:=Vs (b:=[]) (By.fac ⟨v,c⟩) (by have:=D c ψ;simp;omega);rw[nil_append]at this;exact this
 have w1:Ac (0+1)=1:=by rw[Ac,B4] <;> omega
 have h:∀{X:Type} {J:List Int->Option X} {x:Option X},J ((fl v (c::g)).flatMap D9)=x->(Am (S:=(Int×List Int)) (E:=(List Int)) (λ(C,N)=> bif C<((fl v (c::g)).length:Int) then ((Ag (fl v (c::g)) C).bind λM=> (Mw M.v M.I).bind λa0=> (Hx a0 N).bind λa2=> some (.inl ((Ac (C+1)),a2.2))) else (some (.inr N))
  ) (1,D9 ⟨v,c⟩)).bind J=x:=λ{X J x} hJ=>by
  refine bnd (a:=(fl v (c::g)).flatMap D9) ?_ hJ;rw[<-Option.bind_fun_some (Am _ _)];have Y:fl v (c::g)=⟨v,c⟩::fl v g:=rfl;rw[Y];refine Ac1 (⟨v,c⟩:Bi) (fl v g) (λj=>(((j+1:Nat):Int),(fl v (c::g.take j)).flatMap D9)) (by simp[fl]) (by unfold fl;rw[C5];omega) ?_ ?_
  .intro j f r F h2 h3;have a8:∃i,g[j]? = some i/\f=⟨v,i⟩:=(by unfold fl at r;rw[getElem?_map]at r;obtain⟨i,F,h2⟩:=Option.map_eq_some_iff.1 r;exact⟨i,F,h2.symm⟩);obtain⟨i,o,rfl⟩:=a8;have A:i∈c::g:=(by have:=Bz o;simp[this]);have hk:=a7 j;have aa:=D i A;have e1:Mw v i=some (bs (D9 ⟨v,i⟩)):=Ag3 v i I (L.num i A) (y i A);have e2:Hx (bs (D9 ⟨v,i⟩)) ((fl v (c::g.take j)).flatMap D9)=some (((D9 ⟨v,i⟩).length:Int),(fl v (c::g.take j)).flatMap D9++D9 ⟨v,i⟩):=N1 (By.fac _) ω;simp only[F,h2,h3,Ak,Ad,e1,e2];have:fl v (c::g.take (j+1))=fl v (c::g.take j)++[⟨v,i⟩]:=(by unfold fl;rw[Cz o];simp);rw[this,flatMap_append];simp
  .intro F;have V:(fl v g).length=g.length:=(by unfold fl;rw[C5]);refine⟨(fl v (c::g)).flatMap D9,?_,rfl⟩;rw[V]at F ⊢;simp only[Db,F,Ap]
 have G:By ((fl v (c::g)).flatMap D9):=By.flat By.fac _;have a1:Nat.beq (bs ((fl v (c::g)).flatMap D9)).size 0=false:=by rw[Yi];have:(fl v (c::g)).flatMap D9=118::((ti v++58::wx c)++(fl v g).flatMap D9):=rfl;rw[this];rfl
 have U:Ln v b1 b2 data vars res.G res.U res.R=some t:=Ack b1 b2 data vars res ht;have k:F5 (fl v (c::g)) 1 ((fl v (c::g)).length:Int)=some (fl v g):=An2 ⟨v,c⟩ (fl v g);have u:decide ((0:Int)<((fl v (c::g)).length:Int))=true:=As (by unfold fl;rw[C5,D2];omega);cases H:Fd b2 (bs ((fl v (c::g)).flatMap D9)) with
 | true=>have a3:∃R:List (Ai×Nat),Iv b2 (bs ((fl v (c::g)).flatMap D9)) []=R.map Bd/\PRg data t c g R:=(by unfold Iv;unfold Fd at H;cases r:b2.find? λp=>bs ((fl v (c::g)).flatMap D9)==p.1 with| none=>rw[find?_eq_none]at r;obtain⟨p,hp,e⟩:=any_eq_true.1 H;exact (r p hp e).elim| some p=>obtain⟨w,t',j0,ss,R,g1,g2,g3,g4⟩:=T p (mem_of_find?_eq_some r);have e:=find?_some r;have e:bs ((fl v (c::g)).flatMap D9)=p.1:=(Nw _ _).1 e;rw[g1]at e;obtain⟨rfl,rfl,rfl⟩:=Bcp e;rw[ht]at g3;cases g3;exact⟨R,g2,g4⟩);obtain⟨R,r1,W⟩:=a3;refine⟨R.map Bd,0,b2,?_,T,.inr ⟨rfl,R,rfl,W⟩⟩;unfold Sc;rw[u,Ak,q,Ad,B,Ad,s,Ad,w1];refine h ?_;rw[P8 G,Ad,H,Ak,r1];rfl
 | false=>
  obtain⟨z,z1,z2⟩:=Bcq hz hv hg (v:=v) L b2;rcases z2 with⟨hb,rfl⟩|⟨R,rfl,W⟩
  .refine⟨[],9,b2,?_,T,.inl ⟨rfl,rfl,hb⟩⟩;unfold Sc;rw[u,Ak,q,Ad,B,Ad,s,Ad,w1];refine h ?_;rw[P8 G,Ad,H,Ap,Ad];dsimp only;rw[Ap,Ad,U,Ad,Ad,Ml,Ad,k,Ad];exact bnd z1 rfl
  .refine⟨R.map Bd,0,Gy b2 (bs ((fl v (c::g)).flatMap D9)) (R.map Bd),?_,λp hp=>?_,.inr ⟨rfl,R,rfl,W⟩⟩
   .unfold Sc;rw[u,Ak,q,Ad,B,Ad,s,Ad,w1];refine h ?_;rw[P8 G,Ad,H,Ap,Ad];dsimp only;rw[Ap,Ad,U,Ad,Ad,Ml,Ad,k,Ad];refine bnd z1 ?_;unfold Xs;dsimp only;rw[a1,Ap,Ad]
   .rcases Amb _ _ _ p hp with hp|rfl
    .exact T p hp
    .exact⟨v,t,c,g,R,rfl,rfl,ht,W⟩
abbrev Hm:=(List Bi×Rat)×Ent
inductive Fv (K:Nat):List An->List Hm->Prop
 | nil:Fv K [] []
 | cons {t:An} {b:Hm} {ts:List An} {bs:List Hm}:t.M=⟨b.1.1,b.2.1⟩->rq t.C=b.1.2*(b.2.2:Rat)->RB K t.C->b.1.1.length<=1000->Fv K ts bs->Fv K (t::ts) (b::bs)
theorem Fv.len {ts:List An} {bs:List Hm} (h:Fv K ts bs):ts.length=bs.length:=by induction h with| nil=>rfl| cons _ _ _ _ _ ih=>simp[ih]
theorem Fv.app {ts c:List An} {bs cs:List Hm} (h:Fv K ts bs) (h':Fv K c cs):Fv K (ts++c) (bs++cs):=by induction h with| nil=>exact h'| cons a b d e _ ih=>exact .cons a b d e ih
theorem Fv.mono {c:Nat} {ts:List An} {bs:List Hm} (h:Fv K ts bs) (hk:K<=c):Fv c ts bs:=by induction h with| nil=>exact .nil| cons a b d e _ ih=>exact .cons a b (d.mono hk) e ih
theorem Fv.get {ts:List An} {bs:List Hm} (h:Fv K ts bs):∀{j:Nat} {t:An},ts[j]? = some t->∃b,bs[j]? = some b/\t.M=⟨b.1.1,b.2.1⟩/\rq t.C=b.1.2*(b.2.2:Rat)/\RB K t.C/\b.1.1.length<=1000:=by
 induction h with
 | nil=>intro j t h;simp at h
 | @cons t b ts bs g o p r _ ih=>intro j u e;cases j with| zero=>simp only[getElem?_cons_zero,Option.some.injEq]at e;subst e;exact⟨b,rfl,g,o,p,r⟩| succ j=>simp only[getElem?_cons_succ]at e;simpa using ih e
theorem Fv.mem {ts:List An} {bs:List Hm} (h:Fv K ts bs) {t:An} (ht:t∈ts):∃b∈bs,t.M=⟨b.1.1,b.2.1⟩/\rq t.C=b.1.2*(b.2.2:Rat)/\RB K t.C:=by obtain⟨j,e⟩:=Hu ht;obtain⟨b,g,o,f,c,_⟩:=h.get e;exact⟨b,Bz g,o,f,c⟩
def Tk (l:Bg) (k c:Nat) (b:Hm):Hm:=(b.1,(b.2.1++atO l k,b.2.2*c))
def K6 (B:List Hm) (l:Bg) (f:Nat->Nat) (n:Nat):List Hm:=(range n).flatMap λk=>if f k=0 then [] else B.map (Tk l k (f k))
theorem Air (B:List Hm) (l:Bg) (f:Nat->Nat) (n:Nat):K6 B l f (n+1)=K6 B l f n++(if f n=0 then [] else B.map (Tk l n (f n))):=by unfold K6;rw[range_succ,flatMap_append];simp
theorem Ax2 (B:List Hm) (l:Bg) (f:Nat->Nat) (n:Nat):(K6 B l f n).length<=n*B.length:=by induction n with| zero=>simp[K6]| succ n ih=>rw[Air,Ew,Nat.add_mul,Nat.one_mul];have:(if f n=0 then ([]:List Hm) else B.map (Tk l n (f n))).length<=B.length:=(by split <;> simp);omega
theorem Bcs {M:Nat} {c o:List An} {B:List Hm} {l:Bg} {f:Nat} {x:Ao} (y:Fv K c B) (r:rq x=(f:Rat)) (i:RB 200 x) (S:K<30000000000) (R:∀b∈B,b.2.1.length<=M) (N:M<=1000) (C:o.length+c.length<=1000000000) :
  ∃T,Am (Adf c l (k:Int) x) (0,o)=some ((c.length:Int),o++T)/\Fv (K+202) T (B.map (Tk l k f)):=by
 obtain⟨e,X,T,V,U⟩:=Kf (step:=Adf c l (k:Int) x) (λs=>∃(j:Nat) (T:List An),s=((j:Int),o++T)/\j<=c.length/\T.length=j/\Fv (K+202) T ((B.take j).map (Tk l k f))) (λs=>c.length-s.1.toNat)
  (λe=>∃T,e=((c.length:Int),o++T)/\Fv (K+202) T (B.map (Tk l k f))) (by
  rintro _ ⟨j,T,rfl,H,L,q⟩
  rcases Cf j c.length with h|h
  .left
   have g:c[j]? = some c[j]:=Bq h
   generalize c[j]=t at g
   obtain⟨b,p,w,Z,Y,z⟩:=y.get g
   have J:=R b (Bz p)
   have:=Aw4 l k
   obtain⟨u,I,G,E,D⟩:=Baw (F:=⟨b.1.1,z⟩) (A:=b.2.1) (B:=atO l k) w ω S Y i
   refine⟨_,?_,⟨j+1,T++[u],rfl,ω,by simp[L],?_⟩,ζ⟩
   .unfold Adf
    simp only[As (ω:(j:Int)<(c.length:Int)),Ak,Br rfl g,Ad,Bav,I,C6 h ω]
    rw[Dl ζ,Ad,append_assoc]
   .rw[Cz p,map_append]
    refine q.app (.cons G ?_ D z .nil)
    rw[E,Z,r]
    show _=b.1.2*((b.2.2*f:Nat):Rat)
    rw[Rat.natCast_mul];grind
  .have:j=c.length:=ω
   subst this
   right
   rw[y.len,Db]at q
   exact⟨_,by unfold Adf;simp only[Aw (ω:¬(c.length:Int)<(c.length:Int)),Ap],T,rfl,q⟩) (0,o) ⟨0,[],ψ,ω,rfl,by simpa using Fv.nil⟩
 exact⟨T,by rw[<-V];exact X,U⟩
theorem Bct {M:Nat} {g:List An} {B:List Hm} {l:Bg} {f:Nat->Nat} (z:Fv K g B) (r:∀k,k<n->f k<Fh) (L:K<30000000000) (J:∀b∈B,b.2.1.length<=M) (y:M<=1000) (X:n<=1000) (Y:g.length<=1000000) :
  ∃T,Am (Aie g l (Ls n f)) (0,[])=some ((n:Int),T)/\Fv (K+202) T (K6 B l f n):=by
 obtain⟨e,V,T,S,R⟩:=Kf (step:=Aie g l (Ls n f)) (λs=>∃(j:Nat) (T:List An),s=((j:Int),T)/\j<=n/\Fv (K+202) T (K6 B l f j)) (λs=>n-s.1.toNat)
  (λe=>∃T,e=((n:Int),T)/\Fv (K+202) T (K6 B l f n)) (by
  rintro _ ⟨j,T,rfl,w,q⟩
  unfold Aie
  rw[Na]
  rcases Cf j n with h|h
  .left
   have D:=Ax2 B l f j
   have I:=q.len
   have N:=z.len
   have A:j*B.length<=1000*1000000:=Nat.mul_le_mul ω ω
   have x:j*B.length+B.length<=1000*B.length:=by
    have:(j+1)*B.length<=1000*B.length:=Nat.mul_le_mul_right _ ω
    rw[Nat.add_mul]at this;omega
   have i:=r j h
   simp only[As (ω:(j:Int)<(n:Int)),Ak,Br rfl (Nb f h),Ad,(Np.c i).sign,C6 h ω]
   by_cases p:f j=0
   .refine⟨_,by rw[Au p];rfl,⟨j+1,T,rfl,ω,?_⟩,ζ⟩
    rw[Air,Au p,append_nil];exact q
   .have u:RB 200 (cR (f j)):=(Np.c i).rb
    obtain⟨U,G,E⟩:=Bcs (o:=T) (l:=l) (k:=j) (f:=f j) z (Vz (f j)) u L J y ω
    refine⟨_,by rw[Ar p,G];rfl,⟨j+1,T++U,rfl,ω,?_⟩,ζ⟩
    rw[Air,Ar p]
    exact q.app E
  .have:j=n:=ω
   subst this
   right
   exact⟨_,by simp only[Aw (ω:¬(j:Int)<(j:Int)),Ap],T,rfl,q⟩) (0,[]) ⟨0,[],rfl,ω,.nil⟩
 exact⟨T,by rw[<-S];exact V,R⟩
def Rg (B:List Hm):List Grp->List Hm
 | []=>B
 | q::e=>Rg (K6 B q.1 q.2.2 (q.2.1+1)) e
theorem Ax3 {B:List Hm} {l:Bg} {f:Nat->Nat} {b:Hm} (hb:b∈K6 B l f n):∃g∈B,b.1=g.1/\b.2∈I5 [g.2] l f n:=by
 unfold K6 at hb;rw[mem_flatMap]at hb;obtain⟨k,c,e⟩:=hb;split at e
 .cases e
 .rename_i h;obtain⟨d,o,rfl⟩:=mem_map.1 e;refine⟨d,o,rfl,?_⟩;unfold I5;rw[mem_flatMap];exact⟨k,c,by rw[Ar h];exact mem_map.2 ⟨d.2,ψ,rfl⟩⟩
theorem Ax4:∀(f:List Grp) {B C:List Ent},(∀b∈B,b∈C)->∀b∈N2 B f,b∈N2 C f
 | [],B,C,h,b,e=>h b e
 | q::f,B,C,h,b,e=>by
  refine Ax4 f (B:=I5 B q.1 q.2.2 (q.2.1+1)) (λc o=>?_) b e;unfold I5 at o ⊢;rw[mem_flatMap]at o ⊢;obtain⟨k,i,g⟩:=o;refine⟨k,i,?_⟩;split at g
  .cases g
  .rename_i p;rw[Ar p];obtain⟨d,d1,d2⟩:=mem_map.1 g;exact mem_map.2 ⟨d,h d d1,d2⟩
theorem Aoa:∀(f:List Grp) {B:List Hm} {b:Hm},b∈Rg B f->∃h∈B,b.1=h.1/\b.2∈N2 [h.2] f
 | [],B,b,o=>⟨b,o,rfl,by simp[N2]⟩
 | q::f,B,b,o=>by obtain⟨c,p,r,s⟩:=Aoa f o;obtain⟨d,d1,d2,d3⟩:=Ax3 p;refine⟨d,d1,r.trans d2,?_⟩;exact Ax4 f (λe g=>by simp only[D5]at g;rw[g];exact d3) b.2 s
theorem Bcu {B:List Hm} {l:Bg} {f:Nat->Nat} {M:Nat} (h:∀b∈B,b.2.1.length<=M):∀b∈K6 B l f n,b.2.1.length<=M+1:=by intro b o;obtain⟨g,p,_,r⟩:=Ax3 o;exact Bbp (B:=[g.2]) (λc e=>by simp only[D5]at e;rw[e];exact h g p) b.2 r
theorem Bcv:∀(n:Nat) (rest:List Bh) (i:List An) (B:List Hm) (K M:Nat),rest.length<=n->Ade rest->Atk rest->Fv K i B->(∀b∈B,b.2.1.length<=M)->M+rest.length<=1000->K+202*rest.length<30000000000->B.length*2 ^ Dn rest<=1000000 -> ∃o g,Am Adh (i,rest)=some g/\Gs o rest/\Fv (K+202*rest.length) g (Rg B o)/\g.length<=B.length*2 ^ Dn rest:=by
 intro n;induction n with
 | zero=>intro rest i B K M H _ _ z _ _ _ _;have:rest = []:=Fr.1 ω;subst this;exact⟨[],i,Ga (by unfold Adh;simp),.nil,by simpa[Rg] using z,by rw[z.len];simp[Dn]⟩
 | succ n ih=>
  intro rest i B K M H r L z C ad hK A;cases c:rest with
  | nil=>exact⟨[],i,Ga (by unfold Adh;simp),.nil,by simpa[Rg] using z.mono ω,by rw[z.len];simp[Dn]⟩
  | cons a W=>
   rw[<-c];have w:rest[0]? = some a:=(by rw[c];rfl);have aa:0<rest.length:=Ek w;have hT:∀b∈rest,b.L.T.length<1099511627776:=λb e=>by have:=(V2 (L.lin b e)).1;omega
   have ae:=L.len;obtain⟨m,m1,m2,m3,F,m5⟩:=Bbn w hT ω;have s:rest=rest.take m++rest.drop m:=(take_append_drop m rest).symm;have J:=(s ▸ L:Atk (rest.take m++rest.drop m)).sub;have x:rest.take m≠[]:=(by intro h;have:=congrArg length h;rw[length_take]at this;simp only[length_nil]at this;omega);obtain⟨N,f,p1,p2,p3,p4⟩:=Bbm J.1 x F;have Y:Dn rest=Dn (rest.take m)+Dn (rest.drop m):=(by rw[<-Tg,take_append_drop]);have ab:=L.sum;have S:2 ^ Dn rest=2 ^ Dn (rest.take m)*2 ^ Dn (rest.drop m):=(by rw[Y,Nat.pow_add]);have a8:B.length<=1000000:=Nat.le_trans (Nat.le_mul_of_pos_right _ (Nat.pow_pos δ)) A;obtain⟨T,t1,t2⟩:=Bct (l:=a.L) (n:=N+1) z p4 ω C ω ω (by rw[z.len];exact a8);have y:Adh (i,rest)=some (.inl (T,rest.drop m)):=(by have X:Ag rest 0=some a:=Br (n:=0) rfl w;have R:F5 rest (m:Int) (rest.length:Int)=some (rest.drop m):=(by unfold F5;simp[drop_take];omega);unfold Adh;simp only[As (ω:(rest.length:Int)>0),Ak,X,Ad,m1,Xv rfl m3,p1,t1,R]);have ac:(rest.drop m).length+m=rest.length:=(by rw[length_drop];omega);have a7:=Ax2 B a.L f (N+1);have I:(N+1)*B.length<=B.length*2 ^ Dn (rest.take m):=(by rw[Nat.mul_comm];refine Nat.mul_le_mul_left _ (Nat.le_trans (Bbo N) (Nat.pow_le_pow_right δ p3)));have u:(K6 B a.L f (N+1)).length*2 ^ Dn (rest.drop m)<=B.length*2 ^ Dn rest:=(by rw[S,<-Nat.mul_assoc];exact Nat.mul_le_mul_right _ (Nat.le_trans a7 I));obtain⟨o,g,g1,g2,g3,g4⟩:=ih (rest.drop m) T (K6 B a.L f (N+1)) (K+202) (M+1) ω (Pairwise.sublist (drop_sublist m rest) r) J.2 t2 (Bcu C) ω ω (Nat.le_trans u A);refine⟨(a.L,N,f)::o,g,by rw[Lm y,g1],?_,g3.mono ω,Nat.le_trans g4 u⟩;have V:∀b∈rest.drop m,Ir a.L b.L<0:=by
    intro b e;cases p:rest.drop m with
    | nil=>rw[p]at e;cases e
    | cons d D=>
     have j:rest[m]? = some d:=(by have:=congrArg (λl=>l[0]?) p;simpa using this);have a1:=m5 d j;have a6:¬Ir d.L a.L<0:=(by have G:=r;rw[c]at G;have Z:d∈W:=(by have U:m=(m-1)+1:=ω;rw[c,U,getElem?_cons_succ]at j;exact Bz j);exact (pairwise_cons.1 G).1 d Z);have q:Ir a.L d.L<0:=by
      rcases Int.lt_trichotomy (Ir d.L a.L) 0 with k|k|k
      .exact (a6 k).elim
      .exact (a1 ((M7.zero _ _ trivial trivial).1 k)).elim
      .rw[M7.anti d.L a.L trivial trivial];omega
     rw[p]at e;rcases Gl.1 e with rfl|e
     .exact q
     .have E:Ade (rest.drop m):=Pairwise.sublist (drop_sublist m rest) r;rw[p]at E;have h3:=(pairwise_cons.1 E).1 b e;rcases Int.lt_trichotomy (Ir b.L d.L) 0 with k|k|k
      .exact (h3 k).elim
      .rw[(M7.zero _ _ trivial trivial).1 k];exact q
      .exact M7.trans a.L d.L b.L trivial trivial trivial q (by rw[M7.anti b.L d.L trivial trivial];omega)
   have:=Gs.cons x F V p2 g2;rwa [take_append_drop]at this
def Kb (data:List Aj) (t:Af) (v:Int) (i:Ai):List Bi:=if dgo data t i=0 then [] else [⟨v,i⟩]
abbrev N3:=List Bi×Nat
def K7 (c:Rat) (p:N3):Hm:=((p.1,c),([],p.2))
def Yy (data:List Aj) (t:Af) (v:Int) (p:N3) (w:Ai×Nat):N3:=(p.1++Kb data t v w.1,p.2*w.2)
def upF (data:List Aj) (t:Af) (v:Int) (R:List (Ai×Nat)) (b:List N3):List N3:=b.flatMap λp=>R.map (Yy data t v p)
theorem Bcw (o:Ox data vars res) {b1:List (ByteArray×Int)} (b2:List (ByteArray×List Ax)) (k:E4 data vars res b1) (ht:D3 vars res v=some t) (g:Ee v) (q:S<=1048576) (s:D<=6) (p:GI data t S D i) : ∃b,Uk v i b1 b2 data vars res.G res.U res.R=some (Kb data t v i,b)/\E4 data vars res b:=by
 obtain⟨w,r,d,e,x⟩:=p;obtain⟨b,j,l⟩:=Ag7 (b2:=b2) o k ⟨v,i⟩ g r (by show Bw i<=_;omega) (by show (D3 vars res v).isSome=true;rw[ht];rfl);have c:Eg data vars res ⟨v,i⟩=(d:Int):=by unfold Eg;rw[ht];show Ju (Dj data i t)=_;rw[e,Q3 ω]
 have f:dgo data t i=d:=by unfold dgo;rw[e]
 refine⟨b,?_,l⟩;unfold Uk Kb;have j:Nq v i b1 b2 data vars res.G res.U res.R=some (Eg data vars res ⟨v,i⟩,b):=j;rw[j,Ad,c,f];by_cases h:d=0
 .rw[Au h,h];rfl
 .rw[Ar h];have:((d:Int)==0)=false:=Cu ω;simp only[this,Ap]
theorem Bcx {u:An} {F fs:List Bi} (f:u.M=⟨F,[]⟩) (h:F.length+fs.length<=1000) (g:K<30000000000) (e:RB K u.C) (b:n<Fh) : ∃w,Ok u (cR n) ⟨fs,[]⟩=some w/\w.M=⟨F++fs,[]⟩/\rq w.C=rq u.C*(n:Rat)/\RB (K+202) w.C:=by obtain⟨c,o,p,_,r⟩:=Tb e (Np.c b).rb ω ω;refine⟨⟨c,⟨F++fs,[]⟩⟩,?_,rfl,by rw[r,Vz],p⟩;unfold Ok;rw[o,Ad,f,Aic _ _ (by show F.length+fs.length<=_;omega) ψ];rfl
theorem Bcy (data:List Aj) (t:Af) (v:Int) (i:Ai):(Kb data t v i).length<=1:=by unfold Kb;split <;> simp
noncomputable def Ads (data:List Aj) (vars:List Af) (res:Af) (b2:List (ByteArray×List Ax)) (v:Int) (R:List Ax) (u:An):Int×List (ByteArray×Int)×List An->Option ((Int×List (ByteArray×Int)×List An)⊕(Int×List (ByteArray×Int)×List An)):=λ(b,g,f)=> bif b<(R.length:Int) then ((Ag R b).bind λe=> (Uk v e.I g b2 data vars res.G res.U res.R).bind λc=> (Ok u e.C (A7.mk c.1 [])).bind λo=> (B6 104 f [o]).bind λh=> some (.inl ((Ac (b+1)),c.2,h))) else (some (.inr (b,g,f)))
noncomputable def Adt (data:List Aj) (vars:List Af) (res:Af) (b2:List (ByteArray×List Ax)) (v:Int) (R:List Ax) (ts:List An):Int×List (ByteArray×Int)×List An->Option ((Int×List (ByteArray×Int)×List An)⊕(Int×List (ByteArray×Int)×List An)):=λ(b,f,c)=> bif b<(ts.length:Int) then ((Ag ts b).bind λe=> (Am (Ads data vars res b2 v R e) (0,f,c)).bind λ(_,h,g)=> some (.inl ((Ac (b+1)),h,g))) else (some (.inr (b,f,c)))
theorem Bcz (C:Ox data vars res) (b2:List (ByteArray×List Ax)) (ht:D3 vars res v=some t) (B:Ee v) (X:S<=1048576) (F:D<=6) (Z:∀w∈R,GI data t S D w.1/\w.2<Fh) (Y:R.length<=1000) {u:An} {p:N3} {c:Rat} (H:K<30000000000) (W:u.M=⟨p.1,[]⟩) (A:rq u.C=c*(p.2:Rat)) (z:RB K u.C) (N:p.1.length<=900) {k:List (ByteArray×Int)} (U:E4 data vars res k) (o:List An) (ho:o.length<=100000000) :
  ∃(f:List (ByteArray×Int)) (T:List An),Am (Ads data vars res b2 v (R.map Bd) u) (0,k,o)=some ((R.length:Int),f,o++T)/\E4 data vars res f/\T.length=R.length/\Fv (K+202) T ((R.map (Yy data t v p)).map (K7 c)):=by
 have i:(((R.map Bd).length:Nat):Int)=(R.length:Int):=by rw[C5]
 obtain⟨e,e1,f,T,e2,e3,e4,e5⟩:=Kf (step:=Ads data vars res b2 v (R.map Bd) u) (λ(s:Int×List (ByteArray×Int)×List An)=>∃(j:Nat) (m:List (ByteArray×Int)) (T:List An),s=((j:Int),m,o++T)/\j<=R.length/\E4 data vars res m/\T.length=j/\Fv (K+202) T (((R.take j).map (Yy data t v p)).map (K7 c))) (λs=>R.length-s.1.toNat)
  (λ(e:Int×List (ByteArray×Int)×List An)=>∃(m:List (ByteArray×Int)) (T:List An),e=((R.length:Int),m,o++T)/\E4 data vars res m/\T.length=R.length/\Fv (K+202) T ((R.map (Yy data t v p)).map (K7 c))) (by
  rintro _ ⟨j,m,T,rfl,hj,g,E,b⟩
  rcases Cf j R.length with h|h
  .left
   have r:R[j]? = some R[j]:=Bq h
   generalize R[j]=w at r
   obtain⟨I,G⟩:=Z w (Bz r)
   have y:(R.map Bd)[j]? = some (Bd w):=by rw[getElem?_map,r];rfl
   obtain⟨x,f1,f2⟩:=Bcw C b2 g ht B X F I
   have f1:Uk v (Bd w).I m b2 data vars res.G res.U res.R=some (Kb data t v w.1,x):=f1
   have V:=Bcy data t v w.1
   obtain⟨q,l,M,L,J⟩:=Bcx (fs:=Kb data t v w.1) W ω H z G
   have l:Ok u (Bd w).C ⟨Kb data t v w.1,[]⟩=some q:=l
   refine⟨((j+1:Nat),x,o++(T++[q])),?_,⟨j+1,x,T++[q],rfl,ω,f2,by simp[E],?_⟩,ζ⟩
   .unfold Ads
    simp only[i,As (ω:(j:Int)<(R.length:Int)),Ak,Br rfl y,Ad,f1,l,C6 h ω]
    rw[Dl ζ,Ad,append_assoc]
   .rw[Cz r,map_append,map_append]
    refine b.app (.cons M ?_ J (by show (p.1++Kb data t v w.1).length<=1000;rw[Ew];omega) .nil)
    rw[L,A]
    show _=c*((p.2*w.2:Nat):Rat)
    rw[Rat.natCast_mul];grind
  .have:j=R.length:=ω
   subst this
   rw[Db]at b
   exact .inr ⟨_,by unfold Ads;simp only[i,Aw (ω:¬(R.length:Int)<(R.length:Int)),Ap],m,T,rfl,g,E,b⟩) (0,k,o) ⟨0,k,[],ψ,ω,U,rfl,by simpa using Fv.nil⟩
 exact⟨f,T,by rw[<-e2];exact e1,e3,e4,e5⟩
theorem Bc0 (C:Ox data vars res) (b2:List (ByteArray×List Ax)) (ht:D3 vars res v=some t) (A:Ee v) (X:S<=1048576) (F:D<=6) (Y:∀w∈R,GI data t S D w.1/\w.2<Fh) (y:R.length<=1000) {ts:List An} {i:List N3} {c:Rat} (Z:K<30000000000) (k:Fv K ts (i.map (K7 c))) (z:∀p∈i,p.1.length<=900) (hl:i.length*R.length<=90000000) (a1:i.length<=1000000) {q:List (ByteArray×Int)} (M:E4 data vars res q) :
  ∃(g:List (ByteArray×Int)) (T:List An),Am (Adt data vars res b2 v (R.map Bd) ts) (0,q,[])=some ((ts.length:Int),g,T)/\E4 data vars res g/\Fv (K+202) T ((upF data t v R i).map (K7 c)):=by
 have x:ts.length=i.length:=by rw[k.len,C5]
 obtain⟨e,H,g,T,W,e3,e4⟩:=Kf (step:=Adt data vars res b2 v (R.map Bd) ts) (λ(s:Int×List (ByteArray×Int)×List An)=>∃(j:Nat) (m:List (ByteArray×Int)) (T:List An),s=((j:Int),m,T)/\j<=ts.length/\E4 data vars res m/\T.length=j*R.length/\Fv (K+202) T ((upF data t v R (i.take j)).map (K7 c))) (λs=>ts.length-s.1.toNat)
  (λ(e:Int×List (ByteArray×Int)×List An)=>∃(m:List (ByteArray×Int)) (T:List An),e=((ts.length:Int),m,T)/\E4 data vars res m/\Fv (K+202) T ((upF data t v R i).map (K7 c))) (by
  rintro _ ⟨j,m,T,rfl,hj,l,V,f⟩
  rcases Cf j ts.length with h|h
  .left
   have o:ts[j]? = some ts[j]:=Bq h
   generalize ts[j]=u at o
   obtain⟨b,r,B,b3,b4,b5⟩:=k.get o
   rw[getElem?_map]at r
   obtain⟨p,hp,rfl⟩:=Option.map_eq_some_iff.1 r
   have N:j*R.length<=i.length*R.length:=Nat.mul_le_mul_right _ ω
   obtain⟨E,U,L,J,I,G⟩:=Bcz C b2 ht A X F Y y Z B b3 b4 (z p (Bz hp)) l T ω
   refine⟨((j+1:Nat),E,T++U),?_,⟨j+1,E,T++U,rfl,ω,J,by rw[Ew,V,I,Nat.add_mul,Nat.one_mul],?_⟩,ζ⟩
   .unfold Adt
    simp only[As (ω:(j:Int)<(ts.length:Int)),Ak,Br rfl o,Ad,L,C6 h ω]
   .unfold upF at f ⊢
    rw[Axl _ hp,map_append]
    exact f.app G
  .have:j=ts.length:=ω
   subst this
   rw[x,Db]at f
   exact .inr ⟨_,by unfold Adt;simp only[Aw (ω:¬(ts.length:Int)<(ts.length:Int)),Ap],m,T,rfl,l,f⟩) (0,q,[]) ⟨0,q,[],rfl,ω,M,ψ,by simpa[upF] using Fv.nil⟩
 exact⟨g,T,by rw[<-W];exact H,e3,e4⟩
structure N4 (data:List Aj) (vars:List Af) (res:Af) (F:List Bi):Prop where
 fac:∀f∈F,Ee f.v/\iR f.I/\1<=Eg data vars res f
 siz:(F.map λf=>Bw f.I).sum<=400000
 sum:Cx data vars res F<=6
theorem Adu {f:Bi} (h:1<=Eg data vars res f):∃t d,D3 vars res f.v=some t/\Dj data f.I t=some d/\1<=d/\d<=6/\Eg data vars res f=(d:Nat):=by
 unfold Eg at h ⊢;cases e:D3 vars res f.v with
 | none=>rw[e]at h;exact absurd (show (1:Int)<=-1 from h) δ
 | some t=>
  rw[e]at h;rcases Al4 (Dj data f.I t) with⟨g,_⟩|⟨d,g,o,p⟩
  .have h:1<=Ju (Dj data f.I t):=h;omega
  .have h:1<=Ju (Dj data f.I t):=h;exact⟨t,d,rfl,g,ω,o,p⟩
theorem Rh (l m:List Bi):Cx data vars res (l++m)=Cx data vars res l+Cx data vars res m:=by unfold Cx;simp[sum_append]
theorem L3 {data:List Aj} {vars:List Af} {res:Af}:∀{l:List Bi},(∀f∈l,1<=Eg data vars res f)->(l.length:Int)<=Cx data vars res l
 | [],_=>by simp[Cx]
 | f::l,h=>by have o:=h f ψ;have p:=L3 (l:=l) λg e=>h g (by simp[e]);have:Cx data vars res (f::l)=Eg data vars res f+Cx data vars res l:=(by unfold Cx;simp);simp only[D2];omega
theorem N4.app (h:N4 data vars res (l++m)):N4 data vars res l/\N4 data vars res m:=by have h1:=h.siz;have h2:=h.sum;rw[map_append,sum_append]at h1;rw[Rh]at h2;have f1:=L3 (data:=data) (vars:=vars) (res:=res) (l:=l) λf hf=>(h.fac f (by simp[hf])).2.2;have f2:=L3 (data:=data) (vars:=vars) (res:=res) (l:=m) λf hf=>(h.fac f (by simp[hf])).2.2;exact⟨⟨λf hf=>h.fac f (by simp[hf]),ω,ω⟩,⟨λf hf=>h.fac f (by simp[hf]),ω,ω⟩⟩
theorem Bc1 {g:List Bi} (u:g≠[]) (hg:∀f∈g,f.v=v) (c:N4 data vars res g) : ∃t k o,D3 vars res v=some t/\Ee v/\g=fl v (k::o)/\GG data t (k::o)/\Cx data vars res g=(Eh data t (k::o):Nat)/\o.length+1<=Eh data t (k::o):=by
 cases g with
 | nil=>exact (u rfl).elim
 | cons f0 g=>
  have j:=hg f0 ψ;obtain⟨t,d0,r,_⟩:=Adu (c.fac f0 ψ).2.2;rw[j]at r;have x:∀l:List Bi,(∀f∈l,f.v=v)->l=fl v (l.map (·.I)):=(by intro l;induction l with| nil=>intro _;rfl| cons a l ih=>intro h;have F:=h a ψ;have w:=ih λf e=>h f (by simp[e]);show a::l=⟨v,a.I⟩::fl v (l.map (·.I));rw[<-w,<-F]);have C:∀f∈f0::g,Dj data f.I t=some (dgo data t f.I)/\Eg data vars res f=(dgo data t f.I:Nat)/\1<=dgo data t f.I:=λf e=>by obtain⟨t',d,t1,t2,t3,t4,t5⟩:=Adu (c.fac f e).2.2;rw[hg f e,r]at t1;cases t1;have:dgo data t f.I=d:=(by unfold dgo;rw[t2]);rw[this];exact⟨t2,t5,t3⟩
  have y:∀l:List Bi,(∀f∈l,f∈f0::g)->Cx data vars res l=(Eh data t (l.map (·.I)):Nat)/\l.length<=Eh data t (l.map (·.I)):=(by intro l;induction l with| nil=>intro _;exact⟨by simp[Cx,Eh],ψ⟩| cons a l ih=>intro h;obtain⟨_,w,H⟩:=C a (h a ψ);obtain⟨I,N⟩:=ih λf e=>h f (by simp[e]);have G:Cx data vars res (a::l)=Eg data vars res a+Cx data vars res l:=(by unfold Cx;simp);have E:Eh data t ((a::l).map (·.I))=dgo data t a.I+Eh data t (l.map (·.I)):=(by unfold Eh;simp);rw[G,E];simp only[D2];omega);obtain⟨A,z⟩:=y (f0::g) λf e=>e;have B:=c.sum;have s:∀l:List Bi,(l.map λf=>Bw f.I).sum=Ci (l.map (·.I)):=(by intro l;induction l with| nil=>rfl| cons a l ih=>simp only[map_cons,sum_cons,Ci,ih]);have b:=c.siz;rw[s]at b;have q:(f0::g).map (·.I)=f0.I::g.map (·.I):=rfl;rw[q]at A z b;simp only[D2]at z;have D:=x (f0::g) hg;rw[q]at D;refine⟨t,f0.I,g.map (·.I),r,by rw[<-j];exact (c.fac f0 ψ).1,D,⟨λi p=>?_,λi p=>?_,b,ω,by rw[D2,C5];omega⟩,A,by rw[C5];omega⟩
  .rw[<-q]at p;obtain⟨f,e,rfl⟩:=mem_map.1 p;exact (c.fac f e).2.1
  .rw[<-q]at p;obtain⟨f,e,rfl⟩:=mem_map.1 p;exact (C f e).1
def V4 (data:List Aj) (vars:List Af) (res:Af) (χ:Bi->Nat) (P:List Bi):Prop:=∀g∈P,∀t,D3 vars res g.v=some t->An9 data t (λi=>χ ⟨g.v,i⟩)/\∀i,Dj data i t=some 0->iR i->Bw i<=400000->χ ⟨g.v,i⟩=1
structure Ri (data:List Aj) (vars:List Af) (res:Af) (P:List Bi) (FE:List N3):Prop where
 pos:∀p∈FE,1<=p.2
 fac:∀p∈FE,∀f∈p.1,Ee f.v/\iR f.I/\Bw f.I<=(P.map λf=>Bw f.I).sum/\1<=Eg data vars res f/\∃g∈P,g.v=f.v
 asc:∀p∈FE,p.1.Pairwise λa b=>a.v<b.v
 sum:∀p∈FE,Cx data vars res p.1<=Cx data vars res P
 val:∀χ,V4 data vars res χ P->pv (λF=>D1 (F.map χ)) FE=D1 (P.map χ)
 len:FE.length<=10 ^ (Cx data vars res P).toNat
theorem Ri.nil (data:List Aj) (vars:List Af) (res:Af):Ri data vars res [] [([],1)]:=by
 have h:∀p∈[(([]:List Bi),1)],p=([],1):=λp hp=>by simpa using hp
 refine⟨λp hp=>?_,λp hp f hf=>?_,λp hp=>?_,λp hp=>?_,λχ _=>rfl,Nat.le_refl _⟩
 .rw[h p hp];exact Nat.le_refl _
 .rw[h p hp]at hf;cases hf
 .rw[h p hp];exact Pairwise.nil
 .rw[h p hp];exact Int.le_refl _
theorem Adv:∀(l m:List Nat),D1 (l++m)=D1 l*D1 m
 | [],m=>by simp[D1]
 | a::l,m=>by rw[D4,D1,D1,Adv l m,Nat.mul_assoc]
theorem Ax5 {α β:Type} (f:β->Nat) (g:α->β) (c:Nat):∀L:List (α×Nat),pv f (L.map λw=>(g w.1,c*w.2))=c*pv (λx=>f (g x)) L
 | []=>rfl
 | p::L=>by rw[map_cons,pv,Ax5 f g c L,pv,Nat.mul_add,Nat.mul_assoc]
theorem Ri.step {P:List Bi} {y:List N3} (h:Ri data vars res P y) (ht:D3 vars res v=some t) (M:Ee v) {j:Ai} {c:List Ai} (L:GG data t (j::c)) (J:Cx data vars res (fl v (j::c))=(Eh data t (j::c):Nat)) (V:c.length+1<=Eh data t (j::c)) (W:∀f∈P,f.v<v) (a6:0<=Cx data vars res P) (x:PRg data t j c R):Ri data vars res (P++fl v (j::c)) (upF data t v R y):=by
 have hs:=L.siz;have Y:=L.sum;have s:∀q∈upF data t v R y,∃p∈y,∃w∈R,q=Yy data t v p w:=λq r=>by unfold upF at r;obtain⟨p,hp,r⟩:=mem_flatMap.1 r;obtain⟨w,o,rfl⟩:=mem_map.1 r;exact⟨p,hp,w,o,rfl⟩
 have B:∀w∈R,∀f∈Kb data t v w.1,f=⟨v,w.1⟩/\1<=dgo data t w.1:=λw o f hf=>by
  unfold Kb at hf;split at hf
  .cases hf
  .rename_i h0;simp only[D5]at hf;exact⟨hf,ω⟩
 have z:∀w∈R,Dj data w.1 t=some (dgo data t w.1)/\dgo data t w.1<=Eh data t (j::c)/\Eg data vars res ⟨v,w.1⟩=(dgo data t w.1:Nat):=λw o=>by obtain⟨_,_,d,d1,d2⟩:=x.cw.mo w o;have e:dgo data t w.1=d:=(by unfold dgo;rw[d1]);rw[e];refine⟨d1,d2,?_⟩;unfold Eg;rw[ht];show Ju (Dj data w.1 t)=_;rw[d1,Q3 ω]
 have u:((P++fl v (j::c)).map λf=>Bw f.I).sum=(P.map λf=>Bw f.I).sum+Ci (j::c):=by
  rw[map_append,sum_append];congr 1;have C:∀l:List Ai,((fl v l).map λf=>Bw f.I).sum=Ci l:=λl=>by induction l with| nil=>rfl| cons a l ih=>show Bw a+((fl v l).map λf=>Bw f.I).sum=Ci (a::l);rw[ih];simp only[Ci]
  exact C _
 have G:Cx data vars res (P++fl v (j::c))=Cx data vars res P+(Eh data t (j::c):Nat):=by rw[Rh,J]
 have I:(Cx data vars res (P++fl v (j::c))).toNat=(Cx data vars res P).toNat+Eh data t (j::c):=ω;have A:(upF data t v R y).length<=y.length*R.length:=by unfold upF;exact Yx _ _ _ λp _=>by rw[C5];exact Nat.le_refl _
 have Z:R.length<=3 ^ (Eh data t (j::c)*c.length):=Nat.le_trans (Nc x.cw.pos) x.cnt;refine⟨λq r=>?_,λq r f hf=>?_,λq r=>?_,λq r=>?_,λχ S=>?_,?_⟩
 .obtain⟨p,hp,w,o,rfl⟩:=s q r;exact Nat.mul_pos (h.pos p hp) (x.cw.pos w o)
 .obtain⟨p,hp,w,o,rfl⟩:=s q r;rcases En.1 hf with hf|hf
  .obtain⟨a1,a2,a3,a4,g,H,T⟩:=h.fac p hp f hf;exact⟨a1,a2,by rw[u];omega,a4,g,by simp[H],T⟩
  .obtain⟨rfl,h1⟩:=B w o f hf;obtain⟨U,E,_⟩:=x.cw.mo w o;obtain⟨_,_,D⟩:=z w o;exact⟨M,E,by rw[u];show Bw w.1<=_;omega,by rw[D];omega,⟨v,j⟩,by simp[fl],rfl⟩
 .obtain⟨p,hp,w,o,rfl⟩:=s q r;refine pairwise_append.2 ⟨h.asc p hp,?_,λa ha b hb=>?_⟩
  .unfold Kb;split <;> simp
  .obtain⟨rfl,_⟩:=B w o b hb;obtain⟨_,_,_,_,g,H,T⟩:=h.fac p hp a ha;rw[<-T];exact W g H
 .obtain⟨p,hp,w,o,rfl⟩:=s q r;have h1:=h.sum p hp;obtain⟨_,y2,D⟩:=z w o;show Cx data vars res (p.1++Kb data t v w.1)<=_;rw[Rh,G];have:Cx data vars res (Kb data t v w.1)<=(Eh data t (j::c):Nat):=by
   unfold Kb;split
   .show (0:Int)<=_;omega
   .show Eg data vars res ⟨v,w.1⟩+0<=_;rw[D];omega
  omega
 .obtain⟨m1,m2⟩:=S ⟨v,j⟩ (by simp[fl]) t ht;have e1:pv (λF=>D1 (F.map χ)) (upF data t v R y)=pv (λF=>pv (λi=>χ ⟨v,i⟩) R*D1 (F.map χ)) y:=by
   unfold upF;refine Adi _ _ _ _ λp hp=>?_;have e2:R.map (Yy data t v p)=R.map λw=>(p.1++Kb data t v w.1,p.2*w.2):=rfl;rw[e2,Ax5 (λF=>D1 (F.map χ)) (λi=>p.1++Kb data t v i) p.2 R];congr 1;rw[<-Nat.mul_comm (D1 _),<-O1];refine Rb λw o=>?_;show D1 ((p.1++Kb data t v w.1).map χ)=D1 (p.1.map χ)*χ ⟨v,w.1⟩;rw[map_append,Adv];congr 1;obtain⟨U,E,_⟩:=x.cw.mo w o;obtain⟨N,_⟩:=z w o;unfold Kb;split
   .rename_i h0;rw[h0]at N;rw[m2 w.1 N E ω];rfl
   .show χ ⟨v,w.1⟩*1=_;omega
  rw[e1,O1,h.val χ λg hg=>S g (by simp[hg]),x.val,Ax1 m1 c j L,map_append,Adv,Nat.mul_comm];congr 1;show _=χ ⟨v,j⟩*D1 ((fl v c).map χ);unfold fl;rw[map_map];rfl
 .rw[I,Nat.pow_add];refine Nat.le_trans A (Nat.mul_le_mul h.len ?_);have hl:=x.len;rcases Cf (Eh data t (j::c)) 3 with k|k
  .have X:c.length<=1:=ω;have h1:(3:Nat) ^ (Eh data t (j::c)*c.length)<=3 ^ (Eh data t (j::c)):=Nat.pow_le_pow_right δ (by have:=Nat.mul_le_mul_left (Eh data t (j::c)) X;omega);have h2:(3:Nat) ^ (Eh data t (j::c))<=10 ^ (Eh data t (j::c)):=Nat.pow_le_pow_left δ _;omega
  .have h1:(10:Nat) ^ 3<=10 ^ (Eh data t (j::c)):=Nat.pow_le_pow_right δ k;omega
noncomputable def Ais (r:List Bi) (v:Int):Int->Option (Int⊕Int):=λb=> bif b<(r.length:Int) then ((Ag r b).bind λc=> bif (c.v==v) then (some (.inl (Ac (b+1)))) else (some (.inr b))) else (some (.inr b))
theorem Bc2 {r:List Bi} {a:Bi} (h0:r[0]? = some a) (q:r.length<=1000) :
  ∃n:Nat,Am (Ais r a.v) 1=some (n:Int)/\1<=n/\n<=r.length/\(∀b∈r.take n,b.v=a.v)/\∀b,r[n]? = some b->b.v≠a.v:=by
 have p:=Ek h0
 obtain⟨e,l,n,k,i⟩:=Kf (step:=Ais r a.v) (λs=>∃n:Nat,s=(n:Int)/\1<=n/\n<=r.length/\∀b∈r.take n,b.v=a.v) (λs=>r.length-s.toNat)
  (λe=>∃n:Nat,e=(n:Int)/\1<=n/\n<=r.length/\(∀b∈r.take n,b.v=a.v)/\∀b,r[n]? = some b->b.v≠a.v) (by
  rintro _ ⟨j,rfl,g,f,c⟩
  unfold Ais
  rcases Cf j r.length with h|h
  .have w:r[j]? = some r[j]:=Bq h
   generalize r[j]=b at w
   simp only[As (ω:(j:Int)<(r.length:Int)),Ak,Br rfl w,Ad,C6 h ω]
   by_cases y:b.v=a.v
   .left
    rw[Ef y]
    refine⟨_,rfl,⟨j+1,rfl,ω,ω,λd o=>?_⟩,ω⟩
    rw[Cz w]at o
    rcases En.1 o with o|o
    .exact c d o
    .simp only[D5]at o
     rw[o];exact y
   .right
    rw[Cu y]
    exact⟨_,rfl,j,rfl,g,f,c,λd o=>by rw[w]at o;cases o;exact y⟩
  .right
   refine⟨_,by simp only[Aw (ω:¬(j:Int)<(r.length:Int)),Ap],j,rfl,g,f,c,λd o=>?_⟩
   have:=Ek o
   omega) 1 ⟨1,rfl,ω,ω,λb A=>by
    cases r with
    | nil=>simp at p
    | cons x r=>simp at A h0;rw[A,h0]⟩
 exact⟨n,by rw[<-k];exact l,i⟩
noncomputable def Yz (data:List Aj) (vars:List Af) (res:Af):(List An×List Bi×List (ByteArray×Int)×List (ByteArray×List Ax))->Option ((List An×List Bi×List (ByteArray×Int)×List (ByteArray×List Ax))⊕((List An×Int×List (ByteArray×Int)×List (ByteArray×List Ax))⊕(List An×List (ByteArray×Int)×List (ByteArray×List Ax)))):=λ(e,c,f,h)=> bif (c.length:Int)>(0:Int) then ((Ag c 0).bind λo=> (Am (Ais c o.v) 1).bind λg=> (F5 c 0 g).bind λj=> (Sc j f h data vars res.G res.U res.R).bind λb=> bif (b.2.1 != (0:Int)) then (some (.inr (.inl ([],b.2.1,f,b.2.2)))) else ((Am (Adt data vars res b.2.2 o.v b.1 e) (0,f,[])).bind λ(p,l,k)=> (F5 c g c.length).bind λi=> some (.inl (k,i,l,b.2.2)))) else (some (.inr (.inr (e,f,h))))
theorem Ax6 (data:List Aj) (t:Af) (v:Int) (R:List (Ai×Nat)):∀b:List N3,(upF data t v R b).length=b.length*R.length
 | []=>by simp[upF]
 | p::b=>by have ih:=Ax6 data t v R b;unfold upF at ih ⊢;rw[flatMap_cons,Ew,ih,C5,D2,Nat.add_mul];omega
def Tl (l:List Bi):Prop:=∃v:Int,3<=(l.filter λf=>f.v==v).length
theorem Tl.app (h:Tl m):Tl (l++m):=by obtain⟨v,h⟩:=h;exact⟨v,by rw[filter_append,Ew];omega⟩
theorem Tl.perm (hp:l.Perm m) (h:Tl l):Tl m:=by obtain⟨v,h⟩:=h;exact⟨v,by rw[<-(hp.filter _).length_eq];exact h⟩
theorem Ait (h:d<=6):10 ^ d<=1000000:=Nat.le_trans (Nat.pow_le_pow_right δ h) δ
theorem Bc3 (hz:DSz data) (hv:H9 data) (hx:Ox data vars res) (af:∀v t,D3 vars res v=some t->G4 data t=true) {c:Rat}:∀(n:Nat) (rest P:List Bi) (ts:List An) (B:List N3) (K:Nat) (q:List (ByteArray×Int)) (G:List (ByteArray×List Ax)),rest.length<=n->rest.Pairwise (λa b=>a.v<=b.v)->(∀f∈P,∀g∈rest,f.v<g.v)->N4 data vars res (P++rest)->Fv K ts (B.map (K7 c))->Ri data vars res P B->(∀p∈B,p.1.length<=6)->K+202*rest.length<30000000000->E4 data vars res q->PMg data vars res G ->
  ∃z,Am (Yz data vars res) (ts,rest,q,G)=some z/\((∃j s,Tl rest/\z = .inl ([],9,j,s)/\E4 data vars res j/\PMg data vars res s)\/(∃E M j s,z = .inr (E,j,s)/\E4 data vars res j/\PMg data vars res s/\Fv (K+202*rest.length) E (M.map (K7 c))/\Ri data vars res (P++rest) M)):=by
 intro n
 induction n with
 | zero=>
  intro rest P ts B K q G hn _ _ _ F V _ _ k J
  have:rest = []:=Fr.1 ω
  subst this
  exact⟨.inr (ts,q,G),Ga (by unfold Yz;simp),.inr ⟨ts,B,q,G,rfl,k,J,by simpa using F,by rw[append_nil];exact V⟩⟩
 | succ n ih=>
  intro rest P ts B K q G hn W U N F V am hK k J
  cases i:rest with
  | nil=>
   exact⟨.inr (ts,q,G),Ga (by unfold Yz;simp),.inr ⟨ts,B,q,G,rfl,k,J,by simpa using F,by rw[append_nil];exact V⟩⟩
  | cons a r'=>
   rw[<-i]
   have h0:rest[0]? = some a:=by rw[i];rfl
   have ap:0<rest.length:=Ek h0
   have ak:=N.sum
   have a8:=L3 (data:=data) (vars:=vars) (res:=res) (l:=P++rest) λf o=>(N.fac f o).2.2
   rw[Ew]at a8
   obtain⟨m,m1,m2,m3,m4,m5⟩:=Bc2 h0 ω
   have I:rest=rest.take m++rest.drop m:=(take_append_drop m rest).symm
   have Y:rest.take m≠[]:=by
    intro h
    have:=congrArg length h
    rw[length_take]at this
    simp only[length_nil]at this
    omega
   have a7:=N.app.2
   have ao:N4 data vars res (rest.take m):=by
    rw[I]at a7
    exact a7.app.1
   obtain⟨t,i0,C,t1,t2,t3,t4,t5,t6⟩:=Bc1 Y m4 ao
   have aq:=(hx.sz a.v t t1)
   have X:Ag rest 0=some a:=Br (n:=0) rfl h0
   have ac:F5 rest (m:Int) (rest.length:Int)=some (rest.drop m):=by
    unfold F5
    simp[drop_take]
    omega
   have a6:0<=Cx data vars res P:=by
    have:=L3 (data:=data) (vars:=vars) (res:=res) (l:=P) λf o=>(N.fac f (by simp[o])).2.2
    omega
   have aj:(Cx data vars res P).toNat<=6:=by
    have:=L3 (data:=data) (vars:=vars) (res:=res) (l:=rest) λf o=>(N.fac f (by simp[o])).2.2
    rw[Rh]at ak
    omega
   obtain⟨l,e,A,q1,q2,q3⟩:=Bcr hz hv (af a.v t t1) t1 t2 t4 q J
   rw[<-t3]at q1
   have ar:(rest.drop m).length+m=rest.length:=by rw[length_drop];omega
   rcases q3 with⟨rfl,rfl,r⟩|⟨rfl,R,rfl,y⟩
   .refine⟨.inl ([],9,q,A),Ga ?_,.inl ⟨q,A,⟨a.v,?_⟩,rfl,k,q2⟩⟩
    rotate_left
    .rw[<-take_append_drop m rest,filter_append,Ew,filter_eq_self.2 λf o=>by simp[m4 f o],t3]
     unfold fl
     rw[C5,D2];omega
    unfold Yz
    simp only[As (ω:(rest.length:Int)>0),Ak,X,Ad,m1,Xv rfl m3,q1]
    rfl
   .have aa:=V.len
    have ax:=Ait aj
    have ai:=y.len
    have h9:B.length*R.length<=1000000:=by
     have ab:=V.step t1 t2 t4 (by rw[<-t3];exact t5) t6 (λf o=>by
      have:=U f o a (by rw[i];simp)
      exact this) a6 y
     have H:=ab.len
     have h2:=Ax6 data t a.v R B
     rw[h2]at H
     refine Nat.le_trans H (Ait ?_)
     rw[<-t3]
     have e1:Cx data vars res (P++rest.take m)+Cx data vars res (rest.drop m)=Cx data vars res (P++rest):=by rw[Rh,Rh,Int.add_assoc,<-Rh (rest.take m),take_append_drop]
     have e2:=L3 (data:=data) (vars:=vars) (res:=res) (l:=rest.drop m) λf o=>(N.fac f (by have:=mem_of_mem_drop o;simp[this])).2.2
     omega
    have ae:=t4.len
    simp only[D2]at ae
    have ah:∀w∈R,GI data t (Ci (i0::C)) (Eh data t (i0::C)) w.1/\w.2<Fh:=λw hw=>by
     refine⟨y.cw.mo w hw,?_⟩
     have H:=Qa hw
     have h2:=y.cnt
     have h3:(3:Nat) ^ (Eh data t (i0::C)*C.length)<=3 ^ 36:=Nat.pow_le_pow_right δ (Nat.mul_le_mul t4.sum (show C.length<=6 by omega))
     have h4:(3:Nat) ^ 36<Fh:=by unfold Fh;decide
     omega
    obtain⟨j,T,u1,u2,u3⟩:=Bc0 hx A t1 t2 (by have:=t4.siz;omega) t4.sum ah ai ω F (λp hp=>by have:=am p hp;omega) ω ω k
    have S:Yz data vars res (ts,rest,q,G)=some (.inl (T,rest.drop m,j,A)):=by
     unfold Yz
     simp only[As (ω:(rest.length:Int)>0),Ak,X,Ad,m1,Xv rfl m3,q1,show ((0:Int) != 0)=false from rfl,Ap,u1,ac]
    have L:=V.step t1 t2 t4 (by rw[<-t3];exact t5) t6 (λf o=>by
     have:=U f o a (by rw[i];simp)
     exact this) a6 y
    rw[<-t3]at L
    have ad:∀b∈rest.drop m,a.v<b.v:=by
     intro b r
     cases hd:rest.drop m with
     | nil=>rw[hd]at r;cases r
     | cons d D=>
      have u:rest[m]? = some d:=by
       have:=congrArg (λl=>l[0]?) hd
       simpa using this
      have au:=m5 d u
      have av:a.v<=d.v:=by
       have a1:=W
       rw[i]at a1
       have ag:d∈r':=by
        have k:m=(m-1)+1:=ω
        rw[i,k,getElem?_cons_succ]at u
        exact Bz u
       exact (pairwise_cons.1 a1).1 d ag
      have Z:(rest.drop m).Pairwise (λa b=>a.v<=b.v):=Pairwise.sublist (drop_sublist m rest) W
      rw[hd]at r Z
      rcases Gl.1 r with rfl|r
      .omega
      .have:=(pairwise_cons.1 Z).1 b r
       omega
    have x:P++rest.take m++rest.drop m=P++rest:=by rw[append_assoc,take_append_drop]
    obtain⟨z,z1,z2⟩:=ih (rest.drop m) (P++rest.take m) T (upF data t a.v R B) (K+202) j A ω (Pairwise.sublist (drop_sublist m rest) W) (λf o g hg=>by
     rcases En.1 o with o|o
     .exact U f o g (mem_of_mem_drop hg)
     .rw[m4 f o];exact ad g hg) (by rw[x];exact N) u3 L (λp hp=>by
     have H:=L.sum p hp
     have h2:=L3 (data:=data) (vars:=vars) (res:=res) (l:=p.1) λf o=>(L.fac p hp f o).2.2.2.1
     have e1:Cx data vars res (P++rest.take m)+Cx data vars res (rest.drop m)=Cx data vars res (P++rest):=by rw[<-Rh,x]
     have e2:=L3 (data:=data) (vars:=vars) (res:=res) (l:=rest.drop m) λf o=>(N.fac f (by have:=mem_of_mem_drop o;simp[this])).2.2
     omega) ω u2 q2
    rw[x]at z2
    refine⟨z,by rw[Lm S,z1],?_⟩
    rcases z2 with⟨y1,y2,y3,y4⟩|⟨E,M,p1,p2,w1,w2,w3,w4,w5⟩
    .exact .inl ⟨y1,y2,by rw[<-take_append_drop m rest];exact y3.app,y4⟩
    .exact .inr ⟨E,M,p1,p2,w1,w2,w3,w4.mono ω,w5⟩
def IsE (A:List Bh) (B:List Ent):Prop:=∃e b,b.Perm A/\Ade b/\Gs e b/\B=N2 [([],1)] e
end Go.Ab
