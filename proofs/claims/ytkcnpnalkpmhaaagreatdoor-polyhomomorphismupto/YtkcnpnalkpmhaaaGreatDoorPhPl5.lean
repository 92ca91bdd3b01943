/- Plain laws: what the plain functions answer. -/
import Derived.Test.YtkcnpnalkpmhaaaGreatDoorPhPl4
import Derived.Test.YtkcnpnalkpmhaaaGreatDoorPhPl3
open List
namespace Go.Ab
open Go
variable {t:Af} {i:Ai} {P:Ai->Prop} {u:Ai×Nat} {v:Int} {L M ts:List (Ai×Nat)} {R:List (List Ai×Nat)} {b:List Ai} {data:List Ak} {D D' K S S' a j k:Nat} {Q α:Type} {J:List Av->Option Q} {q:Q}
def Bc (p:Ai×Nat):Av:=⟨p.1,cR p.2⟩
def toR (p:List Ai×Nat):It:=⟨p.1,cR p.2⟩
theorem Aw6 {b:Nat} (ha:a<=729) (hb:b<=729):Ec (cR a) (cR b)=some (cR (a*b)):=Amo (K:=3) (Kq ω) (Kq ω) δ δ
theorem Tn {d:Nat} (h:d<=6):3 ^ d<=729:=Nat.le_trans (Nat.pow_le_pow_right δ h) δ
theorem Aw7 {α:Type} (h:Ai) (c:Nat) (f:α->List (List Ai×Nat)):∀L:List α,Fb h c (L.flatMap f)=L.flatMap λr=>Fb h c (f r)
 | []=>rfl
 | r::L=>by have ih:=Aw7 h c f L;unfold Fb at ih ⊢;rw[flatMap_cons,flatMap_cons,map_append,ih]
def J5 (W:List (Ai×Nat)) (r:List Ai×Nat):List (List Ai×Nat):=W.map λw=>(r.1++[w.1],r.2*w.2)
theorem Aw8 (b:Af->Ai->Ai->List (Ai×Nat)) (t:Af) (i j:Ai):∀(ts:List Af) (is c:List Ai),is.length=ts.length->c.length=ts.length -> Ez b (ts++[t]) (is++[i]) (c++[j])=(Ez b ts is c).flatMap (J5 (b t i j))
 | [],[],[],_,_=>by show (b t i j).flatMap (λw=>Fb w.1 w.2 [([],1)])=J5 (b t i j) ([],1)++[];rw[append_nil];unfold J5;induction b t i j with| nil=>rfl| cons w W ih=>rw[flatMap_cons,ih];show [([w.1],w.2*1)]++_=_;rw[Nat.mul_one,map_cons,Nat.one_mul];rfl
 | t0::ts,i0::is,f::c,h1,h2=>by show (b t0 i0 f).flatMap (λw=>Fb w.1 w.2 (Ez b (ts++[t]) (is++[i]) (c++[j])))=((b t0 i0 f).flatMap λw=>Fb w.1 w.2 (Ez b ts is c)).flatMap (J5 (b t i j));rw[Aw8 b t i j ts is c (by simpa using h1) (by simpa using h2),flatMap_assoc];congr 1;funext w;rw[Aw7];unfold Fb;rw[flatMap_map];congr 1;funext r;unfold J5;rw[map_map];congr 1;funext v;show (w.1::(r.1++[v.1]),w.2*(r.2*v.2))=(w.1::r.1++[v.1],w.2*r.2*v.2);rw[Nat.mul_assoc];rfl
 | [],_::_,_,h,_=>by simp at h
 | [],[],_::_,_,h=>by simp at h
 | _::_,[],_,h,_=>by simp at h
 | _::_,_::_,[],_,h=>by simp at h
theorem Aw9 {β:Type} (f:α->List β) {l:List α} {x:α} (h:l[j]? = some x):(l.take (j+1)).flatMap f=(l.take j).flatMap f++f x:=by rw[Da h,flatMap_append];simp
theorem Ahr {α β:Type} (f:α->List β) (n:Nat):∀l:List α,(∀a∈l,(f a).length<=n)->(l.flatMap f).length<=l.length*n
 | [],_=>ψ
 | a::l,h=>by have h1:=h a ψ;have h2:=Ahr f n l λb hb=>h b (by simp[hb]);rw[flatMap_cons,E5,D8,Nat.add_mul];omega
theorem Bak (l:List Ai) (h:l.length<=1048576):Xg l=some ([],l):=by unfold Xg Qk;rw[Ds ζ];rfl
theorem Bal {c:Af->Ai->Ai->List (Ai×Nat)} (hg:Acq data k c) (X:∀t i j a b,Ca i<=k->Dj data i t=some a->Dj data j t=some b->a+b<=6->Bz t<=200->iR i->iR j->Ov K data t i j=some ((c t i j).map Bc)) (ts:List Af) (is f:List Ai) {N:Nat} (hk:Ck is<=k) (h1:Cy data is ts=some S) (h2:Cy data f ts=some N) (h6:S+N<=6) (ht:∀t∈ts,Bz t<=200) (hl:ts.length<=100000) (V:E8 is) (U:E8 f) : Sq (K+1) data ts is f=some ((Ez c ts is f).map toR):=by
 obtain⟨l1,g1⟩:=Ye data _ _ _ h1;obtain⟨l2,g2⟩:=Ye data _ _ _ h2;have s:∀j,(∀r∈Ez c (ts.take j) (is.take j) (f.take j),1<=r.2/\r.2<=729/\r.1.length<=100000)/\(Ez c (ts.take j) (is.take j) (f.take j)).length<=729:=λj=>by
  obtain⟨a,a1,a2⟩:=Acf data is ts S j h1;obtain⟨b,b1,b2⟩:=Acf data f ts N j h2;have hs:Ck (is.take j)<=Ck is:=(by have:=Vh (is.take j) (is.drop j);rw[take_append_drop]at this;omega);have q1:E8 (is.take j):=(by have:=Ak9 (is.take j) (is.drop j);rw[take_append_drop]at this;exact (this.1 V).1);have q2:E8 (f.take j):=(by have:=Ak9 (f.take j) (f.drop j);rw[take_append_drop]at this;exact (this.1 U).1);obtain⟨l,Y⟩:=Ahp hg (ts.take j) (is.take j) (f.take j) a b ω a1 b1 ω q1 q2;have D:=Tn (show a+b<=6 by omega);refine⟨λr y=>?_,?_⟩
  .have g:=l r y;have:=Qa y;obtain⟨d,d1,_⟩:=g.deg;have B:=(Ye data _ _ _ d1).1;rw[length_take]at B;exact⟨g.pos,ω,ω⟩
  .have:=P9 λp hp=>(l p hp).pos;omega
 rw[Sq,Mg,Ad];refine F3 ts (λj=>((Ez c (ts.take j) (is.take j) (f.take j)).map toR,(j:Int))) (by simp[Ez,toR]) ω ?_ ?_
 .intro j t hj hx l Y e3;have hi:is[j]? = some (is[j]' ω):=Bt _;generalize is[j]'_=i at hi;have h:f[j]? = some (f[j]' ω):=Bt _;generalize f[j]'_=i' at h;obtain⟨a,a1,a2⟩:=g1 j i t hi hx;obtain⟨b,b1,b2⟩:=g2 j i' t h hx;have a7:=Kc (Bv hi);have L:=ht t (Bv hx);have x:=Ak7 V (Bv hi);have u:=Ak7 U (Bv h);obtain⟨w1,w2⟩:=hg t i i' a b ω a1 b1 ω x u;have D:=Tn (show a+b<=6 by omega);have I:(c t i i').length<=729:=(by have:=P9 λp hp=>(w1 p hp).pos;omega);have J:∀w∈c t i i',w.2<=729:=λw hw=>by have:=Qa hw;omega
  obtain⟨x1,x2⟩:=s j;have M:Ez c (ts.take (j+1)) (is.take (j+1)) (f.take (j+1))=(Ez c (ts.take j) (is.take j) (f.take j)).flatMap (J5 (c t i i')):=(by rw[Da hx,Da hi,Da h,Aw8 _ _ _ _ _ _ _ ζ ζ]);rw[M];have A:=X t i i' a b ω a1 b1 ω L x u;generalize Ez c (ts.take j) (is.take j) (f.take j)=R at *;generalize c t i i'=W at *;simp only[l,Y,Am,Ad];refine F3 (R.map toR) (λn=>((n:Int),((R.take n).flatMap (J5 W)).map toR)) ψ (by rw[C6];omega) ?_ ?_
  .intro n r' hn y f1 f2 f3;rw[getElem?_map]at y;obtain⟨r,hq,rfl⟩:=Option.map_eq_some_iff.1 y;obtain⟨y1,Z,y3⟩:=x1 r (Bv hq);have a6:((R.take n).flatMap (J5 W)).length<=729*729:=(by refine Nat.le_trans (Ahr _ 729 _ λq _=>by unfold J5;rw[C6];exact I) (Nat.mul_le_mul_right _ ?_);rw[length_take];omega);simp only[f1,f2,f3,Am,Ad,Bu rfl hi,Bu rfl h,A];refine F3 (W.map Bc) (λm=>((m:Int),((R.take n).flatMap (J5 W)).map toR++((J5 (W.take m) r).map toR))) (by simp[J5]) (by rw[C6];omega) ?_ ?_
   .intro m w' X hw E p2 p3;rw[getElem?_map]at hw;obtain⟨w,z,rfl⟩:=Option.map_eq_some_iff.1 hw;have G:=J w (Bv z);have a8:(J5 (W.take m) r).length<=729:=(by unfold J5;rw[C6,length_take];omega);have aa:(((R.take n).flatMap (J5 W)).map toR++(J5 (W.take m) r).map toR).length<=729*729+729:=(by rw[E5,C6,C6];omega);simp only[E,p2,p3,Am,Ad];show (Xg r.1).bind _=_;rw[Bak _ ω,Ad,Ds ζ,Ad];show (Ec (cR r.2) (cR w.2)).bind _=_;rw[Aw6 Z G,Ad,Ds (by rw[length_singleton];omega),Ad];have:J5 (W.take (m+1)) r=J5 (W.take m) r++[(r.1++[w.1],r.2*w.2)]:=(by unfold J5;rw[Da z,map_append];rfl);rw[this,map_append,append_assoc];rfl
   .intro E;refine⟨_,by simp only[E];rfl,?_⟩;rw[C6,Db,Aw9 _ hq,map_append]
  .intro f1;refine⟨_,by simp only[f1];rfl,?_⟩;rw[C6,Db,e3]
 .intro l;refine⟨_,by simp only[l];rfl,?_⟩;rw[Ih ω,Ih ω,Ih ω]
theorem Amz (a:α) (l:List α):E2 (a::l) 1 ((a::l).length:Int)=some l:=by unfold E2;rw[Au ⟨δ,by simp only[D8];omega,ω⟩];simp
theorem Bam (a:Ai) (l:List Ai) (h:l.length<=999999):Aar [[a],l]=some (a::l) := Amh (B:=32) δ (gr:=Ae2) (λn h=>Ahg n h) [a] l ζ
theorem Am0 (e:Ai) {c:Nat} (hc:c<=729) (s:R.length<=729) (h:∀r∈R,r.2<=729/\r.1.length<=100000) (b:List It) (l:b.length<=1000000) : Sr e (cR c) (R.map toR) b=some (b++(Fb e c R).map toR):=by
 unfold Sr;refine F3 (R.map toR) (λn=>((n:Int),b++(Fb e c (R.take n)).map toR)) (by simp[Fb]) (by rw[C6];omega) ?_ ?_
 .intro n k q f f1 f2 f3;rw[getElem?_map]at f;obtain⟨r,hq,rfl⟩:=Option.map_eq_some_iff.1 f;obtain⟨g,j⟩:=h r (Bv hq);have i:(b++(Fb e c (R.take n)).map toR).length<=1000729:=(by rw[E5,C6];unfold Fb;rw[C6,length_take];omega);simp only[f1,f2,f3,Am,Ad];show (Aar [[e],r.1]).bind _=_;rw[Bam _ _ ω,Ad];show (Ec (cR c) (cR r.2)).bind _=_;rw[Aw6 hc g,Ad,Ds (by rw[length_singleton];omega),Ad];have:Fb e c (R.take (n+1))=Fb e c (R.take n)++[(e::r.1,c*r.2)]:=(by unfold Fb;rw[Da hq,map_append];rfl);rw[this,map_append,append_assoc];rfl
 .intro f1;refine⟨_,by simp only[f1];rfl,?_⟩;rw[C6,Db]
theorem Ban (f:Szv data) (i:Mv data) (t:Af) (ht:Bz t<=200) (c:Int) {ts:List Af} (h:Gy data t c=some ts):Aas data t c=some ts:=by
 unfold Aas;unfold Gy at h;rw[Abh f t ht c,Ad];cases hf:Jh data t c with
 | none=>rw[hf]at h;cases h
 | some l=>
  rw[hf]at h;have h:F7 l (D3 data t.U c)=ts:=Eo h;subst h;have k:=Xw hf;obtain⟨x,y,_,hx,_,hy,s,_⟩:=Pz hf;obtain⟨g,_⟩:=f x (Hf hx).2.2.2 y (Hf hy).2.2.2;have q:l.length<=6:=(by rw[s];simpa using g);simp only[okL,Xv data t.U c i,Ad];refine F3 (D3 data t.U c) (λj=>((j:Int),F7 (l.take j) ((D3 data t.U c).take j))) (by simp[F7]) ω ?_ ?_
  .intro j b hj hb h1 h2 h3;have ha:l[j]? = some l[j]:=Bt ω;generalize l[j]=a at ha;have u:=Xx (l.take j) ((D3 data t.U c).take j);have:(l.take j).length<=6:=ζ;simp only[h1,h2,h3,Am,Ad,Bu rfl ha,Afv ha hb];rw[Ds ζ];cases b <;> simp
  .intro h1;refine⟨_,by simp only[h1];rfl,?_⟩;rw[Ih ω,Ih (Nat.le_refl _)]
def Am1 (data:List Ak) (k K:Nat):Prop:=∀(ts:List Af) (is b:List Ai) (f c:Nat),Ck is<=k->Cy data is ts=some f->Cy data b ts=some c->f+c<=6->(∀t∈ts,Bz t<=200)->ts.length<=100000->E8 is->E8 b->Sq K data ts is b=some ((Ez (D5 data k) ts is b).map toR)
theorem Bao (hz:Szv data) (hs:Mv data) (ht:Bz t<=200) {K0:Nat} (hR:∀K,K0<=K->Am1 data k K):∀(n:Nat) (l m:List Ai) (K u s:Nat),l.length+m.length<=n->K0+n+1<=K->Ck l<=k+1->(∀e∈l,Ck e.K<=k)->Fv data l t=some u->Fv data m t=some s->u+s<=6->E8 l->E8 m -> Pq K data t l m=some ((Kh (J4 data t (Ez (D5 data k))) l m).map toR):=by
 intro n;induction n with
 | zero=>intro l m K u s Y hK _ _ _ _ _ _ _;have e1:l = []:=Fu.1 ω;obtain⟨K,rfl⟩:∃K',K=K' + 1:=⟨K-1,ω⟩;subst e1;rw[Pq,Acm,Mg];rfl
 | succ n ih=>
  intro l m K u s Y hK G hk h1 h2 h6 N L;obtain⟨K,rfl⟩:∃K',K=K' + 1:=⟨K-1,ω⟩;rw[Pq];cases l with
  | nil=>rw[Acm,Mg];rfl
  | cons a l=>
   rw[C7 ζ,Aq];cases m with
   | nil=>rw[Ahm,Mg];rfl
   | cons b m=>
    rw[C7 ζ,Aq];obtain⟨ts,E,dl,a1,a2,a3,rfl⟩:=Ahq h1;obtain⟨i,D,B,b1,b2,J,rfl⟩:=Ahq h2;have h:=N;have g:=L;simp only[E8]at h g;have za:Ck (a::l)=Ca a+Ck l:=(by simp only[Ck]);have j:∀e∈l,Ck e.K<=k:=λe he=>hk e (by simp[he]);have n1:=Vf data _ _ _ h1;have n2:=Vf data _ _ _ h2;simp only[D8]at Y n1 n2;have f:∀(l m:List Ai) (u s:Nat),Ck l<=k+1->(∀e∈l,Ck e.K<=k)->Fv data l t=some u->Fv data m t=some s->u+s<=6->E8 l->E8 m->(∀r∈Kh (J4 data t (Ez (D5 data k))) l m,r.2<=729/\r.1.length<=100000)/\(Kh (J4 data t (Ez (D5 data k))) l m).length<=729:=λl m u s q1 q2 q3 q4 q5 q6 q7=>by
     obtain⟨I,x2⟩:=Aw5 (Rk data k) t l m u s q1 q2 q3 q4 q5 q6 q7;have:=Tn q5;refine⟨λr A=>⟨by have:=Qa A;omega,?_⟩,?_⟩
     .obtain⟨d,d1,d2⟩:=(I r A).deg;have:=Vf data _ _ _ d1;omega
     .have:=P9 λp hp=>(I p hp).pos;omega
    have s1:E2 (a::l) 1 ((a::l).length:Int)=some l:=Amz a l;have s2:E2 (b::m) 1 ((b::m).length:Int)=some m:=Amz b m;have i1:Ag (a::l) 0=some a:=rfl;have i2:Ag (b::m) 0=some b:=rfl;obtain⟨I,x2⟩:=f l (b::m) dl (1+D+B) ω j a3 h2 ω h.2 L;obtain⟨y1,y2⟩:=f (a::l) m (1+E+dl) B G hk h1 J ω N g.2;obtain⟨z1,z2⟩:=f l m dl B ω j a3 J ω h.2 g.2;have L1:∀(e:Ai) (c:Nat) (R:List (List Ai×Nat)),((Fb e c R).map toR).length=R.length:=λe c R=>by unfold Fb;simp
    have c1:D0 1=some (cR 1):=Mg;rw[i1,Ad,c1,Ad,s1,Ad,ih l (b::m) K dl (1+D+B) ζ ω ω j a3 h2 ω h.2 L,Ad,Am0 a δ x2 I [] ψ,Ad,i2,Ad,Ad,s2,Ad, ih (a::l) m K (1+E+dl) B ζ ω G hk h1 J ω N g.2,Ad,Am0 b δ y2 y1 _ (by rw[nil_append,L1];omega),Ad,Ad,Ad];rw[Acn];by_cases e:a.U=b.U
    .have U:i=ts:=(by rw[<-e,a1]at b1;exact (Eo b1).symm);subst U;have V:J3 data t a.U=i:=(by unfold J3;rw[a1]);obtain⟨p1,p2⟩:=Afx a1;have pl:i.length<=100000:=(by unfold Gy at a1;cases hf:Jh data t a.U with| none=>rw[hf]at a1;cases a1| some l=>rw[hf]at a1;have a1:F7 l (D3 data t.U a.U)=i:=Eo a1;obtain⟨x,y,_,hx,_,hy,hl,_⟩:=Pz hf;obtain⟨y6,_⟩:=hz x (Hf hx).2.2.2 y (Hf hy).2.2.2;have a8:l.length<=6:=(by rw[hl];simpa using y6);have:=Xx l (D3 data t.U a.U);rw[a1]at this;omega);have ha:=h.1;have hb:=g.1;rw[P3]at ha hb;have z:=hR K ω i a.K b.K E D (hk a ψ) a2 b2 ω p1 pl ha.2 hb.2;obtain⟨w1,w2⟩:=Ahp (Rk data k) i a.K b.K E D (hk a ψ) a2 b2 ω ha.2 hb.2;have a6:=Tn (show E+D<=6 by omega);have a7:(Ez (D5 data k) i a.K b.K).length<=729:=(by have:=P9 λp hp=>(w1 p hp).pos;omega);have S:∀r∈Ez (D5 data k) i a.K b.K,r.2<=729:=λr A=>by have:=Qa A;omega
     rw[Ew e,Am,Ad,Ad,ih l m K dl B ω ω ω j a3 J ω h.2 g.2,Ad,Ad,Ban hz hs t ht _ a1,Ad,Ad,Ad,z,Ad];have Z:J4 data t (Ez (D5 data k)) a b=(Ez (D5 data k) i a.K b.K).map λr=>(⟨a.U,r.1⟩,r.2):=(by unfold J4;rw[Au e,V]);rw[Z];generalize Ez (D5 data k) i a.K b.K=W at *;generalize Kh (J4 data t (Ez (D5 data k))) l m=M at *;have hO:∀n,(flatMap (λw:Ai×Nat=>Fb w.1 w.2 M) ((W.take n).map λr=>(⟨a.U,r.1⟩,r.2))).length<=729*729:=λn=>by refine Nat.le_trans (Ahr _ 729 _ λq _=>by unfold Fb;rw[C6];exact z2) (Nat.mul_le_mul_right _ ?_);rw[C6,length_take];omega
     refine F3 (W.map toR) (λn=>((n:Int),[]++(Fb a 1 (Kh (J4 data t (Ez (D5 data k))) l (b::m))).map toR++(Fb b 1 (Kh (J4 data t (Ez (D5 data k))) (a::l) m)).map toR++(flatMap (λw:Ai×Nat=>Fb w.1 w.2 M) ((W.take n).map λr=>(⟨a.U,r.1⟩,r.2))).map toR)) ψ (by rw[C6];omega) ?_ ?_
     .intro n r' Y A f1 f2 f3;rw[getElem?_map]at A;obtain⟨r,hq,rfl⟩:=Option.map_eq_some_iff.1 A;have X:=S r (Bv hq);have aa:=hO n;simp only[f1,f2,f3,Am,Ad,i1];show (Sr ⟨a.U,r.1⟩ (cR r.2) _ _).bind _=_;rw[Am0 _ X z2 z1 _ (by rw[E5,E5,E5,L1,L1,C6,length_nil];omega),Ad];rw[Da hq,map_append,flatMap_append,map_append,append_assoc];simp
     .intro f1;refine⟨_,by simp only[f1];rfl,?_⟩;rw[C6,Db,map_append,map_append];simp
    .rw[C7 e,Aq];have Z:J4 data t (Ez (D5 data k)) a b = []:=(by unfold J4;rw[Ar e]);rw[Z,map_append,map_append];simp
theorem Bap (h:∀t i j a b,Ca i<=k->Dj data i t=some a->Dj data j t=some b->a+b<=6->Bz t<=200->iR i->iR j->Ov K data t i j=some ((D5 data k t i j).map Bc)):Am1 data k (K+1) := λts is g _ _ hk h1 h2 q ht l f c=>Bal (Rk data k) h ts is g hk h1 h2 q ht l f c
theorem Axa (i:R.length<=100000) {step:Int×List Av->Option ((Int×List Av)⊕List Av)} (b:∀(v:Int) (o:List Av),step (v,o)=bif v<((R.map toR).length:Int) then ((Ag (R.map toR) v).bind λr=>(Cg 88 o [Av.mk (Ai.mk 0 r.list) r.coef]).bind λo=>some (.inl ((Ac (v+1)),o))) else some (.inr o)) (f:J ((R.map λr=>((⟨0,r.1⟩:Ai),r.2)).map Bc)=some q):(An step (0,[])).bind J=some q:=by
 refine F3 (R.map toR) (λn=>((n:Int),((R.take n).map λr=>((⟨0,r.1⟩:Ai),r.2)).map Bc)) ψ (by rw[C6];omega) ?_ ?_
 .intro n g h c f1 f2 f3;rw[getElem?_map]at c;obtain⟨r,hq,rfl⟩:=Option.map_eq_some_iff.1 c;rw[b,f1,Am,f2,Ad,Ds (by rw[C6,C6,length_take,length_singleton];omega),Ad,f3,Da hq,map_append,map_append];rfl
 .intro f1;refine⟨_,by rw[b,f1,Aq],?_⟩;rw[C6,Db];exact f
theorem Baq {b:Nat} (h:a+b<=12) {step:Int×List Av->Option ((Int×List Av)⊕List Av)} (c:∀(v:Int) (o:List Av),step (v,o)=bif v<((Ls (a+b+1) (Rc a b)).length:Int) then ((Ag (Ls (a+b+1) (Rc a b)) v).bind λx=>(Ik x).bind λs=>bif (s != (0:Int)) then ((Cg 88 o [Av.mk (Ai.mk v []) x]).bind λo=>some (.inl ((Ac (v+1)),o))) else some (.inl ((Ac (v+1)),o))) else some (.inr o)) (l:J ((Yq a b).map Bc)=some q):(An step (0,[])).bind J=some q:=by
 have f:∀n,(((range (n+1)).filter λk=>Rc a b k != 0).map λ(k:Nat)=>((⟨(k:Int),[]⟩:Ai),Rc a b k)).map Bc=(((range n).filter λk=>Rc a b k != 0).map λ(k:Nat)=>((⟨(k:Int),[]⟩:Ai),Rc a b k)).map Bc++(if Rc a b n=0 then [] else [⟨⟨(n:Int),[]⟩,cR (Rc a b n)⟩]):=λn=>by
  rw[range_succ,filter_append,map_append,map_append];by_cases h:Rc a b n=0
  .simp[h]
  .simp[h,Bc]
 refine F3 (Ls (a+b+1) (Rc a b)) (λn=>((n:Int),(((range n).filter λk=>Rc a b k != 0).map λ(k:Nat)=>((⟨(k:Int),[]⟩:Ai),Rc a b k)).map Bc)) ψ (by rw[M6];omega) ?_ ?_
 .intro n x g hx f1 f2 f3;rw[M6]at g;rw[M7 _ g]at hx;have hx:cR (Rc a b n)=x:=Eo hx;subst hx;have j:Rc a b n<=3 ^ 12:=(by have h1:=Acp a b (n+1);have h2:Rc a b n<=sm (n+1) (Rc a b):=(by rw[sm];omega);exact Nat.le_trans h2 (Nat.le_trans h1 (Nat.pow_le_pow_right δ h)));have i:((((range n).filter λk=>Rc a b k != 0).map λ(k:Nat)=>((⟨(k:Int),[]⟩:Ai),Rc a b k)).map Bc).length<=13:=(by rw[C6,C6];refine Nat.le_trans (length_filter_le _ _) ?_;rw[length_range];omega);rw[c,f1,Am,f2,Ad,(Np.cR (a:=Rc a b n) (Kq ω)).sign,Ad,f n];by_cases h:Rc a b n=0
  .rw[Au h,Au h,append_nil,f3];rfl
  .rw[Ar h,Ar h,show ((1:Int) != 0)=true from rfl,Am,Ds (by rw[length_singleton];omega),Ad,f3]
 .intro f1;refine⟨_,by rw[c,f1,Aq],?_⟩;rw[M6];exact l
theorem Bar (N:Szv data) (U:Mv data):∀(k:Nat) (t:Af) (i j:Ai) (K q l:Nat),Ca i<=k->10*k<=K->Dj data i t=some q->Dj data j t=some l->q+l<=6->Bz t<=200->iR i->iR j -> Ov K data t i j=some ((D5 data k t i j).map Bc):=by
 intro k;induction k with
 | zero=>intro t i j K q l h;have:=Ep i;omega
 | succ k ih=>
  intro t i j K q l z Y hi hj y ht E D;obtain⟨K,rfl⟩:∃B,K=B+1:=⟨K-1,ω⟩;have M:=Ep i;have g:=E;have f:=D;rw[P3]at g f;have J:∀K,10*k+1<=K->Am1 data k K:=λK Y=>by obtain⟨K,rfl⟩:∃B,K=B+1:=⟨K-1,ω⟩;exact Bap λt i j a b h1 h2 h3 h4 h5 y Z=>ih t i j K a b h1 ω h2 h3 h4 h5 y Z
  have A:=Rk data (k+1) t i j q l z hi hj y E D;have L:=Tn y;have c:(D5 data (k+1) t i j).length<=729:=(by have:=P9 λp hp=>(A.1 p hp).pos;omega);rw[Ov];rw[D5]at c ⊢;have R:=Jx t;by_cases u:t.G=6
  .rw[Au u]at c ⊢;rw[Ew u,Am];have hi:=Yn u hi;have hj:=Yn u hj;have S:=Lr t.R;rw[J K ω t.R i.K j.K q l ω hi hj y (λa ha=>by have:=Kb ha;omega) ω g.2 f.2,Ad];rw[C6]at c;exact Axa ω (λv o=>rfl) rfl
  .rw[Ar u]at c ⊢;rw[C7 u,Aq];by_cases s:t.G=7
   .rw[Au s];rw[Ew s,Am];obtain⟨e,_⟩:=Ahl s hi;obtain⟨e',_⟩:=Ahl s hj;have I:(i.U.toNat:Int)=i.U:=ω;have G:(j.U.toNat:Int)=j.U:=ω;have X:Aam i.U j.U=some (Ls (i.U.toNat+j.U.toNat+1) (Rc i.U.toNat j.U.toNat),true):=(by unfold Aam;rw[Ay ω,Ay ω,Ay ω,Ay ω];simp only[Aq,Ad];have:=Awf i.U.toNat j.U.toNat ω ω;rw[I,G]at this;rw[this,Ad]);rw[X,Ad];exact Baq ω (λv o=>rfl) rfl
   .rw[Ar s]at c ⊢;rw[C7 s,Aq];by_cases x:t.G=5
    .rw[Au x]at c ⊢;rw[Ew x,Am];have hi:=Yo x hi;have hj:=Yo x hj;have I:=Vf data _ _ _ hi;have G:=Vf data _ _ _ hj;rw[Bao N U ht J (i.K.length+j.K.length) i.K j.K K q l (Nat.le_refl _) ω ω (λe V=>by have:=Kc V;have:=Ep e;omega) hi hj y g.2 f.2,Ad];rw[C6]at c;exact Axa ω (λv o=>rfl) rfl
    .rw[Ar x];rw[C7 x,Aq,Mg,Ad,Ds ψ,Ad];rfl
theorem Axb:∀k,Xn k=Po k
 | 0=>by funext i b;rfl
 | k+1=>by have ih:=Axb k;funext i b;rw[Xn,Po,ih]
theorem Bas (i:Ai) (hi:Ca i<=1048576) (b:iR i):Aal i []=some (wx i):=by have h:=As3 4000001 i [] ω b ζ;rw[nil_append]at h;rw[<-h,show (4000001:Nat)=4000000+1 from rfl,Po,<-Axb];rfl
theorem By.wx (i:Ai):By (Go.Ab.wx i):=Alb i
def Ku (i:Ai):ByteArray:=bs (wx i)
theorem Axc {j:Ai} (h:Ku i=Ku j):i=j:=by have h1:=Al1 (By.wx i) (By.wx j) h;have h2:=Af3 i j [] [] Af2 Af2 (by rw[append_nil,append_nil];exact h1);exact h2.1
theorem Bat (i:Ai):wx i≠[]:=by rw[Af1];intro h;exact Af0 _ (append_eq_nil_iff.1 h).1
theorem Bau (i:Ai):Nat.beq (Ku i).size 0=false:=by unfold Ku;rw[Yc];have:=Bat i;cases h:wx i with| nil=>exact (this h).elim| cons a l=>rfl
def pls (ts:List (Ai×Nat)):List (ByteArray×Int):=ts.zipIdx.map λq=>(Ku q.1.1,(q.2:Int))
def Dw (ts:List (Ai×Nat)):Prop:=ts.Pairwise λt u=>t.1≠u.1
theorem Bav (ts:List (Ai×Nat)) (t:Ai×Nat):pls (ts++[t])=pls ts++[(Ku t.1,(ts.length:Int))]:=by unfold pls;rw[zipIdx_append];simp
theorem Acr (ts:List (Ai×Nat)) (j:Nat):(pls ts)[j]? = (ts[j]?).map λt=>(Ku t.1,(j:Int)):=by unfold pls;rw[getElem?_map,getElem?_zipIdx];cases ts[j]? <;> simp
theorem Baw {t:Ai×Nat} (h:ts[j]? = some t) (b:u.1=t.1):pls (ts.set j u)=pls ts:=by
 refine ext_getElem? λn=>?_;rw[Acr,Acr,getElem?_set];by_cases e:j=n
 .subst e;rw[Au rfl,h];have:=Eg h;rw[Au this];simp[b]
 .rw[Ar e]
theorem Bax {m:Ai} (h:∀t∈ts,t.1≠m):E3 (pls ts) (Ku m)=false:=by cases e:E3 (pls ts) (Ku m) with| false=>rfl| true=>unfold E3 at e;obtain⟨p,hp,e⟩:=any_eq_true.1 e;obtain⟨j,hj⟩:=Ht hp;rw[Acr]at hj;obtain⟨t,ht,rfl⟩:=Option.map_eq_some_iff.1 hj;exact (h t (Bv ht) (Axc ((N0 _ _).1 e)).symm).elim
theorem Bay (hd:Dw ts) {t:Ai×Nat} (h:ts[j]? = some t):E3 (pls ts) (Ku t.1)=true/\Ir (pls ts) (Ku t.1) 0=(j:Int):=by
 have hj:=Acr ts j;rw[h]at hj;have c:(Ku t.1,(j:Int))∈pls ts:=Bv hj;refine⟨?_,?_⟩
 .unfold E3;exact any_eq_true.2 ⟨_,c,(N0 _ _).2 rfl⟩
 .unfold Ir;cases hf:(pls ts).find? λp=>Ku t.1==p.1 with
  | none=>rw[find?_eq_none]at hf;exact (hf _ c ((N0 _ _).2 rfl)).elim
  | some p=>
   have h1:=find?_some hf;have h1:Ku t.1=p.1:=(N0 _ _).1 h1;obtain⟨n,b⟩:=Ht (mem_of_find?_eq_some hf);rw[Acr]at b;obtain⟨u,hu,rfl⟩:=Option.map_eq_some_iff.1 b;have h1:=Axc h1;show (n:Int)=j;rcases Nat.lt_trichotomy n j with k|k|k
   .exact (pairwise_iff_getElem.1 hd n j (Eg hu) (Eg h) k (by
     rw[Bt (Eg hu)]at hu
     rw[Bt (Eg h)]at h
     rw[Eo hu,Eo h];exact h1.symm)).elim
   .rw[k]
   .exact (pairwise_iff_getElem.1 hd j n (Eg h) (Eg hu) k (by
     rw[Bt (Eg hu)]at hu
     rw[Bt (Eg h)]at h
     rw[Eo hu,Eo h];exact h1)).elim
theorem Axd {α:Type} (f:α->Nat):∀{ts:List (α×Nat)} {j:Nat} {t:α×Nat} (c:Nat),ts[j]? = some t->pv f (ts.set j (t.1,t.2+c))=pv f ts+c*f t.1
 | t' :: ts,0,t,c,h=>by have h:t'=t:=(by simpa using h);subst h;simp only[set_cons_zero,pv,Nat.add_mul];omega
 | t' :: ts,j+1,t,c,h=>by have ih:=Axd f (ts:=ts) (j:=j) (t:=t) c (by simpa using h);simp only[set_cons_succ,pv,ih];omega
 | [],_,_,_,h=>by simp at h
structure Cw (P:Ai->Prop) (ts:List (Ai×Nat)):Prop where
 dst:Dw ts
 mo:∀t∈ts,P t.1
 pos:∀t∈ts,1<=t.2
theorem Cw.nil (P:Ai->Prop):Cw P []:=⟨Pairwise.nil,λ_ h=>(by cases h),λ_ h=>(by cases h)⟩
theorem Dw.set (h:Dw ts) {t:Ai×Nat} (ht:ts[j]? = some t) (b:u.1=t.1):Dw (ts.set j u):=by
 have e:∀l:List (Ai×Nat),Dw l↔(l.map (·.1)).Pairwise (·≠·):=λl=>by unfold Dw;rw[pairwise_map]
 rw[e]at h ⊢;have:(ts.set j u).map (·.1)=ts.map (·.1):=by
  refine ext_getElem? λn=>?_;rw[getElem?_map,getElem?_map,getElem?_set];by_cases k:j=n
  .subst k;rw[Au rfl,Au (Eg ht),ht];simp[b]
  .rw[Ar k]
 rw[this];exact h
theorem Axe (Y:∀i,P i->Ca i<=1048576/\iR i) (l ts:List (Ai×Nat)) (G:Cw P ts) (X:∀t∈l,P t.1/\1<=t.2) (hN:pv (λ_=>1) ts+pv (λ_=>1) l<Fa) (Z:ts.length+l.length<=1000000000) (data:List Ak) (a b:Int) (c:List Af) : ∃k,So (l.map Bc) (pls ts) (ts.map Bc) data a b c=some (pls k,k.map Bc)/\Cw P k/\k.length<=ts.length+l.length/\∀f:Ai->Nat,pv f k=pv f ts+pv f l:=by
 unfold So;refine Xs (A:=List (Ai×Nat)) (λk=>(pls k,k.map Bc)) ?_;refine Ee (λs=>∃(j:Nat) (u:List (Ai×Nat)),s=((j:Int),pls u,u.map Bc)/\j<=l.length/\Cw P u/\u.length<=ts.length+j/\∀f:Ai->Nat,pv f u=pv f ts+pv f (l.take j)) (λs=>l.length-s.1.toNat) (λz=>∃u,z=(pls u,u.map Bc)/\Cw P u/\u.length<=ts.length+l.length/\∀f:Ai->Nat,pv f u=pv f ts+pv f l) ⟨0,ts,rfl,ω,G,ω,λf=>by simp only[take_zero,pv];omega⟩ ?_ ?_
 .rintro _ ⟨j,u,rfl,hj,hu,E,hv⟩;rcases Ch j l.length with h|h
  .have hx:l[j]? = some l[j]:=Bt h;generalize l[j]=x at hx;obtain⟨M,hp⟩:=X x (Bv hx);obtain⟨S,R⟩:=Y _ M;have D:(l.map Bc)[j]? = some (Bc x):=(by rw[getElem?_map,hx];rfl);have I:pv (λ_=>1) (l.take (j+1))<=pv (λ_=>1) l:=(by have:=Kg (λ_=>1) (l.take (j+1)) (l.drop (j+1));rw[take_append_drop]at this;omega);have q:∀f:Ai->Nat,pv f (l.take (j+1))=pv f (l.take j)+x.2*f x.1:=λf=>by rw[Da hx,Kg];simp only[pv];omega
   have V:=q (λ_=>1);have U:=hv (λ_=>1);have y:((l.map Bc).length:Int)=(l.length:Int):=(by rw[C6]);have hw:Aal (Bc x).I []=some (wx x.1):=Bas x.1 S R;simp only[y,As (ω:(j:Int)<(l.length:Int)),Am,Bu rfl D,Ad,hw,C9 h ω,P7 (By.wx x.1)];have hb:bs (wx x.1)=Ku x.1:=rfl;rw[hb];left;by_cases hex:∃t∈u,t.1=x.1
   .obtain⟨t,ht,N⟩:=hex;obtain⟨i,hi⟩:=Ht ht;obtain⟨g1,g2⟩:=Bay hu.dst hi;rw[N]at g1 g2;have J:(u.map Bc)[i]? = some (Bc t):=(by rw[getElem?_map,hi];rfl);have tb:=Qa ht;have B:Iy (Bc t).C (Bc x).C=some (cR (t.2+x.2)):=Np.add (Np.c ω) (Np.c ω);refine⟨((j+1:Nat),pls (u.set i (t.1,t.2+x.2)),(u.set i (t.1,t.2+x.2)).map Bc),?_,⟨j+1,u.set i (t.1,t.2+x.2),rfl,ω,⟨hu.dst.set hi rfl,?_,?_⟩,by rw[length_set];omega,λf=>?_⟩,ζ⟩
    .simp only[g1,g2,Am,Ad,Bu rfl J,B,He rfl,Baw (u:=(t.1,t.2+x.2)) hi rfl];rw[map_set];rfl
    .intro w hw;rcases mem_or_eq_of_mem_set hw with hw|rfl
     .exact hu.mo w hw
     .exact hu.mo t ht
    .intro w hw;rcases mem_or_eq_of_mem_set hw with hw|rfl
     .exact hu.pos w hw
     .show 1<=t.2+x.2;omega
    .rw[Axd f x.2 hi,hv f,q f,N];omega
   .have g:=Bax (m:=x.1) (ts:=u) λt ht e=>hex ⟨t,ht,e⟩;have L:Xo (Ku x.1)=some (Ku x.1):=(by unfold Xo;rw[Bau,Aq]);refine⟨((j+1:Nat),pls (u++[x]),(u++[x]).map Bc),?_,⟨j+1,u++[x],rfl,ω,⟨?_,?_,?_⟩,ζ,λf=>?_⟩,ζ⟩
    .simp only[g,Aq,Ad,L];rw[Ds (by rw[C6,length_singleton];omega),Ad,Ag6 _ _ _ g,Bav,map_append,C6];rfl
    .refine pairwise_append.2 ⟨hu.dst,pairwise_singleton _ _,λa ha b hb=>?_⟩;simp only[Et]at hb;subst hb;exact λe=>hex ⟨a,ha,e⟩
    .intro w hw;rcases Ei.1 hw with hw|hw
     .exact hu.mo w hw
     .simp only[Et]at hw;subst hw;exact M
    .intro w hw;rcases Ei.1 hw with hw|hw
     .exact hu.pos w hw
     .simp only[Et]at hw;subst hw;exact hp
    .rw[Kg,hv f,q f];simp only[pv];omega
  .have:j=l.length:=ω;subst this;rw[Db]at hv;have y:((l.map Bc).length:Int)=(l.length:Int):=(by rw[C6]);simp only[y,Ay (ω:¬(l.length:Int)<(l.length:Int)),Aq];exact .inr ⟨_,rfl,u,rfl,hu,E,hv⟩
 .rintro _ ⟨u,rfl,h1,h2,h3⟩;exact⟨_,rfl,u,rfl,h1,h2,h3⟩
theorem Baz {B:Nat} (f:B<=1024) {gr:Int->Option (List α)} (hg:∀n:Nat,n<=1000000->gr (n:Int)=some []) (ls:List (List α)) (g:ls.length<=1000) (h:ls.flatten.length<=1000000):Ag8 B gr ls=some ls.flatten:=by
 have b:∀{j x},ls[j]? = some x->(ls.take (j+1)).flatten=(ls.take j).flatten++x:=λ{j x} hx=>by rw[Da hx,flatten_append];simp
 have c:∀j,(ls.take j).flatten.length<=1000000:=λj=>by have:ls.flatten=(ls.take j).flatten++(ls.drop j).flatten:=(by rw[<-flatten_append,take_append_drop]);rw[this,E5]at h;omega
 unfold Ag8;refine F3 ls (λj=>(((ls.take j).flatten.length:Int),(j:Int))) rfl ω ?_ ?_
 .intro j x hj hx h1 h2 h3;have a1:=c (j+1);rw[b hx,E5]at a1;have w:Ac (((ls.take j).flatten.length:Int)+(x.length:Int))=(((ls.take (j+1)).flatten.length:Nat):Int):=(by rw[b hx,E5,Ac,Cj] <;> omega);simp only[h1,h2,h3,Am,Ad,w,Ay (ω:¬(((ls.take (j+1)).flatten.length:Nat):Int)<0),Aq]
 .intro h1;refine⟨(((ls.take ls.length).flatten.length:Nat):Int),by simp only[h1];rfl,?_⟩;rw[Db,hg _ h,Ad];refine F3 ls (λj=>((j:Int),(ls.take j).flatten)) rfl ω ?_ ?_
  .intro j x hj hx h1 h2 h3;have a1:=c (j+1);rw[b hx,E5]at a1;have:((ls.take j).flatten.length+x.length)*B<=1000000*1024:=Nat.mul_le_mul a1 f;simp only[h1,h2,h3,Am,Ad];rw[Ds ω,Ad,b hx]
  .intro h1;exact⟨ls.flatten,by simp only[h1,Db];rfl,rfl⟩
theorem Ba0 (ls:List (List Av)) (b:ls.length<=1000) (h:ls.flatten.length<=1000000):Aez ls=some ls.flatten := Baz (B:=88) δ (gr:=Ae1) (λn h=>Ahg n h) ls b h
theorem Axf:∀k,L8 k=Qz k
 | 0=>by funext i;rfl
 | k+1=>by have ih:=Axf k;funext i;rw[L8,Qz,ih]
theorem Am2 {a b:Ai}:G9 a b=0↔a=b:=Agv.zero a b trivial trivial
theorem Acs (a b:Ai):G9 b a = - G9 a b:=Agv.anti a b trivial trivial
theorem Axg {a b c:Ai} (h:G9 a b<0) (h':G9 b c<0):G9 a c<0:=Agv.trans a b c trivial trivial trivial h h'
theorem Am3:Qi (λt u:Av=>G9 t.I u.I) where
 irr x:=by
  show ¬G9 x.I x.I<0
  rw[Am2.2 rfl];omega
 trs x y z h1 h2:=Axg h1 h2
 ntr x y z h1 h2:=by
  show ¬G9 x.I z.I<0
  have h1:¬G9 x.I y.I<0:=h1
  have h2:¬G9 y.I z.I<0:=h2
  intro h3
  rcases Int.lt_trichotomy (G9 x.I y.I) 0 with k|k|k
  .exact h1 k
  .rw[Am2.1 k]at h3;exact h2 h3
  .exact h2 (Axg (show G9 y.I x.I<0 by rw[Acs x.I y.I];omega) h3)
theorem Axh (a b:Av) (h:Ca a.I<=1048576):Ps a b=some (G9 a.I b.I):=by unfold Ps;rw[As9 1048576 4000000 a.I b.I h ω ω];rfl
def Am4 (b:List Av):List Av:=b.mergeSort λt u=>decide (G9 t.I u.I<=0)
theorem Ba1 (f:List Av) (hd:f.Pairwise λt u=>t.I≠u.I):(Am4 f).Pairwise λt u=>G9 t.I u.I<0:=by
 have h1:=pairwise_mergeSort (le:=λt u:Av=>decide (G9 t.I u.I<=0)) (λa b c h1 h2=>by
  simp only[Dt]at *
  have:=Am3.ntr c b a (by show ¬G9 _ _<0;rw[Acs];omega) (by show ¬G9 _ _<0;rw[Acs];omega)
  have this:¬G9 c.I a.I<0:=this
  rw[Acs]at this;omega) (λa b=>by
  simp only[Bool.or_eq_true,Dt]
  rw[Acs a.I b.I];omega) f
 have h2:(Am4 f).Pairwise λt u=>t.I≠u.I:=((mergeSort_perm f _).pairwise_iff (λ{x y} h=>h.symm)).2 hd
 refine (h1.and h2).imp λ{t u} h=>?_
 have a:=of_decide_eq_true h.1
 have b:G9 t.I u.I≠0:=λe=>h.2 (Am2.1 e)
 omega
theorem Ba2 (b:List Av) (hd:b.Pairwise λt u=>t.I≠u.I) (c:∀t∈b,Ca t.I<=1048576):∃R,Lk b=some R/\R.Perm b:=by
 rcases Ch 12 b.length with h|h
 .have e:Nat.ble b.length 12=false:=(by cases k:Nat.ble b.length 12 with| false=>rfl| true=>have:=Nat.le_of_ble_eq_true k;omega);unfold Lk;rw[e,Aq];obtain⟨r,f,g,law,hc,hp,_⟩:=Apw (cmp:=Ps) (l:=b) (r:=Am4 b) ⟨_,Am3,λx hx y _=>Axh x y (c x hx),mergeSort_perm b _,Ba1 b hd⟩;exact⟨r,f,hp⟩
 .obtain⟨R,h1,h2,_⟩:=Avt (cmp:=Ps) Am3 b (λx hx y _=>Axh x y (c x hx)) ω;obtain⟨v,hv⟩:=Avh (n:=b.length) ω;refine⟨R,?_,h2⟩
  .unfold Lk;rw[Nat.ble_eq_true_of_le h,Am];unfold Akh;rw[hv,Ad];have hp:Aat 0 (b.length:Int) v b=some R:=(by unfold Aat;have e:Ae3 0 (b.length:Int) b=Ab9 Ps 0 (b.length:Int) b:=rfl;have w:Ac ((b.length:Int)-0)=(b.length:Int):=ξ;refine bnd (a:=R) (Gn ?_) rfl;rw[w,As ω,Am,e,h1,Ad,M3 h2.length_eq.symm];rfl);rw[hp,Ad,M3 h2.length_eq.symm];rfl
def dgi (data:List Ak) (t:Af) (p:Ai×Nat):Nat:=match Dj data p.1 t with|some d=>d|none=>0
def bk (data:List Ak) (t:Af) (L:List (Ai×Nat)) (d:Nat):List (Ai×Nat):=L.filter λp=>dgi data t p==d
theorem Axi {α:Type} (f:α->Nat):∀(n:Nat) (L:List α),(∀x∈L,f x<n)->((range n).flatMap λd=>L.filter λx=>f x==d).Perm L
 | 0,L,h=>by cases L with| nil=>exact Perm.refl _| cons x L=>exact absurd (h x ψ) ω
 | n+1,L,h=>by
  have ih:=Axi f n (L.filter λx=>!(f x==n)) λx hx=>by obtain⟨h1,h2⟩:=mem_filter.1 hx;have:=h x h1;have:f x≠n:=(by simpa using h2);omega
  rw[range_succ,flatMap_append];have e:((range n).flatMap λd=>(L.filter λx=>!(f x==n)).filter λx=>f x==d)=(range n).flatMap λd=>L.filter λx=>f x==d:=by
   have key:∀R:List Nat,(∀d∈R,d<n)->(R.flatMap λd=>(L.filter λx=>!(f x==n)).filter λx=>f x==d)=R.flatMap λd=>L.filter λx=>f x==d:=by
    intro R;induction R with
    | nil=>intro _;rfl
    | cons d R b=>
     intro c;rw[flatMap_cons,flatMap_cons,b λq hq=>c q (by simp[hq]),filter_filter];congr 1;refine filter_congr λx _=>?_;have:=c d ψ;by_cases e:f x=d
     .have:f x≠n:=ω;simp[e];omega
     .simp[e]
   exact key _ λd hd=>mem_range.1 hd
  rw[e]at ih;refine (Perm.append_right _ ih).trans ?_;have:=filter_append_perm (λx=>!(f x==n)) L;simp only[Bool.not_not]at this;simpa using this
def i7:Nat->I7
 | 0=>.c0
 | 1=>.c1
 | 2=>.c2
 | 3=>.c3
 | 4=>.c4
 | 5=>.c5
 | _=>.c6
theorem Axj (d:Nat) (h:d<7):Za (d:Int)=some (i7 d):=by rcases (ω:d=0\/d=1\/d=2\/d=3\/d=4\/d=5\/d=6) with rfl|rfl|rfl|rfl|rfl|rfl|rfl <;> rfl
theorem Ba3 {x:Ai×Nat} (h:L[j]? = some x) (d:Nat):(bk data t (L.take (j+1)) d).map Bc=(bk data t (L.take j) d).map Bc++(if dgi data t x=d then [Bc x] else []):=by
 unfold bk;rw[Amb h,map_append];by_cases e:dgi data t x=d
 .simp[e]
 .simp[e]
def Axk (data:List Ak) (t:Af) (i:Ai):Prop:=Ca i<=1048576/\iR i/\∃d,Dj data i t=some d/\d<=6
theorem Axl (hz:DSz data) (hv:Ia data) (hg:G1 data t=true) (y:Cw (Axk data t) L) (hN:pv (λ_=>1) L<Fa) (X:L.length<=1000000000) : (1000<L.length/\Nt (pls L) (L.map Bc) data t.G t.U t.R=some ([],9))\/(L.length<=1000/\∃R:List (Ai×Nat),Nt (pls L) (L.map Bc) data t.G t.U t.R=some (R.map Bc,0)/\R.Perm L):=by
 have q:∀x∈L,Dj data x.1 t=some (dgi data t x)/\dgi data t x<7:=λx hx=>by obtain⟨_,_,d,d1,d2⟩:=y.mo x hx;have:dgi data t x=d:=(by unfold dgi;rw[d1]);rw[this];exact⟨d1,ω⟩
 have G:Af.mk t.G t.U t.R=t:=by cases t;rfl
 have V:∀j d,((bk data t (L.take j) d).map Bc).length<=1000000000:=λj d=>by unfold bk;rw[C6];refine Nat.le_trans (length_filter_le _ _) ?_;rw[length_take];omega
 have g:∀d,∃S:List (Ai×Nat),Lk ((bk data t L d).map Bc)=some (S.map Bc)/\S.Perm (bk data t L d):=λd=>by
  have hd:((bk data t L d).map Bc).Pairwise λa b=>a.I≠b.I:=(by rw[pairwise_map];exact Pairwise.sublist filter_sublist y.dst);obtain⟨R,r1,r2⟩:=Ba2 ((bk data t L d).map Bc) hd λw hw=>by obtain⟨p,hp,rfl⟩:=mem_map.1 hw;exact (y.mo p (mem_filter.1 hp).1).1
  obtain⟨S,D,A⟩:∃S:List (Ai×Nat),R=S.map Bc/\S.Perm (bk data t L d):=by
   have inj:∀(M:List Av) (B:List (Ai×Nat)),M.Perm (B.map Bc)->∃S:List (Ai×Nat),M=S.map Bc/\S.Perm B:=by
    intro M;induction M with
    | nil=>intro B h;have h:=h.symm.eq_nil;cases B with| nil=>exact⟨[],rfl,Perm.refl _⟩| cons b B=>simp at h
    | cons w M ih=>intro B h;obtain⟨b,hb,e⟩:=mem_map.1 (h.mem_iff.1 (by simp:w∈w::M));obtain⟨Z,Y,rfl⟩:=append_of_mem hb;have h2:(w::M).Perm (w::(Z++Y).map Bc):=(by refine h.trans ?_;rw[map_append,map_append,map_cons,e];exact perm_middle);obtain⟨S,D,A⟩:=ih (Z++Y) h2.cons_inv;exact⟨b::S,by rw[map_cons,e,D],(A.cons b).trans perm_middle.symm⟩
   exact inj R _ r2
  subst D;exact⟨S,r1,A⟩
 obtain⟨S,U⟩:=Classical.axiomOfChoice g;have f:((range 7).flatMap S).Perm L:=by
  have h1:=Axi (dgi data t) 7 L λx hx=>(q x hx).2;refine Perm.trans ?_ h1;have:∀R:List Nat,(R.flatMap S).Perm (R.flatMap λd=>L.filter λx=>dgi data t x==d):=λR=>by induction R with| nil=>exact Perm.refl _| cons d R ih=>rw[flatMap_cons,flatMap_cons];exact (U d).2.append ih
  exact this _
 have key:Nt (pls L) (L.map Bc) data t.G t.U t.R=some (if 1000<L.length then ([],9) else (((range 7).flatMap S).map Bc,0)):=by
  unfold Nt;refine K4 L.length (λj=>((j:Int),(j:Int),(bk data t (L.take j) 0).map Bc,(bk data t (L.take j) 1).map Bc,(bk data t (L.take j) 2).map Bc,(bk data t (L.take j) 3).map Bc,(bk data t (L.take j) 4).map Bc,(bk data t (L.take j) 5).map Bc,(bk data t (L.take j) 6).map Bc)) (by simp[bk]) ?_ ⟨((L.length:Int),(bk data t L 0).map Bc,(bk data t L 1).map Bc,(bk data t L 2).map Bc,(bk data t L 3).map Bc,(bk data t L 4).map Bc,(bk data t L 5).map Bc,(bk data t L 6).map Bc),?_,?_⟩
  .intro j hj;have hx:L[j]? = some L[j]:=Bt hj;generalize L[j]=x at hx;have z:=Bv hx;obtain⟨g1,g2,g3⟩:=y.mo x z;obtain⟨d1,d2⟩:=q x z;have hp:=y.pos x z;have a1:=Qa z;have E:(L.map Bc)[j]? = some (Bc x):=(by rw[getElem?_map,hx];rfl);have i:(((L.map Bc).length:Nat):Int)=(L.length:Int):=(by rw[C6]);have k:Np (Bc x).C x.2:=Np.c ω;have I:Ik (Bc x).C=some 1:=(by rw[k.sign,Ar ω]);have u:Ko (Bc x).C=some (cR x.2):=k.can;have s:Mq data t (Bc x).I=some (dgi data t x:Int):=(by show Mq data t x.1=_;rw[Agt hz hv t hg x.1 g1,d1,Q6 ω]);have J:L8 4000000 (Bc x).I=some x.1:=(by rw[Axf];exact Aus 4000000 x.1 ω ω);have N:∀d,Cg 88 ((bk data t (L.take j) d).map Bc) [⟨x.1,cR x.2⟩]=some ((bk data t (L.take j) d).map Bc++[⟨x.1,cR x.2⟩]):=λd=>Ds (by have:=V j d;rw[length_singleton];omega);simp only[i,As (ω:(j:Int)<(L.length:Int)),Am,Bu rfl E,Ad,I,show ((1:Int) != 0)=true from rfl,G,s,Axj _ d2,C9 hj ω];simp only[Ba3 hx];rcases (ω:dgi data t x=0\/dgi data t x=1\/dgi data t x=2\/dgi data t x=3\/dgi data t x=4\/dgi data t x=5\/dgi data t x=6) with e|e|e|e|e|e|e <;> (simp only[e,i7,J,u,N,Ad];simp[Bc])
  .have i:(((L.map Bc).length:Nat):Int)=(L.length:Int):=(by rw[C6]);simp only[i,Ay (ω:¬(L.length:Int)<(L.length:Int)),Aq,Db]
  .dsimp only;by_cases h:1000<L.length
   .rw[As ω,Am,Au h]
   .rw[Ay ω,Aq,Ar h];have hB:∀d,Lk ((bk data t L d).map Bc)=some ((S d).map Bc):=λd=>(U d).1;have hG:∀d,Gf (bk data t L d).length ((S d).map Bc)=some ():=λd=>M3 (by have h:((S d).map Bc).length=(S d).length:=ψ;rw[h];exact (U d).2.length_eq.symm);refine K4 7 (λj=>((j:Int),(if 0<j then (S 0).map Bc else (bk data t L 0).map Bc),(if 1<j then (S 1).map Bc else (bk data t L 1).map Bc),(if 2<j then (S 2).map Bc else (bk data t L 2).map Bc),(if 3<j then (S 3).map Bc else (bk data t L 3).map Bc),(if 4<j then (S 4).map Bc else (bk data t L 4).map Bc),(if 5<j then (S 5).map Bc else (bk data t L 5).map Bc),(if 6<j then (S 6).map Bc else (bk data t L 6).map Bc))) rfl ?_ ⟨((S 0).map Bc,(S 1).map Bc,(S 2).map Bc,(S 3).map Bc,(S 4).map Bc,(S 5).map Bc,(S 6).map Bc),rfl,?_⟩
    .intro j hj;have hw:Ac ((j:Int)+1)=((j+1:Nat):Int):=C9 (n:=7) hj ω;simp only[As (ω:(j:Int)<((7:Nat):Int)),Am,Axj j hj,Ad,hw];rcases (ω:j=0\/j=1\/j=2\/j=3\/j=4\/j=5\/j=6) with rfl|rfl|rfl|rfl|rfl|rfl|rfl <;> (dsimp only[i7];simp[hB,hG])
    .have l:([(S 0).map Bc,(S 1).map Bc,(S 2).map Bc,(S 3).map Bc,(S 4).map Bc,(S 5).map Bc,(S 6).map Bc]:List (List Av)).flatten=((range 7).flatMap S).map Bc:=(by rw[show range 7 = [0,1,2,3,4,5,6] from rfl];simp[map_append]);dsimp only;rw[Ba0 _ ψ (by rw[l,C6,f.length_eq];omega),l];rfl
 by_cases h:1000<L.length
 .rw[Au h]at key;exact .inl ⟨h,key⟩
 .rw[Ar h]at key;exact .inr ⟨ω,_,key,f⟩
def GI (data:List Ak) (t:Af) (S D:Nat) (i:Ai):Prop:=Ca i<=S/\iR i/\∃d,Dj data i t=some d/\d<=D
theorem GI.mono (h:GI data t S D i) (b:S<=S') (c:D<=D'):GI data t S' D' i:=by obtain⟨h1,h2,d,h3,f⟩:=h;exact⟨ω,h2,d,h3,ω⟩
theorem Cw.imp {Q:Ai->Prop} (h:Cw P L) (hi:∀i,P i->Q i):Cw Q L:=⟨h.dst,λt ht=>hi _ (h.mo t ht),h.pos⟩
theorem GI.good (b:S<=1048576) (c:D<=6) (h:GI data t S D i):Axk data t i:=h.mono b c
theorem Ahs (b:DSz data) (hv:Ia data) (hg:G1 data t=true) (c:S<=1048576) (k:D<=6) (j:∀p∈L,GI data t S D p.1/\1<=p.2) (g:pv (λ_=>1) L<Fa) (q:L.length<=2000) : Q2 data t (L.map Bc)=some ([],9)\/∃P,Q2 data t (L.map Bc)=some (P.map Bc,0)/\Cw (GI data t S D) P/\P.length<=1000/\∀f:Ai->Nat,pv f P=pv f L:=by
 unfold Q2 Xc;rw[Ay (by rw[C6];omega),Aq];simp only[Ad];obtain⟨T,a1,a2,a3,a4⟩:=Axe (P:=GI data t S D) (λi h=>⟨by have:=h.1;omega,h.2.1⟩) L [] (Cw.nil _) j (by show 0+_<Fa;omega) ζ data t.G t.U t.R;have a1:So (L.map Bc) [] [] data t.G t.U t.R=some (pls T,T.map Bc):=a1;rw[a1];simp only[Ad];have a4:∀f:Ai->Nat,pv f T=pv f L:=λf=>by rw[a4];show 0+_=_;omega
 rcases Axl b hv hg (a2.imp λi h=>h.good c k) (by rw[a4];exact g) (by simp at a3;omega) with⟨_,h⟩|⟨h1,R,h2,h3⟩
 .left;rw[h];rfl
 .right;rw[h2];refine⟨R,rfl,⟨(h3.pairwise_iff (λ{x y} h=>h.symm)).2 a2.dst,λp hp=>a2.mo p (h3.mem_iff.1 hp),λp hp=>a2.pos p (h3.mem_iff.1 hp)⟩,by rw[h3.length_eq];exact h1,λf=>?_⟩;rw[<-a4 f];have:∀{A B:List (Ai×Nat)},A.Perm B->pv f A=pv f B:=λ{A B} h=>by induction h with| nil=>rfl| cons x _ ih=>simp only[pv,ih]| swap x y l=>simp only[pv];omega| trans _ _ h1 h2=>rw[h1,h2]
  exact this h3
theorem Aht (g:DSz data) (hv:Ia data) (hg:G1 data t=true) (u:S<=1048576) (x:D<=6) (l:∀p∈L,GI data t S D p.1) (s:L.length<=2000):Uv data t (L.map Bc)=some true:=by
 have b:Ur data t=some true:=by have f:=hg;simp only[G1,C3,Dt]at f;obtain⟨q,k,h⟩:=Afs g;have hq:q=true:=h.2 hv;subst hq;unfold Ur;rw[k,Xu data t 0 ω];simp only[Ad,Am];rw[show (E6 data 0 t&&decide (Bz t<=200))=G1 data t from rfl,hg]
 have c:∃i,Aai data t=some (i,true):=by unfold Aai;rw[b,Ad];simp only[bnt,Aq];have f:=hg;simp only[G1,C3,Dt]at f;obtain⟨i,hi,_⟩:=A6z 4000000 t ω ω;exact⟨i,by rw[hi];rfl⟩
 obtain⟨i,hi⟩:=c;unfold Uv;rw[hi,Ad];simp only[Am];have hc:Aaj (L.map Bc) data t=some false:=by
  unfold Aaj Ae0;refine bnd (a:= -1) ?_ rfl;refine F3 (L.map Bc) (λj=>(j:Int)) rfl (by rw[C6];omega) ?_ ?_
  .intro j w' hj hw h1 h2 h3;rw[getElem?_map]at hw;obtain⟨w,hq,rfl⟩:=Option.map_eq_some_iff.1 hw;obtain⟨g1,g2,d,d1,d2⟩:=l w (Bv hq);have:Aak (Bc w) data t=some false:=(by unfold Aak Wt;show ((Mq data t w.1).bind λv3=>some (decide (v3>=0))).bind _=_;rw[Agt g hv t hg w.1 ω,d1,Q6 ω];simp only[Ad];rw[As ω];rfl);simp only[h1,h2,h3,Am,Ad,this,Aq]
  .intro h1;exact⟨_,by simp only[h1];rfl,rfl⟩
 rw[hc];rfl
theorem Ba4 {c:Nat} (f:∀p∈L,p.2<Fa) (hc:c<Fa) (g:L.length<=1000000):Uw (L.map Bc) (cR c)=some ((L.map λp=>(p.1,p.2*c)).map Bc):=by
 unfold Uw;refine F3 (L.map Bc) (λj=>((j:Int),((L.take j).map λp=>(p.1,p.2*c)).map Bc)) ψ (by rw[C6];omega) ?_ ?_
 .intro j w' hj hw h1 h2 h3;rw[getElem?_map]at hw;obtain⟨w,hq,rfl⟩:=Option.map_eq_some_iff.1 hw;have b:Ec (Bc w).C (cR c)=some (cR (w.2*c)):=Np.mul (Np.c (f w (Bv hq))) (Np.c hc);simp only[h1,h2,h3,Am,Ad,b];rw[Ds (by rw[C6,C6,length_take,length_singleton];omega),Ad,Da hq,map_append,map_append];rfl
 .intro h1;refine⟨_,by simp only[h1];rfl,?_⟩;rw[C6,Db]
def KM:Nat:=400000
theorem Axm {α:Type} (f:α->Nat) (c:Nat):∀L:List (α×Nat),pv f (L.map λp=>(p.1,p.2*c))=c*pv f L
 | []=>rfl
 | p::L=>by rw[map_cons,pv,Axm f c L,pv,Nat.mul_add];have:p.2*c*f p.1=c*(p.2*f p.1):=(by ac_rfl);show p.2*c*f p.1+_=_;omega
theorem Ba5 (f:α->Nat) {A B:List (α×Nat)} (h:A.Perm B):pv f A=pv f B:=by induction h with| nil=>rfl| cons x _ ih=>simp only[pv,ih]| swap x y l=>simp only[pv];omega| trans _ _ h1 h2=>rw[h1,h2]
def pv2 (data:List Ak) (t:Af) (f:Ai->Nat) (P Q:List (Ai×Nat)):Nat:=pv (λa=>pv (λb=>pv f (D5 data KM t a b)) Q) P
theorem Ahu (f:α->Nat) {L:List (α×Nat)} {x:α×Nat} (h:L[j]? = some x):pv f (L.take (j+1))=pv f (L.take j)+x.2*f x.1:=by rw[Da h,Kg];simp only[pv];omega
theorem Axn (f:α->Nat) (L:List (α×Nat)) (j:Nat):pv f (L.take j)<=pv f L:=by have:=Kg f (L.take j) (L.drop j);rw[take_append_drop]at this;omega
theorem Ahv {f g:α->Nat} {L:List (α×Nat)} (h:∀p∈L,f p.1<=g p.1):pv f L<=pv g L:=Bac h
noncomputable def Acu (data:List Ak) (t:Af) (v:Av) (q:List Av):Int×List (ByteArray×Int)×List Av->Option ((Int×List (ByteArray×Int)×List Av)⊕(Int×List (ByteArray×Int)×List Av)):=λ(b,j,g)=> bif b<(q.length:Int) then ((Ag q b).bind λf=> (Ov (4000000) data t v.I f.I).bind λi=> (Ec v.C f.C).bind λh=> (Uw i h).bind λv105=> (So v105 j g data t.G t.U t.R).bind λc=> some (.inl ((Ac (b+1)),c.1,c.2))) else (some (.inr (b,j,g)))
theorem Ba6 (hz:DSz data) (hv:Ia data) (hg:G1 data t=true) (hS:S+S'<=400000) (hD:D+D'<=6) {v:Ai×Nat} (B:GI data t S D v.1) (E:v.2<Fa) (G:1<=v.2) {Q:List (Ai×Nat)} (R:Cw (GI data t S' D') Q) (a8:Q.length<=1000) (aa:pv (λ_=>1) Q<Fa) {g:List (Ai×Nat)} (J:Cw (GI data t (S+S') (D+D')) g) (Y:g.length<=900000000) (hb:pv (λ_=>1) g+729*(v.2*pv (λ_=>1) Q)<Fa) : ∃u,An (Acu data t (Bc v) (Q.map Bc)) (0,pls g,g.map Bc)=some ((Q.length:Int),pls u,u.map Bc)/\Cw (GI data t (S+S') (D+D')) u/\u.length<=g.length+729*Q.length/\∀f:Ai->Nat,pv f u=pv f g+v.2*pv (λb=>pv f (D5 data KM t v.1 b)) Q:=by
 have y:(((Q.map Bc).length:Nat):Int)=(Q.length:Int):=by rw[C6]
 obtain⟨e,e1,u,rfl,e2,e3,e4⟩:=Li (step:=Acu data t (Bc v) (Q.map Bc)) (λ(s:Int×List (ByteArray×Int)×List Av)=>∃(j:Nat) (u:List (Ai×Nat)),s=((j:Int),pls u,u.map Bc)/\j<=Q.length/\Cw (GI data t (S+S') (D+D')) u/\u.length<=g.length+729*j/\∀f:Ai->Nat,pv f u=pv f g+v.2*pv (λb=>pv f (D5 data KM t v.1 b)) (Q.take j)) (λs=>Q.length-s.1.toNat) (λe=>∃u,e=((Q.length:Int),pls u,u.map Bc)/\Cw (GI data t (S+S') (D+D')) u/\u.length<=g.length+729*Q.length/\∀f:Ai->Nat,pv f u=pv f g+v.2*pv (λb=>pv f (D5 data KM t v.1 b)) Q) (by
   rintro _ ⟨j,u,rfl,hj,hu,I,k⟩;rcases Ch j Q.length with h|h
   .left;have hx:Q[j]? = some Q[j]:=Bt h;generalize Q[j]=w at hx;have M:=Bv hx;obtain⟨w1,X,U,V,w4⟩:=R.mo w M;have wp:=R.pos w M;have wb:=Qa M;obtain⟨v1,v2,dv,v3,v4⟩:=B;have A:(Q.map Bc)[j]? = some (Bc w):=(by rw[getElem?_map,hx];rfl);have x:Ov 4000000 data t (Bc v).I (Bc w).I=some ((D5 data KM t v.1 w.1).map Bc):=Bar hv.szv hz.sz.short KM t v.1 w.1 4000000 dv U (by unfold KM;omega) (by unfold KM;omega) v3 V ω (by have:=hg;simp only[G1,C3,Dt]at this;exact this.2) v2 X;obtain⟨g1,g2⟩:=Rk data KM t v.1 w.1 dv U (by unfold KM;omega) v3 V ω v2 X;have a6:=Tn (show dv+U<=6 by omega);have Z:(D5 data KM t v.1 w.1).length<=729:=(by have:=P9 λp hp=>(g1 p hp).pos;omega);have N:Ec (Bc v).C (Bc w).C=some (cR (v.2*w.2)):=Np.mul (Np.c E) (Np.c ω);have a7:v.2*w.2<=v.2*pv (λ_=>1) Q:=Nat.mul_le_mul_left _ wb;have L:Uw ((D5 data KM t v.1 w.1).map Bc) (cR (v.2*w.2))=some (((D5 data KM t v.1 w.1).map λp=>(p.1,p.2*(v.2*w.2))).map Bc):=Ba4 (λp hp=>by have:=Qa hp;have:(1000:Nat)<Fa:=(by unfold Fa;decide);omega) ω ω;have l:∀f:Ai->Nat,pv f ((D5 data KM t v.1 w.1).map λp=>(p.1,p.2*(v.2*w.2)))=v.2*w.2*pv f (D5 data KM t v.1 w.1):=λf=>Axm f _ _;have z:pv (λ_=>1) u+pv (λ_=>1) ((D5 data KM t v.1 w.1).map λp=>(p.1,p.2*(v.2*w.2)))<Fa:=(by rw[l,k];have k0:pv (λb=>pv (λ_=>1) (D5 data KM t v.1 b)) (Q.take (j+1))<=729*pv (λ_=>1) Q:=(by refine Nat.le_trans (Axn _ Q (j+1)) ?_;rw[<-O5];refine Ahv λp hp=>?_;obtain⟨p1,p2,dp,p3,p4⟩:=R.mo p hp;have:=(Rk data KM t v.1 p.1 dv dp (by unfold KM;omega) v3 p3 ω v2 p2).2;have:=Tn (show dv+dp<=6 by omega);omega);have k1:=Ahu (λb=>pv (λ_=>1) (D5 data KM t v.1 b)) hx;have k2:=Nat.mul_le_mul_left v.2 k0;rw[k1,Nat.mul_add]at k2;have k3:v.2*(729*pv (λ_=>1) Q)=729*(v.2*pv (λ_=>1) Q):=(by ac_rfl);have k4:v.2*(w.2*pv (λ_=>1) (D5 data KM t v.1 w.1))=v.2*w.2*pv (λ_=>1) (D5 data KM t v.1 w.1):=(by ac_rfl);omega);obtain⟨T,a1,a2,a3,a4⟩:=Axe (P:=GI data t (S+S') (D+D')) (λi h=>⟨by have:=h.1;omega,h.2.1⟩) ((D5 data KM t v.1 w.1).map λp=>(p.1,p.2*(v.2*w.2))) u hu (λp hp=>by obtain⟨q,hq,rfl⟩:=mem_map.1 hp;obtain⟨d,d1,d2⟩:=(g1 q hq).deg;refine⟨⟨by have:=(g1 q hq).siz;show Ca q.1<=_;omega,(g1 q hq).num,d,d1,ω⟩,?_⟩;exact Nat.mul_pos (g1 q hq).pos (Nat.mul_pos G wp)) z (by rw[C6];omega) data t.G t.U t.R;refine⟨((j+1:Nat),pls T,T.map Bc),?_,⟨j+1,T,rfl,ω,a2,by rw[C6]at a3;omega,λf=>?_⟩,ζ⟩
    .unfold Acu;simp only[y,As (ω:(j:Int)<(Q.length:Int)),Am,Bu rfl A,Ad,x,N,L,a1,C9 h ω]
    .rw[a4,k,l,Ahu _ hx,Nat.mul_add];have:v.2*(w.2*pv f (D5 data KM t v.1 w.1))=v.2*w.2*pv f (D5 data KM t v.1 w.1):=(by ac_rfl);omega
   .right;have:j=Q.length:=ω;subst this;rw[Db]at k;exact⟨_,by unfold Acu;simp only[y,Ay (ω:¬(Q.length:Int)<(Q.length:Int)),Aq],u,rfl,hu,I,k⟩)
  (0,pls g,g.map Bc) ⟨0,g,rfl,ω,J,ω,λf=>by rw[take_zero];show _=_+v.2*0;omega⟩;exact⟨u,e1,e2,e3,e4⟩
theorem Axo:(729:Nat)<Fa:=by unfold Fa;decide
noncomputable def Acv (data:List Ak) (t:Af) (p q:List Av):Int×List (ByteArray×Int)×List Av->Option ((Int×List (ByteArray×Int)×List Av)⊕(List (ByteArray×Int)×List Av)):=λ(v78,c,b)=> bif v78<(p.length:Int) then ((Ag p v78).bind λh=> (An (Acu data t h q) (0,c,b)).bind λ(_,g,f)=> some (.inl ((Ac (v78+1)),g,f))) else (some (.inr (c,b)))
theorem Ba7 (A:DSz data) (hv:Ia data) (hg:G1 data t=true) (hS:S+S'<=400000) (hD:D+D'<=6) (hL:∀p∈L,GI data t S D p.1/\1<=p.2) (hM:∀p∈M,GI data t S' D' p.1/\1<=p.2) (U:L.length<=2000) (N:M.length<=2000) (af:L≠[]) (ae:M≠[]) (hN:729*(pv (λ_=>1) L*pv (λ_=>1) M)<Fa) : Mr data t (L.map Bc) (M.map Bc)=some ([],9)\/∃R,Mr data t (L.map Bc) (M.map Bc)=some (R.map Bc,0)/\Cw (GI data t (S+S') (D+D')) R/\R.length<=1000/\∀f:Ai->Nat,pv f R=pv2 data t f L M:=by
 have n1:1<=pv (λ_=>1) L:=by have h1:=P9 λp hp=>(hL p hp).2;cases L with| nil=>exact (af rfl).elim| cons a l=>simp at h1;omega
 have n2:1<=pv (λ_=>1) M:=by have h1:=P9 λp hp=>(hM p hp).2;cases M with| nil=>exact (ae rfl).elim| cons a l=>simp at h1;omega
 have m1:pv (λ_=>1) L<=pv (λ_=>1) L*pv (λ_=>1) M:=Nat.le_mul_of_pos_right _ n2;have m2:pv (λ_=>1) M<=pv (λ_=>1) L*pv (λ_=>1) M:=Nat.le_mul_of_pos_left _ n1;unfold Mr;rw[Aht A hv hg (show S<=1048576 by omega) (show D<=6 by omega) (λp hp=>(hL p hp).1) U,Aht A hv hg (show S'<=1048576 by omega) (show D'<=6 by omega) (λp hp=>(hM p hp).1) N];simp only[Ad,bnt,Aq];rcases Ahs A hv hg (show S<=1048576 by omega) (show D<=6 by omega) hL ω U with h|⟨P,p1,V,p3,p5⟩
 .left;rw[h];rfl
 .rw[p1];simp only[Ad,show ((0:Int) != 0)=false from rfl,Aq];rcases Ahs A hv hg (show S'<=1048576 by omega) (show D'<=6 by omega) hM ω N with h|⟨Q,q1,q2,q3,Z⟩
  .left;rw[h];rfl
  .rw[q1];simp only[Ad,show ((0:Int) != 0)=false from rfl,Aq];have ac:P.length≠0:=λe=>by have:P = []:=Fu.1 e;have h:=p5 λ_=>1;rw[this]at h;have h:0=pv (λ_=>1) L:=h;omega
   have aa:Q.length≠0:=λe=>by have:Q = []:=Fu.1 e;have h:=Z λ_=>1;rw[this]at h;have h:0=pv (λ_=>1) M:=h;omega
   have wP:Ac (((P.map Bc).length:Int)-1)=((P.length-1:Nat):Int):=(by rw[C6,Ac,Cj] <;> omega);have wQ:Ac (((Q.map Bc).length:Int)-1)=((Q.length-1:Nat):Int):=(by rw[C6,Ac,Cj] <;> omega);have q:∀{R:List (Ai×Nat)} {S D:Nat},S<=1048576->D<=6->Cw (GI data t S D) R->R.length≠0->∃(w:Av) (d:Nat),(R.map Bc)[R.length-1]? = some w/\Mq data t w.I=some (d:Int)/\d<=D:=λ{R S D} h1 h2 h3 h4=>by have hx:R[R.length-1]? = some (R[R.length-1]' ω):=Bt _;generalize R[R.length-1]'_=x at hx;obtain⟨g1,g2,d,g3,g4⟩:=h3.mo x (Bv hx);refine⟨Bc x,d,by rw[getElem?_map,hx];rfl,?_,g4⟩;show Mq data t x.1=_;rw[Agt A hv t hg x.1 ω,g3,Q6 ω]
   obtain⟨a,da,a1,a2,a3⟩:=q (show S<=1048576 by omega) ω V ac;obtain⟨b,db,b1,b2,b3⟩:=q (show S'<=1048576 by omega) ω q2 aa;have Y:Ac ((da:Int)+(db:Int))=(da:Int)+(db:Int):=ξ;have lP:(((P.map Bc).length:Nat):Int)=(P.length:Int):=(by rw[C6]);rw[C7 (by rw[C6];omega),C7 (by rw[C6];omega)];simp only[Aq,Ad,wP,wQ,Bu rfl a1,Bu rfl b1,a2,b2,Y];rw[Ay ω,Aq];unfold Xc;simp only[Ad];have ab:pv (λ_=>1) Q=pv (λ_=>1) M:=Z _;have ad:pv (λ_=>1) P=pv (λ_=>1) L:=p5 _;have s:∀j,729*(pv (λ_=>1) (P.take j)*pv (λ_=>1) Q)<Fa:=λj=>by have h1:=Axn (λ_=>1) P j;have h2:=Nat.mul_le_mul_right (pv (λ_=>1) Q) h1;rw[ad]at h2;rw[ab]at h2 ⊢;omega
   have G:∀a,GI data t S D a->pv (λb=>pv (λ_=>1) (D5 data KM t a b)) Q<=729*pv (λ_=>1) Q:=λa ha=>by rw[<-O5];refine Ahv λp hp=>?_;obtain⟨x1,x2,dp,x3,x4⟩:=q2.mo p hp;obtain⟨v1,v2,dv,v3,v4⟩:=ha;have:=(Rk data KM t a p.1 dv dp (by unfold KM;omega) v3 x3 ω v2 x2).2;have:=Tn (show dv+dp<=6 by omega);omega
   have z:∀j,pv2 data t (λ_=>1) (P.take j) Q<=729*(pv (λ_=>1) (P.take j)*pv (λ_=>1) Q):=λj=>by
    unfold pv2;have h1:pv (λa=>pv (λb=>pv (λ_=>1) (D5 data KM t a b)) Q) (P.take j)<=pv (λa=>729*pv (λ_=>1) Q*1) (P.take j):=Ahv λp hp=>by rw[Nat.mul_one];exact G p.1 (V.mo p (mem_of_mem_take hp))
    rw[O5]at h1;refine Nat.le_trans h1 (Nat.le_of_eq ?_)
    ac_rfl
   have E:∃T:List (Ai×Nat),Cw (GI data t (S+S') (D+D')) T/\T.length<=900000000/\(∀f:Ai->Nat,pv f T=pv2 data t f P Q)/\∀{X:Type} {J:List (ByteArray×Int)×List Av->Option X} {x:X},J (pls T,T.map Bc)=some x->(An (Acv data t (P.map Bc) (Q.map Bc)) (0,[],[])).bind J=some x:=by
    have I:∀j,j<=P.length->∃u:List (Ai×Nat),Cw (GI data t (S+S') (D+D')) u/\u.length<=729*Q.length*j/\(∀f:Ai->Nat,pv f u=pv2 data t f (P.take j) Q)/\∀{X:Type} {J:List (ByteArray×Int)×List Av->Option X},(An (Acv data t (P.map Bc) (Q.map Bc)) (0,[],[])).bind J=(An (Acv data t (P.map Bc) (Q.map Bc)) ((j:Int),pls u,u.map Bc)).bind J:=by
     intro j;induction j with
     | zero=>intro _;exact⟨[],Cw.nil _,ψ,λf=>by rw[take_zero];rfl,λ{X J}=>rfl⟩
     | succ j ih=>
      intro hj;obtain⟨u,u1,u2,u3,u4⟩:=ih ω;have hx:P[j]? = some (P[j]' ω):=Bt _;generalize P[j]'_=v at hx;have hm:=Bv hx;have a6:(P.map Bc)[j]? = some (Bc v):=(by rw[getElem?_map,hx];rfl);have ai:=Qa hm;have ag:=Ahu (λ_=>1) hx;have b3:=s (j+1);have b4:=z j;rw[ag,Nat.add_mul,Nat.mul_one]at b3;have ah:=u3 λ_=>1;have a7:729*Q.length*j<=729*1000*1000:=Nat.mul_le_mul ω ω;obtain⟨T,t1,t2,t3,t4⟩:=Ba6 A hv hg hS hD (V.mo v hm) ω (V.pos v hm) q2 q3 ω u1 ω ω;refine⟨T,t2,by rw[Nat.mul_succ];omega,λf=>?_,λ{X J}=>?_⟩
      .rw[t4,u3];unfold pv2;rw[Ahu _ hx]
      .rw[u4,Lz (s':=(((j+1:Nat):Int),pls T,T.map Bc))];unfold Acv;simp only[lP,As (ω:(j:Int)<(P.length:Int)),Am,Bu rfl a6,Ad,t1,C9 (show j<P.length by omega) ω]
    obtain⟨T,t1,t2,t3,t4⟩:=I P.length (Nat.le_refl _);rw[Db]at t3;have a7:729*Q.length*P.length<=729*1000*1000:=Nat.mul_le_mul ω ω;refine⟨T,t1,ω,t3,λ{X J x} hJ=>?_⟩;rw[t4,Gn (e:=(pls T,T.map Bc)) (by unfold Acv;simp only[lP,Ay (ω:¬(P.length:Int)<(P.length:Int)),Aq])];exact hJ
   obtain⟨T,t1,t2,t3,t4⟩:=E;have a8:pv (λ_=>1) T<Fa:=(by rw[t3];have h1:=z P.length;rw[Db]at h1;have h2:=s P.length;rw[Db]at h2;omega);have B:∀f:Ai->Nat,pv2 data t f P Q=pv2 data t f L M:=λf=>by unfold pv2;rw[p5];congr 1;funext a;exact Z _
   rcases Axl A hv hg (t1.imp λi h=>h.good ω ω) a8 ω with⟨_,h⟩|⟨h1,R,h2,h3⟩
   .left;exact t4 (J:=λ(k,g)=>(Nt k g data t.G t.U t.R).bind λc=>some (c.1,c.2)) (by show (Nt (pls T) (T.map Bc) data t.G t.U t.R).bind _=_;rw[h];rfl)
   .right;refine⟨R,t4 (J:=λ(k,g)=>(Nt k g data t.G t.U t.R).bind λc=>some (c.1,c.2)) (by show (Nt (pls T) (T.map Bc) data t.G t.U t.R).bind _=_;rw[h2];rfl),⟨(h3.pairwise_iff (λ{x y} h=>h.symm)).2 t1.dst,λp hp=>t1.mo p (h3.mem_iff.1 hp),λp hp=>t1.pos p (h3.mem_iff.1 hp)⟩,by rw[h3.length_eq];exact h1,λf=>?_⟩;rw[Ba5 f h3,t3,B]
def Rl (data:List Ak) (t:Af):List Ai->(Ai->Nat)->Ai->Nat
 | [],f,a=>f a
 | r::rs,f,a=>pv (Rl data t rs f) (D5 data KM t a r)
theorem Am5 (data:List Ak) (t:Af) (r:Ai) (f:Ai->Nat):∀(c:List Ai) (a:Ai),Rl data t (c++[r]) f a=Rl data t c (λb=>pv f (D5 data KM t b r)) a
 | [],a=>rfl
 | q::c,a=>by show pv (Rl data t (c++[r]) f) (D5 data KM t a q)=pv (Rl data t c λb=>pv f (D5 data KM t b r)) (D5 data KM t a q);exact Rj λp _=>Am5 data t r f c p.1
def dgo (data:List Ak) (t:Af) (i:Ai):Nat:=match Dj data i t with|some d=>d|none=>0
def D9 (data:List Ak) (t:Af) (is:List Ai):Nat:=(is.map (dgo data t)).sum
theorem Ba8 (data:List Ak) (t:Af) (is:List Ai) (r:Ai):D9 data t (is++[r])=D9 data t is+dgo data t r:=by unfold D9;simp
structure GG (data:List Ak) (t:Af) (is:List Ai):Prop where
 num:∀i∈is,iR i
 deg:∀i∈is,Dj data i t=some (dgo data t i)
 siz:Ck is<=400000
 sum:D9 data t is<=6
 len:is.length<=6
def Am6 (data:List Ak) (t:Af) (f:Ai->Nat):Prop:=∀i j a b,Ca i<=KM->Dj data i t=some a->Dj data j t=some b->a+b<=6->iR i->iR j->pv f (D5 data KM t i j)=f i*f j
theorem Ba9 (data:List Ak) (t:Af) {w:Az} (h:Ha data w t=true):Am6 data t λi=>bv data i t w:=λi j a b h1 h2 h3 _ _ _=>Bah KM t i j w a b h1 h2 h3 h
theorem Axp {data:List Ak} {t:Af} {f:Ai->Nat} (hf:Am6 data t f):∀(b:List Ai) (a:Ai),GG data t (a::b)->Rl data t b f a=f a*D6 (b.map f)
 | [],a,_=>by simp[Rl,D6]
 | r::b,a,h=>by
  have s:=h.siz;have hd:=h.sum;have u:=h.len;have z:D9 data t (a::r::b)=dgo data t a+(dgo data t r+D9 data t b):=(by unfold D9;simp);rw[z]at hd;simp only[Ck]at s;simp only[D8]at u;have j:=h.num a ψ;have c:=h.num r ψ;have l:=h.deg a ψ;have k:=h.deg r ψ;obtain⟨g1,_⟩:=Rk data KM t a r _ _ (by unfold KM;omega) l k ω j c;show pv (Rl data t b f) (D5 data KM t a r)=f a*(f r*D6 (b.map f));rw[Rj (g:=λx=>D6 (b.map f)*f x) λp hp=>by
   have g:=g1 p hp;obtain⟨d,d1,d2⟩:=g.deg;have q:=g.siz;have y:dgo data t p.1=d:=(by unfold dgo;rw[d1]);have hp:GG data t (p.1::b):=by
    refine⟨λi hi=>?_,λi hi=>?_,by simp only[Ck];omega,?_,by simp only[D8];omega⟩
    .rcases F1.1 hi with rfl|hi
     .exact g.num
     .exact h.num i (by simp[hi])
    .rcases F1.1 hi with rfl|hi
     .rw[y];exact d1
     .exact h.deg i (by simp[hi])
    .have:D9 data t (p.1::b)=dgo data t p.1+D9 data t b:=(by unfold D9;simp);omega
   rw[Axp hf b p.1 hp,Nat.mul_comm],O5,hf a r _ _ (by unfold KM;omega) l k ω j c]
  ac_rfl
structure PRg (data:List Ak) (t:Af) (i0:Ai) (rs:List Ai) (R:List (Ai×Nat)):Prop where
 cw:Cw (GI data t (Ck (i0::rs)) (D9 data t (i0::rs))) R
 len:R.length<=1000
 val:∀f:Ai->Nat,pv f R=Rl data t rs f i0
 cnt:pv (λ_=>1) R<=3 ^ (D9 data t (i0::rs)*rs.length)
theorem PRg.one (h:GG data t [i]):PRg data t i [] [(i,1)]:=by
 refine⟨⟨pairwise_singleton _ _,λp hp=>?_,λp hp=>?_⟩,ψ,λf=>?_,by simp[pv]⟩
 .simp only[Et]at hp;subst hp;exact⟨by simp[Ck],h.num i ψ,_,h.deg i ψ,by simp[D9]⟩
 .simp only[Et]at hp;subst hp;exact Nat.le_refl _
 .show 1*f i+0=f i;omega
theorem GG.take {c:Ai} (h:GG data t (c::b)) (j:Nat):GG data t (c::b.take j):=by
 have k:=h.siz;have hd:=h.sum;have q:=h.len;have g:b=b.take j++b.drop j:=(take_append_drop j b).symm;have u:Ck b=Ck (b.take j)+Ck (b.drop j):=by rw[<-Vh,<-g]
 have s:D9 data t b=D9 data t (b.take j)+D9 data t (b.drop j):=by unfold D9;rw[<-sum_append,<-map_append,<-g]
 have f:∀l,D9 data t (c::l)=dgo data t c+D9 data t l:=λl=>by unfold D9;simp
 rw[f]at hd;simp only[Ck]at k;simp only[D8]at q;refine⟨λi hi=>?_,λi hi=>?_,by simp only[Ck];omega,by rw[f];omega,by rw[D8,length_take];omega⟩
 .rcases F1.1 hi with rfl|hi
  .exact h.num _ ψ
  .exact h.num i (by have:=mem_of_mem_take hi;simp[this])
 .rcases F1.1 hi with rfl|hi
  .exact h.deg _ ψ
  .exact h.deg i (by have:=mem_of_mem_take hi;simp[this])
theorem Bba (c:DSz data) (hv:Ia data) (hg:G1 data t=true) (f:S<=1048576) (g:D<=6) (j:∀p∈M,GI data t S D p.1/\1<=p.2) (b:M.length<=2000) (u:pv (λ_=>1) M<Fa) : Mr data t [] (M.map Bc)=some ([],9)\/Mr data t [] (M.map Bc)=some ([],0):=by
 have hb:=Axo;unfold Mr;rw[show Uv data t []=some true from Aht c hv hg f g (L:=[]) (λp hp=>by cases hp) ψ,Aht c hv hg f g (λp hp=>(j p hp).1) b];simp only[Ad,bnt,Aq];rcases Ahs c hv hg f g (L:=[]) (λp hp=>by cases hp) (by show 0<Fa;omega) ψ with h|⟨P,i,q,A,l⟩
 .have h:Q2 data t []=some ([],9):=h;left;rw[h];rfl
 .have i:Q2 data t []=some (P.map Bc,0):=i;have s:P = []:=(by have h1:=P9 q.pos;rw[l]at h1;have h1:P.length<=0:=h1;exact Fu.1 ω);subst s;rw[i];simp only[Ad,show ((0:Int) != 0)=false from rfl,Aq];rcases Ahs c hv hg f g j u b with h|⟨Q,k,z,y,x⟩
  .left;rw[h];rfl
  .right;rw[k];rfl
theorem PRg.step (A:DSz data) (hv:Ia data) (hg:G1 data t=true) {r:Ai} {R:List (Ai×Nat)} (h:PRg data t i b R) (u:GG data t (i::(b++[r]))) : Mr data t (R.map Bc) [⟨r,cR 1⟩]=some ([],9)\/∃x,Mr data t (R.map Bc) [⟨r,cR 1⟩]=some (x.map Bc,0)/\PRg data t i (b++[r]) x:=by
 have hs:=u.siz;have hd:=u.sum;have V:=u.len;have I:∀l,D9 data t (i::l)=dgo data t i+D9 data t l:=λl=>by unfold D9;simp
 have Z:Ck (i::(b++[r]))=Ck (i::b)+Ca r:=by simp only[Ck,Vh];omega
 have Y:D9 data t (i::(b++[r]))=D9 data t (i::b)+dgo data t r:=by rw[I,I,Ba8];omega
 have y:b.length<=4:=by simp only[D8,E5,length_nil]at V;omega
 have z:=u.num r ψ;have J:=u.deg r ψ;have s:=h.cnt;have B:(3:Nat) ^ (D9 data t (i::b)*b.length)<=3 ^ 24:=Nat.pow_le_pow_right δ (Nat.mul_le_mul (ω:_<=6) y);have X:(729:Nat)*(3 ^ 24*1)<Fa:=by unfold Fa;decide
 have q:pv (λ_:Ai=>1) [(r,1)]=1:=rfl;have G:∀p∈[(r,1)],GI data t (Ca r) (dgo data t r) p.1/\1<=p.2:=λp hp=>by simp only[Et]at hp;subst hp;exact⟨⟨Nat.le_refl _,z,_,J,Nat.le_refl _⟩,Nat.le_refl _⟩
 have j:[(r,1)].map Bc = [⟨r,cR 1⟩]:=rfl;by_cases E:R = []
 .subst E;rcases Bba A hv hg (S:=Ca r) (D:=dgo data t r) ω ω G ψ (by rw[q];have:=Axo;omega) with c|c
  .left;rw[<-j];exact c
  .right;refine⟨[],by rw[<-j];exact c,⟨Cw.nil _,ψ,λf=>?_,Nat.zero_le _⟩⟩;rw[Am5,<-h.val];rfl
 rcases Ba7 A hv hg (S:=Ck (i::b)) (S':=Ca r) (D:=D9 data t (i::b)) (D':=dgo data t r) ω ω (L:=R) (M:=[(r,1)]) (λp hp=>⟨h.cw.mo p hp,h.cw.pos p hp⟩) G (by have:=h.len;omega) ψ E ψ (by rw[q];have:729*(pv (λ_=>1) R*1)<=729*(3 ^ 24*1):=ω;omega) with c|⟨x,c1,c2,c3,c5⟩
 .left;rw[<-j];exact c
 .right;have k:∀f:Ai->Nat,pv f x=pv (λa=>pv f (D5 data KM t a r)) R:=λf=>by rw[c5];unfold pv2;refine Rj λp hp=>?_;show 1*pv f (D5 data KM t p.1 r)+0=pv f (D5 data KM t p.1 r);omega
  refine⟨x,by rw[<-j];exact c1,⟨by rw[Z,Y];exact c2,c3,λf=>by rw[k,h.val,Am5],?_⟩⟩
  .rw[k];have h1:pv (λa=>pv (λ_=>1) (D5 data KM t a r)) R<=pv (λ_=>3 ^ (D9 data t (i::(b++[r])))*1) R:=Ahv λp hp=>by obtain⟨x1,U,d,N,x4⟩:=h.cw.mo p hp;have g:=(Rk data KM t p.1 r d _ (by unfold KM;omega) N J ω U z).2;rw[Nat.mul_one];exact Nat.le_trans g (Nat.pow_le_pow_right δ ω)
   rw[O5]at h1;have h2:=Nat.mul_le_mul_left (3 ^ (D9 data t (i::(b++[r])))) s;refine Nat.le_trans h1 (Nat.le_trans h2 ?_);rw[<-Nat.pow_add];refine Nat.pow_le_pow_right δ ?_;rw[E5,length_singleton,Nat.mul_add,Nat.mul_one,Nat.add_comm];exact Nat.add_le_add_right (Nat.mul_le_mul_right _ ω) _
def fl (v:Int) (is:List Ai):List Bh:=is.map λi=>⟨v,i⟩
def PMg (data:List Ak) (vars:List Af) (res:Af) (b:List (ByteArray×List Av)):Prop := ∀p∈b,∃(v:Int) (t:Af) (i0:Ai) (rs:List Ai) (R:List (Ai×Nat)),p.1=bs ((fl v (i0::rs)).flatMap D1)/\p.2=R.map Bc/\D4 vars res v=some t/\PRg data t i0 rs R
theorem PMg.nil (data:List Ak) (vars:List Af) (res:Af):PMg data vars res []:=λp hp=>by cases hp
theorem Bbb {w:Int} {j:Ai} {l m:List Ai} (h:bs ((fl v (i::l)).flatMap D1)=bs ((fl w (j::m)).flatMap D1)):v=w/\i=j/\l=m:=by
 have h1:=Al1 (By.flat By.fac _) (By.flat By.fac _) h;have h2:=(Al0 (fl v (i::l)) (fl w (j::m)) [] [] Jq.nil Jq.nil (by rw[append_nil,append_nil];exact h1)).1;have h3:(⟨v,i⟩:Bh)::fl v l=⟨w,j⟩::fl w m:=h2;injection h3 with a b;injection a with a1 a2;subst a1;refine⟨rfl,a2,?_⟩;unfold fl at b;have inj:∀(l m:List Ai),(l.map λi=>(⟨v,i⟩:Bh))=(m.map λi=>(⟨v,i⟩:Bh))->l=m:=by
  intro l;induction l with
  | nil=>intro m h;cases m with
   | nil=>rfl
   | cons a m=>simp at h
  | cons a l ih=>intro m h;cases m with
   | nil=>simp at h
   | cons b m=>
    simp only[map_cons,List.cons.injEq,Bh.mk.injEq,true_and]at h
    rw[h.1,ih m h.2]
 exact inj l m b
noncomputable def Ahw (data:List Ak) (t:Af) (F:List Bh) (b2:List (ByteArray×List Av)):List Av×Int->Option ((List Av×Int)⊕((List Av×Int×List (ByteArray×List Av))⊕List Av)):=λ(c,v39)=> bif v39<(F.length:Int) then ((Ag F v39).bind λv40=> (Mr data t c [(Av.mk v40.I (cR 1))]).bind λb=> bif (b.2 != (0:Int)) then (some (.inr (.inl ([],b.2,b2)))) else (some (.inl (b.1,(Ac (v39+1)))))) else (some (.inr (.inr c)))
theorem Bbc (x:DSz data) (hv:Ia data) (hg:G1 data t=true) {f:Ai} (u:GG data t (f::b)) (b2:List (ByteArray×List Av)) : ∃z,An (Ahw data t (fl v b) b2) ([⟨f,cR 1⟩],0)=some z/\(z = .inl ([],9,b2)\/∃R:List (Ai×Nat),z = .inr (R.map Bc)/\PRg data t f b R):=by
 have l:=u.len;simp only[D8]at l;have g:((fl v b).length:Int)=(b.length:Int):=by unfold fl;rw[C6]
 obtain⟨e,A,y⟩:=Li (step:=Ahw data t (fl v b) b2) (λ(s:List Av×Int)=>∃(j:Nat) (R:List (Ai×Nat)),s=(R.map Bc,(j:Int))/\j<=b.length/\PRg data t f (b.take j) R) (λs=>b.length-s.2.toNat) (λz=>z=(.inl ([],9,b2):((List Av×Int×List (ByteArray×List Av))⊕List Av))\/∃R:List (Ai×Nat),z = .inr (R.map Bc)/\PRg data t f b R) (by
   rintro _ ⟨j,R,rfl,hj,q⟩;rcases Ch j b.length with h|h
   .have hx:b[j]? = some b[j]:=Bt h;generalize b[j]=r at hx;have k:(fl v b)[j]? = some ⟨v,r⟩:=(by unfold fl;rw[getElem?_map,hx];rfl);have i:=u.take (j+1);rw[Da hx]at i;unfold Ahw;simp only[g,As (ω:(j:Int)<(b.length:Int)),Am,Bu rfl k,Ad];rcases q.step x hv hg i with c|⟨B,c1,c2⟩
    .right;exact⟨_,by rw[c];rfl,.inl rfl⟩
    .left;refine⟨_,by rw[c1];rfl,⟨j+1,B,by rw[C9 h ω],ω,by rw[Da hx];exact c2⟩,?_⟩;rw[C9 h ω];show b.length-((j+1:Nat):Int).toNat<b.length-(j:Int).toNat;omega
   .right;have:j=b.length:=ω;subst this;rw[Db]at q;exact⟨_,by unfold Ahw;simp only[g,Ay (ω:¬(b.length:Int)<(b.length:Int)),Aq],.inr ⟨R,rfl,q⟩⟩)
  ([⟨f,cR 1⟩],0) ⟨0,[(f,1)],rfl,ω,by rw[take_zero];exact PRg.one (by have:=u.take 0;rwa [take_zero]at this)⟩;exact⟨e,A,y⟩
theorem Bbd (hz:DSz data) (hv:Ia data) {vars:List Af} {res:Af} (hg:G1 data t=true) (ht:D4 vars res v=some t) (I:Ff v) {c:Ai} {g:List Ai} (L:GG data t (c::g)) (b1:List (ByteArray×Int)) {b2:List (ByteArray×List Av)} (hm:PMg data vars res b2) : ∃l e Z,Sf (fl v (c::g)) b1 b2 data vars res.G res.U res.R=some (l,e,Z)/\PMg data vars res Z/\((e=9/\l = [])\/(e=0/\∃R:List (Ai×Nat),l=R.map Bc/\PRg data t c g R)):=by
 have hs:=L.siz;have a6:=L.len;simp only[D8]at a6;have y:∀i∈c::g,Ca i<=1048576:=λi hi=>by have:=Kc hi;omega
 have D:∀i∈c::g,(D1 ⟨v,i⟩).length<=33554432:=λi hi=>Ag5 (y i hi) ⟨L.num i hi,I⟩;have a7:∀j,((fl v (c::g.take j)).flatMap D1).length<=6*33554432:=λj=>by
  refine Nat.le_trans (Al7 (n:=33554432) _ λa ha=>?_) (Nat.mul_le_mul_right _ ?_)
  .unfold fl at ha;obtain⟨i,hi,rfl⟩:=mem_map.1 ha;refine D i ?_;rcases F1.1 hi with rfl|hi
   .simp
   .have:=mem_of_mem_take hi;simp[this]
  .unfold fl;rw[C6,D8,length_take];omega
 have q:Ag (fl v (c::g)) 0=some ⟨v,c⟩:=rfl;have B:Kz v c=some (bs (D1 ⟨v,c⟩)):=Af6 v c I (L.num c ψ) (y c ψ);have s:Jv (bs (D1 ⟨v,c⟩)) []=some (((D1 ⟨v,c⟩).length:Int),D1 ⟨v,c⟩):=by have:=Vq (b:=[]) (By.fac ⟨v,c⟩) (by have:=D c ψ;simp;omega);rw[nil_append]at this;exact this
 have w1:Ac (0+1)=1:=by rw[Ac,Cj] <;> omega
 have h:∀{X:Type} {J:List Int->Option X} {x:Option X},J ((fl v (c::g)).flatMap D1)=x->(An (S:=(Int×List Int)) (E:=(List Int)) (λ(v17,N)=> bif v17<((fl v (c::g)).length:Int) then ((Ag (fl v (c::g)) v17).bind λM=> (Kz M.v M.I).bind λv21=> (Hm v21 N).bind λv22=> some (.inl ((Ac (v17+1)),v22.2))) else (some (.inr N))
  ) (1,D1 ⟨v,c⟩)).bind J=x:=λ{X J x} hJ=>by
  refine bnd (a:=(fl v (c::g)).flatMap D1) ?_ hJ;rw[<-Option.bind_fun_some (An _ _)];have Y:fl v (c::g)=⟨v,c⟩::fl v g:=rfl;rw[Y];refine Ab2 (⟨v,c⟩:Bh) (fl v g) (λj=>(((j+1:Nat):Int),(fl v (c::g.take j)).flatMap D1)) (by simp[fl]) (by unfold fl;rw[C6];omega) ?_ ?_
  .intro j f hf h1 h2 h3;have a8:∃i,g[j]? = some i/\f=⟨v,i⟩:=(by unfold fl at hf;rw[getElem?_map]at hf;obtain⟨i,h1,h2⟩:=Option.map_eq_some_iff.1 hf;exact⟨i,h1,h2.symm⟩);obtain⟨i,hi,rfl⟩:=a8;have A:i∈c::g:=(by have:=Bv hi;simp[this]);have hk:=a7 j;have aa:=D i A;have e1:Kz v i=some (bs (D1 ⟨v,i⟩)):=Af6 v i I (L.num i A) (y i A);have e2:Hm (bs (D1 ⟨v,i⟩)) ((fl v (c::g.take j)).flatMap D1)=some (((D1 ⟨v,i⟩).length:Int),(fl v (c::g.take j)).flatMap D1++D1 ⟨v,i⟩):=N7 (By.fac _) ω;simp only[h1,h2,h3,Am,Ad,e1,e2];have:fl v (c::g.take (j+1))=fl v (c::g.take j)++[⟨v,i⟩]:=(by unfold fl;rw[Da hi];simp);rw[this,flatMap_append];simp
  .intro h1;have V:(fl v g).length=g.length:=(by unfold fl;rw[C6]);refine⟨(fl v (c::g)).flatMap D1,?_,rfl⟩;rw[V]at h1 ⊢;simp only[Db,h1,Aq]
 have G:By ((fl v (c::g)).flatMap D1):=By.flat By.fac _;have a1:Nat.beq (bs ((fl v (c::g)).flatMap D1)).size 0=false:=by rw[Yc];have:(fl v (c::g)).flatMap D1=118::((ti v++58::wx c)++(fl v g).flatMap D1):=rfl;rw[this];rfl
 have U:L2 v b1 b2 data vars res.G res.U res.R=some t:=Aga b1 b2 data vars res ht;have k:E2 (fl v (c::g)) 1 ((fl v (c::g)).length:Int)=some (fl v g):=Amz ⟨v,c⟩ (fl v g);have u:decide ((0:Int)<((fl v (c::g)).length:Int))=true:=As (by unfold fl;rw[C6,D8];omega);cases hh:E3 b2 (bs ((fl v (c::g)).flatMap D1)) with
 | true=>have hex:∃R:List (Ai×Nat),Ir b2 (bs ((fl v (c::g)).flatMap D1)) []=R.map Bc/\PRg data t c g R:=(by unfold Ir;unfold E3 at hh;cases hf:b2.find? λp=>bs ((fl v (c::g)).flatMap D1)==p.1 with| none=>rw[find?_eq_none]at hf;obtain⟨p,hp,e⟩:=any_eq_true.1 hh;exact (hf p hp e).elim| some p=>obtain⟨w,t',j0,ss,R,g1,g2,g3,g4⟩:=hm p (mem_of_find?_eq_some hf);have e:=find?_some hf;have e:bs ((fl v (c::g)).flatMap D1)=p.1:=(N0 _ _).1 e;rw[g1]at e;obtain⟨rfl,rfl,rfl⟩:=Bbb e;rw[ht]at g3;cases g3;exact⟨R,g2,g4⟩);obtain⟨R,r1,r2⟩:=hex;refine⟨R.map Bc,0,b2,?_,hm,.inr ⟨rfl,R,rfl,r2⟩⟩;unfold Sf;rw[u,Am,q,Ad,B,Ad,s,Ad,w1];refine h ?_;rw[P7 G,Ad,hh,Am,r1];rfl
 | false=>
  obtain⟨z,z1,z2⟩:=Bbc hz hv hg (v:=v) L b2;rcases z2 with rfl|⟨R,rfl,r2⟩
  .refine⟨[],9,b2,?_,hm,.inl ⟨rfl,rfl⟩⟩;unfold Sf;rw[u,Am,q,Ad,B,Ad,s,Ad,w1];refine h ?_;rw[P7 G,Ad,hh,Aq,Ad];dsimp only;rw[Aq,Ad,U,Ad,Ad,Mg,Ad,k,Ad];exact bnd z1 rfl
  .refine⟨R.map Bc,0,Gv b2 (bs ((fl v (c::g)).flatMap D1)) (R.map Bc),?_,λp hp=>?_,.inr ⟨rfl,R,rfl,r2⟩⟩
   .unfold Sf;rw[u,Am,q,Ad,B,Ad,s,Ad,w1];refine h ?_;rw[P7 G,Ad,hh,Aq,Ad];dsimp only;rw[Aq,Ad,U,Ad,Ad,Mg,Ad,k,Ad];refine bnd z1 ?_;unfold Xo;dsimp only;rw[a1,Aq,Ad]
   .rcases Ald _ _ _ p hp with hp|rfl
    .exact hm p hp
    .exact⟨v,t,c,g,R,rfl,rfl,ht,r2⟩
abbrev Hg:=(List Bh×Rat)×Ent
inductive Fo (K:Nat):List Aj->List Hg->Prop
 | nil:Fo K [] []
 | cons {t:Aj} {b:Hg} {ts:List Aj} {bs:List Hg}:t.M=⟨b.1.1,b.2.1⟩->rq t.C=b.1.2*(b.2.2:Rat)->RB K t.C->b.1.1.length<=1000->Fo K ts bs->Fo K (t::ts) (b::bs)
theorem Fo.len {ts:List Aj} {bs:List Hg} (h:Fo K ts bs):ts.length=bs.length:=by induction h with| nil=>rfl| cons _ _ _ _ _ ih=>simp[ih]
theorem Fo.app {ts c:List Aj} {bs cs:List Hg} (h:Fo K ts bs) (h':Fo K c cs):Fo K (ts++c) (bs++cs):=by induction h with| nil=>exact h'| cons a b d e _ ih=>exact .cons a b d e ih
theorem Fo.mono {c:Nat} {ts:List Aj} {bs:List Hg} (h:Fo K ts bs) (hk:K<=c):Fo c ts bs:=by induction h with| nil=>exact .nil| cons a b d e _ ih=>exact .cons a b (d.mono hk) e ih
theorem Fo.get {ts:List Aj} {bs:List Hg} (h:Fo K ts bs):∀{j:Nat} {t:Aj},ts[j]? = some t->∃b,bs[j]? = some b/\t.M=⟨b.1.1,b.2.1⟩/\rq t.C=b.1.2*(b.2.2:Rat)/\RB K t.C/\b.1.1.length<=1000:=by
 induction h with
 | nil=>intro j t h;simp at h
 | @cons t b ts bs a1 a2 a3 a4 _ ih=>intro j u hj;cases j with| zero=>simp only[getElem?_cons_zero,Option.some.injEq]at hj;subst hj;exact⟨b,rfl,a1,a2,a3,a4⟩| succ j=>simp only[getElem?_cons_succ]at hj;simpa using ih hj
theorem Fo.mem {ts:List Aj} {bs:List Hg} (h:Fo K ts bs) {t:Aj} (ht:t∈ts):∃b∈bs,t.M=⟨b.1.1,b.2.1⟩/\rq t.C=b.1.2*(b.2.2:Rat)/\RB K t.C:=by obtain⟨j,hj⟩:=Ht ht;obtain⟨b,b1,b2,f,c,_⟩:=h.get hj;exact⟨b,Bv b1,b2,f,c⟩
def To (l:Co) (k c:Nat) (b:Hg):Hg:=(b.1,(b.2.1++atO l k,b.2.2*c))
def Kv (B:List Hg) (l:Co) (f:Nat->Nat) (n:Nat):List Hg:=(range n).flatMap λk=>if f k=0 then [] else B.map (To l k (f k))
theorem Ahx (B:List Hg) (l:Co) (f:Nat->Nat) (n:Nat):Kv B l f (n+1)=Kv B l f n++(if f n=0 then [] else B.map (To l n (f n))):=by unfold Kv;rw[range_succ,flatMap_append];simp
theorem Axq (B:List Hg) (l:Co) (f:Nat->Nat) (n:Nat):(Kv B l f n).length<=n*B.length:=by induction n with| zero=>simp[Kv]| succ n ih=>rw[Ahx,E5,Nat.add_mul,Nat.one_mul];have:(if f n=0 then ([]:List Hg) else B.map (To l n (f n))).length<=B.length:=(by split <;> simp);omega
variable {res t:Af} {u:Aj} {a:Ao} {x:Cd} {l:Co} {v:Int} {R:List (Ai×Nat)} {vars:List Af} {ts:List Aj} {data:List Ak} {B:List Hg} {D K L M S n:Nat}
theorem Bbe {c o:List Aj} {k f:Nat} {x:Ao} (y:Fo K c B) (hx:rq x=(f:Rat)) (i:RB 200 x) (S:K<30000000000) (R:∀b∈B,b.2.1.length<=M) (N:M<=1000) (hl:o.length+c.length<=1000000000) :
  ∃T,An (Aci c l (k:Int) x) (0,o)=some ((c.length:Int),o++T)/\Fo (K+202) T (B.map (To l k f)):=by
 obtain⟨e,X,T,V,U⟩:=Li (step:=Aci c l (k:Int) x) (λs=>∃(j:Nat) (T:List Aj),s=((j:Int),o++T)/\j<=c.length/\T.length=j/\Fo (K+202) T ((B.take j).map (To l k f))) (λs=>c.length-s.1.toNat)
  (λe=>∃T,e=((c.length:Int),o++T)/\Fo (K+202) T (B.map (To l k f))) (by
  rintro _ ⟨j,T,rfl,hj,L,q⟩
  rcases Ch j c.length with h|h
  .left
   have g:c[j]? = some c[j]:=Bt h
   generalize c[j]=t at g
   obtain⟨b,b1,b2,Z,Y,z⟩:=y.get g
   have J:=R b (Bv b1)
   have:=Awk l k
   obtain⟨u,I,G,E,D⟩:=A9j (F:=⟨b.1.1,z⟩) (A:=b.2.1) (B:=atO l k) b2 ω S Y i
   refine⟨_,?_,⟨j+1,T++[u],rfl,ω,by simp[L],?_⟩,ζ⟩
   .unfold Aci
    simp only[As (ω:(j:Int)<(c.length:Int)),Am,Bu rfl g,Ad,A9i,I,C9 h ω]
    rw[Ds ζ,Ad,append_assoc]
   .rw[Da b1,map_append]
    refine q.app (.cons G ?_ D z .nil)
    rw[E,Z,hx]
    show _=b.1.2*((b.2.2*f:Nat):Rat)
    rw[Rat.natCast_mul];grind
  .have:j=c.length:=ω
   subst this
   right
   rw[y.len,Db]at q
   exact⟨_,by unfold Aci;simp only[Ay (ω:¬(c.length:Int)<(c.length:Int)),Aq],T,rfl,q⟩) (0,o) ⟨0,[],ψ,ω,rfl,by simpa using Fo.nil⟩
 exact⟨T,by rw[<-V];exact X,U⟩
theorem Bbf {g:List Aj} {f:Nat->Nat} (z:Fo K g B) (hf:∀k,k<n->f k<Fa) (L:K<30000000000) (J:∀b∈B,b.2.1.length<=M) (y:M<=1000) (X:n<=1000) (Y:g.length<=1000000) :
  ∃T,An (Ahi g l (Ls n f)) (0,[])=some ((n:Int),T)/\Fo (K+202) T (Kv B l f n):=by
 obtain⟨e,V,T,S,R⟩:=Li (step:=Ahi g l (Ls n f)) (λs=>∃(j:Nat) (T:List Aj),s=((j:Int),T)/\j<=n/\Fo (K+202) T (Kv B l f j)) (λs=>n-s.1.toNat)
  (λe=>∃T,e=((n:Int),T)/\Fo (K+202) T (Kv B l f n)) (by
  rintro _ ⟨j,T,rfl,hj,q⟩
  unfold Ahi
  rw[M6]
  rcases Ch j n with h|h
  .left
   have D:=Axq B l f j
   have I:=q.len
   have N:=z.len
   have A:j*B.length<=1000*1000000:=Nat.mul_le_mul ω ω
   have x:j*B.length+B.length<=1000*B.length:=by
    have:(j+1)*B.length<=1000*B.length:=Nat.mul_le_mul_right _ ω
    rw[Nat.add_mul]at this;omega
   have i:=hf j h
   simp only[As (ω:(j:Int)<(n:Int)),Am,Bu rfl (M7 f h),Ad,(Np.c i).sign,C9 h ω]
   by_cases h0:f j=0
   .refine⟨_,by rw[Au h0];rfl,⟨j+1,T,rfl,ω,?_⟩,ζ⟩
    rw[Ahx,Au h0,append_nil];exact q
   .have u:RB 200 (cR (f j)):=(Np.c i).rb
    obtain⟨U,G,E⟩:=Bbe (o:=T) (l:=l) (k:=j) (f:=f j) z (Vv (f j)) u L J y ω
    refine⟨_,by rw[Ar h0,G];rfl,⟨j+1,T++U,rfl,ω,?_⟩,ζ⟩
    rw[Ahx,Ar h0]
    exact q.app E
  .have:j=n:=ω
   subst this
   right
   exact⟨_,by simp only[Ay (ω:¬(j:Int)<(j:Int)),Aq],T,rfl,q⟩) (0,[]) ⟨0,[],rfl,ω,.nil⟩
 exact⟨T,by rw[<-S];exact V,R⟩
def Rm (B:List Hg):List Grp->List Hg
 | []=>B
 | q::gs=>Rm (Kv B q.1 q.2.2 (q.2.1+1)) gs
theorem Axr {f:Nat->Nat} {b:Hg} (hb:b∈Kv B l f n):∃g∈B,b.1=g.1/\b.2∈I1 [g.2] l f n:=by
 unfold Kv at hb;rw[mem_flatMap]at hb;obtain⟨k,c,hk⟩:=hb;split at hk
 .cases hk
 .rename_i h0;obtain⟨d,hd,rfl⟩:=mem_map.1 hk;refine⟨d,hd,rfl,?_⟩;unfold I1;rw[mem_flatMap];exact⟨k,c,by rw[Ar h0];exact mem_map.2 ⟨d.2,ψ,rfl⟩⟩
theorem Axs:∀(f:List Grp) {B C:List Ent},(∀b∈B,b∈C)->∀b∈N8 B f,b∈N8 C f
 | [],B,C,h,b,hb=>h b hb
 | q::f,B,C,h,b,hb=>by
  refine Axs f (B:=I1 B q.1 q.2.2 (q.2.1+1)) (λc hc=>?_) b hb;unfold I1 at hc ⊢;rw[mem_flatMap]at hc ⊢;obtain⟨k,i,g⟩:=hc;refine⟨k,i,?_⟩;split at g
  .cases g
  .rename_i h0;rw[Ar h0];obtain⟨d,d1,d2⟩:=mem_map.1 g;exact mem_map.2 ⟨d,h d d1,d2⟩
theorem Am7:∀(f:List Grp) {B:List Hg} {b:Hg},b∈Rm B f->∃h∈B,b.1=h.1/\b.2∈N8 [h.2] f
 | [],B,b,hb=>⟨b,hb,rfl,by simp[N8]⟩
 | q::f,B,b,hb=>by obtain⟨c,c1,c2,c3⟩:=Am7 f hb;obtain⟨d,d1,d2,d3⟩:=Axr c1;refine⟨d,d1,c2.trans d2,?_⟩;exact Axs f (λe g=>by simp only[Et]at g;rw[g];exact d3) b.2 c3
theorem Bbg {f:Nat->Nat} (h:∀b∈B,b.2.1.length<=M):∀b∈Kv B l f n,b.2.1.length<=M+1:=by intro b hb;obtain⟨g,h1,_,h3⟩:=Axr hb;exact Bab (B:=[g.2]) (λc hc=>by simp only[Et]at hc;rw[hc];exact h g h1) b.2 h3
theorem Bbh:∀(n:Nat) (rest:List Bi) (i:List Aj) (B:List Hg) (K M:Nat),rest.length<=n->Ach rest->Atk rest->Fo K i B->(∀b∈B,b.2.1.length<=M)->M+rest.length<=1000->K+202*rest.length<30000000000->B.length*2 ^ Dm rest<=1000000 -> ∃gs g,An Ack (i,rest)=some g/\Gs gs rest/\Fo (K+202*rest.length) g (Rm B gs)/\g.length<=B.length*2 ^ Dm rest:=by
 intro n;induction n with
 | zero=>intro rest i B K M hn _ _ z _ _ _ _;have:rest = []:=Fu.1 ω;subst this;exact⟨[],i,Gn (by unfold Ack;simp),.nil,by simpa[Rm] using z,by rw[z.len];simp[Dm]⟩
 | succ n ih=>
  intro rest i B K M hn hS L z hM ad hK A;cases c:rest with
  | nil=>exact⟨[],i,Gn (by unfold Ack;simp),.nil,by simpa[Rm] using z.mono ω,by rw[z.len];simp[Dm]⟩
  | cons a r'=>
   rw[<-c];have h0:rest[0]? = some a:=(by rw[c];rfl);have aa:0<rest.length:=Eg h0;have hT:∀b∈rest,b.L.T.length<1099511627776:=λb hb=>by have:=(Ahj (L.lin b hb)).1;omega
   have ae:=L.len;obtain⟨m,m1,m2,m3,m4,m5⟩:=A99 h0 hT ω;have s:rest=rest.take m++rest.drop m:=(take_append_drop m rest).symm;have J:=(s ▸ L:Atk (rest.take m++rest.drop m)).sub;have x:rest.take m≠[]:=(by intro h;have:=congrArg length h;rw[length_take]at this;simp only[length_nil]at this;omega);obtain⟨N,f,p1,p2,p3,p4⟩:=A98 J.1 x m4;have Y:Dm rest=Dm (rest.take m)+Dm (rest.drop m):=(by rw[<-Tk,take_append_drop]);have ab:=L.sum;have S:2 ^ Dm rest=2 ^ Dm (rest.take m)*2 ^ Dm (rest.drop m):=(by rw[Y,Nat.pow_add]);have a8:B.length<=1000000:=Nat.le_trans (Nat.le_mul_of_pos_right _ (Nat.pow_pos δ)) A;obtain⟨T,t1,t2⟩:=Bbf (l:=a.L) (n:=N+1) z p4 ω hM ω ω (by rw[z.len];exact a8);have y:Ack (i,rest)=some (.inl (T,rest.drop m)):=(by have X:Ag rest 0=some a:=Bu (n:=0) rfl h0;have R:E2 rest (m:Int) (rest.length:Int)=some (rest.drop m):=(by unfold E2;simp[drop_take];omega);unfold Ack;simp only[As (ω:(rest.length:Int)>0),Am,X,Ad,m1,Xt rfl m3,p1,t1,R]);have ac:(rest.drop m).length+m=rest.length:=(by rw[length_drop];omega);have a7:=Axq B a.L f (N+1);have I:(N+1)*B.length<=B.length*2 ^ Dm (rest.take m):=(by rw[Nat.mul_comm];refine Nat.mul_le_mul_left _ (Nat.le_trans (Baa N) (Nat.pow_le_pow_right δ p3)));have u:(Kv B a.L f (N+1)).length*2 ^ Dm (rest.drop m)<=B.length*2 ^ Dm rest:=(by rw[S,<-Nat.mul_assoc];exact Nat.mul_le_mul_right _ (Nat.le_trans a7 I));obtain⟨gs,g,g1,g2,g3,g4⟩:=ih (rest.drop m) T (Kv B a.L f (N+1)) (K+202) (M+1) ω (Pairwise.sublist (drop_sublist m rest) hS) J.2 t2 (Bbg hM) ω ω (Nat.le_trans u A);refine⟨(a.L,N,f)::gs,g,by rw[Lz y,g1],?_,g3.mono ω,Nat.le_trans g4 u⟩;have V:∀b∈rest.drop m,Im a.L b.L<0:=by
    intro b hb;cases hd:rest.drop m with
    | nil=>rw[hd]at hb;cases hb
    | cons d D=>
     have j:rest[m]? = some d:=(by have:=congrArg (λl=>l[0]?) hd;simpa using this);have a1:=m5 d j;have a6:¬Im d.L a.L<0:=(by have G:=hS;rw[c]at G;have Z:d∈r':=(by have U:m=(m-1)+1:=ω;rw[c,U,getElem?_cons_succ]at j;exact Bv j);exact (pairwise_cons.1 G).1 d Z);have q:Im a.L d.L<0:=by
      rcases Int.lt_trichotomy (Im d.L a.L) 0 with k|k|k
      .exact (a6 k).elim
      .exact (a1 ((M2.zero _ _ trivial trivial).1 k)).elim
      .rw[M2.anti d.L a.L trivial trivial];omega
     rw[hd]at hb;rcases F1.1 hb with rfl|hb
     .exact q
     .have E:Ach (rest.drop m):=Pairwise.sublist (drop_sublist m rest) hS;rw[hd]at E;have h3:=(pairwise_cons.1 E).1 b hb;rcases Int.lt_trichotomy (Im b.L d.L) 0 with k|k|k
      .exact (h3 k).elim
      .rw[(M2.zero _ _ trivial trivial).1 k];exact q
      .exact M2.trans a.L d.L b.L trivial trivial trivial q (by rw[M2.anti b.L d.L trivial trivial];omega)
   have:=Gs.cons x m4 V p2 g2;rwa [take_append_drop]at this
def J6 (data:List Ak) (t:Af) (v:Int) (i:Ai):List Bh:=if dgo data t i=0 then [] else [⟨v,i⟩]
abbrev N9:=List Bh×Nat
def Kw (c:Rat) (p:N9):Hg:=((p.1,c),([],p.2))
def Yr (data:List Ak) (t:Af) (v:Int) (p:N9) (w:Ai×Nat):N9:=(p.1++J6 data t v w.1,p.2*w.2)
def upF (data:List Ak) (t:Af) (v:Int) (R:List (Ai×Nat)) (b:List N9):List N9:=b.flatMap λp=>R.map (Yr data t v p)
theorem Bbi (hc:Md data vars res) {b1:List (ByteArray×Int)} (b2:List (ByteArray×List Av)) (k:Dv data vars res b1) (ht:D4 vars res v=some t) (g:Ff v) {i:Ai} (q:S<=1048576) (s:D<=6) (hi:GI data t S D i) : ∃b,Ug v i b1 b2 data vars res.G res.U res.R=some (J6 data t v i,b)/\Dv data vars res b:=by
 obtain⟨h1,h2,d,h3,u⟩:=hi;obtain⟨b,j,l⟩:=Abm (b2:=b2) hc k ⟨v,i⟩ g h2 (by show Ca i<=_;omega) (by show (D4 vars res v).isSome=true;rw[ht];rfl);have c:Eh data vars res ⟨v,i⟩=(d:Int):=by unfold Eh;rw[ht];show Jo (Dj data i t)=_;rw[h3,Q6 ω]
 have f:dgo data t i=d:=by unfold dgo;rw[h3]
 refine⟨b,?_,l⟩;unfold Ug J6;have j:Ns v i b1 b2 data vars res.G res.U res.R=some (Eh data vars res ⟨v,i⟩,b):=j;rw[j,Ad,c,f];by_cases h:d=0
 .rw[Au h,h];rfl
 .rw[Ar h];have:((d:Int)==0)=false:=C7 ω;simp only[this,Aq]
theorem Bbj {F fs:List Bh} (f:u.M=⟨F,[]⟩) (h:F.length+fs.length<=1000) (g:K<30000000000) (h1:RB K u.C) (b:n<Fa) : ∃w,Mp u (cR n) ⟨fs,[]⟩=some w/\w.M=⟨F++fs,[]⟩/\rq w.C=rq u.C*(n:Rat)/\RB (K+202) w.C:=by obtain⟨c,c1,c2,_,c4⟩:=Rf h1 (Np.c b).rb ω ω;refine⟨⟨c,⟨F++fs,[]⟩⟩,?_,rfl,by rw[c4,Vv],c2⟩;unfold Mp;rw[c1,Ad,f,Ams _ _ (by show F.length+fs.length<=_;omega) ψ];rfl
theorem Bbk (data:List Ak) (t:Af) (v:Int) (i:Ai):(J6 data t v i).length<=1:=by unfold J6;split <;> simp
noncomputable def Acw (data:List Ak) (vars:List Af) (res:Af) (b2:List (ByteArray×List Av)) (v:Int) (R:List Av) (u:Aj):Int×List (ByteArray×Int)×List Aj->Option ((Int×List (ByteArray×Int)×List Aj)⊕(Int×List (ByteArray×Int)×List Aj)):=λ(b,g,f)=> bif b<(R.length:Int) then ((Ag R b).bind λv193=> (Ug v v193.I g b2 data vars res.G res.U res.R).bind λc=> (Mp u v193.C (Bj.mk c.1 [])).bind λv196=> (Cg 104 f [v196]).bind λh=> some (.inl ((Ac (b+1)),c.2,h))) else (some (.inr (b,g,f)))
noncomputable def Acx (data:List Ak) (vars:List Af) (res:Af) (b2:List (ByteArray×List Av)) (v:Int) (R:List Av) (ts:List Aj):Int×List (ByteArray×Int)×List Aj->Option ((Int×List (ByteArray×Int)×List Aj)⊕(Int×List (ByteArray×Int)×List Aj)):=λ(b,f,c)=> bif b<(ts.length:Int) then ((Ag ts b).bind λv175=> (An (Acw data vars res b2 v R v175) (0,f,c)).bind λ(_,h,g)=> some (.inl ((Ac (b+1)),h,g))) else (some (.inr (b,f,c)))
theorem Bbl (hc:Md data vars res) (b2:List (ByteArray×List Av)) (ht:D4 vars res v=some t) (B:Ff v) (X:S<=1048576) (hD:D<=6) (Z:∀w∈R,GI data t S D w.1/\w.2<Fa) (Y:R.length<=1000) {p:N9} {c:Rat} (hK:K<30000000000) (hu:u.M=⟨p.1,[]⟩) (A:rq u.C=c*(p.2:Rat)) (z:RB K u.C) (N:p.1.length<=900) {k:List (ByteArray×Int)} (U:Dv data vars res k) (o:List Aj) (ho:o.length<=100000000) :
  ∃(f:List (ByteArray×Int)) (T:List Aj),An (Acw data vars res b2 v (R.map Bc) u) (0,k,o)=some ((R.length:Int),f,o++T)/\Dv data vars res f/\T.length=R.length/\Fo (K+202) T ((R.map (Yr data t v p)).map (Kw c)):=by
 have i:(((R.map Bc).length:Nat):Int)=(R.length:Int):=by rw[C6]
 obtain⟨e,e1,f,T,e2,e3,e4,e5⟩:=Li (step:=Acw data vars res b2 v (R.map Bc) u) (λ(s:Int×List (ByteArray×Int)×List Aj)=>∃(j:Nat) (m:List (ByteArray×Int)) (T:List Aj),s=((j:Int),m,o++T)/\j<=R.length/\Dv data vars res m/\T.length=j/\Fo (K+202) T (((R.take j).map (Yr data t v p)).map (Kw c))) (λs=>R.length-s.1.toNat)
  (λ(e:Int×List (ByteArray×Int)×List Aj)=>∃(m:List (ByteArray×Int)) (T:List Aj),e=((R.length:Int),m,o++T)/\Dv data vars res m/\T.length=R.length/\Fo (K+202) T ((R.map (Yr data t v p)).map (Kw c))) (by
  rintro _ ⟨j,m,T,rfl,hj,g,E,b⟩
  rcases Ch j R.length with h|h
  .left
   have hx:R[j]? = some R[j]:=Bt h
   generalize R[j]=w at hx
   obtain⟨I,G⟩:=Z w (Bv hx)
   have y:(R.map Bc)[j]? = some (Bc w):=by rw[getElem?_map,hx];rfl
   obtain⟨x,f1,f2⟩:=Bbi hc b2 g ht B X hD I
   have f1:Ug v (Bc w).I m b2 data vars res.G res.U res.R=some (J6 data t v w.1,x):=f1
   have V:=Bbk data t v w.1
   obtain⟨q,l,M,L,J⟩:=Bbj (fs:=J6 data t v w.1) hu ω hK z G
   have l:Mp u (Bc w).C ⟨J6 data t v w.1,[]⟩=some q:=l
   refine⟨((j+1:Nat),x,o++(T++[q])),?_,⟨j+1,x,T++[q],rfl,ω,f2,by simp[E],?_⟩,ζ⟩
   .unfold Acw
    simp only[i,As (ω:(j:Int)<(R.length:Int)),Am,Bu rfl y,Ad,f1,l,C9 h ω]
    rw[Ds ζ,Ad,append_assoc]
   .rw[Da hx,map_append,map_append]
    refine b.app (.cons M ?_ J (by show (p.1++J6 data t v w.1).length<=1000;rw[E5];omega) .nil)
    rw[L,A]
    show _=c*((p.2*w.2:Nat):Rat)
    rw[Rat.natCast_mul];grind
  .have:j=R.length:=ω
   subst this
   rw[Db]at b
   exact .inr ⟨_,by unfold Acw;simp only[i,Ay (ω:¬(R.length:Int)<(R.length:Int)),Aq],m,T,rfl,g,E,b⟩) (0,k,o) ⟨0,k,[],ψ,ω,U,rfl,by simpa using Fo.nil⟩
 exact⟨f,T,by rw[<-e2];exact e1,e3,e4,e5⟩
theorem Bbm (hc:Md data vars res) (b2:List (ByteArray×List Av)) (ht:D4 vars res v=some t) (A:Ff v) (X:S<=1048576) (hD:D<=6) (Y:∀w∈R,GI data t S D w.1/\w.2<Fa) (y:R.length<=1000) {i:List N9} {c:Rat} (Z:K<30000000000) (k:Fo K ts (i.map (Kw c))) (z:∀p∈i,p.1.length<=900) (hl:i.length*R.length<=90000000) (a1:i.length<=1000000) {q:List (ByteArray×Int)} (M:Dv data vars res q) :
  ∃(g:List (ByteArray×Int)) (T:List Aj),An (Acx data vars res b2 v (R.map Bc) ts) (0,q,[])=some ((ts.length:Int),g,T)/\Dv data vars res g/\Fo (K+202) T ((upF data t v R i).map (Kw c)):=by
 have x:ts.length=i.length:=by rw[k.len,C6]
 obtain⟨e,e1,g,T,e2,e3,e4⟩:=Li (step:=Acx data vars res b2 v (R.map Bc) ts) (λ(s:Int×List (ByteArray×Int)×List Aj)=>∃(j:Nat) (m:List (ByteArray×Int)) (T:List Aj),s=((j:Int),m,T)/\j<=ts.length/\Dv data vars res m/\T.length=j*R.length/\Fo (K+202) T ((upF data t v R (i.take j)).map (Kw c))) (λs=>ts.length-s.1.toNat)
  (λ(e:Int×List (ByteArray×Int)×List Aj)=>∃(m:List (ByteArray×Int)) (T:List Aj),e=((ts.length:Int),m,T)/\Dv data vars res m/\Fo (K+202) T ((upF data t v R i).map (Kw c))) (by
  rintro _ ⟨j,m,T,rfl,hj,l,V,f⟩
  rcases Ch j ts.length with h|h
  .left
   have hx:ts[j]? = some ts[j]:=Bt h
   generalize ts[j]=u at hx
   obtain⟨b,b1,B,b3,b4,b5⟩:=k.get hx
   rw[getElem?_map]at b1
   obtain⟨p,hp,rfl⟩:=Option.map_eq_some_iff.1 b1
   have N:j*R.length<=i.length*R.length:=Nat.mul_le_mul_right _ ω
   obtain⟨E,U,L,J,I,G⟩:=Bbl hc b2 ht A X hD Y y Z B b3 b4 (z p (Bv hp)) l T ω
   refine⟨((j+1:Nat),E,T++U),?_,⟨j+1,E,T++U,rfl,ω,J,by rw[E5,V,I,Nat.add_mul,Nat.one_mul],?_⟩,ζ⟩
   .unfold Acx
    simp only[As (ω:(j:Int)<(ts.length:Int)),Am,Bu rfl hx,Ad,L,C9 h ω]
   .unfold upF at f ⊢
    rw[Aw9 _ hp,map_append]
    exact f.app G
  .have:j=ts.length:=ω
   subst this
   rw[x,Db]at f
   exact .inr ⟨_,by unfold Acx;simp only[Ay (ω:¬(ts.length:Int)<(ts.length:Int)),Aq],m,T,rfl,l,f⟩) (0,q,[]) ⟨0,q,[],rfl,ω,M,ψ,by simpa[upF] using Fo.nil⟩
 exact⟨g,T,by rw[<-e2];exact e1,e3,e4⟩
structure Oa (data:List Ak) (vars:List Af) (res:Af) (F:List Bh):Prop where
 fac:∀f∈F,Ff f.v/\iR f.I/\1<=Eh data vars res f
 siz:(F.map λf=>Ca f.I).sum<=400000
 sum:Cn data vars res F<=6
theorem Am8 {f:Bh} (h:1<=Eh data vars res f):∃t d,D4 vars res f.v=some t/\Dj data f.I t=some d/\1<=d/\d<=6/\Eh data vars res f=(d:Nat):=by
 unfold Eh at h ⊢;cases ht:D4 vars res f.v with
 | none=>rw[ht]at h;exact absurd (show (1:Int)<=-1 from h) δ
 | some t=>
  rw[ht]at h;rcases Ak6 (Dj data f.I t) with⟨h1,_⟩|⟨d,h1,h2,h3⟩
  .have h:1<=Jo (Dj data f.I t):=h;omega
  .have h:1<=Jo (Dj data f.I t):=h;exact⟨t,d,rfl,h1,ω,h2,h3⟩
theorem Qb (l m:List Bh):Cn data vars res (l++m)=Cn data vars res l+Cn data vars res m:=by unfold Cn;simp[sum_append]
theorem M8 {data:List Ak} {vars:List Af} {res:Af}:∀{l:List Bh},(∀f∈l,1<=Eh data vars res f)->(l.length:Int)<=Cn data vars res l
 | [],_=>by simp[Cn]
 | f::l,h=>by have h1:=h f ψ;have h2:=M8 (l:=l) λg hg=>h g (by simp[hg]);have:Cn data vars res (f::l)=Eh data vars res f+Cn data vars res l:=(by unfold Cn;simp);simp only[D8];omega
theorem Oa.app {l m:List Bh} (h:Oa data vars res (l++m)):Oa data vars res l/\Oa data vars res m:=by have h1:=h.siz;have h2:=h.sum;rw[map_append,sum_append]at h1;rw[Qb]at h2;have f1:=M8 (data:=data) (vars:=vars) (res:=res) (l:=l) λf hf=>(h.fac f (by simp[hf])).2.2;have f2:=M8 (data:=data) (vars:=vars) (res:=res) (l:=m) λf hf=>(h.fac f (by simp[hf])).2.2;exact⟨⟨λf hf=>h.fac f (by simp[hf]),ω,ω⟩,⟨λf hf=>h.fac f (by simp[hf]),ω,ω⟩⟩
theorem Bbn {g:List Bh} (u:g≠[]) (hg:∀f∈g,f.v=v) (c:Oa data vars res g) : ∃t k rs,D4 vars res v=some t/\Ff v/\g=fl v (k::rs)/\GG data t (k::rs)/\Cn data vars res g=(D9 data t (k::rs):Nat)/\rs.length+1<=D9 data t (k::rs):=by
 cases g with
 | nil=>exact (u rfl).elim
 | cons f0 g=>
  have j:=hg f0 ψ;obtain⟨t,d0,ht,_⟩:=Am8 (c.fac f0 ψ).2.2;rw[j]at ht;have x:∀l:List Bh,(∀f∈l,f.v=v)->l=fl v (l.map (·.I)):=(by intro l;induction l with| nil=>intro _;rfl| cons a l ih=>intro h;have h1:=h a ψ;have h2:=ih λf hf=>h f (by simp[hf]);show a::l=⟨v,a.I⟩::fl v (l.map (·.I));rw[<-h2,<-h1]);have hd:∀f∈f0::g,Dj data f.I t=some (dgo data t f.I)/\Eh data vars res f=(dgo data t f.I:Nat)/\1<=dgo data t f.I:=λf hf=>by obtain⟨t',d,t1,t2,t3,t4,t5⟩:=Am8 (c.fac f hf).2.2;rw[hg f hf,ht]at t1;cases t1;have:dgo data t f.I=d:=(by unfold dgo;rw[t2]);rw[this];exact⟨t2,t5,t3⟩
  have y:∀l:List Bh,(∀f∈l,f∈f0::g)->Cn data vars res l=(D9 data t (l.map (·.I)):Nat)/\l.length<=D9 data t (l.map (·.I)):=(by intro l;induction l with| nil=>intro _;exact⟨by simp[Cn,D9],ψ⟩| cons a l ih=>intro h;obtain⟨_,h2,h3⟩:=hd a (h a ψ);obtain⟨i1,i2⟩:=ih λf hf=>h f (by simp[hf]);have G:Cn data vars res (a::l)=Eh data vars res a+Cn data vars res l:=(by unfold Cn;simp);have E:D9 data t ((a::l).map (·.I))=dgo data t a.I+D9 data t (l.map (·.I)):=(by unfold D9;simp);rw[G,E];simp only[D8];omega);obtain⟨A,z⟩:=y (f0::g) λf hf=>hf;have B:=c.sum;have s:∀l:List Bh,(l.map λf=>Ca f.I).sum=Ck (l.map (·.I)):=(by intro l;induction l with| nil=>rfl| cons a l ih=>simp only[map_cons,sum_cons,Ck,ih]);have b:=c.siz;rw[s]at b;have q:(f0::g).map (·.I)=f0.I::g.map (·.I):=rfl;rw[q]at A z b;simp only[D8]at z;have D:=x (f0::g) hg;rw[q]at D;refine⟨t,f0.I,g.map (·.I),ht,by rw[<-j];exact (c.fac f0 ψ).1,D,⟨λi hi=>?_,λi hi=>?_,b,ω,by rw[D8,C6];omega⟩,A,by rw[C6];omega⟩
  .rw[<-q]at hi;obtain⟨f,hf,rfl⟩:=mem_map.1 hi;exact (c.fac f hf).2.1
  .rw[<-q]at hi;obtain⟨f,hf,rfl⟩:=mem_map.1 hi;exact (hd f hf).1
def Vy (data:List Ak) (vars:List Af) (res:Af) (χ:Bh->Nat) (P:List Bh):Prop:=∀g∈P,∀t,D4 vars res g.v=some t->Am6 data t (λi=>χ ⟨g.v,i⟩)/\∀i,Dj data i t=some 0->iR i->Ca i<=400000->χ ⟨g.v,i⟩=1
structure Rn (data:List Ak) (vars:List Af) (res:Af) (P:List Bh) (FE:List N9):Prop where
 pos:∀p∈FE,1<=p.2
 fac:∀p∈FE,∀f∈p.1,Ff f.v/\iR f.I/\Ca f.I<=400000/\1<=Eh data vars res f/\∃g∈P,g.v=f.v
 asc:∀p∈FE,p.1.Pairwise λa b=>a.v<b.v
 sum:∀p∈FE,Cn data vars res p.1<=Cn data vars res P
 val:∀χ,Vy data vars res χ P->pv (λF=>D6 (F.map χ)) FE=D6 (P.map χ)
 len:FE.length<=10 ^ (Cn data vars res P).toNat
theorem Rn.nil (data:List Ak) (vars:List Af) (res:Af):Rn data vars res [] [([],1)]:=by
 have h:∀p∈[(([]:List Bh),1)],p=([],1):=λp hp=>by simpa using hp
 refine⟨λp hp=>?_,λp hp f hf=>?_,λp hp=>?_,λp hp=>?_,λχ _=>rfl,Nat.le_refl _⟩
 .rw[h p hp];exact Nat.le_refl _
 .rw[h p hp]at hf;cases hf
 .rw[h p hp];exact Pairwise.nil
 .rw[h p hp];exact Int.le_refl _
theorem Ahy:∀(l m:List Nat),D6 (l++m)=D6 l*D6 m
 | [],m=>by simp[D6]
 | a::l,m=>by rw[Ed,D6,D6,Ahy l m,Nat.mul_assoc]
theorem Axt {α β:Type} (f:β->Nat) (g:α->β) (c:Nat):∀L:List (α×Nat),pv f (L.map λw=>(g w.1,c*w.2))=c*pv (λx=>f (g x)) L
 | []=>rfl
 | p::L=>by rw[map_cons,pv,Axt f g c L,pv,Nat.mul_add,Nat.mul_assoc]
theorem Rn.step {P:List Bh} {u:List N9} (h:Rn data vars res P u) (ht:D4 vars res v=some t) (J:Ff v) {j:Ai} {c:List Ai} (I:GG data t (j::c)) (G:Cn data vars res (fl v (j::c))=(D9 data t (j::c):Nat)) (S:c.length+1<=D9 data t (j::c)) (Z:∀f∈P,f.v<v) (Y:0<=Cn data vars res P) (s:PRg data t j c R):Rn data vars res (P++fl v (j::c)) (upF data t v R u):=by
 have hs:=I.siz;have V:=I.sum;have l:∀q∈upF data t v R u,∃p∈u,∃w∈R,q=Yr data t v p w:=λq hq=>by unfold upF at hq;obtain⟨p,hp,hq⟩:=mem_flatMap.1 hq;obtain⟨w,hw,rfl⟩:=mem_map.1 hq;exact⟨p,hp,w,hw,rfl⟩
 have z:∀w∈R,∀f∈J6 data t v w.1,f=⟨v,w.1⟩/\1<=dgo data t w.1:=λw hw f hf=>by
  unfold J6 at hf;split at hf
  .cases hf
  .rename_i h0;simp only[Et]at hf;exact⟨hf,ω⟩
 have x:∀w∈R,Dj data w.1 t=some (dgo data t w.1)/\dgo data t w.1<=D9 data t (j::c)/\Eh data vars res ⟨v,w.1⟩=(dgo data t w.1:Nat):=λw hw=>by obtain⟨_,_,d,d1,d2⟩:=s.cw.mo w hw;have e:dgo data t w.1=d:=(by unfold dgo;rw[d1]);rw[e];refine⟨d1,d2,?_⟩;unfold Eh;rw[ht];show Jo (Dj data w.1 t)=_;rw[d1,Q6 ω]
 have D:Cn data vars res (P++fl v (j::c))=Cn data vars res P+(D9 data t (j::c):Nat):=by rw[Qb,G]
 have E:(Cn data vars res (P++fl v (j::c))).toNat=(Cn data vars res P).toNat+D9 data t (j::c):=ω;have y:(upF data t v R u).length<=u.length*R.length:=by unfold upF;exact Ahr _ _ _ λp _=>by rw[C6];exact Nat.le_refl _
 have X:R.length<=3 ^ (D9 data t (j::c)*c.length):=Nat.le_trans (P9 s.cw.pos) s.cnt;refine⟨λq hq=>?_,λq hq f hf=>?_,λq hq=>?_,λq hq=>?_,λχ M=>?_,?_⟩
 .obtain⟨p,hp,w,hw,rfl⟩:=l q hq;exact Nat.mul_pos (h.pos p hp) (s.cw.pos w hw)
 .obtain⟨p,hp,w,hw,rfl⟩:=l q hq;rcases Ei.1 hf with hf|hf
  .obtain⟨a1,a2,a3,a4,g,g1,g2⟩:=h.fac p hp f hf;exact⟨a1,a2,a3,a4,g,by simp[g1],g2⟩
  .obtain⟨rfl,h1⟩:=z w hw f hf;obtain⟨N,B,_⟩:=s.cw.mo w hw;obtain⟨_,_,A⟩:=x w hw;exact⟨J,B,by show Ca w.1<=_;omega,by rw[A];omega,⟨v,j⟩,by simp[fl],rfl⟩
 .obtain⟨p,hp,w,hw,rfl⟩:=l q hq;refine pairwise_append.2 ⟨h.asc p hp,?_,λa ha b hb=>?_⟩
  .unfold J6;split <;> simp
  .obtain⟨rfl,_⟩:=z w hw b hb;obtain⟨_,_,_,_,g,g1,g2⟩:=h.fac p hp a ha;rw[<-g2];exact Z g g1
 .obtain⟨p,hp,w,hw,rfl⟩:=l q hq;have h1:=h.sum p hp;obtain⟨_,y2,A⟩:=x w hw;show Cn data vars res (p.1++J6 data t v w.1)<=_;rw[Qb,D];have:Cn data vars res (J6 data t v w.1)<=(D9 data t (j::c):Nat):=by
   unfold J6;split
   .show (0:Int)<=_;omega
   .show Eh data vars res ⟨v,w.1⟩+0<=_;rw[A];omega
  omega
 .obtain⟨m1,m2⟩:=M ⟨v,j⟩ (by simp[fl]) t ht;have e1:pv (λF=>D6 (F.map χ)) (upF data t v R u)=pv (λF=>pv (λi=>χ ⟨v,i⟩) R*D6 (F.map χ)) u:=by
   unfold upF;refine Acl _ _ _ _ λp hp=>?_;have e2:R.map (Yr data t v p)=R.map λw=>(p.1++J6 data t v w.1,p.2*w.2):=rfl;rw[e2,Axt (λF=>D6 (F.map χ)) (λi=>p.1++J6 data t v i) p.2 R];congr 1;rw[<-Nat.mul_comm (D6 _),<-O5];refine Rj λw hw=>?_;show D6 ((p.1++J6 data t v w.1).map χ)=D6 (p.1.map χ)*χ ⟨v,w.1⟩;rw[map_append,Ahy];congr 1;obtain⟨N,B,_⟩:=s.cw.mo w hw;obtain⟨L,_⟩:=x w hw;unfold J6;split
   .rename_i h0;rw[h0]at L;rw[m2 w.1 L B ω];rfl
   .show χ ⟨v,w.1⟩*1=_;omega
  rw[e1,O5,h.val χ λg hg=>M g (by simp[hg]),s.val,Axp m1 c j I,map_append,Ahy,Nat.mul_comm];congr 1;show _=χ ⟨v,j⟩*D6 ((fl v c).map χ);unfold fl;rw[map_map];rfl
 .rw[E,Nat.pow_add];refine Nat.le_trans y (Nat.mul_le_mul h.len ?_);have hl:=s.len;rcases Ch (D9 data t (j::c)) 3 with k|k
  .have U:c.length<=1:=ω;have h1:(3:Nat) ^ (D9 data t (j::c)*c.length)<=3 ^ (D9 data t (j::c)):=Nat.pow_le_pow_right δ (by have:=Nat.mul_le_mul_left (D9 data t (j::c)) U;omega);have h2:(3:Nat) ^ (D9 data t (j::c))<=10 ^ (D9 data t (j::c)):=Nat.pow_le_pow_left δ _;omega
  .have h1:(10:Nat) ^ 3<=10 ^ (D9 data t (j::c)):=Nat.pow_le_pow_right δ k;omega
noncomputable def Ahz (r:List Bh) (v:Int):Int->Option (Int⊕Int):=λb=> bif b<(r.length:Int) then ((Ag r b).bind λc=> bif (c.v==v) then (some (.inl (Ac (b+1)))) else (some (.inr b))) else (some (.inr b))
theorem Bbo {r:List Bh} {a:Bh} (h0:r[0]? = some a) (q:r.length<=1000) :
  ∃n:Nat,An (Ahz r a.v) 1=some (n:Int)/\1<=n/\n<=r.length/\(∀b∈r.take n,b.v=a.v)/\∀b,r[n]? = some b->b.v≠a.v:=by
 have hpos:=Eg h0
 obtain⟨e,l,n,k,i⟩:=Li (step:=Ahz r a.v) (λs=>∃n:Nat,s=(n:Int)/\1<=n/\n<=r.length/\∀b∈r.take n,b.v=a.v) (λs=>r.length-s.toNat)
  (λe=>∃n:Nat,e=(n:Int)/\1<=n/\n<=r.length/\(∀b∈r.take n,b.v=a.v)/\∀b,r[n]? = some b->b.v≠a.v) (by
  rintro _ ⟨j,rfl,g,f,c⟩
  unfold Ahz
  rcases Ch j r.length with h|h
  .have hx:r[j]? = some r[j]:=Bt h
   generalize r[j]=b at hx
   simp only[As (ω:(j:Int)<(r.length:Int)),Am,Bu rfl hx,Ad,C9 h ω]
   by_cases hc:b.v=a.v
   .left
    rw[Ew hc]
    refine⟨_,rfl,⟨j+1,rfl,ω,ω,λd hd=>?_⟩,ω⟩
    rw[Da hx]at hd
    rcases Ei.1 hd with hd|hd
    .exact c d hd
    .simp only[Et]at hd
     rw[hd];exact hc
   .right
    rw[C7 hc]
    exact⟨_,rfl,j,rfl,g,f,c,λd hd=>by rw[hx]at hd;cases hd;exact hc⟩
  .right
   refine⟨_,by simp only[Ay (ω:¬(j:Int)<(r.length:Int)),Aq],j,rfl,g,f,c,λd hd=>?_⟩
   have:=Eg hd
   omega) 1 ⟨1,rfl,ω,ω,λb hb=>by
    cases r with
    | nil=>simp at hpos
    | cons x r=>simp at hb h0;rw[hb,h0]⟩
 exact⟨n,by rw[<-k];exact l,i⟩
noncomputable def Ys (data:List Ak) (vars:List Af) (res:Af):(List Aj×List Bh×List (ByteArray×Int)×List (ByteArray×List Av))->Option ((List Aj×List Bh×List (ByteArray×Int)×List (ByteArray×List Av))⊕((List Aj×Int×List (ByteArray×Int)×List (ByteArray×List Av))⊕(List Aj×List (ByteArray×Int)×List (ByteArray×List Av)))):=λ(v105,c,f,h)=> bif (c.length:Int)>(0:Int) then ((Ag c 0).bind λv109=> (An (Ahz c v109.v) 1).bind λg=> (E2 c 0 g).bind λj=> (Sf j f h data vars res.G res.U res.R).bind λb=> bif (b.2.1 != (0:Int)) then (some (.inr (.inl ([],b.2.1,f,b.2.2)))) else ((An (Acx data vars res b.2.2 v109.v b.1 v105) (0,f,[])).bind λ(v201,l,k)=> (E2 c g c.length).bind λi=> some (.inl (k,i,l,b.2.2)))) else (some (.inr (.inr (v105,f,h))))
theorem Axu (data:List Ak) (t:Af) (v:Int) (R:List (Ai×Nat)):∀b:List N9,(upF data t v R b).length=b.length*R.length
 | []=>by simp[upF]
 | p::b=>by have ih:=Axu data t v R b;unfold upF at ih ⊢;rw[flatMap_cons,E5,ih,C6,D8,Nat.add_mul];omega
theorem Ah0 {d:Nat} (h:d<=6):10 ^ d<=1000000:=Nat.le_trans (Nat.pow_le_pow_right δ h) δ
theorem Bbp (hz:DSz data) (hv:Ia data) (hx:Md data vars res) (af:∀v t,D4 vars res v=some t->G1 data t=true) {c:Rat}:∀(n:Nat) (rest P:List Bh) (ts:List Aj) (B:List N9) (K:Nat) (q:List (ByteArray×Int)) (G:List (ByteArray×List Av)),rest.length<=n->rest.Pairwise (λa b=>a.v<=b.v)->(∀f∈P,∀g∈rest,f.v<g.v)->Oa data vars res (P++rest)->Fo K ts (B.map (Kw c))->Rn data vars res P B->(∀p∈B,p.1.length<=6)->K+202*rest.length<30000000000->Dv data vars res q->PMg data vars res G ->
  ∃z,An (Ys data vars res) (ts,rest,q,G)=some z/\((∃j s,z = .inl ([],9,j,s)/\Dv data vars res j/\PMg data vars res s)\/(∃E M j s,z = .inr (E,j,s)/\Dv data vars res j/\PMg data vars res s/\Fo (K+202*rest.length) E (M.map (Kw c))/\Rn data vars res (P++rest) M)):=by
 intro n
 induction n with
 | zero=>
  intro rest P ts B K q G hn _ _ _ hR V _ _ k J
  have:rest = []:=Fu.1 ω
  subst this
  exact⟨.inr (ts,q,G),Gn (by unfold Ys;simp),.inr ⟨ts,B,q,G,rfl,k,J,by simpa using hR,by rw[append_nil];exact V⟩⟩
 | succ n ih=>
  intro rest P ts B K q G hn hS U N hR V am hK k J
  cases i:rest with
  | nil=>
   exact⟨.inr (ts,q,G),Gn (by unfold Ys;simp),.inr ⟨ts,B,q,G,rfl,k,J,by simpa using hR,by rw[append_nil];exact V⟩⟩
  | cons a r'=>
   rw[<-i]
   have h0:rest[0]? = some a:=by rw[i];rfl
   have ap:0<rest.length:=Eg h0
   have ak:=N.sum
   have a8:=M8 (data:=data) (vars:=vars) (res:=res) (l:=P++rest) λf hf=>(N.fac f hf).2.2
   rw[E5]at a8
   obtain⟨m,m1,m2,m3,m4,m5⟩:=Bbo h0 ω
   have I:rest=rest.take m++rest.drop m:=(take_append_drop m rest).symm
   have Y:rest.take m≠[]:=by
    intro h
    have:=congrArg length h
    rw[length_take]at this
    simp only[length_nil]at this
    omega
   have a7:=N.app.2
   have ao:Oa data vars res (rest.take m):=by
    rw[I]at a7
    exact a7.app.1
   obtain⟨t,i0,rs,t1,t2,t3,t4,t5,t6⟩:=Bbn Y m4 ao
   have aq:=(hx.sz a.v t t1)
   have X:Ag rest 0=some a:=Bu (n:=0) rfl h0
   have ac:E2 rest (m:Int) (rest.length:Int)=some (rest.drop m):=by
    unfold E2
    simp[drop_take]
    omega
   have a6:0<=Cn data vars res P:=by
    have:=M8 (data:=data) (vars:=vars) (res:=res) (l:=P) λf hf=>(N.fac f (by simp[hf])).2.2
    omega
   have aj:(Cn data vars res P).toNat<=6:=by
    have:=M8 (data:=data) (vars:=vars) (res:=res) (l:=rest) λf hf=>(N.fac f (by simp[hf])).2.2
    rw[Qb]at ak
    omega
   obtain⟨l,e,A,q1,q2,q3⟩:=Bbd hz hv (af a.v t t1) t1 t2 t4 q J
   rw[<-t3]at q1
   have ar:(rest.drop m).length+m=rest.length:=by rw[length_drop];omega
   rcases q3 with⟨rfl,rfl⟩|⟨rfl,R,rfl,y⟩
   .refine⟨.inl ([],9,q,A),Gn ?_,.inl ⟨q,A,rfl,k,q2⟩⟩
    unfold Ys
    simp only[As (ω:(rest.length:Int)>0),Am,X,Ad,m1,Xt rfl m3,q1]
    rfl
   .have aa:=V.len
    have ax:=Ah0 aj
    have ai:=y.len
    have h9:B.length*R.length<=1000000:=by
     have ab:=V.step t1 t2 t4 (by rw[<-t3];exact t5) t6 (λf hf=>by
      have:=U f hf a (by rw[i];simp)
      exact this) a6 y
     have h1:=ab.len
     have h2:=Axu data t a.v R B
     rw[h2]at h1
     refine Nat.le_trans h1 (Ah0 ?_)
     rw[<-t3]
     have e1:Cn data vars res (P++rest.take m)+Cn data vars res (rest.drop m)=Cn data vars res (P++rest):=by rw[Qb,Qb,Int.add_assoc,<-Qb (rest.take m),take_append_drop]
     have e2:=M8 (data:=data) (vars:=vars) (res:=res) (l:=rest.drop m) λf hf=>(N.fac f (by have:=mem_of_mem_drop hf;simp[this])).2.2
     omega
    have ae:=t4.len
    simp only[D8]at ae
    have ah:∀w∈R,GI data t (Ck (i0::rs)) (D9 data t (i0::rs)) w.1/\w.2<Fa:=λw hw=>by
     refine⟨y.cw.mo w hw,?_⟩
     have h1:=Qa hw
     have h2:=y.cnt
     have h3:(3:Nat) ^ (D9 data t (i0::rs)*rs.length)<=3 ^ 36:=Nat.pow_le_pow_right δ (Nat.mul_le_mul t4.sum (show rs.length<=6 by omega))
     have h4:(3:Nat) ^ 36<Fa:=by unfold Fa;decide
     omega
    obtain⟨j,T,u1,u2,u3⟩:=Bbm hx A t1 t2 (by have:=t4.siz;omega) t4.sum ah ai ω hR (λp hp=>by have:=am p hp;omega) ω ω k
    have S:Ys data vars res (ts,rest,q,G)=some (.inl (T,rest.drop m,j,A)):=by
     unfold Ys
     simp only[As (ω:(rest.length:Int)>0),Am,X,Ad,m1,Xt rfl m3,q1,show ((0:Int) != 0)=false from rfl,Aq,u1,ac]
    have L:=V.step t1 t2 t4 (by rw[<-t3];exact t5) t6 (λf hf=>by
     have:=U f hf a (by rw[i];simp)
     exact this) a6 y
    rw[<-t3]at L
    have ad:∀b∈rest.drop m,a.v<b.v:=by
     intro b hb
     cases hd:rest.drop m with
     | nil=>rw[hd]at hb;cases hb
     | cons d D=>
      have u:rest[m]? = some d:=by
       have:=congrArg (λl=>l[0]?) hd
       simpa using this
      have au:=m5 d u
      have av:a.v<=d.v:=by
       have a1:=hS
       rw[i]at a1
       have ag:d∈r':=by
        have k:m=(m-1)+1:=ω
        rw[i,k,getElem?_cons_succ]at u
        exact Bv u
       exact (pairwise_cons.1 a1).1 d ag
      have Z:(rest.drop m).Pairwise (λa b=>a.v<=b.v):=Pairwise.sublist (drop_sublist m rest) hS
      rw[hd]at hb Z
      rcases F1.1 hb with rfl|hb
      .omega
      .have:=(pairwise_cons.1 Z).1 b hb
       omega
    have x:P++rest.take m++rest.drop m=P++rest:=by rw[append_assoc,take_append_drop]
    obtain⟨z,z1,z2⟩:=ih (rest.drop m) (P++rest.take m) T (upF data t a.v R B) (K+202) j A ω (Pairwise.sublist (drop_sublist m rest) hS) (λf hf g hg=>by
     rcases Ei.1 hf with hf|hf
     .exact U f hf g (mem_of_mem_drop hg)
     .rw[m4 f hf];exact ad g hg) (by rw[x];exact N) u3 L (λp hp=>by
     have h1:=L.sum p hp
     have h2:=M8 (data:=data) (vars:=vars) (res:=res) (l:=p.1) λf hf=>(L.fac p hp f hf).2.2.2.1
     have e1:Cn data vars res (P++rest.take m)+Cn data vars res (rest.drop m)=Cn data vars res (P++rest):=by rw[<-Qb,x]
     have e2:=M8 (data:=data) (vars:=vars) (res:=res) (l:=rest.drop m) λf hf=>(N.fac f (by have:=mem_of_mem_drop hf;simp[this])).2.2
     omega) ω u2 q2
    rw[x]at z2
    refine⟨z,by rw[Lz S,z1],?_⟩
    rcases z2 with z2|⟨E,M,p1,p2,w1,w2,w3,w4,w5⟩
    .exact .inl z2
    .exact .inr ⟨E,M,p1,p2,w1,w2,w3,w4.mono ω,w5⟩
def IsE (A:List Bi) (B:List Ent):Prop:=∃gs b,b.Perm A/\Ach b/\Gs gs b/\B=N8 [([],1)] gs
def Acy (vars:List Af) (res:Af) (L:List Bi):Prop:=L.Pairwise (λa b=>Im a.L b.L<0)/\∀a∈L,1<=a.P/\Ip a.L=true/\a.L.T.length≠0/\Kt vars res a.L=true
theorem Bbq (l m:List Bi):Dy (l++m)=Dy l+Dy m:=by unfold Dy;simp[sum_append]
theorem Bbr:∀{u:List Grp} {rest:List Bi},Gs u rest->(∀a∈rest,Ip a.L=true/\Kt vars res a.L=true) -> ∀(B:List Ent) (S:Int),(∀b∈B,Acy vars res b.1/\Dy b.1<=S/\∀a∈b.1,∀r∈rest,Im a.L r.L<0)->∀b∈N8 B u,Acy vars res b.1/\Dy b.1<=S+(Dm rest:Nat):=by
 intro u rest h;induction h with
 | nil=>intro _ B S z b hb;have:=z b hb;exact⟨this.1,by have:=this.2.1;omega⟩
 | @cons l N f g rest u x hg E I M ih=>
  intro A B S z;obtain⟨a0,j⟩:∃a,a∈g:=(by cases g with| nil=>exact (x rfl).elim| cons a _=>exact⟨a,ψ⟩);have s:=hg a0 j;have q:=A a0 (by simp[j]);rw[s]at q;have J:∀k,k<N+1->k≠0->l.T.length≠0/\k<=Dm g:=by
   intro k hk G;rcases I with⟨h1,h2⟩|⟨_,h2,_⟩
   .exact⟨h1,by rw[<-h2.1];omega⟩
   .omega
  intro b hb;have:=ih (λa ha=>A a (by simp[ha])) (I1 B l f (N+1)) (S+(Dm g:Nat)) (by
   intro b hb;unfold I1 at hb;rw[mem_flatMap]at hb;obtain⟨k,i,hk⟩:=hb;have i:=mem_range.1 i;split at hk
   .cases hk
   .rw[mem_map]at hk;obtain⟨d,hd,rfl⟩:=hk;obtain⟨d1,d2,d3⟩:=z d hd;have y:∀a∈d.1,Im a.L l<0:=λa ha=>by have:=d3 a ha a0 (by simp[j]);rwa [s]at this
    unfold atO;by_cases h0:k=0
    .rw[Au h0,append_nil];exact⟨d1,by show Dy d.1<=S+((Dm g:Nat):Int);omega,λa ha r c=>d3 a ha r (by simp[c])⟩
    .rw[Ar h0];obtain⟨D,L⟩:=J k i h0;refine⟨⟨pairwise_append.2 ⟨d1.1,pairwise_singleton _ _,λa ha b hb=>?_⟩,λa ha=>?_⟩,?_,λa ha r c=>?_⟩
     .simp only[Et]at hb;subst hb;exact y a ha
     .rcases Ei.1 ha with ha|ha
      .exact d1.2 a ha
      .simp only[Et]at ha;subst ha;exact⟨by show (1:Int)<=(k:Int);omega,q.1,D,q.2⟩
     .show Dy (d.1++[⟨l,k⟩])<=_;rw[Bbq];have:Dy [(⟨l,(k:Int)⟩:Bi)]=(k:Int):=(by simp[Dy]);omega
     .rcases Ei.1 ha with ha|ha
      .exact d3 a ha r (by simp[c])
      .simp only[Et]at ha;subst ha;exact E r c) b hb
  refine⟨this.1,?_⟩;rw[Tk];have:=this.2;omega
theorem Bbs {L:List Bi} (h:Acy x.V x.E L) (s:Dy L<=6):Ii x ⟨[],L⟩:=by
 have i:(L.length:Int)<=Dy L:=by have key:∀l:List Bi,(∀a∈l,1<=a.P)->(l.length:Int)<=Dy l:=(by intro l;induction l with| nil=>intro _;simp[Dy]| cons f fs ih=>intro c;have h1:=c f ψ;have h2:=ih (λg hg=>c g (by simp[hg]));unfold Dy at *;simp only[map_cons,sum_cons,D8];omega);exact key _ λa ha=>(h.2 a ha).1
 constructor
 .unfold Jp;have k:L.zipIdx.all (λq=>N4 x.V x.E L q.1 q.2)=true:=(by rw[G5];rintro⟨a,j⟩ hq;have hj:L[j]? = some a:=mk_mem_zipIdx_iff_getElem?.1 hq;obtain⟨h1,h2,h3,u⟩:=h.2 a (Bv hj);show N4 x.V x.E L a j=true;unfold N4;have hp:Ra L a j=true:=(by unfold Ra;cases j with| zero=>rfl| succ j=>have c:=Eg hj;have hy:L[j]? = some L[j]:=Bt ω;have b:=pairwise_iff_getElem.1 h.1 j (j+1) ω c ω;have e:L[j+1]=a:=(by have:=Bt c;rw[hj]at this;exact (Eo this).symm);rw[e]at b;simp only[Nat.add_sub_cancel,hy,Bool.or_eq_true];exact .inr (decide_eq_true b));rw[hp,As h1,h2,u];simp only[Bool.true_and,Bool.and_true,Bool.not_eq_true',beq_eq_false_iff_ne,ne_eq];exact h3);show (([]:List Bh).zipIdx.all _&&L.zipIdx.all (λq=>N4 x.V x.E L q.1 q.2)&&decide (Cn x.D x.V x.E []+Dy L<=6))=true;rw[k];have:Cn x.D x.V x.E []=0:=rfl;rw[this];simp;exact s
 .exact⟨ψ,by show L.length<=1048576;omega,nofun,nofun,λa ha=>by have:=(Ahj (h.2 a ha).2.1).1;omega⟩
def ec:List Ent->Bj->Nat
 | [],_=>0
 | b::bs,m=>(if Ey ⟨[],b.1⟩ m=0 then b.2 else 0)+ec bs m
theorem Rep.mem {c:Rat} {bs:List Ent} (h:Rep c K ts bs) {t:Aj} (ht:t∈ts):∃b∈bs,t.M=⟨[],b.1⟩/\rq t.C=c*(b.2:Rat)/\RB K t.C:=by obtain⟨j,hj⟩:=Ht ht;obtain⟨b,b1,b2⟩:=h.get hj;exact⟨b,Bv b1,b2⟩
def Am9 (L:Nat) (p:List Aj):Prop:=∀t∈p,∃z:Int,rq t.C=(z:Rat)/\Bp z.natAbs<=L
theorem Bbt {z:Int} (ha:Hu a) (h:rq a=(z:Rat)):a=Cb (decide (z<0)) z.natAbs 1:=by
 refine Abx ha (Re _ _ _ δ) ?_;rw[h,O1 _ _ _ δ,Ahh];congr 1;unfold sg;by_cases h:z<0
 .rw[As h,Au rfl];omega
 .rw[Ay h,Ar δ];omega
theorem Bbu {z:Int} (ha:Hu a) (h:rq a=(z:Rat)) (b:Bp z.natAbs<=L):RB (L+1) a:=by rw[Bbt ha h];exact N5 _ _ _ _ ω (by rw[S9];omega) ω
theorem Am9.of {p:List Aj} (hc:CP p) (h:∀m,∃z:Int,cf p m=(z:Rat)/\Bp z.natAbs<=L):Am9 L p:=λt ht=>by obtain⟨z,b,z2⟩:=h t.M;exact⟨z,by rw[<-Agx hc ht];exact b,z2⟩
structure IP (x:Cd) (n L:Nat) (f:Bj->Rat) (R:List Aj):Prop where
 cp:CP R
 val:∀m,cf R m=f m
 mo:∀t∈R,Ii x t.M
 len:R.length<=n
 int:Am9 L R
theorem IP.can {f:Bj->Rat} {R:List Aj} (h:IP x n L f R) (c:n<=1000) (g:L<=1000000):Ho x R := Ho.of h.cp h.mo (λt ht=>by obtain⟨z,b,z2⟩:=h.int t ht;exact (Bbu (h.cp.coe t ht).1 b z2).mono ω) (by have:=h.len;omega)
end Go.Ab
