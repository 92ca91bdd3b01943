/- Plain laws. -/
import Derived.Test.YtbpbaimlddncnaaGreatDoorPcPl3
open List
namespace Go.Ab
open Go
variable {res t:Ag} {a i:Ai} {P:Ai->Prop} {u:Ai×Nat} {x:Cu} {v:Int} {L M R:List (Ai×Nat)} {vars:List Ag} {b g:List Ai} {ts:List Aj} {data:List Am} {l m:List Bg} {D D' K S S' j k n:Nat} {Q α:Type} {J:List Ar->Option Q} {q:Q}
theorem Ajg (a:α) (l:List α):Ei (a::l) 1 ((a::l).length:Int)=some l:=by unfold Ei;rw[A7 ⟨δ,by simp only[D9];omega,ω⟩];simp
theorem A31 (a:Ai) (l:List Ai) (h:l.length<=999999):X7 [[a],l]=some (a::l) := Ai3 (B:=32) δ (gr:=Abo) (λn h=>Adr n h) [a] l ζ
theorem Ajh (e:Ai) {c:Nat} (o:c<=729) {R:List (List Ai×Nat)} (s:R.length<=729) (h:∀r∈R,r.2<=729/\r.1.length<=100000) (b:List Hr) (l:b.length<=1000000) : Qh e (cR c) (R.map toR) b=some (b++(F2 e c R).map toR):=by
 unfold Qh;refine F7 (R.map toR) (λn=>((n:Int),b++(F2 e c (R.take n)).map toR)) (by simp[F2]) (by rw[C4];omega) ?_ ?_
 .intro n k q f f1 f2 f3;rw[getElem?_map]at f;obtain⟨r,d,rfl⟩:=Option.map_eq_some_iff.1 f;obtain⟨g,j⟩:=h r (B6 d);have i:(b++(F2 e c (R.take n)).map toR).length<=1000729:=(by rw[Eu,C4];unfold F2;rw[C4,length_take];omega);simp only[f1,f2,f3,Al,Ad];show (X7 [[e],r.1]).bind _=_;rw[A31 _ _ ω,Ad];show (G6 (cR c) (cR r.2)).bind _=_;rw[Ary o g,Ad,Dn (by rw[length_singleton];omega),Ad];have:F2 e c (R.take (n+1))=F2 e c (R.take n)++[(e::r.1,c*r.2)]:=(by unfold F2;rw[Dd d,map_append];rfl);rw[this,map_append,append_assoc];rfl
 .intro f1;refine⟨_,by simp only[f1];rfl,?_⟩;rw[C4,Dq]
theorem A32 (f:Szv data) (p:N2 data) (t:Ag) (r:Bw t<=200) (c:Int) {ts:List Ag} (h:Ht data t c=some ts):X8 data t c=some ts:=by
 unfold X8;unfold Ht at h;rw[Ahl f t r c,Ad];cases d:Na data t c with
 | none=>rw[d]at h;cases h
 | some l=>
  rw[d]at h;have h:Il l (Hj data t.U c)=ts:=Fa h;subst h;have i:=Ahm d;obtain⟨x,y,_,w,_,A,q,_⟩:=U8 d;obtain⟨g,_⟩:=f x (Iv w).2.2.2 y (Iv A).2.2.2;have k:l.length<=6:=(by rw[q];simpa using g);simp only[okL,Acb data t.U c p,Ad];refine F7 (Hj data t.U c) (λj=>((j:Int),Il (l.take j) ((Hj data t.U c).take j))) (by simp[Il]) ω ?_ ?_
  .intro j b F B e C E;have o:l[j]? = some l[j]:=B3 ω;generalize l[j]=a at o;have s:=Acg (l.take j) ((Hj data t.U c).take j);have:(l.take j).length<=6:=ζ;simp only[e,C,E,Al,Ad,Bu rfl o,Ahn o B];rw[Dn ζ];cases b <;> simp
  .intro e;refine⟨_,by simp only[e];rfl,?_⟩;rw[Iz ω,Iz (Nat.le_refl _)]
def Aji (data:List Am) (k K:Nat):Prop:=∀(ts:List Ag) (is b:List Ai) (f c:Nat),B5 is<=k->Di data is ts=some f->Di data b ts=some c->f+c<=6->(∀t∈ts,Bw t<=200)->ts.length<=100000->En is->En b->Qd K data ts is b=some ((Fb (D1 data k) ts is b).map toR)
theorem A33 (hz:Szv data) (hs:N2 data) (ht:Bw t<=200) {K0:Nat} (hR:∀K,K0<=K->Aji data k K):∀(n:Nat) (l m:List Ai) (K u s:Nat),l.length+m.length<=n->K0+n+1<=K->B5 l<=k+1->(∀e∈l,B5 e.K<=k)->F0 data l t=some u->F0 data m t=some s->u+s<=6->En l->En m -> Nx K data t l m=some ((Jr (Js data t (Fb (D1 data k))) l m).map toR):=by
 intro n;induction n with
 | zero=>intro l m K u s Y hK _ _ _ _ _ _ _;have e1:l = []:=Gm.1 ω;obtain⟨K,rfl⟩:∃K',K=K' + 1:=⟨K-1,ω⟩;subst e1;rw[Nx,Ajd,Nd];rfl
 | succ n ih=>
  intro l m K u s Y hK G F H T h6 N L;obtain⟨K,rfl⟩:∃K',K=K' + 1:=⟨K-1,ω⟩;rw[Nx];cases l with
  | nil=>rw[Ajd,Nd];rfl
  | cons a l=>
   rw[Dc ζ,Ao];cases m with
   | nil=>rw[Arv,Nd];rfl
   | cons b m=>
    rw[Dc ζ,Ao];obtain⟨ts,E,C,o,a2,a3,rfl⟩:=Ad4 H;obtain⟨i,D,B,b1,b2,J,rfl⟩:=Ad4 T;have h:=N;have g:=L;simp only[En]at h g;have za:B5 (a::l)=Bt a+B5 l:=(by simp only[B5]);have j:∀e∈l,B5 e.K<=k:=λe he=>F e (by simp[he]);have n1:=Va data _ _ _ H;have n2:=Va data _ _ _ T;simp only[D9]at Y n1 n2;have f:∀(l m:List Ai) (u s:Nat),B5 l<=k+1->(∀e∈l,B5 e.K<=k)->F0 data l t=some u->F0 data m t=some s->u+s<=6->En l->En m->(∀r∈Jr (Js data t (Fb (D1 data k))) l m,r.2<=729/\r.1.length<=100000)/\(Jr (Js data t (Fb (D1 data k))) l m).length<=729:=λl m u s q1 q2 q3 q4 q5 q6 q7=>by
     obtain⟨I,x2⟩:=Arx (Pj data k) t l m u s q1 q2 q3 q4 q5 q6 q7;have:=Qz q5;refine⟨λr A=>⟨by have:=Oa A;omega,?_⟩,?_⟩
     .obtain⟨d,d1,d2⟩:=(I r A).deg;have:=Va data _ _ _ d1;omega
     .have:=Lu λp hp=>(I p hp).pos;omega
    have s1:Ei (a::l) 1 ((a::l).length:Int)=some l:=Ajg a l;have s2:Ei (b::m) 1 ((b::m).length:Int)=some m:=Ajg b m;have i1:Ah (a::l) 0=some a:=rfl;have i2:Ah (b::m) 0=some b:=rfl;obtain⟨I,x2⟩:=f l (b::m) C (1+D+B) ω j a3 T ω h.2 L;obtain⟨y1,y2⟩:=f (a::l) m (1+E+C) B G F H J ω N g.2;obtain⟨z1,z2⟩:=f l m C B ω j a3 J ω h.2 g.2;have L1:∀(e:Ai) (c:Nat) (R:List (List Ai×Nat)),((F2 e c R).map toR).length=R.length:=λe c R=>by unfold F2;simp
    have c1:F6 1=some (cR 1):=Nd;rw[i1,Ad,c1,Ad,s1,Ad,ih l (b::m) K C (1+D+B) ζ ω ω j a3 T ω h.2 L,Ad,Ajh a δ x2 I [] ψ,Ad,i2,Ad,Ad,s2,Ad, ih (a::l) m K (1+E+C) B ζ ω G F H J ω N g.2,Ad,Ajh b δ y2 y1 _ (by rw[nil_append,L1];omega),Ad,Ad,Ad];rw[Arw];by_cases e:a.U=b.U
    .have U:i=ts:=(by rw[<-e,o]at b1;exact (Fa b1).symm);subst U;have V:Ze data t a.U=i:=(by unfold Ze;rw[o]);obtain⟨p1,p2⟩:=Aho o;have pl:i.length<=100000:=(by unfold Ht at o;cases hf:Na data t a.U with| none=>rw[hf]at o;cases o| some l=>rw[hf]at o;have o:Il l (Hj data t.U a.U)=i:=Fa o;obtain⟨x,y,_,hx,_,hy,hl,_⟩:=U8 hf;obtain⟨y6,_⟩:=hz x (Iv hx).2.2.2 y (Iv hy).2.2.2;have a8:l.length<=6:=(by rw[hl];simpa using y6);have:=Acg l (Hj data t.U a.U);rw[o]at this;omega);have ha:=h.1;have hb:=g.1;rw[N4]at ha hb;have z:=hR K ω i a.K b.K E D (F a ψ) a2 b2 ω p1 pl ha.2 hb.2;obtain⟨w1,w2⟩:=Ad3 (Pj data k) i a.K b.K E D (F a ψ) a2 b2 ω ha.2 hb.2;have a6:=Qz (show E+D<=6 by omega);have a7:(Fb (D1 data k) i a.K b.K).length<=729:=(by have:=Lu λp hp=>(w1 p hp).pos;omega);have S:∀r∈Fb (D1 data k) i a.K b.K,r.2<=729:=λr A=>by have:=Oa A;omega
     rw[Gb e,Al,Ad,Ad,ih l m K C B ω ω ω j a3 J ω h.2 g.2,Ad,Ad,A32 hz hs t ht _ o,Ad,Ad,Ad,z,Ad];have Z:Js data t (Fb (D1 data k)) a b=(Fb (D1 data k) i a.K b.K).map λr=>(⟨a.U,r.1⟩,r.2):=(by unfold Js;rw[A7 e,V]);rw[Z];generalize Fb (D1 data k) i a.K b.K=W at *;generalize Jr (Js data t (Fb (D1 data k))) l m=M at *;have hO:∀n,(flatMap (λw:Ai×Nat=>F2 w.1 w.2 M) ((W.take n).map λr=>(⟨a.U,r.1⟩,r.2))).length<=729*729:=λn=>by refine Nat.le_trans (Ad5 _ 729 _ λq _=>by unfold F2;rw[C4];exact z2) (Nat.mul_le_mul_right _ ?_);rw[C4,length_take];omega
     refine F7 (W.map toR) (λn=>((n:Int),[]++(F2 a 1 (Jr (Js data t (Fb (D1 data k))) l (b::m))).map toR++(F2 b 1 (Jr (Js data t (Fb (D1 data k))) (a::l) m)).map toR++(flatMap (λw:Ai×Nat=>F2 w.1 w.2 M) ((W.take n).map λr=>(⟨a.U,r.1⟩,r.2))).map toR)) ψ (by rw[C4];omega) ?_ ?_
     .intro n r' Y A f1 f2 f3;rw[getElem?_map]at A;obtain⟨r,hq,rfl⟩:=Option.map_eq_some_iff.1 A;have X:=S r (B6 hq);have aa:=hO n;simp only[f1,f2,f3,Al,Ad,i1];show (Qh ⟨a.U,r.1⟩ (cR r.2) _ _).bind _=_;rw[Ajh _ X z2 z1 _ (by rw[Eu,Eu,Eu,L1,L1,C4,length_nil];omega),Ad];rw[Dd hq,map_append,flatMap_append,map_append,append_assoc];simp
     .intro f1;refine⟨_,by simp only[f1];rfl,?_⟩;rw[C4,Dq,map_append,map_append];simp
    .rw[Dc e,Ao];have Z:Js data t (Fb (D1 data k)) a b = []:=(by unfold Js;rw[Ay e]);rw[Z,map_append,map_append];simp
theorem A34 (h:∀t i j a b,Bt i<=k->D2 data i t=some a->D2 data j t=some b->a+b<=6->Bw t<=200->iR i->iR j->M4 K data t i j=some ((D1 data k t i j).map A5)):Aji data k (K+1) := λts is g _ _ d e o q p l f c=>A30 (Pj data k) h ts is g d e o q p l f c
theorem Ar1 {R:List (List Ai×Nat)} (i:R.length<=100000) {step:Int×List Ar->Option ((Int×List Ar)⊕List Ar)} (b:∀(v:Int) (o:List Ar),step (v,o)=bif v<((R.map toR).length:Int) then ((Ah (R.map toR) v).bind λr=>(B4 88 o [Ar.mk (Ai.mk 0 r.list) r.coef]).bind λo=>some (.inl ((Ac (v+1)),o))) else some (.inr o)) (f:J ((R.map λr=>((⟨0,r.1⟩:Ai),r.2)).map A5)=some q):(An step (0,[])).bind J=some q:=by
 refine F7 (R.map toR) (λn=>((n:Int),((R.take n).map λr=>((⟨0,r.1⟩:Ai),r.2)).map A5)) ψ (by rw[C4];omega) ?_ ?_
 .intro n g h c f1 f2 f3;rw[getElem?_map]at c;obtain⟨r,d,rfl⟩:=Option.map_eq_some_iff.1 c;rw[b,f1,Al,f2,Ad,Dn (by rw[C4,C4,length_take,length_singleton];omega),Ad,f3,Dd d,map_append,map_append];rfl
 .intro f1;refine⟨_,by rw[b,f1,Ao],?_⟩;rw[C4,Dq];exact f
theorem A35 {a b:Nat} (h:a+b<=12) {step:Int×List Ar->Option ((Int×List Ar)⊕List Ar)} (c:∀(v:Int) (o:List Ar),step (v,o)=bif v<((Ls (a+b+1) (Rc a b)).length:Int) then ((Ah (Ls (a+b+1) (Rc a b)) v).bind λx=>(Iy x).bind λs=>bif (s != (0:Int)) then ((B4 88 o [Ar.mk (Ai.mk v []) x]).bind λo=>some (.inl ((Ac (v+1)),o))) else some (.inl ((Ac (v+1)),o))) else some (.inr o)) (l:J ((Ad0 a b).map A5)=some q):(An step (0,[])).bind J=some q:=by
 have f:∀n,(((range (n+1)).filter λk=>Rc a b k != 0).map λ(k:Nat)=>((⟨(k:Int),[]⟩:Ai),Rc a b k)).map A5=(((range n).filter λk=>Rc a b k != 0).map λ(k:Nat)=>((⟨(k:Int),[]⟩:Ai),Rc a b k)).map A5++(if Rc a b n=0 then [] else [⟨⟨(n:Int),[]⟩,cR (Rc a b n)⟩]):=λn=>by
  rw[range_succ,filter_append,map_append,map_append];by_cases h:Rc a b n=0
  .simp[h]
  .simp[h,A5]
 refine F7 (Ls (a+b+1) (Rc a b)) (λn=>((n:Int),(((range n).filter λk=>Rc a b k != 0).map λ(k:Nat)=>((⟨(k:Int),[]⟩:Ai),Rc a b k)).map A5)) ψ (by rw[Lr];omega) ?_ ?_
 .intro n x g d f1 f2 f3;rw[Lr]at g;rw[Lt _ g]at d;have d:cR (Rc a b n)=x:=Fa d;subst d;have j:Rc a b n<=3 ^ 12:=(by have e:=Zk a b (n+1);have p:Rc a b n<=sm (n+1) (Rc a b):=(by rw[sm];omega);exact Nat.le_trans p (Nat.le_trans e (Nat.pow_le_pow_right δ h)));have i:((((range n).filter λk=>Rc a b k != 0).map λ(k:Nat)=>((⟨(k:Int),[]⟩:Ai),Rc a b k)).map A5).length<=13:=(by rw[C4,C4];refine Nat.le_trans (length_filter_le _ _) ?_;rw[length_range];omega);rw[c,f1,Al,f2,Ad,(Np.cR (a:=Rc a b n) (J0 ω)).sign,Ad,f n];by_cases h:Rc a b n=0
  .rw[A7 h,A7 h,append_nil,f3];rfl
  .rw[Ay h,Ay h,show ((1:Int) != 0)=true from rfl,Al,Dn (by rw[length_singleton];omega),Ad,f3]
 .intro f1;refine⟨_,by rw[c,f1,Ao],?_⟩;rw[Lr];exact l
theorem A36 (N:Szv data) (w:N2 data):∀(k:Nat) (t:Ag) (i j:Ai) (K q l:Nat),Bt i<=k->10*k<=K->D2 data i t=some q->D2 data j t=some l->q+l<=6->Bw t<=200->iR i->iR j -> M4 K data t i j=some ((D1 data k t i j).map A5):=by
 intro k;induction k with
 | zero=>intro t i j K q l h;have:=Fe i;omega
 | succ k ih=>
  intro t i j K q l z X d r y C E D;obtain⟨K,rfl⟩:∃B,K=B+1:=⟨K-1,ω⟩;have M:=Fe i;have g:=E;have f:=D;rw[N4]at g f;have J:∀K,10*k+1<=K->Aji data k K:=λK X=>by obtain⟨K,rfl⟩:∃B,K=B+1:=⟨K-1,ω⟩;exact A34 λt i j a b F H T W Z y Y=>ih t i j K a b F ω H T W Z y Y
  have A:=Pj data (k+1) t i j q l z d r y E D;have L:=Qz y;have c:(D1 data (k+1) t i j).length<=729:=(by have:=Lu λp hp=>(A.1 p hp).pos;omega);rw[M4];rw[D1]at c ⊢;have R:=Jm t;by_cases u:t.G=6
  .rw[A7 u]at c ⊢;rw[Gb u,Al];have d:=Adw u d;have r:=Adw u r;have S:=K2 t.R;rw[J K ω t.R i.K j.K q l ω d r y (λa ha=>by have:=J1 ha;omega) ω g.2 f.2,Ad];rw[C4]at c;exact Ar1 ω (λv o=>rfl) rfl
  .rw[Ay u]at c ⊢;rw[Dc u,Ao];by_cases s:t.G=7
   .rw[A7 s];rw[Gb s,Al];obtain⟨e,_⟩:=Adx s d;obtain⟨e',_⟩:=Adx s r;have I:(i.U.toNat:Int)=i.U:=ω;have G:(j.U.toNat:Int)=j.U:=ω;have V:X1 i.U j.U=some (Ls (i.U.toNat+j.U.toNat+1) (Rc i.U.toNat j.U.toNat),true):=(by unfold X1;rw[Aw ω,Aw ω,Aw ω,Aw ω];simp only[Ao,Ad];have:=Arm i.U.toNat j.U.toNat ω ω;rw[I,G]at this;rw[this,Ad]);rw[V,Ad];exact A35 ω (λv o=>rfl) rfl
   .rw[Ay s]at c ⊢;rw[Dc s,Ao];by_cases x:t.G=5
    .rw[A7 x]at c ⊢;rw[Gb x,Al];have d:=Ady x d;have r:=Ady x r;have I:=Va data _ _ _ d;have G:=Va data _ _ _ r;rw[A33 N w C J (i.K.length+j.K.length) i.K j.K K q l (Nat.le_refl _) ω ω (λe U=>by have:=K6 U;have:=Fe e;omega) d r y g.2 f.2,Ad];rw[C4]at c;exact Ar1 ω (λv o=>rfl) rfl
    .rw[Ay x];rw[Dc x,Ao,Nd,Ad,Dn ψ,Ad];rfl
theorem Ar2:∀k,U2 k=Nv k
 | 0=>by funext i b;rfl
 | k+1=>by have ih:=Ar2 k;funext i b;rw[U2,Nv,ih]
theorem A37 (i:Ai) (d:Bt i<=1048576) (b:iR i):X0 i []=some (wx i):=by have h:=Aox 4000001 i [] ω b ζ;rw[nil_append]at h;rw[<-h,show (4000001:Nat)=4000000+1 from rfl,Nv,<-Ar2];rfl
theorem By.wx (i:Ai):By (Go.Ab.wx i):=Ahv i
def Jt (i:Ai):ByteArray:=bs (wx i)
theorem Ar3 {j:Ai} (h:Jt i=Jt j):i=j:=by have d:=Aip (By.wx i) (By.wx j) h;have e:=Acn i j [] [] Acm Acm (by rw[append_nil,append_nil];exact d);exact e.1
theorem A38 (i:Ai):wx i≠[]:=by rw[Acl];intro h;exact Ack _ (append_eq_nil_iff.1 h).1
theorem A39 (i:Ai):Nat.beq (Jt i).size 0=false:=by unfold Jt;rw[Vp];have:=A38 i;cases h:wx i with| nil=>exact (this h).elim| cons a l=>rfl
def pls (ts:List (Ai×Nat)):List (ByteArray×Int):=ts.zipIdx.map λq=>(Jt q.1.1,(q.2:Int))
def Dw (ts:List (Ai×Nat)):Prop:=ts.Pairwise λt u=>t.1≠u.1
theorem A4a (ts:List (Ai×Nat)) (t:Ai×Nat):pls (ts++[t])=pls ts++[(Jt t.1,(ts.length:Int))]:=by unfold pls;rw[zipIdx_append];simp
theorem Zm (ts:List (Ai×Nat)) (j:Nat):(pls ts)[j]? = (ts[j]?).map λt=>(Jt t.1,(j:Int)):=by unfold pls;rw[getElem?_map,getElem?_zipIdx];cases ts[j]? <;> simp
theorem A4b {ts:List (Ai×Nat)} {t:Ai×Nat} (h:ts[j]? = some t) (b:u.1=t.1):pls (ts.set j u)=pls ts:=by
 refine ext_getElem? λn=>?_;rw[Zm,Zm,getElem?_set];by_cases e:j=n
 .subst e;rw[A7 rfl,h];have:=Ez h;rw[A7 this];simp[b]
 .rw[Ay e]
theorem A4c {ts:List (Ai×Nat)} {m:Ai} (h:∀t∈ts,t.1≠m):Ej (pls ts) (Jt m)=false:=by cases e:Ej (pls ts) (Jt m) with| false=>rfl| true=>unfold Ej at e;obtain⟨p,hp,e⟩:=any_eq_true.1 e;obtain⟨j,d⟩:=Ik hp;rw[Zm]at d;obtain⟨t,o,rfl⟩:=Option.map_eq_some_iff.1 d;exact (h t (B6 o) (Ar3 ((Md _ _).1 e)).symm).elim
theorem A4d {ts:List (Ai×Nat)} (r:Dw ts) {t:Ai×Nat} (h:ts[j]? = some t):Ej (pls ts) (Jt t.1)=true/\Hq (pls ts) (Jt t.1) 0=(j:Int):=by
 have s:=Zm ts j;rw[h]at s;have c:(Jt t.1,(j:Int))∈pls ts:=B6 s;refine⟨?_,?_⟩
 .unfold Ej;exact any_eq_true.2 ⟨_,c,(Md _ _).2 rfl⟩
 .unfold Hq;cases o:(pls ts).find? λp=>Jt t.1==p.1 with
  | none=>rw[find?_eq_none]at o;exact (o _ c ((Md _ _).2 rfl)).elim
  | some p=>
   have e:=find?_some o;have e:Jt t.1=p.1:=(Md _ _).1 e;obtain⟨n,b⟩:=Ik (mem_of_find?_eq_some o);rw[Zm]at b;obtain⟨u,d,rfl⟩:=Option.map_eq_some_iff.1 b;have e:=Ar3 e;show (n:Int)=j;rcases Nat.lt_trichotomy n j with k|k|k
   .exact (pairwise_iff_getElem.1 r n j (Ez d) (Ez h) k (by
     rw[B3 (Ez d)]at d
     rw[B3 (Ez h)]at h
     rw[Fa d,Fa h];exact e.symm)).elim
   .rw[k]
   .exact (pairwise_iff_getElem.1 r j n (Ez h) (Ez d) k (by
     rw[B3 (Ez d)]at d
     rw[B3 (Ez h)]at h
     rw[Fa d,Fa h];exact e)).elim
theorem Ar4 {α:Type} (f:α->Nat):∀{ts:List (α×Nat)} {j:Nat} {t:α×Nat} (c:Nat),ts[j]? = some t->pv f (ts.set j (t.1,t.2+c))=pv f ts+c*f t.1
 | t' :: ts,0,t,c,h=>by have h:t'=t:=(by simpa using h);subst h;simp only[set_cons_zero,pv,Nat.add_mul];omega
 | t' :: ts,j+1,t,c,h=>by have ih:=Ar4 f (ts:=ts) (j:=j) (t:=t) c (by simpa using h);simp only[set_cons_succ,pv,ih];omega
 | [],_,_,_,h=>by simp at h
structure Cw (P:Ai->Prop) (ts:List (Ai×Nat)):Prop where
 dst:Dw ts
 mo:∀t∈ts,P t.1
 pos:∀t∈ts,1<=t.2
theorem Cw.nil (P:Ai->Prop):Cw P []:=⟨Pairwise.nil,λ_ h=>(by cases h),λ_ h=>(by cases h)⟩
theorem Dw.set {ts:List (Ai×Nat)} (h:Dw ts) {t:Ai×Nat} (d:ts[j]? = some t) (b:u.1=t.1):Dw (ts.set j u):=by
 have e:∀l:List (Ai×Nat),Dw l↔(l.map (·.1)).Pairwise (·≠·):=λl=>by unfold Dw;rw[pairwise_map]
 rw[e]at h ⊢;have:(ts.set j u).map (·.1)=ts.map (·.1):=by
  refine ext_getElem? λn=>?_;rw[getElem?_map,getElem?_map,getElem?_set];by_cases k:j=n
  .subst k;rw[A7 rfl,A7 (Ez d),d];simp[b]
  .rw[Ay k]
 rw[this];exact h
theorem Ar5 (Z:∀i,P i->Bt i<=1048576/\iR i) (l ts:List (Ai×Nat)) (I:Cw P ts) (Y:∀t∈l,P t.1/\1<=t.2) (hN:pv (λ_=>1) ts+pv (λ_=>1) l<Eo) (hn:ts.length+l.length<=1000000000) (data:List Am) (a b:Int) (c:List Ag) : ∃k,Qa (l.map A5) (pls ts) (ts.map A5) data a b c=some (pls k,k.map A5)/\Cw P k/\k.length<=ts.length+l.length/\∀f:Ai->Nat,pv f k=pv f ts+pv f l:=by
 unfold Qa;refine U7 (A:=List (Ai×Nat)) (λk=>(pls k,k.map A5)) ?_;refine Ev (λs=>∃(j:Nat) (u:List (Ai×Nat)),s=((j:Int),pls u,u.map A5)/\j<=l.length/\Cw P u/\u.length<=ts.length+j/\∀f:Ai->Nat,pv f u=pv f ts+pv f (l.take j)) (λs=>l.length-s.1.toNat) (λz=>∃u,z=(pls u,u.map A5)/\Cw P u/\u.length<=ts.length+l.length/\∀f:Ai->Nat,pv f u=pv f ts+pv f l) ⟨0,ts,rfl,ω,I,ω,λf=>by simp only[take_zero,pv];omega⟩ ?_ ?_
 .rintro _ ⟨j,u,rfl,hj,o,G,B⟩;rcases Cb j l.length with h|h
  .have F:l[j]? = some l[j]:=B3 h;generalize l[j]=x at F;obtain⟨N,hp⟩:=Y x (B6 F);obtain⟨U,S⟩:=Z _ N;have E:(l.map A5)[j]? = some (A5 x):=(by rw[getElem?_map,F];rfl);have J:pv (λ_=>1) (l.take (j+1))<=pv (λ_=>1) l:=(by have:=Ph (λ_=>1) (l.take (j+1)) (l.drop (j+1));rw[take_append_drop]at this;omega);have q:∀f:Ai->Nat,pv f (l.take (j+1))=pv f (l.take j)+x.2*f x.1:=λf=>by rw[Dd F,Ph];simp only[pv];omega
   have X:=q λ_=>1;have V:=B λ_=>1;have y:((l.map A5).length:Int)=(l.length:Int):=(by rw[C4]);have d:X0 (A5 x).I []=some (wx x.1):=A37 x.1 U S;simp only[y,Aq (ω:(j:Int)<(l.length:Int)),Al,Bu rfl E,Ad,d,C3 h ω,N9 (By.wx x.1)];have H:bs (wx x.1)=Jt x.1:=rfl;rw[H];left;by_cases p:∃t∈u,t.1=x.1
   .obtain⟨t,r,R⟩:=p;obtain⟨i,C⟩:=Ik r;obtain⟨T,W⟩:=A4d o.dst C;rw[R]at T W;have L:(u.map A5)[i]? = some (A5 t):=(by rw[getElem?_map,C];rfl);have tb:=Oa r;have D:M0 (A5 t).C (A5 x).C=some (cR (t.2+x.2)):=Np.add (Np.c ω) (Np.c ω);refine⟨((j+1:Nat),pls (u.set i (t.1,t.2+x.2)),(u.set i (t.1,t.2+x.2)).map A5),?_,⟨j+1,u.set i (t.1,t.2+x.2),rfl,ω,⟨o.dst.set C rfl,?_,?_⟩,by rw[length_set];omega,λf=>?_⟩,ζ⟩
    .simp only[T,W,Al,Ad,Bu rfl L,D,Gv rfl,A4b (u:=(t.1,t.2+x.2)) C rfl];rw[map_set];rfl
    .intro w d;rcases mem_or_eq_of_mem_set d with d|rfl
     .exact o.mo w d
     .exact o.mo t r
    .intro w d;rcases mem_or_eq_of_mem_set d with d|rfl
     .exact o.pos w d
     .show 1<=t.2+x.2;omega
    .rw[Ar4 f x.2 C,B f,q f,R];omega
   .have g:=A4c (m:=x.1) (ts:=u) λt r e=>p ⟨t,r,e⟩;have M:U3 (Jt x.1)=some (Jt x.1):=(by unfold U3;rw[A39,Ao]);refine⟨((j+1:Nat),pls (u++[x]),(u++[x]).map A5),?_,⟨j+1,u++[x],rfl,ω,⟨?_,?_,?_⟩,ζ,λf=>?_⟩,ζ⟩
    .simp only[g,Ao,Ad,M];rw[Dn (by rw[C4,length_singleton];omega),Ad,Adh _ _ _ g,A4a,map_append,C4];rfl
    .refine pairwise_append.2 ⟨o.dst,pairwise_singleton _ _,λa ha b H=>?_⟩;simp only[D0]at H;subst H;exact λe=>p ⟨a,ha,e⟩
    .intro w d;rcases D7.1 d with d|d
     .exact o.mo w d
     .simp only[D0]at d;subst d;exact N
    .intro w d;rcases D7.1 d with d|d
     .exact o.pos w d
     .simp only[D0]at d;subst d;exact hp
    .rw[Ph,B f,q f];simp only[pv];omega
  .have:j=l.length:=ω;subst this;rw[Dq]at B;have y:((l.map A5).length:Int)=(l.length:Int):=(by rw[C4]);simp only[y,Aw (ω:¬(l.length:Int)<(l.length:Int)),Ao];exact .inr ⟨_,rfl,u,rfl,o,G,B⟩
 .rintro _ ⟨u,rfl,h1,h2,h3⟩;exact⟨_,rfl,u,rfl,h1,h2,h3⟩
theorem A4e {B:Nat} (f:B<=1024) {gr:Int->Option (List α)} (hg:∀n:Nat,n<=1000000->gr (n:Int)=some []) (ls:List (List α)) (g:ls.length<=1000) (h:ls.flatten.length<=1000000):Adk B gr ls=some ls.flatten:=by
 have b:∀{j x},ls[j]? = some x->(ls.take (j+1)).flatten=(ls.take j).flatten++x:=λ{j x} d=>by rw[Dd d,flatten_append];simp
 have c:∀j,(ls.take j).flatten.length<=1000000:=λj=>by have:ls.flatten=(ls.take j).flatten++(ls.drop j).flatten:=(by rw[<-flatten_append,take_append_drop]);rw[this,Eu]at h;omega
 unfold Adk;refine F7 ls (λj=>(((ls.take j).flatten.length:Int),(j:Int))) rfl ω ?_ ?_
 .intro j x s d e p r;have o:=c (j+1);rw[b d,Eu]at o;have w:Ac (((ls.take j).flatten.length:Int)+(x.length:Int))=(((ls.take (j+1)).flatten.length:Nat):Int):=(by rw[b d,Eu,Ac,B8] <;> omega);simp only[e,p,r,Al,Ad,w,Aw (ω:¬(((ls.take (j+1)).flatten.length:Nat):Int)<0),Ao]
 .intro e;refine⟨(((ls.take ls.length).flatten.length:Nat):Int),by simp only[e];rfl,?_⟩;rw[Dq,hg _ h,Ad];refine F7 ls (λj=>((j:Int),(ls.take j).flatten)) rfl ω ?_ ?_
  .intro j x s d e p r;have o:=c (j+1);rw[b d,Eu]at o;have:((ls.take j).flatten.length+x.length)*B<=1000000*1024:=Nat.mul_le_mul o f;simp only[e,p,r,Al,Ad];rw[Dn ω,Ad,b d]
  .intro e;exact⟨ls.flatten,by simp only[e,Dq];rfl,rfl⟩
theorem A4f (ls:List (List Ar)) (b:ls.length<=1000) (h:ls.flatten.length<=1000000):Abj ls=some ls.flatten := A4e (B:=88) δ (gr:=Abn) (λn h=>Adr n h) ls b h
theorem Ar6:∀k,Kx k=O0 k
 | 0=>by funext i;rfl
 | k+1=>by have ih:=Ar6 k;funext i;rw[Kx,O0,ih]
theorem Ajj {b:Ai}:Gf a b=0↔a=b:=Ac7.zero a b trivial trivial
theorem Zn (a b:Ai):Gf b a = - Gf a b:=Ac7.anti a b trivial trivial
theorem Ar7 {b c:Ai} (h:Gf a b<0) (d:Gf b c<0):Gf a c<0:=Ac7.trans a b c trivial trivial trivial h d
theorem Ajk:Mx (λt u:Ar=>Gf t.I u.I) where
 irr x:=by
  show ¬Gf x.I x.I<0
  rw[Ajj.2 rfl];omega
 trs x y z e d:=Ar7 e d
 ntr x y z e d:=by
  show ¬Gf x.I z.I<0
  have e:¬Gf x.I y.I<0:=e
  have d:¬Gf y.I z.I<0:=d
  intro h
  rcases Int.lt_trichotomy (Gf x.I y.I) 0 with k|k|k
  .exact e k
  .rw[Ajj.1 k]at h;exact d h
  .exact d (Ar7 (show Gf y.I x.I<0 by rw[Zn x.I y.I];omega) h)
theorem Ar8 (a b:Ar) (h:Bt a.I<=1048576):Ny a b=some (Gf a.I b.I):=by unfold Ny;rw[Ao3 1048576 4000000 a.I b.I h ω ω];rfl
def Ajl (b:List Ar):List Ar:=b.mergeSort λt u=>decide (Gf t.I u.I<=0)
theorem A4g (f:List Ar) (p:f.Pairwise λt u=>t.I≠u.I):(Ajl f).Pairwise λt u=>Gf t.I u.I<0:=by
 have d:=pairwise_mergeSort (le:=λt u:Ar=>decide (Gf t.I u.I<=0)) (λa b c d o=>by
  simp only[D4]at *
  have:=Ajk.ntr c b a (by show ¬Gf _ _<0;rw[Zn];omega) (by show ¬Gf _ _<0;rw[Zn];omega)
  have this:¬Gf c.I a.I<0:=this
  rw[Zn]at this;omega) (λa b=>by
  simp only[Bool.or_eq_true,D4]
  rw[Zn a.I b.I];omega) f
 have o:(Ajl f).Pairwise λt u=>t.I≠u.I:=((mergeSort_perm f _).pairwise_iff λ{x y} h=>h.symm).2 p
 refine (d.and o).imp λ{t u} h=>?_
 have a:=of_decide_eq_true h.1
 have b:Gf t.I u.I≠0:=λe=>h.2 (Ajj.1 e)
 omega
theorem A4h (b:List Ar) (p:b.Pairwise λt u=>t.I≠u.I) (c:∀t∈b,Bt t.I<=1048576):∃R,Kf b=some R/\R.Perm b:=by
 rcases Cb 12 b.length with h|h
 .have e:Nat.ble b.length 12=false:=(by cases k:Nat.ble b.length 12 with| false=>rfl| true=>have:=Nat.le_of_ble_eq_true k;omega);unfold Kf;rw[e,Ao];obtain⟨r,f,i,s,B,hp,_⟩:=Al9 (cmp:=Ny) (l:=b) (r:=Ajl b) ⟨_,Ajk,λx d y _=>Ar8 x y (c x d),mergeSort_perm b _,A4g b p⟩;exact⟨r,f,hp⟩
 .obtain⟨R,A,o,_⟩:=Ai2 (cmp:=Ny) Ajk b (λx d y _=>Ar8 x y (c x d)) ω;obtain⟨v,g⟩:=Aiz (n:=b.length) ω;refine⟨R,?_,o⟩
  .unfold Kf;rw[Nat.ble_eq_true_of_le h,Al];unfold Agv;rw[g,Ad];have hp:X9 0 (b.length:Int) v b=some R:=(by unfold X9;have e:Abp 0 (b.length:Int) b=Vs Ny 0 (b.length:Int) b:=rfl;have w:Ac ((b.length:Int)-0)=(b.length:Int):=ξ;refine bnd (a:=R) (Fm ?_) rfl;rw[w,Aq ω,Al,e,A,Ad,J7 o.length_eq.symm];rfl);rw[hp,Ad,J7 o.length_eq.symm];rfl
def dgi (data:List Am) (t:Ag) (p:Ai×Nat):Nat:=match D2 data p.1 t with|some d=>d|none=>0
def bk (data:List Am) (t:Ag) (L:List (Ai×Nat)) (d:Nat):List (Ai×Nat):=L.filter λp=>dgi data t p==d
theorem Ar9 {α:Type} (f:α->Nat):∀(n:Nat) (L:List α),(∀x∈L,f x<n)->((range n).flatMap λd=>L.filter λx=>f x==d).Perm L
 | 0,L,h=>by cases L with| nil=>exact Perm.refl _| cons x L=>exact absurd (h x ψ) ω
 | n+1,L,h=>by
  have ih:=Ar9 f n (L.filter λx=>!(f x==n)) λx p=>by obtain⟨r,s⟩:=mem_filter.1 p;have:=h x r;have:f x≠n:=(by simpa using s);omega
  rw[range_succ,flatMap_append];have e:((range n).flatMap λd=>(L.filter λx=>!(f x==n)).filter λx=>f x==d)=(range n).flatMap λd=>L.filter λx=>f x==d:=by
   have o:∀R:List Nat,(∀d∈R,d<n)->(R.flatMap λd=>(L.filter λx=>!(f x==n)).filter λx=>f x==d)=R.flatMap λd=>L.filter λx=>f x==d:=by
    intro R;induction R with
    | nil=>intro _;rfl
    | cons d R b=>
     intro c;rw[flatMap_cons,flatMap_cons,b λq w=>c q (by simp[w]),filter_filter];congr 1;refine filter_congr λx _=>?_;have:=c d ψ;by_cases e:f x=d
     .have:f x≠n:=ω;simp[e];omega
     .simp[e]
   exact o _ λd y=>mem_range.1 y
  rw[e]at ih;refine (Perm.append_right _ ih).trans ?_;have:=filter_append_perm (λx=>!(f x==n)) L;simp only[Bool.not_not]at this;simpa using this
def i7:Nat->I7
 | 0=>.c0
 | 1=>.c1
 | 2=>.c2
 | 3=>.c3
 | 4=>.c4
 | 5=>.c5
 | _=>.c6
theorem Asa (d:Nat) (h:d<7):Wo (d:Int)=some (i7 d):=by rcases (ω:d=0\/d=1\/d=2\/d=3\/d=4\/d=5\/d=6) with rfl|rfl|rfl|rfl|rfl|rfl|rfl <;> rfl
theorem A4i {x:Ai×Nat} (h:L[j]? = some x) (d:Nat):(bk data t (L.take (j+1)) d).map A5=(bk data t (L.take j) d).map A5++(if dgi data t x=d then [A5 x] else []):=by
 unfold bk;rw[Ai0 h,map_append];by_cases e:dgi data t x=d
 .simp[e]
 .simp[e]
def Asb (data:List Am) (t:Ag) (i:Ai):Prop:=Bt i<=1048576/\iR i/\∃d,D2 data i t=some d/\d<=6
theorem Asd (T:DSz data) (W:Hy data) (hg:Gg data t=true) (y:Cw (Asb data t) L) (hN:pv (λ_=>1) L<Eo) (X:L.length<=1000000000) : (1000<L.length/\L6 (pls L) (L.map A5) data t.G t.U t.R=some ([],9))\/(L.length<=1000/\∃R:List (Ai×Nat),L6 (pls L) (L.map A5) data t.G t.U t.R=some (R.map A5,0)/\R.Perm L):=by
 have q:∀x∈L,D2 data x.1 t=some (dgi data t x)/\dgi data t x<7:=λx r=>by obtain⟨_,_,d,d1,d2⟩:=y.mo x r;have:dgi data t x=d:=(by unfold dgi;rw[d1]);rw[this];exact⟨d1,ω⟩
 have G:Ag.mk t.G t.U t.R=t:=by cases t;rfl
 have V:∀j d,((bk data t (L.take j) d).map A5).length<=1000000000:=λj d=>by unfold bk;rw[C4];refine Nat.le_trans (length_filter_le _ _) ?_;rw[length_take];omega
 have g:∀d,∃S:List (Ai×Nat),Kf ((bk data t L d).map A5)=some (S.map A5)/\S.Perm (bk data t L d):=λd=>by
  have hd:((bk data t L d).map A5).Pairwise λa b=>a.I≠b.I:=(by rw[pairwise_map];exact Pairwise.sublist filter_sublist y.dst);obtain⟨R,r1,r2⟩:=A4h ((bk data t L d).map A5) hd λw F=>by obtain⟨p,hp,rfl⟩:=mem_map.1 F;exact (y.mo p (mem_filter.1 hp).1).1
  obtain⟨S,D,A⟩:∃S:List (Ai×Nat),R=S.map A5/\S.Perm (bk data t L d):=by
   have H:∀(M:List Ar) (B:List (Ai×Nat)),M.Perm (B.map A5)->∃S:List (Ai×Nat),M=S.map A5/\S.Perm B:=by
    intro M;induction M with
    | nil=>intro B h;have h:=h.symm.eq_nil;cases B with| nil=>exact⟨[],rfl,Perm.refl _⟩| cons b B=>simp at h
    | cons w M ih=>intro B h;obtain⟨b,hb,e⟩:=mem_map.1 (h.mem_iff.1 (by simp:w∈w::M));obtain⟨Z,Y,rfl⟩:=append_of_mem hb;have h2:(w::M).Perm (w::(Z++Y).map A5):=(by refine h.trans ?_;rw[map_append,map_append,map_cons,e];exact perm_middle);obtain⟨S,D,A⟩:=ih (Z++Y) h2.cons_inv;exact⟨b::S,by rw[map_cons,e,D],(A.cons b).trans perm_middle.symm⟩
   exact H R _ r2
  subst D;exact⟨S,r1,A⟩
 obtain⟨S,U⟩:=Classical.axiomOfChoice g;have f:((range 7).flatMap S).Perm L:=by
  have h1:=Ar9 (dgi data t) 7 L λx r=>(q x r).2;refine Perm.trans ?_ h1;have:∀R:List Nat,(R.flatMap S).Perm (R.flatMap λd=>L.filter λx=>dgi data t x==d):=λR=>by induction R with| nil=>exact Perm.refl _| cons d R ih=>rw[flatMap_cons,flatMap_cons];exact (U d).2.append ih
  exact this _
 have o:L6 (pls L) (L.map A5) data t.G t.U t.R=some (if 1000<L.length then ([],9) else (((range 7).flatMap S).map A5,0)):=by
  unfold L6;refine Jl L.length (λj=>((j:Int),(j:Int),(bk data t (L.take j) 0).map A5,(bk data t (L.take j) 1).map A5,(bk data t (L.take j) 2).map A5,(bk data t (L.take j) 3).map A5,(bk data t (L.take j) 4).map A5,(bk data t (L.take j) 5).map A5,(bk data t (L.take j) 6).map A5)) (by simp[bk]) ?_ ⟨((L.length:Int),(bk data t L 0).map A5,(bk data t L 1).map A5,(bk data t L 2).map A5,(bk data t L 3).map A5,(bk data t L 4).map A5,(bk data t L 5).map A5,(bk data t L 6).map A5),?_,?_⟩
  .intro j C;have r:L[j]? = some L[j]:=B3 C;generalize L[j]=x at r;have z:=B6 r;obtain⟨g1,g2,g3⟩:=y.mo x z;obtain⟨d1,d2⟩:=q x z;have hp:=y.pos x z;have a1:=Oa z;have E:(L.map A5)[j]? = some (A5 x):=(by rw[getElem?_map,r];rfl);have i:(((L.map A5).length:Nat):Int)=(L.length:Int):=(by rw[C4]);have k:Np (A5 x).C x.2:=Np.c ω;have I:Iy (A5 x).C=some 1:=(by rw[k.sign,Ay ω]);have u:Ji (A5 x).C=some (cR x.2):=k.can;have s:Lk data t (A5 x).I=some (dgi data t x:Int):=(by show Lk data t x.1=_;rw[Aic T W t hg x.1 g1,d1,Qq ω]);have J:Kx 4000000 (A5 x).I=some x.1:=(by rw[Ar6];exact Aqb 4000000 x.1 ω ω);have N:∀d,B4 88 ((bk data t (L.take j) d).map A5) [⟨x.1,cR x.2⟩]=some ((bk data t (L.take j) d).map A5++[⟨x.1,cR x.2⟩]):=λd=>Dn (by have:=V j d;rw[length_singleton];omega);simp only[i,Aq (ω:(j:Int)<(L.length:Int)),Al,Bu rfl E,Ad,I,show ((1:Int) != 0)=true from rfl,G,s,Asa _ d2,C3 C ω];simp only[A4i r];rcases (ω:dgi data t x=0\/dgi data t x=1\/dgi data t x=2\/dgi data t x=3\/dgi data t x=4\/dgi data t x=5\/dgi data t x=6) with e|e|e|e|e|e|e <;> (simp only[e,i7,J,u,N,Ad];simp[A5])
  .have i:(((L.map A5).length:Nat):Int)=(L.length:Int):=(by rw[C4]);simp only[i,Aw (ω:¬(L.length:Int)<(L.length:Int)),Ao,Dq]
  .dsimp only;by_cases h:1000<L.length
   .rw[Aq ω,Al,A7 h]
   .rw[Aw ω,Ao,Ay h];have hB:∀d,Kf ((bk data t L d).map A5)=some ((S d).map A5):=λd=>(U d).1;have hG:∀d,Fv (bk data t L d).length ((S d).map A5)=some ():=λd=>J7 (by have h:((S d).map A5).length=(S d).length:=ψ;rw[h];exact (U d).2.length_eq.symm);refine Jl 7 (λj=>((j:Int),(if 0<j then (S 0).map A5 else (bk data t L 0).map A5),(if 1<j then (S 1).map A5 else (bk data t L 1).map A5),(if 2<j then (S 2).map A5 else (bk data t L 2).map A5),(if 3<j then (S 3).map A5 else (bk data t L 3).map A5),(if 4<j then (S 4).map A5 else (bk data t L 4).map A5),(if 5<j then (S 5).map A5 else (bk data t L 5).map A5),(if 6<j then (S 6).map A5 else (bk data t L 6).map A5))) rfl ?_ ⟨((S 0).map A5,(S 1).map A5,(S 2).map A5,(S 3).map A5,(S 4).map A5,(S 5).map A5,(S 6).map A5),rfl,?_⟩
    .intro j C;have F:Ac ((j:Int)+1)=((j+1:Nat):Int):=C3 (n:=7) C ω;simp only[Aq (ω:(j:Int)<((7:Nat):Int)),Al,Asa j C,Ad,F];rcases (ω:j=0\/j=1\/j=2\/j=3\/j=4\/j=5\/j=6) with rfl|rfl|rfl|rfl|rfl|rfl|rfl <;> (dsimp only[i7];simp[hB,hG])
    .have l:([(S 0).map A5,(S 1).map A5,(S 2).map A5,(S 3).map A5,(S 4).map A5,(S 5).map A5,(S 6).map A5]:List (List Ar)).flatten=((range 7).flatMap S).map A5:=(by rw[show range 7 = [0,1,2,3,4,5,6] from rfl];simp[map_append]);dsimp only;rw[A4f _ ψ (by rw[l,C4,f.length_eq];omega),l];rfl
 by_cases h:1000<L.length
 .rw[A7 h]at o;exact .inl ⟨h,o⟩
 .rw[Ay h]at o;exact .inr ⟨ω,_,o,f⟩
def GI (data:List Am) (t:Ag) (S D:Nat) (i:Ai):Prop:=Bt i<=S/\iR i/\∃d,D2 data i t=some d/\d<=D
theorem GI.mono (h:GI data t S D i) (b:S<=S') (c:D<=D'):GI data t S' D' i:=by obtain⟨h1,h2,d,h3,f⟩:=h;exact⟨ω,h2,d,h3,ω⟩
theorem Cw.imp {Q:Ai->Prop} (h:Cw P L) (hi:∀i,P i->Q i):Cw Q L:=⟨h.dst,λt d=>hi _ (h.mo t d),h.pos⟩
theorem GI.good (b:S<=1048576) (c:D<=6) (h:GI data t S D i):Asb data t i:=h.mono b c
theorem Ad6 (b:DSz data) (c:Hy data) (hg:Gg data t=true) (g:S<=1048576) (q:D<=6) (k:∀p∈L,GI data t S D p.1/\1<=p.2) (j:pv (λ_=>1) L<Eo) (s:L.length<=2000) : (1000<L.length/\Oz data t (L.map A5)=some ([],9))\/∃P,Oz data t (L.map A5)=some (P.map A5,0)/\Cw (GI data t S D) P/\P.length<=1000/\∀f:Ai->Nat,pv f P=pv f L:=by
 unfold Oz Up;rw[Aw (by rw[C4];omega),Ao];simp only[Ad];obtain⟨T,r,e,E,o⟩:=Ar5 (P:=GI data t S D) (λi h=>⟨by have:=h.1;omega,h.2.1⟩) L [] (Cw.nil _) k (by show 0+_<Eo;omega) ζ data t.G t.U t.R;have r:Qa (L.map A5) [] [] data t.G t.U t.R=some (pls T,T.map A5):=r;rw[r];simp only[Ad];have o:∀f:Ai->Nat,pv f T=pv f L:=λf=>by rw[o];show 0+_=_;omega
 rcases Asd b c hg (e.imp λi h=>h.good g q) (by rw[o];exact j) (by simp at E;omega) with⟨F,h⟩|⟨w,R,C,d⟩
 .left;exact⟨by simp only[length_nil]at E;omega,by rw[h];rfl⟩
 .right;rw[C];refine⟨R,rfl,⟨(d.pairwise_iff λ{x y} h=>h.symm).2 e.dst,λp hp=>e.mo p (d.mem_iff.1 hp),λp hp=>e.pos p (d.mem_iff.1 hp)⟩,by rw[d.length_eq];exact w,λf=>?_⟩;rw[<-o f];have:∀{A B:List (Ai×Nat)},A.Perm B->pv f A=pv f B:=λ{A B} h=>by induction h with| nil=>rfl| cons x _ ih=>simp only[pv,ih]| swap x y l=>simp only[pv];omega| trans _ _ w C=>rw[w,C]
  exact this d
theorem Ad7 (g:DSz data) (h:Hy data) (hg:Gg data t=true) (x:S<=1048576) (y:D<=6) (s:∀p∈L,GI data t S D p.1) (u:L.length<=2000):R7 data t (L.map A5)=some true:=by
 have b:Sf data t=some true:=by have f:=hg;simp only[Gg,D3,D4]at f;obtain⟨q,l,k⟩:=Acf g;have e:q=true:=k.2 h;subst e;unfold Sf;rw[l,Sx data t 0 ω];simp only[Ad,Al];rw[show (G8 data 0 t&&decide (Bw t<=200))=Gg data t from rfl,hg]
 have c:∃i,Xx data t=some (i,true):=by unfold Xx;rw[b,Ad];simp only[bnt,Ao];have f:=hg;simp only[Gg,D3,D4]at f;obtain⟨i,o,_⟩:=A1k 4000000 t ω ω;exact⟨i,by rw[o];rfl⟩
 obtain⟨i,o⟩:=c;unfold R7;rw[o,Ad];simp only[Al];have B:Xy (L.map A5) data t=some false:=by
  unfold Xy Abm;refine bnd (a:= -1) ?_ rfl;refine F7 (L.map A5) (λj=>(j:Int)) rfl (by rw[C4];omega) ?_ ?_
  .intro j G H A r C E;rw[getElem?_map]at A;obtain⟨w,e,rfl⟩:=Option.map_eq_some_iff.1 A;obtain⟨I,N,d,d1,d2⟩:=s w (B6 e);have:Xz (A5 w) data t=some false:=(by unfold Xz Abi;show ((Lk data t w.1).bind λF=>some (decide (F>=0))).bind _=_;rw[Aic g h t hg w.1 ω,d1,Qq ω];simp only[Ad];rw[Aq ω];rfl);simp only[r,C,E,Al,Ad,this,Ao]
  .intro r;exact⟨_,by simp only[r];rfl,rfl⟩
 rw[B];rfl
theorem A4j {c:Nat} (f:∀p∈L,p.2<Eo) (o:c<Eo) (g:L.length<=1000000):R8 (L.map A5) (cR c)=some ((L.map λp=>(p.1,p.2*c)).map A5):=by
 unfold R8;refine F7 (L.map A5) (λj=>((j:Int),((L.take j).map λp=>(p.1,p.2*c)).map A5)) ψ (by rw[C4];omega) ?_ ?_
 .intro j y A e d r s;rw[getElem?_map]at e;obtain⟨w,h,rfl⟩:=Option.map_eq_some_iff.1 e;have b:G6 (A5 w).C (cR c)=some (cR (w.2*c)):=Np.mul (Np.c (f w (B6 h))) (Np.c o);simp only[d,r,s,Al,Ad,b];rw[Dn (by rw[C4,C4,length_take,length_singleton];omega),Ad,Dd h,map_append,map_append];rfl
 .intro d;refine⟨_,by simp only[d];rfl,?_⟩;rw[C4,Dq]
def KM:Nat:=400000
theorem Ase {α:Type} (f:α->Nat) (c:Nat):∀L:List (α×Nat),pv f (L.map λp=>(p.1,p.2*c))=c*pv f L
 | []=>rfl
 | p::L=>by rw[map_cons,pv,Ase f c L,pv,Nat.mul_add];have:p.2*c*f p.1=c*(p.2*f p.1):=(by ac_rfl);show p.2*c*f p.1+_=_;omega
theorem A4k (f:α->Nat) {A B:List (α×Nat)} (h:A.Perm B):pv f A=pv f B:=by induction h with| nil=>rfl| cons x _ ih=>simp only[pv,ih]| swap x y l=>simp only[pv];omega| trans _ _ d e=>rw[d,e]
def pv2 (data:List Am) (t:Ag) (f:Ai->Nat) (P Q:List (Ai×Nat)):Nat:=pv (λa=>pv (λb=>pv f (D1 data KM t a b)) Q) P
theorem Ad8 (f:α->Nat) {L:List (α×Nat)} {x:α×Nat} (h:L[j]? = some x):pv f (L.take (j+1))=pv f (L.take j)+x.2*f x.1:=by rw[Dd h,Ph];simp only[pv];omega
theorem Asf (f:α->Nat) (L:List (α×Nat)) (j:Nat):pv f (L.take j)<=pv f L:=by have:=Ph f (L.take j) (L.drop j);rw[take_append_drop]at this;omega
theorem Ad9 {f g:α->Nat} {L:List (α×Nat)} (h:∀p∈L,f p.1<=g p.1):pv f L<=pv g L:=A3w h
noncomputable def Zo (data:List Am) (t:Ag) (v:Ar) (q:List Ar):Int×List (ByteArray×Int)×List Ar->Option ((Int×List (ByteArray×Int)×List Ar)⊕(Int×List (ByteArray×Int)×List Ar)):=λ(b,j,g)=> bif b<(q.length:Int) then ((Ah q b).bind λf=> (M4 (4000000) data t v.I f.I).bind λi=> (G6 v.C f.C).bind λh=> (R8 i h).bind λd=> (Qa d j g data t.G t.U t.R).bind λc=> some (.inl ((Ac (b+1)),c.1,c.2))) else (some (.inr (b,j,g)))
theorem A4l (hz:DSz data) (hv:Hy data) (hg:Gg data t=true) (hS:S+S'<=400000) (hD:D+D'<=6) {v:Ai×Nat} (B:GI data t S D v.1) (E:v.2<Eo) (G:1<=v.2) {Q:List (Ai×Nat)} (R:Cw (GI data t S' D') Q) (a8:Q.length<=1000) (aa:pv (λ_=>1) Q<Eo) {g:List (Ai×Nat)} (J:Cw (GI data t (S+S') (D+D')) g) (Y:g.length<=900000000) (hb:pv (λ_=>1) g+729*(v.2*pv (λ_=>1) Q)<Eo) : ∃u,An (Zo data t (A5 v) (Q.map A5)) (0,pls g,g.map A5)=some ((Q.length:Int),pls u,u.map A5)/\Cw (GI data t (S+S') (D+D')) u/\u.length<=g.length+729*Q.length/\∀f:Ai->Nat,pv f u=pv f g+v.2*pv (λb=>pv f (D1 data KM t v.1 b)) Q:=by
 have y:(((Q.map A5).length:Nat):Int)=(Q.length:Int):=by rw[C4]
 obtain⟨e,e1,u,rfl,e2,e3,e4⟩:=I9 (step:=Zo data t (A5 v) (Q.map A5)) (λ(s:Int×List (ByteArray×Int)×List Ar)=>∃(j:Nat) (u:List (Ai×Nat)),s=((j:Int),pls u,u.map A5)/\j<=Q.length/\Cw (GI data t (S+S') (D+D')) u/\u.length<=g.length+729*j/\∀f:Ai->Nat,pv f u=pv f g+v.2*pv (λb=>pv f (D1 data KM t v.1 b)) (Q.take j)) (λs=>Q.length-s.1.toNat) (λe=>∃u,e=((Q.length:Int),pls u,u.map A5)/\Cw (GI data t (S+S') (D+D')) u/\u.length<=g.length+729*Q.length/\∀f:Ai->Nat,pv f u=pv f g+v.2*pv (λb=>pv f (D1 data KM t v.1 b)) Q) (by
   rintro _ ⟨j,u,rfl,hj,W,I,k⟩;rcases Cb j Q.length with h|h
   .left;have o:Q[j]? = some Q[j]:=B3 h;generalize Q[j]=w at o;have M:=B6 o;obtain⟨w1,X,U,V,w4⟩:=R.mo w M;have wp:=R.pos w M;have wb:=Oa M;obtain⟨v1,F,dv,H,v4⟩:=B;have A:(Q.map A5)[j]? = some (A5 w):=(by rw[getElem?_map,o];rfl);have x:M4 4000000 data t (A5 v).I (A5 w).I=some ((D1 data KM t v.1 w.1).map A5):=A36 hv.szv hz.sz.short KM t v.1 w.1 4000000 dv U (by unfold KM;omega) (by unfold KM;omega) H V ω (by have:=hg;simp only[Gg,D3,D4]at this;exact this.2) F X;obtain⟨r,g2⟩:=Pj data KM t v.1 w.1 dv U (by unfold KM;omega) H V ω F X;have a6:=Qz (show dv+U<=6 by omega);have Z:(D1 data KM t v.1 w.1).length<=729:=(by have:=Lu λp hp=>(r p hp).pos;omega);have N:G6 (A5 v).C (A5 w).C=some (cR (v.2*w.2)):=Np.mul (Np.c E) (Np.c ω);have a7:v.2*w.2<=v.2*pv (λ_=>1) Q:=Nat.mul_le_mul_left _ wb;have L:R8 ((D1 data KM t v.1 w.1).map A5) (cR (v.2*w.2))=some (((D1 data KM t v.1 w.1).map λp=>(p.1,p.2*(v.2*w.2))).map A5):=A4j (λp hp=>by have:=Oa hp;have:(1000:Nat)<Eo:=(by unfold Eo;decide);omega) ω ω;have l:∀f:Ai->Nat,pv f ((D1 data KM t v.1 w.1).map λp=>(p.1,p.2*(v.2*w.2)))=v.2*w.2*pv f (D1 data KM t v.1 w.1):=λf=>Ase f _ _;have z:pv (λ_=>1) u+pv (λ_=>1) ((D1 data KM t v.1 w.1).map λp=>(p.1,p.2*(v.2*w.2)))<Eo:=(by rw[l,k];have k0:pv (λb=>pv (λ_=>1) (D1 data KM t v.1 b)) (Q.take (j+1))<=729*pv (λ_=>1) Q:=(by refine Nat.le_trans (Asf _ Q (j+1)) ?_;rw[<-Pi];refine Ad9 λp hp=>?_;obtain⟨p1,p2,dp,p3,p4⟩:=R.mo p hp;have:=(Pj data KM t v.1 p.1 dv dp (by unfold KM;omega) H p3 ω F p2).2;have:=Qz (show dv+dp<=6 by omega);omega);have k1:=Ad8 (λb=>pv (λ_=>1) (D1 data KM t v.1 b)) o;have k2:=Nat.mul_le_mul_left v.2 k0;rw[k1,Nat.mul_add]at k2;have k3:v.2*(729*pv (λ_=>1) Q)=729*(v.2*pv (λ_=>1) Q):=(by ac_rfl);have k4:v.2*(w.2*pv (λ_=>1) (D1 data KM t v.1 w.1))=v.2*w.2*pv (λ_=>1) (D1 data KM t v.1 w.1):=(by ac_rfl);omega);obtain⟨T,a1,a2,a3,a4⟩:=Ar5 (P:=GI data t (S+S') (D+D')) (λi h=>⟨by have:=h.1;omega,h.2.1⟩) ((D1 data KM t v.1 w.1).map λp=>(p.1,p.2*(v.2*w.2))) u W (λp hp=>by obtain⟨q,C,rfl⟩:=mem_map.1 hp;obtain⟨d,d1,d2⟩:=(r q C).deg;refine⟨⟨by have:=(r q C).siz;show Bt q.1<=_;omega,(r q C).num,d,d1,ω⟩,?_⟩;exact Nat.mul_pos (r q C).pos (Nat.mul_pos G wp)) z (by rw[C4];omega) data t.G t.U t.R;refine⟨((j+1:Nat),pls T,T.map A5),?_,⟨j+1,T,rfl,ω,a2,by rw[C4]at a3;omega,λf=>?_⟩,ζ⟩
    .unfold Zo;simp only[y,Aq (ω:(j:Int)<(Q.length:Int)),Al,Bu rfl A,Ad,x,N,L,a1,C3 h ω]
    .rw[a4,k,l,Ad8 _ o,Nat.mul_add];have:v.2*(w.2*pv f (D1 data KM t v.1 w.1))=v.2*w.2*pv f (D1 data KM t v.1 w.1):=(by ac_rfl);omega
   .right;have:j=Q.length:=ω;subst this;rw[Dq]at k;exact⟨_,by unfold Zo;simp only[y,Aw (ω:¬(Q.length:Int)<(Q.length:Int)),Ao],u,rfl,W,I,k⟩)
  (0,pls g,g.map A5) ⟨0,g,rfl,ω,J,ω,λf=>by rw[take_zero];show _=_+v.2*0;omega⟩;exact⟨u,e1,e2,e3,e4⟩
theorem Asg:(729:Nat)<Eo:=by unfold Eo;decide
noncomputable def Zp (data:List Am) (t:Ag) (p q:List Ar):Int×List (ByteArray×Int)×List Ar->Option ((Int×List (ByteArray×Int)×List Ar)⊕(List (ByteArray×Int)×List Ar)):=λ(d,c,b)=> bif d<(p.length:Int) then ((Ah p d).bind λh=> (An (Zo data t h q) (0,c,b)).bind λ(_,g,f)=> some (.inl ((Ac (d+1)),g,f))) else (some (.inr (c,b)))
theorem A4m (A:DSz data) (B:Hy data) (hg:Gg data t=true) (hS:S+S'<=400000) (hD:D+D'<=6) (H:∀p∈L,GI data t S D p.1/\1<=p.2) (W:∀p∈M,GI data t S' D' p.1/\1<=p.2) (Z:L.length<=2000) (Y:M.length<=2000) (ae:L≠[]) (ad:M≠[]) (hN:729*(pv (λ_=>1) L*pv (λ_=>1) M)<Eo) : (1000<729*(pv (λ_=>1) L*pv (λ_=>1) M)/\Jy data t (L.map A5) (M.map A5)=some ([],9))\/∃R,Jy data t (L.map A5) (M.map A5)=some (R.map A5,0)/\Cw (GI data t (S+S') (D+D')) R/\R.length<=1000/\∀f:Ai->Nat,pv f R=pv2 data t f L M:=by
 have n1:1<=pv (λ_=>1) L:=by have o:=Lu λp hp=>(H p hp).2;cases L with| nil=>exact (ae rfl).elim| cons a l=>simp at o;omega
 have n2:1<=pv (λ_=>1) M:=by have o:=Lu λp hp=>(W p hp).2;cases M with| nil=>exact (ad rfl).elim| cons a l=>simp at o;omega
 have m1:pv (λ_=>1) L<=pv (λ_=>1) L*pv (λ_=>1) M:=Nat.le_mul_of_pos_right _ n2;have m2:pv (λ_=>1) M<=pv (λ_=>1) L*pv (λ_=>1) M:=Nat.le_mul_of_pos_left _ n1;unfold Jy;rw[Ad7 A B hg (show S<=1048576 by omega) (show D<=6 by omega) (λp hp=>(H p hp).1) Z,Ad7 A B hg (show S'<=1048576 by omega) (show D'<=6 by omega) (λp hp=>(W p hp).1) Y];simp only[Ad,bnt,Ao];rcases Ad6 A B hg (show S<=1048576 by omega) (show D<=6 by omega) H ω Z with⟨hb,h⟩|⟨P,p1,p2,p3,p5⟩
 .left;exact⟨by have:=Lu λp hp=>(H p hp).2;omega,by rw[h];rfl⟩
 .rw[p1];simp only[Ad,show ((0:Int) != 0)=false from rfl,Ao];rcases Ad6 A B hg (show S'<=1048576 by omega) (show D'<=6 by omega) W ω Y with⟨hb,h⟩|⟨Q,q1,q2,q3,q5⟩
  .left;exact⟨by have:=Lu λp hp=>(W p hp).2;omega,by rw[h];rfl⟩
  .rw[q1];simp only[Ad,show ((0:Int) != 0)=false from rfl,Ao];have ac:P.length≠0:=λe=>by have:P = []:=Gm.1 e;have h:=p5 λ_=>1;rw[this]at h;have h:0=pv (λ_=>1) L:=h;omega
   have ab:Q.length≠0:=λe=>by have:Q = []:=Gm.1 e;have h:=q5 λ_=>1;rw[this]at h;have h:0=pv (λ_=>1) M:=h;omega
   have wP:Ac (((P.map A5).length:Int)-1)=((P.length-1:Nat):Int):=(by rw[C4,Ac,B8] <;> omega);have wQ:Ac (((Q.map A5).length:Int)-1)=((Q.length-1:Nat):Int):=(by rw[C4,Ac,B8] <;> omega);have q:∀{R:List (Ai×Nat)} {S D:Nat},S<=1048576->D<=6->Cw (GI data t S D) R->R.length≠0->∃(w:Ar) (d:Nat),(R.map A5)[R.length-1]? = some w/\Lk data t w.I=some (d:Int)/\d<=D:=λ{R S D} o C F h4=>by have r:R[R.length-1]? = some (R[R.length-1]' ω):=B3 _;generalize R[R.length-1]'_=x at r;obtain⟨g1,g2,d,g3,g4⟩:=F.mo x (B6 r);refine⟨A5 x,d,by rw[getElem?_map,r];rfl,?_,g4⟩;show Lk data t x.1=_;rw[Aic A B t hg x.1 ω,g3,Qq ω]
   obtain⟨a,da,a1,a2,a3⟩:=q (show S<=1048576 by omega) ω p2 ac;obtain⟨b,db,b1,b2,b3⟩:=q (show S'<=1048576 by omega) ω q2 ab;have a6:Ac ((da:Int)+(db:Int))=(da:Int)+(db:Int):=ξ;have lP:(((P.map A5).length:Nat):Int)=(P.length:Int):=(by rw[C4]);rw[Dc (by rw[C4];omega),Dc (by rw[C4];omega)];simp only[Ao,Ad,wP,wQ,Bu rfl a1,Bu rfl b1,a2,b2,a6];rw[Aw ω,Ao];unfold Up;simp only[Ad];have U:pv (λ_=>1) Q=pv (λ_=>1) M:=q5 _;have V:pv (λ_=>1) P=pv (λ_=>1) L:=p5 _;have z:∀j,729*(pv (λ_=>1) (P.take j)*pv (λ_=>1) Q)<Eo:=λj=>by have o:=Asf (λ_=>1) P j;have C:=Nat.mul_le_mul_right (pv (λ_=>1) Q) o;rw[V]at C;rw[U]at C ⊢;omega
   have I:∀a,GI data t S D a->pv (λb=>pv (λ_=>1) (D1 data KM t a b)) Q<=729*pv (λ_=>1) Q:=λa ha=>by rw[<-Pi];refine Ad9 λp hp=>?_;obtain⟨x1,x2,dp,x3,x4⟩:=q2.mo p hp;obtain⟨v1,v2,dv,v3,v4⟩:=ha;have:=(Pj data KM t a p.1 dv dp (by unfold KM;omega) v3 x3 ω v2 x2).2;have:=Qz (show dv+dp<=6 by omega);omega
   have s:∀j,pv2 data t (λ_=>1) (P.take j) Q<=729*(pv (λ_=>1) (P.take j)*pv (λ_=>1) Q):=λj=>by
    unfold pv2;have o:pv (λa=>pv (λb=>pv (λ_=>1) (D1 data KM t a b)) Q) (P.take j)<=pv (λa=>729*pv (λ_=>1) Q*1) (P.take j):=Ad9 λp hp=>by rw[Nat.mul_one];exact I p.1 (p2.mo p (mem_of_mem_take hp))
    rw[Pi]at o;refine Nat.le_trans o (Nat.le_of_eq ?_)
    ac_rfl
   have G:∃T:List (Ai×Nat),Cw (GI data t (S+S') (D+D')) T/\T.length<=900000000/\(∀f:Ai->Nat,pv f T=pv2 data t f P Q)/\∀{X:Type} {J:List (ByteArray×Int)×List Ar->Option X} {x:X},J (pls T,T.map A5)=some x->(An (Zp data t (P.map A5) (Q.map A5)) (0,[],[])).bind J=some x:=by
    have N:∀j,j<=P.length->∃u:List (Ai×Nat),Cw (GI data t (S+S') (D+D')) u/\u.length<=729*Q.length*j/\(∀f:Ai->Nat,pv f u=pv2 data t f (P.take j) Q)/\∀{X:Type} {J:List (ByteArray×Int)×List Ar->Option X},(An (Zp data t (P.map A5) (Q.map A5)) (0,[],[])).bind J=(An (Zp data t (P.map A5) (Q.map A5)) ((j:Int),pls u,u.map A5)).bind J:=by
     intro j;induction j with
     | zero=>intro _;exact⟨[],Cw.nil _,ψ,λf=>by rw[take_zero];rfl,λ{X J}=>rfl⟩
     | succ j ih=>
      intro hj;obtain⟨u,u1,u2,u3,u4⟩:=ih ω;have r:P[j]? = some (P[j]' ω):=B3 _;generalize P[j]'_=v at r;have hm:=B6 r;have a7:(P.map A5)[j]? = some (A5 v):=(by rw[getElem?_map,r];rfl);have ah:=Oa hm;have af:=Ad8 (λ_=>1) r;have b3:=z (j+1);have b4:=s j;rw[af,Nat.add_mul,Nat.mul_one]at b3;have ag:=u3 λ_=>1;have a8:729*Q.length*j<=729*1000*1000:=Nat.mul_le_mul ω ω;obtain⟨T,t1,t2,t3,t4⟩:=A4l A B hg hS hD (p2.mo v hm) ω (p2.pos v hm) q2 q3 ω u1 ω ω;refine⟨T,t2,by rw[Nat.mul_succ];omega,λf=>?_,λ{X J}=>?_⟩
      .rw[t4,u3];unfold pv2;rw[Ad8 _ r]
      .rw[u4,Kd (s':=(((j+1:Nat):Int),pls T,T.map A5))];unfold Zp;simp only[lP,Aq (ω:(j:Int)<(P.length:Int)),Al,Bu rfl a7,Ad,t1,C3 (show j<P.length by omega) ω]
    obtain⟨T,t1,t2,t3,t4⟩:=N P.length (Nat.le_refl _);rw[Dq]at t3;have a8:729*Q.length*P.length<=729*1000*1000:=Nat.mul_le_mul ω ω;refine⟨T,t1,ω,t3,λ{X J x} hJ=>?_⟩;rw[t4,Fm (e:=(pls T,T.map A5)) (by unfold Zp;simp only[lP,Aw (ω:¬(P.length:Int)<(P.length:Int)),Ao])];exact hJ
   obtain⟨T,t1,t2,t3,t4⟩:=G;have aa:pv (λ_=>1) T<Eo:=(by rw[t3];have o:=s P.length;rw[Dq]at o;have C:=z P.length;rw[Dq]at C;omega);have E:∀f:Ai->Nat,pv2 data t f P Q=pv2 data t f L M:=λf=>by unfold pv2;rw[p5];congr 1;funext a;exact q5 _
   rcases Asd A B hg (t1.imp λi h=>h.good ω ω) aa ω with⟨hb,h⟩|⟨o,R,C,F⟩
   .left;refine⟨by have g1:=Lu λp hp=>t1.pos p hp;have g2:=t3 λ_=>1;have g3:=s P.length;rw[Dq,V,U]at g3;omega,?_⟩;exact t4 (J:=λ(k,g)=>(L6 k g data t.G t.U t.R).bind λc=>some (c.1,c.2)) (by show (L6 (pls T) (T.map A5) data t.G t.U t.R).bind _=_;rw[h];rfl)
   .right;refine⟨R,t4 (J:=λ(k,g)=>(L6 k g data t.G t.U t.R).bind λc=>some (c.1,c.2)) (by show (L6 (pls T) (T.map A5) data t.G t.U t.R).bind _=_;rw[C];rfl),⟨(F.pairwise_iff λ{x y} h=>h.symm).2 t1.dst,λp hp=>t1.mo p (F.mem_iff.1 hp),λp hp=>t1.pos p (F.mem_iff.1 hp)⟩,by rw[F.length_eq];exact o,λf=>?_⟩;rw[A4k f F,t3,E]
def Pk (data:List Am) (t:Ag):List Ai->(Ai->Nat)->Ai->Nat
 | [],f,a=>f a
 | r::d,f,a=>pv (Pk data t d f) (D1 data KM t a r)
theorem Ajm (data:List Am) (t:Ag) (r:Ai) (f:Ai->Nat):∀(c:List Ai) (a:Ai),Pk data t (c++[r]) f a=Pk data t c (λb=>pv f (D1 data KM t b r)) a
 | [],a=>rfl
 | q::c,a=>by show pv (Pk data t (c++[r]) f) (D1 data KM t a q)=pv (Pk data t c λb=>pv f (D1 data KM t b r)) (D1 data KM t a q);exact Adz λp _=>Ajm data t r f c p.1
def dgo (data:List Am) (t:Ag) (i:Ai):Nat:=match D2 data i t with|some d=>d|none=>0
def D5 (data:List Am) (t:Ag) (is:List Ai):Nat:=(is.map (dgo data t)).sum
theorem A4n (data:List Am) (t:Ag) (is:List Ai) (r:Ai):D5 data t (is++[r])=D5 data t is+dgo data t r:=by unfold D5;simp
structure GG (data:List Am) (t:Ag) (is:List Ai):Prop where
 num:∀i∈is,iR i
 deg:∀i∈is,D2 data i t=some (dgo data t i)
 siz:B5 is<=400000
 sum:D5 data t is<=6
 len:is.length<=8
def Ash (data:List Am) (t:Ag) (f:Ai->Nat):Prop:=∀i j a b,Bt i<=KM->D2 data i t=some a->D2 data j t=some b->a+b<=6->iR i->iR j->pv f (D1 data KM t i j)=f i*f j
theorem Asi {data:List Am} {t:Ag} {f:Ai->Nat} (o:Ash data t f):∀(b:List Ai) (a:Ai),GG data t (a::b)->Pk data t b f a=f a*Gy (b.map f)
 | [],a,_=>by simp[Pk,Gy]
 | r::b,a,h=>by
  have w:=h.siz;have A:=h.sum;have s:=h.len;have y:D5 data t (a::r::b)=dgo data t a+(dgo data t r+D5 data t b):=(by unfold D5;simp);rw[y]at A;simp only[B5]at w;simp only[D9]at s;have j:=h.num a ψ;have c:=h.num r ψ;have l:=h.deg a ψ;have k:=h.deg r ψ;obtain⟨B,_⟩:=Pj data KM t a r _ _ (by unfold KM;omega) l k ω j c;show pv (Pk data t b f) (D1 data KM t a r)=f a*(f r*Gy (b.map f));rw[Adz (g:=λx=>Gy (b.map f)*f x) λp hp=>by
   have g:=B p hp;obtain⟨d,d1,d2⟩:=g.deg;have q:=g.siz;have u:dgo data t p.1=d:=(by unfold dgo;rw[d1]);have hp:GG data t (p.1::b):=by
    refine⟨λi e=>?_,λi e=>?_,by simp only[B5];omega,?_,by simp only[D9];omega⟩
    .rcases Fp.1 e with rfl|e
     .exact g.num
     .exact h.num i (by simp[e])
    .rcases Fp.1 e with rfl|e
     .rw[u];exact d1
     .exact h.deg i (by simp[e])
    .have:D5 data t (p.1::b)=dgo data t p.1+D5 data t b:=(by unfold D5;simp);omega
   rw[Asi o b p.1 hp,Nat.mul_comm],Pi,o a r _ _ (by unfold KM;omega) l k ω j c]
  ac_rfl
structure PRg (data:List Am) (t:Ag) (i0:Ai) (rs:List Ai) (R:List (Ai×Nat)):Prop where
 cw:Cw (GI data t (B5 (i0::rs)) (D5 data t (i0::rs))) R
 len:R.length<=1000
 val:∀f:Ai->Nat,pv f R=Pk data t rs f i0
 cnt:pv (λ_=>1) R<=3 ^ (D5 data t (i0::rs)*rs.length)
theorem PRg.one (h:GG data t [i]):PRg data t i [] [(i,1)]:=by
 refine⟨⟨pairwise_singleton _ _,λp hp=>?_,λp hp=>?_⟩,ψ,λf=>?_,by simp[pv]⟩
 .simp only[D0]at hp;subst hp;exact⟨by simp[B5],h.num i ψ,_,h.deg i ψ,by simp[D5]⟩
 .simp only[D0]at hp;subst hp;exact Nat.le_refl _
 .show 1*f i+0=f i;omega
theorem GG.take {c:Ai} (h:GG data t (c::b)) (j:Nat):GG data t (c::b.take j):=by
 have hs:=h.siz;have hd:=h.sum;have k:=h.len;have g:b=b.take j++b.drop j:=(take_append_drop j b).symm;have s:B5 b=B5 (b.take j)+B5 (b.drop j):=by rw[<-S3,<-g]
 have q:D5 data t b=D5 data t (b.take j)+D5 data t (b.drop j):=by unfold D5;rw[<-sum_append,<-map_append,<-g]
 have f:∀l,D5 data t (c::l)=dgo data t c+D5 data t l:=λl=>by unfold D5;simp
 rw[f]at hd;simp only[B5]at hs;simp only[D9]at k;refine⟨λi hi=>?_,λi hi=>?_,by simp only[B5];omega,by rw[f];omega,by rw[D9,length_take];omega⟩
 .rcases Fp.1 hi with rfl|hi
  .exact h.num _ ψ
  .exact h.num i (by have:=mem_of_mem_take hi;simp[this])
 .rcases Fp.1 hi with rfl|hi
  .exact h.deg _ ψ
  .exact h.deg i (by have:=mem_of_mem_take hi;simp[this])
theorem A4o (c:DSz data) (f:Hy data) (hg:Gg data t=true) (g:S<=1048576) (i:D<=6) (k:∀p∈M,GI data t S D p.1/\1<=p.2) (b:M.length<=2000) (x:pv (λ_=>1) M<Eo) : Jy data t [] (M.map A5)=some ([],9)\/Jy data t [] (M.map A5)=some ([],0):=by
 have e:=Asg;unfold Jy;rw[show R7 data t []=some true from Ad7 c f hg g i (L:=[]) (λp hp=>by cases hp) ψ,Ad7 c f hg g i (λp hp=>(k p hp).1) b];simp only[Ad,bnt,Ao];rcases Ad6 c f hg g i (L:=[]) (λp hp=>by cases hp) (by show 0<Eo;omega) ψ with⟨_,h⟩|⟨P,j,s,B,q⟩
 .have h:Oz data t []=some ([],9):=h;left;rw[h];rfl
 .have j:Oz data t []=some (P.map A5,0):=j;have u:P = []:=(by have d:=Lu s.pos;rw[q]at d;have d:P.length<=0:=d;exact Gm.1 ω);subst u;rw[j];simp only[Ad,show ((0:Int) != 0)=false from rfl,Ao];rcases Ad6 c f hg g i k x b with⟨_,h⟩|⟨Q,l,A,z,y⟩
  .left;rw[h];rfl
  .right;rw[l];rfl
theorem PRg.step (B:DSz data) (E:Hy data) (hg:Gg data t=true) {r:Ai} (h:PRg data t i b R) (u:GG data t (i::(b++[r]))) : (b≠[]/\Jy data t (R.map A5) [⟨r,cR 1⟩]=some ([],9))\/∃x,Jy data t (R.map A5) [⟨r,cR 1⟩]=some (x.map A5,0)/\PRg data t i (b++[r]) x:=by
 have hs:=u.siz;have hd:=u.sum;have Y:=u.len;have N:∀l,D5 data t (i::l)=dgo data t i+D5 data t l:=λl=>by unfold D5;simp
 have o:B5 (i::(b++[r]))=B5 (i::b)+Bt r:=by simp only[B5,S3];omega
 have w:D5 data t (i::(b++[r]))=D5 data t (i::b)+dgo data t r:=by rw[N,N,A4n];omega
 have z:b.length<=6:=by simp only[D9,Eu,length_nil]at Y;omega
 have A:=u.num r ψ;have U:=u.deg r ψ;have s:=h.cnt;have G:(3:Nat) ^ (D5 data t (i::b)*b.length)<=3 ^ 36:=Nat.pow_le_pow_right δ (Nat.mul_le_mul (ω:_<=6) z);have Z:(729:Nat)*(3 ^ 36*1)<Eo:=by unfold Eo;decide
 have j:pv (λ_:Ai=>1) [(r,1)]=1:=rfl;have J:∀p∈[(r,1)],GI data t (Bt r) (dgo data t r) p.1/\1<=p.2:=λp hp=>by simp only[D0]at hp;subst hp;exact⟨⟨Nat.le_refl _,A,_,U,Nat.le_refl _⟩,Nat.le_refl _⟩
 have k:[(r,1)].map A5 = [⟨r,cR 1⟩]:=rfl;by_cases I:R = []
 .subst I;have y:b≠[]:=λe=>by subst e;have h0:(0:Nat)=1:=h.val λ_=>1;omega
  rcases A4o B E hg (S:=Bt r) (D:=dgo data t r) ω ω J ψ (by rw[j];have:=Asg;omega) with c|c
  .left;rw[<-k];exact⟨y,c⟩
  .right;refine⟨[],by rw[<-k];exact c,⟨Cw.nil _,ψ,λf=>?_,Nat.zero_le _⟩⟩;rw[Ajm,<-h.val];rfl
 rcases A4m B E hg (S:=B5 (i::b)) (S':=Bt r) (D:=D5 data t (i::b)) (D':=dgo data t r) ω ω (L:=R) (M:=[(r,1)]) (λp hp=>⟨h.cw.mo p hp,h.cw.pos p hp⟩) J (by have:=h.len;omega) ψ I ψ (by rw[j];have:729*(pv (λ_=>1) R*1)<=729*(3 ^ 36*1):=ω;omega) with⟨hb,c⟩|⟨x,c1,c2,c3,c5⟩
 .left;rw[<-k];refine⟨λe=>?_,c⟩;subst e;rw[j]at hb;simp only[length_nil,Nat.mul_zero,Nat.pow_zero]at s;omega
 .right;have q:∀f:Ai->Nat,pv f x=pv (λa=>pv f (D1 data KM t a r)) R:=λf=>by rw[c5];unfold pv2;refine Adz λp hp=>?_;show 1*pv f (D1 data KM t p.1 r)+0=pv f (D1 data KM t p.1 r);omega
  refine⟨x,by rw[<-k];exact c1,⟨by rw[o,w];exact c2,c3,λf=>by rw[q,h.val,Ajm],?_⟩⟩
  .rw[q];have h1:pv (λa=>pv (λ_=>1) (D1 data KM t a r)) R<=pv (λ_=>3 ^ (D5 data t (i::(b++[r])))*1) R:=Ad9 λp hp=>by obtain⟨C,X,d,V,F⟩:=h.cw.mo p hp;have g:=(Pj data KM t p.1 r d _ (by unfold KM;omega) V U ω X A).2;rw[Nat.mul_one];exact Nat.le_trans g (Nat.pow_le_pow_right δ ω)
   rw[Pi]at h1;have h2:=Nat.mul_le_mul_left (3 ^ (D5 data t (i::(b++[r])))) s;refine Nat.le_trans h1 (Nat.le_trans h2 ?_);rw[<-Nat.pow_add];refine Nat.pow_le_pow_right δ ?_;rw[Eu,length_singleton,Nat.mul_add,Nat.mul_one,Nat.add_comm];exact Nat.add_le_add_right (Nat.mul_le_mul_right _ ω) _
def fl (v:Int) (is:List Ai):List Bg:=is.map λi=>⟨v,i⟩
noncomputable def Vy (data:List Am) (t:Ag):List Ai->List Ar->Option (List Ar)
 | [],w=>some w
 | i::is,w=>match Jy data t w [⟨i,cR 1⟩] with
  | some (d,e)=>if e=0 then Vy data t is d else none
  | none=>none
noncomputable def Pl (data:List Am) (t:Ag) (c:Ai) (b:List Ai):Option (List Ar):=Vy data t b [⟨c,cR 1⟩]
theorem Asj {is:List Ai} {w w':List Ar} {e:Int} (h:Jy data t w [⟨i,cR 1⟩]=some (w',e)):Vy data t (i::is) w=if e=0 then Vy data t is w' else none:=by
 show (match Jy data t w [⟨i,cR 1⟩] with
  | some (w',e)=>if e=0 then Vy data t is w' else none
  | none=>none)=_
 rw[h]
def PMg (data:List Am) (vars:List Ag) (res:Ag) (b:List (ByteArray×List Ar)):Prop := ∀p∈b,∃(v:Int) (t:Ag) (d:Ai) (e:List Ai) (R:List (Ai×Nat)),p.1=bs ((fl v (d::e)).flatMap Dy)/\p.2=R.map A5/\E6 vars res v=some t/\PRg data t d e R/\Pl data t d e=some p.2
theorem PMg.nil (data:List Am) (vars:List Ag) (res:Ag):PMg data vars res []:=λp hp=>by cases hp
theorem A4p {w:Int} {j:Ai} {l m:List Ai} (h:bs ((fl v (i::l)).flatMap Dy)=bs ((fl w (j::m)).flatMap Dy)):v=w/\i=j/\l=m:=by
 have e:=Aip (By.flat By.fac _) (By.flat By.fac _) h;have o:=(Aio (fl v (i::l)) (fl w (j::m)) [] [] Iw.nil Iw.nil (by rw[append_nil,append_nil];exact e)).1;have p:(⟨v,i⟩:Bg)::fl v l=⟨w,j⟩::fl w m:=o;injection p with a b;injection a with r s;subst r;refine⟨rfl,s,?_⟩;unfold fl at b;have d:∀(l m:List Ai),(l.map λi=>(⟨v,i⟩:Bg))=(m.map λi=>(⟨v,i⟩:Bg))->l=m:=by
  intro l;induction l with
  | nil=>intro m h;cases m with
   | nil=>rfl
   | cons a m=>simp at h
  | cons a l ih=>intro m h;cases m with
   | nil=>simp at h
   | cons b m=>
    simp only[map_cons,List.cons.injEq,Bg.mk.injEq,true_and]at h
    rw[h.1,ih m h.2]
 exact d l m b
noncomputable def Aea (data:List Am) (t:Ag) (F:List Bg) (b2:List (ByteArray×List Ar)):List Ar×Int->Option ((List Ar×Int)⊕((List Ar×Int×List (ByteArray×List Ar))⊕List Ar)):=λ(c,d)=> bif d<(F.length:Int) then ((Ah F d).bind λe=> (Jy data t c [(Ar.mk e.I (cR 1))]).bind λb=> bif (b.2 != (0:Int)) then (some (.inr (.inl ([],b.2,b2)))) else (some (.inl (b.1,(Ac (d+1)))))) else (some (.inr (.inr c)))
theorem A4q (A:DSz data) (B:Hy data) (hg:Gg data t=true) {f:Ai} (y:GG data t (f::b)) (b2:List (ByteArray×List Ar)) : ∃z,An (Aea data t (fl v b) b2) ([⟨f,cR 1⟩],0)=some z/\((2<=b.length/\z = .inl ([],9,b2)/\Pl data t f b=none)\/∃R:List (Ai×Nat),z = .inr (R.map A5)/\PRg data t f b R/\Pl data t f b=some (R.map A5)):=by
 have q:=y.len;simp only[D9]at q;have i:((fl v b).length:Int)=(b.length:Int):=by unfold fl;rw[C4]
 obtain⟨e,E,D⟩:=I9 (step:=Aea data t (fl v b) b2) (λ(s:List Ar×Int)=>∃(j:Nat) (R:List (Ai×Nat)),s=(R.map A5,(j:Int))/\j<=b.length/\PRg data t f (b.take j) R/\Pl data t f b=Vy data t (b.drop j) (R.map A5)) (λs=>b.length-s.2.toNat) (λz=>(2<=b.length/\z=(.inl ([],9,b2):((List Ar×Int×List (ByteArray×List Ar))⊕List Ar))/\Pl data t f b=none)\/∃R:List (Ai×Nat),z = .inr (R.map A5)/\PRg data t f b R/\Pl data t f b=some (R.map A5)) (by
   rintro _ ⟨j,R,rfl,C,x,g⟩;rcases Cb j b.length with h|h
   .have d:b[j]? = some b[j]:=B3 h;have u:b.drop j=b[j]::b.drop (j+1):=(List.getElem_cons_drop ..).symm;rw[u]at g;generalize b[j]=r at d g;have l:(fl v b)[j]? = some ⟨v,r⟩:=(by unfold fl;rw[getElem?_map,d];rfl);have k:=y.take (j+1);rw[Dd d]at k;unfold Aea;simp only[i,Aq (ω:(j:Int)<(b.length:Int)),Al,Bu rfl l,Ad];rcases x.step A B hg k with⟨p,c⟩|⟨G,o,w⟩
    .right;refine⟨_,by rw[c];rfl,.inl ⟨?_,rfl,by rw[g,Asj c,Ay δ]⟩⟩;have:(b.take j).length≠0:=λe=>p (Gm.1 e);rw[length_take]at this;omega
    .left;refine⟨_,by rw[o];rfl,⟨j+1,G,by rw[C3 h ω],ω,by rw[Dd d];exact w,by rw[g,Asj o,A7 rfl]⟩,?_⟩;rw[C3 h ω];show b.length-((j+1:Nat):Int).toNat<b.length-(j:Int).toNat;omega
   .right;have:j=b.length:=ω;subst this;rw[Dq]at x;rw[drop_length]at g;exact⟨_,by unfold Aea;simp only[i,Aw (ω:¬(b.length:Int)<(b.length:Int)),Ao],.inr ⟨R,rfl,x,g⟩⟩)
  ([⟨f,cR 1⟩],0) ⟨0,[(f,1)],rfl,ω,by rw[take_zero];exact PRg.one (by have:=y.take 0;rwa [take_zero]at this),rfl⟩;exact⟨e,E,D⟩
theorem Ajn (hz:DSz data) (hv:Hy data) (hg:Gg data t=true) (W:E6 vars res v=some t) (I:El v) {c:Ai} (L:GG data t (c::g)) (b1:List (ByteArray×Int)) {b2:List (ByteArray×List Ar)} (F:PMg data vars res b2) : ∃l e a1,No (fl v (c::g)) b1 b2 data vars res.G res.U res.R=some (l,e,a1)/\PMg data vars res a1/\((e=9/\l = []/\2<=g.length/\Pl data t c g=none)\/(e=0/\∃R:List (Ai×Nat),l=R.map A5/\PRg data t c g R/\Pl data t c g=some l)):=by
 have hs:=L.siz;have a7:=L.len;simp only[D9]at a7;have y:∀i∈c::g,Bt i<=1048576:=λi d=>by have:=K6 d;omega
 have D:∀i∈c::g,(Dy ⟨v,i⟩).length<=33554432:=λi d=>Adg (y i d) ⟨L.num i d,I⟩;have a8:∀j,((fl v (c::g.take j)).flatMap Dy).length<=8*33554432:=λj=>by
  refine Nat.le_trans (Aiv (n:=33554432) _ λa ha=>?_) (Nat.mul_le_mul_right _ ?_)
  .unfold fl at ha;obtain⟨i,d,rfl⟩:=mem_map.1 ha;refine D i ?_;rcases Fp.1 d with rfl|d
   .simp
   .have:=mem_of_mem_take d;simp[this]
  .unfold fl;rw[C4,D9,length_take];omega
 have q:Ah (fl v (c::g)) 0=some ⟨v,c⟩:=rfl;have B:Li v c=some (bs (Dy ⟨v,c⟩)):=Acq v c I (L.num c ψ) (y c ψ);have s:Ja (bs (Dy ⟨v,c⟩)) []=some (((Dy ⟨v,c⟩).length:Int),Dy ⟨v,c⟩):=by have:=Tc (b:=[]) (By.fac ⟨v,c⟩) (by have:=D c ψ;simp;omega);rw[nil_append]at this;exact this
 have w1:Ac (0+1)=1:=by rw[Ac,B8] <;> omega
 have h:∀{X:Type} {J:List Int->Option X} {x:Option X},J ((fl v (c::g)).flatMap Dy)=x->(An (S:=(Int×List Int)) (E:=(List Int)) (λ(r,N)=> bif r<((fl v (c::g)).length:Int) then ((Ah (fl v (c::g)) r).bind λM=> (Li M.v M.I).bind λa0=> (Gt a0 N).bind λa2=> some (.inl ((Ac (r+1)),a2.2))) else (some (.inr N))
  ) (1,Dy ⟨v,c⟩)).bind J=x:=λ{X J x} hJ=>by
  refine bnd (a:=(fl v (c::g)).flatMap Dy) ?_ hJ;rw[<-Option.bind_fun_some (An _ _)];have Z:fl v (c::g)=⟨v,c⟩::fl v g:=rfl;rw[Z];refine Y3 (⟨v,c⟩:Bg) (fl v g) (λj=>(((j+1:Nat):Int),(fl v (c::g.take j)).flatMap Dy)) (by simp[fl]) (by unfold fl;rw[C4];omega) ?_ ?_
  .intro j f o C h2 h3;have aa:∃i,g[j]? = some i/\f=⟨v,i⟩:=(by unfold fl at o;rw[getElem?_map]at o;obtain⟨i,C,h2⟩:=Option.map_eq_some_iff.1 o;exact⟨i,C,h2.symm⟩);obtain⟨i,d,rfl⟩:=aa;have A:i∈c::g:=(by have:=B6 d;simp[this]);have hk:=a8 j;have ac:=D i A;have e1:Li v i=some (bs (Dy ⟨v,i⟩)):=Acq v i I (L.num i A) (y i A);have e2:Gt (bs (Dy ⟨v,i⟩)) ((fl v (c::g.take j)).flatMap Dy)=some (((Dy ⟨v,i⟩).length:Int),(fl v (c::g.take j)).flatMap Dy++Dy ⟨v,i⟩):=Mg (By.fac _) ω;simp only[C,h2,h3,Al,Ad,e1,e2];have:fl v (c::g.take (j+1))=fl v (c::g.take j)++[⟨v,i⟩]:=(by unfold fl;rw[Dd d];simp);rw[this,flatMap_append];simp
  .intro C;have V:(fl v g).length=g.length:=(by unfold fl;rw[C4]);refine⟨(fl v (c::g)).flatMap Dy,?_,rfl⟩;rw[V]at C ⊢;simp only[Dq,C,Ao]
 have G:By ((fl v (c::g)).flatMap Dy):=By.flat By.fac _;have a6:Nat.beq (bs ((fl v (c::g)).flatMap Dy)).size 0=false:=by rw[Vp];have:(fl v (c::g)).flatMap Dy=118::((ti v++58::wx c)++(fl v g).flatMap Dy):=rfl;rw[this];rfl
 have U:M2 v b1 b2 data vars res.G res.U res.R=some t:=Ao9 b1 b2 data vars res W;have k:Ei (fl v (c::g)) 1 ((fl v (c::g)).length:Int)=some (fl v g):=Ajg ⟨v,c⟩ (fl v g);have u:decide ((0:Int)<((fl v (c::g)).length:Int))=true:=Aq (by unfold fl;rw[C4,D9];omega);cases Y:Ej b2 (bs ((fl v (c::g)).flatMap Dy)) with
 | true=>have a3:∃R:List (Ai×Nat),Hq b2 (bs ((fl v (c::g)).flatMap Dy)) []=R.map A5/\PRg data t c g R/\Pl data t c g=some (R.map A5):=(by unfold Hq;unfold Ej at Y;cases o:b2.find? λp=>bs ((fl v (c::g)).flatMap Dy)==p.1 with| none=>rw[find?_eq_none]at o;obtain⟨p,hp,e⟩:=any_eq_true.1 Y;exact (o p hp e).elim| some p=>obtain⟨w,t',j0,ss,R,g1,g2,g3,g4,g5⟩:=F p (mem_of_find?_eq_some o);have e:=find?_some o;have e:bs ((fl v (c::g)).flatMap Dy)=p.1:=(Md _ _).1 e;rw[g1]at e;obtain⟨rfl,rfl,rfl⟩:=A4p e;rw[W]at g3;cases g3;exact⟨R,g2,g4,by rw[g5,g2]⟩);obtain⟨R,r1,H,T⟩:=a3;refine⟨R.map A5,0,b2,?_,F,.inr ⟨rfl,R,rfl,H,T⟩⟩;unfold No;rw[u,Al,q,Ad,B,Ad,s,Ad,w1];refine h ?_;rw[N9 G,Ad,Y,Al,r1];rfl
 | false=>
  obtain⟨z,z1,z2⟩:=A4q hz hv hg (v:=v) L b2;rcases z2 with⟨hb,rfl,ab⟩|⟨R,rfl,H,T⟩
  .refine⟨[],9,b2,?_,F,.inl ⟨rfl,rfl,hb,ab⟩⟩;unfold No;rw[u,Al,q,Ad,B,Ad,s,Ad,w1];refine h ?_;rw[N9 G,Ad,Y,Ao,Ad];dsimp only;rw[Ao,Ad,U,Ad,Ad,Nd,Ad,k,Ad];exact bnd z1 rfl
  .refine⟨R.map A5,0,Fx b2 (bs ((fl v (c::g)).flatMap Dy)) (R.map A5),?_,λp hp=>?_,.inr ⟨rfl,R,rfl,H,T⟩⟩
   .unfold No;rw[u,Al,q,Ad,B,Ad,s,Ad,w1];refine h ?_;rw[N9 G,Ad,Y,Ao,Ad];dsimp only;rw[Ao,Ad,U,Ad,Ad,Nd,Ad,k,Ad];refine bnd z1 ?_;unfold U3;dsimp only;rw[a6,Ao,Ad]
   .rcases Ahx _ _ _ p hp with hp|rfl
    .exact F p hp
    .exact⟨v,t,c,g,R,rfl,rfl,W,H,T⟩
theorem A4r (u:DSz data) (x:Hy data) (hg:Gg data t=true) (p:E6 vars res v=some t) (f:El v) (z:GG data t (i::g)) : (2<=g.length/\∀d o,PMg data vars res o->∃b,No (fl v (i::g)) d o data vars res.G res.U res.R=some ([],9,b)/\PMg data vars res b) \/ ∃R:List (Ai×Nat),PRg data t i g R/\∀d o,PMg data vars res o->∃b,No (fl v (i::g)) d o data vars res.G res.U res.R=some (R.map A5,0,b)/\PMg data vars res b:=by
 obtain⟨l,e,k,w,B,r⟩:=Ajn u x hg p f z [] (PMg.nil data vars res);rcases r with⟨_,_,A,j⟩|⟨_,R,rfl,A,j⟩
 .refine .inl ⟨A,λd o y=>?_⟩;obtain⟨l,e,k,h,s,q⟩:=Ajn u x hg p f z d y;rcases q with⟨rfl,rfl,_⟩|⟨_,_,_,_,c⟩
  .exact⟨k,h,s⟩
  .rw[j]at c;cases c
 .refine .inr ⟨R,A,λd o y=>?_⟩;obtain⟨l,e,k,h,s,q⟩:=Ajn u x hg p f z d y;rcases q with⟨_,_,_,c⟩|⟨rfl,_,rfl,_,c⟩
  .rw[j]at c;cases c
  .rw[j]at c;rw[<-Fa c]at h;exact⟨k,h,s⟩
abbrev Gj:=(List Bg×Rat)×Ent
inductive E3 (K:Nat):List Aj->List Gj->Prop
 | nil:E3 K [] []
 | cons {t:Aj} {b:Gj} {ts:List Aj} {bs:List Gj}:t.M=⟨b.1.1,b.2.1⟩->rq t.C=b.1.2*(b.2.2:Rat)->RB K t.C->b.1.1.length<=1000->E3 K ts bs->E3 K (t::ts) (b::bs)
theorem E3.len {bs:List Gj} (h:E3 K ts bs):ts.length=bs.length:=by induction h with| nil=>rfl| cons _ _ _ _ _ ih=>simp[ih]
theorem E3.app {c:List Aj} {bs cs:List Gj} (h:E3 K ts bs) (h':E3 K c cs):E3 K (ts++c) (bs++cs):=by induction h with| nil=>exact h'| cons a b d e _ ih=>exact .cons a b d e ih
theorem E3.mono {c:Nat} {bs:List Gj} (h:E3 K ts bs) (hk:K<=c):E3 c ts bs:=by induction h with| nil=>exact .nil| cons a b d e _ ih=>exact .cons a b (d.mono hk) e ih
theorem E3.get {bs:List Gj} (h:E3 K ts bs):∀{j:Nat} {t:Aj},ts[j]? = some t->∃b,bs[j]? = some b/\t.M=⟨b.1.1,b.2.1⟩/\rq t.C=b.1.2*(b.2.2:Rat)/\RB K t.C/\b.1.1.length<=1000:=by
 induction h with
 | nil=>intro j t h;simp at h
 | @cons t b ts bs e o p r _ ih=>intro j u d;cases j with| zero=>simp only[getElem?_cons_zero,Option.some.injEq]at d;subst d;exact⟨b,rfl,e,o,p,r⟩| succ j=>simp only[getElem?_cons_succ]at d;simpa using ih d
theorem E3.mem {bs:List Gj} (h:E3 K ts bs) {t:Aj} (d:t∈ts):∃b∈bs,t.M=⟨b.1.1,b.2.1⟩/\rq t.C=b.1.2*(b.2.2:Rat)/\RB K t.C:=by obtain⟨j,e⟩:=Ik d;obtain⟨b,o,p,f,c,_⟩:=h.get e;exact⟨b,B6 o,p,f,c⟩
def Q2 (l:Bz) (k c:Nat) (b:Gj):Gj:=(b.1,(b.2.1++atO l k,b.2.2*c))
def Ju (B:List Gj) (l:Bz) (f:Nat->Nat) (n:Nat):List Gj:=(range n).flatMap λk=>if f k=0 then [] else B.map (Q2 l k (f k))
theorem Aeb (B:List Gj) (l:Bz) (f:Nat->Nat) (n:Nat):Ju B l f (n+1)=Ju B l f n++(if f n=0 then [] else B.map (Q2 l n (f n))):=by unfold Ju;rw[range_succ,flatMap_append];simp
theorem Ask (B:List Gj) (l:Bz) (f:Nat->Nat) (n:Nat):(Ju B l f n).length<=n*B.length:=by induction n with| zero=>simp[Ju]| succ n ih=>rw[Aeb,Eu,Nat.add_mul,Nat.one_mul];have:(if f n=0 then ([]:List Gj) else B.map (Q2 l n (f n))).length<=B.length:=(by split <;> simp);omega
theorem A4s {M:Nat} {c o:List Aj} {B:List Gj} {l:Bz} {f:Nat} {x:A3} (y:E3 K c B) (p:rq x=(f:Rat)) (i:RB 200 x) (S:K<30000000000) (R:∀b∈B,b.2.1.length<=M) (N:M<=1000) (w:o.length+c.length<=100000000000) :
  ∃T,An (Zh c l (k:Int) x) (0,o)=some ((c.length:Int),o++T)/\E3 (K+202) T (B.map (Q2 l k f)):=by
 obtain⟨e,X,T,V,U⟩:=I9 (step:=Zh c l (k:Int) x) (λs=>∃(j:Nat) (T:List Aj),s=((j:Int),o++T)/\j<=c.length/\T.length=j/\E3 (K+202) T ((B.take j).map (Q2 l k f))) (λs=>c.length-s.1.toNat)
  (λe=>∃T,e=((c.length:Int),o++T)/\E3 (K+202) T (B.map (Q2 l k f))) (by
  rintro _ ⟨j,T,rfl,C,L,q⟩
  rcases Cb j c.length with h|h
  .left
   have g:c[j]? = some c[j]:=B3 h
   generalize c[j]=t at g
   obtain⟨b,d,r,Z,Y,z⟩:=y.get g
   have J:=R b (B6 d)
   have:=Ars l k
   obtain⟨u,I,G,E,D⟩:=A3p (F:=⟨b.1.1,z⟩) (A:=b.2.1) (B:=atO l k) r ω S Y i
   refine⟨_,?_,⟨j+1,T++[u],rfl,ω,by simp[L],?_⟩,ζ⟩
   .unfold Zh
    simp only[Aq (ω:(j:Int)<(c.length:Int)),Al,Bu rfl g,Ad,A3o,I,C3 h ω]
    rw[Dn ζ,Ad,append_assoc]
   .rw[Dd d,map_append]
    refine q.app (.cons G ?_ D z .nil)
    rw[E,Z,p]
    show _=b.1.2*((b.2.2*f:Nat):Rat)
    rw[Rat.natCast_mul];grind
  .have:j=c.length:=ω
   subst this
   right
   rw[y.len,Dq]at q
   exact⟨_,by unfold Zh;simp only[Aw (ω:¬(c.length:Int)<(c.length:Int)),Ao],T,rfl,q⟩) (0,o) ⟨0,[],ψ,ω,rfl,by simpa using E3.nil⟩
 exact⟨T,by rw[<-V];exact X,U⟩
theorem A4t {M:Nat} {g:List Aj} {B:List Gj} {l:Bz} {f:Nat->Nat} (z:E3 K g B) (p:∀k,k<n->f k<Eo) (L:K<30000000000) (J:∀b∈B,b.2.1.length<=M) (y:M<=1000) (X:n<=20) (Y:g.length<=1000000000) :
  ∃T,An (Adt g l (Ls n f)) (0,[])=some ((n:Int),T)/\E3 (K+202) T (Ju B l f n):=by
 obtain⟨e,V,T,S,R⟩:=I9 (step:=Adt g l (Ls n f)) (λs=>∃(j:Nat) (T:List Aj),s=((j:Int),T)/\j<=n/\E3 (K+202) T (Ju B l f j)) (λs=>n-s.1.toNat)
  (λe=>∃T,e=((n:Int),T)/\E3 (K+202) T (Ju B l f n)) (by
  rintro _ ⟨j,T,rfl,r,q⟩
  unfold Adt
  rw[Lr]
  rcases Cb j n with h|h
  .left
   have D:=Ask B l f j
   have I:=q.len
   have N:=z.len
   have A:j*B.length<=20*1000000000:=Nat.mul_le_mul ω ω
   have x:j*B.length+B.length<=20*B.length:=by
    have:(j+1)*B.length<=20*B.length:=Nat.mul_le_mul_right _ ω
    rw[Nat.add_mul]at this;omega
   have i:=p j h
   simp only[Aq (ω:(j:Int)<(n:Int)),Al,Bu rfl (Lt f h),Ad,(Np.c i).sign,C3 h ω]
   by_cases d:f j=0
   .refine⟨_,by rw[A7 d];rfl,⟨j+1,T,rfl,ω,?_⟩,ζ⟩
    rw[Aeb,A7 d,append_nil];exact q
   .have u:RB 200 (cR (f j)):=(Np.c i).rb
    obtain⟨U,G,E⟩:=A4s (o:=T) (l:=l) (k:=j) (f:=f j) z (Ads (f j)) u L J y ω
    refine⟨_,by rw[Ay d,G];rfl,⟨j+1,T++U,rfl,ω,?_⟩,ζ⟩
    rw[Aeb,Ay d]
    exact q.app E
  .have:j=n:=ω
   subst this
   right
   exact⟨_,by simp only[Aw (ω:¬(j:Int)<(j:Int)),Ao],T,rfl,q⟩) (0,[]) ⟨0,[],rfl,ω,.nil⟩
 exact⟨T,by rw[<-S];exact V,R⟩
def Pm (B:List Gj):List Grp->List Gj
 | []=>B
 | q::d=>Pm (Ju B q.1 q.2.2 (q.2.1+1)) d
theorem Asl {B:List Gj} {l:Bz} {f:Nat->Nat} {b:Gj} (hb:b∈Ju B l f n):∃g∈B,b.1=g.1/\b.2∈H4 [g.2] l f n:=by
 unfold Ju at hb;rw[mem_flatMap]at hb;obtain⟨k,c,e⟩:=hb;split at e
 .cases e
 .rename_i h;obtain⟨d,o,rfl⟩:=mem_map.1 e;refine⟨d,o,rfl,?_⟩;unfold H4;rw[mem_flatMap];exact⟨k,c,by rw[Ay h];exact mem_map.2 ⟨d.2,ψ,rfl⟩⟩
theorem Asm:∀(f:List Grp) {B C:List Ent},(∀b∈B,b∈C)->∀b∈Mh B f,b∈Mh C f
 | [],B,C,h,b,e=>h b e
 | q::f,B,C,h,b,e=>by
  refine Asm f (B:=H4 B q.1 q.2.2 (q.2.1+1)) (λc o=>?_) b e;unfold H4 at o ⊢;rw[mem_flatMap]at o ⊢;obtain⟨k,i,g⟩:=o;refine⟨k,i,?_⟩;split at g
  .cases g
  .rename_i p;rw[Ay p];obtain⟨d,d1,d2⟩:=mem_map.1 g;exact mem_map.2 ⟨d,h d d1,d2⟩
theorem Ajo:∀(f:List Grp) {B:List Gj} {b:Gj},b∈Pm B f->∃h∈B,b.1=h.1/\b.2∈Mh [h.2] f
 | [],B,b,o=>⟨b,o,rfl,by simp[Mh]⟩
 | q::f,B,b,o=>by obtain⟨c,p,r,s⟩:=Ajo f o;obtain⟨d,d1,d2,d3⟩:=Asl p;refine⟨d,d1,r.trans d2,?_⟩;exact Asm f (λe g=>by simp only[D0]at g;rw[g];exact d3) b.2 s
theorem A4u {B:List Gj} {l:Bz} {f:Nat->Nat} {M:Nat} (h:∀b∈B,b.2.1.length<=M):∀b∈Ju B l f n,b.2.1.length<=M+1:=by intro b e;obtain⟨g,o,_,p⟩:=Asl e;exact A3v (B:=[g.2]) (λc d=>by simp only[D0]at d;rw[d];exact h g o) b.2 p
theorem A4v:∀(n:Nat) (rest:List Bc) (i:List Aj) (B:List Gj) (K M:Nat),rest.length<=n->Zg rest->Atk rest->E3 K i B->(∀b∈B,b.2.1.length<=M)->M+rest.length<=1000->K+202*rest.length<30000000000->B.length*2 ^ Dp rest<=1000000000 -> ∃o g,An Zj (i,rest)=some g/\Gs o rest/\E3 (K+202*rest.length) g (Pm B o)/\g.length<=B.length*2 ^ Dp rest:=by
 intro n;induction n with
 | zero=>intro rest i B K M H _ _ z _ _ _ _;have:rest = []:=Gm.1 ω;subst this;exact⟨[],i,Fm (by unfold Zj;simp),.nil,by simpa[Pm] using z,by rw[z.len];simp[Dp]⟩
 | succ n ih=>
  intro rest i B K M H r L z C ad hK A;cases c:rest with
  | nil=>exact⟨[],i,Fm (by unfold Zj;simp),.nil,by simpa[Pm] using z.mono ω,by rw[z.len];simp[Dp]⟩
  | cons a W=>
   rw[<-c];have w:rest[0]? = some a:=(by rw[c];rfl);have aa:0<rest.length:=Ez w;have hT:∀b∈rest,b.L.T.length<1099511627776:=λb e=>by have:=(Adu (L.lin b e)).1;omega
   have ae:=L.len;obtain⟨m,m1,m2,m3,F,m5⟩:=A3t w hT ω;have s:rest=rest.take m++rest.drop m:=(take_append_drop m rest).symm;have J:=(s ▸ L:Atk (rest.take m++rest.drop m)).sub;have x:rest.take m≠[]:=(by intro h;have:=congrArg length h;rw[length_take]at this;simp only[length_nil]at this;omega);obtain⟨N,f,p1,p2,p3,p4⟩:=A3s J.1 x F;have Y:Dp rest=Dp (rest.take m)+Dp (rest.drop m):=(by rw[<-Th,take_append_drop]);have ab:=L.sum;have S:2 ^ Dp rest=2 ^ Dp (rest.take m)*2 ^ Dp (rest.drop m):=(by rw[Y,Nat.pow_add]);have a8:B.length<=1000000000:=Nat.le_trans (Nat.le_mul_of_pos_right _ (Nat.pow_pos δ)) A;obtain⟨T,t1,t2⟩:=A4t (l:=a.L) (n:=N+1) z p4 ω C ω ω (by rw[z.len];exact a8);have y:Zj (i,rest)=some (.inl (T,rest.drop m)):=(by have X:Ah rest 0=some a:=Bu (n:=0) rfl w;have R:Ei rest (m:Int) (rest.length:Int)=some (rest.drop m):=(by unfold Ei;simp[drop_take];omega);unfold Zj;simp only[Aq (ω:(rest.length:Int)>0),Al,X,Ad,m1,Sv rfl m3,p1,t1,R]);have ac:(rest.drop m).length+m=rest.length:=(by rw[length_drop];omega);have a7:=Ask B a.L f (N+1);have I:(N+1)*B.length<=B.length*2 ^ Dp (rest.take m):=(by rw[Nat.mul_comm];refine Nat.mul_le_mul_left _ (Nat.le_trans (A3u N) (Nat.pow_le_pow_right δ p3)));have u:(Ju B a.L f (N+1)).length*2 ^ Dp (rest.drop m)<=B.length*2 ^ Dp rest:=(by rw[S,<-Nat.mul_assoc];exact Nat.mul_le_mul_right _ (Nat.le_trans a7 I));obtain⟨o,g,g1,g2,g3,g4⟩:=ih (rest.drop m) T (Ju B a.L f (N+1)) (K+202) (M+1) ω (Pairwise.sublist (drop_sublist m rest) r) J.2 t2 (A4u C) ω ω (Nat.le_trans u A);refine⟨(a.L,N,f)::o,g,by rw[Kd y,g1],?_,g3.mono ω,Nat.le_trans g4 u⟩;have V:∀b∈rest.drop m,Hk a.L b.L<0:=by
    intro b e;cases p:rest.drop m with
    | nil=>rw[p]at e;cases e
    | cons d D=>
     have j:rest[m]? = some d:=(by have:=congrArg (λl=>l[0]?) p;simpa using this);have a1:=m5 d j;have a6:¬Hk d.L a.L<0:=(by have G:=r;rw[c]at G;have Z:d∈W:=(by have U:m=(m-1)+1:=ω;rw[c,U,getElem?_cons_succ]at j;exact B6 j);exact (pairwise_cons.1 G).1 d Z);have q:Hk a.L d.L<0:=by
      rcases Int.lt_trichotomy (Hk d.L a.L) 0 with k|k|k
      .exact (a6 k).elim
      .exact (a1 ((Lq.zero _ _ trivial trivial).1 k)).elim
      .rw[Lq.anti d.L a.L trivial trivial];omega
     rw[p]at e;rcases Fp.1 e with rfl|e
     .exact q
     .have E:Zg (rest.drop m):=Pairwise.sublist (drop_sublist m rest) r;rw[p]at E;have h3:=(pairwise_cons.1 E).1 b e;rcases Int.lt_trichotomy (Hk b.L d.L) 0 with k|k|k
      .exact (h3 k).elim
      .rw[(Lq.zero _ _ trivial trivial).1 k];exact q
      .exact Lq.trans a.L d.L b.L trivial trivial trivial q (by rw[Lq.anti b.L d.L trivial trivial];omega)
   have:=Gs.cons x F V p2 g2;rwa [take_append_drop]at this
def Ip (data:List Am) (t:Ag) (v:Int) (i:Ai):List Bg:=if dgo data t i=0 then [] else [⟨v,i⟩]
abbrev Mi:=List Bg×Nat
def Jv (c:Rat) (p:Mi):Gj:=((p.1,c),([],p.2))
def Vz (data:List Am) (t:Ag) (v:Int) (p:Mi) (w:Ai×Nat):Mi:=(p.1++Ip data t v w.1,p.2*w.2)
def upF (data:List Am) (t:Ag) (v:Int) (R:List (Ai×Nat)) (b:List Mi):List Mi:=b.flatMap λp=>R.map (Vz data t v p)
theorem A4w (p:Lp data vars res) {b1:List (ByteArray×Int)} (b2:List (ByteArray×List Ar)) (k:Dm data vars res b1) (e:E6 vars res v=some t) (g:El v) (q:S<=1048576) (s:D<=6) (r:GI data t S D i) : ∃b,Rt v i b1 b2 data vars res.G res.U res.R=some (Ip data t v i,b)/\Dm data vars res b:=by
 obtain⟨y,w,d,o,u⟩:=r;obtain⟨b,j,l⟩:=Acw (b2:=b2) p k ⟨v,i⟩ g w (by show Bt i<=_;omega) (by show (E6 vars res v).isSome=true;rw[e];rfl);have c:D8 data vars res ⟨v,i⟩=(d:Int):=by unfold D8;rw[e];show Jd (D2 data i t)=_;rw[o,Qq ω]
 have f:dgo data t i=d:=by unfold dgo;rw[o]
 refine⟨b,?_,l⟩;unfold Rt Ip;have j:L5 v i b1 b2 data vars res.G res.U res.R=some (D8 data vars res ⟨v,i⟩,b):=j;rw[j,Ad,c,f];by_cases h:d=0
 .rw[A7 h,h];rfl
 .rw[Ay h];have:((d:Int)==0)=false:=Dc ω;simp only[this,Ao]
theorem A4x {u:Aj} {F fs:List Bg} (f:u.M=⟨F,[]⟩) (h:F.length+fs.length<=1000) (g:K<30000000000) (d:RB K u.C) (b:n<Eo) : ∃w,Lh u (cR n) ⟨fs,[]⟩=some w/\w.M=⟨F++fs,[]⟩/\rq w.C=rq u.C*(n:Rat)/\RB (K+202) w.C:=by obtain⟨c,e,o,_,p⟩:=Yy d (Np.c b).rb ω ω;refine⟨⟨c,⟨F++fs,[]⟩⟩,?_,rfl,by rw[p,Ads],o⟩;unfold Lh;rw[e,Ad,f,Arr _ _ (by show F.length+fs.length<=_;omega) ψ];rfl
theorem A4y (data:List Am) (t:Ag) (v:Int) (i:Ai):(Ip data t v i).length<=1:=by unfold Ip;split <;> simp
noncomputable def Zq (data:List Am) (vars:List Ag) (res:Ag) (b2:List (ByteArray×List Ar)) (v:Int) (R:List Ar) (u:Aj):Int×List (ByteArray×Int)×List Aj->Option ((Int×List (ByteArray×Int)×List Aj)⊕(Int×List (ByteArray×Int)×List Aj)):=λ(b,g,f)=> bif b<(R.length:Int) then ((Ah R b).bind λd=> (Rt v d.I g b2 data vars res.G res.U res.R).bind λc=> (Lh u d.C (Br.mk c.1 [])).bind λe=> (B4 104 f [e]).bind λh=> some (.inl ((Ac (b+1)),c.2,h))) else (some (.inr (b,g,f)))
noncomputable def Zr (data:List Am) (vars:List Ag) (res:Ag) (b2:List (ByteArray×List Ar)) (v:Int) (R:List Ar) (ts:List Aj):Int×List (ByteArray×Int)×List Aj->Option ((Int×List (ByteArray×Int)×List Aj)⊕(Int×List (ByteArray×Int)×List Aj)):=λ(b,f,c)=> bif b<(ts.length:Int) then ((Ah ts b).bind λd=> (An (Zq data vars res b2 v R d) (0,f,c)).bind λ(_,h,g)=> some (.inl ((Ac (b+1)),h,g))) else (some (.inr (b,f,c)))
noncomputable def tmO (data:List Am) (t:Ag) (v:Int) (u:Aj) (w:Ai×Nat):Aj:=(Lh u (cR w.2) ⟨Ip data t v w.1,[]⟩).getD u
theorem A4z (r:Lp data vars res) (b2:List (ByteArray×List Ar)) (C:E6 vars res v=some t) (E:El v) (Y:S<=1048576) (F:D<=6) (H:∀w∈R,GI data t S D w.1/\w.2<Eo) (Z:R.length<=1000) {u:Aj} {p:Mi} {c:Rat} (W:K<30000000000) (hu:u.M=⟨p.1,[]⟩) (B:rq u.C=c*(p.2:Rat)) (A:RB K u.C) (N:p.1.length<=900) {l:List (ByteArray×Int)} (U:Dm data vars res l) (o:List Aj) (ho:o.length<=100000000) :
  ∃(f:List (ByteArray×Int)) (T:List Aj),An (Zq data vars res b2 v (R.map A5) u) (0,l,o)=some ((R.length:Int),f,o++T)/\Dm data vars res f/\T=R.map (tmO data t v u)/\E3 (K+202) T ((R.map (Vz data t v p)).map (Jv c)):=by
 have i:(((R.map A5).length:Nat):Int)=(R.length:Int):=by rw[C4]
 obtain⟨e,e1,f,T,e2,e3,e4,e5⟩:=I9 (step:=Zq data vars res b2 v (R.map A5) u) (λ(s:Int×List (ByteArray×Int)×List Aj)=>∃(j:Nat) (m:List (ByteArray×Int)) (T:List Aj),s=((j:Int),m,o++T)/\j<=R.length/\Dm data vars res m/\T=(R.take j).map (tmO data t v u)/\E3 (K+202) T (((R.take j).map (Vz data t v p)).map (Jv c))) (λs=>R.length-s.1.toNat)
  (λ(e:Int×List (ByteArray×Int)×List Aj)=>∃(m:List (ByteArray×Int)) (T:List Aj),e=((R.length:Int),m,o++T)/\Dm data vars res m/\T=R.map (tmO data t v u)/\E3 (K+202) T ((R.map (Vz data t v p)).map (Jv c))) (by
  rintro _ ⟨j,m,T,rfl,hj,g,x,b⟩
  have X:T.length=j:=by rw[x,C4,length_take];omega
  rcases Cb j R.length with h|h
  .left
   have d:R[j]? = some R[j]:=B3 h
   generalize R[j]=w at d
   obtain⟨I,G⟩:=H w (B6 d)
   have z:(R.map A5)[j]? = some (A5 w):=by rw[getElem?_map,d];rfl
   obtain⟨y,f1,f2⟩:=A4w r b2 g C E Y F I
   have f1:Rt v (A5 w).I m b2 data vars res.G res.U res.R=some (Ip data t v w.1,y):=f1
   have V:=A4y data t v w.1
   obtain⟨q,k,M,L,J⟩:=A4x (fs:=Ip data t v w.1) hu ω W A G
   have k:Lh u (A5 w).C ⟨Ip data t v w.1,[]⟩=some q:=k
   refine⟨((j+1:Nat),y,o++(T++[q])),?_,⟨j+1,y,T++[q],rfl,ω,f2,by rw[Dd d,map_append,x,List.map_singleton];unfold tmO;rw[show Lh u (cR w.2) ⟨Ip data t v w.1,[]⟩=some q from k];rfl,?_⟩,ζ⟩
   .unfold Zq
    simp only[i,Aq (ω:(j:Int)<(R.length:Int)),Al,Bu rfl z,Ad,f1,k,C3 h ω]
    rw[Dn ζ,Ad,append_assoc]
   .rw[Dd d,map_append,map_append]
    refine b.app (.cons M ?_ J (by show (p.1++Ip data t v w.1).length<=1000;rw[Eu];omega) .nil)
    rw[L,B]
    show _=c*((p.2*w.2:Nat):Rat)
    rw[Rat.natCast_mul];grind
  .have:j=R.length:=ω
   subst this
   rw[Dq]at b x
   exact .inr ⟨_,by unfold Zq;simp only[i,Aw (ω:¬(R.length:Int)<(R.length:Int)),Ao],m,T,rfl,g,x,b⟩) (0,l,o) ⟨0,l,[],ψ,ω,U,rfl,by simpa using E3.nil⟩
 exact⟨f,T,by rw[<-e2];exact e1,e3,e4,e5⟩
theorem A40 (r:Lp data vars res) (b2:List (ByteArray×List Ar)) (C:E6 vars res v=some t) (B:El v) (Y:S<=1048576) (F:D<=6) (Z:∀w∈R,GI data t S D w.1/\w.2<Eo) (z:R.length<=1000) {i:List Mi} {c:Rat} (H:K<30000000000) (l:E3 K ts (i.map (Jv c))) (A:∀p∈i,p.1.length<=900) (hl:i.length*R.length<=90000000) (a1:i.length<=10000000) {x:List (ByteArray×Int)} (N:Dm data vars res x) :
  ∃(g:List (ByteArray×Int)) (T:List Aj),An (Zr data vars res b2 v (R.map A5) ts) (0,x,[])=some ((ts.length:Int),g,T)/\Dm data vars res g/\T=ts.flatMap (λu=>R.map (tmO data t v u))/\E3 (K+202) T ((upF data t v R i).map (Jv c)):=by
 have y:ts.length=i.length:=by rw[l.len,C4]
 obtain⟨e,W,g,T,e2,e3,e5,e4⟩:=I9 (step:=Zr data vars res b2 v (R.map A5) ts) (λ(s:Int×List (ByteArray×Int)×List Aj)=>∃(j:Nat) (m:List (ByteArray×Int)) (T:List Aj),s=((j:Int),m,T)/\j<=ts.length/\Dm data vars res m/\T=(ts.take j).flatMap (λu=>R.map (tmO data t v u))/\T.length=j*R.length/\E3 (K+202) T ((upF data t v R (i.take j)).map (Jv c))) (λs=>ts.length-s.1.toNat)
  (λ(e:Int×List (ByteArray×Int)×List Aj)=>∃(m:List (ByteArray×Int)) (T:List Aj),e=((ts.length:Int),m,T)/\Dm data vars res m/\T=ts.flatMap (λu=>R.map (tmO data t v u))/\E3 (K+202) T ((upF data t v R i).map (Jv c))) (by
  rintro _ ⟨j,m,T,rfl,hj,q,k,X,f⟩
  rcases Cb j ts.length with h|h
  .left
   have d:ts[j]? = some ts[j]:=B3 h
   generalize ts[j]=u at d
   obtain⟨b,o,E,b3,b4,b5⟩:=l.get d
   rw[getElem?_map]at o
   obtain⟨p,hp,rfl⟩:=Option.map_eq_some_iff.1 o
   have V:j*R.length<=i.length*R.length:=Nat.mul_le_mul_right _ ω
   obtain⟨I,U,M,L,G,J⟩:=A4z r b2 C B Y F Z z H E b3 b4 (A p (B6 hp)) q T ω
   refine⟨((j+1:Nat),I,T++U),?_,⟨j+1,I,T++U,rfl,ω,L,by rw[Ajf _ d,k,G],by rw[Eu,X,G,C4,Nat.add_mul,Nat.one_mul],?_⟩,ζ⟩
   .unfold Zr
    simp only[Aq (ω:(j:Int)<(ts.length:Int)),Al,Bu rfl d,Ad,M,C3 h ω]
   .unfold upF at f ⊢
    rw[Ajf _ hp,map_append]
    exact f.app J
  .have:j=ts.length:=ω
   subst this
   rw[y,Dq]at f
   rw[Dq]at k
   exact .inr ⟨_,by unfold Zr;simp only[Aw (ω:¬(ts.length:Int)<(ts.length:Int)),Ao],m,T,rfl,q,k,f⟩) (0,x,[]) ⟨0,x,[],rfl,ω,N,ψ,ψ,by simpa[upF] using E3.nil⟩
 exact⟨g,T,by rw[<-e2];exact W,e3,e5,e4⟩
theorem Ti (l m:List Bg):Ch data vars res (l++m)=Ch data vars res l+Ch data vars res m:=by unfold Ch;simp[sum_append]
theorem Ajp {data:List Am} {vars:List Ag} {res:Ag}:∀{l:List Bg},(∀f∈l,1<=D8 data vars res f)->(l.length:Int)<=Ch data vars res l
 | [],_=>by simp[Ch]
 | f::l,h=>by have e:=h f ψ;have o:=Ajp (l:=l) λg d=>h g (by simp[d]);have:Ch data vars res (f::l)=D8 data vars res f+Ch data vars res l:=(by unfold Ch;simp);simp only[D9];omega
structure FGz (data:List Am) (vars:List Ag) (res:Ag) (F:List Bg):Prop where
 fac:∀f∈F,El f.v/\iR f.I/\0<=D8 data vars res f
 siz:(F.map λf=>Bt f.I).sum<=400000
 sum:Ch data vars res F<=6
 len:F.length<=8
theorem Ajq {f:Bg} (h:0<=D8 data vars res f):∃t d,E6 vars res f.v=some t/\D2 data f.I t=some d/\d<=6/\D8 data vars res f=(d:Nat):=by
 unfold D8 at h ⊢;cases e:E6 vars res f.v with
 | none=>rw[e]at h;exact absurd (show (0:Int)<=-1 from h) δ
 | some t=>
  rw[e]at h;rcases Aop (D2 data f.I t) with⟨o,_⟩|⟨d,o,p,r⟩
  .have h:0<=Jd (D2 data f.I t):=h;omega
  .exact⟨t,d,rfl,o,p,r⟩
theorem Pn {data:List Am} {vars:List Ag} {res:Ag}:∀{l:List Bg},(∀f∈l,0<=D8 data vars res f)->0<=Ch data vars res l
 | [],_=>by simp[Ch]
 | f::l,h=>by have e:=h f ψ;have o:=Pn (l:=l) λg d=>h g (by simp[d]);have:Ch data vars res (f::l)=D8 data vars res f+Ch data vars res l:=(by unfold Ch;simp);omega
theorem FGz.app (h:FGz data vars res (l++m)):FGz data vars res l/\FGz data vars res m:=by have h1:=h.siz;have h2:=h.sum;have h3:=h.len;rw[map_append,sum_append]at h1;rw[Ti]at h2;rw[Eu]at h3;have f1:=Pn (data:=data) (vars:=vars) (res:=res) (l:=l) λf hf=>(h.fac f (by simp[hf])).2.2;have f2:=Pn (data:=data) (vars:=vars) (res:=res) (l:=m) λf hf=>(h.fac f (by simp[hf])).2.2;exact⟨⟨λf hf=>h.fac f (by simp[hf]),ω,ω,ω⟩,⟨λf hf=>h.fac f (by simp[hf]),ω,ω,ω⟩⟩
theorem A41 {g:List Bg} (u:g≠[]) (hg:∀f∈g,f.v=v) (c:FGz data vars res g) : ∃t q p,E6 vars res v=some t/\El v/\g=fl v (q::p)/\GG data t (q::p)/\Ch data vars res g=(D5 data t (q::p):Nat):=by
 cases g with
 | nil=>exact (u rfl).elim
 | cons f0 g=>
  have j:=hg f0 ψ;obtain⟨t,d0,r,_⟩:=Ajq (c.fac f0 ψ).2.2;rw[j]at r;have y:∀l:List Bg,(∀f∈l,f.v=v)->l=fl v (l.map (·.I)):=(by intro l;induction l with| nil=>intro _;rfl| cons a l ih=>intro h;have F:=h a ψ;have w:=ih λf e=>h f (by simp[e]);show a::l=⟨v,a.I⟩::fl v (l.map (·.I));rw[<-w,<-F]);have C:∀f∈f0::g,D2 data f.I t=some (dgo data t f.I)/\D8 data vars res f=(dgo data t f.I:Nat):=λf e=>by obtain⟨t',d,t1,t2,t4,t5⟩:=Ajq (c.fac f e).2.2;rw[hg f e,r]at t1;cases t1;have:dgo data t f.I=d:=(by unfold dgo;rw[t2]);rw[this];exact⟨t2,t5⟩
  have z:∀l:List Bg,(∀f∈l,f∈f0::g)->Ch data vars res l=(D5 data t (l.map (·.I)):Nat):=(by intro l;induction l with| nil=>intro _;simp[Ch,D5]| cons a l ih=>intro h;obtain⟨_,w⟩:=C a (h a ψ);have H:=ih λf e=>h f (by simp[e]);have G:Ch data vars res (a::l)=D8 data vars res a+Ch data vars res l:=(by unfold Ch;simp);have E:D5 data t ((a::l).map (·.I))=dgo data t a.I+D5 data t (l.map (·.I)):=(by unfold D5;simp);rw[G,E];omega);have A:=z (f0::g) λf e=>e;have B:=c.sum;have s:∀l:List Bg,(l.map λf=>Bt f.I).sum=B5 (l.map (·.I)):=(by intro l;induction l with| nil=>rfl| cons a l ih=>simp only[map_cons,sum_cons,B5,ih]);have b:=c.siz;rw[s]at b;have k:(f0::g).map (·.I)=f0.I::g.map (·.I):=rfl;rw[k]at A b;have x:=c.len;simp only[D9]at x;have D:=y (f0::g) hg;rw[k]at D;refine⟨t,f0.I,g.map (·.I),r,by rw[<-j];exact (c.fac f0 ψ).1,D,⟨λi o=>?_,λi o=>?_,b,ω,by rw[D9,C4];omega⟩,A⟩
  .rw[<-k]at o;obtain⟨f,e,rfl⟩:=mem_map.1 o;exact (c.fac f e).2.1
  .rw[<-k]at o;obtain⟨f,e,rfl⟩:=mem_map.1 o;exact (C f e).1
def Asn (data:List Am) (vars:List Ag) (res:Ag) (χ:Bg->Nat) (P:List Bg):Prop:=∀g∈P,∀t,E6 vars res g.v=some t->Ash data t (λi=>χ ⟨g.v,i⟩)/\∀i,D2 data i t=some 0->iR i->Bt i<=400000->χ ⟨g.v,i⟩=1
structure Po (data:List Am) (vars:List Ag) (res:Ag) (P:List Bg) (FE:List Mi):Prop where
 pos:∀p∈FE,1<=p.2
 fac:∀p∈FE,∀f∈p.1,El f.v/\iR f.I/\Bt f.I<=(P.map λf=>Bt f.I).sum/\1<=D8 data vars res f/\∃g∈P,g.v=f.v
 asc:∀p∈FE,p.1.Pairwise λa b=>a.v<b.v
 sum:∀p∈FE,Ch data vars res p.1<=Ch data vars res P
 val:∀χ,Asn data vars res χ P->pv (λF=>Gy (F.map χ)) FE=Gy (P.map χ)
 len:FE.length*FE.length<=10 ^ ((Ch data vars res P).toNat+P.length)
theorem Po.nil (data:List Am) (vars:List Ag) (res:Ag):Po data vars res [] [([],1)]:=by
 have h:∀p∈[(([]:List Bg),1)],p=([],1):=λp hp=>by simpa using hp
 refine⟨λp hp=>?_,λp hp f hf=>?_,λp hp=>?_,λp hp=>?_,λχ _=>rfl,Nat.le_refl _⟩
 .rw[h p hp];exact Nat.le_refl _
 .rw[h p hp]at hf;cases hf
 .rw[h p hp];exact Pairwise.nil
 .rw[h p hp];exact Int.le_refl _
theorem Ajr:∀(l m:List Nat),Gy (l++m)=Gy l*Gy m
 | [],m=>by simp[Gy]
 | a::l,m=>by rw[Eh,Gy,Gy,Ajr l m,Nat.mul_assoc]
theorem Aso {α β:Type} (f:β->Nat) (g:α->β) (c:Nat):∀L:List (α×Nat),pv f (L.map λw=>(g w.1,c*w.2))=c*pv (λx=>f (g x)) L
 | []=>rfl
 | p::L=>by rw[map_cons,pv,Aso f g c L,pv,Nat.mul_add,Nat.mul_assoc]
theorem Po.step {P:List Bg} {u:List Mi} (h:Po data vars res P u) (W:E6 vars res v=some t) (U:El v) {j:Ai} {c:List Ai} (S:GG data t (j::c)) (M:Ch data vars res (fl v (j::c))=(D5 data t (j::c):Nat)) (hP:∀f∈P,f.v<v) (a7:0<=Ch data vars res P) (z:PRg data t j c R):Po data vars res (P++fl v (j::c)) (upF data t v R u):=by
 have hs:=S.siz;have a6:=S.sum;have s:∀q∈upF data t v R u,∃p∈u,∃w∈R,q=Vz data t v p w:=λq r=>by unfold upF at r;obtain⟨p,hp,r⟩:=mem_flatMap.1 r;obtain⟨w,o,rfl⟩:=mem_map.1 r;exact⟨p,hp,w,o,rfl⟩
 have B:∀w∈R,∀f∈Ip data t v w.1,f=⟨v,w.1⟩/\1<=dgo data t w.1:=λw o f hf=>by
  unfold Ip at hf;split at hf
  .cases hf
  .rename_i h0;simp only[D0]at hf;exact⟨hf,ω⟩
 have A:∀w∈R,D2 data w.1 t=some (dgo data t w.1)/\dgo data t w.1<=D5 data t (j::c)/\D8 data vars res ⟨v,w.1⟩=(dgo data t w.1:Nat):=λw o=>by obtain⟨_,_,d,d1,d2⟩:=z.cw.mo w o;have e:dgo data t w.1=d:=(by unfold dgo;rw[d1]);rw[e];refine⟨d1,d2,?_⟩;unfold D8;rw[W];show Jd (D2 data w.1 t)=_;rw[d1,Qq ω]
 have x:((P++fl v (j::c)).map λf=>Bt f.I).sum=(P.map λf=>Bt f.I).sum+B5 (j::c):=by
  rw[map_append,sum_append];congr 1;have C:∀l:List Ai,((fl v l).map λf=>Bt f.I).sum=B5 l:=λl=>by induction l with| nil=>rfl| cons a l ih=>show Bt a+((fl v l).map λf=>Bt f.I).sum=B5 (a::l);rw[ih];simp only[B5]
  exact C _
 have I:Ch data vars res (P++fl v (j::c))=Ch data vars res P+(D5 data t (j::c):Nat):=by rw[Ti,M]
 have J:(Ch data vars res (P++fl v (j::c))).toNat=(Ch data vars res P).toNat+D5 data t (j::c):=ω;have y:(upF data t v R u).length<=u.length*R.length:=by unfold upF;exact Ad5 _ _ _ λp _=>by rw[C4];exact Nat.le_refl _
 have D:R.length<=3 ^ (D5 data t (j::c)*c.length):=Nat.le_trans (Lu z.cw.pos) z.cnt;refine⟨λq r=>?_,λq r f hf=>?_,λq r=>?_,λq r=>?_,λχ Z=>?_,?_⟩
 .obtain⟨p,hp,w,o,rfl⟩:=s q r;exact Nat.mul_pos (h.pos p hp) (z.cw.pos w o)
 .obtain⟨p,hp,w,o,rfl⟩:=s q r;rcases D7.1 hf with hf|hf
  .obtain⟨a1,a2,a3,a4,g,H,T⟩:=h.fac p hp f hf;exact⟨a1,a2,by rw[x];omega,a4,g,by simp[H],T⟩
  .obtain⟨rfl,h1⟩:=B w o f hf;obtain⟨x1,G,_⟩:=z.cw.mo w o;obtain⟨_,_,E⟩:=A w o;exact⟨U,G,by rw[x];show Bt w.1<=_;omega,by rw[E];omega,⟨v,j⟩,by simp[fl],rfl⟩
 .obtain⟨p,hp,w,o,rfl⟩:=s q r;refine pairwise_append.2 ⟨h.asc p hp,?_,λa ha b hb=>?_⟩
  .unfold Ip;split <;> simp
  .obtain⟨rfl,_⟩:=B w o b hb;obtain⟨_,_,_,_,g,H,T⟩:=h.fac p hp a ha;rw[<-T];exact hP g H
 .obtain⟨p,hp,w,o,rfl⟩:=s q r;have h1:=h.sum p hp;obtain⟨_,y2,E⟩:=A w o;show Ch data vars res (p.1++Ip data t v w.1)<=_;rw[Ti,I];have:Ch data vars res (Ip data t v w.1)<=(D5 data t (j::c):Nat):=by
   unfold Ip;split
   .show (0:Int)<=_;omega
   .show D8 data vars res ⟨v,w.1⟩+0<=_;rw[E];omega
  omega
 .obtain⟨m1,m2⟩:=Z ⟨v,j⟩ (by simp[fl]) t W;have X:pv (λF=>Gy (F.map χ)) (upF data t v R u)=pv (λF=>pv (λi=>χ ⟨v,i⟩) R*Gy (F.map χ)) u:=by
   unfold upF;refine Ajc _ _ _ _ λp hp=>?_;have V:R.map (Vz data t v p)=R.map λw=>(p.1++Ip data t v w.1,p.2*w.2):=rfl;rw[V,Aso (λF=>Gy (F.map χ)) (λi=>p.1++Ip data t v i) p.2 R];congr 1;rw[<-Nat.mul_comm (Gy _),<-Pi];refine Adz λw o=>?_;show Gy ((p.1++Ip data t v w.1).map χ)=Gy (p.1.map χ)*χ ⟨v,w.1⟩;rw[map_append,Ajr];congr 1;obtain⟨x1,G,_⟩:=z.cw.mo w o;obtain⟨Y,_⟩:=A w o;unfold Ip;split
   .rename_i h0;rw[h0]at Y;rw[m2 w.1 Y G ω];rfl
   .show χ ⟨v,w.1⟩*1=_;omega
  rw[X,Pi,h.val χ λg hg=>Z g (by simp[hg]),z.val,Asi m1 c j S,map_append,Ajr,Nat.mul_comm];congr 1;show _=χ ⟨v,j⟩*Gy ((fl v c).map χ);unfold fl;rw[map_map];rfl
 .have hl:=z.len;have L:(fl v (j::c)).length=c.length+1:=(by unfold fl;rw[C4,D9]);have N:R.length*R.length<=10 ^ (D5 data t (j::c)+(c.length+1)):=by
   rcases Cb (D5 data t (j::c)+c.length) 5 with k|k
   .have h0:∀a,a<5->∀b,b<5->a+b<5->a*b<=a+b+1:=δ;have h1:(3:Nat) ^ (D5 data t (j::c)*c.length)<=3 ^ (D5 data t (j::c)+(c.length+1)):=Nat.pow_le_pow_right δ (by have:=h0 _ ω _ ω k;omega);have h2:=Nat.mul_le_mul (Nat.le_trans D h1) (Nat.le_trans D h1);rw[<-Nat.mul_pow]at h2;exact Nat.le_trans h2 (Nat.pow_le_pow_left δ _)
   .have h1:(10:Nat) ^ 6<=10 ^ (D5 data t (j::c)+(c.length+1)):=Nat.pow_le_pow_right δ ω;have h2:=Nat.mul_le_mul hl hl;omega
  have X:(Ch data vars res (P++fl v (j::c))).toNat+(P++fl v (j::c)).length=((Ch data vars res P).toNat+P.length)+(D5 data t (j::c)+(c.length+1)):=(by rw[J,Eu,L];omega);rw[X,Nat.pow_add];refine Nat.le_trans (Nat.mul_le_mul y y) ?_;have V:u.length*R.length*(u.length*R.length)=u.length*u.length*(R.length*R.length):=(by ac_rfl);rw[V];exact Nat.mul_le_mul h.len N
noncomputable def Aec (r:List Bg) (v:Int):Int->Option (Int⊕Int):=λb=> bif b<(r.length:Int) then ((Ah r b).bind λc=> bif (c.v==v) then (some (.inl (Ac (b+1)))) else (some (.inr b))) else (some (.inr b))
theorem A42 {r:List Bg} {a:Bg} (h0:r[0]? = some a) (q:r.length<=1000) :
  ∃n:Nat,An (Aec r a.v) 1=some (n:Int)/\1<=n/\n<=r.length/\(∀b∈r.take n,b.v=a.v)/\∀b,r[n]? = some b->b.v≠a.v:=by
 have p:=Ez h0
 obtain⟨e,l,n,k,i⟩:=I9 (step:=Aec r a.v) (λs=>∃n:Nat,s=(n:Int)/\1<=n/\n<=r.length/\∀b∈r.take n,b.v=a.v) (λs=>r.length-s.toNat)
  (λe=>∃n:Nat,e=(n:Int)/\1<=n/\n<=r.length/\(∀b∈r.take n,b.v=a.v)/\∀b,r[n]? = some b->b.v≠a.v) (by
  rintro _ ⟨j,rfl,g,f,c⟩
  unfold Aec
  rcases Cb j r.length with h|h
  .have w:r[j]? = some r[j]:=B3 h
   generalize r[j]=b at w
   simp only[Aq (ω:(j:Int)<(r.length:Int)),Al,Bu rfl w,Ad,C3 h ω]
   by_cases y:b.v=a.v
   .left
    rw[Gb y]
    refine⟨_,rfl,⟨j+1,rfl,ω,ω,λd o=>?_⟩,ω⟩
    rw[Dd w]at o
    rcases D7.1 o with o|o
    .exact c d o
    .simp only[D0]at o
     rw[o];exact y
   .right
    rw[Dc y]
    exact⟨_,rfl,j,rfl,g,f,c,λd o=>by rw[w]at o;cases o;exact y⟩
  .right
   refine⟨_,by simp only[Aw (ω:¬(j:Int)<(r.length:Int)),Ao],j,rfl,g,f,c,λd o=>?_⟩
   have:=Ez o
   omega) 1 ⟨1,rfl,ω,ω,λb A=>by
    cases r with
    | nil=>simp at p
    | cons x r=>simp at A h0;rw[A,h0]⟩
 exact⟨n,by rw[<-k];exact l,i⟩
noncomputable def Tj (data:List Am) (vars:List Ag) (res:Ag):(List Aj×List Bg×List (ByteArray×Int)×List (ByteArray×List Ar))->Option ((List Aj×List Bg×List (ByteArray×Int)×List (ByteArray×List Ar))⊕((List Aj×Int×List (ByteArray×Int)×List (ByteArray×List Ar))⊕(List Aj×List (ByteArray×Int)×List (ByteArray×List Ar)))):=λ(d,c,f,h)=> bif (c.length:Int)>(0:Int) then ((Ah c 0).bind λe=> (An (Aec c e.v) 1).bind λg=> (Ei c 0 g).bind λj=> (No j f h data vars res.G res.U res.R).bind λb=> bif (b.2.1 != (0:Int)) then (some (.inr (.inl ([],b.2.1,f,b.2.2)))) else ((An (Zr data vars res b.2.2 e.v b.1 d) (0,f,[])).bind λ(o,l,k)=> (Ei c g c.length).bind λi=> some (.inl (k,i,l,b.2.2)))) else (some (.inr (.inr (d,f,h))))
theorem Asp (data:List Am) (t:Ag) (v:Int) (R:List (Ai×Nat)):∀b:List Mi,(upF data t v R b).length=b.length*R.length
 | []=>by simp[upF]
 | p::b=>by have ih:=Asp data t v R b;unfold upF at ih ⊢;rw[flatMap_cons,Eu,ih,C4,D9,Nat.add_mul];omega
def Q3 (l:List Bg):Prop:=∃v:Int,3<=(l.filter λf=>f.v==v).length
theorem Q3.app (h:Q3 m):Q3 (l++m):=by obtain⟨v,h⟩:=h;exact⟨v,by rw[filter_append,Eu];omega⟩
theorem Q3.perm (hp:l.Perm m) (h:Q3 l):Q3 m:=by obtain⟨v,h⟩:=h;exact⟨v,by rw[<-(hp.filter _).length_eq];exact h⟩
theorem Aed (h:n*n<=10 ^ k) (e:k<=14):n<=10000000:=by
 rcases Cb 10000000 n with d|d
 .have o:=Nat.mul_le_mul d d;have p:(10:Nat) ^ k<=10 ^ 14:=Nat.pow_le_pow_right δ e;omega
 .exact d
theorem A43 (hz:DSz data) (hv:Hy data) (hx:Lp data vars res) (ah:∀v t,E6 vars res v=some t->Gg data t=true) {c:Rat}:∀(n:Nat) (rest P:List Bg) (ts:List Aj) (A:List Mi) (K:Nat),rest.length<=n->rest.Pairwise (λa b=>a.v<=b.v)->(∀f∈P,∀g∈rest,f.v<g.v)->FGz data vars res (P++rest)->E3 K ts (A.map (Jv c))->Po data vars res P A->(∀p∈A,p.1.length<=6)->K+202*rest.length<30000000000 ->
  (Q3 rest/\∀i s,Dm data vars res i->PMg data vars res s->∃k u,An (Tj data vars res) (ts,rest,i,s)=some (.inl ([],9,k,u))/\Dm data vars res k/\PMg data vars res u) \/
  (∃B J,E3 (K+202*rest.length) B (J.map (Jv c))/\Po data vars res (P++rest) J/\∀i s,Dm data vars res i->PMg data vars res s->∃k u,An (Tj data vars res) (ts,rest,i,s)=some (.inr (B,k,u))/\Dm data vars res k/\PMg data vars res u):=by
 intro n
 induction n with
 | zero=>
  intro rest P ts A K hn _ _ _ W C _ _
  have:rest = []:=Gm.1 ω
  subst this
  exact .inr ⟨ts,A,by simpa using W,by rw[append_nil];exact C,λi s o F=>⟨i,s,Fm (by unfold Tj;simp),o,F⟩⟩
 | succ n ih=>
  intro rest P ts A K hn hS a8 S W C ao hK
  cases j:rest with
  | nil=>
   exact .inr ⟨ts,A,by simpa using W,by rw[append_nil];exact C,λi s o F=>⟨i,s,Fm (by unfold Tj;simp),o,F⟩⟩
  | cons a r'=>
   rw[<-j]
   have h0:rest[0]? = some a:=by rw[j];rfl
   have aq:0<rest.length:=Ez h0
   have az:=S.sum
   have ab:=S.len
   rw[Eu]at ab
   obtain⟨m,m1,m2,m3,m4,m5⟩:=A42 h0 ω
   have E:rest=rest.take m++rest.drop m:=(take_append_drop m rest).symm
   have Z:rest.take m≠[]:=by
    intro h
    have:=congrArg length h
    rw[length_take]at this
    simp only[length_nil]at this
    omega
   have aa:=S.app.2
   have ap:FGz data vars res (rest.take m):=by
    rw[E]at aa
    exact aa.app.1
   obtain⟨t,i0,H,t1,t2,t3,t4,t5⟩:=A41 Z m4 ap
   have Y:Ah rest 0=some a:=Bu (n:=0) rfl h0
   have ad:Ei rest (m:Int) (rest.length:Int)=some (rest.drop m):=by
    unfold Ei
    simp[drop_take]
    omega
   have am:0<=Ch data vars res P:=Pn λf e=>(S.fac f (by simp[e])).2.2
   have b0:0<=Ch data vars res (rest.drop m):=Pn λf e=>(S.fac f (by have:=mem_of_mem_drop e;simp[this])).2.2
   have eP:Ch data vars res (P++rest.take m)+Ch data vars res (rest.drop m)=Ch data vars res (P++rest):=by rw[Ti,Ti,Int.add_assoc,<-Ti (rest.take m),take_append_drop]
   have ay:0<=Ch data vars res (rest.take m):=Pn λf e=>(S.fac f (by have:=mem_of_mem_take e;simp[this])).2.2
   have ax:(Ch data vars res P).toNat<=6:=by
    rw[Ti]at eP
    omega
   have ar:(rest.drop m).length+m=rest.length:=by rw[length_drop];omega
   rcases A4r hz hv (ah a.v t t1) t1 t2 t4 with⟨r,q⟩|⟨R,G,q⟩
   .refine .inl ⟨⟨a.v,?_⟩,λi s N M=>?_⟩
    .rw[<-take_append_drop m rest,filter_append,Eu,filter_eq_self.2 λf e=>by simp[m4 f e],t3]
     unfold fl
     rw[C4,D9];omega
    .obtain⟨I,V,q2⟩:=q i s M
     rw[<-t3]at V
     refine⟨i,I,Fm ?_,N,q2⟩
     unfold Tj
     simp only[Aq (ω:(rest.length:Int)>0),Al,Y,Ad,m1,Sv rfl m3,V]
     rfl
   .have z:=C.step t1 t2 t4 (by rw[<-t3];exact t5) (λf e=>by
     have:=a8 f e a (by rw[j];simp)
     exact this) am G
    have ac:=Aed C.len ω
    have ak:=G.len
    have h9:A.length*R.length<=10000000:=by
     have o:=z.len
     rw[Asp data t a.v R A,<-t3]at o
     refine Aed o ?_
     rw[Eu,length_take]
     omega
    rw[<-t3]at z
    have ag:=t4.len
    simp only[D9]at ag
    have aj:∀w∈R,GI data t (B5 (i0::H)) (D5 data t (i0::H)) w.1/\w.2<Eo:=λw hw=>by
     refine⟨G.cw.mo w hw,?_⟩
     have o:=Oa hw
     have F:=G.cnt
     have h3:(3:Nat) ^ (D5 data t (i0::H)*H.length)<=3 ^ 42:=Nat.pow_le_pow_right δ (Nat.mul_le_mul t4.sum (show H.length<=7 by omega))
     have h4:(3:Nat) ^ 42<Eo:=by unfold Eo;decide
     omega
    have a1:=λ(b2:List (ByteArray×List Ar)) (i:List (ByteArray×Int)) (hm:Dm data vars res i)=>A40 hx b2 t1 t2 (by have:=t4.siz;omega) t4.sum aj ak ω W (λp hp=>by have:=ao p hp;omega) ω ω hm
    obtain⟨_,T,_,_,hT,u3⟩:=a1 [] [] (λp hp=>by cases hp)
    have x:∀i s,Dm data vars res i->PMg data vars res s->∃k u,Tj data vars res (ts,rest,i,s)=some (.inl (T,rest.drop m,k,u))/\Dm data vars res k/\PMg data vars res u:=λi s N M=>by
     obtain⟨I,V,q2⟩:=q i s M
     rw[<-t3]at V
     obtain⟨k,U,u1,u2,hU,_⟩:=a1 I i N
     rw[<-hT]at hU
     subst hU
     refine⟨k,I,?_,u2,q2⟩
     unfold Tj
     simp only[Aq (ω:(rest.length:Int)>0),Al,Y,Ad,m1,Sv rfl m3,V,show ((0:Int) != 0)=false from rfl,Ao,u1,ad]
    have af:∀b∈rest.drop m,a.v<b.v:=by
     intro b r
     cases hd:rest.drop m with
     | nil=>rw[hd]at r;cases r
     | cons d D=>
      have y:rest[m]? = some d:=by
       have:=congrArg (λl=>l[0]?) hd
       simpa using this
      have au:=m5 d y
      have av:a.v<=d.v:=by
       have a7:=hS
       rw[j]at a7
       have ai:d∈r':=by
        have ae:m=(m-1)+1:=ω
        rw[j,ae,getElem?_cons_succ]at y
        exact B6 y
       exact (pairwise_cons.1 a7).1 d ai
      have a6:(rest.drop m).Pairwise (λa b=>a.v<=b.v):=Pairwise.sublist (drop_sublist m rest) hS
      rw[hd]at r a6
      rcases Fp.1 r with rfl|r
      .omega
      .have:=(pairwise_cons.1 a6).1 b r
       omega
    have L:P++rest.take m++rest.drop m=P++rest:=by rw[append_assoc,take_append_drop]
    have X:=ih (rest.drop m) (P++rest.take m) T (upF data t a.v R A) (K+202) ω (Pairwise.sublist (drop_sublist m rest) hS) (λf e g hg=>by
     rcases D7.1 e with e|e
     .exact a8 f e g (mem_of_mem_drop hg)
     .rw[m4 f e];exact af g hg) (by rw[L];exact S) u3 z (λp hp=>by
     have o:=z.sum p hp
     have F:=Ajp (data:=data) (vars:=vars) (res:=res) (l:=p.1) λf e=>(z.fac p hp f e).2.2.2.1
     omega) ω
    rw[L]at X
    rcases X with⟨y1,y2⟩|⟨B,J,w4,w5,y2⟩
    .refine .inl ⟨by rw[<-take_append_drop m rest];exact y1.app,λi s N M=>?_⟩
     obtain⟨p1,p2,s1,s2,s3⟩:=x i s N M
     obtain⟨r1,r2,s4,s5⟩:=y2 p1 p2 s2 s3
     exact⟨r1,r2,by rw[Kd s1,s4],s5⟩
    .refine .inr ⟨B,J,w4.mono ω,w5,λi s N M=>?_⟩
     obtain⟨p1,p2,s1,s2,s3⟩:=x i s N M
     obtain⟨r1,r2,s4,s5⟩:=y2 p1 p2 s2 s3
     exact⟨r1,r2,by rw[Kd s1,s4],s5⟩
def IsE (A:List Bc) (B:List Ent):Prop:=∃d b,b.Perm A/\Zg b/\Gs d b/\B=Mh [([],1)] d
def Zs (vars:List Ag) (res:Ag) (L:List Bc):Prop:=L.Pairwise (λa b=>Hk a.L b.L<0)/\∀a∈L,1<=a.P/\G4 a.L=true/\a.L.T.length≠0/\I1 vars res a.L=true
theorem A44 (l m:List Bc):Dr (l++m)=Dr l+Dr m:=by unfold Dr;simp[sum_append]
theorem A45:∀{u:List Grp} {rest:List Bc},Gs u rest->(∀a∈rest,G4 a.L=true/\I1 vars res a.L=true) -> ∀(B:List Ent) (S:Int),(∀b∈B,Zs vars res b.1/\Dr b.1<=S/\∀a∈b.1,∀r∈rest,Hk a.L r.L<0)->∀b∈Mh B u,Zs vars res b.1/\Dr b.1<=S+(Dp rest:Nat):=by
 intro u rest h;induction h with
 | nil=>intro _ B S z b o;have:=z b o;exact⟨this.1,by have:=this.2.1;omega⟩
 | @cons l N f g rest u x H E I M ih=>
  intro A B S z;obtain⟨w,j⟩:∃a,a∈g:=(by cases g with| nil=>exact (x rfl).elim| cons a _=>exact⟨a,ψ⟩);have s:=H w j;have q:=A w (by simp[j]);rw[s]at q;have J:∀k,k<N+1->k≠0->l.T.length≠0/\k<=Dp g:=by
   intro k p G;rcases I with⟨T,F⟩|⟨_,F,_⟩
   .exact⟨T,by rw[<-F.1];omega⟩
   .omega
  intro b o;have:=ih (λa e=>A a (by simp[e])) (H4 B l f (N+1)) (S+(Dp g:Nat)) (by
   intro b o;unfold H4 at o;rw[mem_flatMap]at o;obtain⟨k,i,p⟩:=o;have i:=mem_range.1 i;split at p
   .cases p
   .rw[mem_map]at p;obtain⟨d,U,rfl⟩:=p;obtain⟨d1,d2,d3⟩:=z d U;have y:∀a∈d.1,Hk a.L l<0:=λa e=>by have:=d3 a e w (by simp[j]);rwa [s]at this
    unfold atO;by_cases C:k=0
    .rw[A7 C,append_nil];exact⟨d1,by show Dr d.1<=S+((Dp g:Nat):Int);omega,λa e r c=>d3 a e r (by simp[c])⟩
    .rw[Ay C];obtain⟨D,L⟩:=J k i C;refine⟨⟨pairwise_append.2 ⟨d1.1,pairwise_singleton _ _,λa e b o=>?_⟩,λa e=>?_⟩,?_,λa e r c=>?_⟩
     .simp only[D0]at o;subst o;exact y a e
     .rcases D7.1 e with e|e
      .exact d1.2 a e
      .simp only[D0]at e;subst e;exact⟨by show (1:Int)<=(k:Int);omega,q.1,D,q.2⟩
     .show Dr (d.1++[⟨l,k⟩])<=_;rw[A44];have:Dr [(⟨l,(k:Int)⟩:Bc)]=(k:Int):=(by simp[Dr]);omega
     .rcases D7.1 e with e|e
      .exact d3 a e r (by simp[c])
      .simp only[D0]at e;subst e;exact E r c) b o
  refine⟨this.1,?_⟩;rw[Th];have:=this.2;omega
theorem A46 {L:List Bc} (h:Zs x.V x.E L) (y:Dr L<=6):I4 x ⟨[],L⟩:=by
 have i:(L.length:Int)<=Dr L:=by have d:∀l:List Bc,(∀a∈l,1<=a.P)->(l.length:Int)<=Dr l:=(by intro l;induction l with| nil=>intro _;simp[Dr]| cons f F ih=>intro c;have r:=c f ψ;have w:=ih λg A=>c g (by simp[A]);unfold Dr at *;simp only[map_cons,sum_cons,D9];omega);exact d _ λa o=>(h.2 a o).1
 constructor
 .unfold Jo;have k:L.zipIdx.all (λq=>Pd x.V x.E L q.1 q.2)=true:=(by rw[H9];rintro⟨a,j⟩ B;have p:L[j]? = some a:=mk_mem_zipIdx_iff_getElem?.1 B;obtain⟨r,w,C,s⟩:=h.2 a (B6 p);show Pd x.V x.E L a j=true;unfold Pd;have hp:Pb L a j=true:=(by unfold Pb;cases j with| zero=>rfl| succ j=>have c:=Ez p;have E:L[j]? = some L[j]:=B3 ω;have b:=pairwise_iff_getElem.1 h.1 j (j+1) ω c ω;have e:L[j+1]=a:=(by have:=B3 c;rw[p]at this;exact (Fa this).symm);rw[e]at b;simp only[Nat.add_sub_cancel,E,Bool.or_eq_true];exact .inr (decide_eq_true b));rw[hp,Aq r,w,s];simp only[Bool.true_and,Bool.and_true,Bool.not_eq_true',beq_eq_false_iff_ne,ne_eq];exact C);show (([]:List Bg).zipIdx.all _&&L.zipIdx.all (λq=>Pd x.V x.E L q.1 q.2)&&decide (Ch x.D x.V x.E []+Dr L<=6))=true;rw[k];have:Ch x.D x.V x.E []=0:=rfl;rw[this];simp;exact y
 .exact⟨ψ,by show L.length<=1048576;omega,nofun,nofun,λa o=>by have:=(Adu (h.2 a o).2.1).1;omega⟩
def ec:List Ent->Br->Nat
 | [],_=>0
 | b::bs,m=>(if Ea ⟨[],b.1⟩ m=0 then b.2 else 0)+ec bs m
theorem Rep.mem {c:Rat} {bs:List Ent} (h:Rep c K ts bs) {t:Aj} (d:t∈ts):∃b∈bs,t.M=⟨[],b.1⟩/\rq t.C=c*(b.2:Rat)/\RB K t.C:=by obtain⟨j,e⟩:=Ik d;obtain⟨b,o,p⟩:=h.get e;exact⟨b,B6 o,p⟩
def Ajs (L:Nat) (p:List Aj):Prop:=∀t∈p,∃z:Int,rq t.C=(z:Rat)/\Bl z.natAbs<=L
theorem A47 {a:A3} {z:Int} (d:J5 a) (h:rq a=(z:Rat)):a=Cn (decide (z<0)) z.natAbs 1:=by
 refine Ac6 d (S8 _ _ _ δ) ?_;rw[h,Pg _ _ _ δ,Zi];congr 1;unfold sg;by_cases h:z<0
 .rw[Aq h,A7 rfl];omega
 .rw[Aw h,Ay δ];omega
theorem A48 {a:A3} {z:Int} {L:Nat} (d:J5 a) (h:rq a=(z:Rat)) (b:Bl z.natAbs<=L):RB (L+1) a:=by rw[A47 d h];exact N7 _ _ _ _ ω (by rw[Nc];omega) ω
theorem Ajs.of {p:List Aj} {L:Nat} (hc:CP p) (h:∀m,∃z:Int,cf p m=(z:Rat)/\Bl z.natAbs<=L):Ajs L p:=λt d=>by obtain⟨z,b,e⟩:=h t.M;exact⟨z,by rw[<-Aii hc d];exact b,e⟩
structure IP (x:Cu) (n L:Nat) (f:Br->Rat) (R:List Aj):Prop where
 cp:CP R
 val:∀m,cf R m=f m
 mo:∀t∈R,I4 x t.M
 len:R.length<=n
 int:Ajs L R
theorem IP.can {L:Nat} {f:Br->Rat} {R:List Aj} (h:IP x n L f R) (c:n<=1000) (g:L<=1000000):Jp x R := Jp.of h.cp h.mo (λt d=>by obtain⟨z,b,e⟩:=h.int t d;exact (A48 (h.cp.coe t d).1 b e).mono ω) (by have:=h.len;omega)
theorem IP.ext {y:Cu} {L b c:Nat} {f g:Br->Rat} {R S:List Aj} (h:IP x n L f R) (h':IP y b c g S) (e:∀m,f m=g m):R=S:=CP.ext h.cp h'.cp λm=>by rw[h.val,h'.val,e]
end Go.Ab
