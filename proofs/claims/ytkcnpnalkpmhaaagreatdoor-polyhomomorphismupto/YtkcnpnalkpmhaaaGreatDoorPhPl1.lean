/- Plain laws: what the plain functions answer. -/
import Derived.Test.YtkcnpnalkpmhaaaGreatDoorPhPl0
open List
namespace Go.Ab
open Go
mutual
theorem As5 (data:List Ak):∀(i:Ai) (t:Af) (d:Nat),Dj data i t=some d->d<=6*Ca i
 | ⟨n,kids⟩,t,d,h=>by
  rw[Mw]at h
  simp only[Ca]
  simp only at h
  split at h
  .split at h
   .have:=Abi data kids _ d h;omega
   .cases h
  .split at h
   .split at h
    .cases h;omega
    .cases h
   .split at h
    .split at h
     .have:=As6 data kids _ d h;omega
     .cases h
    .split at h
     .cases h;omega
     .cases h
theorem Abi (data:List Ak):∀(is:List Ai) (ts:List Af) (d:Nat),Cy data is ts=some d->d<=6*Ck is
 | [],[],d,h=>by simp only[Cy]at h;cases h;omega
 | i::is,t::ts,d,h=>by
  rw[N1]at h
  cases h1:Dj data i t with
  | none=>rw[h1]at h;cases h
  | some a=>
   rw[h1,Ad]at h
   cases h2:Cy data is ts with
   | none=>rw[h2]at h;cases h
   | some b=>
    rw[h2]at h
    cases h
    have:=As5 data i t a h1
    have:=Abi data is ts b h2
    simp only[Ck];omega
 | [],_::_,d,h=>by simp only[Cy]at h;cases h
 | _::_,[],d,h=>by simp only[Cy]at h;cases h
theorem As6 (data:List Ak):∀(es:List Ai) (t:Af) (d:Nat),Fv data es t=some d->d<=6*Ck es
 | [],t,d,h=>by simp only[Fv]at h;cases h;omega
 | ⟨n,kids⟩::es,t,d,h=>by
  rw[Ve]at h
  simp only at h
  cases h1:Gy data t n with
  | none=>rw[h1]at h;cases h
  | some ts=>
   rw[h1,Ad]at h
   cases h2:Cy data kids ts with
   | none=>rw[h2]at h;cases h
   | some a=>
    rw[h2,Ad]at h
    cases h3:Fv data es t with
    | none=>rw[h3]at h;cases h
    | some b=>
     rw[h3]at h
     cases h
     have:=Abi data kids ts a h2
     have:=As6 data es t b h3
     simp only[Ck,Ca];omega
end
variable {data:List Ak} {o:Option Nat} {α:Type}
def Xz (data:List Ak) (e:Ai) (t:Af):Option Nat:=(Gy data t e.U).bind λts=>(Cy data e.K ts).map (1 + ·)
theorem A49 (data:List Ak) (e:Ai) (es:List Ai) (t:Af):Fv data (e::es) t=(Xz data e t).bind λa=>(Fv data es t).map (a + ·):=by rw[Ve];unfold Xz;cases Gy data t e.U with| none=>rfl| some ts=>simp only[Ad];cases Cy data e.K ts <;> rfl
theorem A5a (data:List Ak) (e:Ai) (t:Af) (d:Nat) (h:Xz data e t=some d):d<=6*Ca e:=by
 unfold Xz at h;cases h1:Gy data t e.U with
 | none=>rw[h1]at h;cases h
 | some ts=>rw[h1,Ad]at h;cases h2:Cy data e.K ts with| none=>rw[h2]at h;cases h| some a=>rw[h2]at h;cases h;have:=Abi data _ ts a h2;have:=Ep e;show 1+a<=_;omega
def Dg (v:Int) (o:Option Nat):Prop:=(v = -1/\∀d,o=some d->6<d)\/∃d:Nat,o=some d/\v=d
theorem Dg.clip {v:Int} (h:Dg v o):(if v>6 then -1 else v)=Jo o:=by
 rcases h with⟨rfl,h⟩|⟨d,rfl,rfl⟩
 .rw[Ar ω,Asw h]
 .by_cases hd:6<d
  .rw[Au ω,Ak5 hd]
  .rw[Ar ω,Q6 ω]
theorem Af7 {p:Option Nat} {acc:Nat} {d:Nat} (h:(o.bind λa=>p.map (a + ·)).map (acc + ·)=some d):∃a b,o=some a/\p=some b/\d=acc+(a+b):=by
 cases o with
 | none=>cases h
 | some a=>cases p with| none=>cases h| some b=>exact⟨a,b,rfl,rfl,by simp at h;omega⟩
theorem A5b (hz:Szv data) (hs:Mv data) (b1:List (ByteArray×Int)) (b2:List (ByteArray×List Av)) (vars:List Af) (L J:Int) (I:List Af):∀k:Nat, (∀(i:Ai) (t:Af),3*Ca i<=k->Ca i<=1048576->Bz t<=200->∃v,Sn k t i b1 b2 data vars L J I=some v/\Dg v (Dj data i t)) /\ (∀(is:List Ai) (ts:List Af),3*Ck is+1<=k->Ck is<=1048576->(∀t∈ts,Bz t<=200)->∃v,U3 k ts is b1 b2 data vars L J I=some v/\Dg v (Cy data is ts)) /\ (∀(e:Ai) (t:Af),3*Ca e<=k->Ca e<=1048576->Bz t<=200->∃v,U4 k t e b1 b2 data vars L J I=some v/\Dg v (Xz data e t)):=by
 intro k;induction k with
 | zero=>exact⟨λi t h=>by have:=Ep i;omega,λis ts h=>ω,λi t h=>by have:=Ep i;omega⟩
 | succ k ih=>
  obtain⟨Z,M,a6⟩:=ih;have B:∀o:Option Nat,o.map (0 + ·)=o:=(by intro o;cases o <;> simp);have c:∀d:Nat,(none:Option Nat)=some d->6<d:=λd h=>by cases h
  refine⟨?_,?_,?_⟩
  .intro i t hk hi ht;have ae:=Ep i;have N:=P1 i.K;rw[Sn,Mw];by_cases X:t.G=6
   .simp only[Ew X,Am,Au X];by_cases h0:i.U=0
    .simp only[Ew h0,Am,Au h0];obtain⟨p,p1,p2⟩:=M i.K t.R ω ω (λa ha=>by have:=Kb ha;have:=Jx t;omega);rw[p1];exact⟨p,rfl,p2⟩
    .simp only[C7 h0,Aq,Ar h0];exact⟨_,rfl,.inl ⟨rfl,c⟩⟩
   .simp only[C7 X,Aq,Ar X];by_cases V:t.G=7
    .simp only[Ew V,Am,Au V];by_cases a1:0<=i.U
     .by_cases a2:i.U<=6
      .by_cases a3:i.K.length=0
       .rw[As (show i.U>=0 from a1),As a2,Au ⟨a1,a2,a3⟩,Ew ω];exact⟨_,rfl,.inr ⟨i.U.toNat,rfl,ω⟩⟩
       .rw[As (show i.U>=0 from a1),As a2,Ar (λh=>a3 h.2.2),C7 ω];exact⟨_,rfl,.inl ⟨rfl,c⟩⟩
      .rw[As (show i.U>=0 from a1),Ay a2,Ar (λh=>a2 h.2.1)];exact⟨_,rfl,.inl ⟨rfl,c⟩⟩
     .rw[Ay (show ¬i.U>=0 from a1),Ar (λh=>a1 h.1)];exact⟨_,rfl,.inl ⟨rfl,c⟩⟩
    .simp only[C7 V,Aq,Ar V];by_cases Y:t.G=5
     .simp only[Ew Y,Am,Au Y];by_cases h0:i.U=0
      .simp only[H9 h0,Aq,Au h0];have key:∀(m j acc:Nat),j+m=i.K.length->acc<=10000000->∃z,An (S:=(Int×Int)) (E:=(Int⊕Int)) (λ(D,v8)=>
         bif v8<(i.K.length:Int) then ((Ag i.K v8).bind λv9=> (U4 k t v9 b1 b2 data vars L J I).bind λv11=> bif v11<(0:Int) then some (.inr (.inl (-1))) else (bif D>(6:Int) then some (.inr (.inl (-1))) else some (.inl ((Ac (D+v11)),(Ac (v8+1)))))) else some (.inr (.inr D))) ((acc:Int),(j:Int))=some z/\Dg (match z with|.inl v=>v | .inr v=>v) ((Fv data (i.K.drop j) t).map (acc + ·)):=by
        intro m;induction m with
        | zero=>intro j acc hj s;have:j=i.K.length:=ω;subst this;exact⟨.inr (acc:Int),Gn ψ,.inr ⟨acc,by simp[Fv],rfl⟩⟩
        | succ m q=>
         intro j acc hj s;have f:i.K[j]? = some i.K[j]:=Bt ω;generalize i.K[j]=e at f;have ab:=Kc (Bv f);rw[N2 f,A49];obtain⟨v,A,v2⟩:=a6 e t ω ω ht;rcases v2 with⟨rfl,v2⟩|⟨a,a1,rfl⟩
         .refine⟨.inl (-1),Gn ?_,.inl ⟨rfl,λd h=>?_⟩⟩
          .simp only[As (ω:(j:Int)<(i.K.length:Int)),Am,Bu rfl f,Ad,A];rfl
          .obtain⟨a,b,ha,hb,rfl⟩:=Af7 h;have:=v2 a ha;omega
         .have R:=A5a data e t a a1;by_cases hb:acc>6
          .refine⟨.inl (-1),Gn ?_,.inl ⟨rfl,λd h=>?_⟩⟩
           .simp only[As (ω:(j:Int)<(i.K.length:Int)),Am,Bu rfl f,Ad,A,Ay (ω:¬(a:Int)<0),As (ω:(acc:Int)>6),Aq]
           .obtain⟨a,b,ha,hb,rfl⟩:=Af7 h;omega
          .have ew:Ac ((acc:Int)+(a:Int))=((acc+a:Nat):Int):=ξ;obtain⟨z,g,z2⟩:=q (j+1) (acc+a) ω ω;refine⟨z,?_,?_⟩
           .rw[Lz (s':=(((acc+a:Nat):Int),((j+1:Nat):Int)))]
            .exact g
            .simp only[As (ω:(j:Int)<(i.K.length:Int)),Am,Bu rfl f,Ad,A,Ay (ω:¬(a:Int)<0),Ay (ω:¬(acc:Int)>6),Aq,ew,C9 (show j<i.K.length by omega) ω]
           .have B:∀o:Option Nat,(((some a:Option Nat).bind λa=>o.map (a + ·)).map (acc + ·))=o.map (acc+a + ·):=(by intro o;cases o <;> simp[Nat.add_assoc]);rw[a1,B];exact z2
       obtain⟨z,g,z2⟩:=key i.K.length 0 0 ω ω;have g:An _ ((0:Int),(0:Int))=some z:=g;rw[g,Ad];rw[drop_zero,B]at z2;cases z with| inl v=>exact⟨v,rfl,z2⟩| inr v=>exact⟨v,rfl,z2⟩
      .simp only[Gx h0,Am,Ar h0];exact⟨_,rfl,.inl ⟨rfl,c⟩⟩
     .simp only[C7 Y,Aq,Ar Y];by_cases h0:i.U=0
      .simp only[Ew h0,Am];by_cases a3:i.K.length=0
       .rw[Au ⟨h0,a3⟩,Ew ω];exact⟨_,rfl,.inr ⟨0,rfl,rfl⟩⟩
       .rw[Ar (λh=>a3 h.2),C7 ω];exact⟨_,rfl,.inl ⟨rfl,c⟩⟩
      .simp only[C7 h0,Aq];rw[Ar (λh=>h0 h.1)];exact⟨_,rfl,.inl ⟨rfl,c⟩⟩
  .intro is ts hk hi ht;have N:=P1 is;rw[U3];by_cases hl:ts.length=is.length
   .rw[H9 ω];simp only[Aq];have key:∀(m j acc:Nat),j+m=is.length->acc<=10000000->∃z,An (S:=(Int×Int)) (E:=(Int⊕Int)) (λ(v5,U)=>
      bif U<(ts.length:Int) then ((Ag ts U).bind λD=> (Ag is U).bind λv9=> (Sn k D v9 b1 b2 data vars L J I).bind λG=> bif G<(0:Int) then some (.inr (.inl (-1))) else (bif v5>(6:Int) then some (.inr (.inl (-1))) else some (.inl ((Ac (v5+G)),(Ac (U+1)))))) else some (.inr (.inr v5))) ((acc:Int),(j:Int))=some z/\Dg (match z with|.inl v=>v | .inr v=>v) ((Cy data (is.drop j) (ts.drop j)).map (acc + ·)):=by
     intro m;induction m with
     | zero=>intro j acc hj s;have:j=ts.length:=ω;subst this;refine⟨.inr (acc:Int),Gn ψ,.inr ⟨acc,?_,rfl⟩⟩;rw[drop_of_length_le ω,drop_of_length_le ω];simp[Cy]
     | succ m q=>
      intro j acc hj s;have f:is[j]? = some is[j]:=Bt ω;generalize is[j]=e at f;have hu:ts[j]? = some ts[j]:=Bt ω;generalize ts[j]=u at hu;have ab:=Kc (Bv f);rw[N2 f,N2 hu,N1];obtain⟨v,A,v2⟩:=Z e u ω ω (ht u (Bv hu));rcases v2 with⟨rfl,v2⟩|⟨a,a1,rfl⟩
      .refine⟨.inl (-1),Gn ?_,.inl ⟨rfl,λd h=>?_⟩⟩
       .simp only[As (ω:(j:Int)<(ts.length:Int)),Am,Bu rfl f,Bu rfl hu,Ad,A];rfl
       .obtain⟨a,b,ha,hb,rfl⟩:=Af7 h;have:=v2 a ha;omega
      .have R:=As5 data e u a a1;by_cases hb:acc>6
       .refine⟨.inl (-1),Gn ?_,.inl ⟨rfl,λd h=>?_⟩⟩
        .simp only[As (ω:(j:Int)<(ts.length:Int)),Am,Bu rfl f,Bu rfl hu,Ad,A,Ay (ω:¬(a:Int)<0),As (ω:(acc:Int)>6),Aq]
        .obtain⟨a,b,ha,hb,rfl⟩:=Af7 h;omega
       .have ew:Ac ((acc:Int)+(a:Int))=((acc+a:Nat):Int):=ξ;obtain⟨z,g,z2⟩:=q (j+1) (acc+a) ω ω;refine⟨z,?_,?_⟩
        .rw[Lz (s':=(((acc+a:Nat):Int),((j+1:Nat):Int)))]
         .exact g
         .simp only[As (ω:(j:Int)<(ts.length:Int)),Am,Bu rfl f,Bu rfl hu,Ad,A,Ay (ω:¬(a:Int)<0),Ay (ω:¬(acc:Int)>6),Aq,ew,C9 (show j<is.length by omega) ω]
        .have B:∀o:Option Nat,(((some a:Option Nat).bind λa=>o.map (a + ·)).map (acc + ·))=o.map (acc+a + ·):=(by intro o;cases o <;> simp[Nat.add_assoc]);rw[a1,B];exact z2
    obtain⟨z,g,z2⟩:=key is.length 0 0 ω ω;have g:An _ ((0:Int),(0:Int))=some z:=g;rw[g,Ad];rw[drop_zero,drop_zero,B]at z2;cases z with| inl v=>exact⟨v,rfl,z2⟩| inr v=>exact⟨v,rfl,z2⟩
   .rw[Gx ω,Ak4 data is ts hl];exact⟨_,rfl,.inl ⟨rfl,c⟩⟩
  .intro e t hk f ht;have af:=Ep e;rw[U4];unfold Xz Gy;rw[Abh hz t ht e.U,Ad];cases hf:Jh data t e.U with
   | none=>exact⟨-1,rfl,.inl ⟨rfl,c⟩⟩
   | some l=>
    have ac:=Xw hf;obtain⟨x,y,_,hx,_,hy,hl,aa⟩:=Pz hf;obtain⟨y6,_⟩:=hz x (Hf hx).2.2.2 y (Hf hy).2.2.2;have ad:l.length<=6:=(by rw[hl];simpa using y6);have a8:∀a∈F7 l (D3 data t.U e.U),Bz a<=200:=(Afx (show Gy data t e.U=some _ by unfold Gy;rw[hf];rfl)).1;obtain⟨v,A,v2⟩:=M e.K (F7 l (D3 data t.U e.U)) ω ω a8;have hd:Dg (if v<0 then -1 else 1+v) (((some l).map λl=>F7 l (D3 data t.U e.U)).bind λts=>(Cy data e.K ts).map (1 + ·)):=by
     rw[Option.map_some,Ad];rcases v2 with⟨rfl,v2⟩|⟨a,a1,rfl⟩
     .refine .inl ⟨rfl,λd h=>?_⟩;cases ha:Cy data e.K (F7 l (D3 data t.U e.U)) with| none=>rw[ha]at h;cases h| some a=>rw[ha]at h;have:=v2 a ha;simp at h;omega
     .rw[a1,Ar ω];exact .inr ⟨1+a,rfl,ω⟩
    have a7:v = -1\/(0<=v/\v<=10000000):=by
     rcases v2 with⟨rfl,v2⟩|⟨a,a1,rfl⟩
     .exact .inl rfl
     .have:=Abi data _ _ a a1;right;omega
    refine⟨_,?_,hd⟩;simp only[okL,bnt,Aq,Xv data t.U e.U hs,Ad];refine F3 (D3 data t.U e.U) (λj=>((j:Int),F7 (l.take j) ((D3 data t.U e.U).take j))) (by simp[F7]) ω ?_ ?_
    .intro j b hj hb h1 h2 h3;have ha:l[j]? = some l[j]:=Bt ω;generalize l[j]=a at ha;have N:=Xx (l.take j) ((D3 data t.U e.U).take j);have:(l.take j).length<=6:=ζ;simp only[h1,h2,h3,Am,Ad,Bu rfl ha,Afv ha hb];rw[Ds ζ];cases b <;> simp
    .intro h1;refine⟨F7 l (D3 data t.U e.U),?_,?_⟩
     .simp only[h1];rw[Ih ω,Ih (Nat.le_refl _)];rfl
     .rw[A,Ad];rcases a7 with h|h
      .subst h;rfl
      .rw[Ay ω,Ar ω];simp only[Aq];rw[Ac,Cj] <;> omega
def D4 (vars:List Af) (res:Af) (v:Int):Option Af:=if v = -1 then some res else Ag vars v
def Dv (data:List Ak) (vars:List Af) (res:Af) (o:List (ByteArray×Int)):Prop:=∀p∈o,∀v i t,p.1=P4 v i->D4 vars res v=some t->p.2=Jo (Dj data i t)
theorem Ald {α:Type}:∀(o:List (ByteArray×α)) (s:ByteArray) (v:α),∀p∈Gv o s v,p∈o\/p=(s,v)
 | [],s,v,p,h=>by simp only[Gv,Et]at h;exact .inr h
 | q::o,s,v,p,h=>by
  unfold Gv at h;cases hq:(s==q.1) with
  | true=>
   rw[hq]at h;simp only[Am,F1]at h;rcases h with h|h
   .exact .inr h
   .exact .inl (by simp[h])
  | false=>
   rw[hq]at h;simp only[Aq,F1]at h;rcases h with h|h
   .exact .inl (by simp[h])
   .rcases Ald o s v p h with h|h
    .exact .inl (by simp[h])
    .exact .inr h
theorem A5c (A:Szv data) (B:Mv data) (b1:List (ByteArray×Int)) (b2:List (ByteArray×List Av)) (vars:List Af) (res:Af) (f:Dv data vars res b1) (v:Int) (i:Ai) (t:Af) (ht:D4 vars res v=some t) (b:Bz t<=200) (hv:Ff v) (D:iR i) (hi:Ca i<=1048576) : ∃l,Ns v i b1 b2 data vars res.G res.U res.R=some (Jo (Dj data i t),l)/\Dv data vars res l:=by
 unfold Ns;rw[Af6 v i hv D hi,Ad];cases hh:E3 b1 (P4 v i) with
 | true=>refine⟨b1,?_,f⟩;have:Ir b1 (P4 v i) 0=Jo (Dj data i t):=(by unfold Ir;unfold E3 at hh;rw[any_eq_true]at hh;obtain⟨p,z,y⟩:=hh;cases hf:b1.find? (λp=>P4 v i==p.1) with| none=>exact absurd y (by have:=find?_eq_none.1 hf p z;simpa using this)| some q=>have hq:=find?_some hf;exact f q (mem_of_find?_eq_some hf) v i t ((N0 _ _).1 hq).symm ht);simp only[Am,Ad,bnt,Aq,this]
 | false=>
  obtain⟨w,u,s⟩:=(A5b A B b1 b2 vars res.G res.U res.R 4000000).1 i t ω hi b;have c:L2 v b1 b2 data vars res.G res.U res.R=some t:=by
   unfold L2;unfold D4 at ht;by_cases h:v = -1
   .rw[Au h]at ht;cases ht;have E:(Af.mk res.G res.U res.R)=res:=(by cases res;rfl);rw[Ew h,E];rfl
   .rw[Ar h]at ht;rw[C7 h,ht];rfl
  have g:(bif decide (w>6) then some (-1) else some w:Option Int)=some (Jo (Dj data i t)):=by
   rw[<-s.clip];by_cases h:w>6
   .rw[As h,Au h];rfl
   .rw[Ay h,Ar h];rfl
  refine⟨Gv b1 (P4 v i) (Jo (Dj data i t)),?_,?_⟩
  .simp only[Aq,Ad,Bool.not_false,Am,c,u,g]
  .intro p hp x i' t' k j;rcases Ald _ _ _ p hp with h|h
   .exact f p h x i' t' k j
   .subst h;obtain⟨rfl,rfl⟩:=A47 k;rw[ht]at j;cases j;rfl
def Gz (a b:Int):Int:=if a<b then -1 else if a>b then 1 else 0
def orI (a b:Int):Int:=if a=0 then b else a
theorem Ks {a b:Int}:Gz a b=0↔a=b:=by unfold Gz;split <;> (try split) <;> omega
theorem Q9 (a b:Int):Nr a b=some (Gz a b):=by
 unfold Nr Uu Gz;simp only[Ad,bne_self_eq_false,Aq];by_cases h:a<b
 .rw[As h,Au h];rfl
 .rw[Ay h,Ar h];by_cases h':a>b
  .rw[As h',Au h'];rfl
  .rw[Ay h',Ar h'];rfl
theorem As7 (a b:Int):Z3 a b=some (Gz a b):=Q9 a b
theorem X0 (a b:Int):Pm [a,b]=some (orI a b):=by
 unfold Pm orI;by_cases ha:a=0
 .rw[Au ha];by_cases hb:b=0
  .refine K4 2 (λj=>(j:Int)) rfl ?_ ⟨.inr (),rfl,by rw[hb]⟩;intro j hj
   match j,hj with| 0,_=>subst ha;rfl| 1,_=>subst hb;rfl
  .refine K4 1 (λj=>(j:Int)) rfl ?_ ⟨.inl b,?_,rfl⟩
   .intro j hj
    match j,hj with| 0,_=>subst ha;rfl
   .show (bif (b != 0) then _ else _)=_;rw[Gx hb];rfl
 .rw[Ar ha];refine K4 0 (λj=>(j:Int)) rfl (λj hj=>ω) ⟨.inl a,?_,rfl⟩;show (bif (a != 0) then _ else _)=_;rw[Gx ha];rfl
def G0 {α:Type} (g:α->α->Int):List α->List α->Int
 | x::xs,y::ys=>orI (g x y) (G0 g xs ys)
 | _,_=>0
theorem A5d (g:α->α->Int) (l m:List α) {step:Int->Option (Int⊕(Int⊕Unit))} (i:l.length=m.length) (hb:l.length<4611686018427387904) (c:∀(j:Nat) (x y:α),l[j]? = some x->m[j]? = some y->decide ((j:Int)<(l.length:Int))=true->Ag l (j:Int)=some x->Ag m (j:Int)=some y->decide ((j:Int)>=(m.length:Int))=false->Ac ((j:Int)+1)=((j+1:Nat):Int) -> step (j:Int)=if g x y=0 then some (.inl ((j+1:Nat):Int)) else some (.inr (.inl (g x y)))) (f:decide ((l.length:Int)<(l.length:Int))=false->step (l.length:Int)=some (.inr (.inr ()))) : ∃z,An step 0=some z/\(match z with|.inl r=>r=G0 g l m/\r≠0 | .inr _=>G0 g l m=0):=by
 have key:∀(n j:Nat),j+n=l.length->∃z,An step (j:Int)=some z/\(match z with|.inl r=>r=G0 g (l.drop j) (m.drop j)/\r≠0 | .inr _=>G0 g (l.drop j) (m.drop j)=0):=by
  intro n;induction n with
  | zero=>intro j hj;have:j=l.length:=ω;subst this;refine⟨.inr (),Gn (f ψ),?_⟩;rw[drop_of_length_le ω];simp[G0]
  | succ n ih=>
   intro j hj;have hx:l[j]? = some l[j]:=Bt ω;have hy:m[j]? = some m[j]:=Bt ω;generalize l[j]=x at hx;generalize m[j]=y at hy;have h:=c j x y hx hy (As ω) (Bu rfl hx) (Bu rfl hy) (Ay ω) (C9 (show j<l.length by omega) hb);rw[N2 hx,N2 hy];by_cases hg:g x y=0
   .rw[Au hg]at h;obtain⟨z,b,z2⟩:=ih (j+1) ω;refine⟨z,by rw[Lz h];exact b,?_⟩;have e:G0 g (x::l.drop (j+1)) (y::m.drop (j+1))=G0 g (l.drop (j+1)) (m.drop (j+1)):=(by simp only[G0,orI,hg,if_true]);cases z with| inl r=>simp only[e];exact z2| inr u=>simp only[e];exact z2
   .rw[Ar hg]at h;refine⟨.inl (g x y),Gn h,?_,hg⟩;simp only[G0,orI,hg,if_false]
 exact key l.length 0 ω
theorem Af8 (f:α->α->Option Int) (g:α->α->Int) (l m:List α) (q:l.length=m.length) (hb:l.length<4611686018427387904) (hf:∀(j:Nat) (x y:α),l[j]? = some x->m[j]? = some y->f x y=some (g x y)) : ((An (S:=Int) (E:=(Int⊕Unit)) (λb=> bif b<(l.length:Int) then ((Ag l b).bind λk=> bif b>=(m.length:Int) then some (.inr (.inl 1)) else ((Ag m b).bind λv9=> (f k v9).bind λv11=> bif (v11 != (0:Int)) then some (.inr (.inl v11)) else some (.inl (Ac (b+1))))) else some (.inr (.inr ()))) 0).bind λz=> match z with
   | .inl c=>some c
   | .inr _=>bif (l.length:Int)<(m.length:Int) then some (-1) else some 0)=some (G0 g l m):=by
 refine Ar9 (A5d g l m q hb ?_ (λh=>by simp only[h];rfl)) ?_
 .intro j x y hx hy h1 h2 h3 A s;simp only[h1,h2,h3,A,s,Am,Aq,Ad,hf j x y hx hy];by_cases hg:g x y=0
  .rw[H9 hg,Au hg];rfl
  .rw[Gx hg,Ar hg];rfl
 .rintro (r|u) i
  .rw[i.1]
  .simp only;rw[Ay ω,show G0 g l m=0 from i];rfl
def Abj (x y:En):Int:=orI (Gz x.v y.v) (Gz x.C y.C)
def Im (a b:Co):Int:=if a.T.length=b.T.length then orI (G0 Abj a.T b.T) (Gz a.Q b.Q) else Gz a.T.length b.T.length
theorem Af9 (a b:Co) (ha:a.T.length<1099511627776):Nq a b=some (Im a b):=by
 unfold Nq Im;rw[Q9,Ad];by_cases h:a.T.length=b.T.length
 .rw[H9 (Ks.2 ω),Au h];simp only[Aq];have:=Af8 Z2 Abj a.T b.T h ω (λj x y _ _=>by unfold Z2 Abj;rw[Q9,As7];simp only[Ad,X0]);rw[show Aeo a.T b.T=_ from this,Ad,As7];simp only[Ad,X0]
 .rw[Gx (λe=>h (by have:=Ks.1 e;omega)),Ar h];rfl
mutual
def G9:Ai->Ai->Int
 | ⟨n,k⟩,j=>if n=j.U then (if k.length=j.K.length then Vi k j.K else Gz k.length j.K.length) else Gz n j.U
def Vi:List Ai->List Ai->Int
 | x::xs,y::ys=>orI (G9 x y) (Vi xs ys)
 | [],_=>0
 | _::_,[]=>0
end
theorem As8 (i j:Ai):G9 i j=if i.U=j.U then (if i.K.length=j.K.length then Vi i.K j.K else Gz i.K.length j.K.length) else Gz i.U j.U:=by cases i;simp only[G9]
theorem Ale:∀l m:List Ai,Vi l m=G0 G9 l m
 | x::xs,y::ys=>by simp only[Vi,G0,Ale xs ys]
 | [],_=>by simp[Vi,G0]
 | _::_,[]=>by simp[Vi,G0]
theorem As9:∀(n k:Nat) (i j:Ai),Ca i<=n->2*n<=k->n<1099511627776->Qx k i j=some (G9 i j):=by
 intro n;induction n with
 | zero=>intro k i j h;have:=Ep i;omega
 | succ n ih=>
  intro k i j h hk c;obtain⟨k,rfl⟩:∃b,k=b+2:=⟨k-2,ω⟩;have hi:=Ep i;have f:=P1 i.K;rw[Qx,As8,Q9,Q9];simp only[Ad,X0];by_cases h1:i.U=j.U
  .rw[Au h1];by_cases h2:i.K.length=j.K.length
   .rw[Au h2,H9 (by unfold orI;rw[Ks.2 h1,Ks.2 ω];rfl),Ale];simp only[Aq];have:=Af8 (Qx k) G9 i.K j.K h2 ω (λq x y hx hy=>ih k x y (by have:=Kc (Bv hx);omega) ω ω);rw[Aaf];refine Eq.trans (congrArg (λq=>Option.bind q _) this) rfl
   .have e:orI (Gz i.U j.U) (Gz (i.K.length:Int) (j.K.length:Int))=Gz i.K.length j.K.length:=(by unfold orI;rw[Ks.2 h1];rfl);rw[Ar h2,e,Gx (λe=>h2 (by have:=Ks.1 e;omega))];rfl
  .have e:orI (Gz i.U j.U) (Gz (i.K.length:Int) (j.K.length:Int))=Gz i.U j.U:=(by unfold orI;rw[Ar (λe=>h1 (Ks.1 e))]);rw[Ar h1,e,Gx (λe=>h1 (Ks.1 e))];rfl
def X1 (x y:Bh):Int:=orI (Gz x.v y.v) (G9 x.I y.I)
def Abk (x y:Bi):Int:=orI (Im x.L y.L) (Gz x.P y.P)
def Ey (a b:Bj):Int := if a.F.length=b.F.length then orI (G0 X1 a.F b.F) (if a.A.length=b.A.length then G0 Abk a.A b.A else Gz a.A.length b.A.length) else Gz a.F.length b.F.length
structure MSz (m:Bj):Prop where
 nf:m.F.length<=1048576
 na:m.A.length<=1048576
 fi:∀f∈m.F,Ca f.I<=1048576
 fr:∀f∈m.F,iR f.I/\Ff f.v
 al:∀a∈m.A,a.L.T.length<=1048576
theorem Ata (a b:Bj) (ha:MSz a):Se a b=some (Ey a b):=by
 have h1:=ha.nf;have h2:=ha.na;unfold Se Ey;rw[Q9,Ad];by_cases h:a.F.length=b.F.length
 .rw[H9 (Ks.2 ω),Au h];simp only[Aq];have:=Af8 Zz X1 a.F b.F h ω (λj x y hx hy=>by unfold Zz X1;rw[Q9,As9 1048576 4000000 x.I y.I (ha.fi x (Bv hx)) ω ω];simp only[Ad,X0]);rw[show Aek a.F b.F=_ from this,Ad,Q9];simp only[Ad,X0];by_cases h0:G0 X1 a.F b.F=0
  .simp only[h0,orI,if_true];by_cases h':a.A.length=b.A.length
   .rw[H9 (Ks.2 ω),Au h'];simp only[Aq];have:=Af8 Z0 Abk a.A b.A h' ω (λj x y hx hy=>by unfold Z0 Abk;rw[Q9,Af9 x.L y.L (by have:=ha.al x (Bv hx);omega)];simp only[Ad,X0]);rw[show Ael a.A b.A=_ from this];rfl
   .rw[Gx (λe=>h' (by have:=Ks.1 e;omega)),Ar h'];rfl
  .simp only[orI,Ar h0];rw[Gx h0];rfl
 .rw[Gx (λe=>h (by have:=Ks.1 e;omega)),Ar h];rfl
def N3 {α:Type} (f:α->Int) (l:List α) (x:α) (j:Nat):Bool:=j==0||(match l[j-1]? with|some y=>decide (f y<f x) | none=>false)
def Abl (l:List En) (x:En) (j:Nat):Bool:=decide (-1<=x.v/\x.v<3000/\x.C≠0/\-1048576<=x.C/\x.C<=1048576)&&N3 (·.v) l x j
def Ip (a:Co):Bool:=decide (-1048576<=a.Q/\a.Q<=1048576/\a.T.length<=16)&&a.T.zipIdx.all (λq=>Abl a.T q.1 q.2)
theorem Atb (n:Int):W8 n=some (decide (-1048576<=n/\n<=1048576)):=by unfold W8;by_cases h:(-1048576:Int)<=n <;> simp[h]
theorem A5e (n:Int):Z5 n=some (decide (-1<=n/\n<3000)):=by unfold Z5;by_cases h:(-1:Int)<=n <;> simp[h]
theorem Atc {α S E:Type} (f:α->Int) (l:List α) {x:α} {j:Nat} (hx:l[j]? = some x) (i:l.length<4611686018427387904) (c b:Option (S⊕E)) : (bif decide ((j:Int)>0) then ((Ag l (Ac ((j:Int)-1))).bind λg=>bif decide (f g>=f x) then c else b) else b)=bif N3 f l x j then b else c:=by
 have hj:=Eg hx;unfold N3;by_cases h:j=0
 .subst h;rfl
 .rw[As ω];have e:Ac ((j:Int)-1)=((j-1:Nat):Int):=ξ;have hy:l[j-1]? = some l[j-1]:=Bt ω;rw[e,Bu rfl hy,hy];have h0:(j==0)=false:=(by simpa using h);simp only[Am,Ad,h0,Bool.false_or];by_cases hc:f l[j-1]<f x
  .rw[Ay ω,As hc];rfl
  .rw[As ω,Ay hc];rfl
theorem Atd (a:Co):Qt a=some (Ip a):=by
 unfold Qt Ip;rw[Atb];simp only[Ad];by_cases h1 : -1048576<=a.Q/\a.Q<=1048576
 .rw[As h1];by_cases h2:a.T.length<=16
  .rw[Ay (ω:¬(a.T.length:Int)>16),As ⟨h1.1,h1.2,h2⟩];simp only[bnt,Aq,Ad,Bool.true_and];refine (Aa8 a.T (λq=>Abl a.T q.1 q.2) (λj=>(j:Int)) rfl ω (rt:=true) (rf:=false) ?_ ?_).trans (by rw[Afo])
   .intro j x hx _ h1 h2 h3;simp only[h1,h2,h3,Am,Ad,A5e,Atb,Atc (·.v) a.T hx ω,Abl];by_cases g1 : -1<=x.v/\x.v<3000
    .by_cases g2:x.C=0
     .rw[As g1,Ew g2,Ay (λh=>h.2.2.1 g2)];exact⟨nofun,λ_=>⟨.inl false,rfl,rfl⟩⟩
     .by_cases g3 : -1048576<=x.C/\x.C<=1048576
      .rw[As g1,C7 g2,As g3,As ⟨g1.1,g1.2,g2,g3.1,g3.2⟩];cases N3 (·.v) a.T x j with| true=>exact⟨λ_=>rfl,λh=>by cases h⟩| false=>exact⟨nofun,λ_=>⟨.inl false,rfl,rfl⟩⟩
      .rw[As g1,C7 g2,Ay g3,Ay (λh=>g3 h.2.2.2)];exact⟨nofun,λ_=>⟨.inl false,rfl,rfl⟩⟩
    .rw[Ay g1,Ay (λh=>g1 ⟨h.1,h.2.1⟩)];exact⟨nofun,λ_=>⟨.inl false,rfl,rfl⟩⟩
   .intro h _;exact⟨.inr (),by simp only[h];rfl,rfl⟩
  .rw[As (ω:(a.T.length:Int)>16),Ay (λh=>h2 h.2.2)];rfl
 .rw[Ay h1,Ay (λh : -1048576<=a.Q/\a.Q<=1048576/\a.T.length<=16=>h1 ⟨h.1,h.2.1⟩)];rfl
structure Md (data:List Ak) (vars:List Af) (res:Af):Prop where
 vd:Ia data
 sh:Mv data
 sz:∀v t,D4 vars res v=some t->Bz t<=200
 nv:vars.length<=3000
theorem Ate (vars:List Af) (res:Af) (v:Int):(D4 vars res v).isSome=decide (-1<=v/\v<vars.length):=by
 unfold D4;by_cases h:v = -1
 .rw[Au h];subst h;rw[As ω];rfl
 .rw[Ar h];cases hx:Ag vars v with
  | none=>rcases Abb hx with h'|h' <;> rw[Ay ω] <;> rfl
  | some t=>have:=Hf hx;rw[As ω];rfl
section
variable (b1:List (ByteArray×Int)) (b2:List (ByteArray×List Av)) (data:List Ak) (vars:List Af) (res:Af)
theorem Atf (v:Int) (f c:Int) (b:List Af):Um v b1 b2 data vars f c b=some (D4 vars res v).isSome:=by
 rw[Ate];unfold Um;by_cases h:v>=-1
 .rw[As h];by_cases h':v<(vars.length:Int)
  .rw[As h',As ⟨h,h'⟩];rfl
  .rw[Ay h',Ay (λg=>h' g.2)];rfl
 .rw[Ay h,Ay (λg : -1<=v/\v<(vars.length:Int)=>h g.1)];rfl
theorem Aga {v:Int} {t:Af} (ht:D4 vars res v=some t):L2 v b1 b2 data vars res.G res.U res.R=some t:=by
 unfold L2;unfold D4 at ht;by_cases h:v = -1
 .rw[Au h]at ht;cases ht;have b:(Af.mk res.G res.U res.R)=res:=(by cases res;rfl);rw[Ew h,b];rfl
 .rw[Ar h]at ht;rw[C7 h,ht];rfl
def X2 (t:En):Bool:=match D4 vars res t.v with|some u=>u.G==1|none=>false
def Kt (l:Co):Bool:=l.T.all (X2 vars res)
theorem A5f (l:Co) (c:l.T.length<=1048576):Ui l b1 b2 data vars res.G res.U res.R=some (Kt vars res l):=by
 unfold Ui Aer Aex;have key:=Akv l.T (λt=>!X2 vars res t) ω (J:=λz=>match z with|.inl b=>some b | .inr _=>some (-1)) (step:=λv3=>bif v3<(l.T.length:Int) then ((Ag l.T v3).bind λv4=>(W9 v4 b1 b2 data vars res.G res.U res.R).bind λv5=>bif v5 then some (.inr (.inl v3)) else some (.inl (Ac (v3+1)))) else some (.inr (.inr ()))) (by intro j x hx h1 h2 h3;have e:W9 x b1 b2 data vars res.G res.U res.R=some (!X2 vars res x):=(by unfold W9 X2;rw[Atf b1 b2 data vars res,Ad];cases ht:D4 vars res x.v with| none=>rfl| some t=>rw[Aga b1 b2 data vars res ht];rfl);simp only[h1,h2,h3,Am,Ad,e]) (λh=>by simp only[h];rfl) (λ_=>rfl) rfl
 obtain⟨i,i1,i2⟩:=key
 erw[i1];simp only[Ad,i2];congr 1;unfold Kt;rw[any_eq_not_all_not];simp
def Eh (f:Bh):Int:=match D4 vars res f.v with|some t=>Jo (Dj data f.I t) | none => -1
theorem Atg (f:Bh) : -1<=Eh data vars res f/\Eh data vars res f<=6:=by
 unfold Eh;cases D4 vars res f.v with
 | none=>simp
 | some t=>rcases Ak6 (Dj data f.I t) with⟨h,_⟩|⟨d,_,h2,h⟩ <;> simp only[h] <;> omega
def My (m:Bj):Bool:=m.F.all (λf=>decide (0<=Eh data vars res f))&&m.A.all (λa=>decide (0<=a.P)&&Kt vars res a.L)
def Cn (l:List Bh):Int:=(l.map (Eh data vars res)).sum
def Dy (l:List Bi):Int:=(l.map (·.P)).sum
def Ra (l:List Bi) (x:Bi) (j:Nat):Bool:=j==0||(match l[j-1]? with|some y=>decide (Im y.L x.L<0) | none=>false)
def P5 (l:List Bh) (f:Bh) (j:Nat):Bool:=decide (1<=Eh data vars res f)&&N3 (·.v) l f j
def N4 (l:List Bi) (a:Bi) (j:Nat):Bool:=decide (1<=a.P)&&Ip a.L && !(a.L.T.length==0)&&Kt vars res a.L&&Ra l a j
def Jp (m:Bj):Bool:=m.F.zipIdx.all (λq=>P5 data vars res m.F q.1 q.2)&&m.A.zipIdx.all (λq=>N4 vars res m.A q.1 q.2)&&decide (Cn data vars res m.F+Dy m.A<=6)
variable {b1 data vars res}
theorem Abm (hc:Md data vars res) (h:Dv data vars res b1) (f:Bh) (hv:Ff f.v) (g:iR f.I) (hi:Ca f.I<=1048576) (b:(D4 vars res f.v).isSome=true) : ∃c,Ns f.v f.I b1 b2 data vars res.G res.U res.R=some (Eh data vars res f,c)/\Dv data vars res c:=by cases ht:D4 vars res f.v with| none=>rw[ht]at b;cases b| some t=>obtain⟨c,h1,h2⟩:=A5c hc.vd.szv hc.sh b1 b2 vars res h f.v f.I t ht (hc.sz _ _ ht) hv g hi;refine⟨c,?_,h2⟩;rw[h1];unfold Eh;rw[ht]
theorem A5g (hc:Md data vars res) (U:Dv data vars res b1) (m:Bj) (k:MSz m) :
  ∃l,Z9 m b1 b2 data vars res.G res.U res.R=some (My data vars res m,l)/\Dv data vars res l:=by
 have hf:=k.nf
 have ha:=k.na
 unfold Z9
 refine Xs (λl=>(My data vars res m,l)) ?_
 obtain⟨r,N,L⟩:=Akw (M:=List (ByteArray×Int)) (R:=Bool×List (ByteArray×Int)) m.F (λq=>decide (0<=Eh data vars res q.1)) (λj o=>((j:Int),o)) (Dv data vars res)
  (λr=>Dv data vars res r.2/\r.1=m.A.all (λa=>decide (0<=a.P)&&Kt vars res a.L)) (λr=>Dv data vars res r.2/\r.1=false) b1
  (s0:=((0:Int),b1))
  (step:=(λ(y,u)=>
   bif y<(m.F.length:Int) then (
   (Ag m.F y).bind λv8=>
   (Um v8.v u b2 data vars res.G res.U res.R).bind λA=>
   bif (!A) then some (.inr (.inl (false,u)))
   else (
   (Ns v8.v v8.I u b2 data vars res.G res.U res.R).bind λv11=>
   bif v11.1<(0:Int) then some (.inr (.inl (false,v11.2)))
   else some (.inl ((Ac (y+1)),v11.2))))
   else some (.inr (.inr u)):Int×List (ByteArray×Int)->Option ((Int×List (ByteArray×Int))⊕((Bool×List (ByteArray×Int))⊕List (ByteArray×Int)))))
  (J:=(λz=>match z with
   | .inl (I,G)=>some (I,G)
   | .inr b=>(An (S:=Int) (E:=((Bool×List (ByteArray×Int))⊕Unit)) (λc=>
     bif c<(m.A.length:Int) then (
     (Ag m.A c).bind λs=>
     bif s.P<(0:Int) then some (.inr (.inl (false,b)))
     else (
     (Ui s.L b b2 data vars res.G res.U res.R).bind λv21=>
     bif (!v21) then some (.inr (.inl (false,b)))
     else some (.inl (Ac (c+1)))))
     else some (.inr (.inr ()))) 0).bind λz=>match z with
      | .inl (D,B)=>some (D,B)
      | .inr _=>some (true,b)))
  rfl U ω (by
   intro j f o x hx _ h1 h2 h3
   have i:=Bv hx
   simp only[h1,h2,h3,Am,Ad,Atf o b2 data vars res]
   cases g:(D4 vars res f.v).isSome with
   | false=>
    have e:Eh data vars res f = -1:=by
     unfold Eh
     cases ht:D4 vars res f.v with
     | none=>rfl
     | some t=>rw[ht]at g;cases g
    rw[e]
    exact⟨nofun,λ_=>⟨_,rfl,_,rfl,x,rfl⟩⟩
   | true=>
    obtain⟨l,d1,d2⟩:=Abm b2 hc x f (k.fr f i).2 (k.fr f i).1 (k.fi f i) g
    simp only[bnt,Aq,d1,Ad]
    by_cases h0:0<=Eh data vars res f
    .rw[As h0,Ay ω]
     exact⟨λ_=>⟨l,rfl,d2⟩,λh=>by cases h⟩
    .rw[Ay h0,As ω]
     exact⟨nofun,λ_=>⟨_,rfl,_,rfl,d2,rfl⟩⟩) (by
   intro o x h1 _
   refine⟨.inr o,by simp only[h1];rfl,?_⟩
   refine⟨(m.A.all (λa=>decide (0<=a.P)&&Kt vars res a.L),o),?_,x,rfl⟩
   refine (Aa9 m.A (λa=>decide (0<=a.P)&&Kt vars res a.L) (λj=>(j:Int)) rfl ω (rt:=(true,o)) (rf:=(false,o)) ?_ ?_).trans (by cases m.A.all (λa=>decide (0<=a.P)&&Kt vars res a.L) <;> rfl)
   .intro j a hx h1 h2 h3
    simp only[h1,h2,h3,Am,Ad,A5f o b2 data vars res a.L (k.al a (Bv hx))]
    by_cases h0:0<=a.P
    .rw[As h0,Ay ω]
     cases Kt vars res a.L with
     | true=>exact⟨λ_=>rfl,λh=>by cases h⟩
     | false=>exact⟨nofun,λ_=>⟨_,rfl,rfl⟩⟩
    .rw[Ay h0,As ω]
     exact⟨nofun,λ_=>⟨_,rfl,rfl⟩⟩
   .intro h;exact⟨.inr (),by simp only[h];rfl,rfl⟩)
 refine⟨r,N,r.2,?_,?_⟩
 .unfold My
  rw[<-Afn]
  rcases L with⟨h1,h2,h3⟩|⟨h1,h2,h3⟩
  .rw[h1,Bool.true_and,<-h3]
  .rw[h1,Bool.false_and,<-h3]
 .rcases L with⟨h1,h2,h3⟩|⟨h1,h2,h3⟩ <;> exact h2
theorem Ath (g:Bh->Int) {l:List Bh} {j:Nat} {x:Bh} (h:l[j]? = some x):((l.take (j+1)).map g).sum=((l.take j).map g).sum+g x:=by rw[Da h];simp
theorem Ati {l:List Bi} {j:Nat} {x:Bi} (h:l[j]? = some x):Dy (l.take (j+1))=Dy (l.take j)+x.P:=by unfold Dy;rw[Da h];simp
theorem A5h (hc:Md data vars res) (z:Dv data vars res b1) (m:Bj) (k:MSz m) (hp:My data vars res m=true) : ∃p:Int×List (ByteArray×Int),Pk m b1 b2 data vars res.G res.U res.R=some p/\(decide (p.1>6) = !decide (Cn data vars res m.F+Dy m.A<=6))/\Dv data vars res p.2:=by
 have hf:=k.nf;have ha:=k.na;unfold My at hp;rw[C3,G5,G5]at hp;unfold Pk;refine Ee (λ(v5,s,g)=>∃j:Nat,s=j/\j<=m.F.length/\Dv data vars res g/\0<=v5/\v5<=12/\(v5=Cn data vars res (m.F.take j)\/(6<v5/\6<Cn data vars res (m.F.take j)))) (λ(_,s,_)=>m.F.length-s.toNat) (λ(v5,g)=>Dv data vars res g/\0<=v5/\v5<=12/\(v5=Cn data vars res m.F\/(6<v5/\6<Cn data vars res m.F))) ⟨0,rfl,ω,z,ω,ω,.inl (by simp[Cn])⟩ ?_ ?_
 .rintro⟨v5,s,g⟩ ⟨j,rfl,hj,l,h0,h12,hv⟩;rcases Ch j m.F.length with h|h
  .have hx:m.F[j]? = some m.F[j]:=Bt h;generalize m.F[j]=f at hx;have c:=Bv hx;have hd:=hp.1 f c;rw[Dt]at hd;have A:=(Atg data vars res f).2;have es:Cn data vars res (m.F.take (j+1))=Cn data vars res (m.F.take j)+Eh data vars res f:=Ath _ hx;simp only[As (ω:(j:Int)<(m.F.length:Int)),Am,Bu rfl hx,Ad,C9 h ω];by_cases q:v5<=6
   .have u:(D4 vars res f.v).isSome=true:=by
     unfold Eh at hd;cases ht:D4 vars res f.v with
     | none=>rw[ht]at hd;have hd:(0:Int)<=-1:=hd;omega
     | some t=>rfl
    obtain⟨B,d1,d2⟩:=Abm b2 hc l f (k.fr f c).2 (k.fr f c).1 (k.fi f c) u;rw[As q];simp only[Am,d1,Ad];have b:Ac (v5+Eh data vars res f)=v5+Eh data vars res f:=ξ;exact .inl ⟨_,rfl,⟨j+1,rfl,ω,d2,by simp only[b];omega,by simp only[b];omega,by simp only[b,es];omega⟩,ζ⟩
   .rw[Ay q];exact .inl ⟨_,rfl,⟨j+1,rfl,ω,l,h0,h12,by simp only[es];omega⟩,ζ⟩
  .have:j=m.F.length:=ω;subst this;rw[Db]at hv;exact .inr ⟨(v5,g),ψ,l,h0,h12,hv⟩
 .rintro⟨v5,g⟩ ⟨l,h0,h12,hv⟩;simp only;refine Ee (λ(v,i)=>∃j:Nat,i=j/\j<=m.A.length/\0<=v/\v<=13/\(v=Cn data vars res m.F+Dy (m.A.take j)\/(6<v/\6<Cn data vars res m.F+Dy (m.A.take j)))) (λ(_,i)=>m.A.length-i.toNat) (λv=>(v=Cn data vars res m.F+Dy m.A\/(6<v/\6<Cn data vars res m.F+Dy m.A))) ⟨0,rfl,ω,h0,ω,by simpa[Dy] using hv⟩ ?_ ?_
  .rintro⟨v,i⟩ ⟨j,rfl,hj,g0,g13,y⟩;rcases Ch j m.A.length with h|h
   .have hx:m.A[j]? = some m.A[j]:=Bt h;generalize m.A[j]=a at hx;have hd:=hp.2 a (Bv hx);rw[C3,Dt]at hd;have es:=Ati hx;simp only[As (ω:(j:Int)<(m.A.length:Int)),Am,Bu rfl hx,Ad,C9 h ω];by_cases q:v<=6
    .rw[As q];simp only[Am];by_cases x:7<a.P
     .rw[Au x];have b:Ac (v+7)=v+7:=ξ;exact .inl ⟨_,rfl,⟨j+1,rfl,ω,by simp only[b];omega,by simp only[b];omega,by simp only[b,es];omega⟩,ζ⟩
     .rw[Ar x];have b:Ac (v+a.P)=v+a.P:=ξ;exact .inl ⟨_,rfl,⟨j+1,rfl,ω,by simp only[b];omega,by simp only[b];omega,by simp only[b,es];omega⟩,ζ⟩
    .rw[Ay q];exact .inl ⟨_,rfl,⟨j+1,rfl,ω,g0,g13,by simp only[es];omega⟩,ζ⟩
   .have:j=m.A.length:=ω;subst this;rw[Db]at y;exact .inr ⟨v,ψ,y⟩
  .intro v hv;refine⟨(v,g),rfl,?_,l⟩;by_cases h:Cn data vars res m.F+Dy m.A<=6
   .rw[As h,Ay (by simp only;omega)];rfl
   .rw[Ay h,As (by simp only;omega)];rfl
end
theorem A5i {S E:Type} (F:Co->Co->Option Int) (l:List Bi) (g:∀y∈l,∀x,F y.L x=some (Im y.L x)) {x:Bi} {j:Nat} (hx:l[j]? = some x) (i:l.length<4611686018427387904) (c b:Option (S⊕E)) : (bif decide ((j:Int)>0) then ((Ag l (Ac ((j:Int)-1))).bind λf=>(F f.L x.L).bind λv28=>bif decide (v28>=0) then c else b) else b)=bif Ra l x j then b else c:=by
 have hj:=Eg hx;unfold Ra;by_cases h:j=0
 .subst h;rfl
 .rw[As ω];have e:Ac ((j:Int)-1)=((j-1:Nat):Int):=ξ;have hy:l[j-1]? = some l[j-1]:=Bt ω;rw[e,Bu rfl hy,hy];have h0:(j==0)=false:=(by simpa using h);simp only[Am,Ad,h0,Bool.false_or,g _ (getElem_mem (ω:j-1<l.length))];by_cases hc:Im l[j-1].L x.L<0
  .rw[Ay ω,As hc];rfl
  .rw[As ω,Ay hc];rfl
section
variable {b1:List (ByteArray×Int)} (b2:List (ByteArray×List Av)) {data:List Ak} {vars:List Af} {res:Af}
def Abn (data:List Ak) (vars:List Af) (res:Af) (l:List Bh) (f:Bh) (j:Nat):Bool:=!(Eh data vars res f==0)&&N3 (·.v) l f j
def S5 (l:List Bi) (a:Bi) (j:Nat):Bool:=!(a.P==0)&&Ip a.L && !(a.L.T.length==0)&&Ra l a j
theorem A5j (m:Bj):Jp data vars res m=(My data vars res m&&decide (Cn data vars res m.F+Dy m.A<=6)&&m.F.zipIdx.all (λq=>Abn data vars res m.F q.1 q.2)&&m.A.zipIdx.all (λq=>S5 m.A q.1 q.2)):=by
 rw[Bool.eq_iff_iff];unfold Jp My;rw[<-Afn m.F (λf=>decide (0<=Eh data vars res f)),<-Afn m.A (λa=>decide (0<=a.P)&&Kt vars res a.L)];simp only[C3,G5,P5,N4,Abn,S5,Dt,Bool.not_eq_true',beq_eq_false_iff_ne,ne_eq];constructor
 .rintro⟨⟨h1,h2⟩,h3⟩;refine⟨⟨⟨⟨λq hq=>?_,λq hq=>?_⟩,h3⟩,λq hq=>?_⟩,λq hq=>?_⟩
  .have:=(h1 q hq).1;omega
  .have:=h2 q hq;exact⟨ω,this.1.2⟩
  .have:=h1 q hq;exact⟨ω,this.2⟩
  .have:=h2 q hq;exact⟨⟨⟨ω,this.1.1.1.2⟩,this.1.1.2⟩,this.2⟩
 .rintro⟨⟨⟨⟨h1,h2⟩,h3⟩,c⟩,b⟩;refine⟨⟨λq hq=>?_,λq hq=>?_⟩,h3⟩
  .have:=h1 q hq;have g:=c q hq;exact⟨ω,g.2⟩
  .have:=h2 q hq;have g:=b q hq;exact⟨⟨⟨⟨ω,g.1.1.2⟩,g.1.2⟩,this.2⟩,g.2⟩
theorem A5k (hc:Md data vars res) (hm:Dv data vars res b1) (m:Bj) (i:MSz m) :
  ∃u,W3 m b1 b2 data vars res.G res.U res.R=some (Jp data vars res m,u)/\Dv data vars res u:=by
 have hf:=i.nf
 have ha:=i.na
 rw[A5j]
 unfold W3
 obtain⟨b,p1,Y⟩:=A5g b2 hc hm m i
 rw[p1]
 cases hp:My data vars res m with
 | false=>exact⟨b,rfl,Y⟩
 | true=>
  obtain⟨q,q1,q2,X⟩:=A5h b2 hc Y m i hp
  simp only[Ad,bnt,Aq,q1,q2]
  cases hs:decide (Cn data vars res m.F+Dy m.A<=6) with
  | false=>exact⟨q.2,rfl,X⟩
  | true=>
   simp only[bnt,Aq,Bool.true_and]
   have N:∀f∈m.F,(D4 vars res f.v).isSome=true:=by
    intro f c
    unfold My at hp
    rw[C3,G5]at hp
    have hd:=hp.1 f c
    rw[Dt]at hd
    unfold Eh at hd
    cases ht:D4 vars res f.v with
    | none=>rw[ht]at hd;have hd:(0:Int)<=-1:=hd;omega
    | some t=>rfl
   obtain⟨r,Z,V⟩:=Akw (M:=List (ByteArray×Int)) (R:=Bool×List (ByteArray×Int)) m.F (λq=>Abn data vars res m.F q.1 q.2) (λj o=>((j:Int),o)) (Dv data vars res)
    (λr=>Dv data vars res r.2/\r.1=m.A.zipIdx.all (λq=>S5 m.A q.1 q.2)) (λr=>Dv data vars res r.2/\r.1=false) q.2
    (s0:=((0:Int),q.2))
    (step:=(λ(v9,l)=>
     bif v9<(m.F.length:Int) then (
     (Ag m.F v9).bind λv11=>
     (Ns v11.v v11.I l b2 data vars res.G res.U res.R).bind λg=>
     bif (g.1==(0:Int)) then some (.inr (.inl (false,g.2)))
     else (
     bif v9>(0:Int) then (
     (Ag m.F (Ac (v9-1))).bind λB=>
     bif B.v>=v11.v then some (.inr (.inl (false,g.2)))
     else some (.inl ((Ac (v9+1)),g.2)))
     else some (.inl ((Ac (v9+1)),g.2))))
     else some (.inr (.inr l)):Int×List (ByteArray×Int)->Option ((Int×List (ByteArray×Int))⊕((Bool×List (ByteArray×Int))⊕List (ByteArray×Int)))))
    (J:=(λz=>match z with
     | .inl (L,I)=>some (L,I)
     | .inr k=>(An (S:=Int) (E:=((Bool×List (ByteArray×Int))⊕Unit)) (λv22=>
       bif v22<(m.A.length:Int) then (
       (Ag m.A v22).bind λv23=>
       (show OB from
       bif (v23.P==(0:Int)) then some true
       else (
       (Qt v23.L).bind λv25=>
       bif (!v25) then some true
       else some ((v23.L.T.length:Int)==(0:Int)))).bind λv26=>
       bif v26 then some (.inr (.inl (false,k)))
       else (
       bif v22>(0:Int) then (
       (Ag m.A (Ac (v22-1))).bind λA=>
       (Nq A.L v23.L).bind λv28=>
       bif v28>=(0:Int) then some (.inr (.inl (false,k)))
       else some (.inl (Ac (v22+1))))
       else some (.inl (Ac (v22+1)))))
       else some (.inr (.inr ()))) 0).bind λz=>match z with
        | .inl (G,D)=>some (G,D)
        | .inr _=>some (true,k)))
    rfl X ω (by
     intro j f o U hx _ h1 h2 h3
     have c:=Bv hx
     obtain⟨u,d1,d2⟩:=Abm b2 hc U f (i.fr f c).2 (i.fr f c).1 (i.fi f c) (N f c)
     simp only[h1,h2,h3,Am,Ad,d1,Atc (·.v) m.F hx ω,Abn]
     cases (Eh data vars res f==0) with
     | true=>exact⟨nofun,λ_=>⟨_,rfl,_,rfl,d2,rfl⟩⟩
     | false=>
      cases N3 (·.v) m.F f j with
      | true=>exact⟨λ_=>⟨u,rfl,d2⟩,λh=>by cases h⟩
      | false=>exact⟨nofun,λ_=>⟨_,rfl,_,rfl,d2,rfl⟩⟩) (by
     intro o U h1 _
     refine⟨.inr o,by simp only[h1];rfl,?_⟩
     refine⟨(m.A.zipIdx.all (λq=>S5 m.A q.1 q.2),o),?_,U,rfl⟩
     refine (Aa8 m.A (λq=>S5 m.A q.1 q.2) (λj=>(j:Int)) rfl ω (rt:=(true,o)) (rf:=(false,o)) ?_ ?_).trans (by cases m.A.zipIdx.all (λq=>S5 m.A q.1 q.2) <;> rfl)
     .intro j a hx _ h1 h2 h3
      have s:((a.L.T.length:Int)==(0:Int))=(a.L.T.length==0):=Asa a.L.T 0
      simp only[h1,h2,h3,Am,Ad,Atd,A5i Nq m.A (λy hy x=>Af9 y.L x (by have:=i.al y hy;omega)) hx ω,S5,s]
      cases (a.P==0) with
      | true=>exact⟨nofun,λ_=>⟨_,rfl,rfl⟩⟩
      | false=>
       cases Ip a.L with
       | false=>exact⟨nofun,λ_=>⟨_,rfl,rfl⟩⟩
       | true=>
        cases (a.L.T.length==0) with
        | true=>exact⟨nofun,λ_=>⟨_,rfl,rfl⟩⟩
        | false=>
         cases Ra m.A a j with
         | true=>exact⟨λ_=>rfl,λh=>by cases h⟩
         | false=>exact⟨nofun,λ_=>⟨_,rfl,rfl⟩⟩
     .intro h _;exact⟨.inr (),by simp only[h];rfl,rfl⟩)
   refine⟨r.2,?_,?_⟩
   .have e:some r=some (m.F.zipIdx.all (λq=>Abn data vars res m.F q.1 q.2)&&m.A.zipIdx.all (λq=>S5 m.A q.1 q.2),r.2):=by
     rcases V with⟨h1,h2,h3⟩|⟨h1,h2,h3⟩
     .rw[h1,Bool.true_and,<-h3]
     .rw[h1,Bool.false_and,<-h3]
    rw[<-e]
    exact Z
   .rcases V with⟨h1,h2,h3⟩|⟨h1,h2,h3⟩ <;> exact h2
theorem A5l (l:List Bh) (h:∀f∈l,0<=Eh data vars res f):0<=Cn data vars res l:=by induction l with| nil=>simp[Cn]| cons x xs ih=>have h1:=h x ψ;have h2:=ih (λf hf=>h f (by simp[hf]));unfold Cn at *;simp only[map_cons,sum_cons];omega
theorem Atj (l:List Bi) (h:∀a∈l,0<=a.P):0<=Dy l/\((∀a∈l,a.P<=6)->Dy l<=6*l.length)/\∀a∈l,a.P<=Dy l:=by
 induction l with
 | nil=>simp[Dy]
 | cons x xs ih=>
  have h1:=h x ψ;obtain⟨i1,i2,i3⟩:=ih (λf hf=>h f (by simp[hf]));unfold Dy at *;simp only[map_cons,sum_cons,D8];refine⟨ω,λg=>?_,λa ha=>?_⟩
  .have:=g x ψ;have:=i2 (λa ha=>g a (by simp[ha]));omega
  .rcases F1.1 ha with rfl|ha
   .omega
   .have:=i3 a ha;omega
end
variable {a:Ao} {N P U V W X b d g h hb j o q r s t u x y:Int} {l:List Int} {k n off:Nat}
theorem S6 (l:List Int) (b:l.length<4611686018427387904):L6 l=some (Iz l):=by
 unfold L6;refine J9 (λv=>∃k:Nat,v=k/\k<=l.length/\Iz (l.take k)=Iz l) (λv=>v.toNat) (λv=>∃k:Nat,v=k/\k<=l.length/\l.take k=Iz l) ⟨l.length,rfl,Nat.le_refl _,ψ⟩ ?_ ?_
 .rintro v ⟨k,rfl,hk,ht⟩;cases k with
  | zero=>exact .inr ⟨0,rfl,0,rfl,ω,by simpa[Iz] using ht⟩
  | succ j=>
   have hw:Ac (((j+1:Nat):Int)-1)=(j:Int):=ξ;have hj:j<l.length:=ω;have hp:decide (((j+1:Nat):Int)>0)=true:=As ω;simp only[hp,Am,hw,Ek rfl hj,Ad];rw[take_succ_eq_append_getElem hj]at ht;by_cases h0:l[j]=0
   .rw[h0,A35]at ht;exact .inl ⟨j,by rw[Ew h0];rfl,⟨j,rfl,ω,ht⟩,ω⟩
   .rw[A36 h0]at ht;exact .inr ⟨((j+1:Nat):Int),by rw[C7 h0];rfl,j+1,rfl,ω,by rw[take_succ_eq_append_getElem hj];exact ht⟩
 .rintro v ⟨k,rfl,hk,ht⟩;rw[Xt rfl hk,ht];rfl
theorem Atl (l:List Int) (hd:Ny l) (B:l.length<1099511627776):W6 l=some (Ah (Al l).toNat):=by
 unfold W6;have f:Ac ((l.length:Int)+1)=((l.length+1:Nat):Int):=by rw[Ac,Cj] <;> omega
 rw[f,Akq rfl ω ω];simp only[Ad];refine J9 (λ(c,i,o)=>∃k:Nat,i=k/\k<=l.length/\o.length=k/\Ci o/\0<=c/\c<5/\Al o+1000000000 ^ k*c=Al (l.take k)) (λ(_,i,_)=>l.length-i.toNat) (λ(c,o)=>o.length=l.length/\Ci o/\0<=c/\c<5/\Al o+1000000000 ^ l.length*c=Al l) ⟨0,rfl,ω,rfl,Ci.nil,ω,ω,by simp[Al]⟩ ?_ ?_
 .rintro⟨c,i,o⟩ ⟨k,rfl,hk,g,b,q,hc,hv⟩;rcases Ch k l.length with h|h
  .have hx:=hd l[k] (getElem_mem h);refine .inl ⟨((l[k]+c) / 1000000000,((k+1:Nat):Int),o++[(l[k]+c) % 1000000000]),?_,⟨k+1,rfl,ω,by simp[g],b.snoc ω ω,ω,ω,?_⟩,ζ⟩
   .have z:Ba l[k]=l[k]:=Du ω ω;have y:Ba (l[k]+c)=l[k]+c:=Du ω ω;have s:Cx ((l[k]+c) % 1000000000)=(l[k]+c) % 1000000000:=G7 ω ω;have x:Ac ((k:Int)+1)=((k+1:Nat):Int):=ξ;have u:decide ((k:Int)<(l.length:Int))=true:=(by simpa using h);simp only[u,Am,Ek rfl h,Ad,z,y,L9 (show 0<=l[k]+c by omega) (show (0:Int)<1000000000 by decide),s,Ds (show (o.length+[(l[k]+c) % 1000000000].length)*4<=_ by simp;omega),Mt (show 0<=l[k]+c by omega) (show l[k]+c<=_ by omega) (show (0:Int)<1000000000 by decide),x]
   .rw[G8 l h,<-hv,Ma,g,Int.pow_succ];have:=Int.mul_ediv_add_emod (l[k]+c) 1000000000;grind
  .have j:k=l.length:=ω;subst j;refine .inr ⟨(c,o),ψ,g,b,q,hc,by simpa using hv⟩
 .rintro⟨c,o⟩ ⟨h2,h3,G,E,D⟩;have A:=Il hd;by_cases hc:c>0
  .have s:Cx c=c:=G7 ω ω;simp only[decide_eq_true hc,Am,s,Ds (show (o.length+[c].length)*4<=_ by simp;omega),Ad,S6 (o++[c]) ζ];rw[Mu (h3.snoc ω ω) (n:=(Al l).toNat) (by rw[Ma,h2];omega)]
  .have:c=0:=ω;subst this;simp only[Int.lt_irrefl,gt_iff_lt,decide_false,Aq,S6 o ω,Ad];rw[Mu h3 (n:=(Al l).toNat) ω]
theorem Rb (h:n<18446744073709551616):Bp n<=3:=Kq (Nat.lt_of_lt_of_le h δ)
theorem X3 (n:Nat) (h:n<18446744073709551616):Qv n=some (Ah n):=by
 unfold Qv;have b:=Rb h;unfold Bp at b;refine J9 (λ(w,o)=>∃k:Nat,w=k/\k<=n/\o++Ah k=Ah n) (λ(w,_)=>w.toNat) (λo=>o=Ah n) ⟨n,rfl,Nat.le_refl _,ψ⟩ ?_ (by rintro o rfl;rfl);rintro⟨w,o⟩ ⟨k,rfl,hk,c⟩;by_cases h0:k=0
 .subst h0;rw[Hn,append_nil]at c;exact .inr ⟨o,ψ,c⟩
 .have f:o.length<=3:=(by rw[<-c]at b;simp at b;omega);refine .inl ⟨(((k / 1000000000:Nat):Int),o++[((k % 1000000000:Nat):Int)]),?_,⟨k / 1000000000,rfl,ω,by rw[append_assoc];rw[Ox h0]at c;exact c⟩,ζ⟩;have l:decide ((k:Int)>0)=true:=As ω;have j:Iq (k:Int) 1000000000=some ((k % 1000000000:Nat):Int):=(by rw[L9 ω δ];rfl);have i:Cx ((k % 1000000000:Nat):Int)=((k % 1000000000:Nat):Int):=G7 ω ω;have g:Hv .u64 (k:Int) 1000000000=some ((k / 1000000000:Nat):Int):=(by rw[Mt ω ω δ];rfl);simp only[l,Am,j,Ad,i,Ds (show (o.length+[((k % 1000000000:Nat):Int)].length)*4<=_ by simp;omega),g]
def F8 (m n:Nat):Int:=if m<n then -1 else if n<m then 1 else 0
theorem Vj (m n:Nat) (g:Bp m<1099511627776) (f:Bp n<1099511627776):Ul (Ah m) (Ah n)=some (F8 m n):=by
 unfold Ul;unfold Bp at g f;by_cases h:(Ah m).length=(Ah n).length
 .rw[H9 (ω:((Ah m).length:Int)=(Ah n).length),Aq];have hw:Ac (((Ah m).length:Int)-1)=((Ah m).length:Int)-1:=ξ;rw[hw];refine J9 (λv=>∃k:Nat,v=(k:Int)-1/\k<=(Ah m).length/\(Ah m).drop k=(Ah n).drop k) (λv=>(v+1).toNat) (λe=>match e with|.inl r=>r=F8 m n | .inr _=>m=n) ⟨(Ah m).length,rfl,Nat.le_refl _,by rw[drop_length,h,drop_length]⟩ ?_ ?_
  .rintro v ⟨k,rfl,hk,hd⟩;cases k with
   | zero=>refine .inr ⟨.inr (),ψ,?_⟩;have:Ah m=Ah n:=(by simpa using hd);have:=congrArg Al this;rw[Gi,Gi]at this;show m=n;omega
   | succ j=>
    have hj:j<(Ah m).length:=ω;have hj':j<(Ah n).length:=ω;have l:((j+1:Nat):Int)-1=(j:Int):=ω;have i:decide ((j:Int)>=0)=true:=As ω;simp only[l,i,Am,Ek rfl hj,Ek rfl hj',Ad];rcases Int.lt_trichotomy (Ah m)[j] (Ah n)[j] with b|heq|hgt
    .refine .inr ⟨.inl (-1),by rw[As b];rfl,?_⟩;have:=Ar7 (F2 m) hj hj' (F2 n) hd b;rw[Gi,Gi]at this;show (-1:Int)=F8 m n;rw[F8,Au ω]
    .refine .inl ⟨(j:Int)-1,?_,⟨j,rfl,ω,?_⟩,ω⟩
     .rw[Ay (ω:¬(Ah m)[j]<(Ah n)[j]),Aq,Ay (ω:¬(Ah m)[j]>(Ah n)[j]),Aq];rw[Ac,Cj ω ω]
     .rw[drop_eq_getElem_cons hj,drop_eq_getElem_cons hj',hd,heq]
    .refine .inr ⟨.inl 1,by rw[Ay (ω:¬(Ah m)[j]<(Ah n)[j]),Aq,As (ω:(Ah m)[j]>(Ah n)[j])];rfl,?_⟩;have:=Ar7 (F2 n) hj' hj (F2 m) hd.symm hgt;rw[Gi,Gi]at this;show (1:Int)=F8 m n;rw[F8,Ar ω,Au ω]
  .rintro (e|e) c
   .simp only at c ⊢;rw[c]
   .simp only at c ⊢;rw[F8,Ar ω,Ar ω]
 .rw[Gx (ω:((Ah m).length:Int)≠(Ah n).length),Am];by_cases b:(Ah m).length<(Ah n).length
  .rw[As (ω:((Ah m).length:Int)<(Ah n).length),Am];have:=Ar6 (m:=m) (n:=n) b;rw[F8,Au this]
  .rw[Ay (ω:¬((Ah m).length:Int)<(Ah n).length),Aq];have:=Ar6 (m:=n) (n:=m) (by unfold Bp;omega);rw[F8,Ar ω,Au this]
theorem Alf (h:Ci l) (hv:l≠[]->1000000000 ^ (l.length-1)<=Al l):Can l:=by refine⟨h,λb h0=>?_⟩;have h1:=hv b;have e:=dropLast_concat_getLast b;have h2:Ci l.dropLast:=λd hd=>h d (dropLast_subset l hd);have h3:=Lq h2;rw[length_dropLast]at h3;have c:=congrArg Al e;rw[Ma,h0]at c;omega
theorem Lu (l:List Int) (h:l.length<=k):Al (l.take k)=Al l:=by rw[Ih h]
theorem Atm (a b:List Int) (ha:Ci a) (hb:Ci b) (hl:a.length<1099511627776) (hab:b.length<=a.length) (R:a≠[]->1000000000 ^ (a.length-1)<=Al a) : ((Gq 4 0 (Ac ((a.length:Int)+1)) (0:Int)).bind λY=> (An (S:=(Int×Int×List Int)) (E:=(Int×List Int)) (λ(v20,v21,u)=> bif v21<(a.length:Int) then ((Ag a v21).bind λv23=> (show Option Int from bif v21<(b.length:Int) then ((Ag b v21).bind λv24=> some (Cx ((Cx (v23+v20))+v24))) else (some (Cx (v23+v20)))).bind λv25=> (Hv .u32 v25 1000000000).bind λv26=> (Iq v25 1000000000).bind λf=> (Cg 4 u [f]).bind λg=> some (.inl (v26,(Ac (v21+1)),g))) else (some (.inr (v20,u)))) (0,0,Y)).bind λ(l,q)=> bif l>(0:Int) then ((Cg 4 q [l]).bind λJ=> some J) else (some q))=some (Ah (Al a+Al b).toNat):=by
 have A:Ac ((a.length:Int)+1)=((a.length+1:Nat):Int):=by rw[Ac,Cj] <;> omega
 rw[A,Akq rfl ω ω];simp only[Ad];have a6:=Il ha.u32;have a1:=Il hb.u32;refine J9 (λ(c,i,o)=>∃k:Nat,i=k/\k<=a.length/\o.length=k/\Ci o/\0<=c/\c<=1/\Al o+1000000000 ^ k*c=Al (a.take k)+Al (b.take k)) (λ(_,i,_)=>a.length-i.toNat) (λ(c,o)=>o.length=a.length/\Ci o/\0<=c/\c<=1/\Al o+1000000000 ^ a.length*c=Al a+Al b) ⟨0,rfl,ω,rfl,Ci.nil,ω,ω,by simp[Al]⟩ ?_ ?_
 .rintro⟨c,i,o⟩ ⟨k,rfl,hk,L,z,U,hc,hv⟩;rcases Ch k a.length with h|h
  .have hx:=ha.get h;have e4:Ac ((k:Int)+1)=((k+1:Nat):Int):=ξ;have e5:decide ((k:Int)<(a.length:Int))=true:=As ω;have step:∀s:Int,0<=s->s<2000000000->(show Option Int from bif (k:Int)<(b.length:Int) then ((Ag b k).bind λv24=>some (Cx ((Cx (a[k]+c))+v24))) else some (Cx (a[k]+c)))=some s ->
     Al (a.take (k+1))+Al (b.take (k+1))=Al (a.take k)+Al (b.take k)+1000000000 ^ k*(s-c) -> (∃s',(bif (k:Int)<(a.length:Int) then ((Ag a k).bind λv23=> (show Option Int from bif (k:Int)<(b.length:Int) then ((Ag b k).bind λv24=> some (Cx ((Cx (v23+c))+v24))) else (some (Cx (v23+c)))).bind λv25=> (Hv .u32 v25 1000000000).bind λv26=> (Iq v25 1000000000).bind λf=> (Cg 4 o [f]).bind λg=> some (.inl (v26,(Ac ((k:Int)+1)),g))) else (some (.inr (c,o))))=some (Sum.inl s':(Int×Int×List Int)⊕(Int×List Int))/\(∃j:Nat,s'.2.1=j/\j<=a.length/\s'.2.2.length=j/\Ci s'.2.2/\0<=s'.1/\s'.1<=1/\Al s'.2.2+1000000000 ^ j*s'.1=Al (a.take j)+Al (b.take j))/\a.length-s'.2.1.toNat<a.length-(k:Int).toNat):=by
    intro s y Z hs x;refine⟨(s / 1000000000,((k+1:Nat):Int),o++[s % 1000000000]),?_,⟨k+1,rfl,ω,by simp[L],z.snoc ω ω,ζ,ζ,?_⟩,ζ⟩
    .rw[e5,Am,Ek rfl h,Ad,hs,Ad,Akr y ω δ,Ad,L9 y δ,Ad,Ds ζ,Ad,e4]
    .rw[x,<-hv,Ma,L,Int.pow_succ];have:=Int.mul_ediv_add_emod s 1000000000;grind
   refine .inl ?_;rcases Ch k b.length with hb'|hb'
   .have hy:=hb.get hb';obtain⟨s',I,G,D⟩:=step (a[k]+c+b[k]) ω ω (by have B:Cx (a[k]+c)=a[k]+c:=G7 ω ω;have X:Cx (a[k]+c+b[k])=a[k]+c+b[k]:=G7 ω ω;show (bif (k:Int)<(b.length:Int) then _ else _)=_;rw[As (ω:(k:Int)<(b.length:Int)),Am,Ek rfl hb',Ad,B,X]) (by rw[G8 a h,G8 b hb'];grind);exact⟨s',I,G,D⟩
   .obtain⟨s',I,G,D⟩:=step (a[k]+c) ω ω (by have B:Cx (a[k]+c)=a[k]+c:=G7 ω ω;show (bif (k:Int)<(b.length:Int) then _ else _)=_;rw[Ay (ω:¬(k:Int)<(b.length:Int)),Aq,B]) (by rw[G8 a h,Lu b hb',Lu b ω];grind);exact⟨s',I,G,D⟩
  .have N:k=a.length:=ω;subst N;refine .inr ⟨(c,o),ψ,L,z,U,hc,?_⟩;rw[Db,Lu b hab]at hv;exact hv
 .rintro⟨c,o⟩ ⟨h2,h3,h4,h5,h6⟩;simp only[];by_cases hc:c>0
  .have:c=1:=ω;subst this;rw[As hc,Am,Ds ζ,Ad];congr 1;refine Afm (Alf (h3.snoc ω ω) λ_=>?_) (by rw[Ma,h2];omega);rw[Ma,h2];have:=Il h3.u32;simp[h2];omega
  .have:c=0:=ω;subst this;rw[Ay hc,Aq];congr 1;refine Afm (Alf h3 λM=>?_) ω;have V:a≠[]:=(by intro e;rw[e]at h2;exact M (Fu.1 h2));have:=R V;rw[h2];omega
theorem Agb (h:Ah n≠[]):1000000000 ^ ((Ah n).length-1)<=Al (Ah n):=by
 rw[Gi];have h1:(Ah n).length≠0:=λe=>h (Fu.1 e);have:=Ar5 (n:=n) (k:=(Ah n).length-1) (by unfold Bp;omega);have e:((1000000000 ^ ((Ah n).length-1):Nat):Int)=1000000000 ^ ((Ah n).length-1):=by rw[Int.natCast_pow];rfl
 omega
theorem Atn (m n:Nat) (c:Bp m<1099511627776) (b:Bp n<1099511627776):Zw (Ah m) (Ah n)=some (Ah (m+n)):=by
 unfold Zw;unfold Bp at c b;by_cases f:(Ah m).length<(Ah n).length
 .simp only[As (ω:((Ah m).length:Int)<(Ah n).length),Am,Ad];have:=Atm (Ah n) (Ah m) (F2 n) (F2 m) b ω Agb;rw[Gi,Gi]at this;rw[show m+n=((n:Int)+(m:Int)).toNat by omega];exact this
 .simp only[Ay (ω:¬((Ah m).length:Int)<(Ah n).length),Aq,Ad];have:=Atm (Ah m) (Ah n) (F2 m) (F2 n) c ω Agb;rw[Gi,Gi]at this;rw[show m+n=((m:Int)+(n:Int)).toNat by omega];exact this
theorem Mz (h:k<n) (b:n<4611686018427387904):Ac ((k:Int)+1)=((k+1:Nat):Int):=by rw[Ac,Cj] <;> omega
theorem Agc (m n:Nat) (V:Bp m<1099511627776) (A:n<=m):W7 (Ah m) (Ah n)=some (Ah (m-n)):=by
 unfold W7;have D:(Ah n).length<=(Ah m).length:=I4 A;unfold Bp at V;rw[Akq rfl ω ω];simp only[Ad];have ha:=F2 m;have hb:=F2 n;refine J9 (λ(c,i,o)=>∃k:Nat,i=k/\k<=(Ah m).length/\o.length=k/\Ci o/\0<=c/\c<=1/\Al o=Al ((Ah m).take k)-Al ((Ah n).take k)+1000000000 ^ k*c) (λ(_,i,_)=>(Ah m).length-i.toNat) (λo=>∃c:Int,o.length=(Ah m).length/\Ci o/\0<=c/\c<=1/\Al o=(m:Int)-n+1000000000 ^ (Ah m).length*c) ⟨0,rfl,ω,rfl,Ci.nil,ω,ω,by simp[Al]⟩ ?_ ?_
 .rintro⟨c,i,o⟩ ⟨k,rfl,hk,l,g,G,hc,hv⟩;rcases Ch k (Ah m).length with h|h
  .have hx:=ha.get h;have N:=Mz h ω;have M:decide ((k:Int)<((Ah m).length:Int))=true:=As ω;have J:Ac (Ah m)[k]=(Ah m)[k]:=Cj ω ω;have I:Ac ((Ah m)[k]-c)=(Ah m)[k]-c:=Cj ω ω;have key:∀s:Int,-1000000001<=s->s<1000000000->Al ((Ah m).take (k+1))-Al ((Ah n).take (k+1))=Al ((Ah m).take k)-Al ((Ah n).take k)+1000000000 ^ k*(s+c) ->
     ∃(f:Int) (d:Int),(bif decide (s<0) then ((Cg 4 o [(Cx (Ac (s+1000000000)))]).bind λz=>some (Sum.inl (1,(Ac ((k:Int)+1)),z))) else ((Cg 4 o [(Cx s)]).bind λy=>some (Sum.inl (0,(Ac ((k:Int)+1)),y))))=some (Sum.inl (f,((k+1:Nat):Int),o++[d]):(Int×Int×List Int)⊕List Int) /\ (-1000000000<=s->(∃j:Nat,((k+1:Nat):Int)=j/\j<=(Ah m).length/\(o++[d]).length=j/\Ci (o++[d])/\0<=f/\f<=1/\Al (o++[d])=Al ((Ah m).take j)-Al ((Ah n).take j)+1000000000 ^ j*f)):=by
    intro s h1 h2 b;by_cases L:s<0
    .refine⟨1,Cx (Ac (s+1000000000)),by rw[As L,Am,Ds ζ,Ad,N],λh3=>?_⟩;have U:Ac (s+1000000000)=s+1000000000:=Cj ω ω;have q:Cx (s+1000000000)=s+1000000000:=G7 ω ω;rw[U,q];refine⟨k+1,rfl,ω,by simp[l],g.snoc ω ω,ω,ω,?_⟩;rw[b,Ma,l,hv,Int.pow_succ];grind
    .refine⟨0,Cx s,by rw[Ay L,Aq,Ds ζ,Ad,N],λh3=>?_⟩;have q:Cx s=s:=G7 ω ω;rw[q];refine⟨k+1,rfl,ω,by simp[l],g.snoc ω ω,ω,ω,?_⟩;rw[b,Ma,l,hv,Int.pow_succ];grind
   refine .inl ?_;rcases Ch k (Ah n).length with hb'|hb'
   .have hy:=hb.get hb';have S:Ac (Ah n)[k]=(Ah n)[k]:=Cj ω ω;have R:Ac ((Ah m)[k]-c-(Ah n)[k])=(Ah m)[k]-c-(Ah n)[k]:=Cj ω ω;obtain⟨f,d,x,u⟩:=key ((Ah m)[k]-c-(Ah n)[k]) ω ω (by rw[G8 _ h,G8 _ hb'];grind);refine⟨(f,((k+1:Nat):Int),o++[d]),?_,u ω,ζ⟩;rw[<-x];simp only[M,Am,Ek rfl h,Ad,J,I,As (ω:(k:Int)<((Ah n).length:Int)),Ek rfl hb',S,R]
   .obtain⟨f,d,x,u⟩:=key ((Ah m)[k]-c) ω ω (by rw[G8 _ h,Lu (Ah n) hb',Lu (Ah n) ω];grind);refine⟨(f,((k+1:Nat):Int),o++[d]),?_,u ω,ζ⟩;rw[<-x];simp only[M,Am,Ek rfl h,Ad,J,I,Ay (ω:¬(k:Int)<((Ah n).length:Int)),Aq]
  .have E:k=(Ah m).length:=ω;subst E;refine .inr ⟨o,ψ,c,l,g,G,hc,?_⟩;rw[Db,Lu _ D,Gi,Gi]at hv;exact hv
 .rintro o ⟨c,h2,h3,Z,Y,X⟩;have B:=Lq h3;rw[h2]at B;have hp:=Mb (Ah m).length;have:c=0:=by
   rcases Int.lt_or_le 0 c with hc|hc
   .have:c=1:=ω;subst this;omega
   .omega
  subst this;rw[S6 o ω,Ad,Mu h3 (n:=m-n) ω]
theorem Alg (m d:Nat) (L:Bp m<1099511627776) (hd:0<d) (M:d<4294967296):U1 (Ah m) d=some (Ah (m / d),((m % d:Nat):Int)):=by
 unfold U1;unfold Bp at L;rw[K2 rfl rfl (Nat.le_refl _) ω ω];simp only[Ad];have ha:=F2 m;have hw:Ac (((Ah m).length:Int)-1)=((Ah m).length:Int)-1:=by rw[Ac,Cj] <;> omega
 rw[hw];refine J9 (λ(r,i,o)=>∃k:Nat,i=(k:Int)-1/\k<=(Ah m).length/\o.length=(Ah m).length/\Ci o/\0<=r/\r<d/\Al (o.drop k)*d+r=Al ((Ah m).drop k)) (λ(_,i,_)=>(i+1).toNat) (λ(r,o)=>o.length=(Ah m).length/\Ci o/\0<=r/\r<d/\Al o*d+r=m) ⟨(Ah m).length,rfl,Nat.le_refl _,ψ,Ci.replicate _,ω,ω,by simp[Al]⟩ ?_ ?_
 .rintro⟨r,i,o⟩ ⟨k,rfl,hk,z,g,s,J,hv⟩;cases k with
  | zero=>exact .inr ⟨(r,o),ψ,z,g,s,J,by simpa[Gi] using hv⟩
  | succ j=>
   have hj:j<(Ah m).length:=ω;have h:j<o.length:=ω;have hx:=ha.get hj;have V:((j+1:Nat):Int)-1=(j:Int):=ω;have U:decide ((j:Int)>=0)=true:=As ω;have G:Ba (r*1000000000)=r*1000000000:=Du ω ω;have E:Ba (Ah m)[j]=(Ah m)[j]:=Du ω ω;have D:Ba (r*1000000000+(Ah m)[j])=r*1000000000+(Ah m)[j]:=Du ω ω;have b:(0:Int)<(d:Int):=ω;have c:0<=r*1000000000+(Ah m)[j]:=ω;have f:0<=(r*1000000000+(Ah m)[j]) / (d:Int):=Int.ediv_nonneg c ω;have u:(r*1000000000+(Ah m)[j]) / (d:Int)<1000000000:=(by apply Int.ediv_lt_of_lt_mul b;have:(r+1)*1000000000<=d*1000000000:=Int.mul_le_mul_of_nonneg_right ω δ;omega);have B:Cx ((r*1000000000+(Ah m)[j]) / (d:Int))=(r*1000000000+(Ah m)[j]) / (d:Int):=G7 f ω;have y:=Int.emod_nonneg (r*1000000000+(Ah m)[j]) (ω:(d:Int)≠0);have x:=Int.emod_lt_of_pos (r*1000000000+(Ah m)[j]) b;have A:Ac ((j:Int)-1)=(j:Int)-1:=ξ;refine .inl ⟨((r*1000000000+(Ah m)[j]) % (d:Int),(j:Int)-1,o.set j ((r*1000000000+(Ah m)[j]) / (d:Int))),?_,⟨j,rfl,ω,by simpa using z,g.set _ f u,y,x,?_⟩,ψ⟩
   .simp only[V,U,Am,Ek rfl hj,Ek rfl h,Ad,G,E,D,Mt c ω b,L9 c b,B,A,He rfl]
   .have d1:(o.set j ((r*1000000000+(Ah m)[j]) / (d:Int))).drop j=((r*1000000000+(Ah m)[j]) / (d:Int))::o.drop (j+1):=(by rw[drop_eq_getElem_cons (by simpa using h),drop_set_of_lt ω];simp);rw[d1,drop_eq_getElem_cons hj];simp only[Al];rw[<-hv];have:=Int.mul_ediv_add_emod (r*1000000000+(Ah m)[j]) (d:Int);grind
 .rintro⟨r,o⟩ ⟨h2,h3,S,R,N⟩;simp only[];have I:=Il h3.u32;have l:((m / d:Nat):Int)=Al o/\((m % d:Nat):Int)=r:=(by have b:(0:Int)<(d:Int):=ω;have e:=Int.ediv_emod_unique b (r:=r) (q:=Al o) (a:=(m:Int));have:=e.2 ⟨by rw[<-N];grind,S,R⟩;exact⟨by rw[Int.natCast_ediv];exact this.1,by rw[Int.natCast_emod];exact this.2⟩);rw[S6 o ω,Ad,Mu h3 l.1.symm,l.2]
theorem Agd (hx:0<=x) (c:x<1000000000) (hy:0<=y) (b:y<1000000000):0<=x*y/\x*y<=999999998000000001:=by refine⟨Int.mul_nonneg hx hy,?_⟩;have h1:x*y<=999999999*y:=Int.mul_le_mul_of_nonneg_right ω hy;omega
theorem S7 (m n:Nat) (hm:Bp m<549755813888) (hn:Bp n<549755813888):Qp (Ah m) (Ah n)=some (Ah (m*n)):=by
 unfold Qp;unfold Bp at hm hn;by_cases hz:m=0\/n=0
 .have:(show OB from bif (((Ah m).length:Int)==(0:Int)) then some true else some (((Ah n).length:Int)==(0:Int)))=some true:=by
   show (bif (((Ah m).length:Int)==(0:Int)) then some true else some (((Ah n).length:Int)==(0:Int)))=some true;by_cases h:m=0
   .subst h;rw[Hn];rfl
   .have y:n=0:=ω;subst y;rw[C7 (by have:=Ka h;have:(Ah m).length≠0:=λe=>this (Fu.1 e);omega),Hn];rfl
  rw[this,Ad,Am];have:m*n=0:=(by rcases hz with rfl|rfl <;> simp);rw[this,Hn]
 .have G:m≠0:=ω;have y:n≠0:=ω;have a8:(Ah m).length≠0:=λe=>Ka G (Fu.1 e);have a7:(Ah n).length≠0:=λe=>Ka y (Fu.1 e);simp only[C7 (ω:((Ah m).length:Int)≠0),C7 (ω:((Ah n).length:Int)≠0),Aq,Ad];have hw:Ac (((Ah m).length:Int)+((Ah n).length:Int))=(((Ah m).length+(Ah n).length:Nat):Int):=ξ;rw[hw,K2 rfl rfl (Nat.le_refl _) ω ω];simp only[Ad];have ha:=F2 m;have hb:=F2 n;refine J9 (λ(i,o)=>∃k:Nat,i=k/\k<=(Ah m).length/\o.length=(Ah m).length+(Ah n).length/\Ci o/\o.drop (k+(Ah n).length)=replicate ((Ah m).length-k) 0/\Al o=Al ((Ah m).take k)*n) (λ(i,_)=>(Ah m).length-i.toNat) (λo=>o.length=(Ah m).length+(Ah n).length/\Ci o/\Al o=((m*n:Nat):Int)) ⟨0,rfl,ω,ψ,Ci.replicate _,by rw[drop_replicate];congr 1;omega,by simp[Afk,Al]⟩ ?_ ?_
  .rintro⟨i,o⟩ ⟨k,rfl,hk,N,D,J,hv⟩;rcases Ch k (Ah m).length with h|h
   .have hx:=ha.get h;have e4:=Mz h ω;have e5:decide ((k:Int)<((Ah m).length:Int))=true:=As ω;simp only[e5,Am];refine .inl (Xr (Ee (λ(c,j,o')=>∃q:Nat,j=q/\q<=(Ah n).length/\o'.length=(Ah m).length+(Ah n).length/\Ci o'/\o'.drop (k+(Ah n).length)=replicate ((Ah m).length-k) 0/\0<=c/\c<1000000000 /\ Al o' + 1000000000 ^ (k+q)*c=Al o+1000000000 ^ k*((Ah m)[k]*Al ((Ah n).take q))) (λ(_,j,_)=>(Ah n).length-j.toNat) (λ(c,j,o')=>o'.length=(Ah m).length+(Ah n).length/\Ci o'/\o'.drop (k+(Ah n).length)=replicate ((Ah m).length-k) 0/\0<=c/\c<1000000000 /\ Al o' + 1000000000 ^ (k+(Ah n).length)*c=Al o+1000000000 ^ k*((Ah m)[k]*n)) ⟨0,rfl,ω,N,D,J,ω,ω,by simp[Al]⟩ ?_ ?_))
    .rintro⟨c,j,o'⟩ ⟨q,rfl,hq,l,b,f,z,hc,x⟩;rcases Ch q (Ah n).length with hq'|hq'
     .have hy:=hb.get hq';have g:k+q<o'.length:=ω;have Z:=b.get g;have a1:=Agd hx.1 hx.2 hy.1 hy.2;have X:Ba (Ah m)[k]=(Ah m)[k]:=Du ω ω;have V:Ba (Ah n)[q]=(Ah n)[q]:=Du ω ω;have U:Ba ((Ah m)[k]*(Ah n)[q])=(Ah m)[k]*(Ah n)[q]:=Du ω ω;have S:Ba o'[k+q]=o'[k+q]:=Du ω ω;have R:Ba ((Ah m)[k]*(Ah n)[q]+o'[k+q])=(Ah m)[k]*(Ah n)[q]+o'[k+q]:=Du ω ω;have M:Ba ((Ah m)[k]*(Ah n)[q]+o'[k+q]+c)=(Ah m)[k]*(Ah n)[q]+o'[k+q]+c:=Du ω ω;have e6:=Mz hq' ω;have e7:decide ((q:Int)<((Ah n).length:Int))=true:=As ω;have L:Ac ((k:Int)+(q:Int))=((k+q:Nat):Int):=ξ;generalize hs:(Ah m)[k]*(Ah n)[q]+o'[k+q]+c=s at M;have A:0<=s:=ω;have a6:s<1000000000000000000:=ω;have E:Cx (s % 1000000000)=s % 1000000000:=G7 ω ω;refine .inl ⟨(s / 1000000000,((q+1:Nat):Int),o'.set (k+q) (s % 1000000000)),?_,⟨q+1,rfl,ω,by simpa using l,b.set _ ω ω,?_,ω,ω,?_⟩,ζ⟩
      .simp only[e7,Am,Ek rfl h,Ek rfl hq',L,Ek rfl g,Ad,X,V,U,S,R,hs,M,L9 A (show (0:Int)<1000000000 by decide),Mt A (show s<=_ by omega) (show (0:Int)<1000000000 by decide),E,e6,He rfl]
      .rw[drop_set_of_lt ω];exact f
      .rw[Nz _ g,G8 _ hq'];have:=Int.mul_ediv_add_emod s 1000000000;have Y:(1000000000:Int) ^ (k+(q+1))=1000000000 ^ (k+q)*1000000000:=(by rw[<-Nat.add_assoc,Int.pow_succ]);have p2:(1000000000:Int) ^ (k+q)=1000000000 ^ k*1000000000 ^ q:=Int.pow_add ..;rw[Y];grind
     .have:q=(Ah n).length:=ω;subst this;refine .inr ⟨(c,_,o'),by simp;rfl,l,b,f,z,hc,?_⟩;rw[Db,Gi]at x;exact x
    .rintro⟨c,j,o'⟩ ⟨l,b,f,z,hc,x⟩;have L:Ac ((k:Int)+((Ah n).length:Int))=((k+(Ah n).length:Nat):Int):=ξ;have g:k+(Ah n).length<o'.length:=ω;have E:Cx c=c:=G7 ω ω;have u:o'[k+(Ah n).length]=0:=(by have:=congrArg head? f;rw[head?_drop,Bt g]at this;have B:(replicate ((Ah m).length-k) (0:Int)).head? = some 0:=(by cases hh:(Ah m).length-k with| zero=>omega| succ t=>rfl);rw[B]at this;exact Eo this);refine⟨_,by simp only[L,Ek rfl g,Ad,E,e4,He rfl];rfl,_,rfl,⟨k+1,rfl,ω,by simpa using l,b.set _ z hc,?_,?_⟩,ζ⟩
     .rw[drop_set_of_lt ω,show k+1+(Ah n).length=(k+(Ah n).length)+1 by omega,<-drop_drop,f,drop_replicate];congr 1
     .rw[Nz _ g,u,G8 _ h,Int.add_mul,<-hv];grind
   .have I:k=(Ah m).length:=ω;subst I;refine .inr ⟨o,ψ,N,D,?_⟩;rw[Db,Gi]at hv;rw[hv];simp
  .rintro o ⟨h2,h3,h4⟩;rw[S6 o ω,Ad,Mu h3 h4]
theorem Ato (a:List Int) (m:Nat) (ha:Ci a) (V:a.length<1099511627776) (U:m<1000000000) : ∃o,Xe a m=some o/\o.length=a.length+1/\Ci o/\Al o=Al a*m:=by
 unfold Xe;have u:Ac ((a.length:Int)+1)=((a.length+1:Nat):Int):=by rw[Ac,Cj] <;> omega
 rw[u,K2 rfl rfl (Nat.le_refl _) ω ω];simp only[Ad];refine Ee (λ(c,i,o)=>∃k:Nat,i=k/\k<=a.length/\o.length=a.length+1/\Ci o/\o.drop k=replicate (a.length+1-k) 0/\0<=c/\c<1000000000/\Al o+1000000000 ^ k*c=Al (a.take k)*m) (λ(_,i,_)=>a.length-i.toNat) (λ(c,o)=>o.length=a.length+1/\Ci o/\o.drop a.length = [0]/\0<=c/\c<1000000000/\Al o+1000000000 ^ a.length*c=Al a*m) ⟨0,rfl,ω,ψ,Ci.replicate _,ψ,ω,ω,by simp[Al,Afk]⟩ ?_ ?_
 .rintro⟨c,i,o⟩ ⟨k,rfl,hk,B,q,g,z,hc,hv⟩;rcases Ch k a.length with h|h
  .have hx:=ha.get h;have f:k<o.length:=ω;have G:=Agd hx.1 hx.2 (show (0:Int)<=m by omega) ω;have S:=Mz h ω;have R:decide ((k:Int)<(a.length:Int))=true:=As ω;have E:Ba a[k]=a[k]:=Du ω ω;have D:Ba (a[k]*(m:Int))=a[k]*m:=Du ω ω;have A:Ba (a[k]*(m:Int)+c)=a[k]*m+c:=Du ω ω;have b:o[k]=0:=(by have:=congrArg head? g;rw[head?_drop,Bt f]at this;have l:(replicate (a.length+1-k) (0:Int)).head? = some 0:=(by cases hh:a.length+1-k with| zero=>omega| succ t=>rfl);rw[l]at this;exact Eo this);generalize J:a[k]*(m:Int)+c=s at A;have j:0<=s:=ω;have I:s<1000000000000000000:=ω;have x:Cx (s % 1000000000)=s % 1000000000:=G7 ω ω;refine .inl ⟨(s / 1000000000,((k+1:Nat):Int),o.set k (s % 1000000000)),?_,⟨k+1,rfl,ω,by simpa using B,q.set _ ω ω,?_,ω,ω,?_⟩,ζ⟩
   .simp only[R,Am,Ek rfl h,Ek rfl f,Ad,E,D,J,A,L9 j (show (0:Int)<1000000000 by decide),Mt j (show s<=_ by omega) (show (0:Int)<1000000000 by decide),x,S,He rfl]
   .rw[drop_set_of_lt ω,<-drop_drop,g,drop_replicate];congr 1
   .rw[Nz _ f,b,G8 _ h,Int.pow_succ];have:=Int.mul_ediv_add_emod s 1000000000;grind
  .have y:k=a.length:=ω;subst y;refine .inr ⟨(c,o),ψ,B,q,by rw[g];simp,z,hc,by rwa [Db]at hv⟩
 .rintro⟨c,o⟩ ⟨h2,h3,g,N,M,L⟩;have f:a.length<o.length:=ω;have x:Cx c=c:=G7 ω ω;have b:o[a.length]=0:=(by have:=congrArg head? g;rw[head?_drop,Bt f]at this;exact Eo this);refine⟨o.set a.length c,by simp only[Ek rfl f,Ad,x,He rfl],by simpa using h2,h3.set _ N M,?_⟩;rw[Nz _ f,b,<-L];grind
theorem S8 {α:Type} {l:List α} {i:Int} (hi:i=k) (hk:k<n) (h:off+k<l.length):Ig l off n i=some l[off+k]:=by subst hi;have h1:(0:Int)<=(k:Int):=ω;have h2:(k:Int)<(n:Int):=ω;simp[Ig,hk,h]
theorem A5m {k tb B:Int} (i:0<P) (u:V=j+P*tb) (l:0<=j) (x:U=k+P*hb) (s:k<P) (hq:q*V<=U) (c:0<=g) (h:hb<g*tb) (b:0<=tb):q<g:=by
 rcases Int.lt_or_le q g with h'|h'
 .exact h'
 .exfalso;have f:0<=V:=(by have:=Int.mul_nonneg (Int.le_of_lt i) b;omega);have h1:g*V<=q*V:=Int.mul_le_mul_of_nonneg_right h' f;have h2:g*(P*tb)<=g*V:=Int.mul_le_mul_of_nonneg_left ω c;have h3:P*(hb+1)<=P*(g*tb):=Int.mul_le_mul_of_nonneg_left ω (Int.le_of_lt i);have z:g*(P*tb)=P*(g*tb):=(by grind);have y:P*(hb+1)=P*hb+P:=(by grind);omega
theorem Atp {k tb:Int} (i:0<P) (y:V=j+P*tb) (s:j<P) (z:U=k+P*hb) (u:0<=k) (hq:U<(q+1)*V) (l:0<=g) (hgt:g<=tb+1) (h:g*tb<=hb) (b:0<V):g<=q+1:=by
 rcases Int.lt_or_le (q+1) g with h'|h'
 .exfalso;have f:0<=g-1:=by
   rcases Int.lt_or_le g 1 with h2|h2
   .have:g=0:=ω;subst this;have c:q+1<0:=h';have:(q+1)*V<0:=Int.mul_neg_of_neg_of_pos c b;have h0:0<=hb:=(by simpa using h);have:=Int.mul_nonneg (Int.le_of_lt i) h0;omega
   .omega
  have h1:(q+1)*V<=(g-1)*V:=Int.mul_le_mul_of_nonneg_right ω (Int.le_of_lt b);have x:P*(tb+1)=P*tb+P:=(by grind);have h2:(g-1)*V<=(g-1)*(P*(tb+1)):=Int.mul_le_mul_of_nonneg_left ω f;have h3:(g-1)*(P*(tb+1))=P*(g*tb+(g-tb-1)):=(by grind);have A:P*(g*tb+(g-tb-1))<=P*hb:=Int.mul_le_mul_of_nonneg_left ω (Int.le_of_lt i);omega
 .exact h'
theorem A5n {A C:Type} {X:Option (A×C)} {Q:A->C->Prop} (h:∃r,X=some r/\Q r.1 r.2):∃q o,X=some (q,o)/\Q q o:=by obtain⟨⟨a,c⟩,h1,h2⟩:=h;exact⟨a,c,h1,h2⟩
theorem al1 (k:g*t+r=h):(g-1)*t+(r+t)=h:=by grind
theorem al2 {p:Int} (e:s-1000000000*d=x-b-p):o+P*(s-x)-P*1000000000*d=(o-P*b)-P*p:=by grind
theorem al3 (b X K g A y:Int):b-X*(g*A)-X*K*(g*y)=b-X*(g*(A+K*y)):=by grind
theorem al4 {c:Int} (h:u+X*(W+N*c-U)-X*N*b=u-X*(g*V)):X*(U-g*V)=X*(W+N*(c-b)):=by grind
theorem al5 (u X q:Int):u-X*q-u=X*(-q):=by grind
theorem al6 (h:o-P*b=r):o+P*(x-b-x)=r:=by grind
theorem al7 {K c A:Int} (g:x+y+c=s) (f:1000000000*(s / 1000000000)+s % 1000000000=s) (h:b+X*K*c=o+X*A):b+X*K*(s % 1000000000-x)+X*K*1000000000*(s / 1000000000)=o+X*(A+K*y):=by grind
theorem al8 {f c:Int} (h1:o-X*N*b=u-X*((q+1)*V)) (h2:u+X*(W+N*f-U)+X*N*c=o+X*V):X*(U-q*V)=X*(W+N*(f-b+c)):=by grind
theorem al9 {c f:Int} (h1:g+P*c=o+X*V) (h2:o-P*b=u-X*((q+1)*V)) (h3:f=b-c):g+P*(0-f)=u-X*(q*V):=by grind
theorem gtb (k:g*t+r=h):g*(t*1000000000+x)=(h-r)*1000000000+g*x:=by subst k;grind
theorem Alh (h:(1000000000:Int) ^ k*x=1000000000 ^ k*y):x=y:=Int.eq_of_mul_eq_mul_left (by have:=Mb k;omega) h
theorem Atq {o u:List Int} (b:off<=o.length) (hu:off<=u.length) (h:o.take off=u.take off):Al o-Al u=1000000000 ^ off*(Al (o.drop off)-Al (u.drop off)):=by rw[Px o off b,Px u off hu,h];grind
theorem Age (h:Ci l) (k:Nat):0<=Al (l.drop k):=Il (h.drop k).u32
theorem A5o {D:List Int} (b:Ci D) (h2:2<=n) (i:n<D.length) (g:Al D<1000000000 ^ (n+1)) : Al D=Al (D.take (n-2))+1000000000 ^ (n-2)*((D[n]*1000000000+D[n-1])*1000000000+D[n-2]):=by
 have e:=Px D (n+1) i;have h0:Al (D.drop (n+1))=0:=by
  have s:=Age b (n+1);have ht:=Il ((b.take (n+1)).u32);rcases Int.lt_or_le 0 (Al (D.drop (n+1))) with h|h
  .have:(1000000000:Int) ^ (n+1)*1<=1000000000 ^ (n+1)*Al (D.drop (n+1)):=Int.mul_le_mul_of_nonneg_left h (Int.le_of_lt (Mb _));omega
  .omega
 rw[h0,Int.mul_zero,Int.add_zero]at e;obtain⟨t,rfl⟩:∃t,n=t+2:=⟨n-2,ω⟩;have q:=G8 D (k:=t) ω;have l:=G8 D (k:=t+1) ω;have j:=G8 D (k:=t+2) ω;have f:(1000000000:Int) ^ (t+1)=1000000000 ^ t*1000000000:=Int.pow_succ ..;have c:(1000000000:Int) ^ (t+2)=1000000000 ^ (t+1)*1000000000:=Int.pow_succ ..;have i1:t+2-2=t:=rfl;have i2:t+2-1=t+1:=rfl;simp only[i1,i2];rw[e,j,l,q,c,f];grind
theorem A5p {v:List Int} (h2:2<=n) (g:v.length=n) : Al v=Al (v.take (n-2))+1000000000 ^ (n-2)*(v[n-1]*1000000000+v[n-2]):=by obtain⟨t,rfl⟩:∃t,n=t+2:=⟨n-2,ω⟩;have f:=G8 v (k:=t) ω;have b:=G8 v (k:=t+1) ω;have e:v.take (t+1+1)=v:=Ih ω;rw[e]at b;have c:(1000000000:Int) ^ (t+1)=1000000000 ^ t*1000000000:=Int.pow_succ ..;have i1:t+2-2=t:=rfl;have i2:t+2-1=t+1:=rfl;simp only[i1,i2];rw[b,f,c];grind
set_option maxHeartbeats 1000000 in
theorem A5q (v u:List Int) (off n:Nat) (hv:Ci v) (hu:Ci u) (hn:v.length=n) (h2:2<=n) (c8:n<1099511627776) (bp:500000000<=v[n-1]) (X:off+n<u.length) (hT:Al (u.drop off)<Al v*1000000000) : ∃q o,Aah off (n+1) v u=some (q,o)/\o.length=u.length/\Ci o/\0<=q/\q<1000000000/\Al o=Al u-1000000000 ^ off*(q*Al v)/\0<=Al (o.drop off)/\Al (o.drop off)<Al v:=by
 have b7:=Lq hv;rw[hn]at b7;have cd:(u.drop off).length=u.length-off:=length_drop;have A:=hu.drop off;have bo:=Il A.u32;have b9:Al (u.drop off)<1000000000 ^ (n+1):=by rw[Int.pow_succ];omega
 have ab:=A5o A h2 ω b9;have ao:=A5p h2 hn;have gd:∀i (h:i<(u.drop off).length),(u.drop off)[i]=u[off+i]' ω:=λi h=>getElem_drop;rw[gd,gd,gd]at ab;have bt:=hu.get (i:=off+n) ω;have bw:=hu.get (i:=off+(n-1)) ω;have bu:=hu.get (i:=off+(n-2)) ω;have bx:=hv.get (i:=n-1) ω;have ad:=hv.get (i:=n-2) ω;have hP:=Mb (n-2);have b8:=Il ((hv.take (n-2)).u32);have aa:=Lq (hv.take (n-2));rw[length_take,Nat.min_eq_left ω]at aa;have bb:=Il ((A.take (n-2)).u32);have ba:=Lq (A.take (n-2));rw[length_take,Nat.min_eq_left ω]at ba;have y:0<Al v:=by have:(1000000000:Int) ^ (n-2)*1<=1000000000 ^ (n-2)*(v[n-1]*1000000000+v[n-2]):=Int.mul_le_mul_of_nonneg_left ω (Int.le_of_lt hP);omega
 generalize hq:Al (u.drop off) / Al v=q;have bi:q*Al v<=Al (u.drop off):=by rw[<-hq];exact Int.ediv_mul_le _ ω
 have ar:Al (u.drop off)<(q+1)*Al v:=by rw[<-hq];have:=Int.lt_ediv_add_one_mul_self (Al (u.drop off)) y;exact this
 have ag:0<=q:=by rw[<-hq];exact Int.ediv_nonneg bo ω
 have bg:q<1000000000:=by rw[<-hq];exact Int.ediv_lt_of_lt_mul y (by rw[Int.mul_comm];exact hT)
 have l:(0:Int)<v[n-1]:=ω;generalize ak:u[off+n]*1000000000+u[off+(n-1)]=head at ab;have am:0<=head:=ω;have ca:head<=v[n-1]*1000000000+v[n-2]:=by
  rcases Int.lt_or_le (v[n-1]*1000000000+v[n-2]) head with h|h
  .exfalso;have a1:(1000000000:Int) ^ (n-2)*((v[n-1]*1000000000+v[n-2]+1)*1000000000)<=1000000000 ^ (n-2)*(head*1000000000+u[off+(n-2)]):=Int.mul_le_mul_of_nonneg_left ω (Int.le_of_lt hP);have a2:Al v*1000000000<(1000000000 ^ (n-2)*(v[n-1]*1000000000+v[n-2]+1))*1000000000:=(by have:(1000000000:Int) ^ (n-2)*(v[n-1]*1000000000+v[n-2]+1)=1000000000 ^ (n-2)*(v[n-1]*1000000000+v[n-2])+1000000000 ^ (n-2):=(by grind);omega);have a3:((1000000000:Int) ^ (n-2)*(v[n-1]*1000000000+v[n-2]+1))*1000000000=1000000000 ^ (n-2)*((v[n-1]*1000000000+v[n-2]+1)*1000000000):=(by grind);omega
  .exact h
 have cb:0<=head / v[n-1]:=Int.ediv_nonneg am ω;have bm:head / v[n-1]<=1000000001:=by have:head / v[n-1]<1000000002:=Int.ediv_lt_of_lt_mul l ω;omega
 have bf:=Int.emod_nonneg head (ω:v[n-1]≠0);have bz:=Int.emod_lt_of_pos head l;have bn:=Int.mul_ediv_add_emod head v[n-1];unfold Aah;have w1:Ac ((v.length:Int)-1)=((n-1:Nat):Int):=by rw[Ac,Cj] <;> omega
 have w2:Ac ((v.length:Int)-2)=((n-2:Nat):Int):=by rw[Ac,Cj] <;> omega
 have w3:(v.length:Int)=((n:Nat):Int):=ω;have x1:Ba u[off+n]=u[off+n]:=Du ω ω;have x2:Ba (u[off+n]*1000000000)=u[off+n]*1000000000:=Du ω ω;have x3:Ba u[off+(n-1)]=u[off+(n-1)]:=Du ω ω;have x4:Ba (u[off+n]*1000000000+u[off+(n-1)])=head:=by rw[Ba,Du ω ω,ak]
 have x5:Ba v[n-1]=v[n-1]:=Du ω ω;have x6:Ba v[n-2]=v[n-2]:=Du ω ω;have x7:Ba u[off+(n-2)]=u[off+(n-2)]:=Du ω ω;rw[w1,w2,Ek rfl (ω:n-1<v.length),Ad,Ek rfl (ω:n-2<v.length),Ad,w3,S8 rfl (ω:n<n+1) ω,Ad,S8 rfl (ω:n-1<n+1) ω,Ad,x1,x2,x3,x4,x5,x6,Mt am ω l,Ad,L9 am l,Ad];refine A5n (Ee (λ(g,rest)=>g*v[n-1]+rest=head/\0<=rest/\rest<2000000000/\q<=g/\g<=1000000001) (λ(g,_)=>g.toNat) (λg=>q<=g/\g<=q+1/\g<=1000000000) ⟨by rw[Int.mul_comm];exact bn,bf,ω,?_,bm⟩ ?_ ?_)
 .rcases Int.lt_or_le (head / v[n-1]) q with h|h
  .exfalso;have a1:(head / v[n-1]+1)*v[n-1]<=q*v[n-1]:=Int.mul_le_mul_of_nonneg_right ω ω;have a2:head<(head / v[n-1]+1)*v[n-1]:=Int.lt_ediv_add_one_mul_self head l;have a3:q*(1000000000 ^ (n-2)*(v[n-1]*1000000000+v[n-2]))<=q*Al v:=Int.mul_le_mul_of_nonneg_left ω ag;have a4:(1000000000:Int) ^ (n-2)*((head+1)*1000000000)<=1000000000 ^ (n-2)*(q*(v[n-1]*1000000000+v[n-2])):=(by apply Int.mul_le_mul_of_nonneg_left _ (Int.le_of_lt hP);have b1:(head+1)*1000000000<=q*v[n-1]*1000000000:=ω;have b2:0<=q*v[n-2]:=Int.mul_nonneg ag ad.1;have b3:q*(v[n-1]*1000000000+v[n-2])=q*v[n-1]*1000000000+q*v[n-2]:=(by grind);omega);have a5:q*((1000000000:Int) ^ (n-2)*(v[n-1]*1000000000+v[n-2]))=1000000000 ^ (n-2)*(q*(v[n-1]*1000000000+v[n-2])):=(by grind);have a6:(1000000000:Int) ^ (n-2)*((head+1)*1000000000)=1000000000 ^ (n-2)*(head*1000000000)+1000000000 ^ (n-2)*1000000000:=(by grind);have a7:(1000000000:Int) ^ (n-2)*(head*1000000000+u[off+(n-2)])=1000000000 ^ (n-2)*(head*1000000000)+1000000000 ^ (n-2)*u[off+(n-2)]:=(by grind);have a8:(1000000000:Int) ^ (n-2)*(u[off+(n-2)]+1)<=1000000000 ^ (n-2)*1000000000:=Int.mul_le_mul_of_nonneg_left ω (Int.le_of_lt hP);have a9:(1000000000:Int) ^ (n-2)*(u[off+(n-2)]+1)=1000000000 ^ (n-2)*u[off+(n-2)]+1000000000 ^ (n-2):=(by grind);omega
  .exact h
 .rintro⟨g,rest⟩ ⟨k1,k2,k3,k4,k5⟩;have S:0<=g:=ω;have w4:Ba (v[n-1])=v[n-1]:=x5;have af:∀(hgt:q<g),(some (Sum.inl ((Ba (g-1)),(Ba (rest+v[n-1])))):Option ((Int×Int)⊕Int))=some (.inl (g-1,rest+v[n-1])):=(by intro hgt;rw[show Ba (g-1)=g-1 from Du ω ω,show Ba (rest+v[n-1])=rest+v[n-1] from Du ω ω]);have stay:∀(hr:rest<1000000000) (hgt:q<g),(g-1)*v[n-1]+(rest+v[n-1])=head/\0<=rest+v[n-1]/\rest+v[n-1]<2000000000/\q<=g-1/\g-1<=1000000001:=(by intro hr hgt;exact⟨al1 k1,ω,ω,ω,ω⟩);by_cases hr:rest<1000000000
  .by_cases Y:g>=1000000000
   .refine .inl ⟨(g-1,rest+v[n-1]),?_,stay hr ω,ζ⟩;simp only[As hr,Am,As Y,Ad];exact af ω
   .have br:=Agd S ω ad.1 ad.2;have y1:Ba (g*v[n-2])=g*v[n-2]:=Du ω ω;have y2:Ba (rest*1000000000)=rest*1000000000:=Du ω ω;have y3:Ba (rest*1000000000+u[off+(n-2)])=rest*1000000000+u[off+(n-2)]:=Du ω ω;have az:g*(v[n-1]*1000000000+v[n-2])=(head-rest)*1000000000+g*v[n-2]:=gtb k1;simp only[As hr,Am,Ay Y,Aq,S8 rfl (ω:n-2<n+1) (ω:off+(n-2)<u.length),Ad,y1,x7,y2,y3];by_cases ae:g*v[n-2]>rest*1000000000+u[off+(n-2)]
    .have hgt:q<g:=A5m (P:=1000000000 ^ (n-2)) (tb:=v[n-1]*1000000000+v[n-2]) (hb:=head*1000000000+u[off+(n-2)]) (B:=0) hP ao b8 ab ba bi S ω ω;refine .inl ⟨(g-1,rest+v[n-1]),?_,stay hr hgt,ζ⟩;rw[As ae,Am];exact af hgt
    .refine .inr ⟨g,by rw[Ay ae,Aq],k4,?_,ω⟩;exact Atp (P:=1000000000 ^ (n-2)) (tb:=v[n-1]*1000000000+v[n-2]) (hb:=head*1000000000+u[off+(n-2)]) hP ao aa ab bb ar S ω ω y
  .refine .inr ⟨g,by simp only[Ay hr,Aq,Ad],k4,?_⟩;have Y:g<=1000000000:=by
    rcases Int.lt_or_le 1000000000 g with h|h
    .exfalso;have:g=1000000001:=ω;subst this;omega
    .exact h
   refine⟨?_,Y⟩;have az:g*(v[n-1]*1000000000+v[n-2])=(head-rest)*1000000000+g*v[n-2]:=gtb k1;have bq:g*v[n-2]<=1000000000*v[n-2]:=Int.mul_le_mul_of_nonneg_right Y ad.1;exact Atp (P:=1000000000 ^ (n-2)) (tb:=v[n-1]*1000000000+v[n-2]) (hb:=head*1000000000+u[off+(n-2)]) hP ao aa ab bb ar S ω ω y
 .rintro g ⟨k1,k2,k3⟩;have S:0<=g:=ω;refine Ee (λ(b,i,o)=>∃k:Nat,i=k/\k<=n/\o.length=u.length/\Ci o/\o.take off=u.take off/\o.drop (off+k)=u.drop (off+k)/\0<=b/\b<=1000000001/\Al o-1000000000 ^ (off+k)*b=Al u-1000000000 ^ off*(g*Al (v.take k))) (λ(_,i,_)=>n-i.toNat) (λ(b,o)=>o.length=u.length/\Ci o/\o.take off=u.take off/\o.drop (off+n)=u.drop (off+n)/\0<=b/\b<=1000000001/\Al o-1000000000 ^ (off+n)*b=Al u-1000000000 ^ off*(g*Al v)) ⟨0,rfl,ω,rfl,hu,rfl,rfl,ω,ω,by simp[Al]⟩ ?_ ?_
  .rintro⟨b,i,o⟩ ⟨k,rfl,hk,ho,I,M,L,b6,b5,f⟩;rcases Ch k n with h|h
   .have E:off+k<o.length:=ω;have J:k<v.length:=ω;have hx:=I.get E;have hy:=hv.get J;have e4:=Mz h ω;have e5:decide ((k:Int)<(n:Int))=true:=As ω;have av:0<=g*v[k]:=Int.mul_nonneg S hy.1;have c7:g*v[k]<=1000000000*v[k]:=Int.mul_le_mul_of_nonneg_right k3 hy.1;have y1:Ba v[k]=v[k]:=Du ω ω;have y2:Ba (g*v[k])=g*v[k]:=Du ω ω;have y3:Ac o[off+k]=o[off+k]:=Cj ω ω;generalize au:g*v[k]=p at *;have y4:Ac (o[off+k]-b)=o[off+k]-b:=Cj ω ω;have y5:Ac (p % 1000000000)=p % 1000000000:=Cj ω ω;have y6:Ac (o[off+k]-b-p % 1000000000)=o[off+k]-b-p % 1000000000:=Cj ω ω;have y7:Ac (p / 1000000000)=p / 1000000000:=Cj ω ω;simp only[e5,Am,S8 rfl (ω:k<n+1) E,Ek rfl J,Ad,y1,y2,au,y3,y4,L9 av (show (0:Int)<1000000000 by decide),Mt av (show p<=_ by omega) (show (0:Int)<1000000000 by decide),y5,y6,y7];refine .inl (Xr (Ee (λ(b',s)=>∃t:Nat,b'=p / 1000000000+t/\s=o[off+k]-b-p % 1000000000+t*1000000000/\s<1000000000/\t<=3) (λ(_,s)=>(-s).toNat) (λ(b',s)=>∃t:Nat,b'=p / 1000000000+t/\s=o[off+k]-b-p % 1000000000+t*1000000000/\s<1000000000/\0<=s/\t<=2) ⟨0,ψ,ψ,ω,ω⟩ ?_ ?_))
    .rintro⟨b',s⟩ ⟨t,rfl,hs,ac,ht⟩;by_cases G:s<0
     .refine .inl ⟨(p / 1000000000+(t+1:Nat),s+1000000000),?_,⟨t+1,rfl,by rw[hs];simp;omega,ω,ω⟩,ζ⟩;rw[As G,Am,show Ac (p / 1000000000+(t:Int)+1)=p / 1000000000+((t+1:Nat):Int) by rw[Ac,Cj] <;> omega,show Ac (s+1000000000)=s+1000000000 from Cj ω ω]
     .exact .inr ⟨(p / 1000000000+t,s),by rw[Ay G,Aq],t,rfl,hs,ac,ω,ω⟩
    .rintro⟨b',s⟩ ⟨t,rfl,hs,ac,G,ht⟩;have y8:Cx s=s:=G7 ω ω;refine⟨.inl (p / 1000000000+t,((k+1:Nat):Int),o.set (off+k) s),by simp only[S8 rfl (ω:k<n+1) E,Ad,y8,e4];rw[He (n:=off+k) ω],_,rfl,⟨k+1,rfl,ω,by simpa using ho,I.set _ G ac,?_,?_,ω,ω,?_⟩,ζ⟩
     .rw[take_set_of_le ω];exact M
     .rw[drop_set_of_lt ω,show off+(k+1)=(off+k)+1 by omega,<-drop_drop,L,drop_drop]
     .rw[Nz _ E,G8 v J,show off+(k+1)=(off+k)+1 by omega,Int.pow_succ];have ay:=Int.mul_ediv_add_emod p 1000000000;have pa:(1000000000:Int) ^ (off+k)=1000000000 ^ off*1000000000 ^ k:=Int.pow_add ..;have eA:s-1000000000*(p / 1000000000+(t:Int))=o[off+k]-b-p:=(by rw[hs];omega);rw[al2 eA,f,<-au,pa];exact al3 _ _ _ _ _ _
   .have aj:k=n:=ω;subst aj;refine .inr ⟨(b,o),ψ,ho,I,M,L,b6,b5,?_⟩;rw[Ih ω]at f;exact f
  .rintro⟨b,o⟩ ⟨ho,I,M,L,b6,b5,f⟩;have hV:=y;have ah:off+n<o.length:=ω;have ax:o[off+n]=u[off+n]:=(by have:=congrArg head? L;rw[head?_drop,head?_drop,Bt ah,Bt X]at this;exact Eo this);have hE:Al (u.drop (off+n))=u[off+n]:=by
    have a1:=Px (u.drop off) (n+1) ω;have a2:=Il (((hu.drop off).take (n+1)).u32);have a3:=Age (hu.drop off) (n+1);have a4:Al ((u.drop off).drop (n+1))=0:=by
     rcases Int.lt_or_le 0 (Al ((u.drop off).drop (n+1))) with h|h
     .have:(1000000000:Int) ^ (n+1)*1<=1000000000 ^ (n+1)*Al ((u.drop off).drop (n+1)):=Int.mul_le_mul_of_nonneg_left h (Int.le_of_lt (Mb _));omega
     .omega
    rw[drop_eq_getElem_cons X];simp only[Al];rw[drop_drop,show off+(n+1)=off+n+1 by omega]at a4;rw[a4];omega
   have main:∀o':List Int,o'.length=u.length->Ci o'->o'.take off=u.take off->o'.drop (off+n)=u.drop (off+n)->0<=Al ((o'.drop off).take n)/\Al ((o'.drop off).take n)<1000000000 ^ n /\
     Al o'=Al u+1000000000 ^ off*(Al ((o'.drop off).take n)+1000000000 ^ n*u[off+n]-Al (u.drop off)):=by intro o' l1 l2 l3 l4;have a1:=Px (o'.drop off) n (by rw[length_drop];omega);rw[drop_drop,l4,hE]at a1;have a2:=Atq ω ω l3;refine⟨Il (((l2.drop off).take n).u32),?_,by rw[<-a1];omega⟩;have:=Lq ((l2.drop off).take n);rw[length_take,length_drop,Nat.min_eq_left ω]at this;exact this
   obtain⟨m1,m2,m3⟩:=main o ho I M L;have pa:(1000000000:Int) ^ (off+n)=1000000000 ^ off*1000000000 ^ n:=Int.pow_add ..;have star:Al (u.drop off)-g*Al v=Al ((o.drop off).take n)+1000000000 ^ n*(u[off+n]-b):=(by apply Alh (k:=off);rw[m3,pa]at f;exact al4 f);have y1:Ac u[off+n]=u[off+n]:=Cj ω ω;have y2:Ac (u[off+n]-b)=u[off+n]-b:=Cj ω ω;have ap:=Mb n;have fin:∀(U:List Int) (x:Int) (j:List Int),U=j.set (off+n) x->j.length=u.length->Ci j->0<=x->x<1000000000->j.take off=u.take off->Al U=Al u-1000000000 ^ off*(q*Al v) ->
     U.length=u.length/\Ci U/\0<=q/\q<1000000000/\Al U=Al u-1000000000 ^ off*(q*Al v)/\0<=Al (U.drop off)/\Al (U.drop off)<Al v:=by intro U x j e l1 l2 x0 x1 l3 aq;have L4:U.length=u.length:=(by rw[e];simpa using l1);have T4:U.take off=u.take off:=(by rw[e,take_set_of_le ω];exact l3);have hp:=Atq ω ω T4;have hd:Al (U.drop off)=Al (u.drop off)-q*Al v:=(by have:Al (U.drop off)-Al (u.drop off) = - (q*Al v):=(by apply Alh (k:=off);rw[<-hp,aq];exact al5 _ _ _);omega);have bh:(q+1)*Al v=q*Al v+Al v:=(by grind);exact⟨L4,by rw[e];exact l2.set _ x0 x1,ag,bg,aq,ω,ω⟩
   simp only[S8 rfl (ω:n<n+1) ah,ax,Ad,y1,y2];by_cases z:u[off+n]-b>=0
   .have c9:g*Al v<=Al (u.drop off):=(by have:=Int.mul_nonneg (Int.le_of_lt ap) z;omega);have R:g=q:=by
     rcases Int.lt_or_le q g with h|h
     .exfalso;have:(q+1)*Al v<=g*Al v:=Int.mul_le_mul_of_nonneg_right ω ω;omega
     .omega
    have y3:Cx (u[off+n]-b)=u[off+n]-b:=G7 ω ω;have y4:Cx g=g:=G7 ω ω;rw[As z,Am,y3,y4,He (n:=off+n) ω];refine⟨_,rfl,?_⟩;rw[R];refine fin _ (u[off+n]-b) o rfl ho I z ω M ?_;rw[Nz _ ah,ax];rw[R]at f;exact al6 f
   .have R:g=q+1:=by
     have h1:1000000000 ^ n*(u[off+n]-b)<=1000000000 ^ n*(-1):=Int.mul_le_mul_of_nonneg_left ω (Int.le_of_lt ap);rcases Int.lt_or_le q g with h|h
     .omega
     .exfalso;have:g*Al v<=q*Al v:=Int.mul_le_mul_of_nonneg_right h ω;omega
    rw[Ay z,Aq];refine Ee (λ(c,i,j)=>∃k:Nat,i=k/\k<=n/\j.length=u.length/\Ci j/\j.take off=u.take off/\j.drop (off+k)=o.drop (off+k)/\0<=c/\c<=1/\Al j+1000000000 ^ (off+k)*c=Al o+1000000000 ^ off*Al (v.take k)) (λ(_,i,_)=>n-i.toNat) (λ(c,j)=>j.length=u.length/\Ci j/\j.take off=u.take off/\j.drop (off+n)=o.drop (off+n)/\0<=c/\c<=1/\Al j+1000000000 ^ (off+n)*c=Al o+1000000000 ^ off*Al v) ⟨0,rfl,ω,ho,I,M,rfl,ω,ω,by simp[Al]⟩ ?_ ?_
    .rintro⟨c,i,j⟩ ⟨k,rfl,hk,h3,N,V,Z,b4,b0,D⟩;rcases Ch k n with h|h
     .have E:off+k<j.length:=ω;have J:k<v.length:=ω;have hx:=N.get E;have hy:=hv.get J;have e4:=Mz h ω;have e5:decide ((k:Int)<(n:Int))=true:=As ω;have z1:Cx (j[off+k]+v[k])=j[off+k]+v[k]:=G7 ω ω;have z2:Cx (j[off+k]+v[k]+c)=j[off+k]+v[k]+c:=G7 ω ω;generalize hs:j[off+k]+v[k]+c=s at z2;have G:0<=s:=ω;have ac:s<2000000000:=ω;refine .inl ⟨(s / 1000000000,((k+1:Nat):Int),j.set (off+k) (s % 1000000000)),?_,⟨k+1,rfl,ω,by simpa using h3,N.set _ ω ω,?_,?_,ω,ω,?_⟩,ζ⟩
      .simp only[e5,Am,S8 rfl (ω:k<n+1) E,Ek rfl J,Ad,z1,hs,z2,Akr G (show s<=_ by omega) (show (0:Int)<1000000000 by decide),L9 G (show (0:Int)<1000000000 by decide),e4];rw[He (n:=off+k) ω]
      .rw[take_set_of_le ω];exact V
      .rw[drop_set_of_lt ω,show off+(k+1)=(off+k)+1 by omega,<-drop_drop,Z,drop_drop]
      .rw[Nz _ E,G8 v J,show off+(k+1)=(off+k)+1 by omega,Int.pow_succ];have ay:=Int.mul_ediv_add_emod s 1000000000;have pk:(1000000000:Int) ^ (off+k)=1000000000 ^ off*1000000000 ^ k:=Int.pow_add ..;rw[pk]at D ⊢;exact al7 hs ay D
     .have aj:k=n:=ω;subst aj;refine .inr ⟨(c,j),ψ,h3,N,V,Z,b4,b0,?_⟩;rw[Ih ω]at D;exact D
    .rintro⟨c,j⟩ ⟨h3,N,V,Z,b4,b0,D⟩;have ai:off+n<j.length:=ω;obtain⟨r1,r2,r3⟩:=main j h3 N V (Z.trans L);have bj:j[off+n]=u[off+n]:=(by have:=congrArg head? (Z.trans L);rw[head?_drop,head?_drop,Bt ai,Bt X]at this;exact Eo this);have be:Al (u.drop off)-q*Al v=Al ((j.drop off).take n)+1000000000 ^ n*(u[off+n]-b+c):=(by apply Alh (k:=off);rw[r3,pa]at D;rw[R]at f;rw[pa]at f;exact al8 f D);have bl:u[off+n]-b+c=0:=by
      have bh:(q+1)*Al v=q*Al v+Al v:=(by grind);rcases Int.lt_or_le (u[off+n]-b+c) 0 with h|h
      .exfalso;have h1:1000000000 ^ n*(u[off+n]-b+c)<=1000000000 ^ n*(-1):=Int.mul_le_mul_of_nonneg_left ω (Int.le_of_lt ap);omega
      .omega
     have y5:Ac c=c:=Cj ω ω;have y6:Ac (u[off+n]-b+c)=0:=(by rw[bl];rfl);have y7:Cx (0:Int)=0:=rfl;have y8:Ba (g-1)=q:=(by rw[R,Ba,Du ω ω];omega);have y9:Cx q=q:=G7 ω ω;simp only[S8 rfl (ω:n<n+1) ai,Ad,y5,y6,y7,y8,y9];rw[He (n:=off+n) ω];refine⟨_,rfl,?_⟩;refine fin _ 0 j rfl h3 N ω ω V ?_;rw[Nz _ ai,bj];rw[R]at f;exact al9 D f ω
theorem A5r (a:List Int) (m:Int):Akg a m=Xe a m:=rfl
theorem A5s (ht:1<=t) (b:t<1000000000) (hd:d*(t+1)+r=1000000000) (g:0<=r) (c:r<=t):500000000<=d*t:=by
 have f:0<=d:=by
  rcases Int.lt_or_le d 0 with h|h
  .exfalso;have:d*(t+1)<=(-1)*(t+1):=Int.mul_le_mul_of_nonneg_right ω ω;omega
  .exact h
 have e:d*(t+1)=d*t+d:=by grind
 rcases Int.lt_or_le t 2 with h|h
 .have:t=1:=ω;subst this;omega
 .rcases Int.lt_or_le d 2 with h2|h2
  .have:d=0\/d=1:=ω;rcases this with rfl|rfl <;> omega
  .have h3:2*(t-1)<=d*(t-1):=Int.mul_le_mul_of_nonneg_right h2 ω;have i:d*(t-1)=d*t-d:=(by grind);omega
theorem bl1 (P t d:Int):P*t*d=P*(d*t):=by grind
theorem bl2 {K Q S:Int} (h:o=u-X*(q*V)) (b:u+V*(X*1000000000)*Q=S):o+V*X*(q+1000000000*Q)=S:=by grind
set_option maxHeartbeats 1000000 in
theorem Ali (m n:Nat) (hm:Bp m<274877906944) (hn:Bp n<274877906944) (G:n≠0):Uq (Ah m) (Ah n)=some (Ah (m / n),Ah (m % n)):=by
 unfold Uq;rw[Vj m n ω ω,Ad];unfold Bp at hm hn;by_cases g:m<n
 .rw[show F8 m n = -1 by rw[F8,Au g],As (by decide:(-1:Int)<0),Am,Ds ζ,Ad,Nat.div_eq_of_lt g,Nat.mod_eq_of_lt g,Hn];rfl
 .rw[Ay (show ¬F8 m n<0 by rw[F8,Ar g];split <;> decide),Aq];have be:(Ah n).length<=(Ah m).length:=I4 ω;have b0:(Ah n).length≠0:=λe=>Ka G (Fu.1 e);by_cases h1:(Ah n).length=1
  .rw[Ew (ω:((Ah n).length:Int)=1),Am];have a6:n<1000000000:=(by have:=Oy n;rw[show Bp n=1 from h1]at this;simpa using this);have am:Ah n = [(n:Int)]:=(by rw[Ox G,Nat.div_eq_of_lt a6,Hn,Nat.mod_eq_of_lt a6]);rw[am,show Ag [(n:Int)] 0=some (n:Int) from rfl,Ad,show Ba (n:Int)=n from Du ω ω,Alg m n (by unfold Bp;omega) ω ω,Ad];have az:m % n<n:=Nat.mod_lt _ ω;rw[X3 (m % n) ω,Ad]
  .rw[C7 (ω:((Ah n).length:Int)≠1),Aq];generalize hL:(Ah n).length=L at *;generalize hA:(Ah m).length=A at *;have w1:Ac ((L:Int)-1)=((L-1:Nat):Int):=ξ;have hi:L-1<(Ah n).length:=ω;have ht:=(F2 n).get hi;have ax:(Ah n)[L-1]≠0:=(by have:=(Afl n).2 (Ka G);rw[getLast_eq_getElem]at this;simpa[hL] using this);generalize y:(Ah n)[L-1]=t at *;have w2:Ba t=t:=Du ω ω;have w3:Ba (t+1)=t+1:=Du ω ω;rw[w1,Ek rfl hi,y,Ad,w2,w3,Mt δ δ ω,Ad];have U:=Int.mul_ediv_add_emod 1000000000 (t+1);have ah:=Int.emod_nonneg 1000000000 (ω:t+1≠0);have b9:=Int.emod_lt_of_pos 1000000000 (ω:0<t+1);have aq:1<=1000000000 / (t+1):=by
    rcases Int.lt_or_le (1000000000 / (t+1)) 1 with h|h
    .exfalso;have:(t+1)*(1000000000 / (t+1))<=(t+1)*0:=Int.mul_le_mul_of_nonneg_left ω ω;omega
    .exact h
   have ap:1000000000 / (t+1)<=500000000:=(by have:=Int.ediv_lt_of_lt_mul (a:=1000000000) (b:=500000001) (c:=t+1) ω ω;omega);obtain⟨d,hd⟩:∃d:Nat,1000000000 / (t+1)=(d:Int):=⟨(1000000000 / (t+1)).toNat,ω⟩;rw[hd]at U aq ap ⊢;obtain⟨u,ag,E,S,R⟩:=Ato (Ah m) d (F2 m) ω ω;obtain⟨v0,af,ae,D,b7⟩:=Ato (Ah n) d (F2 n) ω ω;rw[ag,Ad,A5r,af,Ad,Gi]at *;rw[hL]at ae;rw[hA]at E;rw[Xt rfl (ω:L<=v0.length),Ad];have x:=Mb (L-1);have pL:(1000000000:Int) ^ L=1000000000 ^ (L-1)*1000000000:=(by rw[<-Int.pow_succ];congr 1;omega);have Y:=G8 (Ah n) hi;rw[Ih ω,Gi,y]at Y;have ay:=Il (((F2 n).take (L-1)).u32);have Z:=Lq ((F2 n).take (L-1));rw[length_take,hL,Nat.min_eq_left ω]at Z;have bb:(n:Int)*d<1000000000 ^ L:=(by have a1:(n:Int)*d<(1000000000 ^ (L-1)*(t+1))*d:=Int.mul_lt_mul_of_pos_right (by have:(1000000000:Int) ^ (L-1)*(t+1)=1000000000 ^ (L-1)*t+1000000000 ^ (L-1):=(by grind);omega) ω;have a2:(1000000000 ^ (L-1)*(t+1))*(d:Int)=1000000000 ^ (L-1)*((t+1)*d):=(by grind);have a3:(1000000000:Int) ^ (L-1)*((t+1)*d)<=1000000000 ^ (L-1)*1000000000:=Int.mul_le_mul_of_nonneg_left ω (Int.le_of_lt x);omega);have M:Al (v0.take L)=(n:Int)*d:=by
    have e:=Px v0 L ω;have z:Al (v0.drop L)=0:=by
     have a1:=Age D L;have a2:=Il ((D.take L).u32);rcases Int.lt_or_le 0 (Al (v0.drop L)) with h|h
     .have:(1000000000:Int) ^ L*1<=1000000000 ^ L*Al (v0.drop L):=Int.mul_le_mul_of_nonneg_left h (Int.le_of_lt (Mb _));omega
     .omega
    rw[z]at e;omega
   have I:(v0.take L).length=L:=(by rw[length_take];omega);have f:=D.take L;have J:L-1<(v0.take L).length:=ω;have ak:500000000<=(d:Int)*t:=A5s (r:=1000000000 % (t+1)) ω ω (by rw[Int.mul_comm];exact U) ah ω;have l:500000000<=(v0.take L)[L-1]:=by
    have e:=G8 (v0.take L) J;rw[Ih ω,M]at e;have b1:=Lq (f.take (L-1));rw[length_take,I,Nat.min_eq_left ω]at b1;have b2:(1000000000:Int) ^ (L-1)*t*d<=n*d:=Int.mul_le_mul_of_nonneg_right ω ω;have b3:(1000000000:Int) ^ (L-1)*500000000<=1000000000 ^ (L-1)*(d*t):=Int.mul_le_mul_of_nonneg_left ak (Int.le_of_lt x);rw[bl1]at b2;rcases Int.lt_or_le (v0.take L)[L-1] 500000000 with h|h
    .exfalso;have b4:(1000000000:Int) ^ (L-1)*((v0.take L)[L-1]+1)<=1000000000 ^ (L-1)*500000000:=Int.mul_le_mul_of_nonneg_left ω (Int.le_of_lt x);have b5:(1000000000:Int) ^ (L-1)*((v0.take L)[L-1]+1)=1000000000 ^ (L-1)*(v0.take L)[L-1]+1000000000 ^ (L-1):=(by grind);omega
    .exact h
   generalize b6:v0.take L=v at *;have w4:Ac ((A:Int)-(L:Int))=((A-L:Nat):Int):=ξ;have w5:Ac (((A-L:Nat):Int)+1)=((A-L+1:Nat):Int):=ξ;rw[w4,w5,K2 rfl rfl (Nat.le_refl _) ω ω,Ad,E];have b8:=Il S.u32;have ar:(0:Int)<(n:Int)*d:=Int.mul_pos ω ω;refine J9 (λ(i,w,q)=>∃k:Nat,i=(k:Int)-1/\k<=A-L+1/\w.length=A+1/\Ci w/\q.length=A-L+1/\Ci q/\Al w<Al v*1000000000 ^ k/\Al w+Al v*1000000000 ^ k*Al (q.drop k)=(m:Int)*d) (λ(i,_,_)=>(i+1).toNat) (λ(w,q)=>w.length=A+1/\Ci w/\q.length=A-L+1/\Ci q/\Al w<Al v/\Al w+Al v*Al q=(m:Int)*d) ⟨A-L+1,ω,Nat.le_refl _,E,S,ψ,Ci.replicate _,?_,by rw[drop_of_length_le ψ];simp[Al,R]⟩ ?_ ?_
   .have aj:(m:Int)<1000000000 ^ A:=(by have:=Lq (F2 m);rwa [Gi,hA]at this);have a1:(m:Int)*d<1000000000 ^ A*500000000:=(by have c1:(m:Int)*d<=m*500000000:=Int.mul_le_mul_of_nonneg_left ω ω;have c2:(m:Int)*500000000<1000000000 ^ A*500000000:=Int.mul_lt_mul_of_pos_right aj δ;omega);have a2:(1000000000:Int) ^ (L-1)*500000000<=Al v:=(by have e:=G8 v J;rw[Ih ω]at e;have b1:=Il ((f.take (L-1)).u32);have b3:(1000000000:Int) ^ (L-1)*500000000<=1000000000 ^ (L-1)*v[L-1]:=Int.mul_le_mul_of_nonneg_left l (Int.le_of_lt x);omega);have a3:(1000000000:Int) ^ (L-1)*500000000*1000000000 ^ (A-L+1)<=Al v*1000000000 ^ (A-L+1):=Int.mul_le_mul_of_nonneg_right a2 (Int.le_of_lt (Mb _));have a4:(1000000000:Int) ^ (L-1)*500000000*1000000000 ^ (A-L+1)=1000000000 ^ A*500000000:=(by have:(1000000000:Int) ^ A=1000000000 ^ (L-1)*1000000000 ^ (A-L+1):=(by rw[<-Int.pow_add];congr 1;omega);rw[this];grind);rw[R];omega
   .rintro⟨i,w,q⟩ ⟨k,rfl,hk,ac,B,X,V,a7,s⟩;cases k with
    | zero=>exact .inr ⟨(w,q),ψ,ac,B,X,V,by simpa using a7,by simpa using s⟩
    | succ j=>
     have e0:((j+1:Nat):Int)-1=(j:Int):=ω;have e1:decide ((j:Int)>=0)=true:=As ω;have w6:Ac ((j:Int)+(L:Int))=((j+L:Nat):Int):=ξ;have w7:Ac (((j+L:Nat):Int)+1)=((j+L+1:Nat):Int):=ξ;have sA:R0 (A+1) (j:Int) ((j+L+1:Nat):Int)=some (j,j+L+1):=(by have c1:(0:Int)<=(j:Int):=ω;have c2:(j:Int)<=((j+L+1:Nat):Int):=ω;have c3:((j+L+1:Nat):Int)<=((A+1:Nat):Int):=ω;have c4:(j:Int)=0\/(j:Int)<((j+L+1:Nat):Int):=ω;rw[R0,Au ⟨c1,c2,c3,c4⟩];rfl);have au:Al (w.drop j)<Al v*1000000000:=by
      have s1:=Px w j ω;have s2:=Il ((B.take j).u32);rcases Int.lt_or_le (Al (w.drop j)) (Al v*1000000000) with h|h
      .exact h
      .exfalso;have:(1000000000:Int) ^ j*(Al v*1000000000)<=1000000000 ^ j*Al (w.drop j):=Int.mul_le_mul_of_nonneg_left h (Int.le_of_lt (Mb _));have e:Al v*(1000000000:Int) ^ (j+1)=1000000000 ^ j*(Al v*1000000000):=(by rw[Int.pow_succ];grind);omega
     obtain⟨qd,o,r1,r2,r3,r4,r5,r6,r7,r8⟩:=A5q v w j L f B I ω ω l ω au;have a8:j<q.length:=ω;have w8:Ac ((j:Int)-1)=(j:Int)-1:=ξ;have lG:Gf (A+1) o=some ():=(by rw[Gf,Au ω]);refine .inl ⟨((j:Int)-1,o,q.set j qd),?_,⟨j,rfl,ω,ω,r3,by simpa using X,V.set _ r4 r5,?_,?_⟩,ψ⟩
     .simp only[e0,e1,Am,w6,w7,sA,Ad,Nat.zero_add,show j+L+1-j=L+1 by omega,r1,lG,Ek rfl a8,w8,He rfl]
     .have s1:=Px o j ω;have s2:=Lq (r3.take j);rw[length_take,Nat.min_eq_left ω]at s2;have:(1000000000:Int) ^ j*(Al (o.drop j)+1)<=1000000000 ^ j*Al v:=Int.mul_le_mul_of_nonneg_left ω (Int.le_of_lt (Mb _));have e:(1000000000:Int) ^ j*(Al (o.drop j)+1)=1000000000 ^ j*Al (o.drop j)+1000000000 ^ j:=(by grind);rw[Int.mul_comm (Al v)];omega
     .have d1:(q.set j qd).drop j=qd::q.drop (j+1):=(by rw[drop_eq_getElem_cons (by simpa using a8),drop_set_of_lt ω];simp);rw[d1];simp only[Al];rw[Int.pow_succ]at s;exact bl2 (K:=0) r6 s
   .rintro⟨w,q⟩ ⟨h2,h3,h4,h5,h6,h7⟩;rw[M]at h6 h7;have ad:=Il h3.u32;have ba:=Il h5.u32;have N:=(Int.ediv_emod_unique ar (r:=Al w) (q:=Al q) (a:=(m:Int)*d)).2 ⟨by rw[<-h7],ad,h6⟩;have ao:(m*d) / (n*d)=m / n:=Nat.mul_div_mul_right m n ω;have ai:(m*d) % (n*d)=(m % n)*d:=Nat.mul_mod_mul_right d m n;have av:Al q=((m / n:Nat):Int):=(by rw[<-N.1,<-ao];simp);have aa:Al w=(((m % n)*d:Nat):Int):=(by rw[<-N.2,<-ai];simp);have ab:Bp ((m % n)*d)<1099511627776:=(by have g:=Lq h3;have:Bp ((m % n)*d)<=A+1:=(by apply Kq;rw[h2,aa]at g;have e:((1000000000 ^ (A+1):Nat):Int)=1000000000 ^ (A+1):=(by rw[Int.natCast_pow];rfl);omega);omega);dsimp only;rw[S6 w ω,Ad,Mu h3 aa,Alg _ d ab ω ω,Ad,S6 q ω,Ad,Mu h5 av,Nat.mul_div_cancel _ ω]
theorem Atr (h:Bp n<=2):n<1000000000000000000:=by have h1:=Oy n;have h2:1000000000 ^ Bp n<=1000000000 ^ 2:=Nat.pow_le_pow_right δ h;omega
theorem Ats (n:Nat) (h:Bp n<=2):Xd (Ah n)=some ((n:Int),true):=by
 unfold Xd;unfold Bp at h;have ha:=F2 n;refine J9 (λ(w,i)=>∃k:Nat,i=k/\k<=(Ah n).length/\w=Al ((Ah n).drop ((Ah n).length-k))) (λ(_,i)=>(Ah n).length-i.toNat) (λe=>match e with|.inl _=>False | .inr w=>w=n) ⟨0,rfl,ω,by simp[Al]⟩ ?_ ?_
 .rintro⟨w,i⟩ ⟨k,rfl,hk,rfl⟩;rcases Ch k (Ah n).length with c|hge
  .have A:decide ((k:Int)<((Ah n).length:Int))=true:=As ω;have u:Ac (((Ah n).length:Int)-1)=((Ah n).length:Int)-1:=ξ;have s:Ac (((Ah n).length:Int)-1-(k:Int))=(((Ah n).length-1-k:Nat):Int):=ξ;have hj:(Ah n).length-1-k<(Ah n).length:=ω;have hx:=ha.get hj;have y:=Age ha ((Ah n).length-k);have b:=Lq (ha.drop ((Ah n).length-k));rw[length_drop,show (Ah n).length-((Ah n).length-k)=k by omega]at b;have x:(1000000000:Int) ^ k<=1000000000:=(by have:k=0\/k=1:=ω;rcases this with rfl|rfl <;> decide);have q:Ba (Ah n)[(Ah n).length-1-k]=(Ah n)[(Ah n).length-1-k]:=Du ω ω;have l:Ba (18446744073709551615-(Ah n)[(Ah n).length-1-k])=18446744073709551615-(Ah n)[(Ah n).length-1-k]:=Du ω ω;have j:Ba (Al ((Ah n).drop ((Ah n).length-k))*1000000000)=Al ((Ah n).drop ((Ah n).length-k))*1000000000:=Du ω ω;have g:Ba (Al ((Ah n).drop ((Ah n).length-k))*1000000000+(Ah n)[(Ah n).length-1-k])=Al ((Ah n).drop ((Ah n).length-k))*1000000000+(Ah n)[(Ah n).length-1-k]:=Du ω ω;have z:=Mz c ω;have hc:¬Al ((Ah n).drop ((Ah n).length-k))>(18446744073709551615-(Ah n)[(Ah n).length-1-k]) / 1000000000:=ω;refine .inl ⟨(Al ((Ah n).drop ((Ah n).length-k))*1000000000+(Ah n)[(Ah n).length-1-k],((k+1:Nat):Int)),?_,⟨k+1,rfl,ω,?_⟩,ζ⟩
   .simp only[A,Am,u,s,Ek rfl hj,Ad,q,l,Mt (show 0<=18446744073709551615-(Ah n)[(Ah n).length-1-k] by omega) (show 18446744073709551615-(Ah n)[(Ah n).length-1-k]<=_ by omega) (show (0:Int)<1000000000 by decide),Ay hc,Aq,j,g,z]
   .have hd:(Ah n).drop ((Ah n).length-(k+1))=(Ah n)[(Ah n).length-1-k]::(Ah n).drop ((Ah n).length-k):=(by rw[show (Ah n).length-(k+1)=(Ah n).length-1-k by omega,drop_eq_getElem_cons hj];congr 2;omega);rw[hd];simp only[Al];omega
  .have:k=(Ah n).length:=ω;subst this;refine .inr ⟨.inr _,by simp;rfl,?_⟩;exact Gi n
 .rintro (e|e) f
  .exact f.elim
  .simp only at f ⊢;rw[f]
theorem A5t (m n:Nat) (s:Bp m<274877906944) (l:Bp n<274877906944):Aab (Ah m) (Ah n)=some (Ah (Nat.gcd m n)):=by
 unfold Aab;refine J9 (λ(a,b)=>∃x y:Nat,a=Ah x/\b=Ah y/\Bp x<274877906944/\Bp y<274877906944/\Nat.gcd x y=Nat.gcd m n) (λ(_,b)=>(Al b).toNat) (λe=>match e with|.inl r=>r=Ah (Nat.gcd m n) | .inr r=>r=Ah (Nat.gcd m n)) ⟨m,n,rfl,rfl,s,l,rfl⟩ ?_ ?_
 .rintro⟨a,b⟩ ⟨x,y,rfl,rfl,hx,hy,hg⟩;by_cases c:y=0
  .subst c;refine .inr ⟨.inr (Ah x),by rw[Hn];rfl,?_⟩;show Ah x=_;rw[<-hg,Nat.gcd_zero_right]
  .have z:(Ah y).length≠0:=λe=>Ka c (Fu.1 e);have k:decide (((Ah y).length:Int)>0)=true:=As ω;by_cases h2:Bp x<=2/\Bp y<=2
   .have i:=Atr h2.1;have h:=Atr h2.2;unfold Bp at h2;simp only[k,Am,As (ω:((Ah x).length:Int)<=2),As (ω:((Ah y).length:Int)<=2),Ad,Ats x h2.1,Ats y h2.2];refine .inr (A32 (Ee (λ(p,q)=>∃u v:Nat,p=u/\q=v/\u<1000000000000000000/\v<1000000000000000000/\Nat.gcd u v=Nat.gcd m n) (λ(_,q)=>q.toNat) (λ(p,q)=>p=((Nat.gcd m n:Nat):Int)/\Nat.gcd m n<1000000000000000000) ⟨x,y,rfl,rfl,i,h,hg⟩ ?_ ?_))
    .rintro⟨p,q⟩ ⟨u,v,rfl,rfl,hu,hv,f⟩;by_cases j:v=0
     .subst j;refine .inr ⟨((u:Int),(0:Int)),rfl,?_⟩;rw[Nat.gcd_zero_right]at f;exact⟨by rw[f],ω⟩
     .refine .inl ⟨((v:Int),((u % v:Nat):Int)),?_,⟨v,u % v,rfl,rfl,hv,by have:=Nat.mod_lt u (ω:v>0);omega,?_⟩,?_⟩
      .simp only[As (ω:(v:Int)>0),Am,L9 (ω:(0:Int)<=u) (ω:(0:Int)<v),Ad];rfl
      .rw[<-f,Nat.gcd_comm v,<-Nat.gcd_rec,Nat.gcd_comm]
      .have:=Nat.mod_lt u (ω:v>0);simp only[Int.toNat_natCast];exact this
    .rintro⟨p,q⟩ ⟨rfl,A⟩;dsimp only;rw[X3 _ ω];exact⟨_,rfl,_,rfl,rfl⟩
   .refine .inl ⟨(Ah y,Ah (x % y)),?_,⟨y,x % y,rfl,rfl,hy,by have:=I4 (Nat.mod_le x y);omega,?_⟩,?_⟩
    .have:(bif ((Ah x).length:Int)<=(2:Int) then some (decide (((Ah y).length:Int)<=(2:Int))) else some false)=some false:=by
      unfold Bp at h2;by_cases hc:(Ah x).length<=2
      .rw[As (ω:((Ah x).length:Int)<=2),Am,Ay (ω:¬((Ah y).length:Int)<=2)]
      .rw[Ay (ω:¬((Ah x).length:Int)<=2),Aq]
     simp only[k,Am];rw[this,Ad,Aq,Ali x y hx hy c,Ad]
    .rw[<-hg,Nat.gcd_comm y,<-Nat.gcd_rec,Nat.gcd_comm]
    .simp only[Gi];have:=Nat.mod_lt x (ω:y>0);omega
 .rintro (e|e) g
  .simp only at g ⊢;rw[g]
  .simp only at g ⊢;rw[g]
theorem Abo:Ah 1 = [1]:=by rw[Ox δ,show 1 / 1000000000=0 by decide,Hn];rfl
theorem Alj (n:Nat):Up (Ah n)=some (decide (n=1)):=by
 unfold Up;by_cases h0:n=0
 .subst h0;rw[Hn];rfl
 .rw[Ox h0];by_cases h1:n / 1000000000=0
  .rw[h1,Hn];have e:Ag [((n % 1000000000:Nat):Int)] 0=some ((n % 1000000000:Nat):Int):=rfl;simp only[length_singleton,e,Ad];have:(((1:Nat):Int)==(1:Int))=true:=rfl;rw[this,Am];congr 1;by_cases b:n=1
   .subst b;rfl
   .rw[C7 ω,Ay b]
  .have c:(Ah (n / 1000000000)).length≠0:=λe=>Ka h1 (Fu.1 e);rw[C7 ζ,Aq,Ay ω]
def Cb (b:Bool) (n d:Nat):Ao:=if n=0 then ⟨false,[],[1]⟩ else ⟨b,Ah (n / Nat.gcd n d),Ah (d / Nat.gcd n d)⟩
theorem P6 (b:Bool) (n d:Nat) (g:Bp n<274877906944) (hd:Bp d<274877906944):Pi ⟨b,Ah n,Ah d⟩=some (Cb b n d):=by
 unfold Pi Aej;dsimp only;by_cases h0:n=0
 .subst h0;rw[Hn];rfl
 .have h:(Ah n).length≠0:=λe=>Ka h0 (Fu.1 e);rw[C7 ω,Aq,Alj,Ad,Cb,Ar h0];by_cases h1:d=1
  .subst h1;rw[As rfl,Am];simp
  .rw[Ay h1,Aq,A5t n d g hd,Ad,Alj,Ad];by_cases hg:Nat.gcd n d=1
   .rw[As hg,Am,hg];simp
   .have f:Nat.gcd n d≠0:=(by have:=Nat.gcd_pos_of_pos_left d (ω:0<n);omega);have c:Bp (Nat.gcd n d)<274877906944:=(by have:=I4 (Nat.gcd_le_left d (ω:0<n));omega);rw[Ay hg,Aq,Ali n _ g c f,Ad,Ali d _ hd c f,Ad];rfl
def nv (a:Ao):Nat:=if (Al a.U).toNat=0\/(Al a.B).toNat=0 then 0 else (Al a.U).toNat
def dv (a:Ao):Nat:=if (Al a.U).toNat=0\/(Al a.B).toNat=0 then 1 else (Al a.B).toNat
def sv (a:Ao):Bool:=if (Al a.U).toNat=0\/(Al a.B).toNat=0 then false else a.N
structure RB (k:Nat) (a:Ao):Prop where
 num:Ny a.U
 den:Ny a.B
 nl:a.U.length<=k
 dl:a.B.length<=k
theorem A5u (h:Ny l):Al l<=5*1000000000 ^ l.length-5:=by induction l with| nil=>simp[Al]| cons d l ih=>have h1:=h d ψ;have h2:=ih (λx hx=>h x (by simp[hx]));simp only[Al,D8];rw[Int.pow_succ];omega
theorem A5v (h:Ny l):Al l<1000000000 ^ (l.length+1):=by have h1:=A5u h;have hp:=Mb l.length;rw[Int.pow_succ];omega
theorem Agf (h:Ny l):Bp (Al l).toNat<=l.length+1:=by
 apply Kq;have h1:=A5v h;have h2:=Il h;have e:((1000000000 ^ (l.length+1):Nat):Int)=1000000000 ^ (l.length+1):=by rw[Int.natCast_pow];rfl
 omega
theorem RB.mono {j:Nat} (h:RB j a) (hk:j<=k):RB k a:=⟨h.num,h.den,by have:=h.nl;omega,by have:=h.dl;omega⟩
theorem S9:Bp 1=1:=by unfold Bp;rw[Abo];rfl
theorem RB.nv (h:RB k a):Bp (nv a)<=k+1:=by
 unfold Ab.nv;split
 .simp[Aa6]
 .have:=Agf h.num;have:=h.nl;omega
theorem RB.dv (h:RB k a):Bp (dv a)<=k+1:=by
 unfold Ab.dv;split
 .simp[S9]
 .have:=Agf h.den;have:=h.dl;omega
theorem F4 (a:Ao):dv a≠0:=by
 unfold dv;split
 .decide
 .omega
theorem Ta (a:Ao) (k:Nat) (h:RB k a) (hk:k<274877906900):No a=some ⟨sv a,Ah (nv a),Ah (dv a)⟩:=by
 unfold No;have h1:=h.nl;have h2:=h.dl;rw[Atl _ h.num ω,Ad,Atl _ h.den ω,Ad];unfold nv dv sv;generalize (Al a.U).toNat=x;generalize (Al a.B).toNat=y;by_cases hx:x=0
 .subst hx;simp only[Hn,true_or,if_true,Abo];rfl
 .have c:(Ah x).length≠0:=λe=>Ka hx (Fu.1 e);by_cases hy:y=0
  .subst hy;simp only[Hn,or_true,if_true,Abo,C7 (ω:((Ah x).length:Int)≠0),Aq];rfl
  .have b:(Ah y).length≠0:=λe=>Ka hy (Fu.1 e);simp only[hx,hy,or_self,if_false,C7 (ω:((Ah x).length:Int)≠0),Aq,C7 (ω:((Ah y).length:Int)≠0),Ad]
end Go.Ab
