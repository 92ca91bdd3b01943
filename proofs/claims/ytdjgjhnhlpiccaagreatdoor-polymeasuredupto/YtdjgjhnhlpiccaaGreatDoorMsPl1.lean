/- Plain laws: what the plain functions answer. -/
import Derived.Test.YtdjgjhnhlpiccaaGreatDoorMsPl0
open List
namespace Go.Ab
open Go
mutual
theorem Atb (data:List Ai):∀(i:Ah) (t:Af) (d:Nat),Di data i t=some d->d<=6*Bv i
 | ⟨n,kids⟩,t,d,h=>by
  rw[Lu]at h
  simp only[Bv]
  simp only at h
  split at h
  .split at h
   .have:=Abd data kids _ d h;omega
   .cases h
  .split at h
   .split at h
    .cases h;omega
    .cases h
   .split at h
    .split at h
     .have:=Atc data kids _ d h;omega
     .cases h
    .split at h
     .cases h;omega
     .cases h
theorem Abd (data:List Ai):∀(is:List Ah) (ts:List Af) (d:Nat),Cx data is ts=some d->d<=6*Cb is
 | [],[],d,h=>by simp only[Cx]at h;cases h;omega
 | i::is,t::ts,d,h=>by
  rw[Nm]at h
  cases h1:Di data i t with
  | none=>rw[h1]at h;cases h
  | some a=>
   rw[h1,Ad]at h
   cases h2:Cx data is ts with
   | none=>rw[h2]at h;cases h
   | some b=>
    rw[h2]at h
    cases h
    have:=Atb data i t a h1
    have:=Abd data is ts b h2
    simp only[Cb];omega
 | [],_::_,d,h=>by simp only[Cx]at h;cases h
 | _::_,[],d,h=>by simp only[Cx]at h;cases h
theorem Atc (data:List Ai):∀(es:List Ah) (t:Af) (d:Nat),Fw data es t=some d->d<=6*Cb es
 | [],t,d,h=>by simp only[Fw]at h;cases h;omega
 | ⟨n,kids⟩::es,t,d,h=>by
  rw[U2]at h
  simp only at h
  cases h1:Gx data t n with
  | none=>rw[h1]at h;cases h
  | some ts=>
   rw[h1,Ad]at h
   cases h2:Cx data kids ts with
   | none=>rw[h2]at h;cases h
   | some a=>
    rw[h2,Ad]at h
    cases h3:Fw data es t with
    | none=>rw[h3]at h;cases h
    | some b=>
     rw[h3]at h
     cases h
     have:=Abd data kids ts a h2
     have:=Atc data es t b h3
     simp only[Cb,Bv];omega
end
variable {data:List Ai} {o:Option Nat} {α:Type}
def Xq (data:List Ai) (e:Ah) (t:Af):Option Nat:=(Gx data t e.U).bind λts=>(Cx data e.K ts).map (1 + ·)
theorem A5l (data:List Ai) (e:Ah) (es:List Ah) (t:Af):Fw data (e::es) t=(Xq data e t).bind λa=>(Fw data es t).map (a + ·):=by rw[U2];unfold Xq;cases Gx data t e.U with| none=>rfl| some ts=>simp only[Ad];cases Cx data e.K ts <;> rfl
theorem A5m (data:List Ai) (e:Ah) (t:Af) (d:Nat) (h:Xq data e t=some d):d<=6*Bv e:=by
 unfold Xq at h;cases h1:Gx data t e.U with
 | none=>rw[h1]at h;cases h
 | some ts=>rw[h1,Ad]at h;cases h2:Cx data e.K ts with| none=>rw[h2]at h;cases h| some a=>rw[h2]at h;cases h;have:=Abd data _ ts a h2;have:=El e;show 1+a<=_;omega
def Dg (v:Int) (o:Option Nat):Prop:=(v = -1/\∀d,o=some d->6<d)\/∃d:Nat,o=some d/\v=d
theorem Dg.clip {v:Int} (h:Dg v o):(if v>6 then -1 else v)=Ji o:=by
 rcases h with⟨rfl,h⟩|⟨d,rfl,rfl⟩
 .rw[Ar ω,As2 h]
 .by_cases hd:6<d
  .rw[Av ω,Ak9 hd]
  .rw[Ar ω,Pj ω]
theorem Age {p:Option Nat} {acc:Nat} {d:Nat} (h:(o.bind λa=>p.map (a + ·)).map (acc + ·)=some d):∃a b,o=some a/\p=some b/\d=acc+(a+b):=by
 cases o with
 | none=>cases h
 | some a=>cases p with| none=>cases h| some b=>exact⟨a,b,rfl,rfl,by simp at h;omega⟩
theorem A5n (hz:Szv data) (hs:Ml data) (b1:List (ByteArray×Int)) (b2:List (ByteArray×List Ap)) (vars:List Af) (J I:Int) (G:List Af):∀k:Nat, (∀(i:Ah) (t:Af),3*Bv i<=k->Bv i<=1048576->B3 t<=200->∃v,R4 k t i b1 b2 data vars J I G=some v/\Dg v (Di data i t)) /\ (∀(is:List Ah) (ts:List Af),3*Cb is+1<=k->Cb is<=1048576->(∀t∈ts,B3 t<=200)->∃v,Uo k ts is b1 b2 data vars J I G=some v/\Dg v (Cx data is ts)) /\ (∀(e:Ah) (t:Af),3*Bv e<=k->Bv e<=1048576->B3 t<=200->∃v,Up k t e b1 b2 data vars J I G=some v/\Dg v (Xq data e t)):=by
 intro k;induction k with
 | zero=>exact⟨λi t h=>by have:=El i;omega,λis ts h=>ω,λi t h=>by have:=El i;omega⟩
 | succ k ih=>
  obtain⟨Y,L,Z⟩:=ih;have B:∀o:Option Nat,o.map (0 + ·)=o:=(by intro o;cases o <;> simp);have c:∀d:Nat,(none:Option Nat)=some d->6<d:=λd h=>by cases h
  refine⟨?_,?_,?_⟩
  .intro i t hk hi ht;have ad:=El i;have M:=Pi i.K;rw[R4,Lu];by_cases V:t.G=6
   .simp only[Eu V,Am,Av V];by_cases h0:i.U=0
    .simp only[Eu h0,Am,Av h0];obtain⟨p,p1,p2⟩:=L i.K t.R ω ω (λa ha=>by have:=Kc ha;have:=J0 t;omega);rw[p1];exact⟨p,rfl,p2⟩
    .simp only[C3 h0,Aq,Ar h0];exact⟨_,rfl,.inl ⟨rfl,c⟩⟩
   .simp only[C3 V,Aq,Ar V];by_cases U:t.G=7
    .simp only[Eu U,Am,Av U];by_cases a1:0<=i.U
     .by_cases a2:i.U<=6
      .by_cases a3:i.K.length=0
       .rw[As (show i.U>=0 from a1),As a2,Av ⟨a1,a2,a3⟩,Eu ω];exact⟨_,rfl,.inr ⟨i.U.toNat,rfl,ω⟩⟩
       .rw[As (show i.U>=0 from a1),As a2,Ar (λh=>a3 h.2.2),C3 ω];exact⟨_,rfl,.inl ⟨rfl,c⟩⟩
      .rw[As (show i.U>=0 from a1),A5 a2,Ar (λh=>a2 h.2.1)];exact⟨_,rfl,.inl ⟨rfl,c⟩⟩
     .rw[A5 (show ¬i.U>=0 from a1),Ar (λh=>a1 h.1)];exact⟨_,rfl,.inl ⟨rfl,c⟩⟩
    .simp only[C3 U,Aq,Ar U];by_cases X:t.G=5
     .simp only[Eu X,Am,Av X];by_cases h0:i.U=0
      .simp only[Gb h0,Aq,Av h0];have key:∀(m j acc:Nat),j+m=i.K.length->acc<=10000000->∃z,Ak (S:=(Int×Int)) (E:=(Int⊕Int)) (λ(D,v8)=>
         bif v8<(i.K.length:Int) then ((Ag i.K v8).bind λv9=> (Up k t v9 b1 b2 data vars J I G).bind λv11=> bif v11<(0:Int) then some (.inr (.inl (-1))) else (bif D>(6:Int) then some (.inr (.inl (-1))) else some (.inl ((Ac (D+v11)),(Ac (v8+1)))))) else some (.inr (.inr D))) ((acc:Int),(j:Int))=some z/\Dg (match z with|.inl v=>v | .inr v=>v) ((Fw data (i.K.drop j) t).map (acc + ·)):=by
        intro m;induction m with
        | zero=>intro j acc hj s;have:j=i.K.length:=ω;subst this;exact⟨.inr (acc:Int),Gf ψ,.inr ⟨acc,by simp[Fw],rfl⟩⟩
        | succ m q=>
         intro j acc hj s;have f:i.K[j]? = some i.K[j]:=Bs ω;generalize i.K[j]=e at f;have aa:=Kd (Bu f);rw[Mm f,A5l];obtain⟨v,A,v2⟩:=Z e t ω ω ht;rcases v2 with⟨rfl,v2⟩|⟨a,a1,rfl⟩
         .refine⟨.inl (-1),Gf ?_,.inl ⟨rfl,λd h=>?_⟩⟩
          .simp only[As (ω:(j:Int)<(i.K.length:Int)),Am,Br rfl f,Ad,A];rfl
          .obtain⟨a,b,ha,hb,rfl⟩:=Age h;have:=v2 a ha;omega
         .have N:=A5m data e t a a1;by_cases hb:acc>6
          .refine⟨.inl (-1),Gf ?_,.inl ⟨rfl,λd h=>?_⟩⟩
           .simp only[As (ω:(j:Int)<(i.K.length:Int)),Am,Br rfl f,Ad,A,A5 (ω:¬(a:Int)<0),As (ω:(acc:Int)>6),Aq]
           .obtain⟨a,b,ha,hb,rfl⟩:=Age h;omega
          .have ew:Ac ((acc:Int)+(a:Int))=((acc+a:Nat):Int):=ξ;obtain⟨z,g,z2⟩:=q (j+1) (acc+a) ω ω;refine⟨z,?_,?_⟩
           .rw[Lh (s':=(((acc+a:Nat):Int),((j+1:Nat):Int)))]
            .exact g
            .simp only[As (ω:(j:Int)<(i.K.length:Int)),Am,Br rfl f,Ad,A,A5 (ω:¬(a:Int)<0),A5 (ω:¬(acc:Int)>6),Aq,ew,C5 (show j<i.K.length by omega) ω]
           .have B:∀o:Option Nat,(((some a:Option Nat).bind λa=>o.map (a + ·)).map (acc + ·))=o.map (acc+a + ·):=(by intro o;cases o <;> simp[Nat.add_assoc]);rw[a1,B];exact z2
       obtain⟨z,g,z2⟩:=key i.K.length 0 0 ω ω;have g:Ak _ ((0:Int),(0:Int))=some z:=g;rw[g,Ad];rw[drop_zero,B]at z2;cases z with| inl v=>exact⟨v,rfl,z2⟩| inr v=>exact⟨v,rfl,z2⟩
      .simp only[F2 h0,Am,Ar h0];exact⟨_,rfl,.inl ⟨rfl,c⟩⟩
     .simp only[C3 X,Aq,Ar X];by_cases h0:i.U=0
      .simp only[Eu h0,Am];by_cases a3:i.K.length=0
       .rw[Av ⟨h0,a3⟩,Eu ω];exact⟨_,rfl,.inr ⟨0,rfl,rfl⟩⟩
       .rw[Ar (λh=>a3 h.2),C3 ω];exact⟨_,rfl,.inl ⟨rfl,c⟩⟩
      .simp only[C3 h0,Aq];rw[Ar (λh=>h0 h.1)];exact⟨_,rfl,.inl ⟨rfl,c⟩⟩
  .intro is ts hk hi ht;have M:=Pi is;rw[Uo];by_cases hl:ts.length=is.length
   .rw[Gb ω];simp only[Aq];have key:∀(m j acc:Nat),j+m=is.length->acc<=10000000->∃z,Ak (S:=(Int×Int)) (E:=(Int⊕Int)) (λ(v5,R)=>
      bif R<(ts.length:Int) then ((Ag ts R).bind λD=> (Ag is R).bind λv9=> (R4 k D v9 b1 b2 data vars J I G).bind λv10=> bif v10<(0:Int) then some (.inr (.inl (-1))) else (bif v5>(6:Int) then some (.inr (.inl (-1))) else some (.inl ((Ac (v5+v10)),(Ac (R+1)))))) else some (.inr (.inr v5))) ((acc:Int),(j:Int))=some z/\Dg (match z with|.inl v=>v | .inr v=>v) ((Cx data (is.drop j) (ts.drop j)).map (acc + ·)):=by
     intro m;induction m with
     | zero=>intro j acc hj s;have:j=ts.length:=ω;subst this;refine⟨.inr (acc:Int),Gf ψ,.inr ⟨acc,?_,rfl⟩⟩;rw[drop_of_length_le ω,drop_of_length_le ω];simp[Cx]
     | succ m q=>
      intro j acc hj s;have f:is[j]? = some is[j]:=Bs ω;generalize is[j]=e at f;have hu:ts[j]? = some ts[j]:=Bs ω;generalize ts[j]=u at hu;have aa:=Kd (Bu f);rw[Mm f,Mm hu,Nm];obtain⟨v,A,v2⟩:=Y e u ω ω (ht u (Bu hu));rcases v2 with⟨rfl,v2⟩|⟨a,a1,rfl⟩
      .refine⟨.inl (-1),Gf ?_,.inl ⟨rfl,λd h=>?_⟩⟩
       .simp only[As (ω:(j:Int)<(ts.length:Int)),Am,Br rfl f,Br rfl hu,Ad,A];rfl
       .obtain⟨a,b,ha,hb,rfl⟩:=Age h;have:=v2 a ha;omega
      .have N:=Atb data e u a a1;by_cases hb:acc>6
       .refine⟨.inl (-1),Gf ?_,.inl ⟨rfl,λd h=>?_⟩⟩
        .simp only[As (ω:(j:Int)<(ts.length:Int)),Am,Br rfl f,Br rfl hu,Ad,A,A5 (ω:¬(a:Int)<0),As (ω:(acc:Int)>6),Aq]
        .obtain⟨a,b,ha,hb,rfl⟩:=Age h;omega
       .have ew:Ac ((acc:Int)+(a:Int))=((acc+a:Nat):Int):=ξ;obtain⟨z,g,z2⟩:=q (j+1) (acc+a) ω ω;refine⟨z,?_,?_⟩
        .rw[Lh (s':=(((acc+a:Nat):Int),((j+1:Nat):Int)))]
         .exact g
         .simp only[As (ω:(j:Int)<(ts.length:Int)),Am,Br rfl f,Br rfl hu,Ad,A,A5 (ω:¬(a:Int)<0),A5 (ω:¬(acc:Int)>6),Aq,ew,C5 (show j<is.length by omega) ω]
        .have B:∀o:Option Nat,(((some a:Option Nat).bind λa=>o.map (a + ·)).map (acc + ·))=o.map (acc+a + ·):=(by intro o;cases o <;> simp[Nat.add_assoc]);rw[a1,B];exact z2
    obtain⟨z,g,z2⟩:=key is.length 0 0 ω ω;have g:Ak _ ((0:Int),(0:Int))=some z:=g;rw[g,Ad];rw[drop_zero,drop_zero,B]at z2;cases z with| inl v=>exact⟨v,rfl,z2⟩| inr v=>exact⟨v,rfl,z2⟩
   .rw[F2 ω,Ak8 data is ts hl];exact⟨_,rfl,.inl ⟨rfl,c⟩⟩
  .intro e t hk f ht;have ae:=El e;rw[Up];unfold Xq Gx;rw[Abc hz t ht e.U,Ad];cases hf:Jh data t e.U with
   | none=>exact⟨-1,rfl,.inl ⟨rfl,c⟩⟩
   | some l=>
    have ab:=Xn hf;obtain⟨x,y,_,hx,_,hy,hl,a8⟩:=Ph hf;obtain⟨y6,_⟩:=hz x (Hc hx).2.2.2 y (Hc hy).2.2.2;have ac:l.length<=6:=(by rw[hl];simpa using y6);have a7:∀a∈F7 l (D7 data t.U e.U),B3 a<=200:=(Af4 (show Gx data t e.U=some _ by unfold Gx;rw[hf];rfl)).1;obtain⟨v,A,v2⟩:=L e.K (F7 l (D7 data t.U e.U)) ω ω a7;have hd:Dg (if v<0 then -1 else 1+v) (((some l).map λl=>F7 l (D7 data t.U e.U)).bind λts=>(Cx data e.K ts).map (1 + ·)):=by
     rw[Option.map_some,Ad];rcases v2 with⟨rfl,v2⟩|⟨a,a1,rfl⟩
     .refine .inl ⟨rfl,λd h=>?_⟩;cases ha:Cx data e.K (F7 l (D7 data t.U e.U)) with| none=>rw[ha]at h;cases h| some a=>rw[ha]at h;have:=v2 a ha;simp at h;omega
     .rw[a1,Ar ω];exact .inr ⟨1+a,rfl,ω⟩
    have a6:v = -1\/(0<=v/\v<=10000000):=by
     rcases v2 with⟨rfl,v2⟩|⟨a,a1,rfl⟩
     .exact .inl rfl
     .have:=Abd data _ _ a a1;right;omega
    refine⟨_,?_,hd⟩;simp only[okL,bnt,Aq,Xm data t.U e.U hs,Ad];refine F6 (D7 data t.U e.U) (λj=>((j:Int),F7 (l.take j) ((D7 data t.U e.U).take j))) (by simp[F7]) ω ?_ ?_
    .intro j b hj hb h1 h2 h3;have ha:l[j]? = some l[j]:=Bs ω;generalize l[j]=a at ha;have M:=Xo (l.take j) ((D7 data t.U e.U).take j);have:(l.take j).length<=6:=ζ;simp only[h1,h2,h3,Am,Ad,Br rfl ha,Af2 ha hb];rw[D2 ζ];cases b <;> simp
    .intro h1;refine⟨F7 l (D7 data t.U e.U),?_,?_⟩
     .simp only[h1];rw[Ii ω,Ii (Nat.le_refl _)];rfl
     .rw[A,Ad];rcases a6 with h|h
      .subst h;rfl
      .rw[A5 ω,Ar ω];simp only[Aq];rw[Ac,Cl] <;> omega
def Dj (vars:List Af) (res:Af) (v:Int):Option Af:=if v = -1 then some res else Ag vars v
def Ew (data:List Ai) (vars:List Af) (res:Af) (o:List (ByteArray×Int)):Prop:=∀p∈o,∀v i t,p.1=Pk v i->Dj vars res v=some t->p.2=Ji (Di data i t)
theorem Alh {α:Type}:∀(o:List (ByteArray×α)) (s:ByteArray) (v:α),∀p∈Gu o s v,p∈o\/p=(s,v)
 | [],s,v,p,h=>by simp only[Gu,Ea]at h;exact .inr h
 | q::o,s,v,p,h=>by
  unfold Gu at h;cases hq:(s==q.1) with
  | true=>
   rw[hq]at h;simp only[Am,Gi]at h;rcases h with h|h
   .exact .inr h
   .exact .inl (by simp[h])
  | false=>
   rw[hq]at h;simp only[Aq,Gi]at h;rcases h with h|h
   .exact .inl (by simp[h])
   .rcases Alh o s v p h with h|h
    .exact .inl (by simp[h])
    .exact .inr h
theorem A5o (A:Szv data) (B:Ml data) (b1:List (ByteArray×Int)) (b2:List (ByteArray×List Ap)) (vars:List Af) (res:Af) (f:Ew data vars res b1) (v:Int) (i:Ah) (t:Af) (ht:Dj vars res v=some t) (b:B3 t<=200) (hv:Ev v) (D:iR i) (hi:Bv i<=1048576) : ∃l,Nd v i b1 b2 data vars res.G res.U res.R=some (Ji (Di data i t),l)/\Ew data vars res l:=by
 unfold Nd;rw[Agd v i hv D hi,Ad];cases hh:E9 b1 (Pk v i) with
 | true=>refine⟨b1,?_,f⟩;have:Ib b1 (Pk v i) 0=Ji (Di data i t):=(by unfold Ib;unfold E9 at hh;rw[any_eq_true]at hh;obtain⟨p,z,y⟩:=hh;cases hf:b1.find? (λp=>Pk v i==p.1) with| none=>exact absurd y (by have:=find?_eq_none.1 hf p z;simpa using this)| some q=>have hq:=find?_some hf;exact f q (mem_of_find?_eq_some hf) v i t ((Nl _ _).1 hq).symm ht);simp only[Am,Ad,bnt,Aq,this]
 | false=>
  obtain⟨w,u,s⟩:=(A5n A B b1 b2 vars res.G res.U res.R 4000000).1 i t ω hi b;have c:Kn v b1 b2 data vars res.G res.U res.R=some t:=by
   unfold Kn;unfold Dj at ht;by_cases h:v = -1
   .rw[Av h]at ht;cases ht;have E:(Af.mk res.G res.U res.R)=res:=(by cases res;rfl);rw[Eu h,E];rfl
   .rw[Ar h]at ht;rw[C3 h,ht];rfl
  have g:(bif decide (w>6) then some (-1) else some w:Option Int)=some (Ji (Di data i t)):=by
   rw[<-s.clip];by_cases h:w>6
   .rw[As h,Av h];rfl
   .rw[A5 h,Ar h];rfl
  refine⟨Gu b1 (Pk v i) (Ji (Di data i t)),?_,?_⟩
  .simp only[Aq,Ad,Bool.not_false,Am,c,u,g]
  .intro p hp x i' t' k j;rcases Alh _ _ _ p hp with h|h
   .exact f p h x i' t' k j
   .subst h;obtain⟨rfl,rfl⟩:=A5j k;rw[ht]at j;cases j;rfl
def Gy (a b:Int):Int:=if a<b then -1 else if a>b then 1 else 0
def orI (a b:Int):Int:=if a=0 then b else a
theorem Ks {a b:Int}:Gy a b=0↔a=b:=by unfold Gy;split <;> (try split) <;> omega
theorem Qt (a b:Int):Nc a b=some (Gy a b):=by
 unfold Nc Ub Gy;simp only[Ad,bne_self_eq_false,Aq];by_cases h:a<b
 .rw[As h,Av h];rfl
 .rw[A5 h,Ar h];by_cases h':a>b
  .rw[As h',Av h'];rfl
  .rw[A5 h',Ar h'];rfl
theorem Atd (a b:Int):Zh a b=some (Gy a b):=Qt a b
theorem Xr (a b:Int):O3 [a,b]=some (orI a b):=by
 unfold O3 orI;by_cases ha:a=0
 .rw[Av ha];by_cases hb:b=0
  .refine K1 2 (λj=>(j:Int)) rfl ?_ ⟨.inr (),rfl,by rw[hb]⟩;intro j hj
   match j,hj with| 0,_=>subst ha;rfl| 1,_=>subst hb;rfl
  .refine K1 1 (λj=>(j:Int)) rfl ?_ ⟨.inl b,?_,rfl⟩
   .intro j hj
    match j,hj with| 0,_=>subst ha;rfl
   .show (bif (b != 0) then _ else _)=_;rw[F2 hb];rfl
 .rw[Ar ha];refine K1 0 (λj=>(j:Int)) rfl (λj hj=>ω) ⟨.inl a,?_,rfl⟩;show (bif (a != 0) then _ else _)=_;rw[F2 ha];rfl
def Gz {α:Type} (g:α->α->Int):List α->List α->Int
 | x::xs,y::ys=>orI (g x y) (Gz g xs ys)
 | _,_=>0
theorem A5p (g:α->α->Int) (l m:List α) {step:Int->Option (Int⊕(Int⊕Unit))} (i:l.length=m.length) (hb:l.length<4611686018427387904) (c:∀(j:Nat) (x y:α),l[j]? = some x->m[j]? = some y->decide ((j:Int)<(l.length:Int))=true->Ag l (j:Int)=some x->Ag m (j:Int)=some y->decide ((j:Int)>=(m.length:Int))=false->Ac ((j:Int)+1)=((j+1:Nat):Int) -> step (j:Int)=if g x y=0 then some (.inl ((j+1:Nat):Int)) else some (.inr (.inl (g x y)))) (f:decide ((l.length:Int)<(l.length:Int))=false->step (l.length:Int)=some (.inr (.inr ()))) : ∃z,Ak step 0=some z/\(match z with|.inl r=>r=Gz g l m/\r≠0 | .inr _=>Gz g l m=0):=by
 have key:∀(n j:Nat),j+n=l.length->∃z,Ak step (j:Int)=some z/\(match z with|.inl r=>r=Gz g (l.drop j) (m.drop j)/\r≠0 | .inr _=>Gz g (l.drop j) (m.drop j)=0):=by
  intro n;induction n with
  | zero=>intro j hj;have:j=l.length:=ω;subst this;refine⟨.inr (),Gf (f ψ),?_⟩;rw[drop_of_length_le ω];simp[Gz]
  | succ n ih=>
   intro j hj;have hx:l[j]? = some l[j]:=Bs ω;have hy:m[j]? = some m[j]:=Bs ω;generalize l[j]=x at hx;generalize m[j]=y at hy;have h:=c j x y hx hy (As ω) (Br rfl hx) (Br rfl hy) (A5 ω) (C5 (show j<l.length by omega) hb);rw[Mm hx,Mm hy];by_cases hg:g x y=0
   .rw[Av hg]at h;obtain⟨z,b,z2⟩:=ih (j+1) ω;refine⟨z,by rw[Lh h];exact b,?_⟩;have e:Gz g (x::l.drop (j+1)) (y::m.drop (j+1))=Gz g (l.drop (j+1)) (m.drop (j+1)):=(by simp only[Gz,orI,hg,if_true]);cases z with| inl r=>simp only[e];exact z2| inr u=>simp only[e];exact z2
   .rw[Ar hg]at h;refine⟨.inl (g x y),Gf h,?_,hg⟩;simp only[Gz,orI,hg,if_false]
 exact key l.length 0 ω
theorem Agf (f:α->α->Option Int) (g:α->α->Int) (l m:List α) (q:l.length=m.length) (hb:l.length<4611686018427387904) (hf:∀(j:Nat) (x y:α),l[j]? = some x->m[j]? = some y->f x y=some (g x y)) : ((Ak (S:=Int) (E:=(Int⊕Unit)) (λb=> bif b<(l.length:Int) then ((Ag l b).bind λk=> bif b>=(m.length:Int) then some (.inr (.inl 1)) else ((Ag m b).bind λv9=> (f k v9).bind λv11=> bif (v11 != (0:Int)) then some (.inr (.inl v11)) else some (.inl (Ac (b+1))))) else some (.inr (.inr ()))) 0).bind λz=> match z with
   | .inl c=>some c
   | .inr _=>bif (l.length:Int)<(m.length:Int) then some (-1) else some 0)=some (Gz g l m):=by
 refine Asg (A5p g l m q hb ?_ (λh=>by simp only[h];rfl)) ?_
 .intro j x y hx hy h1 h2 h3 A s;simp only[h1,h2,h3,A,s,Am,Aq,Ad,hf j x y hx hy];by_cases hg:g x y=0
  .rw[Gb hg,Av hg];rfl
  .rw[F2 hg,Ar hg];rfl
 .rintro (r|u) i
  .rw[i.1]
  .simp only;rw[A5 ω,show Gz g l m=0 from i];rfl
def Abe (x y:Es):Int:=orI (Gy x.v y.v) (Gy x.C y.C)
def Ez (a b:Bn):Int:=if a.T.length=b.T.length then orI (Gz Abe a.T b.T) (Gy a.Q b.Q) else Gy a.T.length b.T.length
theorem Xs (a b:Bn) (ha:a.T.length<1099511627776):Lj a b=some (Ez a b):=by
 unfold Lj Ez;rw[Qt,Ad];by_cases h:a.T.length=b.T.length
 .rw[Gb (Ks.2 ω),Av h];simp only[Aq];have:=Agf Zg Abe a.T b.T h ω (λj x y _ _=>by unfold Zg Abe;rw[Qt,Atd];simp only[Ad,Xr]);rw[show Aem a.T b.T=_ from this,Ad,Atd];simp only[Ad,Xr]
 .rw[F2 (λe=>h (by have:=Ks.1 e;omega)),Ar h];rfl
mutual
def G8:Ah->Ah->Int
 | ⟨n,k⟩,j=>if n=j.U then (if k.length=j.K.length then U6 k j.K else Gy k.length j.K.length) else Gy n j.U
def U6:List Ah->List Ah->Int
 | x::xs,y::ys=>orI (G8 x y) (U6 xs ys)
 | [],_=>0
 | _::_,[]=>0
end
theorem Ate (i j:Ah):G8 i j=if i.U=j.U then (if i.K.length=j.K.length then U6 i.K j.K else Gy i.K.length j.K.length) else Gy i.U j.U:=by cases i;simp only[G8]
theorem Ali:∀l m:List Ah,U6 l m=Gz G8 l m
 | x::xs,y::ys=>by simp only[U6,Gz,Ali xs ys]
 | [],_=>by simp[U6,Gz]
 | _::_,[]=>by simp[U6,Gz]
theorem Atf:∀(n k:Nat) (i j:Ah),Bv i<=n->2*n<=k->n<1099511627776->Qb k i j=some (G8 i j):=by
 intro n;induction n with
 | zero=>intro k i j h;have:=El i;omega
 | succ n ih=>
  intro k i j h hk c;obtain⟨k,rfl⟩:∃b,k=b+2:=⟨k-2,ω⟩;have hi:=El i;have f:=Pi i.K;rw[Qb,Ate,Qt,Qt];simp only[Ad,Xr];by_cases h1:i.U=j.U
  .rw[Av h1];by_cases h2:i.K.length=j.K.length
   .rw[Av h2,Gb (by unfold orI;rw[Ks.2 h1,Ks.2 ω];rfl),Ali];simp only[Aq];have:=Agf (Qb k) G8 i.K j.K h2 ω (λq x y hx hy=>ih k x y (by have:=Kd (Bu hx);omega) ω ω);rw[Z7];refine Eq.trans (congrArg (λq=>Option.bind q _) this) rfl
   .have e:orI (Gy i.U j.U) (Gy (i.K.length:Int) (j.K.length:Int))=Gy i.K.length j.K.length:=(by unfold orI;rw[Ks.2 h1];rfl);rw[Ar h2,e,F2 (λe=>h2 (by have:=Ks.1 e;omega))];rfl
  .have e:orI (Gy i.U j.U) (Gy (i.K.length:Int) (j.K.length:Int))=Gy i.U j.U:=(by unfold orI;rw[Ar (λe=>h1 (Ks.1 e))]);rw[Ar h1,e,F2 (λe=>h1 (Ks.1 e))];rfl
def Xt (x y:Bb):Int:=orI (Gy x.v y.v) (G8 x.I y.I)
def Abf (x y:Bd):Int:=orI (Ez x.L y.L) (Gy x.P y.P)
def Ey (a b:A3):Int := if a.F.length=b.F.length then orI (Gz Xt a.F b.F) (if a.A.length=b.A.length then Gz Abf a.A b.A else Gy a.A.length b.A.length) else Gy a.F.length b.F.length
structure MSz (m:A3):Prop where
 nf:m.F.length<=1048576
 na:m.A.length<=1048576
 fi:∀f∈m.F,Bv f.I<=1048576
 fr:∀f∈m.F,iR f.I/\Ev f.v
 al:∀a∈m.A,a.L.T.length<=1048576
theorem Atg (a b:A3) (ha:MSz a):Rw a b=some (Ey a b):=by
 have h1:=ha.nf;have h2:=ha.na;unfold Rw Ey;rw[Qt,Ad];by_cases h:a.F.length=b.F.length
 .rw[Gb (Ks.2 ω),Av h];simp only[Aq];have:=Agf Zy Xt a.F b.F h ω (λj x y hx hy=>by unfold Zy Xt;rw[Qt,Atf 1048576 4000000 x.I y.I (ha.fi x (Bu hx)) ω ω];simp only[Ad,Xr]);rw[show Aev a.F b.F=_ from this,Ad,Qt];simp only[Ad,Xr];by_cases h0:Gz Xt a.F b.F=0
  .simp only[h0,orI,if_true];by_cases h':a.A.length=b.A.length
   .rw[Gb (Ks.2 ω),Av h'];simp only[Aq];have:=Agf Zz Abf a.A b.A h' ω (λj x y hx hy=>by unfold Zz Abf;rw[Qt,Xs x.L y.L (by have:=ha.al x (Bu hx);omega)];simp only[Ad,Xr]);rw[show Aew a.A b.A=_ from this];rfl
   .rw[F2 (λe=>h' (by have:=Ks.1 e;omega)),Ar h'];rfl
  .simp only[orI,Ar h0];rw[F2 h0];rfl
 .rw[F2 (λe=>h (by have:=Ks.1 e;omega)),Ar h];rfl
def Nn {α:Type} (f:α->Int) (l:List α) (x:α) (j:Nat):Bool:=j==0||(match l[j-1]? with|some y=>decide (f y<f x) | none=>false)
def Sk (l:List Es) (x:Es) (j:Nat):Bool:=decide (-1<=x.v/\x.v<3000/\x.C≠0/\-1048576<=x.C/\x.C<=1048576)&&Nn (·.v) l x j
def F3 (a:Bn):Bool:=decide (-1048576<=a.Q/\a.Q<=1048576/\a.T.length<=16)&&a.T.zipIdx.all (λq=>Sk a.T q.1 q.2)
theorem Ath (n:Int):Wk n=some (decide (-1048576<=n/\n<=1048576)):=by unfold Wk;by_cases h:(-1048576:Int)<=n <;> simp[h]
theorem Ati (n:Int):Wl n=some (decide (-1<=n/\n<3000)):=by unfold Wl;by_cases h:(-1:Int)<=n <;> simp[h]
theorem Atj {α S E:Type} (f:α->Int) (l:List α) {x:α} {j:Nat} (hx:l[j]? = some x) (i:l.length<4611686018427387904) (c b:Option (S⊕E)) : (bif decide ((j:Int)>0) then ((Ag l (Ac ((j:Int)-1))).bind λg=>bif decide (f g>=f x) then c else b) else b)=bif Nn f l x j then b else c:=by
 have hj:=Eg hx;unfold Nn;by_cases h:j=0
 .subst h;rfl
 .rw[As ω];have e:Ac ((j:Int)-1)=((j-1:Nat):Int):=ξ;have hy:l[j-1]? = some l[j-1]:=Bs ω;rw[e,Br rfl hy,hy];have h0:(j==0)=false:=(by simpa using h);simp only[Am,Ad,h0,Bool.false_or];by_cases hc:f l[j-1]<f x
  .rw[A5 ω,As hc];rfl
  .rw[As ω,A5 hc];rfl
theorem Alj (a:Bn):P4 a=some (F3 a):=by
 unfold P4 F3;rw[Ath];simp only[Ad];by_cases h1 : -1048576<=a.Q/\a.Q<=1048576
 .rw[As h1];by_cases h2:a.T.length<=16
  .rw[A5 (ω:¬(a.T.length:Int)>16),As ⟨h1.1,h1.2,h2⟩];simp only[bnt,Aq,Ad,Bool.true_and];refine (Aa3 a.T (λq=>Sk a.T q.1 q.2) (λj=>(j:Int)) rfl ω (rt:=true) (rf:=false) ?_ ?_).trans (by rw[Afv])
   .intro j x hx _ h1 h2 h3;simp only[h1,h2,h3,Am,Ad,Ati,Ath,Atj (·.v) a.T hx ω,Sk];by_cases g1 : -1<=x.v/\x.v<3000
    .by_cases g2:x.C=0
     .rw[As g1,Eu g2,A5 (λh=>h.2.2.1 g2)];exact⟨nofun,λ_=>⟨.inl false,rfl,rfl⟩⟩
     .by_cases g3 : -1048576<=x.C/\x.C<=1048576
      .rw[As g1,C3 g2,As g3,As ⟨g1.1,g1.2,g2,g3.1,g3.2⟩];cases Nn (·.v) a.T x j with| true=>exact⟨λ_=>rfl,λh=>by cases h⟩| false=>exact⟨nofun,λ_=>⟨.inl false,rfl,rfl⟩⟩
      .rw[As g1,C3 g2,A5 g3,A5 (λh=>g3 h.2.2.2)];exact⟨nofun,λ_=>⟨.inl false,rfl,rfl⟩⟩
    .rw[A5 g1,A5 (λh=>g1 ⟨h.1,h.2.1⟩)];exact⟨nofun,λ_=>⟨.inl false,rfl,rfl⟩⟩
   .intro h _;exact⟨.inr (),by simp only[h];rfl,rfl⟩
  .rw[As (ω:(a.T.length:Int)>16),A5 (λh=>h2 h.2.2)];rfl
 .rw[A5 h1,A5 (λh : -1048576<=a.Q/\a.Q<=1048576/\a.T.length<=16=>h1 ⟨h.1,h.2.1⟩)];rfl
structure Oh (data:List Ai) (vars:List Af) (res:Af):Prop where
 vd:Hw data
 sh:Ml data
 sz:∀v t,Dj vars res v=some t->B3 t<=200
 nv:vars.length<=3000
theorem Abg (vars:List Af) (res:Af) (v:Int):(Dj vars res v).isSome=decide (-1<=v/\v<vars.length):=by
 unfold Dj;by_cases h:v = -1
 .rw[Av h];subst h;rw[As ω];rfl
 .rw[Ar h];cases hx:Ag vars v with
  | none=>rcases Aa6 hx with h'|h' <;> rw[A5 ω] <;> rfl
  | some t=>have:=Hc hx;rw[As ω];rfl
section
variable (b1:List (ByteArray×Int)) (b2:List (ByteArray×List Ap)) (data:List Ai) (vars:List Af) (res:Af)
theorem Agg (v:Int) (f c:Int) (b:List Af):Oy v b1 b2 data vars f c b=some (Dj vars res v).isSome:=by
 rw[Abg];unfold Oy;by_cases h:v>=-1
 .rw[As h];by_cases h':v<(vars.length:Int)
  .rw[As h',As ⟨h,h'⟩];rfl
  .rw[A5 h',A5 (λg=>h' g.2)];rfl
 .rw[A5 h,A5 (λg : -1<=v/\v<(vars.length:Int)=>h g.1)];rfl
theorem U7 {v:Int} {t:Af} (ht:Dj vars res v=some t):Kn v b1 b2 data vars res.G res.U res.R=some t:=by
 unfold Kn;unfold Dj at ht;by_cases h:v = -1
 .rw[Av h]at ht;cases ht;have b:(Af.mk res.G res.U res.R)=res:=(by cases res;rfl);rw[Eu h,b];rfl
 .rw[Ar h]at ht;rw[C3 h,ht];rfl
def Sl (t:Es):Bool:=match Dj vars res t.v with|some u=>u.G==1|none=>false
def It (l:Bn):Bool:=l.T.all (Sl vars res)
theorem Atl (l:Bn) (c:l.T.length<=1048576):Rq l b1 b2 data vars res.G res.U res.R=some (It vars res l):=by
 unfold Rq Aej Aeo;have key:=Akz l.T (λt=>!Sl vars res t) ω (J:=λz=>match z with|.inl b=>some b | .inr _=>some (-1)) (step:=λv3=>bif v3<(l.T.length:Int) then ((Ag l.T v3).bind λv4=>(Wm v4 b1 b2 data vars res.G res.U res.R).bind λv5=>bif v5 then some (.inr (.inl v3)) else some (.inl (Ac (v3+1)))) else some (.inr (.inr ()))) (by intro j x hx h1 h2 h3;have e:Wm x b1 b2 data vars res.G res.U res.R=some (!Sl vars res x):=(by unfold Wm Sl;rw[Agg b1 b2 data vars res,Ad];cases ht:Dj vars res x.v with| none=>rfl| some t=>rw[U7 b1 b2 data vars res ht];rfl);simp only[h1,h2,h3,Am,Ad,e]) (λh=>by simp only[h];rfl) (λ_=>rfl) rfl
 obtain⟨i,i1,i2⟩:=key
 erw[i1];simp only[Ad,i2];congr 1;unfold It;rw[any_eq_not_all_not];simp
def Dz (f:Bb):Int:=match Dj vars res f.v with|some t=>Ji (Di data f.I t) | none => -1
theorem A5q (f:Bb) : -1<=Dz data vars res f/\Dz data vars res f<=6:=by
 unfold Dz;cases Dj vars res f.v with
 | none=>simp
 | some t=>rcases Ala (Di data f.I t) with⟨h,_⟩|⟨d,_,h2,h⟩ <;> simp only[h] <;> omega
def Qu (m:A3):Bool:=m.F.all (λf=>decide (0<=Dz data vars res f))&&m.A.all (λa=>decide (0<=a.P)&&It vars res a.L)
def Cs (l:List Bb):Int:=(l.map (Dz data vars res)).sum
def Ef (l:List Bd):Int:=(l.map (·.P)).sum
def Qv (l:List Bd) (x:Bd) (j:Nat):Bool:=j==0||(match l[j-1]? with|some y=>decide (Ez y.L x.L<0) | none=>false)
def Pl (l:List Bb) (f:Bb) (j:Nat):Bool:=decide (1<=Dz data vars res f)&&Nn (·.v) l f j
def No (l:List Bd) (a:Bd) (j:Nat):Bool:=decide (1<=a.P)&&F3 a.L && !(a.L.T.length==0)&&It vars res a.L&&Qv l a j
def Jq (m:A3):Bool:=m.F.zipIdx.all (λq=>Pl data vars res m.F q.1 q.2)&&m.A.zipIdx.all (λq=>No vars res m.A q.1 q.2)&&decide (Cs data vars res m.F+Ef m.A<=6)
variable {b1 data vars res}
theorem Agh (hc:Oh data vars res) (h:Ew data vars res b1) (f:Bb) (hv:Ev f.v) (g:iR f.I) (hi:Bv f.I<=1048576) (b:(Dj vars res f.v).isSome=true) : ∃c,Nd f.v f.I b1 b2 data vars res.G res.U res.R=some (Dz data vars res f,c)/\Ew data vars res c:=by cases ht:Dj vars res f.v with| none=>rw[ht]at b;cases b| some t=>obtain⟨c,h1,h2⟩:=A5o hc.vd.szv hc.sh b1 b2 vars res h f.v f.I t ht (hc.sz _ _ ht) hv g hi;refine⟨c,?_,h2⟩;rw[h1];unfold Dz;rw[ht]
theorem A5r (hc:Oh data vars res) (N:Ew data vars res b1) (m:A3) (k:MSz m) :
  ∃l,Zw m b1 b2 data vars res.G res.U res.R=some (Qu data vars res m,l)/\Ew data vars res l:=by
 have hf:=k.nf
 have ha:=k.na
 unfold Zw
 refine Aa0 (λl=>(Qu data vars res m,l)) ?_
 obtain⟨r,L,I⟩:=Ak0 (M:=List (ByteArray×Int)) (R:=Bool×List (ByteArray×Int)) m.F (λq=>decide (0<=Dz data vars res q.1)) (λj o=>((j:Int),o)) (Ew data vars res)
  (λr=>Ew data vars res r.2/\r.1=m.A.all (λa=>decide (0<=a.P)&&It vars res a.L)) (λr=>Ew data vars res r.2/\r.1=false) b1
  (s0:=((0:Int),b1))
  (step:=(λ(y,u)=>
   bif y<(m.F.length:Int) then (
   (Ag m.F y).bind λv8=>
   (Oy v8.v u b2 data vars res.G res.U res.R).bind λv10=>
   bif (!v10) then some (.inr (.inl (false,u)))
   else (
   (Nd v8.v v8.I u b2 data vars res.G res.U res.R).bind λv11=>
   bif v11.1<(0:Int) then some (.inr (.inl (false,v11.2)))
   else some (.inl ((Ac (y+1)),v11.2))))
   else some (.inr (.inr u)):Int×List (ByteArray×Int)->Option ((Int×List (ByteArray×Int))⊕((Bool×List (ByteArray×Int))⊕List (ByteArray×Int)))))
  (J:=(λz=>match z with
   | .inl (G,D)=>some (G,D)
   | .inr b=>(Ak (S:=Int) (E:=((Bool×List (ByteArray×Int))⊕Unit)) (λc=>
     bif c<(m.A.length:Int) then (
     (Ag m.A c).bind λs=>
     bif s.P<(0:Int) then some (.inr (.inl (false,b)))
     else (
     (Rq s.L b b2 data vars res.G res.U res.R).bind λv21=>
     bif (!v21) then some (.inr (.inl (false,b)))
     else some (.inl (Ac (c+1)))))
     else some (.inr (.inr ()))) 0).bind λz=>match z with
      | .inl (B,A)=>some (B,A)
      | .inr _=>some (true,b)))
  rfl N ω (by
   intro j f o x hx _ h1 h2 h3
   have i:=Bu hx
   simp only[h1,h2,h3,Am,Ad,Agg o b2 data vars res]
   cases g:(Dj vars res f.v).isSome with
   | false=>
    have e:Dz data vars res f = -1:=by
     unfold Dz
     cases ht:Dj vars res f.v with
     | none=>rfl
     | some t=>rw[ht]at g;cases g
    rw[e]
    exact⟨nofun,λ_=>⟨_,rfl,_,rfl,x,rfl⟩⟩
   | true=>
    obtain⟨l,d1,d2⟩:=Agh b2 hc x f (k.fr f i).2 (k.fr f i).1 (k.fi f i) g
    simp only[bnt,Aq,d1,Ad]
    by_cases h0:0<=Dz data vars res f
    .rw[As h0,A5 ω]
     exact⟨λ_=>⟨l,rfl,d2⟩,λh=>by cases h⟩
    .rw[A5 h0,As ω]
     exact⟨nofun,λ_=>⟨_,rfl,_,rfl,d2,rfl⟩⟩) (by
   intro o x h1 _
   refine⟨.inr o,by simp only[h1];rfl,?_⟩
   refine⟨(m.A.all (λa=>decide (0<=a.P)&&It vars res a.L),o),?_,x,rfl⟩
   refine (Aa4 m.A (λa=>decide (0<=a.P)&&It vars res a.L) (λj=>(j:Int)) rfl ω (rt:=(true,o)) (rf:=(false,o)) ?_ ?_).trans (by cases m.A.all (λa=>decide (0<=a.P)&&It vars res a.L) <;> rfl)
   .intro j a hx h1 h2 h3
    simp only[h1,h2,h3,Am,Ad,Atl o b2 data vars res a.L (k.al a (Bu hx))]
    by_cases h0:0<=a.P
    .rw[As h0,A5 ω]
     cases It vars res a.L with
     | true=>exact⟨λ_=>rfl,λh=>by cases h⟩
     | false=>exact⟨nofun,λ_=>⟨_,rfl,rfl⟩⟩
    .rw[A5 h0,As ω]
     exact⟨nofun,λ_=>⟨_,rfl,rfl⟩⟩
   .intro h;exact⟨.inr (),by simp only[h];rfl,rfl⟩)
 refine⟨r,L,r.2,?_,?_⟩
 .unfold Qu
  rw[<-Afu]
  rcases I with⟨h1,h2,h3⟩|⟨h1,h2,h3⟩
  .rw[h1,Bool.true_and,<-h3]
  .rw[h1,Bool.false_and,<-h3]
 .rcases I with⟨h1,h2,h3⟩|⟨h1,h2,h3⟩ <;> exact h2
theorem A5s (g:Bb->Int) {l:List Bb} {j:Nat} {x:Bb} (h:l[j]? = some x):((l.take (j+1)).map g).sum=((l.take j).map g).sum+g x:=by rw[C4 h];simp
theorem A5t {l:List Bd} {j:Nat} {x:Bd} (h:l[j]? = some x):Ef (l.take (j+1))=Ef (l.take j)+x.P:=by unfold Ef;rw[C4 h];simp
theorem A5u (hc:Oh data vars res) (z:Ew data vars res b1) (m:A3) (k:MSz m) (hp:Qu data vars res m=true) : ∃p:Int×List (ByteArray×Int),Zx m b1 b2 data vars res.G res.U res.R=some p/\(decide (p.1>6) = !decide (Cs data vars res m.F+Ef m.A<=6))/\Ew data vars res p.2:=by
 have hf:=k.nf;have ha:=k.na;unfold Qu at hp;rw[Ct,G7,G7]at hp;unfold Zx;refine Et (λ(v5,s,g)=>∃j:Nat,s=j/\j<=m.F.length/\Ew data vars res g/\0<=v5/\v5<=12/\(v5=Cs data vars res (m.F.take j)\/(6<v5/\6<Cs data vars res (m.F.take j)))) (λ(_,s,_)=>m.F.length-s.toNat) (λ(v5,g)=>Ew data vars res g/\0<=v5/\v5<=12/\(v5=Cs data vars res m.F\/(6<v5/\6<Cs data vars res m.F))) ⟨0,rfl,ω,z,ω,ω,.inl (by simp[Cs])⟩ ?_ ?_
 .rintro⟨v5,s,g⟩ ⟨j,rfl,hj,l,h0,h12,hv⟩;rcases Cj j m.F.length with h|h
  .have hx:m.F[j]? = some m.F[j]:=Bs h;generalize m.F[j]=f at hx;have c:=Bu hx;have hd:=hp.1 f c;rw[Du]at hd;have A:=(A5q data vars res f).2;have es:Cs data vars res (m.F.take (j+1))=Cs data vars res (m.F.take j)+Dz data vars res f:=A5s _ hx;simp only[As (ω:(j:Int)<(m.F.length:Int)),Am,Br rfl hx,Ad,C5 h ω];by_cases q:v5<=6
   .have u:(Dj vars res f.v).isSome=true:=by
     unfold Dz at hd;cases ht:Dj vars res f.v with
     | none=>rw[ht]at hd;have hd:(0:Int)<=-1:=hd;omega
     | some t=>rfl
    obtain⟨B,d1,d2⟩:=Agh b2 hc l f (k.fr f c).2 (k.fr f c).1 (k.fi f c) u;rw[As q];simp only[Am,d1,Ad];have b:Ac (v5+Dz data vars res f)=v5+Dz data vars res f:=ξ;exact .inl ⟨_,rfl,⟨j+1,rfl,ω,d2,by simp only[b];omega,by simp only[b];omega,by simp only[b,es];omega⟩,ζ⟩
   .rw[A5 q];exact .inl ⟨_,rfl,⟨j+1,rfl,ω,l,h0,h12,by simp only[es];omega⟩,ζ⟩
  .have:j=m.F.length:=ω;subst this;rw[Db]at hv;exact .inr ⟨(v5,g),ψ,l,h0,h12,hv⟩
 .rintro⟨v5,g⟩ ⟨l,h0,h12,hv⟩;simp only;refine Et (λ(v,i)=>∃j:Nat,i=j/\j<=m.A.length/\0<=v/\v<=13/\(v=Cs data vars res m.F+Ef (m.A.take j)\/(6<v/\6<Cs data vars res m.F+Ef (m.A.take j)))) (λ(_,i)=>m.A.length-i.toNat) (λv=>(v=Cs data vars res m.F+Ef m.A\/(6<v/\6<Cs data vars res m.F+Ef m.A))) ⟨0,rfl,ω,h0,ω,by simpa[Ef] using hv⟩ ?_ ?_
  .rintro⟨v,i⟩ ⟨j,rfl,hj,g0,g13,y⟩;rcases Cj j m.A.length with h|h
   .have hx:m.A[j]? = some m.A[j]:=Bs h;generalize m.A[j]=a at hx;have hd:=hp.2 a (Bu hx);rw[Ct,Du]at hd;have es:=A5t hx;simp only[As (ω:(j:Int)<(m.A.length:Int)),Am,Br rfl hx,Ad,C5 h ω];by_cases q:v<=6
    .rw[As q];simp only[Am];by_cases x:7<a.P
     .rw[Av x];have b:Ac (v+7)=v+7:=ξ;exact .inl ⟨_,rfl,⟨j+1,rfl,ω,by simp only[b];omega,by simp only[b];omega,by simp only[b,es];omega⟩,ζ⟩
     .rw[Ar x];have b:Ac (v+a.P)=v+a.P:=ξ;exact .inl ⟨_,rfl,⟨j+1,rfl,ω,by simp only[b];omega,by simp only[b];omega,by simp only[b,es];omega⟩,ζ⟩
    .rw[A5 q];exact .inl ⟨_,rfl,⟨j+1,rfl,ω,g0,g13,by simp only[es];omega⟩,ζ⟩
   .have:j=m.A.length:=ω;subst this;rw[Db]at y;exact .inr ⟨v,ψ,y⟩
  .intro v hv;refine⟨(v,g),rfl,?_,l⟩;by_cases h:Cs data vars res m.F+Ef m.A<=6
   .rw[As h,A5 (by simp only;omega)];rfl
   .rw[A5 h,As (by simp only;omega)];rfl
end
theorem A5v {S E:Type} (F:Bn->Bn->Option Int) (l:List Bd) (g:∀y∈l,∀x,F y.L x=some (Ez y.L x)) {x:Bd} {j:Nat} (hx:l[j]? = some x) (i:l.length<4611686018427387904) (c b:Option (S⊕E)) : (bif decide ((j:Int)>0) then ((Ag l (Ac ((j:Int)-1))).bind λf=>(F f.L x.L).bind λv28=>bif decide (v28>=0) then c else b) else b)=bif Qv l x j then b else c:=by
 have hj:=Eg hx;unfold Qv;by_cases h:j=0
 .subst h;rfl
 .rw[As ω];have e:Ac ((j:Int)-1)=((j-1:Nat):Int):=ξ;have hy:l[j-1]? = some l[j-1]:=Bs ω;rw[e,Br rfl hy,hy];have h0:(j==0)=false:=(by simpa using h);simp only[Am,Ad,h0,Bool.false_or,g _ (getElem_mem (ω:j-1<l.length))];by_cases hc:Ez l[j-1].L x.L<0
  .rw[A5 ω,As hc];rfl
  .rw[As ω,A5 hc];rfl
section
variable {b1:List (ByteArray×Int)} (b2:List (ByteArray×List Ap)) {data:List Ai} {vars:List Af} {res:Af}
def Abh (data:List Ai) (vars:List Af) (res:Af) (l:List Bb) (f:Bb) (j:Nat):Bool:=!(Dz data vars res f==0)&&Nn (·.v) l f j
def Sn (l:List Bd) (a:Bd) (j:Nat):Bool:=!(a.P==0)&&F3 a.L && !(a.L.T.length==0)&&Qv l a j
theorem A5w (m:A3):Jq data vars res m=(Qu data vars res m&&decide (Cs data vars res m.F+Ef m.A<=6)&&m.F.zipIdx.all (λq=>Abh data vars res m.F q.1 q.2)&&m.A.zipIdx.all (λq=>Sn m.A q.1 q.2)):=by
 rw[Bool.eq_iff_iff];unfold Jq Qu;rw[<-Afu m.F (λf=>decide (0<=Dz data vars res f)),<-Afu m.A (λa=>decide (0<=a.P)&&It vars res a.L)];simp only[Ct,G7,Pl,No,Abh,Sn,Du,Bool.not_eq_true',beq_eq_false_iff_ne,ne_eq];constructor
 .rintro⟨⟨h1,h2⟩,h3⟩;refine⟨⟨⟨⟨λq hq=>?_,λq hq=>?_⟩,h3⟩,λq hq=>?_⟩,λq hq=>?_⟩
  .have:=(h1 q hq).1;omega
  .have:=h2 q hq;exact⟨ω,this.1.2⟩
  .have:=h1 q hq;exact⟨ω,this.2⟩
  .have:=h2 q hq;exact⟨⟨⟨ω,this.1.1.1.2⟩,this.1.1.2⟩,this.2⟩
 .rintro⟨⟨⟨⟨h1,h2⟩,h3⟩,c⟩,b⟩;refine⟨⟨λq hq=>?_,λq hq=>?_⟩,h3⟩
  .have:=h1 q hq;have g:=c q hq;exact⟨ω,g.2⟩
  .have:=h2 q hq;have g:=b q hq;exact⟨⟨⟨⟨ω,g.1.1.2⟩,g.1.2⟩,this.2⟩,g.2⟩
theorem A5x (hc:Oh data vars res) (hm:Ew data vars res b1) (m:A3) (i:MSz m) :
  ∃u,Wr m b1 b2 data vars res.G res.U res.R=some (Jq data vars res m,u)/\Ew data vars res u:=by
 have hf:=i.nf
 have ha:=i.na
 rw[A5w]
 unfold Wr
 obtain⟨b,p1,Y⟩:=A5r b2 hc hm m i
 rw[p1]
 cases hp:Qu data vars res m with
 | false=>exact⟨b,rfl,Y⟩
 | true=>
  obtain⟨q,q1,q2,X⟩:=A5u b2 hc Y m i hp
  simp only[Ad,bnt,Aq,q1,q2]
  cases hs:decide (Cs data vars res m.F+Ef m.A<=6) with
  | false=>exact⟨q.2,rfl,X⟩
  | true=>
   simp only[bnt,Aq,Bool.true_and]
   have N:∀f∈m.F,(Dj vars res f.v).isSome=true:=by
    intro f c
    unfold Qu at hp
    rw[Ct,G7]at hp
    have hd:=hp.1 f c
    rw[Du]at hd
    unfold Dz at hd
    cases ht:Dj vars res f.v with
    | none=>rw[ht]at hd;have hd:(0:Int)<=-1:=hd;omega
    | some t=>rfl
   obtain⟨r,Z,V⟩:=Ak0 (M:=List (ByteArray×Int)) (R:=Bool×List (ByteArray×Int)) m.F (λq=>Abh data vars res m.F q.1 q.2) (λj o=>((j:Int),o)) (Ew data vars res)
    (λr=>Ew data vars res r.2/\r.1=m.A.zipIdx.all (λq=>Sn m.A q.1 q.2)) (λr=>Ew data vars res r.2/\r.1=false) q.2
    (s0:=((0:Int),q.2))
    (step:=(λ(v9,l)=>
     bif v9<(m.F.length:Int) then (
     (Ag m.F v9).bind λv11=>
     (Nd v11.v v11.I l b2 data vars res.G res.U res.R).bind λg=>
     bif (g.1==(0:Int)) then some (.inr (.inl (false,g.2)))
     else (
     bif v9>(0:Int) then (
     (Ag m.F (Ac (v9-1))).bind λB=>
     bif B.v>=v11.v then some (.inr (.inl (false,g.2)))
     else some (.inl ((Ac (v9+1)),g.2)))
     else some (.inl ((Ac (v9+1)),g.2))))
     else some (.inr (.inr l)):Int×List (ByteArray×Int)->Option ((Int×List (ByteArray×Int))⊕((Bool×List (ByteArray×Int))⊕List (ByteArray×Int)))))
    (J:=(λz=>match z with
     | .inl (L,I)=>some (L,I)
     | .inr k=>(Ak (S:=Int) (E:=((Bool×List (ByteArray×Int))⊕Unit)) (λv22=>
       bif v22<(m.A.length:Int) then (
       (Ag m.A v22).bind λv23=>
       (show OB from
       bif (v23.P==(0:Int)) then some true
       else (
       (P4 v23.L).bind λv25=>
       bif (!v25) then some true
       else some ((v23.L.T.length:Int)==(0:Int)))).bind λv26=>
       bif v26 then some (.inr (.inl (false,k)))
       else (
       bif v22>(0:Int) then (
       (Ag m.A (Ac (v22-1))).bind λA=>
       (Lj A.L v23.L).bind λv28=>
       bif v28>=(0:Int) then some (.inr (.inl (false,k)))
       else some (.inl (Ac (v22+1))))
       else some (.inl (Ac (v22+1)))))
       else some (.inr (.inr ()))) 0).bind λz=>match z with
        | .inl (G,D)=>some (G,D)
        | .inr _=>some (true,k)))
    rfl X ω (by
     intro j f o U hx _ h1 h2 h3
     have c:=Bu hx
     obtain⟨u,d1,d2⟩:=Agh b2 hc U f (i.fr f c).2 (i.fr f c).1 (i.fi f c) (N f c)
     simp only[h1,h2,h3,Am,Ad,d1,Atj (·.v) m.F hx ω,Abh]
     cases (Dz data vars res f==0) with
     | true=>exact⟨nofun,λ_=>⟨_,rfl,_,rfl,d2,rfl⟩⟩
     | false=>
      cases Nn (·.v) m.F f j with
      | true=>exact⟨λ_=>⟨u,rfl,d2⟩,λh=>by cases h⟩
      | false=>exact⟨nofun,λ_=>⟨_,rfl,_,rfl,d2,rfl⟩⟩) (by
     intro o U h1 _
     refine⟨.inr o,by simp only[h1];rfl,?_⟩
     refine⟨(m.A.zipIdx.all (λq=>Sn m.A q.1 q.2),o),?_,U,rfl⟩
     refine (Aa3 m.A (λq=>Sn m.A q.1 q.2) (λj=>(j:Int)) rfl ω (rt:=(true,o)) (rf:=(false,o)) ?_ ?_).trans (by cases m.A.zipIdx.all (λq=>Sn m.A q.1 q.2) <;> rfl)
     .intro j a hx _ h1 h2 h3
      have s:((a.L.T.length:Int)==(0:Int))=(a.L.T.length==0):=Ash a.L.T 0
      simp only[h1,h2,h3,Am,Ad,Alj,A5v Lj m.A (λy hy x=>Xs y.L x (by have:=i.al y hy;omega)) hx ω,Sn,s]
      cases (a.P==0) with
      | true=>exact⟨nofun,λ_=>⟨_,rfl,rfl⟩⟩
      | false=>
       cases F3 a.L with
       | false=>exact⟨nofun,λ_=>⟨_,rfl,rfl⟩⟩
       | true=>
        cases (a.L.T.length==0) with
        | true=>exact⟨nofun,λ_=>⟨_,rfl,rfl⟩⟩
        | false=>
         cases Qv m.A a j with
         | true=>exact⟨λ_=>rfl,λh=>by cases h⟩
         | false=>exact⟨nofun,λ_=>⟨_,rfl,rfl⟩⟩
     .intro h _;exact⟨.inr (),by simp only[h];rfl,rfl⟩)
   refine⟨r.2,?_,?_⟩
   .have e:some r=some (m.F.zipIdx.all (λq=>Abh data vars res m.F q.1 q.2)&&m.A.zipIdx.all (λq=>Sn m.A q.1 q.2),r.2):=by
     rcases V with⟨h1,h2,h3⟩|⟨h1,h2,h3⟩
     .rw[h1,Bool.true_and,<-h3]
     .rw[h1,Bool.false_and,<-h3]
    rw[<-e]
    exact Z
   .rcases V with⟨h1,h2,h3⟩|⟨h1,h2,h3⟩ <;> exact h2
theorem A5y (l:List Bb) (h:∀f∈l,0<=Dz data vars res f):0<=Cs data vars res l:=by induction l with| nil=>simp[Cs]| cons x xs ih=>have h1:=h x ψ;have h2:=ih (λf hf=>h f (by simp[hf]));unfold Cs at *;simp only[map_cons,sum_cons];omega
theorem Alk (l:List Bd) (h:∀a∈l,0<=a.P):0<=Ef l/\((∀a∈l,a.P<=6)->Ef l<=6*l.length)/\∀a∈l,a.P<=Ef l:=by
 induction l with
 | nil=>simp[Ef]
 | cons x xs ih=>
  have h1:=h x ψ;obtain⟨i1,i2,i3⟩:=ih (λf hf=>h f (by simp[hf]));unfold Ef at *;simp only[map_cons,sum_cons,D6];refine⟨ω,λg=>?_,λa ha=>?_⟩
  .have:=g x ψ;have:=i2 (λa ha=>g a (by simp[ha]));omega
  .rcases Gi.1 ha with rfl|ha
   .omega
   .have:=i3 a ha;omega
end
variable {a:Ao} {N P U V W X b d g h hb j o q r s t u x y:Int} {l:List Int} {k n off:Nat}
theorem U8 (l:List Int) (b:l.length<4611686018427387904):Oa l=some (Kq l):=by
 unfold Oa;refine Nj (λv=>∃k:Nat,v=k/\k<=l.length/\Kq (l.take k)=Kq l) (λv=>v.toNat) (λv=>∃k:Nat,v=k/\k<=l.length/\l.take k=Kq l) ⟨l.length,rfl,Nat.le_refl _,ψ⟩ ?_ ?_
 .rintro v ⟨k,rfl,hk,ht⟩;cases k with
  | zero=>exact .inr ⟨0,rfl,0,rfl,ω,by simpa[Kq] using ht⟩
  | succ j=>
   have hw:Ac (((j+1:Nat):Int)-1)=(j:Int):=ξ;have hj:j<l.length:=ω;have hp:decide (((j+1:Nat):Int)>0)=true:=As ω;simp only[hp,Am,hw,Hv rfl hj,Ad];rw[take_succ_eq_append_getElem hj]at ht;by_cases h0:l[j]=0
   .rw[h0,A4h]at ht;exact .inl ⟨j,by rw[Eu h0];rfl,⟨j,rfl,ω,ht⟩,ω⟩
   .rw[A4i h0]at ht;exact .inr ⟨((j+1:Nat):Int),by rw[C3 h0];rfl,j+1,rfl,ω,by rw[take_succ_eq_append_getElem hj];exact ht⟩
 .rintro v ⟨k,rfl,hk,ht⟩;rw[Xk rfl hk,ht];rfl
theorem Atm (l:List Int) (hd:Qj l) (B:l.length<1099511627776):Wy l=some (Al (Au l).toNat):=by
 unfold Wy;have f:Ac ((l.length:Int)+1)=((l.length+1:Nat):Int):=by rw[Ac,Cl] <;> omega
 rw[f,Akw rfl ω ω];simp only[Ad];refine Nj (λ(c,i,o)=>∃k:Nat,i=k/\k<=l.length/\o.length=k/\Cv o/\0<=c/\c<5/\Au o+1000000000 ^ k*c=Au (l.take k)) (λ(_,i,_)=>l.length-i.toNat) (λ(c,o)=>o.length=l.length/\Cv o/\0<=c/\c<5/\Au o+1000000000 ^ l.length*c=Au l) ⟨0,rfl,ω,rfl,Cv.nil,ω,ω,by simp[Au]⟩ ?_ ?_
 .rintro⟨c,i,o⟩ ⟨k,rfl,hk,g,b,q,hc,hv⟩;rcases Cj k l.length with h|h
  .have hx:=hd l[k] (getElem_mem h);refine .inl ⟨((l[k]+c) / 1000000000,((k+1:Nat):Int),o++[(l[k]+c) % 1000000000]),?_,⟨k+1,rfl,ω,by simp[g],b.snoc ω ω,ω,ω,?_⟩,ζ⟩
   .have z:Bg l[k]=l[k]:=F1 ω ω;have y:Bg (l[k]+c)=l[k]+c:=F1 ω ω;have s:Dl ((l[k]+c) % 1000000000)=(l[k]+c) % 1000000000:=Jo ω ω;have x:Ac ((k:Int)+1)=((k+1:Nat):Int):=ξ;have u:decide ((k:Int)<(l.length:Int))=true:=(by simpa using h);simp only[u,Am,Hv rfl h,Ad,z,y,Pe (show 0<=l[k]+c by omega) (show (0:Int)<1000000000 by decide),s,D2 (show (o.length+[(l[k]+c) % 1000000000].length)*4<=_ by simp;omega),Qi (show 0<=l[k]+c by omega) (show l[k]+c<=_ by omega) (show (0:Int)<1000000000 by decide),x]
   .rw[I1 l h,<-hv,Qk,g,Int.pow_succ];have:=Int.mul_ediv_add_emod (l[k]+c) 1000000000;grind
  .have j:k=l.length:=ω;subst j;refine .inr ⟨(c,o),ψ,g,b,q,hc,by simpa using hv⟩
 .rintro⟨c,o⟩ ⟨h2,h3,G,E,D⟩;have A:=I2 hd;by_cases hc:c>0
  .have s:Dl c=c:=Jo ω ω;simp only[decide_eq_true hc,Am,s,D2 (show (o.length+[c].length)*4<=_ by simp;omega),Ad,U8 (o++[c]) ζ];rw[Uz (h3.snoc ω ω) (n:=(Au l).toNat) (by rw[Qk,h2];omega)]
  .have:c=0:=ω;subst this;simp only[Int.lt_irrefl,gt_iff_lt,decide_false,Aq,U8 o ω,Ad];rw[Uz h3 (n:=(Au l).toNat) ω]
theorem U9 (h:n<18446744073709551616):Ck n<=3:=Kz (Nat.lt_of_lt_of_le h δ)
theorem Agi (n:Nat) (h:n<18446744073709551616):Rz n=some (Al n):=by
 unfold Rz;have b:=U9 h;unfold Ck at b;refine Nj (λ(w,o)=>∃k:Nat,w=k/\k<=n/\o++Al k=Al n) (λ(w,_)=>w.toNat) (λo=>o=Al n) ⟨n,rfl,Nat.le_refl _,ψ⟩ ?_ (by rintro o rfl;rfl);rintro⟨w,o⟩ ⟨k,rfl,hk,c⟩;by_cases h0:k=0
 .subst h0;rw[Jg,append_nil]at c;exact .inr ⟨o,ψ,c⟩
 .have f:o.length<=3:=(by rw[<-c]at b;simp at b;omega);refine .inl ⟨(((k / 1000000000:Nat):Int),o++[((k % 1000000000:Nat):Int)]),?_,⟨k / 1000000000,rfl,ω,by rw[append_assoc];rw[Pf h0]at c;exact c⟩,ζ⟩;have l:decide ((k:Int)>0)=true:=As ω;have j:I0 (k:Int) 1000000000=some ((k % 1000000000:Nat):Int):=(by rw[Pe ω δ];rfl);have i:Dl ((k % 1000000000:Nat):Int)=((k % 1000000000:Nat):Int):=Jo ω ω;have g:H4 .u64 (k:Int) 1000000000=some ((k / 1000000000:Nat):Int):=(by rw[Qi ω ω δ];rfl);simp only[l,Am,j,Ad,i,D2 (show (o.length+[((k % 1000000000:Nat):Int)].length)*4<=_ by simp;omega),g]
def Jk (m n:Nat):Int:=if m<n then -1 else if n<m then 1 else 0
theorem All (m n:Nat) (g:Ck m<1099511627776) (f:Ck n<1099511627776):Wz (Al m) (Al n)=some (Jk m n):=by
 unfold Wz;unfold Ck at g f;by_cases h:(Al m).length=(Al n).length
 .rw[Gb (ω:((Al m).length:Int)=(Al n).length),Aq];have hw:Ac (((Al m).length:Int)-1)=((Al m).length:Int)-1:=ξ;rw[hw];refine Nj (λv=>∃k:Nat,v=(k:Int)-1/\k<=(Al m).length/\(Al m).drop k=(Al n).drop k) (λv=>(v+1).toNat) (λe=>match e with|.inl r=>r=Jk m n | .inr _=>m=n) ⟨(Al m).length,rfl,Nat.le_refl _,by rw[drop_length,h,drop_length]⟩ ?_ ?_
  .rintro v ⟨k,rfl,hk,hd⟩;cases k with
   | zero=>refine .inr ⟨.inr (),ψ,?_⟩;have:Al m=Al n:=(by simpa using hd);have:=congrArg Au this;rw[Ij,Ij]at this;show m=n;omega
   | succ j=>
    have hj:j<(Al m).length:=ω;have hj':j<(Al n).length:=ω;have l:((j+1:Nat):Int)-1=(j:Int):=ω;have i:decide ((j:Int)>=0)=true:=As ω;simp only[l,i,Am,Hv rfl hj,Hv rfl hj',Ad];rcases Int.lt_trichotomy (Al m)[j] (Al n)[j] with b|heq|hgt
    .refine .inr ⟨.inl (-1),by rw[As b];rfl,?_⟩;have:=Ase (Ik m) hj hj' (Ik n) hd b;rw[Ij,Ij]at this;show (-1:Int)=Jk m n;rw[Jk,Av ω]
    .refine .inl ⟨(j:Int)-1,?_,⟨j,rfl,ω,?_⟩,ω⟩
     .rw[A5 (ω:¬(Al m)[j]<(Al n)[j]),Aq,A5 (ω:¬(Al m)[j]>(Al n)[j]),Aq];rw[Ac,Cl ω ω]
     .rw[drop_eq_getElem_cons hj,drop_eq_getElem_cons hj',hd,heq]
    .refine .inr ⟨.inl 1,by rw[A5 (ω:¬(Al m)[j]<(Al n)[j]),Aq,As (ω:(Al m)[j]>(Al n)[j])];rfl,?_⟩;have:=Ase (Ik n) hj' hj (Ik m) hd.symm hgt;rw[Ij,Ij]at this;show (1:Int)=Jk m n;rw[Jk,Ar ω,Av ω]
  .rintro (e|e) c
   .simp only at c ⊢;rw[c]
   .simp only at c ⊢;rw[Jk,Ar ω,Ar ω]
 .rw[F2 (ω:((Al m).length:Int)≠(Al n).length),Am];by_cases b:(Al m).length<(Al n).length
  .rw[As (ω:((Al m).length:Int)<(Al n).length),Am];have:=Asd (m:=m) (n:=n) b;rw[Jk,Av this]
  .rw[A5 (ω:¬((Al m).length:Int)<(Al n).length),Aq];have:=Asd (m:=n) (n:=m) (by unfold Ck;omega);rw[Jk,Ar ω,Av this]
theorem Atn (h:Cv l) (hv:l≠[]->1000000000 ^ (l.length-1)<=Au l):Can l:=by refine⟨h,λb h0=>?_⟩;have h1:=hv b;have e:=dropLast_concat_getLast b;have h2:Cv l.dropLast:=λd hd=>h d (dropLast_subset l hd);have h3:=L5 h2;rw[length_dropLast]at h3;have c:=congrArg Au e;rw[Qk,h0]at c;omega
theorem Xu (l:List Int) (h:l.length<=k):Au (l.take k)=Au l:=by rw[Ii h]
theorem Ato (a b:List Int) (ha:Cv a) (hb:Cv b) (hl:a.length<1099511627776) (X:b.length<=a.length) (R:a≠[]->1000000000 ^ (a.length-1)<=Au a) : ((Gl 4 0 (Ac ((a.length:Int)+1)) (0:Int)).bind λZ=> (Ak (S:=(Int×Int×List Int)) (E:=(Int×List Int)) (λ(v20,v21,u)=> bif v21<(a.length:Int) then ((Ag a v21).bind λv23=> (show Option Int from bif v21<(b.length:Int) then ((Ag b v21).bind λv24=> some (Dl ((Dl (v23+v20))+v24))) else (some (Dl (v23+v20)))).bind λv25=> (H4 .u32 v25 1000000000).bind λv26=> (I0 v25 1000000000).bind λf=> (Cd 4 u [f]).bind λg=> some (.inl (v26,(Ac (v21+1)),g))) else (some (.inr (v20,u)))) (0,0,Z)).bind λ(l,q)=> bif l>(0:Int) then ((Cd 4 q [l]).bind λJ=> some J) else (some q))=some (Al (Au a+Au b).toNat):=by
 have A:Ac ((a.length:Int)+1)=((a.length+1:Nat):Int):=by rw[Ac,Cl] <;> omega
 rw[A,Akw rfl ω ω];simp only[Ad];have a7:=I2 ha.u32;have a6:=I2 hb.u32;refine Nj (λ(c,i,o)=>∃k:Nat,i=k/\k<=a.length/\o.length=k/\Cv o/\0<=c/\c<=1/\Au o+1000000000 ^ k*c=Au (a.take k)+Au (b.take k)) (λ(_,i,_)=>a.length-i.toNat) (λ(c,o)=>o.length=a.length/\Cv o/\0<=c/\c<=1/\Au o+1000000000 ^ a.length*c=Au a+Au b) ⟨0,rfl,ω,rfl,Cv.nil,ω,ω,by simp[Au]⟩ ?_ ?_
 .rintro⟨c,i,o⟩ ⟨k,rfl,hk,L,z,U,hc,hv⟩;rcases Cj k a.length with h|h
  .have hx:=ha.get h;have e4:Ac ((k:Int)+1)=((k+1:Nat):Int):=ξ;have e5:decide ((k:Int)<(a.length:Int))=true:=As ω;have step:∀s:Int,0<=s->s<2000000000->(show Option Int from bif (k:Int)<(b.length:Int) then ((Ag b k).bind λv24=>some (Dl ((Dl (a[k]+c))+v24))) else some (Dl (a[k]+c)))=some s ->
     Au (a.take (k+1))+Au (b.take (k+1))=Au (a.take k)+Au (b.take k)+1000000000 ^ k*(s-c) -> (∃s',(bif (k:Int)<(a.length:Int) then ((Ag a k).bind λv23=> (show Option Int from bif (k:Int)<(b.length:Int) then ((Ag b k).bind λv24=> some (Dl ((Dl (v23+c))+v24))) else (some (Dl (v23+c)))).bind λv25=> (H4 .u32 v25 1000000000).bind λv26=> (I0 v25 1000000000).bind λf=> (Cd 4 o [f]).bind λg=> some (.inl (v26,(Ac ((k:Int)+1)),g))) else (some (.inr (c,o))))=some (Sum.inl s':(Int×Int×List Int)⊕(Int×List Int))/\(∃j:Nat,s'.2.1=j/\j<=a.length/\s'.2.2.length=j/\Cv s'.2.2/\0<=s'.1/\s'.1<=1/\Au s'.2.2+1000000000 ^ j*s'.1=Au (a.take j)+Au (b.take j))/\a.length-s'.2.1.toNat<a.length-(k:Int).toNat):=by
    intro s y a1 hs x;refine⟨(s / 1000000000,((k+1:Nat):Int),o++[s % 1000000000]),?_,⟨k+1,rfl,ω,by simp[L],z.snoc ω ω,ζ,ζ,?_⟩,ζ⟩
    .rw[e5,Am,Hv rfl h,Ad,hs,Ad,Ar7 y ω δ,Ad,Pe y δ,Ad,D2 ζ,Ad,e4]
    .rw[x,<-hv,Qk,L,Int.pow_succ];have:=Int.mul_ediv_add_emod s 1000000000;grind
   refine .inl ?_;rcases Cj k b.length with hb'|hb'
   .have hy:=hb.get hb';obtain⟨s',I,G,D⟩:=step (a[k]+c+b[k]) ω ω (by have B:Dl (a[k]+c)=a[k]+c:=Jo ω ω;have Y:Dl (a[k]+c+b[k])=a[k]+c+b[k]:=Jo ω ω;show (bif (k:Int)<(b.length:Int) then _ else _)=_;rw[As (ω:(k:Int)<(b.length:Int)),Am,Hv rfl hb',Ad,B,Y]) (by rw[I1 a h,I1 b hb'];grind);exact⟨s',I,G,D⟩
   .obtain⟨s',I,G,D⟩:=step (a[k]+c) ω ω (by have B:Dl (a[k]+c)=a[k]+c:=Jo ω ω;show (bif (k:Int)<(b.length:Int) then _ else _)=_;rw[A5 (ω:¬(k:Int)<(b.length:Int)),Aq,B]) (by rw[I1 a h,Xu b hb',Xu b ω];grind);exact⟨s',I,G,D⟩
  .have N:k=a.length:=ω;subst N;refine .inr ⟨(c,o),ψ,L,z,U,hc,?_⟩;rw[Db,Xu b X]at hv;exact hv
 .rintro⟨c,o⟩ ⟨h2,h3,h4,h5,h6⟩;simp only[];by_cases hc:c>0
  .have:c=1:=ω;subst this;rw[As hc,Am,D2 ζ,Ad];congr 1;refine Akx (Atn (h3.snoc ω ω) λ_=>?_) (by rw[Qk,h2];omega);rw[Qk,h2];have:=I2 h3.u32;simp[h2];omega
  .have:c=0:=ω;subst this;rw[A5 hc,Aq];congr 1;refine Akx (Atn h3 λM=>?_) ω;have V:a≠[]:=(by intro e;rw[e]at h2;exact M (Gn.1 h2));have:=R V;rw[h2];omega
theorem Atp (h:Al n≠[]):1000000000 ^ ((Al n).length-1)<=Au (Al n):=by
 rw[Ij];have h1:(Al n).length≠0:=λe=>h (Gn.1 e);have:=Asa (n:=n) (k:=(Al n).length-1) (by unfold Ck;omega);have e:((1000000000 ^ ((Al n).length-1):Nat):Int)=1000000000 ^ ((Al n).length-1):=by rw[Int.natCast_pow];rfl
 omega
theorem Atq (m n:Nat) (c:Ck m<1099511627776) (b:Ck n<1099511627776):Zt (Al m) (Al n)=some (Al (m+n)):=by
 unfold Zt;unfold Ck at c b;by_cases f:(Al m).length<(Al n).length
 .simp only[As (ω:((Al m).length:Int)<(Al n).length),Am,Ad];have:=Ato (Al n) (Al m) (Ik n) (Ik m) b ω Atp;rw[Ij,Ij]at this;rw[show m+n=((n:Int)+(m:Int)).toNat by omega];exact this
 .simp only[A5 (ω:¬((Al m).length:Int)<(Al n).length),Aq,Ad];have:=Ato (Al m) (Al n) (Ik m) (Ik n) c ω Atp;rw[Ij,Ij]at this;rw[show m+n=((m:Int)+(n:Int)).toNat by omega];exact this
theorem So (h:k<n) (b:n<4611686018427387904):Ac ((k:Int)+1)=((k+1:Nat):Int):=by rw[Ac,Cl] <;> omega
theorem Agj (m n:Nat) (V:Ck m<1099511627776) (A:n<=m):W0 (Al m) (Al n)=some (Al (m-n)):=by
 unfold W0;have D:(Al n).length<=(Al m).length:=Mk A;unfold Ck at V;rw[Akw rfl ω ω];simp only[Ad];have ha:=Ik m;have hb:=Ik n;refine Nj (λ(c,i,o)=>∃k:Nat,i=k/\k<=(Al m).length/\o.length=k/\Cv o/\0<=c/\c<=1/\Au o=Au ((Al m).take k)-Au ((Al n).take k)+1000000000 ^ k*c) (λ(_,i,_)=>(Al m).length-i.toNat) (λo=>∃c:Int,o.length=(Al m).length/\Cv o/\0<=c/\c<=1/\Au o=(m:Int)-n+1000000000 ^ (Al m).length*c) ⟨0,rfl,ω,rfl,Cv.nil,ω,ω,by simp[Au]⟩ ?_ ?_
 .rintro⟨c,i,o⟩ ⟨k,rfl,hk,l,g,G,hc,hv⟩;rcases Cj k (Al m).length with h|h
  .have hx:=ha.get h;have N:=So h ω;have M:decide ((k:Int)<((Al m).length:Int))=true:=As ω;have J:Ac (Al m)[k]=(Al m)[k]:=Cl ω ω;have I:Ac ((Al m)[k]-c)=(Al m)[k]-c:=Cl ω ω;have key:∀s:Int,-1000000001<=s->s<1000000000->Au ((Al m).take (k+1))-Au ((Al n).take (k+1))=Au ((Al m).take k)-Au ((Al n).take k)+1000000000 ^ k*(s+c) ->
     ∃(f:Int) (d:Int),(bif decide (s<0) then ((Cd 4 o [(Dl (Ac (s+1000000000)))]).bind λz=>some (Sum.inl (1,(Ac ((k:Int)+1)),z))) else ((Cd 4 o [(Dl s)]).bind λy=>some (Sum.inl (0,(Ac ((k:Int)+1)),y))))=some (Sum.inl (f,((k+1:Nat):Int),o++[d]):(Int×Int×List Int)⊕List Int) /\ (-1000000000<=s->(∃j:Nat,((k+1:Nat):Int)=j/\j<=(Al m).length/\(o++[d]).length=j/\Cv (o++[d])/\0<=f/\f<=1/\Au (o++[d])=Au ((Al m).take j)-Au ((Al n).take j)+1000000000 ^ j*f)):=by
    intro s h1 h2 b;by_cases L:s<0
    .refine⟨1,Dl (Ac (s+1000000000)),by rw[As L,Am,D2 ζ,Ad,N],λh3=>?_⟩;have U:Ac (s+1000000000)=s+1000000000:=Cl ω ω;have q:Dl (s+1000000000)=s+1000000000:=Jo ω ω;rw[U,q];refine⟨k+1,rfl,ω,by simp[l],g.snoc ω ω,ω,ω,?_⟩;rw[b,Qk,l,hv,Int.pow_succ];grind
    .refine⟨0,Dl s,by rw[A5 L,Aq,D2 ζ,Ad,N],λh3=>?_⟩;have q:Dl s=s:=Jo ω ω;rw[q];refine⟨k+1,rfl,ω,by simp[l],g.snoc ω ω,ω,ω,?_⟩;rw[b,Qk,l,hv,Int.pow_succ];grind
   refine .inl ?_;rcases Cj k (Al n).length with hb'|hb'
   .have hy:=hb.get hb';have S:Ac (Al n)[k]=(Al n)[k]:=Cl ω ω;have R:Ac ((Al m)[k]-c-(Al n)[k])=(Al m)[k]-c-(Al n)[k]:=Cl ω ω;obtain⟨f,d,x,u⟩:=key ((Al m)[k]-c-(Al n)[k]) ω ω (by rw[I1 _ h,I1 _ hb'];grind);refine⟨(f,((k+1:Nat):Int),o++[d]),?_,u ω,ζ⟩;rw[<-x];simp only[M,Am,Hv rfl h,Ad,J,I,As (ω:(k:Int)<((Al n).length:Int)),Hv rfl hb',S,R]
   .obtain⟨f,d,x,u⟩:=key ((Al m)[k]-c) ω ω (by rw[I1 _ h,Xu (Al n) hb',Xu (Al n) ω];grind);refine⟨(f,((k+1:Nat):Int),o++[d]),?_,u ω,ζ⟩;rw[<-x];simp only[M,Am,Hv rfl h,Ad,J,I,A5 (ω:¬(k:Int)<((Al n).length:Int)),Aq]
  .have E:k=(Al m).length:=ω;subst E;refine .inr ⟨o,ψ,c,l,g,G,hc,?_⟩;rw[Db,Xu _ D,Ij,Ij]at hv;exact hv
 .rintro o ⟨c,h2,h3,Z,Y,X⟩;have B:=L5 h3;rw[h2]at B;have hp:=Mi (Al m).length;have:c=0:=by
   rcases Int.lt_or_le 0 c with hc|hc
   .have:c=1:=ω;subst this;omega
   .omega
  subst this;rw[U8 o ω,Ad,Uz h3 (n:=m-n) ω]
theorem Atr (m d:Nat) (L:Ck m<1099511627776) (hd:0<d) (M:d<4294967296):W6 (Al m) d=some (Al (m / d),((m % d:Nat):Int)):=by
 unfold W6;unfold Ck at L;rw[Nk rfl rfl (Nat.le_refl _) ω ω];simp only[Ad];have ha:=Ik m;have hw:Ac (((Al m).length:Int)-1)=((Al m).length:Int)-1:=by rw[Ac,Cl] <;> omega
 rw[hw];refine Nj (λ(r,i,o)=>∃k:Nat,i=(k:Int)-1/\k<=(Al m).length/\o.length=(Al m).length/\Cv o/\0<=r/\r<d/\Au (o.drop k)*d+r=Au ((Al m).drop k)) (λ(_,i,_)=>(i+1).toNat) (λ(r,o)=>o.length=(Al m).length/\Cv o/\0<=r/\r<d/\Au o*d+r=m) ⟨(Al m).length,rfl,Nat.le_refl _,ψ,Cv.replicate _,ω,ω,by simp[Au]⟩ ?_ ?_
 .rintro⟨r,i,o⟩ ⟨k,rfl,hk,z,g,s,J,hv⟩;cases k with
  | zero=>exact .inr ⟨(r,o),ψ,z,g,s,J,by simpa[Ij] using hv⟩
  | succ j=>
   have hj:j<(Al m).length:=ω;have h:j<o.length:=ω;have hx:=ha.get hj;have V:((j+1:Nat):Int)-1=(j:Int):=ω;have U:decide ((j:Int)>=0)=true:=As ω;have G:Bg (r*1000000000)=r*1000000000:=F1 ω ω;have E:Bg (Al m)[j]=(Al m)[j]:=F1 ω ω;have D:Bg (r*1000000000+(Al m)[j])=r*1000000000+(Al m)[j]:=F1 ω ω;have b:(0:Int)<(d:Int):=ω;have c:0<=r*1000000000+(Al m)[j]:=ω;have f:0<=(r*1000000000+(Al m)[j]) / (d:Int):=Int.ediv_nonneg c ω;have u:(r*1000000000+(Al m)[j]) / (d:Int)<1000000000:=(by apply Int.ediv_lt_of_lt_mul b;have:(r+1)*1000000000<=d*1000000000:=Int.mul_le_mul_of_nonneg_right ω δ;omega);have B:Dl ((r*1000000000+(Al m)[j]) / (d:Int))=(r*1000000000+(Al m)[j]) / (d:Int):=Jo f ω;have y:=Int.emod_nonneg (r*1000000000+(Al m)[j]) (ω:(d:Int)≠0);have x:=Int.emod_lt_of_pos (r*1000000000+(Al m)[j]) b;have A:Ac ((j:Int)-1)=(j:Int)-1:=ξ;refine .inl ⟨((r*1000000000+(Al m)[j]) % (d:Int),(j:Int)-1,o.set j ((r*1000000000+(Al m)[j]) / (d:Int))),?_,⟨j,rfl,ω,by simpa using z,g.set _ f u,y,x,?_⟩,ψ⟩
   .simp only[V,U,Am,Hv rfl hj,Hv rfl h,Ad,G,E,D,Qi c ω b,Pe c b,B,A,H5 rfl]
   .have d1:(o.set j ((r*1000000000+(Al m)[j]) / (d:Int))).drop j=((r*1000000000+(Al m)[j]) / (d:Int))::o.drop (j+1):=(by rw[drop_eq_getElem_cons (by simpa using h),drop_set_of_lt ω];simp);rw[d1,drop_eq_getElem_cons hj];simp only[Au];rw[<-hv];have:=Int.mul_ediv_add_emod (r*1000000000+(Al m)[j]) (d:Int);grind
 .rintro⟨r,o⟩ ⟨h2,h3,S,R,N⟩;simp only[];have I:=I2 h3.u32;have l:((m / d:Nat):Int)=Au o/\((m % d:Nat):Int)=r:=(by have b:(0:Int)<(d:Int):=ω;have e:=Int.ediv_emod_unique b (r:=r) (q:=Au o) (a:=(m:Int));have:=e.2 ⟨by rw[<-N];grind,S,R⟩;exact⟨by rw[Int.natCast_ediv];exact this.1,by rw[Int.natCast_emod];exact this.2⟩);rw[U8 o ω,Ad,Uz h3 l.1.symm,l.2]
theorem Alm (hx:0<=x) (c:x<1000000000) (hy:0<=y) (b:y<1000000000):0<=x*y/\x*y<=999999998000000001:=by refine⟨Int.mul_nonneg hx hy,?_⟩;have h1:x*y<=999999999*y:=Int.mul_le_mul_of_nonneg_right ω hy;omega
theorem Sp (m n:Nat) (hm:Ck m<549755813888) (hn:Ck n<549755813888):P7 (Al m) (Al n)=some (Al (m*n)):=by
 unfold P7;unfold Ck at hm hn;by_cases hz:m=0\/n=0
 .have:(show OB from bif (((Al m).length:Int)==(0:Int)) then some true else some (((Al n).length:Int)==(0:Int)))=some true:=by
   show (bif (((Al m).length:Int)==(0:Int)) then some true else some (((Al n).length:Int)==(0:Int)))=some true;by_cases h:m=0
   .subst h;rw[Jg];rfl
   .have y:n=0:=ω;subst y;rw[C3 (by have:=Mj h;have:(Al m).length≠0:=λe=>this (Gn.1 e);omega),Jg];rfl
  rw[this,Ad,Am];have:m*n=0:=(by rcases hz with rfl|rfl <;> simp);rw[this,Jg]
 .have G:m≠0:=ω;have y:n≠0:=ω;have a8:(Al m).length≠0:=λe=>Mj G (Gn.1 e);have a7:(Al n).length≠0:=λe=>Mj y (Gn.1 e);simp only[C3 (ω:((Al m).length:Int)≠0),C3 (ω:((Al n).length:Int)≠0),Aq,Ad];have hw:Ac (((Al m).length:Int)+((Al n).length:Int))=(((Al m).length+(Al n).length:Nat):Int):=ξ;rw[hw,Nk rfl rfl (Nat.le_refl _) ω ω];simp only[Ad];have ha:=Ik m;have hb:=Ik n;refine Nj (λ(i,o)=>∃k:Nat,i=k/\k<=(Al m).length/\o.length=(Al m).length+(Al n).length/\Cv o/\o.drop (k+(Al n).length)=replicate ((Al m).length-k) 0/\Au o=Au ((Al m).take k)*n) (λ(i,_)=>(Al m).length-i.toNat) (λo=>o.length=(Al m).length+(Al n).length/\Cv o/\Au o=((m*n:Nat):Int)) ⟨0,rfl,ω,ψ,Cv.replicate _,by rw[drop_replicate];congr 1;omega,by simp[Ar9,Au]⟩ ?_ ?_
  .rintro⟨i,o⟩ ⟨k,rfl,hk,N,D,J,hv⟩;rcases Cj k (Al m).length with h|h
   .have hx:=ha.get h;have e4:=So h ω;have e5:decide ((k:Int)<((Al m).length:Int))=true:=As ω;simp only[e5,Am];refine .inl (Afs (Et (λ(c,j,o')=>∃q:Nat,j=q/\q<=(Al n).length/\o'.length=(Al m).length+(Al n).length/\Cv o'/\o'.drop (k+(Al n).length)=replicate ((Al m).length-k) 0/\0<=c/\c<1000000000 /\ Au o' + 1000000000 ^ (k+q)*c=Au o+1000000000 ^ k*((Al m)[k]*Au ((Al n).take q))) (λ(_,j,_)=>(Al n).length-j.toNat) (λ(c,j,o')=>o'.length=(Al m).length+(Al n).length/\Cv o'/\o'.drop (k+(Al n).length)=replicate ((Al m).length-k) 0/\0<=c/\c<1000000000 /\ Au o' + 1000000000 ^ (k+(Al n).length)*c=Au o+1000000000 ^ k*((Al m)[k]*n)) ⟨0,rfl,ω,N,D,J,ω,ω,by simp[Au]⟩ ?_ ?_))
    .rintro⟨c,j,o'⟩ ⟨q,rfl,hq,l,b,f,z,hc,x⟩;rcases Cj q (Al n).length with hq'|hq'
     .have hy:=hb.get hq';have g:k+q<o'.length:=ω;have Z:=b.get g;have a1:=Alm hx.1 hx.2 hy.1 hy.2;have X:Bg (Al m)[k]=(Al m)[k]:=F1 ω ω;have V:Bg (Al n)[q]=(Al n)[q]:=F1 ω ω;have U:Bg ((Al m)[k]*(Al n)[q])=(Al m)[k]*(Al n)[q]:=F1 ω ω;have S:Bg o'[k+q]=o'[k+q]:=F1 ω ω;have R:Bg ((Al m)[k]*(Al n)[q]+o'[k+q])=(Al m)[k]*(Al n)[q]+o'[k+q]:=F1 ω ω;have M:Bg ((Al m)[k]*(Al n)[q]+o'[k+q]+c)=(Al m)[k]*(Al n)[q]+o'[k+q]+c:=F1 ω ω;have e6:=So hq' ω;have e7:decide ((q:Int)<((Al n).length:Int))=true:=As ω;have L:Ac ((k:Int)+(q:Int))=((k+q:Nat):Int):=ξ;generalize hs:(Al m)[k]*(Al n)[q]+o'[k+q]+c=s at M;have A:0<=s:=ω;have a6:s<1000000000000000000:=ω;have E:Dl (s % 1000000000)=s % 1000000000:=Jo ω ω;refine .inl ⟨(s / 1000000000,((q+1:Nat):Int),o'.set (k+q) (s % 1000000000)),?_,⟨q+1,rfl,ω,by simpa using l,b.set _ ω ω,?_,ω,ω,?_⟩,ζ⟩
      .simp only[e7,Am,Hv rfl h,Hv rfl hq',L,Hv rfl g,Ad,X,V,U,S,R,hs,M,Pe A (show (0:Int)<1000000000 by decide),Qi A (show s<=_ by omega) (show (0:Int)<1000000000 by decide),E,e6,H5 rfl]
      .rw[drop_set_of_lt ω];exact f
      .rw[Sg _ g,I1 _ hq'];have:=Int.mul_ediv_add_emod s 1000000000;have Y:(1000000000:Int) ^ (k+(q+1))=1000000000 ^ (k+q)*1000000000:=(by rw[<-Nat.add_assoc,Int.pow_succ]);have p2:(1000000000:Int) ^ (k+q)=1000000000 ^ k*1000000000 ^ q:=Int.pow_add ..;rw[Y];grind
     .have:q=(Al n).length:=ω;subst this;refine .inr ⟨(c,_,o'),by simp;rfl,l,b,f,z,hc,?_⟩;rw[Db,Ij]at x;exact x
    .rintro⟨c,j,o'⟩ ⟨l,b,f,z,hc,x⟩;have L:Ac ((k:Int)+((Al n).length:Int))=((k+(Al n).length:Nat):Int):=ξ;have g:k+(Al n).length<o'.length:=ω;have E:Dl c=c:=Jo ω ω;have u:o'[k+(Al n).length]=0:=(by have:=congrArg head? f;rw[head?_drop,Bs g]at this;have B:(replicate ((Al m).length-k) (0:Int)).head? = some 0:=(by cases hh:(Al m).length-k with| zero=>omega| succ t=>rfl);rw[B]at this;exact Fp this);refine⟨_,by simp only[L,Hv rfl g,Ad,E,e4,H5 rfl];rfl,_,rfl,⟨k+1,rfl,ω,by simpa using l,b.set _ z hc,?_,?_⟩,ζ⟩
     .rw[drop_set_of_lt ω,show k+1+(Al n).length=(k+(Al n).length)+1 by omega,<-drop_drop,f,drop_replicate];congr 1
     .rw[Sg _ g,u,I1 _ h,Int.add_mul,<-hv];grind
   .have I:k=(Al m).length:=ω;subst I;refine .inr ⟨o,ψ,N,D,?_⟩;rw[Db,Ij]at hv;rw[hv];simp
  .rintro o ⟨h2,h3,h4⟩;rw[U8 o ω,Ad,Uz h3 h4]
theorem Ats (a:List Int) (m:Nat) (ha:Cv a) (V:a.length<1099511627776) (U:m<1000000000) : ∃o,W7 a m=some o/\o.length=a.length+1/\Cv o/\Au o=Au a*m:=by
 unfold W7;have u:Ac ((a.length:Int)+1)=((a.length+1:Nat):Int):=by rw[Ac,Cl] <;> omega
 rw[u,Nk rfl rfl (Nat.le_refl _) ω ω];simp only[Ad];refine Et (λ(c,i,o)=>∃k:Nat,i=k/\k<=a.length/\o.length=a.length+1/\Cv o/\o.drop k=replicate (a.length+1-k) 0/\0<=c/\c<1000000000/\Au o+1000000000 ^ k*c=Au (a.take k)*m) (λ(_,i,_)=>a.length-i.toNat) (λ(c,o)=>o.length=a.length+1/\Cv o/\o.drop a.length = [0]/\0<=c/\c<1000000000/\Au o+1000000000 ^ a.length*c=Au a*m) ⟨0,rfl,ω,ψ,Cv.replicate _,ψ,ω,ω,by simp[Au,Ar9]⟩ ?_ ?_
 .rintro⟨c,i,o⟩ ⟨k,rfl,hk,B,q,g,z,hc,hv⟩;rcases Cj k a.length with h|h
  .have hx:=ha.get h;have f:k<o.length:=ω;have G:=Alm hx.1 hx.2 (show (0:Int)<=m by omega) ω;have S:=So h ω;have R:decide ((k:Int)<(a.length:Int))=true:=As ω;have E:Bg a[k]=a[k]:=F1 ω ω;have D:Bg (a[k]*(m:Int))=a[k]*m:=F1 ω ω;have A:Bg (a[k]*(m:Int)+c)=a[k]*m+c:=F1 ω ω;have b:o[k]=0:=(by have:=congrArg head? g;rw[head?_drop,Bs f]at this;have l:(replicate (a.length+1-k) (0:Int)).head? = some 0:=(by cases hh:a.length+1-k with| zero=>omega| succ t=>rfl);rw[l]at this;exact Fp this);generalize J:a[k]*(m:Int)+c=s at A;have j:0<=s:=ω;have I:s<1000000000000000000:=ω;have x:Dl (s % 1000000000)=s % 1000000000:=Jo ω ω;refine .inl ⟨(s / 1000000000,((k+1:Nat):Int),o.set k (s % 1000000000)),?_,⟨k+1,rfl,ω,by simpa using B,q.set _ ω ω,?_,ω,ω,?_⟩,ζ⟩
   .simp only[R,Am,Hv rfl h,Hv rfl f,Ad,E,D,J,A,Pe j (show (0:Int)<1000000000 by decide),Qi j (show s<=_ by omega) (show (0:Int)<1000000000 by decide),x,S,H5 rfl]
   .rw[drop_set_of_lt ω,<-drop_drop,g,drop_replicate];congr 1
   .rw[Sg _ f,b,I1 _ h,Int.pow_succ];have:=Int.mul_ediv_add_emod s 1000000000;grind
  .have y:k=a.length:=ω;subst y;refine .inr ⟨(c,o),ψ,B,q,by rw[g];simp,z,hc,by rwa [Db]at hv⟩
 .rintro⟨c,o⟩ ⟨h2,h3,g,N,M,L⟩;have f:a.length<o.length:=ω;have x:Dl c=c:=Jo ω ω;have b:o[a.length]=0:=(by have:=congrArg head? g;rw[head?_drop,Bs f]at this;exact Fp this);refine⟨o.set a.length c,by simp only[Hv rfl f,Ad,x,H5 rfl],by simpa using h2,h3.set _ N M,?_⟩;rw[Sg _ f,b,<-L];grind
theorem Sq {α:Type} {l:List α} {i:Int} (hi:i=k) (hk:k<n) (h:off+k<l.length):H3 l off n i=some l[off+k]:=by subst hi;have h1:(0:Int)<=(k:Int):=ω;have h2:(k:Int)<(n:Int):=ω;simp[H3,hk,h]
theorem A5z {k tb B:Int} (i:0<P) (u:V=j+P*tb) (l:0<=j) (x:U=k+P*hb) (s:k<P) (hq:q*V<=U) (c:0<=g) (h:hb<g*tb) (b:0<=tb):q<g:=by
 rcases Int.lt_or_le q g with h'|h'
 .exact h'
 .exfalso;have f:0<=V:=(by have:=Int.mul_nonneg (Int.le_of_lt i) b;omega);have h1:g*V<=q*V:=Int.mul_le_mul_of_nonneg_right h' f;have h2:g*(P*tb)<=g*V:=Int.mul_le_mul_of_nonneg_left ω c;have h3:P*(hb+1)<=P*(g*tb):=Int.mul_le_mul_of_nonneg_left ω (Int.le_of_lt i);have z:g*(P*tb)=P*(g*tb):=(by grind);have y:P*(hb+1)=P*hb+P:=(by grind);omega
theorem Att {k tb:Int} (i:0<P) (y:V=j+P*tb) (s:j<P) (z:U=k+P*hb) (u:0<=k) (hq:U<(q+1)*V) (l:0<=g) (hgt:g<=tb+1) (h:g*tb<=hb) (b:0<V):g<=q+1:=by
 rcases Int.lt_or_le (q+1) g with h'|h'
 .exfalso;have f:0<=g-1:=by
   rcases Int.lt_or_le g 1 with h2|h2
   .have:g=0:=ω;subst this;have c:q+1<0:=h';have:(q+1)*V<0:=Int.mul_neg_of_neg_of_pos c b;have h0:0<=hb:=(by simpa using h);have:=Int.mul_nonneg (Int.le_of_lt i) h0;omega
   .omega
  have h1:(q+1)*V<=(g-1)*V:=Int.mul_le_mul_of_nonneg_right ω (Int.le_of_lt b);have x:P*(tb+1)=P*tb+P:=(by grind);have h2:(g-1)*V<=(g-1)*(P*(tb+1)):=Int.mul_le_mul_of_nonneg_left ω f;have h3:(g-1)*(P*(tb+1))=P*(g*tb+(g-tb-1)):=(by grind);have A:P*(g*tb+(g-tb-1))<=P*hb:=Int.mul_le_mul_of_nonneg_left ω (Int.le_of_lt i);omega
 .exact h'
theorem A50 {A C:Type} {X:Option (A×C)} {Q:A->C->Prop} (h:∃r,X=some r/\Q r.1 r.2):∃q o,X=some (q,o)/\Q q o:=by obtain⟨⟨a,c⟩,h1,h2⟩:=h;exact⟨a,c,h1,h2⟩
theorem al1 (k:g*t+r=h):(g-1)*t+(r+t)=h:=by grind
theorem al2 {p:Int} (e:s-1000000000*d=x-b-p):o+P*(s-x)-P*1000000000*d=(o-P*b)-P*p:=by grind
theorem al3 (b X K g A y:Int):b-X*(g*A)-X*K*(g*y)=b-X*(g*(A+K*y)):=by grind
theorem al4 {c:Int} (h:u+X*(W+N*c-U)-X*N*b=u-X*(g*V)):X*(U-g*V)=X*(W+N*(c-b)):=by grind
theorem al5 (u X q:Int):u-X*q-u=X*(-q):=by grind
theorem al6 (h:o-P*b=r):o+P*(x-b-x)=r:=by grind
theorem al7 {K c A:Int} (g:x+y+c=s) (f:1000000000*(s / 1000000000)+s % 1000000000=s) (h:b+X*K*c=o+X*A):b+X*K*(s % 1000000000-x)+X*K*1000000000*(s / 1000000000)=o+X*(A+K*y):=by grind
theorem al8 {f c:Int} (h1:o-X*N*b=u-X*((q+1)*V)) (h2:u+X*(W+N*f-U)+X*N*c=o+X*V):X*(U-q*V)=X*(W+N*(f-b+c)):=by grind
theorem al9 {c f:Int} (h1:g+P*c=o+X*V) (h2:o-P*b=u-X*((q+1)*V)) (h3:f=b-c):g+P*(0-f)=u-X*(q*V):=by grind
theorem gtb (k:g*t+r=h):g*(t*1000000000+x)=(h-r)*1000000000+g*x:=by subst k;grind
theorem Aln (h:(1000000000:Int) ^ k*x=1000000000 ^ k*y):x=y:=Int.eq_of_mul_eq_mul_left (by have:=Mi k;omega) h
theorem Atu {o u:List Int} (b:off<=o.length) (hu:off<=u.length) (h:o.take off=u.take off):Au o-Au u=1000000000 ^ off*(Au (o.drop off)-Au (u.drop off)):=by rw[Pg o off b,Pg u off hu,h];grind
theorem Agk (h:Cv l) (k:Nat):0<=Au (l.drop k):=I2 (h.drop k).u32
theorem A51 {D:List Int} (b:Cv D) (h2:2<=n) (i:n<D.length) (g:Au D<1000000000 ^ (n+1)) : Au D=Au (D.take (n-2))+1000000000 ^ (n-2)*((D[n]*1000000000+D[n-1])*1000000000+D[n-2]):=by
 have e:=Pg D (n+1) i;have h0:Au (D.drop (n+1))=0:=by
  have s:=Agk b (n+1);have ht:=I2 ((b.take (n+1)).u32);rcases Int.lt_or_le 0 (Au (D.drop (n+1))) with h|h
  .have:(1000000000:Int) ^ (n+1)*1<=1000000000 ^ (n+1)*Au (D.drop (n+1)):=Int.mul_le_mul_of_nonneg_left h (Int.le_of_lt (Mi _));omega
  .omega
 rw[h0,Int.mul_zero,Int.add_zero]at e;obtain⟨t,rfl⟩:∃t,n=t+2:=⟨n-2,ω⟩;have q:=I1 D (k:=t) ω;have l:=I1 D (k:=t+1) ω;have j:=I1 D (k:=t+2) ω;have f:(1000000000:Int) ^ (t+1)=1000000000 ^ t*1000000000:=Int.pow_succ ..;have c:(1000000000:Int) ^ (t+2)=1000000000 ^ (t+1)*1000000000:=Int.pow_succ ..;have i1:t+2-2=t:=rfl;have i2:t+2-1=t+1:=rfl;simp only[i1,i2];rw[e,j,l,q,c,f];grind
theorem A52 {v:List Int} (h2:2<=n) (g:v.length=n) : Au v=Au (v.take (n-2))+1000000000 ^ (n-2)*(v[n-1]*1000000000+v[n-2]):=by obtain⟨t,rfl⟩:∃t,n=t+2:=⟨n-2,ω⟩;have f:=I1 v (k:=t) ω;have b:=I1 v (k:=t+1) ω;have e:v.take (t+1+1)=v:=Ii ω;rw[e]at b;have c:(1000000000:Int) ^ (t+1)=1000000000 ^ t*1000000000:=Int.pow_succ ..;have i1:t+2-2=t:=rfl;have i2:t+2-1=t+1:=rfl;simp only[i1,i2];rw[b,f,c];grind
set_option maxHeartbeats 1000000 in
theorem A53 (v u:List Int) (off n:Nat) (hv:Cv v) (hu:Cv u) (hn:v.length=n) (h2:2<=n) (c8:n<1099511627776) (bp:500000000<=v[n-1]) (X:off+n<u.length) (hT:Au (u.drop off)<Au v*1000000000) : ∃q o,Aab off (n+1) v u=some (q,o)/\o.length=u.length/\Cv o/\0<=q/\q<1000000000/\Au o=Au u-1000000000 ^ off*(q*Au v)/\0<=Au (o.drop off)/\Au (o.drop off)<Au v:=by
 have b7:=L5 hv;rw[hn]at b7;have cd:(u.drop off).length=u.length-off:=length_drop;have A:=hu.drop off;have bo:=I2 A.u32;have b9:Au (u.drop off)<1000000000 ^ (n+1):=by rw[Int.pow_succ];omega
 have ab:=A51 A h2 ω b9;have ao:=A52 h2 hn;have gd:∀i (h:i<(u.drop off).length),(u.drop off)[i]=u[off+i]' ω:=λi h=>getElem_drop;rw[gd,gd,gd]at ab;have bt:=hu.get (i:=off+n) ω;have bw:=hu.get (i:=off+(n-1)) ω;have bu:=hu.get (i:=off+(n-2)) ω;have bx:=hv.get (i:=n-1) ω;have ad:=hv.get (i:=n-2) ω;have hP:=Mi (n-2);have b8:=I2 ((hv.take (n-2)).u32);have aa:=L5 (hv.take (n-2));rw[length_take,Nat.min_eq_left ω]at aa;have bb:=I2 ((A.take (n-2)).u32);have ba:=L5 (A.take (n-2));rw[length_take,Nat.min_eq_left ω]at ba;have y:0<Au v:=by have:(1000000000:Int) ^ (n-2)*1<=1000000000 ^ (n-2)*(v[n-1]*1000000000+v[n-2]):=Int.mul_le_mul_of_nonneg_left ω (Int.le_of_lt hP);omega
 generalize hq:Au (u.drop off) / Au v=q;have bi:q*Au v<=Au (u.drop off):=by rw[<-hq];exact Int.ediv_mul_le _ ω
 have ar:Au (u.drop off)<(q+1)*Au v:=by rw[<-hq];have:=Int.lt_ediv_add_one_mul_self (Au (u.drop off)) y;exact this
 have ag:0<=q:=by rw[<-hq];exact Int.ediv_nonneg bo ω
 have bg:q<1000000000:=by rw[<-hq];exact Int.ediv_lt_of_lt_mul y (by rw[Int.mul_comm];exact hT)
 have l:(0:Int)<v[n-1]:=ω;generalize ak:u[off+n]*1000000000+u[off+(n-1)]=head at ab;have am:0<=head:=ω;have ca:head<=v[n-1]*1000000000+v[n-2]:=by
  rcases Int.lt_or_le (v[n-1]*1000000000+v[n-2]) head with h|h
  .exfalso;have a1:(1000000000:Int) ^ (n-2)*((v[n-1]*1000000000+v[n-2]+1)*1000000000)<=1000000000 ^ (n-2)*(head*1000000000+u[off+(n-2)]):=Int.mul_le_mul_of_nonneg_left ω (Int.le_of_lt hP);have a2:Au v*1000000000<(1000000000 ^ (n-2)*(v[n-1]*1000000000+v[n-2]+1))*1000000000:=(by have:(1000000000:Int) ^ (n-2)*(v[n-1]*1000000000+v[n-2]+1)=1000000000 ^ (n-2)*(v[n-1]*1000000000+v[n-2])+1000000000 ^ (n-2):=(by grind);omega);have a3:((1000000000:Int) ^ (n-2)*(v[n-1]*1000000000+v[n-2]+1))*1000000000=1000000000 ^ (n-2)*((v[n-1]*1000000000+v[n-2]+1)*1000000000):=(by grind);omega
  .exact h
 have cb:0<=head / v[n-1]:=Int.ediv_nonneg am ω;have bm:head / v[n-1]<=1000000001:=by have:head / v[n-1]<1000000002:=Int.ediv_lt_of_lt_mul l ω;omega
 have bf:=Int.emod_nonneg head (ω:v[n-1]≠0);have bz:=Int.emod_lt_of_pos head l;have bn:=Int.mul_ediv_add_emod head v[n-1];unfold Aab;have w1:Ac ((v.length:Int)-1)=((n-1:Nat):Int):=by rw[Ac,Cl] <;> omega
 have w2:Ac ((v.length:Int)-2)=((n-2:Nat):Int):=by rw[Ac,Cl] <;> omega
 have w3:(v.length:Int)=((n:Nat):Int):=ω;have x1:Bg u[off+n]=u[off+n]:=F1 ω ω;have x2:Bg (u[off+n]*1000000000)=u[off+n]*1000000000:=F1 ω ω;have x3:Bg u[off+(n-1)]=u[off+(n-1)]:=F1 ω ω;have x4:Bg (u[off+n]*1000000000+u[off+(n-1)])=head:=by rw[Bg,F1 ω ω,ak]
 have x5:Bg v[n-1]=v[n-1]:=F1 ω ω;have x6:Bg v[n-2]=v[n-2]:=F1 ω ω;have x7:Bg u[off+(n-2)]=u[off+(n-2)]:=F1 ω ω;rw[w1,w2,Hv rfl (ω:n-1<v.length),Ad,Hv rfl (ω:n-2<v.length),Ad,w3,Sq rfl (ω:n<n+1) ω,Ad,Sq rfl (ω:n-1<n+1) ω,Ad,x1,x2,x3,x4,x5,x6,Qi am ω l,Ad,Pe am l,Ad];refine A50 (Et (λ(g,rest)=>g*v[n-1]+rest=head/\0<=rest/\rest<2000000000/\q<=g/\g<=1000000001) (λ(g,_)=>g.toNat) (λg=>q<=g/\g<=q+1/\g<=1000000000) ⟨by rw[Int.mul_comm];exact bn,bf,ω,?_,bm⟩ ?_ ?_)
 .rcases Int.lt_or_le (head / v[n-1]) q with h|h
  .exfalso;have a1:(head / v[n-1]+1)*v[n-1]<=q*v[n-1]:=Int.mul_le_mul_of_nonneg_right ω ω;have a2:head<(head / v[n-1]+1)*v[n-1]:=Int.lt_ediv_add_one_mul_self head l;have a3:q*(1000000000 ^ (n-2)*(v[n-1]*1000000000+v[n-2]))<=q*Au v:=Int.mul_le_mul_of_nonneg_left ω ag;have a4:(1000000000:Int) ^ (n-2)*((head+1)*1000000000)<=1000000000 ^ (n-2)*(q*(v[n-1]*1000000000+v[n-2])):=(by apply Int.mul_le_mul_of_nonneg_left _ (Int.le_of_lt hP);have b1:(head+1)*1000000000<=q*v[n-1]*1000000000:=ω;have b2:0<=q*v[n-2]:=Int.mul_nonneg ag ad.1;have b3:q*(v[n-1]*1000000000+v[n-2])=q*v[n-1]*1000000000+q*v[n-2]:=(by grind);omega);have a5:q*((1000000000:Int) ^ (n-2)*(v[n-1]*1000000000+v[n-2]))=1000000000 ^ (n-2)*(q*(v[n-1]*1000000000+v[n-2])):=(by grind);have a6:(1000000000:Int) ^ (n-2)*((head+1)*1000000000)=1000000000 ^ (n-2)*(head*1000000000)+1000000000 ^ (n-2)*1000000000:=(by grind);have a7:(1000000000:Int) ^ (n-2)*(head*1000000000+u[off+(n-2)])=1000000000 ^ (n-2)*(head*1000000000)+1000000000 ^ (n-2)*u[off+(n-2)]:=(by grind);have a8:(1000000000:Int) ^ (n-2)*(u[off+(n-2)]+1)<=1000000000 ^ (n-2)*1000000000:=Int.mul_le_mul_of_nonneg_left ω (Int.le_of_lt hP);have a9:(1000000000:Int) ^ (n-2)*(u[off+(n-2)]+1)=1000000000 ^ (n-2)*u[off+(n-2)]+1000000000 ^ (n-2):=(by grind);omega
  .exact h
 .rintro⟨g,rest⟩ ⟨k1,k2,k3,k4,k5⟩;have S:0<=g:=ω;have w4:Bg (v[n-1])=v[n-1]:=x5;have af:∀(hgt:q<g),(some (Sum.inl ((Bg (g-1)),(Bg (rest+v[n-1])))):Option ((Int×Int)⊕Int))=some (.inl (g-1,rest+v[n-1])):=(by intro hgt;rw[show Bg (g-1)=g-1 from F1 ω ω,show Bg (rest+v[n-1])=rest+v[n-1] from F1 ω ω]);have stay:∀(hr:rest<1000000000) (hgt:q<g),(g-1)*v[n-1]+(rest+v[n-1])=head/\0<=rest+v[n-1]/\rest+v[n-1]<2000000000/\q<=g-1/\g-1<=1000000001:=(by intro hr hgt;exact⟨al1 k1,ω,ω,ω,ω⟩);by_cases hr:rest<1000000000
  .by_cases Y:g>=1000000000
   .refine .inl ⟨(g-1,rest+v[n-1]),?_,stay hr ω,ζ⟩;simp only[As hr,Am,As Y,Ad];exact af ω
   .have br:=Alm S ω ad.1 ad.2;have y1:Bg (g*v[n-2])=g*v[n-2]:=F1 ω ω;have y2:Bg (rest*1000000000)=rest*1000000000:=F1 ω ω;have y3:Bg (rest*1000000000+u[off+(n-2)])=rest*1000000000+u[off+(n-2)]:=F1 ω ω;have az:g*(v[n-1]*1000000000+v[n-2])=(head-rest)*1000000000+g*v[n-2]:=gtb k1;simp only[As hr,Am,A5 Y,Aq,Sq rfl (ω:n-2<n+1) (ω:off+(n-2)<u.length),Ad,y1,x7,y2,y3];by_cases ae:g*v[n-2]>rest*1000000000+u[off+(n-2)]
    .have hgt:q<g:=A5z (P:=1000000000 ^ (n-2)) (tb:=v[n-1]*1000000000+v[n-2]) (hb:=head*1000000000+u[off+(n-2)]) (B:=0) hP ao b8 ab ba bi S ω ω;refine .inl ⟨(g-1,rest+v[n-1]),?_,stay hr hgt,ζ⟩;rw[As ae,Am];exact af hgt
    .refine .inr ⟨g,by rw[A5 ae,Aq],k4,?_,ω⟩;exact Att (P:=1000000000 ^ (n-2)) (tb:=v[n-1]*1000000000+v[n-2]) (hb:=head*1000000000+u[off+(n-2)]) hP ao aa ab bb ar S ω ω y
  .refine .inr ⟨g,by simp only[A5 hr,Aq,Ad],k4,?_⟩;have Y:g<=1000000000:=by
    rcases Int.lt_or_le 1000000000 g with h|h
    .exfalso;have:g=1000000001:=ω;subst this;omega
    .exact h
   refine⟨?_,Y⟩;have az:g*(v[n-1]*1000000000+v[n-2])=(head-rest)*1000000000+g*v[n-2]:=gtb k1;have bq:g*v[n-2]<=1000000000*v[n-2]:=Int.mul_le_mul_of_nonneg_right Y ad.1;exact Att (P:=1000000000 ^ (n-2)) (tb:=v[n-1]*1000000000+v[n-2]) (hb:=head*1000000000+u[off+(n-2)]) hP ao aa ab bb ar S ω ω y
 .rintro g ⟨k1,k2,k3⟩;have S:0<=g:=ω;refine Et (λ(b,i,o)=>∃k:Nat,i=k/\k<=n/\o.length=u.length/\Cv o/\o.take off=u.take off/\o.drop (off+k)=u.drop (off+k)/\0<=b/\b<=1000000001/\Au o-1000000000 ^ (off+k)*b=Au u-1000000000 ^ off*(g*Au (v.take k))) (λ(_,i,_)=>n-i.toNat) (λ(b,o)=>o.length=u.length/\Cv o/\o.take off=u.take off/\o.drop (off+n)=u.drop (off+n)/\0<=b/\b<=1000000001/\Au o-1000000000 ^ (off+n)*b=Au u-1000000000 ^ off*(g*Au v)) ⟨0,rfl,ω,rfl,hu,rfl,rfl,ω,ω,by simp[Au]⟩ ?_ ?_
  .rintro⟨b,i,o⟩ ⟨k,rfl,hk,ho,I,M,L,b6,b5,f⟩;rcases Cj k n with h|h
   .have E:off+k<o.length:=ω;have J:k<v.length:=ω;have hx:=I.get E;have hy:=hv.get J;have e4:=So h ω;have e5:decide ((k:Int)<(n:Int))=true:=As ω;have av:0<=g*v[k]:=Int.mul_nonneg S hy.1;have c7:g*v[k]<=1000000000*v[k]:=Int.mul_le_mul_of_nonneg_right k3 hy.1;have y1:Bg v[k]=v[k]:=F1 ω ω;have y2:Bg (g*v[k])=g*v[k]:=F1 ω ω;have y3:Ac o[off+k]=o[off+k]:=Cl ω ω;generalize au:g*v[k]=p at *;have y4:Ac (o[off+k]-b)=o[off+k]-b:=Cl ω ω;have y5:Ac (p % 1000000000)=p % 1000000000:=Cl ω ω;have y6:Ac (o[off+k]-b-p % 1000000000)=o[off+k]-b-p % 1000000000:=Cl ω ω;have y7:Ac (p / 1000000000)=p / 1000000000:=Cl ω ω;simp only[e5,Am,Sq rfl (ω:k<n+1) E,Hv rfl J,Ad,y1,y2,au,y3,y4,Pe av (show (0:Int)<1000000000 by decide),Qi av (show p<=_ by omega) (show (0:Int)<1000000000 by decide),y5,y6,y7];refine .inl (Afs (Et (λ(b',s)=>∃t:Nat,b'=p / 1000000000+t/\s=o[off+k]-b-p % 1000000000+t*1000000000/\s<1000000000/\t<=3) (λ(_,s)=>(-s).toNat) (λ(b',s)=>∃t:Nat,b'=p / 1000000000+t/\s=o[off+k]-b-p % 1000000000+t*1000000000/\s<1000000000/\0<=s/\t<=2) ⟨0,ψ,ψ,ω,ω⟩ ?_ ?_))
    .rintro⟨b',s⟩ ⟨t,rfl,hs,ac,ht⟩;by_cases G:s<0
     .refine .inl ⟨(p / 1000000000+(t+1:Nat),s+1000000000),?_,⟨t+1,rfl,by rw[hs];simp;omega,ω,ω⟩,ζ⟩;rw[As G,Am,show Ac (p / 1000000000+(t:Int)+1)=p / 1000000000+((t+1:Nat):Int) by rw[Ac,Cl] <;> omega,show Ac (s+1000000000)=s+1000000000 from Cl ω ω]
     .exact .inr ⟨(p / 1000000000+t,s),by rw[A5 G,Aq],t,rfl,hs,ac,ω,ω⟩
    .rintro⟨b',s⟩ ⟨t,rfl,hs,ac,G,ht⟩;have y8:Dl s=s:=Jo ω ω;refine⟨.inl (p / 1000000000+t,((k+1:Nat):Int),o.set (off+k) s),by simp only[Sq rfl (ω:k<n+1) E,Ad,y8,e4];rw[H5 (n:=off+k) ω],_,rfl,⟨k+1,rfl,ω,by simpa using ho,I.set _ G ac,?_,?_,ω,ω,?_⟩,ζ⟩
     .rw[take_set_of_le ω];exact M
     .rw[drop_set_of_lt ω,show off+(k+1)=(off+k)+1 by omega,<-drop_drop,L,drop_drop]
     .rw[Sg _ E,I1 v J,show off+(k+1)=(off+k)+1 by omega,Int.pow_succ];have ay:=Int.mul_ediv_add_emod p 1000000000;have pa:(1000000000:Int) ^ (off+k)=1000000000 ^ off*1000000000 ^ k:=Int.pow_add ..;have eA:s-1000000000*(p / 1000000000+(t:Int))=o[off+k]-b-p:=(by rw[hs];omega);rw[al2 eA,f,<-au,pa];exact al3 _ _ _ _ _ _
   .have aj:k=n:=ω;subst aj;refine .inr ⟨(b,o),ψ,ho,I,M,L,b6,b5,?_⟩;rw[Ii ω]at f;exact f
  .rintro⟨b,o⟩ ⟨ho,I,M,L,b6,b5,f⟩;have hV:=y;have ah:off+n<o.length:=ω;have ax:o[off+n]=u[off+n]:=(by have:=congrArg head? L;rw[head?_drop,head?_drop,Bs ah,Bs X]at this;exact Fp this);have hE:Au (u.drop (off+n))=u[off+n]:=by
    have a1:=Pg (u.drop off) (n+1) ω;have a2:=I2 (((hu.drop off).take (n+1)).u32);have a3:=Agk (hu.drop off) (n+1);have a4:Au ((u.drop off).drop (n+1))=0:=by
     rcases Int.lt_or_le 0 (Au ((u.drop off).drop (n+1))) with h|h
     .have:(1000000000:Int) ^ (n+1)*1<=1000000000 ^ (n+1)*Au ((u.drop off).drop (n+1)):=Int.mul_le_mul_of_nonneg_left h (Int.le_of_lt (Mi _));omega
     .omega
    rw[drop_eq_getElem_cons X];simp only[Au];rw[drop_drop,show off+(n+1)=off+n+1 by omega]at a4;rw[a4];omega
   have main:∀o':List Int,o'.length=u.length->Cv o'->o'.take off=u.take off->o'.drop (off+n)=u.drop (off+n)->0<=Au ((o'.drop off).take n)/\Au ((o'.drop off).take n)<1000000000 ^ n /\
     Au o'=Au u+1000000000 ^ off*(Au ((o'.drop off).take n)+1000000000 ^ n*u[off+n]-Au (u.drop off)):=by intro o' l1 l2 l3 l4;have a1:=Pg (o'.drop off) n (by rw[length_drop];omega);rw[drop_drop,l4,hE]at a1;have a2:=Atu ω ω l3;refine⟨I2 (((l2.drop off).take n).u32),?_,by rw[<-a1];omega⟩;have:=L5 ((l2.drop off).take n);rw[length_take,length_drop,Nat.min_eq_left ω]at this;exact this
   obtain⟨m1,m2,m3⟩:=main o ho I M L;have pa:(1000000000:Int) ^ (off+n)=1000000000 ^ off*1000000000 ^ n:=Int.pow_add ..;have star:Au (u.drop off)-g*Au v=Au ((o.drop off).take n)+1000000000 ^ n*(u[off+n]-b):=(by apply Aln (k:=off);rw[m3,pa]at f;exact al4 f);have y1:Ac u[off+n]=u[off+n]:=Cl ω ω;have y2:Ac (u[off+n]-b)=u[off+n]-b:=Cl ω ω;have ap:=Mi n;have fin:∀(U:List Int) (x:Int) (j:List Int),U=j.set (off+n) x->j.length=u.length->Cv j->0<=x->x<1000000000->j.take off=u.take off->Au U=Au u-1000000000 ^ off*(q*Au v) ->
     U.length=u.length/\Cv U/\0<=q/\q<1000000000/\Au U=Au u-1000000000 ^ off*(q*Au v)/\0<=Au (U.drop off)/\Au (U.drop off)<Au v:=by intro U x j e l1 l2 x0 x1 l3 aq;have L4:U.length=u.length:=(by rw[e];simpa using l1);have T4:U.take off=u.take off:=(by rw[e,take_set_of_le ω];exact l3);have hp:=Atu ω ω T4;have hd:Au (U.drop off)=Au (u.drop off)-q*Au v:=(by have:Au (U.drop off)-Au (u.drop off) = - (q*Au v):=(by apply Aln (k:=off);rw[<-hp,aq];exact al5 _ _ _);omega);have bh:(q+1)*Au v=q*Au v+Au v:=(by grind);exact⟨L4,by rw[e];exact l2.set _ x0 x1,ag,bg,aq,ω,ω⟩
   simp only[Sq rfl (ω:n<n+1) ah,ax,Ad,y1,y2];by_cases z:u[off+n]-b>=0
   .have c9:g*Au v<=Au (u.drop off):=(by have:=Int.mul_nonneg (Int.le_of_lt ap) z;omega);have R:g=q:=by
     rcases Int.lt_or_le q g with h|h
     .exfalso;have:(q+1)*Au v<=g*Au v:=Int.mul_le_mul_of_nonneg_right ω ω;omega
     .omega
    have y3:Dl (u[off+n]-b)=u[off+n]-b:=Jo ω ω;have y4:Dl g=g:=Jo ω ω;rw[As z,Am,y3,y4,H5 (n:=off+n) ω];refine⟨_,rfl,?_⟩;rw[R];refine fin _ (u[off+n]-b) o rfl ho I z ω M ?_;rw[Sg _ ah,ax];rw[R]at f;exact al6 f
   .have R:g=q+1:=by
     have h1:1000000000 ^ n*(u[off+n]-b)<=1000000000 ^ n*(-1):=Int.mul_le_mul_of_nonneg_left ω (Int.le_of_lt ap);rcases Int.lt_or_le q g with h|h
     .omega
     .exfalso;have:g*Au v<=q*Au v:=Int.mul_le_mul_of_nonneg_right h ω;omega
    rw[A5 z,Aq];refine Et (λ(c,i,j)=>∃k:Nat,i=k/\k<=n/\j.length=u.length/\Cv j/\j.take off=u.take off/\j.drop (off+k)=o.drop (off+k)/\0<=c/\c<=1/\Au j+1000000000 ^ (off+k)*c=Au o+1000000000 ^ off*Au (v.take k)) (λ(_,i,_)=>n-i.toNat) (λ(c,j)=>j.length=u.length/\Cv j/\j.take off=u.take off/\j.drop (off+n)=o.drop (off+n)/\0<=c/\c<=1/\Au j+1000000000 ^ (off+n)*c=Au o+1000000000 ^ off*Au v) ⟨0,rfl,ω,ho,I,M,rfl,ω,ω,by simp[Au]⟩ ?_ ?_
    .rintro⟨c,i,j⟩ ⟨k,rfl,hk,h3,N,V,Z,b4,b0,D⟩;rcases Cj k n with h|h
     .have E:off+k<j.length:=ω;have J:k<v.length:=ω;have hx:=N.get E;have hy:=hv.get J;have e4:=So h ω;have e5:decide ((k:Int)<(n:Int))=true:=As ω;have z1:Dl (j[off+k]+v[k])=j[off+k]+v[k]:=Jo ω ω;have z2:Dl (j[off+k]+v[k]+c)=j[off+k]+v[k]+c:=Jo ω ω;generalize hs:j[off+k]+v[k]+c=s at z2;have G:0<=s:=ω;have ac:s<2000000000:=ω;refine .inl ⟨(s / 1000000000,((k+1:Nat):Int),j.set (off+k) (s % 1000000000)),?_,⟨k+1,rfl,ω,by simpa using h3,N.set _ ω ω,?_,?_,ω,ω,?_⟩,ζ⟩
      .simp only[e5,Am,Sq rfl (ω:k<n+1) E,Hv rfl J,Ad,z1,hs,z2,Ar7 G (show s<=_ by omega) (show (0:Int)<1000000000 by decide),Pe G (show (0:Int)<1000000000 by decide),e4];rw[H5 (n:=off+k) ω]
      .rw[take_set_of_le ω];exact V
      .rw[drop_set_of_lt ω,show off+(k+1)=(off+k)+1 by omega,<-drop_drop,Z,drop_drop]
      .rw[Sg _ E,I1 v J,show off+(k+1)=(off+k)+1 by omega,Int.pow_succ];have ay:=Int.mul_ediv_add_emod s 1000000000;have pk:(1000000000:Int) ^ (off+k)=1000000000 ^ off*1000000000 ^ k:=Int.pow_add ..;rw[pk]at D ⊢;exact al7 hs ay D
     .have aj:k=n:=ω;subst aj;refine .inr ⟨(c,j),ψ,h3,N,V,Z,b4,b0,?_⟩;rw[Ii ω]at D;exact D
    .rintro⟨c,j⟩ ⟨h3,N,V,Z,b4,b0,D⟩;have ai:off+n<j.length:=ω;obtain⟨r1,r2,r3⟩:=main j h3 N V (Z.trans L);have bj:j[off+n]=u[off+n]:=(by have:=congrArg head? (Z.trans L);rw[head?_drop,head?_drop,Bs ai,Bs X]at this;exact Fp this);have be:Au (u.drop off)-q*Au v=Au ((j.drop off).take n)+1000000000 ^ n*(u[off+n]-b+c):=(by apply Aln (k:=off);rw[r3,pa]at D;rw[R]at f;rw[pa]at f;exact al8 f D);have bl:u[off+n]-b+c=0:=by
      have bh:(q+1)*Au v=q*Au v+Au v:=(by grind);rcases Int.lt_or_le (u[off+n]-b+c) 0 with h|h
      .exfalso;have h1:1000000000 ^ n*(u[off+n]-b+c)<=1000000000 ^ n*(-1):=Int.mul_le_mul_of_nonneg_left ω (Int.le_of_lt ap);omega
      .omega
     have y5:Ac c=c:=Cl ω ω;have y6:Ac (u[off+n]-b+c)=0:=(by rw[bl];rfl);have y7:Dl (0:Int)=0:=rfl;have y8:Bg (g-1)=q:=(by rw[R,Bg,F1 ω ω];omega);have y9:Dl q=q:=Jo ω ω;simp only[Sq rfl (ω:n<n+1) ai,Ad,y5,y6,y7,y8,y9];rw[H5 (n:=off+n) ω];refine⟨_,rfl,?_⟩;refine fin _ 0 j rfl h3 N ω ω V ?_;rw[Sg _ ai,bj];rw[R]at f;exact al9 D f ω
theorem A54 (a:List Int) (m:Int):Ako a m=W7 a m:=rfl
theorem A55 (ht:1<=t) (b:t<1000000000) (hd:d*(t+1)+r=1000000000) (g:0<=r) (c:r<=t):500000000<=d*t:=by
 have f:0<=d:=by
  rcases Int.lt_or_le d 0 with h|h
  .exfalso;have:d*(t+1)<=(-1)*(t+1):=Int.mul_le_mul_of_nonneg_right ω ω;omega
  .exact h
 have e:d*(t+1)=d*t+d:=by grind
 rcases Int.lt_or_le t 2 with h|h
 .have:t=1:=ω;subst this;omega
 .rcases Int.lt_or_le d 2 with h2|h2
  .have:d=0\/d=1:=ω;rcases this with rfl|rfl <;> omega
  .have h3:2*(t-1)<=d*(t-1):=Int.mul_le_mul_of_nonneg_right h2 ω;have i:d*(t-1)=d*t-d:=(by grind);omega
theorem bl1 (P t d:Int):P*t*d=P*(d*t):=by grind
theorem bl2 {K Q S:Int} (h:o=u-X*(q*V)) (b:u+V*(X*1000000000)*Q=S):o+V*X*(q+1000000000*Q)=S:=by grind
set_option maxHeartbeats 1000000 in
theorem Alo (m n:Nat) (hm:Ck m<274877906944) (hn:Ck n<274877906944) (G:n≠0):Ue (Al m) (Al n)=some (Al (m / n),Al (m % n)):=by
 unfold Ue;rw[All m n ω ω,Ad];unfold Ck at hm hn;by_cases g:m<n
 .rw[show Jk m n = -1 by rw[Jk,Av g],As (by decide:(-1:Int)<0),Am,D2 ζ,Ad,Nat.div_eq_of_lt g,Nat.mod_eq_of_lt g,Jg];rfl
 .rw[A5 (show ¬Jk m n<0 by rw[Jk,Ar g];split <;> decide),Aq];have be:(Al n).length<=(Al m).length:=Mk ω;have b0:(Al n).length≠0:=λe=>Mj G (Gn.1 e);by_cases h1:(Al n).length=1
  .rw[Eu (ω:((Al n).length:Int)=1),Am];have a6:n<1000000000:=(by have:=Ql n;rw[show Ck n=1 from h1]at this;simpa using this);have am:Al n = [(n:Int)]:=(by rw[Pf G,Nat.div_eq_of_lt a6,Jg,Nat.mod_eq_of_lt a6]);rw[am,show Ag [(n:Int)] 0=some (n:Int) from rfl,Ad,show Bg (n:Int)=n from F1 ω ω,Atr m n (by unfold Ck;omega) ω ω,Ad];have az:m % n<n:=Nat.mod_lt _ ω;rw[Agi (m % n) ω,Ad]
  .rw[C3 (ω:((Al n).length:Int)≠1),Aq];generalize hL:(Al n).length=L at *;generalize hA:(Al m).length=A at *;have w1:Ac ((L:Int)-1)=((L-1:Nat):Int):=ξ;have hi:L-1<(Al n).length:=ω;have ht:=(Ik n).get hi;have ax:(Al n)[L-1]≠0:=(by have:=(A4f n).2 (Mj G);rw[getLast_eq_getElem]at this;simpa[hL] using this);generalize y:(Al n)[L-1]=t at *;have w2:Bg t=t:=F1 ω ω;have w3:Bg (t+1)=t+1:=F1 ω ω;rw[w1,Hv rfl hi,y,Ad,w2,w3,Qi δ δ ω,Ad];have U:=Int.mul_ediv_add_emod 1000000000 (t+1);have ah:=Int.emod_nonneg 1000000000 (ω:t+1≠0);have b9:=Int.emod_lt_of_pos 1000000000 (ω:0<t+1);have aq:1<=1000000000 / (t+1):=by
    rcases Int.lt_or_le (1000000000 / (t+1)) 1 with h|h
    .exfalso;have:(t+1)*(1000000000 / (t+1))<=(t+1)*0:=Int.mul_le_mul_of_nonneg_left ω ω;omega
    .exact h
   have ap:1000000000 / (t+1)<=500000000:=(by have:=Int.ediv_lt_of_lt_mul (a:=1000000000) (b:=500000001) (c:=t+1) ω ω;omega);obtain⟨d,hd⟩:∃d:Nat,1000000000 / (t+1)=(d:Int):=⟨(1000000000 / (t+1)).toNat,ω⟩;rw[hd]at U aq ap ⊢;obtain⟨u,ag,E,S,R⟩:=Ats (Al m) d (Ik m) ω ω;obtain⟨v0,af,ae,D,b7⟩:=Ats (Al n) d (Ik n) ω ω;rw[ag,Ad,A54,af,Ad,Ij]at *;rw[hL]at ae;rw[hA]at E;rw[Xk rfl (ω:L<=v0.length),Ad];have x:=Mi (L-1);have pL:(1000000000:Int) ^ L=1000000000 ^ (L-1)*1000000000:=(by rw[<-Int.pow_succ];congr 1;omega);have Y:=I1 (Al n) hi;rw[Ii ω,Ij,y]at Y;have ay:=I2 (((Ik n).take (L-1)).u32);have Z:=L5 ((Ik n).take (L-1));rw[length_take,hL,Nat.min_eq_left ω]at Z;have bb:(n:Int)*d<1000000000 ^ L:=(by have a1:(n:Int)*d<(1000000000 ^ (L-1)*(t+1))*d:=Int.mul_lt_mul_of_pos_right (by have:(1000000000:Int) ^ (L-1)*(t+1)=1000000000 ^ (L-1)*t+1000000000 ^ (L-1):=(by grind);omega) ω;have a2:(1000000000 ^ (L-1)*(t+1))*(d:Int)=1000000000 ^ (L-1)*((t+1)*d):=(by grind);have a3:(1000000000:Int) ^ (L-1)*((t+1)*d)<=1000000000 ^ (L-1)*1000000000:=Int.mul_le_mul_of_nonneg_left ω (Int.le_of_lt x);omega);have M:Au (v0.take L)=(n:Int)*d:=by
    have e:=Pg v0 L ω;have z:Au (v0.drop L)=0:=by
     have a1:=Agk D L;have a2:=I2 ((D.take L).u32);rcases Int.lt_or_le 0 (Au (v0.drop L)) with h|h
     .have:(1000000000:Int) ^ L*1<=1000000000 ^ L*Au (v0.drop L):=Int.mul_le_mul_of_nonneg_left h (Int.le_of_lt (Mi _));omega
     .omega
    rw[z]at e;omega
   have I:(v0.take L).length=L:=(by rw[length_take];omega);have f:=D.take L;have J:L-1<(v0.take L).length:=ω;have ak:500000000<=(d:Int)*t:=A55 (r:=1000000000 % (t+1)) ω ω (by rw[Int.mul_comm];exact U) ah ω;have l:500000000<=(v0.take L)[L-1]:=by
    have e:=I1 (v0.take L) J;rw[Ii ω,M]at e;have b1:=L5 (f.take (L-1));rw[length_take,I,Nat.min_eq_left ω]at b1;have b2:(1000000000:Int) ^ (L-1)*t*d<=n*d:=Int.mul_le_mul_of_nonneg_right ω ω;have b3:(1000000000:Int) ^ (L-1)*500000000<=1000000000 ^ (L-1)*(d*t):=Int.mul_le_mul_of_nonneg_left ak (Int.le_of_lt x);rw[bl1]at b2;rcases Int.lt_or_le (v0.take L)[L-1] 500000000 with h|h
    .exfalso;have b4:(1000000000:Int) ^ (L-1)*((v0.take L)[L-1]+1)<=1000000000 ^ (L-1)*500000000:=Int.mul_le_mul_of_nonneg_left ω (Int.le_of_lt x);have b5:(1000000000:Int) ^ (L-1)*((v0.take L)[L-1]+1)=1000000000 ^ (L-1)*(v0.take L)[L-1]+1000000000 ^ (L-1):=(by grind);omega
    .exact h
   generalize b6:v0.take L=v at *;have w4:Ac ((A:Int)-(L:Int))=((A-L:Nat):Int):=ξ;have w5:Ac (((A-L:Nat):Int)+1)=((A-L+1:Nat):Int):=ξ;rw[w4,w5,Nk rfl rfl (Nat.le_refl _) ω ω,Ad,E];have b8:=I2 S.u32;have ar:(0:Int)<(n:Int)*d:=Int.mul_pos ω ω;refine Nj (λ(i,w,q)=>∃k:Nat,i=(k:Int)-1/\k<=A-L+1/\w.length=A+1/\Cv w/\q.length=A-L+1/\Cv q/\Au w<Au v*1000000000 ^ k/\Au w+Au v*1000000000 ^ k*Au (q.drop k)=(m:Int)*d) (λ(i,_,_)=>(i+1).toNat) (λ(w,q)=>w.length=A+1/\Cv w/\q.length=A-L+1/\Cv q/\Au w<Au v/\Au w+Au v*Au q=(m:Int)*d) ⟨A-L+1,ω,Nat.le_refl _,E,S,ψ,Cv.replicate _,?_,by rw[drop_of_length_le ψ];simp[Au,R]⟩ ?_ ?_
   .have aj:(m:Int)<1000000000 ^ A:=(by have:=L5 (Ik m);rwa [Ij,hA]at this);have a1:(m:Int)*d<1000000000 ^ A*500000000:=(by have c1:(m:Int)*d<=m*500000000:=Int.mul_le_mul_of_nonneg_left ω ω;have c2:(m:Int)*500000000<1000000000 ^ A*500000000:=Int.mul_lt_mul_of_pos_right aj δ;omega);have a2:(1000000000:Int) ^ (L-1)*500000000<=Au v:=(by have e:=I1 v J;rw[Ii ω]at e;have b1:=I2 ((f.take (L-1)).u32);have b3:(1000000000:Int) ^ (L-1)*500000000<=1000000000 ^ (L-1)*v[L-1]:=Int.mul_le_mul_of_nonneg_left l (Int.le_of_lt x);omega);have a3:(1000000000:Int) ^ (L-1)*500000000*1000000000 ^ (A-L+1)<=Au v*1000000000 ^ (A-L+1):=Int.mul_le_mul_of_nonneg_right a2 (Int.le_of_lt (Mi _));have a4:(1000000000:Int) ^ (L-1)*500000000*1000000000 ^ (A-L+1)=1000000000 ^ A*500000000:=(by have:(1000000000:Int) ^ A=1000000000 ^ (L-1)*1000000000 ^ (A-L+1):=(by rw[<-Int.pow_add];congr 1;omega);rw[this];grind);rw[R];omega
   .rintro⟨i,w,q⟩ ⟨k,rfl,hk,ac,B,X,V,a7,s⟩;cases k with
    | zero=>exact .inr ⟨(w,q),ψ,ac,B,X,V,by simpa using a7,by simpa using s⟩
    | succ j=>
     have e0:((j+1:Nat):Int)-1=(j:Int):=ω;have e1:decide ((j:Int)>=0)=true:=As ω;have w6:Ac ((j:Int)+(L:Int))=((j+L:Nat):Int):=ξ;have w7:Ac (((j+L:Nat):Int)+1)=((j+L+1:Nat):Int):=ξ;have sA:Rm (A+1) (j:Int) ((j+L+1:Nat):Int)=some (j,j+L+1):=(by have c1:(0:Int)<=(j:Int):=ω;have c2:(j:Int)<=((j+L+1:Nat):Int):=ω;have c3:((j+L+1:Nat):Int)<=((A+1:Nat):Int):=ω;have c4:(j:Int)=0\/(j:Int)<((j+L+1:Nat):Int):=ω;rw[Rm,Av ⟨c1,c2,c3,c4⟩];rfl);have au:Au (w.drop j)<Au v*1000000000:=by
      have s1:=Pg w j ω;have s2:=I2 ((B.take j).u32);rcases Int.lt_or_le (Au (w.drop j)) (Au v*1000000000) with h|h
      .exact h
      .exfalso;have:(1000000000:Int) ^ j*(Au v*1000000000)<=1000000000 ^ j*Au (w.drop j):=Int.mul_le_mul_of_nonneg_left h (Int.le_of_lt (Mi _));have e:Au v*(1000000000:Int) ^ (j+1)=1000000000 ^ j*(Au v*1000000000):=(by rw[Int.pow_succ];grind);omega
     obtain⟨qd,o,r1,r2,r3,r4,r5,r6,r7,r8⟩:=A53 v w j L f B I ω ω l ω au;have a8:j<q.length:=ω;have w8:Ac ((j:Int)-1)=(j:Int)-1:=ξ;have lG:Gm (A+1) o=some ():=(by rw[Gm,Av ω]);refine .inl ⟨((j:Int)-1,o,q.set j qd),?_,⟨j,rfl,ω,ω,r3,by simpa using X,V.set _ r4 r5,?_,?_⟩,ψ⟩
     .simp only[e0,e1,Am,w6,w7,sA,Ad,Nat.zero_add,show j+L+1-j=L+1 by omega,r1,lG,Hv rfl a8,w8,H5 rfl]
     .have s1:=Pg o j ω;have s2:=L5 (r3.take j);rw[length_take,Nat.min_eq_left ω]at s2;have:(1000000000:Int) ^ j*(Au (o.drop j)+1)<=1000000000 ^ j*Au v:=Int.mul_le_mul_of_nonneg_left ω (Int.le_of_lt (Mi _));have e:(1000000000:Int) ^ j*(Au (o.drop j)+1)=1000000000 ^ j*Au (o.drop j)+1000000000 ^ j:=(by grind);rw[Int.mul_comm (Au v)];omega
     .have d1:(q.set j qd).drop j=qd::q.drop (j+1):=(by rw[drop_eq_getElem_cons (by simpa using a8),drop_set_of_lt ω];simp);rw[d1];simp only[Au];rw[Int.pow_succ]at s;exact bl2 (K:=0) r6 s
   .rintro⟨w,q⟩ ⟨h2,h3,h4,h5,h6,h7⟩;rw[M]at h6 h7;have ad:=I2 h3.u32;have ba:=I2 h5.u32;have N:=(Int.ediv_emod_unique ar (r:=Au w) (q:=Au q) (a:=(m:Int)*d)).2 ⟨by rw[<-h7],ad,h6⟩;have ao:(m*d) / (n*d)=m / n:=Nat.mul_div_mul_right m n ω;have ai:(m*d) % (n*d)=(m % n)*d:=Nat.mul_mod_mul_right d m n;have av:Au q=((m / n:Nat):Int):=(by rw[<-N.1,<-ao];simp);have aa:Au w=(((m % n)*d:Nat):Int):=(by rw[<-N.2,<-ai];simp);have ab:Ck ((m % n)*d)<1099511627776:=(by have g:=L5 h3;have:Ck ((m % n)*d)<=A+1:=(by apply Kz;rw[h2,aa]at g;have e:((1000000000 ^ (A+1):Nat):Int)=1000000000 ^ (A+1):=(by rw[Int.natCast_pow];rfl);omega);omega);dsimp only;rw[U8 w ω,Ad,Uz h3 aa,Atr _ d ab ω ω,Ad,U8 q ω,Ad,Uz h5 av,Nat.mul_div_cancel _ ω]
theorem Atv (h:Ck n<=2):n<1000000000000000000:=by have h1:=Ql n;have h2:1000000000 ^ Ck n<=1000000000 ^ 2:=Nat.pow_le_pow_right δ h;omega
theorem Atw (n:Nat) (h:Ck n<=2):W5 (Al n)=some ((n:Int),true):=by
 unfold W5;unfold Ck at h;have ha:=Ik n;refine Nj (λ(w,i)=>∃k:Nat,i=k/\k<=(Al n).length/\w=Au ((Al n).drop ((Al n).length-k))) (λ(_,i)=>(Al n).length-i.toNat) (λe=>match e with|.inl _=>False | .inr w=>w=n) ⟨0,rfl,ω,by simp[Au]⟩ ?_ ?_
 .rintro⟨w,i⟩ ⟨k,rfl,hk,rfl⟩;rcases Cj k (Al n).length with c|hge
  .have A:decide ((k:Int)<((Al n).length:Int))=true:=As ω;have u:Ac (((Al n).length:Int)-1)=((Al n).length:Int)-1:=ξ;have s:Ac (((Al n).length:Int)-1-(k:Int))=(((Al n).length-1-k:Nat):Int):=ξ;have hj:(Al n).length-1-k<(Al n).length:=ω;have hx:=ha.get hj;have y:=Agk ha ((Al n).length-k);have b:=L5 (ha.drop ((Al n).length-k));rw[length_drop,show (Al n).length-((Al n).length-k)=k by omega]at b;have x:(1000000000:Int) ^ k<=1000000000:=(by have:k=0\/k=1:=ω;rcases this with rfl|rfl <;> decide);have q:Bg (Al n)[(Al n).length-1-k]=(Al n)[(Al n).length-1-k]:=F1 ω ω;have l:Bg (18446744073709551615-(Al n)[(Al n).length-1-k])=18446744073709551615-(Al n)[(Al n).length-1-k]:=F1 ω ω;have j:Bg (Au ((Al n).drop ((Al n).length-k))*1000000000)=Au ((Al n).drop ((Al n).length-k))*1000000000:=F1 ω ω;have g:Bg (Au ((Al n).drop ((Al n).length-k))*1000000000+(Al n)[(Al n).length-1-k])=Au ((Al n).drop ((Al n).length-k))*1000000000+(Al n)[(Al n).length-1-k]:=F1 ω ω;have z:=So c ω;have hc:¬Au ((Al n).drop ((Al n).length-k))>(18446744073709551615-(Al n)[(Al n).length-1-k]) / 1000000000:=ω;refine .inl ⟨(Au ((Al n).drop ((Al n).length-k))*1000000000+(Al n)[(Al n).length-1-k],((k+1:Nat):Int)),?_,⟨k+1,rfl,ω,?_⟩,ζ⟩
   .simp only[A,Am,u,s,Hv rfl hj,Ad,q,l,Qi (show 0<=18446744073709551615-(Al n)[(Al n).length-1-k] by omega) (show 18446744073709551615-(Al n)[(Al n).length-1-k]<=_ by omega) (show (0:Int)<1000000000 by decide),A5 hc,Aq,j,g,z]
   .have hd:(Al n).drop ((Al n).length-(k+1))=(Al n)[(Al n).length-1-k]::(Al n).drop ((Al n).length-k):=(by rw[show (Al n).length-(k+1)=(Al n).length-1-k by omega,drop_eq_getElem_cons hj];congr 2;omega);rw[hd];simp only[Au];omega
  .have:k=(Al n).length:=ω;subst this;refine .inr ⟨.inr _,by simp;rfl,?_⟩;exact Ij n
 .rintro (e|e) f
  .exact f.elim
  .simp only at f ⊢;rw[f]
theorem A56 (m n:Nat) (s:Ck m<274877906944) (l:Ck n<274877906944):Z5 (Al m) (Al n)=some (Al (Nat.gcd m n)):=by
 unfold Z5;refine Nj (λ(a,b)=>∃x y:Nat,a=Al x/\b=Al y/\Ck x<274877906944/\Ck y<274877906944/\Nat.gcd x y=Nat.gcd m n) (λ(_,b)=>(Au b).toNat) (λe=>match e with|.inl r=>r=Al (Nat.gcd m n) | .inr r=>r=Al (Nat.gcd m n)) ⟨m,n,rfl,rfl,s,l,rfl⟩ ?_ ?_
 .rintro⟨a,b⟩ ⟨x,y,rfl,rfl,hx,hy,hg⟩;by_cases c:y=0
  .subst c;refine .inr ⟨.inr (Al x),by rw[Jg];rfl,?_⟩;show Al x=_;rw[<-hg,Nat.gcd_zero_right]
  .have z:(Al y).length≠0:=λe=>Mj c (Gn.1 e);have k:decide (((Al y).length:Int)>0)=true:=As ω;by_cases h2:Ck x<=2/\Ck y<=2
   .have i:=Atv h2.1;have h:=Atv h2.2;unfold Ck at h2;simp only[k,Am,As (ω:((Al x).length:Int)<=2),As (ω:((Al y).length:Int)<=2),Ad,Atw x h2.1,Atw y h2.2];refine .inr (A4d (Et (λ(p,q)=>∃u v:Nat,p=u/\q=v/\u<1000000000000000000/\v<1000000000000000000/\Nat.gcd u v=Nat.gcd m n) (λ(_,q)=>q.toNat) (λ(p,q)=>p=((Nat.gcd m n:Nat):Int)/\Nat.gcd m n<1000000000000000000) ⟨x,y,rfl,rfl,i,h,hg⟩ ?_ ?_))
    .rintro⟨p,q⟩ ⟨u,v,rfl,rfl,hu,hv,f⟩;by_cases j:v=0
     .subst j;refine .inr ⟨((u:Int),(0:Int)),rfl,?_⟩;rw[Nat.gcd_zero_right]at f;exact⟨by rw[f],ω⟩
     .refine .inl ⟨((v:Int),((u % v:Nat):Int)),?_,⟨v,u % v,rfl,rfl,hv,by have:=Nat.mod_lt u (ω:v>0);omega,?_⟩,?_⟩
      .simp only[As (ω:(v:Int)>0),Am,Pe (ω:(0:Int)<=u) (ω:(0:Int)<v),Ad];rfl
      .rw[<-f,Nat.gcd_comm v,<-Nat.gcd_rec,Nat.gcd_comm]
      .have:=Nat.mod_lt u (ω:v>0);simp only[Int.toNat_natCast];exact this
    .rintro⟨p,q⟩ ⟨rfl,A⟩;dsimp only;rw[Agi _ ω];exact⟨_,rfl,_,rfl,rfl⟩
   .refine .inl ⟨(Al y,Al (x % y)),?_,⟨y,x % y,rfl,rfl,hy,by have:=Mk (Nat.mod_le x y);omega,?_⟩,?_⟩
    .have:(bif ((Al x).length:Int)<=(2:Int) then some (decide (((Al y).length:Int)<=(2:Int))) else some false)=some false:=by
      unfold Ck at h2;by_cases hc:(Al x).length<=2
      .rw[As (ω:((Al x).length:Int)<=2),Am,A5 (ω:¬((Al y).length:Int)<=2)]
      .rw[A5 (ω:¬((Al x).length:Int)<=2),Aq]
     simp only[k,Am];rw[this,Ad,Aq,Alo x y hx hy c,Ad]
    .rw[<-hg,Nat.gcd_comm y,<-Nat.gcd_rec,Nat.gcd_comm]
    .simp only[Ij];have:=Nat.mod_lt x (ω:y>0);omega
 .rintro (e|e) g
  .simp only at g ⊢;rw[g]
  .simp only at g ⊢;rw[g]
theorem Agl:Al 1 = [1]:=by rw[Pf δ,show 1 / 1000000000=0 by decide,Jg];rfl
theorem Atx (n:Nat):W3 (Al n)=some (decide (n=1)):=by
 unfold W3;by_cases h0:n=0
 .subst h0;rw[Jg];rfl
 .rw[Pf h0];by_cases h1:n / 1000000000=0
  .rw[h1,Jg];have e:Ag [((n % 1000000000:Nat):Int)] 0=some ((n % 1000000000:Nat):Int):=rfl;simp only[length_singleton,e,Ad];have:(((1:Nat):Int)==(1:Int))=true:=rfl;rw[this,Am];congr 1;by_cases b:n=1
   .subst b;rfl
   .rw[C3 ω,A5 b]
  .have c:(Al (n / 1000000000)).length≠0:=λe=>Mj h1 (Gn.1 e);rw[C3 ζ,Aq,A5 ω]
def C2 (b:Bool) (n d:Nat):Ao:=if n=0 then ⟨false,[],[1]⟩ else ⟨b,Al (n / Nat.gcd n d),Al (d / Nat.gcd n d)⟩
theorem Pm (b:Bool) (n d:Nat) (g:Ck n<274877906944) (hd:Ck d<274877906944):O2 ⟨b,Al n,Al d⟩=some (C2 b n d):=by
 unfold O2 Aet;dsimp only;by_cases h0:n=0
 .subst h0;rw[Jg];rfl
 .have h:(Al n).length≠0:=λe=>Mj h0 (Gn.1 e);rw[C3 ω,Aq,Atx,Ad,C2,Ar h0];by_cases h1:d=1
  .subst h1;rw[As rfl,Am];simp
  .rw[A5 h1,Aq,A56 n d g hd,Ad,Atx,Ad];by_cases hg:Nat.gcd n d=1
   .rw[As hg,Am,hg];simp
   .have f:Nat.gcd n d≠0:=(by have:=Nat.gcd_pos_of_pos_left d (ω:0<n);omega);have c:Ck (Nat.gcd n d)<274877906944:=(by have:=Mk (Nat.gcd_le_left d (ω:0<n));omega);rw[A5 hg,Aq,Alo n _ g c f,Ad,Alo d _ hd c f,Ad];rfl
def nv (a:Ao):Nat:=if (Au a.U).toNat=0\/(Au a.B).toNat=0 then 0 else (Au a.U).toNat
def dv (a:Ao):Nat:=if (Au a.U).toNat=0\/(Au a.B).toNat=0 then 1 else (Au a.B).toNat
def sv (a:Ao):Bool:=if (Au a.U).toNat=0\/(Au a.B).toNat=0 then false else a.N
structure RB (k:Nat) (a:Ao):Prop where
 num:Qj a.U
 den:Qj a.B
 nl:a.U.length<=k
 dl:a.B.length<=k
theorem A57 (h:Qj l):Au l<=5*1000000000 ^ l.length-5:=by induction l with| nil=>simp[Au]| cons d l ih=>have h1:=h d ψ;have h2:=ih (λx hx=>h x (by simp[hx]));simp only[Au,D6];rw[Int.pow_succ];omega
theorem A58 (h:Qj l):Au l<1000000000 ^ (l.length+1):=by have h1:=A57 h;have hp:=Mi l.length;rw[Int.pow_succ];omega
theorem Aty (h:Qj l):Ck (Au l).toNat<=l.length+1:=by
 apply Kz;have h1:=A58 h;have h2:=I2 h;have e:((1000000000 ^ (l.length+1):Nat):Int)=1000000000 ^ (l.length+1):=by rw[Int.natCast_pow];rfl
 omega
theorem RB.mono {j:Nat} (h:RB j a) (hk:j<=k):RB k a:=⟨h.num,h.den,by have:=h.nl;omega,by have:=h.dl;omega⟩
theorem Sr:Ck 1=1:=by unfold Ck;rw[Agl];rfl
theorem RB.nv (h:RB k a):Ck (nv a)<=k+1:=by
 unfold Ab.nv;split
 .simp[Aa2]
 .have:=Aty h.num;have:=h.nl;omega
theorem RB.dv (h:RB k a):Ck (dv a)<=k+1:=by
 unfold Ab.dv;split
 .simp[Sr]
 .have:=Aty h.den;have:=h.dl;omega
theorem H8 (a:Ao):dv a≠0:=by
 unfold dv;split
 .decide
 .omega
theorem Ss (a:Ao) (k:Nat) (h:RB k a) (hk:k<274877906900):Nb a=some ⟨sv a,Al (nv a),Al (dv a)⟩:=by
 unfold Nb;have h1:=h.nl;have h2:=h.dl;rw[Atm _ h.num ω,Ad,Atm _ h.den ω,Ad];unfold nv dv sv;generalize (Au a.U).toNat=x;generalize (Au a.B).toNat=y;by_cases hx:x=0
 .subst hx;simp only[Jg,true_or,if_true,Agl];rfl
 .have c:(Al x).length≠0:=λe=>Mj hx (Gn.1 e);by_cases hy:y=0
  .subst hy;simp only[Jg,or_true,if_true,Agl,C3 (ω:((Al x).length:Int)≠0),Aq];rfl
  .have b:(Al y).length≠0:=λe=>Mj hy (Gn.1 e);simp only[hx,hy,or_self,if_false,C3 (ω:((Al x).length:Int)≠0),Aq,C3 (ω:((Al y).length:Int)≠0),Ad]
end Go.Ab
