/- Plain laws. -/
import Derived.Test.YtdinnpegmcadbaaGreatDoorRnPl0
open List
namespace Go.Ab
open Go
mutual
theorem Atc (data:List Ai):∀(i:Ah) (t:Af) (d:Nat),Dj data i t=some d->d<=6*Bw i
 | ⟨n,e⟩,t,d,h=>by
  rw[Mj]at h
  simp only[Bw]
  simp only at h
  split at h
  .split at h
   .have:=Abl data e _ d h;omega
   .cases h
  .split at h
   .split at h
    .cases h;omega
    .cases h
   .split at h
    .split at h
     .have:=Atd data e _ d h;omega
     .cases h
    .split at h
     .cases h;omega
     .cases h
theorem Abl (data:List Ai):∀(is:List Ah) (ts:List Af) (d:Nat),Cx data is ts=some d->d<=6*Cd is
 | [],[],d,h=>by simp only[Cx]at h;cases h;omega
 | i::is,t::ts,d,h=>by
  rw[Nb]at h
  cases e:Dj data i t with
  | none=>rw[e]at h;cases h
  | some a=>
   rw[e,Ad]at h
   cases m:Cx data is ts with
   | none=>rw[m]at h;cases h
   | some b=>
    rw[m]at h
    cases h
    have:=Atc data i t a e
    have:=Abl data is ts b m
    simp only[Cd];omega
 | [],_::_,d,h=>by simp only[Cx]at h;cases h
 | _::_,[],d,h=>by simp only[Cx]at h;cases h
theorem Atd (data:List Ai):∀(es:List Ah) (t:Af) (d:Nat),Fv data es t=some d->d<=6*Cd es
 | [],t,d,h=>by simp only[Fv]at h;cases h;omega
 | ⟨n,e⟩::es,t,d,h=>by
  rw[Uv]at h
  simp only at h
  cases p:Gu data t n with
  | none=>rw[p]at h;cases h
  | some v=>
   rw[p,Ad]at h
   cases i:Cx data e v with
   | none=>rw[i]at h;cases h
   | some a=>
    rw[i,Ad]at h
    cases m:Fv data es t with
    | none=>rw[m]at h;cases h
    | some b=>
     rw[m]at h
     cases h
     have:=Abl data e v a i
     have:=Atd data es t b m
     simp only[Cd,Bw];omega
end
variable {data:List Ai} {o:Option Nat} {α:Type}
def Xl (data:List Ai) (e:Ah) (t:Af):Option Nat:=(Gu data t e.U).bind λi=>(Cx data e.K i).map (1 + ·)
theorem A5o (data:List Ai) (e:Ah) (es:List Ah) (t:Af):Fv data (e::es) t=(Xl data e t).bind λa=>(Fv data es t).map (a + ·):=by rw[Uv];unfold Xl;cases Gu data t e.U with| none=>rfl| some i=>simp only[Ad];cases Cx data e.K i <;> rfl
theorem A5p (data:List Ai) (e:Ah) (t:Af) (d:Nat) (h:Xl data e t=some d):d<=6*Bw e:=by
 unfold Xl at h;cases m:Gu data t e.U with
 | none=>rw[m]at h;cases h
 | some p=>rw[m,Ad]at h;cases i:Cx data e.K p with| none=>rw[i]at h;cases h| some a=>rw[i]at h;cases h;have:=Abl data _ p a i;have:=Es e;show 1+a<=_;omega
def Dg (v:Int) (o:Option Nat):Prop:=(v = -1/\∀d,o=some d->6<d)\/∃d:Nat,o=some d/\v=d
theorem Dg.clip {v:Int} (h:Dg v o):(if v>6 then -1 else v)=Jr o:=by
 rcases h with⟨rfl,h⟩|⟨d,rfl,rfl⟩
 .rw[Ao ω,As3 h]
 .by_cases hd:6<d
  .rw[As ω,Ale hd]
  .rw[Ao ω,Qi ω]
theorem Agd {p:Option Nat} {acc:Nat} {d:Nat} (h:(o.bind λa=>p.map (a + ·)).map (acc + ·)=some d):∃a b,o=some a/\p=some b/\d=acc+(a+b):=by
 cases o with
 | none=>cases h
 | some a=>cases p with| none=>cases h| some b=>exact⟨a,b,rfl,rfl,by simp at h;omega⟩
theorem A5q (hz:Szv data) (hs:Mi data) (b1:List (ByteArray×Int)) (b2:List (ByteArray×List Au)) (vars:List Af) (J I:Int) (G:List Af):∀k:Nat, (∀(i:Ah) (t:Af),3*Bw i<=k->Bw i<=1048576->Bx t<=200->∃v,R1 k t i b1 b2 data vars J I G=some v/\Dg v (Dj data i t)) /\ (∀(is:List Ah) (ts:List Af),3*Cd is+1<=k->Cd is<=1048576->(∀t∈ts,Bx t<=200)->∃v,Uh k ts is b1 b2 data vars J I G=some v/\Dg v (Cx data is ts)) /\ (∀(e:Ah) (t:Af),3*Bw e<=k->Bw e<=1048576->Bx t<=200->∃v,Ui k t e b1 b2 data vars J I G=some v/\Dg v (Xl data e t)):=by
 intro k;induction k with
 | zero=>exact⟨λi t h=>by have:=Es i;omega,λis ts h=>ω,λi t h=>by have:=Es i;omega⟩
 | succ k ih=>
  obtain⟨Y,L,Z⟩:=ih;have B:∀o:Option Nat,o.map (0 + ·)=o:=(by intro o;cases o <;> simp);have c:∀d:Nat,(none:Option Nat)=some d->6<d:=λd h=>by cases h
  refine⟨?_,?_,?_⟩
  .intro i t hk hi ht;have ad:=Es i;have M:=Pd i.K;rw[R1,Mj];by_cases V:t.G=6
   .simp only[Eh V,Am,As V];by_cases H:i.U=0
    .simp only[Eh H,Am,As H];obtain⟨p,p1,p2⟩:=L i.K t.R ω ω (λa F=>by have:=Jx F;have:=Jf t;omega);rw[p1];exact⟨p,rfl,p2⟩
    .simp only[C8 H,Ap,Ao H];exact⟨_,rfl,.inl ⟨rfl,c⟩⟩
   .simp only[C8 V,Ap,Ao V];by_cases U:t.G=7
    .simp only[Eh U,Am,As U];by_cases C:0<=i.U
     .by_cases a2:i.U<=6
      .by_cases a3:i.K.length=0
       .rw[Ar (show i.U>=0 from C),Ar a2,As ⟨C,a2,a3⟩,Eh ω];exact⟨_,rfl,.inr ⟨i.U.toNat,rfl,ω⟩⟩
       .rw[Ar (show i.U>=0 from C),Ar a2,Ao λh=>a3 h.2.2,C8 ω];exact⟨_,rfl,.inl ⟨rfl,c⟩⟩
      .rw[Ar (show i.U>=0 from C),A3 a2,Ao λh=>a2 h.2.1];exact⟨_,rfl,.inl ⟨rfl,c⟩⟩
     .rw[A3 (show ¬i.U>=0 from C),Ao λh=>C h.1];exact⟨_,rfl,.inl ⟨rfl,c⟩⟩
    .simp only[C8 U,Ap,Ao U];by_cases X:t.G=5
     .simp only[Eh X,Am,As X];by_cases H:i.U=0
      .simp only[G0 H,Ap,As H];have T:∀(m j w:Nat),j+m=i.K.length->w<=10000000->∃z,Ak (S:=(Int×Int)) (E:=(Int⊕Int)) (λ(D,v8)=>
         bif v8<(i.K.length:Int) then ((Ag i.K v8).bind λv9=> (Ui k t v9 b1 b2 data vars J I G).bind λa0=> bif a0<(0:Int) then some (.inr (.inl (-1))) else (bif D>(6:Int) then some (.inr (.inl (-1))) else some (.inl ((Ac (D+a0)),(Ac (v8+1)))))) else some (.inr (.inr D))) ((w:Int),(j:Int))=some z/\Dg (match z with|.inl v=>v | .inr v=>v) ((Fv data (i.K.drop j) t).map (w + ·)):=by
        intro m;induction m with
        | zero=>intro j w hj s;have:j=i.K.length:=ω;subst this;exact⟨.inr (w:Int),F0 ψ,.inr ⟨w,by simp[Fv],rfl⟩⟩
        | succ m q=>
         intro j w hj s;have f:i.K[j]? = some i.K[j]:=Bp ω;generalize i.K[j]=e at f;have aa:=Kd (Bv f);rw[Jz f,A5o];obtain⟨v,A,K⟩:=Z e t ω ω ht;rcases K with⟨rfl,K⟩|⟨a,C,rfl⟩
         .refine⟨.inl (-1),F0 ?_,.inl ⟨rfl,λd h=>?_⟩⟩
          .simp only[Ar (ω:(j:Int)<(i.K.length:Int)),Am,Bn rfl f,Ad,A];rfl
          .obtain⟨a,b,F,hb,rfl⟩:=Agd h;have:=K a F;omega
         .have N:=A5p data e t a C;by_cases hb:w>6
          .refine⟨.inl (-1),F0 ?_,.inl ⟨rfl,λd h=>?_⟩⟩
           .simp only[Ar (ω:(j:Int)<(i.K.length:Int)),Am,Bn rfl f,Ad,A,A3 (ω:¬(a:Int)<0),Ar (ω:(w:Int)>6),Ap]
           .obtain⟨a,b,F,hb,rfl⟩:=Agd h;omega
          .have ew:Ac ((w:Int)+(a:Int))=((w+a:Nat):Int):=ξ;obtain⟨z,g,Q⟩:=q (j+1) (w+a) ω ω;refine⟨z,?_,?_⟩
           .rw[Lg (s':=(((w+a:Nat):Int),((j+1:Nat):Int)))]
            .exact g
            .simp only[Ar (ω:(j:Int)<(i.K.length:Int)),Am,Bn rfl f,Ad,A,A3 (ω:¬(a:Int)<0),A3 (ω:¬(w:Int)>6),Ap,ew,C3 (show j<i.K.length by omega) ω]
           .have B:∀o:Option Nat,(((some a:Option Nat).bind λa=>o.map (a + ·)).map (w + ·))=o.map (w+a + ·):=(by intro o;cases o <;> simp[Nat.add_assoc]);rw[C,B];exact Q
       obtain⟨z,g,Q⟩:=T i.K.length 0 0 ω ω;have g:Ak _ ((0:Int),(0:Int))=some z:=g;rw[g,Ad];rw[drop_zero,B]at Q;cases z with| inl v=>exact⟨v,rfl,Q⟩| inr v=>exact⟨v,rfl,Q⟩
      .simp only[F4 H,Am,Ao H];exact⟨_,rfl,.inl ⟨rfl,c⟩⟩
     .simp only[C8 X,Ap,Ao X];by_cases H:i.U=0
      .simp only[Eh H,Am];by_cases a3:i.K.length=0
       .rw[As ⟨H,a3⟩,Eh ω];exact⟨_,rfl,.inr ⟨0,rfl,rfl⟩⟩
       .rw[Ao λh=>a3 h.2,C8 ω];exact⟨_,rfl,.inl ⟨rfl,c⟩⟩
      .simp only[C8 H,Ap];rw[Ao λh=>H h.1];exact⟨_,rfl,.inl ⟨rfl,c⟩⟩
  .intro is ts hk hi ht;have M:=Pd is;rw[Uh];by_cases hl:ts.length=is.length
   .rw[G0 ω];simp only[Ap];have T:∀(m j w:Nat),j+m=is.length->w<=10000000->∃z,Ak (S:=(Int×Int)) (E:=(Int⊕Int)) (λ(v5,R)=>
      bif R<(ts.length:Int) then ((Ag ts R).bind λD=> (Ag is R).bind λv9=> (R1 k D v9 b1 b2 data vars J I G).bind λa4=> bif a4<(0:Int) then some (.inr (.inl (-1))) else (bif v5>(6:Int) then some (.inr (.inl (-1))) else some (.inl ((Ac (v5+a4)),(Ac (R+1)))))) else some (.inr (.inr v5))) ((w:Int),(j:Int))=some z/\Dg (match z with|.inl v=>v | .inr v=>v) ((Cx data (is.drop j) (ts.drop j)).map (w + ·)):=by
     intro m;induction m with
     | zero=>intro j w hj s;have:j=ts.length:=ω;subst this;refine⟨.inr (w:Int),F0 ψ,.inr ⟨w,?_,rfl⟩⟩;rw[drop_of_length_le ω,drop_of_length_le ω];simp[Cx]
     | succ m q=>
      intro j w hj s;have f:is[j]? = some is[j]:=Bp ω;generalize is[j]=e at f;have hu:ts[j]? = some ts[j]:=Bp ω;generalize ts[j]=u at hu;have aa:=Kd (Bv f);rw[Jz f,Jz hu,Nb];obtain⟨v,A,K⟩:=Y e u ω ω (ht u (Bv hu));rcases K with⟨rfl,K⟩|⟨a,C,rfl⟩
      .refine⟨.inl (-1),F0 ?_,.inl ⟨rfl,λd h=>?_⟩⟩
       .simp only[Ar (ω:(j:Int)<(ts.length:Int)),Am,Bn rfl f,Bn rfl hu,Ad,A];rfl
       .obtain⟨a,b,F,hb,rfl⟩:=Agd h;have:=K a F;omega
      .have N:=Atc data e u a C;by_cases hb:w>6
       .refine⟨.inl (-1),F0 ?_,.inl ⟨rfl,λd h=>?_⟩⟩
        .simp only[Ar (ω:(j:Int)<(ts.length:Int)),Am,Bn rfl f,Bn rfl hu,Ad,A,A3 (ω:¬(a:Int)<0),Ar (ω:(w:Int)>6),Ap]
        .obtain⟨a,b,F,hb,rfl⟩:=Agd h;omega
       .have ew:Ac ((w:Int)+(a:Int))=((w+a:Nat):Int):=ξ;obtain⟨z,g,Q⟩:=q (j+1) (w+a) ω ω;refine⟨z,?_,?_⟩
        .rw[Lg (s':=(((w+a:Nat):Int),((j+1:Nat):Int)))]
         .exact g
         .simp only[Ar (ω:(j:Int)<(ts.length:Int)),Am,Bn rfl f,Bn rfl hu,Ad,A,A3 (ω:¬(a:Int)<0),A3 (ω:¬(w:Int)>6),Ap,ew,C3 (show j<is.length by omega) ω]
        .have B:∀o:Option Nat,(((some a:Option Nat).bind λa=>o.map (a + ·)).map (w + ·))=o.map (w+a + ·):=(by intro o;cases o <;> simp[Nat.add_assoc]);rw[C,B];exact Q
    obtain⟨z,g,Q⟩:=T is.length 0 0 ω ω;have g:Ak _ ((0:Int),(0:Int))=some z:=g;rw[g,Ad];rw[drop_zero,drop_zero,B]at Q;cases z with| inl v=>exact⟨v,rfl,Q⟩| inr v=>exact⟨v,rfl,Q⟩
   .rw[F4 ω,Ald data is ts hl];exact⟨_,rfl,.inl ⟨rfl,c⟩⟩
  .intro e t hk f ht;have ae:=Es e;rw[Ui];unfold Xl Gu;rw[Abk hz t ht e.U,Ad];cases hf:Jg data t e.U with
   | none=>exact⟨-1,rfl,.inl ⟨rfl,c⟩⟩
   | some l=>
    have ab:=Xi hf;obtain⟨x,y,_,hx,_,hy,hl,a8⟩:=Pc hf;obtain⟨y6,_⟩:=hz x (G3 hx).2.2.2 y (G3 hy).2.2.2;have ac:l.length<=6:=(by rw[hl];simpa using y6);have a7:∀a∈F6 l (Ea data t.U e.U),Bx a<=200:=(Af3 (show Gu data t e.U=some _ by unfold Gu;rw[hf];rfl)).1;obtain⟨v,A,K⟩:=L e.K (F6 l (Ea data t.U e.U)) ω ω a7;have hd:Dg (if v<0 then -1 else 1+v) (((some l).map λl=>F6 l (Ea data t.U e.U)).bind λts=>(Cx data e.K ts).map (1 + ·)):=by
     rw[Option.map_some,Ad];rcases K with⟨rfl,K⟩|⟨a,C,rfl⟩
     .refine .inl ⟨rfl,λd h=>?_⟩;cases F:Cx data e.K (F6 l (Ea data t.U e.U)) with| none=>rw[F]at h;cases h| some a=>rw[F]at h;have:=K a F;simp at h;omega
     .rw[C,Ao ω];exact .inr ⟨1+a,rfl,ω⟩
    have a6:v = -1\/(0<=v/\v<=10000000):=by
     rcases K with⟨rfl,K⟩|⟨a,C,rfl⟩
     .exact .inl rfl
     .have:=Abl data _ _ a C;right;omega
    refine⟨_,?_,hd⟩;simp only[okL,bnt,Ap,Xh data t.U e.U hs,Ad];refine F5 (Ea data t.U e.U) (λj=>((j:Int),F6 (l.take j) ((Ea data t.U e.U).take j))) (by simp[F6]) ω ?_ ?_
    .intro j b hj hb h1 h2 h3;have F:l[j]? = some l[j]:=Bp ω;generalize l[j]=a at F;have M:=Xj (l.take j) ((Ea data t.U e.U).take j);have:(l.take j).length<=6:=ζ;simp only[h1,h2,h3,Am,Ad,Bn rfl F,Af1 F hb];rw[Dy ζ];cases b <;> simp
    .intro h1;refine⟨F6 l (Ea data t.U e.U),?_,?_⟩
     .simp only[h1];rw[Ik ω,Ik (Nat.le_refl _)];rfl
     .rw[A,Ad];rcases a6 with h|h
      .subst h;rfl
      .rw[A3 ω,Ao ω];simp only[Ap];rw[Ac,Ci] <;> omega
def C9 (vars:List Af) (res:Af) (v:Int):Option Af:=if v = -1 then some res else Ag vars v
def Ez (data:List Ai) (vars:List Af) (res:Af) (o:List (ByteArray×Int)):Prop:=∀p∈o,∀v i t,p.1=Pf v i->C9 vars res v=some t->p.2=Jr (Dj data i t)
theorem Alm {α:Type}:∀(o:List (ByteArray×α)) (s:ByteArray) (v:α),∀p∈Gn o s v,p∈o\/p=(s,v)
 | [],s,v,p,h=>by simp only[Gn,D4]at h;exact .inr h
 | q::o,s,v,p,h=>by
  unfold Gn at h;cases e:(s==q.1) with
  | true=>
   rw[e]at h;simp only[Am,Gc]at h;rcases h with h|h
   .exact .inr h
   .exact .inl (by simp[h])
  | false=>
   rw[e]at h;simp only[Ap,Gc]at h;rcases h with h|h
   .exact .inl (by simp[h])
   .rcases Alm o s v p h with h|h
    .exact .inl (by simp[h])
    .exact .inr h
theorem A5r (A:Szv data) (B:Mi data) (b1:List (ByteArray×Int)) (b2:List (ByteArray×List Au)) (vars:List Af) (res:Af) (f:Ez data vars res b1) (v:Int) (i:Ah) (t:Af) (ht:C9 vars res v=some t) (b:Bx t<=200) (E:E5 v) (D:iR i) (C:Bw i<=1048576) : ∃l,M4 v i b1 b2 data vars res.G res.U res.R=some (Jr (Dj data i t),l)/\Ez data vars res l:=by
 unfold M4;rw[Agc v i E D C,Ad];cases e:E9 b1 (Pf v i) with
 | true=>refine⟨b1,?_,f⟩;have:Ig b1 (Pf v i) 0=Jr (Dj data i t):=(by unfold Ig;unfold E9 at e;rw[any_eq_true]at e;obtain⟨p,z,y⟩:=e;cases m:b1.find? (λp=>Pf v i==p.1) with| none=>exact absurd y (by have:=find?_eq_none.1 m p z;simpa using this)| some q=>have F:=find?_some m;exact f q (mem_of_find?_eq_some m) v i t ((Na _ _).1 F).symm ht);simp only[Am,Ad,bnt,Ap,this]
 | false=>
  obtain⟨w,u,s⟩:=(A5q A B b1 b2 vars res.G res.U res.R 4000000).1 i t ω C b;have c:Ka v b1 b2 data vars res.G res.U res.R=some t:=by
   unfold Ka;unfold C9 at ht;by_cases h:v = -1
   .rw[As h]at ht;cases ht;have G:(Af.mk res.G res.U res.R)=res:=(by cases res;rfl);rw[Eh h,G];rfl
   .rw[Ao h]at ht;rw[C8 h,ht];rfl
  have g:(bif decide (w>6) then some (-1) else some w:Option Int)=some (Jr (Dj data i t)):=by
   rw[<-s.clip];by_cases h:w>6
   .rw[Ar h,As h];rfl
   .rw[A3 h,Ao h];rfl
  refine⟨Gn b1 (Pf v i) (Jr (Dj data i t)),?_,?_⟩
  .simp only[Ap,Ad,Bool.not_false,Am,c,u,g]
  .intro p hp x i' t' k j;rcases Alm _ _ _ p hp with h|h
   .exact f p h x i' t' k j
   .subst h;obtain⟨rfl,rfl⟩:=A5m k;rw[ht]at j;cases j;rfl
def F7 (a b:Int):Int:=if a<b then -1 else if a>b then 1 else 0
def orI (a b:Int):Int:=if a=0 then b else a
theorem Kt {a b:Int}:F7 a b=0↔a=b:=by unfold F7;split <;> (try split) <;> omega
theorem Pg (a b:Int):Mc a b=some (F7 a b):=by
 unfold Mc T5 F7;simp only[Ad,bne_self_eq_false,Ap];by_cases h:a<b
 .rw[Ar h,As h];rfl
 .rw[A3 h,Ao h];by_cases e:a>b
  .rw[Ar e,As e];rfl
  .rw[A3 e,Ao e];rfl
theorem Ate (a b:Int):Z7 a b=some (F7 a b):=Pg a b
theorem Xm (a b:Int):Oz [a,b]=some (orI a b):=by
 unfold Oz orI;by_cases e:a=0
 .rw[As e];by_cases hb:b=0
  .refine Kc 2 (λj=>(j:Int)) rfl ?_ ⟨.inr (),rfl,by rw[hb]⟩;intro j i
   match j,i with| 0,_=>subst e;rfl| 1,_=>subst hb;rfl
  .refine Kc 1 (λj=>(j:Int)) rfl ?_ ⟨.inl b,?_,rfl⟩
   .intro j i
    match j,i with| 0,_=>subst e;rfl
   .show (bif (b != 0) then _ else _)=_;rw[F4 hb];rfl
 .rw[Ao e];refine Kc 0 (λj=>(j:Int)) rfl (λj i=>ω) ⟨.inl a,?_,rfl⟩;show (bif (a != 0) then _ else _)=_;rw[F4 e];rfl
def Gv {α:Type} (g:α->α->Int):List α->List α->Int
 | x::xs,y::e=>orI (g x y) (Gv g xs e)
 | _,_=>0
theorem A5s (g:α->α->Int) (l m:List α) {step:Int->Option (Int⊕(Int⊕Unit))} (i:l.length=m.length) (hb:l.length<4611686018427387904) (c:∀(j:Nat) (x y:α),l[j]? = some x->m[j]? = some y->decide ((j:Int)<(l.length:Int))=true->Ag l (j:Int)=some x->Ag m (j:Int)=some y->decide ((j:Int)>=(m.length:Int))=false->Ac ((j:Int)+1)=((j+1:Nat):Int) -> step (j:Int)=if g x y=0 then some (.inl ((j+1:Nat):Int)) else some (.inr (.inl (g x y)))) (f:decide ((l.length:Int)<(l.length:Int))=false->step (l.length:Int)=some (.inr (.inr ()))) : ∃z,Ak step 0=some z/\(match z with|.inl r=>r=Gv g l m/\r≠0 | .inr _=>Gv g l m=0):=by
 have A:∀(n j:Nat),j+n=l.length->∃z,Ak step (j:Int)=some z/\(match z with|.inl r=>r=Gv g (l.drop j) (m.drop j)/\r≠0 | .inr _=>Gv g (l.drop j) (m.drop j)=0):=by
  intro n;induction n with
  | zero=>intro j C;have:j=l.length:=ω;subst this;refine⟨.inr (),F0 (f ψ),?_⟩;rw[drop_of_length_le ω];simp[Gv]
  | succ n ih=>
   intro j C;have v:l[j]? = some l[j]:=Bp ω;have w:m[j]? = some m[j]:=Bp ω;generalize l[j]=x at v;generalize m[j]=y at w;have h:=c j x y v w (Ar ω) (Bn rfl v) (Bn rfl w) (A3 ω) (C3 (show j<l.length by omega) hb);rw[Jz v,Jz w];by_cases p:g x y=0
   .rw[As p]at h;obtain⟨z,b,B⟩:=ih (j+1) ω;refine⟨z,by rw[Lg h];exact b,?_⟩;have e:Gv g (x::l.drop (j+1)) (y::m.drop (j+1))=Gv g (l.drop (j+1)) (m.drop (j+1)):=(by simp only[Gv,orI,p,if_true]);cases z with| inl r=>simp only[e];exact B| inr u=>simp only[e];exact B
   .rw[Ao p]at h;refine⟨.inl (g x y),F0 h,?_,p⟩;simp only[Gv,orI,p,if_false]
 exact A l.length 0 ω
theorem Age (f:α->α->Option Int) (g:α->α->Int) (l m:List α) (q:l.length=m.length) (hb:l.length<4611686018427387904) (v:∀(j:Nat) (x y:α),l[j]? = some x->m[j]? = some y->f x y=some (g x y)) : ((Ak (S:=Int) (E:=(Int⊕Unit)) (λb=> bif b<(l.length:Int) then ((Ag l b).bind λk=> bif b>=(m.length:Int) then some (.inr (.inl 1)) else ((Ag m b).bind λw=> (f k w).bind λe=> bif (e != (0:Int)) then some (.inr (.inl e)) else some (.inl (Ac (b+1))))) else some (.inr (.inr ()))) 0).bind λz=> match z with
   | .inl c=>some c
   | .inr _=>bif (l.length:Int)<(m.length:Int) then some (-1) else some 0)=some (Gv g l m):=by
 refine Ash (A5s g l m q hb ?_ (λh=>by simp only[h];rfl)) ?_
 .intro j x y B C D F G A s;simp only[D,F,G,A,s,Am,Ap,Ad,v j x y B C];by_cases p:g x y=0
  .rw[G0 p,As p];rfl
  .rw[F4 p,Ao p];rfl
 .rintro (r|u) i
  .rw[i.1]
  .simp only;rw[A3 ω,show Gv g l m=0 from i];rfl
def Abm (x y:Bq):Int:=orI (F7 x.v y.v) (F7 x.C y.C)
def Ib (a b:Bg):Int:=if a.T.length=b.T.length then orI (Gv Abm a.T b.T) (F7 a.Q b.Q) else F7 a.T.length b.T.length
theorem Agf (a b:Bg) (i:a.T.length<1099511627776):N1 a b=some (Ib a b):=by
 unfold N1 Ib;rw[Pg,Ad];by_cases h:a.T.length=b.T.length
 .rw[G0 (Kt.2 ω),As h];simp only[Ap];have:=Age Z6 Abm a.T b.T h ω (λj x y _ _=>by unfold Z6 Abm;rw[Pg,Ate];simp only[Ad,Xm]);rw[show Aew a.T b.T=_ from this,Ad,Ate];simp only[Ad,Xm]
 .rw[F4 λe=>h (by have:=Kt.1 e;omega),Ao h];rfl
mutual
def G4:Ah->Ah->Int
 | ⟨n,k⟩,j=>if n=j.U then (if k.length=j.K.length then Uz k j.K else F7 k.length j.K.length) else F7 n j.U
def Uz:List Ah->List Ah->Int
 | x::xs,y::e=>orI (G4 x y) (Uz xs e)
 | [],_=>0
 | _::_,[]=>0
end
theorem Atf (i j:Ah):G4 i j=if i.U=j.U then (if i.K.length=j.K.length then Uz i.K j.K else F7 i.K.length j.K.length) else F7 i.U j.U:=by cases i;simp only[G4]
theorem Aln:∀l m:List Ah,Uz l m=Gv G4 l m
 | x::xs,y::e=>by simp only[Uz,Gv,Aln xs e]
 | [],_=>by simp[Uz,Gv]
 | _::_,[]=>by simp[Uz,Gv]
theorem Atg:∀(n k:Nat) (i j:Ah),Bw i<=n->2*n<=k->n<1099511627776->P4 k i j=some (G4 i j):=by
 intro n;induction n with
 | zero=>intro k i j h;have:=Es i;omega
 | succ n ih=>
  intro k i j h w c;obtain⟨k,rfl⟩:∃b,k=b+2:=⟨k-2,ω⟩;have A:=Es i;have f:=Pd i.K;rw[P4,Atf,Pg,Pg];simp only[Ad,Xm];by_cases m:i.U=j.U
  .rw[As m];by_cases p:i.K.length=j.K.length
   .rw[As p,G0 (by unfold orI;rw[Kt.2 m,Kt.2 ω];rfl),Aln];simp only[Ap];have:=Age (P4 k) G4 i.K j.K p ω λq x y v B=>ih k x y (by have:=Kd (Bv v);omega) ω ω;rw[Aaf];refine Eq.trans (congrArg (λq=>Option.bind q _) this) rfl
   .have e:orI (F7 i.U j.U) (F7 (i.K.length:Int) (j.K.length:Int))=F7 i.K.length j.K.length:=(by unfold orI;rw[Kt.2 m];rfl);rw[Ao p,e,F4 λe=>p (by have:=Kt.1 e;omega)];rfl
  .have e:orI (F7 i.U j.U) (F7 (i.K.length:Int) (j.K.length:Int))=F7 i.U j.U:=(by unfold orI;rw[Ao λe=>m (Kt.1 e)]);rw[Ao m,e,F4 λe=>m (Kt.1 e)];rfl
def Xn (x y:Be):Int:=orI (F7 x.v y.v) (G4 x.I y.I)
def Abn (x y:Bf):Int:=orI (Ib x.L y.L) (F7 x.P y.P)
def Fd (a b:A5):Int := if a.F.length=b.F.length then orI (Gv Xn a.F b.F) (if a.A.length=b.A.length then Gv Abn a.A b.A else F7 a.A.length b.A.length) else F7 a.F.length b.F.length
structure MSz (m:A5):Prop where
 nf:m.F.length<=1048576
 na:m.A.length<=1048576
 fi:∀f∈m.F,Bw f.I<=1048576
 fr:∀f∈m.F,iR f.I/\E5 f.v
 al:∀a∈m.A,a.L.T.length<=1048576
theorem Ath (a b:A5) (i:MSz a):Rt a b=some (Fd a b):=by
 have A:=i.nf;have B:=i.na;unfold Rt Fd;rw[Pg,Ad];by_cases h:a.F.length=b.F.length
 .rw[G0 (Kt.2 ω),As h];simp only[Ap];have:=Age Z4 Xn a.F b.F h ω (λj x y p w=>by unfold Z4 Xn;rw[Pg,Atg 1048576 4000000 x.I y.I (i.fi x (Bv p)) ω ω];simp only[Ad,Xm]);rw[show Aeq a.F b.F=_ from this,Ad,Pg];simp only[Ad,Xm];by_cases v:Gv Xn a.F b.F=0
  .simp only[v,orI,if_true];by_cases m:a.A.length=b.A.length
   .rw[G0 (Kt.2 ω),As m];simp only[Ap];have:=Age Z5 Abn a.A b.A m ω (λj x y p w=>by unfold Z5 Abn;rw[Pg,Agf x.L y.L (by have:=i.al x (Bv p);omega)];simp only[Ad,Xm]);rw[show Aer a.A b.A=_ from this];rfl
   .rw[F4 λe=>m (by have:=Kt.1 e;omega),Ao m];rfl
  .simp only[orI,Ao v];rw[F4 v];rfl
 .rw[F4 λe=>h (by have:=Kt.1 e;omega),Ao h];rfl
def Ml {α:Type} (f:α->Int) (l:List α) (x:α) (j:Nat):Bool:=j==0||(match l[j-1]? with|some y=>decide (f y<f x) | none=>false)
def U1 (l:List Bq) (x:Bq) (j:Nat):Bool:=decide (-1<=x.v/\x.v<3000/\x.C≠0/\-1048576<=x.C/\x.C<=1048576)&&Ml (·.v) l x j
def Ek (a:Bg):Bool:=decide (-1048576<=a.Q/\a.Q<=1048576/\a.T.length<=16)&&a.T.zipIdx.all (λq=>U1 a.T q.1 q.2)
theorem Ati (n:Int):Wq n=some (decide (-1048576<=n/\n<=1048576)):=by unfold Wq;by_cases h:(-1048576:Int)<=n <;> simp[h]
theorem Atj (n:Int):Wh n=some (decide (-1<=n/\n<3000)):=by unfold Wh;by_cases h:(-1:Int)<=n <;> simp[h]
theorem Atl {α S E:Type} (f:α->Int) (l:List α) {x:α} {j:Nat} (v:l[j]? = some x) (i:l.length<4611686018427387904) (c b:Option (S⊕E)) : (bif decide ((j:Int)>0) then ((Ag l (Ac ((j:Int)-1))).bind λg=>bif decide (f g>=f x) then c else b) else b)=bif Ml f l x j then b else c:=by
 have A:=Ec v;unfold Ml;by_cases h:j=0
 .subst h;rfl
 .rw[Ar ω];have e:Ac ((j:Int)-1)=((j-1:Nat):Int):=ξ;have m:l[j-1]? = some l[j-1]:=Bp ω;rw[e,Bn rfl m,m];have w:(j==0)=false:=(by simpa using h);simp only[Am,Ad,w,Bool.false_or];by_cases p:f l[j-1]<f x
  .rw[A3 ω,Ar p];rfl
  .rw[Ar ω,A3 p];rfl
theorem Abo (a:Bg):Nx a=some (Ek a):=by
 unfold Nx Ek;rw[Ati];simp only[Ad];by_cases e : -1048576<=a.Q/\a.Q<=1048576
 .rw[Ar e];by_cases v:a.T.length<=16
  .rw[A3 (ω:¬(a.T.length:Int)>16),Ar ⟨e.1,e.2,v⟩];simp only[bnt,Ap,Ad,Bool.true_and];refine (Abb a.T (λq=>U1 a.T q.1 q.2) (λj=>(j:Int)) rfl ω (rt:=true) (rf:=false) ?_ ?_).trans (by rw[Afu])
   .intro j x w _ e v A;simp only[e,v,A,Am,Ad,Atj,Ati,Atl (·.v) a.T w ω,U1];by_cases i : -1<=x.v/\x.v<3000
    .by_cases m:x.C=0
     .rw[Ar i,Eh m,A3 λh=>h.2.2.1 m];exact⟨nofun,λ_=>⟨.inl false,rfl,rfl⟩⟩
     .by_cases p : -1048576<=x.C/\x.C<=1048576
      .rw[Ar i,C8 m,Ar p,Ar ⟨i.1,i.2,m,p.1,p.2⟩];cases Ml (·.v) a.T x j with| true=>exact⟨λ_=>rfl,λh=>by cases h⟩| false=>exact⟨nofun,λ_=>⟨.inl false,rfl,rfl⟩⟩
      .rw[Ar i,C8 m,A3 p,A3 λh=>p h.2.2.2];exact⟨nofun,λ_=>⟨.inl false,rfl,rfl⟩⟩
    .rw[A3 i,A3 λh=>i ⟨h.1,h.2.1⟩];exact⟨nofun,λ_=>⟨.inl false,rfl,rfl⟩⟩
   .intro h _;exact⟨.inr (),by simp only[h];rfl,rfl⟩
  .rw[Ar (ω:(a.T.length:Int)>16),A3 λh=>v h.2.2];rfl
 .rw[A3 e,A3 λh : -1048576<=a.Q/\a.Q<=1048576/\a.T.length<=16=>e ⟨h.1,h.2.1⟩];rfl
structure Ob (data:List Ai) (vars:List Af) (res:Af):Prop where
 vd:Hu data
 sh:Mi data
 sz:∀v t,C9 vars res v=some t->Bx t<=200
 nv:vars.length<=3000
theorem Abp (vars:List Af) (res:Af) (v:Int):(C9 vars res v).isSome=decide (-1<=v/\v<vars.length):=by
 unfold C9;by_cases h:v = -1
 .rw[As h];subst h;rw[Ar ω];rfl
 .rw[Ao h];cases e:Ag vars v with
  | none=>rcases Abe e with i|i <;> rw[A3 ω] <;> rfl
  | some t=>have:=G3 e;rw[Ar ω];rfl
section
variable (b1:List (ByteArray×Int)) (b2:List (ByteArray×List Au)) (data:List Ai) (vars:List Af) (res:Af)
theorem Alo (v:Int) (f c:Int) (b:List Af):Px v b1 b2 data vars f c b=some (C9 vars res v).isSome:=by
 rw[Abp];unfold Px;by_cases h:v>=-1
 .rw[Ar h];by_cases e:v<(vars.length:Int)
  .rw[Ar e,Ar ⟨h,e⟩];rfl
  .rw[A3 e,A3 λg=>e g.2];rfl
 .rw[A3 h,A3 λg : -1<=v/\v<(vars.length:Int)=>h g.1];rfl
theorem Xo {v:Int} {t:Af} (ht:C9 vars res v=some t):Ka v b1 b2 data vars res.G res.U res.R=some t:=by
 unfold Ka;unfold C9 at ht;by_cases h:v = -1
 .rw[As h]at ht;cases ht;have e:(Af.mk res.G res.U res.R)=res:=(by cases res;rfl);rw[Eh h,e];rfl
 .rw[Ao h]at ht;rw[C8 h,ht];rfl
def Ph (t:Bq):Bool:=match C9 vars res t.v with|some u=>u.G==1|none=>false
def Ji (l:Bg):Bool:=l.T.all (Ph vars res)
theorem A5t (l:Bg) (c:l.T.length<=1048576):Tx l b1 b2 data vars res.G res.U res.R=some (Ji vars res l):=by
 unfold Tx Aem Aez;have p:=Ak4 l.T (λt=>!Ph vars res t) ω (J:=λz=>match z with|.inl b=>some b | .inr _=>some (-1)) (step:=λm=>bif m<(l.T.length:Int) then ((Ag l.T m).bind λv=>(Wr v b1 b2 data vars res.G res.U res.R).bind λw=>bif w then some (.inr (.inl m)) else some (.inl (Ac (m+1)))) else some (.inr (.inr ()))) (by intro j x G A B C;have e:Wr x b1 b2 data vars res.G res.U res.R=some (!Ph vars res x):=(by unfold Wr Ph;rw[Alo b1 b2 data vars res,Ad];cases D:C9 vars res x.v with| none=>rfl| some t=>rw[Xo b1 b2 data vars res D];rfl);simp only[A,B,C,Am,Ad,e]) (λh=>by simp only[h];rfl) (λ_=>rfl) rfl
 obtain⟨i,E,F⟩:=p
 erw[E];simp only[Ad,F];congr 1;unfold Ji;rw[any_eq_not_all_not];simp
def D3 (f:Be):Int:=match C9 vars res f.v with|some t=>Jr (Dj data f.I t) | none => -1
theorem A5u (f:Be) : -1<=D3 data vars res f/\D3 data vars res f<=6:=by
 unfold D3;cases C9 vars res f.v with
 | none=>simp
 | some t=>rcases Alf (Dj data f.I t) with⟨h,_⟩|⟨d,_,e,h⟩ <;> simp only[h] <;> omega
def Ql (m:A5):Bool:=m.F.all (λf=>decide (0<=D3 data vars res f))&&m.A.all (λa=>decide (0<=a.P)&&Ji vars res a.L)
def Ct (l:List Be):Int:=(l.map (D3 data vars res)).sum
def El (l:List Bf):Int:=(l.map (·.P)).sum
def Qm (l:List Bf) (x:Bf) (j:Nat):Bool:=j==0||(match l[j-1]? with|some y=>decide (Ib y.L x.L<0) | none=>false)
def Pi (l:List Be) (f:Be) (j:Nat):Bool:=decide (1<=D3 data vars res f)&&Ml (·.v) l f j
def Nc (l:List Bf) (a:Bf) (j:Nat):Bool:=decide (1<=a.P)&&Ek a.L && !(a.L.T.length==0)&&Ji vars res a.L&&Qm l a j
def Js (m:A5):Bool:=m.F.zipIdx.all (λq=>Pi data vars res m.F q.1 q.2)&&m.A.zipIdx.all (λq=>Nc vars res m.A q.1 q.2)&&decide (Ct data vars res m.F+El m.A<=6)
variable {b1 data vars res}
theorem Agg (i:Ob data vars res) (h:Ez data vars res b1) (f:Be) (m:E5 f.v) (g:iR f.I) (p:Bw f.I<=1048576) (b:(C9 vars res f.v).isSome=true) : ∃c,M4 f.v f.I b1 b2 data vars res.G res.U res.R=some (D3 data vars res f,c)/\Ez data vars res c:=by cases e:C9 vars res f.v with| none=>rw[e]at b;cases b| some t=>obtain⟨c,v,w⟩:=A5r i.vd.szv i.sh b1 b2 vars res h f.v f.I t e (i.sz _ _ e) m g p;refine⟨c,?_,w⟩;rw[v];unfold D3;rw[e]
theorem A5v (hc:Ob data vars res) (N:Ez data vars res b1) (m:A5) (k:MSz m) :
  ∃l,Z2 m b1 b2 data vars res.G res.U res.R=some (Ql data vars res m,l)/\Ez data vars res l:=by
 have hf:=k.nf
 have ha:=k.na
 unfold Z2
 refine Aa8 (λl=>(Ql data vars res m,l)) ?_
 obtain⟨r,L,I⟩:=Ak5 (M:=List (ByteArray×Int)) (R:=Bool×List (ByteArray×Int)) m.F (λq=>decide (0<=D3 data vars res q.1)) (λj o=>((j:Int),o)) (Ez data vars res)
  (λr=>Ez data vars res r.2/\r.1=m.A.all λa=>decide (0<=a.P)&&Ji vars res a.L) (λr=>Ez data vars res r.2/\r.1=false) b1
  (s0:=((0:Int),b1))
  (step:=(λ(y,u)=>
   bif y<(m.F.length:Int) then (
   (Ag m.F y).bind λH=>
   (Px H.v u b2 data vars res.G res.U res.R).bind λK=>
   bif (!K) then some (.inr (.inl (false,u)))
   else (
   (M4 H.v H.I u b2 data vars res.G res.U res.R).bind λC=>
   bif C.1<(0:Int) then some (.inr (.inl (false,C.2)))
   else some (.inl ((Ac (y+1)),C.2))))
   else some (.inr (.inr u)):Int×List (ByteArray×Int)->Option ((Int×List (ByteArray×Int))⊕((Bool×List (ByteArray×Int))⊕List (ByteArray×Int)))))
  (J:=(λz=>match z with
   | .inl (G,D)=>some (G,D)
   | .inr b=>(Ak (S:=Int) (E:=((Bool×List (ByteArray×Int))⊕Unit)) (λc=>
     bif c<(m.A.length:Int) then (
     (Ag m.A c).bind λs=>
     bif s.P<(0:Int) then some (.inr (.inl (false,b)))
     else (
     (Tx s.L b b2 data vars res.G res.U res.R).bind λQ=>
     bif (!Q) then some (.inr (.inl (false,b)))
     else some (.inl (Ac (c+1)))))
     else some (.inr (.inr ()))) 0).bind λz=>match z with
      | .inl (B,A)=>some (B,A)
      | .inr _=>some (true,b)))
  rfl N ω (by
   intro j f o x T _ p w v
   have i:=Bv T
   simp only[p,w,v,Am,Ad,Alo o b2 data vars res]
   cases g:(C9 vars res f.v).isSome with
   | false=>
    have e:D3 data vars res f = -1:=by
     unfold D3
     cases ht:C9 vars res f.v with
     | none=>rfl
     | some t=>rw[ht]at g;cases g
    rw[e]
    exact⟨nofun,λ_=>⟨_,rfl,_,rfl,x,rfl⟩⟩
   | true=>
    obtain⟨l,d1,d2⟩:=Agg b2 hc x f (k.fr f i).2 (k.fr f i).1 (k.fi f i) g
    simp only[bnt,Ap,d1,Ad]
    by_cases F:0<=D3 data vars res f
    .rw[Ar F,A3 ω]
     exact⟨λ_=>⟨l,rfl,d2⟩,λh=>by cases h⟩
    .rw[A3 F,Ar ω]
     exact⟨nofun,λ_=>⟨_,rfl,_,rfl,d2,rfl⟩⟩) (by
   intro o x p _
   refine⟨.inr o,by simp only[p];rfl,?_⟩
   refine⟨(m.A.all λa=>decide (0<=a.P)&&Ji vars res a.L,o),?_,x,rfl⟩
   refine (Abc m.A (λa=>decide (0<=a.P)&&Ji vars res a.L) (λj=>(j:Int)) rfl ω (rt:=(true,o)) (rf:=(false,o)) ?_ ?_).trans (by cases m.A.all (λa=>decide (0<=a.P)&&Ji vars res a.L) <;> rfl)
   .intro j a T p w v
    simp only[p,w,v,Am,Ad,A5t o b2 data vars res a.L (k.al a (Bv T))]
    by_cases F:0<=a.P
    .rw[Ar F,A3 ω]
     cases Ji vars res a.L with
     | true=>exact⟨λ_=>rfl,λh=>by cases h⟩
     | false=>exact⟨nofun,λ_=>⟨_,rfl,rfl⟩⟩
    .rw[A3 F,Ar ω]
     exact⟨nofun,λ_=>⟨_,rfl,rfl⟩⟩
   .intro h;exact⟨.inr (),by simp only[h];rfl,rfl⟩)
 refine⟨r,L,r.2,?_,?_⟩
 .unfold Ql
  rw[<-Aft]
  rcases I with⟨p,w,v⟩|⟨p,w,v⟩
  .rw[p,Bool.true_and,<-v]
  .rw[p,Bool.false_and,<-v]
 .rcases I with⟨p,w,v⟩|⟨p,w,v⟩ <;> exact w
theorem A5w (g:Be->Int) {l:List Be} {j:Nat} {x:Be} (h:l[j]? = some x):((l.take (j+1)).map g).sum=((l.take j).map g).sum+g x:=by rw[Cs h];simp
theorem A5x {l:List Bf} {j:Nat} {x:Bf} (h:l[j]? = some x):El (l.take (j+1))=El (l.take j)+x.P:=by unfold El;rw[Cs h];simp
theorem A5y (I:Ob data vars res) (z:Ez data vars res b1) (m:A5) (k:MSz m) (hp:Ql data vars res m=true) : ∃p:Int×List (ByteArray×Int),Z3 m b1 b2 data vars res.G res.U res.R=some p/\(decide (p.1>6) = !decide (Ct data vars res m.F+El m.A<=6))/\Ez data vars res p.2:=by
 have M:=k.nf;have Q:=k.na;unfold Ql at hp;rw[Cz,Gt,Gt]at hp;unfold Z3;refine Er (λ(e,s,g)=>∃j:Nat,s=j/\j<=m.F.length/\Ez data vars res g/\0<=e/\e<=12/\(e=Ct data vars res (m.F.take j)\/(6<e/\6<Ct data vars res (m.F.take j)))) (λ(_,s,_)=>m.F.length-s.toNat) (λ(e,g)=>Ez data vars res g/\0<=e/\e<=12/\(e=Ct data vars res m.F\/(6<e/\6<Ct data vars res m.F))) ⟨0,rfl,ω,z,ω,ω,.inl (by simp[Ct])⟩ ?_ ?_
 .rintro⟨e,s,g⟩ ⟨j,rfl,J,l,G,C,F⟩;rcases Cf j m.F.length with h|h
  .have w:m.F[j]? = some m.F[j]:=Bp h;generalize m.F[j]=f at w;have c:=Bv w;have D:=hp.1 f c;rw[Ds]at D;have A:=(A5u data vars res f).2;have E:Ct data vars res (m.F.take (j+1))=Ct data vars res (m.F.take j)+D3 data vars res f:=A5w _ w;simp only[Ar (ω:(j:Int)<(m.F.length:Int)),Am,Bn rfl w,Ad,C3 h ω];by_cases q:e<=6
   .have u:(C9 vars res f.v).isSome=true:=by
     unfold D3 at D;cases K:C9 vars res f.v with
     | none=>rw[K]at D;have D:(0:Int)<=-1:=D;omega
     | some t=>rfl
    obtain⟨B,d1,d2⟩:=Agg b2 I l f (k.fr f c).2 (k.fr f c).1 (k.fi f c) u;rw[Ar q];simp only[Am,d1,Ad];have b:Ac (e+D3 data vars res f)=e+D3 data vars res f:=ξ;exact .inl ⟨_,rfl,⟨j+1,rfl,ω,d2,by simp only[b];omega,by simp only[b];omega,by simp only[b,E];omega⟩,ζ⟩
   .rw[A3 q];exact .inl ⟨_,rfl,⟨j+1,rfl,ω,l,G,C,by simp only[E];omega⟩,ζ⟩
  .have:j=m.F.length:=ω;subst this;rw[C1]at F;exact .inr ⟨(e,g),ψ,l,G,C,F⟩
 .rintro⟨e,g⟩ ⟨l,G,C,F⟩;simp only;refine Er (λ(v,i)=>∃j:Nat,i=j/\j<=m.A.length/\0<=v/\v<=13/\(v=Ct data vars res m.F+El (m.A.take j)\/(6<v/\6<Ct data vars res m.F+El (m.A.take j)))) (λ(_,i)=>m.A.length-i.toNat) (λv=>(v=Ct data vars res m.F+El m.A\/(6<v/\6<Ct data vars res m.F+El m.A))) ⟨0,rfl,ω,G,ω,by simpa[El] using F⟩ ?_ ?_
  .rintro⟨v,i⟩ ⟨j,rfl,J,L,H,y⟩;rcases Cf j m.A.length with h|h
   .have w:m.A[j]? = some m.A[j]:=Bp h;generalize m.A[j]=a at w;have D:=hp.2 a (Bv w);rw[Cz,Ds]at D;have E:=A5x w;simp only[Ar (ω:(j:Int)<(m.A.length:Int)),Am,Bn rfl w,Ad,C3 h ω];by_cases q:v<=6
    .rw[Ar q];simp only[Am];by_cases x:7<a.P
     .rw[As x];have b:Ac (v+7)=v+7:=ξ;exact .inl ⟨_,rfl,⟨j+1,rfl,ω,by simp only[b];omega,by simp only[b];omega,by simp only[b,E];omega⟩,ζ⟩
     .rw[Ao x];have b:Ac (v+a.P)=v+a.P:=ξ;exact .inl ⟨_,rfl,⟨j+1,rfl,ω,by simp only[b];omega,by simp only[b];omega,by simp only[b,E];omega⟩,ζ⟩
    .rw[A3 q];exact .inl ⟨_,rfl,⟨j+1,rfl,ω,L,H,by simp only[E];omega⟩,ζ⟩
   .have:j=m.A.length:=ω;subst this;rw[C1]at y;exact .inr ⟨v,ψ,y⟩
  .intro v F;refine⟨(v,g),rfl,?_,l⟩;by_cases h:Ct data vars res m.F+El m.A<=6
   .rw[Ar h,A3 (by simp only;omega)];rfl
   .rw[A3 h,Ar (by simp only;omega)];rfl
end
theorem A5z {S E:Type} (F:Bg->Bg->Option Int) (l:List Bf) (g:∀y∈l,∀x,F y.L x=some (Ib y.L x)) {x:Bf} {j:Nat} (w:l[j]? = some x) (i:l.length<4611686018427387904) (c b:Option (S⊕E)) : (bif decide ((j:Int)>0) then ((Ag l (Ac ((j:Int)-1))).bind λf=>(F f.L x.L).bind λm=>bif decide (m>=0) then c else b) else b)=bif Qm l x j then b else c:=by
 have B:=Ec w;unfold Qm;by_cases h:j=0
 .subst h;rfl
 .rw[Ar ω];have e:Ac ((j:Int)-1)=((j-1:Nat):Int):=ξ;have p:l[j-1]? = some l[j-1]:=Bp ω;rw[e,Bn rfl p,p];have A:(j==0)=false:=(by simpa using h);simp only[Am,Ad,A,Bool.false_or,g _ (getElem_mem (ω:j-1<l.length))];by_cases v:Ib l[j-1].L x.L<0
  .rw[A3 ω,Ar v];rfl
  .rw[Ar ω,A3 v];rfl
section
variable {b1:List (ByteArray×Int)} (b2:List (ByteArray×List Au)) {data:List Ai} {vars:List Af} {res:Af}
def Abq (data:List Ai) (vars:List Af) (res:Af) (l:List Be) (f:Be) (j:Nat):Bool:=!(D3 data vars res f==0)&&Ml (·.v) l f j
def Sh (l:List Bf) (a:Bf) (j:Nat):Bool:=!(a.P==0)&&Ek a.L && !(a.L.T.length==0)&&Qm l a j
theorem A50 (m:A5):Js data vars res m=(Ql data vars res m&&decide (Ct data vars res m.F+El m.A<=6)&&m.F.zipIdx.all (λq=>Abq data vars res m.F q.1 q.2)&&m.A.zipIdx.all λq=>Sh m.A q.1 q.2):=by
 rw[Bool.eq_iff_iff];unfold Js Ql;rw[<-Aft m.F λf=>decide (0<=D3 data vars res f),<-Aft m.A λa=>decide (0<=a.P)&&Ji vars res a.L];simp only[Cz,Gt,Pi,Nc,Abq,Sh,Ds,Bool.not_eq_true',beq_eq_false_iff_ne,ne_eq];constructor
 .rintro⟨⟨i,p⟩,v⟩;refine⟨⟨⟨⟨λq e=>?_,λq e=>?_⟩,v⟩,λq e=>?_⟩,λq e=>?_⟩
  .have:=(i q e).1;omega
  .have:=p q e;exact⟨ω,this.1.2⟩
  .have:=i q e;exact⟨ω,this.2⟩
  .have:=p q e;exact⟨⟨⟨ω,this.1.1.1.2⟩,this.1.1.2⟩,this.2⟩
 .rintro⟨⟨⟨⟨i,p⟩,v⟩,c⟩,b⟩;refine⟨⟨λq e=>?_,λq e=>?_⟩,v⟩
  .have:=i q e;have g:=c q e;exact⟨ω,g.2⟩
  .have:=p q e;have g:=b q e;exact⟨⟨⟨⟨ω,g.1.1.2⟩,g.1.2⟩,this.2⟩,g.2⟩
theorem A51 (hc:Ob data vars res) (hm:Ez data vars res b1) (m:A5) (i:MSz m) :
  ∃u,Wl m b1 b2 data vars res.G res.U res.R=some (Js data vars res m,u)/\Ez data vars res u:=by
 have hf:=i.nf
 have ha:=i.na
 rw[A50]
 unfold Wl
 obtain⟨b,p1,Y⟩:=A5v b2 hc hm m i
 rw[p1]
 cases hp:Ql data vars res m with
 | false=>exact⟨b,rfl,Y⟩
 | true=>
  obtain⟨q,q1,q2,X⟩:=A5y b2 hc Y m i hp
  simp only[Ad,bnt,Ap,q1,q2]
  cases hs:decide (Ct data vars res m.F+El m.A<=6) with
  | false=>exact⟨q.2,rfl,X⟩
  | true=>
   simp only[bnt,Ap,Bool.true_and]
   have N:∀f∈m.F,(C9 vars res f.v).isSome=true:=by
    intro f c
    unfold Ql at hp
    rw[Cz,Gt]at hp
    have Q:=hp.1 f c
    rw[Ds]at Q
    unfold D3 at Q
    cases ht:C9 vars res f.v with
    | none=>rw[ht]at Q;have Q:(0:Int)<=-1:=Q;omega
    | some t=>rfl
   obtain⟨r,Z,V⟩:=Ak5 (M:=List (ByteArray×Int)) (R:=Bool×List (ByteArray×Int)) m.F (λq=>Abq data vars res m.F q.1 q.2) (λj o=>((j:Int),o)) (Ez data vars res)
    (λr=>Ez data vars res r.2/\r.1=m.A.zipIdx.all λq=>Sh m.A q.1 q.2) (λr=>Ez data vars res r.2/\r.1=false) q.2
    (s0:=((0:Int),q.2))
    (step:=(λ(K,l)=>
     bif K<(m.F.length:Int) then (
     (Ag m.F K).bind λH=>
     (M4 H.v H.I l b2 data vars res.G res.U res.R).bind λg=>
     bif (g.1==(0:Int)) then some (.inr (.inl (false,g.2)))
     else (
     bif K>(0:Int) then (
     (Ag m.F (Ac (K-1))).bind λB=>
     bif B.v>=H.v then some (.inr (.inl (false,g.2)))
     else some (.inl ((Ac (K+1)),g.2)))
     else some (.inl ((Ac (K+1)),g.2))))
     else some (.inr (.inr l)):Int×List (ByteArray×Int)->Option ((Int×List (ByteArray×Int))⊕((Bool×List (ByteArray×Int))⊕List (ByteArray×Int)))))
    (J:=(λz=>match z with
     | .inl (L,I)=>some (L,I)
     | .inr k=>(Ak (S:=Int) (E:=((Bool×List (ByteArray×Int))⊕Unit)) (λp=>
       bif p<(m.A.length:Int) then (
       (Ag m.A p).bind λw=>
       (show OB from
       bif (w.P==(0:Int)) then some true
       else (
       (Nx w.L).bind λa0=>
       bif (!a0) then some true
       else some ((w.L.T.length:Int)==(0:Int)))).bind λa1=>
       bif a1 then some (.inr (.inl (false,k)))
       else (
       bif p>(0:Int) then (
       (Ag m.A (Ac (p-1))).bind λA=>
       (N1 A.L w.L).bind λa2=>
       bif a2>=(0:Int) then some (.inr (.inl (false,k)))
       else some (.inl (Ac (p+1))))
       else some (.inl (Ac (p+1)))))
       else some (.inr (.inr ()))) 0).bind λz=>match z with
        | .inl (G,D)=>some (G,D)
        | .inr _=>some (true,k)))
    rfl X ω (by
     intro j f o U T _ v F C
     have c:=Bv T
     obtain⟨u,d1,d2⟩:=Agg b2 hc U f (i.fr f c).2 (i.fr f c).1 (i.fi f c) (N f c)
     simp only[v,F,C,Am,Ad,d1,Atl (·.v) m.F T ω,Abq]
     cases (D3 data vars res f==0) with
     | true=>exact⟨nofun,λ_=>⟨_,rfl,_,rfl,d2,rfl⟩⟩
     | false=>
      cases Ml (·.v) m.F f j with
      | true=>exact⟨λ_=>⟨u,rfl,d2⟩,λh=>by cases h⟩
      | false=>exact⟨nofun,λ_=>⟨_,rfl,_,rfl,d2,rfl⟩⟩) (by
     intro o U v _
     refine⟨.inr o,by simp only[v];rfl,?_⟩
     refine⟨(m.A.zipIdx.all λq=>Sh m.A q.1 q.2,o),?_,U,rfl⟩
     refine (Abb m.A (λq=>Sh m.A q.1 q.2) (λj=>(j:Int)) rfl ω (rt:=(true,o)) (rf:=(false,o)) ?_ ?_).trans (by cases m.A.zipIdx.all (λq=>Sh m.A q.1 q.2) <;> rfl)
     .intro j a T _ v F C
      have s:((a.L.T.length:Int)==(0:Int))=(a.L.T.length==0):=Asi a.L.T 0
      simp only[v,F,C,Am,Ad,Abo,A5z N1 m.A (λy hy x=>Agf y.L x (by have:=i.al y hy;omega)) T ω,Sh,s]
      cases (a.P==0) with
      | true=>exact⟨nofun,λ_=>⟨_,rfl,rfl⟩⟩
      | false=>
       cases Ek a.L with
       | false=>exact⟨nofun,λ_=>⟨_,rfl,rfl⟩⟩
       | true=>
        cases (a.L.T.length==0) with
        | true=>exact⟨nofun,λ_=>⟨_,rfl,rfl⟩⟩
        | false=>
         cases Qm m.A a j with
         | true=>exact⟨λ_=>rfl,λh=>by cases h⟩
         | false=>exact⟨nofun,λ_=>⟨_,rfl,rfl⟩⟩
     .intro h _;exact⟨.inr (),by simp only[h];rfl,rfl⟩)
   refine⟨r.2,?_,?_⟩
   .have e:some r=some (m.F.zipIdx.all (λq=>Abq data vars res m.F q.1 q.2)&&m.A.zipIdx.all λq=>Sh m.A q.1 q.2,r.2):=by
     rcases V with⟨v,F,C⟩|⟨v,F,C⟩
     .rw[v,Bool.true_and,<-C]
     .rw[v,Bool.false_and,<-C]
    rw[<-e]
    exact Z
   .rcases V with⟨v,F,C⟩|⟨v,F,C⟩ <;> exact F
theorem A52 (l:List Be) (h:∀f∈l,0<=D3 data vars res f):0<=Ct data vars res l:=by induction l with| nil=>simp[Ct]| cons x xs ih=>have i:=h x ψ;have m:=ih λf e=>h f (by simp[e]);unfold Ct at *;simp only[map_cons,sum_cons];omega
theorem Atm (l:List Bf) (h:∀a∈l,0<=a.P):0<=El l/\((∀a∈l,a.P<=6)->El l<=6*l.length)/\∀a∈l,a.P<=El l:=by
 induction l with
 | nil=>simp[El]
 | cons x xs ih=>
  have v:=h x ψ;obtain⟨w,i,m⟩:=ih λf p=>h f (by simp[p]);unfold El at *;simp only[map_cons,sum_cons,D1];refine⟨ω,λg=>?_,λa e=>?_⟩
  .have:=g x ψ;have:=i λa e=>g a (by simp[e]);omega
  .rcases Gc.1 e with rfl|e
   .omega
   .have:=m a e;omega
end
variable {a:Aq} {N P U V W X b d g h hb j o q r s t u x y:Int} {l:List Int} {k n off:Nat}
theorem U2 (l:List Int) (b:l.length<4611686018427387904):N2 l=some (Kr l):=by
 unfold N2;refine M8 (λv=>∃k:Nat,v=k/\k<=l.length/\Kr (l.take k)=Kr l) (λv=>v.toNat) (λv=>∃k:Nat,v=k/\k<=l.length/\l.take k=Kr l) ⟨l.length,rfl,Nat.le_refl _,ψ⟩ ?_ ?_
 .rintro v ⟨k,rfl,p,e⟩;cases k with
  | zero=>exact .inr ⟨0,rfl,0,rfl,ω,by simpa[Kr] using e⟩
  | succ j=>
   have w:Ac (((j+1:Nat):Int)-1)=(j:Int):=ξ;have m:j<l.length:=ω;have hp:decide (((j+1:Nat):Int)>0)=true:=Ar ω;simp only[hp,Am,w,Hs rfl m,Ad];rw[take_succ_eq_append_getElem m]at e;by_cases i:l[j]=0
   .rw[i,A4k]at e;exact .inl ⟨j,by rw[Eh i];rfl,⟨j,rfl,ω,e⟩,ω⟩
   .rw[A4l i]at e;exact .inr ⟨((j+1:Nat):Int),by rw[C8 i];rfl,j+1,rfl,ω,by rw[take_succ_eq_append_getElem m];exact e⟩
 .rintro v ⟨k,rfl,p,e⟩;rw[Xf rfl p,e];rfl
theorem Atn (l:List Int) (m:Qb l) (B:l.length<1099511627776):Wu l=some (Al (Av l).toNat):=by
 unfold Wu;have f:Ac ((l.length:Int)+1)=((l.length+1:Nat):Int):=by rw[Ac,Ci] <;> omega
 rw[f,Ak1 rfl ω ω];simp only[Ad];refine M8 (λ(c,i,o)=>∃k:Nat,i=k/\k<=l.length/\o.length=k/\Cv o/\0<=c/\c<5/\Av o+1000000000 ^ k*c=Av (l.take k)) (λ(_,i,_)=>l.length-i.toNat) (λ(c,o)=>o.length=l.length/\Cv o/\0<=c/\c<5/\Av o+1000000000 ^ l.length*c=Av l) ⟨0,rfl,ω,rfl,Cv.nil,ω,ω,by simp[Av]⟩ ?_ ?_
 .rintro⟨c,i,o⟩ ⟨k,rfl,C,g,b,q,e,p⟩;rcases Cf k l.length with h|h
  .have F:=m l[k] (getElem_mem h);refine .inl ⟨((l[k]+c) / 1000000000,((k+1:Nat):Int),o++[(l[k]+c) % 1000000000]),?_,⟨k+1,rfl,ω,by simp[g],b.snoc ω ω,ω,ω,?_⟩,ζ⟩
   .have z:Bh l[k]=l[k]:=Fz ω ω;have y:Bh (l[k]+c)=l[k]+c:=Fz ω ω;have s:Dk ((l[k]+c) % 1000000000)=(l[k]+c) % 1000000000:=Jp ω ω;have x:Ac ((k:Int)+1)=((k+1:Nat):Int):=ξ;have u:decide ((k:Int)<(l.length:Int))=true:=(by simpa using h);simp only[u,Am,Hs rfl h,Ad,z,y,O9 (show 0<=l[k]+c by omega) (show (0:Int)<1000000000 by decide),s,Dy (show (o.length+[(l[k]+c) % 1000000000].length)*4<=_ by simp;omega),Qa (show 0<=l[k]+c by omega) (show l[k]+c<=_ by omega) (show (0:Int)<1000000000 by decide),x]
   .rw[Iz l h,<-p,Qc,g,Int.pow_succ];have:=Int.mul_ediv_add_emod (l[k]+c) 1000000000;grind
  .have j:k=l.length:=ω;subst j;refine .inr ⟨(c,o),ψ,g,b,q,e,by simpa using p⟩
 .rintro⟨c,o⟩ ⟨w,v,G,E,D⟩;have A:=I0 m;by_cases e:c>0
  .have s:Dk c=c:=Jp ω ω;simp only[decide_eq_true e,Am,s,Dy (show (o.length+[c].length)*4<=_ by simp;omega),Ad,U2 (o++[c]) ζ];rw[Ut (v.snoc ω ω) (n:=(Av l).toNat) (by rw[Qc,w];omega)]
  .have:c=0:=ω;subst this;simp only[Int.lt_irrefl,gt_iff_lt,decide_false,Ap,U2 o ω,Ad];rw[Ut v (n:=(Av l).toNat) ω]
theorem U3 (h:n<18446744073709551616):Ck n<=3:=K6 (Nat.lt_of_lt_of_le h δ)
theorem Agh (n:Nat) (h:n<18446744073709551616):Rw n=some (Al n):=by
 unfold Rw;have b:=U3 h;unfold Ck at b;refine M8 (λ(w,o)=>∃k:Nat,w=k/\k<=n/\o++Al k=Al n) (λ(w,_)=>w.toNat) (λo=>o=Al n) ⟨n,rfl,Nat.le_refl _,ψ⟩ ?_ (by rintro o rfl;rfl);rintro⟨w,o⟩ ⟨k,rfl,m,c⟩;by_cases e:k=0
 .subst e;rw[Jd,append_nil]at c;exact .inr ⟨o,ψ,c⟩
 .have f:o.length<=3:=(by rw[<-c]at b;simp at b;omega);refine .inl ⟨(((k / 1000000000:Nat):Int),o++[((k % 1000000000:Nat):Int)]),?_,⟨k / 1000000000,rfl,ω,by rw[append_assoc];rw[Pa e]at c;exact c⟩,ζ⟩;have l:decide ((k:Int)>0)=true:=Ar ω;have j:Iy (k:Int) 1000000000=some ((k % 1000000000:Nat):Int):=(by rw[O9 ω δ];rfl);have i:Dk ((k % 1000000000:Nat):Int)=((k % 1000000000:Nat):Int):=Jp ω ω;have g:Hz .u64 (k:Int) 1000000000=some ((k / 1000000000:Nat):Int):=(by rw[Qa ω ω δ];rfl);simp only[l,Am,j,Ad,i,Dy (show (o.length+[((k % 1000000000:Nat):Int)].length)*4<=_ by simp;omega),g]
def Jj (m n:Nat):Int:=if m<n then -1 else if n<m then 1 else 0
theorem Alp (m n:Nat) (f:Ck m<1099511627776) (c:Ck n<1099511627776):Wv (Al m) (Al n)=some (Jj m n):=by
 unfold Wv;unfold Ck at f c;by_cases g:(Al m).length=(Al n).length
 .rw[G0 (ω:((Al m).length:Int)=(Al n).length),Ap];have E:Ac (((Al m).length:Int)-1)=((Al m).length:Int)-1:=ξ;rw[E];refine M8 (λv=>∃k:Nat,v=(k:Int)-1/\k<=(Al m).length/\(Al m).drop k=(Al n).drop k) (λv=>(v+1).toNat) (λe=>match e with|.inl r=>r=Jj m n | .inr _=>m=n) ⟨(Al m).length,rfl,Nat.le_refl _,by rw[drop_length,g,drop_length]⟩ ?_ ?_
  .rintro v ⟨k,rfl,F,A⟩;cases k with
   | zero=>refine .inr ⟨.inr (),ψ,?_⟩;have:Al m=Al n:=(by simpa using A);have:=congrArg Av this;rw[Il,Il]at this;show m=n;omega
   | succ j=>
    have B:j<(Al m).length:=ω;have p:j<(Al n).length:=ω;have i:((j+1:Nat):Int)-1=(j:Int):=ω;have h:decide ((j:Int)>=0)=true:=Ar ω;simp only[i,h,Am,Hs rfl B,Hs rfl p,Ad];rcases Int.lt_trichotomy (Al m)[j] (Al n)[j] with w|C|D
    .refine .inr ⟨.inl (-1),by rw[Ar w];rfl,?_⟩;have:=Asf (Im m) B p (Im n) A w;rw[Il,Il]at this;show (-1:Int)=Jj m n;rw[Jj,As ω]
    .refine .inl ⟨(j:Int)-1,?_,⟨j,rfl,ω,?_⟩,ω⟩
     .rw[A3 (ω:¬(Al m)[j]<(Al n)[j]),Ap,A3 (ω:¬(Al m)[j]>(Al n)[j]),Ap];rw[Ac,Ci ω ω]
     .rw[drop_eq_getElem_cons B,drop_eq_getElem_cons p,A,C]
    .refine .inr ⟨.inl 1,by rw[A3 (ω:¬(Al m)[j]<(Al n)[j]),Ap,Ar (ω:(Al m)[j]>(Al n)[j])];rfl,?_⟩;have:=Asf (Im n) p B (Im m) A.symm D;rw[Il,Il]at this;show (1:Int)=Jj m n;rw[Jj,Ao ω,As ω]
  .rintro (e|e) b
   .simp only at b ⊢;rw[b]
   .simp only at b ⊢;rw[Jj,Ao ω,Ao ω]
 .rw[F4 (ω:((Al m).length:Int)≠(Al n).length),Am];by_cases w:(Al m).length<(Al n).length
  .rw[Ar (ω:((Al m).length:Int)<(Al n).length),Am];have:=Ase (m:=m) (n:=n) w;rw[Jj,As this]
  .rw[A3 (ω:¬((Al m).length:Int)<(Al n).length),Ap];have:=Ase (m:=n) (n:=m) (by unfold Ck;omega);rw[Jj,Ao ω,As this]
theorem Ato (h:Cv l) (i:l≠[]->1000000000 ^ (l.length-1)<=Av l):Can l:=by refine⟨h,λb m=>?_⟩;have A:=i b;have e:=dropLast_concat_getLast b;have p:Cv l.dropLast:=λd v=>h d (dropLast_subset l v);have w:=Ly p;rw[length_dropLast]at w;have c:=congrArg Av e;rw[Qc,m]at c;omega
theorem Xp (l:List Int) (h:l.length<=k):Av (l.take k)=Av l:=by rw[Ik h]
theorem Atp (a b:List Int) (ha:Cv a) (hb:Cv b) (hl:a.length<1099511627776) (X:b.length<=a.length) (R:a≠[]->1000000000 ^ (a.length-1)<=Av a) : ((Gk 4 0 (Ac ((a.length:Int)+1)) (0:Int)).bind λZ=> (Ak (S:=(Int×Int×List Int)) (E:=(Int×List Int)) (λ(H,p,u)=> bif p<(a.length:Int) then ((Ag a p).bind λv=> (show Option Int from bif p<(b.length:Int) then ((Ag b p).bind λw=> some (Dk ((Dk (v+H))+w))) else (some (Dk (v+H)))).bind λC=> (Hz .u32 C 1000000000).bind λK=> (Iy C 1000000000).bind λf=> (B8 4 u [f]).bind λg=> some (.inl (K,(Ac (p+1)),g))) else (some (.inr (H,u)))) (0,0,Z)).bind λ(l,q)=> bif l>(0:Int) then ((B8 4 q [l]).bind λJ=> some J) else (some q))=some (Al (Av a+Av b).toNat):=by
 have A:Ac ((a.length:Int)+1)=((a.length+1:Nat):Int):=by rw[Ac,Ci] <;> omega
 rw[A,Ak1 rfl ω ω];simp only[Ad];have a7:=I0 ha.u32;have a6:=I0 hb.u32;refine M8 (λ(c,i,o)=>∃k:Nat,i=k/\k<=a.length/\o.length=k/\Cv o/\0<=c/\c<=1/\Av o+1000000000 ^ k*c=Av (a.take k)+Av (b.take k)) (λ(_,i,_)=>a.length-i.toNat) (λ(c,o)=>o.length=a.length/\Cv o/\0<=c/\c<=1/\Av o+1000000000 ^ a.length*c=Av a+Av b) ⟨0,rfl,ω,rfl,Cv.nil,ω,ω,by simp[Av]⟩ ?_ ?_
 .rintro⟨c,i,o⟩ ⟨k,rfl,hk,L,z,U,T,hv⟩;rcases Cf k a.length with h|h
  .have hx:=ha.get h;have e4:Ac ((k:Int)+1)=((k+1:Nat):Int):=ξ;have e5:decide ((k:Int)<(a.length:Int))=true:=Ar ω;have step:∀s:Int,0<=s->s<2000000000->(show Option Int from bif (k:Int)<(b.length:Int) then ((Ag b k).bind λw=>some (Dk ((Dk (a[k]+c))+w))) else some (Dk (a[k]+c)))=some s ->
     Av (a.take (k+1))+Av (b.take (k+1))=Av (a.take k)+Av (b.take k)+1000000000 ^ k*(s-c) -> (∃m,(bif (k:Int)<(a.length:Int) then ((Ag a k).bind λv=> (show Option Int from bif (k:Int)<(b.length:Int) then ((Ag b k).bind λw=> some (Dk ((Dk (v+c))+w))) else (some (Dk (v+c)))).bind λC=> (Hz .u32 C 1000000000).bind λK=> (Iy C 1000000000).bind λf=> (B8 4 o [f]).bind λg=> some (.inl (K,(Ac ((k:Int)+1)),g))) else (some (.inr (c,o))))=some (Sum.inl m:(Int×Int×List Int)⊕(Int×List Int))/\(∃j:Nat,m.2.1=j/\j<=a.length/\m.2.2.length=j/\Cv m.2.2/\0<=m.1/\m.1<=1/\Av m.2.2+1000000000 ^ j*m.1=Av (a.take j)+Av (b.take j))/\a.length-m.2.1.toNat<a.length-(k:Int).toNat):=by
    intro s y a1 hs x;refine⟨(s / 1000000000,((k+1:Nat):Int),o++[s % 1000000000]),?_,⟨k+1,rfl,ω,by simp[L],z.snoc ω ω,ζ,ζ,?_⟩,ζ⟩
    .rw[e5,Am,Hs rfl h,Ad,hs,Ad,Ar8 y ω δ,Ad,O9 y δ,Ad,Dy ζ,Ad,e4]
    .rw[x,<-hv,Qc,L,Int.pow_succ];have:=Int.mul_ediv_add_emod s 1000000000;grind
   refine .inl ?_;rcases Cf k b.length with F|F
   .have hy:=hb.get F;obtain⟨m,I,G,D⟩:=step (a[k]+c+b[k]) ω ω (by have B:Dk (a[k]+c)=a[k]+c:=Jp ω ω;have Y:Dk (a[k]+c+b[k])=a[k]+c+b[k]:=Jp ω ω;show (bif (k:Int)<(b.length:Int) then _ else _)=_;rw[Ar (ω:(k:Int)<(b.length:Int)),Am,Hs rfl F,Ad,B,Y]) (by rw[Iz a h,Iz b F];grind);exact⟨m,I,G,D⟩
   .obtain⟨m,I,G,D⟩:=step (a[k]+c) ω ω (by have B:Dk (a[k]+c)=a[k]+c:=Jp ω ω;show (bif (k:Int)<(b.length:Int) then _ else _)=_;rw[A3 (ω:¬(k:Int)<(b.length:Int)),Ap,B]) (by rw[Iz a h,Xp b F,Xp b ω];grind);exact⟨m,I,G,D⟩
  .have N:k=a.length:=ω;subst N;refine .inr ⟨(c,o),ψ,L,z,U,T,?_⟩;rw[C1,Xp b X]at hv;exact hv
 .rintro⟨c,o⟩ ⟨Q,h3,h4,h5,h6⟩;simp only[];by_cases T:c>0
  .have:c=1:=ω;subst this;rw[Ar T,Am,Dy ζ,Ad];congr 1;refine Ak2 (Ato (h3.snoc ω ω) λ_=>?_) (by rw[Qc,Q];omega);rw[Qc,Q];have:=I0 h3.u32;simp[Q];omega
  .have:c=0:=ω;subst this;rw[A3 T,Ap];congr 1;refine Ak2 (Ato h3 λM=>?_) ω;have V:a≠[]:=(by intro e;rw[e]at Q;exact M (F3.1 Q));have:=R V;rw[Q];omega
theorem Atq (h:Al n≠[]):1000000000 ^ ((Al n).length-1)<=Av (Al n):=by
 rw[Il];have i:(Al n).length≠0:=λe=>h (F3.1 e);have:=Asb (n:=n) (k:=(Al n).length-1) (by unfold Ck;omega);have e:((1000000000 ^ ((Al n).length-1):Nat):Int)=1000000000 ^ ((Al n).length-1):=by rw[Int.natCast_pow];rfl
 omega
theorem Atr (m n:Nat) (c:Ck m<1099511627776) (b:Ck n<1099511627776):Zz (Al m) (Al n)=some (Al (m+n)):=by
 unfold Zz;unfold Ck at c b;by_cases f:(Al m).length<(Al n).length
 .simp only[Ar (ω:((Al m).length:Int)<(Al n).length),Am,Ad];have:=Atp (Al n) (Al m) (Im n) (Im m) b ω Atq;rw[Il,Il]at this;rw[show m+n=((n:Int)+(m:Int)).toNat by omega];exact this
 .simp only[A3 (ω:¬((Al m).length:Int)<(Al n).length),Ap,Ad];have:=Atp (Al m) (Al n) (Im m) (Im n) c ω Atq;rw[Il,Il]at this;rw[show m+n=((m:Int)+(n:Int)).toNat by omega];exact this
theorem Si (h:k<n) (b:n<4611686018427387904):Ac ((k:Int)+1)=((k+1:Nat):Int):=by rw[Ac,Ci] <;> omega
theorem Agi (m n:Nat) (U:Ck m<1099511627776) (A:n<=m):Ww (Al m) (Al n)=some (Al (m-n)):=by
 unfold Ww;have B:(Al n).length<=(Al m).length:=Mh A;unfold Ck at U;rw[Ak1 rfl ω ω];simp only[Ad];have K:=Im m;have hb:=Im n;refine M8 (λ(c,i,o)=>∃k:Nat,i=k/\k<=(Al m).length/\o.length=k/\Cv o/\0<=c/\c<=1/\Av o=Av ((Al m).take k)-Av ((Al n).take k)+1000000000 ^ k*c) (λ(_,i,_)=>(Al m).length-i.toNat) (λo=>∃c:Int,o.length=(Al m).length/\Cv o/\0<=c/\c<=1/\Av o=(m:Int)-n+1000000000 ^ (Al m).length*c) ⟨0,rfl,ω,rfl,Cv.nil,ω,ω,by simp[Av]⟩ ?_ ?_
 .rintro⟨c,i,o⟩ ⟨k,rfl,Q,l,g,E,C,v⟩;rcases Cf k (Al m).length with h|h
  .have T:=K.get h;have M:=Si h ω;have L:decide ((k:Int)<((Al m).length:Int))=true:=Ar ω;have I:Ac (Al m)[k]=(Al m)[k]:=Ci ω ω;have G:Ac ((Al m)[k]-c)=(Al m)[k]-c:=Ci ω ω;have p:∀s:Int,-1000000001<=s->s<1000000000->Av ((Al m).take (k+1))-Av ((Al n).take (k+1))=Av ((Al m).take k)-Av ((Al n).take k)+1000000000 ^ k*(s+c) ->
     ∃(f:Int) (d:Int),(bif decide (s<0) then ((B8 4 o [(Dk (Ac (s+1000000000)))]).bind λz=>some (Sum.inl (1,(Ac ((k:Int)+1)),z))) else ((B8 4 o [(Dk s)]).bind λy=>some (Sum.inl (0,(Ac ((k:Int)+1)),y))))=some (Sum.inl (f,((k+1:Nat):Int),o++[d]):(Int×Int×List Int)⊕List Int) /\ (-1000000000<=s->(∃j:Nat,((k+1:Nat):Int)=j/\j<=(Al m).length/\(o++[d]).length=j/\Cv (o++[d])/\0<=f/\f<=1/\Av (o++[d])=Av ((Al m).take j)-Av ((Al n).take j)+1000000000 ^ j*f)):=by
    intro s h1 H b;by_cases J:s<0
    .refine⟨1,Dk (Ac (s+1000000000)),by rw[Ar J,Am,Dy ζ,Ad,M],λw=>?_⟩;have S:Ac (s+1000000000)=s+1000000000:=Ci ω ω;have q:Dk (s+1000000000)=s+1000000000:=Jp ω ω;rw[S,q];refine⟨k+1,rfl,ω,by simp[l],g.snoc ω ω,ω,ω,?_⟩;rw[b,Qc,l,v,Int.pow_succ];grind
    .refine⟨0,Dk s,by rw[A3 J,Ap,Dy ζ,Ad,M],λw=>?_⟩;have q:Dk s=s:=Jp ω ω;rw[q];refine⟨k+1,rfl,ω,by simp[l],g.snoc ω ω,ω,ω,?_⟩;rw[b,Qc,l,v,Int.pow_succ];grind
   refine .inl ?_;rcases Cf k (Al n).length with e|e
   .have hy:=hb.get e;have R:Ac (Al n)[k]=(Al n)[k]:=Ci ω ω;have N:Ac ((Al m)[k]-c-(Al n)[k])=(Al m)[k]-c-(Al n)[k]:=Ci ω ω;obtain⟨f,d,x,u⟩:=p ((Al m)[k]-c-(Al n)[k]) ω ω (by rw[Iz _ h,Iz _ e];grind);refine⟨(f,((k+1:Nat):Int),o++[d]),?_,u ω,ζ⟩;rw[<-x];simp only[L,Am,Hs rfl h,Ad,I,G,Ar (ω:(k:Int)<((Al n).length:Int)),Hs rfl e,R,N]
   .obtain⟨f,d,x,u⟩:=p ((Al m)[k]-c) ω ω (by rw[Iz _ h,Xp (Al n) e,Xp (Al n) ω];grind);refine⟨(f,((k+1:Nat):Int),o++[d]),?_,u ω,ζ⟩;rw[<-x];simp only[L,Am,Hs rfl h,Ad,I,G,A3 (ω:¬(k:Int)<((Al n).length:Int)),Ap]
  .have D:k=(Al m).length:=ω;subst D;refine .inr ⟨o,ψ,c,l,g,E,C,?_⟩;rw[C1,Xp _ B,Il,Il]at v;exact v
 .rintro o ⟨c,H,w,Y,X,V⟩;have F:=Ly w;rw[H]at F;have hp:=Mf (Al m).length;have:c=0:=by
   rcases Int.lt_or_le 0 c with C|C
   .have:c=1:=ω;subst this;omega
   .omega
  subst this;rw[U2 o ω,Ad,Ut w (n:=m-n) ω]
theorem Ats (m d:Nat) (L:Ck m<1099511627776) (H:0<d) (M:d<4294967296):W2 (Al m) d=some (Al (m / d),((m % d:Nat):Int)):=by
 unfold W2;unfold Ck at L;rw[M9 rfl rfl (Nat.le_refl _) ω ω];simp only[Ad];have C:=Im m;have F:Ac (((Al m).length:Int)-1)=((Al m).length:Int)-1:=by rw[Ac,Ci] <;> omega
 rw[F];refine M8 (λ(r,i,o)=>∃k:Nat,i=(k:Int)-1/\k<=(Al m).length/\o.length=(Al m).length/\Cv o/\0<=r/\r<d/\Av (o.drop k)*d+r=Av ((Al m).drop k)) (λ(_,i,_)=>(i+1).toNat) (λ(r,o)=>o.length=(Al m).length/\Cv o/\0<=r/\r<d/\Av o*d+r=m) ⟨(Al m).length,rfl,Nat.le_refl _,ψ,Cv.replicate _,ω,ω,by simp[Av]⟩ ?_ ?_
 .rintro⟨r,i,o⟩ ⟨k,rfl,K,z,g,s,J,v⟩;cases k with
  | zero=>exact .inr ⟨(r,o),ψ,z,g,s,J,by simpa[Il] using v⟩
  | succ j=>
   have p:j<(Al m).length:=ω;have h:j<o.length:=ω;have Q:=C.get p;have V:((j+1:Nat):Int)-1=(j:Int):=ω;have U:decide ((j:Int)>=0)=true:=Ar ω;have G:Bh (r*1000000000)=r*1000000000:=Fz ω ω;have E:Bh (Al m)[j]=(Al m)[j]:=Fz ω ω;have D:Bh (r*1000000000+(Al m)[j])=r*1000000000+(Al m)[j]:=Fz ω ω;have b:(0:Int)<(d:Int):=ω;have c:0<=r*1000000000+(Al m)[j]:=ω;have f:0<=(r*1000000000+(Al m)[j]) / (d:Int):=Int.ediv_nonneg c ω;have u:(r*1000000000+(Al m)[j]) / (d:Int)<1000000000:=(by apply Int.ediv_lt_of_lt_mul b;have:(r+1)*1000000000<=d*1000000000:=Int.mul_le_mul_of_nonneg_right ω δ;omega);have B:Dk ((r*1000000000+(Al m)[j]) / (d:Int))=(r*1000000000+(Al m)[j]) / (d:Int):=Jp f ω;have y:=Int.emod_nonneg (r*1000000000+(Al m)[j]) (ω:(d:Int)≠0);have x:=Int.emod_lt_of_pos (r*1000000000+(Al m)[j]) b;have A:Ac ((j:Int)-1)=(j:Int)-1:=ξ;refine .inl ⟨((r*1000000000+(Al m)[j]) % (d:Int),(j:Int)-1,o.set j ((r*1000000000+(Al m)[j]) / (d:Int))),?_,⟨j,rfl,ω,by simpa using z,g.set _ f u,y,x,?_⟩,ψ⟩
   .simp only[V,U,Am,Hs rfl p,Hs rfl h,Ad,G,E,D,Qa c ω b,O9 c b,B,A,Ht rfl]
   .have d1:(o.set j ((r*1000000000+(Al m)[j]) / (d:Int))).drop j=((r*1000000000+(Al m)[j]) / (d:Int))::o.drop (j+1):=(by rw[drop_eq_getElem_cons (by simpa using h),drop_set_of_lt ω];simp);rw[d1,drop_eq_getElem_cons p];simp only[Av];rw[<-v];have:=Int.mul_ediv_add_emod (r*1000000000+(Al m)[j]) (d:Int);grind
 .rintro⟨r,o⟩ ⟨T,w,S,R,N⟩;simp only[];have I:=I0 w.u32;have l:((m / d:Nat):Int)=Av o/\((m % d:Nat):Int)=r:=(by have b:(0:Int)<(d:Int):=ω;have e:=Int.ediv_emod_unique b (r:=r) (q:=Av o) (a:=(m:Int));have:=e.2 ⟨by rw[<-N];grind,S,R⟩;exact⟨by rw[Int.natCast_ediv];exact this.1,by rw[Int.natCast_emod];exact this.2⟩);rw[U2 o ω,Ad,Ut w l.1.symm,l.2]
theorem Alq (i:0<=x) (c:x<1000000000) (e:0<=y) (b:y<1000000000):0<=x*y/\x*y<=999999998000000001:=by refine⟨Int.mul_nonneg i e,?_⟩;have m:x*y<=999999999*y:=Int.mul_le_mul_of_nonneg_right ω e;omega
theorem Sj (m n:Nat) (K:Ck m<549755813888) (Q:Ck n<549755813888):Py (Al m) (Al n)=some (Al (m*n)):=by
 unfold Py;unfold Ck at K Q;by_cases T:m=0\/n=0
 .have:(show OB from bif (((Al m).length:Int)==(0:Int)) then some true else some (((Al n).length:Int)==(0:Int)))=some true:=by
   show (bif (((Al m).length:Int)==(0:Int)) then some true else some (((Al n).length:Int)==(0:Int)))=some true;by_cases h:m=0
   .subst h;rw[Jd];rfl
   .have y:n=0:=ω;subst y;rw[C8 (by have:=Mg h;have:(Al m).length≠0:=λe=>this (F3.1 e);omega),Jd];rfl
  rw[this,Ad,Am];have:m*n=0:=(by rcases T with rfl|rfl <;> simp);rw[this,Jd]
 .have G:m≠0:=ω;have y:n≠0:=ω;have a8:(Al m).length≠0:=λe=>Mg G (F3.1 e);have a7:(Al n).length≠0:=λe=>Mg y (F3.1 e);simp only[C8 (ω:((Al m).length:Int)≠0),C8 (ω:((Al n).length:Int)≠0),Ap,Ad];have hw:Ac (((Al m).length:Int)+((Al n).length:Int))=(((Al m).length+(Al n).length:Nat):Int):=ξ;rw[hw,M9 rfl rfl (Nat.le_refl _) ω ω];simp only[Ad];have ha:=Im m;have hb:=Im n;refine M8 (λ(i,o)=>∃k:Nat,i=k/\k<=(Al m).length/\o.length=(Al m).length+(Al n).length/\Cv o/\o.drop (k+(Al n).length)=replicate ((Al m).length-k) 0/\Av o=Av ((Al m).take k)*n) (λ(i,_)=>(Al m).length-i.toNat) (λo=>o.length=(Al m).length+(Al n).length/\Cv o/\Av o=((m*n:Nat):Int)) ⟨0,rfl,ω,ψ,Cv.replicate _,by rw[drop_replicate];congr 1;omega,by simp[Asa,Av]⟩ ?_ ?_
  .rintro⟨i,o⟩ ⟨k,rfl,hk,N,D,J,w⟩;rcases Cf k (Al m).length with h|h
   .have F:=ha.get h;have e4:=Si h ω;have e5:decide ((k:Int)<((Al m).length:Int))=true:=Ar ω;simp only[e5,Am];refine .inl (Afr (Er (λ(c,j,p)=>∃q:Nat,j=q/\q<=(Al n).length/\p.length=(Al m).length+(Al n).length/\Cv p/\p.drop (k+(Al n).length)=replicate ((Al m).length-k) 0/\0<=c/\c<1000000000 /\ Av p + 1000000000 ^ (k+q)*c=Av o+1000000000 ^ k*((Al m)[k]*Av ((Al n).take q))) (λ(_,j,_)=>(Al n).length-j.toNat) (λ(c,j,p)=>p.length=(Al m).length+(Al n).length/\Cv p/\p.drop (k+(Al n).length)=replicate ((Al m).length-k) 0/\0<=c/\c<1000000000 /\ Av p + 1000000000 ^ (k+(Al n).length)*c=Av o+1000000000 ^ k*((Al m)[k]*n)) ⟨0,rfl,ω,N,D,J,ω,ω,by simp[Av]⟩ ?_ ?_))
    .rintro⟨c,j,p⟩ ⟨q,rfl,hq,l,b,f,z,C,x⟩;rcases Cf q (Al n).length with v|v
     .have H:=hb.get v;have g:k+q<p.length:=ω;have Z:=b.get g;have a1:=Alq F.1 F.2 H.1 H.2;have X:Bh (Al m)[k]=(Al m)[k]:=Fz ω ω;have V:Bh (Al n)[q]=(Al n)[q]:=Fz ω ω;have U:Bh ((Al m)[k]*(Al n)[q])=(Al m)[k]*(Al n)[q]:=Fz ω ω;have S:Bh p[k+q]=p[k+q]:=Fz ω ω;have R:Bh ((Al m)[k]*(Al n)[q]+p[k+q])=(Al m)[k]*(Al n)[q]+p[k+q]:=Fz ω ω;have M:Bh ((Al m)[k]*(Al n)[q]+p[k+q]+c)=(Al m)[k]*(Al n)[q]+p[k+q]+c:=Fz ω ω;have e6:=Si v ω;have e7:decide ((q:Int)<((Al n).length:Int))=true:=Ar ω;have L:Ac ((k:Int)+(q:Int))=((k+q:Nat):Int):=ξ;generalize hs:(Al m)[k]*(Al n)[q]+p[k+q]+c=s at M;have A:0<=s:=ω;have a6:s<1000000000000000000:=ω;have E:Dk (s % 1000000000)=s % 1000000000:=Jp ω ω;refine .inl ⟨(s / 1000000000,((q+1:Nat):Int),p.set (k+q) (s % 1000000000)),?_,⟨q+1,rfl,ω,by simpa using l,b.set _ ω ω,?_,ω,ω,?_⟩,ζ⟩
      .simp only[e7,Am,Hs rfl h,Hs rfl v,L,Hs rfl g,Ad,X,V,U,S,R,hs,M,O9 A (show (0:Int)<1000000000 by decide),Qa A (show s<=_ by omega) (show (0:Int)<1000000000 by decide),E,e6,Ht rfl]
      .rw[drop_set_of_lt ω];exact f
      .rw[Sd _ g,Iz _ v];have:=Int.mul_ediv_add_emod s 1000000000;have Y:(1000000000:Int) ^ (k+(q+1))=1000000000 ^ (k+q)*1000000000:=(by rw[<-Nat.add_assoc,Int.pow_succ]);have p2:(1000000000:Int) ^ (k+q)=1000000000 ^ k*1000000000 ^ q:=Int.pow_add ..;rw[Y];grind
     .have:q=(Al n).length:=ω;subst this;refine .inr ⟨(c,_,p),by simp;rfl,l,b,f,z,C,?_⟩;rw[C1,Il]at x;exact x
    .rintro⟨c,j,p⟩ ⟨l,b,f,z,C,x⟩;have L:Ac ((k:Int)+((Al n).length:Int))=((k+(Al n).length:Nat):Int):=ξ;have g:k+(Al n).length<p.length:=ω;have E:Dk c=c:=Jp ω ω;have u:p[k+(Al n).length]=0:=(by have:=congrArg head? f;rw[head?_drop,Bp g]at this;have B:(replicate ((Al m).length-k) (0:Int)).head? = some 0:=(by cases hh:(Al m).length-k with| zero=>omega| succ t=>rfl);rw[B]at this;exact Fh this);refine⟨_,by simp only[L,Hs rfl g,Ad,E,e4,Ht rfl];rfl,_,rfl,⟨k+1,rfl,ω,by simpa using l,b.set _ z C,?_,?_⟩,ζ⟩
     .rw[drop_set_of_lt ω,show k+1+(Al n).length=(k+(Al n).length)+1 by omega,<-drop_drop,f,drop_replicate];congr 1
     .rw[Sd _ g,u,Iz _ h,Int.add_mul,<-w];grind
   .have I:k=(Al m).length:=ω;subst I;refine .inr ⟨o,ψ,N,D,?_⟩;rw[C1,Il]at w;rw[w];simp
  .rintro o ⟨h2,h3,h4⟩;rw[U2 o ω,Ad,Ut h3 h4]
theorem Att (a:List Int) (m:Nat) (p:Cv a) (V:a.length<1099511627776) (U:m<1000000000) : ∃o,W3 a m=some o/\o.length=a.length+1/\Cv o/\Av o=Av a*m:=by
 unfold W3;have u:Ac ((a.length:Int)+1)=((a.length+1:Nat):Int):=by rw[Ac,Ci] <;> omega
 rw[u,M9 rfl rfl (Nat.le_refl _) ω ω];simp only[Ad];refine Er (λ(c,i,o)=>∃k:Nat,i=k/\k<=a.length/\o.length=a.length+1/\Cv o/\o.drop k=replicate (a.length+1-k) 0/\0<=c/\c<1000000000/\Av o+1000000000 ^ k*c=Av (a.take k)*m) (λ(_,i,_)=>a.length-i.toNat) (λ(c,o)=>o.length=a.length+1/\Cv o/\o.drop a.length = [0]/\0<=c/\c<1000000000/\Av o+1000000000 ^ a.length*c=Av a*m) ⟨0,rfl,ω,ψ,Cv.replicate _,ψ,ω,ω,by simp[Av,Asa]⟩ ?_ ?_
 .rintro⟨c,i,o⟩ ⟨k,rfl,H,B,q,g,z,v,w⟩;rcases Cf k a.length with h|h
  .have e:=p.get h;have f:k<o.length:=ω;have G:=Alq e.1 e.2 (show (0:Int)<=m by omega) ω;have S:=Si h ω;have R:decide ((k:Int)<(a.length:Int))=true:=Ar ω;have E:Bh a[k]=a[k]:=Fz ω ω;have D:Bh (a[k]*(m:Int))=a[k]*m:=Fz ω ω;have A:Bh (a[k]*(m:Int)+c)=a[k]*m+c:=Fz ω ω;have b:o[k]=0:=(by have:=congrArg head? g;rw[head?_drop,Bp f]at this;have l:(replicate (a.length+1-k) (0:Int)).head? = some 0:=(by cases K:a.length+1-k with| zero=>omega| succ t=>rfl);rw[l]at this;exact Fh this);generalize J:a[k]*(m:Int)+c=s at A;have j:0<=s:=ω;have I:s<1000000000000000000:=ω;have x:Dk (s % 1000000000)=s % 1000000000:=Jp ω ω;refine .inl ⟨(s / 1000000000,((k+1:Nat):Int),o.set k (s % 1000000000)),?_,⟨k+1,rfl,ω,by simpa using B,q.set _ ω ω,?_,ω,ω,?_⟩,ζ⟩
   .simp only[R,Am,Hs rfl h,Hs rfl f,Ad,E,D,J,A,O9 j (show (0:Int)<1000000000 by decide),Qa j (show s<=_ by omega) (show (0:Int)<1000000000 by decide),x,S,Ht rfl]
   .rw[drop_set_of_lt ω,<-drop_drop,g,drop_replicate];congr 1
   .rw[Sd _ f,b,Iz _ h,Int.pow_succ];have:=Int.mul_ediv_add_emod s 1000000000;grind
  .have y:k=a.length:=ω;subst y;refine .inr ⟨(c,o),ψ,B,q,by rw[g];simp,z,v,by rwa [C1]at w⟩
 .rintro⟨c,o⟩ ⟨C,F,g,N,M,L⟩;have f:a.length<o.length:=ω;have x:Dk c=c:=Jp ω ω;have b:o[a.length]=0:=(by have:=congrArg head? g;rw[head?_drop,Bp f]at this;exact Fh this);refine⟨o.set a.length c,by simp only[Hs rfl f,Ad,x,Ht rfl],by simpa using C,F.set _ N M,?_⟩;rw[Sd _ f,b,<-L];grind
theorem Sk {α:Type} {l:List α} {i:Int} (e:i=k) (m:k<n) (h:off+k<l.length):Hy l off n i=some l[off+k]:=by subst e;have p:(0:Int)<=(k:Int):=ω;have v:(k:Int)<(n:Int):=ω;simp[Hy,m,h]
theorem A53 {k tb B:Int} (i:0<P) (u:V=j+P*tb) (l:0<=j) (x:U=k+P*hb) (s:k<P) (m:q*V<=U) (c:0<=g) (h:hb<g*tb) (b:0<=tb):q<g:=by
 rcases Int.lt_or_le q g with e|e
 .exact e
 .exfalso;have f:0<=V:=(by have:=Int.mul_nonneg (Int.le_of_lt i) b;omega);have p:g*V<=q*V:=Int.mul_le_mul_of_nonneg_right e f;have v:g*(P*tb)<=g*V:=Int.mul_le_mul_of_nonneg_left ω c;have w:P*(hb+1)<=P*(g*tb):=Int.mul_le_mul_of_nonneg_left ω (Int.le_of_lt i);have z:g*(P*tb)=P*(g*tb):=(by grind);have y:P*(hb+1)=P*hb+P:=(by grind);omega
theorem Atu {k tb:Int} (i:0<P) (y:V=j+P*tb) (s:j<P) (z:U=k+P*hb) (u:0<=k) (w:U<(q+1)*V) (l:0<=g) (p:g<=tb+1) (h:g*tb<=hb) (b:0<V):g<=q+1:=by
 rcases Int.lt_or_le (q+1) g with e|e
 .exfalso;have f:0<=g-1:=by
   rcases Int.lt_or_le g 1 with m|m
   .have:g=0:=ω;subst this;have c:q+1<0:=e;have:(q+1)*V<0:=Int.mul_neg_of_neg_of_pos c b;have v:0<=hb:=(by simpa using h);have:=Int.mul_nonneg (Int.le_of_lt i) v;omega
   .omega
  have B:(q+1)*V<=(g-1)*V:=Int.mul_le_mul_of_nonneg_right ω (Int.le_of_lt b);have x:P*(tb+1)=P*tb+P:=(by grind);have m:(g-1)*V<=(g-1)*(P*(tb+1)):=Int.mul_le_mul_of_nonneg_left ω f;have C:(g-1)*(P*(tb+1))=P*(g*tb+(g-tb-1)):=(by grind);have A:P*(g*tb+(g-tb-1))<=P*hb:=Int.mul_le_mul_of_nonneg_left ω (Int.le_of_lt i);omega
 .exact e
theorem A54 {A C:Type} {X:Option (A×C)} {Q:A->C->Prop} (h:∃r,X=some r/\Q r.1 r.2):∃q o,X=some (q,o)/\Q q o:=by obtain⟨⟨a,c⟩,e,i⟩:=h;exact⟨a,c,e,i⟩
theorem al1 (k:g*t+r=h):(g-1)*t+(r+t)=h:=by grind
theorem al2 {p:Int} (e:s-1000000000*d=x-b-p):o+P*(s-x)-P*1000000000*d=(o-P*b)-P*p:=by grind
theorem al3 (b X K g A y:Int):b-X*(g*A)-X*K*(g*y)=b-X*(g*(A+K*y)):=by grind
theorem al4 {c:Int} (h:u+X*(W+N*c-U)-X*N*b=u-X*(g*V)):X*(U-g*V)=X*(W+N*(c-b)):=by grind
theorem al5 (u X q:Int):u-X*q-u=X*(-q):=by grind
theorem al6 (h:o-P*b=r):o+P*(x-b-x)=r:=by grind
theorem al7 {K c A:Int} (g:x+y+c=s) (f:1000000000*(s / 1000000000)+s % 1000000000=s) (h:b+X*K*c=o+X*A):b+X*K*(s % 1000000000-x)+X*K*1000000000*(s / 1000000000)=o+X*(A+K*y):=by grind
theorem al8 {f c:Int} (e:o-X*N*b=u-X*((q+1)*V)) (i:u+X*(W+N*f-U)+X*N*c=o+X*V):X*(U-q*V)=X*(W+N*(f-b+c)):=by grind
theorem al9 {c f:Int} (e:g+P*c=o+X*V) (i:o-P*b=u-X*((q+1)*V)) (m:f=b-c):g+P*(0-f)=u-X*(q*V):=by grind
theorem gtb (k:g*t+r=h):g*(t*1000000000+x)=(h-r)*1000000000+g*x:=by subst k;grind
theorem Alr (h:(1000000000:Int) ^ k*x=1000000000 ^ k*y):x=y:=Int.eq_of_mul_eq_mul_left (by have:=Mf k;omega) h
theorem Atv {o u:List Int} (b:off<=o.length) (e:off<=u.length) (h:o.take off=u.take off):Av o-Av u=1000000000 ^ off*(Av (o.drop off)-Av (u.drop off)):=by rw[Pb o off b,Pb u off e,h];grind
theorem Agj (h:Cv l) (k:Nat):0<=Av (l.drop k):=I0 (h.drop k).u32
theorem A55 {D:List Int} (b:Cv D) (A:2<=n) (g:n<D.length) (m:Av D<1000000000 ^ (n+1)) : Av D=Av (D.take (n-2))+1000000000 ^ (n-2)*((D[n]*1000000000+D[n-1])*1000000000+D[n-2]):=by
 have e:=Pb D (n+1) g;have p:Av (D.drop (n+1))=0:=by
  have q:=Agj b (n+1);have B:=I0 ((b.take (n+1)).u32);rcases Int.lt_or_le 0 (Av (D.drop (n+1))) with h|h
  .have:(1000000000:Int) ^ (n+1)*1<=1000000000 ^ (n+1)*Av (D.drop (n+1)):=Int.mul_le_mul_of_nonneg_left h (Int.le_of_lt (Mf _));omega
  .omega
 rw[p,Int.mul_zero,Int.add_zero]at e;obtain⟨t,rfl⟩:∃t,n=t+2:=⟨n-2,ω⟩;have l:=Iz D (k:=t) ω;have j:=Iz D (k:=t+1) ω;have i:=Iz D (k:=t+2) ω;have f:(1000000000:Int) ^ (t+1)=1000000000 ^ t*1000000000:=Int.pow_succ ..;have c:(1000000000:Int) ^ (t+2)=1000000000 ^ (t+1)*1000000000:=Int.pow_succ ..;have v:t+2-2=t:=rfl;have w:t+2-1=t+1:=rfl;simp only[v,w];rw[e,i,j,l,c,f];grind
theorem A56 {v:List Int} (p:2<=n) (g:v.length=n) : Av v=Av (v.take (n-2))+1000000000 ^ (n-2)*(v[n-1]*1000000000+v[n-2]):=by obtain⟨t,rfl⟩:∃t,n=t+2:=⟨n-2,ω⟩;have f:=Iz v (k:=t) ω;have b:=Iz v (k:=t+1) ω;have e:v.take (t+1+1)=v:=Ik ω;rw[e]at b;have c:(1000000000:Int) ^ (t+1)=1000000000 ^ t*1000000000:=Int.pow_succ ..;have i:t+2-2=t:=rfl;have m:t+2-1=t+1:=rfl;simp only[i,m];rw[b,f,c];grind
set_option maxHeartbeats 1000000 in
theorem A57 (v u:List Int) (off n:Nat) (K:Cv v) (Q:Cv u) (hn:v.length=n) (h2:2<=n) (c8:n<1099511627776) (bp:500000000<=v[n-1]) (X:off+n<u.length) (hT:Av (u.drop off)<Av v*1000000000) : ∃q o,Aak off (n+1) v u=some (q,o)/\o.length=u.length/\Cv o/\0<=q/\q<1000000000/\Av o=Av u-1000000000 ^ off*(q*Av v)/\0<=Av (o.drop off)/\Av (o.drop off)<Av v:=by
 have b7:=Ly K;rw[hn]at b7;have cd:(u.drop off).length=u.length-off:=length_drop;have A:=Q.drop off;have bo:=I0 A.u32;have b9:Av (u.drop off)<1000000000 ^ (n+1):=by rw[Int.pow_succ];omega
 have ab:=A55 A h2 ω b9;have ao:=A56 h2 hn;have gd:∀i (h:i<(u.drop off).length),(u.drop off)[i]=u[off+i]' ω:=λi h=>getElem_drop;rw[gd,gd,gd]at ab;have bt:=Q.get (i:=off+n) ω;have bw:=Q.get (i:=off+(n-1)) ω;have bu:=Q.get (i:=off+(n-2)) ω;have bx:=K.get (i:=n-1) ω;have ad:=K.get (i:=n-2) ω;have T:=Mf (n-2);have b8:=I0 ((K.take (n-2)).u32);have aa:=Ly (K.take (n-2));rw[length_take,Nat.min_eq_left ω]at aa;have bb:=I0 ((A.take (n-2)).u32);have ba:=Ly (A.take (n-2));rw[length_take,Nat.min_eq_left ω]at ba;have y:0<Av v:=by have:(1000000000:Int) ^ (n-2)*1<=1000000000 ^ (n-2)*(v[n-1]*1000000000+v[n-2]):=Int.mul_le_mul_of_nonneg_left ω (Int.le_of_lt T);omega
 generalize hq:Av (u.drop off) / Av v=q;have bi:q*Av v<=Av (u.drop off):=by rw[<-hq];exact Int.ediv_mul_le _ ω
 have ar:Av (u.drop off)<(q+1)*Av v:=by rw[<-hq];have:=Int.lt_ediv_add_one_mul_self (Av (u.drop off)) y;exact this
 have ag:0<=q:=by rw[<-hq];exact Int.ediv_nonneg bo ω
 have bg:q<1000000000:=by rw[<-hq];exact Int.ediv_lt_of_lt_mul y (by rw[Int.mul_comm];exact hT)
 have l:(0:Int)<v[n-1]:=ω;generalize ak:u[off+n]*1000000000+u[off+(n-1)]=head at ab;have am:0<=head:=ω;have ca:head<=v[n-1]*1000000000+v[n-2]:=by
  rcases Int.lt_or_le (v[n-1]*1000000000+v[n-2]) head with h|h
  .exfalso;have a1:(1000000000:Int) ^ (n-2)*((v[n-1]*1000000000+v[n-2]+1)*1000000000)<=1000000000 ^ (n-2)*(head*1000000000+u[off+(n-2)]):=Int.mul_le_mul_of_nonneg_left ω (Int.le_of_lt T);have a2:Av v*1000000000<(1000000000 ^ (n-2)*(v[n-1]*1000000000+v[n-2]+1))*1000000000:=(by have:(1000000000:Int) ^ (n-2)*(v[n-1]*1000000000+v[n-2]+1)=1000000000 ^ (n-2)*(v[n-1]*1000000000+v[n-2])+1000000000 ^ (n-2):=(by grind);omega);have a3:((1000000000:Int) ^ (n-2)*(v[n-1]*1000000000+v[n-2]+1))*1000000000=1000000000 ^ (n-2)*((v[n-1]*1000000000+v[n-2]+1)*1000000000):=(by grind);omega
  .exact h
 have cb:0<=head / v[n-1]:=Int.ediv_nonneg am ω;have bm:head / v[n-1]<=1000000001:=by have:head / v[n-1]<1000000002:=Int.ediv_lt_of_lt_mul l ω;omega
 have bf:=Int.emod_nonneg head (ω:v[n-1]≠0);have bz:=Int.emod_lt_of_pos head l;have bn:=Int.mul_ediv_add_emod head v[n-1];unfold Aak;have w1:Ac ((v.length:Int)-1)=((n-1:Nat):Int):=by rw[Ac,Ci] <;> omega
 have w2:Ac ((v.length:Int)-2)=((n-2:Nat):Int):=by rw[Ac,Ci] <;> omega
 have w3:(v.length:Int)=((n:Nat):Int):=ω;have x1:Bh u[off+n]=u[off+n]:=Fz ω ω;have x2:Bh (u[off+n]*1000000000)=u[off+n]*1000000000:=Fz ω ω;have x3:Bh u[off+(n-1)]=u[off+(n-1)]:=Fz ω ω;have x4:Bh (u[off+n]*1000000000+u[off+(n-1)])=head:=by rw[Bh,Fz ω ω,ak]
 have x5:Bh v[n-1]=v[n-1]:=Fz ω ω;have x6:Bh v[n-2]=v[n-2]:=Fz ω ω;have x7:Bh u[off+(n-2)]=u[off+(n-2)]:=Fz ω ω;rw[w1,w2,Hs rfl (ω:n-1<v.length),Ad,Hs rfl (ω:n-2<v.length),Ad,w3,Sk rfl (ω:n<n+1) ω,Ad,Sk rfl (ω:n-1<n+1) ω,Ad,x1,x2,x3,x4,x5,x6,Qa am ω l,Ad,O9 am l,Ad];refine A54 (Er (λ(g,m)=>g*v[n-1]+m=head/\0<=m/\m<2000000000/\q<=g/\g<=1000000001) (λ(g,_)=>g.toNat) (λg=>q<=g/\g<=q+1/\g<=1000000000) ⟨by rw[Int.mul_comm];exact bn,bf,ω,?_,bm⟩ ?_ ?_)
 .rcases Int.lt_or_le (head / v[n-1]) q with h|h
  .exfalso;have a1:(head / v[n-1]+1)*v[n-1]<=q*v[n-1]:=Int.mul_le_mul_of_nonneg_right ω ω;have a2:head<(head / v[n-1]+1)*v[n-1]:=Int.lt_ediv_add_one_mul_self head l;have a3:q*(1000000000 ^ (n-2)*(v[n-1]*1000000000+v[n-2]))<=q*Av v:=Int.mul_le_mul_of_nonneg_left ω ag;have a4:(1000000000:Int) ^ (n-2)*((head+1)*1000000000)<=1000000000 ^ (n-2)*(q*(v[n-1]*1000000000+v[n-2])):=(by apply Int.mul_le_mul_of_nonneg_left _ (Int.le_of_lt T);have b1:(head+1)*1000000000<=q*v[n-1]*1000000000:=ω;have b2:0<=q*v[n-2]:=Int.mul_nonneg ag ad.1;have b3:q*(v[n-1]*1000000000+v[n-2])=q*v[n-1]*1000000000+q*v[n-2]:=(by grind);omega);have a5:q*((1000000000:Int) ^ (n-2)*(v[n-1]*1000000000+v[n-2]))=1000000000 ^ (n-2)*(q*(v[n-1]*1000000000+v[n-2])):=(by grind);have a6:(1000000000:Int) ^ (n-2)*((head+1)*1000000000)=1000000000 ^ (n-2)*(head*1000000000)+1000000000 ^ (n-2)*1000000000:=(by grind);have a7:(1000000000:Int) ^ (n-2)*(head*1000000000+u[off+(n-2)])=1000000000 ^ (n-2)*(head*1000000000)+1000000000 ^ (n-2)*u[off+(n-2)]:=(by grind);have a8:(1000000000:Int) ^ (n-2)*(u[off+(n-2)]+1)<=1000000000 ^ (n-2)*1000000000:=Int.mul_le_mul_of_nonneg_left ω (Int.le_of_lt T);have a9:(1000000000:Int) ^ (n-2)*(u[off+(n-2)]+1)=1000000000 ^ (n-2)*u[off+(n-2)]+1000000000 ^ (n-2):=(by grind);omega
  .exact h
 .rintro⟨g,m⟩ ⟨k1,k2,k3,k4,k5⟩;have S:0<=g:=ω;have w4:Bh (v[n-1])=v[n-1]:=x5;have af:∀(w:q<g),(some (Sum.inl ((Bh (g-1)),(Bh (m+v[n-1])))):Option ((Int×Int)⊕Int))=some (.inl (g-1,m+v[n-1])):=(by intro w;rw[show Bh (g-1)=g-1 from Fz ω ω,show Bh (m+v[n-1])=m+v[n-1] from Fz ω ω]);have F:∀(hr:m<1000000000) (w:q<g),(g-1)*v[n-1]+(m+v[n-1])=head/\0<=m+v[n-1]/\m+v[n-1]<2000000000/\q<=g-1/\g-1<=1000000001:=(by intro hr w;exact⟨al1 k1,ω,ω,ω,ω⟩);by_cases hr:m<1000000000
  .by_cases Y:g>=1000000000
   .refine .inl ⟨(g-1,m+v[n-1]),?_,F hr ω,ζ⟩;simp only[Ar hr,Am,Ar Y,Ad];exact af ω
   .have br:=Alq S ω ad.1 ad.2;have y1:Bh (g*v[n-2])=g*v[n-2]:=Fz ω ω;have y2:Bh (m*1000000000)=m*1000000000:=Fz ω ω;have y3:Bh (m*1000000000+u[off+(n-2)])=m*1000000000+u[off+(n-2)]:=Fz ω ω;have az:g*(v[n-1]*1000000000+v[n-2])=(head-m)*1000000000+g*v[n-2]:=gtb k1;simp only[Ar hr,Am,A3 Y,Ap,Sk rfl (ω:n-2<n+1) (ω:off+(n-2)<u.length),Ad,y1,x7,y2,y3];by_cases ae:g*v[n-2]>m*1000000000+u[off+(n-2)]
    .have w:q<g:=A53 (P:=1000000000 ^ (n-2)) (tb:=v[n-1]*1000000000+v[n-2]) (hb:=head*1000000000+u[off+(n-2)]) (B:=0) T ao b8 ab ba bi S ω ω;refine .inl ⟨(g-1,m+v[n-1]),?_,F hr w,ζ⟩;rw[Ar ae,Am];exact af w
    .refine .inr ⟨g,by rw[A3 ae,Ap],k4,?_,ω⟩;exact Atu (P:=1000000000 ^ (n-2)) (tb:=v[n-1]*1000000000+v[n-2]) (hb:=head*1000000000+u[off+(n-2)]) T ao aa ab bb ar S ω ω y
  .refine .inr ⟨g,by simp only[A3 hr,Ap,Ad],k4,?_⟩;have Y:g<=1000000000:=by
    rcases Int.lt_or_le 1000000000 g with h|h
    .exfalso;have:g=1000000001:=ω;subst this;omega
    .exact h
   refine⟨?_,Y⟩;have az:g*(v[n-1]*1000000000+v[n-2])=(head-m)*1000000000+g*v[n-2]:=gtb k1;have bq:g*v[n-2]<=1000000000*v[n-2]:=Int.mul_le_mul_of_nonneg_right Y ad.1;exact Atu (P:=1000000000 ^ (n-2)) (tb:=v[n-1]*1000000000+v[n-2]) (hb:=head*1000000000+u[off+(n-2)]) T ao aa ab bb ar S ω ω y
 .rintro g ⟨k1,k2,k3⟩;have S:0<=g:=ω;refine Er (λ(b,i,o)=>∃k:Nat,i=k/\k<=n/\o.length=u.length/\Cv o/\o.take off=u.take off/\o.drop (off+k)=u.drop (off+k)/\0<=b/\b<=1000000001/\Av o-1000000000 ^ (off+k)*b=Av u-1000000000 ^ off*(g*Av (v.take k))) (λ(_,i,_)=>n-i.toNat) (λ(b,o)=>o.length=u.length/\Cv o/\o.take off=u.take off/\o.drop (off+n)=u.drop (off+n)/\0<=b/\b<=1000000001/\Av o-1000000000 ^ (off+n)*b=Av u-1000000000 ^ off*(g*Av v)) ⟨0,rfl,ω,rfl,Q,rfl,rfl,ω,ω,by simp[Av]⟩ ?_ ?_
  .rintro⟨b,i,o⟩ ⟨k,rfl,hk,ho,I,M,L,b6,b5,f⟩;rcases Cf k n with h|h
   .have E:off+k<o.length:=ω;have J:k<v.length:=ω;have hx:=I.get E;have hy:=K.get J;have e4:=Si h ω;have e5:decide ((k:Int)<(n:Int))=true:=Ar ω;have av:0<=g*v[k]:=Int.mul_nonneg S hy.1;have c7:g*v[k]<=1000000000*v[k]:=Int.mul_le_mul_of_nonneg_right k3 hy.1;have y1:Bh v[k]=v[k]:=Fz ω ω;have y2:Bh (g*v[k])=g*v[k]:=Fz ω ω;have y3:Ac o[off+k]=o[off+k]:=Ci ω ω;generalize au:g*v[k]=p at *;have y4:Ac (o[off+k]-b)=o[off+k]-b:=Ci ω ω;have y5:Ac (p % 1000000000)=p % 1000000000:=Ci ω ω;have y6:Ac (o[off+k]-b-p % 1000000000)=o[off+k]-b-p % 1000000000:=Ci ω ω;have y7:Ac (p / 1000000000)=p / 1000000000:=Ci ω ω;simp only[e5,Am,Sk rfl (ω:k<n+1) E,Hs rfl J,Ad,y1,y2,au,y3,y4,O9 av (show (0:Int)<1000000000 by decide),Qa av (show p<=_ by omega) (show (0:Int)<1000000000 by decide),y5,y6,y7];refine .inl (Afr (Er (λ(b',s)=>∃t:Nat,b'=p / 1000000000+t/\s=o[off+k]-b-p % 1000000000+t*1000000000/\s<1000000000/\t<=3) (λ(_,s)=>(-s).toNat) (λ(b',s)=>∃t:Nat,b'=p / 1000000000+t/\s=o[off+k]-b-p % 1000000000+t*1000000000/\s<1000000000/\0<=s/\t<=2) ⟨0,ψ,ψ,ω,ω⟩ ?_ ?_))
    .rintro⟨b',s⟩ ⟨t,rfl,hs,ac,ht⟩;by_cases G:s<0
     .refine .inl ⟨(p / 1000000000+(t+1:Nat),s+1000000000),?_,⟨t+1,rfl,by rw[hs];simp;omega,ω,ω⟩,ζ⟩;rw[Ar G,Am,show Ac (p / 1000000000+(t:Int)+1)=p / 1000000000+((t+1:Nat):Int) by rw[Ac,Ci] <;> omega,show Ac (s+1000000000)=s+1000000000 from Ci ω ω]
     .exact .inr ⟨(p / 1000000000+t,s),by rw[A3 G,Ap],t,rfl,hs,ac,ω,ω⟩
    .rintro⟨b',s⟩ ⟨t,rfl,hs,ac,G,ht⟩;have y8:Dk s=s:=Jp ω ω;refine⟨.inl (p / 1000000000+t,((k+1:Nat):Int),o.set (off+k) s),by simp only[Sk rfl (ω:k<n+1) E,Ad,y8,e4];rw[Ht (n:=off+k) ω],_,rfl,⟨k+1,rfl,ω,by simpa using ho,I.set _ G ac,?_,?_,ω,ω,?_⟩,ζ⟩
     .rw[take_set_of_le ω];exact M
     .rw[drop_set_of_lt ω,show off+(k+1)=(off+k)+1 by omega,<-drop_drop,L,drop_drop]
     .rw[Sd _ E,Iz v J,show off+(k+1)=(off+k)+1 by omega,Int.pow_succ];have ay:=Int.mul_ediv_add_emod p 1000000000;have pa:(1000000000:Int) ^ (off+k)=1000000000 ^ off*1000000000 ^ k:=Int.pow_add ..;have eA:s-1000000000*(p / 1000000000+(t:Int))=o[off+k]-b-p:=(by rw[hs];omega);rw[al2 eA,f,<-au,pa];exact al3 _ _ _ _ _ _
   .have aj:k=n:=ω;subst aj;refine .inr ⟨(b,o),ψ,ho,I,M,L,b6,b5,?_⟩;rw[Ik ω]at f;exact f
  .rintro⟨b,o⟩ ⟨ho,I,M,L,b6,b5,f⟩;have hV:=y;have ah:off+n<o.length:=ω;have ax:o[off+n]=u[off+n]:=(by have:=congrArg head? L;rw[head?_drop,head?_drop,Bp ah,Bp X]at this;exact Fh this);have hE:Av (u.drop (off+n))=u[off+n]:=by
    have a1:=Pb (u.drop off) (n+1) ω;have a2:=I0 (((Q.drop off).take (n+1)).u32);have a3:=Agj (Q.drop off) (n+1);have a4:Av ((u.drop off).drop (n+1))=0:=by
     rcases Int.lt_or_le 0 (Av ((u.drop off).drop (n+1))) with h|h
     .have:(1000000000:Int) ^ (n+1)*1<=1000000000 ^ (n+1)*Av ((u.drop off).drop (n+1)):=Int.mul_le_mul_of_nonneg_left h (Int.le_of_lt (Mf _));omega
     .omega
    rw[drop_eq_getElem_cons X];simp only[Av];rw[drop_drop,show off+(n+1)=off+n+1 by omega]at a4;rw[a4];omega
   have H:∀C:List Int,C.length=u.length->Cv C->C.take off=u.take off->C.drop (off+n)=u.drop (off+n)->0<=Av ((C.drop off).take n)/\Av ((C.drop off).take n)<1000000000 ^ n /\
     Av C=Av u+1000000000 ^ off*(Av ((C.drop off).take n)+1000000000 ^ n*u[off+n]-Av (u.drop off)):=by intro C l1 l2 l3 l4;have a1:=Pb (C.drop off) n (by rw[length_drop];omega);rw[drop_drop,l4,hE]at a1;have a2:=Atv ω ω l3;refine⟨I0 (((l2.drop off).take n).u32),?_,by rw[<-a1];omega⟩;have:=Ly ((l2.drop off).take n);rw[length_take,length_drop,Nat.min_eq_left ω]at this;exact this
   obtain⟨m1,m2,m3⟩:=H o ho I M L;have pa:(1000000000:Int) ^ (off+n)=1000000000 ^ off*1000000000 ^ n:=Int.pow_add ..;have a0:Av (u.drop off)-g*Av v=Av ((o.drop off).take n)+1000000000 ^ n*(u[off+n]-b):=(by apply Alr (k:=off);rw[m3,pa]at f;exact al4 f);have y1:Ac u[off+n]=u[off+n]:=Ci ω ω;have y2:Ac (u[off+n]-b)=u[off+n]-b:=Ci ω ω;have ap:=Mf n;have fin:∀(U:List Int) (x:Int) (j:List Int),U=j.set (off+n) x->j.length=u.length->Cv j->0<=x->x<1000000000->j.take off=u.take off->Av U=Av u-1000000000 ^ off*(q*Av v) ->
     U.length=u.length/\Cv U/\0<=q/\q<1000000000/\Av U=Av u-1000000000 ^ off*(q*Av v)/\0<=Av (U.drop off)/\Av (U.drop off)<Av v:=by intro U x j e l1 l2 x0 x1 l3 aq;have L4:U.length=u.length:=(by rw[e];simpa using l1);have T4:U.take off=u.take off:=(by rw[e,take_set_of_le ω];exact l3);have hp:=Atv ω ω T4;have hd:Av (U.drop off)=Av (u.drop off)-q*Av v:=(by have:Av (U.drop off)-Av (u.drop off) = - (q*Av v):=(by apply Alr (k:=off);rw[<-hp,aq];exact al5 _ _ _);omega);have bh:(q+1)*Av v=q*Av v+Av v:=(by grind);exact⟨L4,by rw[e];exact l2.set _ x0 x1,ag,bg,aq,ω,ω⟩
   simp only[Sk rfl (ω:n<n+1) ah,ax,Ad,y1,y2];by_cases z:u[off+n]-b>=0
   .have c9:g*Av v<=Av (u.drop off):=(by have:=Int.mul_nonneg (Int.le_of_lt ap) z;omega);have R:g=q:=by
     rcases Int.lt_or_le q g with h|h
     .exfalso;have:(q+1)*Av v<=g*Av v:=Int.mul_le_mul_of_nonneg_right ω ω;omega
     .omega
    have y3:Dk (u[off+n]-b)=u[off+n]-b:=Jp ω ω;have y4:Dk g=g:=Jp ω ω;rw[Ar z,Am,y3,y4,Ht (n:=off+n) ω];refine⟨_,rfl,?_⟩;rw[R];refine fin _ (u[off+n]-b) o rfl ho I z ω M ?_;rw[Sd _ ah,ax];rw[R]at f;exact al6 f
   .have R:g=q+1:=by
     have h1:1000000000 ^ n*(u[off+n]-b)<=1000000000 ^ n*(-1):=Int.mul_le_mul_of_nonneg_left ω (Int.le_of_lt ap);rcases Int.lt_or_le q g with h|h
     .omega
     .exfalso;have:g*Av v<=q*Av v:=Int.mul_le_mul_of_nonneg_right h ω;omega
    rw[A3 z,Ap];refine Er (λ(c,i,j)=>∃k:Nat,i=k/\k<=n/\j.length=u.length/\Cv j/\j.take off=u.take off/\j.drop (off+k)=o.drop (off+k)/\0<=c/\c<=1/\Av j+1000000000 ^ (off+k)*c=Av o+1000000000 ^ off*Av (v.take k)) (λ(_,i,_)=>n-i.toNat) (λ(c,j)=>j.length=u.length/\Cv j/\j.take off=u.take off/\j.drop (off+n)=o.drop (off+n)/\0<=c/\c<=1/\Av j+1000000000 ^ (off+n)*c=Av o+1000000000 ^ off*Av v) ⟨0,rfl,ω,ho,I,M,rfl,ω,ω,by simp[Av]⟩ ?_ ?_
    .rintro⟨c,i,j⟩ ⟨k,rfl,hk,h3,N,V,Z,b4,b0,D⟩;rcases Cf k n with h|h
     .have E:off+k<j.length:=ω;have J:k<v.length:=ω;have hx:=N.get E;have hy:=K.get J;have e4:=Si h ω;have e5:decide ((k:Int)<(n:Int))=true:=Ar ω;have z1:Dk (j[off+k]+v[k])=j[off+k]+v[k]:=Jp ω ω;have z2:Dk (j[off+k]+v[k]+c)=j[off+k]+v[k]+c:=Jp ω ω;generalize hs:j[off+k]+v[k]+c=s at z2;have G:0<=s:=ω;have ac:s<2000000000:=ω;refine .inl ⟨(s / 1000000000,((k+1:Nat):Int),j.set (off+k) (s % 1000000000)),?_,⟨k+1,rfl,ω,by simpa using h3,N.set _ ω ω,?_,?_,ω,ω,?_⟩,ζ⟩
      .simp only[e5,Am,Sk rfl (ω:k<n+1) E,Hs rfl J,Ad,z1,hs,z2,Ar8 G (show s<=_ by omega) (show (0:Int)<1000000000 by decide),O9 G (show (0:Int)<1000000000 by decide),e4];rw[Ht (n:=off+k) ω]
      .rw[take_set_of_le ω];exact V
      .rw[drop_set_of_lt ω,show off+(k+1)=(off+k)+1 by omega,<-drop_drop,Z,drop_drop]
      .rw[Sd _ E,Iz v J,show off+(k+1)=(off+k)+1 by omega,Int.pow_succ];have ay:=Int.mul_ediv_add_emod s 1000000000;have pk:(1000000000:Int) ^ (off+k)=1000000000 ^ off*1000000000 ^ k:=Int.pow_add ..;rw[pk]at D ⊢;exact al7 hs ay D
     .have aj:k=n:=ω;subst aj;refine .inr ⟨(c,j),ψ,h3,N,V,Z,b4,b0,?_⟩;rw[Ik ω]at D;exact D
    .rintro⟨c,j⟩ ⟨h3,N,V,Z,b4,b0,D⟩;have ai:off+n<j.length:=ω;obtain⟨r1,r2,r3⟩:=H j h3 N V (Z.trans L);have bj:j[off+n]=u[off+n]:=(by have:=congrArg head? (Z.trans L);rw[head?_drop,head?_drop,Bp ai,Bp X]at this;exact Fh this);have be:Av (u.drop off)-q*Av v=Av ((j.drop off).take n)+1000000000 ^ n*(u[off+n]-b+c):=(by apply Alr (k:=off);rw[r3,pa]at D;rw[R]at f;rw[pa]at f;exact al8 f D);have bl:u[off+n]-b+c=0:=by
      have bh:(q+1)*Av v=q*Av v+Av v:=(by grind);rcases Int.lt_or_le (u[off+n]-b+c) 0 with h|h
      .exfalso;have h1:1000000000 ^ n*(u[off+n]-b+c)<=1000000000 ^ n*(-1):=Int.mul_le_mul_of_nonneg_left ω (Int.le_of_lt ap);omega
      .omega
     have y5:Ac c=c:=Ci ω ω;have y6:Ac (u[off+n]-b+c)=0:=(by rw[bl];rfl);have y7:Dk (0:Int)=0:=rfl;have y8:Bh (g-1)=q:=(by rw[R,Bh,Fz ω ω];omega);have y9:Dk q=q:=Jp ω ω;simp only[Sk rfl (ω:n<n+1) ai,Ad,y5,y6,y7,y8,y9];rw[Ht (n:=off+n) ω];refine⟨_,rfl,?_⟩;refine fin _ 0 j rfl h3 N ω ω V ?_;rw[Sd _ ai,bj];rw[R]at f;exact al9 D f ω
theorem A58 (a:List Int) (m:Int):Akq a m=W3 a m:=rfl
theorem A59 (ht:1<=t) (m:t<1000000000) (p:d*(t+1)+r=1000000000) (f:0<=r) (b:r<=t):500000000<=d*t:=by
 have c:0<=d:=by
  rcases Int.lt_or_le d 0 with h|h
  .exfalso;have:d*(t+1)<=(-1)*(t+1):=Int.mul_le_mul_of_nonneg_right ω ω;omega
  .exact h
 have e:d*(t+1)=d*t+d:=by grind
 rcases Int.lt_or_le t 2 with h|h
 .have:t=1:=ω;subst this;omega
 .rcases Int.lt_or_le d 2 with i|i
  .have:d=0\/d=1:=ω;rcases this with rfl|rfl <;> omega
  .have v:2*(t-1)<=d*(t-1):=Int.mul_le_mul_of_nonneg_right i ω;have g:d*(t-1)=d*t-d:=(by grind);omega
theorem bl1 (P t d:Int):P*t*d=P*(d*t):=by grind
theorem bl2 {K Q S:Int} (h:o=u-X*(q*V)) (b:u+V*(X*1000000000)*Q=S):o+V*X*(q+1000000000*Q)=S:=by grind
set_option maxHeartbeats 1000000 in
theorem Als (m n:Nat) (hm:Ck m<274877906944) (hn:Ck n<274877906944) (E:n≠0):T7 (Al m) (Al n)=some (Al (m / n),Al (m % n)):=by
 unfold T7;rw[Alp m n ω ω,Ad];unfold Ck at hm hn;by_cases C:m<n
 .rw[show Jj m n = -1 by rw[Jj,As C],Ar (by decide:(-1:Int)<0),Am,Dy ζ,Ad,Nat.div_eq_of_lt C,Nat.mod_eq_of_lt C,Jd];rfl
 .rw[A3 (show ¬Jj m n<0 by rw[Jj,Ao C];split <;> decide),Ap];have bb:(Al n).length<=(Al m).length:=Mh ω;have az:(Al n).length≠0:=λe=>Mg E (F3.1 e);by_cases h1:(Al n).length=1
  .rw[Eh (ω:((Al n).length:Int)=1),Am];have Z:n<1000000000:=(by have:=Qd n;rw[show Ck n=1 from h1]at this;simpa using this);have ak:Al n = [(n:Int)]:=(by rw[Pa E,Nat.div_eq_of_lt Z,Jd,Nat.mod_eq_of_lt Z]);rw[ak,show Ag [(n:Int)] 0=some (n:Int) from rfl,Ad,show Bh (n:Int)=n from Fz ω ω,Ats m n (by unfold Ck;omega) ω ω,Ad];have ay:m % n<n:=Nat.mod_lt _ ω;rw[Agh (m % n) ω,Ad]
  .rw[C8 (ω:((Al n).length:Int)≠1),Ap];generalize F:(Al n).length=L at *;generalize hA:(Al m).length=A at *;have w1:Ac ((L:Int)-1)=((L-1:Nat):Int):=ξ;have H:L-1<(Al n).length:=ω;have ht:=(Im n).get H;have av:(Al n)[L-1]≠0:=(by have:=(A4i n).2 (Mg E);rw[getLast_eq_getElem]at this;simpa[F] using this);generalize x:(Al n)[L-1]=t at *;have w2:Bh t=t:=Fz ω ω;have w3:Bh (t+1)=t+1:=Fz ω ω;rw[w1,Hs rfl H,x,Ad,w2,w3,Qa δ δ ω,Ad];have S:=Int.mul_ediv_add_emod 1000000000 (t+1);have ag:=Int.emod_nonneg 1000000000 (ω:t+1≠0);have b8:=Int.emod_lt_of_pos 1000000000 (ω:0<t+1);have ap:1<=1000000000 / (t+1):=by
    rcases Int.lt_or_le (1000000000 / (t+1)) 1 with h|h
    .exfalso;have:(t+1)*(1000000000 / (t+1))<=(t+1)*0:=Int.mul_le_mul_of_nonneg_left ω ω;omega
    .exact h
   have ao:1000000000 / (t+1)<=500000000:=(by have:=Int.ediv_lt_of_lt_mul (a:=1000000000) (b:=500000001) (c:=t+1) ω ω;omega);obtain⟨d,hd⟩:∃d:Nat,1000000000 / (t+1)=(d:Int):=⟨(1000000000 / (t+1)).toNat,ω⟩;rw[hd]at S ap ao ⊢;obtain⟨u,af,D,R,N⟩:=Att (Al m) d (Im m) ω ω;obtain⟨p,ae,ad,B,b6⟩:=Att (Al n) d (Im n) ω ω;rw[af,Ad,A58,ae,Ad,Il]at *;rw[F]at ad;rw[hA]at D;rw[Xf rfl (ω:L<=p.length),Ad];have s:=Mf (L-1);have pL:(1000000000:Int) ^ L=1000000000 ^ (L-1)*1000000000:=(by rw[<-Int.pow_succ];congr 1;omega);have X:=Iz (Al n) H;rw[Ik ω,Il,x]at X;have ax:=I0 (((Im n).take (L-1)).u32);have Y:=Ly ((Im n).take (L-1));rw[length_take,F,Nat.min_eq_left ω]at Y;have ba:(n:Int)*d<1000000000 ^ L:=(by have a1:(n:Int)*d<(1000000000 ^ (L-1)*(t+1))*d:=Int.mul_lt_mul_of_pos_right (by have:(1000000000:Int) ^ (L-1)*(t+1)=1000000000 ^ (L-1)*t+1000000000 ^ (L-1):=(by grind);omega) ω;have Q:(1000000000 ^ (L-1)*(t+1))*(d:Int)=1000000000 ^ (L-1)*((t+1)*d):=(by grind);have a3:(1000000000:Int) ^ (L-1)*((t+1)*d)<=1000000000 ^ (L-1)*1000000000:=Int.mul_le_mul_of_nonneg_left ω (Int.le_of_lt s);omega);have J:Av (p.take L)=(n:Int)*d:=by
    have e:=Pb p L ω;have z:Av (p.drop L)=0:=by
     have a1:=Agj B L;have Q:=I0 ((B.take L).u32);rcases Int.lt_or_le 0 (Av (p.drop L)) with h|h
     .have:(1000000000:Int) ^ L*1<=1000000000 ^ L*Av (p.drop L):=Int.mul_le_mul_of_nonneg_left h (Int.le_of_lt (Mf _));omega
     .omega
    rw[z]at e;omega
   have G:(p.take L).length=L:=(by rw[length_take];omega);have f:=B.take L;have I:L-1<(p.take L).length:=ω;have aj:500000000<=(d:Int)*t:=A59 (r:=1000000000 % (t+1)) ω ω (by rw[Int.mul_comm];exact S) ag ω;have g:500000000<=(p.take L)[L-1]:=by
    have e:=Iz (p.take L) I;rw[Ik ω,J]at e;have b1:=Ly (f.take (L-1));rw[length_take,G,Nat.min_eq_left ω]at b1;have b2:(1000000000:Int) ^ (L-1)*t*d<=n*d:=Int.mul_le_mul_of_nonneg_right ω ω;have b3:(1000000000:Int) ^ (L-1)*500000000<=1000000000 ^ (L-1)*(d*t):=Int.mul_le_mul_of_nonneg_left aj (Int.le_of_lt s);rw[bl1]at b2;rcases Int.lt_or_le (p.take L)[L-1] 500000000 with h|h
    .exfalso;have b4:(1000000000:Int) ^ (L-1)*((p.take L)[L-1]+1)<=1000000000 ^ (L-1)*500000000:=Int.mul_le_mul_of_nonneg_left ω (Int.le_of_lt s);have b5:(1000000000:Int) ^ (L-1)*((p.take L)[L-1]+1)=1000000000 ^ (L-1)*(p.take L)[L-1]+1000000000 ^ (L-1):=(by grind);omega
    .exact h
   generalize b0:p.take L=v at *;have w4:Ac ((A:Int)-(L:Int))=((A-L:Nat):Int):=ξ;have w5:Ac (((A-L:Nat):Int)+1)=((A-L+1:Nat):Int):=ξ;rw[w4,w5,M9 rfl rfl (Nat.le_refl _) ω ω,Ad,D];have b7:=I0 R.u32;have aq:(0:Int)<(n:Int)*d:=Int.mul_pos ω ω;refine M8 (λ(i,w,q)=>∃k:Nat,i=(k:Int)-1/\k<=A-L+1/\w.length=A+1/\Cv w/\q.length=A-L+1/\Cv q/\Av w<Av v*1000000000 ^ k/\Av w+Av v*1000000000 ^ k*Av (q.drop k)=(m:Int)*d) (λ(i,_,_)=>(i+1).toNat) (λ(w,q)=>w.length=A+1/\Cv w/\q.length=A-L+1/\Cv q/\Av w<Av v/\Av w+Av v*Av q=(m:Int)*d) ⟨A-L+1,ω,Nat.le_refl _,D,R,ψ,Cv.replicate _,?_,by rw[drop_of_length_le ψ];simp[Av,N]⟩ ?_ ?_
   .have ai:(m:Int)<1000000000 ^ A:=(by have:=Ly (Im m);rwa [Il,hA]at this);have a1:(m:Int)*d<1000000000 ^ A*500000000:=(by have c1:(m:Int)*d<=m*500000000:=Int.mul_le_mul_of_nonneg_left ω ω;have c2:(m:Int)*500000000<1000000000 ^ A*500000000:=Int.mul_lt_mul_of_pos_right ai δ;omega);have Q:(1000000000:Int) ^ (L-1)*500000000<=Av v:=(by have e:=Iz v I;rw[Ik ω]at e;have b1:=I0 ((f.take (L-1)).u32);have b3:(1000000000:Int) ^ (L-1)*500000000<=1000000000 ^ (L-1)*v[L-1]:=Int.mul_le_mul_of_nonneg_left g (Int.le_of_lt s);omega);have a3:(1000000000:Int) ^ (L-1)*500000000*1000000000 ^ (A-L+1)<=Av v*1000000000 ^ (A-L+1):=Int.mul_le_mul_of_nonneg_right Q (Int.le_of_lt (Mf _));have a4:(1000000000:Int) ^ (L-1)*500000000*1000000000 ^ (A-L+1)=1000000000 ^ A*500000000:=(by have:(1000000000:Int) ^ A=1000000000 ^ (L-1)*1000000000 ^ (A-L+1):=(by rw[<-Int.pow_add];congr 1;omega);rw[this];grind);rw[N];omega
   .rintro⟨i,w,q⟩ ⟨k,rfl,hk,ab,y,V,U,a6,l⟩;cases k with
    | zero=>exact .inr ⟨(w,q),ψ,ab,y,V,U,by simpa using a6,by simpa using l⟩
    | succ j=>
     have e0:((j+1:Nat):Int)-1=(j:Int):=ω;have e1:decide ((j:Int)>=0)=true:=Ar ω;have w6:Ac ((j:Int)+(L:Int))=((j+L:Nat):Int):=ξ;have w7:Ac (((j+L:Nat):Int)+1)=((j+L+1:Nat):Int):=ξ;have sA:Re (A+1) (j:Int) ((j+L+1:Nat):Int)=some (j,j+L+1):=(by have c1:(0:Int)<=(j:Int):=ω;have c2:(j:Int)<=((j+L+1:Nat):Int):=ω;have c3:((j+L+1:Nat):Int)<=((A+1:Nat):Int):=ω;have c4:(j:Int)=0\/(j:Int)<((j+L+1:Nat):Int):=ω;rw[Re,As ⟨c1,c2,c3,c4⟩];rfl);have ar:Av (w.drop j)<Av v*1000000000:=by
      have s1:=Pb w j ω;have s2:=I0 ((y.take j).u32);rcases Int.lt_or_le (Av (w.drop j)) (Av v*1000000000) with h|h
      .exact h
      .exfalso;have:(1000000000:Int) ^ j*(Av v*1000000000)<=1000000000 ^ j*Av (w.drop j):=Int.mul_le_mul_of_nonneg_left h (Int.le_of_lt (Mf _));have e:Av v*(1000000000:Int) ^ (j+1)=1000000000 ^ j*(Av v*1000000000):=(by rw[Int.pow_succ];grind);omega
     obtain⟨T,o,r1,r2,r3,r4,r5,r6,r7,r8⟩:=A57 v w j L f y G ω ω g ω ar;have a7:j<q.length:=ω;have w8:Ac ((j:Int)-1)=(j:Int)-1:=ξ;have lG:Ft (A+1) o=some ():=(by rw[Ft,As ω]);refine .inl ⟨((j:Int)-1,o,q.set j T),?_,⟨j,rfl,ω,ω,r3,by simpa using V,U.set _ r4 r5,?_,?_⟩,ψ⟩
     .simp only[e0,e1,Am,w6,w7,sA,Ad,Nat.zero_add,show j+L+1-j=L+1 by omega,r1,lG,Hs rfl a7,w8,Ht rfl]
     .have s1:=Pb o j ω;have s2:=Ly (r3.take j);rw[length_take,Nat.min_eq_left ω]at s2;have:(1000000000:Int) ^ j*(Av (o.drop j)+1)<=1000000000 ^ j*Av v:=Int.mul_le_mul_of_nonneg_left ω (Int.le_of_lt (Mf _));have e:(1000000000:Int) ^ j*(Av (o.drop j)+1)=1000000000 ^ j*Av (o.drop j)+1000000000 ^ j:=(by grind);rw[Int.mul_comm (Av v)];omega
     .have d1:(q.set j T).drop j=T::q.drop (j+1):=(by rw[drop_eq_getElem_cons (by simpa using a7),drop_set_of_lt ω];simp);rw[d1];simp only[Av];rw[Int.pow_succ]at l;exact bl2 (K:=0) r6 l
   .rintro⟨w,q⟩ ⟨h2,h3,h4,h5,h6,h7⟩;rw[J]at h6 h7;have ac:=I0 h3.u32;have b9:=I0 h5.u32;have M:=(Int.ediv_emod_unique aq (r:=Av w) (q:=Av q) (a:=(m:Int)*d)).2 ⟨by rw[<-h7],ac,h6⟩;have am:(m*d) / (n*d)=m / n:=Nat.mul_div_mul_right m n ω;have ah:(m*d) % (n*d)=(m % n)*d:=Nat.mul_mod_mul_right d m n;have au:Av q=((m / n:Nat):Int):=(by rw[<-M.1,<-am];simp);have a8:Av w=(((m % n)*d:Nat):Int):=(by rw[<-M.2,<-ah];simp);have aa:Ck ((m % n)*d)<1099511627776:=(by have C:=Ly h3;have:Ck ((m % n)*d)<=A+1:=(by apply K6;rw[h2,a8]at C;have e:((1000000000 ^ (A+1):Nat):Int)=1000000000 ^ (A+1):=(by rw[Int.natCast_pow];rfl);omega);omega);dsimp only;rw[U2 w ω,Ad,Ut h3 a8,Ats _ d aa ω ω,Ad,U2 q ω,Ad,Ut h5 au,Nat.mul_div_cancel _ ω]
theorem Atw (h:Ck n<=2):n<1000000000000000000:=by have e:=Qd n;have i:1000000000 ^ Ck n<=1000000000 ^ 2:=Nat.pow_le_pow_right δ h;omega
theorem Atx (n:Nat) (h:Ck n<=2):W1 (Al n)=some ((n:Int),true):=by
 unfold W1;unfold Ck at h;have m:=Im n;refine M8 (λ(w,i)=>∃k:Nat,i=k/\k<=(Al n).length/\w=Av ((Al n).drop ((Al n).length-k))) (λ(_,i)=>(Al n).length-i.toNat) (λe=>match e with|.inl _=>False | .inr w=>w=n) ⟨0,rfl,ω,by simp[Av]⟩ ?_ ?_
 .rintro⟨w,i⟩ ⟨k,rfl,D,rfl⟩;rcases Cf k (Al n).length with p|A
  .have z:decide ((k:Int)<((Al n).length:Int))=true:=Ar ω;have s:Ac (((Al n).length:Int)-1)=((Al n).length:Int)-1:=ξ;have q:Ac (((Al n).length:Int)-1-(k:Int))=(((Al n).length-1-k:Nat):Int):=ξ;have v:(Al n).length-1-k<(Al n).length:=ω;have E:=m.get v;have x:=Agj m ((Al n).length-k);have b:=Ly (m.drop ((Al n).length-k));rw[length_drop,show (Al n).length-((Al n).length-k)=k by omega]at b;have u:(1000000000:Int) ^ k<=1000000000:=(by have:k=0\/k=1:=ω;rcases this with rfl|rfl <;> decide);have l:Bh (Al n)[(Al n).length-1-k]=(Al n)[(Al n).length-1-k]:=Fz ω ω;have j:Bh (18446744073709551615-(Al n)[(Al n).length-1-k])=18446744073709551615-(Al n)[(Al n).length-1-k]:=Fz ω ω;have g:Bh (Av ((Al n).drop ((Al n).length-k))*1000000000)=Av ((Al n).drop ((Al n).length-k))*1000000000:=Fz ω ω;have f:Bh (Av ((Al n).drop ((Al n).length-k))*1000000000+(Al n)[(Al n).length-1-k])=Av ((Al n).drop ((Al n).length-k))*1000000000+(Al n)[(Al n).length-1-k]:=Fz ω ω;have y:=Si p ω;have B:¬Av ((Al n).drop ((Al n).length-k))>(18446744073709551615-(Al n)[(Al n).length-1-k]) / 1000000000:=ω;refine .inl ⟨(Av ((Al n).drop ((Al n).length-k))*1000000000+(Al n)[(Al n).length-1-k],((k+1:Nat):Int)),?_,⟨k+1,rfl,ω,?_⟩,ζ⟩
   .simp only[z,Am,s,q,Hs rfl v,Ad,l,j,Qa (show 0<=18446744073709551615-(Al n)[(Al n).length-1-k] by omega) (show 18446744073709551615-(Al n)[(Al n).length-1-k]<=_ by omega) (show (0:Int)<1000000000 by decide),A3 B,Ap,g,f,y]
   .have C:(Al n).drop ((Al n).length-(k+1))=(Al n)[(Al n).length-1-k]::(Al n).drop ((Al n).length-k):=(by rw[show (Al n).length-(k+1)=(Al n).length-1-k by omega,drop_eq_getElem_cons v];congr 2;omega);rw[C];simp only[Av];omega
  .have:k=(Al n).length:=ω;subst this;refine .inr ⟨.inr _,by simp;rfl,?_⟩;exact Il n
 .rintro (e|e) c
  .exact c.elim
  .simp only at c ⊢;rw[c]
theorem A6a (m n:Nat) (s:Ck m<274877906944) (l:Ck n<274877906944):Aad (Al m) (Al n)=some (Al (Nat.gcd m n)):=by
 unfold Aad;refine M8 (λ(a,b)=>∃x y:Nat,a=Al x/\b=Al y/\Ck x<274877906944/\Ck y<274877906944/\Nat.gcd x y=Nat.gcd m n) (λ(_,b)=>(Av b).toNat) (λe=>match e with|.inl r=>r=Al (Nat.gcd m n) | .inr r=>r=Al (Nat.gcd m n)) ⟨m,n,rfl,rfl,s,l,rfl⟩ ?_ ?_
 .rintro⟨a,b⟩ ⟨x,y,rfl,rfl,C,B,A⟩;by_cases c:y=0
  .subst c;refine .inr ⟨.inr (Al x),by rw[Jd];rfl,?_⟩;show Al x=_;rw[<-A,Nat.gcd_zero_right]
  .have z:(Al y).length≠0:=λe=>Mg c (F3.1 e);have k:decide (((Al y).length:Int)>0)=true:=Ar ω;by_cases w:Ck x<=2/\Ck y<=2
   .have i:=Atw w.1;have h:=Atw w.2;unfold Ck at w;simp only[k,Am,Ar (ω:((Al x).length:Int)<=2),Ar (ω:((Al y).length:Int)<=2),Ad,Atx x w.1,Atx y w.2];refine .inr (A4g (Er (λ(p,q)=>∃u v:Nat,p=u/\q=v/\u<1000000000000000000/\v<1000000000000000000/\Nat.gcd u v=Nat.gcd m n) (λ(_,q)=>q.toNat) (λ(p,q)=>p=((Nat.gcd m n:Nat):Int)/\Nat.gcd m n<1000000000000000000) ⟨x,y,rfl,rfl,i,h,A⟩ ?_ ?_))
    .rintro⟨p,q⟩ ⟨u,v,rfl,rfl,F,D,f⟩;by_cases j:v=0
     .subst j;refine .inr ⟨((u:Int),(0:Int)),rfl,?_⟩;rw[Nat.gcd_zero_right]at f;exact⟨by rw[f],ω⟩
     .refine .inl ⟨((v:Int),((u % v:Nat):Int)),?_,⟨v,u % v,rfl,rfl,D,by have:=Nat.mod_lt u (ω:v>0);omega,?_⟩,?_⟩
      .simp only[Ar (ω:(v:Int)>0),Am,O9 (ω:(0:Int)<=u) (ω:(0:Int)<v),Ad];rfl
      .rw[<-f,Nat.gcd_comm v,<-Nat.gcd_rec,Nat.gcd_comm]
      .have:=Nat.mod_lt u (ω:v>0);simp only[Int.toNat_natCast];exact this
    .rintro⟨p,q⟩ ⟨rfl,E⟩;dsimp only;rw[Agh _ ω];exact⟨_,rfl,_,rfl,rfl⟩
   .refine .inl ⟨(Al y,Al (x % y)),?_,⟨y,x % y,rfl,rfl,B,by have:=Mh (Nat.mod_le x y);omega,?_⟩,?_⟩
    .have:(bif ((Al x).length:Int)<=(2:Int) then some (decide (((Al y).length:Int)<=(2:Int))) else some false)=some false:=by
      unfold Ck at w;by_cases G:(Al x).length<=2
      .rw[Ar (ω:((Al x).length:Int)<=2),Am,A3 (ω:¬((Al y).length:Int)<=2)]
      .rw[A3 (ω:¬((Al x).length:Int)<=2),Ap]
     simp only[k,Am];rw[this,Ad,Ap,Als x y C B c,Ad]
    .rw[<-A,Nat.gcd_comm y,<-Nat.gcd_rec,Nat.gcd_comm]
    .simp only[Il];have:=Nat.mod_lt x (ω:y>0);omega
 .rintro (e|e) g
  .simp only at g ⊢;rw[g]
  .simp only at g ⊢;rw[g]
theorem Agk:Al 1 = [1]:=by rw[Pa δ,show 1 / 1000000000=0 by decide,Jd];rfl
theorem Aty (n:Nat):Wz (Al n)=some (decide (n=1)):=by
 unfold Wz;by_cases i:n=0
 .subst i;rw[Jd];rfl
 .rw[Pa i];by_cases m:n / 1000000000=0
  .rw[m,Jd];have e:Ag [((n % 1000000000:Nat):Int)] 0=some ((n % 1000000000:Nat):Int):=rfl;simp only[length_singleton,e,Ad];have:(((1:Nat):Int)==(1:Int))=true:=rfl;rw[this,Am];congr 1;by_cases b:n=1
   .subst b;rfl
   .rw[C8 ω,A3 b]
  .have c:(Al (n / 1000000000)).length≠0:=λe=>Mg m (F3.1 e);rw[C8 ζ,Ap,A3 ω]
def C6 (b:Bool) (n d:Nat):Aq:=if n=0 then ⟨false,[],[1]⟩ else ⟨b,Al (n / Nat.gcd n d),Al (d / Nat.gcd n d)⟩
theorem Pj (b:Bool) (n d:Nat) (g:Ck n<274877906944) (p:Ck d<274877906944):Ow ⟨b,Al n,Al d⟩=some (C6 b n d):=by
 unfold Ow Aep;dsimp only;by_cases i:n=0
 .subst i;rw[Jd];rfl
 .have h:(Al n).length≠0:=λe=>Mg i (F3.1 e);rw[C8 ω,Ap,Aty,Ad,C6,Ao i];by_cases v:d=1
  .subst v;rw[Ar rfl,Am];simp
  .rw[A3 v,Ap,A6a n d g p,Ad,Aty,Ad];by_cases m:Nat.gcd n d=1
   .rw[Ar m,Am,m];simp
   .have f:Nat.gcd n d≠0:=(by have:=Nat.gcd_pos_of_pos_left d (ω:0<n);omega);have c:Ck (Nat.gcd n d)<274877906944:=(by have:=Mh (Nat.gcd_le_left d (ω:0<n));omega);rw[A3 m,Ap,Als n _ g c f,Ad,Als d _ p c f,Ad];rfl
def nv (a:Aq):Nat:=if (Av a.U).toNat=0\/(Av a.B).toNat=0 then 0 else (Av a.U).toNat
def dv (a:Aq):Nat:=if (Av a.U).toNat=0\/(Av a.B).toNat=0 then 1 else (Av a.B).toNat
def sv (a:Aq):Bool:=if (Av a.U).toNat=0\/(Av a.B).toNat=0 then false else a.N
structure RB (k:Nat) (a:Aq):Prop where
 num:Qb a.U
 den:Qb a.B
 nl:a.U.length<=k
 dl:a.B.length<=k
theorem A6b (h:Qb l):Av l<=5*1000000000 ^ l.length-5:=by induction l with| nil=>simp[Av]| cons d l ih=>have i:=h d ψ;have m:=ih λx e=>h x (by simp[e]);simp only[Av,D1];rw[Int.pow_succ];omega
theorem A6c (h:Qb l):Av l<1000000000 ^ (l.length+1):=by have e:=A6b h;have hp:=Mf l.length;rw[Int.pow_succ];omega
theorem Atz (h:Qb l):Ck (Av l).toNat<=l.length+1:=by
 apply K6;have i:=A6c h;have m:=I0 h;have e:((1000000000 ^ (l.length+1):Nat):Int)=1000000000 ^ (l.length+1):=by rw[Int.natCast_pow];rfl
 omega
theorem RB.mono {j:Nat} (h:RB j a) (hk:j<=k):RB k a:=⟨h.num,h.den,by have:=h.nl;omega,by have:=h.dl;omega⟩
theorem Sl:Ck 1=1:=by unfold Ck;rw[Agk];rfl
theorem RB.nv (h:RB k a):Ck (nv a)<=k+1:=by
 unfold Ab.nv;split
 .simp[Aba]
 .have:=Atz h.num;have:=h.nl;omega
theorem RB.dv (h:RB k a):Ck (dv a)<=k+1:=by
 unfold Ab.dv;split
 .simp[Sl]
 .have:=Atz h.den;have:=h.dl;omega
theorem Ic (a:Aq):dv a≠0:=by
 unfold dv;split
 .decide
 .omega
theorem Sn (a:Aq) (k:Nat) (h:RB k a) (p:k<274877906900):M3 a=some ⟨sv a,Al (nv a),Al (dv a)⟩:=by
 unfold M3;have v:=h.nl;have w:=h.dl;rw[Atn _ h.num ω,Ad,Atn _ h.den ω,Ad];unfold nv dv sv;generalize (Av a.U).toNat=x;generalize (Av a.B).toNat=y;by_cases i:x=0
 .subst i;simp only[Jd,true_or,if_true,Agk];rfl
 .have c:(Al x).length≠0:=λe=>Mg i (F3.1 e);by_cases m:y=0
  .subst m;simp only[Jd,or_true,if_true,Agk,C8 (ω:((Al x).length:Int)≠0),Ap];rfl
  .have b:(Al y).length≠0:=λe=>Mg m (F3.1 e);simp only[i,m,or_self,if_false,C8 (ω:((Al x).length:Int)≠0),Ap,C8 (ω:((Al y).length:Int)≠0),Ad]
end Go.Ab
