/- Plain laws. -/
import Derived.Test.YtikjbngjfebkjaaGreatDoorLnPl0
open List
namespace Go.Ab
open Go
mutual
theorem At6 (data:List Aj):∀(i:Ai) (t:Af) (d:Nat),Dj data i t=some d->d<=6*Bw i
 | ⟨n,e⟩,t,d,h=>by
  rw[Mi]at h
  simp only[Bw]
  simp only at h
  split at h
  .split at h
   .have:=Ach data e _ d h;omega
   .cases h
  .split at h
   .split at h
    .cases h;omega
    .cases h
   .split at h
    .split at h
     .have:=At7 data e _ d h;omega
     .cases h
    .split at h
     .cases h;omega
     .cases h
theorem Ach (data:List Aj):∀(is:List Ai) (ts:List Af) (d:Nat),C4 data is ts=some d->d<=6*Ci is
 | [],[],d,h=>by simp only[C4]at h;cases h;omega
 | i::is,t::ts,d,h=>by
  rw[Nx]at h
  cases e:Dj data i t with
  | none=>rw[e]at h;cases h
  | some a=>
   rw[e,Ad]at h
   cases m:C4 data is ts with
   | none=>rw[m]at h;cases h
   | some b=>
    rw[m]at h
    cases h
    have:=At6 data i t a e
    have:=Ach data is ts b m
    simp only[Ci];omega
 | [],_::_,d,h=>by simp only[C4]at h;cases h
 | _::_,[],d,h=>by simp only[C4]at h;cases h
theorem At7 (data:List Aj):∀(es:List Ai) (t:Af) (d:Nat),F1 data es t=some d->d<=6*Ci es
 | [],t,d,h=>by simp only[F1]at h;cases h;omega
 | ⟨n,e⟩::es,t,d,h=>by
  rw[Vh]at h
  simp only at h
  cases p:G2 data t n with
  | none=>rw[p]at h;cases h
  | some v=>
   rw[p,Ad]at h
   cases i:C4 data e v with
   | none=>rw[i]at h;cases h
   | some a=>
    rw[i,Ad]at h
    cases m:F1 data es t with
    | none=>rw[m]at h;cases h
    | some b=>
     rw[m]at h
     cases h
     have:=Ach data e v a i
     have:=At7 data es t b m
     simp only[Ci,Bw];omega
end
variable {data:List Aj} {o:Option Nat} {α:Type}
def X2 (data:List Aj) (e:Ai) (t:Af):Option Nat:=(G2 data t e.U).bind λi=>(C4 data e.K i).map (1 + ·)
theorem A6b (data:List Aj) (e:Ai) (es:List Ai) (t:Af):F1 data (e::es) t=(X2 data e t).bind λa=>(F1 data es t).map (a + ·):=by rw[Vh];unfold X2;cases G2 data t e.U with| none=>rfl| some i=>simp only[Ad];cases C4 data e.K i <;> rfl
theorem A6c (data:List Aj) (e:Ai) (t:Af) (d:Nat) (h:X2 data e t=some d):d<=6*Bw e:=by
 unfold X2 at h;cases m:G2 data t e.U with
 | none=>rw[m]at h;cases h
 | some p=>rw[m,Ad]at h;cases i:C4 data e.K p with| none=>rw[i]at h;cases h| some a=>rw[i]at h;cases h;have:=Ach data _ p a i;have:=Ey e;show 1+a<=_;omega
def Dg (v:Int) (o:Option Nat):Prop:=(v = -1/\∀d,o=some d->6<d)\/∃d:Nat,o=some d/\v=d
theorem Dg.clip {v:Int} (h:Dg v o):(if v>6 then -1 else v)=Ju o:=by
 rcases h with⟨rfl,h⟩|⟨d,rfl,rfl⟩
 .rw[Ar ω,Atx h]
 .by_cases hd:6<d
  .rw[Au ω,Al3 hd]
  .rw[Ar ω,Q3 ω]
theorem Ag4 {p:Option Nat} {acc:Nat} {d:Nat} (h:(o.bind λa=>p.map (a + ·)).map (acc + ·)=some d):∃a b,o=some a/\p=some b/\d=acc+(a+b):=by
 cases o with
 | none=>cases h
 | some a=>cases p with| none=>cases h| some b=>exact⟨a,b,rfl,rfl,by simp at h;omega⟩
theorem A6d (hz:Szv data) (hs:M1 data) (b1:List (ByteArray×Int)) (b2:List (ByteArray×List Ax)) (vars:List Af) (L J:Int) (I:List Af):∀k:Nat, (∀(i:Ai) (t:Af),3*Bw i<=k->Bw i<=1048576->B0 t<=200->∃v,Sj k t i b1 b2 data vars L J I=some v/\Dg v (Dj data i t)) /\ (∀(is:List Ai) (ts:List Af),3*Ci is+1<=k->Ci is<=1048576->(∀t∈ts,B0 t<=200)->∃v,U4 k ts is b1 b2 data vars L J I=some v/\Dg v (C4 data is ts)) /\ (∀(e:Ai) (t:Af),3*Bw e<=k->Bw e<=1048576->B0 t<=200->∃v,U5 k t e b1 b2 data vars L J I=some v/\Dg v (X2 data e t)):=by
 intro k;induction k with
 | zero=>exact⟨λi t h=>by have:=Ey i;omega,λis ts h=>ω,λi t h=>by have:=Ey i;omega⟩
 | succ k ih=>
  obtain⟨Z,M,a6⟩:=ih;have B:∀o:Option Nat,o.map (0 + ·)=o:=(by intro o;cases o <;> simp);have c:∀d:Nat,(none:Option Nat)=some d->6<d:=λd h=>by cases h
  refine⟨?_,?_,?_⟩
  .intro i t hk hi ht;have ae:=Ey i;have N:=Px i.K;rw[Sj,Mi];by_cases X:t.G=6
   .simp only[Ef X,Ak,Au X];by_cases H:i.U=0
    .simp only[Ef H,Ak,Au H];obtain⟨p,p1,p2⟩:=M i.K t.R ω ω (λa F=>by have:=Kl F;have:=J2 t;omega);rw[p1];exact⟨p,rfl,p2⟩
    .simp only[Cu H,Ap,Ar H];exact⟨_,rfl,.inl ⟨rfl,c⟩⟩
   .simp only[Cu X,Ap,Ar X];by_cases V:t.G=7
    .simp only[Ef V,Ak,Au V];by_cases C:0<=i.U
     .by_cases a2:i.U<=6
      .by_cases a3:i.K.length=0
       .rw[As (show i.U>=0 from C),As a2,Au ⟨C,a2,a3⟩,Ef ω];exact⟨_,rfl,.inr ⟨i.U.toNat,rfl,ω⟩⟩
       .rw[As (show i.U>=0 from C),As a2,Ar λh=>a3 h.2.2,Cu ω];exact⟨_,rfl,.inl ⟨rfl,c⟩⟩
      .rw[As (show i.U>=0 from C),Aw a2,Ar λh=>a2 h.2.1];exact⟨_,rfl,.inl ⟨rfl,c⟩⟩
     .rw[Aw (show ¬i.U>=0 from C),Ar λh=>C h.1];exact⟨_,rfl,.inl ⟨rfl,c⟩⟩
    .simp only[Cu V,Ap,Ar V];by_cases Y:t.G=5
     .simp only[Ef Y,Ak,Au Y];by_cases H:i.U=0
      .simp only[G1 H,Ap,Au H];have T:∀(m j w:Nat),j+m=i.K.length->w<=10000000->∃z,Am (S:=(Int×Int)) (E:=(Int⊕Int)) (λ(D,v8)=>
         bif v8<(i.K.length:Int) then ((Ag i.K v8).bind λv9=> (U5 k t v9 b1 b2 data vars L J I).bind λa0=> bif a0<(0:Int) then some (.inr (.inl (-1))) else (bif D>(6:Int) then some (.inr (.inl (-1))) else some (.inl ((Ac (D+a0)),(Ac (v8+1)))))) else some (.inr (.inr D))) ((w:Int),(j:Int))=some z/\Dg (match z with|.inl v=>v | .inr v=>v) ((F1 data (i.K.drop j) t).map (w + ·)):=by
        intro m;induction m with
        | zero=>intro j w hj s;have:j=i.K.length:=ω;subst this;exact⟨.inr (w:Int),Ga ψ,.inr ⟨w,by simp[F1],rfl⟩⟩
        | succ m q=>
         intro j w hj s;have f:i.K[j]? = some i.K[j]:=Bq ω;generalize i.K[j]=e at f;have ab:=Km (Bz f);rw[Jv f,A6b];obtain⟨v,A,K⟩:=a6 e t ω ω ht;rcases K with⟨rfl,K⟩|⟨a,C,rfl⟩
         .refine⟨.inl (-1),Ga ?_,.inl ⟨rfl,λd h=>?_⟩⟩
          .simp only[As (ω:(j:Int)<(i.K.length:Int)),Ak,Br rfl f,Ad,A];rfl
          .obtain⟨a,b,F,hb,rfl⟩:=Ag4 h;have:=K a F;omega
         .have R:=A6c data e t a C;by_cases hb:w>6
          .refine⟨.inl (-1),Ga ?_,.inl ⟨rfl,λd h=>?_⟩⟩
           .simp only[As (ω:(j:Int)<(i.K.length:Int)),Ak,Br rfl f,Ad,A,Aw (ω:¬(a:Int)<0),As (ω:(w:Int)>6),Ap]
           .obtain⟨a,b,F,hb,rfl⟩:=Ag4 h;omega
          .have ew:Ac ((w:Int)+(a:Int))=((w+a:Nat):Int):=ξ;obtain⟨z,g,Q⟩:=q (j+1) (w+a) ω ω;refine⟨z,?_,?_⟩
           .rw[Lm (s':=(((w+a:Nat):Int),((j+1:Nat):Int)))]
            .exact g
            .simp only[As (ω:(j:Int)<(i.K.length:Int)),Ak,Br rfl f,Ad,A,Aw (ω:¬(a:Int)<0),Aw (ω:¬(w:Int)>6),Ap,ew,C6 (show j<i.K.length by omega) ω]
           .have B:∀o:Option Nat,(((some a:Option Nat).bind λa=>o.map (a + ·)).map (w + ·))=o.map (w+a + ·):=(by intro o;cases o <;> simp[Nat.add_assoc]);rw[C,B];exact Q
       obtain⟨z,g,Q⟩:=T i.K.length 0 0 ω ω;have g:Am _ ((0:Int),(0:Int))=some z:=g;rw[g,Ad];rw[drop_zero,B]at Q;cases z with| inl v=>exact⟨v,rfl,Q⟩| inr v=>exact⟨v,rfl,Q⟩
      .simp only[F7 H,Ak,Ar H];exact⟨_,rfl,.inl ⟨rfl,c⟩⟩
     .simp only[Cu Y,Ap,Ar Y];by_cases H:i.U=0
      .simp only[Ef H,Ak];by_cases a3:i.K.length=0
       .rw[Au ⟨H,a3⟩,Ef ω];exact⟨_,rfl,.inr ⟨0,rfl,rfl⟩⟩
       .rw[Ar λh=>a3 h.2,Cu ω];exact⟨_,rfl,.inl ⟨rfl,c⟩⟩
      .simp only[Cu H,Ap];rw[Ar λh=>H h.1];exact⟨_,rfl,.inl ⟨rfl,c⟩⟩
  .intro is ts hk hi ht;have N:=Px is;rw[U4];by_cases hl:ts.length=is.length
   .rw[G1 ω];simp only[Ap];have T:∀(m j w:Nat),j+m=is.length->w<=10000000->∃z,Am (S:=(Int×Int)) (E:=(Int⊕Int)) (λ(v5,U)=>
      bif U<(ts.length:Int) then ((Ag ts U).bind λD=> (Ag is U).bind λv9=> (Sj k D v9 b1 b2 data vars L J I).bind λG=> bif G<(0:Int) then some (.inr (.inl (-1))) else (bif v5>(6:Int) then some (.inr (.inl (-1))) else some (.inl ((Ac (v5+G)),(Ac (U+1)))))) else some (.inr (.inr v5))) ((w:Int),(j:Int))=some z/\Dg (match z with|.inl v=>v | .inr v=>v) ((C4 data (is.drop j) (ts.drop j)).map (w + ·)):=by
     intro m;induction m with
     | zero=>intro j w hj s;have:j=ts.length:=ω;subst this;refine⟨.inr (w:Int),Ga ψ,.inr ⟨w,?_,rfl⟩⟩;rw[drop_of_length_le ω,drop_of_length_le ω];simp[C4]
     | succ m q=>
      intro j w hj s;have f:is[j]? = some is[j]:=Bq ω;generalize is[j]=e at f;have hu:ts[j]? = some ts[j]:=Bq ω;generalize ts[j]=u at hu;have ab:=Km (Bz f);rw[Jv f,Jv hu,Nx];obtain⟨v,A,K⟩:=Z e u ω ω (ht u (Bz hu));rcases K with⟨rfl,K⟩|⟨a,C,rfl⟩
      .refine⟨.inl (-1),Ga ?_,.inl ⟨rfl,λd h=>?_⟩⟩
       .simp only[As (ω:(j:Int)<(ts.length:Int)),Ak,Br rfl f,Br rfl hu,Ad,A];rfl
       .obtain⟨a,b,F,hb,rfl⟩:=Ag4 h;have:=K a F;omega
      .have R:=At6 data e u a C;by_cases hb:w>6
       .refine⟨.inl (-1),Ga ?_,.inl ⟨rfl,λd h=>?_⟩⟩
        .simp only[As (ω:(j:Int)<(ts.length:Int)),Ak,Br rfl f,Br rfl hu,Ad,A,Aw (ω:¬(a:Int)<0),As (ω:(w:Int)>6),Ap]
        .obtain⟨a,b,F,hb,rfl⟩:=Ag4 h;omega
       .have ew:Ac ((w:Int)+(a:Int))=((w+a:Nat):Int):=ξ;obtain⟨z,g,Q⟩:=q (j+1) (w+a) ω ω;refine⟨z,?_,?_⟩
        .rw[Lm (s':=(((w+a:Nat):Int),((j+1:Nat):Int)))]
         .exact g
         .simp only[As (ω:(j:Int)<(ts.length:Int)),Ak,Br rfl f,Br rfl hu,Ad,A,Aw (ω:¬(a:Int)<0),Aw (ω:¬(w:Int)>6),Ap,ew,C6 (show j<is.length by omega) ω]
        .have B:∀o:Option Nat,(((some a:Option Nat).bind λa=>o.map (a + ·)).map (w + ·))=o.map (w+a + ·):=(by intro o;cases o <;> simp[Nat.add_assoc]);rw[C,B];exact Q
    obtain⟨z,g,Q⟩:=T is.length 0 0 ω ω;have g:Am _ ((0:Int),(0:Int))=some z:=g;rw[g,Ad];rw[drop_zero,drop_zero,B]at Q;cases z with| inl v=>exact⟨v,rfl,Q⟩| inr v=>exact⟨v,rfl,Q⟩
   .rw[F7 ω,Al2 data is ts hl];exact⟨_,rfl,.inl ⟨rfl,c⟩⟩
  .intro e t hk f ht;have af:=Ey e;rw[U5];unfold X2 G2;rw[Acg hz t ht e.U,Ad];cases hf:Jp data t e.U with
   | none=>exact⟨-1,rfl,.inl ⟨rfl,c⟩⟩
   | some l=>
    have ac:=Xz hf;obtain⟨x,y,_,hx,_,hy,hl,aa⟩:=Pv hf;obtain⟨y6,_⟩:=hz x (Hg hx).2.2.2 y (Hg hy).2.2.2;have ad:l.length<=6:=(by rw[hl];simpa using y6);have a8:∀a∈Gf l (Eb data t.U e.U),B0 a<=200:=(Agu (show G2 data t e.U=some _ by unfold G2;rw[hf];rfl)).1;obtain⟨v,A,K⟩:=M e.K (Gf l (Eb data t.U e.U)) ω ω a8;have hd:Dg (if v<0 then -1 else 1+v) (((some l).map λl=>Gf l (Eb data t.U e.U)).bind λts=>(C4 data e.K ts).map (1 + ·)):=by
     rw[Option.map_some,Ad];rcases K with⟨rfl,K⟩|⟨a,C,rfl⟩
     .refine .inl ⟨rfl,λd h=>?_⟩;cases F:C4 data e.K (Gf l (Eb data t.U e.U)) with| none=>rw[F]at h;cases h| some a=>rw[F]at h;have:=K a F;simp at h;omega
     .rw[C,Ar ω];exact .inr ⟨1+a,rfl,ω⟩
    have a7:v = -1\/(0<=v/\v<=10000000):=by
     rcases K with⟨rfl,K⟩|⟨a,C,rfl⟩
     .exact .inl rfl
     .have:=Ach data _ _ a C;right;omega
    refine⟨_,?_,hd⟩;simp only[okL,Fz,Ap,Xy data t.U e.U hs,Ad];refine Gd (Eb data t.U e.U) (λj=>((j:Int),Gf (l.take j) ((Eb data t.U e.U).take j))) (by simp[Gf]) ω ?_ ?_
    .intro j b hj hb h1 h2 h3;have F:l[j]? = some l[j]:=Bq ω;generalize l[j]=a at F;have N:=X0 (l.take j) ((Eb data t.U e.U).take j);have:(l.take j).length<=6:=ζ;simp only[h1,h2,h3,Ak,Ad,Br rfl F,Ags F hb];rw[Dl ζ];cases b <;> simp
    .intro h1;refine⟨Gf l (Eb data t.U e.U),?_,?_⟩
     .simp only[h1];rw[Ii ω,Ii (Nat.le_refl _)];rfl
     .rw[A,Ad];rcases a7 with h|h
      .subst h;rfl
      .rw[Aw ω,Ar ω];simp only[Ap];rw[Ac,B4] <;> omega
def D3 (vars:List Af) (res:Af) (v:Int):Option Af:=if v = -1 then some res else Ag vars v
def E4 (data:List Aj) (vars:List Af) (res:Af) (o:List (ByteArray×Int)):Prop:=∀p∈o,∀v i t,p.1=Pz v i->D3 vars res v=some t->p.2=Ju (Dj data i t)
theorem Amb {α:Type}:∀(o:List (ByteArray×α)) (s:ByteArray) (v:α),∀p∈Gy o s v,p∈o\/p=(s,v)
 | [],s,v,p,h=>by simp only[Gy,D5]at h;exact .inr h
 | q::o,s,v,p,h=>by
  unfold Gy at h;cases e:(s==q.1) with
  | true=>
   rw[e]at h;simp only[Ak,Gl]at h;rcases h with h|h
   .exact .inr h
   .exact .inl (by simp[h])
  | false=>
   rw[e]at h;simp only[Ap,Gl]at h;rcases h with h|h
   .exact .inl (by simp[h])
   .rcases Amb o s v p h with h|h
    .exact .inl (by simp[h])
    .exact .inr h
theorem A6e (D:Szv data) (A:M1 data) (b1:List (ByteArray×Int)) (b2:List (ByteArray×List Ax)) (vars:List Af) (res:Af) (f:E4 data vars res b1) (v:Int) (i:Ai) (t:Af) (ht:D3 vars res v=some t) (b:B0 t<=200) (E:Ee v) (B:iR i) (C:Bw i<=1048576) : ∃l,Nq v i b1 b2 data vars res.G res.U res.R=some (Ju (Dj data i t),l)/\E4 data vars res l:=by
 unfold Nq;rw[Ag3 v i E B C,Ad];cases e:Fd b1 (Pz v i) with
 | true=>refine⟨b1,?_,f⟩;have:Iv b1 (Pz v i) 0=Ju (Dj data i t):=(by unfold Iv;unfold Fd at e;rw[any_eq_true]at e;obtain⟨p,z,y⟩:=e;cases m:b1.find? (λp=>Pz v i==p.1) with| none=>exact absurd y (by have:=find?_eq_none.1 m p z;simpa using this)| some q=>have F:=find?_some m;exact f q (mem_of_find?_eq_some m) v i t ((Nw _ _).1 F).symm ht);simp only[Ak,Ad,Fz,Ap,this]
 | false=>
  obtain⟨w,u,s⟩:=(A6d D A b1 b2 vars res.G res.U res.R 4000000).1 i t ω C b;have c:Ln v b1 b2 data vars res.G res.U res.R=some t:=by
   unfold Ln;unfold D3 at ht;by_cases h:v = -1
   .rw[Au h]at ht;cases ht;have G:(Af.mk res.G res.U res.R)=res:=(by cases res;rfl);rw[Ef h,G];rfl
   .rw[Ar h]at ht;rw[Cu h,ht];rfl
  have g:(bif decide (w>6) then some (-1) else some w:Option Int)=some (Ju (Dj data i t)):=by
   rw[<-s.clip];by_cases h:w>6
   .rw[As h,Au h];rfl
   .rw[Aw h,Ar h];rfl
  refine⟨Gy b1 (Pz v i) (Ju (Dj data i t)),?_,?_⟩
  .simp only[Ap,Ad,Bool.not_false,Ak,c,u,g]
  .intro p hp x i' t' k j;rcases Amb _ _ _ p hp with h|h
   .exact f p h x i' t' k j
   .subst h;obtain⟨rfl,rfl⟩:=A59 k;rw[ht]at j;cases j;rfl
def Gg (a b:Int):Int:=if a<b then -1 else if a>b then 1 else 0
def orI (a b:Int):Int:=if a=0 then b else a
theorem Kz {a b:Int}:Gg a b=0↔a=b:=by unfold Gg;split <;> (try split) <;> omega
theorem P1 (a b:Int):Mv a b=some (Gg a b):=by
 unfold Mv Uv Gg;simp only[Ad,bne_self_eq_false,Ap];by_cases h:a<b
 .rw[As h,Au h];rfl
 .rw[Aw h,Ar h];by_cases e:a>b
  .rw[As e,Au e];rfl
  .rw[Aw e,Ar e];rfl
theorem At8 (a b:Int):Aa0 a b=some (Gg a b):=P1 a b
theorem X3 (a b:Int):Pk [a,b]=some (orI a b):=by
 unfold Pk orI;by_cases e:a=0
 .rw[Au e];by_cases hb:b=0
  .refine Jn 2 (λj=>(j:Int)) rfl ?_ ⟨.inr (),rfl,by rw[hb]⟩;intro j i
   match j,i with| 0,_=>subst e;rfl| 1,_=>subst hb;rfl
  .refine Jn 1 (λj=>(j:Int)) rfl ?_ ⟨.inl b,?_,rfl⟩
   .intro j i
    match j,i with| 0,_=>subst e;rfl
   .show (bif (b != 0) then _ else _)=_;rw[F7 hb];rfl
 .rw[Ar e];refine Jn 0 (λj=>(j:Int)) rfl (λj i=>ω) ⟨.inl a,?_,rfl⟩;show (bif (a != 0) then _ else _)=_;rw[F7 e];rfl
def G3 {α:Type} (g:α->α->Int):List α->List α->Int
 | x::xs,y::e=>orI (g x y) (G3 g xs e)
 | _,_=>0
theorem A6f (g:α->α->Int) (l m:List α) {step:Int->Option (Int⊕(Int⊕Unit))} (i:l.length=m.length) (hb:l.length<4611686018427387904) (c:∀(j:Nat) (x y:α),l[j]? = some x->m[j]? = some y->decide ((j:Int)<(l.length:Int))=true->Ag l (j:Int)=some x->Ag m (j:Int)=some y->decide ((j:Int)>=(m.length:Int))=false->Ac ((j:Int)+1)=((j+1:Nat):Int) -> step (j:Int)=if g x y=0 then some (.inl ((j+1:Nat):Int)) else some (.inr (.inl (g x y)))) (f:decide ((l.length:Int)<(l.length:Int))=false->step (l.length:Int)=some (.inr (.inr ()))) : ∃z,Am step 0=some z/\(match z with|.inl r=>r=G3 g l m/\r≠0 | .inr _=>G3 g l m=0):=by
 have A:∀(n j:Nat),j+n=l.length->∃z,Am step (j:Int)=some z/\(match z with|.inl r=>r=G3 g (l.drop j) (m.drop j)/\r≠0 | .inr _=>G3 g (l.drop j) (m.drop j)=0):=by
  intro n;induction n with
  | zero=>intro j C;have:j=l.length:=ω;subst this;refine⟨.inr (),Ga (f ψ),?_⟩;rw[drop_of_length_le ω];simp[G3]
  | succ n ih=>
   intro j C;have v:l[j]? = some l[j]:=Bq ω;have w:m[j]? = some m[j]:=Bq ω;generalize l[j]=x at v;generalize m[j]=y at w;have h:=c j x y v w (As ω) (Br rfl v) (Br rfl w) (Aw ω) (C6 (show j<l.length by omega) hb);rw[Jv v,Jv w];by_cases p:g x y=0
   .rw[Au p]at h;obtain⟨z,b,B⟩:=ih (j+1) ω;refine⟨z,by rw[Lm h];exact b,?_⟩;have e:G3 g (x::l.drop (j+1)) (y::m.drop (j+1))=G3 g (l.drop (j+1)) (m.drop (j+1)):=(by simp only[G3,orI,p,if_true]);cases z with| inl r=>simp only[e];exact B| inr u=>simp only[e];exact B
   .rw[Ar p]at h;refine⟨.inl (g x y),Ga h,?_,p⟩;simp only[G3,orI,p,if_false]
 exact A l.length 0 ω
theorem Ag5 (f:α->α->Option Int) (g:α->α->Int) (l m:List α) (k:l.length=m.length) (hb:l.length<4611686018427387904) (w:∀(j:Nat) (x y:α),l[j]? = some x->m[j]? = some y->f x y=some (g x y)) : ((Am (S:=Int) (E:=(Int⊕Unit)) (λb=> bif b<(l.length:Int) then ((Ag l b).bind λi=> bif b>=(m.length:Int) then some (.inr (.inl 1)) else ((Ag m b).bind λA=> (f i A).bind λe=> bif (e != (0:Int)) then some (.inr (.inl e)) else some (.inl (Ac (b+1))))) else some (.inr (.inr ()))) 0).bind λz=> match z with
   | .inl c=>some c
   | .inr _=>bif (l.length:Int)<(m.length:Int) then some (-1) else some 0)=some (G3 g l m):=by
 refine Ata (A6f g l m k hb ?_ (λh=>by simp only[h];rfl)) ?_
 .intro j x y B C D F G H q;simp only[D,F,G,H,q,Ak,Ap,Ad,w j x y B C];by_cases p:g x y=0
  .rw[G1 p,Au p];rfl
  .rw[F7 p,Ar p];rfl
 .rintro (r|u) v
  .rw[v.1]
  .simp only;rw[Aw ω,show G3 g l m=0 from v];rfl
def Aci (x y:Bt):Int:=orI (Gg x.v y.v) (Gg x.C y.C)
def Ir (a b:Bg):Int:=if a.T.length=b.T.length then orI (G3 Aci a.T b.T) (Gg a.Q b.Q) else Gg a.T.length b.T.length
theorem Ag6 (a b:Bg) (i:a.T.length<1099511627776):Ol a b=some (Ir a b):=by
 unfold Ol Ir;rw[P1,Ad];by_cases h:a.T.length=b.T.length
 .rw[G1 (Kz.2 ω),Au h];simp only[Ap];have:=Ag5 Aaz Aci a.T b.T h ω (λj x y _ _=>by unfold Aaz Aci;rw[P1,At8];simp only[Ad,X3]);rw[show Afo a.T b.T=_ from this,Ad,At8];simp only[Ad,X3]
 .rw[F7 λe=>h (by have:=Kz.1 e;omega),Ar h];rfl
mutual
def Hh:Ai->Ai->Int
 | ⟨n,k⟩,j=>if n=j.U then (if k.length=j.K.length then Vl k j.K else Gg k.length j.K.length) else Gg n j.U
def Vl:List Ai->List Ai->Int
 | x::xs,y::e=>orI (Hh x y) (Vl xs e)
 | [],_=>0
 | _::_,[]=>0
end
theorem At9 (i j:Ai):Hh i j=if i.U=j.U then (if i.K.length=j.K.length then Vl i.K j.K else Gg i.K.length j.K.length) else Gg i.U j.U:=by cases i;simp only[Hh]
theorem Amc:∀l m:List Ai,Vl l m=G3 Hh l m
 | x::xs,y::e=>by simp only[Vl,G3,Amc xs e]
 | [],_=>by simp[Vl,G3]
 | _::_,[]=>by simp[Vl,G3]
theorem Aua:∀(n k:Nat) (i j:Ai),Bw i<=n->2*n<=k->n<1099511627776->Qq k i j=some (Hh i j):=by
 intro n;induction n with
 | zero=>intro k i j h;have:=Ey i;omega
 | succ n ih=>
  intro k i j h w c;obtain⟨k,rfl⟩:∃b,k=b+2:=⟨k-2,ω⟩;have A:=Ey i;have f:=Px i.K;rw[Qq,At9,P1,P1];simp only[Ad,X3];by_cases m:i.U=j.U
  .rw[Au m];by_cases p:i.K.length=j.K.length
   .rw[Au p,G1 (by unfold orI;rw[Kz.2 m,Kz.2 ω];rfl),Amc];simp only[Ap];have:=Ag5 (Qq k) Hh i.K j.K p ω λq x y v B=>ih k x y (by have:=Km (Bz v);omega) ω ω;rw[Aba];refine Eq.trans (congrArg (λq=>Option.bind q _) this) rfl
   .have e:orI (Gg i.U j.U) (Gg (i.K.length:Int) (j.K.length:Int))=Gg i.K.length j.K.length:=(by unfold orI;rw[Kz.2 m];rfl);rw[Ar p,e,F7 λe=>p (by have:=Kz.1 e;omega)];rfl
  .have e:orI (Gg i.U j.U) (Gg (i.K.length:Int) (j.K.length:Int))=Gg i.U j.U:=(by unfold orI;rw[Ar λe=>m (Kz.1 e)]);rw[Ar m,e,F7 λe=>m (Kz.1 e)];rfl
def X4 (x y:Bi):Int:=orI (Gg x.v y.v) (Hh x.I y.I)
def Acj (x y:Bh):Int:=orI (Ir x.L y.L) (Gg x.P y.P)
def Fg (a b:A7):Int := if a.F.length=b.F.length then orI (G3 X4 a.F b.F) (if a.A.length=b.A.length then G3 Acj a.A b.A else Gg a.A.length b.A.length) else Gg a.F.length b.F.length
structure MSz (m:A7):Prop where
 nf:m.F.length<=1048576
 na:m.A.length<=1048576
 fi:∀f∈m.F,Bw f.I<=1048576
 fr:∀f∈m.F,iR f.I/\Ee f.v
 al:∀a∈m.A,a.L.T.length<=1048576
theorem Aub (a b:A7) (i:MSz a):Sb a b=some (Fg a b):=by
 have A:=i.nf;have B:=i.na;unfold Sb Fg;rw[P1,Ad];by_cases h:a.F.length=b.F.length
 .rw[G1 (Kz.2 ω),Au h];simp only[Ap];have:=Ag5 Aax X4 a.F b.F h ω (λj x y p w=>by unfold Aax X4;rw[P1,Aua 1048576 4000000 x.I y.I (i.fi x (Bz p)) ω ω];simp only[Ad,X3]);rw[show Afi a.F b.F=_ from this,Ad,P1];simp only[Ad,X3];by_cases v:G3 X4 a.F b.F=0
  .simp only[v,orI,if_true];by_cases m:a.A.length=b.A.length
   .rw[G1 (Kz.2 ω),Au m];simp only[Ap];have:=Ag5 Aay Acj a.A b.A m ω (λj x y p w=>by unfold Aay Acj;rw[P1,Ag6 x.L y.L (by have:=i.al x (Bz p);omega)];simp only[Ad,X3]);rw[show Afj a.A b.A=_ from this];rfl
   .rw[F7 λe=>m (by have:=Kz.1 e;omega),Ar m];rfl
  .simp only[orI,Ar v];rw[F7 v];rfl
 .rw[F7 λe=>h (by have:=Kz.1 e;omega),Ar h];rfl
def Ly {α:Type} (f:α->Int) (l:List α) (x:α) (j:Nat):Bool:=j==0||(match l[j-1]? with|some y=>decide (f y<f x) | none=>false)
def P3 (l:List Bt) (x:Bt) (j:Nat):Bool:=decide (-1<=x.v/\x.v<3000/\x.C≠0/\-1048576<=x.C/\x.C<=1048576)&&Ly (·.v) l x j
def D0 (a:Bg):Bool:=decide (-1048576<=a.Q/\a.Q<=1048576/\a.T.length<=16)&&a.T.zipIdx.all (λq=>P3 a.T q.1 q.2)
theorem Auc (n:Int):Wy n=some (decide (-1048576<=n/\n<=1048576)):=by unfold Wy;by_cases h:(-1048576:Int)<=n <;> simp[h]
theorem A6g (n:Int):Aaa n=some (decide (-1<=n/\n<3000)):=by unfold Aaa;by_cases h:(-1:Int)<=n <;> simp[h]
theorem Amd {α S E:Type} (f:α->Int) (l:List α) {x:α} {j:Nat} (v:l[j]? = some x) (i:l.length<4611686018427387904) (c b:Option (S⊕E)) : (bif decide ((j:Int)>0) then ((Ag l (Ac ((j:Int)-1))).bind λg=>bif decide (f g>=f x) then c else b) else b)=bif Ly f l x j then b else c:=by
 have A:=Ek v;unfold Ly;by_cases h:j=0
 .subst h;rfl
 .rw[As ω];have e:Ac ((j:Int)-1)=((j-1:Nat):Int):=ξ;have m:l[j-1]? = some l[j-1]:=Bq ω;rw[e,Br rfl m,m];have w:(j==0)=false:=(by simpa using h);simp only[Ak,Ad,w,Bool.false_or];by_cases p:f l[j-1]<f x
  .rw[Aw ω,As p];rfl
  .rw[As ω,Aw p];rfl
theorem X5 (a:Bg):Nk a=some (D0 a):=by
 unfold Nk D0;rw[Auc];simp only[Ad];by_cases e : -1048576<=a.Q/\a.Q<=1048576
 .rw[As e];by_cases v:a.T.length<=16
  .rw[Aw (ω:¬(a.T.length:Int)>16),As ⟨e.1,e.2,v⟩];simp only[Fz,Ap,Ad,Bool.true_and];refine (Xw a.T (λq=>P3 a.T q.1 q.2) (λj=>(j:Int)) rfl ω (rt:=true) (rf:=false) ?_ ?_).trans (by rw[Ab7])
   .intro j x w _ e v A;simp only[e,v,A,Ak,Ad,A6g,Auc,Amd (·.v) a.T w ω,P3];by_cases i : -1<=x.v/\x.v<3000
    .by_cases m:x.C=0
     .rw[As i,Ef m,Aw λh=>h.2.2.1 m];exact⟨nofun,λ_=>⟨.inl false,rfl,rfl⟩⟩
     .by_cases p : -1048576<=x.C/\x.C<=1048576
      .rw[As i,Cu m,As p,As ⟨i.1,i.2,m,p.1,p.2⟩];cases Ly (·.v) a.T x j with| true=>exact⟨λ_=>rfl,λh=>by cases h⟩| false=>exact⟨nofun,λ_=>⟨.inl false,rfl,rfl⟩⟩
      .rw[As i,Cu m,Aw p,Aw λh=>p h.2.2.2];exact⟨nofun,λ_=>⟨.inl false,rfl,rfl⟩⟩
    .rw[Aw i,Aw λh=>i ⟨h.1,h.2.1⟩];exact⟨nofun,λ_=>⟨.inl false,rfl,rfl⟩⟩
   .intro h _;exact⟨.inr (),by simp only[h];rfl,rfl⟩
  .rw[As (ω:(a.T.length:Int)>16),Aw λh=>v h.2.2];rfl
 .rw[Aw e,Aw λh : -1048576<=a.Q/\a.Q<=1048576/\a.T.length<=16=>e ⟨h.1,h.2.1⟩];rfl
theorem A6h (a:Bg):Z2 a=some (D0 a):=by
 unfold Z2 D0;by_cases p:a.T.length<=16
 .rw[Aw (ω:¬(a.T.length:Int)>16)];by_cases v : -1048576<=a.Q
  .rw[Aw (ω:¬a.Q < -1048576)];by_cases w:a.Q<=1048576
   .rw[Aw (ω:¬a.Q>1048576),As ⟨v,w,p⟩];simp only[Ap,Ad,Bool.true_and];refine (Xw a.T (λq=>P3 a.T q.1 q.2) (λj=>(j:Int)) rfl ω (rt:=true) (rf:=false) ?_ ?_).trans (by rw[Ab7])
    .intro j x C _ v p w;simp only[v,p,w,Ak,Ad,Amd (·.v) a.T C ω,P3];by_cases e:x.v < -1
     .rw[As e,Aw λh=>ω];exact⟨nofun,λ_=>⟨.inl false,rfl,rfl⟩⟩
     by_cases i:x.v>=3000
     .rw[Aw e,As i,Aw λh=>ω];exact⟨nofun,λ_=>⟨.inl false,rfl,rfl⟩⟩
     by_cases m:x.C=0
     .rw[Aw e,Aw i,Ef m,Aw λh=>ω];exact⟨nofun,λ_=>⟨.inl false,rfl,rfl⟩⟩
     by_cases A:x.C < -1048576
     .rw[Aw e,Aw i,Cu m,As A,Aw λh=>ω];exact⟨nofun,λ_=>⟨.inl false,rfl,rfl⟩⟩
     by_cases B:x.C>1048576
     .rw[Aw e,Aw i,Cu m,Aw A,As B,Aw λh=>ω];exact⟨nofun,λ_=>⟨.inl false,rfl,rfl⟩⟩
     rw[Aw e,Aw i,Cu m,Aw A,Aw B,As ω];cases Ly (·.v) a.T x j with| true=>exact⟨λ_=>rfl,λh=>by cases h⟩| false=>exact⟨nofun,λ_=>⟨.inl false,rfl,rfl⟩⟩
    .intro h _;exact⟨.inr (),by simp only[h];rfl,rfl⟩
   .rw[As (ω:a.Q>1048576),Aw λh : -1048576<=a.Q/\a.Q<=1048576/\a.T.length<=16=>ω];rfl
  .rw[As (ω:a.Q < -1048576),Aw λh : -1048576<=a.Q/\a.Q<=1048576/\a.T.length<=16=>ω];rfl
 .rw[As (ω:(a.T.length:Int)>16),Aw λh : -1048576<=a.Q/\a.Q<=1048576/\a.T.length<=16=>ω];rfl
structure Ox (data:List Aj) (vars:List Af) (res:Af):Prop where
 vd:H9 data
 sh:M1 data
 sz:∀v t,D3 vars res v=some t->B0 t<=200
 nv:vars.length<=3000
theorem Ame (vars:List Af) (res:Af) (v:Int):(D3 vars res v).isSome=decide (-1<=v/\v<vars.length):=by
 unfold D3;by_cases h:v = -1
 .rw[Au h];subst h;rw[As ω];rfl
 .rw[Ar h];cases e:Ag vars v with
  | none=>rcases Ab9 e with i|i <;> rw[Aw ω] <;> rfl
  | some t=>have:=Hg e;rw[As ω];rfl
section
variable (b1:List (ByteArray×Int)) (b2:List (ByteArray×List Ax)) (data:List Aj) (vars:List Af) (res:Af)
theorem Amf (v:Int) (f c:Int) (b:List Af):Rz v b1 b2 data vars f c b=some (D3 vars res v).isSome:=by
 rw[Ame];unfold Rz;by_cases h:v>=-1
 .rw[As h];by_cases e:v<(vars.length:Int)
  .rw[As e,As ⟨h,e⟩];rfl
  .rw[Aw e,Aw λg=>e g.2];rfl
 .rw[Aw h,Aw λg : -1<=v/\v<(vars.length:Int)=>h g.1];rfl
theorem Ack {v:Int} {t:Af} (ht:D3 vars res v=some t):Ln v b1 b2 data vars res.G res.U res.R=some t:=by
 unfold Ln;unfold D3 at ht;by_cases h:v = -1
 .rw[Au h]at ht;cases ht;have e:(Af.mk res.G res.U res.R)=res:=(by cases res;rfl);rw[Ef h,e];rfl
 .rw[Ar h]at ht;rw[Cu h,ht];rfl
def P4 (t:Bt):Bool:=match D3 vars res t.v with|some u=>u.G==1|none=>false
def I3 (l:Bg):Bool:=l.T.all (P4 vars res)
theorem Aud (l:Bg) (c:l.T.length<=1048576):R0 l b1 b2 data vars res.G res.U res.R=some (I3 vars res l):=by
 unfold R0 Afa Afc;have p:=Alt l.T (λt=>!P4 vars res t) ω (J:=λz=>match z with|.inl b=>some b | .inr _=>some (-1)) (step:=λm=>bif m<(l.T.length:Int) then ((Ag l.T m).bind λv=>(Wz v b1 b2 data vars res.G res.U res.R).bind λw=>bif w then some (.inr (.inl m)) else some (.inl (Ac (m+1)))) else some (.inr (.inr ()))) (by intro j x G A B C;have e:Wz x b1 b2 data vars res.G res.U res.R=some (!P4 vars res x):=(by unfold Wz P4;rw[Amf b1 b2 data vars res,Ad];cases D:D3 vars res x.v with| none=>rfl| some t=>rw[Ack b1 b2 data vars res D];rfl);simp only[A,B,C,Ak,Ad,e]) (λh=>by simp only[h];rfl) (λ_=>rfl) rfl
 obtain⟨i,E,F⟩:=p
 erw[E];simp only[Ad,F];congr 1;unfold I3;rw[any_eq_not_all_not];simp
def Eg (f:Bi):Int:=match D3 vars res f.v with|some t=>Ju (Dj data f.I t) | none => -1
theorem A6i (f:Bi) : -1<=Eg data vars res f/\Eg data vars res f<=6:=by
 unfold Eg;cases D3 vars res f.v with
 | none=>simp
 | some t=>rcases Al4 (Dj data f.I t) with⟨h,_⟩|⟨d,_,e,h⟩ <;> simp only[h] <;> omega
def Q6 (m:A7):Bool:=m.F.all (λf=>decide (0<=Eg data vars res f))&&m.A.all (λa=>decide (0<=a.P)&&I3 vars res a.L)
def Cx (l:List Bi):Int:=(l.map (Eg data vars res)).sum
def Eo (l:List Bh):Int:=(l.map (·.P)).sum
def Q7 (l:List Bh) (x:Bh) (j:Nat):Bool:=j==0||(match l[j-1]? with|some y=>decide (Ir y.L x.L<0) | none=>false)
def P5 (l:List Bi) (f:Bi) (j:Nat):Bool:=decide (1<=Eg data vars res f)&&Ly (·.v) l f j
def Ny (l:List Bh) (a:Bh) (j:Nat):Bool:=decide (1<=a.P)&&D0 a.L && !(a.L.T.length==0)&&I3 vars res a.L&&Q7 l a j
def Jw (m:A7):Bool:=m.F.zipIdx.all (λq=>P5 data vars res m.F q.1 q.2)&&m.A.zipIdx.all (λq=>Ny vars res m.A q.1 q.2)&&decide (Cx data vars res m.F+Eo m.A<=6)
variable {b1 data vars res}
theorem Ag7 (i:Ox data vars res) (h:E4 data vars res b1) (f:Bi) (m:Ee f.v) (g:iR f.I) (p:Bw f.I<=1048576) (b:(D3 vars res f.v).isSome=true) : ∃c,Nq f.v f.I b1 b2 data vars res.G res.U res.R=some (Eg data vars res f,c)/\E4 data vars res c:=by cases e:D3 vars res f.v with| none=>rw[e]at b;cases b| some t=>obtain⟨c,v,w⟩:=A6e i.vd.szv i.sh b1 b2 vars res h f.v f.I t e (i.sz _ _ e) m g p;refine⟨c,?_,w⟩;rw[v];unfold Eg;rw[e]
theorem A6j (hc:Ox data vars res) (N:E4 data vars res b1) (m:A7) (F:MSz m) :
  ∃k,Aav m b1 b2 data vars res.G res.U res.R=some (Q6 data vars res m,k)/\E4 data vars res k:=by
 have hf:=F.nf
 have ha:=F.na
 unfold Aav
 refine Ab2 (λk=>(Q6 data vars res m,k)) ?_
 obtain⟨r,L,I⟩:=Alu (M:=List (ByteArray×Int)) (R:=Bool×List (ByteArray×Int)) m.F (λq=>decide (0<=Eg data vars res q.1)) (λj o=>((j:Int),o)) (E4 data vars res)
  (λr=>E4 data vars res r.2/\r.1=m.A.all λa=>decide (0<=a.P)&&I3 vars res a.L) (λr=>E4 data vars res r.2/\r.1=false) b1
  (s0:=((0:Int),b1))
  (step:=(λ(x,s)=>
   bif x<(m.F.length:Int) then (
   (Ag m.F x).bind λK=>
   (Rz K.v s b2 data vars res.G res.U res.R).bind λy=>
   bif (!y) then some (.inr (.inl (false,s)))
   else (
   (Nq K.v K.I s b2 data vars res.G res.U res.R).bind λC=>
   bif C.1<(0:Int) then some (.inr (.inl (false,C.2)))
   else some (.inl ((Ac (x+1)),C.2))))
   else some (.inr (.inr s)):Int×List (ByteArray×Int)->Option ((Int×List (ByteArray×Int))⊕((Bool×List (ByteArray×Int))⊕List (ByteArray×Int)))))
  (J:=(λz=>match z with
   | .inl (G,D)=>some (G,D)
   | .inr b=>(Am (S:=Int) (E:=((Bool×List (ByteArray×Int))⊕Unit)) (λc=>
     bif c<(m.A.length:Int) then (
     (Ag m.A c).bind λl=>
     bif l.P<(0:Int) then some (.inr (.inl (false,b)))
     else (
     (R0 l.L b b2 data vars res.G res.U res.R).bind λQ=>
     bif (!Q) then some (.inr (.inl (false,b)))
     else some (.inl (Ac (c+1)))))
     else some (.inr (.inr ()))) 0).bind λz=>match z with
      | .inl (B,A)=>some (B,A)
      | .inr _=>some (true,b)))
  rfl N ω (by
   intro j f o u T _ p w v
   have i:=Bz T
   simp only[p,w,v,Ak,Ad,Amf o b2 data vars res]
   cases g:(D3 vars res f.v).isSome with
   | false=>
    have e:Eg data vars res f = -1:=by
     unfold Eg
     cases ht:D3 vars res f.v with
     | none=>rfl
     | some t=>rw[ht]at g;cases g
    rw[e]
    exact⟨nofun,λ_=>⟨_,rfl,_,rfl,u,rfl⟩⟩
   | true=>
    obtain⟨k,d1,d2⟩:=Ag7 b2 hc u f (F.fr f i).2 (F.fr f i).1 (F.fi f i) g
    simp only[Fz,Ap,d1,Ad]
    by_cases H:0<=Eg data vars res f
    .rw[As H,Aw ω]
     exact⟨λ_=>⟨k,rfl,d2⟩,λh=>by cases h⟩
    .rw[Aw H,As ω]
     exact⟨nofun,λ_=>⟨_,rfl,_,rfl,d2,rfl⟩⟩) (by
   intro o u p _
   refine⟨.inr o,by simp only[p];rfl,?_⟩
   refine⟨(m.A.all λa=>decide (0<=a.P)&&I3 vars res a.L,o),?_,u,rfl⟩
   refine (Ab6 m.A (λa=>decide (0<=a.P)&&I3 vars res a.L) (λj=>(j:Int)) rfl ω (rt:=(true,o)) (rf:=(false,o)) ?_ ?_).trans (by cases m.A.all (λa=>decide (0<=a.P)&&I3 vars res a.L) <;> rfl)
   .intro j a T p w v
    simp only[p,w,v,Ak,Ad,Aud o b2 data vars res a.L (F.al a (Bz T))]
    by_cases H:0<=a.P
    .rw[As H,Aw ω]
     cases I3 vars res a.L with
     | true=>exact⟨λ_=>rfl,λh=>by cases h⟩
     | false=>exact⟨nofun,λ_=>⟨_,rfl,rfl⟩⟩
    .rw[Aw H,As ω]
     exact⟨nofun,λ_=>⟨_,rfl,rfl⟩⟩
   .intro h;exact⟨.inr (),by simp only[h];rfl,rfl⟩)
 refine⟨r,L,r.2,?_,?_⟩
 .unfold Q6
  rw[<-Agl]
  rcases I with⟨p,w,v⟩|⟨p,w,v⟩
  .rw[p,Bool.true_and,<-v]
  .rw[p,Bool.false_and,<-v]
 .rcases I with⟨p,w,v⟩|⟨p,w,v⟩ <;> exact w
theorem A6k (g:Bi->Int) {l:List Bi} {j:Nat} {x:Bi} (h:l[j]? = some x):((l.take (j+1)).map g).sum=((l.take j).map g).sum+g x:=by rw[Cz h];simp
theorem A6l {l:List Bh} {j:Nat} {x:Bh} (h:l[j]? = some x):Eo (l.take (j+1))=Eo (l.take j)+x.P:=by unfold Eo;rw[Cz h];simp
theorem A6m (I:Ox data vars res) (y:E4 data vars res b1) (m:A7) (E:MSz m) (hp:Q6 data vars res m=true) : ∃p:Int×List (ByteArray×Int),Aaw m b1 b2 data vars res.G res.U res.R=some p/\(decide (p.1>6) = !decide (Cx data vars res m.F+Eo m.A<=6))/\E4 data vars res p.2:=by
 have M:=E.nf;have Q:=E.na;unfold Q6 at hp;rw[Cv,Gt,Gt]at hp;unfold Aaw;refine Ej (λ(e,q,g)=>∃j:Nat,q=j/\j<=m.F.length/\E4 data vars res g/\0<=e/\e<=12/\(e=Cx data vars res (m.F.take j)\/(6<e/\6<Cx data vars res (m.F.take j)))) (λ(_,q,_)=>m.F.length-q.toNat) (λ(e,g)=>E4 data vars res g/\0<=e/\e<=12/\(e=Cx data vars res m.F\/(6<e/\6<Cx data vars res m.F))) ⟨0,rfl,ω,y,ω,ω,.inl (by simp[Cx])⟩ ?_ ?_
 .rintro⟨e,q,g⟩ ⟨j,rfl,J,k,G,B,F⟩;rcases Cf j m.F.length with h|h
  .have w:m.F[j]? = some m.F[j]:=Bq h;generalize m.F[j]=f at w;have c:=Bz w;have C:=hp.1 f c;rw[Dk]at C;have z:=(A6i data vars res f).2;have D:Cx data vars res (m.F.take (j+1))=Cx data vars res (m.F.take j)+Eg data vars res f:=A6k _ w;simp only[As (ω:(j:Int)<(m.F.length:Int)),Ak,Br rfl w,Ad,C6 h ω];by_cases l:e<=6
   .have s:(D3 vars res f.v).isSome=true:=by
     unfold Eg at C;cases K:D3 vars res f.v with
     | none=>rw[K]at C;have C:(0:Int)<=-1:=C;omega
     | some t=>rfl
    obtain⟨A,d1,d2⟩:=Ag7 b2 I k f (E.fr f c).2 (E.fr f c).1 (E.fi f c) s;rw[As l];simp only[Ak,d1,Ad];have b:Ac (e+Eg data vars res f)=e+Eg data vars res f:=ξ;exact .inl ⟨_,rfl,⟨j+1,rfl,ω,d2,by simp only[b];omega,by simp only[b];omega,by simp only[b,D];omega⟩,ζ⟩
   .rw[Aw l];exact .inl ⟨_,rfl,⟨j+1,rfl,ω,k,G,B,by simp only[D];omega⟩,ζ⟩
  .have:j=m.F.length:=ω;subst this;rw[Db]at F;exact .inr ⟨(e,g),ψ,k,G,B,F⟩
 .rintro⟨e,g⟩ ⟨k,G,B,F⟩;simp only;refine Ej (λ(v,i)=>∃j:Nat,i=j/\j<=m.A.length/\0<=v/\v<=13/\(v=Cx data vars res m.F+Eo (m.A.take j)\/(6<v/\6<Cx data vars res m.F+Eo (m.A.take j)))) (λ(_,i)=>m.A.length-i.toNat) (λv=>(v=Cx data vars res m.F+Eo m.A\/(6<v/\6<Cx data vars res m.F+Eo m.A))) ⟨0,rfl,ω,G,ω,by simpa[Eo] using F⟩ ?_ ?_
  .rintro⟨v,i⟩ ⟨j,rfl,J,L,H,x⟩;rcases Cf j m.A.length with h|h
   .have w:m.A[j]? = some m.A[j]:=Bq h;generalize m.A[j]=a at w;have C:=hp.2 a (Bz w);rw[Cv,Dk]at C;have D:=A6l w;simp only[As (ω:(j:Int)<(m.A.length:Int)),Ak,Br rfl w,Ad,C6 h ω];by_cases l:v<=6
    .rw[As l];simp only[Ak];by_cases u:7<a.P
     .rw[Au u];have b:Ac (v+7)=v+7:=ξ;exact .inl ⟨_,rfl,⟨j+1,rfl,ω,by simp only[b];omega,by simp only[b];omega,by simp only[b,D];omega⟩,ζ⟩
     .rw[Ar u];have b:Ac (v+a.P)=v+a.P:=ξ;exact .inl ⟨_,rfl,⟨j+1,rfl,ω,by simp only[b];omega,by simp only[b];omega,by simp only[b,D];omega⟩,ζ⟩
    .rw[Aw l];exact .inl ⟨_,rfl,⟨j+1,rfl,ω,L,H,by simp only[D];omega⟩,ζ⟩
   .have:j=m.A.length:=ω;subst this;rw[Db]at x;exact .inr ⟨v,ψ,x⟩
  .intro v F;refine⟨(v,g),rfl,?_,k⟩;by_cases h:Cx data vars res m.F+Eo m.A<=6
   .rw[As h,Aw (by simp only;omega)];rfl
   .rw[Aw h,As (by simp only;omega)];rfl
end
theorem A6n {S E:Type} (F:Bg->Bg->Option Int) (l:List Bh) (g:∀y∈l,∀x,F y.L x=some (Ir y.L x)) {x:Bh} {j:Nat} (w:l[j]? = some x) (i:l.length<4611686018427387904) (c b:Option (S⊕E)) : (bif decide ((j:Int)>0) then ((Ag l (Ac ((j:Int)-1))).bind λf=>(F f.L x.L).bind λm=>bif decide (m>=0) then c else b) else b)=bif Q7 l x j then b else c:=by
 have B:=Ek w;unfold Q7;by_cases h:j=0
 .subst h;rfl
 .rw[As ω];have e:Ac ((j:Int)-1)=((j-1:Nat):Int):=ξ;have p:l[j-1]? = some l[j-1]:=Bq ω;rw[e,Br rfl p,p];have A:(j==0)=false:=(by simpa using h);simp only[Ak,Ad,A,Bool.false_or,g _ (getElem_mem (ω:j-1<l.length))];by_cases v:Ir l[j-1].L x.L<0
  .rw[Aw ω,As v];rfl
  .rw[As ω,Aw v];rfl
section
variable {b1:List (ByteArray×Int)} (b2:List (ByteArray×List Ax)) {data:List Aj} {vars:List Af} {res:Af}
def Acl (data:List Aj) (vars:List Af) (res:Af) (l:List Bi) (f:Bi) (j:Nat):Bool:=!(Eg data vars res f==0)&&Ly (·.v) l f j
def S0 (l:List Bh) (a:Bh) (j:Nat):Bool:=!(a.P==0)&&D0 a.L && !(a.L.T.length==0)&&Q7 l a j
theorem A6o (m:A7):Jw data vars res m=(Q6 data vars res m&&decide (Cx data vars res m.F+Eo m.A<=6)&&m.F.zipIdx.all (λq=>Acl data vars res m.F q.1 q.2)&&m.A.zipIdx.all λq=>S0 m.A q.1 q.2):=by
 rw[Bool.eq_iff_iff];unfold Jw Q6;rw[<-Agl m.F λf=>decide (0<=Eg data vars res f),<-Agl m.A λa=>decide (0<=a.P)&&I3 vars res a.L];simp only[Cv,Gt,P5,Ny,Acl,S0,Dk,Bool.not_eq_true',beq_eq_false_iff_ne,ne_eq];constructor
 .rintro⟨⟨i,p⟩,v⟩;refine⟨⟨⟨⟨λq e=>?_,λq e=>?_⟩,v⟩,λq e=>?_⟩,λq e=>?_⟩
  .have:=(i q e).1;omega
  .have:=p q e;exact⟨ω,this.1.2⟩
  .have:=i q e;exact⟨ω,this.2⟩
  .have:=p q e;exact⟨⟨⟨ω,this.1.1.1.2⟩,this.1.1.2⟩,this.2⟩
 .rintro⟨⟨⟨⟨i,p⟩,v⟩,w⟩,b⟩;refine⟨⟨λq e=>?_,λq e=>?_⟩,v⟩
  .have:=i q e;have g:=w q e;exact⟨ω,g.2⟩
  .have:=p q e;have g:=b q e;exact⟨⟨⟨⟨ω,g.1.1.2⟩,g.1.2⟩,this.2⟩,g.2⟩
theorem A6p (hc:Ox data vars res) (hm:E4 data vars res b1) (m:A7) (F:MSz m) :
  ∃s,W4 m b1 b2 data vars res.G res.U res.R=some (Jw data vars res m,s)/\E4 data vars res s:=by
 have hf:=F.nf
 have ha:=F.na
 rw[A6o]
 unfold W4
 obtain⟨b,p1,X⟩:=A6j b2 hc hm m F
 rw[p1]
 cases hp:Q6 data vars res m with
 | false=>exact⟨b,rfl,X⟩
 | true=>
  obtain⟨q,q1,Z,V⟩:=A6m b2 hc X m F hp
  simp only[Ad,Fz,Ap,q1,Z]
  cases hs:decide (Cx data vars res m.F+Eo m.A<=6) with
  | false=>exact⟨q.2,rfl,V⟩
  | true=>
   simp only[Fz,Ap,Bool.true_and]
   have L:∀f∈m.F,(D3 vars res f.v).isSome=true:=by
    intro f c
    unfold Q6 at hp
    rw[Cv,Gt]at hp
    have T:=hp.1 f c
    rw[Dk]at T
    unfold Eg at T
    cases ht:D3 vars res f.v with
    | none=>rw[ht]at T;have T:(0:Int)<=-1:=T;omega
    | some t=>rfl
   obtain⟨r,Y,U⟩:=Alu (M:=List (ByteArray×Int)) (R:=Bool×List (ByteArray×Int)) m.F (λq=>Acl data vars res m.F q.1 q.2) (λj o=>((j:Int),o)) (E4 data vars res)
    (λr=>E4 data vars res r.2/\r.1=m.A.zipIdx.all λq=>S0 m.A q.1 q.2) (λr=>E4 data vars res r.2/\r.1=false) q.2
    (s0:=((0:Int),q.2))
    (step:=(λ(Q,k)=>
     bif Q<(m.F.length:Int) then (
     (Ag m.F Q).bind λK=>
     (Nq K.v K.I k b2 data vars res.G res.U res.R).bind λg=>
     bif (g.1==(0:Int)) then some (.inr (.inl (false,g.2)))
     else (
     bif Q>(0:Int) then (
     (Ag m.F (Ac (Q-1))).bind λA=>
     bif A.v>=K.v then some (.inr (.inl (false,g.2)))
     else some (.inl ((Ac (Q+1)),g.2)))
     else some (.inl ((Ac (Q+1)),g.2))))
     else some (.inr (.inr k)):Int×List (ByteArray×Int)->Option ((Int×List (ByteArray×Int))⊕((Bool×List (ByteArray×Int))⊕List (ByteArray×Int)))))
    (J:=(λz=>match z with
     | .inl (I,G)=>some (I,G)
     | .inr i=>(Am (S:=Int) (E:=((Bool×List (ByteArray×Int))⊕Unit)) (λp=>
       bif p<(m.A.length:Int) then (
       (Ag m.A p).bind λw=>
       (show OB from
       bif (w.P==(0:Int)) then some true
       else (
       (Nk w.L).bind λa0=>
       bif (!a0) then some true
       else some ((w.L.T.length:Int)==(0:Int)))).bind λa1=>
       bif a1 then some (.inr (.inl (false,i)))
       else (
       bif p>(0:Int) then (
       (Ag m.A (Ac (p-1))).bind λu=>
       (Ol u.L w.L).bind λa2=>
       bif a2>=(0:Int) then some (.inr (.inl (false,i)))
       else some (.inl (Ac (p+1))))
       else some (.inl (Ac (p+1)))))
       else some (.inr (.inr ()))) 0).bind λz=>match z with
        | .inl (D,B)=>some (D,B)
        | .inr _=>some (true,i)))
    rfl V ω (by
     intro j f o N hx _ v H C
     have c:=Bz hx
     obtain⟨s,d1,d2⟩:=Ag7 b2 hc N f (F.fr f c).2 (F.fr f c).1 (F.fi f c) (L f c)
     simp only[v,H,C,Ak,Ad,d1,Amd (·.v) m.F hx ω,Acl]
     cases (Eg data vars res f==0) with
     | true=>exact⟨nofun,λ_=>⟨_,rfl,_,rfl,d2,rfl⟩⟩
     | false=>
      cases Ly (·.v) m.F f j with
      | true=>exact⟨λ_=>⟨s,rfl,d2⟩,λh=>by cases h⟩
      | false=>exact⟨nofun,λ_=>⟨_,rfl,_,rfl,d2,rfl⟩⟩) (by
     intro o N v _
     refine⟨.inr o,by simp only[v];rfl,?_⟩
     refine⟨(m.A.zipIdx.all λq=>S0 m.A q.1 q.2,o),?_,N,rfl⟩
     refine (Xw m.A (λq=>S0 m.A q.1 q.2) (λj=>(j:Int)) rfl ω (rt:=(true,o)) (rf:=(false,o)) ?_ ?_).trans (by cases m.A.zipIdx.all (λq=>S0 m.A q.1 q.2) <;> rfl)
     .intro j a hx _ v H C
      have l:((a.L.T.length:Int)==(0:Int))=(a.L.T.length==0):=Atb a.L.T 0
      simp only[v,H,C,Ak,Ad,X5,A6n Ol m.A (λy hy x=>Ag6 y.L x (by have:=F.al y hy;omega)) hx ω,S0,l]
      cases (a.P==0) with
      | true=>exact⟨nofun,λ_=>⟨_,rfl,rfl⟩⟩
      | false=>
       cases D0 a.L with
       | false=>exact⟨nofun,λ_=>⟨_,rfl,rfl⟩⟩
       | true=>
        cases (a.L.T.length==0) with
        | true=>exact⟨nofun,λ_=>⟨_,rfl,rfl⟩⟩
        | false=>
         cases Q7 m.A a j with
         | true=>exact⟨λ_=>rfl,λh=>by cases h⟩
         | false=>exact⟨nofun,λ_=>⟨_,rfl,rfl⟩⟩
     .intro h _;exact⟨.inr (),by simp only[h];rfl,rfl⟩)
   refine⟨r.2,?_,?_⟩
   .have e:some r=some (m.F.zipIdx.all (λq=>Acl data vars res m.F q.1 q.2)&&m.A.zipIdx.all λq=>S0 m.A q.1 q.2,r.2):=by
     rcases U with⟨v,H,C⟩|⟨v,H,C⟩
     .rw[v,Bool.true_and,<-C]
     .rw[v,Bool.false_and,<-C]
    rw[<-e]
    exact Y
   .rcases U with⟨v,H,C⟩|⟨v,H,C⟩ <;> exact H
theorem A6q (l:List Bi) (h:∀f∈l,0<=Eg data vars res f):0<=Cx data vars res l:=by induction l with| nil=>simp[Cx]| cons x xs ih=>have i:=h x ψ;have m:=ih λf e=>h f (by simp[e]);unfold Cx at *;simp only[map_cons,sum_cons];omega
theorem Aue (l:List Bh) (h:∀a∈l,0<=a.P):0<=Eo l/\((∀a∈l,a.P<=6)->Eo l<=6*l.length)/\∀a∈l,a.P<=Eo l:=by
 induction l with
 | nil=>simp[Eo]
 | cons x xs ih=>
  have v:=h x ψ;obtain⟨w,i,m⟩:=ih λf p=>h f (by simp[p]);unfold Eo at *;simp only[map_cons,sum_cons,D2];refine⟨ω,λg=>?_,λa e=>?_⟩
  .have:=g x ψ;have:=i λa e=>g a (by simp[e]);omega
  .rcases Gl.1 e with rfl|e
   .omega
   .have:=m a e;omega
end
variable {a:Ao} {N P U V W X b d g h hb j o q r s t u x y:Int} {l:List Int} {k n off:Nat}
theorem S3 (l:List Int) (b:l.length<4611686018427387904):Mc l=some (I2 l):=by
 unfold Mc;refine Ki (λv=>∃k:Nat,v=k/\k<=l.length/\I2 (l.take k)=I2 l) (λv=>v.toNat) (λv=>∃k:Nat,v=k/\k<=l.length/\l.take k=I2 l) ⟨l.length,rfl,Nat.le_refl _,ψ⟩ ?_ ?_
 .rintro v ⟨k,rfl,p,e⟩;cases k with
  | zero=>exact .inr ⟨0,rfl,0,rfl,ω,by simpa[I2] using e⟩
  | succ j=>
   have w:Ac (((j+1:Nat):Int)-1)=(j:Int):=ξ;have m:j<l.length:=ω;have hp:decide (((j+1:Nat):Int)>0)=true:=As ω;simp only[hp,Ak,w,Ev rfl m,Ad];rw[take_succ_eq_append_getElem m]at e;by_cases i:l[j]=0
   .rw[i,A47]at e;exact .inl ⟨j,by rw[Ef i];rfl,⟨j,rfl,ω,e⟩,ω⟩
   .rw[A48 i]at e;exact .inr ⟨((j+1:Nat):Int),by rw[Cu i];rfl,j+1,rfl,ω,by rw[take_succ_eq_append_getElem m];exact e⟩
 .rintro v ⟨k,rfl,p,e⟩;rw[Xv rfl p,e];rfl
theorem Auf (l:List Int) (m:Nu l) (B:l.length<1099511627776):Xc l=some (Ah (Al l).toNat):=by
 unfold Xc;have f:Ac ((l.length:Int)+1)=((l.length+1:Nat):Int):=by rw[Ac,B4] <;> omega
 rw[f,Aln rfl ω ω];simp only[Ad];refine Ki (λ(c,i,o)=>∃k:Nat,i=k/\k<=l.length/\o.length=k/\Cj o/\0<=c/\c<5/\Al o+1000000000 ^ k*c=Al (l.take k)) (λ(_,i,_)=>l.length-i.toNat) (λ(c,o)=>o.length=l.length/\Cj o/\0<=c/\c<5/\Al o+1000000000 ^ l.length*c=Al l) ⟨0,rfl,ω,rfl,Cj.nil,ω,ω,by simp[Al]⟩ ?_ ?_
 .rintro⟨c,i,o⟩ ⟨k,rfl,C,g,b,q,e,p⟩;rcases Cf k l.length with h|h
  .have F:=m l[k] (getElem_mem h);refine .inl ⟨((l[k]+c) / 1000000000,((k+1:Nat):Int),o++[(l[k]+c) % 1000000000]),?_,⟨k+1,rfl,ω,by simp[g],b.snoc ω ω,ω,ω,?_⟩,ζ⟩
   .have z:Ba l[k]=l[k]:=Dr ω ω;have y:Ba (l[k]+c)=l[k]+c:=Dr ω ω;have s:C3 ((l[k]+c) % 1000000000)=(l[k]+c) % 1000000000:=Hc ω ω;have x:Ac ((k:Int)+1)=((k+1:Nat):Int):=ξ;have u:decide ((k:Int)<(l.length:Int))=true:=(by simpa using h);simp only[u,Ak,Ev rfl h,Ad,z,y,Mf (show 0<=l[k]+c by omega) (show (0:Int)<1000000000 by decide),s,Dl (show (o.length+[(l[k]+c) % 1000000000].length)*4<=_ by simp;omega),Mz (show 0<=l[k]+c by omega) (show l[k]+c<=_ by omega) (show (0:Int)<1000000000 by decide),x]
   .rw[Hf l h,<-p,Mg,g,Int.pow_succ];have:=Int.mul_ediv_add_emod (l[k]+c) 1000000000;grind
  .have j:k=l.length:=ω;subst j;refine .inr ⟨(c,o),ψ,g,b,q,e,by simpa using p⟩
 .rintro⟨c,o⟩ ⟨w,v,G,E,D⟩;have A:=H8 m;by_cases e:c>0
  .have s:C3 c=c:=Hc ω ω;simp only[decide_eq_true e,Ak,s,Dl (show (o.length+[c].length)*4<=_ by simp;omega),Ad,S3 (o++[c]) ζ];rw[M0 (v.snoc ω ω) (n:=(Al l).toNat) (by rw[Mg,w];omega)]
  .have:c=0:=ω;subst this;simp only[Int.lt_irrefl,gt_iff_lt,decide_false,Ap,S3 o ω,Ad];rw[M0 v (n:=(Al l).toNat) ω]
theorem Oy (h:n<18446744073709551616):Bs n<=3:=Kk (Nat.lt_of_lt_of_le h δ)
theorem Q8 (n:Nat) (h:n<18446744073709551616):Qp n=some (Ah n):=by
 unfold Qp;have b:=Oy h;unfold Bs at b;refine Ki (λ(w,o)=>∃k:Nat,w=k/\k<=n/\o++Ah k=Ah n) (λ(w,_)=>w.toNat) (λo=>o=Ah n) ⟨n,rfl,Nat.le_refl _,ψ⟩ ?_ (by rintro o rfl;rfl);rintro⟨w,o⟩ ⟨k,rfl,m,c⟩;by_cases e:k=0
 .subst e;rw[Hv,append_nil]at c;exact .inr ⟨o,ψ,c⟩
 .have f:o.length<=3:=(by rw[<-c]at b;simp at b;omega);refine .inl ⟨(((k / 1000000000:Nat):Int),o++[((k % 1000000000:Nat):Int)]),?_,⟨k / 1000000000,rfl,ω,by rw[append_assoc];rw[Ot e]at c;exact c⟩,ζ⟩;have l:decide ((k:Int)>0)=true:=As ω;have j:Iu (k:Int) 1000000000=some ((k % 1000000000:Nat):Int):=(by rw[Mf ω δ];rfl);have i:C3 ((k % 1000000000:Nat):Int)=((k % 1000000000:Nat):Int):=Hc ω ω;have g:H3 .u64 (k:Int) 1000000000=some ((k / 1000000000:Nat):Int):=(by rw[Mz ω ω δ];rfl);simp only[l,Ak,j,Ad,i,Dl (show (o.length+[((k % 1000000000:Nat):Int)].length)*4<=_ by simp;omega),g]
def Fk (m n:Nat):Int:=if m<n then -1 else if n<m then 1 else 0
theorem S4 (m n:Nat) (g:Bs m<1099511627776) (f:Bs n<1099511627776):Um (Ah m) (Ah n)=some (Fk m n):=by
 unfold Um;unfold Bs at g f;by_cases h:(Ah m).length=(Ah n).length
 .rw[G1 (ω:((Ah m).length:Int)=(Ah n).length),Ap];have D:Ac (((Ah m).length:Int)-1)=((Ah m).length:Int)-1:=ξ;rw[D];refine Ki (λv=>∃k:Nat,v=(k:Int)-1/\k<=(Ah m).length/\(Ah m).drop k=(Ah n).drop k) (λv=>(v+1).toNat) (λe=>match e with|.inl r=>r=Fk m n | .inr _=>m=n) ⟨(Ah m).length,rfl,Nat.le_refl _,by rw[drop_length,h,drop_length]⟩ ?_ ?_
  .rintro v ⟨k,rfl,E,w⟩;cases k with
   | zero=>refine .inr ⟨.inr (),ψ,?_⟩;have:Ah m=Ah n:=(by simpa using w);have:=congrArg Al this;rw[Gc,Gc]at this;show m=n;omega
   | succ j=>
    have A:j<(Ah m).length:=ω;have p:j<(Ah n).length:=ω;have l:((j+1:Nat):Int)-1=(j:Int):=ω;have i:decide ((j:Int)>=0)=true:=As ω;simp only[l,i,Ak,Ev rfl A,Ev rfl p,Ad];rcases Int.lt_trichotomy (Ah m)[j] (Ah n)[j] with b|B|C
    .refine .inr ⟨.inl (-1),by rw[As b];rfl,?_⟩;have:=As8 (F0 m) A p (F0 n) w b;rw[Gc,Gc]at this;show (-1:Int)=Fk m n;rw[Fk,Au ω]
    .refine .inl ⟨(j:Int)-1,?_,⟨j,rfl,ω,?_⟩,ω⟩
     .rw[Aw (ω:¬(Ah m)[j]<(Ah n)[j]),Ap,Aw (ω:¬(Ah m)[j]>(Ah n)[j]),Ap];rw[Ac,B4 ω ω]
     .rw[drop_eq_getElem_cons A,drop_eq_getElem_cons p,w,B]
    .refine .inr ⟨.inl 1,by rw[Aw (ω:¬(Ah m)[j]<(Ah n)[j]),Ap,As (ω:(Ah m)[j]>(Ah n)[j])];rfl,?_⟩;have:=As8 (F0 n) p A (F0 m) w.symm C;rw[Gc,Gc]at this;show (1:Int)=Fk m n;rw[Fk,Ar ω,Au ω]
  .rintro (e|e) c
   .simp only at c ⊢;rw[c]
   .simp only at c ⊢;rw[Fk,Ar ω,Ar ω]
 .rw[F7 (ω:((Ah m).length:Int)≠(Ah n).length),Ak];by_cases b:(Ah m).length<(Ah n).length
  .rw[As (ω:((Ah m).length:Int)<(Ah n).length),Ak];have:=As7 (m:=m) (n:=n) b;rw[Fk,Au this]
  .rw[Aw (ω:¬((Ah m).length:Int)<(Ah n).length),Ap];have:=As7 (m:=n) (n:=m) (by unfold Bs;omega);rw[Fk,Ar ω,Au this]
theorem Amg (h:Cj l) (i:l≠[]->1000000000 ^ (l.length-1)<=Al l):Can l:=by refine⟨h,λb m=>?_⟩;have B:=i b;have e:=dropLast_concat_getLast b;have p:Cj l.dropLast:=λd v=>h d (dropLast_subset l v);have w:=Lv p;rw[length_dropLast]at w;have A:=congrArg Al e;rw[Mg,m]at A;omega
theorem Lz (l:List Int) (h:l.length<=k):Al (l.take k)=Al l:=by rw[Ii h]
theorem Aug (a b:List Int) (ha:Cj a) (hb:Cj b) (hl:a.length<1099511627776) (a0:b.length<=a.length) (R:a≠[]->1000000000 ^ (a.length-1)<=Al a) : ((Gw 4 0 (Ac ((a.length:Int)+1)) (0:Int)).bind λY=> (Am (S:=(Int×Int×List Int)) (E:=(Int×List Int)) (λ(H,p,u)=> bif p<(a.length:Int) then ((Ag a p).bind λv=> (show Option Int from bif p<(b.length:Int) then ((Ag b p).bind λw=> some (C3 ((C3 (v+H))+w))) else (some (C3 (v+H)))).bind λC=> (H3 .u32 C 1000000000).bind λK=> (Iu C 1000000000).bind λf=> (B6 4 u [f]).bind λg=> some (.inl (K,(Ac (p+1)),g))) else (some (.inr (H,u)))) (0,0,Y)).bind λ(l,q)=> bif l>(0:Int) then ((B6 4 q [l]).bind λJ=> some J) else (some q))=some (Ah (Al a+Al b).toNat):=by
 have A:Ac ((a.length:Int)+1)=((a.length+1:Nat):Int):=by rw[Ac,B4] <;> omega
 rw[A,Aln rfl ω ω];simp only[Ad];have a6:=H8 ha.u32;have a1:=H8 hb.u32;refine Ki (λ(c,i,o)=>∃k:Nat,i=k/\k<=a.length/\o.length=k/\Cj o/\0<=c/\c<=1/\Al o+1000000000 ^ k*c=Al (a.take k)+Al (b.take k)) (λ(_,i,_)=>a.length-i.toNat) (λ(c,o)=>o.length=a.length/\Cj o/\0<=c/\c<=1/\Al o+1000000000 ^ a.length*c=Al a+Al b) ⟨0,rfl,ω,rfl,Cj.nil,ω,ω,by simp[Al]⟩ ?_ ?_
 .rintro⟨c,i,o⟩ ⟨k,rfl,hk,L,z,U,T,hv⟩;rcases Cf k a.length with h|h
  .have hx:=ha.get h;have e4:Ac ((k:Int)+1)=((k+1:Nat):Int):=ξ;have e5:decide ((k:Int)<(a.length:Int))=true:=As ω;have step:∀s:Int,0<=s->s<2000000000->(show Option Int from bif (k:Int)<(b.length:Int) then ((Ag b k).bind λw=>some (C3 ((C3 (a[k]+c))+w))) else some (C3 (a[k]+c)))=some s ->
     Al (a.take (k+1))+Al (b.take (k+1))=Al (a.take k)+Al (b.take k)+1000000000 ^ k*(s-c) -> (∃m,(bif (k:Int)<(a.length:Int) then ((Ag a k).bind λv=> (show Option Int from bif (k:Int)<(b.length:Int) then ((Ag b k).bind λw=> some (C3 ((C3 (v+c))+w))) else (some (C3 (v+c)))).bind λC=> (H3 .u32 C 1000000000).bind λK=> (Iu C 1000000000).bind λf=> (B6 4 o [f]).bind λg=> some (.inl (K,(Ac ((k:Int)+1)),g))) else (some (.inr (c,o))))=some (Sum.inl m:(Int×Int×List Int)⊕(Int×List Int))/\(∃j:Nat,m.2.1=j/\j<=a.length/\m.2.2.length=j/\Cj m.2.2/\0<=m.1/\m.1<=1/\Al m.2.2+1000000000 ^ j*m.1=Al (a.take j)+Al (b.take j))/\a.length-m.2.1.toNat<a.length-(k:Int).toNat):=by
    intro s y Z hs x;refine⟨(s / 1000000000,((k+1:Nat):Int),o++[s % 1000000000]),?_,⟨k+1,rfl,ω,by simp[L],z.snoc ω ω,ζ,ζ,?_⟩,ζ⟩
    .rw[e5,Ak,Ev rfl h,Ad,hs,Ad,Alo y ω δ,Ad,Mf y δ,Ad,Dl ζ,Ad,e4]
    .rw[x,<-hv,Mg,L,Int.pow_succ];have:=Int.mul_ediv_add_emod s 1000000000;grind
   refine .inl ?_;rcases Cf k b.length with F|F
   .have hy:=hb.get F;obtain⟨m,I,G,D⟩:=step (a[k]+c+b[k]) ω ω (by have B:C3 (a[k]+c)=a[k]+c:=Hc ω ω;have X:C3 (a[k]+c+b[k])=a[k]+c+b[k]:=Hc ω ω;show (bif (k:Int)<(b.length:Int) then _ else _)=_;rw[As (ω:(k:Int)<(b.length:Int)),Ak,Ev rfl F,Ad,B,X]) (by rw[Hf a h,Hf b F];grind);exact⟨m,I,G,D⟩
   .obtain⟨m,I,G,D⟩:=step (a[k]+c) ω ω (by have B:C3 (a[k]+c)=a[k]+c:=Hc ω ω;show (bif (k:Int)<(b.length:Int) then _ else _)=_;rw[Aw (ω:¬(k:Int)<(b.length:Int)),Ap,B]) (by rw[Hf a h,Lz b F,Lz b ω];grind);exact⟨m,I,G,D⟩
  .have N:k=a.length:=ω;subst N;refine .inr ⟨(c,o),ψ,L,z,U,T,?_⟩;rw[Db,Lz b a0]at hv;exact hv
 .rintro⟨c,o⟩ ⟨Q,h3,h4,h5,h6⟩;simp only[];by_cases T:c>0
  .have:c=1:=ω;subst this;rw[As T,Ak,Dl ζ,Ad];congr 1;refine Agk (Amg (h3.snoc ω ω) λ_=>?_) (by rw[Mg,Q];omega);rw[Mg,Q];have:=H8 h3.u32;simp[Q];omega
  .have:c=0:=ω;subst this;rw[Aw T,Ap];congr 1;refine Agk (Amg h3 λM=>?_) ω;have V:a≠[]:=(by intro e;rw[e]at Q;exact M (Fr.1 Q));have:=R V;rw[Q];omega
theorem Ag8 (h:Ah n≠[]):1000000000 ^ ((Ah n).length-1)<=Al (Ah n):=by
 rw[Gc];have i:(Ah n).length≠0:=λe=>h (Fr.1 e);have:=As6 (n:=n) (k:=(Ah n).length-1) (by unfold Bs;omega);have e:((1000000000 ^ ((Ah n).length-1):Nat):Int)=1000000000 ^ ((Ah n).length-1):=by rw[Int.natCast_pow];rfl
 omega
theorem Auh (m n:Nat) (c:Bs m<1099511627776) (b:Bs n<1099511627776):Aas (Ah m) (Ah n)=some (Ah (m+n)):=by
 unfold Aas;unfold Bs at c b;by_cases f:(Ah m).length<(Ah n).length
 .simp only[As (ω:((Ah m).length:Int)<(Ah n).length),Ak,Ad];have:=Aug (Ah n) (Ah m) (F0 n) (F0 m) b ω Ag8;rw[Gc,Gc]at this;rw[show m+n=((n:Int)+(m:Int)).toNat by omega];exact this
 .simp only[Aw (ω:¬((Ah m).length:Int)<(Ah n).length),Ap,Ad];have:=Aug (Ah m) (Ah n) (F0 m) (F0 n) c ω Ag8;rw[Gc,Gc]at this;rw[show m+n=((m:Int)+(n:Int)).toNat by omega];exact this
theorem M3 (h:k<n) (b:n<4611686018427387904):Ac ((k:Int)+1)=((k+1:Nat):Int):=by rw[Ac,B4] <;> omega
theorem Ag9 (m n:Nat) (V:Bs m<1099511627776) (A:n<=m):Xd (Ah m) (Ah n)=some (Ah (m-n)):=by
 unfold Xd;have D:(Ah n).length<=(Ah m).length:=Ja A;unfold Bs at V;rw[Aln rfl ω ω];simp only[Ad];have H:=F0 m;have hb:=F0 n;refine Ki (λ(c,i,o)=>∃k:Nat,i=k/\k<=(Ah m).length/\o.length=k/\Cj o/\0<=c/\c<=1/\Al o=Al ((Ah m).take k)-Al ((Ah n).take k)+1000000000 ^ k*c) (λ(_,i,_)=>(Ah m).length-i.toNat) (λo=>∃c:Int,o.length=(Ah m).length/\Cj o/\0<=c/\c<=1/\Al o=(m:Int)-n+1000000000 ^ (Ah m).length*c) ⟨0,rfl,ω,rfl,Cj.nil,ω,ω,by simp[Al]⟩ ?_ ?_
 .rintro⟨c,i,o⟩ ⟨k,rfl,K,l,g,G,C,v⟩;rcases Cf k (Ah m).length with h|h
  .have Q:=H.get h;have N:=M3 h ω;have M:decide ((k:Int)<((Ah m).length:Int))=true:=As ω;have J:Ac (Ah m)[k]=(Ah m)[k]:=B4 ω ω;have I:Ac ((Ah m)[k]-c)=(Ah m)[k]-c:=B4 ω ω;have p:∀s:Int,-1000000001<=s->s<1000000000->Al ((Ah m).take (k+1))-Al ((Ah n).take (k+1))=Al ((Ah m).take k)-Al ((Ah n).take k)+1000000000 ^ k*(s+c) ->
     ∃(f:Int) (d:Int),(bif decide (s<0) then ((B6 4 o [(C3 (Ac (s+1000000000)))]).bind λz=>some (Sum.inl (1,(Ac ((k:Int)+1)),z))) else ((B6 4 o [(C3 s)]).bind λy=>some (Sum.inl (0,(Ac ((k:Int)+1)),y))))=some (Sum.inl (f,((k+1:Nat):Int),o++[d]):(Int×Int×List Int)⊕List Int) /\ (-1000000000<=s->(∃j:Nat,((k+1:Nat):Int)=j/\j<=(Ah m).length/\(o++[d]).length=j/\Cj (o++[d])/\0<=f/\f<=1/\Al (o++[d])=Al ((Ah m).take j)-Al ((Ah n).take j)+1000000000 ^ j*f)):=by
    intro s T F b;by_cases L:s<0
    .refine⟨1,C3 (Ac (s+1000000000)),by rw[As L,Ak,Dl ζ,Ad,N],λw=>?_⟩;have U:Ac (s+1000000000)=s+1000000000:=B4 ω ω;have q:C3 (s+1000000000)=s+1000000000:=Hc ω ω;rw[U,q];refine⟨k+1,rfl,ω,by simp[l],g.snoc ω ω,ω,ω,?_⟩;rw[b,Mg,l,v,Int.pow_succ];grind
    .refine⟨0,C3 s,by rw[Aw L,Ap,Dl ζ,Ad,N],λw=>?_⟩;have q:C3 s=s:=Hc ω ω;rw[q];refine⟨k+1,rfl,ω,by simp[l],g.snoc ω ω,ω,ω,?_⟩;rw[b,Mg,l,v,Int.pow_succ];grind
   refine .inl ?_;rcases Cf k (Ah n).length with e|e
   .have hy:=hb.get e;have S:Ac (Ah n)[k]=(Ah n)[k]:=B4 ω ω;have R:Ac ((Ah m)[k]-c-(Ah n)[k])=(Ah m)[k]-c-(Ah n)[k]:=B4 ω ω;obtain⟨f,d,x,u⟩:=p ((Ah m)[k]-c-(Ah n)[k]) ω ω (by rw[Hf _ h,Hf _ e];grind);refine⟨(f,((k+1:Nat):Int),o++[d]),?_,u ω,ζ⟩;rw[<-x];simp only[M,Ak,Ev rfl h,Ad,J,I,As (ω:(k:Int)<((Ah n).length:Int)),Ev rfl e,S,R]
   .obtain⟨f,d,x,u⟩:=p ((Ah m)[k]-c) ω ω (by rw[Hf _ h,Lz (Ah n) e,Lz (Ah n) ω];grind);refine⟨(f,((k+1:Nat):Int),o++[d]),?_,u ω,ζ⟩;rw[<-x];simp only[M,Ak,Ev rfl h,Ad,J,I,Aw (ω:¬(k:Int)<((Ah n).length:Int)),Ap]
  .have E:k=(Ah m).length:=ω;subst E;refine .inr ⟨o,ψ,c,l,g,G,C,?_⟩;rw[Db,Lz _ D,Gc,Gc]at v;exact v
 .rintro o ⟨c,F,w,h4,Y,X⟩;have B:=Lv w;rw[F]at B;have hp:=Lu (Ah m).length;have:c=0:=by
   rcases Int.lt_or_le 0 c with C|C
   .have:c=1:=ω;subst this;omega
   .omega
  subst this;rw[S3 o ω,Ad,M0 w (n:=m-n) ω]
theorem Amh (m d:Nat) (L:Bs m<1099511627776) (K:0<d) (M:d<4294967296):U2 (Ah m) d=some (Ah (m / d),((m % d:Nat):Int)):=by
 unfold U2;unfold Bs at L;rw[Ld rfl rfl (Nat.le_refl _) ω ω];simp only[Ad];have C:=F0 m;have F:Ac (((Ah m).length:Int)-1)=((Ah m).length:Int)-1:=by rw[Ac,B4] <;> omega
 rw[F];refine Ki (λ(r,i,o)=>∃k:Nat,i=(k:Int)-1/\k<=(Ah m).length/\o.length=(Ah m).length/\Cj o/\0<=r/\r<d/\Al (o.drop k)*d+r=Al ((Ah m).drop k)) (λ(_,i,_)=>(i+1).toNat) (λ(r,o)=>o.length=(Ah m).length/\Cj o/\0<=r/\r<d/\Al o*d+r=m) ⟨(Ah m).length,rfl,Nat.le_refl _,ψ,Cj.replicate _,ω,ω,by simp[Al]⟩ ?_ ?_
 .rintro⟨r,i,o⟩ ⟨k,rfl,Q,z,g,s,J,v⟩;cases k with
  | zero=>exact .inr ⟨(r,o),ψ,z,g,s,J,by simpa[Gc] using v⟩
  | succ j=>
   have p:j<(Ah m).length:=ω;have h:j<o.length:=ω;have T:=C.get p;have U:((j+1:Nat):Int)-1=(j:Int):=ω;have S:decide ((j:Int)>=0)=true:=As ω;have G:Ba (r*1000000000)=r*1000000000:=Dr ω ω;have E:Ba (Ah m)[j]=(Ah m)[j]:=Dr ω ω;have D:Ba (r*1000000000+(Ah m)[j])=r*1000000000+(Ah m)[j]:=Dr ω ω;have b:(0:Int)<(d:Int):=ω;have c:0<=r*1000000000+(Ah m)[j]:=ω;have f:0<=(r*1000000000+(Ah m)[j]) / (d:Int):=Int.ediv_nonneg c ω;have u:(r*1000000000+(Ah m)[j]) / (d:Int)<1000000000:=(by apply Int.ediv_lt_of_lt_mul b;have:(r+1)*1000000000<=d*1000000000:=Int.mul_le_mul_of_nonneg_right ω δ;omega);have B:C3 ((r*1000000000+(Ah m)[j]) / (d:Int))=(r*1000000000+(Ah m)[j]) / (d:Int):=Hc f ω;have y:=Int.emod_nonneg (r*1000000000+(Ah m)[j]) (ω:(d:Int)≠0);have x:=Int.emod_lt_of_pos (r*1000000000+(Ah m)[j]) b;have A:Ac ((j:Int)-1)=(j:Int)-1:=ξ;refine .inl ⟨((r*1000000000+(Ah m)[j]) % (d:Int),(j:Int)-1,o.set j ((r*1000000000+(Ah m)[j]) / (d:Int))),?_,⟨j,rfl,ω,by simpa using z,g.set _ f u,y,x,?_⟩,ψ⟩
   .simp only[U,S,Ak,Ev rfl p,Ev rfl h,Ad,G,E,D,Mz c ω b,Mf c b,B,A,He rfl]
   .have d1:(o.set j ((r*1000000000+(Ah m)[j]) / (d:Int))).drop j=((r*1000000000+(Ah m)[j]) / (d:Int))::o.drop (j+1):=(by rw[drop_eq_getElem_cons (by simpa using h),drop_set_of_lt ω];simp);rw[d1,drop_eq_getElem_cons p];simp only[Al];rw[<-v];have:=Int.mul_ediv_add_emod (r*1000000000+(Ah m)[j]) (d:Int);grind
 .rintro⟨r,o⟩ ⟨h2,w,H,R,N⟩;simp only[];have I:=H8 w.u32;have l:((m / d:Nat):Int)=Al o/\((m % d:Nat):Int)=r:=(by have b:(0:Int)<(d:Int):=ω;have e:=Int.ediv_emod_unique b (r:=r) (q:=Al o) (a:=(m:Int));have:=e.2 ⟨by rw[<-N];grind,H,R⟩;exact⟨by rw[Int.natCast_ediv];exact this.1,by rw[Int.natCast_emod];exact this.2⟩);rw[S3 o ω,Ad,M0 w l.1.symm,l.2]
theorem Aha (i:0<=x) (c:x<1000000000) (e:0<=y) (b:y<1000000000):0<=x*y/\x*y<=999999998000000001:=by refine⟨Int.mul_nonneg i e,?_⟩;have m:x*y<=999999999*y:=Int.mul_le_mul_of_nonneg_right ω e;omega
theorem S5 (m n:Nat) (K:Bs m<549755813888) (Q:Bs n<549755813888):Qk (Ah m) (Ah n)=some (Ah (m*n)):=by
 unfold Qk;unfold Bs at K Q;by_cases T:m=0\/n=0
 .have:(show OB from bif (((Ah m).length:Int)==(0:Int)) then some true else some (((Ah n).length:Int)==(0:Int)))=some true:=by
   show (bif (((Ah m).length:Int)==(0:Int)) then some true else some (((Ah n).length:Int)==(0:Int)))=some true;by_cases h:m=0
   .subst h;rw[Hv];rfl
   .have y:n=0:=ω;subst y;rw[Cu (by have:=Kj h;have:(Ah m).length≠0:=λe=>this (Fr.1 e);omega),Hv];rfl
  rw[this,Ad,Ak];have:m*n=0:=(by rcases T with rfl|rfl <;> simp);rw[this,Hv]
 .have G:m≠0:=ω;have y:n≠0:=ω;have a8:(Ah m).length≠0:=λe=>Kj G (Fr.1 e);have a7:(Ah n).length≠0:=λe=>Kj y (Fr.1 e);simp only[Cu (ω:((Ah m).length:Int)≠0),Cu (ω:((Ah n).length:Int)≠0),Ap,Ad];have hw:Ac (((Ah m).length:Int)+((Ah n).length:Int))=(((Ah m).length+(Ah n).length:Nat):Int):=ξ;rw[hw,Ld rfl rfl (Nat.le_refl _) ω ω];simp only[Ad];have ha:=F0 m;have hb:=F0 n;refine Ki (λ(i,o)=>∃k:Nat,i=k/\k<=(Ah m).length/\o.length=(Ah m).length+(Ah n).length/\Cj o/\o.drop (k+(Ah n).length)=replicate ((Ah m).length-k) 0/\Al o=Al ((Ah m).take k)*n) (λ(i,_)=>(Ah m).length-i.toNat) (λo=>o.length=(Ah m).length+(Ah n).length/\Cj o/\Al o=((m*n:Nat):Int)) ⟨0,rfl,ω,ψ,Cj.replicate _,by rw[drop_replicate];congr 1;omega,by simp[Agi,Al]⟩ ?_ ?_
  .rintro⟨i,o⟩ ⟨k,rfl,hk,N,D,J,w⟩;rcases Cf k (Ah m).length with h|h
   .have F:=ha.get h;have e4:=M3 h ω;have e5:decide ((k:Int)<((Ah m).length:Int))=true:=As ω;simp only[e5,Ak];refine .inl (Xu (Ej (λ(c,j,p)=>∃q:Nat,j=q/\q<=(Ah n).length/\p.length=(Ah m).length+(Ah n).length/\Cj p/\p.drop (k+(Ah n).length)=replicate ((Ah m).length-k) 0/\0<=c/\c<1000000000 /\ Al p + 1000000000 ^ (k+q)*c=Al o+1000000000 ^ k*((Ah m)[k]*Al ((Ah n).take q))) (λ(_,j,_)=>(Ah n).length-j.toNat) (λ(c,j,p)=>p.length=(Ah m).length+(Ah n).length/\Cj p/\p.drop (k+(Ah n).length)=replicate ((Ah m).length-k) 0/\0<=c/\c<1000000000 /\ Al p + 1000000000 ^ (k+(Ah n).length)*c=Al o+1000000000 ^ k*((Ah m)[k]*n)) ⟨0,rfl,ω,N,D,J,ω,ω,by simp[Al]⟩ ?_ ?_))
    .rintro⟨c,j,p⟩ ⟨q,rfl,hq,l,b,f,z,C,x⟩;rcases Cf q (Ah n).length with v|v
     .have H:=hb.get v;have g:k+q<p.length:=ω;have Z:=b.get g;have a1:=Aha F.1 F.2 H.1 H.2;have X:Ba (Ah m)[k]=(Ah m)[k]:=Dr ω ω;have V:Ba (Ah n)[q]=(Ah n)[q]:=Dr ω ω;have U:Ba ((Ah m)[k]*(Ah n)[q])=(Ah m)[k]*(Ah n)[q]:=Dr ω ω;have S:Ba p[k+q]=p[k+q]:=Dr ω ω;have R:Ba ((Ah m)[k]*(Ah n)[q]+p[k+q])=(Ah m)[k]*(Ah n)[q]+p[k+q]:=Dr ω ω;have M:Ba ((Ah m)[k]*(Ah n)[q]+p[k+q]+c)=(Ah m)[k]*(Ah n)[q]+p[k+q]+c:=Dr ω ω;have e6:=M3 v ω;have e7:decide ((q:Int)<((Ah n).length:Int))=true:=As ω;have L:Ac ((k:Int)+(q:Int))=((k+q:Nat):Int):=ξ;generalize hs:(Ah m)[k]*(Ah n)[q]+p[k+q]+c=s at M;have A:0<=s:=ω;have a6:s<1000000000000000000:=ω;have E:C3 (s % 1000000000)=s % 1000000000:=Hc ω ω;refine .inl ⟨(s / 1000000000,((q+1:Nat):Int),p.set (k+q) (s % 1000000000)),?_,⟨q+1,rfl,ω,by simpa using l,b.set _ ω ω,?_,ω,ω,?_⟩,ζ⟩
      .simp only[e7,Ak,Ev rfl h,Ev rfl v,L,Ev rfl g,Ad,X,V,U,S,R,hs,M,Mf A (show (0:Int)<1000000000 by decide),Mz A (show s<=_ by omega) (show (0:Int)<1000000000 by decide),E,e6,He rfl]
      .rw[drop_set_of_lt ω];exact f
      .rw[Nv _ g,Hf _ v];have:=Int.mul_ediv_add_emod s 1000000000;have Y:(1000000000:Int) ^ (k+(q+1))=1000000000 ^ (k+q)*1000000000:=(by rw[<-Nat.add_assoc,Int.pow_succ]);have p2:(1000000000:Int) ^ (k+q)=1000000000 ^ k*1000000000 ^ q:=Int.pow_add ..;rw[Y];grind
     .have:q=(Ah n).length:=ω;subst this;refine .inr ⟨(c,_,p),by simp;rfl,l,b,f,z,C,?_⟩;rw[Db,Gc]at x;exact x
    .rintro⟨c,j,p⟩ ⟨l,b,f,z,C,x⟩;have L:Ac ((k:Int)+((Ah n).length:Int))=((k+(Ah n).length:Nat):Int):=ξ;have g:k+(Ah n).length<p.length:=ω;have E:C3 c=c:=Hc ω ω;have u:p[k+(Ah n).length]=0:=(by have:=congrArg head? f;rw[head?_drop,Bq g]at this;have B:(replicate ((Ah m).length-k) (0:Int)).head? = some 0:=(by cases hh:(Ah m).length-k with| zero=>omega| succ t=>rfl);rw[B]at this;exact Eu this);refine⟨_,by simp only[L,Ev rfl g,Ad,E,e4,He rfl];rfl,_,rfl,⟨k+1,rfl,ω,by simpa using l,b.set _ z C,?_,?_⟩,ζ⟩
     .rw[drop_set_of_lt ω,show k+1+(Ah n).length=(k+(Ah n).length)+1 by omega,<-drop_drop,f,drop_replicate];congr 1
     .rw[Nv _ g,u,Hf _ h,Int.add_mul,<-w];grind
   .have I:k=(Ah m).length:=ω;subst I;refine .inr ⟨o,ψ,N,D,?_⟩;rw[Db,Gc]at w;rw[w];simp
  .rintro o ⟨h2,h3,h4⟩;rw[S3 o ω,Ad,M0 h3 h4]
theorem Aui (a:List Int) (m:Nat) (p:Cj a) (U:a.length<1099511627776) (S:m<1000000000) : ∃o,Xi a m=some o/\o.length=a.length+1/\Cj o/\Al o=Al a*m:=by
 unfold Xi;have u:Ac ((a.length:Int)+1)=((a.length+1:Nat):Int):=by rw[Ac,B4] <;> omega
 rw[u,Ld rfl rfl (Nat.le_refl _) ω ω];simp only[Ad];refine Ej (λ(c,i,o)=>∃k:Nat,i=k/\k<=a.length/\o.length=a.length+1/\Cj o/\o.drop k=replicate (a.length+1-k) 0/\0<=c/\c<1000000000/\Al o+1000000000 ^ k*c=Al (a.take k)*m) (λ(_,i,_)=>a.length-i.toNat) (λ(c,o)=>o.length=a.length+1/\Cj o/\o.drop a.length = [0]/\0<=c/\c<1000000000/\Al o+1000000000 ^ a.length*c=Al a*m) ⟨0,rfl,ω,ψ,Cj.replicate _,ψ,ω,ω,by simp[Al,Agi]⟩ ?_ ?_
 .rintro⟨c,i,o⟩ ⟨k,rfl,K,B,q,g,z,v,w⟩;rcases Cf k a.length with h|h
  .have e:=p.get h;have f:k<o.length:=ω;have G:=Aha e.1 e.2 (show (0:Int)<=m by omega) ω;have R:=M3 h ω;have N:decide ((k:Int)<(a.length:Int))=true:=As ω;have E:Ba a[k]=a[k]:=Dr ω ω;have D:Ba (a[k]*(m:Int))=a[k]*m:=Dr ω ω;have A:Ba (a[k]*(m:Int)+c)=a[k]*m+c:=Dr ω ω;have b:o[k]=0:=(by have:=congrArg head? g;rw[head?_drop,Bq f]at this;have l:(replicate (a.length+1-k) (0:Int)).head? = some 0:=(by cases Q:a.length+1-k with| zero=>omega| succ t=>rfl);rw[l]at this;exact Eu this);generalize J:a[k]*(m:Int)+c=s at A;have j:0<=s:=ω;have I:s<1000000000000000000:=ω;have x:C3 (s % 1000000000)=s % 1000000000:=Hc ω ω;refine .inl ⟨(s / 1000000000,((k+1:Nat):Int),o.set k (s % 1000000000)),?_,⟨k+1,rfl,ω,by simpa using B,q.set _ ω ω,?_,ω,ω,?_⟩,ζ⟩
   .simp only[N,Ak,Ev rfl h,Ev rfl f,Ad,E,D,J,A,Mf j (show (0:Int)<1000000000 by decide),Mz j (show s<=_ by omega) (show (0:Int)<1000000000 by decide),x,R,He rfl]
   .rw[drop_set_of_lt ω,<-drop_drop,g,drop_replicate];congr 1
   .rw[Nv _ f,b,Hf _ h,Int.pow_succ];have:=Int.mul_ediv_add_emod s 1000000000;grind
  .have y:k=a.length:=ω;subst y;refine .inr ⟨(c,o),ψ,B,q,by rw[g];simp,z,v,by rwa [Db]at w⟩
 .rintro⟨c,o⟩ ⟨C,F,g,H,M,L⟩;have f:a.length<o.length:=ω;have x:C3 c=c:=Hc ω ω;have b:o[a.length]=0:=(by have:=congrArg head? g;rw[head?_drop,Bq f]at this;exact Eu this);refine⟨o.set a.length c,by simp only[Ev rfl f,Ad,x,He rfl],by simpa using C,F.set _ H M,?_⟩;rw[Nv _ f,b,<-L];grind
theorem S6 {α:Type} {l:List α} {i:Int} (e:i=k) (m:k<n) (h:off+k<l.length):Ig l off n i=some l[off+k]:=by subst e;have p:(0:Int)<=(k:Int):=ω;have v:(k:Int)<(n:Int):=ω;simp[Ig,m,h]
theorem A6r {k tb B:Int} (i:0<P) (u:V=j+P*tb) (l:0<=j) (x:U=k+P*hb) (s:k<P) (m:q*V<=U) (c:0<=g) (h:hb<g*tb) (b:0<=tb):q<g:=by
 rcases Int.lt_or_le q g with e|e
 .exact e
 .exfalso;have f:0<=V:=(by have:=Int.mul_nonneg (Int.le_of_lt i) b;omega);have p:g*V<=q*V:=Int.mul_le_mul_of_nonneg_right e f;have v:g*(P*tb)<=g*V:=Int.mul_le_mul_of_nonneg_left ω c;have w:P*(hb+1)<=P*(g*tb):=Int.mul_le_mul_of_nonneg_left ω (Int.le_of_lt i);have A:g*(P*tb)=P*(g*tb):=(by grind);have y:P*(hb+1)=P*hb+P:=(by grind);omega
theorem Auj {k tb:Int} (i:0<P) (y:V=j+P*tb) (s:j<P) (z:U=k+P*hb) (u:0<=k) (w:U<(q+1)*V) (l:0<=g) (p:g<=tb+1) (h:g*tb<=hb) (b:0<V):g<=q+1:=by
 rcases Int.lt_or_le (q+1) g with e|e
 .exfalso;have f:0<=g-1:=by
   rcases Int.lt_or_le g 1 with m|m
   .have:g=0:=ω;subst this;have c:q+1<0:=e;have:(q+1)*V<0:=Int.mul_neg_of_neg_of_pos c b;have v:0<=hb:=(by simpa using h);have:=Int.mul_nonneg (Int.le_of_lt i) v;omega
   .omega
  have A:(q+1)*V<=(g-1)*V:=Int.mul_le_mul_of_nonneg_right ω (Int.le_of_lt b);have x:P*(tb+1)=P*tb+P:=(by grind);have m:(g-1)*V<=(g-1)*(P*(tb+1)):=Int.mul_le_mul_of_nonneg_left ω f;have B:(g-1)*(P*(tb+1))=P*(g*tb+(g-tb-1)):=(by grind);have C:P*(g*tb+(g-tb-1))<=P*hb:=Int.mul_le_mul_of_nonneg_left ω (Int.le_of_lt i);omega
 .exact e
theorem A6s {A C:Type} {X:Option (A×C)} {Q:A->C->Prop} (h:∃r,X=some r/\Q r.1 r.2):∃q o,X=some (q,o)/\Q q o:=by obtain⟨⟨a,c⟩,e,i⟩:=h;exact⟨a,c,e,i⟩
theorem al1 (k:g*t+r=h):(g-1)*t+(r+t)=h:=by grind
theorem al2 {p:Int} (e:s-1000000000*d=x-b-p):o+P*(s-x)-P*1000000000*d=(o-P*b)-P*p:=by grind
theorem al3 (b X K g A y:Int):b-X*(g*A)-X*K*(g*y)=b-X*(g*(A+K*y)):=by grind
theorem al4 {c:Int} (h:u+X*(W+N*c-U)-X*N*b=u-X*(g*V)):X*(U-g*V)=X*(W+N*(c-b)):=by grind
theorem al5 (u X q:Int):u-X*q-u=X*(-q):=by grind
theorem al6 (h:o-P*b=r):o+P*(x-b-x)=r:=by grind
theorem al7 {K c A:Int} (g:x+y+c=s) (f:1000000000*(s / 1000000000)+s % 1000000000=s) (h:b+X*K*c=o+X*A):b+X*K*(s % 1000000000-x)+X*K*1000000000*(s / 1000000000)=o+X*(A+K*y):=by grind
theorem al8 {f c:Int} (e:o-X*N*b=u-X*((q+1)*V)) (i:u+X*(W+N*f-U)+X*N*c=o+X*V):X*(U-q*V)=X*(W+N*(f-b+c)):=by grind
theorem al9 {c f:Int} (e:g+P*c=o+X*V) (i:o-P*b=u-X*((q+1)*V)) (m:f=b-c):g+P*(0-f)=u-X*(q*V):=by grind
theorem gtb (k:g*t+r=h):g*(t*1000000000+x)=(h-r)*1000000000+g*x:=by subst k;grind
theorem Ami (h:(1000000000:Int) ^ k*x=1000000000 ^ k*y):x=y:=Int.eq_of_mul_eq_mul_left (by have:=Lu k;omega) h
theorem Auk {o u:List Int} (b:off<=o.length) (e:off<=u.length) (h:o.take off=u.take off):Al o-Al u=1000000000 ^ off*(Al (o.drop off)-Al (u.drop off)):=by rw[Pu o off b,Pu u off e,h];grind
theorem Ahb (h:Cj l) (k:Nat):0<=Al (l.drop k):=H8 (h.drop k).u32
theorem A6t {D:List Int} (b:Cj D) (w:2<=n) (i:n<D.length) (g:Al D<1000000000 ^ (n+1)) : Al D=Al (D.take (n-2))+1000000000 ^ (n-2)*((D[n]*1000000000+D[n-1])*1000000000+D[n-2]):=by
 have e:=Pu D (n+1) i;have m:Al (D.drop (n+1))=0:=by
  have s:=Ahb b (n+1);have A:=H8 ((b.take (n+1)).u32);rcases Int.lt_or_le 0 (Al (D.drop (n+1))) with h|h
  .have:(1000000000:Int) ^ (n+1)*1<=1000000000 ^ (n+1)*Al (D.drop (n+1)):=Int.mul_le_mul_of_nonneg_left h (Int.le_of_lt (Lu _));omega
  .omega
 rw[m,Int.mul_zero,Int.add_zero]at e;obtain⟨t,rfl⟩:∃t,n=t+2:=⟨n-2,ω⟩;have q:=Hf D (k:=t) ω;have l:=Hf D (k:=t+1) ω;have j:=Hf D (k:=t+2) ω;have f:(1000000000:Int) ^ (t+1)=1000000000 ^ t*1000000000:=Int.pow_succ ..;have c:(1000000000:Int) ^ (t+2)=1000000000 ^ (t+1)*1000000000:=Int.pow_succ ..;have p:t+2-2=t:=rfl;have v:t+2-1=t+1:=rfl;simp only[p,v];rw[e,j,l,q,c,f];grind
theorem A6u {v:List Int} (p:2<=n) (g:v.length=n) : Al v=Al (v.take (n-2))+1000000000 ^ (n-2)*(v[n-1]*1000000000+v[n-2]):=by obtain⟨t,rfl⟩:∃t,n=t+2:=⟨n-2,ω⟩;have f:=Hf v (k:=t) ω;have b:=Hf v (k:=t+1) ω;have e:v.take (t+1+1)=v:=Ii ω;rw[e]at b;have c:(1000000000:Int) ^ (t+1)=1000000000 ^ t*1000000000:=Int.pow_succ ..;have i:t+2-2=t:=rfl;have m:t+2-1=t+1:=rfl;simp only[i,m];rw[b,f,c];grind
set_option maxHeartbeats 1000000 in
theorem A6v (v u:List Int) (off n:Nat) (K:Cj v) (Q:Cj u) (hn:v.length=n) (h2:2<=n) (c8:n<1099511627776) (bp:500000000<=v[n-1]) (X:off+n<u.length) (hT:Al (u.drop off)<Al v*1000000000) : ∃q o,Abf off (n+1) v u=some (q,o)/\o.length=u.length/\Cj o/\0<=q/\q<1000000000/\Al o=Al u-1000000000 ^ off*(q*Al v)/\0<=Al (o.drop off)/\Al (o.drop off)<Al v:=by
 have b7:=Lv K;rw[hn]at b7;have cd:(u.drop off).length=u.length-off:=length_drop;have A:=Q.drop off;have bo:=H8 A.u32;have b9:Al (u.drop off)<1000000000 ^ (n+1):=by rw[Int.pow_succ];omega
 have ab:=A6t A h2 ω b9;have ao:=A6u h2 hn;have gd:∀i (h:i<(u.drop off).length),(u.drop off)[i]=u[off+i]' ω:=λi h=>getElem_drop;rw[gd,gd,gd]at ab;have bt:=Q.get (i:=off+n) ω;have bw:=Q.get (i:=off+(n-1)) ω;have bu:=Q.get (i:=off+(n-2)) ω;have bx:=K.get (i:=n-1) ω;have ad:=K.get (i:=n-2) ω;have T:=Lu (n-2);have b8:=H8 ((K.take (n-2)).u32);have aa:=Lv (K.take (n-2));rw[length_take,Nat.min_eq_left ω]at aa;have bb:=H8 ((A.take (n-2)).u32);have ba:=Lv (A.take (n-2));rw[length_take,Nat.min_eq_left ω]at ba;have y:0<Al v:=by have:(1000000000:Int) ^ (n-2)*1<=1000000000 ^ (n-2)*(v[n-1]*1000000000+v[n-2]):=Int.mul_le_mul_of_nonneg_left ω (Int.le_of_lt T);omega
 generalize hq:Al (u.drop off) / Al v=q;have bi:q*Al v<=Al (u.drop off):=by rw[<-hq];exact Int.ediv_mul_le _ ω
 have ar:Al (u.drop off)<(q+1)*Al v:=by rw[<-hq];have:=Int.lt_ediv_add_one_mul_self (Al (u.drop off)) y;exact this
 have ag:0<=q:=by rw[<-hq];exact Int.ediv_nonneg bo ω
 have bg:q<1000000000:=by rw[<-hq];exact Int.ediv_lt_of_lt_mul y (by rw[Int.mul_comm];exact hT)
 have l:(0:Int)<v[n-1]:=ω;generalize ak:u[off+n]*1000000000+u[off+(n-1)]=head at ab;have am:0<=head:=ω;have ca:head<=v[n-1]*1000000000+v[n-2]:=by
  rcases Int.lt_or_le (v[n-1]*1000000000+v[n-2]) head with h|h
  .exfalso;have a1:(1000000000:Int) ^ (n-2)*((v[n-1]*1000000000+v[n-2]+1)*1000000000)<=1000000000 ^ (n-2)*(head*1000000000+u[off+(n-2)]):=Int.mul_le_mul_of_nonneg_left ω (Int.le_of_lt T);have a2:Al v*1000000000<(1000000000 ^ (n-2)*(v[n-1]*1000000000+v[n-2]+1))*1000000000:=(by have:(1000000000:Int) ^ (n-2)*(v[n-1]*1000000000+v[n-2]+1)=1000000000 ^ (n-2)*(v[n-1]*1000000000+v[n-2])+1000000000 ^ (n-2):=(by grind);omega);have a3:((1000000000:Int) ^ (n-2)*(v[n-1]*1000000000+v[n-2]+1))*1000000000=1000000000 ^ (n-2)*((v[n-1]*1000000000+v[n-2]+1)*1000000000):=(by grind);omega
  .exact h
 have cb:0<=head / v[n-1]:=Int.ediv_nonneg am ω;have bm:head / v[n-1]<=1000000001:=by have:head / v[n-1]<1000000002:=Int.ediv_lt_of_lt_mul l ω;omega
 have bf:=Int.emod_nonneg head (ω:v[n-1]≠0);have bz:=Int.emod_lt_of_pos head l;have bn:=Int.mul_ediv_add_emod head v[n-1];unfold Abf;have w1:Ac ((v.length:Int)-1)=((n-1:Nat):Int):=by rw[Ac,B4] <;> omega
 have w2:Ac ((v.length:Int)-2)=((n-2:Nat):Int):=by rw[Ac,B4] <;> omega
 have w3:(v.length:Int)=((n:Nat):Int):=ω;have x1:Ba u[off+n]=u[off+n]:=Dr ω ω;have x2:Ba (u[off+n]*1000000000)=u[off+n]*1000000000:=Dr ω ω;have x3:Ba u[off+(n-1)]=u[off+(n-1)]:=Dr ω ω;have x4:Ba (u[off+n]*1000000000+u[off+(n-1)])=head:=by rw[Ba,Dr ω ω,ak]
 have x5:Ba v[n-1]=v[n-1]:=Dr ω ω;have x6:Ba v[n-2]=v[n-2]:=Dr ω ω;have x7:Ba u[off+(n-2)]=u[off+(n-2)]:=Dr ω ω;rw[w1,w2,Ev rfl (ω:n-1<v.length),Ad,Ev rfl (ω:n-2<v.length),Ad,w3,S6 rfl (ω:n<n+1) ω,Ad,S6 rfl (ω:n-1<n+1) ω,Ad,x1,x2,x3,x4,x5,x6,Mz am ω l,Ad,Mf am l,Ad];refine A6s (Ej (λ(g,m)=>g*v[n-1]+m=head/\0<=m/\m<2000000000/\q<=g/\g<=1000000001) (λ(g,_)=>g.toNat) (λg=>q<=g/\g<=q+1/\g<=1000000000) ⟨by rw[Int.mul_comm];exact bn,bf,ω,?_,bm⟩ ?_ ?_)
 .rcases Int.lt_or_le (head / v[n-1]) q with h|h
  .exfalso;have a1:(head / v[n-1]+1)*v[n-1]<=q*v[n-1]:=Int.mul_le_mul_of_nonneg_right ω ω;have a2:head<(head / v[n-1]+1)*v[n-1]:=Int.lt_ediv_add_one_mul_self head l;have a3:q*(1000000000 ^ (n-2)*(v[n-1]*1000000000+v[n-2]))<=q*Al v:=Int.mul_le_mul_of_nonneg_left ω ag;have a4:(1000000000:Int) ^ (n-2)*((head+1)*1000000000)<=1000000000 ^ (n-2)*(q*(v[n-1]*1000000000+v[n-2])):=(by apply Int.mul_le_mul_of_nonneg_left _ (Int.le_of_lt T);have b1:(head+1)*1000000000<=q*v[n-1]*1000000000:=ω;have b2:0<=q*v[n-2]:=Int.mul_nonneg ag ad.1;have b3:q*(v[n-1]*1000000000+v[n-2])=q*v[n-1]*1000000000+q*v[n-2]:=(by grind);omega);have a5:q*((1000000000:Int) ^ (n-2)*(v[n-1]*1000000000+v[n-2]))=1000000000 ^ (n-2)*(q*(v[n-1]*1000000000+v[n-2])):=(by grind);have a6:(1000000000:Int) ^ (n-2)*((head+1)*1000000000)=1000000000 ^ (n-2)*(head*1000000000)+1000000000 ^ (n-2)*1000000000:=(by grind);have a7:(1000000000:Int) ^ (n-2)*(head*1000000000+u[off+(n-2)])=1000000000 ^ (n-2)*(head*1000000000)+1000000000 ^ (n-2)*u[off+(n-2)]:=(by grind);have a8:(1000000000:Int) ^ (n-2)*(u[off+(n-2)]+1)<=1000000000 ^ (n-2)*1000000000:=Int.mul_le_mul_of_nonneg_left ω (Int.le_of_lt T);have a9:(1000000000:Int) ^ (n-2)*(u[off+(n-2)]+1)=1000000000 ^ (n-2)*u[off+(n-2)]+1000000000 ^ (n-2):=(by grind);omega
  .exact h
 .rintro⟨g,m⟩ ⟨k1,k2,k3,k4,k5⟩;have S:0<=g:=ω;have w4:Ba (v[n-1])=v[n-1]:=x5;have af:∀(w:q<g),(some (Sum.inl ((Ba (g-1)),(Ba (m+v[n-1])))):Option ((Int×Int)⊕Int))=some (.inl (g-1,m+v[n-1])):=(by intro w;rw[show Ba (g-1)=g-1 from Dr ω ω,show Ba (m+v[n-1])=m+v[n-1] from Dr ω ω]);have F:∀(hr:m<1000000000) (w:q<g),(g-1)*v[n-1]+(m+v[n-1])=head/\0<=m+v[n-1]/\m+v[n-1]<2000000000/\q<=g-1/\g-1<=1000000001:=(by intro hr w;exact⟨al1 k1,ω,ω,ω,ω⟩);by_cases hr:m<1000000000
  .by_cases Y:g>=1000000000
   .refine .inl ⟨(g-1,m+v[n-1]),?_,F hr ω,ζ⟩;simp only[As hr,Ak,As Y,Ad];exact af ω
   .have br:=Aha S ω ad.1 ad.2;have y1:Ba (g*v[n-2])=g*v[n-2]:=Dr ω ω;have y2:Ba (m*1000000000)=m*1000000000:=Dr ω ω;have y3:Ba (m*1000000000+u[off+(n-2)])=m*1000000000+u[off+(n-2)]:=Dr ω ω;have az:g*(v[n-1]*1000000000+v[n-2])=(head-m)*1000000000+g*v[n-2]:=gtb k1;simp only[As hr,Ak,Aw Y,Ap,S6 rfl (ω:n-2<n+1) (ω:off+(n-2)<u.length),Ad,y1,x7,y2,y3];by_cases ae:g*v[n-2]>m*1000000000+u[off+(n-2)]
    .have w:q<g:=A6r (P:=1000000000 ^ (n-2)) (tb:=v[n-1]*1000000000+v[n-2]) (hb:=head*1000000000+u[off+(n-2)]) (B:=0) T ao b8 ab ba bi S ω ω;refine .inl ⟨(g-1,m+v[n-1]),?_,F hr w,ζ⟩;rw[As ae,Ak];exact af w
    .refine .inr ⟨g,by rw[Aw ae,Ap],k4,?_,ω⟩;exact Auj (P:=1000000000 ^ (n-2)) (tb:=v[n-1]*1000000000+v[n-2]) (hb:=head*1000000000+u[off+(n-2)]) T ao aa ab bb ar S ω ω y
  .refine .inr ⟨g,by simp only[Aw hr,Ap,Ad],k4,?_⟩;have Y:g<=1000000000:=by
    rcases Int.lt_or_le 1000000000 g with h|h
    .exfalso;have:g=1000000001:=ω;subst this;omega
    .exact h
   refine⟨?_,Y⟩;have az:g*(v[n-1]*1000000000+v[n-2])=(head-m)*1000000000+g*v[n-2]:=gtb k1;have bq:g*v[n-2]<=1000000000*v[n-2]:=Int.mul_le_mul_of_nonneg_right Y ad.1;exact Auj (P:=1000000000 ^ (n-2)) (tb:=v[n-1]*1000000000+v[n-2]) (hb:=head*1000000000+u[off+(n-2)]) T ao aa ab bb ar S ω ω y
 .rintro g ⟨k1,k2,k3⟩;have S:0<=g:=ω;refine Ej (λ(b,i,o)=>∃k:Nat,i=k/\k<=n/\o.length=u.length/\Cj o/\o.take off=u.take off/\o.drop (off+k)=u.drop (off+k)/\0<=b/\b<=1000000001/\Al o-1000000000 ^ (off+k)*b=Al u-1000000000 ^ off*(g*Al (v.take k))) (λ(_,i,_)=>n-i.toNat) (λ(b,o)=>o.length=u.length/\Cj o/\o.take off=u.take off/\o.drop (off+n)=u.drop (off+n)/\0<=b/\b<=1000000001/\Al o-1000000000 ^ (off+n)*b=Al u-1000000000 ^ off*(g*Al v)) ⟨0,rfl,ω,rfl,Q,rfl,rfl,ω,ω,by simp[Al]⟩ ?_ ?_
  .rintro⟨b,i,o⟩ ⟨k,rfl,hk,ho,I,M,L,b6,b5,f⟩;rcases Cf k n with h|h
   .have E:off+k<o.length:=ω;have J:k<v.length:=ω;have hx:=I.get E;have hy:=K.get J;have e4:=M3 h ω;have e5:decide ((k:Int)<(n:Int))=true:=As ω;have av:0<=g*v[k]:=Int.mul_nonneg S hy.1;have c7:g*v[k]<=1000000000*v[k]:=Int.mul_le_mul_of_nonneg_right k3 hy.1;have y1:Ba v[k]=v[k]:=Dr ω ω;have y2:Ba (g*v[k])=g*v[k]:=Dr ω ω;have y3:Ac o[off+k]=o[off+k]:=B4 ω ω;generalize au:g*v[k]=p at *;have y4:Ac (o[off+k]-b)=o[off+k]-b:=B4 ω ω;have y5:Ac (p % 1000000000)=p % 1000000000:=B4 ω ω;have y6:Ac (o[off+k]-b-p % 1000000000)=o[off+k]-b-p % 1000000000:=B4 ω ω;have y7:Ac (p / 1000000000)=p / 1000000000:=B4 ω ω;simp only[e5,Ak,S6 rfl (ω:k<n+1) E,Ev rfl J,Ad,y1,y2,au,y3,y4,Mf av (show (0:Int)<1000000000 by decide),Mz av (show p<=_ by omega) (show (0:Int)<1000000000 by decide),y5,y6,y7];refine .inl (Xu (Ej (λ(b',s)=>∃t:Nat,b'=p / 1000000000+t/\s=o[off+k]-b-p % 1000000000+t*1000000000/\s<1000000000/\t<=3) (λ(_,s)=>(-s).toNat) (λ(b',s)=>∃t:Nat,b'=p / 1000000000+t/\s=o[off+k]-b-p % 1000000000+t*1000000000/\s<1000000000/\0<=s/\t<=2) ⟨0,ψ,ψ,ω,ω⟩ ?_ ?_))
    .rintro⟨b',s⟩ ⟨t,rfl,hs,ac,ht⟩;by_cases G:s<0
     .refine .inl ⟨(p / 1000000000+(t+1:Nat),s+1000000000),?_,⟨t+1,rfl,by rw[hs];simp;omega,ω,ω⟩,ζ⟩;rw[As G,Ak,show Ac (p / 1000000000+(t:Int)+1)=p / 1000000000+((t+1:Nat):Int) by rw[Ac,B4] <;> omega,show Ac (s+1000000000)=s+1000000000 from B4 ω ω]
     .exact .inr ⟨(p / 1000000000+t,s),by rw[Aw G,Ap],t,rfl,hs,ac,ω,ω⟩
    .rintro⟨b',s⟩ ⟨t,rfl,hs,ac,G,ht⟩;have y8:C3 s=s:=Hc ω ω;refine⟨.inl (p / 1000000000+t,((k+1:Nat):Int),o.set (off+k) s),by simp only[S6 rfl (ω:k<n+1) E,Ad,y8,e4];rw[He (n:=off+k) ω],_,rfl,⟨k+1,rfl,ω,by simpa using ho,I.set _ G ac,?_,?_,ω,ω,?_⟩,ζ⟩
     .rw[take_set_of_le ω];exact M
     .rw[drop_set_of_lt ω,show off+(k+1)=(off+k)+1 by omega,<-drop_drop,L,drop_drop]
     .rw[Nv _ E,Hf v J,show off+(k+1)=(off+k)+1 by omega,Int.pow_succ];have ay:=Int.mul_ediv_add_emod p 1000000000;have pa:(1000000000:Int) ^ (off+k)=1000000000 ^ off*1000000000 ^ k:=Int.pow_add ..;have eA:s-1000000000*(p / 1000000000+(t:Int))=o[off+k]-b-p:=(by rw[hs];omega);rw[al2 eA,f,<-au,pa];exact al3 _ _ _ _ _ _
   .have aj:k=n:=ω;subst aj;refine .inr ⟨(b,o),ψ,ho,I,M,L,b6,b5,?_⟩;rw[Ii ω]at f;exact f
  .rintro⟨b,o⟩ ⟨ho,I,M,L,b6,b5,f⟩;have hV:=y;have ah:off+n<o.length:=ω;have ax:o[off+n]=u[off+n]:=(by have:=congrArg head? L;rw[head?_drop,head?_drop,Bq ah,Bq X]at this;exact Eu this);have hE:Al (u.drop (off+n))=u[off+n]:=by
    have a1:=Pu (u.drop off) (n+1) ω;have a2:=H8 (((Q.drop off).take (n+1)).u32);have a3:=Ahb (Q.drop off) (n+1);have a4:Al ((u.drop off).drop (n+1))=0:=by
     rcases Int.lt_or_le 0 (Al ((u.drop off).drop (n+1))) with h|h
     .have:(1000000000:Int) ^ (n+1)*1<=1000000000 ^ (n+1)*Al ((u.drop off).drop (n+1)):=Int.mul_le_mul_of_nonneg_left h (Int.le_of_lt (Lu _));omega
     .omega
    rw[drop_eq_getElem_cons X];simp only[Al];rw[drop_drop,show off+(n+1)=off+n+1 by omega]at a4;rw[a4];omega
   have H:∀C:List Int,C.length=u.length->Cj C->C.take off=u.take off->C.drop (off+n)=u.drop (off+n)->0<=Al ((C.drop off).take n)/\Al ((C.drop off).take n)<1000000000 ^ n /\
     Al C=Al u+1000000000 ^ off*(Al ((C.drop off).take n)+1000000000 ^ n*u[off+n]-Al (u.drop off)):=by intro C l1 l2 l3 l4;have a1:=Pu (C.drop off) n (by rw[length_drop];omega);rw[drop_drop,l4,hE]at a1;have a2:=Auk ω ω l3;refine⟨H8 (((l2.drop off).take n).u32),?_,by rw[<-a1];omega⟩;have:=Lv ((l2.drop off).take n);rw[length_take,length_drop,Nat.min_eq_left ω]at this;exact this
   obtain⟨m1,m2,m3⟩:=H o ho I M L;have pa:(1000000000:Int) ^ (off+n)=1000000000 ^ off*1000000000 ^ n:=Int.pow_add ..;have a0:Al (u.drop off)-g*Al v=Al ((o.drop off).take n)+1000000000 ^ n*(u[off+n]-b):=(by apply Ami (k:=off);rw[m3,pa]at f;exact al4 f);have y1:Ac u[off+n]=u[off+n]:=B4 ω ω;have y2:Ac (u[off+n]-b)=u[off+n]-b:=B4 ω ω;have ap:=Lu n;have fin:∀(U:List Int) (x:Int) (j:List Int),U=j.set (off+n) x->j.length=u.length->Cj j->0<=x->x<1000000000->j.take off=u.take off->Al U=Al u-1000000000 ^ off*(q*Al v) ->
     U.length=u.length/\Cj U/\0<=q/\q<1000000000/\Al U=Al u-1000000000 ^ off*(q*Al v)/\0<=Al (U.drop off)/\Al (U.drop off)<Al v:=by intro U x j e l1 l2 x0 x1 l3 aq;have L4:U.length=u.length:=(by rw[e];simpa using l1);have T4:U.take off=u.take off:=(by rw[e,take_set_of_le ω];exact l3);have hp:=Auk ω ω T4;have hd:Al (U.drop off)=Al (u.drop off)-q*Al v:=(by have:Al (U.drop off)-Al (u.drop off) = - (q*Al v):=(by apply Ami (k:=off);rw[<-hp,aq];exact al5 _ _ _);omega);have bh:(q+1)*Al v=q*Al v+Al v:=(by grind);exact⟨L4,by rw[e];exact l2.set _ x0 x1,ag,bg,aq,ω,ω⟩
   simp only[S6 rfl (ω:n<n+1) ah,ax,Ad,y1,y2];by_cases z:u[off+n]-b>=0
   .have c9:g*Al v<=Al (u.drop off):=(by have:=Int.mul_nonneg (Int.le_of_lt ap) z;omega);have R:g=q:=by
     rcases Int.lt_or_le q g with h|h
     .exfalso;have:(q+1)*Al v<=g*Al v:=Int.mul_le_mul_of_nonneg_right ω ω;omega
     .omega
    have y3:C3 (u[off+n]-b)=u[off+n]-b:=Hc ω ω;have y4:C3 g=g:=Hc ω ω;rw[As z,Ak,y3,y4,He (n:=off+n) ω];refine⟨_,rfl,?_⟩;rw[R];refine fin _ (u[off+n]-b) o rfl ho I z ω M ?_;rw[Nv _ ah,ax];rw[R]at f;exact al6 f
   .have R:g=q+1:=by
     have h1:1000000000 ^ n*(u[off+n]-b)<=1000000000 ^ n*(-1):=Int.mul_le_mul_of_nonneg_left ω (Int.le_of_lt ap);rcases Int.lt_or_le q g with h|h
     .omega
     .exfalso;have:g*Al v<=q*Al v:=Int.mul_le_mul_of_nonneg_right h ω;omega
    rw[Aw z,Ap];refine Ej (λ(c,i,j)=>∃k:Nat,i=k/\k<=n/\j.length=u.length/\Cj j/\j.take off=u.take off/\j.drop (off+k)=o.drop (off+k)/\0<=c/\c<=1/\Al j+1000000000 ^ (off+k)*c=Al o+1000000000 ^ off*Al (v.take k)) (λ(_,i,_)=>n-i.toNat) (λ(c,j)=>j.length=u.length/\Cj j/\j.take off=u.take off/\j.drop (off+n)=o.drop (off+n)/\0<=c/\c<=1/\Al j+1000000000 ^ (off+n)*c=Al o+1000000000 ^ off*Al v) ⟨0,rfl,ω,ho,I,M,rfl,ω,ω,by simp[Al]⟩ ?_ ?_
    .rintro⟨c,i,j⟩ ⟨k,rfl,hk,h3,N,V,Z,b4,b0,D⟩;rcases Cf k n with h|h
     .have E:off+k<j.length:=ω;have J:k<v.length:=ω;have hx:=N.get E;have hy:=K.get J;have e4:=M3 h ω;have e5:decide ((k:Int)<(n:Int))=true:=As ω;have z1:C3 (j[off+k]+v[k])=j[off+k]+v[k]:=Hc ω ω;have z2:C3 (j[off+k]+v[k]+c)=j[off+k]+v[k]+c:=Hc ω ω;generalize hs:j[off+k]+v[k]+c=s at z2;have G:0<=s:=ω;have ac:s<2000000000:=ω;refine .inl ⟨(s / 1000000000,((k+1:Nat):Int),j.set (off+k) (s % 1000000000)),?_,⟨k+1,rfl,ω,by simpa using h3,N.set _ ω ω,?_,?_,ω,ω,?_⟩,ζ⟩
      .simp only[e5,Ak,S6 rfl (ω:k<n+1) E,Ev rfl J,Ad,z1,hs,z2,Alo G (show s<=_ by omega) (show (0:Int)<1000000000 by decide),Mf G (show (0:Int)<1000000000 by decide),e4];rw[He (n:=off+k) ω]
      .rw[take_set_of_le ω];exact V
      .rw[drop_set_of_lt ω,show off+(k+1)=(off+k)+1 by omega,<-drop_drop,Z,drop_drop]
      .rw[Nv _ E,Hf v J,show off+(k+1)=(off+k)+1 by omega,Int.pow_succ];have ay:=Int.mul_ediv_add_emod s 1000000000;have pk:(1000000000:Int) ^ (off+k)=1000000000 ^ off*1000000000 ^ k:=Int.pow_add ..;rw[pk]at D ⊢;exact al7 hs ay D
     .have aj:k=n:=ω;subst aj;refine .inr ⟨(c,j),ψ,h3,N,V,Z,b4,b0,?_⟩;rw[Ii ω]at D;exact D
    .rintro⟨c,j⟩ ⟨h3,N,V,Z,b4,b0,D⟩;have ai:off+n<j.length:=ω;obtain⟨r1,r2,r3⟩:=H j h3 N V (Z.trans L);have bj:j[off+n]=u[off+n]:=(by have:=congrArg head? (Z.trans L);rw[head?_drop,head?_drop,Bq ai,Bq X]at this;exact Eu this);have be:Al (u.drop off)-q*Al v=Al ((j.drop off).take n)+1000000000 ^ n*(u[off+n]-b+c):=(by apply Ami (k:=off);rw[r3,pa]at D;rw[R]at f;rw[pa]at f;exact al8 f D);have bl:u[off+n]-b+c=0:=by
      have bh:(q+1)*Al v=q*Al v+Al v:=(by grind);rcases Int.lt_or_le (u[off+n]-b+c) 0 with h|h
      .exfalso;have h1:1000000000 ^ n*(u[off+n]-b+c)<=1000000000 ^ n*(-1):=Int.mul_le_mul_of_nonneg_left ω (Int.le_of_lt ap);omega
      .omega
     have y5:Ac c=c:=B4 ω ω;have y6:Ac (u[off+n]-b+c)=0:=(by rw[bl];rfl);have y7:C3 (0:Int)=0:=rfl;have y8:Ba (g-1)=q:=(by rw[R,Ba,Dr ω ω];omega);have y9:C3 q=q:=Hc ω ω;simp only[S6 rfl (ω:n<n+1) ai,Ad,y5,y6,y7,y8,y9];rw[He (n:=off+n) ω];refine⟨_,rfl,?_⟩;refine fin _ 0 j rfl h3 N ω ω V ?_;rw[Nv _ ai,bj];rw[R]at f;exact al9 D f ω
theorem A6w (a:List Int) (m:Int):Alc a m=Xi a m:=rfl
theorem A6x (ht:1<=t) (m:t<1000000000) (p:d*(t+1)+r=1000000000) (f:0<=r) (b:r<=t):500000000<=d*t:=by
 have c:0<=d:=by
  rcases Int.lt_or_le d 0 with h|h
  .exfalso;have:d*(t+1)<=(-1)*(t+1):=Int.mul_le_mul_of_nonneg_right ω ω;omega
  .exact h
 have e:d*(t+1)=d*t+d:=by grind
 rcases Int.lt_or_le t 2 with h|h
 .have:t=1:=ω;subst this;omega
 .rcases Int.lt_or_le d 2 with i|i
  .have:d=0\/d=1:=ω;rcases this with rfl|rfl <;> omega
  .have v:2*(t-1)<=d*(t-1):=Int.mul_le_mul_of_nonneg_right i ω;have w:d*(t-1)=d*t-d:=(by grind);omega
theorem bl1 (P t d:Int):P*t*d=P*(d*t):=by grind
theorem bl2 {K Q S:Int} (h:o=u-X*(q*V)) (b:u+V*(X*1000000000)*Q=S):o+V*X*(q+1000000000*Q)=S:=by grind
set_option maxHeartbeats 1000000 in
theorem Amj (m n:Nat) (hm:Bs m<274877906944) (hn:Bs n<274877906944) (G:n≠0):Ur (Ah m) (Ah n)=some (Ah (m / n),Ah (m % n)):=by
 unfold Ur;rw[S4 m n ω ω,Ad];unfold Bs at hm hn;by_cases g:m<n
 .rw[show Fk m n = -1 by rw[Fk,Au g],As (by decide:(-1:Int)<0),Ak,Dl ζ,Ad,Nat.div_eq_of_lt g,Nat.mod_eq_of_lt g,Hv];rfl
 .rw[Aw (show ¬Fk m n<0 by rw[Fk,Ar g];split <;> decide),Ap];have be:(Ah n).length<=(Ah m).length:=Ja ω;have b0:(Ah n).length≠0:=λe=>Kj G (Fr.1 e);by_cases h1:(Ah n).length=1
  .rw[Ef (ω:((Ah n).length:Int)=1),Ak];have a6:n<1000000000:=(by have:=Ou n;rw[show Bs n=1 from h1]at this;simpa using this);have am:Ah n = [(n:Int)]:=(by rw[Ot G,Nat.div_eq_of_lt a6,Hv,Nat.mod_eq_of_lt a6]);rw[am,show Ag [(n:Int)] 0=some (n:Int) from rfl,Ad,show Ba (n:Int)=n from Dr ω ω,Amh m n (by unfold Bs;omega) ω ω,Ad];have az:m % n<n:=Nat.mod_lt _ ω;rw[Q8 (m % n) ω,Ad]
  .rw[Cu (ω:((Ah n).length:Int)≠1),Ap];generalize C:(Ah n).length=L at *;generalize hA:(Ah m).length=A at *;have w1:Ac ((L:Int)-1)=((L-1:Nat):Int):=ξ;have F:L-1<(Ah n).length:=ω;have ht:=(F0 n).get F;have ax:(Ah n)[L-1]≠0:=(by have:=(Agj n).2 (Kj G);rw[getLast_eq_getElem]at this;simpa[C] using this);generalize y:(Ah n)[L-1]=t at *;have w2:Ba t=t:=Dr ω ω;have w3:Ba (t+1)=t+1:=Dr ω ω;rw[w1,Ev rfl F,y,Ad,w2,w3,Mz δ δ ω,Ad];have U:=Int.mul_ediv_add_emod 1000000000 (t+1);have ah:=Int.emod_nonneg 1000000000 (ω:t+1≠0);have b9:=Int.emod_lt_of_pos 1000000000 (ω:0<t+1);have aq:1<=1000000000 / (t+1):=by
    rcases Int.lt_or_le (1000000000 / (t+1)) 1 with h|h
    .exfalso;have:(t+1)*(1000000000 / (t+1))<=(t+1)*0:=Int.mul_le_mul_of_nonneg_left ω ω;omega
    .exact h
   have ap:1000000000 / (t+1)<=500000000:=(by have:=Int.ediv_lt_of_lt_mul (a:=1000000000) (b:=500000001) (c:=t+1) ω ω;omega);obtain⟨d,hd⟩:∃d:Nat,1000000000 / (t+1)=(d:Int):=⟨(1000000000 / (t+1)).toNat,ω⟩;rw[hd]at U aq ap ⊢;obtain⟨u,ag,E,S,R⟩:=Aui (Ah m) d (F0 m) ω ω;obtain⟨p,af,ae,D,b7⟩:=Aui (Ah n) d (F0 n) ω ω;rw[ag,Ad,A6w,af,Ad,Gc]at *;rw[C]at ae;rw[hA]at E;rw[Xv rfl (ω:L<=p.length),Ad];have x:=Lu (L-1);have pL:(1000000000:Int) ^ L=1000000000 ^ (L-1)*1000000000:=(by rw[<-Int.pow_succ];congr 1;omega);have Y:=Hf (Ah n) F;rw[Ii ω,Gc,y]at Y;have ay:=H8 (((F0 n).take (L-1)).u32);have Z:=Lv ((F0 n).take (L-1));rw[length_take,C,Nat.min_eq_left ω]at Z;have bb:(n:Int)*d<1000000000 ^ L:=(by have a1:(n:Int)*d<(1000000000 ^ (L-1)*(t+1))*d:=Int.mul_lt_mul_of_pos_right (by have:(1000000000:Int) ^ (L-1)*(t+1)=1000000000 ^ (L-1)*t+1000000000 ^ (L-1):=(by grind);omega) ω;have H:(1000000000 ^ (L-1)*(t+1))*(d:Int)=1000000000 ^ (L-1)*((t+1)*d):=(by grind);have a3:(1000000000:Int) ^ (L-1)*((t+1)*d)<=1000000000 ^ (L-1)*1000000000:=Int.mul_le_mul_of_nonneg_left ω (Int.le_of_lt x);omega);have M:Al (p.take L)=(n:Int)*d:=by
    have e:=Pu p L ω;have z:Al (p.drop L)=0:=by
     have a1:=Ahb D L;have H:=H8 ((D.take L).u32);rcases Int.lt_or_le 0 (Al (p.drop L)) with h|h
     .have:(1000000000:Int) ^ L*1<=1000000000 ^ L*Al (p.drop L):=Int.mul_le_mul_of_nonneg_left h (Int.le_of_lt (Lu _));omega
     .omega
    rw[z]at e;omega
   have I:(p.take L).length=L:=(by rw[length_take];omega);have f:=D.take L;have J:L-1<(p.take L).length:=ω;have ak:500000000<=(d:Int)*t:=A6x (r:=1000000000 % (t+1)) ω ω (by rw[Int.mul_comm];exact U) ah ω;have l:500000000<=(p.take L)[L-1]:=by
    have e:=Hf (p.take L) J;rw[Ii ω,M]at e;have b1:=Lv (f.take (L-1));rw[length_take,I,Nat.min_eq_left ω]at b1;have b2:(1000000000:Int) ^ (L-1)*t*d<=n*d:=Int.mul_le_mul_of_nonneg_right ω ω;have b3:(1000000000:Int) ^ (L-1)*500000000<=1000000000 ^ (L-1)*(d*t):=Int.mul_le_mul_of_nonneg_left ak (Int.le_of_lt x);rw[bl1]at b2;rcases Int.lt_or_le (p.take L)[L-1] 500000000 with h|h
    .exfalso;have b4:(1000000000:Int) ^ (L-1)*((p.take L)[L-1]+1)<=1000000000 ^ (L-1)*500000000:=Int.mul_le_mul_of_nonneg_left ω (Int.le_of_lt x);have b5:(1000000000:Int) ^ (L-1)*((p.take L)[L-1]+1)=1000000000 ^ (L-1)*(p.take L)[L-1]+1000000000 ^ (L-1):=(by grind);omega
    .exact h
   generalize b6:p.take L=v at *;have w4:Ac ((A:Int)-(L:Int))=((A-L:Nat):Int):=ξ;have w5:Ac (((A-L:Nat):Int)+1)=((A-L+1:Nat):Int):=ξ;rw[w4,w5,Ld rfl rfl (Nat.le_refl _) ω ω,Ad,E];have b8:=H8 S.u32;have ar:(0:Int)<(n:Int)*d:=Int.mul_pos ω ω;refine Ki (λ(i,w,q)=>∃k:Nat,i=(k:Int)-1/\k<=A-L+1/\w.length=A+1/\Cj w/\q.length=A-L+1/\Cj q/\Al w<Al v*1000000000 ^ k/\Al w+Al v*1000000000 ^ k*Al (q.drop k)=(m:Int)*d) (λ(i,_,_)=>(i+1).toNat) (λ(w,q)=>w.length=A+1/\Cj w/\q.length=A-L+1/\Cj q/\Al w<Al v/\Al w+Al v*Al q=(m:Int)*d) ⟨A-L+1,ω,Nat.le_refl _,E,S,ψ,Cj.replicate _,?_,by rw[drop_of_length_le ψ];simp[Al,R]⟩ ?_ ?_
   .have aj:(m:Int)<1000000000 ^ A:=(by have:=Lv (F0 m);rwa [Gc,hA]at this);have a1:(m:Int)*d<1000000000 ^ A*500000000:=(by have c1:(m:Int)*d<=m*500000000:=Int.mul_le_mul_of_nonneg_left ω ω;have c2:(m:Int)*500000000<1000000000 ^ A*500000000:=Int.mul_lt_mul_of_pos_right aj δ;omega);have H:(1000000000:Int) ^ (L-1)*500000000<=Al v:=(by have e:=Hf v J;rw[Ii ω]at e;have b1:=H8 ((f.take (L-1)).u32);have b3:(1000000000:Int) ^ (L-1)*500000000<=1000000000 ^ (L-1)*v[L-1]:=Int.mul_le_mul_of_nonneg_left l (Int.le_of_lt x);omega);have a3:(1000000000:Int) ^ (L-1)*500000000*1000000000 ^ (A-L+1)<=Al v*1000000000 ^ (A-L+1):=Int.mul_le_mul_of_nonneg_right H (Int.le_of_lt (Lu _));have a4:(1000000000:Int) ^ (L-1)*500000000*1000000000 ^ (A-L+1)=1000000000 ^ A*500000000:=(by have:(1000000000:Int) ^ A=1000000000 ^ (L-1)*1000000000 ^ (A-L+1):=(by rw[<-Int.pow_add];congr 1;omega);rw[this];grind);rw[R];omega
   .rintro⟨i,w,q⟩ ⟨k,rfl,hk,ac,B,X,V,a7,s⟩;cases k with
    | zero=>exact .inr ⟨(w,q),ψ,ac,B,X,V,by simpa using a7,by simpa using s⟩
    | succ j=>
     have e0:((j+1:Nat):Int)-1=(j:Int):=ω;have e1:decide ((j:Int)>=0)=true:=As ω;have w6:Ac ((j:Int)+(L:Int))=((j+L:Nat):Int):=ξ;have w7:Ac (((j+L:Nat):Int)+1)=((j+L+1:Nat):Int):=ξ;have sA:Ru (A+1) (j:Int) ((j+L+1:Nat):Int)=some (j,j+L+1):=(by have c1:(0:Int)<=(j:Int):=ω;have c2:(j:Int)<=((j+L+1:Nat):Int):=ω;have c3:((j+L+1:Nat):Int)<=((A+1:Nat):Int):=ω;have c4:(j:Int)=0\/(j:Int)<((j+L+1:Nat):Int):=ω;rw[Ru,Au ⟨c1,c2,c3,c4⟩];rfl);have au:Al (w.drop j)<Al v*1000000000:=by
      have s1:=Pu w j ω;have s2:=H8 ((B.take j).u32);rcases Int.lt_or_le (Al (w.drop j)) (Al v*1000000000) with h|h
      .exact h
      .exfalso;have:(1000000000:Int) ^ j*(Al v*1000000000)<=1000000000 ^ j*Al (w.drop j):=Int.mul_le_mul_of_nonneg_left h (Int.le_of_lt (Lu _));have e:Al v*(1000000000:Int) ^ (j+1)=1000000000 ^ j*(Al v*1000000000):=(by rw[Int.pow_succ];grind);omega
     obtain⟨Q,o,r1,r2,r3,r4,r5,r6,r7,r8⟩:=A6v v w j L f B I ω ω l ω au;have a8:j<q.length:=ω;have w8:Ac ((j:Int)-1)=(j:Int)-1:=ξ;have lG:F6 (A+1) o=some ():=(by rw[F6,Au ω]);refine .inl ⟨((j:Int)-1,o,q.set j Q),?_,⟨j,rfl,ω,ω,r3,by simpa using X,V.set _ r4 r5,?_,?_⟩,ψ⟩
     .simp only[e0,e1,Ak,w6,w7,sA,Ad,Nat.zero_add,show j+L+1-j=L+1 by omega,r1,lG,Ev rfl a8,w8,He rfl]
     .have s1:=Pu o j ω;have s2:=Lv (r3.take j);rw[length_take,Nat.min_eq_left ω]at s2;have:(1000000000:Int) ^ j*(Al (o.drop j)+1)<=1000000000 ^ j*Al v:=Int.mul_le_mul_of_nonneg_left ω (Int.le_of_lt (Lu _));have e:(1000000000:Int) ^ j*(Al (o.drop j)+1)=1000000000 ^ j*Al (o.drop j)+1000000000 ^ j:=(by grind);rw[Int.mul_comm (Al v)];omega
     .have d1:(q.set j Q).drop j=Q::q.drop (j+1):=(by rw[drop_eq_getElem_cons (by simpa using a8),drop_set_of_lt ω];simp);rw[d1];simp only[Al];rw[Int.pow_succ]at s;exact bl2 (K:=0) r6 s
   .rintro⟨w,q⟩ ⟨h2,T,h4,h5,h6,h7⟩;rw[M]at h6 h7;have ad:=H8 T.u32;have ba:=H8 h5.u32;have N:=(Int.ediv_emod_unique ar (r:=Al w) (q:=Al q) (a:=(m:Int)*d)).2 ⟨by rw[<-h7],ad,h6⟩;have ao:(m*d) / (n*d)=m / n:=Nat.mul_div_mul_right m n ω;have ai:(m*d) % (n*d)=(m % n)*d:=Nat.mul_mod_mul_right d m n;have av:Al q=((m / n:Nat):Int):=(by rw[<-N.1,<-ao];simp);have aa:Al w=(((m % n)*d:Nat):Int):=(by rw[<-N.2,<-ai];simp);have ab:Bs ((m % n)*d)<1099511627776:=(by have g:=Lv T;have:Bs ((m % n)*d)<=A+1:=(by apply Kk;rw[h2,aa]at g;have e:((1000000000 ^ (A+1):Nat):Int)=1000000000 ^ (A+1):=(by rw[Int.natCast_pow];rfl);omega);omega);dsimp only;rw[S3 w ω,Ad,M0 T aa,Amh _ d ab ω ω,Ad,S3 q ω,Ad,M0 h5 av,Nat.mul_div_cancel _ ω]
theorem Aul (h:Bs n<=2):n<1000000000000000000:=by have e:=Ou n;have i:1000000000 ^ Bs n<=1000000000 ^ 2:=Nat.pow_le_pow_right δ h;omega
theorem Aum (n:Nat) (h:Bs n<=2):Xh (Ah n)=some ((n:Int),true):=by
 unfold Xh;unfold Bs at h;have m:=F0 n;refine Ki (λ(w,i)=>∃k:Nat,i=k/\k<=(Ah n).length/\w=Al ((Ah n).drop ((Ah n).length-k))) (λ(_,i)=>(Ah n).length-i.toNat) (λe=>match e with|.inl _=>False | .inr w=>w=n) ⟨0,rfl,ω,by simp[Al]⟩ ?_ ?_
 .rintro⟨w,i⟩ ⟨k,rfl,D,rfl⟩;rcases Cf k (Ah n).length with c|v
  .have A:decide ((k:Int)<((Ah n).length:Int))=true:=As ω;have u:Ac (((Ah n).length:Int)-1)=((Ah n).length:Int)-1:=ξ;have s:Ac (((Ah n).length:Int)-1-(k:Int))=(((Ah n).length-1-k:Nat):Int):=ξ;have p:(Ah n).length-1-k<(Ah n).length:=ω;have E:=m.get p;have y:=Ahb m ((Ah n).length-k);have b:=Lv (m.drop ((Ah n).length-k));rw[length_drop,show (Ah n).length-((Ah n).length-k)=k by omega]at b;have x:(1000000000:Int) ^ k<=1000000000:=(by have:k=0\/k=1:=ω;rcases this with rfl|rfl <;> decide);have q:Ba (Ah n)[(Ah n).length-1-k]=(Ah n)[(Ah n).length-1-k]:=Dr ω ω;have l:Ba (18446744073709551615-(Ah n)[(Ah n).length-1-k])=18446744073709551615-(Ah n)[(Ah n).length-1-k]:=Dr ω ω;have j:Ba (Al ((Ah n).drop ((Ah n).length-k))*1000000000)=Al ((Ah n).drop ((Ah n).length-k))*1000000000:=Dr ω ω;have g:Ba (Al ((Ah n).drop ((Ah n).length-k))*1000000000+(Ah n)[(Ah n).length-1-k])=Al ((Ah n).drop ((Ah n).length-k))*1000000000+(Ah n)[(Ah n).length-1-k]:=Dr ω ω;have z:=M3 c ω;have B:¬Al ((Ah n).drop ((Ah n).length-k))>(18446744073709551615-(Ah n)[(Ah n).length-1-k]) / 1000000000:=ω;refine .inl ⟨(Al ((Ah n).drop ((Ah n).length-k))*1000000000+(Ah n)[(Ah n).length-1-k],((k+1:Nat):Int)),?_,⟨k+1,rfl,ω,?_⟩,ζ⟩
   .simp only[A,Ak,u,s,Ev rfl p,Ad,q,l,Mz (show 0<=18446744073709551615-(Ah n)[(Ah n).length-1-k] by omega) (show 18446744073709551615-(Ah n)[(Ah n).length-1-k]<=_ by omega) (show (0:Int)<1000000000 by decide),Aw B,Ap,j,g,z]
   .have C:(Ah n).drop ((Ah n).length-(k+1))=(Ah n)[(Ah n).length-1-k]::(Ah n).drop ((Ah n).length-k):=(by rw[show (Ah n).length-(k+1)=(Ah n).length-1-k by omega,drop_eq_getElem_cons p];congr 2;omega);rw[C];simp only[Al];omega
  .have:k=(Ah n).length:=ω;subst this;refine .inr ⟨.inr _,by simp;rfl,?_⟩;exact Gc n
 .rintro (e|e) f
  .exact f.elim
  .simp only at f ⊢;rw[f]
theorem A6y (m n:Nat) (s:Bs m<274877906944) (l:Bs n<274877906944):Aa8 (Ah m) (Ah n)=some (Ah (Nat.gcd m n)):=by
 unfold Aa8;refine Ki (λ(a,b)=>∃x y:Nat,a=Ah x/\b=Ah y/\Bs x<274877906944/\Bs y<274877906944/\Nat.gcd x y=Nat.gcd m n) (λ(_,b)=>(Al b).toNat) (λe=>match e with|.inl r=>r=Ah (Nat.gcd m n) | .inr r=>r=Ah (Nat.gcd m n)) ⟨m,n,rfl,rfl,s,l,rfl⟩ ?_ ?_
 .rintro⟨a,b⟩ ⟨x,y,rfl,rfl,D,C,B⟩;by_cases c:y=0
  .subst c;refine .inr ⟨.inr (Ah x),by rw[Hv];rfl,?_⟩;show Ah x=_;rw[<-B,Nat.gcd_zero_right]
  .have z:(Ah y).length≠0:=λe=>Kj c (Fr.1 e);have k:decide (((Ah y).length:Int)>0)=true:=As ω;by_cases w:Bs x<=2/\Bs y<=2
   .have i:=Aul w.1;have h:=Aul w.2;unfold Bs at w;simp only[k,Ak,As (ω:((Ah x).length:Int)<=2),As (ω:((Ah y).length:Int)<=2),Ad,Aum x w.1,Aum y w.2];refine .inr (A45 (Ej (λ(p,q)=>∃u v:Nat,p=u/\q=v/\u<1000000000000000000/\v<1000000000000000000/\Nat.gcd u v=Nat.gcd m n) (λ(_,q)=>q.toNat) (λ(p,q)=>p=((Nat.gcd m n:Nat):Int)/\Nat.gcd m n<1000000000000000000) ⟨x,y,rfl,rfl,i,h,B⟩ ?_ ?_))
    .rintro⟨p,q⟩ ⟨u,v,rfl,rfl,F,E,f⟩;by_cases j:v=0
     .subst j;refine .inr ⟨((u:Int),(0:Int)),rfl,?_⟩;rw[Nat.gcd_zero_right]at f;exact⟨by rw[f],ω⟩
     .refine .inl ⟨((v:Int),((u % v:Nat):Int)),?_,⟨v,u % v,rfl,rfl,E,by have:=Nat.mod_lt u (ω:v>0);omega,?_⟩,?_⟩
      .simp only[As (ω:(v:Int)>0),Ak,Mf (ω:(0:Int)<=u) (ω:(0:Int)<v),Ad];rfl
      .rw[<-f,Nat.gcd_comm v,<-Nat.gcd_rec,Nat.gcd_comm]
      .have:=Nat.mod_lt u (ω:v>0);simp only[Int.toNat_natCast];exact this
    .rintro⟨p,q⟩ ⟨rfl,A⟩;dsimp only;rw[Q8 _ ω];exact⟨_,rfl,_,rfl,rfl⟩
   .refine .inl ⟨(Ah y,Ah (x % y)),?_,⟨y,x % y,rfl,rfl,C,by have:=Ja (Nat.mod_le x y);omega,?_⟩,?_⟩
    .have:(bif ((Ah x).length:Int)<=(2:Int) then some (decide (((Ah y).length:Int)<=(2:Int))) else some false)=some false:=by
      unfold Bs at w;by_cases G:(Ah x).length<=2
      .rw[As (ω:((Ah x).length:Int)<=2),Ak,Aw (ω:¬((Ah y).length:Int)<=2)]
      .rw[Aw (ω:¬((Ah x).length:Int)<=2),Ap]
     simp only[k,Ak];rw[this,Ad,Ap,Amj x y D C c,Ad]
    .rw[<-B,Nat.gcd_comm y,<-Nat.gcd_rec,Nat.gcd_comm]
    .simp only[Gc];have:=Nat.mod_lt x (ω:y>0);omega
 .rintro (e|e) g
  .simp only at g ⊢;rw[g]
  .simp only at g ⊢;rw[g]
theorem X6:Ah 1 = [1]:=by rw[Ot δ,show 1 / 1000000000=0 by decide,Hv];rfl
theorem Amk (n:Nat):Uq (Ah n)=some (decide (n=1)):=by
 unfold Uq;by_cases i:n=0
 .subst i;rw[Hv];rfl
 .rw[Ot i];by_cases m:n / 1000000000=0
  .rw[m,Hv];have e:Ag [((n % 1000000000:Nat):Int)] 0=some ((n % 1000000000:Nat):Int):=rfl;simp only[length_singleton,e,Ad];have:(((1:Nat):Int)==(1:Int))=true:=rfl;rw[this,Ak];congr 1;by_cases b:n=1
   .subst b;rfl
   .rw[Cu ω,Aw b]
  .have c:(Ah (n / 1000000000)).length≠0:=λe=>Kj m (Fr.1 e);rw[Cu ζ,Ap,Aw ω]
def Cg (b:Bool) (n d:Nat):Ao:=if n=0 then ⟨false,[],[1]⟩ else ⟨b,Ah (n / Nat.gcd n d),Ah (d / Nat.gcd n d)⟩
theorem P6 (b:Bool) (n d:Nat) (g:Bs n<274877906944) (p:Bs d<274877906944):Ph ⟨b,Ah n,Ah d⟩=some (Cg b n d):=by
 unfold Ph Afh;dsimp only;by_cases i:n=0
 .subst i;rw[Hv];rfl
 .have h:(Ah n).length≠0:=λe=>Kj i (Fr.1 e);rw[Cu ω,Ap,Amk,Ad,Cg,Ar i];by_cases v:d=1
  .subst v;rw[As rfl,Ak];simp
  .rw[Aw v,Ap,A6y n d g p,Ad,Amk,Ad];by_cases m:Nat.gcd n d=1
   .rw[As m,Ak,m];simp
   .have f:Nat.gcd n d≠0:=(by have:=Nat.gcd_pos_of_pos_left d (ω:0<n);omega);have c:Bs (Nat.gcd n d)<274877906944:=(by have:=Ja (Nat.gcd_le_left d (ω:0<n));omega);rw[Aw m,Ap,Amj n _ g c f,Ad,Amj d _ p c f,Ad];rfl
def nv (a:Ao):Nat:=if (Al a.U).toNat=0\/(Al a.B).toNat=0 then 0 else (Al a.U).toNat
def dv (a:Ao):Nat:=if (Al a.U).toNat=0\/(Al a.B).toNat=0 then 1 else (Al a.B).toNat
def sv (a:Ao):Bool:=if (Al a.U).toNat=0\/(Al a.B).toNat=0 then false else a.N
structure RB (k:Nat) (a:Ao):Prop where
 num:Nu a.U
 den:Nu a.B
 nl:a.U.length<=k
 dl:a.B.length<=k
theorem A6z (h:Nu l):Al l<=5*1000000000 ^ l.length-5:=by induction l with| nil=>simp[Al]| cons d l ih=>have i:=h d ψ;have m:=ih λx e=>h x (by simp[e]);simp only[Al,D2];rw[Int.pow_succ];omega
theorem A60 (h:Nu l):Al l<1000000000 ^ (l.length+1):=by have e:=A6z h;have hp:=Lu l.length;rw[Int.pow_succ];omega
theorem Ahc (h:Nu l):Bs (Al l).toNat<=l.length+1:=by
 apply Kk;have i:=A60 h;have m:=H8 h;have e:((1000000000 ^ (l.length+1):Nat):Int)=1000000000 ^ (l.length+1):=by rw[Int.natCast_pow];rfl
 omega
theorem RB.mono {j:Nat} (h:RB j a) (hk:j<=k):RB k a:=⟨h.num,h.den,by have:=h.nl;omega,by have:=h.dl;omega⟩
theorem Oz:Bs 1=1:=by unfold Bs;rw[X6];rfl
theorem RB.nv (h:RB k a):Bs (nv a)<=k+1:=by
 unfold Ab.nv;split
 .simp[Ab4]
 .have:=Ahc h.num;have:=h.nl;omega
theorem RB.dv (h:RB k a):Bs (dv a)<=k+1:=by
 unfold Ab.dv;split
 .simp[Oz]
 .have:=Ahc h.den;have:=h.dl;omega
theorem F2 (a:Ao):dv a≠0:=by
 unfold dv;split
 .decide
 .omega
theorem S7 (a:Ao) (k:Nat) (h:RB k a) (p:k<274877906900):No a=some ⟨sv a,Ah (nv a),Ah (dv a)⟩:=by
 unfold No;have v:=h.nl;have w:=h.dl;rw[Auf _ h.num ω,Ad,Auf _ h.den ω,Ad];unfold nv dv sv;generalize (Al a.U).toNat=x;generalize (Al a.B).toNat=y;by_cases i:x=0
 .subst i;simp only[Hv,true_or,if_true,X6];rfl
 .have c:(Ah x).length≠0:=λe=>Kj i (Fr.1 e);by_cases m:y=0
  .subst m;simp only[Hv,or_true,if_true,X6,Cu (ω:((Ah x).length:Int)≠0),Ap];rfl
  .have b:(Ah y).length≠0:=λe=>Kj m (Fr.1 e);simp only[i,m,or_self,if_false,Cu (ω:((Ah x).length:Int)≠0),Ap,Cu (ω:((Ah y).length:Int)≠0),Ad]
end Go.Ab
