/- Plain laws. -/
import Derived.Test.YtbpbaimlddncnaaGreatDoorPcPl0
open List
namespace Go.Ab
open Go
mutual
theorem Aoz (data:List Am):∀(i:Ai) (t:Ag) (d:Nat),D2 data i t=some d->d<=6*Bt i
 | ⟨n,e⟩,t,d,h=>by
  rw[N3]at h
  simp only[Bt]
  simp only at h
  split at h
  .split at h
   .have:=Yo data e _ d h;omega
   .cases h
  .split at h
   .split at h
    .cases h;omega
    .cases h
   .split at h
    .split at h
     .have:=Ao0 data e _ d h;omega
     .cases h
    .split at h
     .cases h;omega
     .cases h
theorem Yo (data:List Am):∀(is:List Ai) (ts:List Ag) (d:Nat),Di data is ts=some d->d<=6*B5 is
 | [],[],d,h=>by simp only[Di]at h;cases h;omega
 | i::is,t::ts,d,h=>by
  rw[O8]at h
  cases e:D2 data i t with
  | none=>rw[e]at h;cases h
  | some a=>
   rw[e,Ad]at h
   cases m:Di data is ts with
   | none=>rw[m]at h;cases h
   | some b=>
    rw[m]at h
    cases h
    have:=Aoz data i t a e
    have:=Yo data is ts b m
    simp only[B5];omega
 | [],_::_,d,h=>by simp only[Di]at h;cases h
 | _::_,[],d,h=>by simp only[Di]at h;cases h
theorem Ao0 (data:List Am):∀(es:List Ai) (t:Ag) (d:Nat),F0 data es t=some d->d<=6*B5 es
 | [],t,d,h=>by simp only[F0]at h;cases h;omega
 | ⟨n,e⟩::es,t,d,h=>by
  rw[U9]at h
  simp only at h
  cases p:Ht data t n with
  | none=>rw[p]at h;cases h
  | some v=>
   rw[p,Ad]at h
   cases i:Di data e v with
   | none=>rw[i]at h;cases h
   | some a=>
    rw[i,Ad]at h
    cases m:F0 data es t with
    | none=>rw[m]at h;cases h
    | some b=>
     rw[m]at h
     cases h
     have:=Yo data e v a i
     have:=Ao0 data es t b m
     simp only[B5,Bt];omega
end
variable {data:List Am} {o:Option Nat} {α:Type}
def Vc (data:List Am) (e:Ai) (t:Ag):Option Nat:=(Ht data t e.U).bind λi=>(Di data e.K i).map (1 + ·)
theorem Az3 (data:List Am) (e:Ai) (es:List Ai) (t:Ag):F0 data (e::es) t=(Vc data e t).bind λa=>(F0 data es t).map (a + ·):=by rw[U9];unfold Vc;cases Ht data t e.U with| none=>rfl| some i=>simp only[Ad];cases Di data e.K i <;> rfl
theorem Az4 (data:List Am) (e:Ai) (t:Ag) (d:Nat) (h:Vc data e t=some d):d<=6*Bt e:=by
 unfold Vc at h;cases m:Ht data t e.U with
 | none=>rw[m]at h;cases h
 | some p=>rw[m,Ad]at h;cases i:Di data e.K p with| none=>rw[i]at h;cases h| some a=>rw[i]at h;cases h;have:=Yo data _ p a i;have:=Fe e;show 1+a<=_;omega
def Dg (v:Int) (o:Option Nat):Prop:=(v = -1/\∀d,o=some d->6<d)\/∃d:Nat,o=some d/\v=d
theorem Dg.clip {v:Int} (h:Dg v o):(if v>6 then -1 else v)=Jd o:=by
 rcases h with⟨rfl,h⟩|⟨d,rfl,rfl⟩
 .rw[Ay ω,Aoq h]
 .by_cases hd:6<d
  .rw[A7 ω,Ahq hd]
  .rw[Ay ω,Qq ω]
theorem Acr {p:Option Nat} {acc:Nat} {d:Nat} (h:(o.bind λa=>p.map (a + ·)).map (acc + ·)=some d):∃a b,o=some a/\p=some b/\d=acc+(a+b):=by
 cases o with
 | none=>cases h
 | some a=>cases p with| none=>cases h| some b=>exact⟨a,b,rfl,rfl,by simp at h;omega⟩
theorem Az5 (hz:Szv data) (hs:N2 data) (b1:List (ByteArray×Int)) (b2:List (ByteArray×List Ar)) (vars:List Ag) (M L:Int) (J:List Ag):∀k:Nat, (∀(i:Ai) (t:Ag),3*Bt i<=k->Bt i<=1048576->Bw t<=200->∃v,P8 k t i b1 b2 data vars M L J=some v/\Dg v (D2 data i t)) /\ (∀(is:List Ai) (ts:List Ag),3*B5 is+1<=k->B5 is<=1048576->(∀t∈ts,Bw t<=200)->∃v,R4 k ts is b1 b2 data vars M L J=some v/\Dg v (Di data is ts)) /\ (∀(e:Ai) (t:Ag),3*Bt e<=k->Bt e<=1048576->Bw t<=200->∃v,R5 k t e b1 b2 data vars M L J=some v/\Dg v (Vc data e t)):=by
 intro k;induction k with
 | zero=>exact⟨λi t h=>by have:=Fe i;omega,λis ts h=>ω,λi t h=>by have:=Fe i;omega⟩
 | succ k ih=>
  obtain⟨a6,N,a7⟩:=ih;have B:∀o:Option Nat,o.map (0 + ·)=o:=(by intro o;cases o <;> simp);have c:∀d:Nat,(none:Option Nat)=some d->6<d:=λd h=>by cases h
  refine⟨?_,?_,?_⟩
  .intro i t hk hi ht;have af:=Fe i;have R:=O7 i.K;rw[P8,N3];by_cases Y:t.G=6
   .simp only[Gb Y,Al,A7 Y];by_cases H:i.U=0
    .simp only[Gb H,Al,A7 H];obtain⟨p,p1,p2⟩:=N i.K t.R ω ω (λa F=>by have:=J1 F;have:=Jm t;omega);rw[p1];exact⟨p,rfl,p2⟩
    .simp only[Dc H,Ao,Ay H];exact⟨_,rfl,.inl ⟨rfl,c⟩⟩
   .simp only[Dc Y,Ao,Ay Y];by_cases X:t.G=7
    .simp only[Gb X,Al,A7 X];by_cases C:0<=i.U
     .by_cases a2:i.U<=6
      .by_cases a3:i.K.length=0
       .rw[Aq (show i.U>=0 from C),Aq a2,A7 ⟨C,a2,a3⟩,Gb ω];exact⟨_,rfl,.inr ⟨i.U.toNat,rfl,ω⟩⟩
       .rw[Aq (show i.U>=0 from C),Aq a2,Ay λh=>a3 h.2.2,Dc ω];exact⟨_,rfl,.inl ⟨rfl,c⟩⟩
      .rw[Aq (show i.U>=0 from C),Aw a2,Ay λh=>a2 h.2.1];exact⟨_,rfl,.inl ⟨rfl,c⟩⟩
     .rw[Aw (show ¬i.U>=0 from C),Ay λh=>C h.1];exact⟨_,rfl,.inl ⟨rfl,c⟩⟩
    .simp only[Dc X,Ao,Ay X];by_cases Z:t.G=5
     .simp only[Gb Z,Al,A7 Z];by_cases H:i.U=0
      .simp only[Hw H,Ao,A7 H];have T:∀(m j w:Nat),j+m=i.K.length->w<=10000000->∃z,An (S:=(Int×Int)) (E:=(Int⊕Int)) (λ(D,v8)=>
         bif v8<(i.K.length:Int) then ((Ah i.K v8).bind λv9=> (R5 k t v9 b1 b2 data vars M L J).bind λG=> bif G<(0:Int) then some (.inr (.inl (-1))) else (bif D>(6:Int) then some (.inr (.inl (-1))) else some (.inl ((Ac (D+G)),(Ac (v8+1)))))) else some (.inr (.inr D))) ((w:Int),(j:Int))=some z/\Dg (match z with|.inl v=>v | .inr v=>v) ((F0 data (i.K.drop j) t).map (w + ·)):=by
        intro m;induction m with
        | zero=>intro j w hj s;have:j=i.K.length:=ω;subst this;exact⟨.inr (w:Int),Fm ψ,.inr ⟨w,by simp[F0],rfl⟩⟩
        | succ m q=>
         intro j w hj s;have f:i.K[j]? = some i.K[j]:=B3 ω;generalize i.K[j]=e at f;have ac:=K6 (B6 f);rw[J3 f,Az3];obtain⟨v,A,K⟩:=a7 e t ω ω ht;rcases K with⟨rfl,K⟩|⟨a,C,rfl⟩
         .refine⟨.inl (-1),Fm ?_,.inl ⟨rfl,λd h=>?_⟩⟩
          .simp only[Aq (ω:(j:Int)<(i.K.length:Int)),Al,Bu rfl f,Ad,A];rfl
          .obtain⟨a,b,F,hb,rfl⟩:=Acr h;have:=K a F;omega
         .have U:=Az4 data e t a C;by_cases hb:w>6
          .refine⟨.inl (-1),Fm ?_,.inl ⟨rfl,λd h=>?_⟩⟩
           .simp only[Aq (ω:(j:Int)<(i.K.length:Int)),Al,Bu rfl f,Ad,A,Aw (ω:¬(a:Int)<0),Aq (ω:(w:Int)>6),Ao]
           .obtain⟨a,b,F,hb,rfl⟩:=Acr h;omega
          .have ew:Ac ((w:Int)+(a:Int))=((w+a:Nat):Int):=ξ;obtain⟨z,g,Q⟩:=q (j+1) (w+a) ω ω;refine⟨z,?_,?_⟩
           .rw[Kd (s':=(((w+a:Nat):Int),((j+1:Nat):Int)))]
            .exact g
            .simp only[Aq (ω:(j:Int)<(i.K.length:Int)),Al,Bu rfl f,Ad,A,Aw (ω:¬(a:Int)<0),Aw (ω:¬(w:Int)>6),Ao,ew,C3 (show j<i.K.length by omega) ω]
           .have B:∀o:Option Nat,(((some a:Option Nat).bind λa=>o.map (a + ·)).map (w + ·))=o.map (w+a + ·):=(by intro o;cases o <;> simp[Nat.add_assoc]);rw[C,B];exact Q
       obtain⟨z,g,Q⟩:=T i.K.length 0 0 ω ω;have g:An _ ((0:Int),(0:Int))=some z:=g;rw[g,Ad];rw[drop_zero,B]at Q;cases z with| inl v=>exact⟨v,rfl,Q⟩| inr v=>exact⟨v,rfl,Q⟩
      .simp only[Gc H,Al,Ay H];exact⟨_,rfl,.inl ⟨rfl,c⟩⟩
     .simp only[Dc Z,Ao,Ay Z];by_cases H:i.U=0
      .simp only[Gb H,Al];by_cases a3:i.K.length=0
       .rw[A7 ⟨H,a3⟩,Gb ω];exact⟨_,rfl,.inr ⟨0,rfl,rfl⟩⟩
       .rw[Ay λh=>a3 h.2,Dc ω];exact⟨_,rfl,.inl ⟨rfl,c⟩⟩
      .simp only[Dc H,Ao];rw[Ay λh=>H h.1];exact⟨_,rfl,.inl ⟨rfl,c⟩⟩
  .intro is ts hk hi ht;have R:=O7 is;rw[R4];by_cases hl:ts.length=is.length
   .rw[Hw ω];simp only[Ao];have T:∀(m j w:Nat),j+m=is.length->w<=10000000->∃z,An (S:=(Int×Int)) (E:=(Int⊕Int)) (λ(v5,V)=>
      bif V<(ts.length:Int) then ((Ah ts V).bind λD=> (Ah is V).bind λv9=> (P8 k D v9 b1 b2 data vars M L J).bind λI=> bif I<(0:Int) then some (.inr (.inl (-1))) else (bif v5>(6:Int) then some (.inr (.inl (-1))) else some (.inl ((Ac (v5+I)),(Ac (V+1)))))) else some (.inr (.inr v5))) ((w:Int),(j:Int))=some z/\Dg (match z with|.inl v=>v | .inr v=>v) ((Di data (is.drop j) (ts.drop j)).map (w + ·)):=by
     intro m;induction m with
     | zero=>intro j w hj s;have:j=ts.length:=ω;subst this;refine⟨.inr (w:Int),Fm ψ,.inr ⟨w,?_,rfl⟩⟩;rw[drop_of_length_le ω,drop_of_length_le ω];simp[Di]
     | succ m q=>
      intro j w hj s;have f:is[j]? = some is[j]:=B3 ω;generalize is[j]=e at f;have hu:ts[j]? = some ts[j]:=B3 ω;generalize ts[j]=u at hu;have ac:=K6 (B6 f);rw[J3 f,J3 hu,O8];obtain⟨v,A,K⟩:=a6 e u ω ω (ht u (B6 hu));rcases K with⟨rfl,K⟩|⟨a,C,rfl⟩
      .refine⟨.inl (-1),Fm ?_,.inl ⟨rfl,λd h=>?_⟩⟩
       .simp only[Aq (ω:(j:Int)<(ts.length:Int)),Al,Bu rfl f,Bu rfl hu,Ad,A];rfl
       .obtain⟨a,b,F,hb,rfl⟩:=Acr h;have:=K a F;omega
      .have U:=Aoz data e u a C;by_cases hb:w>6
       .refine⟨.inl (-1),Fm ?_,.inl ⟨rfl,λd h=>?_⟩⟩
        .simp only[Aq (ω:(j:Int)<(ts.length:Int)),Al,Bu rfl f,Bu rfl hu,Ad,A,Aw (ω:¬(a:Int)<0),Aq (ω:(w:Int)>6),Ao]
        .obtain⟨a,b,F,hb,rfl⟩:=Acr h;omega
       .have ew:Ac ((w:Int)+(a:Int))=((w+a:Nat):Int):=ξ;obtain⟨z,g,Q⟩:=q (j+1) (w+a) ω ω;refine⟨z,?_,?_⟩
        .rw[Kd (s':=(((w+a:Nat):Int),((j+1:Nat):Int)))]
         .exact g
         .simp only[Aq (ω:(j:Int)<(ts.length:Int)),Al,Bu rfl f,Bu rfl hu,Ad,A,Aw (ω:¬(a:Int)<0),Aw (ω:¬(w:Int)>6),Ao,ew,C3 (show j<is.length by omega) ω]
        .have B:∀o:Option Nat,(((some a:Option Nat).bind λa=>o.map (a + ·)).map (w + ·))=o.map (w+a + ·):=(by intro o;cases o <;> simp[Nat.add_assoc]);rw[C,B];exact Q
    obtain⟨z,g,Q⟩:=T is.length 0 0 ω ω;have g:An _ ((0:Int),(0:Int))=some z:=g;rw[g,Ad];rw[drop_zero,drop_zero,B]at Q;cases z with| inl v=>exact⟨v,rfl,Q⟩| inr v=>exact⟨v,rfl,Q⟩
   .rw[Gc ω,Ahp data is ts hl];exact⟨_,rfl,.inl ⟨rfl,c⟩⟩
  .intro e t hk f ht;have ag:=Fe e;rw[R5];unfold Vc Ht;rw[Ahl hz t ht e.U,Ad];cases hf:Na data t e.U with
   | none=>exact⟨-1,rfl,.inl ⟨rfl,c⟩⟩
   | some l=>
    have ad:=Ahm hf;obtain⟨x,y,_,hx,_,hy,hl,ab⟩:=U8 hf;obtain⟨y6,_⟩:=hz x (Iv hx).2.2.2 y (Iv hy).2.2.2;have ae:l.length<=6:=(by rw[hl];simpa using y6);have aa:∀a∈Il l (Hj data t.U e.U),Bw a<=200:=(Aho (show Ht data t e.U=some _ by unfold Ht;rw[hf];rfl)).1;obtain⟨v,A,K⟩:=N e.K (Il l (Hj data t.U e.U)) ω ω aa;have hd:Dg (if v<0 then -1 else 1+v) (((some l).map λl=>Il l (Hj data t.U e.U)).bind λts=>(Di data e.K ts).map (1 + ·)):=by
     rw[Option.map_some,Ad];rcases K with⟨rfl,K⟩|⟨a,C,rfl⟩
     .refine .inl ⟨rfl,λd h=>?_⟩;cases F:Di data e.K (Il l (Hj data t.U e.U)) with| none=>rw[F]at h;cases h| some a=>rw[F]at h;have:=K a F;simp at h;omega
     .rw[C,Ay ω];exact .inr ⟨1+a,rfl,ω⟩
    have a8:v = -1\/(0<=v/\v<=10000000):=by
     rcases K with⟨rfl,K⟩|⟨a,C,rfl⟩
     .exact .inl rfl
     .have:=Yo data _ _ a C;right;omega
    refine⟨_,?_,hd⟩;simp only[okL,bnt,Ao,Acb data t.U e.U hs,Ad];refine F7 (Hj data t.U e.U) (λj=>((j:Int),Il (l.take j) ((Hj data t.U e.U).take j))) (by simp[Il]) ω ?_ ?_
    .intro j b hj hb h1 h2 h3;have F:l[j]? = some l[j]:=B3 ω;generalize l[j]=a at F;have R:=Acg (l.take j) ((Hj data t.U e.U).take j);have:(l.take j).length<=6:=ζ;simp only[h1,h2,h3,Al,Ad,Bu rfl F,Ahn F hb];rw[Dn ζ];cases b <;> simp
    .intro h1;refine⟨Il l (Hj data t.U e.U),?_,?_⟩
     .simp only[h1];rw[Iz ω,Iz (Nat.le_refl _)];rfl
     .rw[A,Ad];rcases a8 with h|h
      .subst h;rfl
      .rw[Aw ω,Ay ω];simp only[Ao];rw[Ac,B8] <;> omega
def E6 (vars:List Ag) (res:Ag) (v:Int):Option Ag:=if v = -1 then some res else Ah vars v
def Dm (data:List Am) (vars:List Ag) (res:Ag) (o:List (ByteArray×Int)):Prop:=∀p∈o,∀v i t,p.1=N5 v i->E6 vars res v=some t->p.2=Jd (D2 data i t)
theorem Ahx {α:Type}:∀(o:List (ByteArray×α)) (s:ByteArray) (v:α),∀p∈Fx o s v,p∈o\/p=(s,v)
 | [],s,v,p,h=>by simp only[Fx,D0]at h;exact .inr h
 | q::o,s,v,p,h=>by
  unfold Fx at h;cases e:(s==q.1) with
  | true=>
   rw[e]at h;simp only[Al,Fp]at h;rcases h with h|h
   .exact .inr h
   .exact .inl (by simp[h])
  | false=>
   rw[e]at h;simp only[Ao,Fp]at h;rcases h with h|h
   .exact .inl (by simp[h])
   .rcases Ahx o s v p h with h|h
    .exact .inl (by simp[h])
    .exact .inr h
theorem Az6 (D:Szv data) (F:N2 data) (b1:List (ByteArray×Int)) (b2:List (ByteArray×List Ar)) (vars:List Ag) (res:Ag) (f:Dm data vars res b1) (v:Int) (i:Ai) (t:Ag) (e:E6 vars res v=some t) (b:Bw t<=200) (E:El v) (G:iR i) (C:Bt i<=1048576) : ∃s,L5 v i b1 b2 data vars res.G res.U res.R=some (Jd (D2 data i t),s)/\Dm data vars res s:=by
 unfold L5;rw[Acq v i E G C,Ad];cases g:Ej b1 (N5 v i) with
 | true=>refine⟨b1,?_,f⟩;have:Hq b1 (N5 v i) 0=Jd (D2 data i t):=(by unfold Hq;unfold Ej at g;rw[any_eq_true]at g;obtain⟨p,A,z⟩:=g;cases m:b1.find? (λp=>N5 v i==p.1) with| none=>exact absurd z (by have:=find?_eq_none.1 m p A;simpa using this)| some q=>have H:=find?_some m;exact f q (mem_of_find?_eq_some m) v i t ((Md _ _).1 H).symm e);simp only[Al,Ad,bnt,Ao,this]
 | false=>
  obtain⟨w,x,u⟩:=(Az5 D F b1 b2 vars res.G res.U res.R 4000000).1 i t ω C b;have c:M2 v b1 b2 data vars res.G res.U res.R=some t:=by
   unfold M2;unfold E6 at e;by_cases h:v = -1
   .rw[A7 h]at e;cases e;have I:(Ag.mk res.G res.U res.R)=res:=(by cases res;rfl);rw[Gb h,I];rfl
   .rw[Ay h]at e;rw[Dc h,e];rfl
  have j:(bif decide (w>6) then some (-1) else some w:Option Int)=some (Jd (D2 data i t)):=by
   rw[<-u.clip];by_cases h:w>6
   .rw[Aq h,A7 h];rfl
   .rw[Aw h,Ay h];rfl
  refine⟨Fx b1 (N5 v i) (Jd (D2 data i t)),?_,?_⟩
  .simp only[Ao,Ad,Bool.not_false,Al,c,x,j]
  .intro p hp y B t' l k;rcases Ahx _ _ _ p hp with h|h
   .exact f p h y B t' l k
   .subst h;obtain⟨rfl,rfl⟩:=Az1 l;rw[e]at k;cases k;rfl
def Ff (a b:Int):Int:=if a<b then -1 else if a>b then 1 else 0
def orI (a b:Int):Int:=if a=0 then b else a
theorem Jn {a b:Int}:Ff a b=0↔a=b:=by unfold Ff;split <;> (try split) <;> omega
theorem N6 (a b:Int):Lj a b=some (Ff a b):=by
 unfold Lj Xr Ff;simp only[Ad,bne_self_eq_false,Ao];by_cases h:a<b
 .rw[Aq h,A7 h];rfl
 .rw[Aw h,Ay h];by_cases e:a>b
  .rw[Aq e,A7 e];rfl
  .rw[Aw e,Ay e];rfl
theorem Ao1 (a b:Int):Xh a b=some (Ff a b):=N6 a b
theorem Vd (a b:Int):Nu [a,b]=some (orI a b):=by
 unfold Nu orI;by_cases e:a=0
 .rw[A7 e];by_cases hb:b=0
  .refine Jl 2 (λj=>(j:Int)) rfl ?_ ⟨.inr (),rfl,by rw[hb]⟩;intro j i
   match j,i with| 0,_=>subst e;rfl| 1,_=>subst hb;rfl
  .refine Jl 1 (λj=>(j:Int)) rfl ?_ ⟨.inl b,?_,rfl⟩
   .intro j i
    match j,i with| 0,_=>subst e;rfl
   .show (bif (b != 0) then _ else _)=_;rw[Gc hb];rfl
 .rw[Ay e];refine Jl 0 (λj=>(j:Int)) rfl (λj i=>ω) ⟨.inl a,?_,rfl⟩;show (bif (a != 0) then _ else _)=_;rw[Gc e];rfl
def F1 {α:Type} (g:α->α->Int):List α->List α->Int
 | x::xs,y::e=>orI (g x y) (F1 g xs e)
 | _,_=>0
theorem Az7 (g:α->α->Int) (l m:List α) {step:Int->Option (Int⊕(Int⊕Unit))} (f:l.length=m.length) (hb:l.length<4611686018427387904) (B:∀(j:Nat) (x y:α),l[j]? = some x->m[j]? = some y->decide ((j:Int)<(l.length:Int))=true->Ah l (j:Int)=some x->Ah m (j:Int)=some y->decide ((j:Int)>=(m.length:Int))=false->Ac ((j:Int)+1)=((j+1:Nat):Int) -> step (j:Int)=if g x y=0 then some (.inl ((j+1:Nat):Int)) else some (.inr (.inl (g x y)))) (c:decide ((l.length:Int)<(l.length:Int))=false->step (l.length:Int)=some (.inr (.inr ()))) : ∃z,An step 0=some z/\(match z with|.inl r=>r=F1 g l m/\r≠0 | .inr _=>F1 g l m=0):=by
 have w:∀(n j:Nat),j+n=l.length->∃z,An step (j:Int)=some z/\(match z with|.inl r=>r=F1 g (l.drop j) (m.drop j)/\r≠0 | .inr _=>F1 g (l.drop j) (m.drop j)=0):=by
  intro n;induction n with
  | zero=>intro j C;have:j=l.length:=ω;subst this;refine⟨.inr (),Fm (c ψ),?_⟩;rw[drop_of_length_le ω];simp[F1]
  | succ n ih=>
   intro j C;have p:l[j]? = some l[j]:=B3 ω;have v:m[j]? = some m[j]:=B3 ω;generalize l[j]=x at p;generalize m[j]=y at v;have h:=B j x y p v (Aq ω) (Bu rfl p) (Bu rfl v) (Aw ω) (C3 (show j<l.length by omega) hb);rw[J3 p,J3 v];by_cases i:g x y=0
   .rw[A7 i]at h;obtain⟨z,b,A⟩:=ih (j+1) ω;refine⟨z,by rw[Kd h];exact b,?_⟩;have e:F1 g (x::l.drop (j+1)) (y::m.drop (j+1))=F1 g (l.drop (j+1)) (m.drop (j+1)):=(by simp only[F1,orI,i,if_true]);cases z with| inl r=>simp only[e];exact A| inr u=>simp only[e];exact A
   .rw[Ay i]at h;refine⟨.inl (g x y),Fm h,?_,i⟩;simp only[F1,orI,i,if_false]
 exact w l.length 0 ω
theorem Acs (f:α->α->Option Int) (g:α->α->Int) (l m:List α) (s:l.length=m.length) (hb:l.length<4611686018427387904) (p:∀(j:Nat) (x y:α),l[j]? = some x->m[j]? = some y->f x y=some (g x y)) : ((An (S:=Int) (E:=(Int⊕Unit)) (λb=> bif b<(l.length:Int) then ((Ah l b).bind λq=> bif b>=(m.length:Int) then some (.inr (.inl 1)) else ((Ah m b).bind λv=> (f q v).bind λc=> bif (c != (0:Int)) then some (.inr (.inl c)) else some (.inl (Ac (b+1))))) else some (.inr (.inr ()))) 0).bind λz=> match z with
   | .inl i=>some i
   | .inr _=>bif (l.length:Int)<(m.length:Int) then some (-1) else some 0)=some (F1 g l m):=by
 refine An2 (Az7 g l m s hb ?_ (λh=>by simp only[h];rfl)) ?_
 .intro j x y w C D F G B A;simp only[D,F,G,B,A,Al,Ao,Ad,p j x y w C];by_cases e:g x y=0
  .rw[Hw e,A7 e];rfl
  .rw[Gc e,Ay e];rfl
 .rintro (r|u) k
  .rw[k.1]
  .simp only;rw[Aw ω,show F1 g l m=0 from k];rfl
def Yp (x y:B0):Int:=orI (Ff x.v y.v) (Ff x.C y.C)
def Hk (a b:Bz):Int:=if a.T.length=b.T.length then orI (F1 Yp a.T b.T) (Ff a.Q b.Q) else Ff a.T.length b.T.length
theorem Acu (a b:Bz) (i:a.T.length<1099511627776):Mz a b=some (Hk a b):=by
 unfold Mz Hk;rw[N6,Ad];by_cases h:a.T.length=b.T.length
 .rw[Hw (Jn.2 ω),A7 h];simp only[Ao];have:=Acs Xg Yp a.T b.T h ω (λj x y _ _=>by unfold Xg Yp;rw[N6,Ao1];simp only[Ad,Vd]);rw[show Aa4 a.T b.T=_ from this,Ad,Ao1];simp only[Ad,Vd]
 .rw[Gc λe=>h (by have:=Jn.1 e;omega),Ay h];rfl
mutual
def Gf:Ai->Ai->Int
 | ⟨n,k⟩,j=>if n=j.U then (if k.length=j.K.length then S4 k j.K else Ff k.length j.K.length) else Ff n j.U
def S4:List Ai->List Ai->Int
 | x::xs,y::e=>orI (Gf x y) (S4 xs e)
 | [],_=>0
 | _::_,[]=>0
end
theorem Ao2 (i j:Ai):Gf i j=if i.U=j.U then (if i.K.length=j.K.length then S4 i.K j.K else Ff i.K.length j.K.length) else Ff i.U j.U:=by cases i;simp only[Gf]
theorem Ahy:∀l m:List Ai,S4 l m=F1 Gf l m
 | x::xs,y::e=>by simp only[S4,F1,Ahy xs e]
 | [],_=>by simp[S4,F1]
 | _::_,[]=>by simp[S4,F1]
theorem Ao3:∀(n k:Nat) (i j:Ai),Bt i<=n->2*n<=k->n<1099511627776->Ox k i j=some (Gf i j):=by
 intro n;induction n with
 | zero=>intro k i j h;have:=Fe i;omega
 | succ n ih=>
  intro k i j h w c;obtain⟨k,rfl⟩:∃b,k=b+2:=⟨k-2,ω⟩;have A:=Fe i;have f:=O7 i.K;rw[Ox,Ao2,N6,N6];simp only[Ad,Vd];by_cases m:i.U=j.U
  .rw[A7 m];by_cases p:i.K.length=j.K.length
   .rw[A7 p,Hw (by unfold orI;rw[Jn.2 m,Jn.2 ω];rfl),Ahy];simp only[Ao];have:=Acs (Ox k) Gf i.K j.K p ω λq x y v B=>ih k x y (by have:=K6 (B6 v);omega) ω ω;rw[Xw];refine Eq.trans (congrArg (λq=>Option.bind q _) this) rfl
   .have e:orI (Ff i.U j.U) (Ff (i.K.length:Int) (j.K.length:Int))=Ff i.K.length j.K.length:=(by unfold orI;rw[Jn.2 m];rfl);rw[Ay p,e,Gc λe=>p (by have:=Jn.1 e;omega)];rfl
  .have e:orI (Ff i.U j.U) (Ff (i.K.length:Int) (j.K.length:Int))=Ff i.U j.U:=(by unfold orI;rw[Ay λe=>m (Jn.1 e)]);rw[Ay m,e,Gc λe=>m (Jn.1 e)];rfl
def Ve (x y:Bg):Int:=orI (Ff x.v y.v) (Gf x.I y.I)
def Yq (x y:Bc):Int:=orI (Hk x.L y.L) (Ff x.P y.P)
def Ea (a b:Br):Int := if a.F.length=b.F.length then orI (F1 Ve a.F b.F) (if a.A.length=b.A.length then F1 Yq a.A b.A else Ff a.A.length b.A.length) else Ff a.F.length b.F.length
structure MSz (m:Br):Prop where
 nf:m.F.length<=1048576
 na:m.A.length<=1048576
 fi:∀f∈m.F,Bt f.I<=1048576
 fr:∀f∈m.F,iR f.I/\El f.v
 al:∀a∈m.A,a.L.T.length<=1048576
theorem Ao4 (a b:Br) (i:MSz a):P6 a b=some (Ea a b):=by
 have A:=i.nf;have B:=i.na;unfold P6 Ea;rw[N6,Ad];by_cases h:a.F.length=b.F.length
 .rw[Hw (Jn.2 ω),A7 h];simp only[Ao];have:=Acs Xk Ve a.F b.F h ω (λj x y p w=>by unfold Xk Ve;rw[N6,Ao3 1048576 4000000 x.I y.I (i.fi x (B6 p)) ω ω];simp only[Ad,Vd]);rw[show Aa6 a.F b.F=_ from this,Ad,N6];simp only[Ad,Vd];by_cases v:F1 Ve a.F b.F=0
  .simp only[v,orI,if_true];by_cases m:a.A.length=b.A.length
   .rw[Hw (Jn.2 ω),A7 m];simp only[Ao];have:=Acs Xl Yq a.A b.A m ω (λj x y p w=>by unfold Xl Yq;rw[N6,Acu x.L y.L (by have:=i.al x (B6 p);omega)];simp only[Ad,Vd]);rw[show Aa7 a.A b.A=_ from this];rfl
   .rw[Gc λe=>m (by have:=Jn.1 e;omega),Ay m];rfl
  .simp only[orI,Ay v];rw[Gc v];rfl
 .rw[Gc λe=>h (by have:=Jn.1 e;omega),Ay h];rfl
def Me {α:Type} (f:α->Int) (l:List α) (x:α) (j:Nat):Bool:=j==0||(match l[j-1]? with|some y=>decide (f y<f x) | none=>false)
def Acv (l:List B0) (x:B0) (j:Nat):Bool:=decide (-1<=x.v/\x.v<3000/\x.C≠0/\-1048576<=x.C/\x.C<=1048576)&&Me (·.v) l x j
def G4 (a:Bz):Bool:=decide (-1048576<=a.Q/\a.Q<=1048576/\a.T.length<=16)&&a.T.zipIdx.all (λq=>Acv a.T q.1 q.2)
theorem Ao5 (n:Int):Ul n=some (decide (-1048576<=n/\n<=1048576)):=by unfold Ul;by_cases h:(-1048576:Int)<=n <;> simp[h]
theorem Az8 (n:Int):P5 n=some (decide (-1<=n/\n<3000)):=by unfold P5;by_cases h:(-1:Int)<=n <;> simp[h]
theorem Ao6 {α S E:Type} (f:α->Int) (l:List α) {x:α} {j:Nat} (v:l[j]? = some x) (i:l.length<4611686018427387904) (c b:Option (S⊕E)) : (bif decide ((j:Int)>0) then ((Ah l (Ac ((j:Int)-1))).bind λg=>bif decide (f g>=f x) then c else b) else b)=bif Me f l x j then b else c:=by
 have A:=Ez v;unfold Me;by_cases h:j=0
 .subst h;rfl
 .rw[Aq ω];have e:Ac ((j:Int)-1)=((j-1:Nat):Int):=ξ;have m:l[j-1]? = some l[j-1]:=B3 ω;rw[e,Bu rfl m,m];have w:(j==0)=false:=(by simpa using h);simp only[Al,Ad,w,Bool.false_or];by_cases p:f l[j-1]<f x
  .rw[Aw ω,Aq p];rfl
  .rw[Aq ω,Aw p];rfl
theorem Ahz (a:Bz):Ot a=some (G4 a):=by
 unfold Ot G4;rw[Ao5];simp only[Ad];by_cases e : -1048576<=a.Q/\a.Q<=1048576
 .rw[Aq e];by_cases v:a.T.length<=16
  .rw[Aw (ω:¬(a.T.length:Int)>16),Aq ⟨e.1,e.2,v⟩];simp only[bnt,Ao,Ad,Bool.true_and];refine (Ab7 a.T (λq=>Acv a.T q.1 q.2) (λj=>(j:Int)) rfl ω (rt:=true) (rf:=false) ?_ ?_).trans (by rw[Ag9])
   .intro j x w _ e v A;simp only[e,v,A,Al,Ad,Az8,Ao5,Ao6 (·.v) a.T w ω,Acv];by_cases i : -1<=x.v/\x.v<3000
    .by_cases m:x.C=0
     .rw[Aq i,Gb m,Aw λh=>h.2.2.1 m];exact⟨nofun,λ_=>⟨.inl false,rfl,rfl⟩⟩
     .by_cases p : -1048576<=x.C/\x.C<=1048576
      .rw[Aq i,Dc m,Aq p,Aq ⟨i.1,i.2,m,p.1,p.2⟩];cases Me (·.v) a.T x j with| true=>exact⟨λ_=>rfl,λh=>by cases h⟩| false=>exact⟨nofun,λ_=>⟨.inl false,rfl,rfl⟩⟩
      .rw[Aq i,Dc m,Aw p,Aw λh=>p h.2.2.2];exact⟨nofun,λ_=>⟨.inl false,rfl,rfl⟩⟩
    .rw[Aw i,Aw λh=>i ⟨h.1,h.2.1⟩];exact⟨nofun,λ_=>⟨.inl false,rfl,rfl⟩⟩
   .intro h _;exact⟨.inr (),by simp only[h];rfl,rfl⟩
  .rw[Aq (ω:(a.T.length:Int)>16),Aw λh=>v h.2.2];rfl
 .rw[Aw e,Aw λh : -1048576<=a.Q/\a.Q<=1048576/\a.T.length<=16=>e ⟨h.1,h.2.1⟩];rfl
structure Lp (data:List Am) (vars:List Ag) (res:Ag):Prop where
 vd:Hy data
 sh:N2 data
 sz:∀v t,E6 vars res v=some t->Bw t<=200
 nv:vars.length<=3000
theorem Ao7 (vars:List Ag) (res:Ag) (v:Int):(E6 vars res v).isSome=decide (-1<=v/\v<vars.length):=by
 unfold E6;by_cases h:v = -1
 .rw[A7 h];subst h;rw[Aq ω];rfl
 .rw[Ay h];cases e:Ah vars v with
  | none=>rcases Yl e with i|i <;> rw[Aw ω] <;> rfl
  | some t=>have:=Iv e;rw[Aq ω];rfl
section
variable (b1:List (ByteArray×Int)) (b2:List (ByteArray×List Ar)) (data:List Am) (vars:List Ag) (res:Ag)
theorem Ao8 (v:Int) (f c:Int) (b:List Ag):Rr v b1 b2 data vars f c b=some (E6 vars res v).isSome:=by
 rw[Ao7];unfold Rr;by_cases h:v>=-1
 .rw[Aq h];by_cases e:v<(vars.length:Int)
  .rw[Aq e,Aq ⟨h,e⟩];rfl
  .rw[Aw e,Aw λg=>e g.2];rfl
 .rw[Aw h,Aw λg : -1<=v/\v<(vars.length:Int)=>h g.1];rfl
theorem Ao9 {v:Int} {t:Ag} (e:E6 vars res v=some t):M2 v b1 b2 data vars res.G res.U res.R=some t:=by
 unfold M2;unfold E6 at e;by_cases h:v = -1
 .rw[A7 h]at e;cases e;have b:(Ag.mk res.G res.U res.R)=res:=(by cases res;rfl);rw[Gb h,b];rfl
 .rw[Ay h]at e;rw[Dc h,e];rfl
def Yr (t:B0):Bool:=match E6 vars res t.v with|some u=>u.G==1|none=>false
def I1 (l:Bz):Bool:=l.T.all (Yr vars res)
theorem Az9 (l:Bz) (c:l.T.length<=1048576):Rs l b1 b2 data vars res.G res.U res.R=some (I1 vars res l):=by
 unfold Rs Aa1 Aa8;have p:=An3 l.T (λt=>!Yr vars res t) ω (J:=λz=>match z with|.inl b=>some b | .inr _=>some (-1)) (step:=λm=>bif m<(l.T.length:Int) then ((Ah l.T m).bind λv=>(Uk v b1 b2 data vars res.G res.U res.R).bind λw=>bif w then some (.inr (.inl m)) else some (.inl (Ac (m+1)))) else some (.inr (.inr ()))) (by intro j x G A B C;have e:Uk x b1 b2 data vars res.G res.U res.R=some (!Yr vars res x):=(by unfold Uk Yr;rw[Ao8 b1 b2 data vars res,Ad];cases D:E6 vars res x.v with| none=>rfl| some t=>rw[Ao9 b1 b2 data vars res D];rfl);simp only[A,B,C,Al,Ad,e]) (λh=>by simp only[h];rfl) (λ_=>rfl) rfl
 obtain⟨i,E,F⟩:=p
 erw[E];simp only[Ad,F];congr 1;unfold I1;rw[any_eq_not_all_not];simp
def D8 (f:Bg):Int:=match E6 vars res f.v with|some t=>Jd (D2 data f.I t) | none => -1
theorem A0a (f:Bg) : -1<=D8 data vars res f/\D8 data vars res f<=6:=by
 unfold D8;cases E6 vars res f.v with
 | none=>simp
 | some t=>rcases Aop (D2 data f.I t) with⟨h,_⟩|⟨d,_,e,h⟩ <;> simp only[h] <;> omega
def I2 (m:Br):Bool:=m.F.all (λf=>decide (0<=D8 data vars res f))&&m.A.all (λa=>decide (0<=a.P)&&I1 vars res a.L)
def Ch (l:List Bg):Int:=(l.map (D8 data vars res)).sum
def Dr (l:List Bc):Int:=(l.map (·.P)).sum
def Pb (l:List Bc) (x:Bc) (j:Nat):Bool:=j==0||(match l[j-1]? with|some y=>decide (Hk y.L x.L<0) | none=>false)
def Pc (l:List Bg) (f:Bg) (j:Nat):Bool:=decide (1<=D8 data vars res f)&&Me (·.v) l f j
def Pd (l:List Bc) (a:Bc) (j:Nat):Bool:=decide (1<=a.P)&&G4 a.L && !(a.L.T.length==0)&&I1 vars res a.L&&Pb l a j
def Jo (m:Br):Bool:=m.F.zipIdx.all (λq=>Pc data vars res m.F q.1 q.2)&&m.A.zipIdx.all (λq=>Pd vars res m.A q.1 q.2)&&decide (Ch data vars res m.F+Dr m.A<=6)
variable {b1 data vars res}
theorem Acw (m:Lp data vars res) (i:Dm data vars res b1) (f:Bg) (g:El f.v) (h:iR f.I) (p:Bt f.I<=1048576) (b:(E6 vars res f.v).isSome=true) : ∃c,L5 f.v f.I b1 b2 data vars res.G res.U res.R=some (D8 data vars res f,c)/\Dm data vars res c:=by cases e:E6 vars res f.v with| none=>rw[e]at b;cases b| some t=>obtain⟨c,v,w⟩:=Az6 m.vd.szv m.sh b1 b2 vars res i f.v f.I t e (m.sz _ _ e) g h p;refine⟨c,?_,w⟩;rw[v];unfold D8;rw[e]
theorem Apa (Q:Lp data vars res) (V:Dm data vars res b1) (m:Br) (l:MSz m) :
  ∃s,Rn m b1 b2 data vars res.G res.U res.R=some (I2 data vars res m,s)/\Dm data vars res s:=by
 have hf:=l.nf
 have ha:=l.na
 unfold Rn
 refine U7 (λs=>(I2 data vars res m,s)) ?_
 obtain⟨r,U,N⟩:=Aha (M:=List (ByteArray×Int)) (R:=Bool×List (ByteArray×Int)) m.F (λq=>decide (0<=D8 data vars res q.1)) (λj o=>((j:Int),o)) (Dm data vars res)
  (λr=>Dm data vars res r.2/\r.1=m.A.all λa=>decide (0<=a.P)&&I1 vars res a.L) (λr=>Dm data vars res r.2/\r.1=false) b1
  (s0:=((0:Int),b1))
  (step:=(λ(A,x)=>
   bif A<(m.F.length:Int) then (
   (Ah m.F A).bind λF=>
   (Rr F.v x b2 data vars res.G res.U res.R).bind λB=>
   bif (!B) then some (.inr (.inl (false,x)))
   else (
   (L5 F.v F.I x b2 data vars res.G res.U res.R).bind λg=>
   bif g.1<(0:Int) then some (.inr (.inl (false,g.2)))
   else some (.inl ((Ac (A+1)),g.2))))
   else some (.inr (.inr x)):Int×List (ByteArray×Int)->Option ((Int×List (ByteArray×Int))⊕((Bool×List (ByteArray×Int))⊕List (ByteArray×Int)))))
  (J:=(λz=>match z with
   | .inl (L,I)=>some (L,I)
   | .inr b=>(An (S:=Int) (E:=((Bool×List (ByteArray×Int))⊕Unit)) (λc=>
     bif c<(m.A.length:Int) then (
     (Ah m.A c).bind λu=>
     bif u.P<(0:Int) then some (.inr (.inl (false,b)))
     else (
     (Rs u.L b b2 data vars res.G res.U res.R).bind λH=>
     bif (!H) then some (.inr (.inl (false,b)))
     else some (.inl (Ac (c+1)))))
     else some (.inr (.inr ()))) 0).bind λz=>match z with
      | .inl (G,D)=>some (G,D)
      | .inr _=>some (true,b)))
  rfl V ω (by
   intro j f o y K _ p w v
   have k:=B6 K
   simp only[p,w,v,Al,Ad,Ao8 o b2 data vars res]
   cases i:(E6 vars res f.v).isSome with
   | false=>
    have e:D8 data vars res f = -1:=by
     unfold D8
     cases T:E6 vars res f.v with
     | none=>rfl
     | some t=>rw[T]at i;cases i
    rw[e]
    exact⟨nofun,λ_=>⟨_,rfl,_,rfl,y,rfl⟩⟩
   | true=>
    obtain⟨s,d1,d2⟩:=Acw b2 Q y f (l.fr f k).2 (l.fr f k).1 (l.fi f k) i
    simp only[bnt,Ao,d1,Ad]
    by_cases C:0<=D8 data vars res f
    .rw[Aq C,Aw ω]
     exact⟨λ_=>⟨s,rfl,d2⟩,λh=>by cases h⟩
    .rw[Aw C,Aq ω]
     exact⟨nofun,λ_=>⟨_,rfl,_,rfl,d2,rfl⟩⟩) (by
   intro o y p _
   refine⟨.inr o,by simp only[p];rfl,?_⟩
   refine⟨(m.A.all λa=>decide (0<=a.P)&&I1 vars res a.L,o),?_,y,rfl⟩
   refine (Ab9 m.A (λa=>decide (0<=a.P)&&I1 vars res a.L) (λj=>(j:Int)) rfl ω (rt:=(true,o)) (rf:=(false,o)) ?_ ?_).trans (by cases m.A.all (λa=>decide (0<=a.P)&&I1 vars res a.L) <;> rfl)
   .intro j a K p w v
    simp only[p,w,v,Al,Ad,Az9 o b2 data vars res a.L (l.al a (B6 K))]
    by_cases C:0<=a.P
    .rw[Aq C,Aw ω]
     cases I1 vars res a.L with
     | true=>exact⟨λ_=>rfl,λh=>by cases h⟩
     | false=>exact⟨nofun,λ_=>⟨_,rfl,rfl⟩⟩
    .rw[Aw C,Aq ω]
     exact⟨nofun,λ_=>⟨_,rfl,rfl⟩⟩
   .intro h;exact⟨.inr (),by simp only[h];rfl,rfl⟩)
 refine⟨r,U,r.2,?_,?_⟩
 .unfold I2
  rw[<-Ab8]
  rcases N with⟨p,w,v⟩|⟨p,w,v⟩
  .rw[p,Bool.true_and,<-v]
  .rw[p,Bool.false_and,<-v]
 .rcases N with⟨p,w,v⟩|⟨p,w,v⟩ <;> exact w
theorem A0b (g:Bg->Int) {l:List Bg} {j:Nat} {x:Bg} (h:l[j]? = some x):((l.take (j+1)).map g).sum=((l.take j).map g).sum+g x:=by rw[Dd h];simp
theorem A0c {l:List Bc} {j:Nat} {x:Bc} (h:l[j]? = some x):Dr (l.take (j+1))=Dr (l.take j)+x.P:=by unfold Dr;rw[Dd h];simp
theorem Apb (I:Lp data vars res) (A:Dm data vars res b1) (m:Br) (k:MSz m) (hp:I2 data vars res m=true) : ∃p:Int×List (ByteArray×Int),Ro m b1 b2 data vars res.G res.U res.R=some p/\(decide (p.1>6) = !decide (Ch data vars res m.F+Dr m.A<=6))/\Dm data vars res p.2:=by
 have M:=k.nf;have Q:=k.na;unfold I2 at hp;rw[D3,H9,H9]at hp;unfold Ro;refine Ev (λ(e,u,g)=>∃j:Nat,u=j/\j<=m.F.length/\Dm data vars res g/\0<=e/\e<=12/\(e=Ch data vars res (m.F.take j)\/(6<e/\6<Ch data vars res (m.F.take j)))) (λ(_,u,_)=>m.F.length-u.toNat) (λ(e,g)=>Dm data vars res g/\0<=e/\e<=12/\(e=Ch data vars res m.F\/(6<e/\6<Ch data vars res m.F))) ⟨0,rfl,ω,A,ω,ω,.inl (by simp[Ch])⟩ ?_ ?_
 .rintro⟨e,u,g⟩ ⟨j,rfl,J,q,G,C,l⟩;rcases Cb j m.F.length with h|h
  .have w:m.F[j]? = some m.F[j]:=B3 h;generalize m.F[j]=f at w;have c:=B6 w;have E:=hp.1 f c;rw[D4]at E;have B:=(A0a data vars res f).2;have F:Ch data vars res (m.F.take (j+1))=Ch data vars res (m.F.take j)+D8 data vars res f:=A0b _ w;simp only[Aq (ω:(j:Int)<(m.F.length:Int)),Al,Bu rfl w,Ad,C3 h ω];by_cases s:e<=6
   .have x:(E6 vars res f.v).isSome=true:=by
     unfold D8 at E;cases K:E6 vars res f.v with
     | none=>rw[K]at E;have E:(0:Int)<=-1:=E;omega
     | some t=>rfl
    obtain⟨D,d1,d2⟩:=Acw b2 I q f (k.fr f c).2 (k.fr f c).1 (k.fi f c) x;rw[Aq s];simp only[Al,d1,Ad];have b:Ac (e+D8 data vars res f)=e+D8 data vars res f:=ξ;exact .inl ⟨_,rfl,⟨j+1,rfl,ω,d2,by simp only[b];omega,by simp only[b];omega,by simp only[b,F];omega⟩,ζ⟩
   .rw[Aw s];exact .inl ⟨_,rfl,⟨j+1,rfl,ω,q,G,C,by simp only[F];omega⟩,ζ⟩
  .have:j=m.F.length:=ω;subst this;rw[Dq]at l;exact .inr ⟨(e,g),ψ,q,G,C,l⟩
 .rintro⟨e,g⟩ ⟨q,G,C,l⟩;simp only;refine Ev (λ(v,i)=>∃j:Nat,i=j/\j<=m.A.length/\0<=v/\v<=13/\(v=Ch data vars res m.F+Dr (m.A.take j)\/(6<v/\6<Ch data vars res m.F+Dr (m.A.take j)))) (λ(_,i)=>m.A.length-i.toNat) (λv=>(v=Ch data vars res m.F+Dr m.A\/(6<v/\6<Ch data vars res m.F+Dr m.A))) ⟨0,rfl,ω,G,ω,by simpa[Dr] using l⟩ ?_ ?_
  .rintro⟨v,i⟩ ⟨j,rfl,J,L,H,z⟩;rcases Cb j m.A.length with h|h
   .have w:m.A[j]? = some m.A[j]:=B3 h;generalize m.A[j]=a at w;have E:=hp.2 a (B6 w);rw[D3,D4]at E;have F:=A0c w;simp only[Aq (ω:(j:Int)<(m.A.length:Int)),Al,Bu rfl w,Ad,C3 h ω];by_cases s:v<=6
    .rw[Aq s];simp only[Al];by_cases y:7<a.P
     .rw[A7 y];have b:Ac (v+7)=v+7:=ξ;exact .inl ⟨_,rfl,⟨j+1,rfl,ω,by simp only[b];omega,by simp only[b];omega,by simp only[b,F];omega⟩,ζ⟩
     .rw[Ay y];have b:Ac (v+a.P)=v+a.P:=ξ;exact .inl ⟨_,rfl,⟨j+1,rfl,ω,by simp only[b];omega,by simp only[b];omega,by simp only[b,F];omega⟩,ζ⟩
    .rw[Aw s];exact .inl ⟨_,rfl,⟨j+1,rfl,ω,L,H,by simp only[F];omega⟩,ζ⟩
   .have:j=m.A.length:=ω;subst this;rw[Dq]at z;exact .inr ⟨v,ψ,z⟩
  .intro v l;refine⟨(v,g),rfl,?_,q⟩;by_cases h:Ch data vars res m.F+Dr m.A<=6
   .rw[Aq h,Aw (by simp only;omega)];rfl
   .rw[Aw h,Aq (by simp only;omega)];rfl
end
theorem A0d {S E:Type} (F:Bz->Bz->Option Int) (l:List Bc) (g:∀y∈l,∀x,F y.L x=some (Hk y.L x)) {x:Bc} {j:Nat} (w:l[j]? = some x) (i:l.length<4611686018427387904) (c b:Option (S⊕E)) : (bif decide ((j:Int)>0) then ((Ah l (Ac ((j:Int)-1))).bind λf=>(F f.L x.L).bind λm=>bif decide (m>=0) then c else b) else b)=bif Pb l x j then b else c:=by
 have B:=Ez w;unfold Pb;by_cases h:j=0
 .subst h;rfl
 .rw[Aq ω];have e:Ac ((j:Int)-1)=((j-1:Nat):Int):=ξ;have p:l[j-1]? = some l[j-1]:=B3 ω;rw[e,Bu rfl p,p];have A:(j==0)=false:=(by simpa using h);simp only[Al,Ad,A,Bool.false_or,g _ (getElem_mem (ω:j-1<l.length))];by_cases v:Hk l[j-1].L x.L<0
  .rw[Aw ω,Aq v];rfl
  .rw[Aq ω,Aw v];rfl
section
variable {b1:List (ByteArray×Int)} (b2:List (ByteArray×List Ar)) {data:List Am} {vars:List Ag} {res:Ag}
def Ys (data:List Am) (vars:List Ag) (res:Ag) (l:List Bg) (f:Bg) (j:Nat):Bool:=!(D8 data vars res f==0)&&Me (·.v) l f j
def Qt (l:List Bc) (a:Bc) (j:Nat):Bool:=!(a.P==0)&&G4 a.L && !(a.L.T.length==0)&&Pb l a j
theorem A0e (m:Br):Jo data vars res m=(I2 data vars res m&&decide (Ch data vars res m.F+Dr m.A<=6)&&m.F.zipIdx.all (λq=>Ys data vars res m.F q.1 q.2)&&m.A.zipIdx.all λq=>Qt m.A q.1 q.2):=by
 rw[Bool.eq_iff_iff];unfold Jo I2;rw[<-Ab8 m.F λf=>decide (0<=D8 data vars res f),<-Ab8 m.A λa=>decide (0<=a.P)&&I1 vars res a.L];simp only[D3,H9,Pc,Pd,Ys,Qt,D4,Bool.not_eq_true',beq_eq_false_iff_ne,ne_eq];constructor
 .rintro⟨⟨i,p⟩,v⟩;refine⟨⟨⟨⟨λq e=>?_,λq e=>?_⟩,v⟩,λq e=>?_⟩,λq e=>?_⟩
  .have:=(i q e).1;omega
  .have:=p q e;exact⟨ω,this.1.2⟩
  .have:=i q e;exact⟨ω,this.2⟩
  .have:=p q e;exact⟨⟨⟨ω,this.1.1.1.2⟩,this.1.1.2⟩,this.2⟩
 .rintro⟨⟨⟨⟨i,p⟩,v⟩,c⟩,b⟩;refine⟨⟨λq e=>?_,λq e=>?_⟩,v⟩
  .have:=i q e;have g:=c q e;exact⟨ω,g.2⟩
  .have:=p q e;have g:=b q e;exact⟨⟨⟨⟨ω,g.1.1.2⟩,g.1.2⟩,this.2⟩,g.2⟩
theorem A0f (T:Lp data vars res) (hm:Dm data vars res b1) (m:Br) (i:MSz m) :
  ∃A,Uj m b1 b2 data vars res.G res.U res.R=some (Jo data vars res m,A)/\Dm data vars res A:=by
 have hf:=i.nf
 have ha:=i.na
 rw[A0e]
 unfold Uj
 obtain⟨b,p1,Z⟩:=Apa b2 T hm m i
 rw[p1]
 cases hp:I2 data vars res m with
 | false=>exact⟨b,rfl,Z⟩
 | true=>
  obtain⟨q,q1,q2,Y⟩:=Apb b2 T Z m i hp
  simp only[Ad,bnt,Ao,q1,q2]
  cases hs:decide (Ch data vars res m.F+Dr m.A<=6) with
  | false=>exact⟨q.2,rfl,Y⟩
  | true=>
   simp only[bnt,Ao,Bool.true_and]
   have U:∀f∈m.F,(E6 vars res f.v).isSome=true:=by
    intro f c
    unfold I2 at hp
    rw[D3,H9]at hp
    have K:=hp.1 f c
    rw[D4]at K
    unfold D8 at K
    cases ht:E6 vars res f.v with
    | none=>rw[ht]at K;have K:(0:Int)<=-1:=K;omega
    | some t=>rfl
   obtain⟨r,r1,X⟩:=Aha (M:=List (ByteArray×Int)) (R:=Bool×List (ByteArray×Int)) m.F (λq=>Ys data vars res m.F q.1 q.2) (λj o=>((j:Int),o)) (Dm data vars res)
    (λr=>Dm data vars res r.2/\r.1=m.A.zipIdx.all λq=>Qt m.A q.1 q.2) (λr=>Dm data vars res r.2/\r.1=false) q.2
    (s0:=((0:Int),q.2))
    (step:=(λ(H,s)=>
     bif H<(m.F.length:Int) then (
     (Ah m.F H).bind λk=>
     (L5 k.v k.I s b2 data vars res.G res.U res.R).bind λg=>
     bif (g.1==(0:Int)) then some (.inr (.inl (false,g.2)))
     else (
     bif H>(0:Int) then (
     (Ah m.F (Ac (H-1))).bind λD=>
     bif D.v>=k.v then some (.inr (.inl (false,g.2)))
     else some (.inl ((Ac (H+1)),g.2)))
     else some (.inl ((Ac (H+1)),g.2))))
     else some (.inr (.inr s)):Int×List (ByteArray×Int)->Option ((Int×List (ByteArray×Int))⊕((Bool×List (ByteArray×Int))⊕List (ByteArray×Int)))))
    (J:=(λz=>match z with
     | .inl (N,L)=>some (N,L)
     | .inr l=>(An (S:=Int) (E:=((Bool×List (ByteArray×Int))⊕Unit)) (λp=>
       bif p<(m.A.length:Int) then (
       (Ah m.A p).bind λw=>
       (show OB from
       bif (w.P==(0:Int)) then some true
       else (
       (Ot w.L).bind λa0=>
       bif (!a0) then some true
       else some ((w.L.T.length:Int)==(0:Int)))).bind λa1=>
       bif a1 then some (.inr (.inl (false,l)))
       else (
       bif p>(0:Int) then (
       (Ah m.A (Ac (p-1))).bind λB=>
       (Mz B.L w.L).bind λa2=>
       bif a2>=(0:Int) then some (.inr (.inl (false,l)))
       else some (.inl (Ac (p+1))))
       else some (.inl (Ac (p+1)))))
       else some (.inr (.inr ()))) 0).bind λz=>match z with
        | .inl (I,G)=>some (I,G)
        | .inr _=>some (true,l)))
    rfl Y ω (by
     intro j f o V Q _ v F C
     have c:=B6 Q
     obtain⟨A,d1,d2⟩:=Acw b2 T V f (i.fr f c).2 (i.fr f c).1 (i.fi f c) (U f c)
     simp only[v,F,C,Al,Ad,d1,Ao6 (·.v) m.F Q ω,Ys]
     cases (D8 data vars res f==0) with
     | true=>exact⟨nofun,λ_=>⟨_,rfl,_,rfl,d2,rfl⟩⟩
     | false=>
      cases Me (·.v) m.F f j with
      | true=>exact⟨λ_=>⟨A,rfl,d2⟩,λh=>by cases h⟩
      | false=>exact⟨nofun,λ_=>⟨_,rfl,_,rfl,d2,rfl⟩⟩) (by
     intro o V v _
     refine⟨.inr o,by simp only[v];rfl,?_⟩
     refine⟨(m.A.zipIdx.all λq=>Qt m.A q.1 q.2,o),?_,V,rfl⟩
     refine (Ab7 m.A (λq=>Qt m.A q.1 q.2) (λj=>(j:Int)) rfl ω (rt:=(true,o)) (rf:=(false,o)) ?_ ?_).trans (by cases m.A.zipIdx.all (λq=>Qt m.A q.1 q.2) <;> rfl)
     .intro j a Q _ v F C
      have u:((a.L.T.length:Int)==(0:Int))=(a.L.T.length==0):=Ay2 a.L.T 0
      simp only[v,F,C,Al,Ad,Ahz,A0d Mz m.A (λy hy x=>Acu y.L x (by have:=i.al y hy;omega)) Q ω,Qt,u]
      cases (a.P==0) with
      | true=>exact⟨nofun,λ_=>⟨_,rfl,rfl⟩⟩
      | false=>
       cases G4 a.L with
       | false=>exact⟨nofun,λ_=>⟨_,rfl,rfl⟩⟩
       | true=>
        cases (a.L.T.length==0) with
        | true=>exact⟨nofun,λ_=>⟨_,rfl,rfl⟩⟩
        | false=>
         cases Pb m.A a j with
         | true=>exact⟨λ_=>rfl,λh=>by cases h⟩
         | false=>exact⟨nofun,λ_=>⟨_,rfl,rfl⟩⟩
     .intro h _;exact⟨.inr (),by simp only[h];rfl,rfl⟩)
   refine⟨r.2,?_,?_⟩
   .have e:some r=some (m.F.zipIdx.all (λq=>Ys data vars res m.F q.1 q.2)&&m.A.zipIdx.all λq=>Qt m.A q.1 q.2,r.2):=by
     rcases X with⟨v,F,C⟩|⟨v,F,C⟩
     .rw[v,Bool.true_and,<-C]
     .rw[v,Bool.false_and,<-C]
    rw[<-e]
    exact r1
   .rcases X with⟨v,F,C⟩|⟨v,F,C⟩ <;> exact F
theorem A0g (l:List Bg) (h:∀f∈l,0<=D8 data vars res f):0<=Ch data vars res l:=by induction l with| nil=>simp[Ch]| cons x xs ih=>have i:=h x ψ;have m:=ih λf e=>h f (by simp[e]);unfold Ch at *;simp only[map_cons,sum_cons];omega
theorem Apc (l:List Bc) (h:∀a∈l,0<=a.P):0<=Dr l/\((∀a∈l,a.P<=6)->Dr l<=6*l.length)/\∀a∈l,a.P<=Dr l:=by
 induction l with
 | nil=>simp[Dr]
 | cons x xs ih=>
  have v:=h x ψ;obtain⟨w,i,m⟩:=ih λf p=>h f (by simp[p]);unfold Dr at *;simp only[map_cons,sum_cons,D9];refine⟨ω,λg=>?_,λa e=>?_⟩
  .have:=g x ψ;have:=i λa e=>g a (by simp[e]);omega
  .rcases Fp.1 e with rfl|e
   .omega
   .have:=m a e;omega
end
variable {a:A3} {N P U V W X b d g h hb j o q r s t u x y:Int} {l:List Int} {k n off:Nat}
theorem Qu (l:List Int) (b:l.length<4611686018427387904):Kw l=some (Hx l):=by
 unfold Kw;refine Jk (λv=>∃k:Nat,v=k/\k<=l.length/\Hx (l.take k)=Hx l) (λv=>v.toNat) (λv=>∃k:Nat,v=k/\k<=l.length/\l.take k=Hx l) ⟨l.length,rfl,Nat.le_refl _,ψ⟩ ?_ ?_
 .rintro v ⟨k,rfl,p,e⟩;cases k with
  | zero=>exact .inr ⟨0,rfl,0,rfl,ω,by simpa[Hx] using e⟩
  | succ j=>
   have w:Ac (((j+1:Nat):Int)-1)=(j:Int):=ξ;have m:j<l.length:=ω;have hp:decide (((j+1:Nat):Int)>0)=true:=Aq ω;simp only[hp,Al,w,Ek rfl m,Ad];rw[take_succ_eq_append_getElem m]at e;by_cases i:l[j]=0
   .rw[i,Ayy]at e;exact .inl ⟨j,by rw[Gb i];rfl,⟨j,rfl,ω,e⟩,ω⟩
   .rw[Ayz i]at e;exact .inr ⟨((j+1:Nat):Int),by rw[Dc i];rfl,j+1,rfl,ω,by rw[take_succ_eq_append_getElem m];exact e⟩
 .rintro v ⟨k,rfl,p,e⟩;rw[Sv rfl p,e];rfl
theorem Apd (l:List Int) (m:Ma l) (D:l.length<1099511627776):Uo l=some (Af (Ak l).toNat):=by
 unfold Uo;have f:Ac ((l.length:Int)+1)=((l.length+1:Nat):Int):=by rw[Ac,B8] <;> omega
 rw[f,Ag4 rfl ω ω];simp only[Ad];refine Jk (λ(c,i,o)=>∃k:Nat,i=k/\k<=l.length/\o.length=k/\B7 o/\0<=c/\c<5/\Ak o+1000000000 ^ k*c=Ak (l.take k)) (λ(_,i,_)=>l.length-i.toNat) (λ(c,o)=>o.length=l.length/\B7 o/\0<=c/\c<5/\Ak o+1000000000 ^ l.length*c=Ak l) ⟨0,rfl,ω,rfl,B7.nil,ω,ω,by simp[Ak]⟩ ?_ ?_
 .rintro⟨c,i,o⟩ ⟨k,rfl,w,g,b,q,e,u⟩;rcases Cb k l.length with h|h
  .have C:=m l[k] (getElem_mem h);refine .inl ⟨((l[k]+c) / 1000000000,((k+1:Nat):Int),o++[(l[k]+c) % 1000000000]),?_,⟨k+1,rfl,ω,by simp[g],b.snoc ω ω,ω,ω,?_⟩,ζ⟩
   .have A:Az l[k]=l[k]:=Dl ω ω;have z:Az (l[k]+c)=l[k]+c:=Dl ω ω;have s:Cs ((l[k]+c) % 1000000000)=(l[k]+c) % 1000000000:=Gu ω ω;have y:Ac ((k:Int)+1)=((k+1:Nat):Int):=ξ;have x:decide ((k:Int)<(l.length:Int))=true:=(by simpa using h);simp only[x,Al,Ek rfl h,Ad,A,z,Ll (show 0<=l[k]+c by omega) (show (0:Int)<1000000000 by decide),s,Dn (show (o.length+[(l[k]+c) % 1000000000].length)*4<=_ by simp;omega),Lm (show 0<=l[k]+c by omega) (show l[k]+c<=_ by omega) (show (0:Int)<1000000000 by decide),y]
   .rw[G3 l h,<-u,M8,g,Int.pow_succ];have:=Int.mul_ediv_add_emod (l[k]+c) 1000000000;grind
  .have j:k=l.length:=ω;subst j;refine .inr ⟨(c,o),ψ,g,b,q,e,by simpa using u⟩
 .rintro⟨c,o⟩ ⟨v,p,I,G,E⟩;have B:=Hs m;by_cases e:c>0
  .have s:Cs c=c:=Gu ω ω;simp only[decide_eq_true e,Al,s,Dn (show (o.length+[c].length)*4<=_ by simp;omega),Ad,Qu (o++[c]) ζ];rw[Ln (p.snoc ω ω) (n:=(Ak l).toNat) (by rw[M8,v];omega)]
  .have:c=0:=ω;subst this;simp only[Int.lt_irrefl,gt_iff_lt,decide_false,Ao,Qu o ω,Ad];rw[Ln p (n:=(Ak l).toNat) ω]
theorem Pe (h:n<18446744073709551616):Bl n<=3:=J0 (Nat.lt_of_lt_of_le h δ)
theorem Qv (n:Nat) (h:n<18446744073709551616):O1 n=some (Af n):=by
 unfold O1;have b:=Pe h;unfold Bl at b;refine Jk (λ(w,o)=>∃k:Nat,w=k/\k<=n/\o++Af k=Af n) (λ(w,_)=>w.toNat) (λo=>o=Af n) ⟨n,rfl,Nat.le_refl _,ψ⟩ ?_ (by rintro o rfl;rfl);rintro⟨w,o⟩ ⟨k,rfl,m,c⟩;by_cases e:k=0
 .subst e;rw[Gw,append_nil]at c;exact .inr ⟨o,ψ,c⟩
 .have f:o.length<=3:=(by rw[<-c]at b;simp at b;omega);refine .inl ⟨(((k / 1000000000:Nat):Int),o++[((k % 1000000000:Nat):Int)]),?_,⟨k / 1000000000,rfl,ω,by rw[append_assoc];rw[M7 e]at c;exact c⟩,ζ⟩;have l:decide ((k:Int)>0)=true:=Aq ω;have j:H8 (k:Int) 1000000000=some ((k % 1000000000:Nat):Int):=(by rw[Ll ω δ];rfl);have i:Cs ((k % 1000000000:Nat):Int)=((k % 1000000000:Nat):Int):=Gu ω ω;have g:G9 .u64 (k:Int) 1000000000=some ((k / 1000000000:Nat):Int):=(by rw[Lm ω ω δ];rfl);simp only[l,Al,j,Ad,i,Dn (show (o.length+[((k % 1000000000:Nat):Int)].length)*4<=_ by simp;omega),g]
def Gn (m n:Nat):Int:=if m<n then -1 else if n<m then 1 else 0
theorem Yt (m n:Nat) (g:Bl m<1099511627776) (f:Bl n<1099511627776):Sc (Af m) (Af n)=some (Gn m n):=by
 unfold Sc;unfold Bl at g f;by_cases h:(Af m).length=(Af n).length
 .rw[Hw (ω:((Af m).length:Int)=(Af n).length),Ao];have D:Ac (((Af m).length:Int)-1)=((Af m).length:Int)-1:=ξ;rw[D];refine Jk (λv=>∃k:Nat,v=(k:Int)-1/\k<=(Af m).length/\(Af m).drop k=(Af n).drop k) (λv=>(v+1).toNat) (λe=>match e with|.inl r=>r=Gn m n | .inr _=>m=n) ⟨(Af m).length,rfl,Nat.le_refl _,by rw[drop_length,h,drop_length]⟩ ?_ ?_
  .rintro v ⟨k,rfl,E,w⟩;cases k with
   | zero=>refine .inr ⟨.inr (),ψ,?_⟩;have:Af m=Af n:=(by simpa using w);have:=congrArg Ak this;rw[Fz,Fz]at this;show m=n;omega
   | succ j=>
    have A:j<(Af m).length:=ω;have p:j<(Af n).length:=ω;have l:((j+1:Nat):Int)-1=(j:Int):=ω;have i:decide ((j:Int)>=0)=true:=Aq ω;simp only[l,i,Al,Ek rfl A,Ek rfl p,Ad];rcases Int.lt_trichotomy (Af m)[j] (Af n)[j] with b|B|C
    .refine .inr ⟨.inl (-1),by rw[Aq b];rfl,?_⟩;have:=Anz (Fi m) A p (Fi n) w b;rw[Fz,Fz]at this;show (-1:Int)=Gn m n;rw[Gn,A7 ω]
    .refine .inl ⟨(j:Int)-1,?_,⟨j,rfl,ω,?_⟩,ω⟩
     .rw[Aw (ω:¬(Af m)[j]<(Af n)[j]),Ao,Aw (ω:¬(Af m)[j]>(Af n)[j]),Ao];rw[Ac,B8 ω ω]
     .rw[drop_eq_getElem_cons A,drop_eq_getElem_cons p,w,B]
    .refine .inr ⟨.inl 1,by rw[Aw (ω:¬(Af m)[j]<(Af n)[j]),Ao,Aq (ω:(Af m)[j]>(Af n)[j])];rfl,?_⟩;have:=Anz (Fi n) p A (Fi m) w.symm C;rw[Fz,Fz]at this;show (1:Int)=Gn m n;rw[Gn,Ay ω,A7 ω]
  .rintro (e|e) c
   .simp only at c ⊢;rw[c]
   .simp only at c ⊢;rw[Gn,Ay ω,Ay ω]
 .rw[Gc (ω:((Af m).length:Int)≠(Af n).length),Al];by_cases b:(Af m).length<(Af n).length
  .rw[Aq (ω:((Af m).length:Int)<(Af n).length),Al];have:=Anx (m:=m) (n:=n) b;rw[Gn,A7 this]
  .rw[Aw (ω:¬((Af m).length:Int)<(Af n).length),Ao];have:=Anx (m:=n) (n:=m) (by unfold Bl;omega);rw[Gn,Ay ω,A7 this]
theorem Ape (h:B7 l) (c:l≠[]->1000000000 ^ (l.length-1)<=Ak l):Can l:=by refine⟨h,λb i=>?_⟩;have w:=c b;have e:=dropLast_concat_getLast b;have m:B7 l.dropLast:=λd p=>h d (dropLast_subset l p);have v:=Kl m;rw[length_dropLast]at v;have f:=congrArg Ak e;rw[M8,i]at f;omega
theorem Pf (l:List Int) (h:l.length<=k):Ak (l.take k)=Ak l:=by rw[Iz h]
theorem Apf (a b:List Int) (ha:B7 a) (hb:B7 b) (hl:a.length<1099511627776) (Y:b.length<=a.length) (U:a≠[]->1000000000 ^ (a.length-1)<=Ak a) : ((F5 4 0 (Ac ((a.length:Int)+1)) (0:Int)).bind λo3=> (An (S:=(Int×Int×List Int)) (E:=(Int×List Int)) (λ(H,p,u)=> bif p<(a.length:Int) then ((Ah a p).bind λv=> (show Option Int from bif p<(b.length:Int) then ((Ah b p).bind λw=> some (Cs ((Cs (v+H))+w))) else (some (Cs (v+H)))).bind λC=> (G9 .u32 C 1000000000).bind λK=> (H8 C 1000000000).bind λf=> (B4 4 u [f]).bind λg=> some (.inl (K,(Ac (p+1)),g))) else (some (.inr (H,u)))) (0,0,o3)).bind λ(l,q)=> bif l>(0:Int) then ((B4 4 q [l]).bind λJ=> some J) else (some q))=some (Af (Ak a+Ak b).toNat):=by
 have A:Ac ((a.length:Int)+1)=((a.length+1:Nat):Int):=by rw[Ac,B8] <;> omega
 rw[A,Ag4 rfl ω ω];simp only[Ad];have a7:=Hs ha.u32;have a6:=Hs hb.u32;refine Jk (λ(c,i,o)=>∃k:Nat,i=k/\k<=a.length/\o.length=k/\B7 o/\0<=c/\c<=1/\Ak o+1000000000 ^ k*c=Ak (a.take k)+Ak (b.take k)) (λ(_,i,_)=>a.length-i.toNat) (λ(c,o)=>o.length=a.length/\B7 o/\0<=c/\c<=1/\Ak o+1000000000 ^ a.length*c=Ak a+Ak b) ⟨0,rfl,ω,rfl,B7.nil,ω,ω,by simp[Ak]⟩ ?_ ?_
 .rintro⟨c,i,o⟩ ⟨k,rfl,hk,M,z,V,T,L⟩;rcases Cb k a.length with h|h
  .have hx:=ha.get h;have e4:Ac ((k:Int)+1)=((k+1:Nat):Int):=ξ;have e5:decide ((k:Int)<(a.length:Int))=true:=Aq ω;have step:∀s:Int,0<=s->s<2000000000->(show Option Int from bif (k:Int)<(b.length:Int) then ((Ah b k).bind λw=>some (Cs ((Cs (a[k]+c))+w))) else some (Cs (a[k]+c)))=some s ->
     Ak (a.take (k+1))+Ak (b.take (k+1))=Ak (a.take k)+Ak (b.take k)+1000000000 ^ k*(s-c) -> (∃m,(bif (k:Int)<(a.length:Int) then ((Ah a k).bind λv=> (show Option Int from bif (k:Int)<(b.length:Int) then ((Ah b k).bind λw=> some (Cs ((Cs (v+c))+w))) else (some (Cs (v+c)))).bind λC=> (G9 .u32 C 1000000000).bind λK=> (H8 C 1000000000).bind λf=> (B4 4 o [f]).bind λg=> some (.inl (K,(Ac ((k:Int)+1)),g))) else (some (.inr (c,o))))=some (Sum.inl m:(Int×Int×List Int)⊕(Int×List Int))/\(∃j:Nat,m.2.1=j/\j<=a.length/\m.2.2.length=j/\B7 m.2.2/\0<=m.1/\m.1<=1/\Ak m.2.2+1000000000 ^ j*m.1=Ak (a.take j)+Ak (b.take j))/\a.length-m.2.1.toNat<a.length-(k:Int).toNat):=by
    intro s y a1 hs x;refine⟨(s / 1000000000,((k+1:Nat):Int),o++[s % 1000000000]),?_,⟨k+1,rfl,ω,by simp[M],z.snoc ω ω,ζ,ζ,?_⟩,ζ⟩
    .rw[e5,Al,Ek rfl h,Ad,hs,Ad,Ans y ω δ,Ad,Ll y δ,Ad,Dn ζ,Ad,e4]
    .rw[x,<-L,M8,M,Int.pow_succ];have:=Int.mul_ediv_add_emod s 1000000000;grind
   refine .inl ?_;rcases Cb k b.length with F|F
   .have hy:=hb.get F;obtain⟨m,I,G,D⟩:=step (a[k]+c+b[k]) ω ω (by have B:Cs (a[k]+c)=a[k]+c:=Gu ω ω;have Z:Cs (a[k]+c+b[k])=a[k]+c+b[k]:=Gu ω ω;show (bif (k:Int)<(b.length:Int) then _ else _)=_;rw[Aq (ω:(k:Int)<(b.length:Int)),Al,Ek rfl F,Ad,B,Z]) (by rw[G3 a h,G3 b F];grind);exact⟨m,I,G,D⟩
   .obtain⟨m,I,G,D⟩:=step (a[k]+c) ω ω (by have B:Cs (a[k]+c)=a[k]+c:=Gu ω ω;show (bif (k:Int)<(b.length:Int) then _ else _)=_;rw[Aw (ω:¬(k:Int)<(b.length:Int)),Ao,B]) (by rw[G3 a h,Pf b F,Pf b ω];grind);exact⟨m,I,G,D⟩
  .have R:k=a.length:=ω;subst R;refine .inr ⟨(c,o),ψ,M,z,V,T,?_⟩;rw[Dq,Pf b Y]at L;exact L
 .rintro⟨c,o⟩ ⟨Q,h3,h4,h5,h6⟩;simp only[];by_cases T:c>0
  .have:c=1:=ω;subst this;rw[Aq T,Al,Dn ζ,Ad];congr 1;refine Ag6 (Ape (h3.snoc ω ω) λ_=>?_) (by rw[M8,Q];omega);rw[M8,Q];have:=Hs h3.u32;simp[Q];omega
  .have:c=0:=ω;subst this;rw[Aw T,Ao];congr 1;refine Ag6 (Ape h3 λN=>?_) ω;have X:a≠[]:=(by intro e;rw[e]at Q;exact N (Gm.1 Q));have:=U X;rw[Q];omega
theorem Apg (h:Af n≠[]):1000000000 ^ ((Af n).length-1)<=Ak (Af n):=by
 rw[Fz];have i:(Af n).length≠0:=λe=>h (Gm.1 e);have:=Anv (n:=n) (k:=(Af n).length-1) (by unfold Bl;omega);have e:((1000000000 ^ ((Af n).length-1):Nat):Int)=1000000000 ^ ((Af n).length-1):=by rw[Int.natCast_pow];rfl
 omega
theorem A0h (m n:Nat) (c:Bl m<1099511627776) (b:Bl n<1099511627776):Xu (Af m) (Af n)=some (Af (m+n)):=by
 unfold Xu;unfold Bl at c b;by_cases f:(Af m).length<(Af n).length
 .simp only[Aq (ω:((Af m).length:Int)<(Af n).length),Al,Ad];have:=Apf (Af n) (Af m) (Fi n) (Fi m) b ω Apg;rw[Fz,Fz]at this;rw[show m+n=((n:Int)+(m:Int)).toNat by omega];exact this
 .simp only[Aw (ω:¬((Af m).length:Int)<(Af n).length),Ao,Ad];have:=Apf (Af m) (Af n) (Fi m) (Fi n) c ω Apg;rw[Fz,Fz]at this;rw[show m+n=((m:Int)+(n:Int)).toNat by omega];exact this
theorem Mf (h:k<n) (b:n<4611686018427387904):Ac ((k:Int)+1)=((k+1:Nat):Int):=by rw[Ac,B8] <;> omega
theorem Aph (m n:Nat) (V:Bl m<1099511627776) (B:n<=m):Ur (Af m) (Af n)=some (Af (m-n)):=by
 unfold Ur;have E:(Af n).length<=(Af m).length:=Kz B;unfold Bl at V;rw[Ag4 rfl ω ω];simp only[Ad];have H:=Fi m;have hb:=Fi n;refine Jk (λ(c,i,o)=>∃k:Nat,i=k/\k<=(Af m).length/\o.length=k/\B7 o/\0<=c/\c<=1/\Ak o=Ak ((Af m).take k)-Ak ((Af n).take k)+1000000000 ^ k*c) (λ(_,i,_)=>(Af m).length-i.toNat) (λo=>∃c:Int,o.length=(Af m).length/\B7 o/\0<=c/\c<=1/\Ak o=(m:Int)-n+1000000000 ^ (Af m).length*c) ⟨0,rfl,ω,rfl,B7.nil,ω,ω,by simp[Ak]⟩ ?_ ?_
 .rintro⟨c,i,o⟩ ⟨k,rfl,K,l,g,I,w,q⟩;rcases Cb k (Af m).length with h|h
  .have Q:=H.get h;have N:=Mf h ω;have M:decide ((k:Int)<((Af m).length:Int))=true:=Aq ω;have L:Ac (Af m)[k]=(Af m)[k]:=B8 ω ω;have J:Ac ((Af m)[k]-c)=(Af m)[k]-c:=B8 ω ω;have p:∀s:Int,-1000000001<=s->s<1000000000->Ak ((Af m).take (k+1))-Ak ((Af n).take (k+1))=Ak ((Af m).take k)-Ak ((Af n).take k)+1000000000 ^ k*(s+c) ->
     ∃(f:Int) (d:Int),(bif decide (s<0) then ((B4 4 o [(Cs (Ac (s+1000000000)))]).bind λA=>some (Sum.inl (1,(Ac ((k:Int)+1)),A))) else ((B4 4 o [(Cs s)]).bind λz=>some (Sum.inl (0,(Ac ((k:Int)+1)),z))))=some (Sum.inl (f,((k+1:Nat):Int),o++[d]):(Int×Int×List Int)⊕List Int) /\ (-1000000000<=s->(∃j:Nat,((k+1:Nat):Int)=j/\j<=(Af m).length/\(o++[d]).length=j/\B7 (o++[d])/\0<=f/\f<=1/\Ak (o++[d])=Ak ((Af m).take j)-Ak ((Af n).take j)+1000000000 ^ j*f)):=by
    intro s T C b;by_cases F:s<0
    .refine⟨1,Cs (Ac (s+1000000000)),by rw[Aq F,Al,Dn ζ,Ad,N],λv=>?_⟩;have U:Ac (s+1000000000)=s+1000000000:=B8 ω ω;have u:Cs (s+1000000000)=s+1000000000:=Gu ω ω;rw[U,u];refine⟨k+1,rfl,ω,by simp[l],g.snoc ω ω,ω,ω,?_⟩;rw[b,M8,l,q,Int.pow_succ];grind
    .refine⟨0,Cs s,by rw[Aw F,Ao,Dn ζ,Ad,N],λv=>?_⟩;have u:Cs s=s:=Gu ω ω;rw[u];refine⟨k+1,rfl,ω,by simp[l],g.snoc ω ω,ω,ω,?_⟩;rw[b,M8,l,q,Int.pow_succ];grind
   refine .inl ?_;rcases Cb k (Af n).length with e|e
   .have hy:=hb.get e;have S:Ac (Af n)[k]=(Af n)[k]:=B8 ω ω;have R:Ac ((Af m)[k]-c-(Af n)[k])=(Af m)[k]-c-(Af n)[k]:=B8 ω ω;obtain⟨f,d,y,x⟩:=p ((Af m)[k]-c-(Af n)[k]) ω ω (by rw[G3 _ h,G3 _ e];grind);refine⟨(f,((k+1:Nat):Int),o++[d]),?_,x ω,ζ⟩;rw[<-y];simp only[M,Al,Ek rfl h,Ad,L,J,Aq (ω:(k:Int)<((Af n).length:Int)),Ek rfl e,S,R]
   .obtain⟨f,d,y,x⟩:=p ((Af m)[k]-c) ω ω (by rw[G3 _ h,Pf (Af n) e,Pf (Af n) ω];grind);refine⟨(f,((k+1:Nat):Int),o++[d]),?_,x ω,ζ⟩;rw[<-y];simp only[M,Al,Ek rfl h,Ad,L,J,Aw (ω:¬(k:Int)<((Af n).length:Int)),Ao]
  .have G:k=(Af m).length:=ω;subst G;refine .inr ⟨o,ψ,c,l,g,I,w,?_⟩;rw[Dq,Pf _ E,Fz,Fz]at q;exact q
 .rintro o ⟨c,C,v,Z,Y,X⟩;have D:=Kl v;rw[C]at D;have hp:=Ky (Af m).length;have:c=0:=by
   rcases Int.lt_or_le 0 c with w|w
   .have:c=1:=ω;subst this;omega
   .omega
  subst this;rw[Qu o ω,Ad,Ln v (n:=m-n) ω]
theorem Ah0 (m d:Nat) (M:Bl m<1099511627776) (F:0<d) (N:d<4294967296):Sn (Af m) d=some (Af (m / d),((m % d:Nat):Int)):=by
 unfold Sn;unfold Bl at M;rw[Kk rfl rfl (Nat.le_refl _) ω ω];simp only[Ad];have w:=Fi m;have C:Ac (((Af m).length:Int)-1)=((Af m).length:Int)-1:=by rw[Ac,B8] <;> omega
 rw[C];refine Jk (λ(r,i,o)=>∃k:Nat,i=(k:Int)-1/\k<=(Af m).length/\o.length=(Af m).length/\B7 o/\0<=r/\r<d/\Ak (o.drop k)*d+r=Ak ((Af m).drop k)) (λ(_,i,_)=>(i+1).toNat) (λ(r,o)=>o.length=(Af m).length/\B7 o/\0<=r/\r<d/\Ak o*d+r=m) ⟨(Af m).length,rfl,Nat.le_refl _,ψ,B7.replicate _,ω,ω,by simp[Ak]⟩ ?_ ?_
 .rintro⟨r,i,o⟩ ⟨k,rfl,H,A,g,s,L,z⟩;cases k with
  | zero=>exact .inr ⟨(r,o),ψ,A,g,s,L,by simpa[Fz] using z⟩
  | succ j=>
   have p:j<(Af m).length:=ω;have h:j<o.length:=ω;have K:=w.get p;have X:((j+1:Nat):Int)-1=(j:Int):=ω;have V:decide ((j:Int)>=0)=true:=Aq ω;have I:Az (r*1000000000)=r*1000000000:=Dl ω ω;have G:Az (Af m)[j]=(Af m)[j]:=Dl ω ω;have E:Az (r*1000000000+(Af m)[j])=r*1000000000+(Af m)[j]:=Dl ω ω;have b:(0:Int)<(d:Int):=ω;have c:0<=r*1000000000+(Af m)[j]:=ω;have f:0<=(r*1000000000+(Af m)[j]) / (d:Int):=Int.ediv_nonneg c ω;have u:(r*1000000000+(Af m)[j]) / (d:Int)<1000000000:=(by apply Int.ediv_lt_of_lt_mul b;have:(r+1)*1000000000<=d*1000000000:=Int.mul_le_mul_of_nonneg_right ω δ;omega);have D:Cs ((r*1000000000+(Af m)[j]) / (d:Int))=(r*1000000000+(Af m)[j]) / (d:Int):=Gu f ω;have y:=Int.emod_nonneg (r*1000000000+(Af m)[j]) (ω:(d:Int)≠0);have x:=Int.emod_lt_of_pos (r*1000000000+(Af m)[j]) b;have B:Ac ((j:Int)-1)=(j:Int)-1:=ξ;refine .inl ⟨((r*1000000000+(Af m)[j]) % (d:Int),(j:Int)-1,o.set j ((r*1000000000+(Af m)[j]) / (d:Int))),?_,⟨j,rfl,ω,by simpa using A,g.set _ f u,y,x,?_⟩,ψ⟩
   .simp only[X,V,Al,Ek rfl p,Ek rfl h,Ad,I,G,E,Lm c ω b,Ll c b,D,B,Gv rfl]
   .have d1:(o.set j ((r*1000000000+(Af m)[j]) / (d:Int))).drop j=((r*1000000000+(Af m)[j]) / (d:Int))::o.drop (j+1):=(by rw[drop_eq_getElem_cons (by simpa using h),drop_set_of_lt ω];simp);rw[d1,drop_eq_getElem_cons p];simp only[Ak];rw[<-z];have:=Int.mul_ediv_add_emod (r*1000000000+(Af m)[j]) (d:Int);grind
 .rintro⟨r,o⟩ ⟨Q,v,U,S,R⟩;simp only[];have J:=Hs v.u32;have l:((m / d:Nat):Int)=Ak o/\((m % d:Nat):Int)=r:=(by have b:(0:Int)<(d:Int):=ω;have e:=Int.ediv_emod_unique b (r:=r) (q:=Ak o) (a:=(m:Int));have:=e.2 ⟨by rw[<-R];grind,U,S⟩;exact⟨by rw[Int.natCast_ediv];exact this.1,by rw[Int.natCast_emod];exact this.2⟩);rw[Qu o ω,Ad,Ln v l.1.symm,l.2]
theorem Acx (i:0<=x) (c:x<1000000000) (e:0<=y) (b:y<1000000000):0<=x*y/\x*y<=999999998000000001:=by refine⟨Int.mul_nonneg i e,?_⟩;have m:x*y<=999999999*y:=Int.mul_le_mul_of_nonneg_right ω e;omega
theorem Yu (m n:Nat) (H:Bl m<549755813888) (K:Bl n<549755813888):Oy (Af m) (Af n)=some (Af (m*n)):=by
 unfold Oy;unfold Bl at H K;by_cases Q:m=0\/n=0
 .have:(show OB from bif (((Af m).length:Int)==(0:Int)) then some true else some (((Af n).length:Int)==(0:Int)))=some true:=by
   show (bif (((Af m).length:Int)==(0:Int)) then some true else some (((Af n).length:Int)==(0:Int)))=some true;by_cases h:m=0
   .subst h;rw[Gw];rfl
   .have y:n=0:=ω;subst y;rw[Dc (by have:=Jc h;have:(Af m).length≠0:=λe=>this (Gm.1 e);omega),Gw];rfl
  rw[this,Ad,Al];have:m*n=0:=(by rcases Q with rfl|rfl <;> simp);rw[this,Gw]
 .have I:m≠0:=ω;have y:n≠0:=ω;have aa:(Af m).length≠0:=λe=>Jc I (Gm.1 e);have a8:(Af n).length≠0:=λe=>Jc y (Gm.1 e);simp only[Dc (ω:((Af m).length:Int)≠0),Dc (ω:((Af n).length:Int)≠0),Ao,Ad];have T:Ac (((Af m).length:Int)+((Af n).length:Int))=(((Af m).length+(Af n).length:Nat):Int):=ξ;rw[T,Kk rfl rfl (Nat.le_refl _) ω ω];simp only[Ad];have ha:=Fi m;have hb:=Fi n;refine Jk (λ(i,o)=>∃k:Nat,i=k/\k<=(Af m).length/\o.length=(Af m).length+(Af n).length/\B7 o/\o.drop (k+(Af n).length)=replicate ((Af m).length-k) 0/\Ak o=Ak ((Af m).take k)*n) (λ(i,_)=>(Af m).length-i.toNat) (λo=>o.length=(Af m).length+(Af n).length/\B7 o/\Ak o=((m*n:Nat):Int)) ⟨0,rfl,ω,ψ,B7.replicate _,by rw[drop_replicate];congr 1;omega,by simp[Ab5,Ak]⟩ ?_ ?_
  .rintro⟨i,o⟩ ⟨k,rfl,hk,R,D,L,G⟩;rcases Cb k (Af m).length with h|h
   .have C:=ha.get h;have e4:=Mf h ω;have e5:decide ((k:Int)<((Af m).length:Int))=true:=Aq ω;simp only[e5,Al];refine .inl (Ab4 (Ev (λ(c,j,p)=>∃q:Nat,j=q/\q<=(Af n).length/\p.length=(Af m).length+(Af n).length/\B7 p/\p.drop (k+(Af n).length)=replicate ((Af m).length-k) 0/\0<=c/\c<1000000000 /\ Ak p + 1000000000 ^ (k+q)*c=Ak o+1000000000 ^ k*((Af m)[k]*Ak ((Af n).take q))) (λ(_,j,_)=>(Af n).length-j.toNat) (λ(c,j,p)=>p.length=(Af m).length+(Af n).length/\B7 p/\p.drop (k+(Af n).length)=replicate ((Af m).length-k) 0/\0<=c/\c<1000000000 /\ Ak p + 1000000000 ^ (k+(Af n).length)*c=Ak o+1000000000 ^ k*((Af m)[k]*n)) ⟨0,rfl,ω,R,D,L,ω,ω,by simp[Ak]⟩ ?_ ?_))
    .rintro⟨c,j,p⟩ ⟨q,rfl,hq,l,b,f,z,w,x⟩;rcases Cb q (Af n).length with v|v
     .have F:=hb.get v;have g:k+q<p.length:=ω;have a1:=b.get g;have a6:=Acx C.1 C.2 F.1 F.2;have Y:Az (Af m)[k]=(Af m)[k]:=Dl ω ω;have X:Az (Af n)[q]=(Af n)[q]:=Dl ω ω;have V:Az ((Af m)[k]*(Af n)[q])=(Af m)[k]*(Af n)[q]:=Dl ω ω;have U:Az p[k+q]=p[k+q]:=Dl ω ω;have S:Az ((Af m)[k]*(Af n)[q]+p[k+q])=(Af m)[k]*(Af n)[q]+p[k+q]:=Dl ω ω;have N:Az ((Af m)[k]*(Af n)[q]+p[k+q]+c)=(Af m)[k]*(Af n)[q]+p[k+q]+c:=Dl ω ω;have e6:=Mf v ω;have e7:decide ((q:Int)<((Af n).length:Int))=true:=Aq ω;have M:Ac ((k:Int)+(q:Int))=((k+q:Nat):Int):=ξ;generalize hs:(Af m)[k]*(Af n)[q]+p[k+q]+c=s at N;have A:0<=s:=ω;have a7:s<1000000000000000000:=ω;have E:Cs (s % 1000000000)=s % 1000000000:=Gu ω ω;refine .inl ⟨(s / 1000000000,((q+1:Nat):Int),p.set (k+q) (s % 1000000000)),?_,⟨q+1,rfl,ω,by simpa using l,b.set _ ω ω,?_,ω,ω,?_⟩,ζ⟩
      .simp only[e7,Al,Ek rfl h,Ek rfl v,M,Ek rfl g,Ad,Y,X,V,U,S,hs,N,Ll A (show (0:Int)<1000000000 by decide),Lm A (show s<=_ by omega) (show (0:Int)<1000000000 by decide),E,e6,Gv rfl]
      .rw[drop_set_of_lt ω];exact f
      .rw[Mb _ g,G3 _ v];have:=Int.mul_ediv_add_emod s 1000000000;have Z:(1000000000:Int) ^ (k+(q+1))=1000000000 ^ (k+q)*1000000000:=(by rw[<-Nat.add_assoc,Int.pow_succ]);have p2:(1000000000:Int) ^ (k+q)=1000000000 ^ k*1000000000 ^ q:=Int.pow_add ..;rw[Z];grind
     .have:q=(Af n).length:=ω;subst this;refine .inr ⟨(c,_,p),by simp;rfl,l,b,f,z,w,?_⟩;rw[Dq,Fz]at x;exact x
    .rintro⟨c,j,p⟩ ⟨l,b,f,z,w,x⟩;have M:Ac ((k:Int)+((Af n).length:Int))=((k+(Af n).length:Nat):Int):=ξ;have g:k+(Af n).length<p.length:=ω;have E:Cs c=c:=Gu ω ω;have u:p[k+(Af n).length]=0:=(by have:=congrArg head? f;rw[head?_drop,B3 g]at this;have B:(replicate ((Af m).length-k) (0:Int)).head? = some 0:=(by cases hh:(Af m).length-k with| zero=>omega| succ t=>rfl);rw[B]at this;exact Fa this);refine⟨_,by simp only[M,Ek rfl g,Ad,E,e4,Gv rfl];rfl,_,rfl,⟨k+1,rfl,ω,by simpa using l,b.set _ z w,?_,?_⟩,ζ⟩
     .rw[drop_set_of_lt ω,show k+1+(Af n).length=(k+(Af n).length)+1 by omega,<-drop_drop,f,drop_replicate];congr 1
     .rw[Mb _ g,u,G3 _ h,Int.add_mul,<-G];grind
   .have J:k=(Af m).length:=ω;subst J;refine .inr ⟨o,ψ,R,D,?_⟩;rw[Dq,Fz]at G;rw[G];simp
  .rintro o ⟨h2,h3,h4⟩;rw[Qu o ω,Ad,Ln h3 h4]
theorem Api (a:List Int) (m:Nat) (p:B7 a) (V:a.length<1099511627776) (U:m<1000000000) : ∃o,Uv a m=some o/\o.length=a.length+1/\B7 o/\Ak o=Ak a*m:=by
 unfold Uv;have u:Ac ((a.length:Int)+1)=((a.length+1:Nat):Int):=by rw[Ac,B8] <;> omega
 rw[u,Kk rfl rfl (Nat.le_refl _) ω ω];simp only[Ad];refine Ev (λ(c,i,o)=>∃k:Nat,i=k/\k<=a.length/\o.length=a.length+1/\B7 o/\o.drop k=replicate (a.length+1-k) 0/\0<=c/\c<1000000000/\Ak o+1000000000 ^ k*c=Ak (a.take k)*m) (λ(_,i,_)=>a.length-i.toNat) (λ(c,o)=>o.length=a.length+1/\B7 o/\o.drop a.length = [0]/\0<=c/\c<1000000000/\Ak o+1000000000 ^ a.length*c=Ak a*m) ⟨0,rfl,ω,ψ,B7.replicate _,ψ,ω,ω,by simp[Ak,Ab5]⟩ ?_ ?_
 .rintro⟨c,i,o⟩ ⟨k,rfl,H,B,q,g,z,v,I⟩;rcases Cb k a.length with h|h
  .have e:=p.get h;have f:k<o.length:=ω;have G:=Acx e.1 e.2 (show (0:Int)<=m by omega) ω;have S:=Mf h ω;have R:decide ((k:Int)<(a.length:Int))=true:=Aq ω;have E:Az a[k]=a[k]:=Dl ω ω;have D:Az (a[k]*(m:Int))=a[k]*m:=Dl ω ω;have A:Az (a[k]*(m:Int)+c)=a[k]*m+c:=Dl ω ω;have b:o[k]=0:=(by have:=congrArg head? g;rw[head?_drop,B3 f]at this;have l:(replicate (a.length+1-k) (0:Int)).head? = some 0:=(by cases X:a.length+1-k with| zero=>omega| succ t=>rfl);rw[l]at this;exact Fa this);generalize w:a[k]*(m:Int)+c=s at A;have j:0<=s:=ω;have J:s<1000000000000000000:=ω;have x:Cs (s % 1000000000)=s % 1000000000:=Gu ω ω;refine .inl ⟨(s / 1000000000,((k+1:Nat):Int),o.set k (s % 1000000000)),?_,⟨k+1,rfl,ω,by simpa using B,q.set _ ω ω,?_,ω,ω,?_⟩,ζ⟩
   .simp only[R,Al,Ek rfl h,Ek rfl f,Ad,E,D,w,A,Ll j (show (0:Int)<1000000000 by decide),Lm j (show s<=_ by omega) (show (0:Int)<1000000000 by decide),x,S,Gv rfl]
   .rw[drop_set_of_lt ω,<-drop_drop,g,drop_replicate];congr 1
   .rw[Mb _ f,b,G3 _ h,Int.pow_succ];have:=Int.mul_ediv_add_emod s 1000000000;grind
  .have y:k=a.length:=ω;subst y;refine .inr ⟨(c,o),ψ,B,q,by rw[g];simp,z,v,by rwa [Dq]at I⟩
 .rintro⟨c,o⟩ ⟨C,F,g,N,M,L⟩;have f:a.length<o.length:=ω;have x:Cs c=c:=Gu ω ω;have b:o[a.length]=0:=(by have:=congrArg head? g;rw[head?_drop,B3 f]at this;exact Fa this);refine⟨o.set a.length c,by simp only[Ek rfl f,Ad,x,Gv rfl],by simpa using C,F.set _ N M,?_⟩;rw[Mb _ f,b,<-L];grind
theorem Qw {α:Type} {l:List α} {i:Int} (e:i=k) (m:k<n) (h:off+k<l.length):Ke l off n i=some l[off+k]:=by subst e;have p:(0:Int)<=(k:Int):=ω;have v:(k:Int)<(n:Int):=ω;simp[Ke,m,h]
theorem A0i {k tb B:Int} (i:0<P) (u:V=j+P*tb) (l:0<=j) (x:U=k+P*hb) (s:k<P) (m:q*V<=U) (c:0<=g) (h:hb<g*tb) (b:0<=tb):q<g:=by
 rcases Int.lt_or_le q g with e|e
 .exact e
 .exfalso;have f:0<=V:=(by have:=Int.mul_nonneg (Int.le_of_lt i) b;omega);have p:g*V<=q*V:=Int.mul_le_mul_of_nonneg_right e f;have v:g*(P*tb)<=g*V:=Int.mul_le_mul_of_nonneg_left ω c;have w:P*(hb+1)<=P*(g*tb):=Int.mul_le_mul_of_nonneg_left ω (Int.le_of_lt i);have z:g*(P*tb)=P*(g*tb):=(by grind);have y:P*(hb+1)=P*hb+P:=(by grind);omega
theorem Apj {k tb:Int} (i:0<P) (y:V=j+P*tb) (s:j<P) (z:U=k+P*hb) (u:0<=k) (w:U<(q+1)*V) (l:0<=g) (p:g<=tb+1) (h:g*tb<=hb) (b:0<V):g<=q+1:=by
 rcases Int.lt_or_le (q+1) g with e|e
 .exfalso;have f:0<=g-1:=by
   rcases Int.lt_or_le g 1 with m|m
   .have:g=0:=ω;subst this;have c:q+1<0:=e;have:(q+1)*V<0:=Int.mul_neg_of_neg_of_pos c b;have v:0<=hb:=(by simpa using h);have:=Int.mul_nonneg (Int.le_of_lt i) v;omega
   .omega
  have B:(q+1)*V<=(g-1)*V:=Int.mul_le_mul_of_nonneg_right ω (Int.le_of_lt b);have x:P*(tb+1)=P*tb+P:=(by grind);have m:(g-1)*V<=(g-1)*(P*(tb+1)):=Int.mul_le_mul_of_nonneg_left ω f;have C:(g-1)*(P*(tb+1))=P*(g*tb+(g-tb-1)):=(by grind);have A:P*(g*tb+(g-tb-1))<=P*hb:=Int.mul_le_mul_of_nonneg_left ω (Int.le_of_lt i);omega
 .exact e
theorem A0j {A C:Type} {X:Option (A×C)} {Q:A->C->Prop} (h:∃r,X=some r/\Q r.1 r.2):∃q o,X=some (q,o)/\Q q o:=by obtain⟨⟨a,c⟩,e,i⟩:=h;exact⟨a,c,e,i⟩
theorem al1 (k:g*t+r=h):(g-1)*t+(r+t)=h:=by grind
theorem al2 {p:Int} (e:s-1000000000*d=x-b-p):o+P*(s-x)-P*1000000000*d=(o-P*b)-P*p:=by grind
theorem al3 (b X K g A y:Int):b-X*(g*A)-X*K*(g*y)=b-X*(g*(A+K*y)):=by grind
theorem al4 {c:Int} (h:u+X*(W+N*c-U)-X*N*b=u-X*(g*V)):X*(U-g*V)=X*(W+N*(c-b)):=by grind
theorem al5 (u X q:Int):u-X*q-u=X*(-q):=by grind
theorem al6 (h:o-P*b=r):o+P*(x-b-x)=r:=by grind
theorem al7 {K c A:Int} (e:x+y+c=s) (f:1000000000*(s / 1000000000)+s % 1000000000=s) (h:b+X*K*c=o+X*A):b+X*K*(s % 1000000000-x)+X*K*1000000000*(s / 1000000000)=o+X*(A+K*y):=by grind
theorem al8 {f c:Int} (e:o-X*N*b=u-X*((q+1)*V)) (i:u+X*(W+N*f-U)+X*N*c=o+X*V):X*(U-q*V)=X*(W+N*(f-b+c)):=by grind
theorem al9 {c f:Int} (e:g+P*c=o+X*V) (i:o-P*b=u-X*((q+1)*V)) (m:f=b-c):g+P*(0-f)=u-X*(q*V):=by grind
theorem gtb (k:g*t+r=h):g*(t*1000000000+x)=(h-r)*1000000000+g*x:=by subst k;grind
theorem Ah1 (h:(1000000000:Int) ^ k*x=1000000000 ^ k*y):x=y:=Int.eq_of_mul_eq_mul_left (by have:=Ky k;omega) h
theorem Apk {o u:List Int} (b:off<=o.length) (e:off<=u.length) (h:o.take off=u.take off):Ak o-Ak u=1000000000 ^ off*(Ak (o.drop off)-Ak (u.drop off)):=by rw[N1 o off b,N1 u off e,h];grind
theorem Acy (h:B7 l) (k:Nat):0<=Ak (l.drop k):=Hs (h.drop k).u32
theorem A0k {D:List Int} (b:B7 D) (w:2<=n) (i:n<D.length) (g:Ak D<1000000000 ^ (n+1)) : Ak D=Ak (D.take (n-2))+1000000000 ^ (n-2)*((D[n]*1000000000+D[n-1])*1000000000+D[n-2]):=by
 have e:=N1 D (n+1) i;have m:Ak (D.drop (n+1))=0:=by
  have s:=Acy b (n+1);have A:=Hs ((b.take (n+1)).u32);rcases Int.lt_or_le 0 (Ak (D.drop (n+1))) with h|h
  .have:(1000000000:Int) ^ (n+1)*1<=1000000000 ^ (n+1)*Ak (D.drop (n+1)):=Int.mul_le_mul_of_nonneg_left h (Int.le_of_lt (Ky _));omega
  .omega
 rw[m,Int.mul_zero,Int.add_zero]at e;obtain⟨t,rfl⟩:∃t,n=t+2:=⟨n-2,ω⟩;have q:=G3 D (k:=t) ω;have l:=G3 D (k:=t+1) ω;have j:=G3 D (k:=t+2) ω;have f:(1000000000:Int) ^ (t+1)=1000000000 ^ t*1000000000:=Int.pow_succ ..;have c:(1000000000:Int) ^ (t+2)=1000000000 ^ (t+1)*1000000000:=Int.pow_succ ..;have p:t+2-2=t:=rfl;have v:t+2-1=t+1:=rfl;simp only[p,v];rw[e,j,l,q,c,f];grind
theorem A0l {v:List Int} (p:2<=n) (g:v.length=n) : Ak v=Ak (v.take (n-2))+1000000000 ^ (n-2)*(v[n-1]*1000000000+v[n-2]):=by obtain⟨t,rfl⟩:∃t,n=t+2:=⟨n-2,ω⟩;have f:=G3 v (k:=t) ω;have b:=G3 v (k:=t+1) ω;have e:v.take (t+1+1)=v:=Iz ω;rw[e]at b;have c:(1000000000:Int) ^ (t+1)=1000000000 ^ t*1000000000:=Int.pow_succ ..;have i:t+2-2=t:=rfl;have m:t+2-1=t+1:=rfl;simp only[i,m];rw[b,f,c];grind
set_option maxHeartbeats 1000000 in
theorem A0m (v u:List Int) (off n:Nat) (K:B7 v) (Q:B7 u) (hn:v.length=n) (h2:2<=n) (c7:n<1099511627776) (bp:500000000<=v[n-1]) (X:off+n<u.length) (hT:Ak (u.drop off)<Ak v*1000000000) : ∃q o,Ya off (n+1) v u=some (q,o)/\o.length=u.length/\B7 o/\0<=q/\q<1000000000/\Ak o=Ak u-1000000000 ^ off*(q*Ak v)/\0<=Ak (o.drop off)/\Ak (o.drop off)<Ak v:=by
 have b7:=Kl K;rw[hn]at b7;have cb:(u.drop off).length=u.length-off:=length_drop;have A:=Q.drop off;have bo:=Hs A.u32;have b9:Ak (u.drop off)<1000000000 ^ (n+1):=by rw[Int.pow_succ];omega
 have ab:=A0k A h2 ω b9;have ao:=A0l h2 hn;have gd:∀i (h:i<(u.drop off).length),(u.drop off)[i]=u[off+i]' ω:=λi h=>getElem_drop;rw[gd,gd,gd]at ab;have bt:=Q.get (i:=off+n) ω;have bv:=Q.get (i:=off+(n-1)) ω;have bu:=Q.get (i:=off+(n-2)) ω;have bw:=K.get (i:=n-1) ω;have ad:=K.get (i:=n-2) ω;have T:=Ky (n-2);have b8:=Hs ((K.take (n-2)).u32);have aa:=Kl (K.take (n-2));rw[length_take,Nat.min_eq_left ω]at aa;have bb:=Hs ((A.take (n-2)).u32);have ba:=Kl (A.take (n-2));rw[length_take,Nat.min_eq_left ω]at ba;have y:0<Ak v:=by have:(1000000000:Int) ^ (n-2)*1<=1000000000 ^ (n-2)*(v[n-1]*1000000000+v[n-2]):=Int.mul_le_mul_of_nonneg_left ω (Int.le_of_lt T);omega
 generalize hq:Ak (u.drop off) / Ak v=q;have bi:q*Ak v<=Ak (u.drop off):=by rw[<-hq];exact Int.ediv_mul_le _ ω
 have ar:Ak (u.drop off)<(q+1)*Ak v:=by rw[<-hq];have:=Int.lt_ediv_add_one_mul_self (Ak (u.drop off)) y;exact this
 have ag:0<=q:=by rw[<-hq];exact Int.ediv_nonneg bo ω
 have bg:q<1000000000:=by rw[<-hq];exact Int.ediv_lt_of_lt_mul y (by rw[Int.mul_comm];exact hT)
 have l:(0:Int)<v[n-1]:=ω;generalize ak:u[off+n]*1000000000+u[off+(n-1)]=head at ab;have am:0<=head:=ω;have c9:head<=v[n-1]*1000000000+v[n-2]:=by
  rcases Int.lt_or_le (v[n-1]*1000000000+v[n-2]) head with h|h
  .exfalso;have a1:(1000000000:Int) ^ (n-2)*((v[n-1]*1000000000+v[n-2]+1)*1000000000)<=1000000000 ^ (n-2)*(head*1000000000+u[off+(n-2)]):=Int.mul_le_mul_of_nonneg_left ω (Int.le_of_lt T);have a2:Ak v*1000000000<(1000000000 ^ (n-2)*(v[n-1]*1000000000+v[n-2]+1))*1000000000:=(by have:(1000000000:Int) ^ (n-2)*(v[n-1]*1000000000+v[n-2]+1)=1000000000 ^ (n-2)*(v[n-1]*1000000000+v[n-2])+1000000000 ^ (n-2):=(by grind);omega);have a3:((1000000000:Int) ^ (n-2)*(v[n-1]*1000000000+v[n-2]+1))*1000000000=1000000000 ^ (n-2)*((v[n-1]*1000000000+v[n-2]+1)*1000000000):=(by grind);omega
  .exact h
 have ca:0<=head / v[n-1]:=Int.ediv_nonneg am ω;have bm:head / v[n-1]<=1000000001:=by have:head / v[n-1]<1000000002:=Int.ediv_lt_of_lt_mul l ω;omega
 have bf:=Int.emod_nonneg head (ω:v[n-1]≠0);have bx:=Int.emod_lt_of_pos head l;have bn:=Int.mul_ediv_add_emod head v[n-1];unfold Ya;have w1:Ac ((v.length:Int)-1)=((n-1:Nat):Int):=by rw[Ac,B8] <;> omega
 have w2:Ac ((v.length:Int)-2)=((n-2:Nat):Int):=by rw[Ac,B8] <;> omega
 have w3:(v.length:Int)=((n:Nat):Int):=ω;have x1:Az u[off+n]=u[off+n]:=Dl ω ω;have x2:Az (u[off+n]*1000000000)=u[off+n]*1000000000:=Dl ω ω;have x3:Az u[off+(n-1)]=u[off+(n-1)]:=Dl ω ω;have x4:Az (u[off+n]*1000000000+u[off+(n-1)])=head:=by rw[Az,Dl ω ω,ak]
 have x5:Az v[n-1]=v[n-1]:=Dl ω ω;have x6:Az v[n-2]=v[n-2]:=Dl ω ω;have x7:Az u[off+(n-2)]=u[off+(n-2)]:=Dl ω ω;rw[w1,w2,Ek rfl (ω:n-1<v.length),Ad,Ek rfl (ω:n-2<v.length),Ad,w3,Qw rfl (ω:n<n+1) ω,Ad,Qw rfl (ω:n-1<n+1) ω,Ad,x1,x2,x3,x4,x5,x6,Lm am ω l,Ad,Ll am l,Ad];refine A0j (Ev (λ(g,m)=>g*v[n-1]+m=head/\0<=m/\m<2000000000/\q<=g/\g<=1000000001) (λ(g,_)=>g.toNat) (λg=>q<=g/\g<=q+1/\g<=1000000000) ⟨by rw[Int.mul_comm];exact bn,bf,ω,?_,bm⟩ ?_ ?_)
 .rcases Int.lt_or_le (head / v[n-1]) q with h|h
  .exfalso;have a1:(head / v[n-1]+1)*v[n-1]<=q*v[n-1]:=Int.mul_le_mul_of_nonneg_right ω ω;have a2:head<(head / v[n-1]+1)*v[n-1]:=Int.lt_ediv_add_one_mul_self head l;have a3:q*(1000000000 ^ (n-2)*(v[n-1]*1000000000+v[n-2]))<=q*Ak v:=Int.mul_le_mul_of_nonneg_left ω ag;have a4:(1000000000:Int) ^ (n-2)*((head+1)*1000000000)<=1000000000 ^ (n-2)*(q*(v[n-1]*1000000000+v[n-2])):=(by apply Int.mul_le_mul_of_nonneg_left _ (Int.le_of_lt T);have b1:(head+1)*1000000000<=q*v[n-1]*1000000000:=ω;have b2:0<=q*v[n-2]:=Int.mul_nonneg ag ad.1;have b3:q*(v[n-1]*1000000000+v[n-2])=q*v[n-1]*1000000000+q*v[n-2]:=(by grind);omega);have a5:q*((1000000000:Int) ^ (n-2)*(v[n-1]*1000000000+v[n-2]))=1000000000 ^ (n-2)*(q*(v[n-1]*1000000000+v[n-2])):=(by grind);have a6:(1000000000:Int) ^ (n-2)*((head+1)*1000000000)=1000000000 ^ (n-2)*(head*1000000000)+1000000000 ^ (n-2)*1000000000:=(by grind);have a7:(1000000000:Int) ^ (n-2)*(head*1000000000+u[off+(n-2)])=1000000000 ^ (n-2)*(head*1000000000)+1000000000 ^ (n-2)*u[off+(n-2)]:=(by grind);have a8:(1000000000:Int) ^ (n-2)*(u[off+(n-2)]+1)<=1000000000 ^ (n-2)*1000000000:=Int.mul_le_mul_of_nonneg_left ω (Int.le_of_lt T);have a9:(1000000000:Int) ^ (n-2)*(u[off+(n-2)]+1)=1000000000 ^ (n-2)*u[off+(n-2)]+1000000000 ^ (n-2):=(by grind);omega
  .exact h
 .rintro⟨g,m⟩ ⟨k1,k2,k3,k4,k5⟩;have S:0<=g:=ω;have w4:Az (v[n-1])=v[n-1]:=x5;have af:∀(w:q<g),(some (Sum.inl ((Az (g-1)),(Az (m+v[n-1])))):Option ((Int×Int)⊕Int))=some (.inl (g-1,m+v[n-1])):=(by intro w;rw[show Az (g-1)=g-1 from Dl ω ω,show Az (m+v[n-1])=m+v[n-1] from Dl ω ω]);have F:∀(hr:m<1000000000) (w:q<g),(g-1)*v[n-1]+(m+v[n-1])=head/\0<=m+v[n-1]/\m+v[n-1]<2000000000/\q<=g-1/\g-1<=1000000001:=(by intro hr w;exact⟨al1 k1,ω,ω,ω,ω⟩);by_cases hr:m<1000000000
  .by_cases Y:g>=1000000000
   .refine .inl ⟨(g-1,m+v[n-1]),?_,F hr ω,ζ⟩;simp only[Aq hr,Al,Aq Y,Ad];exact af ω
   .have br:=Acx S ω ad.1 ad.2;have y1:Az (g*v[n-2])=g*v[n-2]:=Dl ω ω;have y2:Az (m*1000000000)=m*1000000000:=Dl ω ω;have y3:Az (m*1000000000+u[off+(n-2)])=m*1000000000+u[off+(n-2)]:=Dl ω ω;have az:g*(v[n-1]*1000000000+v[n-2])=(head-m)*1000000000+g*v[n-2]:=gtb k1;simp only[Aq hr,Al,Aw Y,Ao,Qw rfl (ω:n-2<n+1) (ω:off+(n-2)<u.length),Ad,y1,x7,y2,y3];by_cases ae:g*v[n-2]>m*1000000000+u[off+(n-2)]
    .have w:q<g:=A0i (P:=1000000000 ^ (n-2)) (tb:=v[n-1]*1000000000+v[n-2]) (hb:=head*1000000000+u[off+(n-2)]) (B:=0) T ao b8 ab ba bi S ω ω;refine .inl ⟨(g-1,m+v[n-1]),?_,F hr w,ζ⟩;rw[Aq ae,Al];exact af w
    .refine .inr ⟨g,by rw[Aw ae,Ao],k4,?_,ω⟩;exact Apj (P:=1000000000 ^ (n-2)) (tb:=v[n-1]*1000000000+v[n-2]) (hb:=head*1000000000+u[off+(n-2)]) T ao aa ab bb ar S ω ω y
  .refine .inr ⟨g,by simp only[Aw hr,Ao,Ad],k4,?_⟩;have Y:g<=1000000000:=by
    rcases Int.lt_or_le 1000000000 g with h|h
    .exfalso;have:g=1000000001:=ω;subst this;omega
    .exact h
   refine⟨?_,Y⟩;have az:g*(v[n-1]*1000000000+v[n-2])=(head-m)*1000000000+g*v[n-2]:=gtb k1;have bq:g*v[n-2]<=1000000000*v[n-2]:=Int.mul_le_mul_of_nonneg_right Y ad.1;exact Apj (P:=1000000000 ^ (n-2)) (tb:=v[n-1]*1000000000+v[n-2]) (hb:=head*1000000000+u[off+(n-2)]) T ao aa ab bb ar S ω ω y
 .rintro g ⟨k1,k2,k3⟩;have S:0<=g:=ω;refine Ev (λ(b,i,o)=>∃k:Nat,i=k/\k<=n/\o.length=u.length/\B7 o/\o.take off=u.take off/\o.drop (off+k)=u.drop (off+k)/\0<=b/\b<=1000000001/\Ak o-1000000000 ^ (off+k)*b=Ak u-1000000000 ^ off*(g*Ak (v.take k))) (λ(_,i,_)=>n-i.toNat) (λ(b,o)=>o.length=u.length/\B7 o/\o.take off=u.take off/\o.drop (off+n)=u.drop (off+n)/\0<=b/\b<=1000000001/\Ak o-1000000000 ^ (off+n)*b=Ak u-1000000000 ^ off*(g*Ak v)) ⟨0,rfl,ω,rfl,Q,rfl,rfl,ω,ω,by simp[Ak]⟩ ?_ ?_
  .rintro⟨b,i,o⟩ ⟨k,rfl,hk,ho,I,M,L,b6,b5,f⟩;rcases Cb k n with h|h
   .have E:off+k<o.length:=ω;have J:k<v.length:=ω;have hx:=I.get E;have hy:=K.get J;have e4:=Mf h ω;have e5:decide ((k:Int)<(n:Int))=true:=Aq ω;have av:0<=g*v[k]:=Int.mul_nonneg S hy.1;have bz:g*v[k]<=1000000000*v[k]:=Int.mul_le_mul_of_nonneg_right k3 hy.1;have y1:Az v[k]=v[k]:=Dl ω ω;have y2:Az (g*v[k])=g*v[k]:=Dl ω ω;have y3:Ac o[off+k]=o[off+k]:=B8 ω ω;generalize au:g*v[k]=p at *;have y4:Ac (o[off+k]-b)=o[off+k]-b:=B8 ω ω;have y5:Ac (p % 1000000000)=p % 1000000000:=B8 ω ω;have y6:Ac (o[off+k]-b-p % 1000000000)=o[off+k]-b-p % 1000000000:=B8 ω ω;have y7:Ac (p / 1000000000)=p / 1000000000:=B8 ω ω;simp only[e5,Al,Qw rfl (ω:k<n+1) E,Ek rfl J,Ad,y1,y2,au,y3,y4,Ll av (show (0:Int)<1000000000 by decide),Lm av (show p<=_ by omega) (show (0:Int)<1000000000 by decide),y5,y6,y7];refine .inl (Ab4 (Ev (λ(b',s)=>∃t:Nat,b'=p / 1000000000+t/\s=o[off+k]-b-p % 1000000000+t*1000000000/\s<1000000000/\t<=3) (λ(_,s)=>(-s).toNat) (λ(b',s)=>∃t:Nat,b'=p / 1000000000+t/\s=o[off+k]-b-p % 1000000000+t*1000000000/\s<1000000000/\0<=s/\t<=2) ⟨0,ψ,ψ,ω,ω⟩ ?_ ?_))
    .rintro⟨b',s⟩ ⟨t,rfl,hs,ac,ht⟩;by_cases G:s<0
     .refine .inl ⟨(p / 1000000000+(t+1:Nat),s+1000000000),?_,⟨t+1,rfl,by rw[hs];simp;omega,ω,ω⟩,ζ⟩;rw[Aq G,Al,show Ac (p / 1000000000+(t:Int)+1)=p / 1000000000+((t+1:Nat):Int) by rw[Ac,B8] <;> omega,show Ac (s+1000000000)=s+1000000000 from B8 ω ω]
     .exact .inr ⟨(p / 1000000000+t,s),by rw[Aw G,Ao],t,rfl,hs,ac,ω,ω⟩
    .rintro⟨b',s⟩ ⟨t,rfl,hs,ac,G,ht⟩;have y8:Cs s=s:=Gu ω ω;refine⟨.inl (p / 1000000000+t,((k+1:Nat):Int),o.set (off+k) s),by simp only[Qw rfl (ω:k<n+1) E,Ad,y8,e4];rw[Gv (n:=off+k) ω],_,rfl,⟨k+1,rfl,ω,by simpa using ho,I.set _ G ac,?_,?_,ω,ω,?_⟩,ζ⟩
     .rw[take_set_of_le ω];exact M
     .rw[drop_set_of_lt ω,show off+(k+1)=(off+k)+1 by omega,<-drop_drop,L,drop_drop]
     .rw[Mb _ E,G3 v J,show off+(k+1)=(off+k)+1 by omega,Int.pow_succ];have ay:=Int.mul_ediv_add_emod p 1000000000;have pa:(1000000000:Int) ^ (off+k)=1000000000 ^ off*1000000000 ^ k:=Int.pow_add ..;have eA:s-1000000000*(p / 1000000000+(t:Int))=o[off+k]-b-p:=(by rw[hs];omega);rw[al2 eA,f,<-au,pa];exact al3 _ _ _ _ _ _
   .have aj:k=n:=ω;subst aj;refine .inr ⟨(b,o),ψ,ho,I,M,L,b6,b5,?_⟩;rw[Iz ω]at f;exact f
  .rintro⟨b,o⟩ ⟨ho,I,M,L,b6,b5,f⟩;have hV:=y;have ah:off+n<o.length:=ω;have ax:o[off+n]=u[off+n]:=(by have:=congrArg head? L;rw[head?_drop,head?_drop,B3 ah,B3 X]at this;exact Fa this);have hE:Ak (u.drop (off+n))=u[off+n]:=by
    have a1:=N1 (u.drop off) (n+1) ω;have a2:=Hs (((Q.drop off).take (n+1)).u32);have a3:=Acy (Q.drop off) (n+1);have a4:Ak ((u.drop off).drop (n+1))=0:=by
     rcases Int.lt_or_le 0 (Ak ((u.drop off).drop (n+1))) with h|h
     .have:(1000000000:Int) ^ (n+1)*1<=1000000000 ^ (n+1)*Ak ((u.drop off).drop (n+1)):=Int.mul_le_mul_of_nonneg_left h (Int.le_of_lt (Ky _));omega
     .omega
    rw[drop_eq_getElem_cons X];simp only[Ak];rw[drop_drop,show off+(n+1)=off+n+1 by omega]at a4;rw[a4];omega
   have H:∀C:List Int,C.length=u.length->B7 C->C.take off=u.take off->C.drop (off+n)=u.drop (off+n)->0<=Ak ((C.drop off).take n)/\Ak ((C.drop off).take n)<1000000000 ^ n /\
     Ak C=Ak u+1000000000 ^ off*(Ak ((C.drop off).take n)+1000000000 ^ n*u[off+n]-Ak (u.drop off)):=by intro C l1 l2 l3 l4;have a1:=N1 (C.drop off) n (by rw[length_drop];omega);rw[drop_drop,l4,hE]at a1;have a2:=Apk ω ω l3;refine⟨Hs (((l2.drop off).take n).u32),?_,by rw[<-a1];omega⟩;have:=Kl ((l2.drop off).take n);rw[length_take,length_drop,Nat.min_eq_left ω]at this;exact this
   obtain⟨m1,m2,m3⟩:=H o ho I M L;have pa:(1000000000:Int) ^ (off+n)=1000000000 ^ off*1000000000 ^ n:=Int.pow_add ..;have a0:Ak (u.drop off)-g*Ak v=Ak ((o.drop off).take n)+1000000000 ^ n*(u[off+n]-b):=(by apply Ah1 (k:=off);rw[m3,pa]at f;exact al4 f);have y1:Ac u[off+n]=u[off+n]:=B8 ω ω;have y2:Ac (u[off+n]-b)=u[off+n]-b:=B8 ω ω;have ap:=Ky n;have fin:∀(U:List Int) (x:Int) (j:List Int),U=j.set (off+n) x->j.length=u.length->B7 j->0<=x->x<1000000000->j.take off=u.take off->Ak U=Ak u-1000000000 ^ off*(q*Ak v) ->
     U.length=u.length/\B7 U/\0<=q/\q<1000000000/\Ak U=Ak u-1000000000 ^ off*(q*Ak v)/\0<=Ak (U.drop off)/\Ak (U.drop off)<Ak v:=by intro U x j e l1 l2 x0 x1 l3 aq;have L4:U.length=u.length:=(by rw[e];simpa using l1);have T4:U.take off=u.take off:=(by rw[e,take_set_of_le ω];exact l3);have hp:=Apk ω ω T4;have hd:Ak (U.drop off)=Ak (u.drop off)-q*Ak v:=(by have:Ak (U.drop off)-Ak (u.drop off) = - (q*Ak v):=(by apply Ah1 (k:=off);rw[<-hp,aq];exact al5 _ _ _);omega);have bh:(q+1)*Ak v=q*Ak v+Ak v:=(by grind);exact⟨L4,by rw[e];exact l2.set _ x0 x1,ag,bg,aq,ω,ω⟩
   simp only[Qw rfl (ω:n<n+1) ah,ax,Ad,y1,y2];by_cases z:u[off+n]-b>=0
   .have c8:g*Ak v<=Ak (u.drop off):=(by have:=Int.mul_nonneg (Int.le_of_lt ap) z;omega);have R:g=q:=by
     rcases Int.lt_or_le q g with h|h
     .exfalso;have:(q+1)*Ak v<=g*Ak v:=Int.mul_le_mul_of_nonneg_right ω ω;omega
     .omega
    have y3:Cs (u[off+n]-b)=u[off+n]-b:=Gu ω ω;have y4:Cs g=g:=Gu ω ω;rw[Aq z,Al,y3,y4,Gv (n:=off+n) ω];refine⟨_,rfl,?_⟩;rw[R];refine fin _ (u[off+n]-b) o rfl ho I z ω M ?_;rw[Mb _ ah,ax];rw[R]at f;exact al6 f
   .have R:g=q+1:=by
     have h1:1000000000 ^ n*(u[off+n]-b)<=1000000000 ^ n*(-1):=Int.mul_le_mul_of_nonneg_left ω (Int.le_of_lt ap);rcases Int.lt_or_le q g with h|h
     .omega
     .exfalso;have:g*Ak v<=q*Ak v:=Int.mul_le_mul_of_nonneg_right h ω;omega
    rw[Aw z,Ao];refine Ev (λ(c,i,j)=>∃k:Nat,i=k/\k<=n/\j.length=u.length/\B7 j/\j.take off=u.take off/\j.drop (off+k)=o.drop (off+k)/\0<=c/\c<=1/\Ak j+1000000000 ^ (off+k)*c=Ak o+1000000000 ^ off*Ak (v.take k)) (λ(_,i,_)=>n-i.toNat) (λ(c,j)=>j.length=u.length/\B7 j/\j.take off=u.take off/\j.drop (off+n)=o.drop (off+n)/\0<=c/\c<=1/\Ak j+1000000000 ^ (off+n)*c=Ak o+1000000000 ^ off*Ak v) ⟨0,rfl,ω,ho,I,M,rfl,ω,ω,by simp[Ak]⟩ ?_ ?_
    .rintro⟨c,i,j⟩ ⟨k,rfl,hk,h3,N,V,Z,b4,b0,D⟩;rcases Cb k n with h|h
     .have E:off+k<j.length:=ω;have J:k<v.length:=ω;have hx:=N.get E;have hy:=K.get J;have e4:=Mf h ω;have e5:decide ((k:Int)<(n:Int))=true:=Aq ω;have z1:Cs (j[off+k]+v[k])=j[off+k]+v[k]:=Gu ω ω;have z2:Cs (j[off+k]+v[k]+c)=j[off+k]+v[k]+c:=Gu ω ω;generalize hs:j[off+k]+v[k]+c=s at z2;have G:0<=s:=ω;have ac:s<2000000000:=ω;refine .inl ⟨(s / 1000000000,((k+1:Nat):Int),j.set (off+k) (s % 1000000000)),?_,⟨k+1,rfl,ω,by simpa using h3,N.set _ ω ω,?_,?_,ω,ω,?_⟩,ζ⟩
      .simp only[e5,Al,Qw rfl (ω:k<n+1) E,Ek rfl J,Ad,z1,hs,z2,Ans G (show s<=_ by omega) (show (0:Int)<1000000000 by decide),Ll G (show (0:Int)<1000000000 by decide),e4];rw[Gv (n:=off+k) ω]
      .rw[take_set_of_le ω];exact V
      .rw[drop_set_of_lt ω,show off+(k+1)=(off+k)+1 by omega,<-drop_drop,Z,drop_drop]
      .rw[Mb _ E,G3 v J,show off+(k+1)=(off+k)+1 by omega,Int.pow_succ];have ay:=Int.mul_ediv_add_emod s 1000000000;have pk:(1000000000:Int) ^ (off+k)=1000000000 ^ off*1000000000 ^ k:=Int.pow_add ..;rw[pk]at D ⊢;exact al7 hs ay D
     .have aj:k=n:=ω;subst aj;refine .inr ⟨(c,j),ψ,h3,N,V,Z,b4,b0,?_⟩;rw[Iz ω]at D;exact D
    .rintro⟨c,j⟩ ⟨h3,N,V,Z,b4,b0,D⟩;have ai:off+n<j.length:=ω;obtain⟨r1,r2,r3⟩:=H j h3 N V (Z.trans L);have bj:j[off+n]=u[off+n]:=(by have:=congrArg head? (Z.trans L);rw[head?_drop,head?_drop,B3 ai,B3 X]at this;exact Fa this);have be:Ak (u.drop off)-q*Ak v=Ak ((j.drop off).take n)+1000000000 ^ n*(u[off+n]-b+c):=(by apply Ah1 (k:=off);rw[r3,pa]at D;rw[R]at f;rw[pa]at f;exact al8 f D);have bl:u[off+n]-b+c=0:=by
      have bh:(q+1)*Ak v=q*Ak v+Ak v:=(by grind);rcases Int.lt_or_le (u[off+n]-b+c) 0 with h|h
      .exfalso;have h1:1000000000 ^ n*(u[off+n]-b+c)<=1000000000 ^ n*(-1):=Int.mul_le_mul_of_nonneg_left ω (Int.le_of_lt ap);omega
      .omega
     have y5:Ac c=c:=B8 ω ω;have y6:Ac (u[off+n]-b+c)=0:=(by rw[bl];rfl);have y7:Cs (0:Int)=0:=rfl;have y8:Az (g-1)=q:=(by rw[R,Az,Dl ω ω];omega);have y9:Cs q=q:=Gu ω ω;simp only[Qw rfl (ω:n<n+1) ai,Ad,y5,y6,y7,y8,y9];rw[Gv (n:=off+n) ω];refine⟨_,rfl,?_⟩;refine fin _ 0 j rfl h3 N ω ω V ?_;rw[Mb _ ai,bj];rw[R]at f;exact al9 D f ω
theorem A0n (a:List Int) (m:Int):Agu a m=Uv a m:=rfl
theorem A0o (p:1<=t) (m:t<1000000000) (v:d*(t+1)+r=1000000000) (f:0<=r) (b:r<=t):500000000<=d*t:=by
 have c:0<=d:=by
  rcases Int.lt_or_le d 0 with h|h
  .exfalso;have:d*(t+1)<=(-1)*(t+1):=Int.mul_le_mul_of_nonneg_right ω ω;omega
  .exact h
 have e:d*(t+1)=d*t+d:=by grind
 rcases Int.lt_or_le t 2 with h|h
 .have:t=1:=ω;subst this;omega
 .rcases Int.lt_or_le d 2 with i|i
  .have:d=0\/d=1:=ω;rcases this with rfl|rfl <;> omega
  .have w:2*(t-1)<=d*(t-1):=Int.mul_le_mul_of_nonneg_right i ω;have g:d*(t-1)=d*t-d:=(by grind);omega
theorem bl1 (P t d:Int):P*t*d=P*(d*t):=by grind
theorem bl2 {K Q S:Int} (h:o=u-X*(q*V)) (b:u+V*(X*1000000000)*Q=S):o+V*X*(q+1000000000*Q)=S:=by grind
set_option maxHeartbeats 1000000 in
theorem Ah2 (m n:Nat) (hm:Bl m<274877906944) (hn:Bl n<274877906944) (G:n≠0):Si (Af m) (Af n)=some (Af (m / n),Af (m % n)):=by
 unfold Si;rw[Yt m n ω ω,Ad];unfold Bl at hm hn;by_cases g:m<n
 .rw[show Gn m n = -1 by rw[Gn,A7 g],Aq (by decide:(-1:Int)<0),Al,Dn ζ,Ad,Nat.div_eq_of_lt g,Nat.mod_eq_of_lt g,Gw];rfl
 .rw[Aw (show ¬Gn m n<0 by rw[Gn,Ay g];split <;> decide),Ao];have be:(Af n).length<=(Af m).length:=Kz ω;have b0:(Af n).length≠0:=λe=>Jc G (Gm.1 e);by_cases h1:(Af n).length=1
  .rw[Gb (ω:((Af n).length:Int)=1),Al];have a6:n<1000000000:=(by have:=M9 n;rw[show Bl n=1 from h1]at this;simpa using this);have am:Af n = [(n:Int)]:=(by rw[M7 G,Nat.div_eq_of_lt a6,Gw,Nat.mod_eq_of_lt a6]);rw[am,show Ah [(n:Int)] 0=some (n:Int) from rfl,Ad,show Az (n:Int)=n from Dl ω ω,Ah0 m n (by unfold Bl;omega) ω ω,Ad];have az:m % n<n:=Nat.mod_lt _ ω;rw[Qv (m % n) ω,Ad]
  .rw[Dc (ω:((Af n).length:Int)≠1),Ao];generalize C:(Af n).length=L at *;generalize hA:(Af m).length=A at *;have w1:Ac ((L:Int)-1)=((L-1:Nat):Int):=ξ;have F:L-1<(Af n).length:=ω;have ht:=(Fi n).get F;have ax:(Af n)[L-1]≠0:=(by have:=(Ab6 n).2 (Jc G);rw[getLast_eq_getElem]at this;simpa[C] using this);generalize y:(Af n)[L-1]=t at *;have w2:Az t=t:=Dl ω ω;have w3:Az (t+1)=t+1:=Dl ω ω;rw[w1,Ek rfl F,y,Ad,w2,w3,Lm δ δ ω,Ad];have U:=Int.mul_ediv_add_emod 1000000000 (t+1);have ah:=Int.emod_nonneg 1000000000 (ω:t+1≠0);have b9:=Int.emod_lt_of_pos 1000000000 (ω:0<t+1);have aq:1<=1000000000 / (t+1):=by
    rcases Int.lt_or_le (1000000000 / (t+1)) 1 with h|h
    .exfalso;have:(t+1)*(1000000000 / (t+1))<=(t+1)*0:=Int.mul_le_mul_of_nonneg_left ω ω;omega
    .exact h
   have ap:1000000000 / (t+1)<=500000000:=(by have:=Int.ediv_lt_of_lt_mul (a:=1000000000) (b:=500000001) (c:=t+1) ω ω;omega);obtain⟨d,hd⟩:∃d:Nat,1000000000 / (t+1)=(d:Int):=⟨(1000000000 / (t+1)).toNat,ω⟩;rw[hd]at U aq ap ⊢;obtain⟨u,ag,E,S,R⟩:=Api (Af m) d (Fi m) ω ω;obtain⟨p,af,ae,D,b7⟩:=Api (Af n) d (Fi n) ω ω;rw[ag,Ad,A0n,af,Ad,Fz]at *;rw[C]at ae;rw[hA]at E;rw[Sv rfl (ω:L<=p.length),Ad];have x:=Ky (L-1);have pL:(1000000000:Int) ^ L=1000000000 ^ (L-1)*1000000000:=(by rw[<-Int.pow_succ];congr 1;omega);have Y:=G3 (Af n) F;rw[Iz ω,Fz,y]at Y;have ay:=Hs (((Fi n).take (L-1)).u32);have Z:=Kl ((Fi n).take (L-1));rw[length_take,C,Nat.min_eq_left ω]at Z;have bb:(n:Int)*d<1000000000 ^ L:=(by have a1:(n:Int)*d<(1000000000 ^ (L-1)*(t+1))*d:=Int.mul_lt_mul_of_pos_right (by have:(1000000000:Int) ^ (L-1)*(t+1)=1000000000 ^ (L-1)*t+1000000000 ^ (L-1):=(by grind);omega) ω;have H:(1000000000 ^ (L-1)*(t+1))*(d:Int)=1000000000 ^ (L-1)*((t+1)*d):=(by grind);have a3:(1000000000:Int) ^ (L-1)*((t+1)*d)<=1000000000 ^ (L-1)*1000000000:=Int.mul_le_mul_of_nonneg_left ω (Int.le_of_lt x);omega);have M:Ak (p.take L)=(n:Int)*d:=by
    have e:=N1 p L ω;have z:Ak (p.drop L)=0:=by
     have a1:=Acy D L;have H:=Hs ((D.take L).u32);rcases Int.lt_or_le 0 (Ak (p.drop L)) with h|h
     .have:(1000000000:Int) ^ L*1<=1000000000 ^ L*Ak (p.drop L):=Int.mul_le_mul_of_nonneg_left h (Int.le_of_lt (Ky _));omega
     .omega
    rw[z]at e;omega
   have I:(p.take L).length=L:=(by rw[length_take];omega);have f:=D.take L;have J:L-1<(p.take L).length:=ω;have ak:500000000<=(d:Int)*t:=A0o (r:=1000000000 % (t+1)) ω ω (by rw[Int.mul_comm];exact U) ah ω;have l:500000000<=(p.take L)[L-1]:=by
    have e:=G3 (p.take L) J;rw[Iz ω,M]at e;have b1:=Kl (f.take (L-1));rw[length_take,I,Nat.min_eq_left ω]at b1;have b2:(1000000000:Int) ^ (L-1)*t*d<=n*d:=Int.mul_le_mul_of_nonneg_right ω ω;have b3:(1000000000:Int) ^ (L-1)*500000000<=1000000000 ^ (L-1)*(d*t):=Int.mul_le_mul_of_nonneg_left ak (Int.le_of_lt x);rw[bl1]at b2;rcases Int.lt_or_le (p.take L)[L-1] 500000000 with h|h
    .exfalso;have b4:(1000000000:Int) ^ (L-1)*((p.take L)[L-1]+1)<=1000000000 ^ (L-1)*500000000:=Int.mul_le_mul_of_nonneg_left ω (Int.le_of_lt x);have b5:(1000000000:Int) ^ (L-1)*((p.take L)[L-1]+1)=1000000000 ^ (L-1)*(p.take L)[L-1]+1000000000 ^ (L-1):=(by grind);omega
    .exact h
   generalize b6:p.take L=v at *;have w4:Ac ((A:Int)-(L:Int))=((A-L:Nat):Int):=ξ;have w5:Ac (((A-L:Nat):Int)+1)=((A-L+1:Nat):Int):=ξ;rw[w4,w5,Kk rfl rfl (Nat.le_refl _) ω ω,Ad,E];have b8:=Hs S.u32;have ar:(0:Int)<(n:Int)*d:=Int.mul_pos ω ω;refine Jk (λ(i,w,q)=>∃k:Nat,i=(k:Int)-1/\k<=A-L+1/\w.length=A+1/\B7 w/\q.length=A-L+1/\B7 q/\Ak w<Ak v*1000000000 ^ k/\Ak w+Ak v*1000000000 ^ k*Ak (q.drop k)=(m:Int)*d) (λ(i,_,_)=>(i+1).toNat) (λ(w,q)=>w.length=A+1/\B7 w/\q.length=A-L+1/\B7 q/\Ak w<Ak v/\Ak w+Ak v*Ak q=(m:Int)*d) ⟨A-L+1,ω,Nat.le_refl _,E,S,ψ,B7.replicate _,?_,by rw[drop_of_length_le ψ];simp[Ak,R]⟩ ?_ ?_
   .have aj:(m:Int)<1000000000 ^ A:=(by have:=Kl (Fi m);rwa [Fz,hA]at this);have a1:(m:Int)*d<1000000000 ^ A*500000000:=(by have c1:(m:Int)*d<=m*500000000:=Int.mul_le_mul_of_nonneg_left ω ω;have c2:(m:Int)*500000000<1000000000 ^ A*500000000:=Int.mul_lt_mul_of_pos_right aj δ;omega);have H:(1000000000:Int) ^ (L-1)*500000000<=Ak v:=(by have e:=G3 v J;rw[Iz ω]at e;have b1:=Hs ((f.take (L-1)).u32);have b3:(1000000000:Int) ^ (L-1)*500000000<=1000000000 ^ (L-1)*v[L-1]:=Int.mul_le_mul_of_nonneg_left l (Int.le_of_lt x);omega);have a3:(1000000000:Int) ^ (L-1)*500000000*1000000000 ^ (A-L+1)<=Ak v*1000000000 ^ (A-L+1):=Int.mul_le_mul_of_nonneg_right H (Int.le_of_lt (Ky _));have a4:(1000000000:Int) ^ (L-1)*500000000*1000000000 ^ (A-L+1)=1000000000 ^ A*500000000:=(by have:(1000000000:Int) ^ A=1000000000 ^ (L-1)*1000000000 ^ (A-L+1):=(by rw[<-Int.pow_add];congr 1;omega);rw[this];grind);rw[R];omega
   .rintro⟨i,w,q⟩ ⟨k,rfl,hk,ac,B,X,V,a7,s⟩;cases k with
    | zero=>exact .inr ⟨(w,q),ψ,ac,B,X,V,by simpa using a7,by simpa using s⟩
    | succ j=>
     have e0:((j+1:Nat):Int)-1=(j:Int):=ω;have e1:decide ((j:Int)>=0)=true:=Aq ω;have w6:Ac ((j:Int)+(L:Int))=((j+L:Nat):Int):=ξ;have w7:Ac (((j+L:Nat):Int)+1)=((j+L+1:Nat):Int):=ξ;have sA:Wj (A+1) (j:Int) ((j+L+1:Nat):Int)=some (j,j+L+1):=(by have c1:(0:Int)<=(j:Int):=ω;have c2:(j:Int)<=((j+L+1:Nat):Int):=ω;have c3:((j+L+1:Nat):Int)<=((A+1:Nat):Int):=ω;have c4:(j:Int)=0\/(j:Int)<((j+L+1:Nat):Int):=ω;rw[Wj,A7 ⟨c1,c2,c3,c4⟩];rfl);have au:Ak (w.drop j)<Ak v*1000000000:=by
      have s1:=N1 w j ω;have s2:=Hs ((B.take j).u32);rcases Int.lt_or_le (Ak (w.drop j)) (Ak v*1000000000) with h|h
      .exact h
      .exfalso;have:(1000000000:Int) ^ j*(Ak v*1000000000)<=1000000000 ^ j*Ak (w.drop j):=Int.mul_le_mul_of_nonneg_left h (Int.le_of_lt (Ky _));have e:Ak v*(1000000000:Int) ^ (j+1)=1000000000 ^ j*(Ak v*1000000000):=(by rw[Int.pow_succ];grind);omega
     obtain⟨Q,o,r1,r2,r3,r4,r5,r6,r7,r8⟩:=A0m v w j L f B I ω ω l ω au;have a8:j<q.length:=ω;have w8:Ac ((j:Int)-1)=(j:Int)-1:=ξ;have lG:Fv (A+1) o=some ():=(by rw[Fv,A7 ω]);refine .inl ⟨((j:Int)-1,o,q.set j Q),?_,⟨j,rfl,ω,ω,r3,by simpa using X,V.set _ r4 r5,?_,?_⟩,ψ⟩
     .simp only[e0,e1,Al,w6,w7,sA,Ad,Nat.zero_add,show j+L+1-j=L+1 by omega,r1,lG,Ek rfl a8,w8,Gv rfl]
     .have s1:=N1 o j ω;have s2:=Kl (r3.take j);rw[length_take,Nat.min_eq_left ω]at s2;have:(1000000000:Int) ^ j*(Ak (o.drop j)+1)<=1000000000 ^ j*Ak v:=Int.mul_le_mul_of_nonneg_left ω (Int.le_of_lt (Ky _));have e:(1000000000:Int) ^ j*(Ak (o.drop j)+1)=1000000000 ^ j*Ak (o.drop j)+1000000000 ^ j:=(by grind);rw[Int.mul_comm (Ak v)];omega
     .have d1:(q.set j Q).drop j=Q::q.drop (j+1):=(by rw[drop_eq_getElem_cons (by simpa using a8),drop_set_of_lt ω];simp);rw[d1];simp only[Ak];rw[Int.pow_succ]at s;exact bl2 (K:=0) r6 s
   .rintro⟨w,q⟩ ⟨h2,T,h4,h5,h6,h7⟩;rw[M]at h6 h7;have ad:=Hs T.u32;have ba:=Hs h5.u32;have N:=(Int.ediv_emod_unique ar (r:=Ak w) (q:=Ak q) (a:=(m:Int)*d)).2 ⟨by rw[<-h7],ad,h6⟩;have ao:(m*d) / (n*d)=m / n:=Nat.mul_div_mul_right m n ω;have ai:(m*d) % (n*d)=(m % n)*d:=Nat.mul_mod_mul_right d m n;have av:Ak q=((m / n:Nat):Int):=(by rw[<-N.1,<-ao];simp);have aa:Ak w=(((m % n)*d:Nat):Int):=(by rw[<-N.2,<-ai];simp);have ab:Bl ((m % n)*d)<1099511627776:=(by have g:=Kl T;have:Bl ((m % n)*d)<=A+1:=(by apply J0;rw[h2,aa]at g;have e:((1000000000 ^ (A+1):Nat):Int)=1000000000 ^ (A+1):=(by rw[Int.natCast_pow];rfl);omega);omega);dsimp only;rw[Qu w ω,Ad,Ln T aa,Ah0 _ d ab ω ω,Ad,Qu q ω,Ad,Ln h5 av,Nat.mul_div_cancel _ ω]
theorem Apl (h:Bl n<=2):n<1000000000000000000:=by have e:=M9 n;have i:1000000000 ^ Bl n<=1000000000 ^ 2:=Nat.pow_le_pow_right δ h;omega
theorem Apm (n:Nat) (h:Bl n<=2):Uu (Af n)=some ((n:Int),true):=by
 unfold Uu;unfold Bl at h;have m:=Fi n;refine Jk (λ(w,i)=>∃k:Nat,i=k/\k<=(Af n).length/\w=Ak ((Af n).drop ((Af n).length-k))) (λ(_,i)=>(Af n).length-i.toNat) (λe=>match e with|.inl _=>False | .inr w=>w=n) ⟨0,rfl,ω,by simp[Ak]⟩ ?_ ?_
 .rintro⟨w,i⟩ ⟨k,rfl,D,rfl⟩;rcases Cb k (Af n).length with c|v
  .have A:decide ((k:Int)<((Af n).length:Int))=true:=Aq ω;have u:Ac (((Af n).length:Int)-1)=((Af n).length:Int)-1:=ξ;have s:Ac (((Af n).length:Int)-1-(k:Int))=(((Af n).length-1-k:Nat):Int):=ξ;have p:(Af n).length-1-k<(Af n).length:=ω;have E:=m.get p;have y:=Acy m ((Af n).length-k);have b:=Kl (m.drop ((Af n).length-k));rw[length_drop,show (Af n).length-((Af n).length-k)=k by omega]at b;have x:(1000000000:Int) ^ k<=1000000000:=(by have:k=0\/k=1:=ω;rcases this with rfl|rfl <;> decide);have q:Az (Af n)[(Af n).length-1-k]=(Af n)[(Af n).length-1-k]:=Dl ω ω;have l:Az (18446744073709551615-(Af n)[(Af n).length-1-k])=18446744073709551615-(Af n)[(Af n).length-1-k]:=Dl ω ω;have j:Az (Ak ((Af n).drop ((Af n).length-k))*1000000000)=Ak ((Af n).drop ((Af n).length-k))*1000000000:=Dl ω ω;have g:Az (Ak ((Af n).drop ((Af n).length-k))*1000000000+(Af n)[(Af n).length-1-k])=Ak ((Af n).drop ((Af n).length-k))*1000000000+(Af n)[(Af n).length-1-k]:=Dl ω ω;have z:=Mf c ω;have B:¬Ak ((Af n).drop ((Af n).length-k))>(18446744073709551615-(Af n)[(Af n).length-1-k]) / 1000000000:=ω;refine .inl ⟨(Ak ((Af n).drop ((Af n).length-k))*1000000000+(Af n)[(Af n).length-1-k],((k+1:Nat):Int)),?_,⟨k+1,rfl,ω,?_⟩,ζ⟩
   .simp only[A,Al,u,s,Ek rfl p,Ad,q,l,Lm (show 0<=18446744073709551615-(Af n)[(Af n).length-1-k] by omega) (show 18446744073709551615-(Af n)[(Af n).length-1-k]<=_ by omega) (show (0:Int)<1000000000 by decide),Aw B,Ao,j,g,z]
   .have C:(Af n).drop ((Af n).length-(k+1))=(Af n)[(Af n).length-1-k]::(Af n).drop ((Af n).length-k):=(by rw[show (Af n).length-(k+1)=(Af n).length-1-k by omega,drop_eq_getElem_cons p];congr 2;omega);rw[C];simp only[Ak];omega
  .have:k=(Af n).length:=ω;subst this;refine .inr ⟨.inr _,by simp;rfl,?_⟩;exact Fz n
 .rintro (e|e) f
  .exact f.elim
  .simp only at f ⊢;rw[f]
theorem A0p (m n:Nat) (z:Bl m<274877906944) (s:Bl n<274877906944):X3 (Af m) (Af n)=some (Af (Nat.gcd m n)):=by
 unfold X3;refine Jk (λ(a,b)=>∃x y:Nat,a=Af x/\b=Af y/\Bl x<274877906944/\Bl y<274877906944/\Nat.gcd x y=Nat.gcd m n) (λ(_,b)=>(Ak b).toNat) (λe=>match e with|.inl r=>r=Af (Nat.gcd m n) | .inr r=>r=Af (Nat.gcd m n)) ⟨m,n,rfl,rfl,z,s,rfl⟩ ?_ ?_
 .rintro⟨a,b⟩ ⟨x,y,rfl,rfl,E,D,C⟩;by_cases c:y=0
  .subst c;refine .inr ⟨.inr (Af x),by rw[Gw];rfl,?_⟩;show Af x=_;rw[<-C,Nat.gcd_zero_right]
  .have A:(Af y).length≠0:=λe=>Jc c (Gm.1 e);have k:decide (((Af y).length:Int)>0)=true:=Aq ω;by_cases w:Bl x<=2/\Bl y<=2
   .have i:=Apl w.1;have h:=Apl w.2;unfold Bl at w;simp only[k,Al,Aq (ω:((Af x).length:Int)<=2),Aq (ω:((Af y).length:Int)<=2),Ad,Apm x w.1,Apm y w.2];refine .inr (Ayw (Ev (λ(p,q)=>∃u v:Nat,p=u/\q=v/\u<1000000000000000000/\v<1000000000000000000/\Nat.gcd u v=Nat.gcd m n) (λ(_,q)=>q.toNat) (λ(p,q)=>p=((Nat.gcd m n:Nat):Int)/\Nat.gcd m n<1000000000000000000) ⟨x,y,rfl,rfl,i,h,C⟩ ?_ ?_))
    .rintro⟨p,q⟩ ⟨u,v,rfl,rfl,F,l,f⟩;by_cases j:v=0
     .subst j;refine .inr ⟨((u:Int),(0:Int)),rfl,?_⟩;rw[Nat.gcd_zero_right]at f;exact⟨by rw[f],ω⟩
     .refine .inl ⟨((v:Int),((u % v:Nat):Int)),?_,⟨v,u % v,rfl,rfl,l,by have:=Nat.mod_lt u (ω:v>0);omega,?_⟩,?_⟩
      .simp only[Aq (ω:(v:Int)>0),Al,Ll (ω:(0:Int)<=u) (ω:(0:Int)<v),Ad];rfl
      .rw[<-f,Nat.gcd_comm v,<-Nat.gcd_rec,Nat.gcd_comm]
      .have:=Nat.mod_lt u (ω:v>0);simp only[Int.toNat_natCast];exact this
    .rintro⟨p,q⟩ ⟨rfl,B⟩;dsimp only;rw[Qv _ ω];exact⟨_,rfl,_,rfl,rfl⟩
   .refine .inl ⟨(Af y,Af (x % y)),?_,⟨y,x % y,rfl,rfl,D,by have:=Kz (Nat.mod_le x y);omega,?_⟩,?_⟩
    .have:(bif ((Af x).length:Int)<=(2:Int) then some (decide (((Af y).length:Int)<=(2:Int))) else some false)=some false:=by
      unfold Bl at w;by_cases G:(Af x).length<=2
      .rw[Aq (ω:((Af x).length:Int)<=2),Al,Aw (ω:¬((Af y).length:Int)<=2)]
      .rw[Aw (ω:¬((Af x).length:Int)<=2),Ao]
     simp only[k,Al];rw[this,Ad,Ao,Ah2 x y E D c,Ad]
    .rw[<-C,Nat.gcd_comm y,<-Nat.gcd_rec,Nat.gcd_comm]
    .simp only[Fz];have:=Nat.mod_lt x (ω:y>0);omega
 .rintro (e|e) g
  .simp only at g ⊢;rw[g]
  .simp only at g ⊢;rw[g]
theorem Yv:Af 1 = [1]:=by rw[M7 δ,show 1 / 1000000000=0 by decide,Gw];rfl
theorem Ah3 (n:Nat):Sh (Af n)=some (decide (n=1)):=by
 unfold Sh;by_cases i:n=0
 .subst i;rw[Gw];rfl
 .rw[M7 i];by_cases m:n / 1000000000=0
  .rw[m,Gw];have e:Ah [((n % 1000000000:Nat):Int)] 0=some ((n % 1000000000:Nat):Int):=rfl;simp only[length_singleton,e,Ad];have:(((1:Nat):Int)==(1:Int))=true:=rfl;rw[this,Al];congr 1;by_cases b:n=1
   .subst b;rfl
   .rw[Dc ω,Aw b]
  .have c:(Af (n / 1000000000)).length≠0:=λe=>Jc m (Gm.1 e);rw[Dc ζ,Ao,Aw ω]
def Cn (b:Bool) (n d:Nat):A3:=if n=0 then ⟨false,[],[1]⟩ else ⟨b,Af (n / Nat.gcd n d),Af (d / Nat.gcd n d)⟩
theorem S5 (b:Bool) (n d:Nat) (g:Bl n<274877906944) (p:Bl d<274877906944):Ow ⟨b,Af n,Af d⟩=some (Cn b n d):=by
 unfold Ow Abe;dsimp only;by_cases i:n=0
 .subst i;rw[Gw];rfl
 .have h:(Af n).length≠0:=λe=>Jc i (Gm.1 e);rw[Dc ω,Ao,Ah3,Ad,Cn,Ay i];by_cases v:d=1
  .subst v;rw[Aq rfl,Al];simp
  .rw[Aw v,Ao,A0p n d g p,Ad,Ah3,Ad];by_cases m:Nat.gcd n d=1
   .rw[Aq m,Al,m];simp
   .have f:Nat.gcd n d≠0:=(by have:=Nat.gcd_pos_of_pos_left d (ω:0<n);omega);have c:Bl (Nat.gcd n d)<274877906944:=(by have:=Kz (Nat.gcd_le_left d (ω:0<n));omega);rw[Aw m,Ao,Ah2 n _ g c f,Ad,Ah2 d _ p c f,Ad];rfl
def nv (a:A3):Nat:=if (Ak a.U).toNat=0\/(Ak a.B).toNat=0 then 0 else (Ak a.U).toNat
def dv (a:A3):Nat:=if (Ak a.U).toNat=0\/(Ak a.B).toNat=0 then 1 else (Ak a.B).toNat
def sv (a:A3):Bool:=if (Ak a.U).toNat=0\/(Ak a.B).toNat=0 then false else a.N
structure RB (k:Nat) (a:A3):Prop where
 num:Ma a.U
 den:Ma a.B
 nl:a.U.length<=k
 dl:a.B.length<=k
theorem A0q (h:Ma l):Ak l<=5*1000000000 ^ l.length-5:=by induction l with| nil=>simp[Ak]| cons d l ih=>have i:=h d ψ;have m:=ih λx e=>h x (by simp[e]);simp only[Ak,D9];rw[Int.pow_succ];omega
theorem A0r (h:Ma l):Ak l<1000000000 ^ (l.length+1):=by have e:=A0q h;have hp:=Ky l.length;rw[Int.pow_succ];omega
theorem Acz (h:Ma l):Bl (Ak l).toNat<=l.length+1:=by
 apply J0;have i:=A0r h;have m:=Hs h;have e:((1000000000 ^ (l.length+1):Nat):Int)=1000000000 ^ (l.length+1):=by rw[Int.natCast_pow];rfl
 omega
theorem RB.mono {j:Nat} (h:RB j a) (hk:j<=k):RB k a:=⟨h.num,h.den,by have:=h.nl;omega,by have:=h.dl;omega⟩
theorem Nc:Bl 1=1:=by unfold Bl;rw[Yv];rfl
theorem RB.nv (h:RB k a):Bl (nv a)<=k+1:=by
 unfold Ab.nv;split
 .simp[Ag7]
 .have:=Acz h.num;have:=h.nl;omega
theorem RB.dv (h:RB k a):Bl (dv a)<=k+1:=by
 unfold Ab.dv;split
 .simp[Nc]
 .have:=Acz h.den;have:=h.dl;omega
theorem Hz (a:A3):dv a≠0:=by
 unfold dv;split
 .decide
 .omega
theorem Vf (a:A3) (k:Nat) (h:RB k a) (p:k<274877906900):Nt a=some ⟨sv a,Af (nv a),Af (dv a)⟩:=by
 unfold Nt;have v:=h.nl;have w:=h.dl;rw[Apd _ h.num ω,Ad,Apd _ h.den ω,Ad];unfold nv dv sv;generalize (Ak a.U).toNat=x;generalize (Ak a.B).toNat=y;by_cases i:x=0
 .subst i;simp only[Gw,true_or,if_true,Yv];rfl
 .have c:(Af x).length≠0:=λe=>Jc i (Gm.1 e);by_cases m:y=0
  .subst m;simp only[Gw,or_true,if_true,Yv,Dc (ω:((Af x).length:Int)≠0),Ao];rfl
  .have b:(Af y).length≠0:=λe=>Jc m (Gm.1 e);simp only[i,m,or_self,if_false,Dc (ω:((Af x).length:Int)≠0),Ao,Dc (ω:((Af y).length:Int)≠0),Ad]
end Go.Ab
