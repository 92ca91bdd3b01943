/- Plain laws: what the plain functions answer. -/
import Derived.Test.YtbobikfnkmhgnaaGreatDoorBpPl4
namespace Go.Ab
open Go
theorem An0 {k:Nat} (p:List Ag) (m:A8) (R:p.length<=1000) (hk:k<=2000000) (hp:∀t∈p,RB k t.Coef/\Dl t.Mono) :
  ∃c,((Ft 0).bind fun v3=>
   (Am (S:=(Int×Bool×(List Int)×(List Int))) (E:=(Bool×(List Int)×(List Int))) (fun (v9,g,f,v12)=>
   bif (decide (v9<(p.length:Int))) then (
   (Af p v9).bind fun i=>
   (H8 i.Mono m).bind fun l=>
   bif (l==(0:Int)) then (
   (Kd (Aq.mk g f v12) i.Coef).bind fun b=>
   some (.inl ((Ac (v9+1)),b.Neg,b.Num,b.Den))
   )
   else (
   some (.inl ((Ac (v9+1)),g,f,v12))
   )
   )
   else (
   some (.inr (g,f,v12))
   )
    ) (0,v3.Neg,v3.Num,v3.Den)).bind fun (v17,y,x)=>
   some (Aq.mk v17 y x))=some c/\Fu c/\rq c=cf p m/\RB 3000000000 c:=by
 have z2:Ft 0=some (cR 0):=Aej 0 (by decide) (by decide)
 have z3:RB 3 (cR 0):=(Af3 (k:=1) (by rw [Zl]; decide) (by decide)).mono (by decide)
 have z4:rq (cR 0)=0:=by rw [Af6]; rfl
 rw [z2,Ad]
 obtain ⟨⟨n,u,d⟩,I,G,D,B⟩:=Gu (step:=(fun (v9,g,f,v12)=>
   bif (decide (v9<(p.length:Int))) then (
   (Af p v9).bind fun i=>
   (H8 i.Mono m).bind fun l=>
   bif (l==(0:Int)) then (
   (Kd (Aq.mk g f v12) i.Coef).bind fun b=>
   some (.inl ((Ac (v9+1)),b.Neg,b.Num,b.Den))
   )
   else (
   some (.inl ((Ac (v9+1)),g,f,v12))
   )
   )
   else (
   some (.inr (g,f,v12))
   ):Int×Bool×List Int×List Int->Option ((Int×Bool×List Int×List Int)⊕(Bool×List Int×List Int))))
  (fun s=>∃(j:Nat) (a:Aq),s=((j:Int),a.Neg,a.Num,a.Den)/\j<=p.length/\RB (3+j*2000003) a/\Fu a/\rq a=cf (p.take j) m) (fun s=>p.length-s.1.toNat)
  (fun e=>Fu ⟨e.1,e.2.1,e.2.2⟩/\rq ⟨e.1,e.2.1,e.2.2⟩=cf p m/\RB 3000000000 ⟨e.1,e.2.1,e.2.2⟩)
  (by
   rintro _ ⟨j,a,rfl,hj,z,A,q⟩
   dsimp only
   rcases Nat.lt_or_ge j p.length with h | h
   .left
    have hx:p[j]? = some p[j]:=Bn h
    generalize p[j]=t at hx
    obtain ⟨t1,t2⟩:=hp t (Bo hx)
    rw [Ak (by omega),cond_true,Ch rfl hx,Ad,To t.Mono m t2,Ad]
    by_cases e:B7 t.Mono m=0
    .rw [D8 e,cond_true]
     obtain ⟨c,_,N,M,L,J⟩:=Aam z t1 (by omega) (by omega)
     rw [Aa8,N,Ad,Cz h (by omega)]
     refine ⟨_,rfl,⟨j+1,c,rfl,by omega,M.mono (by omega),L,?_⟩,by simp; omega⟩
     rw [J,q,Cw hx,I1]
     simp only [cf,if_pos e]; grind
    .rw [Co e,cond_false,Cz h (by omega)]
     refine ⟨_,rfl,⟨j+1,a,rfl,by omega,z.mono (by omega),A,?_⟩,by simp; omega⟩
     rw [q,Cw hx,I1]
     simp only [cf,if_neg e]; grind
   .right
    have:j=p.length:=by omega
    subst this
    rw [List.take_length] at q
    exact ⟨_,by rw [Al (by omega),cond_false],A,q,z.mono (by omega:3+p.length*2000003<=3000000000)⟩)
  (0,(cR 0).Neg,(cR 0).Num,(cR 0).Den) ⟨0,cR 0,rfl,by omega,z3,Ang 0,by rw [z4]; rfl⟩
 exact ⟨⟨n,u,d⟩,bnd I rfl,G,D,B⟩
theorem Azx {k:Nat} (p:List Ag) (m:A8) (b:p.length<=1000) (hk:k<=2000000) (hp:∀t∈p,RB k t.Coef/\Dl t.Mono):∃c,N5 p m=some c/\Fu c/\rq c=cf p m/\RB 3000000000 c:=An0 p m b hk hp
theorem Azy {k:Nat} (p:List Ag) (m:A8) (b:p.length<=1000) (hk:k<=2000000) (hp:∀t∈p,RB k t.Coef/\Dl t.Mono):∃c,Zb m p=some c/\Fu c/\rq c=cf p m/\RB 3000000000 c:=An0 p m b hk hp
theorem Azz {p:List Ag} {k:Nat} (hc:CP p) (h:∀t∈p,RB k t.Coef) (hk:3<=k) (m:A8):∃a,RB k a/\Fu a/\rq a=cf p m:=by
 by_cases b:∃t∈p,B7 t.Mono m=0
 .obtain ⟨t,ht,e⟩:=b
  exact ⟨t.Coef,h t ht,(hc.coe t ht).1,by rw [<-Aap hc ht,Ga.1 e]⟩
 .obtain ⟨y,i,g,f,c⟩:=Ayv 0 (by omega) (by omega)
  exact ⟨y,g.mono hk,f,by rw [c,Ts fun t ht e=>b ⟨t,ht,e⟩]; rfl⟩
theorem An1 {x:Bh} {p:List Ag} (hp:D3 x p) (g:p.length<=1000) (m:A8):∃c,N5 p m=some c/\Fu c/\rq c=cf p m/\RB 1048576 c:=by
 obtain ⟨c,h,f,b,_⟩:=Azx p m g (k:=1048576) (by decide) fun t ht=>⟨(hp.sz t ht).co,(hp.sz t ht).mo⟩
 obtain ⟨a,a1,a2,a3⟩:=Azz hp.cp (fun t ht=>(hp.sz t ht).co) (by decide) m
 have:c=a:=Aal f a2 (by rw [b,a3])
 exact ⟨c,h,f,b,by rw [this]; exact a1⟩
theorem Ty {x:Bh} (c:CSz x) (f:Fi x) {p:List Ag} (hp:D3 x p):La x p=some true:=by
 obtain ⟨b,b1,b2⟩:=Aff x c p hp.sz
 rw [b1,b2.2 ⟨f,hp.can⟩]
theorem An2 {x:Bh} (U:CSz x) (X:Fi x) {p q:List Ag} (hp:D3 x p) (hq:D3 x q) (hl:p.length+q.length<=1000) (s:Int) (hs:s=1\/s = -1) {F:Rat->Rat->Rat} (hF:∀a b,F a b=if E5 (a-b)*s<0 then b else a) :
  ∃R,P5 x p q s=some (R,0)/\CP R/\∀a,cf R a=F (cf p a) (cf q a):=by
 have Z:F 0 0=0:=by rw [hF]; split <;> rfl
 have V:∀t∈p++q,Gc x t.Mono:=fun t ht=>by
  rcases List.mem_append.1 ht with h | h
  .exact hp.mo t h
  .exact hq.mo t h
 have a7:(p++q).length=p.length+q.length:=List.length_append
 unfold P5
 rw [Ty U X hp,Ty U X hq]
 simp only [Ad,Dj,cond_false]
 rw [Cu (by simp; omega),Ad,List.nil_append,Cu (by omega),Ad]
 obtain ⟨e,e1,e2,e3,e4,e5⟩:=Gu (step:=(fun (v41,y)=>
   bif (decide (v41<(((p++q).length:Nat):Int))) then (
   (Af (p++q) v41).bind fun l=>
   (N5 p l.Mono).bind fun v45=>
   (N5 q l.Mono).bind fun v46=>
   (Ly v45 v46).bind fun v49=>
   (show Option (Bool×(List Int)×(List Int)) from
   bif (decide ((Ac (v49*s))<(0:Int))) then (
   some (v46.Neg,v46.Num,v46.Den)
   )
   else (
   some (v45.Neg,v45.Num,v45.Den)
   )
   ).bind fun (v50,v51,G)=>
   (show Option Bool from
   (Gq (Aq.mk v50 v51 G)).bind fun v53=>
   bif (v53 != (0:Int)) then (
   (Zb l.Mono y).bind fun v54=>
   (Gq v54).bind fun v55=>
   some (v55==(0:Int))
   )
   else (
   some false
   )
   ).bind fun M=>
   bif M then (
   (B1 104 y [(Ag.mk (Aq.mk v50 v51 G) l.Mono)]).bind fun S=>
   some (.inl ((Ac (v41+1)),S))
   )
   else (
   some (.inl ((Ac (v41+1)),y))
   )
   )
   else (
   some (.inr y)
   ):Int×List Ag->Option ((Int×List Ag)⊕List Ag)))
  (fun N=>∃(j:Nat) (o:List Ag),N=((j:Int),o)/\j<=(p++q).length/\o.length<=j/\Dst o/\(∀t∈o,RB 1048576 t.Coef/\Gc x t.Mono/\rq t.Coef≠0)/\∀a,((∃t∈(p++q).take j,t.Mono=a)->cf o a=F (cf p a) (cf q a))/\(¬(∃t∈(p++q).take j,t.Mono=a)->cf o a=0))
  (fun N=>(p++q).length-N.1.toNat)
  (fun o=>o.length<=(p++q).length/\Dst o/\(∀t∈o,RB 1048576 t.Coef/\Gc x t.Mono)/\∀a,cf o a=F (cf p a) (cf q a))
  (by
   rintro _ ⟨j,o,rfl,hj,k0,I,D,B⟩
   dsimp only
   rcases Nat.lt_or_ge j (p++q).length with h | h
   .left
    have hx:(p++q)[j]? = some (p++q)[j]:=Bn h
    generalize (p++q)[j]=t at hx
    have hm:=V t (Bo hx)
    obtain ⟨a,a1,a2,a3,a4⟩:=An1 hp (by omega) t.Mono
    obtain ⟨b,b1,b2,b3,b4⟩:=An1 hq (by omega) t.Mono
    have a6:E5 (rq a-rq b) = -1\/E5 (rq a-rq b)=0\/E5 (rq a-rq b)=1:=by
     unfold E5
     split
     .exact .inl rfl
     .split
      .exact .inr (.inr rfl)
      .exact .inr (.inl rfl)
    have hw:Ac (E5 (rq a-rq b)*s)=E5 (rq a-rq b)*s:=by
     rw [Ac,Bz] <;> rcases hs with rfl | rfl <;> omega
    obtain ⟨i,E,z,L⟩:∃i:Aq,(show Option (Bool×(List Int)×(List Int)) from
      bif (decide ((Ac (E5 (rq a-rq b)*s))<(0:Int))) then (some (b.Neg,b.Num,b.Den))
      else (some (a.Neg,a.Num,a.Den)))=some (i.Neg,i.Num,i.Den)/\RB 1048576 i/\rq i=F (cf p t.Mono) (cf q t.Mono):=by
     rw [hw,hF,<-a3,<-b3]
     by_cases hc:E5 (rq a-rq b)*s<0
     .rw [Ak hc,if_pos hc]; exact ⟨b,rfl,b4,rfl⟩
     .rw [Al hc,if_neg hc]; exact ⟨a,rfl,a4,rfl⟩
    obtain ⟨g,g1,g2,g3,g4⟩:=Azy o t.Mono (by omega) (k:=1048576) (by decide) fun u hu=>⟨(D u hu).1,(D u hu).2.1.2⟩
    have hex:∀c,(∃u∈(p++q).take (j+1),u.Mono=c)↔(∃u∈(p++q).take j,u.Mono=c)\/t.Mono=c:=fun c=>by
     rw [Cw hx]
     constructor
     .rintro ⟨u,hu,e⟩
      rcases List.mem_append.1 hu with hu | hu
      .exact .inl ⟨u,hu,e⟩
      .rw [List.mem_singleton] at hu
       subst hu; exact .inr e
     .rintro (⟨u,hu,e⟩ | e)
      .exact ⟨u,List.mem_append_left _ hu,e⟩
      .exact ⟨t,by simp,e⟩
    rw [Ak (by omega),cond_true,Ch rfl hx,Ad,a1,Ad,b1,Ad,Ayx a4 b4 (by decide) (by decide),Ad]
    have A:(F (cf p t.Mono) (cf q t.Mono)=0\/cf o t.Mono≠0)->∀c,((∃u∈(p++q).take (j+1),u.Mono=c)->cf o c=F (cf p c) (cf q c))/\(¬(∃u∈(p++q).take (j+1),u.Mono=c)->cf o c=0):=fun hc c=>by
     constructor
     .intro h2
      by_cases h1:∃u∈(p++q).take j,u.Mono=c
      .exact (B c).1 h1
      .rcases (hex c).1 h2 with h3 | h3
       .exact (h1 h3).elim
       .subst h3
        have h4:=(B t.Mono).2 h1
        rcases hc with hc | hc
        .rw [h4,hc]
        .exact (hc h4).elim
     .intro h2
      exact (B c).2 fun h1=>h2 ((hex c).2 (.inl h1))
    by_cases f:rq i=0
    .refine ⟨(((j+1:Nat):Int),o),?_,⟨j+1,o,rfl,by omega,by omega,I,D,A (.inl (by rw [<-L]; exact f))⟩,by simp; omega⟩
     refine bnd E ?_
     dsimp only
     rw [Aa8,(Me z (by decide)).2,Ad,De ((Ni _).2 f),cond_false,Ad,cond_false,Cz h (by omega)]
    .by_cases J:cf o t.Mono=0
     .refine ⟨(((j+1:Nat):Int),o++[⟨i,t.Mono⟩]),?_,⟨j+1,o++[⟨i,t.Mono⟩],rfl,by omega,by simp; omega,?_,fun u hu=>?_,fun c=>?_⟩,by simp; omega⟩
      .refine bnd E ?_
       dsimp only
       rw [Aa8,(Me z (by decide)).2,Ad,Db (fun e=>f ((Ni _).1 e)),cond_true,g1,Ad,(Me g4 (by decide)).2,Ad,D8 ((Ni _).2 (by rw [g3,J])),Ad,cond_true,Cu (by simp; omega),Ad,Cz h (by omega)]
      .refine List.pairwise_append.2 ⟨I,List.pairwise_singleton _ _,fun u hu v hv=>?_⟩
       rw [List.mem_singleton] at hv
       subst hv
       intro e
       have h1:=Axx I hu
       have e:u.Mono=t.Mono:=e
       rw [e,J] at h1
       exact (D u hu).2.2 h1.symm
      .rcases List.mem_append.1 hu with hu | hu
       .exact D u hu
       .rw [List.mem_singleton] at hu
        subst hu; exact ⟨z,hm,f⟩
      .have Y:cf (o++[⟨i,t.Mono⟩]) c=cf o c+(if B7 t.Mono c=0 then rq i else 0):=by
        rw [I1]; simp only [cf]; grind
       rw [Y]
       by_cases e:t.Mono=c
       .subst e
        rw [if_pos (Aan _),J,L]
        exact ⟨fun _=>by grind,fun h2=>(h2 ((hex t.Mono).2 (.inr rfl))).elim⟩
       .rw [if_neg (fun h=>e (Ga.1 h))]
        refine ⟨fun h2=>?_,fun h2=>?_⟩
        .rcases (hex c).1 h2 with h3 | h3
         .rw [(B c).1 h3]; grind
         .exact (e h3).elim
        .rw [(B c).2 fun h1=>h2 ((hex c).2 (.inl h1))]; grind
     .refine ⟨(((j+1:Nat):Int),o),?_,⟨j+1,o,rfl,by omega,by omega,I,D,A (.inr J)⟩,by simp; omega⟩
      refine bnd E ?_
      dsimp only
      rw [Aa8,(Me z (by decide)).2,Ad,Db (fun e=>f ((Ni _).1 e)),cond_true,g1,Ad,(Me g4 (by decide)).2,Ad,Co (fun e=>J (by rw [<-g3]; exact (Ni _).1 e)),Ad,cond_false,Cz h (by omega)]
   .right
    have:j=(p++q).length:=by omega
    subst this
    rw [List.take_length] at B
    refine ⟨o,by rw [Al (by omega),cond_false],by omega,I,fun t ht=>⟨(D t ht).1,(D t ht).2.1⟩,fun a=>?_⟩
    by_cases h1:∃u∈p++q,u.Mono=a
    .exact (B a).1 h1
    .rw [(B a).2 h1,Ts (p:=p) fun t ht e=>h1 ⟨t,List.mem_append_left _ ht,Ga.1 e⟩,Ts (p:=q) fun t ht e=>h1 ⟨t,List.mem_append_right _ ht,Ga.1 e⟩,Z])
  (0,[]) ⟨0,[],rfl,by omega,by simp,List.Pairwise.nil,(fun t ht=>by cases ht),fun a=>⟨fun ⟨t,ht,_⟩=>by simp at ht,fun _=>rfl⟩⟩
 obtain ⟨R,r1,r2,r3⟩:=Azw U X e (by omega) (k:=1048576) (Nat.le_refl _) e4
 refine ⟨R,?_,r2,fun a=>by rw [r3,e5]⟩
 refine bnd e1 ?_
 rw [Al (by omega),cond_false,r1]; rfl
theorem hFJ (a b:Rat):FJ a b=if E5 (a-b)*1<0 then b else a:=by
 unfold FJ E5
 by_cases h:a<b
 .rw [if_pos h,if_pos (by rw [if_pos (by grind)]; decide)]
 .rw [if_neg h,if_neg]
  rw [if_neg (by grind)]
  split <;> decide
theorem hFM (a b:Rat):FM a b=if E5 (a-b) * -1<0 then b else a:=by
 unfold FM E5
 by_cases h:b<a
 .rw [if_pos h,if_pos (by rw [if_neg (by grind),if_pos (by grind)]; decide)]
 .rw [if_neg h,if_neg]
  by_cases h2:a-b<0
  .rw [if_pos h2]; decide
  .rw [if_neg h2,if_neg (by grind)]; decide
def Ht (l:List Ag):Bool:=l.any fun t=>decide (0<rq t.Coef)
def Hu (l:List Ag):Bool:=l.any fun t=>decide (rq t.Coef<0)
def sgC (l:List Ag):Int:=bif Ht l&&Hu l then 2 else bif Ht l then 1 else bif Hu l then -1 else 0
theorem An3 (x:Rat):decide (E5 x>0)=decide (0<x):=decide_eq_decide.2 (Azk x)
theorem An4 (x:Rat):decide (E5 x<0)=decide (x<0):=decide_eq_decide.2 (Azj x)
theorem Aa9 {l:List Ag} {f:Ag->Bool} {j:Nat} {t:Ag} (h:l[j]? = some t):(l.take (j+1)).any f=((l.take j).any f||f t):=by
 rw [Cw h,List.any_append]; simp
theorem Az0 {x:Bh} (l:CSz x) (u:Fi x) {p q:List Ag} (hp:D3 x p) (hq:D3 x q) (I:p.length+q.length<=1000):∃c,P2 x p q=some (c,0)/\P3 x p q=some (c,0):=by
 obtain ⟨R,U,B⟩:=Ays l u hp hq I
 obtain ⟨c,Z,Y,X⟩:=Ayk
 obtain ⟨S,N,M,L,J⟩:=Ayt hp hq Y (by omega) I
 have E:R=S:=CP.ext B.cp L fun m=>by rw [B.val,J,X]; grind
 have z:Um x p q=some (S,0):=by
  unfold Um
  rw [Ty l u hp,Ty l u hq]
  simp only [Ad,Dj,cond_false,Z,N,M]
 subst E
 have V:=B.len
 have A:∀t∈R,Hz t.Coef=some (E5 (rq t.Coef))/\Gq t.Coef=some (E5 (rq t.Coef)):=fun t ht=>Me (B.tb t ht).2 (by decide)
 refine ⟨sgC R,?_,?_⟩
 .unfold P2
  rw [Tv l u hp,Tv l u hq,U]
  simp only [Ad,Dj,cond_false,bne_self_eq_false]
  obtain ⟨e,y,rfl⟩:=Gu (step:=(fun (i,f,v12)=>
   bif (decide (v12<(R.length:Int))) then (
   (Af R v12).bind fun b=>
   (show Option Bool from
   bif i then (
   some true
   )
   else (
   (Hz b.Coef).bind fun k=>
   some (decide (k>(0:Int)))
   )
   ).bind fun g=>
   bif f then (
   some (.inl (g,true,(Ac (v12+1))))
   )
   else (
   (Hz b.Coef).bind fun v17=>
   some (.inl (g,(decide (v17<(0:Int))),(Ac (v12+1))))
   )
   )
   else (
   some (.inr (i,f))
   ):Bool×Bool×Int->Option ((Bool×Bool×Int)⊕(Bool×Bool))))
   (fun s=>∃j:Nat,s=(Ht (R.take j),Hu (R.take j),(j:Int))/\j<=R.length) (fun s=>R.length-s.2.2.toNat) (fun e=>e=(Ht R,Hu R))
   (by
    rintro _ ⟨j,rfl,hj⟩
    dsimp only
    rcases Nat.lt_or_ge j R.length with h | h
    .left
     have hx:R[j]? = some R[j]:=Bn h
     generalize R[j]=t at hx
     have D:=(A t (Bo hx)).1
     have y:Ht (R.take (j+1))=(Ht (R.take j)||decide (0<rq t.Coef)):=Aa9 hx
     have G:Hu (R.take (j+1))=(Hu (R.take j)||decide (rq t.Coef<0)):=Aa9 hx
     refine ⟨(Ht (R.take (j+1)),Hu (R.take (j+1)),((j+1:Nat):Int)),?_,⟨j+1,rfl,by omega⟩,by simp; omega⟩
     rw [Ak (by omega),cond_true,Ch rfl hx,Ad,D,Cz h (by omega),y,G]
     cases Ht (R.take j) <;> cases Hu (R.take j) <;> simp only [cond_true,cond_false,Ad,An3,An4,Bool.true_or,Bool.false_or]
    .right
     have:j=R.length:=by omega
     subst this
     rw [List.take_length]
     exact ⟨_,by rw [Al (by omega),cond_false],rfl⟩)
   (false,false,0) ⟨0,by simp [Ht,Hu],by omega⟩
  refine bnd y ?_
  dsimp only
  unfold sgC
  cases Ht R <;> cases Hu R <;> rfl
 .unfold P3
  rw [Ty l u hp,Ty l u hq,z]
  simp only [Ad,Dj,cond_false,bne_self_eq_false]
  obtain ⟨e,y,rfl⟩:=Gu (step:=(fun (i,f,v12)=>
   bif (decide (v12<(R.length:Int))) then (
   (Af R v12).bind fun b=>
   bif i then (
   bif f then (
   some (.inl (true,true,(Ac (v12+1))))
   )
   else (
   (Gq b.Coef).bind fun k=>
   some (.inl (true,(decide (k>(0:Int))),(Ac (v12+1))))
   )
   )
   else (
   (Gq b.Coef).bind fun g=>
   bif f then (
   some (.inl ((decide (g<(0:Int))),true,(Ac (v12+1))))
   )
   else (
   (Gq b.Coef).bind fun v17=>
   some (.inl ((decide (g<(0:Int))),(decide (v17>(0:Int))),(Ac (v12+1))))
   )
   )
   )
   else (
   some (.inr (i,f))
   ):Bool×Bool×Int->Option ((Bool×Bool×Int)⊕(Bool×Bool))))
   (fun s=>∃j:Nat,s=(Hu (R.take j),Ht (R.take j),(j:Int))/\j<=R.length) (fun s=>R.length-s.2.2.toNat) (fun e=>e=(Hu R,Ht R))
   (by
    rintro _ ⟨j,rfl,hj⟩
    dsimp only
    rcases Nat.lt_or_ge j R.length with h | h
    .left
     have hx:R[j]? = some R[j]:=Bn h
     generalize R[j]=t at hx
     have D:=(A t (Bo hx)).2
     have y:Ht (R.take (j+1))=(Ht (R.take j)||decide (0<rq t.Coef)):=Aa9 hx
     have G:Hu (R.take (j+1))=(Hu (R.take j)||decide (rq t.Coef<0)):=Aa9 hx
     refine ⟨(Hu (R.take (j+1)),Ht (R.take (j+1)),((j+1:Nat):Int)),?_,⟨j+1,rfl,by omega⟩,by simp; omega⟩
     rw [Ak (by omega),cond_true,Ch rfl hx,Ad,D,Cz h (by omega),y,G]
     cases Ht (R.take j) <;> cases Hu (R.take j) <;> simp only [cond_true,cond_false,Ad,An3,An4,Bool.true_or,Bool.false_or]
    .right
     have:j=R.length:=by omega
     subst this
     rw [List.take_length]
     exact ⟨_,by rw [Al (by omega),cond_false],rfl⟩)
   (false,false,0) ⟨0,by simp [Ht,Hu],by omega⟩
  refine bnd y ?_
  dsimp only
  unfold sgC
  cases Ht R <;> cases Hu R <;> rfl
theorem Az1 (x:Bh) (p q:List Ag) (f:CSz x) (V:p.length<=1048576) (hp:∀t∈p,TSz t) (B:q.length<=1048576) (hq:∀t∈q,TSz t):Yg x p q=some true:=by
 unfold Yg
 rw [Awg]
 obtain ⟨b,hb⟩:=Awf x p q V hp B hq
 simp only [Ad,Dj,cond_false,hb]
 cases b with
 | false=>rfl
 | true=>
  obtain ⟨n1,n2⟩:=Aya hb
  obtain ⟨c,c1,c2⟩:=Aff x f p hp
  obtain ⟨d,d1,d2⟩:=Aff x f q hq
  obtain ⟨c',I,G⟩:=Afg x f p hp
  obtain ⟨d',E,D⟩:=Afg x f q hq
  have N:P4 [] []=some true:=Af1 [] (by simp) (fun t ht=>by cases ht)
  by_cases h:(Fi x/\Ho x.Data x.Vars x.Res p=true)/\(Fi x/\Ho x.Data x.Vars x.Res q=true)
  .have hf:=h.1.1
   have j:D3 x p:=⟨h.1.2,hp⟩
   have i:D3 x q:=⟨h.2.2,hq⟩
   obtain ⟨z,L,z2⟩:=Az0 f hf j i (by omega)
   obtain ⟨J,U,g⟩:=Ax8 f hf j i (by omega)
   obtain ⟨M,m1,m2⟩:=Ax9 f hf j i (by omega)
   obtain ⟨J',A,y,u⟩:=An2 f hf j i (by omega) 1 (.inl rfl) hFJ
   obtain ⟨M',s,l,k⟩:=An2 f hf j i (by omega) (-1) (.inr rfl) hFM
   have Y:J=J':=CP.ext g.can.cp y fun a=>by rw [g.val,u]
   have X:M=M':=CP.ext m2.can.cp l fun a=>by rw [m2.val,k]
   subst Y X
   have l1:=g.len
   have l2:=m2.len
   have S:=Af1 J (by omega) fun t ht=>⟨(g.can.sz t ht).mo,(g.can.sz t ht).co.mono (by omega)⟩
   have R:=Af1 M (by omega) fun t ht=>⟨(m2.can.sz t ht).mo,(m2.can.sz t ht).co.mono (by omega)⟩
   unfold R8 R9
   simp only [L,z2,U,m1,A,s,Ad,beq_self_eq_true,cond_true,S,R]
   rfl
  .have e1:P2 x p q=some (0,1)/\Ny x p q=some ([],1)/\Nz x p q=some ([],1):=by
    unfold P2 Ny Nz Un Y9
    rw [I,E]
    cases c' with
    | false=>exact ⟨rfl,rfl,rfl⟩
    | true=>
     cases d' with
     | false=>exact ⟨rfl,rfl,rfl⟩
     | true=>exact (h ⟨G.1 rfl,D.1 rfl⟩).elim
   have Z:P3 x p q=some (0,1)/\R8 x p q=some ([],1)/\R9 x p q=some ([],1):=by
    unfold P3 R8 R9 P5
    rw [c1,d1]
    cases c with
    | false=>exact ⟨rfl,rfl,rfl⟩
    | true=>
     cases d with
     | false=>exact ⟨rfl,rfl,rfl⟩
     | true=>exact (h ⟨c2.1 rfl,d2.1 rfl⟩).elim
   obtain ⟨a1,a2,a3⟩:=e1
   obtain ⟨b1,b2,b3⟩:=Z
   simp only [a1,a2,a3,b1,b2,b3,Ad,beq_self_eq_true,cond_true,N]
   rfl
end Go.Ab
namespace Go.Ab
open Go
end Go.Ab
namespace Go.Ab
open Go
end Go.Ab
