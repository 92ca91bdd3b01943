/- Plain laws: what the plain functions answer. -/
import Derived.Test.YtjjkmepjaemceaaGreatDoorBlPl3
namespace Go.Ab
open Go
def chJ (a b:A3):A3:=if rq a<rq b then b else a
def chM (a b:A3):A3:=if rq b<rq a then b else a
def FJ (x y:Rat):Rat:=if x<y then y else x
def FM (x y:Rat):Rat:=if y<x then y else x
theorem Atb:Xo chJ FJ:=by
 refine ⟨fun a b=>?_,fun a b=>?_,?_⟩
 .unfold chJ; split
  .exact .inr rfl
  .exact .inl rfl
 .unfold chJ FJ; split <;> rfl
 .unfold FJ; split <;> rfl
theorem Atc:Xo chM FM:=by
 refine ⟨fun a b=>?_,fun a b=>?_,?_⟩
 .unfold chM; split
  .exact .inr rfl
  .exact .inl rfl
 .unfold chM FM; split <;> rfl
 .unfold FM; split <;> rfl
theorem Atd (x y:Rat):decide (M4 x y<(0:Int))=decide (x<y):=by
 unfold M4
 by_cases h1:x<y
 .rw [if_pos h1,Ak h1]; rfl
 .rw [if_neg h1,Al h1]; split <;> rfl
theorem Ate (x y:Rat):decide (M4 x y>(0:Int))=decide (y<x):=by
 unfold M4
 by_cases h1:x<y
 .have h2:¬y<x:=by grind
  rw [if_pos h1,Al h2]; rfl
 .rw [if_neg h1]
  by_cases h2:y<x
  .rw [if_pos h2,Ak h2]; rfl
  .rw [if_neg h2,Al h2]; rfl
theorem Atf {a b:A3} {k:Nat} (ha:RB k a) (hb:RB k b) (hk:k<34359738000):Ps a b=some (chJ a b):=by
 unfold Ps chJ
 rw [Aii ha hb hk hk,Ac,Atd]
 by_cases h:rq a<rq b
 .rw [Ak h,if_pos h]; rfl
 .rw [Al h,if_neg h]; rfl
theorem Atg {a b:A3} {k:Nat} (ha:RB k a) (hb:RB k b) (hk:k<34359738000):Pu a b=some (chM a b):=by
 unfold Pu chM
 rw [Aii ha hb hk hk,Ac,Ate]
 by_cases h:rq b<rq a
 .rw [Ak h,if_pos h]; rfl
 .rw [Al h,if_neg h]; rfl
noncomputable def X0 (f:A3->A3->Option A3):MS->Option (MS⊕List Aj):=fun (c,b,q)=>
 (show Option Bool from
 bif (decide ((c.length:Int)>(0:Int))) then (
 some true
 )
 else (
 some (decide ((b.length:Int)>(0:Int)))
 )
 ).bind fun v80=>
 bif v80 then (
 (show Option Int from
 bif ((b.length:Int)==(0:Int)) then (
 some (-1)
 )
 else (
 bif ((c.length:Int)==(0:Int)) then (
 some 1
 )
 else (
 (Af c 0).bind fun U=>
 (Af b 0).bind fun S=>
 (Jq U.Mono S.Mono).bind fun R=>
 some R
 )
 )
 ).bind fun s=>
 (Hw 0).bind fun v85=>
 (Hw 0).bind fun l=>
 (show Option ((List Aj)×Bool×(List Int)×(List Int)×(List Cw)×(List C4)) from
 bif (decide (s>=(0:Int))) then (
 (Af b 0).bind fun k=>
 (Af b 0).bind fun v91=>
 (Fd b 1 b.length).bind fun N=>
 some (N,k.Coef.Neg,k.Coef.Num,k.Coef.Den,v91.Mono.Factors,v91.Mono.Atoms)
 )
 else (
 some (b,l.Neg,l.Num,l.Den,[],[])
 )
 ).bind fun (v93,M,L,J,I,G)=>
 (show Option ((List Aj)×Bool×(List Int)×(List Int)×(List Cw)×(List C4)) from
 bif (decide (s<=(0:Int))) then (
 (Af c 0).bind fun j=>
 (Af c 0).bind fun i=>
 (Fd c 1 c.length).bind fun D=>
 some (D,j.Coef.Neg,j.Coef.Num,j.Coef.Den,i.Mono.Factors,i.Mono.Atoms)
 )
 else (
 some (c,v85.Neg,v85.Num,v85.Den,I,G)
 )
 ).bind fun (h,B,A,v105,z,v107)=>
 (f (A3.mk B A v105) (A3.mk M L J)).bind fun g=>
 (Ic g).bind fun y=>
 bif (y != (0:Int)) then (
 (Iu g).bind fun x=>
 (L8 (Bi.mk z v107)).bind fun u=>
 (Bx 104 q [(Aj.mk x u)]).bind fun E=>
 some (.inl (h,v93,E))
 )
 else (
 some (.inl (h,v93,q))
 )
 )
 else (
 some (.inr q)
 )
theorem X1 {α:Type} (x:α) (l:List α):Fd (x::l) 1 ((x::l).length:Int)=some l:=by
 unfold Fd
 rw [if_pos ⟨by omega,by simp only [List.length_cons]; omega,by omega⟩]
 congr 1
 have e:((x::l).length:Int).toNat=(x::l).length:=by omega
 rw [e,List.take_length]; rfl
theorem Ath {f:A3->A3->Option A3} {i:A3->A3->A3} {k N:Nat} (E:1<=k) (hk:k<34359738000) (L:N<=1048576) (B:∀a b,RB k a->RB k b->f a b=some (i a b)) (A:∀a b,i a b=a\/i a b=b)
  (p q o:List Aj) (hp:∀t∈p,TB k t) (hq:∀t∈q,TB k t) (G:o.length+p.length+q.length<=N):X0 f (p,q,o)=some (O5 i p q o):=by
 have z:=Ait k E
 have D:Hw 0=some zR:=Agk 0 (by decide) (by decide)
 have out:∀{S:Type} (c:A3) (m:Bi) (g:List Aj->S),RB k c->MSz m->o.length+1<=N->((Ic c).bind fun s=>bif (s != (0:Int)) then ((Iu c).bind fun l=>(L8 (Bi.mk m.Factors m.Atoms)).bind fun j=>(Bx 104 o [(Aj.mk l j)]).bind fun y=>some (g y)) else some (g o))=some (g (o++G2 c m)):=by
  intro S c m g hc J I
  rw [Aay c k hc (by omega),Ac]
  unfold G2
  by_cases h:nv c=0
  .have:(D4 (sv c) (nv c) != 0)=false:=by unfold bne; rw [Xk,beq_iff_eq.2 h]; rfl
   rw [this,if_pos h]; simp
  .have:(D4 (sv c) (nv c) != 0)=true:=by
    unfold bne; rw [Xk]
    have:(nv c==0)=false:=by simpa using h
    rw [this]; rfl
   rw [this,if_neg h]
   simp only [cond_true]
   rw [Aaw c k hc (by omega),Ac,show Bi.mk m.Factors m.Atoms=m from rfl,Ar1 m J,Ac,Cs (by simp; omega),Ac]
 have x:∀a b,RB k a->RB k b->RB k (i a b):=by
  intro a b ha hb
  rcases A a b with e | e <;> rw [e] <;> assumption
 unfold X0
 cases p with
 | nil=>
  cases q with
  | nil=>rfl
  | cons u q=>
   have hu:=hq u (by simp)
   simp only [List.length_cons,List.length_nil] at G
   simp only [D,Ac]
   rw [Al (by simp),Ak (by simp only [List.length_cons]; omega)]
   simp only [cond_false,cond_true,Ac]
   rw [Ci (by simp only [List.length_cons]; omega),Eh (by rfl)]
   simp only [cond_false,cond_true,Ac]
   rw [Ak (by omega),Al (by omega),show Af (u::q) 0=some u from rfl,X1]
   simp only [cond_false,cond_true,Ac]
   rw [B _ _ z hu.co,Ac]
   exact out (i zR u.Coef) u.Mono (fun o=>(.inl ([],q,o):MS⊕List Aj)) (x _ _ z hu.co) hu.mo (by omega)
 | cons t p=>
  have ht:=hp t (by simp)
  simp only [List.length_cons] at G
  cases q with
  | nil=>
   simp only [D,Ac]
   rw [Ak (by simp only [List.length_cons]; omega)]
   simp only [cond_true,Ac]
   rw [Eh (by rfl)]
   simp only [cond_true,Ac]
   rw [Al (by omega),Ak (by omega),show Af (t::p) 0=some t from rfl,X1]
   simp only [cond_false,cond_true,Ac]
   rw [B _ _ ht.co z,Ac]
   exact out (i t.Coef zR) t.Mono (fun o=>(.inl (p,[],o):MS⊕List Aj)) (x _ _ ht.co z) ht.mo (by omega)
  | cons u q=>
   have hu:=hq u (by simp)
   simp only [D,Ac]
   rw [Ak (by simp only [List.length_cons]; omega)]
   simp only [cond_true,Ac]
   rw [Ci (by simp only [List.length_cons]; omega),Ci (by simp only [List.length_cons]; omega)]
   simp only [cond_false,Ac]
   rw [show Af (t::p) 0=some t from rfl,show Af (u::q) 0=some u from rfl,Ac,Ac,Abs _ _ ht.mo,Ac,X1,X1]
   simp only [O5]
   by_cases h1:Cr t.Mono u.Mono<0
   .rw [if_pos h1,Ac,Al (by omega),Ak (by omega)]
    simp only [cond_false,cond_true,Ac]
    rw [B _ _ ht.co z,Ac]
    exact out (i t.Coef zR) t.Mono (fun o=>(.inl (p,u::q,o):MS⊕List Aj)) (x _ _ ht.co z) ht.mo (by omega)
   .rw [if_neg h1]
    by_cases h2:Cr t.Mono u.Mono=0
    .rw [if_pos h2,Ac,Ak (by omega),Ak (by omega)]
     simp only [cond_true,Ac]
     rw [B _ _ ht.co hu.co,Ac]
     exact out (i t.Coef u.Coef) t.Mono (fun o=>(.inl (p,q,o):MS⊕List Aj)) (x _ _ ht.co hu.co) ht.mo (by omega)
    .rw [if_neg h2,Ac,Ak (by omega),Al (by omega)]
     simp only [cond_false,cond_true,Ac]
     rw [B _ _ z hu.co,Ac]
     exact out (i zR u.Coef) u.Mono (fun o=>(.inl (t::p,q,o):MS⊕List Aj)) (x _ _ z hu.co) hu.mo (by omega)
structure MR (F:Rat->Rat->Rat) (x:B0) (p q R:List Aj):Prop where
 can:Er x R
 val:∀m,cf R m=F (cf p m) (cf q m)
 mon:∀t∈R,(∃u∈p,u.Mono=t.Mono)\/(∃u∈q,u.Mono=t.Mono)
 len:R.length<=p.length+q.length
theorem Ajl {f:A3->A3->Option A3} {j:A3->A3->A3} {F:Rat->Rat->Rat} (hc:Xo j F) (D:∀a b,F a b=a\/F a b=b) (B:∀a b k,RB k a->RB k b->k<34359738000->f a b=some (j a b)) {x:B0} {p q:List Aj} (hp:Er x p) (hq:Er x q) (A:p.length+q.length<=1000) :
  ∃R,Ao (X0 f) (p,q,[])=some R/\MR F x p q R:=by
 obtain ⟨R,l,c⟩:=Ar5 hc (step:=X0 f) (k:=1048576) (by omega) 1000 (Ath (by omega) (by omega) (by omega) (fun a b ha hb=>B a b _ ha hb (by omega)) hc.one) _ p q [] (Nat.le_refl _) hp.cp hq.cp (fun t ht=>⟨(hp.sz t ht).co,(hp.sz t ht).mo⟩) (fun t ht=>⟨(hq.sz t ht).co,(hq.sz t ht).mo⟩) (by simpa using A)
 refine ⟨R,by simpa using l,?_,c.val,c.mon,c.len⟩
 have z:=c.len
 have find:∀{s:List Aj} {m:Bi},Er x s->cf s m≠0->∃u∈s,u.Mono=m:=by
  intro s m g h
  by_cases e:∃u∈s,u.Mono=m
  .exact e
  .exact (h (Ab3 fun t ht k=>e ⟨t,ht,Kv.1 k⟩)).elim
 have same:∀{s:List Aj} {t:Aj},Er x s->t∈R->cf s t.Mono=cf R t.Mono->RB 1048576 t.Coef:=by
  intro s t g ht e
  have i:=Air c.cp ht
  obtain ⟨u,hu,y⟩:=find g (by rw [e,i]; exact (c.cp.coe t ht).2:cf s t.Mono≠0)
  have E:=Air g.cp hu
  have:t.Coef=u.Coef:=Aig (c.cp.coe t ht).1 (g.cp.coe u hu).1 (by rw [<-i,<-e,<-E,y])
  rw [this]; exact (g.sz u hu).co
 refine Er.of c.cp (fun t ht=>?_) (fun t ht=>?_) (by omega)
 .rcases c.mon t ht with ⟨u,hu,e⟩ | ⟨u,hu,e⟩
  .rw [<-e]; exact hp.mo u hu
  .rw [<-e]; exact hq.mo u hu
 .have v:=c.val t.Mono
  rcases D (cf p t.Mono) (cf q t.Mono) with h | h
  .exact same hp ht (by rw [v,h])
  .exact same hq ht (by rw [v,h])
theorem Ati (a b:Rat):FJ a b=a\/FJ a b=b:=by
 unfold FJ; split
 .exact .inr rfl
 .exact .inl rfl
theorem Atj (a b:Rat):FM a b=a\/FM a b=b:=by
 unfold FM; split
 .exact .inr rfl
 .exact .inl rfl
theorem X2 {x:B0} (c:CSz x) (f:Fz x) {p:List Aj} (hp:Er x p):Kd x p=some true:=by
 obtain ⟨b,b1,b2⟩:=Arg x c p hp.sz
 rw [b1,b2.2 ⟨f,hp.can⟩]
theorem Ajm {x:B0} (g:CSz x) (h:Fz x) {p q:List Aj} (hp:Er x p) (hq:Er x q) (j:p.length+q.length<=1000):∃R,No x p q=some (R,0)/\MR FJ x p q R:=by
 obtain ⟨R,i,c⟩:=Ajl Atb Ati (f:=Ps) (fun a b k ha hb hk=>Atf ha hb hk) hp hq j
 refine ⟨R,?_,c⟩
 have:=c.len
 unfold No Vr
 rw [X2 g h hp,X2 g h hq]
 simp only [Ac,bnt,cond_false]
 refine bnd (a:=(R,0)) (bnd i ?_) rfl
 rw [Al (by omega)]; rfl
theorem Atk {x:B0} (g:CSz x) (h:Fz x) {p q:List Aj} (hp:Er x p) (hq:Er x q) (j:p.length+q.length<=1000):∃R,Pp x p q=some (R,0)/\MR FM x p q R:=by
 obtain ⟨R,i,c⟩:=Ajl Atc Atj (f:=Pu) (fun a b k ha hb hk=>Atg ha hb hk) hp hq j
 refine ⟨R,?_,c⟩
 have:=c.len
 unfold Pp Aad
 rw [X2 g h hp,X2 g h hq]
 simp only [Ac,bnt,cond_false]
 refine bnd (a:=(R,0)) (bnd i ?_) rfl
 rw [Al (by omega)]; rfl
theorem Ajn (p:List Aj) (b:p.length<=1048576) (h:∀t∈p,MSz t.Mono/\RB 4294967296 t.Coef):Pr p p=some true:=by
 unfold Pr
 rw [bne_self_eq_false,cond_false]
 refine Fm p (fun j=>(j:Int)) rfl (by omega) ?_ ?_
 .intro j t hj ht h1 h2 h3
  obtain ⟨a1,a2⟩:=h t (B3 ht)
  simp only [h1,h2,h3,cond_true,Ac,Ah1 _ _ a1,Aiq,bne_self_eq_false,cond_false,Ao4 t.Coef _ a2 (by decide)]
 .intro h1
  exact ⟨.inr (),by simp only [h1,cond_false],rfl⟩
theorem Ajo {p:List Aj} {n:Nat} (h:L2 p (n:Int)=some true):p.length<=n:=by
 rcases Nat.lt_or_ge n p.length with k | k
 .unfold L2 at h
  rw [Ak (by omega)] at h; cases h
 .exact k
theorem Atl {x:B0} {p q:List Aj} (h:Nn x p q=some true):p.length<=6/\q.length<=6:=by
 unfold Nn at h
 obtain ⟨a,_,h⟩:=Option.bind_eq_some_iff.1 h
 cases a with
 | false=>cases h
 | true=>
  obtain ⟨b,hb,h⟩:=Option.bind_eq_some_iff.1 h
  cases b with
  | false=>cases h
  | true=>
   obtain ⟨c,hc,h⟩:=Option.bind_eq_some_iff.1 h
   cases h
   exact ⟨Ajo (n:=6) hb,Ajo (n:=6) hc⟩
theorem Atm (x:B0) (p q:List Aj) (f:CSz x) (N:p.length<=1048576) (hp:∀t∈p,TSz t) (l:q.length<=1048576) (hq:∀t∈q,TSz t):Vm x p q=some true:=by
 unfold Vm
 rw [Aro]
 obtain ⟨b,hb⟩:=Arn x p q N hp l hq
 simp only [Ac,bnt,cond_false,hb]
 cases b with
 | false=>rfl
 | true=>
  obtain ⟨n1,n2⟩:=Atl hb
  obtain ⟨c,c1,Z⟩:=Aie x f p hp
  obtain ⟨d,d1,d2⟩:=Aie x f q hq
  simp only [bnt,cond_false,c1,d1,Ac]
  cases c with
  | false=>rfl
  | true=>
   cases d with
   | false=>rfl
   | true=>
    obtain ⟨g,G⟩:=Z.1 rfl
    obtain ⟨_,E⟩:=d2.1 rfl
    have j:Er x p:=⟨G,hp⟩
    have k:Er x q:=⟨E,hq⟩
    obtain ⟨J,L,i⟩:=Ajm f g j k (by omega)
    obtain ⟨M,m1,m2⟩:=Atk f g j k (by omega)
    have mem:∀{F:Rat->Rat->Rat} {R:List Aj},MR F x p q R->∀t∈R,t.Mono∈(p++q).map (·.Mono):=by
     intro F R h t ht
     rcases h.mon t ht with ⟨u,hu,e⟩ | ⟨u,hu,e⟩
     .exact List.mem_map.2 ⟨u,by simp [hu],e⟩
     .exact List.mem_map.2 ⟨u,by simp [hu],e⟩
    have z:((p++q).map (·.Mono)).length<=12:=by simp; omega
    obtain ⟨A,a1,a2,a3,a4,a5⟩:=Ajk f g i.can m2.can ((p++q).map (·.Mono)) z (mem i) (mem m2)
    obtain ⟨B,b1,b2,b3,D,b5⟩:=Ajk f g j k ((p++q).map (·.Mono)) z (fun t ht=>List.mem_map.2 ⟨t,by simp [ht],rfl⟩) (fun t ht=>List.mem_map.2 ⟨t,by simp [ht],rfl⟩)
    have ml:=m2.len
    have jl:=i.len
    obtain ⟨K,I,y⟩:=Ajm f g j m2.can (by omega)
    have s:A=B:=CP.ext a2 b2 fun m=>by
     rw [a3,b3,i.val,m2.val]
     unfold FJ FM
     split <;> split <;> grind
    have S:K=p:=CP.ext y.can.cp j.cp fun m=>by
     rw [y.val,m2.val]
     unfold FJ FM
     split <;> split at * <;> grind
    obtain ⟨Y,f1,g1⟩:=Xz f g i.can j
    obtain ⟨X,f2,g2⟩:=Xz f g i.can k
    obtain ⟨V,f3,g3⟩:=Xz f g j m2.can
    obtain ⟨U,f4,g4⟩:=Xz f g k m2.can
    have t1:Y=true:=g1.2 fun m=>by rw [i.val]; unfold FJ; split <;> grind
    have t2:X=true:=g2.2 fun m=>by rw [i.val]; unfold FJ; split <;> grind
    have t3:V=true:=g3.2 fun m=>by rw [m2.val]; unfold FM; split <;> grind
    have t4:U=true:=g4.2 fun m=>by rw [m2.val]; unfold FM; split <;> grind
    simp only [bnt,cond_false,Ac,L,m1,a1,b1,I,bne_self_eq_false,f1,f2,f3,f4,t1,t2,t3,t4,cond_true]
    rw [s,S,Ajn B (by omega) (fun t ht=>⟨(D t ht).1.2,(D t ht).2⟩),Ac]
    simp only [cond_true]
    rw [Ajn p (by omega) (fun t ht=>⟨(hp t ht).mo,(hp t ht).co.mono (by omega)⟩)]; rfl
end Go.Ab
