/- Plain laws: what the plain functions answer. -/
import Derived.Test.YtenghgogpgldaaaGreatDoorPrPl1
namespace Go.Ab
open Go
theorem Akv (a:Nat) (h:a<1099511627776):Ff .u64 (Ak (Ac (a:Int))) 1=some ((a / 2:Nat):Int):=by
 have h1:Ac (a:Int)=(a:Int):=by rw [Ac,Cd] <;> omega
 have h2:Ak (a:Int)=(a:Int):=by rw [Ak,B2] <;> omega
 rw [h1,h2]
 unfold Ff
 rw [if_pos (by decide)]
 have:(2:Int) ^ (min (1:Int).toNat IntKind.u64.bits)=2:=by decide
 rw [this,Int.fdiv_eq_ediv_of_nonneg _ (by decide)]
 rfl
theorem Akw (a b:Int):L2 a b=some (decide (a<b)):=by
 unfold L2 Jf
 simp
theorem Akx (V:List Int) (v:Int) (B:V.Pairwise (· < ·)) (D:V.length<=1000000):∃i,Ly V v=some (i,decide (v∈V)):=by
 have g:∀(i j:Nat) (a b:Int),i<j->V[i]? = some a->V[j]? = some b->a<b:=fun i j a b l ha hb=>by
  have h1:=Fw ha
  have h2:=Fw hb
  have:=(List.pairwise_iff_getElem.1 B) i j h1 h2 l
  rw [Ci h1] at ha
  rw [Ci h2] at hb
  cases ha; cases hb; exact this
 have hex:∃r:Int×Bool,Ly V v=some r/\r.2=decide (v∈V):=by
  unfold Ly
  refine Eh (fun s=>∃i j:Nat,s=((i:Int),(j:Int))/\i<=j/\j<=V.length/\(∀(q:Nat) (a:Int),q<i->V[q]? = some a->a<v)/\(∀(q:Nat) (a:Int),j<=q->V[q]? = some a->v<=a)) (fun s=>s.2.toNat-s.1.toNat)
   (fun e=>∃i:Nat,e=(i:Int)/\i<=V.length/\(∀(q:Nat) (a:Int),q<i->V[q]? = some a->a<v)/\(∀(q:Nat) (a:Int),i<=q->V[q]? = some a->v<=a)) ⟨0,V.length,rfl,by omega,by omega,(fun q a h=>by omega),fun q a h ha=>by have:=Fw ha; omega⟩ ?_ ?_
  .rintro s ⟨i,j,rfl,l,hj,h1,h2⟩
   rcases Nat.lt_or_ge i j with h | h
   .obtain ⟨m,A⟩:∃m:Nat,m=(i+j) / 2:=⟨_,rfl⟩
    have hx:V[m]? = some (V[m]'(by omega)):=Ci _
    generalize V[m]'_=x at hx
    have y:((i:Int)+(j:Int))=((i+j:Nat):Int):=by omega
    have u:Ac ((m:Nat):Int)=(m:Int):=by rw [Ac,Cd] <;> omega
    simp only [Be (by omega:(i:Int)<(j:Int)),cond_true,y,Akv (i+j) (by omega),<-A,Ah,u,Fs rfl hx,Akw]
    by_cases e:x<v
    .rw [Be e,cond_true,E4 (n:=V.length) (by omega) (by omega)]
     refine .inl ⟨_,rfl,⟨m+1,j,rfl,by omega,hj,fun q a hq ha=>?_,h2⟩,by simp only [Int.toNat_natCast]; omega⟩
     by_cases f:q=m
     .subst f; rw [hx] at ha; cases ha; exact e
     .have:=g q m a x (by omega) ha hx
      omega
    .rw [Bo e,cond_false]
     refine .inl ⟨_,rfl,⟨i,m,rfl,by omega,by omega,h1,fun q a hq ha=>?_⟩,by simp only [Int.toNat_natCast]; omega⟩
     by_cases f:q=m
     .subst f; rw [hx] at ha; cases ha; omega
     .have:=g m q x a (by omega) hx ha
      omega
   .have:i=j:=by omega
    subst this
    exact .inr ⟨(i:Int),by simp only [Bo (by omega:¬(i:Int)<(i:Int)),cond_false],i,rfl,hj,h1,h2⟩
  .rintro e ⟨i,rfl,E,h1,h2⟩
   have c:v∈V↔V[i]? = some v:=by
    constructor
    .intro k
     obtain ⟨q,hq⟩:=List.getElem?_of_mem k
     have z:¬q<i:=fun h=>by have:=h1 q v h hq; omega
     by_cases e:q=i
     .subst e; exact hq
     .have hq':=Fw hq
      have hx:V[i]? = some (V[i]'(by omega)):=Ci _
      have g1:=g i q _ v (by omega) hx hq
      have g2:=h2 i _ (Nat.le_refl _) hx
      omega
    .exact fun h=>lmo h
   rcases Nat.lt_or_ge i V.length with h | h
   .have hx:V[i]? = some V[i]:=Ci h
    generalize V[i]=x at hx
    simp only [Be (by omega:(i:Int)<(V.length:Int)),cond_true,Fs rfl hx,Ah]
    by_cases e:x=v
    .subst e
     rw [Hk rfl,cond_true]
     exact ⟨_,rfl,by rw [Be (c.2 hx)]⟩
    .rw [Dw e,cond_false]
     unfold Nx
     simp only [Ah,bne_self_eq_false,cond_false]
     exact ⟨_,rfl,by rw [Bo (fun k=>e (by have:=c.1 k; rw [hx] at this; exact Option.some.inj this))]⟩
   .rw [Bo (by omega)]
    exact ⟨_,rfl,by rw [Bo (fun k=>by have:=Fw (c.1 k); omega)]⟩
 obtain ⟨⟨i,b⟩,h1,h2⟩:=hex
 have h2:b=decide (v∈V):=h2
 subst h2
 exact ⟨i,h1⟩
theorem Acy {α:Type} (F:List α) (g:α->Int) (v:Int) (k:F.length<=1000000) {R:Type} {J:Bool⊕Int->Option R} {rt rf:R} (h1:J (.inl true)=some rf) (h2:J (.inr (F.length:Int))=some rt) :
  (Aj (S:=Int) (E:=(Bool⊕Int)) (fun b=>
   bif (decide (b<(F.length:Int))) then (
   (Ag F b).bind fun v37=>
   bif (g v37==v) then some (.inr (.inl true))
   else some (.inl (Ac (b+1))))
   else some (.inr (.inr b))) 0).bind J=some (bif F.all (fun x=>!(g x==v)) then rt else rf):=by
 refine Ru F (fun x=>!(g x==v)) (fun j=>(j:Int)) rfl (by omega) ?_ ?_
 .intro j x hx i f c
  simp only [i,f,c,cond_true,Ah]
  cases hb:(g x==v) with
  | true=>exact ⟨(fun h=>by cases h),fun _=>⟨.inl true,rfl,h1⟩⟩
  | false=>exact ⟨fun _=>rfl,fun h=>by cases h⟩
 .intro h
  exact ⟨.inr (F.length:Int),by simp only [h,cond_false],h2⟩
end Go.Ab
namespace Go.Ab
open Go
theorem Aky (p:List Aw) (m:Bh) (M:p.length<=1000) (hp:∀t∈p,TSz t):∃c,Nc p m=some c/\Nd p m=some c/\RB 2000000000 c:=by
 unfold Nc Nd
 have B:F3 0=some (Bs false 0 1):=Aia 0 (by decide) (by decide)
 have z2:Kg 0=some (Bs false 0 1):=Aiw 0 (by decide) (by decide)
 have z3:RB 1 (Bs false 0 1):=Wz _ _ _ _ (by simp [Rs]) (by rw [Ou]; decide) (by decide)
 rw [B,z2]
 simp only [Ah]
 obtain ⟨z,A,G,E,rfl,D⟩:=Ajs (R1:=A3) (R2:=A3)
  (s1:=(fun (v9,g,f,v12)=>
   bif (decide (v9<(p.length:Int))) then (
   (Ag p v9).bind fun i=>
   (I9 i.Mono m).bind fun x=>
   bif (x==(0:Int)) then (
   (Ij (A3.mk g f v12) i.Coef).bind fun b=>
   some (.inl ((Ac (v9+1)),b.Neg,b.Num,b.Den)))
   else some (.inl ((Ac (v9+1)),g,f,v12)))
   else some (.inr (g,f,v12)):Int×Bool×List Int×List Int->Option ((Int×Bool×List Int×List Int)⊕(Bool×List Int×List Int))))
  (s2:=(fun (v9,g,f,v12)=>
   bif (decide (v9<(p.length:Int))) then (
   (Ag p v9).bind fun i=>
   (Lx i.Mono m).bind fun x=>
   bif (x==(0:Int)) then (
   (Ja (A3.mk g f v12) i.Coef).bind fun b=>
   some (.inl ((Ac (v9+1)),b.Neg,b.Num,b.Den)))
   else some (.inl ((Ac (v9+1)),g,f,v12)))
   else some (.inr (g,f,v12)):Int×Bool×List Int×List Int->Option ((Int×Bool×List Int×List Int)⊕(Bool×List Int×List Int))))
  (J1:=(fun (q,l,k)=>some (A3.mk q l k):Bool×List Int×List Int->Option A3))
  (J2:=(fun (q,l,k)=>some (A3.mk q l k):Bool×List Int×List Int->Option A3))
  (fun s t=>s=t/\∃(j:Nat) (a:A3),s=((j:Int),a.Neg,a.Num,a.Den)/\j<=p.length/\RB (1+j*1048579) a) (fun s=>p.length-s.1.toNat)
  (fun z A=>z=A/\RB 2000000000 z) (by
   rintro s t ⟨rfl,j,a,rfl,hj,ha⟩
   rcases Nat.lt_or_ge j p.length with h | h
   .have hu:p[j]? = some p[j]:=Ci h
    generalize p[j]=u at hu
    have y:=hp u (lmo hu)
    simp only [Be (by omega:(j:Int)<(p.length:Int)),cond_true,Fs rfl hu,Ah,Ajg u.Mono m y.mo,Ajh u.Mono m y.mo,E4 h (by omega)]
    by_cases e:C6 u.Mono m=0
    .rw [Hk e]
     simp only [cond_true]
     obtain ⟨c,L,J,I⟩:=Ajt a u.Coef _ _ ha y.co (by omega) (by omega)
     refine .inl ⟨((j+1:Nat),c.Neg,c.Num,c.Den),_,?_,?_,⟨rfl,j+1,c,rfl,by omega,I.mono (by omega)⟩,by simp only [Int.toNat_natCast]; omega⟩
     .show (Ij a u.Coef).bind _=_
      rw [L]; rfl
     .show (Ja a u.Coef).bind _=_
      rw [J]; rfl
    .rw [Dw e]
     simp only [cond_false]
     exact .inl ⟨_,_,rfl,rfl,⟨rfl,j+1,a,rfl,by omega,ha.mono (by omega)⟩,by simp only [Int.toNat_natCast]; omega⟩
   .have:j=p.length:=by omega
    subst this
    exact .inr ⟨(a.Neg,a.Num,a.Den),(a.Neg,a.Num,a.Den),a,a,by simp,by simp,rfl,rfl,rfl,ha.mono (by omega)⟩)
  (s:=((0:Int),(Bs false 0 1).Neg,(Bs false 0 1).Num,(Bs false 0 1).Den)) (t:=((0:Int),(Bs false 0 1).Neg,(Bs false 0 1).Num,(Bs false 0 1).Den)) ⟨rfl,0,Bs false 0 1,rfl,by omega,z3.mono (by omega)⟩
 exact ⟨z,G,E,D⟩
def Gc (t:Aw):Bool:=decide (Ky (sv t.Coef) (nv t.Coef)<0)
theorem Akz (p:List Aw) (b:p.length<=1000000) (hp:∀t∈p,TSz t):Ng p=some (bif p.all fun t=>!Gc t then true else false):=by
 unfold Ng
 refine Ru p (fun t=>!Gc t) (fun j=>(j:Int)) rfl (by omega) ?_ ?_
 .intro j x hx h1 h2 h3
  have ht:=hp x (lmo hx)
  simp only [h1,h2,h3,cond_true,Ah,Aiv _ _ ht.co (by decide)]
  rw [show decide (Ky (sv x.Coef) (nv x.Coef)<0)=Gc x from rfl]
  cases Gc x with
  | true=>exact ⟨(fun h=>by cases h),fun _=>⟨.inl false,rfl,rfl⟩⟩
  | false=>exact ⟨fun _=>rfl,fun h=>by cases h⟩
 .intro h
  exact ⟨.inr (),by simp only [h]; rfl,rfl⟩
theorem Ak0 (p:List Aw) (g:p.length<=1000000) (hp:∀t∈p,TSz t):Nf p=some (bif p.all fun t=>!Gc t then true else false):=by
 unfold Nf Ql
 have hex:∃r,Nv p=some r/\decide (r>=0) = !(p.all fun t=>!Gc t):=by
  unfold Nv
  refine Eh (fun v=>∃j:Nat,v=j/\j<=p.length/\∀t∈p.take j,Gc t=false) (fun v=>p.length-v.toNat) (fun z=>(∃j:Nat,z = .inl (j:Int)/\∃t∈p,Gc t=true)\/(z = .inr ()/\∀t∈p,Gc t=false)) ⟨0,rfl,by omega,by simp⟩ ?_ ?_
  .rintro v ⟨j,rfl,hj,b⟩
   rcases Nat.lt_or_ge j p.length with h | h
   .have hx:p[j]? = some p[j]:=Ci h
    generalize p[j]=x at hx
    have hxm:=lmo hx
    have ht:=hp x hxm
    have hc:No x=some (Gc x):=by
     unfold No
     rw [Ah8 _ _ ht.co (by decide)]; rfl
    simp only [Be (by omega:(j:Int)<(p.length:Int)),cond_true,Fs rfl hx,Ah,hc,E4 h (by omega)]
    cases f:Gc x with
    | true=>exact .inr ⟨.inl (j:Int),rfl,.inl ⟨j,rfl,x,hxm,f⟩⟩
    | false=>
     refine .inl ⟨_,rfl,⟨j+1,rfl,by omega,fun t c=>?_⟩,by simp only [Int.toNat_natCast]; omega⟩
     rw [Fv hx] at c
     rcases List.mem_append.1 c with h2 | h2
     .exact b t h2
     .rw [List.mem_singleton] at h2
      subst h2; exact f
   .have:j=p.length:=by omega
    subst this
    rw [List.take_length] at b
    exact .inr ⟨.inr (),by simp,.inr ⟨rfl,b⟩⟩
  .rintro z (⟨j,rfl,t,ht,f⟩ | ⟨rfl,b⟩)
   .refine ⟨(j:Int),rfl,?_⟩
    rw [Be (by omega)]
    have:(p.all fun t=>!Gc t)=false:=by
     rw [List.all_eq_false]
     exact ⟨t,ht,by rw [f]; simp⟩
    rw [this]; rfl
   .refine ⟨-1,rfl,?_⟩
    rw [Bo (by omega)]
    have:(p.all fun t=>!Gc t)=true:=by
     rw [List.all_eq_true]
     intro t ht
     rw [b t ht]; rfl
    rw [this]; rfl
 obtain ⟨r,h1,h2⟩:=hex
 rw [h1]
 simp only [Ah,h2]
 cases p.all fun t=>!Gc t <;> rfl
def Hq (v:Int) (t:Aw):Bool:=t.Mono.Factors.all (fun f=>!(f.Var==v))&&t.Mono.Atoms.all (fun a=>a.Lin.Terms.all (fun l=>!(l.Var==v)))
theorem Acz (v:Int) (t:Aw):Hq v t=true↔v ∉ Fy t.Mono:=by
 unfold Hq Fy En
 rw [bae,List.all_eq_true,List.all_eq_true,List.mem_append,List.mem_flatMap]
 constructor
 .rintro ⟨h1,h2⟩ (h | ⟨a,ha,h⟩)
  .obtain ⟨f,c,e⟩:=List.mem_map.1 h
   have:=h1 f c
   rw [Hk e] at this; cases this
  .obtain ⟨l,b,e⟩:=List.mem_map.1 h
   have:=List.all_eq_true.1 (h2 a ha) l b
   rw [Hk e] at this; cases this
 .intro h
  refine ⟨fun f c=>?_,fun a ha=>?_⟩
  .rw [Dw (fun e=>h (.inl (List.mem_map.2 ⟨f,c,e⟩)))]; rfl
  .rw [List.all_eq_true]
   intro l b
   rw [Dw (fun e=>h (.inr ⟨a,ha,List.mem_map.2 ⟨l,b,e⟩⟩))]; rfl
theorem Ak1 (p:List Aw) (v:Int) (U:p.length<=100000) (L:∀t∈p,Mp t.Mono):Ni p v=some (decide (v∈C7 p)):=by
 have q:decide (v∈C7 p)=bif p.all (Hq v) then false else true:=by
  cases h:p.all (Hq v) with
  | true=>
   rw [List.all_eq_true] at h
   refine Bo fun I=>?_
   obtain ⟨t,ht,h2⟩:=List.mem_flatMap.1 I
   exact (Acz v t).1 (h t ht) h2
  | false=>
   rw [List.all_eq_false] at h
   obtain ⟨t,ht,h2⟩:=h
   refine Be (List.mem_flatMap.2 ⟨t,ht,?_⟩)
   exact Classical.byContradiction fun h3=>h2 ((Acz v t).2 h3)
 rw [q]
 unfold Ni
 refine Ru p (Hq v) (fun j=>(j:Int)) rfl (by omega) ?_ ?_
 .intro j t ht h1 h2 h3
  obtain ⟨s1,s2,B⟩:=L t (lmo ht)
  have key:∀{X:Option (Int⊕(Bool⊕Unit))},X=some (bif Hq v t then .inl ((j+1:Nat):Int) else .inr (.inl true))->((Hq v t=true->X=some (.inl ((j+1:Nat):Int)))/\(Hq v t=false->∃e,X=some (.inr e)/\(match e with | .inl u=>some u | .inr _=>some false)=some true)):=by
   intro X A
   rw [A]
   cases Hq v t with
   | true=>exact ⟨fun _=>rfl,fun h=>by cases h⟩
   | false=>exact ⟨(fun h=>by cases h),fun _=>⟨_,rfl,rfl⟩⟩
  refine key ?_
  simp only [h1,h2,h3,cond_true,Ah]
  have y:∀{R:Type} {J:Bool⊕Int->Option R} {rt rf:R},J (.inl true)=some rf->J (.inr (t.Mono.Atoms.length:Int))=some rt ->
    (Aj (S:=Int) (E:=(Bool⊕Int)) (fun c=>
     bif (decide (c<(t.Mono.Atoms.length:Int))) then (
     (Ag t.Mono.Atoms c).bind fun v51=>
     (Aj (S:=Int) (E:=(Bool⊕Int)) (fun b=>
     bif (decide (b<(v51.Lin.Terms.length:Int))) then (
     (Ag v51.Lin.Terms b).bind fun s=>
     bif (s.Var==v) then some (.inr (.inl true))
     else some (.inl (Ac (b+1))))
     else some (.inr (.inr b))) 0).bind fun z=>
     match z with
     | .inl g=>some (.inr (.inl g))
     | .inr v59=>some (.inl (Ac (c+1))))
     else some (.inr (.inr c))) 0).bind J=some (bif t.Mono.Atoms.all (fun a=>a.Lin.Terms.all (fun l=>!(l.Var==v))) then rt else rf):=by
   intro R J rt rf g1 g2
   refine Ru t.Mono.Atoms (fun a=>a.Lin.Terms.all (fun l=>!(l.Var==v))) (fun i=>(i:Int)) rfl (by omega) ?_ ?_
   .intro i a ha x G D
    have N:=B a (lmo ha)
    simp only [x,G,cond_true,Ah]
    have M:=Acy a.Lin.Terms (fun l=>l.Var) v (by omega) (R:=Int⊕(Bool⊕Int)) (J:=fun z=>match z with | .inl g=>some (.inr (.inl g)) | .inr v59=>some (.inl (Ac ((i:Int)+1)))) (rt:=.inl (Ac ((i:Int)+1))) (rf:=.inr (.inl true)) rfl rfl
    rw [M,D]
    cases a.Lin.Terms.all (fun l=>!(l.Var==v)) with
    | true=>exact ⟨fun _=>rfl,fun h=>by cases h⟩
    | false=>exact ⟨(fun h=>by cases h),fun _=>⟨.inl true,rfl,g1⟩⟩
   .intro x
    exact ⟨.inr (t.Mono.Atoms.length:Int),by simp only [x,cond_false],g2⟩
  have k:∀{X:Option (Int⊕(Bool⊕Unit))},X=some (bif t.Mono.Factors.all (fun f=>!(f.Var==v)) then (bif t.Mono.Atoms.all (fun a=>a.Lin.Terms.all (fun l=>!(l.Var==v))) then (.inl ((j+1:Nat):Int)) else .inr (.inl true)) else .inr (.inl true))->X=some (bif Hq v t then .inl ((j+1:Nat):Int) else .inr (.inl true)):=by
   intro X A
   rw [A]
   unfold Hq
   cases t.Mono.Factors.all (fun f=>!(f.Var==v)) <;> rfl
  refine k ?_
  exact Acy t.Mono.Factors (fun f=>f.Var) v (by omega) (rt:=(bif t.Mono.Atoms.all (fun a=>a.Lin.Terms.all (fun l=>!(l.Var==v))) then (.inl ((j+1:Nat):Int)) else .inr (.inl true):Int⊕(Bool⊕Unit))) (rf:=.inr (.inl true)) rfl (y rfl rfl)
 .intro h
  exact ⟨.inr (),by simp only [h]; rfl,rfl⟩
theorem Ak2 (p:List Aw) (m:Bh) (v:Int) (S:p.length<=1048576) (hp:∀t∈p,TSz t) (R:MSz m):Qf p m v=some true:=by
 unfold Qf
 obtain ⟨b,b1,b2⟩:=Akt p S hp
 obtain ⟨c,Y,_⟩:=Acv m R
 rw [b1]
 simp only [Ah]
 cases b with
 | false=>rfl
 | true=>
  obtain ⟨X,s⟩:=b2 rfl
  simp only [bnt,cond_false,Y,Ah]
  cases c with
  | false=>rfl
  | true=>
   obtain ⟨r,M,L,D⟩:=Aky p m (by omega) hp
   have N:(C7 p).length<=6000:=by
    have key:∀q:List Aw,(∀t∈q,Mp t.Mono)->(C7 q).length<=568*q.length:=by
     intro q
     induction q with
     | nil=>intro _; simp [C7]
     | cons t q ih=>
      intro h
      have h1:=ih (fun u hu=>h u (by simp [hu]))
      obtain ⟨s1,s2,J⟩:=h t (by simp)
      have h2:∀A:List B6,(∀a∈A,a.Lin.Terms.length<=70)->(En A).length<=70*A.length:=by
       intro A
       induction A with
       | nil=>intro _; simp [En]
       | cons a A l=>
        intro g
        have g1:=l (fun u hu=>g u (by simp [hu]))
        have g2:=g a (by simp)
        unfold En at *
        simp only [List.flatMap_cons,List.length_append,List.length_map,List.length_cons]; omega
      have h3:=h2 t.Mono.Atoms J
      have hc:C7 (t::q)=Fy t.Mono++C7 q:=by simp [C7]
      have x:(Fy t.Mono).length=t.Mono.Factors.length+(En t.Mono.Atoms).length:=by unfold Fy; simp
      rw [hc,List.length_append,List.length_cons,x]; omega
    have:=key p s
    omega
   have j:∀t∈p,t.Mono.Atoms.length<=100000:=fun t ht=>by have:=(s t ht).2.1; omega
   obtain ⟨V,B,v2,v3,v4⟩:=Akm p (by omega) (fun t ht=>by have:=j t ht; omega) (by omega)
   obtain ⟨k,I,G,E⟩:=Aku p (by omega) j (by omega)
   have z:k=V:=Acw k V G v2 (fun y=>by rw [E y,v4 y])
   subst z
   obtain ⟨i,U⟩:=Akx k v v2 v3
   have f:Nh p v=some (decide (v∈C7 p)):=by
    unfold Nh
    rw [B,Ah,U,Ah]
    congr 1
    by_cases h:v∈k
    .rw [Be h,Be ((v4 v).1 h)]
    .rw [Bo h,Bo (fun h2=>h ((v4 v).2 h2))]
   simp only [bnt,cond_false,M,L,Ah,Akq r (by have:=D.nl; omega) (by have:=D.dl; omega),cond_true,Ak0 p (by omega) hp,Akz p (by omega) hp,beq_self_eq_true,f,Ak1 p v (by omega) s,B,I,Akp k (by omega),Akk]
end Go.Ab
