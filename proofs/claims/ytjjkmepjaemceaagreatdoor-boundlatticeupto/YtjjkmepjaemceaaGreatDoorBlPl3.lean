/- Plain laws: what the plain functions answer. -/
import Derived.Test.YtjjkmepjaemceaaGreatDoorBlPl2
import Derived.Test.YtjjkmepjaemceaaGreatDoorBlPl1
import Derived.KernelRfl
namespace Go.Ab
open Go
theorem Arb {α:Type} [DecidableEq α] (l m:List α) (b:l.length=m.length):(decide (l=m))=l.zipIdx.all (fun q=>decide (m[q.2]? = some q.1)):=by
 rw [Bool.eq_iff_iff,decide_eq_true_eq]
 constructor
 .rintro rfl
  exact Wn fun j x hx=>by simpa using hx
 .intro h
  apply List.ext_getElem?
  intro j
  cases hx:l[j]? with
  | none=>rw [List.getElem?_eq_none_iff] at hx; rw [List.getElem?_eq_none (by omega)]
  | some x=>have:=G0 h hx; rw [decide_eq_true_eq] at this; rw [this]
theorem Abw {R:Type} (l m:List Int) (b:l.length<1099511627776) (h:l.length=m.length) {J:Bool⊕Unit->Option R} {rt rf:R} (h1:J (.inl false)=some rf) (h2:J (.inr ())=some rt) :
  (Ao (S:=Int) (E:=(Bool⊕Unit)) (fun v3=>bif (decide (v3<(l.length:Int))) then ((Af l v3).bind fun v4=>(Af m v3).bind fun v5=>bif (v4 != v5) then some (.inr (.inl false)) else some (.inl (Ad (v3+1)))) else some (.inr (.inr ()))) 0).bind J=some (bif decide (l=m) then rt else rf):=by
 rw [Arb l m h]
 refine Oq l (fun q=>decide (m[q.2]? = some q.1)) (fun j=>(j:Int)) rfl (by omega) (rt:=rt) (rf:=rf) ?_ ?_
 .intro j x hx _ g1 g2 g3
  have hj:j<m.length:=by have:=Em hx; omega
  have hy:m[j]? = some m[j]:=Cb hj
  generalize m[j]=y at hy
  simp only [g1,g2,g3,cond_true,Ac,Ch rfl hy,hy,Option.some.injEq]
  by_cases e:x=y
  .rw [Cz e,Ak e.symm]
   exact ⟨fun _=>rfl,fun h=>by cases h⟩
  .rw [Cv e,Al (fun h=>e h.symm)]
   exact ⟨(fun h=>by cases h),fun _=>⟨.inl false,rfl,h1⟩⟩
 .intro h _; exact ⟨.inr (),by simp only [h]; rfl,h2⟩
theorem Aib (l m:List Int) (b:l.length<1099511627776):Ki l m=some (decide (l=m)):=by
 unfold Ki
 by_cases h:l.length=m.length
 .rw [Cz (by omega)]
  simp only [cond_false]
  refine (Abw l m b h (rt:=true) (rf:=false) ?_ ?_).trans (by rw [Lb]) <;> rfl
 .rw [Cv (by omega),Al (fun e=>h (by rw [e]))]; rfl
def Kt (a b:A3):Bool:=a.Neg==b.Neg&&decide (a.Num=b.Num)&&decide (a.Den=b.Den)
theorem Xj (a b:A3):Kt a b=true↔a=b:=by
 unfold Kt
 simp only [C9,beq_iff_eq,decide_eq_true_eq]
 constructor
 .rintro ⟨⟨h1,h2⟩,h3⟩; cases a; cases b; simp_all
 .rintro rfl; simp
theorem Arc (a b:A3) (h1:a.Num.length<1099511627776) (h2:a.Den.length<1099511627776):Sg a b=some (Kt a b):=by
 unfold Sg Kt
 cases g:(a.Neg==b.Neg) with
 | false=>rw [show (a.Neg != b.Neg)=true by simp [bne,g]]; rfl
 | true=>
  rw [show (a.Neg != b.Neg)=false by simp [bne,g]]
  simp only [cond_false]
  by_cases f:a.Num.length=b.Num.length
  .rw [Cz (by omega)]
   by_cases c:a.Den.length=b.Den.length
   .rw [Cz (by omega)]
    simp only [cond_false,Ac,Bool.true_and]
    refine (Abw a.Num b.Num h1 f (rt:=decide (a.Den=b.Den)) (rf:=false) rfl ?_).trans (by cases decide (a.Num=b.Num) <;> rfl)
    refine (Abw a.Den b.Den h2 c (rt:=true) (rf:=false) ?_ ?_).trans (by rw [Lb]) <;> rfl
   .rw [Cv (by omega),Al (fun e:a.Den=b.Den=>c (by rw [e]))]
    simp
  .rw [Cv (by omega),Al (fun e:a.Num=b.Num=>f (by rw [e]))]
   simp
def O3 (c:A3):Bool:=Kt (Bv (sv c) (nv c) (dv c)) c && !(nv c==0)
theorem Ard (c:A3):O3 c=(Kt c (Bv (sv c) (nv c) (dv c)) && !(nv c==0)):=by
 unfold O3
 congr 1
 rw [Bool.eq_iff_iff,Xj,Xj]; exact eq_comm
structure TSz (t:Aj):Prop where
 co:RB 1048576 t.Coef
 mo:MSz t.Mono
def M1 (l:List Aj) (x:Aj) (j:Nat):Bool:=j==0||(match l[j-1]? with | some y=>decide (Cr y.Mono x.Mono<0) | none=>false)
def M2 (data:List As) (vars:List Ah) (res:Ah) (l:List Aj) (t:Aj) (j:Nat):Bool:=O3 t.Coef&&Gp data vars res t.Mono&&M1 l t j
def G8 (data:List As) (vars:List Ah) (res:Ah) (p:List Aj):Bool:=decide (p.length<=1000)&&p.zipIdx.all (fun q=>M2 data vars res p q.1 q.2)
theorem Aic {S E:Type} (F:Bi->Bi->Option Int) (l:List Aj) (g:∀y∈l,∀x,F y.Mono x=some (Cr y.Mono x)) {x:Aj} {j:Nat} (hx:l[j]? = some x) (i:l.length<4611686018427387904) (c b:Option (S⊕E)) :
  (bif decide ((j:Int)>0) then ((Af l (Ad ((j:Int)-1))).bind fun f=>(F f.Mono x.Mono).bind fun v28=>bif decide (v28>=0) then c else b) else b)=bif M1 l x j then b else c:=by
 have hj:=Em hx
 unfold M1
 by_cases h:j=0
 .subst h; rfl
 .rw [Ak (by omega)]
  have e:Ad ((j:Int)-1)=((j-1:Nat):Int):=by rw [Ad,Bt] <;> omega
  have hy:l[j-1]? = some l[j-1]:=Cb (by omega)
  rw [e,Ch rfl hy,hy]
  have h0:(j==0)=false:=by simpa using h
  simp only [cond_true,Ac,h0,Bool.false_or,g _ (List.getElem_mem (by omega:j-1<l.length))]
  by_cases hc:Cr l[j-1].Mono x.Mono<0
  .rw [Al (by omega),Ak hc]; rfl
  .rw [Ak (by omega),Al hc]; rfl
theorem Xk (s:Bool) (n:Nat):(D4 s n==0)=(n==0):=by
 unfold D4
 by_cases h:n=0
 .rw [if_pos h]; subst h; rfl
 .rw [if_neg h]
  have:(n==0)=false:=by simpa using h
  rw [this]; cases s <;> rfl
theorem Aid {data:List As} {vars:List Ah} {res:Ah} (hc:Mz data vars res) {b1:List (ByteArray×Int)} (b2:List (ByteArray×List Dv)) (Y:Eu data vars res b1) (p:List Aj) (X:∀t∈p,TSz t) :
  ∃D,Sh p b1 b2 data vars res.Kind res.Num res.Args=some (G8 data vars res p,D)/\Eu data vars res D:=by
 unfold Sh G8
 by_cases B:p.length<=1000
 .rw [Al (by omega),Ak B,Bool.true_and]
  simp only [cond_false]
  obtain ⟨r,Z,V⟩:=Tv (M:=List (ByteArray×Int)) (R:=Bool×List (ByteArray×Int)) p (fun q=>M2 data vars res p q.1 q.2) (fun j o=>((j:Int),o)) (Eu data vars res)
   (fun r=>Eu data vars res r.2/\r.1=true) (fun r=>Eu data vars res r.2/\r.1=false) b1
   (s0:=((0:Int),b1))
   (step:=(fun (b,g)=>
    bif (decide (b<(p.length:Int))) then (
    (Af p b).bind fun v12=>
    (Iu v12.Coef).bind fun f=>
    (show Option Bool from
    bif (f.Neg==v12.Coef.Neg) then (
    (Ki f.Num v12.Coef.Num).bind fun k=>
    bif k then (
    (Ki f.Den v12.Coef.Den).bind fun i=>
    some i)
    else some false)
    else some false).bind fun I=>
    bif (!I) then some (.inr (.inl (false,g)))
    else (
    (Ic f).bind fun G=>
    bif (G==(0:Int)) then some (.inr (.inl (false,g)))
    else (
    (P5 v12.Mono g b2 data vars res.Kind res.Num res.Args).bind fun v20=>
    bif (!v20.1) then some (.inr (.inl (false,v20.2)))
    else (
    bif (decide (b>(0:Int))) then (
    (Af p (Ad (b-1))).bind fun v21=>
    (Jq v21.Mono v12.Mono).bind fun E=>
    bif (decide (E>=(0:Int))) then some (.inr (.inl (false,v20.2)))
    else some (.inl ((Ad (b+1)),v20.2)))
    else some (.inl ((Ad (b+1)),v20.2))))))
    else some (.inr (.inr g)):Int×List (ByteArray×Int)->Option ((Int×List (ByteArray×Int))⊕((Bool×List (ByteArray×Int))⊕List (ByteArray×Int)))))
   (J:=(fun z=>match z with
    | .inl (N,L)=>some (N,L)
    | .inr S=>some (true,S)))
   rfl Y (by omega) (by
    intro j t o A hx _ h1 h2 h3
    have c:=X t (B3 hx)
    obtain ⟨D,d1,d2⟩:=Aq9 b2 hc A t.Mono c.mo
    have u:∀l:List Int,l=(Bv (sv t.Coef) (nv t.Coef) (dv t.Coef)).Num\/l=(Bv (sv t.Coef) (nv t.Coef) (dv t.Coef)).Den->l.length<1099511627776:=by
     intro l B
     have q:=Qu (sv t.Coef) (nv t.Coef) (dv t.Coef) 1048577 c.co.nv c.co.dv (by omega)
     have:=q.nl
     have:=q.dl
     rcases B with rfl | rfl <;> omega
    have s:(bif ((Bv (sv t.Coef) (nv t.Coef) (dv t.Coef)).Neg==t.Coef.Neg) then ((Ki (Bv (sv t.Coef) (nv t.Coef) (dv t.Coef)).Num t.Coef.Num).bind fun k=>bif k then ((Ki (Bv (sv t.Coef) (nv t.Coef) (dv t.Coef)).Den t.Coef.Den).bind fun i=>some i) else some false) else some false)=some (Kt (Bv (sv t.Coef) (nv t.Coef) (dv t.Coef)) t.Coef):=by
     unfold Kt
     rw [Aib _ _ (u _ (.inl rfl)),Aib _ _ (u _ (.inr rfl))]
     cases ((Bv (sv t.Coef) (nv t.Coef) (dv t.Coef)).Neg==t.Coef.Neg) <;> cases decide ((Bv (sv t.Coef) (nv t.Coef) (dv t.Coef)).Num=t.Coef.Num) <;> rfl
    simp only [h1,h2,h3,cond_true,Ac,Aaw t.Coef 1048576 c.co (by omega),s,Aic Jq p (fun y hy x=>Abs y.Mono x (X y hy).mo) hx (by omega),M2,O3]
    cases U:Kt (Bv (sv t.Coef) (nv t.Coef) (dv t.Coef)) t.Coef with
    | false=>exact ⟨(fun h=>by cases h),fun _=>⟨_,rfl,_,rfl,A,rfl⟩⟩
    | true=>
     have e:=(Xj _ _).1 U
     simp only [bnt,cond_false,Bool.true_and]
     rw [e,Aay t.Coef 1048576 c.co (by omega),Ac,Xk]
     cases (nv t.Coef==0) with
     | true=>exact ⟨(fun h=>by cases h),fun _=>⟨_,rfl,_,rfl,A,rfl⟩⟩
     | false=>
      simp only [cond_false,d1,Ac,Bool.not_false,Bool.true_and]
      cases Gp data vars res t.Mono with
      | false=>exact ⟨(fun h=>by cases h),fun _=>⟨_,rfl,_,rfl,d2,rfl⟩⟩
      | true=>
       cases M1 p t j with
       | true=>exact ⟨fun _=>⟨D,rfl,d2⟩,fun h=>by cases h⟩
       | false=>exact ⟨(fun h=>by cases h),fun _=>⟨_,rfl,_,rfl,d2,rfl⟩⟩) (by
    intro o A h1 _
    exact ⟨.inr o,by simp only [h1]; rfl,_,rfl,A,rfl⟩)
  refine ⟨r.2,?_,?_⟩
  .have e:some r=some (p.zipIdx.all (fun q=>M2 data vars res p q.1 q.2),r.2):=by
    rcases V with ⟨h1,h2,h3⟩ | ⟨h1,h2,h3⟩
    .rw [h1,<-h3]
    .rw [h1,<-h3]
   rw [<-e]
   exact Z
  .rcases V with ⟨h1,h2,h3⟩ | ⟨h1,h2,h3⟩ <;> exact h2
 .rw [Ak (by omega),Al B]
  exact ⟨b1,rfl,Y⟩
theorem Are {x:B0} (hc:Mz x.Data x.Vars x.Res) (p:List Aj) (c:∀t∈p,TSz t):R5 x p=some (G8 x.Data x.Vars x.Res p):=by
 unfold R5 G8
 by_cases f:p.length<=1000
 .rw [Al (by omega),Ak f,Bool.true_and]
  simp only [cond_false]
  refine (Oq p (fun q=>M2 x.Data x.Vars x.Res p q.1 q.2) (fun j=>(j:Int)) rfl (by omega) (rt:=true) (rf:=false) ?_ ?_).trans (by rw [Lb])
  .intro j t hx _ h1 h2 h3
   have b:=c t (B3 hx)
   obtain ⟨v,g,v2⟩:=Ara hc t.Mono b.mo
   simp only [h1,h2,h3,cond_true,Ac,g,v2,Aa4 t.Coef 1048576 b.co (by omega),Xk,Qx t.Coef 1048576 b.co (by omega),Arc t.Coef _ (by have:=b.co.nl; omega) (by have:=b.co.dl; omega),
    Aic Nt p (fun y hy x=>Ah1 y.Mono x (c y hy).mo) hx (by omega),M2,Ard]
   cases Gp x.Data x.Vars x.Res t.Mono with
   | false=>exact ⟨(fun h=>by simp at h),fun _=>⟨.inl false,rfl,rfl⟩⟩
   | true=>
    cases (nv t.Coef==0) with
    | true=>exact ⟨(fun h=>by simp at h),fun _=>⟨.inl false,rfl,rfl⟩⟩
    | false=>
     cases Kt t.Coef (Bv (sv t.Coef) (nv t.Coef) (dv t.Coef)) with
     | false=>exact ⟨(fun h=>by simp at h),fun _=>⟨.inl false,rfl,rfl⟩⟩
     | true=>
      cases M1 p t j with
      | true=>exact ⟨fun _=>rfl,fun h=>by cases h⟩
      | false=>exact ⟨(fun h=>by cases h),fun _=>⟨.inl false,rfl,rfl⟩⟩
  .intro h _; exact ⟨.inr (),by simp only [h]; rfl,rfl⟩
 .rw [Ak (by omega),Al f]; rfl
structure CSz (x:B0):Prop where
 ds:DSz x.Data
 nv:x.Vars.length<=1048576
 vs:∀t∈x.Vars,A8 t<=1048576
 rs:A8 x.Res<=1048576
def Gq (data:List As) (t:Ah):Bool:=Ef data 0 t&&decide (A8 t<=200)
def Fz (x:B0):Prop:=x.Vars.length<=3000/\G5 x.Data/\Gq x.Data x.Res=true/\x.Vars.all (Gq x.Data)=true
theorem Fz.ctx {x:B0} (h:Fz x) (f:CSz x):Mz x.Data x.Vars x.Res:=by
 refine ⟨h.2.1,f.ds.sz.short,fun v t ht=>?_,h.1⟩
 have b:∀t,Gq x.Data t=true->A8 t<=200:=fun t h=>by
  simp only [Gq,C9,decide_eq_true_eq] at h; exact h.2
 unfold tyX at ht
 by_cases c:v = -1
 .rw [if_pos c] at ht; cases ht; exact b _ h.2.2.1
 .rw [if_neg c] at ht
  exact b t (List.all_eq_true.1 h.2.2.2 t (E6 ht).2.2.2)
theorem Arf (x:B0) (c:CSz x):∃b,R4 x=some b/\(b=true↔Fz x):=by
 obtain ⟨b,b1,b2⟩:=Ap6 c.ds
 have l:=c.nv
 have k:=c.rs
 unfold R4 Fz
 rw [b1,Aa5 x.Data x.Res 0 (by omega)]
 simp only [Ac]
 cases b with
 | false=>exact ⟨false,rfl,by simp; intro _ h; have:=b2.2 h; cases this⟩
 | true=>
  have i:=b2.1 rfl
  simp only [bnt,cond_false]
  by_cases g:x.Vars.length<=3000
  .rw [Al (by omega)]
   simp only [cond_false,Ac]
   cases f:(Ef x.Data 0 x.Res&&decide (A8 x.Res<=200)) with
   | false=>exact ⟨false,rfl,by simp [Gq,f]⟩
   | true=>
    refine ⟨x.Vars.all (Gq x.Data),?_,by rw [show Gq x.Data x.Res=true from f]; simp [g,i]⟩
    simp only [bnt,cond_false]
    refine (Ms x.Vars (Gq x.Data) (fun j=>(j:Int)) rfl (by omega) (rt:=true) (rf:=false) ?_ ?_).trans (by rw [Lb])
    .intro j t ht h1 h2 h3
     have:=c.vs t (B3 ht)
     simp only [h1,h2,h3,cond_true,Ac,Aa5 x.Data t 0 (by omega)]
     rw [show (Ef x.Data 0 t&&decide (A8 t<=200))=Gq x.Data t from rfl]
     cases Gq x.Data t with
     | true=>exact ⟨fun _=>rfl,fun h=>by cases h⟩
     | false=>exact ⟨(fun h=>by cases h),fun _=>⟨.inl false,rfl,rfl⟩⟩
    .intro h; exact ⟨.inr (),by simp only [h]; rfl,rfl⟩
  .rw [Ak (by omega)]
   exact ⟨false,rfl,by simp [g]⟩
theorem Aie (x:B0) (c:CSz x) (p:List Aj) (hp:∀t∈p,TSz t):∃b,Po x p=some b/\(b=true↔Fz x/\G8 x.Data x.Vars x.Res p=true):=by
 obtain ⟨b,b1,b2⟩:=Arf x c
 unfold Po
 rw [b1,Ac]
 cases b with
 | false=>exact ⟨false,rfl,by simp; intro h; have:=b2.2 h; cases this⟩
 | true=>
  have f:=b2.1 rfl
  rw [Are (f.ctx c) p hp]
  exact ⟨_,rfl,by simp [f]⟩
theorem Arg (x:B0) (g:CSz x) (p:List Aj) (hp:∀t∈p,TSz t):∃b,Kd x p=some b/\(b=true↔Fz x/\G8 x.Data x.Vars x.Res p=true):=by
 obtain ⟨b,b1,b2⟩:=Aha g.ds
 have I:=g.nv
 have G:=g.rs
 unfold Kd Ke
 rw [b1,T3 x.Data x.Res 0 (by omega)]
 by_cases y:x.Vars.length<=3000
 .rw [Al (by omega)]
  simp only [cond_false,Ac]
  cases b with
  | false=>exact ⟨false,rfl,by simp; intro h; have:=b2.2 h.2.1; cases this⟩
  | true=>
   have E:=b2.1 rfl
   simp only [bnt,cond_false]
   cases s:(Ef x.Data 0 x.Res&&decide (A8 x.Res<=200)) with
   | false=>exact ⟨false,rfl,by simp; intro h; have:=h.2.2.1; rw [show Gq x.Data x.Res=false from s] at this; cases this⟩
   | true=>
    simp only [bnt,cond_false,Ac]
    rw [Option.bind_assoc]
    refine Eb (fun i=>∃j:Nat,i=j/\j<=x.Vars.length/\(x.Vars.take j).all (Gq x.Data)=true) (fun i=>x.Vars.length-i.toNat)
     (fun z=>match z with | .inl r=>r=false/\¬Fz x | .inr _=>Fz x) ⟨0,rfl,by omega,by simp⟩ ?_ ?_
    .rintro i ⟨j,rfl,hj,c⟩
     rcases Nat.lt_or_ge j x.Vars.length with h | h
     .have ht:x.Vars[j]? = some x.Vars[j]:=Cb h
      generalize x.Vars[j]=t at ht
      have:=g.vs t (B3 ht)
      simp only [Ak (by omega:(j:Int)<(x.Vars.length:Int)),cond_true,Ch rfl ht,Ac,T3 x.Data t 0 (by omega),Dk h (by omega)]
      rw [show (Ef x.Data 0 t&&decide (A8 t<=200))=Gq x.Data t from rfl]
      cases A:Gq x.Data t with
      | true=>exact .inl ⟨_,rfl,⟨j+1,rfl,by omega,by rw [C5 ht,List.all_append,c]; simp [A]⟩,by simp; omega⟩
      | false=>
       refine .inr ⟨.inl false,rfl,rfl,fun L=>?_⟩
       have:=List.all_eq_true.1 L.2.2.2 t (B3 ht)
       rw [A] at this; cases this
     .have:j=x.Vars.length:=by omega
      subst this
      rw [List.take_length] at c
      exact .inr ⟨.inr (),by simp,y,E,s,c⟩
    .rintro (r | u) f
     .obtain ⟨rfl,f⟩:=f
      exact ⟨false,rfl,by simp [f]⟩
     .have B:Fz x:=f
      have J:Eu x.Data x.Vars x.Res []:=fun q h=>by cases h
      obtain ⟨D,l,M⟩:=Aid (B.ctx g) [] J p hp
      cases k:G8 x.Data x.Vars x.Res p with
      | true=>
       rw [k] at l
       refine ⟨true,?_,by simp [B]⟩
       simp only
       rw [Option.bind_assoc]
       refine Kn 1 (fun j=>match j with | 0=>((0:Int),[]) | _=>((1:Int),D)) rfl ?_ ⟨.inr D,rfl,rfl⟩
       intro j hj
       match j,hj with
       | 0,_=>
        show (bif decide ((0:Int)<1) then _ else _)=_
        simp only [Ak (by omega:(0:Int)<1),cond_true]
        rw [show Af [p] 0=some p from rfl,Ac,l]; rfl
      | false=>
       rw [k] at l
       refine ⟨false,?_,by simp⟩
       simp only
       rw [Option.bind_assoc]
       refine Kn 0 (fun _=>((0:Int),[])) rfl (fun j hj=>by omega) ⟨.inl false,?_,rfl⟩
       show (bif decide ((0:Int)<1) then _ else _)=_
       simp only [Ak (by omega:(0:Int)<1),cond_true]
       rw [show Af [p] 0=some p from rfl,Ac,l]; rfl
 .rw [Ak (by omega)]
  exact ⟨false,rfl,by simp; intro h; exact absurd h.1 y⟩
end Go.Ab
namespace Go.Ab
open Go
end Go.Ab
namespace Go.Ab
open Go
end Go.Ab
namespace Go.Ab
open Go
end Go.Ab
namespace Go.Ab
open Go
end Go.Ab
namespace Go.Ab
open Go
theorem Arh {data:List As} {vars:List Ah} {res:Ah} {m:Bi} (h:Gp data vars res m=true):(∀f∈m.Factors,∃t,tyX vars res f.Var=some t)/\m.Factors.length<=6:=by
 unfold Gp at h
 simp only [C9,decide_eq_true_eq] at h
 obtain ⟨⟨h1,h2⟩,h3⟩:=h
 have b:∀f∈m.Factors,1<=D9 data vars res f:=by
  intro f b
  obtain ⟨j,hj⟩:=List.getElem?_of_mem b
  have:=G0 h1 hj
  simp only [Lm,C9,decide_eq_true_eq] at this
  exact this.1
 have ha:0<=D5 m.Atoms:=(Ub m.Atoms (fun a ha=>by
  obtain ⟨j,hj⟩:=List.getElem?_of_mem ha
  have:=G0 h2 hj
  simp only [Ja,C9,decide_eq_true_eq] at this
  omega)).1
 refine ⟨fun f c=>?_,?_⟩
 .have:=b f c
  unfold D9 at this
  cases ht:tyX vars res f.Var with
  | none=>rw [ht] at this; have:(1:Int)<=-1:=this; omega
  | some t=>exact ⟨t,rfl⟩
 .have key:∀l:List Cw,(∀f∈l,1<=D9 data vars res f)->(l.length:Int)<=Dc data vars res l:=by
   intro l
   induction l with
   | nil=>intro _; simp [Dc]
   | cons f fs ih=>
    intro i
    have h1:=i f (by simp)
    have h2:=ih (fun g k=>i g (by simp [k]))
    unfold Dc at *
    simp only [List.map_cons,List.sum_cons,List.length_cons]; omega
  have:=key m.Factors b
  omega
theorem Ari (a b:A3) (j k:Nat) (ha:RB j a) (hb:RB k b) (hj:j<34359738000) (hk:k<34359738000):∃c,Np a b=some c/\R3 a b=some c/\RB (j+k+2) c:=by
 refine ⟨_,Agl a b j k ha hb (by omega) (by omega),Ao1 a b j k ha hb (by omega) (by omega),?_⟩
 have h1:=ha.nv
 have h2:=ha.dv
 have h3:=hb.nv
 have h:=hb.dv
 have g:=Gl (nv a) (nv b)
 have f:=Gl (dv a) (dv b)
 exact Qu _ _ _ _ (by omega) (by omega) (by omega)
theorem Arj (a b:A3) (j k:Nat) (ha:RB j a) (hb:RB k b) (hj:j<34359738000) (hk:k<34359738000):∃c,Nq a b=some c/\Nr a b=some c/\RB (j+k+3) c:=by
 refine ⟨_,Agm a b j k ha hb (by omega) (by omega),Agr a b j k ha hb (by omega) (by omega),?_⟩
 have h1:=ha.nv
 have h2:=ha.dv
 have h3:=hb.nv
 have s:=hb.dv
 have q:=Gl (nv a) (dv b)
 have l:=Gl (nv b) (dv a)
 have i:=Gl (dv a) (dv b)
 have f:Hq (sv a) (nv a) (dv a) (sv b) (nv b) (dv b)<=nv a*dv b+nv b*dv a:=by
  unfold Hq
  split
  .omega
  .split <;> omega
 have h:=Gz f
 have g:=Aao (nv a*dv b) (nv b*dv a)
 exact Qu _ _ _ _ (by omega) (by omega) (by omega)
end Go.Ab
namespace Go.Ab
open Go
end Go.Ab
namespace Go.Ab
open Go
end Go.Ab
namespace Go.Ab
open Go
theorem Ark:∀(k:Nat) (v:A6) (a:Int),Co v<=k->k<1099511627776->∃r,Nx k v a=some r/\True:=by
 intro k
 induction k with
 | zero=>intro v a h _; have:=Ez v; omega
 | succ k ih=>
  intro v a h hk
  have f:=Ez v
  have i:=Kr v.Kids
  simp only [Nx]
  refine Eb (fun s=>∃j:Nat,s.2=j/\j<=v.Kids.length) (fun s=>v.Kids.length-s.2.toNat) (fun _=>True) ⟨0,rfl,by omega⟩ ?_ ?_
  .rintro ⟨c,_⟩ ⟨j,rfl,hj⟩
   rcases Nat.lt_or_ge j v.Kids.length with h' | h'
   .simp only [Ak (by omega:(j:Int)<(v.Kids.length:Int)),cond_true,Cq rfl h',Ac]
    cases decide (c>a) with
    | true=>exact .inr ⟨_,rfl,trivial⟩
    | false=>
     have g:=Jy (List.getElem_mem h')
     obtain ⟨r,b,_⟩:=ih v.Kids[j] (Ad (a-c)) (by omega) (by omega)
     simp only [b,cond_false,Ac,Dk h' (by omega)]
     exact .inl ⟨_,rfl,⟨j+1,rfl,by omega⟩,by simp; omega⟩
   .simp only [Al (by omega:¬(j:Int)<(v.Kids.length:Int)),cond_false]
    exact .inr ⟨_,rfl,trivial⟩
  .rintro (r | r) _
   .exact ⟨_,rfl,trivial⟩
   .exact ⟨_,rfl,trivial⟩
theorem Arl (m:Bi) (c:MSz m):∃b,Sa m=some b/\True:=by
 have h1:=c.nf
 have h2:=c.na
 unfold Sa
 cases decide ((m.Factors.length:Int)>4) with
 | true=>exact ⟨_,rfl,trivial⟩
 | false=>
  cases decide ((m.Atoms.length:Int)>4) with
  | true=>exact ⟨_,rfl,trivial⟩
  | false=>
   simp only [cond_false,Ac]
   refine Eb (fun s=>∃j:Nat,s=j/\j<=m.Factors.length) (fun s=>m.Factors.length-s.toNat) (fun _=>True) ⟨0,rfl,by omega⟩ ?_ ?_
   .rintro _ ⟨j,rfl,hj⟩
    rcases Nat.lt_or_ge j m.Factors.length with h' | h'
    .have c:=c.fi _ (List.getElem_mem h')
     obtain ⟨r,f,_⟩:=Ark 4000000 m.Factors[j].Index 13 (by omega) (by omega)
     simp only [Ak (by omega:(j:Int)<(m.Factors.length:Int)),cond_true,Cq rfl h',Ac,f,Dk h' (by omega)]
     cases decide (r>12) with
     | true=>exact .inr ⟨_,rfl,trivial⟩
     | false=>exact .inl ⟨_,rfl,⟨j+1,rfl,by omega⟩,by simp; omega⟩
    .simp only [Al (by omega:¬(j:Int)<(m.Factors.length:Int)),cond_false]
     exact .inr ⟨_,rfl,trivial⟩
   .rintro (r | r) _
    .exact ⟨_,rfl,trivial⟩
    .refine Eb (fun s=>∃j:Nat,s=j/\j<=m.Atoms.length) (fun s=>m.Atoms.length-s.toNat) (fun _=>True) ⟨0,rfl,by omega⟩ ?_ ?_
     .rintro _ ⟨j,rfl,hj⟩
      rcases Nat.lt_or_ge j m.Atoms.length with h' | h'
      .simp only [Ak (by omega:(j:Int)<(m.Atoms.length:Int)),cond_true,Cq rfl h',Ac,Dk h' (by omega)]
       cases decide ((m.Atoms[j].Lin.Terms.length:Int)>4) with
       | true=>exact .inr ⟨_,rfl,trivial⟩
       | false=>exact .inl ⟨_,rfl,⟨j+1,rfl,by omega⟩,by simp; omega⟩
      .simp only [Al (by omega:¬(j:Int)<(m.Atoms.length:Int)),cond_false]
       exact .inr ⟨_,rfl,trivial⟩
     .rintro (r | r) _
      .exact ⟨_,rfl,trivial⟩
      .exact ⟨_,rfl,trivial⟩
theorem Arm (a:A3):∃b,R9 a=some b:=by
 unfold R9
 cases decide ((a.Num.length:Int)<=2) <;> exact ⟨_,rfl⟩
theorem Aif (p:List Aj) (n:Int) (g:p.length<=1048576) (h:∀t∈p,TSz t):∃b,L2 p n=some b/\True:=by
 unfold L2
 cases decide ((p.length:Int)>n) with
 | true=>exact ⟨_,rfl,trivial⟩
 | false=>
  refine Eb (fun s=>∃j:Nat,s=j/\j<=p.length) (fun s=>p.length-s.toNat) (fun _=>True) ⟨0,rfl,by omega⟩ ?_ ?_
  .rintro _ ⟨j,rfl,hj⟩
   rcases Nat.lt_or_ge j p.length with h' | h'
   .obtain ⟨c,hc⟩:=Arm p[j].Coef
    obtain ⟨m,f,_⟩:=Arl p[j].Mono (h _ (List.getElem_mem h')).mo
    simp only [Ak (by omega:(j:Int)<(p.length:Int)),cond_true,Cq rfl h',Ac,hc,f,Dk h' (by omega)]
    cases c with
    | false=>exact .inr ⟨_,rfl,trivial⟩
    | true=>
     cases m with
     | false=>exact .inr ⟨_,rfl,trivial⟩
     | true=>exact .inl ⟨_,rfl,⟨j+1,rfl,by omega⟩,by simp; omega⟩
   .simp only [Al (by omega:¬(j:Int)<(p.length:Int)),cond_false]
    exact .inr ⟨_,rfl,trivial⟩
  .rintro (r | r) _
   .exact ⟨_,rfl,trivial⟩
   .exact ⟨_,rfl,trivial⟩
theorem Arn (x:B0) (p q:List Aj) (g:p.length<=1048576) (hp:∀t∈p,TSz t) (f:q.length<=1048576) (hq:∀t∈q,TSz t):∃b,Nn x p q=some b:=by
 obtain ⟨b,hb⟩:∃b,R0 x=some b:=by
  unfold R0
  cases decide ((x.Data.length:Int)<=2) <;> exact ⟨_,rfl⟩
 obtain ⟨c,hc,_⟩:=Aif p 6 g hp
 obtain ⟨d,hd,_⟩:=Aif q 6 f hq
 unfold Nn
 rw [hb]
 cases b with
 | false=>exact ⟨_,rfl⟩
 | true=>
  simp only [Ac,cond_true,hc]
  cases c with
  | false=>exact ⟨_,rfl⟩
  | true=>simp only [cond_true,hd]; exact ⟨_,rfl⟩
theorem Aro:Vn=some true:=by kernel_rfl
end Go.Ab
namespace Go.Ab
open Go
def sg (s:Bool) (n:Nat):Int:=if s then -(n:Int) else n
def rq (a:A3):Rat:=mkRat (sg (sv a) (nv a)) (dv a)
def J2 (a:A3):Prop:=a=Bv (sv a) (nv a) (dv a)
theorem M3 (s:Bool) (n d:Nat) (hd:d≠0):rq (Bv s n d)=mkRat (sg s n) d:=by
 obtain ⟨g,f,h1,h2,h3,i⟩:=Ags s n d hd
 unfold rq
 rw [Rat.mkRat_eq_iff (De _) hd]
 generalize nv (Bv s n d)=b at *
 generalize dv (Bv s n d)=j at *
 generalize sv (Bv s n d)=s' at *
 by_cases c:n=0
 .have:b=0:=by
   rcases Nat.eq_zero_or_pos b with h | h
   .exact h
   .have:=Nat.mul_pos (Nat.pos_of_ne_zero f) h; omega
  subst this; subst c
  cases s <;> cases s' <;> simp [sg]
 .rw [h3 c,h1,h2]
  cases s <;> simp only [sg,if_true,if_false,Bool.false_eq_true,Int.natCast_mul] <;> grind
theorem Xl (s:Bool) (n d:Nat) (hd:d≠0):J2 (Bv s n d):=by
 obtain ⟨g,b,h1,h2,h3,i⟩:=Ags s n d hd
 unfold J2
 generalize hc:Bv s n d=c at h1 h2 h3 i
 have e:=Ty s (nv c) (dv c) g b
 rw [<-h1,<-h2,hc] at e
 by_cases f:n=0
 .have h0:nv c=0:=by
   rcases Nat.eq_zero_or_pos (nv c) with h | h
   .exact h
   .have:=Nat.mul_pos (Nat.pos_of_ne_zero b) h; omega
  rw [h0,Tx] at e ⊢
  exact e
 .rw [h3 f]; exact e
theorem Xm (n m:Int) {d e:Nat} (hd:d≠0) (g:e≠0):mkRat n d<mkRat m e↔n*e<m*d:=by
 have c:(0:Rat)<(d:Rat):=Rat.natCast_pos.2 (by omega)
 have b:(0:Rat)<(e:Rat):=Rat.natCast_pos.2 (by omega)
 rw [Rat.mkRat_eq_div,Rat.mkRat_eq_div,Rat.div_lt_iff c]
 rw [<-Rat.mul_lt_mul_right b]
 have f:(m:Rat) / (e:Rat)*(d:Rat)*(e:Rat)=(m:Rat)*(d:Rat):=by grind
 rw [f]
 have a1:(n:Rat)*(e:Rat)=((n*(e:Int):Int):Rat):=by rw [Rat.intCast_mul]; rfl
 have a2:(m:Rat)*(d:Rat)=((m*(d:Int):Int):Rat):=by rw [Rat.intCast_mul]; rfl
 rw [a1,a2,Rat.intCast_lt_intCast]
theorem Aig {a b:A3} (ha:J2 a) (hb:J2 b) (h:rq a=rq b):a=b:=by
 unfold rq at h
 rw [Rat.mkRat_eq_iff (De _) (De _)] at h
 rw [ha,hb]
 have q:=De a
 have l:=De b
 generalize nv a=n at *
 generalize dv a=d at *
 generalize sv a=s at *
 generalize nv b=m at *
 generalize dv b=e at *
 generalize sv b=t at *
 have f:n*e=m*d/\(n≠0->s=t):=by
  have c:n≠0->0<n*e:=fun h=>Nat.mul_pos (by omega) (by omega)
  have g:m≠0->0<m*d:=fun h=>Nat.mul_pos (by omega) (by omega)
  have x:((n*e:Nat):Int)=(n:Int)*e:=by simp
  have u:((m*d:Nat):Int)=(m:Int)*d:=by simp
  cases s <;> cases t <;> simp only [sg,if_true,if_false,Bool.false_eq_true,Int.neg_mul] at h
  .exact ⟨by omega,fun _=>rfl⟩
  .have:n*e=0/\m*d=0:=by omega
   refine ⟨by omega,fun i=>?_⟩
   have:=c i; omega
  .have:n*e=0/\m*d=0:=by omega
   refine ⟨by omega,fun i=>?_⟩
   have:=c i; omega
  .exact ⟨by omega,fun _=>rfl⟩
 have k:=Ty s n d e l
 have j:=Ty t m e d q
 rw [<-k,<-j,Nat.mul_comm e n,f.1,Nat.mul_comm e d,Nat.mul_comm m d]
 refine Aol fun h0=>f.2 ?_
 rintro rfl
 rw [Nat.zero_mul] at f
 have:=f.1
 rw [Nat.mul_comm d m] at h0
 omega
theorem Arp (j:Bool) (c g:Nat) (i:Bool) (b f:Nat):sg (Ko j c g i b f) (Hq j c g i b f)=sg j c*f+sg i b*g:=by
 unfold Ko Hq sg
 have l:((c*f:Nat):Int)=(c:Int)*f:=by simp
 have k:((b*g:Nat):Int)=(b:Int)*g:=by simp
 cases j <;> cases i <;> simp only [if_true,if_false,Bool.false_eq_true,Bool.true_eq_false,Int.neg_mul]
 .omega
 .by_cases h:b*g<=c*f
  .simp only [if_pos h]; simp only [if_false,Bool.false_eq_true]; omega
  .simp only [if_neg h]; simp only [if_true]; omega
 .by_cases h:b*g<=c*f
  .simp only [if_pos h]; simp only [if_true]; omega
  .simp only [if_neg h]; simp only [if_false,Bool.false_eq_true]; omega
 .omega
theorem Arq {a b:A3} {j k:Nat} (ha:RB j a) (hb:RB k b) (hj:j<34359738000) (hk:k<34359738000):∃c,Nq a b=some c/\Nr a b=some c/\RB (j+k+3) c/\J2 c/\rq c=rq a+rq b:=by
 obtain ⟨c,h1,h2,h3⟩:=Arj a b j k ha hb hj hk
 have e:=Agm a b j k ha hb (by omega) (by omega)
 rw [h1] at e
 have e:=Option.some.inj e
 have hd:dv a*dv b≠0:=Nat.mul_ne_zero (De a) (De b)
 refine ⟨c,h1,h2,h3,?_,?_⟩
 .rw [e]; exact Xl _ _ _ hd
 .rw [e,M3 _ _ _ hd,Arp,rq,rq,Rat.mkRat_add_mkRat _ _ (De a) (De b)]
theorem Arr (s t:Bool) (n m:Nat):sg (s != t) (n*m)=sg s n*sg t m:=by
 unfold sg
 cases s <;> cases t <;> simp [Int.neg_mul,Int.mul_neg]
theorem Ars {a b:A3} {j k:Nat} (ha:RB j a) (hb:RB k b) (hj:j<34359738000) (hk:k<34359738000):∃c,Np a b=some c/\R3 a b=some c/\RB (j+k+2) c/\J2 c/\rq c=rq a*rq b:=by
 obtain ⟨c,h1,h2,h3⟩:=Ari a b j k ha hb hj hk
 have e:=Agl a b j k ha hb (by omega) (by omega)
 rw [h1] at e
 have e:=Option.some.inj e
 have hd:dv a*dv b≠0:=Nat.mul_ne_zero (De a) (De b)
 refine ⟨c,h1,h2,h3,?_,?_⟩
 .rw [e]; exact Xl _ _ _ hd
 .rw [e,M3 _ _ _ hd,Arr,rq,rq,Rat.mkRat_mul_mkRat]
def Ku (x:Rat):Int:=if x<0 then -1 else if 0<x then 1 else 0
def M4 (x y:Rat):Int:=if x<y then -1 else if y<x then 1 else 0
theorem Abx (a:A3):rq a<0↔D4 (sv a) (nv a) = -1:=by
 have e:(0:Rat)=mkRat 0 1:=by simp
 rw [rq,e,Xm _ _ (De a) (by decide)]
 unfold sg D4
 split <;> split <;> simp <;> omega
theorem Aby (a:A3):0<rq a↔D4 (sv a) (nv a)=1:=by
 have e:(0:Rat)=mkRat 0 1:=by simp
 rw [rq,e,Xm _ _ (by decide) (De a)]
 unfold sg D4
 split <;> split <;> simp <;> omega
theorem Abz (a:A3):D4 (sv a) (nv a)=Ku (rq a):=by
 have h1:=Abx a
 have h2:=Aby a
 have h3:D4 (sv a) (nv a) = -1\/D4 (sv a) (nv a)=0\/D4 (sv a) (nv a)=1:=by unfold D4; split <;> (try split) <;> simp
 unfold Ku
 split
 .rename_i h; exact h1.1 h
 .rename_i h
  split
  .rename_i h'; exact h2.1 h'
  .rename_i h'
   rcases h3 with h3 | h3 | h3
   .exact (h (h1.2 h3)).elim
   .exact h3
   .exact (h' (h2.2 h3)).elim
theorem Aih {a:A3} {k:Nat} (h:RB k a) (hk:k<34359738000):Ic a=some (Ku (rq a))/\Ns a=some (Ku (rq a)):=by
 rw [<-Abz]
 exact ⟨Aay a k h (by omega),Aa4 a k h (by omega)⟩
theorem Aii {a b:A3} {j k:Nat} (ha:RB j a) (hb:RB k b) (hj:j<34359738000) (hk:k<34359738000):Pt a b=some (M4 (rq a) (rq b)):=by
 unfold Pt
 have h1:=ha.nv
 have h2:=ha.dv
 have h3:=hb.nv
 have S:=hb.dv
 rw [Mv a j ha (by omega),Ac,Mv b k hb (by omega),Ac,Aax,Ac,Aax,Ac]
 dsimp only
 have l:rq a<rq b↔sg (sv a) (nv a)*dv b<sg (sv b) (nv b)*dv a:=Xm _ _ (De a) (De b)
 have i:rq b<rq a↔sg (sv b) (nv b)*dv a<sg (sv a) (nv a)*dv b:=Xm _ _ (De b) (De a)
 have J:0<dv a:=Nat.pos_of_ne_zero (De a)
 have I:0<dv b:=Nat.pos_of_ne_zero (De b)
 have s:=Abz a
 have q:=Abz b
 have A:=Abx a
 have y:=Aby a
 have x:=Abx b
 have u:=Aby b
 by_cases f:D4 (sv a) (nv a)<D4 (sv b) (nv b)
 .rw [Ak f,cond_true]
  have:rq a<rq b:=by
   rw [s,q] at f
   unfold Ku at f
   grind
  unfold M4; rw [if_pos this]
 .rw [Al f,cond_false]
  by_cases hgt:D4 (sv a) (nv a)>D4 (sv b) (nv b)
  .rw [Ak hgt,cond_true]
   have E:rq b<rq a:=by
    rw [s,q] at hgt
    unfold Ku at hgt
    grind
   have D:¬rq a<rq b:=by grind
   unfold M4; rw [if_neg D,if_pos E]
  .rw [Al hgt,cond_false]
   have heq:D4 (sv a) (nv a)=D4 (sv b) (nv b):=by omega
   have R:=Gl (nv a) (dv b)
   have N:=Gl (nv b) (dv a)
   rw [Ou _ _ (by omega) (by omega),Ac,Ou _ _ (by omega) (by omega),Ac,Ot _ _ (by omega) (by omega),Ac]
   have V:((nv a*dv b:Nat):Int)=(nv a:Int)*dv b:=by simp
   have U:((nv b*dv a:Nat):Int)=(nv b:Int)*dv a:=by simp
   have M:nv a≠0->0<nv a*dv b:=fun h=>Nat.mul_pos (by omega) I
   have L:nv b≠0->0<nv b*dv a:=fun h=>Nat.mul_pos (by omega) J
   have hw:∀z:Int,z = -1\/z=0\/z=1->Ad z=z:=by
    rintro z (rfl | rfl | rfl) <;> decide
   unfold M4 D1
   simp only [l,i]
   rw [hw]
   .refine congrArg some ?_
    by_cases c:nv a=0
    .have g:nv b=0:=by
      unfold D4 at heq; rw [if_pos c] at heq
      by_cases h:nv b=0
      .exact h
      .rw [if_neg h] at heq; split at heq <;> cases heq
     rw [c,g]; simp [D4,sg]
    .have g:nv b≠0:=by
      intro h
      unfold D4 at heq; rw [if_pos h,if_neg c] at heq
      split at heq <;> cases heq
     have B:sv a=sv b:=by
      unfold D4 at heq; rw [if_neg c,if_neg g] at heq
      cases h1:sv a <;> cases h2:sv b <;> simp [h1,h2] at heq ⊢
     have G:D4 (sv a) (nv a)=if sv a then -1 else 1:=by unfold D4; rw [if_neg c]
     rw [G,<-B]
     cases sv a <;> simp only [sg,if_true,if_false,Bool.false_eq_true,Int.neg_mul,Int.one_mul]
     .rcases Nat.lt_trichotomy (nv a*dv b) (nv b*dv a) with h | h | h
      .rw [if_pos h,if_pos (by omega)]
      .rw [if_neg (by omega),if_neg (by omega),if_neg (by omega),if_neg (by omega)]
      .rw [if_neg (by omega),if_pos h,if_neg (by omega),if_pos (by omega)]
     .rcases Nat.lt_trichotomy (nv a*dv b) (nv b*dv a) with h | h | h
      .rw [if_pos h,if_neg (by omega),if_pos (by omega)]; rfl
      .rw [if_neg (by omega),if_neg (by omega),if_neg (by omega),if_neg (by omega)]; rfl
      .rw [if_neg (by omega),if_pos h,if_pos (by omega)]
   .have h3:D4 (sv a) (nv a) = -1\/D4 (sv a) (nv a)=0\/D4 (sv a) (nv a)=1:=by unfold D4; split <;> (try split) <;> simp
    rcases h3 with h | h | h <;> rw [h] <;> split <;> (try split) <;> simp
end Go.Ab
namespace Go.Ab
open Go
structure Dq {α:Type} (S:α->Prop) (g:α->α->Int):Prop where
 zero:∀a b,S a->S b->(g a b=0↔a=b)
 anti:∀a b,S a->S b->g b a = - g a b
 trans:∀a b c,S a->S b->S c->g a b<0->g b c<0->g a c<0
theorem Dq.cmpI:Dq (fun _:Int=>True) Db:=by
 refine ⟨fun a b _ _=>En,fun a b _ _=>?_,fun a b c _ _ _=>?_⟩
 .unfold Go.Ab.Db; split <;> split <;> (try split) <;> (try split) <;> omega
 .unfold Go.Ab.Db; intro h1 h2; split at h1 <;> (try split at h1) <;> split at h2 <;> (try split at h2) <;> first | omega | (rw [if_pos (by omega)]; decide)
theorem Aij {x y:Int}:C2 x y<0↔x<0\/(x=0/\y<0):=by unfold C2; split <;> omega
theorem Aik {x y:Int}:C2 x y=0↔x=0/\y=0:=by unfold C2; split <;> omega
theorem Dq.or {α β γ:Type} {S:α->Prop} {s:β->Prop} {l:γ->Prop} {j:β->β->Int} {i:γ->γ->Int} (p:α->β) (q:α->γ) (g:∀a b,p a=p b->q a=q b->a=b) (h1:Dq s j) (h2:Dq l i) (f:∀a,S a->s (p a)/\l (q a)) :
  Dq S (fun a b=>C2 (j (p a) (p b)) (i (q a) (q b))):=by
 refine ⟨fun a b ha hb=>?_,fun a b ha hb=>?_,fun a b c ha hb hc=>?_⟩
 .rw [Aik,h1.zero _ _ (f a ha).1 (f b hb).1,h2.zero _ _ (f a ha).2 (f b hb).2]
  exact ⟨fun h=>g a b h.1 h.2,fun h=>by subst h; exact ⟨rfl,rfl⟩⟩
 .show C2 (j (p b) (p a)) (i (q b) (q a)) = - C2 (j (p a) (p b)) (i (q a) (q b))
  have z:=h1.anti _ _ (f a ha).1 (f b hb).1
  have y:=h2.anti _ _ (f a ha).2 (f b hb).2
  rw [z,y]; unfold C2; split <;> split <;> omega
 .show C2 _ _<0->C2 _ _<0->C2 _ _<0
  simp only [Aij]
  have u:=h1.zero _ _ (f a ha).1 (f b hb).1
  have z2:=h1.zero _ _ (f b hb).1 (f c hc).1
  have t1:=h1.trans _ _ _ (f a ha).1 (f b hb).1 (f c hc).1
  have t2:=h2.trans _ _ _ (f a ha).2 (f b hb).2 (f c hc).2
  rintro (h | ⟨h,h'⟩) (k | ⟨k,x⟩)
  .exact .inl (t1 h k)
  .rw [<-z2.1 k]; exact .inl h
  .rw [u.1 h]; exact .inl k
  .rw [<-z2.1 k,h]; exact .inr ⟨rfl,t2 h' x⟩
theorem Dq.mono {α:Type} {S i:α->Prop} {g:α->α->Int} (h:Dq S g) (f:∀a,i a->S a):Dq i g :=
 ⟨fun a b ha hb=>h.zero a b (f a ha) (f b hb),fun a b ha hb=>h.anti a b (f a ha) (f b hb),fun a b c ha hb hc=>h.trans a b c (f a ha) (f b hb) (f c hc)⟩
theorem Dq.congr {α:Type} {S:α->Prop} {g c:α->α->Int} (h:Dq S g) (e:∀a b,c a b=g a b):Dq S c:=by
 have:c=g:=funext fun a=>funext fun b=>e a b
 rw [this]; exact h
def LL {α:Type} (g:α->α->Int) (l m:List α):Int:=if l.length=m.length then Dp g l m else Go.Ab.Db l.length m.length
theorem Ail {α:Type} {S:α->Prop} {g:α->α->Int} (h:Dq S g):∀l m:List α,l.length=m.length->(∀x∈l,S x)->(∀x∈m,S x)->(Dp g l m=0↔l=m)
 | [],[],_,_,_=>by simp [Dp]
 | x::xs,y::f,b,h1,h2=>by
  simp only [Dp,Aik,h.zero x y (h1 x (by simp)) (h2 y (by simp)),Ail h xs f (by simpa using b) (fun z c=>h1 z (by simp [c])) (fun z c=>h2 z (by simp [c])),List.cons.injEq]
 | [],_::_,b,_,_=>by simp at b
 | _::_,[],b,_,_=>by simp at b
theorem Aim {α:Type} {S:α->Prop} {g:α->α->Int} (h:Dq S g):∀l m:List α,l.length=m.length->(∀x∈l,S x)->(∀x∈m,S x)->Dp g m l = - Dp g l m
 | [],[],_,_,_=>by simp [Dp]
 | x::xs,y::f,b,h1,h2=>by
  simp only [Dp,h.anti x y (h1 x (by simp)) (h2 y (by simp)),Aim h xs f (by simpa using b) (fun z c=>h1 z (by simp [c])) (fun z c=>h2 z (by simp [c]))]
  unfold C2; split <;> split <;> omega
 | [],_::_,b,_,_=>by simp at b
 | _::_,[],b,_,_=>by simp at b
theorem Ain {α:Type} {S:α->Prop} {g:α->α->Int} (h:Dq S g):∀l m n:List α,l.length=m.length->m.length=n.length->(∀x∈l,S x)->(∀x∈m,S x)->(∀x∈n,S x)->Dp g l m<0->Dp g m n<0->Dp g l n<0
 | [],[],_,_,_,_,_,_=>by intro h; simp [Dp] at h
 | x::xs,y::q,z::j,f,i,h1,h2,h3=>by
  simp only [Dp,Aij]
  have k:=h.zero x y (h1 x (by simp)) (h2 y (by simp))
  have z2:=h.zero y z (h2 y (by simp)) (h3 z (by simp))
  have t1:=h.trans x y z (h1 x (by simp)) (h2 y (by simp)) (h3 z (by simp))
  have t2:=Ain h xs q j (by simpa using f) (by simpa using i) (fun z c=>h1 z (by simp [c])) (fun z c=>h2 z (by simp [c])) (fun z c=>h3 z (by simp [c]))
  rintro (a | ⟨a,u⟩) (b | ⟨b,s⟩)
  .exact .inl (t1 a b)
  .rw [<-z2.1 b]; exact .inl a
  .rw [k.1 a]; exact .inl b
  .rw [<-z2.1 b,a]; exact .inr ⟨rfl,t2 u s⟩
 | _::_,_::_,[],_,i,_,_,_=>by simp at i
 | [],_::_,_,f,_,_,_,_=>by simp at f
 | _::_,[],_,f,_,_,_,_=>by simp at f
theorem Dq.ll {α:Type} {S:α->Prop} {g:α->α->Int} (h:Dq S g):Dq (fun l=>∀x∈l,S x) (LL g):=by
 have c:=Dq.cmpI
 refine ⟨fun a b ha hb=>?_,fun a b ha hb=>?_,fun x y z hx hy q=>?_⟩
 .unfold LL
  split
  .rename_i i; exact Ail h a b i ha hb
  .rename_i i
   rw [En]
   exact ⟨fun e=>(i (by omega)).elim,fun e=>(i (by rw [e])).elim⟩
 .unfold LL
  by_cases i:a.length=b.length
  .rw [if_pos i,if_pos i.symm]; exact Aim h a b i ha hb
  .rw [if_neg i,if_neg (fun e=>i e.symm)]; exact c.anti _ _ trivial trivial
 .unfold LL
  intro h1 h2
  have neg:∀a b:Int,Go.Ab.Db a b<0->a<b:=by intro a b h; unfold Go.Ab.Db at h; split at h <;> (try split at h) <;> omega
  have f:∀a b:Int,a<b->Go.Ab.Db a b<0:=by intro a b h; unfold Go.Ab.Db; rw [if_pos h]; decide
  by_cases k:x.length=y.length
  .rw [if_pos k] at h1
   by_cases j:y.length=z.length
   .rw [if_pos j] at h2; rw [if_pos (by omega)]; exact Ain h x y z k j hx hy q h1 h2
   .rw [if_neg j] at h2; rw [if_neg (by omega)]
    have:=neg _ _ h2; exact f _ _ (by omega)
  .rw [if_neg k] at h1
   have:=neg _ _ h1
   by_cases j:y.length=z.length
   .rw [if_neg (by omega)]; exact f _ _ (by omega)
   .rw [if_neg j] at h2
    have:=neg _ _ h2
    rw [if_neg (by omega)]; exact f _ _ (by omega)
theorem Aio {α:Type} (g:α->α->Int) (l m:List α) (y:Int):C2 (LL g l m) y=if l.length=m.length then C2 (Dp g l m) y else Go.Ab.Db l.length m.length:=by
 unfold LL
 by_cases h:l.length=m.length
 .rw [if_pos h,if_pos h]
 .rw [if_neg h,if_neg h]
  unfold C2
  rw [if_neg (fun e=>h (by have:=En.1 e; omega))]
theorem Art:Dq (fun _=>True) I6 :=
 (Dq.or (S:=fun _=>True) (fun t:Ds=>t.Var) (fun t=>t.Coef) (fun a b h1 h2=>by cases a; cases b; cases h1; cases h2; rfl) Dq.cmpI Dq.cmpI (fun _ _=>⟨trivial,trivial⟩)).congr fun _ _=>rfl
theorem Aru:Dq (fun _=>True) I7 :=
 (Dq.or (S:=fun _=>True) (fun t:Di=>t.Terms) (fun t=>t.Const) (fun a b h1 h2=>by cases a; cases b; cases h1; cases h2; rfl) Art.ll Dq.cmpI (fun _ _=>⟨fun _ _=>trivial,trivial⟩)).congr fun a b=>by
  show I7 a b=C2 (LL I6 a.Terms b.Terms) (Go.Ab.Db a.Const b.Const)
  rw [Aio]; rfl
theorem Arv (i j:A6):G1 i j=C2 (Go.Ab.Db i.Num j.Num) (LL G1 i.Kids j.Kids):=by
 rw [Abr,Xi]
 unfold C2 LL
 by_cases h:i.Num=j.Num
 .rw [if_pos h,if_pos (En.2 h)]
 .rw [if_neg h,if_neg (fun e=>h (En.1 e))]
theorem Ab0:∀n:Nat,Dq (fun i=>Co i<=n) G1:=by
 intro n
 induction n with
 | zero=>exact ⟨fun a _ ha=>by have:=Ez a; omega,fun a _ ha=>by have:=Ez a; omega,fun a _ _ ha=>by have:=Ez a; omega⟩
 | succ n ih=>
  refine (Dq.or (S:=fun i=>Co i<=n+1) (fun i:A6=>i.Num) (fun i=>i.Kids) (fun a b h1 h2=>by cases a; cases b; cases h1; cases h2; rfl) Dq.cmpI ih.ll ?_).congr Arv
  intro i hi
  refine ⟨trivial,fun x hx=>?_⟩
  have h1:=Jy hx
  have h2:=Ez i
  show Co x<=n
  omega
theorem Arw:Dq (fun _=>True) G1 :=
 ⟨fun a b _ _=>(Ab0 (max (Co a) (Co b))).zero a b (by show Co a<=_; omega) (by show Co b<=_; omega),fun a b _ _=>(Ab0 (max (Co a) (Co b))).anti a b (by show Co a<=_; omega) (by show Co b<=_; omega),
  fun a b c _ _ _=>(Ab0 (max (Co a) (max (Co b) (Co c)))).trans a b c (by show Co a<=_; omega) (by show Co b<=_; omega) (by show Co c<=_; omega)⟩
theorem Arx:Dq (fun _=>True) I8 :=
 (Dq.or (S:=fun _=>True) (fun t:Cw=>t.Var) (fun t=>t.Index) (fun a b h1 h2=>by cases a; cases b; cases h1; cases h2; rfl) Dq.cmpI Arw (fun _ _=>⟨trivial,trivial⟩)).congr fun _ _=>rfl
theorem Ary:Dq (fun _=>True) J0 :=
 (Dq.or (S:=fun _=>True) (fun t:C4=>t.Lin) (fun t=>t.Deg) (fun a b h1 h2=>by cases a; cases b; cases h1; cases h2; rfl) Aru Dq.cmpI (fun _ _=>⟨trivial,trivial⟩)).congr fun _ _=>rfl
theorem Ab1:Dq (fun _=>True) Cr :=
 (Dq.or (S:=fun _=>True) (fun t:Bi=>t.Factors) (fun t=>t.Atoms) (fun a b h1 h2=>by cases a; cases b; cases h1; cases h2; rfl) Arx.ll Ary.ll (fun _ _=>⟨fun _ _=>trivial,fun _ _=>trivial⟩)).congr fun a b=>by
  show Cr a b=C2 (LL I8 a.Factors b.Factors) (LL J0 a.Atoms b.Atoms)
  rw [Aio]; rfl
theorem Kv {a b:Bi}:Cr a b=0↔a=b:=Ab1.zero a b trivial trivial
theorem Aip (a b:Bi):Cr b a = - Cr a b:=Ab1.anti a b trivial trivial
theorem Q9 {a b c:Bi} (h:Cr a b<0) (h':Cr b c<0):Cr a c<0:=Ab1.trans a b c trivial trivial trivial h h'
end Go.Ab
namespace Go.Ab
open Go
theorem Aiq (m:Bi):Cr m m=0:=Kv.2 rfl
theorem Ab2 {a b:Bi}:0<Cr a b↔Cr b a<0:=by rw [Aip a b]; omega
def cf:List Aj->Bi->Rat
 | [],_=>0
 | t::p,m=>(if Cr t.Mono m=0 then rq t.Coef else 0)+cf p m
def ltT (t u:Aj):Prop:=Cr t.Mono u.Mono<0
structure CP (p:List Aj):Prop where
 srt:p.Pairwise ltT
 coe:∀t∈p,J2 t.Coef/\rq t.Coef≠0
theorem CP.tail {t:Aj} {p:List Aj} (h:CP (t::p)):CP p:=⟨(List.pairwise_cons.1 h.srt).2,fun u hu=>h.coe u (by simp [hu])⟩
theorem CP.head {t:Aj} {p:List Aj} (h:CP (t::p)):∀u∈p,Cr t.Mono u.Mono<0:=(List.pairwise_cons.1 h.srt).1
theorem CP.nil:CP []:=⟨List.Pairwise.nil,fun _ h=>by cases h⟩
theorem CP.cons {t:Aj} {p:List Aj} (h:CP p) (h1:∀u∈p,Cr t.Mono u.Mono<0) (h2:J2 t.Coef) (h3:rq t.Coef≠0):CP (t::p) :=
 ⟨List.pairwise_cons.2 ⟨h1,h.srt⟩,fun u hu=>by
  rcases List.mem_cons.1 hu with rfl | hu
  .exact ⟨h2,h3⟩
  .exact h.coe u hu⟩
theorem Ab3 {p:List Aj} {m:Bi} (h:∀t∈p,Cr t.Mono m≠0):cf p m=0:=by
 induction p with
 | nil=>rfl
 | cons t p ih=>
  simp only [cf]
  rw [if_neg (h t (by simp)),ih (fun u hu=>h u (by simp [hu]))]; grind
theorem Ln {p:List Aj} {m:Bi} (h:∀t∈p,Cr m t.Mono<0):cf p m=0 :=
 Ab3 fun t ht e=>by have:=h t ht; rw [Aip,e] at this; omega
theorem Il {t:Aj} {p:List Aj} (h:CP (t::p)):cf (t::p) t.Mono=rq t.Coef:=by
 simp only [cf]
 rw [if_pos (Aiq _),Ln h.head]; grind
theorem Lo {t:Aj} {p:List Aj} {m:Bi} (h:Cr t.Mono m≠0):cf (t::p) m=cf p m:=by
 simp only [cf]; rw [if_neg h]; grind
theorem Ra (p q:List Aj) (m:Bi):cf (p++q) m=cf p m+cf q m:=by
 induction p with
 | nil=>simp only [List.nil_append,cf]; grind
 | cons t p ih=>simp only [List.cons_append,cf,ih]; grind
theorem Air {p:List Aj} (h:CP p) {t:Aj} (ht:t∈p):cf p t.Mono=rq t.Coef:=by
 induction p with
 | nil=>cases ht
 | cons u p ih=>
  rcases List.mem_cons.1 ht with rfl | ht
  .exact Il h
  .have:=h.head t ht
   rw [Lo (by omega)]; exact ih h.tail ht
theorem CP.ext:∀{p q:List Aj},CP p->CP q->(∀m,cf p m=cf q m)->p=q
 | [],[],_,_,_=>rfl
 | [],u::q,_,h2,h=>by
  have:=h u.Mono
  rw [Il h2] at this
  exact ((h2.coe u (by simp)).2 this.symm).elim
 | t::p,[],h1,_,h=>by
  have:=h t.Mono
  rw [Il h1] at this
  exact ((h1.coe t (by simp)).2 this).elim
 | t::p,u::q,h1,h2,h=>by
  have b:Cr t.Mono u.Mono=0:=by
   rcases Int.lt_trichotomy (Cr t.Mono u.Mono) 0 with k | k | k
   .have e:=h t.Mono
    rw [Il h1,Ln (p:=u::q)] at e
    .exact ((h1.coe t (by simp)).2 e).elim
    .intro w hw
     rcases List.mem_cons.1 hw with rfl | hw
     .exact k
     .exact Q9 k (h2.head w hw)
   .exact k
   .have k:=Ab2.1 k
    have e:=h u.Mono
    rw [Il h2,Ln (p:=t::p)] at e
    .exact ((h2.coe u (by simp)).2 e.symm).elim
    .intro w hw
     rcases List.mem_cons.1 hw with rfl | hw
     .exact k
     .exact Q9 k (h1.head w hw)
  have c:=Kv.1 b
  have hc:t.Coef=u.Coef:=by
   refine Aig (h1.coe t (by simp)).1 (h2.coe u (by simp)).1 ?_
   have e:=h t.Mono
   rw [Il h1,c,Il h2] at e
   exact e
  have ht:t=u:=by cases t; cases u; simp_all
  subst ht
  congr 1
  refine CP.ext h1.tail h2.tail fun m=>?_
  by_cases e:Cr t.Mono m=0
  .rw [<-Kv.1 e,Ln h1.head,Ln h2.head]
  .have:=h m
   rwa [Lo e,Lo e] at this
theorem Ais (c:A3):O3 c=true↔J2 c/\rq c≠0:=by
 unfold O3 J2
 rw [C9,Xj]
 have h:(!(nv c==0))=true↔rq c≠0:=by
  have e:rq c=0↔nv c=0:=by
   unfold rq
   rw [Rat.mkRat_eq_zero (De c)]
   unfold sg; split <;> omega
  rw [Ne,e]; simp
 rw [h]
 exact ⟨fun ⟨a,b⟩=>⟨a.symm,b⟩,fun ⟨a,b⟩=>⟨a.symm,b⟩⟩
theorem Arz {l:List Aj} (h:∀(j:Nat) (x y:Aj),l[j]? = some x->l[j+1]? = some y->Cr x.Mono y.Mono<0):l.Pairwise ltT:=by
 induction l with
 | nil=>exact List.Pairwise.nil
 | cons t l ih=>
  have ih:=ih fun j x y hx hy=>h (j+1) x y (by simpa using hx) (by simpa using hy)
  refine List.pairwise_cons.2 ⟨?_,ih⟩
  cases l with
  | nil=>intro u hu; cases hu
  | cons v l=>
   have h0:=h 0 t v rfl rfl
   intro u hu
   rcases List.mem_cons.1 hu with rfl | hu
   .exact h0
   .exact Q9 h0 ((List.pairwise_cons.1 ih).1 u hu)
theorem O4 {data:List As} {vars:List Ah} {res:Ah} {p:List Aj}:G8 data vars res p=true↔p.length<=1000/\CP p/\∀t∈p,Gp data vars res t.Mono=true:=by
 unfold G8
 rw [C9,decide_eq_true_eq]
 constructor
 .rintro ⟨h1,h2⟩
  have g:∀(j:Nat) (t:Aj),p[j]? = some t->O3 t.Coef=true/\Gp data vars res t.Mono=true/\M1 p t j=true:=by
   intro j t hj
   have:=G0 h2 hj
   simp only [M2,C9] at this
   exact ⟨this.1.1,this.1.2,this.2⟩
  refine ⟨h1,⟨Arz fun j x y hx hy=>?_,fun t ht=>?_⟩,fun t ht=>?_⟩
  .have:=(g _ _ hy).2.2
   unfold M1 at this
   rw [show j+1-1=j by omega,hx] at this
   simpa using this
  .obtain ⟨j,hj⟩:=List.getElem?_of_mem ht
   exact (Ais _).1 (g j t hj).1
  .obtain ⟨j,hj⟩:=List.getElem?_of_mem ht
   exact (g j t hj).2.1
 .rintro ⟨h1,h2,h3⟩
  refine ⟨h1,List.all_eq_true.2 fun q hq=>?_⟩
  have hq:=List.mem_zipIdx' hq
  have hj:p[q.2]? = some q.1:=(Cb hq.1).trans (congrArg some hq.2.symm)
  have c:q.1∈p:=B3 hj
  simp only [M2,C9]
  refine ⟨⟨(Ais _).2 (h2.coe _ c),h3 _ c⟩,?_⟩
  unfold M1
  by_cases h0:q.2=0
  .rw [h0]; rfl
  .have b:q.2-1<p.length:=by omega
   rw [Cb b]
   have:=List.pairwise_iff_getElem.1 h2.srt (q.2-1) q.2 b hq.1 (by omega)
   rw [<-hq.2] at this
   simp only [Bool.or_eq_true,decide_eq_true_eq]
   exact .inr this
end Go.Ab
namespace Go.Ab
open Go
theorem Ar0:∀(k:Nat) (t:A6),Co t<=k->k<1099511627776->N3 k t=some t:=by
 intro k
 induction k with
 | zero=>intro t h; have:=Ez t; omega
 | succ k ih=>
  intro t h hk
  have c:=Ez t
  have b:=Kr t.Kids
  rw [N3]
  refine Fm t.Kids (fun j=>((j:Int),(t.Kids.take j))) rfl (by omega) ?_ ?_
  .intro j x hj hx h1 h2 h3
   have:=Jy (B3 hx)
   simp only [h1,h2,h3,cond_true,Ac,ih x (by omega) (by omega)]
   rw [Cs (by simp; omega),Ac,C5 hx]
  .intro h1
   exact ⟨t.Kids,by simp,by cases t; rfl⟩
theorem Ar1 (m:Bi) (b:MSz m):L8 m=some m:=by
 have g:=b.nf
 have f:=b.na
 unfold L8
 refine Fm m.Factors (fun j=>((j:Int),(m.Factors.take j))) rfl (by omega) ?_ ?_
 .intro j x hj hx h1 h2 h3
  have c:=B3 hx
  have:=b.fi x c
  simp only [h1,h2,h3,cond_true,Ac,Ar0 4000000 x.Index (by omega) (by omega)]
  rw [Cs (by simp; omega),Ac,C5 hx]
 .intro h1
  refine ⟨m.Factors,by simp,?_⟩
  dsimp only
  refine Fm m.Atoms (fun j=>((j:Int),(m.Atoms.take j))) rfl (by omega) ?_ ?_
  .intro j x hj hx h1 h2 h3
   have c:=B3 hx
   have:=b.al x c
   simp only [h1,h2,h3,cond_true,Ac,P4]
   rw [Cs (by simp; omega),Ac,Cs (by simp; omega),Ac,C5 hx]; rfl
  .intro h1
   exact ⟨m.Atoms,by simp,by cases m; rfl⟩
theorem Ar2:∀(k:Nat) (t:A6),Co t<=k->k<1099511627776->Od k t=some t:=by
 intro k
 induction k with
 | zero=>intro t h; have:=Ez t; omega
 | succ k ih=>
  intro t h hk
  have c:=Ez t
  have b:=Kr t.Kids
  rw [Od]
  refine Fm t.Kids (fun j=>((j:Int),(t.Kids.take j))) rfl (by omega) ?_ ?_
  .intro j x hj hx h1 h2 h3
   have:=Jy (B3 hx)
   simp only [h1,h2,h3,cond_true,Ac,ih x (by omega) (by omega)]
   rw [Cs (by simp; omega),Ac,C5 hx]
  .intro h1
   exact ⟨t.Kids,by simp,by cases t; rfl⟩
theorem Ar3 (m:Bi) (b:MSz m):Su m=some m:=by
 have g:=b.nf
 have f:=b.na
 unfold Su
 refine Fm m.Factors (fun j=>((j:Int),(m.Factors.take j))) rfl (by omega) ?_ ?_
 .intro j x hj hx h1 h2 h3
  have c:=B3 hx
  have:=b.fi x c
  simp only [h1,h2,h3,cond_true,Ac,Ar2 4000000 x.Index (by omega) (by omega)]
  rw [Cs (by simp; omega),Ac,C5 hx]
 .intro h1
  refine ⟨m.Factors,by simp,?_⟩
  dsimp only
  refine Fm m.Atoms (fun j=>((j:Int),(m.Atoms.take j))) rfl (by omega) ?_ ?_
  .intro j x hj hx h1 h2 h3
   have c:=B3 hx
   have:=b.al x c
   simp only [h1,h2,h3,cond_true,Ac,P4]
   rw [Cs (by simp; omega),Ac,Cs (by simp; omega),Ac,C5 hx]; rfl
  .intro h1
   exact ⟨m.Atoms,by simp,by cases m; rfl⟩
end Go.Ab
namespace Go.Ab
open Go
structure TB (k:Nat) (t:Aj):Prop where
 co:RB k t.Coef
 mo:MSz t.Mono
theorem TSz.tb {t:Aj} (h:TSz t):TB 1048576 t:=⟨h.co,h.mo⟩
theorem TB.mono {j k:Nat} {t:Aj} (h:TB j t) (hk:j<=k):TB k t:=⟨h.co.mono hk,h.mo⟩
def zR:A3:=Bv false 0 1
theorem Ait (k:Nat) (hk:1<=k):RB k zR:=by
 refine RB.mono (j:=1) ?_ hk
 have:zR=⟨false,[],[1]⟩:=Tx false 1
 rw [this]
 exact ⟨(fun _ h=>by cases h),(fun d h=>by simp at h; subst h; decide),by simp,by simp⟩
theorem Xn:rq zR=0:=by
 unfold zR; rw [M3 _ _ _ (by decide)]; simp [sg]
def G2 (c:A3) (m:Bi):List Aj:=if nv c=0 then [] else [⟨Bv (sv c) (nv c) (dv c),m⟩]
theorem Aiu (c:A3):rq c=0↔nv c=0:=by
 unfold rq
 rw [Rat.mkRat_eq_zero (De c)]
 unfold sg; split <;> omega
theorem Ar4 (c:A3) (m n:Bi):cf (G2 c m) n=if Cr m n=0 then rq c else 0:=by
 unfold G2
 split
 .rename_i h
  rw [(Aiu c).2 h]; simp [cf]
 .simp only [cf,M3 _ _ _ (De c)]
  show (if Cr m n=0 then rq c else 0)+0=_
  grind
structure Xo (ch:A3->A3->A3) (F:Rat->Rat->Rat):Prop where
 one:∀a b,ch a b=a\/ch a b=b
 val:∀a b,rq (ch a b)=F (rq a) (rq b)
 zero:F 0 0=0
abbrev MS:=List Aj×List Aj×List Aj
def O5 (b:A3->A3->A3):List Aj->List Aj->List Aj->MS⊕List Aj
 | [],[],o=>.inr o
 | t::p,[],o=>.inl (p,[],o++G2 (b t.Coef zR) t.Mono)
 | [],u::q,o=>.inl ([],q,o++G2 (b zR u.Coef) u.Mono)
 | t::p,u::q,o=>if Cr t.Mono u.Mono<0 then .inl (p,u::q,o++G2 (b t.Coef zR) t.Mono) else if Cr t.Mono u.Mono=0 then .inl (p,q,o++G2 (b t.Coef u.Coef) t.Mono) else .inl (t::p,q,o++G2 (b zR u.Coef) u.Mono)
structure Mg (F:Rat->Rat->Rat) (k:Nat) (p q R:List Aj):Prop where
 cp:CP R
 val:∀m,cf R m=F (cf p m) (cf q m)
 mon:∀t∈R,(∃u∈p,u.Mono=t.Mono)\/(∃u∈q,u.Mono=t.Mono)
 len:R.length<=p.length+q.length
 rb:∀t∈R,RB (k+1) t.Coef
theorem Aiv {k:Nat} {c:A3} {m:Bi} (hc:RB k c):(∀t∈G2 c m,t.Mono=m/\J2 t.Coef/\rq t.Coef≠0/\RB (k+1) t.Coef)/\(G2 c m).length<=1:=by
 unfold G2
 split
 .exact ⟨fun _ h=>(by cases h),by simp⟩
 .rename_i h
  refine ⟨fun t ht=>?_,by simp⟩
  simp only [List.mem_singleton] at ht
  subst ht
  exact ⟨rfl,Xl _ _ _ (De c),by rw [M3 _ _ _ (De c)]; exact fun e=>h ((Aiu c).1 e),Agq hc⟩
theorem Mg.step {F:Rat->Rat->Rat} {k:Nat} {p q g f R:List Aj} {c:A3} {m:Bi} (h:Mg F k g f R) (z:F 0 0=0) (hc:RB k c)
  (s:∀n,Cr m n≠0->cf p n=cf g n/\cf q n=cf f n) (h0:rq c=F (cf p m) (cf q m)) (l:∀u∈g,Cr m u.Mono<0) (j:∀u∈f,Cr m u.Mono<0)
  (x:(∃u∈p,u.Mono=m)\/(∃u∈q,u.Mono=m)) (hp:∀u∈g,u∈p) (hq:∀u∈f,u∈q) (B:g.length+f.length+1<=p.length+q.length):Mg F k p q (G2 c m++R):=by
 obtain ⟨i,A⟩:=Aiv (m:=m) hc
 have y:∀t∈R,Cr m t.Mono<0:=by
  intro t ht
  rcases h.mon t ht with ⟨u,hu,e⟩ | ⟨u,hu,e⟩
  .rw [<-e]; exact l u hu
  .rw [<-e]; exact j u hu
 refine ⟨?_,?_,?_,?_,?_⟩
 .refine ⟨List.pairwise_append.2 ⟨?_,h.cp.srt,?_⟩,?_⟩
  .unfold G2; split
   .exact List.Pairwise.nil
   .exact List.pairwise_singleton _ _
  .intro a ha b hb
   show Cr a.Mono b.Mono<0
   rw [(i a ha).1]; exact y b hb
  .intro t ht
   rcases List.mem_append.1 ht with ht | ht
   .exact ⟨(i t ht).2.1,(i t ht).2.2.1⟩
   .exact h.cp.coe t ht
 .intro n
  rw [Ra,Ar4,h.val n]
  by_cases e:Cr m n=0
  .rw [if_pos e]
   have e':=Kv.1 e
   subst e'
   rw [Ln l,Ln j,z,h0]; grind
  .rw [if_neg e,(s n e).1,(s n e).2]; grind
 .intro t ht
  rcases List.mem_append.1 ht with ht | ht
  .rw [(i t ht).1]; exact x
  .rcases h.mon t ht with ⟨u,hu,e⟩ | ⟨u,hu,e⟩
   .exact .inl ⟨u,hp u hu,e⟩
   .exact .inr ⟨u,hq u hu,e⟩
 .rw [List.length_append]; have:=h.len; omega
 .intro t ht
  rcases List.mem_append.1 ht with ht | ht
  .exact (i t ht).2.2.2
  .exact h.rb t ht
theorem Ar5 {l:A3->A3->A3} {F:Rat->Rat->Rat} (g:Xo l F) {step:MS->Option (MS⊕List Aj)} {k:Nat} (hk:1<=k) (N:Nat)
  (i:∀p q o,(∀t∈p,TB k t)->(∀t∈q,TB k t)->o.length+p.length+q.length<=N->step (p,q,o)=some (O5 l p q o)) :
  ∀(n:Nat) (p q o:List Aj),p.length+q.length<=n->CP p->CP q->(∀t∈p,TB k t)->(∀t∈q,TB k t)->o.length+p.length+q.length<=N->∃R,Ao step (p,q,o)=some (o++R)/\Mg F k p q R:=by
 have f:∀{a b:A3},RB k a->RB k b->RB k (l a b):=by
  intro a b ha hb
  rcases g.one a b with e | e <;> rw [e] <;> assumption
 have B:=Ait k hk
 intro n
 induction n with
 | zero=>
  intro p q o X h1 h2 t1 t2 D
  have Z:p = []:=List.length_eq_zero_iff.1 (by omega)
  have Y:q = []:=List.length_eq_zero_iff.1 (by omega)
  subst Z; subst Y
  refine ⟨[],?_,⟨CP.nil,fun m=>?_,fun _ h=>(by cases h),by simp,fun _ h=>(by cases h)⟩⟩
  .rw [Ey (i [] [] o t1 t2 D)]; simp
  .simp only [cf]; rw [g.zero]
 | succ n ih=>
  intro p q o X h1 h2 t1 t2 D
  have go:∀(y s:List Aj) (c:A3) (m:Bi),O5 l p q o = .inl (y,s,o++G2 c m)->RB k c->CP y->CP s->(∀t∈y,t∈p)->(∀t∈s,t∈q)->y.length+s.length+1<=p.length+q.length ->
    (∀n,Cr m n≠0->cf p n=cf y n/\cf q n=cf s n)->rq c=F (cf p m) (cf q m)->(∀u∈y,Cr m u.Mono<0)->(∀u∈s,Cr m u.Mono<0)->((∃u∈p,u.Mono=m)\/(∃u∈q,u.Mono=m))->∃R,Ao step (p,q,o)=some (o++R)/\Mg F k p q R:=by
   intro y s c m U hc c1 c2 J I z S h0 G E V
   have ol:=(Aiv (m:=m) hc).2
   obtain ⟨R,M,L⟩:=ih y s (o++G2 c m) (by omega) c1 c2 (fun t ht=>t1 t (J t ht)) (fun t ht=>t2 t (I t ht)) (by rw [List.length_append]; omega)
   refine ⟨G2 c m++R,?_,L.step g.zero hc S h0 G E V J I z⟩
   rw [Jk ((i p q o t1 t2 D).trans (congrArg some U)),M,List.append_assoc]
  cases p with
  | nil=>
   cases q with
   | nil=>
    refine ⟨[],?_,⟨CP.nil,fun m=>?_,fun _ h=>(by cases h),by simp,fun _ h=>(by cases h)⟩⟩
    .rw [Ey (i [] [] o t1 t2 D)]; simp
    .simp only [cf]; rw [g.zero]
   | cons u q=>
    refine go [] q (l zR u.Coef) u.Mono rfl (f B (t2 u (by simp)).co) CP.nil h2.tail (fun _ h=>h) (fun t h=>by simp [h]) (by simp) (fun n j=>⟨rfl,Lo j⟩) ?_ (fun _ h=>(by cases h)) h2.head (.inr ⟨u,by simp,rfl⟩)
    rw [g.val,Xn,Il h2]; rfl
  | cons t p=>
   cases q with
   | nil=>
    refine go p [] (l t.Coef zR) t.Mono rfl (f (t1 t (by simp)).co B) h1.tail CP.nil (fun x h=>by simp [h]) (fun _ h=>h) (by simp) (fun n j=>⟨Lo j,rfl⟩) ?_ h1.head (fun _ h=>(by cases h)) (.inl ⟨t,by simp,rfl⟩)
    rw [g.val,Xn,Il h1]; rfl
   | cons u q=>
    rcases Int.lt_trichotomy (Cr t.Mono u.Mono) 0 with hc | hc | hc
    .have hb:∀w∈u::q,Cr t.Mono w.Mono<0:=by
      intro w hw
      rcases List.mem_cons.1 hw with rfl | hw
      .exact hc
      .exact Q9 hc (h2.head w hw)
     refine go p (u::q) (l t.Coef zR) t.Mono (by simp only [O5]; rw [if_pos hc]) (f (t1 t (by simp)).co B) h1.tail h2 (fun x h=>by simp [h]) (fun _ h=>h) (by simp; omega) (fun n j=>⟨Lo j,rfl⟩) ?_ h1.head hb (.inl ⟨t,by simp,rfl⟩)
     rw [g.val,Xn,Il h1,Ln hb]
    .have e:=Kv.1 hc
     refine go p q (l t.Coef u.Coef) t.Mono (by simp only [O5]; rw [if_neg (by omega),if_pos hc]) (f (t1 t (by simp)).co (t2 u (by simp)).co) h1.tail h2.tail (fun x h=>by simp [h]) (fun x h=>by simp [h]) (by simp; omega) (fun n j=>⟨Lo j,Lo (by rw [<-e]; exact j)⟩) ?_ h1.head (by rw [e]; exact h2.head) (.inl ⟨t,by simp,rfl⟩)
     rw [g.val,Il h1,e,Il h2]
    .have A:=Ab2.1 hc
     have hb:∀w∈t::p,Cr u.Mono w.Mono<0:=by
      intro w hw
      rcases List.mem_cons.1 hw with rfl | hw
      .exact A
      .exact Q9 A (h1.head w hw)
     refine go (t::p) q (l zR u.Coef) u.Mono (by simp only [O5]; rw [if_neg (by omega),if_neg (by omega)]) (f B (t2 u (by simp)).co) h1 h2.tail (fun _ h=>h) (fun x h=>by simp [h]) (by simp; omega) (fun n j=>⟨rfl,Lo j⟩) ?_ hb h2.head (.inr ⟨u,by simp,rfl⟩)
     rw [g.val,Xn,Ln hb,Il h2]
end Go.Ab
namespace Go.Ab
open Go
def Ga (n:Int) (f:Bool):List Int:=if f then (if n<0 then [45] else []) else (if n<0 then [32,45,32] else [32,43,32])
def G9 (n:Int):List Int:=if n.natAbs=1 then [] else ti n.natAbs++[42]
def Gr (v:Int):List Int:=if v = -1 then [114,101,115] else 118::ti v
def tT (f:Bool) (t:Ds):List Int:=Ga t.Coef f++(G9 t.Coef++Gr t.Var)
def Fq:Bool->List Ds->Int->List Int
 | f,[],c=>if c≠0\/f=true then Ga c f++ti c.natAbs else []
 | f,t::ts,c=>tT f t++Fq false ts c
def Uc (l:Di):List Int:=Fq true l.Terms l.Const
def Gs (X:List Int):Prop:=∀c m,X=c::m->c=97
theorem Gs.nil:Gs []:=by intro c m h; cases h
theorem Gs.cons (X:List Int):Gs (97::X):=by intro c m h; cases h; rfl
theorem Gs.nonum {X:List Int} (h:Gs X):Ik X:=by intro c m e; rw [h c m e]; decide
theorem Ab4 (n:Nat):∃c m,ti n=c::m/\48<=c/\c<=57:=by
 have b:=Abl (n:Int)
 cases h:ti (n:Int) with
 | nil=>exact (b h).elim
 | cons c m=>
  refine ⟨c,m,rfl,?_⟩
  have hc:c∈ti (n:Int):=by rw [h]; simp
  unfold ti at hc
  obtain ⟨x,hx,rfl⟩:=List.mem_map.1 hc
  have e:Lib.itoa (n:Int)=Lib.decDigits n:=by
   unfold Lib.itoa
   first | rfl | (rw [if_neg (by omega)]; simp) | simp
  rw [e] at hx
  have:=W9 n n (Nat.le_refl _) x hx
  omega
theorem Aiw (ts:List Ds) (c:Int) {X:List Int} (b:Gs X):Ik (Fq false ts c++X):=by
 have k:∀(n:Int) (Y:List Int),Ik (Ga n false++Y):=by
  intro n Y c m e
  unfold Ga at e
  simp only [Bool.false_eq_true,if_false] at e
  split at e <;> (cases e; decide)
 cases ts with
 | nil=>
  simp only [Fq]
  split
  .rw [List.append_assoc]; exact k _ _
  .exact b.nonum
 | cons t ts=>simp only [Fq,tT,List.append_assoc]; exact k _ _
theorem Aix {v w:Int} {R S:List Int} (c:Ik R) (b:Ik S) (h:Gr v++R=Gr w++S):v=w/\R=S:=by
 unfold Gr at h
 split at h <;> split at h
 .simp only [List.cons_append,List.nil_append,List.cons.injEq,true_and] at h
  exact ⟨by omega,h⟩
 .simp at h
 .simp at h
 .simp only [List.cons_append,List.cons.injEq,true_and] at h
  obtain ⟨g,f⟩:=Lj _ _ _ _ (Ft v) (Ft w) c b h
  exact ⟨O1 g,f⟩
theorem Ab5 (v:Int):∃c m,Gr v=c::m/\(c=114\/c=118):=by
 unfold Gr
 split
 .exact ⟨_,_,rfl,.inl rfl⟩
 .exact ⟨_,_,rfl,.inr rfl⟩
theorem Ab6 (X:List Int):Ik (42::X):=by intro c m e; cases e; decide
theorem Ar6 {a b v w:Int} {R S:List Int} (i:Ik R) (g:Ik S) (h:G9 a++(Gr v++R)=G9 b++(Gr w++S)):a.natAbs=b.natAbs/\v=w/\R=S:=by
 unfold G9 at h
 have bad:∀(n:Nat) (u:Int) (X Y:List Int),Gr u++X=ti n++[42]++Y->False:=by
  intro n u X Y e
  obtain ⟨c,m,f,q⟩:=Ab5 u
  obtain ⟨d,k,l,j⟩:=Ab4 n
  rw [f,l] at e
  simp only [List.cons_append,List.cons.injEq] at e
  omega
 split at h <;> split at h
 .rename_i h1 h2
  simp only [List.nil_append] at h
  exact ⟨h1.trans h2.symm,Aix i g h⟩
 .exact (bad _ _ _ _ h).elim
 .exact (bad _ _ _ _ h.symm).elim
 .simp only [List.append_assoc,List.cons_append,List.nil_append] at h
  obtain ⟨f,q⟩:=Lj _ _ _ _ (Ft _) (Ft _) (Ab6 _) (Ab6 _) h
  have l:=O1 f
  obtain ⟨j,s⟩:=Aix i g (List.cons.inj q).2
  exact ⟨by omega,j,s⟩
def NoM (P:List Int):Prop:=∃c m,P=c::m/\c≠45
theorem NoM.ti (n:Nat) (X:List Int):NoM (Go.Ab.ti n++X):=by
 obtain ⟨c,m,e,h⟩:=Ab4 n
 exact ⟨c,m++X,by rw [e]; rfl,by omega⟩
theorem NoM.pT (a v:Int) (X:List Int):NoM (G9 a++(Gr v++X)):=by
 unfold G9
 split
 .obtain ⟨c,m,e,h⟩:=Ab5 v
  exact ⟨c,m++X,by rw [e]; rfl,by omega⟩
 .rw [List.append_assoc]; exact NoM.ti _ _
theorem Ab7 {a b:Int} {f:Bool} {P Q:List Int} (i:NoM P) (g:NoM Q) (h:Ga a f++P=Ga b f++Q):(a<0↔b<0)/\P=Q:=by
 obtain ⟨c,m,rfl,hc⟩:=i
 obtain ⟨d,k,rfl,hd⟩:=g
 unfold Ga at h
 cases f with
 | true=>
  simp only [if_true] at h
  split at h <;> split at h
  .rename_i h1 h2; exact ⟨by simp [h1,h2],by simpa using h⟩
  .simp at h; exact (hd h.1.symm).elim
  .simp at h; exact (hc h.1).elim
  .rename_i h1 h2; exact ⟨by simp [h1,h2],by simpa using h⟩
 | false=>
  simp only [Bool.false_eq_true,if_false] at h
  split at h <;> split at h
  .rename_i h1 h2; exact ⟨by simp [h1,h2],by simpa using h⟩
  .simp at h
  .simp at h
  .rename_i h1 h2; exact ⟨by simp [h1,h2],by simpa using h⟩
theorem Ab8 {n:Int} {P X:List Int} (b:Gs X) (h:Ga n false++P=X):False:=by
 unfold Ga at h
 simp only [Bool.false_eq_true,if_false] at h
 split at h
 .have:=b _ _ h.symm; omega
 .have:=b _ _ h.symm; omega
theorem Aiy {c d:Int} {f:Bool} {u:Ds} {m:List Ds} {X Y:List Int} (b:Gs X) (l:Gs Y) (h:Fq f [] c++X=Fq f (u::m) d++Y):False:=by
 simp only [Fq,tT] at h
 split at h
 .simp only [List.append_assoc] at h
  obtain ⟨_,e⟩:=Ab7 (NoM.ti _ _) (NoM.pT _ _ _) h
  unfold G9 at e
  split at e
  .obtain ⟨s,m1,k,h1⟩:=Ab5 u.Var
   obtain ⟨q,m2,g,h2⟩:=Ab4 c.natAbs
   rw [k,g] at e
   simp only [List.nil_append,List.cons_append,List.cons.injEq] at e
   omega
  .simp only [List.append_assoc,List.cons_append,List.nil_append] at e
   obtain ⟨_,g⟩:=Lj _ _ _ _ (Ft _) (Ft _) b.nonum (Ab6 _) e
   have:=b _ _ g; omega
 .rename_i i
  have j:f=false:=by cases f with | true=>simp at i | false=>rfl
  subst j
  simp only [List.nil_append,List.append_assoc] at h
  exact Ab8 b h.symm
theorem Aiz:∀(l m:List Ds) (f:Bool) (c d:Int) (X Y:List Int),Gs X->Gs Y->Fq f l c++X=Fq f m d++Y->l=m/\c=d/\X=Y
 | [],[],f,c,d,X,Y,g,b,h=>by
  simp only [Fq] at h
  split at h <;> split at h
  .simp only [List.append_assoc] at h
   obtain ⟨y,s⟩:=Ab7 (NoM.ti _ _) (NoM.ti _ _) h
   obtain ⟨q,i⟩:=Lj _ _ _ _ (Ft _) (Ft _) g.nonum b.nonum s
   have x:=O1 q
   exact ⟨rfl,by omega,i⟩
  .rename_i h1 h2
   have j:f=false:=by cases f with | true=>simp at h2 | false=>rfl
   subst j
   simp only [List.append_assoc,List.nil_append] at h
   exact (Ab8 b h).elim
  .rename_i h1 h2
   have j:f=false:=by cases f with | true=>simp at h1 | false=>rfl
   subst j
   simp only [List.append_assoc,List.nil_append] at h
   exact (Ab8 g h.symm).elim
  .rename_i h1 h2
   refine ⟨rfl,?_,by simpa using h⟩
   have a1:c=0:=by by_cases k:c=0; exact k; exact (h1 (.inl k)).elim
   have a2:d=0:=by by_cases k:d=0; exact k; exact (h2 (.inl k)).elim
   omega
 | [],u::m,f,c,d,X,Y,g,b,h=>(Aiy g b h).elim
 | t::l,[],f,c,d,X,Y,g,b,h=>(Aiy b g h.symm).elim
 | t::l,u::m,f,c,d,X,Y,g,b,h=>by
  simp only [Fq,tT,List.append_assoc] at h
  obtain ⟨y,s⟩:=Ab7 (NoM.pT _ _ _) (NoM.pT _ _ _) h
  obtain ⟨q,i,x⟩:=Ar6 (Aiw _ _ g) (Aiw _ _ b) s
  obtain ⟨B,A,z⟩:=Aiz l m false c d X Y g b x
  have:t=u:=by
   cases t; cases u
   simp only at y q i
   subst i
   congr 1; omega
  exact ⟨by rw [this,B],A,z⟩
def Fh (a:C4):List Int:=97::(ti a.Deg++58::Uc a.Lin)
def Ev (f:Cw):List Int:=G6 f.Var f.Index
def Ud (m:Bi):List Int:=m.Factors.flatMap Ev++m.Atoms.flatMap Fh
theorem Xp (l:List C4):Gs (l.flatMap Fh):=by
 cases l with
 | nil=>exact Gs.nil
 | cons a l=>simp only [List.flatMap_cons,Fh,List.cons_append]; exact Gs.cons _
theorem Xq (X:List Int):Ik (58::X):=by intro c m e; cases e; decide
theorem Ai0:∀(l m:List C4),l.flatMap Fh=m.flatMap Fh->l=m
 | [],[],_=>rfl
 | [],b::m,h=>by simp [Fh] at h
 | a::l,[],h=>by simp [Fh] at h
 | a::l,b::m,h=>by
  simp only [List.flatMap_cons,Fh,List.cons_append,List.append_assoc,List.cons.injEq,true_and] at h
  obtain ⟨s,q⟩:=Lj _ _ _ _ (Ft _) (Ft _) (Xq _) (Xq _) h
  have k:=(List.cons.inj q).2
  obtain ⟨g,f,j⟩:=Aiz _ _ true _ _ _ _ (Xp l) (Xp m) k
  have i:=Ai0 l m j
  have c:=O1 s
  obtain ⟨⟨x,t1⟩,d1⟩:=a
  obtain ⟨⟨u,t2⟩,d2⟩:=b
  simp only at g f c
  rw [g,f,c,i]
theorem Ai1 (l:List Cw) {X:List Int} (b:Gs X):My (l.flatMap Ev++X):=by
 cases l with
 | nil=>intro c m e; rw [b c m e]; exact ⟨by decide,by decide⟩
 | cons a l=>
  intro c m e
  simp only [List.flatMap_cons,Ev,G6,List.cons_append] at e
  cases e; exact ⟨by decide,by decide⟩
theorem Ai2:∀(l m:List Cw) (X Y:List Int),Gs X->Gs Y->l.flatMap Ev++X=m.flatMap Ev++Y->l=m/\X=Y
 | [],[],X,Y,_,_,h=>⟨rfl,by simpa using h⟩
 | [],b::m,X,Y,f,_,h=>by
  simp only [List.flatMap_cons,List.flatMap_nil,Ev,G6,List.cons_append,List.nil_append] at h
  have:=f _ _ h; omega
 | a::l,[],X,Y,_,c,h=>by
  simp only [List.flatMap_cons,List.flatMap_nil,Ev,G6,List.cons_append,List.nil_append] at h
  have:=c _ _ h.symm; omega
 | a::l,b::m,X,Y,f,c,h=>by
  simp only [List.flatMap_cons,Ev,G6,List.cons_append,List.append_assoc,List.cons.injEq,true_and] at h
  obtain ⟨x,u⟩:=Lj _ _ _ _ (Ft _) (Ft _) (Xq _) (Xq _) h
  have s:=(List.cons.inj u).2
  obtain ⟨i,q⟩:=Abn _ _ _ _ (Ai1 l f) (Ai1 m c) s
  obtain ⟨k,j⟩:=Ai2 l m X Y f c q
  have g:=O1 x
  obtain ⟨y,i1⟩:=a
  obtain ⟨v2,i2⟩:=b
  simp only at i g
  exact ⟨by rw [i,g,k],j⟩
theorem Ar7 {m n:Bi} (h:Ud m=Ud n):m=n:=by
 obtain ⟨c,f⟩:=Ai2 _ _ _ _ (Xp _) (Xp _) h
 have b:=Ai0 _ _ f
 cases m; cases n
 simp only at c b
 rw [c,b]
def By (l:List Int):Prop:=∀c∈l,0<=c/\c<256
theorem By.app {l m:List Int} (h:By l) (h':By m):By (l++m):=by
 intro c hc
 rcases List.mem_append.1 hc with k | k
 .exact h c k
 .exact h' c k
theorem By.ti (n:Int):By (Go.Ab.ti n):=by
 intro c h
 have:=Ft n c h
 simp only [Li,Bool.or_eq_true,C9,beq_iff_eq,decide_eq_true_eq] at this
 omega
theorem By.cons {c:Int} {l:List Int} (hc:0<=c/\c<256) (h:By l):By (c::l):=by
 intro d hd
 rcases List.mem_cons.1 hd with rfl | k
 .exact hc
 .exact h d k
theorem By.nil:By []:=fun c h=>by cases h
theorem By.sgn (n:Int) (f:Bool):By (Ga n f):=by
 unfold Ga
 split <;> split <;> intro c hc <;> simp at hc <;> omega
theorem By.mag (n:Int):By (G9 n):=by
 unfold G9
 split
 .exact By.nil
 .exact (By.ti _).app (By.cons (by omega) By.nil)
theorem By.var (n:Int):By (Gr n):=by
 unfold Gr
 split
 .intro c hc; simp at hc; omega
 .exact By.cons (by omega) (By.ti _)
theorem By.tT (f:Bool) (t:Ds):By (tT f t):=(By.sgn _ _).app ((By.mag _).app (By.var _))
theorem By.lins:∀(l:List Ds) (f:Bool) (c:Int),By (Fq f l c)
 | [],f,c=>by
  simp only [Fq]
  split
  .exact (By.sgn _ _).app (By.ti _)
  .exact By.nil
 | t::l,f,c=>(By.tT f t).app (By.lins l false c)
theorem By.at (a:C4):By (Fh a):=By.cons (by omega) ((By.ti _).app (By.cons (by omega) (By.lins _ _ _)))
theorem By.flat {α:Type} {g:α->List Int} (h:∀a,By (g a)) (l:List α):By (l.flatMap g):=by
 intro c hc
 obtain ⟨a,_,k⟩:=List.mem_flatMap.1 hc
 exact h a c k
theorem By.fac (f:Cw):By (Ev f):=Xc f.Var f.Index
theorem By.mono (m:Bi):By (Ud m):=(By.flat By.fac _).app (By.flat By.at _)
def bs (l:List Int):ByteArray:=⟨(Ej l).toArray⟩
theorem Ar8 {l m:List Int} (c:By l) (b:By m) (h:bs l=bs m):l=m:=by
 unfold bs at h
 have h1:(Ej l).toArray=(Ej m).toArray:=by injection h
 have h2:Ej l=Ej m:=by simpa using congrArg Array.toList h1
 exact Abq _ _ c b h2
def H7 (m:Bi):ByteArray:=bs (Ud m)
theorem Ai3 {m n:Bi} (h:H7 m=H7 n):m=n:=Ar7 (Ar8 (By.mono m) (By.mono n) h)
theorem Xr (l:List Int):(bs l).size=l.length:=by unfold bs Ej; simp [ByteArray.size]
theorem Ai4 {l:List Int} (h:By l):Jl (bs l)=l:=by
 unfold Jl bs Ej
 simp only [List.map_map]
 conv=>rhs; rw [<-List.map_id l]
 refine List.map_congr_left fun c hc=>?_
 have:=h c hc
 simp only [Function.comp,UInt8.toNat_ofNat',id]
 omega
theorem Ar9 (l m:List Int):bs l++bs m=bs (l++m):=by
 apply ByteArray.ext
 rw [ByteArray.data_append]
 unfold bs Ej
 simp
theorem O6 {l m:List Int} (h:l.length+m.length<=9223372036854775807):D3 (bs l) (bs m)=some (bs (l++m)):=by
 unfold D3
 rw [if_pos (by rw [Xr,Xr]; exact h),Ar9]
theorem Xs {n:Int} (h:I64 n):K1 n=some (bs (ti n)):=by
 rw [Abp h]
 congr 2
 congr 1
 unfold Ej ti
 rw [List.map_map]
 conv=>lhs; rw [<-List.map_id (Lib.itoa n)]
 refine List.map_congr_left fun c _=>?_
 simp [Function.comp]
end Go.Ab
namespace Go.Ab
open Go
theorem Xt {S E R α:Type} {step:S->Option (S⊕E)} {s0:S} {J:E->Option R} {r:R} (c:α) (xs:List α) (b:Nat->S) (h0:s0=b 0) (h:xs.length<2305843009213693952)
  (f:∀(j:Nat) (x:α),xs[j]? = some x->decide (((j+1:Nat):Int)<((c::xs).length:Int))=true->Af (c::xs) ((j+1:Nat):Int)=some x->Ad (((j+1:Nat):Int)+1)=((j+1+1:Nat):Int)->step (b j)=some (.inl (b (j+1))))
  (g:decide (((xs.length+1:Nat):Int)<((c::xs).length:Int))=false->∃e,step (b xs.length)=some (.inr e)/\J e=some r):(Ao step s0).bind J=some r:=by
 refine Kn xs.length b h0 (fun j hj=>?_) (g (by simp))
 have hx:xs[j]? = some xs[j]:=Cb hj
 exact f j _ hx (Ak (by simp only [List.length_cons]; omega)) (Ch rfl (by simp)) (Dk (n:=xs.length+1) (by omega) (by omega))
theorem bnd {α β:Type} {X:Option α} {a:α} {K:α->Option β} {r:Option β} (h:X=some a) (k:K a=r):X.bind K=r:=by rw [h]; exact k
theorem J3 {l b:List Int} (c:By l) (h:b.length+l.length<=140737488355328):E4 (bs l) b=some ((l.length:Int),b++l):=by
 simp only [E4,Qo,Ac,Ai4 c,Xr]
 rw [Cs (by omega)]; rfl
theorem Rb {l b:List Int} (c:By l) (h:b.length+l.length<=140737488355328):Hi (bs l) b=some ((l.length:Int),b++l):=by
 simp only [Hi,S9,Ac,Ai4 c,Xr]
 rw [Cs (by omega)]; rfl
theorem Rc {b:List Int} (hb:By b):Iy b=some (bs b):=by
 exact if_pos hb
theorem Asa {b:List Int} (hb:By b):Wd b=some (bs b):=Rc hb
theorem Ab9 (n:Int) (h : -1048576<=n/\n<=1048576):(G9 n).length<=22:=by
 unfold G9
 split
 .simp
 .have:=Jz (n:=(n.natAbs:Int)) (by unfold I64; omega)
  simp; omega
theorem Xu (n:Int) (f:Bool):(Ga n f).length<=3:=by unfold Ga; split <;> split <;> simp
theorem Asb {v:Int} (h : -1<=v/\v<3000):(Gr v).length<=22:=by
 unfold Gr
 split
 .simp
 .have:=Jz (n:=v) (by unfold I64; omega)
  simp; omega
structure Ai5 (a:Di):Prop where
 c : -1048576<=a.Const/\a.Const<=1048576
 n:a.Terms.length<=16
 t:∀t∈a.Terms,(-1<=t.Var/\t.Var<3000)/\(-1048576<=t.Coef/\t.Coef<=1048576)
theorem Aca {a:Di} (h:G7 a=true):Ai5 a:=by
 unfold G7 at h
 simp only [C9,decide_eq_true_eq] at h
 refine ⟨⟨h.1.1,h.1.2.1⟩,h.1.2.2,fun t ht=>?_⟩
 obtain ⟨j,hj⟩:=List.getElem?_of_mem ht
 have:=G0 h.2 hj
 simp only [Q6,C9,decide_eq_true_eq] at this
 omega
theorem Acb {t:Ds} (f:Bool) (h:(-1<=t.Var/\t.Var<3000)/\(-1048576<=t.Coef/\t.Coef<=1048576)):(tT f t).length<=47:=by
 have:=Xu t.Coef f
 have:=Ab9 t.Coef h.2
 have:=Asb h.1
 unfold tT
 simp only [List.length_append]; omega
theorem Ai6 {n:Int} (h : -1048576<=n/\n<=1048576):(if Ad (0-n)>n then Ad (0-n) else n)=(n.natAbs:Int):=by
 rw [Ad,Bt (by omega) (by omega)]; split <;> omega
theorem c45:ByteArray.mk #[45]=bs [45]:=rfl
theorem Asc:ByteArray.mk #[32,45,32]=bs [32,45,32]:=rfl
theorem Asd:ByteArray.mk #[32,43,32]=bs [32,43,32]:=rfl
theorem c42:ByteArray.mk #[42]=bs [42]:=rfl
theorem Ai7:ByteArray.mk #[118]=bs [118]:=rfl
theorem c97:ByteArray.mk #[97]=bs [97]:=rfl
theorem c58:ByteArray.mk #[58]=bs [58]:=rfl
theorem Ai8:ByteArray.mk #[114,101,115]=bs [114,101,115]:=rfl
theorem Ai9:By [45]:=By.cons (by omega) By.nil
theorem by3 (a b c:Int) (ha:0<=a/\a<256) (hb:0<=b/\b<256) (hc:0<=c/\c<256):By [a,b,c]:=By.cons ha (By.cons hb (By.cons hc By.nil))
theorem Aja {n:Int} (f:Bool) {b:List Int} (c : -1048576<=n/\n<=1048576) (hb:b.length<=1099511627776):Tq n f b=some ((n.natAbs:Int),b++Ga n f):=by
 unfold Tq Ga
 rw [Ai6 c,c45,Asc,Asd]
 rw [J3 Ai9 (by simp; omega),J3 (by3 _ _ _ (by omega) (by omega) (by omega)) (by simp; omega),J3 (by3 _ _ _ (by omega) (by omega) (by omega)) (by simp; omega)]
 by_cases h:n<0
 .rw [Ak h,if_pos h,if_pos h]; cases f <;> rfl
 .rw [Al h,if_neg h,if_neg h]; cases f <;> simp
theorem Ase {n:Int} {b:List Int} (c : -1048576<=n/\n<=1048576) (hb:b.length<=1099511627776):Oc n true b=some (if n<0 then .inl ((n.natAbs:Int),b++[45]) else .inr ((n.natAbs:Int),b)):=by
 unfold Oc
 rw [Ai6 c,c45,Rb Ai9 (by simp; omega)]
 by_cases h:n<0
 .rw [Ak h,if_pos h]; rfl
 .rw [Al h,if_neg h]; rfl
theorem Acd {n:Nat} (h:n<=1048576):Js (n:Int) 10=some (bs (ti n)):=by
 unfold Js Vg
 exact Xs (by unfold I64; omega)
theorem Xv {n:Nat} (h:n<=1048576):(ti (n:Int)).length<=21:=Jz (by unfold I64; omega)
theorem Ajb {n:Int} {b:List Int} (c : -1048576<=n/\n<=1048576) (hb:b.length<=1099511627776) :
  (bif ((n.natAbs:Int) != (1:Int)) then (Js (n.natAbs:Int) 10).bind fun v=>(D3 v (ByteArray.mk #[42])).bind fun u=>(E4 u b).bind fun w=>some w.2 else some b)=some (b++G9 n):=by
 have ht:=Xv (n:=n.natAbs) (by omega)
 unfold G9
 by_cases h:n.natAbs=1
 .rw [Cz (by omega),if_pos h]; simp
 .rw [Cv (by omega),if_neg h,Acd (by omega),c42]
  simp only [cond_true,Ac]
  rw [O6 (by simp; omega),Ac,J3 ((By.ti _).app (By.cons (by omega) By.nil)) (by simp; omega)]; rfl
theorem Ace {v:Int} {b:List Int} {R:Type} (K:List Int->Option R) (c : -1<=v/\v<3000) (hb:b.length<=1099511627776) :
  (bif (v==(-1)) then (E4 (ByteArray.mk #[114,101,115]) b).bind fun w=>K w.2 else (F4 v).bind fun x=>(D3 (ByteArray.mk #[118]) x).bind fun y=>(E4 y b).bind fun w=>K w.2)=K (b++Gr v):=by
 have ht:=Jz (n:=v) (by unfold I64; omega)
 unfold Gr
 by_cases h:v = -1
 .rw [Eh h,if_pos h,Ai8,J3 (by3 _ _ _ (by omega) (by omega) (by omega)) (by simp; omega)]; rfl
 .rw [Ci h,if_neg h,Ai7]
  simp only [cond_false,F4]
  rw [Xs (by unfold I64; omega),Ac,O6 (by simp; omega),Ac]
  rw [show [118]++ti v=118::ti v from rfl,J3 (By.cons (by omega) (By.ti _)) (by simp; omega)]; rfl
theorem Xw {α:Type} {g:α->List Int} {l:List α} {j:Nat} {x:α} (h:l[j]? = some x):(l.take (j+1)).flatMap g=(l.take j).flatMap g++g x:=by
 rw [C5 h]; simp
theorem Ajc {α:Type} {g:α->List Int} {n:Nat}:∀(l:List α),(∀a∈l,(g a).length<=n)->(l.flatMap g).length<=l.length*n
 | [],_=>by simp
 | a::l,h=>by
  have h1:=h a (by simp)
  have h2:=Ajc l fun b hb=>h b (by simp [hb])
  simp only [List.flatMap_cons,List.length_append,List.length_cons,Nat.add_mul]; omega
theorem Acf {α:Type} {g:α->List Int} {n:Nat} (l:List α) (j:Nat) (h:∀a∈l,(g a).length<=n):((l.take j).flatMap g).length<=l.length*n:=by
 refine Nat.le_trans (Ajc _ fun a ha=>h a (List.mem_of_mem_take ha)) (Nat.mul_le_mul_right _ ?_)
 rw [List.length_take]; omega
theorem Ajd:∀(ts:List Ds) (c:Int),Fq false ts c=ts.flatMap (tT false)++Fq false [] c
 | [],c=>by simp
 | t::ts,c=>by
  have:=Ajd ts c
  simp only [List.flatMap_cons,List.append_assoc,<-this]; rfl
theorem Asf {a:Di} (h:G7 a=true) (B:a.Terms≠[]):La a=some (bs (Uc a)):=by
 have z:=Aca h
 unfold La
 rw [Ah3,h]
 obtain ⟨c,l⟩:=a
 cases l with
 | nil=>exact (B rfl).elim
 | cons t ts=>
  have hc : -1048576<=c/\c<=1048576:=z.c
  have M:ts.length<=15:=by have:=z.n; simp at this; omega
  have ht:(-1<=t.Var/\t.Var<3000)/\(-1048576<=t.Coef/\t.Coef<=1048576):=z.t t (by simp)
  have s:∀u∈ts,(-1<=u.Var/\u.Var<3000)/\(-1048576<=u.Coef/\u.Coef<=1048576):=fun u hu=>z.t u (by simp [hu])
  have x:=fun j=>Acf (g:=tT false) (n:=47) ts j (fun u hu=>Acb false (s u hu))
  have J:=Acb true ht
  simp only [Ac,bnt,cond_false]
  rw [Ak (by simp only [List.length_cons]; omega),cond_true]
  refine bnd (a:=((t.Coef.natAbs:Int),tT true t)) ?_ ?_
  .rw [show Af (t::ts) 0=some t from rfl,Ac,Ase ht.2 (by simp),Ac]
   have G:=Jz (n:=t.Var) (by unfold I64; omega)
   have I:=Xv (n:=t.Coef.natAbs) (by omega)
   have D:=Ab9 t.Coef ht.2
   by_cases q:t.Coef<0
   .rw [if_pos q]
    simp only
    rw [Ajb ht.2 (by simp),Ac]
    refine (Ace (fun b=>some ((t.Coef.natAbs:Int),b)) ht.1 (by simp; omega)).trans ?_
    simp [tT,Ga,q]
   .rw [if_neg q]
    simp only
    by_cases h1:t.Coef.natAbs=1
    .rw [Cz (by omega)]
     simp only [cond_false]
     by_cases y:t.Var = -1
     .rw [Eh y,Ai8,cond_true,Rb (by3 _ _ _ (by omega) (by omega) (by omega)) (by simp)]
      simp [tT,Ga,q,G9,h1,Gr,y]
     .rw [Ci y,cond_false,Ai7,F4,Xs (by unfold I64; omega),Ac,O6 (by simp; omega),Ac,show [118]++ti t.Var=118::ti t.Var from rfl,
       Rb (By.cons (by omega) (By.ti _)) (by simp; omega)]
      simp [tT,Ga,q,G9,h1,Gr,y]
    .rw [Cv (by omega)]
     simp only [cond_true]
     rw [Acd (by omega),Ac,c42,O6 (by simp; omega),Ac,Rb ((By.ti _).app (By.cons (by omega) By.nil)) (by simp; omega),Ac]
     refine (Ace (fun b=>some ((t.Coef.natAbs:Int),b)) ht.1 (by simp; omega)).trans ?_
     simp [tT,Ga,q,G9,h1]
  .simp only
   refine Xt t ts (fun j=>(((j+1:Nat):Int),tT true t++(ts.take j).flatMap (tT false))) (by simp [Ad,Bt]) (by omega) ?_ ?_
   .intro j u hu h1 h2 h3
    have f:=s u (B3 hu)
    have:=x j
    have D:=Ab9 u.Coef f.2
    have A:=Xu u.Coef false
    simp only [h1,h2,h3,cond_true,Ac]
    rw [Ci (by omega),Aja false f.2 (by simp only [List.length_append]; omega),Ac,Ajb f.2 (by simp only [List.length_append]; omega),Ac]
    refine (Ace (R:=(Int×List Int)⊕List Int) (fun b=>some (.inl (((j+1+1:Nat):Int),b))) f.1 (by simp only [List.length_append]; omega)).trans ?_
    rw [Xw hu]
    simp [tT]
   .intro h1
    have h2:=x ts.length
    rw [List.take_length] at h2
    refine ⟨tT true t++ts.flatMap (tT false),by simp only [h1,cond_false,List.take_length],?_⟩
    have E:By (tT true t++ts.flatMap (tT false)):=(By.tT _ _).app (By.flat (By.tT _) _)
    have e:Uc ⟨c,t::ts⟩=tT true t++ts.flatMap (tT false)++Fq false [] c:=by
     have:=Ajd ts c
     rw [List.append_assoc,<-this]; rfl
    rw [e]
    have k:((((t::ts).length:Nat):Int)==(0:Int))=false:=Ci (by simp only [List.length_cons]; omega)
    by_cases i:c=0
    .simp only [Cz i,cond_false,k,Ac]
     rw [Rc E]
     simp [Fq,i]
    .have L:=Xv (n:=c.natAbs) (by omega)
     have A:=Xu c false
     simp only [Cv i,cond_true,Ac,k]
     rw [Aja false hc (by simp only [List.length_append]; omega),Ac,Acd (by omega),Ac,J3 (By.ti _) (by simp only [List.length_append]; omega),Ac,
      Rc ((E.app (By.sgn _ _)).app (By.ti _))]
     simp [Fq,i]
theorem Aje {a:Di} (h:Ai5 a):(Uc a).length<=1024:=by
 have key:∀(l:List Ds) (f:Bool),(∀t∈l,(-1<=t.Var/\t.Var<3000)/\(-1048576<=t.Coef/\t.Coef<=1048576))->(Fq f l a.Const).length<=47*l.length+24:=by
  intro l
  induction l with
  | nil=>
   intro f _
   have h1:=Xv (n:=a.Const.natAbs) (by have:=h.c; omega)
   have h2:=Xu a.Const f
   simp only [Fq]
   split <;> simp <;> omega
  | cons t l ih=>
   intro f b
   have h1:=Acb f (b t (by simp))
   have h2:=ih false fun u hu=>b u (by simp [hu])
   simp only [Fq,List.length_append,List.length_cons]; omega
 have:=key a.Terms true h.t
 have:=h.n
 unfold Uc; omega
structure CMo (m:Bi):Prop where
 sz:MSz m
 nf:m.Factors.length<=6
 na:m.Atoms.length<=6
 al:∀a∈m.Atoms,G7 a.Lin=true/\a.Lin.Terms≠[]/\1<=a.Deg/\a.Deg<=6
theorem Xx {R:Type} {a:C4} (K:ByteArray->Option R) (h:G7 a.Lin=true/\a.Lin.Terms≠[]/\1<=a.Deg/\a.Deg<=6) :
  ((F4 a.Deg).bind fun u=>(D3 (ByteArray.mk #[97]) u).bind fun v=>(D3 v (ByteArray.mk #[58])).bind fun w=>(La a.Lin).bind fun x=>(D3 w x).bind fun y=>K y)=K (bs (Fh a)):=by
 have h1:=Jz (n:=a.Deg) (by unfold I64; omega)
 have h2:=Aje (Aca h.1)
 rw [F4,Xs (by unfold I64; omega),Ac,c97,O6 (by simp; omega),Ac,c58,O6 (by simp; omega),Ac,Asf h.1 h.2.1,Ac,O6 (by simp; omega),Ac]
 simp [Fh]
theorem Ue {a:C4} (h:G7 a.Lin=true/\a.Lin.Terms≠[]/\1<=a.Deg/\a.Deg<=6):(Fh a).length<=1100:=by
 have h1:=Jz (n:=a.Deg) (by unfold I64; omega)
 have h2:=Aje (Aca h.1)
 simp [Fh]; omega
theorem Acg {f:Cw} (h:Co f.Index<=1048576) (b:iR f.Index/\I64 f.Var):(Ev f).length<=33554432:=by
 have h1:=Jz b.2
 have h2:=Abo f.Index b.1
 simp [Ev,G6]; omega
theorem Asg {m:Bi} (h:CMo m):Si m=some (H7 m):=by
 obtain ⟨fs,c⟩:=m
 have q:∀f∈fs,Co f.Index<=1048576/\iR f.Index/\I64 f.Var:=fun f i=>⟨h.sz.fi f i,h.sz.fr f i⟩
 have u:∀a∈c,G7 a.Lin=true/\a.Lin.Terms≠[]/\1<=a.Deg/\a.Deg<=6:=h.al
 have nf:fs.length<=6:=h.nf
 have na:c.length<=6:=h.na
 have A:=fun (l:List Cw) (x:∀f∈l,f∈fs) (j:Nat)=>Acf (g:=Ev) (n:=33554432) l j (fun f i=>Acg (q f (x f i)).1 (q f (x f i)).2)
 have D:=fun (l:List C4) (x:∀a∈l,a∈c) (j:Nat)=>Acf (g:=Fh) (n:=1100) l j (fun a ha=>Ue (u a (x a ha)))
 have N:∀l:List Cw,By (l.flatMap Ev):=fun l=>By.flat By.fac l
 have G:∀l:List C4,By (l.flatMap Fh):=fun l=>By.flat By.at l
 have key:∀f:Cw,f∈fs->Mf f.Var f.Index=some (bs (Ev f)):=fun f i=>Ahu f.Var f.Index (q f i).2.2 (q f i).2.1 (q f i).1
 unfold Si H7 Ud
 cases fs with
 | nil=>
  rw [Al (by simp),cond_false]
  cases c with
  | nil=>
   rw [Al (by simp),cond_false]
   rw [Asa By.nil]; rfl
  | cons a c=>
   have ha:=u a (by simp)
   have y:=Ue ha
   rw [Ak (by simp only [List.length_cons]; omega),cond_true,show Af (a::c) 0=some a from rfl,Ac]
   refine (Xx _ ha).trans ?_
   rw [Rb (By.at a) (by simp; omega),Ac]
   refine Xt a c (fun j=>(((j+1:Nat):Int),[]++Fh a++(c.take j).flatMap Fh)) (by simp [Ad,Bt]) (by simp at na; omega) ?_ ?_
   .intro j b hb h1 h2 h3
    have k:=u b (by simp [B3 hb])
    have:=Ue k
    have:=D c (fun b hb=>by simp [hb]) j
    simp at na
    simp only [h1,h2,h3,cond_true,Ac]
    refine (Xx _ k).trans ?_
    rw [J3 (By.at b) (by simp only [List.length_append,List.length_nil]; omega),Ac,Xw hb]
    simp
   .intro h1
    refine ⟨[]++Fh a++c.flatMap Fh,by simp only [h1,cond_false,List.take_length],?_⟩
    dsimp only
    rw [Rc ((By.nil.app (By.at a)).app (G c))]
    simp
 | cons f fs=>
  have i:=q f (by simp)
  have L:=Acg i.1 i.2
  rw [Ak (by simp only [List.length_cons]; omega),cond_true,show Af (f::fs) 0=some f from rfl,Ac,key f (by simp),Ac,Rb (By.fac f) (by simp; omega),Ac]
  refine Xt f fs (fun j=>(((j+1:Nat):Int),[]++Ev f++(fs.take j).flatMap Ev)) (by simp [Ad,Bt]) (by simp at nf; omega) ?_ ?_
  .intro j g E h1 h2 h3
   have s:g∈f::fs:=by simp [B3 E]
   have:=Acg (q g s).1 (q g s).2
   have:=A fs (fun b hb=>by simp [hb]) j
   simp at nf
   simp only [h1,h2,h3,cond_true,Ac]
   rw [key g s,Ac,J3 (By.fac g) (by simp only [List.length_append,List.length_nil]; omega),Ac,Xw E]
   simp
  .intro h1
   have I:=A fs (fun b hb=>by simp [hb]) fs.length
   rw [List.take_length] at I
   simp at nf
   refine ⟨[]++Ev f++fs.flatMap Ev,by simp only [h1,cond_false,List.take_length],?_⟩
   have z:By ([]++Ev f++fs.flatMap Ev):=(By.nil.app (By.fac f)).app (N fs)
   have J:([]++Ev f++fs.flatMap Ev).length<=234881024:=by simp only [List.length_append,List.length_nil]; omega
   have M:(f::fs).flatMap Ev = []++Ev f++fs.flatMap Ev:=by simp
   rw [M]
   generalize []++Ev f++fs.flatMap Ev=B at z J
   cases c with
   | nil=>
    rw [Al (by simp),cond_false,Rc z]; simp
   | cons a c=>
    have ha:=u a (by simp)
    have y:=Ue ha
    rw [Ak (by simp only [List.length_cons]; omega),cond_true,show Af (a::c) 0=some a from rfl,Ac]
    refine (Xx _ ha).trans ?_
    rw [J3 (By.at a) (by omega),Ac]
    refine Xt a c (fun j=>(((j+1:Nat):Int),B++Fh a++(c.take j).flatMap Fh)) (by simp [Ad,Bt]) (by simp at na; omega) ?_ ?_
    .intro j b hb h1 h2 h3
     have k:=u b (by simp [B3 hb])
     have:=Ue k
     have:=D c (fun b hb=>by simp [hb]) j
     simp at na
     simp only [h1,h2,h3,cond_true,Ac]
     refine (Xx _ k).trans ?_
     rw [J3 (By.at b) (by simp only [List.length_append]; omega),Ac,Xw hb]
     simp
    .intro h1
     refine ⟨B++Fh a++c.flatMap Fh,by simp only [h1,cond_false,List.take_length],?_⟩
     dsimp only
     rw [Rc ((z.app (By.at a)).app (G c))]
     simp
end Go.Ab
namespace Go.Ab
open Go
def plc (ts:List Aj):List (ByteArray×Int):=ts.zipIdx.map fun q=>(H7 q.1.Mono,(q.2:Int))
def Dst (ts:List Aj):Prop:=ts.Pairwise fun t u=>t.Mono≠u.Mono
theorem Ash (ts:List Aj) (t:Aj):plc (ts++[t])=plc ts++[(H7 t.Mono,(ts.length:Int))]:=by
 unfold plc; simp [List.zipIdx_append]
theorem Uf (ts:List Aj) (j:Nat):(plc ts)[j]? = (ts[j]?).map fun t=>(H7 t.Mono,(j:Int)):=by
 unfold plc; simp [List.getElem?_map,List.getElem?_zipIdx]
 cases ts[j]? <;> rfl
theorem Asi {ts:List Aj} {j:Nat} {t u:Aj} (h:ts[j]? = some t) (b:u.Mono=t.Mono):plc (ts.set j u)=plc ts:=by
 apply List.ext_getElem?
 intro i
 rw [Uf,Uf,List.getElem?_set]
 by_cases e:j=i
 .subst e
  rw [if_pos rfl,if_pos (Em h),h]; simp [b]
 .rw [if_neg e]
theorem Ajf {α:Type}:∀(o:List (ByteArray×α)) (s:ByteArray) (v:α),D6 o s=false->Eg o s v=o++[(s,v)]
 | [],_,_,_=>rfl
 | p::o,s,v,h=>by
  simp only [D6,List.any_cons,Bool.or_eq_false_iff] at h
  simp only [Eg,h.1,cond_false,List.cons_append,List.cons.injEq,true_and]
  exact Ajf o s v h.2
theorem Asj {ts:List Aj} {m:Bi} (h:∀t∈ts,t.Mono≠m):D6 (plc ts) (H7 m)=false:=by
 unfold D6
 rw [List.any_eq_false]
 intro p hp
 obtain ⟨j,hj⟩:=List.getElem?_of_mem hp
 rw [Uf] at hj
 cases ht:ts[j]? with
 | none=>rw [ht] at hj; cases hj
 | some t=>
  rw [ht] at hj
  simp only [Option.map_some,Option.some.injEq] at hj
  subst hj
  intro e
  have e:=(Oz _ _).1 e
  exact h t (B3 ht) (Ai3 e).symm
theorem Ask {ts:List Aj} (hd:Dst ts) {j:Nat} {t:Aj} (h:ts[j]? = some t):D6 (plc ts) (H7 t.Mono)=true/\Gw (plc ts) (H7 t.Mono) 0=(j:Int):=by
 have hp:(plc ts)[j]? = some (H7 t.Mono,(j:Int)):=by rw [Uf,h]; rfl
 refine ⟨List.any_eq_true.2 ⟨_,B3 hp,(Oz _ _).2 rfl⟩,?_⟩
 unfold Gw
 have b:(plc ts).find? (fun p=>H7 t.Mono==p.1)=some (H7 t.Mono,(j:Int)):=by
  cases b:(plc ts).find? (fun p=>H7 t.Mono==p.1) with
  | none=>
   have:=List.find?_eq_none.1 b _ (B3 hp)
   exact (this ((Oz _ _).2 rfl)).elim
  | some q=>
   have h1:=List.find?_some b
   obtain ⟨i,hi⟩:=List.getElem?_of_mem (List.mem_of_find?_eq_some b)
   rw [Uf] at hi
   cases hu:ts[i]? with
   | none=>rw [hu] at hi; cases hi
   | some u=>
    rw [hu] at hi
    simp only [Option.map_some,Option.some.injEq] at hi
    subst hi
    have e:=Ai3 ((Oz _ _).1 h1)
    have g:i=j:=by
     have f:=Em hu
     have c:=Em h
     rw [Cb f] at hu
     rw [Cb c] at h
     rcases Nat.lt_trichotomy i j with k | k | k
     .have:=List.pairwise_iff_getElem.1 hd i j f c k
      rw [Option.some.inj hu,Option.some.inj h] at this
      exact (this e.symm).elim
     .exact k
     .have:=List.pairwise_iff_getElem.1 hd j i c f k
      rw [Option.some.inj hu,Option.some.inj h] at this
      exact (this e).elim
    subst g
    rw [e]
 rw [b]; rfl
open Classical in
theorem O7 (t:Aj) (p:List Aj) (m:Bi):cf (t::p) m=(if t.Mono=m then rq t.Coef else 0)+cf p m:=by
 simp only [cf]
 by_cases e:t.Mono=m
 .rw [if_pos (Kv.2 e),if_pos e]
 .rw [if_neg (fun h=>e (Kv.1 h)),if_neg e]
open Classical in
theorem Ajg:∀{ts:List Aj} {j:Nat} {t u:Aj},ts[j]? = some t->u.Mono=t.Mono->∀m,cf (ts.set j u) m=cf ts m+(if t.Mono=m then rq u.Coef-rq t.Coef else 0)
 | [],j,t,u,h,_,m=>by simp at h
 | s::ts,0,t,u,h,b,m=>by
  simp only [List.getElem?_cons_zero,Option.some.injEq] at h
  subst h
  rw [List.set_cons_zero,O7,O7,b]
  split <;> grind
 | s::ts,j+1,t,u,h,b,m=>by
  simp only [List.getElem?_cons_succ] at h
  rw [List.set_cons_succ,O7,O7,Ajg h b m]
  grind
theorem Dst.set {ts:List Aj} (h:Dst ts) {j:Nat} {t u:Aj} (ht:ts[j]? = some t) (b:u.Mono=t.Mono):Dst (ts.set j u):=by
 have e:(ts.set j u).map (·.Mono)=ts.map (·.Mono):=by
  apply List.ext_getElem?
  intro i
  rw [List.getElem?_map,List.getElem?_map,List.getElem?_set]
  by_cases e:j=i
  .subst e; rw [if_pos rfl,if_pos (Em ht),ht]; simp [b]
  .rw [if_neg e]
 have k:∀l:List Aj,Dst l↔(l.map (·.Mono)).Pairwise (·≠·):=fun l=>by rw [List.pairwise_map]; exact Iff.rfl
 rw [k,e,<-k]; exact h
structure Col (k:Nat) (P:Bi->Prop) (ts:List Aj):Prop where
 dst:Dst ts
 tb:∀t∈ts,RB k t.Coef
 mo:∀t∈ts,P t.Mono
theorem Col.nil (k:Nat) (P:Bi->Prop):Col k P []:=⟨List.Pairwise.nil,fun _ h=>(by cases h),fun _ h=>(by cases h)⟩
theorem Xy {k0 k:Nat} {P:Bi->Prop} (L:∀m,P m->CMo m) (l ts:List Aj) (B:Col k0 P ts) (J:∀t∈l,RB k t.Coef/\P t.Mono) (hk:k<=k0) (U:k0+l.length*(k+3)<34359738000) (S:ts.length+l.length<=1099511627776) :
  ∃f,Kf l (plc ts) ts=some (plc f,f)/\Col (k0+l.length*(k+3)) P f/\f.length<=ts.length+l.length/\∀m,cf f m=cf ts m+cf l m:=by
 unfold Kf
 refine Wi (A:=List Aj) (fun f=>(plc f,f)) ?_
 refine Eb (fun s=>∃(j:Nat) (u:List Aj),s=((j:Int),plc u,u)/\j<=l.length/\Col (k0+j*(k+3)) P u/\u.length<=ts.length+j/\∀m,cf u m=cf ts m+cf (l.take j) m) (fun s=>l.length-s.1.toNat)
  (fun z=>∃u,z=(plc u,u)/\Col (k0+l.length*(k+3)) P u/\u.length<=ts.length+l.length/\∀m,cf u m=cf ts m+cf l m) ⟨0,ts,rfl,by omega,by simpa using B,by omega,fun m=>by simp only [List.take_zero,cf]; grind⟩ ?_ ?_
 .rintro _ ⟨j,u,rfl,hj,hu,y,q⟩
  rcases Nat.lt_or_ge j l.length with h | h
  .have hx:l[j]? = some l[j]:=Cb h
   generalize l[j]=x at hx
   obtain ⟨hb,G⟩:=J x (B3 hx)
   have E:j*(k+3)+(k+3)<=l.length*(k+3):=by rw [<-Nat.succ_mul]; exact Nat.mul_le_mul_right _ h
   have D:(j+1)*(k+3)=j*(k+3)+(k+3):=by rw [Nat.succ_mul]
   simp only [Ak (by omega:(j:Int)<(l.length:Int)),cond_true,Ch rfl hx,Ac,Asg (L _ G),Dk h (by omega)]
   left
   by_cases hex:∃t∈u,t.Mono=x.Mono
   .obtain ⟨t,ht,I⟩:=hex
    obtain ⟨i,hi⟩:=List.getElem?_of_mem ht
    obtain ⟨g1,g2⟩:=Ask hu.dst hi
    rw [I] at g1 g2
    obtain ⟨c,R,_,N,V,M⟩:=Arq (hu.tb t ht) hb (by omega) (by omega)
    refine ⟨((j+1:Nat),plc (u.set i ⟨c,t.Mono⟩),u.set i ⟨c,t.Mono⟩),?_,⟨j+1,u.set i ⟨c,t.Mono⟩,rfl,by omega,⟨hu.dst.set hi rfl,?_,?_⟩,by rw [List.length_set]; omega,fun m=>?_⟩,by simp; omega⟩
    .simp only [g1,g2,cond_true,Ac,Ch rfl hi,R,F6 rfl,Asi (u:=⟨c,t.Mono⟩) hi rfl]
    .intro w hw
     rcases List.mem_or_eq_of_mem_set hw with hw | rfl
     .exact (hu.tb w hw).mono (by omega)
     .exact N.mono (by omega)
    .intro w hw
     rcases List.mem_or_eq_of_mem_set hw with hw | rfl
     .exact hu.mo w hw
     .exact hu.mo t ht
    .rw [Ajg (u:=⟨c,t.Mono⟩) hi rfl m,q m,C5 hx,Ra,O7]
     simp only [M,I,cf]
     split <;> grind
   .have g:=Asj (m:=x.Mono) (ts:=u) fun t ht e=>hex ⟨t,ht,e⟩
    refine ⟨((j+1:Nat),plc (u++[x]),u++[x]),?_,⟨j+1,u++[x],rfl,by omega,⟨?_,?_,?_⟩,by simp; omega,fun m=>?_⟩,by simp; omega⟩
    .simp only [g,cond_false,Ac]
     rw [Cs (by simp; omega),Ac,Ajf _ _ _ g,Ash]
    .refine List.pairwise_append.2 ⟨hu.dst,List.pairwise_singleton _ _,fun a ha b hb=>?_⟩
     simp only [List.mem_singleton] at hb
     subst hb
     exact fun e=>hex ⟨a,ha,e⟩
    .intro w hw
     rcases List.mem_append.1 hw with hw | hw
     .exact (hu.tb w hw).mono (by omega)
     .simp only [List.mem_singleton] at hw
      subst hw
      exact hb.mono (by omega)
    .intro w hw
     rcases List.mem_append.1 hw with hw | hw
     .exact hu.mo w hw
     .simp only [List.mem_singleton] at hw
      subst hw
      exact G
    .rw [Ra,q m,C5 hx,Ra]; grind
  .have:j=l.length:=by omega
   subst this
   rw [List.take_length] at q
   simp only [Al (by omega:¬(l.length:Int)<(l.length:Int)),cond_false]
   exact .inr ⟨_,rfl,u,rfl,hu,y,q⟩
 .rintro _ ⟨u,rfl,h1,h2,h3⟩
  exact ⟨_,rfl,u,rfl,h1,h2,h3⟩
end Go.Ab
namespace Go.Ab
open Go
theorem Asl (t u:Aj) (h:MSz t.Mono):Py t u=some (Cr t.Mono u.Mono):=by
 unfold Py
 rw [Abs _ _ h]; rfl
theorem Asm {α:Type} (A R:List α) (x y:α):((A++y::x::R).set (A.length+1) y).set A.length x=A++x::y::R:=by
 induction A with
 | nil=>rfl
 | cons a A ih=>simp only [List.cons_append,List.length_cons,List.set_cons_succ,ih]
theorem Ajh {α:Type} (A R:List α) (x:α):(A++x::R)[A.length]? = some x:=by simp
theorem Asn {α:Type} (A R:List α) (x y:α):(A++y::x::R)[A.length+1]? = some x:=by
 induction A with
 | nil=>rfl
 | cons a A ih=>simp
theorem Aso {step:Int×List Aj->Option ((Int×List Aj)⊕(Int×List Aj))} (N:Nat) (G:N<4611686018427387904)
  (b:∀(x:Aj) (R:List Aj),step (0,x::R)=some (.inr (0,x::R)))
  (l:∀(A R:List Aj) (x y:Aj),(∀t∈A++y::x::R,MSz t.Mono)->(A++y::x::R).length<=N->step (((A.length+1:Nat):Int),A++y::x::R) =
   if Cr x.Mono y.Mono<0 then some (.inl ((A.length:Int),A++x::y::R)) else some (.inr (((A.length+1:Nat):Int),A++y::x::R))) :
  ∀(n:Nat) (A R:List Aj) (x:Aj),A.length=n->(∀t∈A++x::R,MSz t.Mono)->(A++x::R).length<=N ->
   ∃f i,Ao step ((A.length:Int),A++x::R)=some ((f.length:Int),f++x::(i++R))/\A=f++i/\(∀a∈i,ltT x a)/\∀q y,f=q++[y]->¬ltT x y:=by
 intro n
 induction n with
 | zero=>
  intro A R x g _ _
  have:A = []:=List.length_eq_zero_iff.1 g
  subst this
  exact ⟨[],[],Ey (b x R),rfl,(fun _ h=>by cases h),(fun q y h=>by simp at h)⟩
 | succ n ih=>
  intro A R x g k c
  obtain ⟨B,y,rfl⟩:∃B y,A=B++[y]:=by
   rcases List.eq_nil_or_concat A with h | ⟨B,y,h⟩
   .rw [h] at g; cases g
   .exact ⟨B,y,by simpa using h⟩
  have u:B.length=n:=by simpa using g
  have E:(B++[y])++x::R=B++y::x::R:=by simp
  have el:(((B++[y]).length:Nat):Int)=((B.length+1:Nat):Int):=by simp
  rw [E] at k c ⊢
  rw [el]
  have j:=l B R x y k c
  by_cases hc:Cr x.Mono y.Mono<0
  .rw [if_pos hc] at j
   obtain ⟨f,i,h1,h2,h3,D⟩:=ih B (y::R) x u (by
    intro t ht
    refine k t ?_
    simp only [List.mem_append,List.mem_cons] at ht ⊢
    rcases ht with h | h | h | h <;> simp [h]) (by simpa using c)
   refine ⟨f,i++[y],?_,by rw [h2]; simp,?_,D⟩
   .rw [Jk j,h1]; simp
   .intro a ha
    rcases List.mem_append.1 ha with ha | ha
    .exact h3 a ha
    .simp only [List.mem_singleton] at ha
     subst ha; exact hc
  .rw [if_neg hc] at j
   refine ⟨B++[y],[],?_,by simp,(fun _ h=>by cases h),?_⟩
   .rw [Ey j]; simp
   .intro q z s
    have:=List.append_inj' s rfl
    have e:y=z:=by simpa using this.2
    subst e; exact hc
theorem Asp {a b c:Aj} (h:ltT a b) (h':ltT b c):ltT a c:=Q9 h h'
theorem Asq {c j:List Aj} {x:Aj} (u:(c++j).Pairwise ltT) (h2:∀a∈j,ltT x a) (h1:∀g y,c=g++[y]->¬ltT x y) (hd:∀a∈c,a.Mono≠x.Mono):(c++x::j).Pairwise ltT:=by
 obtain ⟨i,s,l⟩:=List.pairwise_append.1 u
 have hx:∀a∈c,ltT a x:=by
  intro a ha
  rcases List.eq_nil_or_concat c with h | ⟨g,y,h⟩
  .rw [h] at ha; cases ha
  .have h:c=g++[y]:=by simpa using h
   have f:ltT y x:=by
    have q:=h1 g y h
    have z:=hd y (by rw [h]; simp)
    unfold ltT at *
    rcases Int.lt_trichotomy (Cr x.Mono y.Mono) 0 with k | k | k
    .exact (q k).elim
    .exact (z (Kv.1 k).symm).elim
    .exact Ab2.1 k
   rw [h] at ha i
   rcases List.mem_append.1 ha with ha | ha
   .exact Asp ((List.pairwise_append.1 i).2.2 a ha y (by simp)) f
   .simp only [List.mem_singleton] at ha
    subst ha; exact f
 refine List.pairwise_append.2 ⟨i,List.pairwise_cons.2 ⟨h2,s⟩,fun a ha b hb=>?_⟩
 rcases List.mem_cons.1 hb with rfl | hb
 .exact hx a ha
 .exact l a ha b hb
noncomputable def Ug:Int×List Aj->Option ((Int×List Aj)⊕(Int×List Aj)):=fun (v31,b)=>
 (show Option Bool from
 bif (decide (v31>(0:Int))) then (
 (Af b v31).bind fun i=>
 (Af b (Ad (v31-1))).bind fun h=>
 (Py i h).bind fun g=>
 some (decide (g<(0:Int))))
 else some false).bind fun f=>
 bif f then (
 (Af b (Ad (v31-1))).bind fun v37=>
 (Af b v31).bind fun c=>
 (Af b v31).bind fun j=>
 (Af (Cx b v31 v37) (Ad (v31-1))).bind fun v40=>
 some (.inl ((Ad (v31-1)),(Cx (Cx b v31 v37) (Ad (v31-1)) c))))
 else some (.inr (v31,b))
theorem Asr (y:Aj) (R:List Aj):Ug (0,y::R)=some (.inr (0,y::R)):=by
 unfold Ug
 simp only [Al (by omega:¬(0:Int)>0),cond_false,Ac]
theorem Ass {N:Nat} (h:N<=1099511627776) (A R:List Aj) (u y:Aj) (b:∀t∈A++y::u::R,MSz t.Mono) (c:(A++y::u::R).length<=N):Ug (((A.length+1:Nat):Int),A++y::u::R) =
  if Cr u.Mono y.Mono<0 then some (.inl ((A.length:Int),A++u::y::R)) else some (.inr (((A.length+1:Nat):Int),A++y::u::R)):=by
 have g:A.length+1<N:=by simp at c; omega
 have f:Ad (((A.length+1:Nat):Int)-1)=(A.length:Int):=by rw [Ad,Bt] <;> omega
 unfold Ug
 simp only [Ak (by omega:((A.length+1:Nat):Int)>0),cond_true,f,Ch (n:=A.length+1) rfl (Asn A R u y),Ch (n:=A.length) rfl (Ajh A (u::R) y),Ac,Asl u y (b u (by simp))]
 by_cases hc:Cr u.Mono y.Mono<0
 .rw [Ak hc,if_pos hc]
  simp only [cond_true]
  rw [F6 (n:=A.length+1) rfl,F6 (n:=A.length) rfl,Asm]
  have:Af ((A++y::u::R).set (A.length+1) y) (A.length:Int)=some y:=by
   refine Ch rfl ?_
   rw [List.getElem?_set_ne (by omega)]; exact Ajh A (u::R) y
  rw [this]; rfl
 .rw [Al hc,if_neg hc]; rfl
theorem Ast (b:List Aj) (hd:Dst b) (I:∀t∈b,MSz t.Mono) (M:b.length<=1099511627776) :
  ∃R,Ta 0 (b.length:Int) b=some R/\R.Perm b/\R.Pairwise ltT:=by
 unfold Ta
 cases b with
 | nil=>
  refine ⟨[],?_,List.Perm.refl _,List.Pairwise.nil⟩
  refine Kn 0 (fun _=>((1:Int),([]:List Aj))) (by simp [Ad,Bt]) (fun j hj=>by omega) ⟨[],?_,rfl⟩
  simp
 | cons z0 A=>
 generalize f:z0::A=b at *
 have hpos:1<=b.length:=by rw [<-f]; simp
 refine Eb (fun s=>∃(i:Nat) (S:List Aj),s=((i:Int),S++b.drop i)/\1<=i/\i<=b.length/\S.length=i/\S.Perm (b.take i)/\S.Pairwise ltT) (fun s=>b.length-s.1.toNat)
  (fun R=>R.Perm b/\R.Pairwise ltT) ⟨1,[z0],by rw [<-f]; simp [Ad,Bt],by omega,hpos,rfl,by rw [<-f]; simp,List.pairwise_singleton _ _⟩ ?_ ?_
 .rintro _ ⟨i,S,rfl,J,hi,G,c,k⟩
  rcases Nat.lt_or_ge i b.length with h | h
  .have hx:b[i]? = some b[i]:=Cb h
   generalize b[i]=x at hx
   have g:b.drop i=x::b.drop (i+1):=Lh hx
   have z:(S++x::b.drop (i+1)).length=b.length:=by simp; omega
   have y:∀t∈S++x::b.drop (i+1),t∈b:=by
    intro t ht
    rcases List.mem_append.1 ht with ht | ht
    .exact List.mem_of_mem_take (c.mem_iff.1 ht)
    .rw [<-g] at ht; exact List.mem_of_mem_drop ht
   simp only [Ak (by omega:(i:Int)<(b.length:Int)),cond_true,Dk h (by omega)]
   rw [g]
   left
   obtain ⟨q,l,h1,h2,h3,L⟩:=Aso (step:=Ug) b.length (by omega) Asr (Ass (by omega)) S.length S (b.drop (i+1)) x rfl (fun t ht=>I t (y t ht)) (by rw [z]; exact Nat.le_refl _)
   rw [G] at h1
   have hp:(q++x::l).Perm (b.take (i+1)):=by
    rw [C5 hx]
    have:(q++x::l).Perm ((q++l)++[x]):=by
     rw [List.append_assoc]
     exact List.Perm.append_left q (List.perm_append_singleton x l).symm
    exact this.trans (by rw [<-h2]; exact c.append_right [x])
   refine ⟨(((i+1:Nat):Int),(q++x::l)++b.drop (i+1)),bnd h1 (by simp),⟨i+1,q++x::l,rfl,by omega,by omega,?_,hp,?_⟩,by simp; omega⟩
   .rw [hp.length_eq,List.length_take]; omega
   .rw [h2] at k
    refine Asq k h3 L fun a ha=>?_
    have E:a∈b.take i:=c.mem_iff.1 (by rw [h2]; simp [ha])
    have B:x∈b.drop i:=by rw [g]; simp
    have D:(b.take i++b.drop i).Pairwise fun t u=>t.Mono≠u.Mono:=by rw [List.take_append_drop]; exact hd
    exact (List.pairwise_append.1 D).2.2 a E x B
  .have:i=b.length:=by omega
   subst this
   rw [List.take_length] at c
   simp only [Al (by omega:¬(b.length:Int)<(b.length:Int)),cond_false,List.drop_length,List.append_nil]
   exact .inr ⟨S,rfl,c,k⟩
 .rintro R ⟨h1,h2⟩
  exact ⟨R,rfl,h1,h2⟩
theorem Ach {α:Type} {n:Nat} {l:List α} (h:n=l.length):Kc n l=some ():=by unfold Kc; rw [if_pos h]
theorem Asu {s:ByteArray} {i:Int} (h0:0<=i) (h:i.toNat<s.size):∃c,D0 s i=some c:=by
 unfold D0
 rw [if_pos h0]
 exact ⟨_,getElem?_pos s i.toNat h⟩
set_option maxRecDepth 20000 in
theorem Asv {n:Nat} (h:n<256):∃v,Sl (Au (n:Int))=some v:=by
 unfold Sl Vz
 rw [Au,Cf (by omega) (by omega),Al (by omega)]
 simp only [cond_false,Ac]
 rw [Al (by omega)]
 simp only [cond_false,Ac]
 rw [Al (by omega)]
 simp only [cond_false,Ac]
 have b:wu8 (n:Int)=(n:Int):=by
  rw [wu8]; unfold IntKind.wrap; simp [IntKind.bits,IntKind.signed]; omega
 rw [b]
 generalize g:ByteArray.mk _=T
 have f:T.size=256:=by rw [<-g]; rfl
 obtain ⟨c,hc⟩:=Asu (s:=T) (i:=(n:Int)) (by omega) (by rw [f]; simpa using h)
 rw [hc]
 exact ⟨_,rfl⟩
theorem Asw (b:List Aj) (hd:Dst b) (f:∀t∈b,MSz t.Mono) (g:b.length<=12):∃R,Px b=some R/\R.Perm b/\R.Pairwise ltT:=by
 obtain ⟨R,h1,h2,h3⟩:=Ast b hd f (by omega)
 obtain ⟨v,c⟩:=Asv (n:=b.length) (by omega)
 refine ⟨R,?_,h2,h3⟩
 unfold Px
 rw [c,Ac]
 have hp:Ss 0 (b.length:Int) v b=some R:=by
  unfold Ss
  refine bnd (a:=R) (Ey ?_) rfl
  have w:Ad ((b.length:Int)-0)=(b.length:Int):=by rw [Ad,Bt] <;> omega
  simp only [w,Ak (by omega:(b.length:Int)<=12),cond_true,h1,Ac,Ach h2.length_eq.symm]
 rw [hp,Ac,Ach h2.length_eq.symm]; rfl
def clT (t:Aj):Aj:=⟨Bv (sv t.Coef) (nv t.Coef) (dv t.Coef),t.Mono⟩
theorem Asx {k:Nat} (p:List Aj) (hk:k<34359738000) (hp:∀t∈p,RB k t.Coef/\MSz t.Mono) (b:p.length<=1048576):Sj p=some (p.map clT):=by
 unfold Sj
 refine Fm p (fun j=>((j:Int),(p.take j).map clT)) rfl (by omega) ?_ ?_
 .intro j x hj hx h1 h2 h3
  obtain ⟨a1,a2⟩:=hp x (B3 hx)
  simp only [h1,h2,h3,cond_true,Ac,Aaw x.Coef k a1 (by omega),Ar3 x.Mono a2]
  rw [Cs (by simp; omega),Ac,C5 hx]
  simp [clT]
 .intro h1
  exact ⟨p.map clT,by simp,rfl⟩
theorem Asy (p:List Aj) (m:Bi):cf (p.map clT) m=cf p m:=by
 induction p with
 | nil=>rfl
 | cons t p ih=>
  simp only [List.map_cons,cf,ih,clT]
  rw [M3 _ _ _ (De _)]; rfl
theorem Asz {p q:List Aj} (h:p.Perm q) (m:Bi):cf p m=cf q m:=by
 induction h with
 | nil=>rfl
 | cons x _ ih=>simp only [cf,ih]
 | swap x y l=>simp only [cf]; grind
 | trans _ _ h1 h2=>rw [h1,h2]
def nzT (t:Aj):Bool:=decide (rq t.Coef≠0)
theorem As0 (p:List Aj) (m:Bi):cf (p.filter nzT) m=cf p m:=by
 induction p with
 | nil=>rfl
 | cons t p ih=>
  by_cases h:rq t.Coef=0
  .rw [List.filter_cons_of_neg (by simp [nzT,h]),ih]; simp only [cf,h]; grind
  .rw [List.filter_cons_of_pos (by simp [nzT,h])]; simp only [cf,ih]
theorem As1 (x:Rat):(Ku x != (0:Int))=decide (x≠0):=by
 unfold Ku
 by_cases h1:x<0
 .rw [if_pos h1]
  have:x≠0:=by intro e; subst e; exact absurd h1 (by decide)
  simp [this]
 .rw [if_neg h1]
  by_cases h2:0<x
  .rw [if_pos h2]
   have:x≠0:=by intro e; subst e; exact absurd h2 (by decide)
   simp [this]
  .rw [if_neg h2]
   have:x=0:=Rat.le_antisymm (Rat.not_lt.1 h2) (Rat.not_lt.1 h1)
   simp [this]
theorem As2 {α:Type} {f:α->Bool} {l:List α} {j:Nat} {x:α} (h:l[j]? = some x):(l.take (j+1)).filter f=(l.take j).filter f++(if f x then [x] else []):=by
 rw [C5 h,List.filter_append]; congr 1; cases k:f x <;> simp [List.filter,k]
theorem As3 {k:Nat} {P:Bi->Prop} (q:∀m,P m->CMo m) (o:List (ByteArray×Int)) (ts:List Aj) (h:Col k P ts) (hk:k<34359738000) (A:ts.length<=1000)
  (z:∀c:List Aj,c.length<=ts.length->Dst c->(∀t∈c,MSz t.Mono)->∃R,Px c=some R/\R.Perm c/\R.Pairwise ltT) :
  ∃R,R6 o ts=some (R,0)/\CP R/\(∀m,cf R m=cf ts m)/\(∀t∈R,P t.Mono/\RB (k+1) t.Coef)/\R.length<=ts.length:=by
 unfold R6
 have g:(ts.filter nzT).length<=ts.length:=List.length_filter_le _ _
 obtain ⟨S,y,f,s⟩:=z (ts.filter nzT) g (List.Pairwise.filter _ h.dst) (fun t ht=>(q _ (h.mo t (List.mem_filter.1 ht).1)).sz)
 have b:∀t∈S,t∈ts/\rq t.Coef≠0:=by
  intro t ht
  have:=List.mem_filter.1 (f.mem_iff.1 ht)
  exact ⟨this.1,by simpa [nzT] using this.2⟩
 refine ⟨S.map clT,?_,⟨?_,?_⟩,?_,?_,?_⟩
 .refine Fm ts (fun j=>((j:Int),(ts.take j).filter nzT)) rfl (by omega) ?_ ?_
  .intro j x hj hx h1 h2 h3
   have hb:=h.tb x (B3 hx)
   have l:((ts.take j).filter nzT).length<=ts.length:=Nat.le_trans (List.length_filter_le _ _) (by rw [List.length_take]; omega)
   simp only [h1,h2,h3,cond_true,Ac,(Aih hb hk).1,As1]
   rw [As2 hx]
   by_cases i:rq x.Coef=0
   .have:nzT x=false:=by simp [nzT,i]
    rw [Al (by simpa using i),this]; simp
   .have:nzT x=true:=by simp [nzT,i]
    rw [Ak i,this]
    simp only [cond_true]
    rw [Cs (by simp; omega)]; simp
  .intro h1
   refine ⟨ts.filter nzT,by simp only [h1,cond_false,List.take_length],?_⟩
   rw [Al (by omega)]
   simp only [cond_false]
   rw [y,Ac,Ach f.length_eq.symm,Ac,
    Asx (k:=k) S hk (fun t ht=>⟨h.tb t (b t ht).1,(q _ (h.mo t (b t ht).1)).sz⟩) (by rw [f.length_eq]; omega)]; rfl
 .rw [List.pairwise_map]; exact s
 .intro t ht
  obtain ⟨u,hu,rfl⟩:=List.mem_map.1 ht
  refine ⟨Xl _ _ _ (De _),?_⟩
  show rq (Bv _ _ _)≠0
  rw [M3 _ _ _ (De _)]; exact (b u hu).2
 .intro m
  rw [Asy,Asz f,As0]
 .intro t ht
  obtain ⟨u,hu,rfl⟩:=List.mem_map.1 ht
  exact ⟨h.mo u (b u hu).1,Agq (h.tb u (b u hu).1)⟩
 .rw [List.length_map,f.length_eq]; exact g
end Go.Ab
namespace Go.Ab
open Go
theorem As4 (x:B0) (k:CSz x) (f:List (List Aj)) (D:∀p∈f,∀t∈p,TSz t) (V:f.length<=1048576) :
  ∃r,Ke x f=some r/\(((Fz x/\∀p∈f,G8 x.Data x.Vars x.Res p=true)/\∃B,r = .inl (true,x,B,[],x.Data,x.Vars,x.Res.Kind,x.Res.Num,x.Res.Args)/\Eu x.Data x.Vars x.Res B) \/
   ((¬(Fz x/\∀p∈f,G8 x.Data x.Vars x.Res p=true))/\r = .inr false)):=by
 obtain ⟨b,b1,b2⟩:=Aha k.ds
 have R:=k.nv
 have N:=k.rs
 unfold Ke
 rw [b1,T3 x.Data x.Res 0 (by omega)]
 by_cases y:x.Vars.length<=3000
 .rw [Al (by omega)]
  simp only [cond_false,Ac]
  cases b with
  | false=>exact ⟨_,rfl,.inr ⟨fun h=>(by have:=b2.2 h.1.2.1; cases this),rfl⟩⟩
  | true=>
   have M:=b2.1 rfl
   simp only [bnt,cond_false]
   cases G:(Ef x.Data 0 x.Res&&decide (A8 x.Res<=200)) with
   | false=>exact ⟨_,rfl,.inr ⟨fun h=>(by have:=h.1.2.2.1; rw [show Gq x.Data x.Res=false from G] at this; cases this),rfl⟩⟩
   | true=>
    simp only [bnt,cond_false,Ac]
    refine Eb (fun i=>∃j:Nat,i=j/\j<=x.Vars.length/\(x.Vars.take j).all (Gq x.Data)=true) (fun i=>x.Vars.length-i.toNat)
     (fun z=>match z with | .inl r=>r=false/\¬Fz x | .inr _=>Fz x) ⟨0,rfl,by omega,by simp⟩ ?_ ?_
    .rintro i ⟨j,rfl,hj,c⟩
     rcases Nat.lt_or_ge j x.Vars.length with h | h
     .have ht:x.Vars[j]? = some x.Vars[j]:=Cb h
      generalize x.Vars[j]=t at ht
      have:=k.vs t (B3 ht)
      simp only [Ak (by omega:(j:Int)<(x.Vars.length:Int)),cond_true,Ch rfl ht,Ac,T3 x.Data t 0 (by omega),Dk h (by omega)]
      rw [show (Ef x.Data 0 t&&decide (A8 t<=200))=Gq x.Data t from rfl]
      cases J:Gq x.Data t with
      | true=>exact .inl ⟨_,rfl,⟨j+1,rfl,by omega,by rw [C5 ht,List.all_append,c]; simp [J]⟩,by simp; omega⟩
      | false=>
       refine .inr ⟨.inl false,rfl,rfl,fun E=>?_⟩
       have:=List.all_eq_true.1 E.2.2.2 t (B3 ht)
       rw [J] at this; cases this
     .have:j=x.Vars.length:=by omega
      subst this
      rw [List.take_length] at c
      exact .inr ⟨.inr (),by simp,y,M,G,c⟩
    .rintro (r | u) g
     .obtain ⟨rfl,g⟩:=g
      exact ⟨_,rfl,.inr ⟨fun h=>g h.1,rfl⟩⟩
     .have L:Fz x:=g
      simp only
      refine Eb (fun s=>∃(j:Nat) (o:List (ByteArray×Int)),s=((j:Int),o)/\j<=f.length/\Eu x.Data x.Vars x.Res o/\∀p∈f.take j,G8 x.Data x.Vars x.Res p=true) (fun s=>f.length-s.1.toNat)
       (fun z=>match z with | .inl r=>r=false/\¬(∀p∈f,G8 x.Data x.Vars x.Res p=true) | .inr o=>Eu x.Data x.Vars x.Res o/\∀p∈f,G8 x.Data x.Vars x.Res p=true)
       ⟨0,[],rfl,by omega,(fun q h=>by cases h),(fun q h=>by simp at h)⟩ ?_ ?_
      .rintro _ ⟨j,o,rfl,hj,I,c⟩
       rcases Nat.lt_or_ge j f.length with h | h
       .have ht:f[j]? = some f[j]:=Cb h
        generalize f[j]=p at ht
        have l:=B3 ht
        obtain ⟨B,U,S⟩:=Aid (L.ctx k) [] I p (D p l)
        simp only [Ak (by omega:(j:Int)<(f.length:Int)),cond_true,Ch rfl ht,Ac,U,Dk h (by omega)]
        cases A:G8 x.Data x.Vars x.Res p with
        | true=>
         refine .inl ⟨_,rfl,⟨j+1,B,rfl,by omega,S,fun q hq=>?_⟩,by simp; omega⟩
         rw [C5 ht] at hq
         rcases List.mem_append.1 hq with hq | hq
         .exact c q hq
         .simp only [List.mem_singleton] at hq
          subst hq; exact A
        | false=>
         refine .inr ⟨.inl false,rfl,rfl,fun E=>?_⟩
         have:=E p l
         rw [A] at this; cases this
       .have:j=f.length:=by omega
        subst this
        rw [List.take_length] at c
        exact .inr ⟨.inr o,by simp,I,c⟩
      .rintro (r | o) hw
       .obtain ⟨rfl,hw⟩:=hw
        exact ⟨_,rfl,.inr ⟨fun h=>hw h.2,rfl⟩⟩
       .exact ⟨_,rfl,.inl ⟨⟨L,hw.2⟩,o,rfl,hw.1⟩⟩
 .rw [Ak (by omega)]
  exact ⟨_,rfl,.inr ⟨fun h=>y h.1.1,rfl⟩⟩
theorem As5 {data:List As} {vars:List Ah} {res:Ah} {m:Bi} (h:Gp data vars res m=true) (q:MSz m):CMo m:=by
 have c:=(Arh h).2
 unfold Gp at h
 simp only [C9,decide_eq_true_eq] at h
 obtain ⟨⟨h1,h2⟩,h3⟩:=h
 have b:∀f∈m.Factors,0<=D9 data vars res f:=by
  intro f c
  obtain ⟨j,hj⟩:=List.getElem?_of_mem c
  have:=G0 h1 hj
  simp only [Lm,C9,decide_eq_true_eq] at this
  omega
 have ha:∀a∈m.Atoms,1<=a.Deg/\G7 a.Lin=true/\a.Lin.Terms≠[]:=by
  intro a ha
  obtain ⟨j,hj⟩:=List.getElem?_of_mem ha
  have:=G0 h2 hj
  simp only [Ja,C9,decide_eq_true_eq] at this
  refine ⟨this.1.1.1.1,this.1.1.1.2,fun e=>?_⟩
  have k:=this.1.1.2
  rw [e] at k; simp at k
 obtain ⟨a1,a2,a3⟩:=Ub m.Atoms fun a h=>by have:=(ha a h).1; omega
 have f1:=Aia m.Factors b
 have al:(m.Atoms.length:Int)<=D5 m.Atoms:=by
  have key:∀l:List C4,(∀a∈l,1<=a.Deg)->(l.length:Int)<=D5 l:=by
   intro l
   induction l with
   | nil=>intro _; simp [D5]
   | cons f fs ih=>
    intro i
    have h1:=i f (by simp)
    have h2:=ih (fun g s=>i g (by simp [s]))
    unfold D5 at *
    simp only [List.map_cons,List.sum_cons,List.length_cons]; omega
  exact key _ fun a h=>(ha a h).1
 exact ⟨q,c,by omega,fun a h=>⟨(ha a h).2.1,(ha a h).2.2,(ha a h).1,by have:=a3 a h; omega⟩⟩
def J4 (x:B0) (m:Bi):Prop:=Gp x.Data x.Vars x.Res m=true/\MSz m
theorem J4.cmo {x:B0} {m:Bi} (h:J4 x m):CMo m:=As5 h.1 h.2
structure Er (x:B0) (p:List Aj):Prop where
 can:G8 x.Data x.Vars x.Res p=true
 sz:∀t∈p,TSz t
theorem Er.cp {x:B0} {p:List Aj} (h:Er x p):CP p:=(O4.1 h.can).2.1
theorem Er.mo {x:B0} {p:List Aj} (h:Er x p):∀t∈p,J4 x t.Mono:=fun t ht=>⟨(O4.1 h.can).2.2 t ht,(h.sz t ht).mo⟩
theorem Er.of {x:B0} {p:List Aj} (hc:CP p) (b:∀t∈p,J4 x t.Mono) (c:∀t∈p,RB 1048576 t.Coef) (f:p.length<=1000):Er x p :=
 ⟨O4.2 ⟨f,hc,fun t ht=>(b t ht).1⟩,fun t ht=>⟨c t ht,(b t ht).2⟩⟩
theorem Er.tb {x:B0} {p:List Aj} (h:Er x p):∀t∈p,RB 1048576 t.Coef/\J4 x t.Mono:=fun t ht=>⟨(h.sz t ht).co,h.mo t ht⟩
theorem Aji {x:B0} (i:CSz x) (k:Fz x) {p q:List Aj} (hp:Er x p) (hq:Er x q):∃f,Ke x [p,q]=some (.inl (true,x,f,[],x.Data,x.Vars,x.Res.Kind,x.Res.Num,x.Res.Args)):=by
 have b:∀r∈[p,q],Er x r:=by
  intro r c
  simp only [List.mem_cons,List.not_mem_nil,or_false] at c
  rcases c with rfl | rfl <;> assumption
 obtain ⟨r,h,g⟩:=As4 x i [p,q] (fun r c=>(b r c).sz) (by simp)
 rcases g with ⟨_,f,e,_⟩ | ⟨j,_⟩
 .exact ⟨f,by rw [h,e]⟩
 .exact (j ⟨k,fun r c=>(b r c).can⟩).elim
open Classical in
theorem Ajj {α:Type}:∀(l L:List α),l.Pairwise (·≠·)->(∀a∈l,a∈L)->l.length<=L.length
 | [],L,_,_=>by simp
 | a::l,L,h,c=>by
  obtain ⟨h1,h2⟩:=List.pairwise_cons.1 h
  have ha:=c a (by simp)
  have:=Ajj l (L.erase a) h2 fun b hb=>(List.mem_erase_of_ne (h1 b hb).symm).2 (c b (by simp [hb]))
  have e:=List.length_erase_of_mem ha
  have:0<L.length:=List.length_pos_of_mem ha
  simp only [List.length_cons]; omega
theorem Ajk {x:B0} (D:CSz x) (G:Fz x) {p q:List Aj} (hp:Er x p) (hq:Er x q) (L:List Bi) (S:L.length<=12) (B:∀t∈p,t.Mono∈L) (A:∀t∈q,t.Mono∈L) :
  ∃R,Pq x p q=some (R,0)/\CP R/\(∀m,cf R m=cf p m+cf q m)/\(∀t∈R,J4 x t.Mono/\RB 4294967296 t.Coef)/\R.length<=12:=by
 obtain ⟨U,hb⟩:=Aji D G hp hq
 have M:=(O4.1 hp.can).1
 have J:=(O4.1 hq.can).1
 unfold Pq
 rw [hb]
 simp only [Ac,bnt,cond_false,Pv]
 obtain ⟨u,l,j,i,g⟩:=Xy (k0:=1048576) (k:=1048576) (P:=fun m=>J4 x m/\m∈L) (fun m h=>h.1.cmo) p [] (Col.nil _ _) (fun t ht=>⟨(hp.tb t ht).1,(hp.tb t ht).2,B t ht⟩) (Nat.le_refl _) (by omega) (by simp; omega)
 simp at i
 obtain ⟨v,f,v2,v3,v4⟩:=Xy (k:=1048576) (P:=fun m=>J4 x m/\m∈L) (fun m h=>h.1.cmo) q u j (fun t ht=>⟨(hq.tb t ht).1,(hq.tb t ht).2,A t ht⟩) (by omega) (by omega) (by omega)
 have N:v.length<=12:=by
  have:=Ajj (v.map (·.Mono)) L (by rw [List.pairwise_map]; exact v2.dst) (fun m E=>by
   obtain ⟨t,ht,rfl⟩:=List.mem_map.1 E
   exact (v2.mo t ht).2)
  rw [List.length_map] at this; omega
 obtain ⟨R,z,y,s,b,I⟩:=As3 (P:=fun m=>J4 x m/\m∈L) (fun m h=>h.1.cmo) (plc v) v v2 (by omega) (by omega) (fun c h1 h2 h3=>Asw c h2 h3 (by omega))
 rw [show Kf p [] []=some (plc u,u) from l,Ac,f,Ac,z,Ac]
 refine ⟨R,rfl,y,fun m=>?_,fun t ht=>⟨(b t ht).1.1,(b t ht).2.mono (by omega)⟩,by omega⟩
 rw [s,v4,g]; simp only [cf]; grind
theorem As6 {r:A3} {j k:Nat} (q:List Aj) (y:RB j r) (hq:∀t∈q,RB k t.Coef) (hj:j<34359738000) (hk:k<34359738000) (D:q.length<=1048576) :
  ∃x,R7 q r=some x/\x.length=q.length/\(∀m,cf x m=cf q m*rq r)/\∀t∈x,RB (k+j+2) t.Coef/\∃u∈q,u.Mono=t.Mono:=by
 unfold R7
 refine Eb (fun s=>∃(i:Nat) (o:List Aj),s=((i:Int),o)/\i<=q.length/\o.length=i/\(∀m,cf o m=cf (q.take i) m*rq r)/\∀t∈o,RB (k+j+2) t.Coef/\∃u∈q,u.Mono=t.Mono) (fun s=>q.length-s.1.toNat)
  (fun o=>o.length=q.length/\(∀m,cf o m=cf q m*rq r)/\∀t∈o,RB (k+j+2) t.Coef/\∃u∈q,u.Mono=t.Mono) ⟨0,[],rfl,by omega,rfl,(fun m=>by simp only [List.take_zero,cf]; grind),fun _ h=>by cases h⟩ ?_ ?_
 .rintro _ ⟨i,o,rfl,hi,l,b,g⟩
  rcases Nat.lt_or_ge i q.length with h | h
  .have hx:q[i]? = some q[i]:=Cb h
   generalize q[i]=t at hx
   have f:=B3 hx
   obtain ⟨c,B,_,A,E,z⟩:=Ars (hq t f) y hk hj
   simp only [Ak (by omega:(i:Int)<(q.length:Int)),cond_true,Ch rfl hx,Ac,B,Dk h (by omega)]
   rw [Cs (by simp; omega)]
   refine .inl ⟨_,rfl,⟨i+1,o++[⟨c,t.Mono⟩],rfl,by omega,by simp [l],fun m=>?_,fun w hw=>?_⟩,by simp; omega⟩
   .rw [Ra,b,C5 hx,Ra]
    simp only [cf,z]
    split <;> grind
   .rcases List.mem_append.1 hw with hw | hw
    .exact g w hw
    .simp only [List.mem_singleton] at hw
     subst hw
     exact ⟨A,t,f,rfl⟩
  .have:i=q.length:=by omega
   subst this
   rw [List.take_length] at b
   simp only [Al (by omega:¬(q.length:Int)<(q.length:Int)),cond_false]
   exact .inr ⟨_,rfl,l,b,g⟩
 .rintro o ⟨h1,h2,h3⟩
  exact ⟨_,rfl,h1,h2,h3⟩
theorem As7 {k:Nat} (ts:List Aj) (h:∀t∈ts,RB k t.Coef) (hk:k<34359738000) (f:ts.length<=1048576):R8 ts=some (ts.all fun t=>decide (0<=rq t.Coef)):=by
 have b:∀x:Rat,decide (Ku x<(0:Int)) = !decide (0<=x):=by
  intro x
  unfold Ku
  by_cases h1:x<0
  .rw [if_pos h1,Al (Rat.not_le.2 h1)]; rfl
  .rw [if_neg h1,Ak (Rat.not_lt.1 h1)]
   split <;> rfl
 have key:=Aaq ts (fun t=>!decide (0<=rq t.Coef)) (by omega) (J:=fun z=>match z with | .inl c=>some c | .inr _=>some (-1)) (step:=fun v3=>bif (decide (v3<(ts.length:Int))) then ((Af ts v3).bind fun v4=>(Sk v4).bind fun v5=>bif v5 then some (.inr (.inl v3)) else some (.inl (Ad (v3+1)))) else some (.inr (.inr ()))) (by
  intro j t ht h1 h2 h3
  simp only [h1,h2,h3,cond_true,Ac,Sk,(Aih (h t ht) hk).1,b]) (fun h=>by simp only [h]; rfl) (fun _=>rfl) rfl
 obtain ⟨i,i1,i2⟩:=key
 have e:Vy ts=some i:=i1
 unfold R8 Vt
 rw [e,Ac,Ac,i2,List.not_any_eq_all_not]
 simp
open Classical in
theorem As8 {ts:List Aj} (hd:Dst ts) {t:Aj} (ht:t∈ts):cf ts t.Mono=rq t.Coef:=by
 induction ts with
 | nil=>cases ht
 | cons u ts ih=>
  obtain ⟨h1,h2⟩:=List.pairwise_cons.1 hd
  rw [O7]
  have none:∀(l:List Aj) (m:Bi),(∀w∈l,w.Mono≠m)->cf l m=0:=fun l m h=>Ab3 fun w hw e=>h w hw (Kv.1 e)
  rcases List.mem_cons.1 ht with rfl | ht
  .rw [if_pos rfl,none ts t.Mono (fun w hw e=>h1 w hw e.symm)]; grind
  .rw [if_neg (h1 t ht),ih h2 ht]; grind
open Classical in
theorem As9 {ts:List Aj} (hd:Dst ts):(ts.all fun t=>decide (0<=rq t.Coef))=true↔∀m,0<=cf ts m:=by
 rw [List.all_eq_true]
 constructor
 .intro h m
  clear hd
  induction ts with
  | nil=>exact Rat.le_refl
  | cons t ts ih=>
   have h1:=h t (by simp)
   have h2:=ih fun u hu=>h u (by simp [hu])
   simp only [decide_eq_true_eq] at h1
   rw [O7]
   split <;> grind
 .intro h t ht
  have:=h t.Mono
  rw [As8 hd ht] at this
  simpa using this
theorem Ata:∃r,Hw (-1)=some r/\RB 1 r/\rq r = -1:=by
 refine ⟨_,Agk (-1) (by decide) (by decide),?_,?_⟩
 .exact Qu _ _ _ 1 (Km (by decide)) (Km (by decide)) (by omega)
 .rw [M3 _ _ _ (by decide)]; decide
theorem Xz {x:B0} (G:CSz x) (I:Fz x) {p q:List Aj} (hp:Er x p) (hq:Er x q) :
  ∃b,L0 x p q=some b/\(b=true↔∀m,cf q m<=cf p m):=by
 obtain ⟨M,hb⟩:=Aji G I hp hq
 have L:=(O4.1 hp.can).1
 have J:=(O4.1 hq.can).1
 unfold L0
 rw [hb]
 simp only [Ac,bnt,cond_false,Pv]
 obtain ⟨u,s,l,c,j⟩:=Xy (k0:=1048579) (k:=1048576) (P:=J4 x) (fun m h=>h.cmo) p [] (Col.nil _ _) hp.tb (by omega) (by omega) (by simp; omega)
 obtain ⟨r,A,z,y⟩:=Ata
 obtain ⟨E,D,g,B,f⟩:=As6 (k:=1048576) q z (fun t ht=>(hq.tb t ht).1) (by omega) (by omega) (by omega)
 obtain ⟨v,i,v2,v3,v4⟩:=Xy (k:=1048579) (P:=J4 x) (fun m h=>h.cmo) E u l (fun t ht=>⟨(f t ht).1,by obtain ⟨w,hw,e⟩:=(f t ht).2; rw [<-e]; exact (hq.tb w hw).2⟩) (by omega) (by rw [g]; omega) (by simp at c; omega)
 simp at c
 rw [show Kf p [] []=some (plc u,u) from s,Ac,A,Ac,D,Ac,i,Ac]
 rw [As7 v v2.tb (by rw [g]; omega) (by omega),Ac]
 refine ⟨_,rfl,(As9 v2.dst).trans ?_⟩
 have e:∀m,cf v m=cf p m-cf q m:=by
  intro m; rw [v4,j,B,y]; simp only [cf]; grind
 constructor
 .intro h m; have:=h m; rw [e] at this; grind
 .intro h m; have:=h m; rw [e]; grind
end Go.Ab
