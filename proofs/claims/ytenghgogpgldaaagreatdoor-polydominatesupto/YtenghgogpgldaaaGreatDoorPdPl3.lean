/- Plain laws: what the plain functions answer. -/
import Derived.Test.YtenghgogpgldaaaGreatDoorPdPl2
import Derived.Test.YtenghgogpgldaaaGreatDoorPdPl1
import Derived.KernelRfl
namespace Go.Ab
open Go
theorem Asw {α:Type} [DecidableEq α] (l m:List α) (b:l.length=m.length):(decide (l=m))=l.zipIdx.all (fun q=>decide (m[q.2]? = some q.1)):=by
 rw [Bool.eq_iff_iff,decide_eq_true_eq]
 constructor
 .rintro rfl
  exact W8 fun j x hx=>by simpa using hx
 .intro h
  apply List.ext_getElem?
  intro j
  cases hx:l[j]? with
  | none=>rw [List.getElem?_eq_none_iff] at hx; rw [List.getElem?_eq_none (by omega)]
  | some x=>have:=G0 h hx; rw [decide_eq_true_eq] at this; rw [this]
theorem Acu {R:Type} (l m:List Int) (b:l.length<1099511627776) (h:l.length=m.length) {J:Bool⊕Unit->Option R} {rt rf:R} (h1:J (.inl false)=some rf) (h2:J (.inr ())=some rt) :
  (An (S:=Int) (E:=(Bool⊕Unit)) (fun v3=>bif (decide (v3<(l.length:Int))) then ((Af l v3).bind fun v4=>(Af m v3).bind fun v5=>bif (v4 != v5) then some (.inr (.inl false)) else some (.inl (Ac (v3+1)))) else some (.inr (.inr ()))) 0).bind J=some (bif decide (l=m) then rt else rf):=by
 rw [Asw l m h]
 refine O1 l (fun q=>decide (m[q.2]? = some q.1)) (fun j=>(j:Int)) rfl (by omega) (rt:=rt) (rf:=rf) ?_ ?_
 .intro j x hx _ g1 g2 g3
  have hj:j<m.length:=by have:=Dd hx; omega
  have hy:m[j]? = some m[j]:=Br hj
  generalize m[j]=y at hy
  simp only [g1,g2,g3,cond_true,Ad,Cf rfl hy,hy,Option.some.injEq]
  by_cases e:x=y
  .rw [Cz e,Aj e.symm]
   exact ⟨fun _=>rfl,fun h=>by cases h⟩
  .rw [Cv e,Ap (fun h=>e h.symm)]
   exact ⟨(fun h=>by cases h),fun _=>⟨.inl false,rfl,h1⟩⟩
 .intro h _; exact ⟨.inr (),by simp only [h]; rfl,h2⟩
theorem Aje (l m:List Int) (b:l.length<1099511627776):Kk l m=some (decide (l=m)):=by
 unfold Kk
 by_cases h:l.length=m.length
 .rw [Cz (by omega)]
  simp only [cond_false]
  refine (Acu l m b h (rt:=true) (rf:=false) ?_ ?_).trans (by rw [Ll]) <;> rfl
 .rw [Cv (by omega),Ap (fun e=>h (by rw [e]))]; rfl
def Kw (a b:A5):Bool:=a.Neg==b.Neg&&decide (a.Num=b.Num)&&decide (a.Den=b.Den)
theorem X4 (a b:A5):Kw a b=true↔a=b:=by
 unfold Kw
 simp only [Db,beq_iff_eq,decide_eq_true_eq]
 constructor
 .rintro ⟨⟨h1,h2⟩,h3⟩; cases a; cases b; simp_all
 .rintro rfl; simp
theorem Asx (a b:A5) (h1:a.Num.length<1099511627776) (h2:a.Den.length<1099511627776):Sy a b=some (Kw a b):=by
 unfold Sy Kw
 cases g:(a.Neg==b.Neg) with
 | false=>rw [show (a.Neg != b.Neg)=true by simp [bne,g]]; rfl
 | true=>
  rw [show (a.Neg != b.Neg)=false by simp [bne,g]]
  simp only [cond_false]
  by_cases f:a.Num.length=b.Num.length
  .rw [Cz (by omega)]
   by_cases c:a.Den.length=b.Den.length
   .rw [Cz (by omega)]
    simp only [cond_false,Ad,Bool.true_and]
    refine (Acu a.Num b.Num h1 f (rt:=decide (a.Den=b.Den)) (rf:=false) rfl ?_).trans (by cases decide (a.Num=b.Num) <;> rfl)
    refine (Acu a.Den b.Den h2 c (rt:=true) (rf:=false) ?_ ?_).trans (by rw [Ll]) <;> rfl
   .rw [Cv (by omega),Ap (fun e:a.Den=b.Den=>c (by rw [e]))]
    simp
  .rw [Cv (by omega),Ap (fun e:a.Num=b.Num=>f (by rw [e]))]
   simp
def Pa (c:A5):Bool:=Kw (B1 (sv c) (nv c) (dv c)) c && !(nv c==0)
theorem Asy (c:A5):Pa c=(Kw c (B1 (sv c) (nv c) (dv c)) && !(nv c==0)):=by
 unfold Pa
 congr 1
 rw [Bool.eq_iff_iff,X4,X4]; exact eq_comm
structure TSz (t:Ak):Prop where
 co:RB 1048576 t.Coef
 mo:MSz t.Mono
def M8 (l:List Ak) (x:Ak) (j:Nat):Bool:=j==0||(match l[j-1]? with | some y=>decide (Cw y.Mono x.Mono<0) | none=>false)
def M9 (data:List Ax) (vars:List Ah) (res:Ah) (l:List Ak) (t:Ak) (j:Nat):Bool:=Pa t.Coef&&Gp data vars res t.Mono&&M8 l t j
def Gq (data:List Ax) (vars:List Ah) (res:Ah) (p:List Ak):Bool:=decide (p.length<=1000)&&p.zipIdx.all (fun q=>M9 data vars res p q.1 q.2)
theorem Ajf {S E:Type} (F:Bb->Bb->Option Int) (l:List Ak) (g:∀y∈l,∀x,F y.Mono x=some (Cw y.Mono x)) {x:Ak} {j:Nat} (hx:l[j]? = some x) (i:l.length<4611686018427387904) (c b:Option (S⊕E)) :
  (bif decide ((j:Int)>0) then ((Af l (Ac ((j:Int)-1))).bind fun f=>(F f.Mono x.Mono).bind fun v28=>bif decide (v28>=0) then c else b) else b)=bif M8 l x j then b else c:=by
 have hj:=Dd hx
 unfold M8
 by_cases h:j=0
 .subst h; rfl
 .rw [Aj (by omega)]
  have e:Ac ((j:Int)-1)=((j-1:Nat):Int):=by rw [Ac,Bt] <;> omega
  have hy:l[j-1]? = some l[j-1]:=Br (by omega)
  rw [e,Cf rfl hy,hy]
  have h0:(j==0)=false:=by simpa using h
  simp only [cond_true,Ad,h0,Bool.false_or,g _ (List.getElem_mem (by omega:j-1<l.length))]
  by_cases hc:Cw l[j-1].Mono x.Mono<0
  .rw [Ap (by omega),Aj hc]; rfl
  .rw [Aj (by omega),Ap hc]; rfl
theorem Ajg (s:Bool) (n:Nat):(Gm s n==0)=(n==0):=by
 unfold Gm
 by_cases h:n=0
 .rw [if_pos h]; subst h; rfl
 .rw [if_neg h]
  have:(n==0)=false:=by simpa using h
  rw [this]; cases s <;> rfl
theorem Asz {data:List Ax} {vars:List Ah} {res:Ah} (hc:M6 data vars res) {b1:List (ByteArray×Int)} (b2:List (ByteArray×List Dk)) (Y:E4 data vars res b1) (p:List Ak) (X:∀t∈p,TSz t) :
  ∃D,Sm p b1 b2 data vars res.Kind res.Num res.Args=some (Gq data vars res p,D)/\E4 data vars res D:=by
 unfold Sm Gq
 by_cases B:p.length<=1000
 .rw [Ap (by omega),Aj B,Bool.true_and]
  simp only [cond_false]
  obtain ⟨r,Z,V⟩:=T1 (M:=List (ByteArray×Int)) (R:=Bool×List (ByteArray×Int)) p (fun q=>M9 data vars res p q.1 q.2) (fun j o=>((j:Int),o)) (E4 data vars res)
   (fun r=>E4 data vars res r.2/\r.1=true) (fun r=>E4 data vars res r.2/\r.1=false) b1
   (s0:=((0:Int),b1))
   (step:=(fun (b,g)=>
    bif (decide (b<(p.length:Int))) then (
    (Af p b).bind fun v12=>
    (Mi v12.Coef).bind fun f=>
    (show Option Bool from
    bif (f.Neg==v12.Coef.Neg) then (
    (Kk f.Num v12.Coef.Num).bind fun k=>
    bif k then (
    (Kk f.Den v12.Coef.Den).bind fun i=>
    some i)
    else some false)
    else some false).bind fun I=>
    bif (!I) then some (.inr (.inl (false,g)))
    else (
    (Ik f).bind fun G=>
    bif (G==(0:Int)) then some (.inr (.inl (false,g)))
    else (
    (P5 v12.Mono g b2 data vars res.Kind res.Num res.Args).bind fun v20=>
    bif (!v20.1) then some (.inr (.inl (false,v20.2)))
    else (
    bif (decide (b>(0:Int))) then (
    (Af p (Ac (b-1))).bind fun v21=>
    (L9 v21.Mono v12.Mono).bind fun E=>
    bif (decide (E>=(0:Int))) then some (.inr (.inl (false,v20.2)))
    else some (.inl ((Ac (b+1)),v20.2)))
    else some (.inl ((Ac (b+1)),v20.2))))))
    else some (.inr (.inr g)):Int×List (ByteArray×Int)->Option ((Int×List (ByteArray×Int))⊕((Bool×List (ByteArray×Int))⊕List (ByteArray×Int)))))
   (J:=(fun z=>match z with
    | .inl (N,L)=>some (N,L)
    | .inr S=>some (true,S)))
   rfl Y (by omega) (by
    intro j t o A hx _ h1 h2 h3
    have c:=X t (Bu hx)
    obtain ⟨D,d1,d2⟩:=Asu b2 hc A t.Mono c.mo
    have u:∀l:List Int,l=(B1 (sv t.Coef) (nv t.Coef) (dv t.Coef)).Num\/l=(B1 (sv t.Coef) (nv t.Coef) (dv t.Coef)).Den->l.length<1099511627776:=by
     intro l B
     have q:=Q4 (sv t.Coef) (nv t.Coef) (dv t.Coef) 1048577 c.co.nv c.co.dv (by omega)
     have:=q.nl
     have:=q.dl
     rcases B with rfl | rfl <;> omega
    have s:(bif ((B1 (sv t.Coef) (nv t.Coef) (dv t.Coef)).Neg==t.Coef.Neg) then ((Kk (B1 (sv t.Coef) (nv t.Coef) (dv t.Coef)).Num t.Coef.Num).bind fun k=>bif k then ((Kk (B1 (sv t.Coef) (nv t.Coef) (dv t.Coef)).Den t.Coef.Den).bind fun i=>some i) else some false) else some false)=some (Kw (B1 (sv t.Coef) (nv t.Coef) (dv t.Coef)) t.Coef):=by
     unfold Kw
     rw [Aje _ _ (u _ (.inl rfl)),Aje _ _ (u _ (.inr rfl))]
     cases ((B1 (sv t.Coef) (nv t.Coef) (dv t.Coef)).Neg==t.Coef.Neg) <;> cases decide ((B1 (sv t.Coef) (nv t.Coef) (dv t.Coef)).Num=t.Coef.Num) <;> rfl
    simp only [h1,h2,h3,cond_true,Ad,Ahp t.Coef 1048576 c.co (by omega),s,Ajf L9 p (fun y hy x=>Ask y.Mono x (X y hy).mo) hx (by omega),M9,Pa]
    cases U:Kw (B1 (sv t.Coef) (nv t.Coef) (dv t.Coef)) t.Coef with
    | false=>exact ⟨(fun h=>by cases h),fun _=>⟨_,rfl,_,rfl,A,rfl⟩⟩
    | true=>
     have e:=(X4 _ _).1 U
     simp only [bnt,cond_false,Bool.true_and]
     rw [e,Ahq t.Coef 1048576 c.co (by omega),Ad,Ajg]
     cases (nv t.Coef==0) with
     | true=>exact ⟨(fun h=>by cases h),fun _=>⟨_,rfl,_,rfl,A,rfl⟩⟩
     | false=>
      simp only [cond_false,d1,Ad,Bool.not_false,Bool.true_and]
      cases Gp data vars res t.Mono with
      | false=>exact ⟨(fun h=>by cases h),fun _=>⟨_,rfl,_,rfl,d2,rfl⟩⟩
      | true=>
       cases M8 p t j with
       | true=>exact ⟨fun _=>⟨D,rfl,d2⟩,fun h=>by cases h⟩
       | false=>exact ⟨(fun h=>by cases h),fun _=>⟨_,rfl,_,rfl,d2,rfl⟩⟩) (by
    intro o A h1 _
    exact ⟨.inr o,by simp only [h1]; rfl,_,rfl,A,rfl⟩)
  refine ⟨r.2,?_,?_⟩
  .have e:some r=some (p.zipIdx.all (fun q=>M9 data vars res p q.1 q.2),r.2):=by
    rcases V with ⟨h1,h2,h3⟩ | ⟨h1,h2,h3⟩
    .rw [h1,<-h3]
    .rw [h1,<-h3]
   rw [<-e]
   exact Z
  .rcases V with ⟨h1,h2,h3⟩ | ⟨h1,h2,h3⟩ <;> exact h2
 .rw [Aj (by omega),Ap B]
  exact ⟨b1,rfl,Y⟩
theorem As0 {x:Cm} (hc:M6 x.Data x.Vars x.Res) (p:List Ak) (c:∀t∈p,TSz t):Sp x p=some (Gq x.Data x.Vars x.Res p):=by
 unfold Sp Gq
 by_cases f:p.length<=1000
 .rw [Ap (by omega),Aj f,Bool.true_and]
  simp only [cond_false]
  refine (O1 p (fun q=>M9 x.Data x.Vars x.Res p q.1 q.2) (fun j=>(j:Int)) rfl (by omega) (rt:=true) (rf:=false) ?_ ?_).trans (by rw [Ll])
  .intro j t hx _ h1 h2 h3
   have b:=c t (Bu hx)
   obtain ⟨v,g,v2⟩:=Asv hc t.Mono b.mo
   simp only [h1,h2,h3,cond_true,Ad,g,v2,Ab0 t.Coef 1048576 b.co (by omega),Ajg,O3 t.Coef 1048576 b.co (by omega),Asx t.Coef _ (by have:=b.co.nl; omega) (by have:=b.co.dl; omega),
    Ajf Jv p (fun y hy x=>X3 y.Mono x (c y hy).mo) hx (by omega),M9,Asy]
   cases Gp x.Data x.Vars x.Res t.Mono with
   | false=>exact ⟨(fun h=>by simp at h),fun _=>⟨.inl false,rfl,rfl⟩⟩
   | true=>
    cases (nv t.Coef==0) with
    | true=>exact ⟨(fun h=>by simp at h),fun _=>⟨.inl false,rfl,rfl⟩⟩
    | false=>
     cases Kw t.Coef (B1 (sv t.Coef) (nv t.Coef) (dv t.Coef)) with
     | false=>exact ⟨(fun h=>by simp at h),fun _=>⟨.inl false,rfl,rfl⟩⟩
     | true=>
      cases M8 p t j with
      | true=>exact ⟨fun _=>rfl,fun h=>by cases h⟩
      | false=>exact ⟨(fun h=>by cases h),fun _=>⟨.inl false,rfl,rfl⟩⟩
  .intro h _; exact ⟨.inr (),by simp only [h]; rfl,rfl⟩
 .rw [Aj (by omega),Ap f]; rfl
structure CSz (x:Cm):Prop where
 ds:DSz x.Data
 nv:x.Vars.length<=1048576
 vs:∀t∈x.Vars,A7 t<=1048576
 rs:A7 x.Res<=1048576
def H6 (data:List Ax) (t:Ah):Bool:=Eo data 0 t&&decide (A7 t<=200)
def H7 (x:Cm):Prop:=x.Vars.length<=3000/\G7 x.Data/\H6 x.Data x.Res=true/\x.Vars.all (H6 x.Data)=true
theorem H7.ctx {x:Cm} (h:H7 x) (f:CSz x):M6 x.Data x.Vars x.Res:=by
 refine ⟨h.2.1,f.ds.sz.short,fun v t ht=>?_,h.1⟩
 have b:∀t,H6 x.Data t=true->A7 t<=200:=fun t h=>by
  simp only [H6,Db,decide_eq_true_eq] at h; exact h.2
 unfold tyX at ht
 by_cases c:v = -1
 .rw [if_pos c] at ht; cases ht; exact b _ h.2.2.1
 .rw [if_neg c] at ht
  exact b t (List.all_eq_true.1 h.2.2.2 t (E8 ht).2.2.2)
theorem As1 (x:Cm) (c:CSz x):∃b,So x=some b/\(b=true↔H7 x):=by
 obtain ⟨b,b1,b2⟩:=Arp c.ds
 have l:=c.nv
 have k:=c.rs
 unfold So H7
 rw [b1,Ab2 x.Data x.Res 0 (by omega)]
 simp only [Ad]
 cases b with
 | false=>exact ⟨false,rfl,by simp; intro _ h; have:=b2.2 h; cases this⟩
 | true=>
  have i:=b2.1 rfl
  simp only [bnt,cond_false]
  by_cases g:x.Vars.length<=3000
  .rw [Ap (by omega)]
   simp only [cond_false,Ad]
   cases f:(Eo x.Data 0 x.Res&&decide (A7 x.Res<=200)) with
   | false=>exact ⟨false,rfl,by simp [H6,f]⟩
   | true=>
    refine ⟨x.Vars.all (H6 x.Data),?_,by rw [show H6 x.Data x.Res=true from f]; simp [g,i]⟩
    simp only [bnt,cond_false]
    refine (Lk x.Vars (H6 x.Data) (fun j=>(j:Int)) rfl (by omega) (rt:=true) (rf:=false) ?_ ?_).trans (by rw [Ll])
    .intro j t ht h1 h2 h3
     have:=c.vs t (Bu ht)
     simp only [h1,h2,h3,cond_true,Ad,Ab2 x.Data t 0 (by omega)]
     rw [show (Eo x.Data 0 t&&decide (A7 t<=200))=H6 x.Data t from rfl]
     cases H6 x.Data t with
     | true=>exact ⟨fun _=>rfl,fun h=>by cases h⟩
     | false=>exact ⟨(fun h=>by cases h),fun _=>⟨.inl false,rfl,rfl⟩⟩
    .intro h; exact ⟨.inr (),by simp only [h]; rfl,rfl⟩
  .rw [Aj (by omega)]
   exact ⟨false,rfl,by simp [g]⟩
theorem Ajh (x:Cm) (c:CSz x) (p:List Ak) (hp:∀t∈p,TSz t):∃b,P2 x p=some b/\(b=true↔H7 x/\Gq x.Data x.Vars x.Res p=true):=by
 obtain ⟨b,b1,b2⟩:=As1 x c
 unfold P2
 rw [b1,Ad]
 cases b with
 | false=>exact ⟨false,rfl,by simp; intro h; have:=b2.2 h; cases this⟩
 | true=>
  have f:=b2.1 rfl
  rw [As0 (f.ctx c) p hp]
  exact ⟨_,rfl,by simp [f]⟩
end Go.Ab
namespace Go.Ab
open Go
end Go.Ab
namespace Go.Ab
open Go
end Go.Ab
namespace Go.Ab
open Go
end Go.Ab
namespace Go.Ab
open Go
end Go.Ab
namespace Go.Ab
open Go
theorem As2 {data:List Ax} {vars:List Ah} {res:Ah} {m:Bb} (h:Gp data vars res m=true):(∀f∈m.Factors,∃t,tyX vars res f.Var=some t)/\m.Factors.length<=6:=by
 unfold Gp at h
 simp only [Db,decide_eq_true_eq] at h
 obtain ⟨⟨h1,h2⟩,h3⟩:=h
 have b:∀f∈m.Factors,1<=Ed data vars res f:=by
  intro f b
  obtain ⟨j,hj⟩:=List.getElem?_of_mem b
  have:=G0 h1 hj
  simp only [Lu,Db,decide_eq_true_eq] at this
  exact this.1
 have ha:0<=D6 m.Atoms:=(Ug m.Atoms (fun a ha=>by
  obtain ⟨j,hj⟩:=List.getElem?_of_mem ha
  have:=G0 h2 hj
  simp only [Jf,Db,decide_eq_true_eq] at this
  omega)).1
 refine ⟨fun f c=>?_,?_⟩
 .have:=b f c
  unfold Ed at this
  cases ht:tyX vars res f.Var with
  | none=>rw [ht] at this; have:(1:Int)<=-1:=this; omega
  | some t=>exact ⟨t,rfl⟩
 .have key:∀l:List Ch,(∀f∈l,1<=Ed data vars res f)->(l.length:Int)<=Df data vars res l:=by
   intro l
   induction l with
   | nil=>intro _; simp [Df]
   | cons f fs ih=>
    intro i
    have h1:=i f (by simp)
    have h2:=ih (fun g k=>i g (by simp [k]))
    unfold Df at *
    simp only [List.map_cons,List.sum_cons,List.length_cons]; omega
  have:=key m.Factors b
  omega
theorem As3 (a b:A5) (j k:Nat) (ha:RB j a) (hb:RB k b) (hj:j<34359738000) (hk:k<34359738000):∃c,Kh a b=some c/\Nz a b=some c/\RB (j+k+2) c:=by
 refine ⟨_,Ahr a b j k ha hb (by omega) (by omega),Aqj a b j k ha hb (by omega) (by omega),?_⟩
 have h1:=ha.nv
 have h2:=ha.dv
 have h3:=hb.nv
 have h:=hb.dv
 have g:=G5 (nv a) (nv b)
 have f:=G5 (dv a) (dv b)
 exact Q4 _ _ _ _ (by omega) (by omega) (by omega)
theorem As4 (a b:A5) (j k:Nat) (ha:RB j a) (hb:RB k b) (hj:j<34359738000) (hk:k<34359738000):∃c,Nw a b=some c/\Nx a b=some c/\RB (j+k+3) c:=by
 refine ⟨_,Ahs a b j k ha hb (by omega) (by omega),Aql a b j k ha hb (by omega) (by omega),?_⟩
 have h1:=ha.nv
 have h2:=ha.dv
 have h3:=hb.nv
 have s:=hb.dv
 have q:=G5 (nv a) (dv b)
 have l:=G5 (nv b) (dv a)
 have i:=G5 (dv a) (dv b)
 have f:I8 (sv a) (nv a) (dv a) (sv b) (nv b) (dv b)<=nv a*dv b+nv b*dv a:=by
  unfold I8
  split
  .omega
  .split <;> omega
 have h:=Gz f
 have g:=Abm (nv a*dv b) (nv b*dv a)
 exact Q4 _ _ _ _ (by omega) (by omega) (by omega)
end Go.Ab
namespace Go.Ab
open Go
end Go.Ab
namespace Go.Ab
open Go
end Go.Ab
namespace Go.Ab
open Go
end Go.Ab
namespace Go.Ab
open Go
def sg (s:Bool) (n:Nat):Int:=if s then -(n:Int) else n
def rq (a:A5):Rat:=mkRat (sg (sv a) (nv a)) (dv a)
def Ir (a:A5):Prop:=a=B1 (sv a) (nv a) (dv a)
theorem Pb (s:Bool) (n d:Nat) (hd:d≠0):rq (B1 s n d)=mkRat (sg s n) d:=by
 obtain ⟨g,f,h1,h2,h3,i⟩:=Ahx s n d hd
 unfold rq
 rw [Rat.mkRat_eq_iff (Ej _) hd]
 generalize nv (B1 s n d)=b at *
 generalize dv (B1 s n d)=j at *
 generalize sv (B1 s n d)=s' at *
 by_cases c:n=0
 .have:b=0:=by
   rcases Nat.eq_zero_or_pos b with h | h
   .exact h
   .have:=Nat.mul_pos (Nat.pos_of_ne_zero f) h; omega
  subst this; subst c
  cases s <;> cases s' <;> simp [sg]
 .rw [h3 c,h1,h2]
  cases s <;> simp only [sg,if_true,if_false,Bool.false_eq_true,Int.natCast_mul] <;> grind
theorem X5 (s:Bool) (n d:Nat) (hd:d≠0):Ir (B1 s n d):=by
 obtain ⟨g,b,h1,h2,h3,i⟩:=Ahx s n d hd
 unfold Ir
 generalize hc:B1 s n d=c at h1 h2 h3 i
 have e:=T5 s (nv c) (dv c) g b
 rw [<-h1,<-h2,hc] at e
 by_cases f:n=0
 .have h0:nv c=0:=by
   rcases Nat.eq_zero_or_pos (nv c) with h | h
   .exact h
   .have:=Nat.mul_pos (Nat.pos_of_ne_zero b) h; omega
  rw [h0,Abu] at e ⊢
  exact e
 .rw [h3 f]; exact e
theorem Aji (n m:Int) {d e:Nat} (hd:d≠0) (g:e≠0):mkRat n d<mkRat m e↔n*e<m*d:=by
 have c:(0:Rat)<(d:Rat):=Rat.natCast_pos.2 (by omega)
 have b:(0:Rat)<(e:Rat):=Rat.natCast_pos.2 (by omega)
 rw [Rat.mkRat_eq_div,Rat.mkRat_eq_div,Rat.div_lt_iff c]
 rw [<-Rat.mul_lt_mul_right b]
 have f:(m:Rat) / (e:Rat)*(d:Rat)*(e:Rat)=(m:Rat)*(d:Rat):=by grind
 rw [f]
 have a1:(n:Rat)*(e:Rat)=((n*(e:Int):Int):Rat):=by rw [Rat.intCast_mul]; rfl
 have a2:(m:Rat)*(d:Rat)=((m*(d:Int):Int):Rat):=by rw [Rat.intCast_mul]; rfl
 rw [a1,a2,Rat.intCast_lt_intCast]
theorem As5 {a b:A5} (ha:Ir a) (hb:Ir b) (h:rq a=rq b):a=b:=by
 unfold rq at h
 rw [Rat.mkRat_eq_iff (Ej _) (Ej _)] at h
 rw [ha,hb]
 have q:=Ej a
 have l:=Ej b
 generalize nv a=n at *
 generalize dv a=d at *
 generalize sv a=s at *
 generalize nv b=m at *
 generalize dv b=e at *
 generalize sv b=t at *
 have f:n*e=m*d/\(n≠0->s=t):=by
  have c:n≠0->0<n*e:=fun h=>Nat.mul_pos (by omega) (by omega)
  have g:m≠0->0<m*d:=fun h=>Nat.mul_pos (by omega) (by omega)
  have x:((n*e:Nat):Int)=(n:Int)*e:=by simp
  have u:((m*d:Nat):Int)=(m:Int)*d:=by simp
  cases s <;> cases t <;> simp only [sg,if_true,if_false,Bool.false_eq_true,Int.neg_mul] at h
  .exact ⟨by omega,fun _=>rfl⟩
  .have:n*e=0/\m*d=0:=by omega
   refine ⟨by omega,fun i=>?_⟩
   have:=c i; omega
  .have:n*e=0/\m*d=0:=by omega
   refine ⟨by omega,fun i=>?_⟩
   have:=c i; omega
  .exact ⟨by omega,fun _=>rfl⟩
 have k:=T5 s n d e l
 have j:=T5 t m e d q
 rw [<-k,<-j,Nat.mul_comm e n,f.1,Nat.mul_comm e d,Nat.mul_comm m d]
 refine Ap3 fun h0=>f.2 ?_
 rintro rfl
 rw [Nat.zero_mul] at f
 have:=f.1
 rw [Nat.mul_comm d m] at h0
 omega
theorem As6 (j:Bool) (c g:Nat) (i:Bool) (b f:Nat):sg (Kq j c g i b f) (I8 j c g i b f)=sg j c*f+sg i b*g:=by
 unfold Kq I8 sg
 have l:((c*f:Nat):Int)=(c:Int)*f:=by simp
 have k:((b*g:Nat):Int)=(b:Int)*g:=by simp
 cases j <;> cases i <;> simp only [if_true,if_false,Bool.false_eq_true,Bool.true_eq_false,Int.neg_mul]
 .omega
 .by_cases h:b*g<=c*f
  .simp only [if_pos h]; simp only [if_false,Bool.false_eq_true]; omega
  .simp only [if_neg h]; simp only [if_true]; omega
 .by_cases h:b*g<=c*f
  .simp only [if_pos h]; simp only [if_true]; omega
  .simp only [if_neg h]; simp only [if_false,Bool.false_eq_true]; omega
 .omega
theorem Ajj {a b:A5} {j k:Nat} (ha:RB j a) (hb:RB k b) (hj:j<34359738000) (hk:k<34359738000):∃c,Nw a b=some c/\Nx a b=some c/\RB (j+k+3) c/\Ir c/\rq c=rq a+rq b:=by
 obtain ⟨c,h1,h2,h3⟩:=As4 a b j k ha hb hj hk
 have e:=Ahs a b j k ha hb (by omega) (by omega)
 rw [h1] at e
 have e:=Option.some.inj e
 have hd:dv a*dv b≠0:=Nat.mul_ne_zero (Ej a) (Ej b)
 refine ⟨c,h1,h2,h3,?_,?_⟩
 .rw [e]; exact X5 _ _ _ hd
 .rw [e,Pb _ _ _ hd,As6,rq,rq,Rat.mkRat_add_mkRat _ _ (Ej a) (Ej b)]
theorem As7 (s t:Bool) (n m:Nat):sg (s != t) (n*m)=sg s n*sg t m:=by
 unfold sg
 cases s <;> cases t <;> simp [Int.neg_mul,Int.mul_neg]
theorem Ajk {a b:A5} {j k:Nat} (ha:RB j a) (hb:RB k b) (hj:j<34359738000) (hk:k<34359738000):∃c,Kh a b=some c/\Nz a b=some c/\RB (j+k+2) c/\Ir c/\rq c=rq a*rq b:=by
 obtain ⟨c,h1,h2,h3⟩:=As3 a b j k ha hb hj hk
 have e:=Ahr a b j k ha hb (by omega) (by omega)
 rw [h1] at e
 have e:=Option.some.inj e
 have hd:dv a*dv b≠0:=Nat.mul_ne_zero (Ej a) (Ej b)
 refine ⟨c,h1,h2,h3,?_,?_⟩
 .rw [e]; exact X5 _ _ _ hd
 .rw [e,Pb _ _ _ hd,As7,rq,rq,Rat.mkRat_mul_mkRat]
def Lv (x:Rat):Int:=if x<0 then -1 else if 0<x then 1 else 0
theorem As8 (a:A5):rq a<0↔Gm (sv a) (nv a) = -1:=by
 have e:(0:Rat)=mkRat 0 1:=by simp
 rw [rq,e,Aji _ _ (Ej a) (by decide)]
 unfold sg Gm
 split <;> split <;> simp <;> omega
theorem As9 (a:A5):0<rq a↔Gm (sv a) (nv a)=1:=by
 have e:(0:Rat)=mkRat 0 1:=by simp
 rw [rq,e,Aji _ _ (by decide) (Ej a)]
 unfold sg Gm
 split <;> split <;> simp <;> omega
theorem Ajl (a:A5):Gm (sv a) (nv a)=Lv (rq a):=by
 have h1:=As8 a
 have h2:=As9 a
 have h3:Gm (sv a) (nv a) = -1\/Gm (sv a) (nv a)=0\/Gm (sv a) (nv a)=1:=by unfold Gm; split <;> (try split) <;> simp
 unfold Lv
 split
 .rename_i h; exact h1.1 h
 .rename_i h
  split
  .rename_i h'; exact h2.1 h'
  .rename_i h'
   rcases h3 with h3 | h3 | h3
   .exact (h (h1.2 h3)).elim
   .exact h3
   .exact (h' (h2.2 h3)).elim
theorem Acv {a:A5} {k:Nat} (h:RB k a) (hk:k<34359738000):Ik a=some (Lv (rq a))/\K7 a=some (Lv (rq a)):=by
 rw [<-Ajl]
 exact ⟨Ahq a k h (by omega),Ab0 a k h (by omega)⟩
theorem Ata {a:A5} {k:Nat} (h:RB k a) (hk:k<34359738000):∃c,Mi a=some c/\Iy a=some c/\Ir c/\rq c=rq a/\RB (k+1) c :=
 ⟨_,Ahp a k h (by omega),O3 a k h (by omega),X5 _ _ _ (Ej a),Pb _ _ _ (Ej a),Ahw h⟩
end Go.Ab
namespace Go.Ab
open Go
structure Du {α:Type} (S:α->Prop) (g:α->α->Int):Prop where
 zero:∀a b,S a->S b->(g a b=0↔a=b)
 anti:∀a b,S a->S b->g b a = - g a b
 trans:∀a b c,S a->S b->S c->g a b<0->g b c<0->g a c<0
theorem Du.cmpI:Du (fun _:Int=>True) De:=by
 refine ⟨fun a b _ _=>Ep,fun a b _ _=>?_,fun a b c _ _ _=>?_⟩
 .unfold Go.Ab.De; split <;> split <;> (try split) <;> (try split) <;> omega
 .unfold Go.Ab.De; intro h1 h2; split at h1 <;> (try split at h1) <;> split at h2 <;> (try split at h2) <;> first | omega | (rw [if_pos (by omega)]; decide)
theorem Ajm {x y:Int}:C3 x y<0↔x<0\/(x=0/\y<0):=by unfold C3; split <;> omega
theorem Ajn {x y:Int}:C3 x y=0↔x=0/\y=0:=by unfold C3; split <;> omega
theorem Du.or {α β γ:Type} {S:α->Prop} {s:β->Prop} {l:γ->Prop} {j:β->β->Int} {i:γ->γ->Int} (p:α->β) (q:α->γ) (g:∀a b,p a=p b->q a=q b->a=b) (h1:Du s j) (h2:Du l i) (f:∀a,S a->s (p a)/\l (q a)) :
  Du S (fun a b=>C3 (j (p a) (p b)) (i (q a) (q b))):=by
 refine ⟨fun a b ha hb=>?_,fun a b ha hb=>?_,fun a b c ha hb hc=>?_⟩
 .rw [Ajn,h1.zero _ _ (f a ha).1 (f b hb).1,h2.zero _ _ (f a ha).2 (f b hb).2]
  exact ⟨fun h=>g a b h.1 h.2,fun h=>by subst h; exact ⟨rfl,rfl⟩⟩
 .show C3 (j (p b) (p a)) (i (q b) (q a)) = - C3 (j (p a) (p b)) (i (q a) (q b))
  have z:=h1.anti _ _ (f a ha).1 (f b hb).1
  have y:=h2.anti _ _ (f a ha).2 (f b hb).2
  rw [z,y]; unfold C3; split <;> split <;> omega
 .show C3 _ _<0->C3 _ _<0->C3 _ _<0
  simp only [Ajm]
  have u:=h1.zero _ _ (f a ha).1 (f b hb).1
  have z2:=h1.zero _ _ (f b hb).1 (f c hc).1
  have t1:=h1.trans _ _ _ (f a ha).1 (f b hb).1 (f c hc).1
  have t2:=h2.trans _ _ _ (f a ha).2 (f b hb).2 (f c hc).2
  rintro (h | ⟨h,h'⟩) (k | ⟨k,x⟩)
  .exact .inl (t1 h k)
  .rw [<-z2.1 k]; exact .inl h
  .rw [u.1 h]; exact .inl k
  .rw [<-z2.1 k,h]; exact .inr ⟨rfl,t2 h' x⟩
theorem Du.mono {α:Type} {S i:α->Prop} {g:α->α->Int} (h:Du S g) (f:∀a,i a->S a):Du i g :=
 ⟨fun a b ha hb=>h.zero a b (f a ha) (f b hb),fun a b ha hb=>h.anti a b (f a ha) (f b hb),fun a b c ha hb hc=>h.trans a b c (f a ha) (f b hb) (f c hc)⟩
theorem Du.congr {α:Type} {S:α->Prop} {g c:α->α->Int} (h:Du S g) (e:∀a b,c a b=g a b):Du S c:=by
 have:c=g:=funext fun a=>funext fun b=>e a b
 rw [this]; exact h
def LL {α:Type} (g:α->α->Int) (l m:List α):Int:=if l.length=m.length then Dt g l m else Go.Ab.De l.length m.length
theorem Ajo {α:Type} {S:α->Prop} {g:α->α->Int} (h:Du S g):∀l m:List α,l.length=m.length->(∀x∈l,S x)->(∀x∈m,S x)->(Dt g l m=0↔l=m)
 | [],[],_,_,_=>by simp [Dt]
 | x::xs,y::ys,b,h1,h2=>by
  simp only [Dt,Ajn,h.zero x y (h1 x (by simp)) (h2 y (by simp)),Ajo h xs ys (by simpa using b) (fun z c=>h1 z (by simp [c])) (fun z c=>h2 z (by simp [c])),List.cons.injEq]
 | [],_::_,b,_,_=>by simp at b
 | _::_,[],b,_,_=>by simp at b
theorem Ajp {α:Type} {S:α->Prop} {g:α->α->Int} (h:Du S g):∀l m:List α,l.length=m.length->(∀x∈l,S x)->(∀x∈m,S x)->Dt g m l = - Dt g l m
 | [],[],_,_,_=>by simp [Dt]
 | x::xs,y::ys,b,h1,h2=>by
  simp only [Dt,h.anti x y (h1 x (by simp)) (h2 y (by simp)),Ajp h xs ys (by simpa using b) (fun z c=>h1 z (by simp [c])) (fun z c=>h2 z (by simp [c]))]
  unfold C3; split <;> split <;> omega
 | [],_::_,b,_,_=>by simp at b
 | _::_,[],b,_,_=>by simp at b
theorem Ajq {α:Type} {S:α->Prop} {g:α->α->Int} (h:Du S g):∀l m n:List α,l.length=m.length->m.length=n.length->(∀x∈l,S x)->(∀x∈m,S x)->(∀x∈n,S x)->Dt g l m<0->Dt g m n<0->Dt g l n<0
 | [],[],_,_,_,_,_,_=>by intro h; simp [Dt] at h
 | x::xs,y::ys,z::j,f,i,h1,h2,h3=>by
  simp only [Dt,Ajm]
  have k:=h.zero x y (h1 x (by simp)) (h2 y (by simp))
  have z2:=h.zero y z (h2 y (by simp)) (h3 z (by simp))
  have t1:=h.trans x y z (h1 x (by simp)) (h2 y (by simp)) (h3 z (by simp))
  have t2:=Ajq h xs ys j (by simpa using f) (by simpa using i) (fun z c=>h1 z (by simp [c])) (fun z c=>h2 z (by simp [c])) (fun z c=>h3 z (by simp [c]))
  rintro (a | ⟨a,s⟩) (b | ⟨b,q⟩)
  .exact .inl (t1 a b)
  .rw [<-z2.1 b]; exact .inl a
  .rw [k.1 a]; exact .inl b
  .rw [<-z2.1 b,a]; exact .inr ⟨rfl,t2 s q⟩
 | _::_,_::_,[],_,i,_,_,_=>by simp at i
 | [],_::_,_,f,_,_,_,_=>by simp at f
 | _::_,[],_,f,_,_,_,_=>by simp at f
theorem Du.ll {α:Type} {S:α->Prop} {g:α->α->Int} (h:Du S g):Du (fun l=>∀x∈l,S x) (LL g):=by
 have c:=Du.cmpI
 refine ⟨fun a b ha hb=>?_,fun a b ha hb=>?_,fun x y z hx hy q=>?_⟩
 .unfold LL
  split
  .rename_i i; exact Ajo h a b i ha hb
  .rename_i i
   rw [Ep]
   exact ⟨fun e=>(i (by omega)).elim,fun e=>(i (by rw [e])).elim⟩
 .unfold LL
  by_cases i:a.length=b.length
  .rw [if_pos i,if_pos i.symm]; exact Ajp h a b i ha hb
  .rw [if_neg i,if_neg (fun e=>i e.symm)]; exact c.anti _ _ trivial trivial
 .unfold LL
  intro h1 h2
  have neg:∀a b:Int,Go.Ab.De a b<0->a<b:=by intro a b h; unfold Go.Ab.De at h; split at h <;> (try split at h) <;> omega
  have f:∀a b:Int,a<b->Go.Ab.De a b<0:=by intro a b h; unfold Go.Ab.De; rw [if_pos h]; decide
  by_cases k:x.length=y.length
  .rw [if_pos k] at h1
   by_cases j:y.length=z.length
   .rw [if_pos j] at h2; rw [if_pos (by omega)]; exact Ajq h x y z k j hx hy q h1 h2
   .rw [if_neg j] at h2; rw [if_neg (by omega)]
    have:=neg _ _ h2; exact f _ _ (by omega)
  .rw [if_neg k] at h1
   have:=neg _ _ h1
   by_cases j:y.length=z.length
   .rw [if_neg (by omega)]; exact f _ _ (by omega)
   .rw [if_neg j] at h2
    have:=neg _ _ h2
    rw [if_neg (by omega)]; exact f _ _ (by omega)
theorem Ajr {α:Type} (g:α->α->Int) (l m:List α) (y:Int):C3 (LL g l m) y=if l.length=m.length then C3 (Dt g l m) y else Go.Ab.De l.length m.length:=by
 unfold LL
 by_cases h:l.length=m.length
 .rw [if_pos h,if_pos h]
 .rw [if_neg h,if_neg h]
  unfold C3
  rw [if_neg (fun e=>h (by have:=Ep.1 e; omega))]
theorem Atb:Du (fun _=>True) Jb :=
 (Du.or (S:=fun _=>True) (fun t:Da=>t.Var) (fun t=>t.Coef) (fun a b h1 h2=>by cases a; cases b; cases h1; cases h2; rfl) Du.cmpI Du.cmpI (fun _ _=>⟨trivial,trivial⟩)).congr fun _ _=>rfl
theorem Atc:Du (fun _=>True) Jc :=
 (Du.or (S:=fun _=>True) (fun t:Cu=>t.Terms) (fun t=>t.Const) (fun a b h1 h2=>by cases a; cases b; cases h1; cases h2; rfl) Atb.ll Du.cmpI (fun _ _=>⟨fun _ _=>trivial,trivial⟩)).congr fun a b=>by
  show Jc a b=C3 (LL Jb a.Terms b.Terms) (Go.Ab.De a.Const b.Const)
  rw [Ajr]; rfl
theorem Atd (i j:A6):G2 i j=C3 (Go.Ab.De i.Num j.Num) (LL G2 i.Kids j.Kids):=by
 rw [Acp,X2]
 unfold C3 LL
 by_cases h:i.Num=j.Num
 .rw [if_pos h,if_pos (Ep.2 h)]
 .rw [if_neg h,if_neg (fun e=>h (Ep.1 e))]
theorem Acw:∀n:Nat,Du (fun i=>Cr i<=n) G2:=by
 intro n
 induction n with
 | zero=>exact ⟨fun a _ ha=>by have:=Fe a; omega,fun a _ ha=>by have:=Fe a; omega,fun a _ _ ha=>by have:=Fe a; omega⟩
 | succ n ih=>
  refine (Du.or (S:=fun i=>Cr i<=n+1) (fun i:A6=>i.Num) (fun i=>i.Kids) (fun a b h1 h2=>by cases a; cases b; cases h1; cases h2; rfl) Du.cmpI ih.ll ?_).congr Atd
  intro i hi
  refine ⟨trivial,fun x hx=>?_⟩
  have h1:=Ku hx
  have h2:=Fe i
  show Cr x<=n
  omega
theorem Ate:Du (fun _=>True) G2 :=
 ⟨fun a b _ _=>(Acw (max (Cr a) (Cr b))).zero a b (by show Cr a<=_; omega) (by show Cr b<=_; omega),fun a b _ _=>(Acw (max (Cr a) (Cr b))).anti a b (by show Cr a<=_; omega) (by show Cr b<=_; omega),
  fun a b c _ _ _=>(Acw (max (Cr a) (max (Cr b) (Cr c)))).trans a b c (by show Cr a<=_; omega) (by show Cr b<=_; omega) (by show Cr c<=_; omega)⟩
theorem Atf:Du (fun _=>True) Jd :=
 (Du.or (S:=fun _=>True) (fun t:Ch=>t.Var) (fun t=>t.Index) (fun a b h1 h2=>by cases a; cases b; cases h1; cases h2; rfl) Du.cmpI Ate (fun _ _=>⟨trivial,trivial⟩)).congr fun _ _=>rfl
theorem Atg:Du (fun _=>True) J5 :=
 (Du.or (S:=fun _=>True) (fun t:B4=>t.Lin) (fun t=>t.Deg) (fun a b h1 h2=>by cases a; cases b; cases h1; cases h2; rfl) Atc Du.cmpI (fun _ _=>⟨trivial,trivial⟩)).congr fun _ _=>rfl
theorem Acx:Du (fun _=>True) Cw :=
 (Du.or (S:=fun _=>True) (fun t:Bb=>t.Factors) (fun t=>t.Atoms) (fun a b h1 h2=>by cases a; cases b; cases h1; cases h2; rfl) Atf.ll Atg.ll (fun _ _=>⟨fun _ _=>trivial,fun _ _=>trivial⟩)).congr fun a b=>by
  show Cw a b=C3 (LL Jd a.Factors b.Factors) (LL J5 a.Atoms b.Atoms)
  rw [Ajr]; rfl
theorem Kx {a b:Bb}:Cw a b=0↔a=b:=Acx.zero a b trivial trivial
theorem Acy (a b:Bb):Cw b a = - Cw a b:=Acx.anti a b trivial trivial
theorem Uh {a b c:Bb} (h:Cw a b<0) (h':Cw b c<0):Cw a c<0:=Acx.trans a b c trivial trivial trivial h h'
end Go.Ab
namespace Go.Ab
open Go
theorem Ath (m:Bb):Cw m m=0:=Kx.2 rfl
theorem Ati {a b:Bb}:0<Cw a b↔Cw b a<0:=by rw [Acy a b]; omega
def cf:List Ak->Bb->Rat
 | [],_=>0
 | t::p,m=>(if Cw t.Mono m=0 then rq t.Coef else 0)+cf p m
def ltT (t u:Ak):Prop:=Cw t.Mono u.Mono<0
structure CP (p:List Ak):Prop where
 srt:p.Pairwise ltT
 coe:∀t∈p,Ir t.Coef/\rq t.Coef≠0
theorem CP.tail {t:Ak} {p:List Ak} (h:CP (t::p)):CP p:=⟨(List.pairwise_cons.1 h.srt).2,fun u hu=>h.coe u (by simp [hu])⟩
theorem CP.head {t:Ak} {p:List Ak} (h:CP (t::p)):∀u∈p,Cw t.Mono u.Mono<0:=(List.pairwise_cons.1 h.srt).1
theorem CP.nil:CP []:=⟨List.Pairwise.nil,fun _ h=>by cases h⟩
theorem CP.cons {t:Ak} {p:List Ak} (h:CP p) (h1:∀u∈p,Cw t.Mono u.Mono<0) (h2:Ir t.Coef) (h3:rq t.Coef≠0):CP (t::p) :=
 ⟨List.pairwise_cons.2 ⟨h1,h.srt⟩,fun u hu=>by
  rcases List.mem_cons.1 hu with rfl | hu
  .exact ⟨h2,h3⟩
  .exact h.coe u hu⟩
theorem Ajs {p:List Ak} {m:Bb} (h:∀t∈p,Cw t.Mono m≠0):cf p m=0:=by
 induction p with
 | nil=>rfl
 | cons t p ih=>
  simp only [cf]
  rw [if_neg (h t (by simp)),ih (fun u hu=>h u (by simp [hu]))]; grind
theorem Pc {p:List Ak} {m:Bb} (h:∀t∈p,Cw m t.Mono<0):cf p m=0 :=
 Ajs fun t ht e=>by have:=h t ht; rw [Acy,e] at this; omega
theorem Ri {t:Ak} {p:List Ak} (h:CP (t::p)):cf (t::p) t.Mono=rq t.Coef:=by
 simp only [cf]
 rw [if_pos (Ath _),Pc h.head]; grind
theorem Ajt {t:Ak} {p:List Ak} {m:Bb} (h:Cw t.Mono m≠0):cf (t::p) m=cf p m:=by
 simp only [cf]; rw [if_neg h]; grind
theorem J7 (p q:List Ak) (m:Bb):cf (p++q) m=cf p m+cf q m:=by
 induction p with
 | nil=>simp only [List.nil_append,cf]; grind
 | cons t p ih=>simp only [List.cons_append,cf,ih]; grind
theorem CP.ext:∀{p q:List Ak},CP p->CP q->(∀m,cf p m=cf q m)->p=q
 | [],[],_,_,_=>rfl
 | [],u::q,_,h2,h=>by
  have:=h u.Mono
  rw [Ri h2] at this
  exact ((h2.coe u (by simp)).2 this.symm).elim
 | t::p,[],h1,_,h=>by
  have:=h t.Mono
  rw [Ri h1] at this
  exact ((h1.coe t (by simp)).2 this).elim
 | t::p,u::q,h1,h2,h=>by
  have b:Cw t.Mono u.Mono=0:=by
   rcases Int.lt_trichotomy (Cw t.Mono u.Mono) 0 with k | k | k
   .have e:=h t.Mono
    rw [Ri h1,Pc (p:=u::q)] at e
    .exact ((h1.coe t (by simp)).2 e).elim
    .intro w hw
     rcases List.mem_cons.1 hw with rfl | hw
     .exact k
     .exact Uh k (h2.head w hw)
   .exact k
   .have k:=Ati.1 k
    have e:=h u.Mono
    rw [Ri h2,Pc (p:=t::p)] at e
    .exact ((h2.coe u (by simp)).2 e.symm).elim
    .intro w hw
     rcases List.mem_cons.1 hw with rfl | hw
     .exact k
     .exact Uh k (h1.head w hw)
  have c:=Kx.1 b
  have hc:t.Coef=u.Coef:=by
   refine As5 (h1.coe t (by simp)).1 (h2.coe u (by simp)).1 ?_
   have e:=h t.Mono
   rw [Ri h1,c,Ri h2] at e
   exact e
  have ht:t=u:=by cases t; cases u; simp_all
  subst ht
  congr 1
  refine CP.ext h1.tail h2.tail fun m=>?_
  by_cases e:Cw t.Mono m=0
  .rw [<-Kx.1 e,Pc h1.head,Pc h2.head]
  .have:=h m
   rwa [Ajt e,Ajt e] at this
theorem Aju (c:A5):Pa c=true↔Ir c/\rq c≠0:=by
 unfold Pa Ir
 rw [Db,X4]
 have h:(!(nv c==0))=true↔rq c≠0:=by
  have e:rq c=0↔nv c=0:=by
   unfold rq
   rw [Rat.mkRat_eq_zero (Ej c)]
   unfold sg; split <;> omega
  rw [Ne,e]; simp
 rw [h]
 exact ⟨fun ⟨a,b⟩=>⟨a.symm,b⟩,fun ⟨a,b⟩=>⟨a.symm,b⟩⟩
theorem Atj {l:List Ak} (h:∀(j:Nat) (x y:Ak),l[j]? = some x->l[j+1]? = some y->Cw x.Mono y.Mono<0):l.Pairwise ltT:=by
 induction l with
 | nil=>exact List.Pairwise.nil
 | cons t l ih=>
  have ih:=ih fun j x y hx hy=>h (j+1) x y (by simpa using hx) (by simpa using hy)
  refine List.pairwise_cons.2 ⟨?_,ih⟩
  cases l with
  | nil=>intro u hu; cases hu
  | cons v l=>
   have h0:=h 0 t v rfl rfl
   intro u hu
   rcases List.mem_cons.1 hu with rfl | hu
   .exact h0
   .exact Uh h0 ((List.pairwise_cons.1 ih).1 u hu)
theorem X6 {data:List Ax} {vars:List Ah} {res:Ah} {p:List Ak}:Gq data vars res p=true↔p.length<=1000/\CP p/\∀t∈p,Gp data vars res t.Mono=true:=by
 unfold Gq
 rw [Db,decide_eq_true_eq]
 constructor
 .rintro ⟨h1,h2⟩
  have g:∀(j:Nat) (t:Ak),p[j]? = some t->Pa t.Coef=true/\Gp data vars res t.Mono=true/\M8 p t j=true:=by
   intro j t hj
   have:=G0 h2 hj
   simp only [M9,Db] at this
   exact ⟨this.1.1,this.1.2,this.2⟩
  refine ⟨h1,⟨Atj fun j x y hx hy=>?_,fun t ht=>?_⟩,fun t ht=>?_⟩
  .have:=(g _ _ hy).2.2
   unfold M8 at this
   rw [show j+1-1=j by omega,hx] at this
   simpa using this
  .obtain ⟨j,hj⟩:=List.getElem?_of_mem ht
   exact (Aju _).1 (g j t hj).1
  .obtain ⟨j,hj⟩:=List.getElem?_of_mem ht
   exact (g j t hj).2.1
 .rintro ⟨h1,h2,h3⟩
  refine ⟨h1,List.all_eq_true.2 fun q hq=>?_⟩
  have hq:=List.mem_zipIdx' hq
  have hj:p[q.2]? = some q.1:=(Br hq.1).trans (congrArg some hq.2.symm)
  have c:q.1∈p:=Bu hj
  simp only [M9,Db]
  refine ⟨⟨(Aju _).2 (h2.coe _ c),h3 _ c⟩,?_⟩
  unfold M8
  by_cases h0:q.2=0
  .rw [h0]; rfl
  .have b:q.2-1<p.length:=by omega
   rw [Br b]
   have:=List.pairwise_iff_getElem.1 h2.srt (q.2-1) q.2 b hq.1 (by omega)
   rw [<-hq.2] at this
   simp only [Bool.or_eq_true,decide_eq_true_eq]
   exact .inr this
end Go.Ab
namespace Go.Ab
open Go
end Go.Ab
namespace Go.Ab
open Go
structure TB (k:Nat) (t:Ak):Prop where
 co:RB k t.Coef
 mo:MSz t.Mono
theorem TSz.tb {t:Ak} (h:TSz t):TB 1048576 t:=⟨h.co,h.mo⟩
theorem TB.mono {j k:Nat} {t:Ak} (h:TB j t) (hk:j<=k):TB k t:=⟨h.co.mono hk,h.mo⟩
def Pd (c:A5) (m:Bb):List Ak:=if nv c=0 then [] else [⟨B1 (sv c) (nv c) (dv c),m⟩]
theorem Ajv (c:A5):rq c=0↔nv c=0:=by
 unfold rq
 rw [Rat.mkRat_eq_zero (Ej c)]
 unfold sg; split <;> omega
theorem Atk (c:A5) (m n:Bb):cf (Pd c m) n=if Cw m n=0 then rq c else 0:=by
 unfold Pd
 split
 .rename_i h
  rw [(Ajv c).2 h]; simp [cf]
 .simp only [cf,Pb _ _ _ (Ej c)]
  show (if Cw m n=0 then rq c else 0)+0=_
  grind
structure Mg (F:Rat->Rat->Rat) (k:Nat) (p q R:List Ak):Prop where
 cp:CP R
 val:∀m,cf R m=F (cf p m) (cf q m)
 mon:∀t∈R,(∃u∈p,u.Mono=t.Mono)\/(∃u∈q,u.Mono=t.Mono)
 len:R.length<=p.length+q.length
 rb:∀t∈R,RB (k+1) t.Coef
theorem Atl {k:Nat} {c:A5} {m:Bb} (hc:RB k c):(∀t∈Pd c m,t.Mono=m/\Ir t.Coef/\rq t.Coef≠0/\RB (k+1) t.Coef)/\(Pd c m).length<=1:=by
 unfold Pd
 split
 .exact ⟨fun _ h=>(by cases h),by simp⟩
 .rename_i h
  refine ⟨fun t ht=>?_,by simp⟩
  simp only [List.mem_singleton] at ht
  subst ht
  exact ⟨rfl,X5 _ _ _ (Ej c),by rw [Pb _ _ _ (Ej c)]; exact fun e=>h ((Ajv c).1 e),Ahw hc⟩
theorem Mg.step {F:Rat->Rat->Rat} {k:Nat} {p q g f R:List Ak} {c:A5} {m:Bb} (h:Mg F k g f R) (z:F 0 0=0) (hc:RB k c)
  (s:∀n,Cw m n≠0->cf p n=cf g n/\cf q n=cf f n) (h0:rq c=F (cf p m) (cf q m)) (l:∀u∈g,Cw m u.Mono<0) (j:∀u∈f,Cw m u.Mono<0)
  (x:(∃u∈p,u.Mono=m)\/(∃u∈q,u.Mono=m)) (hp:∀u∈g,u∈p) (hq:∀u∈f,u∈q) (B:g.length+f.length+1<=p.length+q.length):Mg F k p q (Pd c m++R):=by
 obtain ⟨i,A⟩:=Atl (m:=m) hc
 have y:∀t∈R,Cw m t.Mono<0:=by
  intro t ht
  rcases h.mon t ht with ⟨u,hu,e⟩ | ⟨u,hu,e⟩
  .rw [<-e]; exact l u hu
  .rw [<-e]; exact j u hu
 refine ⟨?_,?_,?_,?_,?_⟩
 .refine ⟨List.pairwise_append.2 ⟨?_,h.cp.srt,?_⟩,?_⟩
  .unfold Pd; split
   .exact List.Pairwise.nil
   .exact List.pairwise_singleton _ _
  .intro a ha b hb
   show Cw a.Mono b.Mono<0
   rw [(i a ha).1]; exact y b hb
  .intro t ht
   rcases List.mem_append.1 ht with ht | ht
   .exact ⟨(i t ht).2.1,(i t ht).2.2.1⟩
   .exact h.cp.coe t ht
 .intro n
  rw [J7,Atk,h.val n]
  by_cases e:Cw m n=0
  .rw [if_pos e]
   have e':=Kx.1 e
   subst e'
   rw [Pc l,Pc j,z,h0]; grind
  .rw [if_neg e,(s n e).1,(s n e).2]; grind
 .intro t ht
  rcases List.mem_append.1 ht with ht | ht
  .rw [(i t ht).1]; exact x
  .rcases h.mon t ht with ⟨u,hu,e⟩ | ⟨u,hu,e⟩
   .exact .inl ⟨u,hp u hu,e⟩
   .exact .inr ⟨u,hq u hu,e⟩
 .rw [List.length_append]; have:=h.len; omega
 .intro t ht
  rcases List.mem_append.1 ht with ht | ht
  .exact (i t ht).2.2.2
  .exact h.rb t ht
end Go.Ab
namespace Go.Ab
open Go
def Ge (n:Int) (f:Bool):List Int:=if f then (if n<0 then [45] else []) else (if n<0 then [32,45,32] else [32,43,32])
def Ha (n:Int):List Int:=if n.natAbs=1 then [] else ti n.natAbs++[42]
def Gr (v:Int):List Int:=if v = -1 then [114,101,115] else 118::ti v
def tT (f:Bool) (t:Da):List Int:=Ge t.Coef f++(Ha t.Coef++Gr t.Var)
def Fq:Bool->List Da->Int->List Int
 | f,[],c=>if c≠0\/f=true then Ge c f++ti c.natAbs else []
 | f,t::ts,c=>tT f t++Fq false ts c
def Ui (l:Cu):List Int:=Fq true l.Terms l.Const
def Gs (X:List Int):Prop:=∀c m,X=c::m->c=97
theorem Gs.nil:Gs []:=by intro c m h; cases h
theorem Gs.cons (X:List Int):Gs (97::X):=by intro c m h; cases h; rfl
theorem Gs.nonum {X:List Int} (h:Gs X):Iq X:=by intro c m e; rw [h c m e]; decide
theorem Acz (n:Nat):∃c m,ti n=c::m/\48<=c/\c<=57:=by
 have b:=Acj (n:Int)
 cases h:ti (n:Int) with
 | nil=>exact (b h).elim
 | cons c m=>
  refine ⟨c,m,rfl,?_⟩
  have hc:c∈ti (n:Int):=by rw [h]; simp
  unfold ti at hc
  obtain ⟨x,hx,rfl⟩:=List.mem_map.1 hc
  have e:Lib.itoa (n:Int)=Lib.decDigits n:=by
   unfold Lib.itoa
   first | rfl | (rw [if_neg (by omega)]; simp) | simp
  rw [e] at hx
  have:=Xt n n (Nat.le_refl _) x hx
  omega
theorem Ajw (ts:List Da) (c:Int) {X:List Int} (b:Gs X):Iq (Fq false ts c++X):=by
 have k:∀(n:Int) (Y:List Int),Iq (Ge n false++Y):=by
  intro n Y c m e
  unfold Ge at e
  simp only [Bool.false_eq_true,if_false] at e
  split at e <;> (cases e; decide)
 cases ts with
 | nil=>
  simp only [Fq]
  split
  .rw [List.append_assoc]; exact k _ _
  .exact b.nonum
 | cons t ts=>simp only [Fq,tT,List.append_assoc]; exact k _ _
theorem Ajx {v w:Int} {R S:List Int} (c:Iq R) (b:Iq S) (h:Gr v++R=Gr w++S):v=w/\R=S:=by
 unfold Gr at h
 split at h <;> split at h
 .simp only [List.cons_append,List.nil_append,List.cons.injEq,true_and] at h
  exact ⟨by omega,h⟩
 .simp at h
 .simp at h
 .simp only [List.cons_append,List.cons.injEq,true_and] at h
  obtain ⟨g,f⟩:=Lr _ _ _ _ (Fy v) (Fy w) c b h
  exact ⟨O8 g,f⟩
theorem Ac0 (v:Int):∃c m,Gr v=c::m/\(c=114\/c=118):=by
 unfold Gr
 split
 .exact ⟨_,_,rfl,.inl rfl⟩
 .exact ⟨_,_,rfl,.inr rfl⟩
theorem Ac1 (X:List Int):Iq (42::X):=by intro c m e; cases e; decide
theorem Atm {a b v w:Int} {R S:List Int} (i:Iq R) (g:Iq S) (h:Ha a++(Gr v++R)=Ha b++(Gr w++S)):a.natAbs=b.natAbs/\v=w/\R=S:=by
 unfold Ha at h
 have bad:∀(n:Nat) (u:Int) (X Y:List Int),Gr u++X=ti n++[42]++Y->False:=by
  intro n u X Y e
  obtain ⟨c,m,f,q⟩:=Ac0 u
  obtain ⟨d,k,l,j⟩:=Acz n
  rw [f,l] at e
  simp only [List.cons_append,List.cons.injEq] at e
  omega
 split at h <;> split at h
 .rename_i h1 h2
  simp only [List.nil_append] at h
  exact ⟨h1.trans h2.symm,Ajx i g h⟩
 .exact (bad _ _ _ _ h).elim
 .exact (bad _ _ _ _ h.symm).elim
 .simp only [List.append_assoc,List.cons_append,List.nil_append] at h
  obtain ⟨f,q⟩:=Lr _ _ _ _ (Fy _) (Fy _) (Ac1 _) (Ac1 _) h
  have l:=O8 f
  obtain ⟨j,s⟩:=Ajx i g (List.cons.inj q).2
  exact ⟨by omega,j,s⟩
def NoM (P:List Int):Prop:=∃c m,P=c::m/\c≠45
theorem NoM.ti (n:Nat) (X:List Int):NoM (Go.Ab.ti n++X):=by
 obtain ⟨c,m,e,h⟩:=Acz n
 exact ⟨c,m++X,by rw [e]; rfl,by omega⟩
theorem NoM.pT (a v:Int) (X:List Int):NoM (Ha a++(Gr v++X)):=by
 unfold Ha
 split
 .obtain ⟨c,m,e,h⟩:=Ac0 v
  exact ⟨c,m++X,by rw [e]; rfl,by omega⟩
 .rw [List.append_assoc]; exact NoM.ti _ _
theorem Ac2 {a b:Int} {f:Bool} {P Q:List Int} (i:NoM P) (g:NoM Q) (h:Ge a f++P=Ge b f++Q):(a<0↔b<0)/\P=Q:=by
 obtain ⟨c,m,rfl,hc⟩:=i
 obtain ⟨d,k,rfl,hd⟩:=g
 unfold Ge at h
 cases f with
 | true=>
  simp only [if_true] at h
  split at h <;> split at h
  .rename_i h1 h2; exact ⟨by simp [h1,h2],by simpa using h⟩
  .simp at h; exact (hd h.1.symm).elim
  .simp at h; exact (hc h.1).elim
  .rename_i h1 h2; exact ⟨by simp [h1,h2],by simpa using h⟩
 | false=>
  simp only [Bool.false_eq_true,if_false] at h
  split at h <;> split at h
  .rename_i h1 h2; exact ⟨by simp [h1,h2],by simpa using h⟩
  .simp at h
  .simp at h
  .rename_i h1 h2; exact ⟨by simp [h1,h2],by simpa using h⟩
theorem Ac3 {n:Int} {P X:List Int} (b:Gs X) (h:Ge n false++P=X):False:=by
 unfold Ge at h
 simp only [Bool.false_eq_true,if_false] at h
 split at h
 .have:=b _ _ h.symm; omega
 .have:=b _ _ h.symm; omega
theorem Ajy {c d:Int} {f:Bool} {u:Da} {m:List Da} {X Y:List Int} (b:Gs X) (l:Gs Y) (h:Fq f [] c++X=Fq f (u::m) d++Y):False:=by
 simp only [Fq,tT] at h
 split at h
 .simp only [List.append_assoc] at h
  obtain ⟨_,e⟩:=Ac2 (NoM.ti _ _) (NoM.pT _ _ _) h
  unfold Ha at e
  split at e
  .obtain ⟨s,m1,k,h1⟩:=Ac0 u.Var
   obtain ⟨q,m2,g,h2⟩:=Acz c.natAbs
   rw [k,g] at e
   simp only [List.nil_append,List.cons_append,List.cons.injEq] at e
   omega
  .simp only [List.append_assoc,List.cons_append,List.nil_append] at e
   obtain ⟨_,g⟩:=Lr _ _ _ _ (Fy _) (Fy _) b.nonum (Ac1 _) e
   have:=b _ _ g; omega
 .rename_i i
  have j:f=false:=by cases f with | true=>simp at i | false=>rfl
  subst j
  simp only [List.nil_append,List.append_assoc] at h
  exact Ac3 b h.symm
theorem Ajz:∀(l m:List Da) (f:Bool) (c d:Int) (X Y:List Int),Gs X->Gs Y->Fq f l c++X=Fq f m d++Y->l=m/\c=d/\X=Y
 | [],[],f,c,d,X,Y,g,b,h=>by
  simp only [Fq] at h
  split at h <;> split at h
  .simp only [List.append_assoc] at h
   obtain ⟨y,s⟩:=Ac2 (NoM.ti _ _) (NoM.ti _ _) h
   obtain ⟨q,i⟩:=Lr _ _ _ _ (Fy _) (Fy _) g.nonum b.nonum s
   have x:=O8 q
   exact ⟨rfl,by omega,i⟩
  .rename_i h1 h2
   have j:f=false:=by cases f with | true=>simp at h2 | false=>rfl
   subst j
   simp only [List.append_assoc,List.nil_append] at h
   exact (Ac3 b h).elim
  .rename_i h1 h2
   have j:f=false:=by cases f with | true=>simp at h1 | false=>rfl
   subst j
   simp only [List.append_assoc,List.nil_append] at h
   exact (Ac3 g h.symm).elim
  .rename_i h1 h2
   refine ⟨rfl,?_,by simpa using h⟩
   have a1:c=0:=by by_cases k:c=0; exact k; exact (h1 (.inl k)).elim
   have a2:d=0:=by by_cases k:d=0; exact k; exact (h2 (.inl k)).elim
   omega
 | [],u::m,f,c,d,X,Y,g,b,h=>(Ajy g b h).elim
 | t::l,[],f,c,d,X,Y,g,b,h=>(Ajy b g h.symm).elim
 | t::l,u::m,f,c,d,X,Y,g,b,h=>by
  simp only [Fq,tT,List.append_assoc] at h
  obtain ⟨y,s⟩:=Ac2 (NoM.pT _ _ _) (NoM.pT _ _ _) h
  obtain ⟨q,i,x⟩:=Atm (Ajw _ _ g) (Ajw _ _ b) s
  obtain ⟨B,A,z⟩:=Ajz l m false c d X Y g b x
  have:t=u:=by
   cases t; cases u
   simp only at y q i
   subst i
   congr 1; omega
  exact ⟨by rw [this,B],A,z⟩
def Fj (a:B4):List Int:=97::(ti a.Deg++58::Ui a.Lin)
def Ey (f:Ch):List Int:=G8 f.Var f.Index
def Uj (m:Bb):List Int:=m.Factors.flatMap Ey++m.Atoms.flatMap Fj
theorem X7 (l:List B4):Gs (l.flatMap Fj):=by
 cases l with
 | nil=>exact Gs.nil
 | cons a l=>simp only [List.flatMap_cons,Fj,List.cons_append]; exact Gs.cons _
theorem X8 (X:List Int):Iq (58::X):=by intro c m e; cases e; decide
theorem Aj0:∀(l m:List B4),l.flatMap Fj=m.flatMap Fj->l=m
 | [],[],_=>rfl
 | [],b::m,h=>by simp [Fj] at h
 | a::l,[],h=>by simp [Fj] at h
 | a::l,b::m,h=>by
  simp only [List.flatMap_cons,Fj,List.cons_append,List.append_assoc,List.cons.injEq,true_and] at h
  obtain ⟨s,q⟩:=Lr _ _ _ _ (Fy _) (Fy _) (X8 _) (X8 _) h
  have k:=(List.cons.inj q).2
  obtain ⟨g,f,j⟩:=Ajz _ _ true _ _ _ _ (X7 l) (X7 m) k
  have i:=Aj0 l m j
  have c:=O8 s
  obtain ⟨⟨x,t1⟩,d1⟩:=a
  obtain ⟨⟨u,t2⟩,d2⟩:=b
  simp only at g f c
  rw [g,f,c,i]
theorem Aj1 (l:List Ch) {X:List Int} (b:Gs X):M5 (l.flatMap Ey++X):=by
 cases l with
 | nil=>intro c m e; rw [b c m e]; exact ⟨by decide,by decide⟩
 | cons a l=>
  intro c m e
  simp only [List.flatMap_cons,Ey,G8,List.cons_append] at e
  cases e; exact ⟨by decide,by decide⟩
theorem Aj2:∀(l m:List Ch) (X Y:List Int),Gs X->Gs Y->l.flatMap Ey++X=m.flatMap Ey++Y->l=m/\X=Y
 | [],[],X,Y,_,_,h=>⟨rfl,by simpa using h⟩
 | [],b::m,X,Y,f,_,h=>by
  simp only [List.flatMap_cons,List.flatMap_nil,Ey,G8,List.cons_append,List.nil_append] at h
  have:=f _ _ h; omega
 | a::l,[],X,Y,_,c,h=>by
  simp only [List.flatMap_cons,List.flatMap_nil,Ey,G8,List.cons_append,List.nil_append] at h
  have:=c _ _ h.symm; omega
 | a::l,b::m,X,Y,f,c,h=>by
  simp only [List.flatMap_cons,Ey,G8,List.cons_append,List.append_assoc,List.cons.injEq,true_and] at h
  obtain ⟨x,u⟩:=Lr _ _ _ _ (Fy _) (Fy _) (X8 _) (X8 _) h
  have s:=(List.cons.inj u).2
  obtain ⟨i,q⟩:=Acl _ _ _ _ (Aj1 l f) (Aj1 m c) s
  obtain ⟨k,j⟩:=Aj2 l m X Y f c q
  have g:=O8 x
  obtain ⟨y,i1⟩:=a
  obtain ⟨v2,i2⟩:=b
  simp only at i g
  exact ⟨by rw [i,g,k],j⟩
theorem Atn {m n:Bb} (h:Uj m=Uj n):m=n:=by
 obtain ⟨c,f⟩:=Aj2 _ _ _ _ (X7 _) (X7 _) h
 have b:=Aj0 _ _ f
 cases m; cases n
 simp only at c b
 rw [c,b]
def By (l:List Int):Prop:=∀c∈l,0<=c/\c<256
theorem By.app {l m:List Int} (h:By l) (h':By m):By (l++m):=by
 intro c hc
 rcases List.mem_append.1 hc with k | k
 .exact h c k
 .exact h' c k
theorem By.ti (n:Int):By (Go.Ab.ti n):=by
 intro c h
 have:=Fy n c h
 simp only [Lq,Bool.or_eq_true,Db,beq_iff_eq,decide_eq_true_eq] at this
 omega
theorem By.cons {c:Int} {l:List Int} (hc:0<=c/\c<256) (h:By l):By (c::l):=by
 intro d hd
 rcases List.mem_cons.1 hd with rfl | k
 .exact hc
 .exact h d k
theorem By.nil:By []:=fun c h=>by cases h
theorem By.sgn (n:Int) (f:Bool):By (Ge n f):=by
 unfold Ge
 split <;> split <;> intro c hc <;> simp at hc <;> omega
theorem By.mag (n:Int):By (Ha n):=by
 unfold Ha
 split
 .exact By.nil
 .exact (By.ti _).app (By.cons (by omega) By.nil)
theorem By.var (n:Int):By (Gr n):=by
 unfold Gr
 split
 .intro c hc; simp at hc; omega
 .exact By.cons (by omega) (By.ti _)
theorem By.tT (f:Bool) (t:Da):By (tT f t):=(By.sgn _ _).app ((By.mag _).app (By.var _))
theorem By.lins:∀(l:List Da) (f:Bool) (c:Int),By (Fq f l c)
 | [],f,c=>by
  simp only [Fq]
  split
  .exact (By.sgn _ _).app (By.ti _)
  .exact By.nil
 | t::l,f,c=>(By.tT f t).app (By.lins l false c)
theorem By.at (a:B4):By (Fj a):=By.cons (by omega) ((By.ti _).app (By.cons (by omega) (By.lins _ _ _)))
theorem By.flat {α:Type} {g:α->List Int} (h:∀a,By (g a)) (l:List α):By (l.flatMap g):=by
 intro c hc
 obtain ⟨a,_,k⟩:=List.mem_flatMap.1 hc
 exact h a c k
theorem By.fac (f:Ch):By (Ey f):=Xw f.Var f.Index
theorem By.mono (m:Bb):By (Uj m):=(By.flat By.fac _).app (By.flat By.at _)
def bs (l:List Int):ByteArray:=⟨(En l).toArray⟩
theorem Ato {l m:List Int} (c:By l) (b:By m) (h:bs l=bs m):l=m:=by
 unfold bs at h
 have h1:(En l).toArray=(En m).toArray:=by injection h
 have h2:En l=En m:=by simpa using congrArg Array.toList h1
 exact Aco _ _ c b h2
def H8 (m:Bb):ByteArray:=bs (Uj m)
theorem Aj3 {m n:Bb} (h:H8 m=H8 n):m=n:=Atn (Ato (By.mono m) (By.mono n) h)
theorem X9 (l:List Int):(bs l).size=l.length:=by unfold bs En; simp [ByteArray.size]
theorem Aj4 {l:List Int} (h:By l):Js (bs l)=l:=by
 unfold Js bs En
 simp only [List.map_map]
 conv=>rhs; rw [<-List.map_id l]
 refine List.map_congr_left fun c hc=>?_
 have:=h c hc
 simp only [Function.comp,UInt8.toNat_ofNat',id]
 omega
theorem Atp (l m:List Int):bs l++bs m=bs (l++m):=by
 apply ByteArray.ext
 rw [ByteArray.data_append]
 unfold bs En
 simp
theorem Pe {l m:List Int} (h:l.length+m.length<=9223372036854775807):D3 (bs l) (bs m)=some (bs (l++m)):=by
 unfold D3
 rw [if_pos (by rw [X9,X9]; exact h),Atp]
theorem Ya {n:Int} (h:I64 n):K5 n=some (bs (ti n)):=by
 rw [Acn h]
 congr 2
 congr 1
 unfold En ti
 rw [List.map_map]
 conv=>lhs; rw [<-List.map_id (Lib.itoa n)]
 refine List.map_congr_left fun c _=>?_
 simp [Function.comp]
end Go.Ab
namespace Go.Ab
open Go
theorem Yb {S E R α:Type} {step:S->Option (S⊕E)} {s0:S} {J:E->Option R} {r:R} (c:α) (xs:List α) (b:Nat->S) (h0:s0=b 0) (h:xs.length<2305843009213693952)
  (f:∀(j:Nat) (x:α),xs[j]? = some x->decide (((j+1:Nat):Int)<((c::xs).length:Int))=true->Af (c::xs) ((j+1:Nat):Int)=some x->Ac (((j+1:Nat):Int)+1)=((j+1+1:Nat):Int)->step (b j)=some (.inl (b (j+1))))
  (g:decide (((xs.length+1:Nat):Int)<((c::xs).length:Int))=false->∃e,step (b xs.length)=some (.inr e)/\J e=some r):(An step s0).bind J=some r:=by
 refine O0 xs.length b h0 (fun j hj=>?_) (g (by simp))
 have hx:xs[j]? = some xs[j]:=Br hj
 exact f j _ hx (Aj (by simp only [List.length_cons]; omega)) (Cf rfl (by simp)) (C1 (n:=xs.length+1) (by omega) (by omega))
theorem bnd {α β:Type} {X:Option α} {a:α} {K:α->Option β} {r:Option β} (h:X=some a) (k:K a=r):X.bind K=r:=by rw [h]; exact k
theorem J8 {l b:List Int} (c:By l) (h:b.length+l.length<=140737488355328):E6 (bs l) b=some ((l.length:Int),b++l):=by
 simp only [E6,Qx,Ad,Aj4 c,X9]
 rw [C4 (by omega)]; rfl
theorem Rj {l b:List Int} (c:By l) (h:b.length+l.length<=140737488355328):Hj (bs l) b=some ((l.length:Int),b++l):=by
 simp only [Hj,Td,Ad,Aj4 c,X9]
 rw [C4 (by omega)]; rfl
theorem Rk {b:List Int} (hb:By b):I2 b=some (bs b):=by
 exact if_pos hb
theorem Atq {b:List Int} (hb:By b):Wx b=some (bs b):=Rk hb
theorem Ac4 (n:Int) (h : -1048576<=n/\n<=1048576):(Ha n).length<=22:=by
 unfold Ha
 split
 .simp
 .have:=J4 (n:=(n.natAbs:Int)) (by unfold I64; omega)
  simp; omega
theorem Yc (n:Int) (f:Bool):(Ge n f).length<=3:=by unfold Ge; split <;> split <;> simp
theorem Atr {v:Int} (h : -1<=v/\v<3000):(Gr v).length<=22:=by
 unfold Gr
 split
 .simp
 .have:=J4 (n:=v) (by unfold I64; omega)
  simp; omega
structure Aj5 (a:Cu):Prop where
 c : -1048576<=a.Const/\a.Const<=1048576
 n:a.Terms.length<=16
 t:∀t∈a.Terms,(-1<=t.Var/\t.Var<3000)/\(-1048576<=t.Coef/\t.Coef<=1048576)
theorem Ac5 {a:Cu} (h:G9 a=true):Aj5 a:=by
 unfold G9 at h
 simp only [Db,decide_eq_true_eq] at h
 refine ⟨⟨h.1.1,h.1.2.1⟩,h.1.2.2,fun t ht=>?_⟩
 obtain ⟨j,hj⟩:=List.getElem?_of_mem ht
 have:=G0 h.2 hj
 simp only [Rf,Db,decide_eq_true_eq] at this
 omega
theorem Ac6 {t:Da} (f:Bool) (h:(-1<=t.Var/\t.Var<3000)/\(-1048576<=t.Coef/\t.Coef<=1048576)):(tT f t).length<=47:=by
 have:=Yc t.Coef f
 have:=Ac4 t.Coef h.2
 have:=Atr h.1
 unfold tT
 simp only [List.length_append]; omega
theorem Aj6 {n:Int} (h : -1048576<=n/\n<=1048576):(if Ac (0-n)>n then Ac (0-n) else n)=(n.natAbs:Int):=by
 rw [Ac,Bt (by omega) (by omega)]; split <;> omega
theorem c45:ByteArray.mk #[45]=bs [45]:=rfl
theorem Ats:ByteArray.mk #[32,45,32]=bs [32,45,32]:=rfl
theorem Att:ByteArray.mk #[32,43,32]=bs [32,43,32]:=rfl
theorem c42:ByteArray.mk #[42]=bs [42]:=rfl
theorem Aj7:ByteArray.mk #[118]=bs [118]:=rfl
theorem c97:ByteArray.mk #[97]=bs [97]:=rfl
theorem c58:ByteArray.mk #[58]=bs [58]:=rfl
theorem Aj8:ByteArray.mk #[114,101,115]=bs [114,101,115]:=rfl
theorem Aj9:By [45]:=By.cons (by omega) By.nil
theorem by3 (a b c:Int) (ha:0<=a/\a<256) (hb:0<=b/\b<256) (hc:0<=c/\c<256):By [a,b,c]:=By.cons ha (By.cons hb (By.cons hc By.nil))
theorem Aka {n:Int} (f:Bool) {b:List Int} (c : -1048576<=n/\n<=1048576) (hb:b.length<=1099511627776):Ty n f b=some ((n.natAbs:Int),b++Ge n f):=by
 unfold Ty Ge
 rw [Aj6 c,c45,Ats,Att]
 rw [J8 Aj9 (by simp; omega),J8 (by3 _ _ _ (by omega) (by omega) (by omega)) (by simp; omega),J8 (by3 _ _ _ (by omega) (by omega) (by omega)) (by simp; omega)]
 by_cases h:n<0
 .rw [Aj h,if_pos h,if_pos h]; cases f <;> rfl
 .rw [Ap h,if_neg h,if_neg h]; cases f <;> simp
theorem Atu {n:Int} {b:List Int} (c : -1048576<=n/\n<=1048576) (hb:b.length<=1099511627776):N9 n true b=some (if n<0 then .inl ((n.natAbs:Int),b++[45]) else .inr ((n.natAbs:Int),b)):=by
 unfold N9
 rw [Aj6 c,c45,Rj Aj9 (by simp; omega)]
 by_cases h:n<0
 .rw [Aj h,if_pos h]; rfl
 .rw [Ap h,if_neg h]; rfl
theorem Ac7 {n:Nat} (h:n<=1048576):Jy (n:Int) 10=some (bs (ti n)):=by
 unfold Jy Vq
 exact Ya (by unfold I64; omega)
theorem Yd {n:Nat} (h:n<=1048576):(ti (n:Int)).length<=21:=J4 (by unfold I64; omega)
theorem Akb {n:Int} {b:List Int} (c : -1048576<=n/\n<=1048576) (hb:b.length<=1099511627776) :
  (bif ((n.natAbs:Int) != (1:Int)) then (Jy (n.natAbs:Int) 10).bind fun v=>(D3 v (ByteArray.mk #[42])).bind fun u=>(E6 u b).bind fun w=>some w.2 else some b)=some (b++Ha n):=by
 have ht:=Yd (n:=n.natAbs) (by omega)
 unfold Ha
 by_cases h:n.natAbs=1
 .rw [Cz (by omega),if_pos h]; simp
 .rw [Cv (by omega),if_neg h,Ac7 (by omega),c42]
  simp only [cond_true,Ad]
  rw [Pe (by simp; omega),Ad,J8 ((By.ti _).app (By.cons (by omega) By.nil)) (by simp; omega)]; rfl
theorem Ac8 {v:Int} {b:List Int} {R:Type} (K:List Int->Option R) (c : -1<=v/\v<3000) (hb:b.length<=1099511627776) :
  (bif (v==(-1)) then (E6 (ByteArray.mk #[114,101,115]) b).bind fun w=>K w.2 else (F8 v).bind fun x=>(D3 (ByteArray.mk #[118]) x).bind fun y=>(E6 y b).bind fun w=>K w.2)=K (b++Gr v):=by
 have ht:=J4 (n:=v) (by unfold I64; omega)
 unfold Gr
 by_cases h:v = -1
 .rw [Eh h,if_pos h,Aj8,J8 (by3 _ _ _ (by omega) (by omega) (by omega)) (by simp; omega)]; rfl
 .rw [Cl h,if_neg h,Aj7]
  simp only [cond_false,F8]
  rw [Ya (by unfold I64; omega),Ad,Pe (by simp; omega),Ad]
  rw [show [118]++ti v=118::ti v from rfl,J8 (By.cons (by omega) (By.ti _)) (by simp; omega)]; rfl
theorem Ye {α:Type} {g:α->List Int} {l:List α} {j:Nat} {x:α} (h:l[j]? = some x):(l.take (j+1)).flatMap g=(l.take j).flatMap g++g x:=by
 rw [C2 h]; simp
theorem Akc {α:Type} {g:α->List Int} {n:Nat}:∀(l:List α),(∀a∈l,(g a).length<=n)->(l.flatMap g).length<=l.length*n
 | [],_=>by simp
 | a::l,h=>by
  have h1:=h a (by simp)
  have h2:=Akc l fun b hb=>h b (by simp [hb])
  simp only [List.flatMap_cons,List.length_append,List.length_cons,Nat.add_mul]; omega
theorem Ac9 {α:Type} {g:α->List Int} {n:Nat} (l:List α) (j:Nat) (h:∀a∈l,(g a).length<=n):((l.take j).flatMap g).length<=l.length*n:=by
 refine Nat.le_trans (Akc _ fun a ha=>h a (List.mem_of_mem_take ha)) (Nat.mul_le_mul_right _ ?_)
 rw [List.length_take]; omega
theorem Akd:∀(ts:List Da) (c:Int),Fq false ts c=ts.flatMap (tT false)++Fq false [] c
 | [],c=>by simp
 | t::ts,c=>by
  have:=Akd ts c
  simp only [List.flatMap_cons,List.append_assoc,<-this]; rfl
theorem Atv {a:Cu} (h:G9 a=true) (B:a.Terms≠[]):Lg a=some (bs (Ui a)):=by
 have z:=Ac5 h
 unfold Lg
 rw [Ai6,h]
 obtain ⟨c,l⟩:=a
 cases l with
 | nil=>exact (B rfl).elim
 | cons t ts=>
  have hc : -1048576<=c/\c<=1048576:=z.c
  have M:ts.length<=15:=by have:=z.n; simp at this; omega
  have ht:(-1<=t.Var/\t.Var<3000)/\(-1048576<=t.Coef/\t.Coef<=1048576):=z.t t (by simp)
  have s:∀u∈ts,(-1<=u.Var/\u.Var<3000)/\(-1048576<=u.Coef/\u.Coef<=1048576):=fun u hu=>z.t u (by simp [hu])
  have x:=fun j=>Ac9 (g:=tT false) (n:=47) ts j (fun u hu=>Ac6 false (s u hu))
  have J:=Ac6 true ht
  simp only [Ad,bnt,cond_false]
  rw [Aj (by simp only [List.length_cons]; omega),cond_true]
  refine bnd (a:=((t.Coef.natAbs:Int),tT true t)) ?_ ?_
  .rw [show Af (t::ts) 0=some t from rfl,Ad,Atu ht.2 (by simp),Ad]
   have G:=J4 (n:=t.Var) (by unfold I64; omega)
   have I:=Yd (n:=t.Coef.natAbs) (by omega)
   have D:=Ac4 t.Coef ht.2
   by_cases q:t.Coef<0
   .rw [if_pos q]
    simp only
    rw [Akb ht.2 (by simp),Ad]
    refine (Ac8 (fun b=>some ((t.Coef.natAbs:Int),b)) ht.1 (by simp; omega)).trans ?_
    simp [tT,Ge,q]
   .rw [if_neg q]
    simp only
    by_cases h1:t.Coef.natAbs=1
    .rw [Cz (by omega)]
     simp only [cond_false]
     by_cases y:t.Var = -1
     .rw [Eh y,Aj8,cond_true,Rj (by3 _ _ _ (by omega) (by omega) (by omega)) (by simp)]
      simp [tT,Ge,q,Ha,h1,Gr,y]
     .rw [Cl y,cond_false,Aj7,F8,Ya (by unfold I64; omega),Ad,Pe (by simp; omega),Ad,show [118]++ti t.Var=118::ti t.Var from rfl,
       Rj (By.cons (by omega) (By.ti _)) (by simp; omega)]
      simp [tT,Ge,q,Ha,h1,Gr,y]
    .rw [Cv (by omega)]
     simp only [cond_true]
     rw [Ac7 (by omega),Ad,c42,Pe (by simp; omega),Ad,Rj ((By.ti _).app (By.cons (by omega) By.nil)) (by simp; omega),Ad]
     refine (Ac8 (fun b=>some ((t.Coef.natAbs:Int),b)) ht.1 (by simp; omega)).trans ?_
     simp [tT,Ge,q,Ha,h1]
  .simp only
   refine Yb t ts (fun j=>(((j+1:Nat):Int),tT true t++(ts.take j).flatMap (tT false))) (by simp [Ac,Bt]) (by omega) ?_ ?_
   .intro j u hu h1 h2 h3
    have f:=s u (Bu hu)
    have:=x j
    have D:=Ac4 u.Coef f.2
    have A:=Yc u.Coef false
    simp only [h1,h2,h3,cond_true,Ad]
    rw [Cl (by omega),Aka false f.2 (by simp only [List.length_append]; omega),Ad,Akb f.2 (by simp only [List.length_append]; omega),Ad]
    refine (Ac8 (R:=(Int×List Int)⊕List Int) (fun b=>some (.inl (((j+1+1:Nat):Int),b))) f.1 (by simp only [List.length_append]; omega)).trans ?_
    rw [Ye hu]
    simp [tT]
   .intro h1
    have h2:=x ts.length
    rw [List.take_length] at h2
    refine ⟨tT true t++ts.flatMap (tT false),by simp only [h1,cond_false,List.take_length],?_⟩
    have E:By (tT true t++ts.flatMap (tT false)):=(By.tT _ _).app (By.flat (By.tT _) _)
    have e:Ui ⟨c,t::ts⟩=tT true t++ts.flatMap (tT false)++Fq false [] c:=by
     have:=Akd ts c
     rw [List.append_assoc,<-this]; rfl
    rw [e]
    have k:((((t::ts).length:Nat):Int)==(0:Int))=false:=Cl (by simp only [List.length_cons]; omega)
    by_cases i:c=0
    .simp only [Cz i,cond_false,k,Ad]
     rw [Rk E]
     simp [Fq,i]
    .have L:=Yd (n:=c.natAbs) (by omega)
     have A:=Yc c false
     simp only [Cv i,cond_true,Ad,k]
     rw [Aka false hc (by simp only [List.length_append]; omega),Ad,Ac7 (by omega),Ad,J8 (By.ti _) (by simp only [List.length_append]; omega),Ad,
      Rk ((E.app (By.sgn _ _)).app (By.ti _))]
     simp [Fq,i]
theorem Ake {a:Cu} (h:Aj5 a):(Ui a).length<=1024:=by
 have key:∀(l:List Da) (f:Bool),(∀t∈l,(-1<=t.Var/\t.Var<3000)/\(-1048576<=t.Coef/\t.Coef<=1048576))->(Fq f l a.Const).length<=47*l.length+24:=by
  intro l
  induction l with
  | nil=>
   intro f _
   have h1:=Yd (n:=a.Const.natAbs) (by have:=h.c; omega)
   have h2:=Yc a.Const f
   simp only [Fq]
   split <;> simp <;> omega
  | cons t l ih=>
   intro f b
   have h1:=Ac6 f (b t (by simp))
   have h2:=ih false fun u hu=>b u (by simp [hu])
   simp only [Fq,List.length_append,List.length_cons]; omega
 have:=key a.Terms true h.t
 have:=h.n
 unfold Ui; omega
structure CMo (m:Bb):Prop where
 sz:MSz m
 nf:m.Factors.length<=6
 na:m.Atoms.length<=6
 al:∀a∈m.Atoms,G9 a.Lin=true/\a.Lin.Terms≠[]/\1<=a.Deg/\a.Deg<=6
theorem Yf {R:Type} {a:B4} (K:ByteArray->Option R) (h:G9 a.Lin=true/\a.Lin.Terms≠[]/\1<=a.Deg/\a.Deg<=6) :
  ((F8 a.Deg).bind fun u=>(D3 (ByteArray.mk #[97]) u).bind fun v=>(D3 v (ByteArray.mk #[58])).bind fun w=>(Lg a.Lin).bind fun x=>(D3 w x).bind fun y=>K y)=K (bs (Fj a)):=by
 have h1:=J4 (n:=a.Deg) (by unfold I64; omega)
 have h2:=Ake (Ac5 h.1)
 rw [F8,Ya (by unfold I64; omega),Ad,c97,Pe (by simp; omega),Ad,c58,Pe (by simp; omega),Ad,Atv h.1 h.2.1,Ad,Pe (by simp; omega),Ad]
 simp [Fj]
theorem Uk {a:B4} (h:G9 a.Lin=true/\a.Lin.Terms≠[]/\1<=a.Deg/\a.Deg<=6):(Fj a).length<=1100:=by
 have h1:=J4 (n:=a.Deg) (by unfold I64; omega)
 have h2:=Ake (Ac5 h.1)
 simp [Fj]; omega
theorem Ada {f:Ch} (h:Cr f.Index<=1048576) (b:iR f.Index/\I64 f.Var):(Ey f).length<=33554432:=by
 have h1:=J4 b.2
 have h2:=Acm f.Index b.1
 simp [Ey,G8]; omega
theorem Atw {m:Bb} (h:CMo m):Sn m=some (H8 m):=by
 obtain ⟨fs,c⟩:=m
 have q:∀f∈fs,Cr f.Index<=1048576/\iR f.Index/\I64 f.Var:=fun f i=>⟨h.sz.fi f i,h.sz.fr f i⟩
 have u:∀a∈c,G9 a.Lin=true/\a.Lin.Terms≠[]/\1<=a.Deg/\a.Deg<=6:=h.al
 have nf:fs.length<=6:=h.nf
 have na:c.length<=6:=h.na
 have A:=fun (l:List Ch) (x:∀f∈l,f∈fs) (j:Nat)=>Ac9 (g:=Ey) (n:=33554432) l j (fun f i=>Ada (q f (x f i)).1 (q f (x f i)).2)
 have D:=fun (l:List B4) (x:∀a∈l,a∈c) (j:Nat)=>Ac9 (g:=Fj) (n:=1100) l j (fun a ha=>Uk (u a (x a ha)))
 have N:∀l:List Ch,By (l.flatMap Ey):=fun l=>By.flat By.fac l
 have G:∀l:List B4,By (l.flatMap Fj):=fun l=>By.flat By.at l
 have key:∀f:Ch,f∈fs->Mj f.Var f.Index=some (bs (Ey f)):=fun f i=>Aiy f.Var f.Index (q f i).2.2 (q f i).2.1 (q f i).1
 unfold Sn H8 Uj
 cases fs with
 | nil=>
  rw [Ap (by simp),cond_false]
  cases c with
  | nil=>
   rw [Ap (by simp),cond_false]
   rw [Atq By.nil]; rfl
  | cons a c=>
   have ha:=u a (by simp)
   have y:=Uk ha
   rw [Aj (by simp only [List.length_cons]; omega),cond_true,show Af (a::c) 0=some a from rfl,Ad]
   refine (Yf _ ha).trans ?_
   rw [Rj (By.at a) (by simp; omega),Ad]
   refine Yb a c (fun j=>(((j+1:Nat):Int),[]++Fj a++(c.take j).flatMap Fj)) (by simp [Ac,Bt]) (by simp at na; omega) ?_ ?_
   .intro j b hb h1 h2 h3
    have k:=u b (by simp [Bu hb])
    have:=Uk k
    have:=D c (fun b hb=>by simp [hb]) j
    simp at na
    simp only [h1,h2,h3,cond_true,Ad]
    refine (Yf _ k).trans ?_
    rw [J8 (By.at b) (by simp only [List.length_append,List.length_nil]; omega),Ad,Ye hb]
    simp
   .intro h1
    refine ⟨[]++Fj a++c.flatMap Fj,by simp only [h1,cond_false,List.take_length],?_⟩
    dsimp only
    rw [Rk ((By.nil.app (By.at a)).app (G c))]
    simp
 | cons f fs=>
  have i:=q f (by simp)
  have L:=Ada i.1 i.2
  rw [Aj (by simp only [List.length_cons]; omega),cond_true,show Af (f::fs) 0=some f from rfl,Ad,key f (by simp),Ad,Rj (By.fac f) (by simp; omega),Ad]
  refine Yb f fs (fun j=>(((j+1:Nat):Int),[]++Ey f++(fs.take j).flatMap Ey)) (by simp [Ac,Bt]) (by simp at nf; omega) ?_ ?_
  .intro j g E h1 h2 h3
   have s:g∈f::fs:=by simp [Bu E]
   have:=Ada (q g s).1 (q g s).2
   have:=A fs (fun b hb=>by simp [hb]) j
   simp at nf
   simp only [h1,h2,h3,cond_true,Ad]
   rw [key g s,Ad,J8 (By.fac g) (by simp only [List.length_append,List.length_nil]; omega),Ad,Ye E]
   simp
  .intro h1
   have I:=A fs (fun b hb=>by simp [hb]) fs.length
   rw [List.take_length] at I
   simp at nf
   refine ⟨[]++Ey f++fs.flatMap Ey,by simp only [h1,cond_false,List.take_length],?_⟩
   have z:By ([]++Ey f++fs.flatMap Ey):=(By.nil.app (By.fac f)).app (N fs)
   have J:([]++Ey f++fs.flatMap Ey).length<=234881024:=by simp only [List.length_append,List.length_nil]; omega
   have M:(f::fs).flatMap Ey = []++Ey f++fs.flatMap Ey:=by simp
   rw [M]
   generalize []++Ey f++fs.flatMap Ey=B at z J
   cases c with
   | nil=>
    rw [Ap (by simp),cond_false,Rk z]; simp
   | cons a c=>
    have ha:=u a (by simp)
    have y:=Uk ha
    rw [Aj (by simp only [List.length_cons]; omega),cond_true,show Af (a::c) 0=some a from rfl,Ad]
    refine (Yf _ ha).trans ?_
    rw [J8 (By.at a) (by omega),Ad]
    refine Yb a c (fun j=>(((j+1:Nat):Int),B++Fj a++(c.take j).flatMap Fj)) (by simp [Ac,Bt]) (by simp at na; omega) ?_ ?_
    .intro j b hb h1 h2 h3
     have k:=u b (by simp [Bu hb])
     have:=Uk k
     have:=D c (fun b hb=>by simp [hb]) j
     simp at na
     simp only [h1,h2,h3,cond_true,Ad]
     refine (Yf _ k).trans ?_
     rw [J8 (By.at b) (by simp only [List.length_append]; omega),Ad,Ye hb]
     simp
    .intro h1
     refine ⟨B++Fj a++c.flatMap Fj,by simp only [h1,cond_false,List.take_length],?_⟩
     dsimp only
     rw [Rk ((z.app (By.at a)).app (G c))]
     simp
end Go.Ab
namespace Go.Ab
open Go
def plc (ts:List Ak):List (ByteArray×Int):=ts.zipIdx.map fun q=>(H8 q.1.Mono,(q.2:Int))
def Dst (ts:List Ak):Prop:=ts.Pairwise fun t u=>t.Mono≠u.Mono
theorem Atx (ts:List Ak) (t:Ak):plc (ts++[t])=plc ts++[(H8 t.Mono,(ts.length:Int))]:=by
 unfold plc; simp [List.zipIdx_append]
theorem Ul (ts:List Ak) (j:Nat):(plc ts)[j]? = (ts[j]?).map fun t=>(H8 t.Mono,(j:Int)):=by
 unfold plc; simp [List.getElem?_map,List.getElem?_zipIdx]
 cases ts[j]? <;> rfl
theorem Aty {ts:List Ak} {j:Nat} {t u:Ak} (h:ts[j]? = some t) (b:u.Mono=t.Mono):plc (ts.set j u)=plc ts:=by
 apply List.ext_getElem?
 intro i
 rw [Ul,Ul,List.getElem?_set]
 by_cases e:j=i
 .subst e
  rw [if_pos rfl,if_pos (Dd h),h]; simp [b]
 .rw [if_neg e]
theorem Akf {α:Type}:∀(o:List (ByteArray×α)) (s:ByteArray) (v:α),D9 o s=false->El o s v=o++[(s,v)]
 | [],_,_,_=>rfl
 | p::o,s,v,h=>by
  simp only [D9,List.any_cons,Bool.or_eq_false_iff] at h
  simp only [El,h.1,cond_false,List.cons_append,List.cons.injEq,true_and]
  exact Akf o s v h.2
theorem Atz {ts:List Ak} {m:Bb} (h:∀t∈ts,t.Mono≠m):D9 (plc ts) (H8 m)=false:=by
 unfold D9
 rw [List.any_eq_false]
 intro p hp
 obtain ⟨j,hj⟩:=List.getElem?_of_mem hp
 rw [Ul] at hj
 cases ht:ts[j]? with
 | none=>rw [ht] at hj; cases hj
 | some t=>
  rw [ht] at hj
  simp only [Option.map_some,Option.some.injEq] at hj
  subst hj
  intro e
  have e:=(O6 _ _).1 e
  exact h t (Bu ht) (Aj3 e).symm
theorem At0 {ts:List Ak} (hd:Dst ts) {j:Nat} {t:Ak} (h:ts[j]? = some t):D9 (plc ts) (H8 t.Mono)=true/\Gw (plc ts) (H8 t.Mono) 0=(j:Int):=by
 have hp:(plc ts)[j]? = some (H8 t.Mono,(j:Int)):=by rw [Ul,h]; rfl
 refine ⟨List.any_eq_true.2 ⟨_,Bu hp,(O6 _ _).2 rfl⟩,?_⟩
 unfold Gw
 have b:(plc ts).find? (fun p=>H8 t.Mono==p.1)=some (H8 t.Mono,(j:Int)):=by
  cases b:(plc ts).find? (fun p=>H8 t.Mono==p.1) with
  | none=>
   have:=List.find?_eq_none.1 b _ (Bu hp)
   exact (this ((O6 _ _).2 rfl)).elim
  | some q=>
   have h1:=List.find?_some b
   obtain ⟨i,hi⟩:=List.getElem?_of_mem (List.mem_of_find?_eq_some b)
   rw [Ul] at hi
   cases hu:ts[i]? with
   | none=>rw [hu] at hi; cases hi
   | some u=>
    rw [hu] at hi
    simp only [Option.map_some,Option.some.injEq] at hi
    subst hi
    have e:=Aj3 ((O6 _ _).1 h1)
    have g:i=j:=by
     have f:=Dd hu
     have c:=Dd h
     rw [Br f] at hu
     rw [Br c] at h
     rcases Nat.lt_trichotomy i j with k | k | k
     .have:=List.pairwise_iff_getElem.1 hd i j f c k
      rw [Option.some.inj hu,Option.some.inj h] at this
      exact (this e.symm).elim
     .exact k
     .have:=List.pairwise_iff_getElem.1 hd j i c f k
      rw [Option.some.inj hu,Option.some.inj h] at this
      exact (this e).elim
    subst g
    rw [e]
 rw [b]; rfl
open Classical in
theorem J9 (t:Ak) (p:List Ak) (m:Bb):cf (t::p) m=(if t.Mono=m then rq t.Coef else 0)+cf p m:=by
 simp only [cf]
 by_cases e:t.Mono=m
 .rw [if_pos (Kx.2 e),if_pos e]
 .rw [if_neg (fun h=>e (Kx.1 h)),if_neg e]
open Classical in
theorem Adb:∀{ts:List Ak} {j:Nat} {t u:Ak},ts[j]? = some t->u.Mono=t.Mono->∀m,cf (ts.set j u) m=cf ts m+(if t.Mono=m then rq u.Coef-rq t.Coef else 0)
 | [],j,t,u,h,_,m=>by simp at h
 | s::ts,0,t,u,h,hm,m=>by
  simp only [List.getElem?_cons_zero,Option.some.injEq] at h
  subst h
  rw [List.set_cons_zero,J9,J9,hm]
  split <;> grind
 | s::ts,j+1,t,u,h,hm,m=>by
  simp only [List.getElem?_cons_succ] at h
  rw [List.set_cons_succ,J9,J9,Adb h hm m]
  grind
theorem Dst.set {ts:List Ak} (h:Dst ts) {j:Nat} {t u:Ak} (ht:ts[j]? = some t) (b:u.Mono=t.Mono):Dst (ts.set j u):=by
 have e:(ts.set j u).map (·.Mono)=ts.map (·.Mono):=by
  apply List.ext_getElem?
  intro i
  rw [List.getElem?_map,List.getElem?_map,List.getElem?_set]
  by_cases e:j=i
  .subst e; rw [if_pos rfl,if_pos (Dd ht),ht]; simp [b]
  .rw [if_neg e]
 have k:∀l:List Ak,Dst l↔(l.map (·.Mono)).Pairwise (·≠·):=fun l=>by rw [List.pairwise_map]; exact Iff.rfl
 rw [k,e,<-k]; exact h
structure Col (k:Nat) (P:Bb->Prop) (ts:List Ak):Prop where
 dst:Dst ts
 tb:∀t∈ts,RB k t.Coef
 mo:∀t∈ts,P t.Mono
theorem Col.nil (k:Nat) (P:Bb->Prop):Col k P []:=⟨List.Pairwise.nil,fun _ h=>(by cases h),fun _ h=>(by cases h)⟩
theorem Akg {k0 k:Nat} {P:Bb->Prop} (L:∀m,P m->CMo m) (l ts:List Ak) (B:Col k0 P ts) (J:∀t∈l,RB k t.Coef/\P t.Mono) (hk:k<=k0) (U:k0+l.length*(k+3)<34359738000) (S:ts.length+l.length<=1099511627776) :
  ∃f,K9 l (plc ts) ts=some (plc f,f)/\Col (k0+l.length*(k+3)) P f/\f.length<=ts.length+l.length/\∀m,cf f m=cf ts m+cf l m:=by
 unfold K9
 refine W3 (A:=List Ak) (fun f=>(plc f,f)) ?_
 refine Dr (fun s=>∃(j:Nat) (u:List Ak),s=((j:Int),plc u,u)/\j<=l.length/\Col (k0+j*(k+3)) P u/\u.length<=ts.length+j/\∀m,cf u m=cf ts m+cf (l.take j) m) (fun s=>l.length-s.1.toNat)
  (fun z=>∃u,z=(plc u,u)/\Col (k0+l.length*(k+3)) P u/\u.length<=ts.length+l.length/\∀m,cf u m=cf ts m+cf l m) ⟨0,ts,rfl,by omega,by simpa using B,by omega,fun m=>by simp only [List.take_zero,cf]; grind⟩ ?_ ?_
 .rintro _ ⟨j,u,rfl,hj,hu,y,q⟩
  rcases Nat.lt_or_ge j l.length with h | h
  .have hx:l[j]? = some l[j]:=Br h
   generalize l[j]=x at hx
   obtain ⟨hb,G⟩:=J x (Bu hx)
   have E:j*(k+3)+(k+3)<=l.length*(k+3):=by rw [<-Nat.succ_mul]; exact Nat.mul_le_mul_right _ h
   have D:(j+1)*(k+3)=j*(k+3)+(k+3):=by rw [Nat.succ_mul]
   simp only [Aj (by omega:(j:Int)<(l.length:Int)),cond_true,Cf rfl hx,Ad,Atw (L _ G),C1 h (by omega)]
   left
   by_cases hex:∃t∈u,t.Mono=x.Mono
   .obtain ⟨t,ht,I⟩:=hex
    obtain ⟨i,hi⟩:=List.getElem?_of_mem ht
    obtain ⟨g1,g2⟩:=At0 hu.dst hi
    rw [I] at g1 g2
    obtain ⟨c,R,_,N,V,M⟩:=Ajj (hu.tb t ht) hb (by omega) (by omega)
    refine ⟨((j+1:Nat),plc (u.set i ⟨c,t.Mono⟩),u.set i ⟨c,t.Mono⟩),?_,⟨j+1,u.set i ⟨c,t.Mono⟩,rfl,by omega,⟨hu.dst.set hi rfl,?_,?_⟩,by rw [List.length_set]; omega,fun m=>?_⟩,by simp; omega⟩
    .simp only [g1,g2,cond_true,Ad,Cf rfl hi,R,Gb rfl,Aty (u:=⟨c,t.Mono⟩) hi rfl]
    .intro w hw
     rcases List.mem_or_eq_of_mem_set hw with hw | rfl
     .exact (hu.tb w hw).mono (by omega)
     .exact N.mono (by omega)
    .intro w hw
     rcases List.mem_or_eq_of_mem_set hw with hw | rfl
     .exact hu.mo w hw
     .exact hu.mo t ht
    .rw [Adb (u:=⟨c,t.Mono⟩) hi rfl m,q m,C2 hx,J7,J9]
     simp only [M,I,cf]
     split <;> grind
   .have g:=Atz (m:=x.Mono) (ts:=u) fun t ht e=>hex ⟨t,ht,e⟩
    refine ⟨((j+1:Nat),plc (u++[x]),u++[x]),?_,⟨j+1,u++[x],rfl,by omega,⟨?_,?_,?_⟩,by simp; omega,fun m=>?_⟩,by simp; omega⟩
    .simp only [g,cond_false,Ad]
     rw [C4 (by simp; omega),Ad,Akf _ _ _ g,Atx]
    .refine List.pairwise_append.2 ⟨hu.dst,List.pairwise_singleton _ _,fun a ha b hb=>?_⟩
     simp only [List.mem_singleton] at hb
     subst hb
     exact fun e=>hex ⟨a,ha,e⟩
    .intro w hw
     rcases List.mem_append.1 hw with hw | hw
     .exact (hu.tb w hw).mono (by omega)
     .simp only [List.mem_singleton] at hw
      subst hw
      exact hb.mono (by omega)
    .intro w hw
     rcases List.mem_append.1 hw with hw | hw
     .exact hu.mo w hw
     .simp only [List.mem_singleton] at hw
      subst hw
      exact G
    .rw [J7,q m,C2 hx,J7]; grind
  .have:j=l.length:=by omega
   subst this
   rw [List.take_length] at q
   simp only [Ap (by omega:¬(l.length:Int)<(l.length:Int)),cond_false]
   exact .inr ⟨_,rfl,u,rfl,hu,y,q⟩
 .rintro _ ⟨u,rfl,h1,h2,h3⟩
  exact ⟨_,rfl,u,rfl,h1,h2,h3⟩
end Go.Ab
namespace Go.Ab
open Go
end Go.Ab
namespace Go.Ab
open Go
theorem Akh (x:Cm) (k:CSz x) (f:List (List Ak)) (D:∀p∈f,∀t∈p,TSz t) (V:f.length<=1048576) :
  ∃r,K8 x f=some r/\(((H7 x/\∀p∈f,Gq x.Data x.Vars x.Res p=true)/\∃B,r = .inl (true,x,B,[],x.Data,x.Vars,x.Res.Kind,x.Res.Num,x.Res.Args)/\E4 x.Data x.Vars x.Res B) \/
   ((¬(H7 x/\∀p∈f,Gq x.Data x.Vars x.Res p=true))/\r = .inr false)):=by
 obtain ⟨b,b1,b2⟩:=Arl k.ds
 have R:=k.nv
 have N:=k.rs
 unfold K8
 rw [b1,Ab1 x.Data x.Res 0 (by omega)]
 by_cases y:x.Vars.length<=3000
 .rw [Ap (by omega)]
  simp only [cond_false,Ad]
  cases b with
  | false=>exact ⟨_,rfl,.inr ⟨fun h=>(by have:=b2.2 h.1.2.1; cases this),rfl⟩⟩
  | true=>
   have M:=b2.1 rfl
   simp only [bnt,cond_false]
   cases G:(Eo x.Data 0 x.Res&&decide (A7 x.Res<=200)) with
   | false=>exact ⟨_,rfl,.inr ⟨fun h=>(by have:=h.1.2.2.1; rw [show H6 x.Data x.Res=false from G] at this; cases this),rfl⟩⟩
   | true=>
    simp only [bnt,cond_false,Ad]
    refine Dr (fun i=>∃j:Nat,i=j/\j<=x.Vars.length/\(x.Vars.take j).all (H6 x.Data)=true) (fun i=>x.Vars.length-i.toNat)
     (fun z=>match z with | .inl r=>r=false/\¬H7 x | .inr _=>H7 x) ⟨0,rfl,by omega,by simp⟩ ?_ ?_
    .rintro i ⟨j,rfl,hj,c⟩
     rcases Nat.lt_or_ge j x.Vars.length with h | h
     .have ht:x.Vars[j]? = some x.Vars[j]:=Br h
      generalize x.Vars[j]=t at ht
      have:=k.vs t (Bu ht)
      simp only [Aj (by omega:(j:Int)<(x.Vars.length:Int)),cond_true,Cf rfl ht,Ad,Ab1 x.Data t 0 (by omega),C1 h (by omega)]
      rw [show (Eo x.Data 0 t&&decide (A7 t<=200))=H6 x.Data t from rfl]
      cases J:H6 x.Data t with
      | true=>exact .inl ⟨_,rfl,⟨j+1,rfl,by omega,by rw [C2 ht,List.all_append,c]; simp [J]⟩,by simp; omega⟩
      | false=>
       refine .inr ⟨.inl false,rfl,rfl,fun E=>?_⟩
       have:=List.all_eq_true.1 E.2.2.2 t (Bu ht)
       rw [J] at this; cases this
     .have:j=x.Vars.length:=by omega
      subst this
      rw [List.take_length] at c
      exact .inr ⟨.inr (),by simp,y,M,G,c⟩
    .rintro (r | u) g
     .obtain ⟨rfl,g⟩:=g
      exact ⟨_,rfl,.inr ⟨fun h=>g h.1,rfl⟩⟩
     .have L:H7 x:=g
      simp only
      refine Dr (fun s=>∃(j:Nat) (o:List (ByteArray×Int)),s=((j:Int),o)/\j<=f.length/\E4 x.Data x.Vars x.Res o/\∀p∈f.take j,Gq x.Data x.Vars x.Res p=true) (fun s=>f.length-s.1.toNat)
       (fun z=>match z with | .inl r=>r=false/\¬(∀p∈f,Gq x.Data x.Vars x.Res p=true) | .inr o=>E4 x.Data x.Vars x.Res o/\∀p∈f,Gq x.Data x.Vars x.Res p=true)
       ⟨0,[],rfl,by omega,(fun q h=>by cases h),(fun q h=>by simp at h)⟩ ?_ ?_
      .rintro _ ⟨j,o,rfl,hj,I,c⟩
       rcases Nat.lt_or_ge j f.length with h | h
       .have ht:f[j]? = some f[j]:=Br h
        generalize f[j]=p at ht
        have l:=Bu ht
        obtain ⟨B,U,S⟩:=Asz (L.ctx k) [] I p (D p l)
        simp only [Aj (by omega:(j:Int)<(f.length:Int)),cond_true,Cf rfl ht,Ad,U,C1 h (by omega)]
        cases A:Gq x.Data x.Vars x.Res p with
        | true=>
         refine .inl ⟨_,rfl,⟨j+1,B,rfl,by omega,S,fun q hq=>?_⟩,by simp; omega⟩
         rw [C2 ht] at hq
         rcases List.mem_append.1 hq with hq | hq
         .exact c q hq
         .simp only [List.mem_singleton] at hq
          subst hq; exact A
        | false=>
         refine .inr ⟨.inl false,rfl,rfl,fun E=>?_⟩
         have:=E p l
         rw [A] at this; cases this
       .have:j=f.length:=by omega
        subst this
        rw [List.take_length] at c
        exact .inr ⟨.inr o,by simp,I,c⟩
      .rintro (r | o) hw
       .obtain ⟨rfl,hw⟩:=hw
        exact ⟨_,rfl,.inr ⟨fun h=>hw h.2,rfl⟩⟩
       .exact ⟨_,rfl,.inl ⟨⟨L,hw.2⟩,o,rfl,hw.1⟩⟩
 .rw [Aj (by omega)]
  exact ⟨_,rfl,.inr ⟨fun h=>y h.1.1,rfl⟩⟩
theorem At1 {data:List Ax} {vars:List Ah} {res:Ah} {m:Bb} (h:Gp data vars res m=true) (q:MSz m):CMo m:=by
 have c:=(As2 h).2
 unfold Gp at h
 simp only [Db,decide_eq_true_eq] at h
 obtain ⟨⟨h1,h2⟩,h3⟩:=h
 have b:∀f∈m.Factors,0<=Ed data vars res f:=by
  intro f c
  obtain ⟨j,hj⟩:=List.getElem?_of_mem c
  have:=G0 h1 hj
  simp only [Lu,Db,decide_eq_true_eq] at this
  omega
 have ha:∀a∈m.Atoms,1<=a.Deg/\G9 a.Lin=true/\a.Lin.Terms≠[]:=by
  intro a ha
  obtain ⟨j,hj⟩:=List.getElem?_of_mem ha
  have:=G0 h2 hj
  simp only [Jf,Db,decide_eq_true_eq] at this
  refine ⟨this.1.1.1.1,this.1.1.1.2,fun e=>?_⟩
  have k:=this.1.1.2
  rw [e] at k; simp at k
 obtain ⟨a1,a2,a3⟩:=Ug m.Atoms fun a h=>by have:=(ha a h).1; omega
 have f1:=Ajd m.Factors b
 have al:(m.Atoms.length:Int)<=D6 m.Atoms:=by
  have key:∀l:List B4,(∀a∈l,1<=a.Deg)->(l.length:Int)<=D6 l:=by
   intro l
   induction l with
   | nil=>intro _; simp [D6]
   | cons f fs ih=>
    intro i
    have h1:=i f (by simp)
    have h2:=ih (fun g s=>i g (by simp [s]))
    unfold D6 at *
    simp only [List.map_cons,List.sum_cons,List.length_cons]; omega
  exact key _ fun a h=>(ha a h).1
 exact ⟨q,c,by omega,fun a h=>⟨(ha a h).2.1,(ha a h).2.2,(ha a h).1,by have:=a3 a h; omega⟩⟩
def Rl (x:Cm) (m:Bb):Prop:=Gp x.Data x.Vars x.Res m=true/\MSz m
theorem Rl.cmo {x:Cm} {m:Bb} (h:Rl x m):CMo m:=At1 h.1 h.2
structure Ka (x:Cm) (p:List Ak):Prop where
 can:Gq x.Data x.Vars x.Res p=true
 sz:∀t∈p,TSz t
theorem Ka.cp {x:Cm} {p:List Ak} (h:Ka x p):CP p:=(X6.1 h.can).2.1
theorem Ka.mo {x:Cm} {p:List Ak} (h:Ka x p):∀t∈p,Rl x t.Mono:=fun t ht=>⟨(X6.1 h.can).2.2 t ht,(h.sz t ht).mo⟩
theorem Ka.tb {x:Cm} {p:List Ak} (h:Ka x p):∀t∈p,RB 1048576 t.Coef/\Rl x t.Mono:=fun t ht=>⟨(h.sz t ht).co,h.mo t ht⟩
theorem At2 {x:Cm} (i:CSz x) (k:H7 x) {p q:List Ak} (hp:Ka x p) (hq:Ka x q):∃f,K8 x [p,q]=some (.inl (true,x,f,[],x.Data,x.Vars,x.Res.Kind,x.Res.Num,x.Res.Args)):=by
 have b:∀r∈[p,q],Ka x r:=by
  intro r c
  simp only [List.mem_cons,List.not_mem_nil,or_false] at c
  rcases c with rfl | rfl <;> assumption
 obtain ⟨r,h,g⟩:=Akh x i [p,q] (fun r c=>(b r c).sz) (by simp)
 rcases g with ⟨_,f,e,_⟩ | ⟨j,_⟩
 .exact ⟨f,by rw [h,e]⟩
 .exact (j ⟨k,fun r c=>(b r c).can⟩).elim
theorem At3 {r:A5} {j k:Nat} (q:List Ak) (y:RB j r) (hq:∀t∈q,RB k t.Coef) (hj:j<34359738000) (hk:k<34359738000) (D:q.length<=1048576) :
  ∃x,Sf q r=some x/\x.length=q.length/\(∀m,cf x m=cf q m*rq r)/\∀t∈x,RB (k+j+2) t.Coef/\∃u∈q,u.Mono=t.Mono:=by
 unfold Sf
 refine Dr (fun s=>∃(i:Nat) (o:List Ak),s=((i:Int),o)/\i<=q.length/\o.length=i/\(∀m,cf o m=cf (q.take i) m*rq r)/\∀t∈o,RB (k+j+2) t.Coef/\∃u∈q,u.Mono=t.Mono) (fun s=>q.length-s.1.toNat)
  (fun o=>o.length=q.length/\(∀m,cf o m=cf q m*rq r)/\∀t∈o,RB (k+j+2) t.Coef/\∃u∈q,u.Mono=t.Mono) ⟨0,[],rfl,by omega,rfl,(fun m=>by simp only [List.take_zero,cf]; grind),fun _ h=>by cases h⟩ ?_ ?_
 .rintro _ ⟨i,o,rfl,hi,l,b,g⟩
  rcases Nat.lt_or_ge i q.length with h | h
  .have hx:q[i]? = some q[i]:=Br h
   generalize q[i]=t at hx
   have f:=Bu hx
   obtain ⟨c,B,_,A,E,z⟩:=Ajk (hq t f) y hk hj
   simp only [Aj (by omega:(i:Int)<(q.length:Int)),cond_true,Cf rfl hx,Ad,B,C1 h (by omega)]
   rw [C4 (by simp; omega)]
   refine .inl ⟨_,rfl,⟨i+1,o++[⟨c,t.Mono⟩],rfl,by omega,by simp [l],fun m=>?_,fun w hw=>?_⟩,by simp; omega⟩
   .rw [J7,b,C2 hx,J7]
    simp only [cf,z]
    split <;> grind
   .rcases List.mem_append.1 hw with hw | hw
    .exact g w hw
    .simp only [List.mem_singleton] at hw
     subst hw
     exact ⟨A,t,f,rfl⟩
  .have:i=q.length:=by omega
   subst this
   rw [List.take_length] at b
   simp only [Ap (by omega:¬(q.length:Int)<(q.length:Int)),cond_false]
   exact .inr ⟨_,rfl,l,b,g⟩
 .rintro o ⟨h1,h2,h3⟩
  exact ⟨_,rfl,h1,h2,h3⟩
theorem At4 {k:Nat} (ts:List Ak) (h:∀t∈ts,RB k t.Coef) (hk:k<34359738000) (f:ts.length<=1048576):Sc ts=some (ts.all fun t=>decide (0<=rq t.Coef)):=by
 have b:∀x:Rat,decide (Lv x<(0:Int)) = !decide (0<=x):=by
  intro x
  unfold Lv
  by_cases h1:x<0
  .rw [if_pos h1,Ap (Rat.not_le.2 h1)]; rfl
  .rw [if_neg h1,Aj (Rat.not_lt.1 h1)]
   split <;> rfl
 have key:=Abo ts (fun t=>!decide (0<=rq t.Coef)) (by omega) (J:=fun z=>match z with | .inl c=>some c | .inr _=>some (-1)) (step:=fun v3=>bif (decide (v3<(ts.length:Int))) then ((Af ts v3).bind fun v4=>(Si v4).bind fun v5=>bif v5 then some (.inr (.inl v3)) else some (.inl (Ac (v3+1)))) else some (.inr (.inr ()))) (by
  intro j t ht h1 h2 h3
  simp only [h1,h2,h3,cond_true,Ad,Si,(Acv (h t ht) hk).1,b]) (fun h=>by simp only [h]; rfl) (fun _=>rfl) rfl
 obtain ⟨i,i1,i2⟩:=key
 have e:V8 ts=some i:=i1
 unfold Sc V4
 rw [e,Ad,Ad,i2,List.not_any_eq_all_not]
 simp
open Classical in
theorem At5 {ts:List Ak} (hd:Dst ts) {t:Ak} (ht:t∈ts):cf ts t.Mono=rq t.Coef:=by
 induction ts with
 | nil=>cases ht
 | cons u ts ih=>
  obtain ⟨h1,h2⟩:=List.pairwise_cons.1 hd
  rw [J9]
  have none:∀(l:List Ak) (m:Bb),(∀w∈l,w.Mono≠m)->cf l m=0:=fun l m h=>Ajs fun w hw e=>h w hw (Kx.1 e)
  rcases List.mem_cons.1 ht with rfl | ht
  .rw [if_pos rfl,none ts t.Mono (fun w hw e=>h1 w hw e.symm)]; grind
  .rw [if_neg (h1 t ht),ih h2 ht]; grind
open Classical in
theorem Aki {ts:List Ak} (hd:Dst ts):(ts.all fun t=>decide (0<=rq t.Coef))=true↔∀m,0<=cf ts m:=by
 rw [List.all_eq_true]
 constructor
 .intro h m
  clear hd
  induction ts with
  | nil=>exact Rat.le_refl
  | cons t ts ih=>
   have h1:=h t (by simp)
   have h2:=ih fun u hu=>h u (by simp [hu])
   simp only [decide_eq_true_eq] at h1
   rw [J9]
   split <;> grind
 .intro h t ht
  have:=h t.Mono
  rw [At5 hd ht] at this
  simpa using this
theorem At6:∃r,Hv (-1)=some r/\RB 1 r/\rq r = -1:=by
 refine ⟨_,Ap2 (-1) (by decide) (by decide),?_,?_⟩
 .exact Q4 _ _ _ 1 (I6 (by decide)) (I6 (by decide)) (by omega)
 .rw [Pb _ _ _ (by decide)]; decide
theorem At7 {x:Cm} (G:CSz x) (I:H7 x) {p q:List Ak} (hp:Ka x p) (hq:Ka x q) :
  ∃b,Nu x p q=some b/\(b=true↔∀m,cf q m<=cf p m):=by
 obtain ⟨M,hb⟩:=At2 G I hp hq
 have L:=(X6.1 hp.can).1
 have J:=(X6.1 hq.can).1
 unfold Nu
 rw [hb]
 simp only [Ad,bnt,cond_false,P1]
 obtain ⟨u,s,l,c,j⟩:=Akg (k0:=1048579) (k:=1048576) (P:=Rl x) (fun m h=>h.cmo) p [] (Col.nil _ _) hp.tb (by omega) (by omega) (by simp; omega)
 obtain ⟨r,A,z,y⟩:=At6
 obtain ⟨E,D,g,B,f⟩:=At3 (k:=1048576) q z (fun t ht=>(hq.tb t ht).1) (by omega) (by omega) (by omega)
 obtain ⟨v,i,v2,v3,v4⟩:=Akg (k:=1048579) (P:=Rl x) (fun m h=>h.cmo) E u l (fun t ht=>⟨(f t ht).1,by obtain ⟨w,hw,e⟩:=(f t ht).2; rw [<-e]; exact (hq.tb w hw).2⟩) (by omega) (by rw [g]; omega) (by simp at c; omega)
 simp at c
 rw [show K9 p [] []=some (plc u,u) from s,Ad,A,Ad,D,Ad,i,Ad]
 rw [At4 v v2.tb (by rw [g]; omega) (by omega),Ad]
 refine ⟨_,rfl,(Aki v2.dst).trans ?_⟩
 have e:∀m,cf v m=cf p m-cf q m:=by
  intro m; rw [v4,j,B,y]; simp only [cf]; grind
 constructor
 .intro h m; have:=h m; rw [e] at this; grind
 .intro h m; have:=h m; rw [e]; grind
end Go.Ab
namespace Go.Ab
open Go
end Go.Ab
namespace Go.Ab
open Go
end Go.Ab
namespace Go.Ab
open Go
end Go.Ab
namespace Go.Ab
open Go
end Go.Ab
namespace Go.Ab
open Go
structure Asc (b:List Int) (n:Nat) (l:List Int):Prop where
 up:l.Pairwise (· < ·)
 mem:∀y,y∈l↔y∈b.take n
theorem At8 {b:List Int} (c:b.Pairwise (·<=·)) {q:Nat} {p:Int} (hp:b[q]? = some p):∀y∈b.take (q+1),y<=p:=by
 intro y hy
 obtain ⟨i,hi⟩:=List.getElem?_of_mem hy
 rw [List.getElem?_take] at hi
 split at hi
 .rename_i f
  by_cases e:i=q
  .subst e; rw [hi] at hp; cases hp; exact Int.le_refl _
  .have h1:=Dd hi
   have h2:=Dd hp
   have:=(List.pairwise_iff_getElem.1 c) i q h1 h2 (by omega)
   rw [Br h1] at hi
   rw [Br h2] at hp
   cases hi; cases hp; exact this
 .cases hi
theorem Asc.step {b:List Int} (g:b.Pairwise (·<=·)) {q:Nat} {l:List Int} {p x:Int} (h:Asc b (q+1) l) (hp:b[q]? = some p) (hx:b[q+1]? = some x) (j:x≠p):Asc b (q+2) (l++[x]):=by
 have f:=At8 g hp
 have i:p<x:=by
  have h1:=Dd hp
  have h2:=Dd hx
  have:=(List.pairwise_iff_getElem.1 g) q (q+1) h1 h2 (by omega)
  rw [Br h1] at hp
  rw [Br h2] at hx
  cases hp; cases hx; omega
 refine ⟨?_,fun y=>?_⟩
 .rw [List.pairwise_append]
  refine ⟨h.up,by simp,fun a ha c hc=>?_⟩
  rw [List.mem_singleton] at hc
  subst hc
  have:=f a ((h.mem a).1 ha)
  omega
 .rw [C2 hx,List.mem_append,List.mem_append,h.mem y]
theorem Asc.same {b:List Int} {q:Nat} {l:List Int} {x:Int} (h:Asc b (q+1) l) (hp:b[q]? = some x) (hx:b[q+1]? = some x):Asc b (q+2) l:=by
 refine ⟨h.up,fun y=>?_⟩
 rw [C2 hx,List.mem_append,h.mem y]
 constructor
 .exact .inl
 .rintro (h1 | h1)
  .exact h1
  .rw [List.mem_singleton] at h1
   subst h1
   rw [C2 hp]; simp
theorem Um {α:Type} {l:List α} {off n:Nat} {i:Int} {j:Nat} {x:α} (hi:i=j) (hj:j<n) (h:l[off+j]? = some x):Es l off n i=some x:=by
 subst hi
 unfold Es
 rw [if_pos (by omega)]; simpa using h
end Go.Ab
namespace Go.Ab
open Go
end Go.Ab
namespace Go.Ab
open Go
end Go.Ab
namespace Go.Ab
open Go
end Go.Ab
namespace Go.Ab
open Go
end Go.Ab
namespace Go.Ab
open Go
theorem At9:Vz=some true:=by kernel_rfl
end Go.Ab
namespace Go.Ab
open Go
end Go.Ab
namespace Go.Ab
open Go
theorem Aua:∀(k:Nat) (i:A6) (a:Int),Cr i<=k->k<1099511627776->∃r,N1 k i a=some r/\True:=by
 intro k
 induction k with
 | zero=>intro i a h; have:=Fe i; omega
 | succ k ih=>
  intro i a h hk
  have f:=Fe i
  have g:=Lp i.Kids
  rw [N1]
  refine Kt ⟨_,rfl,trivial⟩ ?_
  refine Dr (fun (v,_)=>∃j:Nat,v=j/\j<=i.Kids.length) (fun (v,_)=>i.Kids.length-v.toNat) (fun _=>True) ⟨0,rfl,by omega⟩ ?_ ?_
  .rintro ⟨v,b⟩ ⟨j,rfl,hj⟩
   rcases Nat.lt_or_ge j i.Kids.length with h' | h'
   .have hx:i.Kids[j]? = some i.Kids[j]:=Br h'
    generalize i.Kids[j]=x at hx
    have l:=Ku (Bu hx)
    obtain ⟨⟨y,z⟩,c,_⟩:=ih x b (by omega) (by omega)
    simp only [Aj (by omega:(j:Int)<(i.Kids.length:Int)),cond_true,Cf rfl hx,Ad,c,C1 h' (by omega)]
    cases y with
    | false=>exact .inr ⟨_,rfl,trivial⟩
    | true=>exact .inl ⟨_,rfl,⟨j+1,rfl,by omega⟩,by simp only [Int.toNat_natCast]; omega⟩
   .have:j=i.Kids.length:=by omega
    subst this
    exact .inr ⟨.inr b,by simp,trivial⟩
  .rintro (⟨x,y⟩ | e) _
   .exact ⟨_,rfl,trivial⟩
   .exact ⟨_,rfl,trivial⟩
theorem Aub (i:A6) (h:Cr i<=1048576):∃b,Sh i=some b:=by
 unfold Sh
 obtain ⟨r,h1,_⟩:=Aua 4000000 i 40 (by omega) (by omega)
 exact ⟨_,by rw [h1]; rfl⟩
def Pf (m:Bb):Prop:=m.Factors.length<=8/\m.Atoms.length<=8/\∀a∈m.Atoms,a.Lin.Terms.length<=70
theorem Auc (m:Bb) (i:MSz m):∃b,Sb m=some b/\(b=true->Pf m):=by
 unfold Sb
 by_cases h1:(m.Factors.length:Int)>8
 .rw [Aj h1]
  exact ⟨false,rfl,fun h=>by cases h⟩
 .rw [Ap h1]
  by_cases h2:(m.Atoms.length:Int)>8
  .rw [Aj h2]
   exact ⟨false,rfl,fun h=>by cases h⟩
  .rw [Ap h2]
   simp only [cond_false,Ad]
   refine Dr (fun v=>∃j:Nat,v=j/\j<=m.Factors.length) (fun v=>m.Factors.length-v.toNat) (fun z=>z = .inl false\/z = .inr ()) ⟨0,rfl,by omega⟩ ?_ ?_
   .rintro v ⟨j,rfl,hj⟩
    rcases Nat.lt_or_ge j m.Factors.length with h' | h'
    .have hx:m.Factors[j]? = some m.Factors[j]:=Br h'
     generalize m.Factors[j]=x at hx
     obtain ⟨b,hb⟩:=Aub x.Index (i.fi x (Bu hx))
     simp only [Aj (by omega:(j:Int)<(m.Factors.length:Int)),cond_true,Cf rfl hx,Ad,hb,C1 h' (by omega)]
     cases b with
     | false=>exact .inr ⟨_,rfl,.inl rfl⟩
     | true=>exact .inl ⟨_,rfl,⟨j+1,rfl,by omega⟩,by simp only [Int.toNat_natCast]; omega⟩
    .have:j=m.Factors.length:=by omega
     subst this
     exact .inr ⟨.inr (),by simp,.inr rfl⟩
   .rintro z (rfl | rfl)
    .exact ⟨false,rfl,fun h=>by cases h⟩
    .dsimp only
     refine Dr (fun v=>∃j:Nat,v=j/\j<=m.Atoms.length/\∀a∈m.Atoms.take j,a.Lin.Terms.length<=70) (fun v=>m.Atoms.length-v.toNat) (fun z=>z = .inl false\/(z = .inr ()/\∀a∈m.Atoms,a.Lin.Terms.length<=70)) ⟨0,rfl,by omega,by simp⟩ ?_ ?_
     .rintro v ⟨j,rfl,hj,c⟩
      rcases Nat.lt_or_ge j m.Atoms.length with h' | h'
      .have hx:m.Atoms[j]? = some m.Atoms[j]:=Br h'
       generalize m.Atoms[j]=x at hx
       simp only [Aj (by omega:(j:Int)<(m.Atoms.length:Int)),cond_true,Cf rfl hx,Ad,V2,C1 h' (by omega)]
       by_cases f:(x.Lin.Terms.length:Int)<=70
       .rw [Aj f]
        refine .inl ⟨_,rfl,⟨j+1,rfl,by omega,fun a ha=>?_⟩,by simp only [Int.toNat_natCast]; omega⟩
        rw [C2 hx] at ha
        rcases List.mem_append.1 ha with ha | ha
        .exact c a ha
        .rw [List.mem_singleton] at ha
         subst ha; omega
       .rw [Ap f]
        exact .inr ⟨_,rfl,.inl rfl⟩
      .have:j=m.Atoms.length:=by omega
       subst this
       rw [List.take_length] at c
       exact .inr ⟨.inr (),by simp,.inr ⟨rfl,c⟩⟩
     .rintro z (rfl | ⟨rfl,g⟩)
      .exact ⟨false,rfl,fun h=>by cases h⟩
      .exact ⟨true,rfl,fun _=>⟨by omega,by omega,g⟩⟩
theorem Aud (p:List Ak) (q:p.length<=1048576) (hp:∀t∈p,TSz t):∃b,Sa p 10=some b/\(b=true->p.length<=10/\∀t∈p,Pf t.Mono):=by
 unfold Sa
 refine Dr (fun v=>∃j:Nat,v=j/\j<=p.length/\j<=11/\∀t∈p.take j,Pf t.Mono) (fun v=>p.length-v.toNat) (fun z=>z = .inl false\/(z = .inr ()/\(p.length<=10->∀t∈p,Pf t.Mono))) ⟨0,rfl,by omega,by omega,by simp⟩ ?_ ?_
 .rintro v ⟨j,rfl,hj,g,f⟩
  rcases Nat.lt_or_ge j p.length with h' | h'
  .by_cases l:j<=10
   .have hx:p[j]? = some p[j]:=Br h'
    generalize p[j]=x at hx
    obtain ⟨b,hb,k⟩:=Auc x.Mono (hp x (Bu hx)).mo
    simp only [Aj (by omega:(j:Int)<(p.length:Int)),Aj (by omega:(j:Int)<=10),cond_true,Cf rfl hx,Ad,hb,C1 h' (by omega)]
    cases b with
    | false=>exact .inr ⟨_,rfl,.inl rfl⟩
    | true=>
     simp only [bnt,cond_false]
     have:∃c,R9 x.Coef=some c:=by
      unfold R9
      cases decide ((x.Coef.Num.length:Int)<=8) with
      | true=>exact ⟨_,rfl⟩
      | false=>exact ⟨_,rfl⟩
     obtain ⟨c,hc⟩:=this
     rw [hc,Ad]
     cases c with
     | false=>exact .inr ⟨_,rfl,.inl rfl⟩
     | true=>
      refine .inl ⟨_,rfl,⟨j+1,rfl,by omega,by omega,fun t ht=>?_⟩,by simp only [Int.toNat_natCast]; omega⟩
      rw [C2 hx] at ht
      rcases List.mem_append.1 ht with ht | ht
      .exact f t ht
      .rw [List.mem_singleton] at ht
       subst ht; exact k rfl
   .refine .inr ⟨.inr (),?_,.inr ⟨rfl,fun h=>by omega⟩⟩
    simp only [Aj (by omega:(j:Int)<(p.length:Int)),Ap (by omega:¬(j:Int)<=10),cond_true,cond_false,Ad]
  .have:j=p.length:=by omega
   subst this
   rw [List.take_length] at f
   exact .inr ⟨.inr (),by simp,.inr ⟨rfl,fun _=>f⟩⟩
 .rintro z (rfl | ⟨rfl,i⟩)
  .exact ⟨false,rfl,fun h=>by cases h⟩
  .refine ⟨decide ((p.length:Int)<=10),rfl,fun h=>?_⟩
   rw [decide_eq_true_eq] at h
   exact ⟨by omega,i (by omega)⟩
end Go.Ab
namespace Go.Ab
open Go
end Go.Ab
namespace Go.Ab
open Go
end Go.Ab
namespace Go.Ab
open Go
def Na (t:Ak):Bool:=decide (Gm (sv t.Coef) (nv t.Coef)<0)
end Go.Ab
namespace Go.Ab
open Go
theorem Aue:∀(k:Nat) (t:A6),Cr t<=k->k<1099511627776->Og k t=some t:=by
 intro k
 induction k with
 | zero=>intro t h; have:=Fe t; omega
 | succ k ih=>
  intro t h hk
  have c:=Fe t
  have b:=Lp t.Kids
  rw [Og]
  refine G6 t.Kids (fun j=>((j:Int),(t.Kids.take j))) rfl (by omega) ?_ ?_
  .intro j x hj hx h1 h2 h3
   have:=Ku (Bu hx)
   simp only [h1,h2,h3,cond_true,Ad,ih x (by omega) (by omega)]
   rw [C4 (by simp; omega),Ad,C2 hx]
  .intro h1
   exact ⟨t.Kids,by simp,by cases t; rfl⟩
theorem Auf (m:Bb) (b:MSz m):Sz m=some m:=by
 have g:=b.nf
 have f:=b.na
 unfold Sz
 refine G6 m.Factors (fun j=>((j:Int),(m.Factors.take j))) rfl (by omega) ?_ ?_
 .intro j x hj hx h1 h2 h3
  have c:=Bu hx
  have:=b.fi x c
  simp only [h1,h2,h3,cond_true,Ad,Aue 4000000 x.Index (by omega) (by omega)]
  rw [C4 (by simp; omega),Ad,C2 hx]
 .intro h1
  refine ⟨m.Factors,by simp,?_⟩
  dsimp only
  refine G6 m.Atoms (fun j=>((j:Int),(m.Atoms.take j))) rfl (by omega) ?_ ?_
  .intro j x hj hx h1 h2 h3
   have c:=Bu hx
   have:=b.al x c
   simp only [h1,h2,h3,cond_true,Ad,Wc]
   rw [C4 (by simp; omega),Ad,Ad,C4 (by simp; omega),Ad,C2 hx]; rfl
  .intro h1
   exact ⟨m.Atoms,by simp,by cases m; rfl⟩
theorem Aug {α:Type} (b:List α) (n k:Nat) (z x:α) (B:n<=b.length) (hk:k<=n) (hb:n<=1000000) :
  ∃c:List α,((Hi (n+1) (Ac ((k:Int)+1)) (((n+1:Nat):Nat):Int)).bind fun v8=>
    match v8 with
    | .inl v9=>
     (Ih (n+1) (k:Int) (((n+1:Nat):Nat):Int)).bind fun f=>
     (Kg (Cp b n [z]) (0+v9.1) (v9.2-v9.1) (0+f.1) (f.2-f.1)).bind fun l=>some l
    | .inr _=>(Ih (n+1) (k:Int) (((n+1:Nat):Nat):Int)).bind fun v12=>some (Cp b n [z]))=some c/\c.length=max b.length (n+1) /\
   (c.set k x).take (n+1)=(b.take n).take k++x::(b.take n).drop k:=by
 have g:(Cp b n [z]).length=max b.length (n+1):=by rw [K0 B]; rfl
 have s:∀i,i<n->(Cp b n [z])[i]? = b[i]?:=fun i hi=>by rw [Nf B,if_pos hi]
 have E:Ac ((k:Int)+1)=((k+1:Nat):Int):=C1 (n:=n+1) (by omega) (by omega)
 have u:Ih (n+1) (k:Int) (((n+1:Nat):Nat):Int)=some (k,n+1):=by
  unfold Ih
  rw [if_pos (by omega)]; simp
 have key:∃c:List α,((Hi (n+1) (Ac ((k:Int)+1)) (((n+1:Nat):Nat):Int)).bind fun v8=>
    match v8 with
    | .inl v9=>
     (Ih (n+1) (k:Int) (((n+1:Nat):Nat):Int)).bind fun f=>
     (Kg (Cp b n [z]) (0+v9.1) (v9.2-v9.1) (0+f.1) (f.2-f.1)).bind fun l=>some l
    | .inr _=>(Ih (n+1) (k:Int) (((n+1:Nat):Nat):Int)).bind fun v12=>some (Cp b n [z]))=some c/\c.length=max b.length (n+1)/\(∀i,i<k->c[i]? = b[i]?)/\∀i,k<=i->i<n->c[i+1]? = b[i]?:=by
  rw [E,u]
  by_cases G:k<n
  .have q:Hi (n+1) ((k+1:Nat):Int) (((n+1:Nat):Nat):Int)=some (.inl (k+1,n+1)):=by
    unfold Hi
    rw [if_pos (by omega),if_pos (by omega)]; simp
   rw [q,Ad]
   dsimp only
   have A:Kg (Cp b n [z]) (0+(k+1)) (n+1-(k+1)) (0+k) (n+1-k)=some (Cp (Cp b n [z]) (0+(k+1)) (((Cp b n [z]).drop (0+k)).take (min (n+1-k) (n+1-(k+1))))):=by
    unfold Kg
    rw [if_pos (by omega)]
   rw [Ad]
   dsimp only
   rw [A,Ad]
   have hd:(((Cp b n [z]).drop (0+k)).take (min (n+1-k) (n+1-(k+1)))).length=n-k:=by
    rw [List.length_take,List.length_drop,g]; omega
   refine ⟨_,rfl,?_,fun i hi=>?_,fun i hi h=>?_⟩
   .rw [K0 (by rw [g]; omega),g,hd]; omega
   .rw [Nf (by rw [g]; omega),if_pos (by omega),s i (by omega)]
   .rw [Nf (by rw [g]; omega),if_neg (by omega),if_pos (by rw [hd]; omega),List.getElem?_take,if_pos (by omega),List.getElem?_drop,show 0+k+(i+1-(0+(k+1)))=i by omega,s i h]
  .have D:k=n:=by omega
   have q:Hi (n+1) ((k+1:Nat):Int) (((n+1:Nat):Nat):Int)=some (.inr ()):=by
    unfold Hi
    rw [if_pos (by omega),if_neg (by omega)]
   rw [q,Ad]
   dsimp only
   rw [Ad]
   exact ⟨_,rfl,g,fun i hi=>s i (by omega),fun i hi h=>by omega⟩
 obtain ⟨c,g1,g2,g3,g4⟩:=key
 refine ⟨c,g1,g2,?_⟩
 have y:((b.take n).take k).length=k:=by rw [List.length_take,List.length_take]; omega
 apply List.ext_getElem?
 intro i
 rw [List.getElem?_take,List.getElem?_set]
 by_cases h1:i<k
 .rw [if_pos (by omega),if_neg (by omega),g3 i h1,List.getElem?_append_left (by omega),List.getElem?_take,if_pos h1,List.getElem?_take,if_pos (by omega)]
 .rw [List.getElem?_append_right (by omega),y]
  by_cases h2:i=k
  .subst h2
   rw [if_pos (by omega),if_pos rfl,if_pos (by omega),Nat.sub_self]; rfl
  .obtain ⟨j,hj⟩:∃j,i=j+1:=⟨i-1,by omega⟩
   subst hj
   rw [show j+1-k=(j-k)+1 by omega,List.getElem?_cons_succ,List.getElem?_drop,show k+(j-k)=j by omega,List.getElem?_take]
   by_cases h3:j<n
   .rw [if_pos (by omega),if_neg (by omega),g4 j (by omega) h3,if_pos h3]
   .rw [if_neg (by omega),if_neg h3]
theorem Auh {α:Type} (c:Nat) (b:List α) (n k:Nat) (y:n<=b.length) (hk:k<n) (hb:(b.length+n)*c<=140737488355328) (u:n<=1000000) :
  ∃o:List α,((Hi n (Ac ((k:Int)+1)) ((n:Nat):Int)).bind fun v21=>
    match v21 with
    | .inl f=>(Pz c b k (0+f.1) (f.2-f.1)).bind fun j=>some (j.2,j.1)
    | .inr _=>(K4 c b k []).bind fun v24=>some (v24.2,v24.1))=some (n-1,o)/\n-1<=o.length/\o.length<=b.length/\o.take (n-1)=(b.take n).take k++(b.take n).drop (k+1):=by
 have s:Ac ((k:Int)+1)=((k+1:Nat):Int):=C1 (n:=n+1) (by omega) (by omega)
 rw [s]
 by_cases h:k+1<n
 .have g:Hi n ((k+1:Nat):Int) ((n:Nat):Int)=some (.inl (k+1,n)):=by
   unfold Hi
   rw [if_pos (by omega),if_pos (by omega)]; simp
  rw [g,Ad]
  dsimp only
  have hq:Pz c b k (0+(k+1)) (n-(k+1))=some (Cp b k ((b.drop (0+(k+1))).take (n-(k+1))),k+(n-(k+1))):=by
   unfold Pz
   rw [if_pos ⟨by omega,by omega,Nat.le_trans (Nat.mul_le_mul_right _ (by omega)) hb⟩]
  rw [hq,Ad]
  have hd:((b.drop (0+(k+1))).take (n-(k+1))).length=n-(k+1):=by rw [List.length_take,List.length_drop]; omega
  refine ⟨_,by rw [show k+(n-(k+1))=n-1 by omega],?_,?_,?_⟩
  .rw [K0 (by omega),hd]; omega
  .rw [K0 (by omega),hd]; omega
  .have q:((b.take n).take k).length=k:=by rw [List.length_take,List.length_take]; omega
   apply List.ext_getElem?
   intro i
   rw [List.getElem?_take]
   by_cases h1:i<k
   .rw [if_pos (by omega),Nf (by omega),if_pos h1,List.getElem?_append_left (by omega),List.getElem?_take,if_pos h1,List.getElem?_take,if_pos (by omega)]
   .rw [List.getElem?_append_right (by omega),q,List.getElem?_drop,List.getElem?_take]
    by_cases h2:i<n-1
    .rw [if_pos h2,Nf (by omega),if_neg h1,if_pos (by rw [hd]; omega),List.getElem?_take,if_pos (by omega),List.getElem?_drop,if_pos (by omega),show 0+(k+1)+(i-k)=k+1+(i-k) by omega]
    .rw [if_neg h2,if_neg (by omega)]
 .have x:k+1=n:=by omega
  have g:Hi n ((k+1:Nat):Int) ((n:Nat):Int)=some (.inr ()):=by
   unfold Hi
   rw [if_pos (by omega),if_neg (by omega)]
  rw [g,Ad]
  dsimp only
  have hq:K4 c b k []=some (Cp b k [],k):=by
   unfold K4
   rw [if_pos ⟨by omega,Nat.le_trans (Nat.mul_le_mul_right _ (by simp)) hb⟩]; rfl
  rw [hq,Ad]
  have l:Cp b k []=b:=by unfold Cp; simp
  rw [l]
  refine ⟨b,by rw [show n-1=k by omega],by omega,Nat.le_refl _,?_⟩
  have:(b.take n).drop (k+1) = []:=by rw [List.drop_eq_nil_iff,List.length_take]; omega
  rw [this,List.append_nil,List.take_take,show min k n=n-1 by omega]
end Go.Ab
namespace Go.Ab
open Go
theorem Aui (a:Nat) (h:a<1099511627776):D7 .i64 (Ac (a:Int)) 2=some ((a / 2:Nat):Int):=by
 have h1:Ac (a:Int)=(a:Int):=by rw [Ac,Bt] <;> omega
 rw [h1]
 unfold D7
 rw [if_neg (by decide),Int.tdiv_eq_ediv_of_nonneg (by omega),show ((a:Int) / 2)=((a / 2:Nat):Int) from rfl,Bt (by omega) (by omega)]
theorem Auj (b:List Ak) (n:Nat) (m:Bb) (Y:n<=b.length) (R:(b.take n).Pairwise ltT) (N:∀t∈b.take n,MSz t.Mono) (hb:n<=1000000) :
  ∃k:Nat,k<=n/\(∀(i:Nat) (t:Ak),i<k->(b.take n)[i]? = some t->Cw t.Mono m<0)/\(∀(i:Nat) (t:Ak),k<=i->(b.take n)[i]? = some t->0<=Cw t.Mono m) /\
   An (S:=(Int×Int)) (E:=Int) (fun (y,z)=>
    bif (decide (y<z)) then (
    (D7 .i64 (Ac (y+z)) 2).bind fun v8=>
    (Es b 0 n v8).bind fun v9=>
    (Jv v9.Mono m).bind fun A=>
    bif (decide (A<(0:Int))) then some (.inl ((Ac (v8+1)),z))
    else some (.inl (y,v8)))
    else some (.inr y)) (0,((n:Nat):Int))=some (k:Int):=by
 have L:(b.take n).length=n:=by rw [List.length_take]; omega
 have I:∀i,i<n->(b.take n)[i]? = b[i]?:=fun i hi=>by rw [List.getElem?_take,if_pos hi]
 have D:∀(i j:Nat) (t u:Ak),i<j->(b.take n)[i]? = some t->(b.take n)[j]? = some u->Cw t.Mono u.Mono<0:=fun i j t u G ht hu=>by
  have h1:=Dd ht
  have h2:=Dd hu
  have:=(List.pairwise_iff_getElem.1 R) i j h1 h2 G
  rw [Br h1] at ht
  rw [Br h2] at hu
  cases ht; cases hu; exact this
 obtain ⟨e,h1,k,h2,h3,X,V⟩:=Nt (step:=(fun (y,z)=>
    bif (decide (y<z)) then (
    (D7 .i64 (Ac (y+z)) 2).bind fun v8=>
    (Es b 0 n v8).bind fun v9=>
    (Jv v9.Mono m).bind fun A=>
    bif (decide (A<(0:Int))) then some (.inl ((Ac (v8+1)),z))
    else some (.inl (y,v8)))
    else some (.inr y):Int×Int->Option ((Int×Int)⊕Int)))
  (fun s=>∃i j:Nat,s=((i:Int),(j:Int))/\i<=j/\j<=n/\(∀(q:Nat) (t:Ak),q<i->(b.take n)[q]? = some t->Cw t.Mono m<0)/\(∀(q:Nat) (t:Ak),j<=q->(b.take n)[q]? = some t->0<=Cw t.Mono m))
  (fun s=>s.2.toNat-s.1.toNat)
  (fun e=>∃k:Nat,e=(k:Int)/\k<=n/\(∀(i:Nat) (t:Ak),i<k->(b.take n)[i]? = some t->Cw t.Mono m<0)/\(∀(i:Nat) (t:Ak),k<=i->(b.take n)[i]? = some t->0<=Cw t.Mono m)) (by
   rintro s ⟨i,j,rfl,G,hj,h1,h2⟩
   rcases Nat.lt_or_ge i j with h | h
   .obtain ⟨c,U⟩:∃c:Nat,c=(i+j) / 2:=⟨_,rfl⟩
    have hx:b[c]? = some (b[c]'(by omega)):=Br _
    generalize b[c]'_=x at hx
    have f:(b.take n)[c]? = some x:=by rw [I c (by omega)]; exact hx
    have J:=N x (Bu f)
    have M:((i:Int)+(j:Int))=((i+j:Nat):Int):=by omega
    simp only [Aj (by omega:(i:Int)<(j:Int)),cond_true,M,Aui (i+j) (by omega),<-U,Ad,Um (l:=b) (off:=0) (n:=n) (i:=(c:Int)) rfl (by omega) (by rw [Nat.zero_add]; exact hx),X3 x.Mono m J]
    by_cases e:Cw x.Mono m<0
    .rw [Aj e,cond_true,C1 (n:=n) (by omega) (by omega)]
     refine .inl ⟨_,rfl,⟨c+1,j,rfl,by omega,hj,fun q t hq ht=>?_,h2⟩,by simp only [Int.toNat_natCast]; omega⟩
     by_cases B:q=c
     .subst B; rw [f] at ht; cases ht; exact e
     .exact Uh (D q c t x (by omega) ht f) e
    .rw [Ap e,cond_false]
     refine .inl ⟨_,rfl,⟨i,c,rfl,by omega,by omega,h1,fun q t hq ht=>?_⟩,by simp only [Int.toNat_natCast]; omega⟩
     by_cases B:q=c
     .subst B; rw [f] at ht; cases ht; omega
     .have g:=D c q x t (by omega) f ht
      refine Classical.byContradiction fun hc=>?_
      exact e (Uh g (by omega))
   .have:i=j:=by omega
    subst this
    exact .inr ⟨(i:Int),by simp only [Ap (by omega:¬(i:Int)<(i:Int)),cond_false],i,rfl,hj,h1,h2⟩) (0,((n:Nat):Int)) ⟨0,n,rfl,by omega,Nat.le_refl _,(fun q t h=>by omega),fun q t h ht=>by have:=Dd ht; omega⟩
 subst h2
 exact ⟨k,h3,X,V,h1⟩
end Go.Ab
namespace Go.Ab
open Go
theorem Yg (x:Rat):Lv x=0↔x=0:=by
 unfold Lv
 constructor
 .intro h
  split at h
  .cases h
  .split at h
   .cases h
   .grind
 .rintro rfl
  rw [if_neg (by grind),if_neg (by grind)]
theorem Akj (L:List Ak) (k:Nat) (m:Bb):cf L m=cf (L.take k) m+cf (L.drop k) m:=by
 rw [<-J7,List.take_append_drop]
theorem CP.insert {L:List Ak} {k:Nat} {x:Ak} (h:CP L) (h1:∀(i:Nat) (t:Ak),i<k->L[i]? = some t->Cw t.Mono x.Mono<0) (h2:∀(i:Nat) (t:Ak),k<=i->L[i]? = some t->Cw x.Mono t.Mono<0) (h3:Ir x.Coef) (f:rq x.Coef≠0) :
  CP (L.take k++x::L.drop k):=by
 refine ⟨?_,fun t ht=>?_⟩
 .rw [List.pairwise_append]
  refine ⟨h.srt.sublist (List.take_sublist _ _),?_,?_⟩
  .rw [List.pairwise_cons]
   refine ⟨fun t ht=>?_,h.srt.sublist (List.drop_sublist _ _)⟩
   obtain ⟨i,hi⟩:=List.getElem?_of_mem ht
   rw [List.getElem?_drop] at hi
   exact h2 (k+i) t (by omega) hi
  .intro a ha c hc
   obtain ⟨i,hi⟩:=List.getElem?_of_mem ha
   rw [List.getElem?_take] at hi
   split at hi
   .rename_i b
    rcases List.mem_cons.1 hc with rfl | hc
    .exact h1 i a b hi
    .obtain ⟨j,hj⟩:=List.getElem?_of_mem hc
     rw [List.getElem?_drop] at hj
     have g1:=Dd hi
     have g2:=Dd hj
     have:=(List.pairwise_iff_getElem.1 h.srt) i (k+j) g1 g2 (by omega)
     rw [Br g1] at hi
     rw [Br g2] at hj
     cases hi; cases hj; exact this
   .cases hi
 .rw [List.mem_append,List.mem_cons] at ht
  rcases ht with ht | rfl | ht
  .exact h.coe t (List.mem_of_mem_take ht)
  .exact ⟨h3,f⟩
  .exact h.coe t (List.mem_of_mem_drop ht)
theorem CP.remove {L:List Ak} (k:Nat) (h:CP L):CP (L.take k++L.drop (k+1)):=by
 have b:(L.take k++L.drop (k+1)).Sublist L:=by
  have:L=L.take k++L.drop k:=(List.take_append_drop k L).symm
  conv=>rhs; rw [this]
  refine List.Sublist.append (List.Sublist.refl _) ?_
  rw [show k+1=k+1 from rfl,<-List.drop_drop]
  exact List.drop_sublist _ _
 exact ⟨h.srt.sublist b,fun t ht=>h.coe t (b.subset ht)⟩
open Classical in
theorem Auk (L:List Ak) (k:Nat) (x:Ak) (m:Bb):cf (L.take k++x::L.drop k) m=cf L m+(if x.Mono=m then rq x.Coef else 0):=by
 rw [J7,J9,Akj L k m]; grind
theorem Aul {L:List Ak} {k:Nat} {t:Ak} (h:L[k]? = some t):L.drop k=t::L.drop (k+1):=by
 have hk:=Dd h
 rw [List.drop_eq_getElem_cons hk]
 rw [Br hk] at h
 cases h; rfl
open Classical in
theorem Aum {L:List Ak} {k:Nat} {t:Ak} (h:L[k]? = some t) (m:Bb):cf (L.take k++L.drop (k+1)) m=cf L m-(if t.Mono=m then rq t.Coef else 0):=by
 rw [J7,Akj L k m,Aul h,J9]; grind
end Go.Ab
namespace Go.Ab
open Go
structure PSt (K:Nat) (n:Nat) (b:List Ak):Prop where
 le:n<=b.length
 cp:CP (b.take n)
 tm:∀t∈b.take n,RB K t.Coef/\MSz t.Mono
open Classical in
theorem Akk {K kc:Nat} {n:Nat} {b:List Ak} (h:PSt K n b) {m:Bb} {c:A5} (hc:RB kc c) (hm:MSz m) (hK:K+kc+3<30000000000) (hb:b.length<=100000) :
  ∃(n':Nat) (o:List Ak),P4 n m c b=some (n',o)/\o.length<=b.length+1/\PSt (K+kc+3) n' o/\∀m',cf (o.take n') m'=cf (b.take n) m' + (if m=m' then rq c else 0):=by
 obtain ⟨k,k1,k2,k3,k4⟩:=Auj b n m h.le h.cp.srt (fun t ht=>(h.tm t ht).2) (by have:=h.le; omega)
 have hlen:(b.take n).length=n:=by rw [List.length_take]; have:=h.le; omega
 have hget:∀i,i<n->(b.take n)[i]? = b[i]?:=fun i hi=>by rw [List.getElem?_take,if_pos hi]
 have hbn:=h.le
 unfold P4
 rw [k4,Ad]
 by_cases hin:∃t,k<n/\(b.take n)[k]? = some t/\Cw t.Mono m=0
 .obtain ⟨t,h1,h2,h3⟩:=hin
  have htm:=h.tm t (Bu h2)
  have hmm:t.Mono=m:=Kx.1 h3
  have hbk:b[k]? = some t:=by rw [<-hget k h1]; exact h2
  have hidx:Es b 0 n (k:Int)=some t:=Um rfl h1 (by rw [Nat.zero_add]; exact hbk)
  obtain ⟨s,s1,s2,s3,s4,s5⟩:=Ajj htm.1 hc (by omega) (by omega)
  have hset:Co b (((0:Nat):Int)+(k:Int)) (Ak.mk s t.Mono)=b.set k ⟨s,t.Mono⟩:=Gb (n:=k) (by omega) _
  have hbs:(b.set k ⟨s,t.Mono⟩)[k]? = some ⟨s,t.Mono⟩:=by rw [List.getElem?_set,if_pos rfl,if_pos (Dd hbk)]
  have hidx2:Es (b.set k ⟨s,t.Mono⟩) 0 n (k:Int)=some ⟨s,t.Mono⟩:=Um rfl h1 (by rw [Nat.zero_add]; exact hbs)
  simp only [Aj (by omega:(k:Int)<(n:Int)),cond_true,hidx,Ad,X3 t.Mono m htm.2,Eh h3,s2,hset,hidx2,(Acv s3 (by omega)).2]
  have htk:(b.set k ⟨s,t.Mono⟩).take n=(b.take n).set k ⟨s,t.Mono⟩:=by rw [List.take_set]
  have hlens:(b.set k ⟨s,t.Mono⟩).length=b.length:=List.length_set
  by_cases hz:rq s=0
  .rw [Eh ((Yg _).2 hz),cond_true]
   have hpre:R0 n (k:Int)=some k:=by
    unfold R0
    rw [if_pos (by omega)]; simp
   rw [hpre,Ad]
   obtain ⟨o,d1,d2,d3,d4⟩:=Auh 104 (b.set k ⟨s,t.Mono⟩) n k (by omega) h1 (by rw [hlens]; omega) (by omega)
   have hrm:(b.set k ⟨s,t.Mono⟩).take n=(b.take n).set k ⟨s,t.Mono⟩:=htk
   have hee:((b.take n).set k ⟨s,t.Mono⟩).take k++((b.take n).set k ⟨s,t.Mono⟩).drop (k+1)=(b.take n).take k++(b.take n).drop (k+1):=by
    rw [List.take_set_of_le (Nat.le_refl _),List.drop_set_of_lt (by omega)]
   rw [hrm,hee] at d4
   refine ⟨n-1,o,d1,by omega,⟨d2,by rw [d4]; exact h.cp.remove k,fun u hu=>?_⟩,fun m'=>?_⟩
   .rw [d4,List.mem_append] at hu
    have hu':u∈b.take n:=by
     rcases hu with hu | hu
     .exact List.mem_of_mem_take hu
     .exact List.mem_of_mem_drop hu
    exact ⟨((h.tm u hu').1).mono (by omega),(h.tm u hu').2⟩
   .rw [d4,Aum h2 m',hmm]
    by_cases e:m=m'
    .rw [if_pos e,if_pos e]
     have:rq c = - rq t.Coef:=by rw [s5] at hz; grind
     rw [this]; grind
    .rw [if_neg e,if_neg e]; grind
  .rw [Cl (fun e=>hz ((Yg _).1 e)),cond_false]
   refine ⟨n,b.set k ⟨s,t.Mono⟩,rfl,by omega,⟨by omega,?_,fun u hu=>?_⟩,fun m'=>?_⟩
   .rw [htk]
    refine ⟨?_,fun u hu=>?_⟩
    .rw [List.pairwise_iff_getElem]
     intro i j hi hj hij
     have g:∀(q:Nat) (hq:q<((b.take n).set k ⟨s,t.Mono⟩).length),(((b.take n).set k ⟨s,t.Mono⟩)[q]).Mono=((b.take n)[q]'(by rw [List.length_set] at hq; exact hq)).Mono:=by
      intro q hq
      rw [List.getElem_set]
      split
      .rename_i e
       subst e
       have:=Br (l:=b.take n) (i:=k) (by omega)
       rw [h2] at this
       rw [<-Option.some.inj this]
      .rfl
     unfold ltT
     rw [g i hi,g j hj]
     exact (List.pairwise_iff_getElem.1 h.cp.srt) i j _ _ hij
    .rcases List.mem_or_eq_of_mem_set hu with hu | rfl
     .exact h.cp.coe u hu
     .exact ⟨s4,hz⟩
   .rw [htk] at hu
    rcases List.mem_or_eq_of_mem_set hu with hu | rfl
    .exact ⟨((h.tm u hu).1).mono (by omega),(h.tm u hu).2⟩
    .exact ⟨s3,htm.2⟩
   .rw [htk,Adb (u:=⟨s,t.Mono⟩) h2 rfl m',hmm]
    by_cases e:m=m'
    .rw [if_pos e,if_pos e]
     show cf (b.take n) m' + (rq s-rq t.Coef)=_
     rw [s5]; grind
    .rw [if_neg e,if_neg e]
 .have hne:∀t,(b.take n)[k]? = some t->Cw t.Mono m≠0:=fun t ht e=>hin ⟨t,by have:=Dd ht; omega,ht,e⟩
  have hq:(bif decide ((k:Int)<(n:Int)) then (Es b 0 n (k:Int)).bind fun v12=>(Jv v12.Mono m).bind fun v13=>some (v13==0) else some false)=some false:=by
   by_cases h1:k<n
   .have hx:b[k]? = some (b[k]'(by omega)):=Br _
    generalize b[k]'_=x at hx
    have hLx:(b.take n)[k]? = some x:=by rw [hget k h1]; exact hx
    rw [Aj (by omega:(k:Int)<(n:Int)),cond_true,Um (l:=b) (off:=0) (n:=n) (i:=(k:Int)) rfl h1 (by rw [Nat.zero_add]; exact hx),Ad,X3 x.Mono m (h.tm x (Bu hLx)).2,Ad,Cl (hne x hLx)]
   .rw [Ap (by omega)]; rfl
  erw [hq]
  simp only [Ad,cond_false,(Acv hc (by omega)).2]
  by_cases hz:rq c=0
  .rw [Eh ((Yg _).2 hz),cond_true]
   refine ⟨n,b,rfl,by omega,⟨h.le,h.cp,fun u hu=>⟨((h.tm u hu).1).mono (by omega),(h.tm u hu).2⟩⟩,fun m'=>?_⟩
   rw [hz]
   split <;> grind
  .rw [Cl (fun e=>hz ((Yg _).1 e)),cond_false]
   have hap:K4 104 b n [(Ak.mk (A5.mk false [] []) (Bb.mk [] []))]=some (Cp b n [(Ak.mk (A5.mk false [] []) (Bb.mk [] []))],n+1):=by
    unfold K4
    rw [if_pos ⟨h.le,by simp; omega⟩]; rfl
   rw [hap,Ad]
   dsimp only
   obtain ⟨cc,c1,c2,c3,c4,c5⟩:=Ata hc (by omega)
   obtain ⟨o13,g1,g2,g3⟩:=Aug b n k (Ak.mk (A5.mk false [] []) (Bb.mk [] [])) ⟨cc,m⟩ h.le k1 (by omega)
   erw [g1]
   rw [Ad,c2,Ad,Auf m hm,Ad]
   have hk13:o13[k]? = some (o13[k]'(by omega)):=Br _
   rw [Um (l:=o13) (off:=0) (n:=n+1) (i:=(k:Int)) rfl (by omega) (by rw [Nat.zero_add]; exact hk13),Ad]
   have hset:Co o13 (((0:Nat):Int)+(k:Int)) (Ak.mk cc m)=o13.set k ⟨cc,m⟩:=Gb (n:=k) (by omega) _
   rw [hset]
   refine ⟨n+1,o13.set k ⟨cc,m⟩,rfl,by rw [List.length_set]; omega,⟨by rw [List.length_set]; omega,?_,fun u hu=>?_⟩,fun m'=>?_⟩
   .rw [g3]
    refine h.cp.insert (fun i t hi ht=>k2 i t hi ht) (fun i t hi ht=>?_) c3 (by rw [c4]; exact hz)
    have g:=k3 i t hi ht
    have hnz:Cw t.Mono m≠0:=by
     by_cases e:i=k
     .subst e; exact hne t ht
     .have hkl:=Dd ht
      have hx:(b.take n)[k]? = some ((b.take n)[k]'(by omega)):=Br _
      have g5:=k3 k _ (Nat.le_refl _) hx
      have g6:=hne _ hx
      have g7:=(List.pairwise_iff_getElem.1 h.cp.srt) k i (by omega) hkl (by omega)
      rw [Br hkl] at ht
      cases ht
      intro e2
      have:=Kx.1 e2
      unfold ltT at g7
      rw [this] at g7
      omega
    show Cw m t.Mono<0
    rw [Acy t.Mono m]; omega
   .rw [g3,List.mem_append,List.mem_cons] at hu
    rcases hu with hu | rfl | hu
    .have:=h.tm u (List.mem_of_mem_take hu)
     exact ⟨this.1.mono (by omega),this.2⟩
    .exact ⟨c5.mono (by omega),hm⟩
    .have:=h.tm u (List.mem_of_mem_drop hu)
     exact ⟨this.1.mono (by omega),this.2⟩
   .rw [g3,Auk,c4]
end Go.Ab
namespace Go.Ab
open Go
theorem PSt.mono {K c n:Nat} {b:List Ak} (h:PSt K n b) (f:K<=c):PSt c n b:=⟨h.le,h.cp,fun t ht=>⟨((h.tm t ht).1).mono f,(h.tm t ht).2⟩⟩
open Classical in
theorem Aun (p q:List Ak) (c:A5) (hl:p.length<=1000) (hl2:q.length<=1000) (hp:∀t∈p,RB 1048576 t.Coef/\MSz t.Mono) (hq:∀t∈q,RB 1048576 t.Coef/\MSz t.Mono) (hc:RB 10 c) :
  ∃r,Sg p q c=some r/\(CP r/\(∀m,cf r m=cf p m+rq c*cf q m)/\r.length<=p.length+q.length/\∀t∈r,RB ((p.length+q.length)*1048600) t.Coef/\MSz t.Mono):=by
 unfold Sg
 refine Dr (fun s=>∃(n j:Nat) (b:List Ak),s=(n,(j:Int),b)/\j<=p.length/\b.length<=j/\PSt (j*1048600) n b/\∀m,cf (b.take n) m=cf (p.take j) m) (fun s=>p.length-s.2.1.toNat)
  (fun e=>∃(n:Nat) (b:List Ak),e=(n,b)/\b.length<=p.length/\PSt (p.length*1048600) n b/\∀m,cf (b.take n) m=cf p m)
  ⟨0,0,[],rfl,by omega,by simp,⟨by simp,by simpa using CP.nil,fun t ht=>by simp at ht⟩,fun m=>rfl⟩ ?_ ?_
 .rintro s ⟨n,j,b,rfl,hj,hb,hP,hcf⟩
  rcases Nat.lt_or_ge j p.length with h | h
  .have hx:p[j]? = some p[j]:=Br h
   generalize p[j]=t at hx
   obtain ⟨t1,t2⟩:=hp t (Bu hx)
   obtain ⟨n',o,e1,e2,e3,e4⟩:=Akk hP t1 t2 (by omega) (by omega)
   simp only [Aj (by omega:(j:Int)<(p.length:Int)),cond_true,Cf rfl hx,Ad,e1,C1 h (by omega)]
   refine .inl ⟨_,rfl,⟨n',j+1,o,rfl,by omega,by omega,e3.mono (by omega),fun m=>?_⟩,by simp only [Int.toNat_natCast]; omega⟩
   rw [e4 m,hcf m,C2 hx,J7,J9]
   show _=_+(_+(0:Rat))
   grind
  .have:j=p.length:=by omega
   subst this
   rw [List.take_length] at hcf
   exact .inr ⟨(n,b),by simp only [Ap (by omega:¬(p.length:Int)<(p.length:Int)),cond_false],n,b,rfl,hb,hP,hcf⟩
 .rintro e ⟨n0,b0,rfl,hb0,hP0,hcf0⟩
  dsimp only
  refine Dr (fun s=>∃(n j:Nat) (b:List Ak),s=(n,(j:Int),b)/\j<=q.length/\b.length<=p.length+j/\PSt ((p.length+j)*1048600) n b/\∀m,cf (b.take n) m=cf p m+rq c*cf (q.take j) m) (fun s=>q.length-s.2.1.toNat)
   (fun e=>∃(n:Nat) (b:List Ak),e=(n,b)/\b.length<=p.length+q.length/\PSt ((p.length+q.length)*1048600) n b/\∀m,cf (b.take n) m=cf p m+rq c*cf q m)
   ⟨n0,0,b0,rfl,by omega,by omega,by simpa using hP0,fun m=>by rw [hcf0 m]; show _=_+rq c*(0:Rat); grind⟩ ?_ ?_
  .rintro s ⟨n,j,b,rfl,hj,hb,hP,hcf⟩
   rcases Nat.lt_or_ge j q.length with h | h
   .have hx:q[j]? = some q[j]:=Br h
    generalize q[j]=t at hx
    obtain ⟨t1,t2⟩:=hq t (Bu hx)
    obtain ⟨d,d1,d2,d3,d4,d5⟩:=Ajk hc t1 (by decide) (by decide)
    obtain ⟨n',o,e1,e2,e3,e4⟩:=Akk hP d3 t2 (by omega) (by omega)
    simp only [Aj (by omega:(j:Int)<(q.length:Int)),cond_true,Cf rfl hx,Ad,d2,e1,C1 h (by omega)]
    refine .inl ⟨_,rfl,⟨n',j+1,o,rfl,by omega,by omega,e3.mono (by omega),fun m=>?_⟩,by simp only [Int.toNat_natCast]; omega⟩
    rw [e4 m,hcf m,C2 hx,J7,J9,d5]
    show _=_+rq c*(_+(_+(0:Rat)))
    split <;> grind
   .have:j=q.length:=by omega
    subst this
    rw [List.take_length] at hcf
    exact .inr ⟨(n,b),by simp only [Ap (by omega:¬(q.length:Int)<(q.length:Int)),cond_false],n,b,rfl,hb,hP,hcf⟩
  .rintro e ⟨n,b,rfl,hb,hP,hcf⟩
   refine ⟨b.take n,?_,hP.cp,hcf,by rw [List.length_take]; omega,hP.tm⟩
   show (Rz b n).bind _=_
   unfold Rz
   rw [if_pos hP.le]; rfl
end Go.Ab
