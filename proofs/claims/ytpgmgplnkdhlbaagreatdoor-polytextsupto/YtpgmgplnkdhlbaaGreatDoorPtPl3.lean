/- Plain laws: what the plain functions answer. -/
import Derived.Test.YtpgmgplnkdhlbaaGreatDoorPtPl2
import Derived.Test.YtpgmgplnkdhlbaaGreatDoorPtPl1
import Derived.KernelRfl
namespace Go.Ab
open Go
theorem Au8 {α:Type} [DecidableEq α] (l m:List α) (b:l.length=m.length):(decide (l=m))=l.zipIdx.all (fun q=>decide (m[q.2]? = some q.1)):=by
 rw [Bool.eq_iff_iff,decide_eq_true_eq]
 constructor
 .rintro rfl
  exact Xs fun j x hx=>by simpa using hx
 .intro h
  apply List.ext_getElem?
  intro j
  cases hx:l[j]? with
  | none=>rw [List.getElem?_eq_none_iff] at hx; rw [List.getElem?_eq_none (by omega)]
  | some x=>have:=Hb h hx; rw [decide_eq_true_eq] at this; rw [this]
theorem Adt {R:Type} (l m:List Int) (b:l.length<1099511627776) (h:l.length=m.length) {J:Bool⊕Unit->Option R} {rt rf:R} (h1:J (.inl false)=some rf) (h2:J (.inr ())=some rt) :
  (An (S:=Int) (E:=(Bool⊕Unit)) (fun v3=>bif (decide (v3<(l.length:Int))) then ((Ae l v3).bind fun v4=>(Ae m v3).bind fun v5=>bif (v4 != v5) then some (.inr (.inl false)) else some (.inl (Ac (v3+1)))) else some (.inr (.inr ()))) 0).bind J=some (bif decide (l=m) then rt else rf):=by
 rw [Au8 l m h]
 refine Pa l (fun q=>decide (m[q.2]? = some q.1)) (fun j=>(j:Int)) rfl (by omega) (rt:=rt) (rf:=rf) ?_ ?_
 .intro j x hx _ g1 g2 g3
  have hj:j<m.length:=by have:=Fh hx; omega
  have hy:m[j]? = some m[j]:=B0 hj
  generalize m[j]=y at hy
  simp only [g1,g2,g3,cond_true,Ad,Bv rfl hy,hy,Option.some.injEq]
  by_cases e:x=y
  .rw [C4 e,Aj e.symm]
   exact ⟨fun _=>rfl,fun h=>by cases h⟩
  .rw [Cy e,Ap (fun h=>e h.symm)]
   exact ⟨(fun h=>by cases h),fun _=>⟨.inl false,rfl,h1⟩⟩
 .intro h _; exact ⟨.inr (),by simp only [h]; rfl,h2⟩
theorem Ak1 (l m:List Int) (b:l.length<1099511627776):Kt l m=some (decide (l=m)):=by
 unfold Kt
 by_cases h:l.length=m.length
 .rw [C4 (by omega)]
  simp only [cond_false]
  refine (Adt l m b h (rt:=true) (rf:=false) ?_ ?_).trans (by rw [Lv]) <;> rfl
 .rw [Cy (by omega),Ap (fun e=>h (by rw [e]))]; rfl
def K4 (a b:A4):Bool:=a.Neg==b.Neg&&decide (a.Num=b.Num)&&decide (a.Den=b.Den)
theorem Yo (a b:A4):K4 a b=true↔a=b:=by
 unfold K4
 simp only [C7,beq_iff_eq,decide_eq_true_eq]
 constructor
 .rintro ⟨⟨h1,h2⟩,h3⟩; cases a; cases b; simp_all
 .rintro rfl; simp
theorem Au9 (a b:A4) (h1:a.Num.length<1099511627776) (h2:a.Den.length<1099511627776):S4 a b=some (K4 a b):=by
 unfold S4 K4
 cases g:(a.Neg==b.Neg) with
 | false=>rw [show (a.Neg != b.Neg)=true by simp [bne,g]]; rfl
 | true=>
  rw [show (a.Neg != b.Neg)=false by simp [bne,g]]
  simp only [cond_false]
  by_cases f:a.Num.length=b.Num.length
  .rw [C4 (by omega)]
   by_cases c:a.Den.length=b.Den.length
   .rw [C4 (by omega)]
    simp only [cond_false,Ad,Bool.true_and]
    refine (Adt a.Num b.Num h1 f (rt:=decide (a.Den=b.Den)) (rf:=false) rfl ?_).trans (by cases decide (a.Num=b.Num) <;> rfl)
    refine (Adt a.Den b.Den h2 c (rt:=true) (rf:=false) ?_ ?_).trans (by rw [Lv]) <;> rfl
   .rw [Cy (by omega),Ap (fun e:a.Den=b.Den=>c (by rw [e]))]
    simp
  .rw [Cy (by omega),Ap (fun e:a.Num=b.Num=>f (by rw [e]))]
   simp
def Pn (c:A4):Bool:=K4 (Bw (sv c) (nv c) (dv c)) c && !(nv c==0)
theorem Ava (c:A4):Pn c=(K4 c (Bw (sv c) (nv c) (dv c)) && !(nv c==0)):=by
 unfold Pn
 congr 1
 rw [Bool.eq_iff_iff,Yo,Yo]; exact eq_comm
structure TSz (t:A6):Prop where
 co:RB 1048576 t.Coef
 mo:MSz t.Mono
def Nh (l:List A6) (x:A6) (j:Nat):Bool:=j==0||(match l[j-1]? with | some y=>decide (Ic y.Mono x.Mono<0) | none=>false)
def Ni (data:List Ao) (vars:List Af) (res:Af) (l:List A6) (t:A6) (j:Nat):Bool:=Pn t.Coef&&Gv data vars res t.Mono&&Nh l t j
def Hh (data:List Ao) (vars:List Af) (res:Af) (p:List A6):Bool:=decide (p.length<=1000)&&p.zipIdx.all (fun q=>Ni data vars res p q.1 q.2)
theorem Ak2 {S E:Type} (F:B8->B8->Option Int) (l:List A6) (g:∀y∈l,∀x,F y.Mono x=some (Ic y.Mono x)) {x:A6} {j:Nat} (hx:l[j]? = some x) (i:l.length<4611686018427387904) (c b:Option (S⊕E)) :
  (bif decide ((j:Int)>0) then ((Ae l (Ac ((j:Int)-1))).bind fun f=>(F f.Mono x.Mono).bind fun v28=>bif decide (v28>=0) then c else b) else b)=bif Nh l x j then b else c:=by
 have hj:=Fh hx
 unfold Nh
 by_cases h:j=0
 .subst h; rfl
 .rw [Aj (by omega)]
  have e:Ac ((j:Int)-1)=((j-1:Nat):Int):=by rw [Ac,Bl] <;> omega
  have hy:l[j-1]? = some l[j-1]:=B0 (by omega)
  rw [e,Bv rfl hy,hy]
  have h0:(j==0)=false:=by simpa using h
  simp only [cond_true,Ad,h0,Bool.false_or,g _ (List.getElem_mem (by omega:j-1<l.length))]
  by_cases hc:Ic l[j-1].Mono x.Mono<0
  .rw [Ap (by omega),Aj hc]; rfl
  .rw [Aj (by omega),Ap hc]; rfl
theorem Ak3 (s:Bool) (n:Nat):(Dt s n==0)=(n==0):=by
 unfold Dt
 by_cases h:n=0
 .rw [if_pos h]; subst h; rfl
 .rw [if_neg h]
  have:(n==0)=false:=by simpa using h
  rw [this]; cases s <;> rfl
theorem Avb {data:List Ao} {vars:List Af} {res:Af} (hc:Nf data vars res) {b1:List (ByteArray×Int)} (b2:List (ByteArray×List Dh)) (X:Fj data vars res b1) (p:List A6) (V:∀t∈p,TSz t) :
  ∃D,Sr p b1 b2 data vars res.Kind res.Num res.Args=some (Hh data vars res p,D)/\Fj data vars res D:=by
 unfold Sr Hh
 by_cases B:p.length<=1000
 .rw [Ap (by omega),Aj B,Bool.true_and]
  simp only [cond_false]
  obtain ⟨r,Y,U⟩:=Ud (M:=List (ByteArray×Int)) (R:=Bool×List (ByteArray×Int)) p (fun q=>Ni data vars res p q.1 q.2) (fun j o=>((j:Int),o)) (Fj data vars res)
   (fun r=>Fj data vars res r.2/\r.1=true) (fun r=>Fj data vars res r.2/\r.1=false) b1
   (s0:=((0:Int),b1))
   (step:=(fun (b,g)=>
    bif (decide (b<(p.length:Int))) then (
    (Ae p b).bind fun v12=>
    (Ml v12.Coef).bind fun f=>
    (show Option Bool from
    bif (f.Neg==v12.Coef.Neg) then (
    (Kt f.Num v12.Coef.Num).bind fun k=>
    bif k then (
    (Kt f.Den v12.Coef.Den).bind fun i=>
    some i)
    else some false)
    else some false).bind fun G=>
    bif (!G) then some (.inr (.inl (false,g)))
    else (
    (G7 f).bind fun E=>
    bif (E==(0:Int)) then some (.inr (.inl (false,g)))
    else (
    (Ql v12.Mono g b2 data vars res.Kind res.Num res.Args).bind fun v20=>
    bif (!v20.1) then some (.inr (.inl (false,v20.2)))
    else (
    bif (decide (b>(0:Int))) then (
    (Ae p (Ac (b-1))).bind fun v21=>
    (Mm v21.Mono v12.Mono).bind fun v22=>
    bif (decide (v22>=(0:Int))) then some (.inr (.inl (false,v20.2)))
    else some (.inl ((Ac (b+1)),v20.2)))
    else some (.inl ((Ac (b+1)),v20.2))))))
    else some (.inr (.inr g)):Int×List (ByteArray×Int)->Option ((Int×List (ByteArray×Int))⊕((Bool×List (ByteArray×Int))⊕List (ByteArray×Int)))))
   (J:=(fun z=>match z with
    | .inl (L,I)=>some (L,I)
    | .inr N=>some (true,N)))
   rfl X (by omega) (by
    intro j t o A hx _ h1 h2 h3
    have c:=V t (Br hx)
    obtain ⟨D,d1,d2⟩:=Au6 b2 hc A t.Mono c.mo
    have u:∀l:List Int,l=(Bw (sv t.Coef) (nv t.Coef) (dv t.Coef)).Num\/l=(Bw (sv t.Coef) (nv t.Coef) (dv t.Coef)).Den->l.length<1099511627776:=by
     intro l B
     have q:=Acw (sv t.Coef) (nv t.Coef) (dv t.Coef) 1048577 c.co.nv c.co.dv (by omega)
     have:=q.nl
     have:=q.dl
     rcases B with rfl | rfl <;> omega
    have s:(bif ((Bw (sv t.Coef) (nv t.Coef) (dv t.Coef)).Neg==t.Coef.Neg) then ((Kt (Bw (sv t.Coef) (nv t.Coef) (dv t.Coef)).Num t.Coef.Num).bind fun k=>bif k then ((Kt (Bw (sv t.Coef) (nv t.Coef) (dv t.Coef)).Den t.Coef.Den).bind fun i=>some i) else some false) else some false)=some (K4 (Bw (sv t.Coef) (nv t.Coef) (dv t.Coef)) t.Coef):=by
     unfold K4
     rw [Ak1 _ _ (u _ (.inl rfl)),Ak1 _ _ (u _ (.inr rfl))]
     cases ((Bw (sv t.Coef) (nv t.Coef) (dv t.Coef)).Neg==t.Coef.Neg) <;> cases decide ((Bw (sv t.Coef) (nv t.Coef) (dv t.Coef)).Num=t.Coef.Num) <;> rfl
    simp only [h1,h2,h3,cond_true,Ad,Ask t.Coef 1048576 c.co (by omega),s,Ak2 Mm p (fun y hy x=>Auz y.Mono x (V y hy).mo) hx (by omega),Ni,Pn]
    cases S:K4 (Bw (sv t.Coef) (nv t.Coef) (dv t.Coef)) t.Coef with
    | false=>exact ⟨(fun h=>by cases h),fun _=>⟨_,rfl,_,rfl,A,rfl⟩⟩
    | true=>
     have e:=(Yo _ _).1 S
     simp only [De,cond_false,Bool.true_and]
     rw [e,Acu t.Coef 1048576 c.co (by omega),Ad,Ak3]
     cases (nv t.Coef==0) with
     | true=>exact ⟨(fun h=>by cases h),fun _=>⟨_,rfl,_,rfl,A,rfl⟩⟩
     | false=>
      simp only [cond_false,d1,Ad,Bool.not_false,Bool.true_and]
      cases Gv data vars res t.Mono with
      | false=>exact ⟨(fun h=>by cases h),fun _=>⟨_,rfl,_,rfl,d2,rfl⟩⟩
      | true=>
       cases Nh p t j with
       | true=>exact ⟨fun _=>⟨D,rfl,d2⟩,fun h=>by cases h⟩
       | false=>exact ⟨(fun h=>by cases h),fun _=>⟨_,rfl,_,rfl,d2,rfl⟩⟩) (by
    intro o A h1 _
    exact ⟨.inr o,by simp only [h1]; rfl,_,rfl,A,rfl⟩)
  refine ⟨r.2,?_,?_⟩
  .have e:some r=some (p.zipIdx.all (fun q=>Ni data vars res p q.1 q.2),r.2):=by
    rcases U with ⟨h1,h2,h3⟩ | ⟨h1,h2,h3⟩
    .rw [h1,<-h3]
    .rw [h1,<-h3]
   rw [<-e]
   exact Y
  .rcases U with ⟨h1,h2,h3⟩ | ⟨h1,h2,h3⟩ <;> exact h2
 .rw [Aj (by omega),Ap B]
  exact ⟨b1,rfl,X⟩
theorem Avc {x:Ck} (hc:Nf x.Data x.Vars x.Res) (p:List A6) (c:∀t∈p,TSz t):Sv x p=some (Hh x.Data x.Vars x.Res p):=by
 unfold Sv Hh
 by_cases f:p.length<=1000
 .rw [Ap (by omega),Aj f,Bool.true_and]
  simp only [cond_false]
  refine (Pa p (fun q=>Ni x.Data x.Vars x.Res p q.1 q.2) (fun j=>(j:Int)) rfl (by omega) (rt:=true) (rf:=false) ?_ ?_).trans (by rw [Lv])
  .intro j t hx _ h1 h2 h3
   have b:=c t (Br hx)
   obtain ⟨v,g,v2⟩:=Au7 hc t.Mono b.mo
   simp only [h1,h2,h3,cond_true,Ad,g,v2,Ajg t.Coef 1048576 b.co (by omega),Ak3,Ac4 t.Coef 1048576 b.co (by omega),Au9 t.Coef _ (by have:=b.co.nl; omega) (by have:=b.co.dl; omega),
    Ak2 Qs p (fun y hy x=>Au0 y.Mono x (c y hy).mo) hx (by omega),Ni,Ava]
   cases Gv x.Data x.Vars x.Res t.Mono with
   | false=>exact ⟨(fun h=>by simp at h),fun _=>⟨.inl false,rfl,rfl⟩⟩
   | true=>
    cases (nv t.Coef==0) with
    | true=>exact ⟨(fun h=>by simp at h),fun _=>⟨.inl false,rfl,rfl⟩⟩
    | false=>
     cases K4 t.Coef (Bw (sv t.Coef) (nv t.Coef) (dv t.Coef)) with
     | false=>exact ⟨(fun h=>by simp at h),fun _=>⟨.inl false,rfl,rfl⟩⟩
     | true=>
      cases Nh p t j with
      | true=>exact ⟨fun _=>rfl,fun h=>by cases h⟩
      | false=>exact ⟨(fun h=>by cases h),fun _=>⟨.inl false,rfl,rfl⟩⟩
  .intro h _; exact ⟨.inr (),by simp only [h]; rfl,rfl⟩
 .rw [Aj (by omega),Ap f]; rfl
structure CSz (x:Ck):Prop where
 ds:DSz x.Data
 nv:x.Vars.length<=1048576
 vs:∀t∈x.Vars,A9 t<=1048576
 rs:A9 x.Res<=1048576
def F2 (data:List Ao) (t:Af):Bool:=Em data 0 t&&decide (A9 t<=200)
def Ir (x:Ck):Prop:=x.Vars.length<=3000/\Gu x.Data/\F2 x.Data x.Res=true/\x.Vars.all (F2 x.Data)=true
theorem Ir.ctx {x:Ck} (h:Ir x) (f:CSz x):Nf x.Data x.Vars x.Res:=by
 refine ⟨h.2.1,f.ds.sz.short,fun v t ht=>?_,h.1⟩
 have b:∀t,F2 x.Data t=true->A9 t<=200:=fun t h=>by
  simp only [F2,C7,decide_eq_true_eq] at h; exact h.2
 unfold tyX at ht
 by_cases c:v = -1
 .rw [if_pos c] at ht; cases ht; exact b _ h.2.2.1
 .rw [if_neg c] at ht
  exact b t (List.all_eq_true.1 h.2.2.2 t (E9 ht).2.2.2)
theorem Avd (x:Ck) (c:CSz x):∃b,Su x=some b/\(b=true↔Ir x):=by
 obtain ⟨b,b1,b2⟩:=Ajz c.ds
 have l:=c.nv
 have k:=c.rs
 unfold Su Ir
 rw [b1,X6 x.Data x.Res 0 (by omega)]
 simp only [Ad]
 cases b with
 | false=>exact ⟨false,rfl,by simp; intro _ h; have:=b2.2 h; cases this⟩
 | true=>
  have i:=b2.1 rfl
  simp only [De,cond_false]
  by_cases g:x.Vars.length<=3000
  .rw [Ap (by omega)]
   simp only [cond_false,Ad]
   cases f:(Em x.Data 0 x.Res&&decide (A9 x.Res<=200)) with
   | false=>exact ⟨false,rfl,by simp [F2,f]⟩
   | true=>
    refine ⟨x.Vars.all (F2 x.Data),?_,by rw [show F2 x.Data x.Res=true from f]; simp [g,i]⟩
    simp only [De,cond_false]
    refine (M8 x.Vars (F2 x.Data) (fun j=>(j:Int)) rfl (by omega) (rt:=true) (rf:=false) ?_ ?_).trans (by rw [Lv])
    .intro j t ht h1 h2 h3
     have:=c.vs t (Br ht)
     simp only [h1,h2,h3,cond_true,Ad,X6 x.Data t 0 (by omega)]
     rw [show (Em x.Data 0 t&&decide (A9 t<=200))=F2 x.Data t from rfl]
     cases F2 x.Data t with
     | true=>exact ⟨fun _=>rfl,fun h=>by cases h⟩
     | false=>exact ⟨(fun h=>by cases h),fun _=>⟨.inl false,rfl,rfl⟩⟩
    .intro h; exact ⟨.inr (),by simp only [h]; rfl,rfl⟩
  .rw [Aj (by omega)]
   exact ⟨false,rfl,by simp [g]⟩
theorem Ak4 (x:Ck) (c:CSz x) (p:List A6) (hp:∀t∈p,TSz t):∃b,Sm x p=some b/\(b=true↔Ir x/\Hh x.Data x.Vars x.Res p=true):=by
 obtain ⟨b,b1,b2⟩:=Avd x c
 unfold Sm
 rw [b1,Ad]
 cases b with
 | false=>exact ⟨false,rfl,by simp; intro h; have:=b2.2 h; cases this⟩
 | true=>
  have f:=b2.1 rfl
  rw [Avc (f.ctx c) p hp]
  exact ⟨_,rfl,by simp [f]⟩
end Go.Ab
namespace Go.Ab
open Go
end Go.Ab
namespace Go.Ab
open Go
end Go.Ab
namespace Go.Ab
open Go
end Go.Ab
namespace Go.Ab
open Go
theorem Ave {data:List Ao} (c:DSz data) (f:Gu data) (t:Af) (g:F2 data t=true) (i:Az) (hi:Cm i<=1048576):Te data t i=some (Et (D9 data i t)):=by
 have b:=g
 simp only [F2,C7,decide_eq_true_eq] at b
 obtain ⟨q,j,h⟩:=Ajx c
 have hq:q=true:=h.2 f
 subst hq
 unfold Te W8
 rw [j,X5 data t 0 (by omega)]
 simp only [Ad,cond_true]
 rw [show (Em data 0 t&&decide (A9 t<=200))=F2 data t from rfl,g]
 obtain ⟨p,l,k⟩:=(Auj f.szv c.sz.short 4000000).1 i t (by omega) hi b.2
 simp only [De,cond_false,l,Ad]
 rcases k with ⟨a1,d,a2,a3,a4⟩ | ⟨a1,a2⟩
 .rw [a1,a2,Yb a3,a4]; rfl
 .rw [a1,Ph a2]; rfl
theorem Avf {data:List Ao} (f:DSz data) (c:Gu data) (t:Af) (g:F2 data t=true) (i:Az) (hi:Cm i<=1048576):S6 data t i=some (Et (D9 data i t)):=by
 have b:=g
 simp only [F2,C7,decide_eq_true_eq] at b
 obtain ⟨w,j,h⟩:=Ajz f
 have k:w=true:=h.2 c
 subst k
 unfold S6 Wx
 rw [j,X6 data t 0 (by omega)]
 simp only [Ad,cond_true]
 rw [show (Em data 0 t&&decide (A9 t<=200))=F2 data t from rfl,g]
 simp only [De,cond_false,(Aj6 c.szv f.sz.short c.cons8 4000000).1 i t (by omega) hi b.2,Ad]
end Go.Ab
namespace Go.Ab
open Go
theorem Ak5 {data:List Ao} {vars:List Af} {res:Af} {m:B8} (h:Gv data vars res m=true):(∀f∈m.Factors,∃t,tyX vars res f.Var=some t)/\m.Factors.length<=6:=by
 unfold Gv at h
 simp only [C7,decide_eq_true_eq] at h
 obtain ⟨⟨h1,h2⟩,h3⟩:=h
 have b:∀f∈m.Factors,1<=Ea data vars res f:=by
  intro f b
  obtain ⟨j,hj⟩:=List.getElem?_of_mem b
  have:=Hb h1 hj
  simp only [L3,C7,decide_eq_true_eq] at this
  exact this.1
 have ha:0<=Ec m.Atoms:=(Ur m.Atoms (fun a ha=>by
  obtain ⟨j,hj⟩:=List.getElem?_of_mem ha
  have:=Hb h2 hj
  simp only [Jo,C7,decide_eq_true_eq] at this
  omega)).1
 refine ⟨fun f c=>?_,?_⟩
 .have:=b f c
  unfold Ea at this
  cases ht:tyX vars res f.Var with
  | none=>rw [ht] at this; have:(1:Int)<=-1:=this; omega
  | some t=>exact ⟨t,rfl⟩
 .have key:∀l:List Cd,(∀f∈l,1<=Ea data vars res f)->(l.length:Int)<=Dm data vars res l:=by
   intro l
   induction l with
   | nil=>intro _; simp [Dm]
   | cons f fs ih=>
    intro i
    have h1:=i f (by simp)
    have h2:=ih (fun g k=>i g (by simp [k]))
    unfold Dm at *
    simp only [List.map_cons,List.sum_cons,List.length_cons]; omega
  have:=key m.Factors b
  omega
end Go.Ab
namespace Go.Ab
open Go
end Go.Ab
namespace Go.Ab
open Go
end Go.Ab
namespace Go.Ab
open Go
end Go.Ab
namespace Go.Ab
open Go
def sg (s:Bool) (n:Nat):Int:=if s then -(n:Int) else n
def rq (a:A4):Rat:=mkRat (sg (sv a) (nv a)) (dv a)
def Hq (a:A4):Prop:=a=Bw (sv a) (nv a) (dv a)
theorem Ak6 (s:Bool) (n d:Nat) (hd:d≠0):Hq (Bw s n d):=by
 obtain ⟨g,b,h1,h2,h3,h4⟩:=As5 s n d hd
 unfold Hq
 generalize hc:Bw s n d=c at h1 h2 h3 h4
 have e:=Acy s (nv c) (dv c) g b
 rw [<-h1,<-h2,hc] at e
 by_cases f:n=0
 .have h0:nv c=0:=by
   rcases Nat.eq_zero_or_pos (nv c) with h | h
   .exact h
   .have:=Nat.mul_pos (Nat.pos_of_ne_zero b) h; omega
  rw [h0,Acv] at e ⊢
  exact e
 .rw [h3 f]; exact e
theorem Yp (n m:Int) {d e:Nat} (hd:d≠0) (he:e≠0):mkRat n d<mkRat m e↔n*e<m*d:=by
 have c:(0:Rat)<(d:Rat):=Rat.natCast_pos.2 (by omega)
 have b:(0:Rat)<(e:Rat):=Rat.natCast_pos.2 (by omega)
 rw [Rat.mkRat_eq_div,Rat.mkRat_eq_div,Rat.div_lt_iff c]
 rw [<-Rat.mul_lt_mul_right b]
 have f:(m:Rat) / (e:Rat)*(d:Rat)*(e:Rat)=(m:Rat)*(d:Rat):=by grind
 rw [f]
 have a1:(n:Rat)*(e:Rat)=((n*(e:Int):Int):Rat):=by rw [Rat.intCast_mul]; rfl
 have a2:(m:Rat)*(d:Rat)=((m*(d:Int):Int):Rat):=by rw [Rat.intCast_mul]; rfl
 rw [a1,a2,Rat.intCast_lt_intCast]
theorem Avg {a b:A4} (ha:Hq a) (hb:Hq b) (h:rq a=rq b):a=b:=by
 unfold rq at h
 rw [Rat.mkRat_eq_iff (Gs _) (Gs _)] at h
 rw [ha,hb]
 have q:=Gs a
 have l:=Gs b
 generalize nv a=n at *
 generalize dv a=d at *
 generalize sv a=s at *
 generalize nv b=m at *
 generalize dv b=e at *
 generalize sv b=t at *
 have f:n*e=m*d/\(n≠0->s=t):=by
  have c:n≠0->0<n*e:=fun h=>Nat.mul_pos (by omega) (by omega)
  have g:m≠0->0<m*d:=fun h=>Nat.mul_pos (by omega) (by omega)
  have x:((n*e:Nat):Int)=(n:Int)*e:=by simp
  have u:((m*d:Nat):Int)=(m:Int)*d:=by simp
  cases s <;> cases t <;> simp only [sg,if_true,if_false,Bool.false_eq_true,Int.neg_mul] at h
  .exact ⟨by omega,fun _=>rfl⟩
  .have:n*e=0/\m*d=0:=by omega
   refine ⟨by omega,fun i=>?_⟩
   have:=c i; omega
  .have:n*e=0/\m*d=0:=by omega
   refine ⟨by omega,fun i=>?_⟩
   have:=c i; omega
  .exact ⟨by omega,fun _=>rfl⟩
 have k:=Acy s n d e l
 have j:=Acy t m e d q
 rw [<-k,<-j,Nat.mul_comm e n,f.1,Nat.mul_comm e d,Nat.mul_comm m d]
 refine Asn fun h0=>f.2 ?_
 rintro rfl
 rw [Nat.zero_mul] at f
 have:=f.1
 rw [Nat.mul_comm d m] at h0
 omega
def Yq (x:Rat):Int:=if x<0 then -1 else if 0<x then 1 else 0
def Rw (x y:Rat):Int:=if x<y then -1 else if y<x then 1 else 0
theorem Adu (a:A4):rq a<0↔Dt (sv a) (nv a) = -1:=by
 have e:(0:Rat)=mkRat 0 1:=by simp
 rw [rq,e,Yp _ _ (Gs a) (by decide)]
 unfold sg Dt
 split <;> split <;> simp <;> omega
theorem Adv (a:A4):0<rq a↔Dt (sv a) (nv a)=1:=by
 have e:(0:Rat)=mkRat 0 1:=by simp
 rw [rq,e,Yp _ _ (by decide) (Gs a)]
 unfold sg Dt
 split <;> split <;> simp <;> omega
theorem Ak7 (a:A4):Dt (sv a) (nv a)=Yq (rq a):=by
 have h1:=Adu a
 have h2:=Adv a
 have h3:Dt (sv a) (nv a) = -1\/Dt (sv a) (nv a)=0\/Dt (sv a) (nv a)=1:=by unfold Dt; split <;> (try split) <;> simp
 unfold Yq
 split
 .rename_i h; exact h1.1 h
 .rename_i h
  split
  .rename_i h'; exact h2.1 h'
  .rename_i h'
   rcases h3 with h3 | h3 | h3
   .exact (h (h1.2 h3)).elim
   .exact h3
   .exact (h' (h2.2 h3)).elim
theorem Avh {a b:A4} {j k:Nat} (ha:RB j a) (hb:RB k b) (hj:j<34359738000) (hk:k<34359738000):N9 a b=some (Rw (rq a) (rq b)):=by
 unfold N9
 have h1:=ha.nv
 have h2:=ha.dv
 have h3:=hb.nv
 have h4:=hb.dv
 rw [Rl a j ha (by omega),Ad,Rl b k hb (by omega),Ad,Acs,Ad,Acs,Ad]
 dsimp only
 have l:rq a<rq b↔sg (sv a) (nv a)*dv b<sg (sv b) (nv b)*dv a:=Yp _ _ (Gs a) (Gs b)
 have i:rq b<rq a↔sg (sv b) (nv b)*dv a<sg (sv a) (nv a)*dv b:=Yp _ _ (Gs b) (Gs a)
 have J:0<dv a:=Nat.pos_of_ne_zero (Gs a)
 have I:0<dv b:=Nat.pos_of_ne_zero (Gs b)
 have s:=Ak7 a
 have q:=Ak7 b
 have A:=Adu a
 have y:=Adv a
 have x:=Adu b
 have u:=Adv b
 by_cases f:Dt (sv a) (nv a)<Dt (sv b) (nv b)
 .rw [Aj f,cond_true]
  have:rq a<rq b:=by
   rw [s,q] at f
   unfold Yq at f
   grind
  unfold Rw; rw [if_pos this]
 .rw [Ap f,cond_false]
  by_cases hgt:Dt (sv a) (nv a)>Dt (sv b) (nv b)
  .rw [Aj hgt,cond_true]
   have E:rq b<rq a:=by
    rw [s,q] at hgt
    unfold Yq at hgt
    grind
   have D:¬rq a<rq b:=by grind
   unfold Rw; rw [if_neg D,if_pos E]
  .rw [Ap hgt,cond_false]
   have heq:Dt (sv a) (nv a)=Dt (sv b) (nv b):=by omega
   have R:=Acm (nv a) (dv b)
   have N:=Acm (nv b) (dv a)
   rw [Ai4 _ _ (by omega) (by omega),Ad,Ai4 _ _ (by omega) (by omega),Ad,Ue _ _ (by omega) (by omega),Ad]
   have U:((nv a*dv b:Nat):Int)=(nv a:Int)*dv b:=by simp
   have S:((nv b*dv a:Nat):Int)=(nv b:Int)*dv a:=by simp
   have M:nv a≠0->0<nv a*dv b:=fun h=>Nat.mul_pos (by omega) I
   have L:nv b≠0->0<nv b*dv a:=fun h=>Nat.mul_pos (by omega) J
   have B:∀z:Int,z = -1\/z=0\/z=1->Ac z=z:=by
    rintro z (rfl | rfl | rfl) <;> decide
   unfold Rw E8
   simp only [l,i]
   rw [B]
   .refine congrArg some ?_
    by_cases c:nv a=0
    .have g:nv b=0:=by
      unfold Dt at heq; rw [if_pos c] at heq
      by_cases h:nv b=0
      .exact h
      .rw [if_neg h] at heq; split at heq <;> cases heq
     rw [c,g]; simp [Dt,sg]
    .have g:nv b≠0:=by
      intro h
      unfold Dt at heq; rw [if_pos h,if_neg c] at heq
      split at heq <;> cases heq
     have hs:sv a=sv b:=by
      unfold Dt at heq; rw [if_neg c,if_neg g] at heq
      cases h1:sv a <;> cases h2:sv b <;> simp [h1,h2] at heq ⊢
     have G:Dt (sv a) (nv a)=if sv a then -1 else 1:=by unfold Dt; rw [if_neg c]
     rw [G,<-hs]
     cases sv a <;> simp only [sg,if_true,if_false,Bool.false_eq_true,Int.neg_mul,Int.one_mul]
     .rcases Nat.lt_trichotomy (nv a*dv b) (nv b*dv a) with h | h | h
      .rw [if_pos h,if_pos (by omega)]
      .rw [if_neg (by omega),if_neg (by omega),if_neg (by omega),if_neg (by omega)]
      .rw [if_neg (by omega),if_pos h,if_neg (by omega),if_pos (by omega)]
     .rcases Nat.lt_trichotomy (nv a*dv b) (nv b*dv a) with h | h | h
      .rw [if_pos h,if_neg (by omega),if_pos (by omega)]; rfl
      .rw [if_neg (by omega),if_neg (by omega),if_neg (by omega),if_neg (by omega)]; rfl
      .rw [if_neg (by omega),if_pos h,if_pos (by omega)]
   .have h3:Dt (sv a) (nv a) = -1\/Dt (sv a) (nv a)=0\/Dt (sv a) (nv a)=1:=by unfold Dt; split <;> (try split) <;> simp
    rcases h3 with h | h | h <;> rw [h] <;> split <;> (try split) <;> simp
end Go.Ab
namespace Go.Ab
open Go
structure Dz {α:Type} (S:α->Prop) (g:α->α->Int):Prop where
 zero:∀a b,S a->S b->(g a b=0↔a=b)
 anti:∀a b,S a->S b->g b a = - g a b
 trans:∀a b c,S a->S b->S c->g a b<0->g b c<0->g a c<0
theorem Dz.cmpI:Dz (fun _:Int=>True) Dl:=by
 refine ⟨fun a b _ _=>Eu,fun a b _ _=>?_,fun a b c _ _ _=>?_⟩
 .unfold Go.Ab.Dl; split <;> split <;> (try split) <;> (try split) <;> omega
 .unfold Go.Ab.Dl; intro h1 h2; split at h1 <;> (try split at h1) <;> split at h2 <;> (try split at h2) <;> first | omega | (rw [if_pos (by omega)]; decide)
theorem Ak8 {x y:Int}:C9 x y<0↔x<0\/(x=0/\y<0):=by unfold C9; split <;> omega
theorem Ak9 {x y:Int}:C9 x y=0↔x=0/\y=0:=by unfold C9; split <;> omega
theorem Dz.or {α β γ:Type} {S:α->Prop} {s:β->Prop} {l:γ->Prop} {j:β->β->Int} {i:γ->γ->Int} (p:α->β) (q:α->γ) (g:∀a b,p a=p b->q a=q b->a=b) (h1:Dz s j) (h2:Dz l i) (f:∀a,S a->s (p a)/\l (q a)) :
  Dz S (fun a b=>C9 (j (p a) (p b)) (i (q a) (q b))):=by
 refine ⟨fun a b ha hb=>?_,fun a b ha hb=>?_,fun a b c ha hb hc=>?_⟩
 .rw [Ak9,h1.zero _ _ (f a ha).1 (f b hb).1,h2.zero _ _ (f a ha).2 (f b hb).2]
  exact ⟨fun h=>g a b h.1 h.2,fun h=>by subst h; exact ⟨rfl,rfl⟩⟩
 .show C9 (j (p b) (p a)) (i (q b) (q a)) = - C9 (j (p a) (p b)) (i (q a) (q b))
  have z:=h1.anti _ _ (f a ha).1 (f b hb).1
  have y:=h2.anti _ _ (f a ha).2 (f b hb).2
  rw [z,y]; unfold C9; split <;> split <;> omega
 .show C9 _ _<0->C9 _ _<0->C9 _ _<0
  simp only [Ak8]
  have u:=h1.zero _ _ (f a ha).1 (f b hb).1
  have z2:=h1.zero _ _ (f b hb).1 (f c hc).1
  have t1:=h1.trans _ _ _ (f a ha).1 (f b hb).1 (f c hc).1
  have t2:=h2.trans _ _ _ (f a ha).2 (f b hb).2 (f c hc).2
  rintro (h | ⟨h,h'⟩) (k | ⟨k,x⟩)
  .exact .inl (t1 h k)
  .rw [<-z2.1 k]; exact .inl h
  .rw [u.1 h]; exact .inl k
  .rw [<-z2.1 k,h]; exact .inr ⟨rfl,t2 h' x⟩
theorem Dz.mono {α:Type} {S f:α->Prop} {g:α->α->Int} (h:Dz S g) (hs:∀a,f a->S a):Dz f g :=
 ⟨fun a b ha hb=>h.zero a b (hs a ha) (hs b hb),fun a b ha hb=>h.anti a b (hs a ha) (hs b hb),fun a b c ha hb hc=>h.trans a b c (hs a ha) (hs b hb) (hs c hc)⟩
theorem Dz.congr {α:Type} {S:α->Prop} {g c:α->α->Int} (h:Dz S g) (e:∀a b,c a b=g a b):Dz S c:=by
 have:c=g:=funext fun a=>funext fun b=>e a b
 rw [this]; exact h
def LL {α:Type} (g:α->α->Int) (l m:List α):Int:=if l.length=m.length then Dy g l m else Go.Ab.Dl l.length m.length
theorem Ala {α:Type} {S:α->Prop} {g:α->α->Int} (h:Dz S g):∀l m:List α,l.length=m.length->(∀x∈l,S x)->(∀x∈m,S x)->(Dy g l m=0↔l=m)
 | [],[],_,_,_=>by simp [Dy]
 | x::xs,y::ys,b,h1,h2=>by
  simp only [Dy,Ak9,h.zero x y (h1 x (by simp)) (h2 y (by simp)),Ala h xs ys (by simpa using b) (fun z c=>h1 z (by simp [c])) (fun z c=>h2 z (by simp [c])),List.cons.injEq]
 | [],_::_,b,_,_=>by simp at b
 | _::_,[],b,_,_=>by simp at b
theorem Alb {α:Type} {S:α->Prop} {g:α->α->Int} (h:Dz S g):∀l m:List α,l.length=m.length->(∀x∈l,S x)->(∀x∈m,S x)->Dy g m l = - Dy g l m
 | [],[],_,_,_=>by simp [Dy]
 | x::xs,y::ys,b,h1,h2=>by
  simp only [Dy,h.anti x y (h1 x (by simp)) (h2 y (by simp)),Alb h xs ys (by simpa using b) (fun z c=>h1 z (by simp [c])) (fun z c=>h2 z (by simp [c]))]
  unfold C9; split <;> split <;> omega
 | [],_::_,b,_,_=>by simp at b
 | _::_,[],b,_,_=>by simp at b
theorem Alc {α:Type} {S:α->Prop} {g:α->α->Int} (h:Dz S g):∀l m n:List α,l.length=m.length->m.length=n.length->(∀x∈l,S x)->(∀x∈m,S x)->(∀x∈n,S x)->Dy g l m<0->Dy g m n<0->Dy g l n<0
 | [],[],_,_,_,_,_,_=>by intro h; simp [Dy] at h
 | x::xs,y::ys,z::j,f,i,h1,h2,h3=>by
  simp only [Dy,Ak8]
  have k:=h.zero x y (h1 x (by simp)) (h2 y (by simp))
  have z2:=h.zero y z (h2 y (by simp)) (h3 z (by simp))
  have t1:=h.trans x y z (h1 x (by simp)) (h2 y (by simp)) (h3 z (by simp))
  have t2:=Alc h xs ys j (by simpa using f) (by simpa using i) (fun z c=>h1 z (by simp [c])) (fun z c=>h2 z (by simp [c])) (fun z c=>h3 z (by simp [c]))
  rintro (a | ⟨a,s⟩) (b | ⟨b,q⟩)
  .exact .inl (t1 a b)
  .rw [<-z2.1 b]; exact .inl a
  .rw [k.1 a]; exact .inl b
  .rw [<-z2.1 b,a]; exact .inr ⟨rfl,t2 s q⟩
 | _::_,_::_,[],_,i,_,_,_=>by simp at i
 | [],_::_,_,f,_,_,_,_=>by simp at f
 | _::_,[],_,f,_,_,_,_=>by simp at f
theorem Dz.ll {α:Type} {S:α->Prop} {g:α->α->Int} (h:Dz S g):Dz (fun l=>∀x∈l,S x) (LL g):=by
 have c:=Dz.cmpI
 refine ⟨fun a b ha hb=>?_,fun a b ha hb=>?_,fun x y z hx hy q=>?_⟩
 .unfold LL
  split
  .rename_i i; exact Ala h a b i ha hb
  .rename_i i
   rw [Eu]
   exact ⟨fun e=>(i (by omega)).elim,fun e=>(i (by rw [e])).elim⟩
 .unfold LL
  by_cases i:a.length=b.length
  .rw [if_pos i,if_pos i.symm]; exact Alb h a b i ha hb
  .rw [if_neg i,if_neg (fun e=>i e.symm)]; exact c.anti _ _ trivial trivial
 .unfold LL
  intro h1 h2
  have neg:∀a b:Int,Go.Ab.Dl a b<0->a<b:=by intro a b h; unfold Go.Ab.Dl at h; split at h <;> (try split at h) <;> omega
  have f:∀a b:Int,a<b->Go.Ab.Dl a b<0:=by intro a b h; unfold Go.Ab.Dl; rw [if_pos h]; decide
  by_cases k:x.length=y.length
  .rw [if_pos k] at h1
   by_cases j:y.length=z.length
   .rw [if_pos j] at h2; rw [if_pos (by omega)]; exact Alc h x y z k j hx hy q h1 h2
   .rw [if_neg j] at h2; rw [if_neg (by omega)]
    have:=neg _ _ h2; exact f _ _ (by omega)
  .rw [if_neg k] at h1
   have:=neg _ _ h1
   by_cases j:y.length=z.length
   .rw [if_neg (by omega)]; exact f _ _ (by omega)
   .rw [if_neg j] at h2
    have:=neg _ _ h2
    rw [if_neg (by omega)]; exact f _ _ (by omega)
theorem Ald {α:Type} (g:α->α->Int) (l m:List α) (y:Int):C9 (LL g l m) y=if l.length=m.length then C9 (Dy g l m) y else Go.Ab.Dl l.length m.length:=by
 unfold LL
 by_cases h:l.length=m.length
 .rw [if_pos h,if_pos h]
 .rw [if_neg h,if_neg h]
  unfold C9
  rw [if_neg (fun e=>h (by have:=Eu.1 e; omega))]
theorem Avi:Dz (fun _=>True) Jj :=
 (Dz.or (S:=fun _=>True) (fun t:Dd=>t.Var) (fun t=>t.Coef) (fun a b h1 h2=>by cases a; cases b; cases h1; cases h2; rfl) Dz.cmpI Dz.cmpI (fun _ _=>⟨trivial,trivial⟩)).congr fun _ _=>rfl
theorem Avj:Dz (fun _=>True) Jk :=
 (Dz.or (S:=fun _=>True) (fun t:C2=>t.Terms) (fun t=>t.Const) (fun a b h1 h2=>by cases a; cases b; cases h1; cases h2; rfl) Avi.ll Dz.cmpI (fun _ _=>⟨fun _ _=>trivial,trivial⟩)).congr fun a b=>by
  show Jk a b=C9 (LL Jj a.Terms b.Terms) (Go.Ab.Dl a.Const b.Const)
  rw [Ald]; rfl
theorem Avk (i j:Az):Hg i j=C9 (Go.Ab.Dl i.Num j.Num) (LL Hg i.Kids j.Kids):=by
 rw [Ado,Yn]
 unfold C9 LL
 by_cases h:i.Num=j.Num
 .rw [if_pos h,if_pos (Eu.2 h)]
 .rw [if_neg h,if_neg (fun e=>h (Eu.1 e))]
theorem Adw:∀n:Nat,Dz (fun i=>Cm i<=n) Hg:=by
 intro n
 induction n with
 | zero=>exact ⟨fun a _ ha=>by have:=Eg a; omega,fun a _ ha=>by have:=Eg a; omega,fun a _ _ ha=>by have:=Eg a; omega⟩
 | succ n ih=>
  refine (Dz.or (S:=fun i=>Cm i<=n+1) (fun i:Az=>i.Num) (fun i=>i.Kids) (fun a b h1 h2=>by cases a; cases b; cases h1; cases h2; rfl) Dz.cmpI ih.ll ?_).congr Avk
  intro i hi
  refine ⟨trivial,fun x hx=>?_⟩
  have h1:=Hf hx
  have h2:=Eg i
  show Cm x<=n
  omega
theorem Avl:Dz (fun _=>True) Hg :=
 ⟨fun a b _ _=>(Adw (max (Cm a) (Cm b))).zero a b (by show Cm a<=_; omega) (by show Cm b<=_; omega),fun a b _ _=>(Adw (max (Cm a) (Cm b))).anti a b (by show Cm a<=_; omega) (by show Cm b<=_; omega),
  fun a b c _ _ _=>(Adw (max (Cm a) (max (Cm b) (Cm c)))).trans a b c (by show Cm a<=_; omega) (by show Cm b<=_; omega) (by show Cm c<=_; omega)⟩
theorem Avm:Dz (fun _=>True) Jl :=
 (Dz.or (S:=fun _=>True) (fun t:Cd=>t.Var) (fun t=>t.Index) (fun a b h1 h2=>by cases a; cases b; cases h1; cases h2; rfl) Dz.cmpI Avl (fun _ _=>⟨trivial,trivial⟩)).congr fun _ _=>rfl
theorem Avn:Dz (fun _=>True) Kg :=
 (Dz.or (S:=fun _=>True) (fun t:B1=>t.Lin) (fun t=>t.Deg) (fun a b h1 h2=>by cases a; cases b; cases h1; cases h2; rfl) Avj Dz.cmpI (fun _ _=>⟨trivial,trivial⟩)).congr fun _ _=>rfl
theorem Avo:Dz (fun _=>True) Ic :=
 (Dz.or (S:=fun _=>True) (fun t:B8=>t.Factors) (fun t=>t.Atoms) (fun a b h1 h2=>by cases a; cases b; cases h1; cases h2; rfl) Avm.ll Avn.ll (fun _ _=>⟨fun _ _=>trivial,fun _ _=>trivial⟩)).congr fun a b=>by
  show Ic a b=C9 (LL Jl a.Factors b.Factors) (LL Kg a.Atoms b.Atoms)
  rw [Ald]; rfl
theorem Avp {a b c:B8} (h:Ic a b<0) (h':Ic b c<0):Ic a c<0:=Avo.trans a b c trivial trivial trivial h h'
end Go.Ab
namespace Go.Ab
open Go
def ltT (t u:A6):Prop:=Ic t.Mono u.Mono<0
structure CP (p:List A6):Prop where
 srt:p.Pairwise ltT
 coe:∀t∈p,Hq t.Coef/\rq t.Coef≠0
theorem CP.nil:CP []:=⟨List.Pairwise.nil,fun _ h=>by cases h⟩
theorem CP.cons {t:A6} {p:List A6} (h:CP p) (h1:∀u∈p,Ic t.Mono u.Mono<0) (h2:Hq t.Coef) (h3:rq t.Coef≠0):CP (t::p) :=
 ⟨List.pairwise_cons.2 ⟨h1,h.srt⟩,fun u hu=>by
  rcases List.mem_cons.1 hu with rfl | hu
  .exact ⟨h2,h3⟩
  .exact h.coe u hu⟩
theorem Ale (c:A4):Pn c=true↔Hq c/\rq c≠0:=by
 unfold Pn Hq
 rw [C7,Yo]
 have h:(!(nv c==0))=true↔rq c≠0:=by
  have e:rq c=0↔nv c=0:=by
   unfold rq
   rw [Rat.mkRat_eq_zero (Gs c)]
   unfold sg; split <;> omega
  rw [Ne,e]; simp
 rw [h]
 exact ⟨fun ⟨a,b⟩=>⟨a.symm,b⟩,fun ⟨a,b⟩=>⟨a.symm,b⟩⟩
theorem Avq {l:List A6} (h:∀(j:Nat) (x y:A6),l[j]? = some x->l[j+1]? = some y->Ic x.Mono y.Mono<0):l.Pairwise ltT:=by
 induction l with
 | nil=>exact List.Pairwise.nil
 | cons t l ih=>
  have ih:=ih fun j x y hx hy=>h (j+1) x y (by simpa using hx) (by simpa using hy)
  refine List.pairwise_cons.2 ⟨?_,ih⟩
  cases l with
  | nil=>intro u hu; cases hu
  | cons v l=>
   have h0:=h 0 t v rfl rfl
   intro u hu
   rcases List.mem_cons.1 hu with rfl | hu
   .exact h0
   .exact Avp h0 ((List.pairwise_cons.1 ih).1 u hu)
theorem Adx {data:List Ao} {vars:List Af} {res:Af} {p:List A6}:Hh data vars res p=true↔p.length<=1000/\CP p/\∀t∈p,Gv data vars res t.Mono=true:=by
 unfold Hh
 rw [C7,decide_eq_true_eq]
 constructor
 .rintro ⟨h1,h2⟩
  have g:∀(j:Nat) (t:A6),p[j]? = some t->Pn t.Coef=true/\Gv data vars res t.Mono=true/\Nh p t j=true:=by
   intro j t hj
   have:=Hb h2 hj
   simp only [Ni,C7] at this
   exact ⟨this.1.1,this.1.2,this.2⟩
  refine ⟨h1,⟨Avq fun j x y hx hy=>?_,fun t ht=>?_⟩,fun t ht=>?_⟩
  .have:=(g _ _ hy).2.2
   unfold Nh at this
   rw [show j+1-1=j by omega,hx] at this
   simpa using this
  .obtain ⟨j,hj⟩:=List.getElem?_of_mem ht
   exact (Ale _).1 (g j t hj).1
  .obtain ⟨j,hj⟩:=List.getElem?_of_mem ht
   exact (g j t hj).2.1
 .rintro ⟨h1,h2,h3⟩
  refine ⟨h1,List.all_eq_true.2 fun q hq=>?_⟩
  have hq:=List.mem_zipIdx' hq
  have hj:p[q.2]? = some q.1:=(B0 hq.1).trans (congrArg some hq.2.symm)
  have c:q.1∈p:=Br hj
  simp only [Ni,C7]
  refine ⟨⟨(Ale _).2 (h2.coe _ c),h3 _ c⟩,?_⟩
  unfold Nh
  by_cases h0:q.2=0
  .rw [h0]; rfl
  .have b:q.2-1<p.length:=by omega
   rw [B0 b]
   have:=List.pairwise_iff_getElem.1 h2.srt (q.2-1) q.2 b hq.1 (by omega)
   rw [<-hq.2] at this
   simp only [Bool.or_eq_true,decide_eq_true_eq]
   exact .inr this
end Go.Ab
namespace Go.Ab
open Go
end Go.Ab
namespace Go.Ab
open Go
structure TB (k:Nat) (t:A6):Prop where
 co:RB k t.Coef
 mo:MSz t.Mono
theorem TB.mono {j k:Nat} {t:A6} (h:TB j t) (hk:j<=k):TB k t:=⟨h.co.mono hk,h.mo⟩
end Go.Ab
namespace Go.Ab
open Go
def Fy (n:Int) (f:Bool):List Int:=if f then (if n<0 then [45] else []) else (if n<0 then [32,45,32] else [32,43,32])
def Jp (n:Int):List Int:=if n.natAbs=1 then [] else ti n.natAbs++[42]
def F5 (v:Int):List Int:=if v = -1 then [114,101,115] else 118::ti v
def tT (f:Bool) (t:Dd):List Int:=Fy t.Coef f++(Jp t.Coef++F5 t.Var)
def Ie:Bool->List Dd->Int->List Int
 | f,[],c=>if c≠0\/f=true then Fy c f++ti c.natAbs else []
 | f,t::b,c=>tT f t++Ie false b c
def Kj (l:C2):List Int:=Ie true l.Terms l.Const
def Yr (X:List Int):Prop:=∀c m,X=c::m->c=97
theorem Yr.nil:Yr []:=by intro c m h; cases h
theorem Yr.cons (X:List Int):Yr (97::X):=by intro c m h; cases h; rfl
theorem Avr (n:Nat):∃c m,ti n=c::m/\48<=c/\c<=57:=by
 have b:=Pi (n:Int)
 cases h:ti (n:Int) with
 | nil=>exact (b h).elim
 | cons c m=>
  refine ⟨c,m,rfl,?_⟩
  have hc:c∈ti (n:Int):=by rw [h]; simp
  unfold ti at hc
  obtain ⟨x,hx,rfl⟩:=List.mem_map.1 hc
  have e:Lib.itoa (n:Int)=Lib.decDigits n:=by
   unfold Lib.itoa
   first | rfl | (rw [if_neg (by omega)]; simp) | simp
  rw [e] at hx
  have:=Yc n n (Nat.le_refl _) x hx
  omega
theorem Avs (v:Int):∃c m,F5 v=c::m/\(c=114\/c=118):=by
 unfold F5
 split
 .exact ⟨_,_,rfl,.inl rfl⟩
 .exact ⟨_,_,rfl,.inr rfl⟩
def NoM (P:List Int):Prop:=∃c m,P=c::m/\c≠45
theorem NoM.ti (n:Nat) (X:List Int):NoM (Go.Ab.ti n++X):=by
 obtain ⟨c,m,e,h⟩:=Avr n
 exact ⟨c,m++X,by rw [e]; rfl,by omega⟩
def Alf (a:B1):List Int:=97::(ti a.Deg++58::Kj a.Lin)
def Alg (f:Cd):List Int:=Kf f.Var f.Index
def Avt (m:B8):List Int:=m.Factors.flatMap Alg++m.Atoms.flatMap Alf
def By (l:List Int):Prop:=∀c∈l,0<=c/\c<256
theorem By.app {l m:List Int} (h:By l) (h':By m):By (l++m):=by
 intro c hc
 rcases List.mem_append.1 hc with k | k
 .exact h c k
 .exact h' c k
theorem By.ti (n:Int):By (Go.Ab.ti n):=by
 intro c h
 have:=L1 n c h
 simp only [L0,Bool.or_eq_true,C7,beq_iff_eq,decide_eq_true_eq] at this
 omega
theorem By.cons {c:Int} {l:List Int} (hc:0<=c/\c<256) (h:By l):By (c::l):=by
 intro d hd
 rcases List.mem_cons.1 hd with rfl | k
 .exact hc
 .exact h d k
theorem By.nil:By []:=fun c h=>by cases h
theorem By.sgn (n:Int) (f:Bool):By (Fy n f):=by
 unfold Fy
 split <;> split <;> intro c hc <;> simp at hc <;> omega
theorem By.mag (n:Int):By (Jp n):=by
 unfold Jp
 split
 .exact By.nil
 .exact (By.ti _).app (By.cons (by omega) By.nil)
theorem By.var (n:Int):By (F5 n):=by
 unfold F5
 split
 .intro c hc; simp at hc; omega
 .exact By.cons (by omega) (By.ti _)
theorem By.tT (f:Bool) (t:Dd):By (tT f t):=(By.sgn _ _).app ((By.mag _).app (By.var _))
theorem By.lins:∀(l:List Dd) (f:Bool) (c:Int),By (Ie f l c)
 | [],f,c=>by
  simp only [Ie]
  split
  .exact (By.sgn _ _).app (By.ti _)
  .exact By.nil
 | t::l,f,c=>(By.tT f t).app (By.lins l false c)
theorem By.at (a:B1):By (Alf a):=By.cons (by omega) ((By.ti _).app (By.cons (by omega) (By.lins _ _ _)))
theorem By.flat {α:Type} {g:α->List Int} (h:∀a,By (g a)) (l:List α):By (l.flatMap g):=by
 intro c hc
 obtain ⟨a,_,k⟩:=List.mem_flatMap.1 hc
 exact h a c k
theorem By.fac (f:Cd):By (Alg f):=Yh f.Var f.Index
theorem By.mono (m:B8):By (Avt m):=(By.flat By.fac _).app (By.flat By.at _)
def bs (l:List Int):ByteArray:=⟨(Ct l).toArray⟩
theorem Avu {l m:List Int} (c:By l) (b:By m) (h:bs l=bs m):l=m:=by
 unfold bs at h
 have h1:(Ct l).toArray=(Ct m).toArray:=by injection h
 have h2:Ct l=Ct m:=by simpa using congrArg Array.toList h1
 exact Adn _ _ c b h2
theorem Us (l:List Int):(bs l).size=l.length:=by unfold bs Ct; simp [ByteArray.size]
theorem Alh {l:List Int} (h:By l):Fe (bs l)=l:=by
 unfold Fe bs Ct
 simp only [List.map_map]
 conv=>rhs; rw [<-List.map_id l]
 refine List.map_congr_left fun c hc=>?_
 have:=h c hc
 simp only [Function.comp,UInt8.toNat_ofNat',id]
 omega
theorem Avv (l m:List Int):bs l++bs m=bs (l++m):=by
 apply ByteArray.ext
 rw [ByteArray.data_append]
 unfold bs Ct
 simp
theorem C3 {l m:List Int} (h:l.length+m.length<=9223372036854775807):Bb (bs l) (bs m)=some (bs (l++m)):=by
 unfold Bb
 rw [if_pos (by rw [Us,Us]; exact h),Avv]
theorem Nj {n:Int} (h:I64 n):Lb n=some (bs (ti n)):=by
 rw [Yg h]
 congr 2
 congr 1
 unfold Ct ti
 rw [List.map_map]
 conv=>lhs; rw [<-List.map_id (Lib.itoa n)]
 refine List.map_congr_left fun c _=>?_
 simp [Function.comp]
end Go.Ab
namespace Go.Ab
open Go
theorem Avw {S E R α:Type} {step:S->Option (S⊕E)} {s0:S} {J:E->Option R} {r:R} (c:α) (xs:List α) (b:Nat->S) (h0:s0=b 0) (f:xs.length<2305843009213693952)
  (hs:∀(j:Nat) (x:α),xs[j]? = some x->decide (((j+1:Nat):Int)<((c::xs).length:Int))=true->Ae (c::xs) ((j+1:Nat):Int)=some x->Ac (((j+1:Nat):Int)+1)=((j+1+1:Nat):Int)->step (b j)=some (.inl (b (j+1))))
  (he:decide (((xs.length+1:Nat):Int)<((c::xs).length:Int))=false->∃e,step (b xs.length)=some (.inr e)/\J e=some r):(An step s0).bind J=some r:=by
 refine Gj xs.length b h0 (fun j hj=>?_) (he (by simp))
 have hx:xs[j]? = some xs[j]:=B0 hj
 exact hs j _ hx (Aj (by simp only [List.length_cons]; omega)) (Bv rfl (by simp)) (Di (n:=xs.length+1) (by omega) (by omega))
theorem bnd {α β:Type} {X:Option α} {a:α} {K:α->Option β} {r:Option β} (h:X=some a) (k:K a=r):X.bind K=r:=by rw [h]; exact k
theorem Fz {l b:List Int} (c:By l) (h:b.length+l.length<=140737488355328):Cl (bs l) b=some ((l.length:Int),b++l):=by
 simp only [Cl,Rf,Ad,Alh c,Us]
 rw [Ds (by omega)]; rfl
theorem Kk {l b:List Int} (c:By l) (h:b.length+l.length<=140737488355328):Fu (bs l) b=some ((l.length:Int),b++l):=by
 simp only [Fu,Ss,Ad,Alh c,Us]
 rw [Ds (by omega)]; rfl
theorem Ut {b:List Int} (hb:By b):Hm b=some (bs b):=by
 exact if_pos hb
theorem Ys (n:Int) (h : -1048576<=n/\n<=1048576):(Jp n).length<=22:=by
 unfold Jp
 split
 .simp
 .have:=Ib (n:=(n.natAbs:Int)) (by unfold I64; omega)
  simp; omega
theorem Nk (n:Int) (f:Bool):(Fy n f).length<=3:=by unfold Fy; split <;> split <;> simp
theorem Uu {v:Int} (h : -1<=v/\v<3000):(F5 v).length<=22:=by
 unfold F5
 split
 .simp
 .have:=Ib (n:=v) (by unfold I64; omega)
  simp; omega
structure Ali (a:C2):Prop where
 c : -1048576<=a.Const/\a.Const<=1048576
 n:a.Terms.length<=16
 t:∀t∈a.Terms,(-1<=t.Var/\t.Var<3000)/\(-1048576<=t.Coef/\t.Coef<=1048576)
theorem Yt {a:C2} (h:Ho a=true):Ali a:=by
 unfold Ho at h
 simp only [C7,decide_eq_true_eq] at h
 refine ⟨⟨h.1.1,h.1.2.1⟩,h.1.2.2,fun t ht=>?_⟩
 obtain ⟨j,hj⟩:=List.getElem?_of_mem ht
 have:=Hb h.2 hj
 simp only [Rt,C7,decide_eq_true_eq] at this
 omega
theorem Yu {t:Dd} (f:Bool) (h:(-1<=t.Var/\t.Var<3000)/\(-1048576<=t.Coef/\t.Coef<=1048576)):(tT f t).length<=47:=by
 have:=Nk t.Coef f
 have:=Ys t.Coef h.2
 have:=Uu h.1
 unfold tT
 simp only [List.length_append]; omega
theorem Alj {n:Int} (h : -1048576<=n/\n<=1048576):(if Ac (0-n)>n then Ac (0-n) else n)=(n.natAbs:Int):=by
 rw [Ac,Bl (by omega) (by omega)]; split <;> omega
theorem c45:ByteArray.mk #[45]=bs [45]:=rfl
theorem Ady:ByteArray.mk #[32,45,32]=bs [32,45,32]:=rfl
theorem Adz:ByteArray.mk #[32,43,32]=bs [32,43,32]:=rfl
theorem c42:ByteArray.mk #[42]=bs [42]:=rfl
theorem Uv:ByteArray.mk #[118]=bs [118]:=rfl
theorem c58:ByteArray.mk #[58]=bs [58]:=rfl
theorem Uw:ByteArray.mk #[114,101,115]=bs [114,101,115]:=rfl
theorem Ad0:By [45]:=By.cons (by omega) By.nil
theorem by3 (a b c:Int) (ha:0<=a/\a<256) (hb:0<=b/\b<256) (hc:0<=c/\c<256):By [a,b,c]:=By.cons ha (By.cons hb (By.cons hc By.nil))
theorem Alk {n:Int} (f:Bool) {b:List Int} (c : -1048576<=n/\n<=1048576) (hb:b.length<=1099511627776):T6 n f b=some ((n.natAbs:Int),b++Fy n f):=by
 unfold T6 Fy
 rw [Alj c,c45,Ady,Adz]
 rw [Fz Ad0 (by simp; omega),Fz (by3 _ _ _ (by omega) (by omega) (by omega)) (by simp; omega),Fz (by3 _ _ _ (by omega) (by omega) (by omega)) (by simp; omega)]
 by_cases h:n<0
 .rw [Aj h,if_pos h,if_pos h]; cases f <;> rfl
 .rw [Ap h,if_neg h,if_neg h]; cases f <;> simp
theorem Avx {n:Int} {b:List Int} (c : -1048576<=n/\n<=1048576) (hb:b.length<=1099511627776):Oc n true b=some (if n<0 then .inl ((n.natAbs:Int),b++[45]) else .inr ((n.natAbs:Int),b)):=by
 unfold Oc
 rw [Alj c,c45,Kk Ad0 (by simp; omega)]
 by_cases h:n<0
 .rw [Aj h,if_pos h]; rfl
 .rw [Ap h,if_neg h]; rfl
theorem Ad1 {n:Nat} (h:n<=1048576):J5 (n:Int) 10=some (bs (ti n)):=by
 unfold J5 Wc
 exact Nj (by unfold I64; omega)
theorem Rx {n:Nat} (h:n<=1048576):(ti (n:Int)).length<=21:=Ib (by unfold I64; omega)
theorem All {n:Int} {b:List Int} (c : -1048576<=n/\n<=1048576) (hb:b.length<=1099511627776) :
  (bif ((n.natAbs:Int) != (1:Int)) then (J5 (n.natAbs:Int) 10).bind fun v=>(Bb v (ByteArray.mk #[42])).bind fun u=>(Cl u b).bind fun w=>some w.2 else some b)=some (b++Jp n):=by
 have ht:=Rx (n:=n.natAbs) (by omega)
 unfold Jp
 by_cases h:n.natAbs=1
 .rw [C4 (by omega),if_pos h]; simp
 .rw [Cy (by omega),if_neg h,Ad1 (by omega),c42]
  simp only [cond_true,Ad]
  rw [C3 (by simp; omega),Ad,Fz ((By.ti _).app (By.cons (by omega) By.nil)) (by simp; omega)]; rfl
theorem Ad2 {v:Int} {b:List Int} {R:Type} (K:List Int->Option R) (c : -1<=v/\v<3000) (hb:b.length<=1099511627776) :
  (bif (v==(-1)) then (Cl (ByteArray.mk #[114,101,115]) b).bind fun w=>K w.2 else (Fg v).bind fun x=>(Bb (ByteArray.mk #[118]) x).bind fun y=>(Cl y b).bind fun w=>K w.2)=K (b++F5 v):=by
 have ht:=Ib (n:=v) (by unfold I64; omega)
 unfold F5
 by_cases h:v = -1
 .rw [Da h,if_pos h,Uw,Fz (by3 _ _ _ (by omega) (by omega) (by omega)) (by simp; omega)]; rfl
 .rw [B2 h,if_neg h,Uv]
  simp only [cond_false,Fg]
  rw [Nj (by unfold I64; omega),Ad,C3 (by simp; omega),Ad]
  rw [show [118]++ti v=118::ti v from rfl,Fz (By.cons (by omega) (By.ti _)) (by simp; omega)]; rfl
theorem Nl {α:Type} {g:α->List Int} {l:List α} {j:Nat} {x:α} (h:l[j]? = some x):(l.take (j+1)).flatMap g=(l.take j).flatMap g++g x:=by
 rw [Dk h]; simp
theorem Yv {α:Type} {g:α->List Int} {n:Nat}:∀(l:List α),(∀a∈l,(g a).length<=n)->(l.flatMap g).length<=l.length*n
 | [],_=>by simp
 | a::l,h=>by
  have h1:=h a (by simp)
  have h2:=Yv l fun b hb=>h b (by simp [hb])
  simp only [List.flatMap_cons,List.length_append,List.length_cons,Nat.add_mul]; omega
theorem Alm {α:Type} {g:α->List Int} {n:Nat} (l:List α) (j:Nat) (h:∀a∈l,(g a).length<=n):((l.take j).flatMap g).length<=l.length*n:=by
 refine Nat.le_trans (Yv _ fun a ha=>h a (List.mem_of_mem_take ha)) (Nat.mul_le_mul_right _ ?_)
 rw [List.length_take]; omega
theorem Aln:∀(b:List Dd) (c:Int),Ie false b c=b.flatMap (tT false)++Ie false [] c
 | [],c=>by simp
 | t::b,c=>by
  have:=Aln b c
  simp only [List.flatMap_cons,List.append_assoc,<-this]; rfl
theorem Avy {a:C2} (h:Ho a=true) (B:a.Terms≠[]):Iz a=some (bs (Kj a)):=by
 have z:=Yt h
 unfold Iz
 rw [Akq,h]
 obtain ⟨c,l⟩:=a
 cases l with
 | nil=>exact (B rfl).elim
 | cons t f=>
  have hc : -1048576<=c/\c<=1048576:=z.c
  have M:f.length<=15:=by have:=z.n; simp at this; omega
  have ht:(-1<=t.Var/\t.Var<3000)/\(-1048576<=t.Coef/\t.Coef<=1048576):=z.t t (by simp)
  have s:∀u∈f,(-1<=u.Var/\u.Var<3000)/\(-1048576<=u.Coef/\u.Coef<=1048576):=fun u hu=>z.t u (by simp [hu])
  have x:=fun j=>Alm (g:=tT false) (n:=47) f j (fun u hu=>Yu false (s u hu))
  have J:=Yu true ht
  simp only [Ad,De,cond_false]
  rw [Aj (by simp only [List.length_cons]; omega),cond_true]
  refine bnd (a:=((t.Coef.natAbs:Int),tT true t)) ?_ ?_
  .rw [show Ae (t::f) 0=some t from rfl,Ad,Avx ht.2 (by simp),Ad]
   have G:=Ib (n:=t.Var) (by unfold I64; omega)
   have I:=Rx (n:=t.Coef.natAbs) (by omega)
   have D:=Ys t.Coef ht.2
   by_cases hs:t.Coef<0
   .rw [if_pos hs]
    simp only
    rw [All ht.2 (by simp),Ad]
    refine (Ad2 (fun b=>some ((t.Coef.natAbs:Int),b)) ht.1 (by simp; omega)).trans ?_
    simp [tT,Fy,hs]
   .rw [if_neg hs]
    simp only
    by_cases h1:t.Coef.natAbs=1
    .rw [C4 (by omega)]
     simp only [cond_false]
     by_cases y:t.Var = -1
     .rw [Da y,Uw,cond_true,Kk (by3 _ _ _ (by omega) (by omega) (by omega)) (by simp)]
      simp [tT,Fy,hs,Jp,h1,F5,y]
     .rw [B2 y,cond_false,Uv,Fg,Nj (by unfold I64; omega),Ad,C3 (by simp; omega),Ad,show [118]++ti t.Var=118::ti t.Var from rfl,
       Kk (By.cons (by omega) (By.ti _)) (by simp; omega)]
      simp [tT,Fy,hs,Jp,h1,F5,y]
    .rw [Cy (by omega)]
     simp only [cond_true]
     rw [Ad1 (by omega),Ad,c42,C3 (by simp; omega),Ad,Kk ((By.ti _).app (By.cons (by omega) By.nil)) (by simp; omega),Ad]
     refine (Ad2 (fun b=>some ((t.Coef.natAbs:Int),b)) ht.1 (by simp; omega)).trans ?_
     simp [tT,Fy,hs,Jp,h1]
  .simp only
   refine Avw t f (fun j=>(((j+1:Nat):Int),tT true t++(f.take j).flatMap (tT false))) (by simp [Ac,Bl]) (by omega) ?_ ?_
   .intro j u hu h1 h2 h3
    have i:=s u (Br hu)
    have:=x j
    have D:=Ys u.Coef i.2
    have A:=Nk u.Coef false
    simp only [h1,h2,h3,cond_true,Ad]
    rw [B2 (by omega),Alk false i.2 (by simp only [List.length_append]; omega),Ad,All i.2 (by simp only [List.length_append]; omega),Ad]
    refine (Ad2 (R:=(Int×List Int)⊕List Int) (fun b=>some (.inl (((j+1+1:Nat):Int),b))) i.1 (by simp only [List.length_append]; omega)).trans ?_
    rw [Nl hu]
    simp [tT]
   .intro h1
    have h2:=x f.length
    rw [List.take_length] at h2
    refine ⟨tT true t++f.flatMap (tT false),by simp only [h1,cond_false,List.take_length],?_⟩
    have E:By (tT true t++f.flatMap (tT false)):=(By.tT _ _).app (By.flat (By.tT _) _)
    have e:Kj ⟨c,t::f⟩=tT true t++f.flatMap (tT false)++Ie false [] c:=by
     have:=Aln f c
     rw [List.append_assoc,<-this]; rfl
    rw [e]
    have q:((((t::f).length:Nat):Int)==(0:Int))=false:=B2 (by simp only [List.length_cons]; omega)
    by_cases k:c=0
    .simp only [C4 k,cond_false,q,Ad]
     rw [Ut E]
     simp [Ie,k]
    .have L:=Rx (n:=c.natAbs) (by omega)
     have A:=Nk c false
     simp only [Cy k,cond_true,Ad,q]
     rw [Alk false hc (by simp only [List.length_append]; omega),Ad,Ad1 (by omega),Ad,Fz (By.ti _) (by simp only [List.length_append]; omega),Ad,
      Ut ((E.app (By.sgn _ _)).app (By.ti _))]
     simp [Ie,k]
theorem Alo {a:C2} (h:Ali a):(Kj a).length<=1024:=by
 have key:∀(l:List Dd) (f:Bool),(∀t∈l,(-1<=t.Var/\t.Var<3000)/\(-1048576<=t.Coef/\t.Coef<=1048576))->(Ie f l a.Const).length<=47*l.length+24:=by
  intro l
  induction l with
  | nil=>
   intro f _
   have h1:=Rx (n:=a.Const.natAbs) (by have:=h.c; omega)
   have h2:=Nk a.Const f
   simp only [Ie]
   split <;> simp <;> omega
  | cons t l ih=>
   intro f b
   have h1:=Yu f (b t (by simp))
   have h2:=ih false fun u hu=>b u (by simp [hu])
   simp only [Ie,List.length_append,List.length_cons]; omega
 have:=key a.Terms true h.t
 have:=h.n
 unfold Kj; omega
structure CMo (m:B8):Prop where
 sz:MSz m
 nf:m.Factors.length<=6
 na:m.Atoms.length<=6
 al:∀a∈m.Atoms,Ho a.Lin=true/\a.Lin.Terms≠[]/\1<=a.Deg/\a.Deg<=6
end Go.Ab
namespace Go.Ab
open Go
def Dst (b:List A6):Prop:=b.Pairwise fun t u=>t.Mono≠u.Mono
theorem Dst.set {b:List A6} (h:Dst b) {j:Nat} {t u:A6} (ht:b[j]? = some t) (c:u.Mono=t.Mono):Dst (b.set j u):=by
 have e:(b.set j u).map (·.Mono)=b.map (·.Mono):=by
  apply List.ext_getElem?
  intro i
  rw [List.getElem?_map,List.getElem?_map,List.getElem?_set]
  by_cases e:j=i
  .subst e; rw [if_pos rfl,if_pos (Fh ht),ht]; simp [c]
  .rw [if_neg e]
 have k:∀l:List A6,Dst l↔(l.map (·.Mono)).Pairwise (·≠·):=fun l=>by rw [List.pairwise_map]; exact Iff.rfl
 rw [k,e,<-k]; exact h
structure Col (k:Nat) (P:B8->Prop) (ts:List A6):Prop where
 dst:Dst ts
 tb:∀t∈ts,RB k t.Coef
 mo:∀t∈ts,P t.Mono
theorem Col.nil (k:Nat) (P:B8->Prop):Col k P []:=⟨List.Pairwise.nil,fun _ h=>(by cases h),fun _ h=>(by cases h)⟩
end Go.Ab
namespace Go.Ab
open Go
end Go.Ab
namespace Go.Ab
open Go
theorem Alp (x:Ck) (k:CSz x) (f:List (List A6)) (E:∀p∈f,∀t∈p,TSz t) (X:f.length<=1048576) :
  ∃r,Mh x f=some r/\(((Ir x/\∀p∈f,Hh x.Data x.Vars x.Res p=true)/\∃D,r = .inl (true,x,D,[],x.Data,x.Vars,x.Res.Kind,x.Res.Num,x.Res.Args)/\Fj x.Data x.Vars x.Res D) \/
   ((¬(Ir x/\∀p∈f,Hh x.Data x.Vars x.Res p=true))/\r = .inr false)):=by
 obtain ⟨b,b1,b2⟩:=Ajx k.ds
 have S:=k.nv
 have R:=k.rs
 unfold Mh
 rw [b1,X5 x.Data x.Res 0 (by omega)]
 by_cases A:x.Vars.length<=3000
 .rw [Ap (by omega)]
  simp only [cond_false,Ad]
  cases b with
  | false=>exact ⟨_,rfl,.inr ⟨fun h=>(by have:=b2.2 h.1.2.1; cases this),rfl⟩⟩
  | true=>
   have N:=b2.1 rfl
   simp only [De,cond_false]
   cases I:(Em x.Data 0 x.Res&&decide (A9 x.Res<=200)) with
   | false=>exact ⟨_,rfl,.inr ⟨fun h=>(by have:=h.1.2.2.1; rw [show F2 x.Data x.Res=false from I] at this; cases this),rfl⟩⟩
   | true=>
    simp only [De,cond_false,Ad]
    refine Eb (fun i=>∃j:Nat,i=j/\j<=x.Vars.length/\(x.Vars.take j).all (F2 x.Data)=true) (fun i=>x.Vars.length-i.toNat)
     (fun z=>match z with | .inl r=>r=false/\¬Ir x | .inr _=>Ir x) ⟨0,rfl,by omega,by simp⟩ ?_ ?_
    .rintro i ⟨j,rfl,hj,c⟩
     rcases Nat.lt_or_ge j x.Vars.length with h | h
     .have ht:x.Vars[j]? = some x.Vars[j]:=B0 h
      generalize x.Vars[j]=t at ht
      have:=k.vs t (Br ht)
      simp only [Aj (by omega:(j:Int)<(x.Vars.length:Int)),cond_true,Bv rfl ht,Ad,X5 x.Data t 0 (by omega),Di h (by omega)]
      rw [show (Em x.Data 0 t&&decide (A9 t<=200))=F2 x.Data t from rfl]
      cases L:F2 x.Data t with
      | true=>exact .inl ⟨_,rfl,⟨j+1,rfl,by omega,by rw [Dk ht,List.all_append,c]; simp [L]⟩,by simp; omega⟩
      | false=>
       refine .inr ⟨.inl false,rfl,rfl,fun G=>?_⟩
       have:=List.all_eq_true.1 G.2.2.2 t (Br ht)
       rw [L] at this; cases this
     .have:j=x.Vars.length:=by omega
      subst this
      rw [List.take_length] at c
      exact .inr ⟨.inr (),by simp,A,N,I,c⟩
    .rintro (r | u) g
     .obtain ⟨rfl,g⟩:=g
      exact ⟨_,rfl,.inr ⟨fun h=>g h.1,rfl⟩⟩
     .have M:Ir x:=g
      simp only
      refine Eb (fun s=>∃(j:Nat) (o:List (ByteArray×Int)),s=((j:Int),o)/\j<=f.length/\Fj x.Data x.Vars x.Res o/\∀p∈f.take j,Hh x.Data x.Vars x.Res p=true) (fun s=>f.length-s.1.toNat)
       (fun z=>match z with | .inl r=>r=false/\¬(∀p∈f,Hh x.Data x.Vars x.Res p=true) | .inr o=>Fj x.Data x.Vars x.Res o/\∀p∈f,Hh x.Data x.Vars x.Res p=true)
       ⟨0,[],rfl,by omega,(fun q h=>by cases h),(fun q h=>by simp at h)⟩ ?_ ?_
      .rintro _ ⟨j,o,rfl,hj,J,c⟩
       rcases Nat.lt_or_ge j f.length with h | h
       .have ht:f[j]? = some f[j]:=B0 h
        generalize f[j]=p at ht
        have y:=Br ht
        obtain ⟨D,V,U⟩:=Avb (M.ctx k) [] J p (E p y)
        simp only [Aj (by omega:(j:Int)<(f.length:Int)),cond_true,Bv rfl ht,Ad,V,Di h (by omega)]
        cases B:Hh x.Data x.Vars x.Res p with
        | true=>
         refine .inl ⟨_,rfl,⟨j+1,D,rfl,by omega,U,fun q hq=>?_⟩,by simp; omega⟩
         rw [Dk ht] at hq
         rcases List.mem_append.1 hq with hq | hq
         .exact c q hq
         .simp only [List.mem_singleton] at hq
          subst hq; exact B
        | false=>
         refine .inr ⟨.inl false,rfl,rfl,fun G=>?_⟩
         have:=G p y
         rw [B] at this; cases this
       .have:j=f.length:=by omega
        subst this
        rw [List.take_length] at c
        exact .inr ⟨.inr o,by simp,J,c⟩
      .rintro (r | o) l
       .obtain ⟨rfl,l⟩:=l
        exact ⟨_,rfl,.inr ⟨fun h=>l h.2,rfl⟩⟩
       .exact ⟨_,rfl,.inl ⟨⟨M,l.2⟩,o,rfl,l.1⟩⟩
 .rw [Aj (by omega)]
  exact ⟨_,rfl,.inr ⟨fun h=>A h.1.1,rfl⟩⟩
theorem Avz {data:List Ao} {vars:List Af} {res:Af} {m:B8} (h:Gv data vars res m=true) (q:MSz m):CMo m:=by
 have c:=(Ak5 h).2
 unfold Gv at h
 simp only [C7,decide_eq_true_eq] at h
 obtain ⟨⟨h1,h2⟩,h3⟩:=h
 have b:∀f∈m.Factors,0<=Ea data vars res f:=by
  intro f c
  obtain ⟨j,hj⟩:=List.getElem?_of_mem c
  have:=Hb h1 hj
  simp only [L3,C7,decide_eq_true_eq] at this
  omega
 have ha:∀a∈m.Atoms,1<=a.Deg/\Ho a.Lin=true/\a.Lin.Terms≠[]:=by
  intro a ha
  obtain ⟨j,hj⟩:=List.getElem?_of_mem ha
  have:=Hb h2 hj
  simp only [Jo,C7,decide_eq_true_eq] at this
  refine ⟨this.1.1.1.1,this.1.1.1.2,fun e=>?_⟩
  have k:=this.1.1.2
  rw [e] at k; simp at k
 obtain ⟨a1,a2,a3⟩:=Ur m.Atoms fun a h=>by have:=(ha a h).1; omega
 have f1:=Ak0 m.Factors b
 have al:(m.Atoms.length:Int)<=Ec m.Atoms:=by
  have key:∀l:List B1,(∀a∈l,1<=a.Deg)->(l.length:Int)<=Ec l:=by
   intro l
   induction l with
   | nil=>intro _; simp [Ec]
   | cons f fs ih=>
    intro i
    have h1:=i f (by simp)
    have h2:=ih (fun g s=>i g (by simp [s]))
    unfold Ec at *
    simp only [List.map_cons,List.sum_cons,List.length_cons]; omega
  exact key _ fun a h=>(ha a h).1
 exact ⟨q,c,by omega,fun a h=>⟨(ha a h).2.1,(ha a h).2.2,(ha a h).1,by have:=a3 a h; omega⟩⟩
def Av0 (x:Ck) (m:B8):Prop:=Gv x.Data x.Vars x.Res m=true/\MSz m
structure Yw (x:Ck) (p:List A6):Prop where
 can:Hh x.Data x.Vars x.Res p=true
 sz:∀t∈p,TSz t
theorem Yw.cp {x:Ck} {p:List A6} (h:Yw x p):CP p:=(Adx.1 h.can).2.1
theorem Yw.mo {x:Ck} {p:List A6} (h:Yw x p):∀t∈p,Av0 x t.Mono:=fun t ht=>⟨(Adx.1 h.can).2.2 t ht,(h.sz t ht).mo⟩
end Go.Ab
namespace Go.Ab
open Go
end Go.Ab
namespace Go.Ab
open Go
end Go.Ab
namespace Go.Ab
open Go
end Go.Ab
namespace Go.Ab
open Go
end Go.Ab
namespace Go.Ab
open Go
structure Asc (b:List Int) (n:Nat) (l:List Int):Prop where
 up:l.Pairwise (· < ·)
 mem:∀y,y∈l↔y∈b.take n
theorem Asc.same {b:List Int} {q:Nat} {l:List Int} {x:Int} (h:Asc b (q+1) l) (hp:b[q]? = some x) (hx:b[q+1]? = some x):Asc b (q+2) l:=by
 refine ⟨h.up,fun y=>?_⟩
 rw [Dk hx,List.mem_append,h.mem y]
 constructor
 .exact .inl
 .rintro (h1 | h1)
  .exact h1
  .rw [List.mem_singleton] at h1
   subst h1
   rw [Dk hp]; simp
end Go.Ab
namespace Go.Ab
open Go
end Go.Ab
namespace Go.Ab
open Go
theorem Alq:Wl=some true:=by kernel_rfl
end Go.Ab
namespace Go.Ab
open Go
end Go.Ab
namespace Go.Ab
open Go
theorem Av1:∀(k:Nat) (i:Az) (a:Int),Cm i<=k->k<1099511627776->∃r,Og k i a=some r/\True:=by
 intro k
 induction k with
 | zero=>intro i a h; have:=Eg i; omega
 | succ k ih=>
  intro i a h hk
  have f:=Eg i
  have g:=Ia i.Kids
  rw [Og]
  refine K1 ⟨_,rfl,trivial⟩ ?_
  refine Eb (fun (v,_)=>∃j:Nat,v=j/\j<=i.Kids.length) (fun (v,_)=>i.Kids.length-v.toNat) (fun _=>True) ⟨0,rfl,by omega⟩ ?_ ?_
  .rintro ⟨v,b⟩ ⟨j,rfl,hj⟩
   rcases Nat.lt_or_ge j i.Kids.length with h' | h'
   .have hx:i.Kids[j]? = some i.Kids[j]:=B0 h'
    generalize i.Kids[j]=x at hx
    have l:=Hf (Br hx)
    obtain ⟨⟨y,z⟩,c,_⟩:=ih x b (by omega) (by omega)
    simp only [Aj (by omega:(j:Int)<(i.Kids.length:Int)),cond_true,Bv rfl hx,Ad,c,Di h' (by omega)]
    cases y with
    | false=>exact .inr ⟨_,rfl,trivial⟩
    | true=>exact .inl ⟨_,rfl,⟨j+1,rfl,by omega⟩,by simp only [Int.toNat_natCast]; omega⟩
   .have:j=i.Kids.length:=by omega
    subst this
    exact .inr ⟨.inr b,by simp,trivial⟩
  .rintro (⟨x,y⟩ | e) _
   .exact ⟨_,rfl,trivial⟩
   .exact ⟨_,rfl,trivial⟩
theorem Av2 (i:Az) (h:Cm i<=1048576):∃b,Sy i=some b:=by
 unfold Sy
 obtain ⟨r,h1,_⟩:=Av1 4000000 i 40 (by omega) (by omega)
 exact ⟨_,by rw [h1]; rfl⟩
def Po (m:B8):Prop:=m.Factors.length<=8/\m.Atoms.length<=8/\∀a∈m.Atoms,a.Lin.Terms.length<=70
theorem Av3 (m:B8) (i:MSz m):∃b,Sn m=some b/\(b=true->Po m):=by
 unfold Sn
 by_cases h1:(m.Factors.length:Int)>8
 .rw [Aj h1]
  exact ⟨false,rfl,fun h=>by cases h⟩
 .rw [Ap h1]
  by_cases h2:(m.Atoms.length:Int)>8
  .rw [Aj h2]
   exact ⟨false,rfl,fun h=>by cases h⟩
  .rw [Ap h2]
   simp only [cond_false,Ad]
   refine Eb (fun v=>∃j:Nat,v=j/\j<=m.Factors.length) (fun v=>m.Factors.length-v.toNat) (fun z=>z = .inl false\/z = .inr ()) ⟨0,rfl,by omega⟩ ?_ ?_
   .rintro v ⟨j,rfl,hj⟩
    rcases Nat.lt_or_ge j m.Factors.length with h' | h'
    .have hx:m.Factors[j]? = some m.Factors[j]:=B0 h'
     generalize m.Factors[j]=x at hx
     obtain ⟨b,hb⟩:=Av2 x.Index (i.fi x (Br hx))
     simp only [Aj (by omega:(j:Int)<(m.Factors.length:Int)),cond_true,Bv rfl hx,Ad,hb,Di h' (by omega)]
     cases b with
     | false=>exact .inr ⟨_,rfl,.inl rfl⟩
     | true=>exact .inl ⟨_,rfl,⟨j+1,rfl,by omega⟩,by simp only [Int.toNat_natCast]; omega⟩
    .have:j=m.Factors.length:=by omega
     subst this
     exact .inr ⟨.inr (),by simp,.inr rfl⟩
   .rintro z (rfl | rfl)
    .exact ⟨false,rfl,fun h=>by cases h⟩
    .dsimp only
     refine Eb (fun v=>∃j:Nat,v=j/\j<=m.Atoms.length/\∀a∈m.Atoms.take j,a.Lin.Terms.length<=70) (fun v=>m.Atoms.length-v.toNat) (fun z=>z = .inl false\/(z = .inr ()/\∀a∈m.Atoms,a.Lin.Terms.length<=70)) ⟨0,rfl,by omega,by simp⟩ ?_ ?_
     .rintro v ⟨j,rfl,hj,c⟩
      rcases Nat.lt_or_ge j m.Atoms.length with h' | h'
      .have hx:m.Atoms[j]? = some m.Atoms[j]:=B0 h'
       generalize m.Atoms[j]=x at hx
       simp only [Aj (by omega:(j:Int)<(m.Atoms.length:Int)),cond_true,Bv rfl hx,Ad,Wo,Di h' (by omega)]
       by_cases f:(x.Lin.Terms.length:Int)<=70
       .rw [Aj f]
        refine .inl ⟨_,rfl,⟨j+1,rfl,by omega,fun a ha=>?_⟩,by simp only [Int.toNat_natCast]; omega⟩
        rw [Dk hx] at ha
        rcases List.mem_append.1 ha with ha | ha
        .exact c a ha
        .rw [List.mem_singleton] at ha
         subst ha; omega
       .rw [Ap f]
        exact .inr ⟨_,rfl,.inl rfl⟩
      .have:j=m.Atoms.length:=by omega
       subst this
       rw [List.take_length] at c
       exact .inr ⟨.inr (),by simp,.inr ⟨rfl,c⟩⟩
     .rintro z (rfl | ⟨rfl,g⟩)
      .exact ⟨false,rfl,fun h=>by cases h⟩
      .exact ⟨true,rfl,fun _=>⟨by omega,by omega,g⟩⟩
theorem Av4 (p:List A6) (l:p.length<=1048576) (hp:∀t∈p,TSz t):∃b,Sk p 10=some b/\(b=true->p.length<=10/\∀t∈p,Po t.Mono):=by
 unfold Sk
 refine Eb (fun v=>∃j:Nat,v=j/\j<=p.length/\j<=11/\∀t∈p.take j,Po t.Mono) (fun v=>p.length-v.toNat) (fun z=>z = .inl false\/(z = .inr ()/\(p.length<=10->∀t∈p,Po t.Mono))) ⟨0,rfl,by omega,by omega,by simp⟩ ?_ ?_
 .rintro v ⟨j,rfl,hj,g,f⟩
  rcases Nat.lt_or_ge j p.length with h' | h'
  .by_cases k:j<=10
   .have hx:p[j]? = some p[j]:=B0 h'
    generalize p[j]=x at hx
    obtain ⟨b,hb,hs⟩:=Av3 x.Mono (hp x (Br hx)).mo
    simp only [Aj (by omega:(j:Int)<(p.length:Int)),Aj (by omega:(j:Int)<=10),cond_true,Bv rfl hx,Ad,hb,Di h' (by omega)]
    cases b with
    | false=>exact .inr ⟨_,rfl,.inl rfl⟩
    | true=>
     simp only [De,cond_false]
     have:∃c,So x.Coef=some c:=by
      unfold So
      cases decide ((x.Coef.Num.length:Int)<=8) with
      | true=>exact ⟨_,rfl⟩
      | false=>exact ⟨_,rfl⟩
     obtain ⟨c,hc⟩:=this
     rw [hc,Ad]
     cases c with
     | false=>exact .inr ⟨_,rfl,.inl rfl⟩
     | true=>
      refine .inl ⟨_,rfl,⟨j+1,rfl,by omega,by omega,fun t ht=>?_⟩,by simp only [Int.toNat_natCast]; omega⟩
      rw [Dk hx] at ht
      rcases List.mem_append.1 ht with ht | ht
      .exact f t ht
      .rw [List.mem_singleton] at ht
       subst ht; exact hs rfl
   .refine .inr ⟨.inr (),?_,.inr ⟨rfl,fun h=>by omega⟩⟩
    simp only [Aj (by omega:(j:Int)<(p.length:Int)),Ap (by omega:¬(j:Int)<=10),cond_true,cond_false,Ad]
  .have:j=p.length:=by omega
   subst this
   rw [List.take_length] at f
   exact .inr ⟨.inr (),by simp,.inr ⟨rfl,fun _=>f⟩⟩
 .rintro z (rfl | ⟨rfl,i⟩)
  .exact ⟨false,rfl,fun h=>by cases h⟩
  .refine ⟨decide ((p.length:Int)<=10),rfl,fun h=>?_⟩
   rw [decide_eq_true_eq] at h
   exact ⟨by omega,i (by omega)⟩
end Go.Ab
namespace Go.Ab
open Go
end Go.Ab
namespace Go.Ab
open Go
end Go.Ab
namespace Go.Ab
open Go
end Go.Ab
namespace Go.Ab
open Go
end Go.Ab
namespace Go.Ab
open Go
end Go.Ab
namespace Go.Ab
open Go
end Go.Ab
namespace Go.Ab
open Go
structure PSt (K:Nat) (n:Nat) (b:List A6):Prop where
 le:n<=b.length
 cp:CP (b.take n)
 tm:∀t∈b.take n,RB K t.Coef/\MSz t.Mono
end Go.Ab
namespace Go.Ab
open Go
theorem PSt.mono {K c n:Nat} {b:List A6} (h:PSt K n b) (f:K<=c):PSt c n b:=⟨h.le,h.cp,fun t ht=>⟨((h.tm t ht).1).mono f,(h.tm t ht).2⟩⟩
end Go.Ab
namespace Go.Ab
open Go
theorem Alr:∀(k:Nat) (t:Af) (a:Int),A9 t<=k->k<1099511627776->∃r,Mk k t a=some r/\True:=by
 intro k
 induction k with
 | zero=>intro i a h; have:=Fm i; omega
 | succ k ih=>
  intro i a h hk
  have f:=Fm i
  have g:=Hc i.Args
  rw [Mk]
  refine K1 ⟨_,rfl,trivial⟩ ?_
  refine Eb (fun (v,_)=>∃j:Nat,v=j/\j<=i.Args.length) (fun (v,_)=>i.Args.length-v.toNat) (fun _=>True) ⟨0,rfl,by omega⟩ ?_ ?_
  .rintro ⟨v,b⟩ ⟨j,rfl,hj⟩
   rcases Nat.lt_or_ge j i.Args.length with h' | h'
   .have hx:i.Args[j]? = some i.Args[j]:=B0 h'
    generalize i.Args[j]=x at hx
    have l:=Fx (Br hx)
    obtain ⟨⟨y,z⟩,c,_⟩:=ih x b (by omega) (by omega)
    simp only [Aj (by omega:(j:Int)<(i.Args.length:Int)),cond_true,Bv rfl hx,Ad,c,Di h' (by omega)]
    cases y with
    | false=>exact .inr ⟨_,rfl,trivial⟩
    | true=>exact .inl ⟨_,rfl,⟨j+1,rfl,by omega⟩,by simp only [Int.toNat_natCast]; omega⟩
   .have:j=i.Args.length:=by omega
    subst this
    exact .inr ⟨.inr b,by simp,trivial⟩
  .rintro (⟨x,y⟩ | e) _
   .exact ⟨_,rfl,trivial⟩
   .exact ⟨_,rfl,trivial⟩
theorem Als (t:Af) (h:A9 t<=1048576):∃b,Qd t=some b:=by
 unfold Qd
 obtain ⟨r,h1,_⟩:=Alr 4000000 t 250 (by omega) (by omega)
 exact ⟨_,by rw [h1]; rfl⟩
theorem Av5 (l:List Af) (n:Int) (c:l.length<=1048576) (h:∀t∈l,A9 t<=1048576):∃b,Sq l n=some b/\True:=by
 unfold Sq
 refine Eb (fun v=>∃j:Nat,v=j/\j<=l.length) (fun v=>l.length-v.toNat) (fun _=>True) ⟨0,rfl,by omega⟩ ?_ ?_
 .rintro v ⟨j,rfl,hj⟩
  rcases Nat.lt_or_ge j l.length with h' | h'
  .have hx:l[j]? = some l[j]:=B0 h'
   generalize l[j]=x at hx
   obtain ⟨b,hb⟩:=Als x (h x (Br hx))
   simp only [Aj (by omega:(j:Int)<(l.length:Int)),cond_true,Bv rfl hx,Ad,hb,Di h' (by omega)]
   cases decide ((j:Int)<=n) with
   | false=>exact .inr ⟨_,rfl,trivial⟩
   | true=>
    cases b with
    | false=>exact .inr ⟨_,rfl,trivial⟩
    | true=>exact .inl ⟨_,rfl,⟨j+1,rfl,by omega⟩,by simp only [Int.toNat_natCast]; omega⟩
  .simp only [Ap (by omega:¬(j:Int)<(l.length:Int)),cond_false]
   exact .inr ⟨_,rfl,trivial⟩
 .rintro (r | r) _
  .exact ⟨_,rfl,trivial⟩
  .exact ⟨_,rfl,trivial⟩
theorem Av6 (l:List Ao) (f:DSz l):∃b,Sp l=some b/\True:=by
 unfold Sp
 have B:=f.len
 refine K1 ⟨_,rfl,trivial⟩ ?_
 refine Eb (fun v=>∃j:Nat,v=j/\j<=l.length) (fun v=>l.length-v.toNat) (fun _=>True) ⟨0,rfl,by omega⟩ ?_ ?_
 .rintro v ⟨j,rfl,hj⟩
  rcases Nat.lt_or_ge j l.length with h' | h'
  .have hx:l[j]? = some l[j]:=B0 h'
   generalize l[j]=x at hx
   obtain ⟨D,k⟩:=f.sz x (Br hx)
   simp only [Aj (by omega:(j:Int)<(l.length:Int)),cond_true,Bv rfl hx,Ad,Di h' (by omega)]
   have hq:∃q,(bif decide ((x.Name.size:Int)>40) then some true else some (decide ((x.Cons.length:Int)>10)))=some q:=by
    cases decide ((x.Name.size:Int)>40) <;> exact ⟨_,rfl⟩
   obtain ⟨q,hq⟩:=hq
   erw [hq]
   simp only [Ad]
   cases q with
   | true=>exact .inr ⟨_,rfl,trivial⟩
   | false=>
    simp only [cond_false]
    have key:∀(W:Option (Int⊕(Bool⊕Unit))),(∃r,W=some r/\(r = .inl ((j+1:Nat):Int)\/∃e,r = .inr e))->(∃s',W=some (Sum.inl s')/\(∃j:Nat,s'=(j:Int)/\j<=l.length)/\l.length-s'.toNat<l.length-((j:Int)).toNat)\/∃e,W=some (Sum.inr e)/\True:=by
     rintro W ⟨r,rfl,rfl | ⟨e,rfl⟩⟩
     .exact .inl ⟨_,rfl,⟨j+1,rfl,by omega⟩,by simp only [Int.toNat_natCast]; omega⟩
     .exact .inr ⟨_,rfl,trivial⟩
    refine key _ ?_
    refine Eb (fun v=>∃j:Nat,v=j/\j<=x.Cons.length) (fun v=>x.Cons.length-v.toNat) (fun _=>True) ⟨0,rfl,by omega⟩ ?_ ?_
    .rintro v ⟨i,rfl,hi⟩
     rcases Nat.lt_or_ge i x.Cons.length with h'' | h''
     .have hy:x.Cons[i]? = some x.Cons[i]:=B0 h''
      generalize x.Cons[i]=y at hy
      have d1:=k y (Br hy)
      have d2:=Hc y.Args
      simp only [Aj (by omega:(i:Int)<(x.Cons.length:Int)),cond_true,Bv rfl hy,Ad,Di h'' (by omega)]
      have hq:∃q,(bif decide ((y.Name.size:Int)>40) then some true else some (decide ((y.Args.length:Int)>8)))=some q:=by
       cases decide ((y.Name.size:Int)>40) <;> exact ⟨_,rfl⟩
      obtain ⟨q,hq⟩:=hq
      erw [hq]
      simp only [Ad]
      cases q with
      | true=>exact .inr ⟨_,rfl,trivial⟩
      | false=>
       simp only [cond_false]
       have key:∀(W:Option (Int⊕(Bool⊕Int))),(∃r,W=some r/\(r = .inl ((i+1:Nat):Int)\/∃e,r = .inr e))->(∃s',W=some (Sum.inl s')/\(∃j:Nat,s'=(j:Int)/\j<=x.Cons.length)/\x.Cons.length-s'.toNat<x.Cons.length-((i:Int)).toNat)\/∃e,W=some (Sum.inr e)/\True:=by
        rintro W ⟨r,rfl,rfl | ⟨e,rfl⟩⟩
        .exact .inl ⟨_,rfl,⟨i+1,rfl,by omega⟩,by simp only [Int.toNat_natCast]; omega⟩
        .exact .inr ⟨_,rfl,trivial⟩
       refine key _ ?_
       refine Eb (fun s=>∃j:Nat,s.1=j/\j<=y.Args.length) (fun s=>y.Args.length-s.1.toNat) (fun _=>True) ⟨0,rfl,by omega⟩ ?_ ?_
       .rintro ⟨_,w⟩ ⟨u,rfl,hu⟩
        rcases Nat.lt_or_ge u y.Args.length with h3 | h3
        .have c:y.Args[u]? = some y.Args[u]:=B0 h3
         generalize y.Args[u]=t at c
         have A:=Fx (Br c)
         obtain ⟨⟨g,z⟩,h,_⟩:=Alr 4000000 t w (by omega) (by omega)
         simp only [Aj (by omega:(u:Int)<(y.Args.length:Int)),cond_true,Bv rfl c,Ad,h,Di h3 (by omega)]
         cases g with
         | false=>exact .inr ⟨_,rfl,trivial⟩
         | true=>exact .inl ⟨_,rfl,⟨u+1,rfl,by omega⟩,by simp only [Int.toNat_natCast]; omega⟩
        .simp only [Ap (by omega:¬(u:Int)<(y.Args.length:Int)),cond_false]
         exact .inr ⟨_,rfl,trivial⟩
       .rintro (r | r) _
        .exact ⟨_,rfl,.inr ⟨_,rfl⟩⟩
        .exact ⟨_,rfl,.inl rfl⟩
     .simp only [Ap (by omega:¬(i:Int)<(x.Cons.length:Int)),cond_false]
      exact .inr ⟨_,rfl,trivial⟩
    .rintro (r | r) _
     .exact ⟨_,rfl,.inr ⟨_,rfl⟩⟩
     .exact ⟨_,rfl,.inl rfl⟩
  .simp only [Ap (by omega:¬(j:Int)<(l.length:Int)),cond_false]
   exact .inr ⟨_,rfl,trivial⟩
 .rintro (r | r) _
  .exact ⟨_,rfl,trivial⟩
  .exact ⟨_,rfl,trivial⟩
theorem Av7 (x:Ck) (f:CSz x):∃b,Sl x=some b:=by
 unfold Sl
 obtain ⟨a,ha,_⟩:=Av6 x.Data f.ds
 obtain ⟨b,hb,_⟩:=Av5 x.Vars 40 f.nv f.vs
 obtain ⟨c,hc⟩:=Als x.Res f.rs
 rw [ha,hb,hc]
 cases a <;> cases b <;> exact ⟨_,rfl⟩
theorem Av8 (x:Ck) (l:CSz x) (c:List (List A6)) (s:c.length<=1048576) (hp:∀p∈c,p.length<=1048576/\∀t∈p,TSz t) :
  ∃b,Sj x c=some b/\(b=true->∀p∈c,p.length<=10/\∀t∈p,Po t.Mono):=by
 unfold Sj
 refine Eb (fun v=>∃j:Nat,v=j/\j<=c.length/\∀p∈c.take j,p.length<=10/\∀t∈p,Po t.Mono) (fun v=>c.length-v.toNat) (fun z=>z = .inl false\/(z = .inr ()/\∀p∈c,p.length<=10/\∀t∈p,Po t.Mono)) ⟨0,rfl,by omega,by simp⟩ ?_ ?_
 .rintro v ⟨j,rfl,hj,f⟩
  rcases Nat.lt_or_ge j c.length with h' | h'
  .have hx:c[j]? = some c[j]:=B0 h'
   generalize c[j]=p at hx
   obtain ⟨k,i⟩:=hp p (Br hx)
   obtain ⟨b,hb,hs⟩:=Av4 p k i
   simp only [Aj (by omega:(j:Int)<(c.length:Int)),cond_true,Bv rfl hx,Ad,hb,Di h' (by omega)]
   cases b with
   | false=>exact .inr ⟨_,rfl,.inl rfl⟩
   | true=>
    refine .inl ⟨_,rfl,⟨j+1,rfl,by omega,fun q hq=>?_⟩,by simp only [Int.toNat_natCast]; omega⟩
    rw [Dk hx] at hq
    rcases List.mem_append.1 hq with hq | hq
    .exact f q hq
    .rw [List.mem_singleton] at hq
     subst hq; exact hs rfl
  .have:j=c.length:=by omega
   subst this
   rw [List.take_length] at f
   exact .inr ⟨.inr (),by simp,.inr ⟨rfl,f⟩⟩
 .rintro z (rfl | ⟨rfl,g⟩)
  .exact ⟨false,rfl,fun h=>by cases h⟩
  .obtain ⟨b,hb⟩:=Av7 x l
   exact ⟨b,by dsimp only; rw [hb]; rfl,fun _=>g⟩
end Go.Ab
namespace Go.Ab
open Go
theorem Alt (s:ByteArray):bs (Fe s)=s:=by
 unfold bs Ct Fe
 apply ByteArray.ext
 rw [List.map_map]
 have:(s.data.toList.map ((fun n:Int=>UInt8.ofNat n.toNat) ∘ fun b:UInt8=>(b.toNat:Int)))=s.data.toList:=by
  conv=>rhs; rw [<-List.map_id s.data.toList]
  refine List.map_congr_left fun c _=>?_
  simp
 rw [this]
theorem By.bytes (s:ByteArray):By (Fe s):=by
 intro c hc
 unfold Fe at hc
 obtain ⟨b,_,rfl⟩:=List.mem_map.1 hc
 have:=b.toNat_lt
 omega
theorem Av9 (s:ByteArray):(Fe s).length=s.size:=by unfold Fe; rw [List.length_map,Array.length_toList]; rfl
theorem Nm (l m:List Int) (c:By l) (b:By m):((bs l).toList==(bs m).toList)=decide (l=m):=by
 rw [Ui]
 exact decide_eq_decide.2 ⟨Avu c b,congrArg bs⟩
theorem Alu {n:Nat} (h:10<=n):ti (n:Int)=ti ((n / 10:Nat):Int)++[((48+n % 10:Nat):Int)]:=by
 have e:∀m:Nat,ti (m:Int)=(Lib.decDigits m).map fun c=>(c.toNat:Int):=fun m=>by
  unfold ti Lib.itoa
  rw [if_neg (by omega),Int.toNat_natCast]
 rw [e,e,Lib.decDigits,dif_neg (by omega),List.map_append]
 congr 1
 rw [List.map_cons,List.map_nil,Nd (by omega)]
theorem Yx {n:Nat} (h:n<10):ti (n:Int) = [((48+n:Nat):Int)]:=by
 have e:∀m:Nat,ti (m:Int)=(Lib.decDigits m).map fun c=>(c.toNat:Int):=fun m=>by
  unfold ti Lib.itoa
  rw [if_neg (by omega),Int.toNat_natCast]
 rw [e,Lib.decDigits,dif_pos h,List.map_cons,List.map_nil,Nd h]
theorem Ad3 (n:Nat):ti (n:Int)=(if n / 10=0 then [] else ti ((n / 10:Nat):Int))++[((48+n % 10:Nat):Int)]:=by
 by_cases h:n<10
 .rw [Yx h,if_pos (by omega),Nat.mod_eq_of_lt h]; rfl
 .rw [Alu (by omega),if_neg (by omega)]
theorem Yy (n:Nat):Ed (n:Int) 10=some ((n % 10:Nat):Int):=by
 unfold Ed
 rw [if_neg (by decide)]
 congr 1
theorem Alv (n:Nat) (h:n<4611686018427387904):Dr .i64 (n:Int) 10=some ((n / 10:Nat):Int):=by
 unfold Dr
 rw [if_neg (by decide)]
 congr 1
 rw [show (n:Int).tdiv 10=((n / 10:Nat):Int) from rfl,Bl (by omega) (by omega)]
theorem Alw (n:Nat):F3 [wu8 (Ac (48+((n % 10:Nat):Int)))]=some (bs [((48+n % 10:Nat):Int)]):=by
 have h1:wu8 (Ac (48+((n % 10:Nat):Int)))=((48+n % 10:Nat):Int):=by
  rw [Ac,Bl (by omega) (by omega),wu8,IntKind.wrap_u8]; omega
 rw [h1]
 unfold F3
 rw [if_pos (by intro x hx; simp at hx; omega)]; rfl
theorem Yz (n:Nat) (h:n<=1099511627776):S7 (n:Int)=some (bs (ti n)):=by
 unfold S7
 rw [Yy,Ad,Alw,Ad,Alv n (by omega),Ad]
 have b:(ti (n:Int)).length<=21:=Ib (by unfold I64; omega)
 refine Gi (fun (v,s)=>∃(m:Nat) (l:List Int),v=m/\m<=n/\s=bs l/\ti (n:Int)=(if m=0 then [] else ti (m:Int))++l) (fun (v,_)=>v.toNat) (fun s=>s=bs (ti n)) ⟨n / 10,_,rfl,by omega,rfl,Ad3 n⟩ ?_ ?_
 .rintro ⟨v,s⟩ ⟨m,l,rfl,f,rfl,e⟩
  by_cases h0:m=0
  .subst h0
   refine .inr ⟨bs l,by simp only [Ap (show ¬(((0:Nat):Int)>0) by decide),cond_false],?_⟩
   rw [e]; rfl
  .refine .inl ⟨(((m / 10:Nat):Int),bs (((48+m % 10:Nat):Int)::l)),?_,⟨m / 10,_,rfl,by omega,rfl,?_⟩,?_⟩
   .have c:l.length<=21:=by rw [e] at b; simp at b; omega
    simp only [Aj (show (m:Int)>0 by omega),cond_true,Yy,Ad,Alw,Alv m (by omega)]
    rw [C3 (by simp; omega)]; rfl
   .rw [e,if_neg h0,Ad3 m,List.append_assoc]; rfl
   .simp only [Int.toNat_natCast]; omega
 .rintro s rfl; rfl
theorem Awa (n:Nat) (h:n<=1099511627776):Sx (n:Int)=some (bs (ti n)):=Yz n h
theorem Alx (n:Nat) (h:n<=1099511627776):Xl (n:Int)=some (bs (ti n)):=Yz n h
theorem Aly (n:Nat) (h:n<=1099511627776):Lf (n:Int)=some (bs (ti n)):=Yz n h
def Fa:Nat->Nat->List Int
 | 0,_=>[]
 | k+1,n=>Fa k (n / 10)++[((48+n % 10:Nat):Int)]
theorem Ux:∀(k n:Nat),(Fa k n).length=k
 | 0,_=>rfl
 | k+1,n=>by simp [Fa,Ux k]
theorem Ad4:∀(k n:Nat),Fa (k+1) n=((48+n / 10 ^ k % 10:Nat):Int)::Fa k n
 | 0,n=>by simp [Fa]
 | k+1,n=>by
  rw [Fa,Ad4 k (n / 10),Nat.div_div_eq_div_mul,Nat.mul_comm 10,<-Nat.pow_succ]; rfl
theorem Alz:∀k:Nat,Fa k 0=List.replicate k 48
 | 0=>rfl
 | k+1=>by rw [Ad4,Alz k]; simp [List.replicate_succ]
theorem Ad5:∀(k n:Nat),By (Fa k n)
 | 0,_=>By.nil
 | k+1,n=>(Ad5 k _).app (By.cons (by omega) By.nil)
theorem Al0:∀(k n:Nat),n<10 ^ (k+1)->Fa (k+1) n=List.replicate (k+1-(ti (n:Int)).length) 48++ti (n:Int)
 | 0,n,h=>by
  rw [Yx (by simpa using h)]
  simp [Fa,Nat.mod_eq_of_lt (show n<10 by simpa using h)]
 | k+1,n,h=>by
  by_cases h1:n<10
  .rw [Yx h1,Fa,Nat.div_eq_of_lt h1,Alz,Nat.mod_eq_of_lt h1]; rfl
  .have h2:=Al0 k (n / 10) (Nat.div_lt_of_lt_mul (by rw [Nat.mul_comm,<-Nat.pow_succ]; exact h))
   have e:=Alu (n:=n) (by omega)
   have b:(ti (n:Int)).length=(ti ((n / 10:Nat):Int)).length+1:=by rw [e]; simp
   rw [Fa,h2,b,e,Nat.add_sub_add_right,List.append_assoc]
theorem Al1 {x:Nat} (h:x<1000000000):Fa 9 x=List.replicate (9-(ti (x:Int)).length) 48++ti (x:Int):=Al0 8 x h
theorem Uy {x:Nat} (h:x<1000000000):(ti (x:Int)).length<=9:=by
 have:=congrArg List.length (Al1 h)
 rw [Ux,List.length_append] at this
 omega
def G2 (l:List Int):List Int:=match l.getLast? with | none=>[48] | some x=>ti x++(l.dropLast.reverse).flatMap fun x=>Fa 9 x.toNat
theorem Al2:G2 [] = [48]:=rfl
theorem Pp (l:List Int) (x:Int):G2 (l++[x])=ti x++l.reverse.flatMap fun x=>Fa 9 x.toNat:=by
 unfold G2
 rw [List.getLast?_append,List.getLast?_singleton,List.dropLast_concat]; rfl
theorem Uz {l:List Int} (h:l≠[]):∃m x,l=m++[x]:=⟨l.dropLast,l.getLast h,(List.dropLast_concat_getLast h).symm⟩
theorem Y0 (l:List Int):By (G2 l):=by
 by_cases h:l = []
 .subst h; exact By.cons (by omega) By.nil
 .obtain ⟨m,x,rfl⟩:=Uz h
  rw [Pp]
  exact (By.ti _).app (By.flat (fun a=>Ad5 9 _) _)
theorem Y1 (l:List Int):(l.flatMap fun x:Int=>Fa 9 x.toNat).length=9*l.length:=by
 induction l with
 | nil=>rfl
 | cons a l ih=>simp only [List.flatMap_cons,List.length_append,ih,Ux,List.length_cons]; omega
theorem Y2 {l:List Int} (b:Bp l):(G2 l).length<=9*l.length+1:=by
 by_cases h:l = []
 .subst h; simp [Al2]
 .obtain ⟨m,x,rfl⟩:=Uz h
  have hx:=b x (by simp)
  obtain ⟨n,rfl⟩:∃n:Nat,x=n:=⟨x.toNat,by omega⟩
  have:=Uy (show n<1000000000 by omega)
  rw [Pp,List.length_append,Y1]
  simp; omega
theorem Al3 (n:Nat) (h:n<1000000000):Qw (A0 (n:Int)) 10=some (bs (ti n)):=by
 have e:A0 (n:Int)=n:=Cs (by omega) (by omega)
 rw [e]
 unfold Qw W9 Wj
 rw [show ((10:Int)==10)=true from rfl,cond_true,if_pos (by omega),Ad,Int.toNat_natCast]
 have:=Nj (n:=(n:Int)) (by unfold I64; omega)
 rw [<-this,Yg (by unfold I64; omega)]
 unfold Lib.itoa
 rw [if_neg (by omega),Int.toNat_natCast]
theorem Awb (n:Nat) (h:n<=100):Tg (ByteArray.mk #[48]) (n:Int)=some (bs (List.replicate n 48)):=by
 have key:∀m:Nat,Lib.repeatL [48] m=List.replicate m 48:=by
  intro m
  induction m with
  | zero=>rfl
  | succ m ih=>rw [Lib.repeatL,ih]; rfl
 unfold Tg Wi
 have b:(ByteArray.mk #[48]).size=1:=rfl
 rw [b,Int.toNat_natCast,if_pos (by omega)]
 congr 1
 unfold bs Ct
 rw [List.map_replicate]
 congr 2
 exact key n
theorem Al4 {l:List Int} (u:Bp l) (hb:l.length<=1099511627776):Qp l=some (bs (G2 l)):=by
 unfold Qp
 by_cases h:l = []
 .subst h; rfl
 .obtain ⟨m,x,rfl⟩:=Uz h
  have hx:=u x (by simp)
  obtain ⟨n,rfl⟩:∃n:Nat,x=n:=⟨x.toNat,by omega⟩
  have s:n<1000000000:=by omega
  have b:(m++[(n:Int)]).length=m.length+1:=by simp
  rw [b] at hb
  rw [b,B2 (by omega),cond_false,Aj (by omega),cond_true]
  have A:Ac (((m.length+1:Nat):Int)-1)=(m.length:Int):=by rw [Ac,Bl] <;> omega
  have G:Ac (Ac (((m.length+1:Nat):Int)-1)-0)=(m.length:Int):=by rw [A,Ac,Bl] <;> omega
  rw [G,Bv rfl (show (m++[(n:Int)])[m.length]? = some (n:Int) by simp),Ad,Al3 n s,Ad]
  have ht:=Uy s
  rw [Kk (By.ti _) (by simp; omega),Ad]
  have g:∀j,((m.reverse.take j).flatMap fun x:Int=>Fa 9 x.toNat).length<=9*m.length:=fun j=>by
   rw [Y1,List.length_take,List.length_reverse]; omega
  refine Gj (n:=m.length) (fun j=>(((j+1:Nat):Int),ti (n:Int)++(m.reverse.take j).flatMap fun x:Int=>Fa 9 x.toNat)) (by simp [Ac,Bl]) ?_ ?_
  .intro j hj
   obtain ⟨y,k⟩:∃y,m.reverse[j]? = some y:=⟨_,B0 (by simpa using hj)⟩
   have f:(m++[(n:Int)])[m.length-1-j]? = some y:=by
    rw [List.getElem?_reverse (by omega)] at k
    rw [List.getElem?_append_left (by omega)]; exact k
   have hy:=u y (Br f)
   obtain ⟨q,rfl⟩:∃q:Nat,y=q:=⟨y.toNat,by omega⟩
   have hq:q<1000000000:=by omega
   have E:Ac (Ac (((m.length+1:Nat):Int)-1)-((j+1:Nat):Int))=((m.length-1-j:Nat):Int):=by
    rw [A,Ac,Bl] <;> omega
   have B:=Uy hq
   have D:Ac (9-((bs (ti (q:Int))).size:Int))=((9-(ti (q:Int)).length:Nat):Int):=by
    rw [Us,Ac,Bl (by omega) (by omega)]; omega
   have z:=g j
   have i:Ae (m++[(n:Int)]) ((m.length-1-j:Nat):Int)=some (q:Int):=Bv rfl f
   simp only [Aj (show ((j+1:Nat):Int)<((m.length+1:Nat):Int) by omega),cond_true,E]
   rw [i,Ad,Al3 q hq,Ad,Aj (show ((j+1:Nat):Int)>0 by omega),cond_true,D,Awb _ (show 9-(ti (q:Int)).length<=100 by omega),Ad]
   rw [Fz (by intro c hc; rw [List.eq_of_mem_replicate hc]; omega) (by simp only [List.length_append,List.length_replicate]; omega),Ad,Fz (By.ti _) (by simp only [List.length_append,List.length_replicate]; omega),Ad]
   rw [show Ac (((j+1:Nat):Int)+1)=((j+1+1:Nat):Int) by rw [Ac,Bl] <;> omega]
   rw [Nl k,Int.toNat_natCast,Al1 hq,List.append_assoc,List.append_assoc]
  .have z:=g m.length
   rw [List.take_of_length_le (by simp)] at z
   refine ⟨ti (n:Int)++m.reverse.flatMap fun x:Int=>Fa 9 x.toNat,?_,?_⟩
   .simp only [Ap (show ¬((m.length+1:Nat):Int)<((m.length+1:Nat):Int) by omega),cond_false]
    rw [List.take_of_length_le (by simp)]
   .rw [Ut ((By.ti _).app (By.flat (fun a=>Ad5 9 _) _)),Pp]; rfl
theorem Al5 (n:Nat) (h:n<4294967296):Dr .u32 (n:Int) 10=some ((n / 10:Nat):Int):=by
 unfold Dr
 rw [if_neg (by decide)]
 congr 1
 rw [show (n:Int).tdiv 10=((n / 10:Nat):Int) from rfl,IntKind.wrap_u32]; omega
theorem Al6 (n:Nat):F3 [wu8 (Cj (48+((n % 10:Nat):Int)))]=some (bs [((48+n % 10:Nat):Int)]):=by
 have h1:wu8 (Cj (48+((n % 10:Nat):Int)))=((48+n % 10:Nat):Int):=by
  rw [Cj,IntKind.wrap_u32,wu8,IntKind.wrap_u8]; omega
 rw [h1]
 unfold F3
 rw [if_pos (by intro x hx; simp at hx; omega)]; rfl
end Go.Ab
namespace Go.Ab
open Go
theorem K5:ByteArray.mk #[]=bs []:=rfl
theorem c47:ByteArray.mk #[47]=bs [47]:=rfl
theorem c49:ByteArray.mk #[49]=bs [49]:=rfl
theorem Awc {a b:Int} (h:decide (a<Ac (b-1))=true) {x:Nat} (hx:x<1000000000) {R:Type} {J:ByteArray×Int×Int->Option R} {r:R} (q:∀u v,J (bs (Fa 9 x),u,v)=some r) :
  (An (S:=(ByteArray×Int×Int)) (E:=(ByteArray×Int×Int)) (fun (f,v28,c)=>
   (show Option Bool from
   bif (decide (c<(9:Int))) then (
   bif (decide (a<(Ac (b-1)))) then (
   some true
   )
   else (
   some (decide (v28>(0:Int)))
   )
   )
   else (
   some false
   )
   ).bind fun l=>
   bif l then (
   (Ed v28 10).bind fun v31=>
   (F3 [(wu8 (Cj (48+v31)))]).bind fun j=>
   (Bb j f).bind fun i=>
   (Dr .u32 v28 10).bind fun g=>
   some (.inl (i,g,(Ac (c+1))))
   )
   else (
   some (.inr (f,v28,c))
   )) ((ByteArray.mk #[]),(x:Int),0)).bind J=some r:=by
 refine Gj 9 (fun k=>(bs (Fa k x),((x / 10 ^ k:Nat):Int),(k:Int))) (by simp [Fa,K5]) ?_ ?_
 .intro k hk
  have hd:x / 10 ^ k<=x:=Nat.div_le_self _ _
  simp only [Aj (show (k:Int)<9 by omega),h,cond_true,Ad,Yy,Al6,Al5 _ (show x / 10 ^ k<4294967296 by omega)]
  rw [C3 (by rw [Ux]; simp; omega),Ad]
  rw [show Ac ((k:Int)+1)=((k+1:Nat):Int) by rw [Ac,Bl] <;> omega,Ad4,Nat.pow_succ,Nat.div_div_eq_div_mul]; rfl
 .refine ⟨(bs (Fa 9 x),((x / 10 ^ 9:Nat):Int),((9:Nat):Int)),?_,q _ _⟩
  simp only [Ap (show ¬(((9:Nat):Int)<9) by decide),cond_false,Ad]
theorem Awd {a b:Int} (h:decide (a<Ac (b-1))=false) {x:Nat} (hx:x<1000000000) (h0:0<x) {R:Type} {J:ByteArray×Int×Int->Option R} {r:R} (D:∀u v,J (bs (ti (x:Int)),u,v)=some r) :
  (An (S:=(ByteArray×Int×Int)) (E:=(ByteArray×Int×Int)) (fun (f,v28,c)=>
   (show Option Bool from
   bif (decide (c<(9:Int))) then (
   bif (decide (a<(Ac (b-1)))) then (
   some true
   )
   else (
   some (decide (v28>(0:Int)))
   )
   )
   else (
   some false
   )
   ).bind fun A=>
   bif A then (
   (Ed v28 10).bind fun v31=>
   (F3 [(wu8 (Cj (48+v31)))]).bind fun z=>
   (Bb z f).bind fun y=>
   (Dr .u32 v28 10).bind fun j=>
   some (.inl (y,j,(Ac (c+1))))
   )
   else (
   some (.inr (f,v28,c))
   )) ((ByteArray.mk #[]),(x:Int),0)).bind J=some r:=by
 have ht:=Uy hx
 refine Gi (fun (s,v,k)=>∃(m q:Nat) (l:List Int),v=m/\m<=x/\k=((9-q:Nat):Int)/\q<=9/\m<10 ^ q/\s=bs l/\ti (x:Int)=(if m=0 then [] else ti (m:Int))++l) (fun (_,v,_)=>v.toNat) (fun (s,_,_)=>s=bs (ti (x:Int))) ⟨x,9,[],rfl,Nat.le_refl _,rfl,Nat.le_refl _,hx,rfl,by rw [if_neg (by omega),List.append_nil]⟩ ?_ ?_
 .rintro ⟨s,v,k⟩ ⟨m,q,l,rfl,G,rfl,hq,g,rfl,e⟩
  by_cases i:m=0
  .subst i
   refine .inr ⟨(bs l,((0:Nat):Int),((9-q:Nat):Int)),?_,by dsimp only; rw [e]; rfl⟩
   simp only [h,cond_false,Ap (show ¬(((0:Nat):Int)>0) by decide)]
   cases decide (((9-q:Nat):Int)<9) <;> rfl
  .obtain ⟨p,rfl⟩:∃p,q=p+1:=⟨q-1,by
    rcases Nat.eq_zero_or_pos q with h' | h'
    .subst h'; simp at g; omega
    .omega⟩
   refine .inl ⟨(bs (((48+m % 10:Nat):Int)::l),((m / 10:Nat):Int),((9-p:Nat):Int)),?_,⟨m / 10,p,_,rfl,by omega,rfl,by omega,Nat.div_lt_of_lt_mul (by rw [Nat.mul_comm,<-Nat.pow_succ]; exact g),rfl,?_⟩,?_⟩
   .have B:l.length<=9:=by rw [e] at ht; simp at ht; omega
    simp only [Aj (show ((9-(p+1):Nat):Int)<9 by omega),h,cond_true,cond_false,Aj (show (m:Int)>0 by omega),Ad,Yy,Al6,Al5 m (by omega)]
    rw [C3 (by simp; omega),Ad,show Ac (((9-(p+1):Nat):Int)+1)=((9-p:Nat):Int) by rw [Ac,Bl] <;> omega]; rfl
   .rw [e,if_neg i,Ad3 m,List.append_assoc]; rfl
   .simp only [Int.toNat_natCast]; omega
 .rintro ⟨s,u,v⟩ rfl; exact D _ _
theorem Al7 {l:List Int} (k:Can l) (hb:l.length<=1099511627776):Qk l=some (bs (G2 l)):=by
 unfold Qk
 by_cases h:l = []
 .subst h
  refine Gj 0 (fun _=>(bs [],(0:Int))) rfl (fun j hj=>by omega) ⟨bs [],rfl,?_⟩
  rw [K5,Nm _ _ By.nil By.nil]; rfl
 .have f:=k.2 h
  obtain ⟨m,x,rfl⟩:=Uz h
  have hx:=k.1 x (by simp)
  have f:x≠0:=by simpa using f
  obtain ⟨n,rfl⟩:∃n:Nat,x=n:=⟨x.toNat,by omega⟩
  have B:n<1000000000:=by omega
  have c:(m++[(n:Int)]).length=m.length+1:=by simp
  rw [c] at hb
  have ht:=Uy B
  have g:∀j,(((m.take j).reverse).flatMap fun x:Int=>Fa 9 x.toNat).length<=9*m.length:=fun j=>by
   rw [Y1,List.length_reverse,List.length_take]; omega
  have A:=Y0 (m++[(n:Int)])
  rw [c]
  refine Gi (fun (s,v)=>∃j:Nat,v=j/\j<=m.length+1/\s=bs (if j<=m.length then ((m.take j).reverse).flatMap (fun x:Int=>Fa 9 x.toNat) else G2 (m++[(n:Int)]))) (fun (_,v)=>m.length+1-v.toNat) (fun s=>s=bs (G2 (m++[(n:Int)]))) ⟨0,rfl,by omega,rfl⟩ ?_ ?_
  .rintro ⟨s,v⟩ ⟨j,rfl,hj,rfl⟩
   rcases Nat.lt_trichotomy j m.length with h1 | h1 | h1
   .have z:m[j]? = some m[j]:=B0 h1
    generalize m[j]=y at z
    have b:(m++[(n:Int)])[j]? = some y:=by rw [List.getElem?_append_left h1]; exact z
    have hy:=k.1 y (Br b)
    obtain ⟨q,rfl⟩:∃q:Nat,y=q:=⟨y.toNat,by omega⟩
    have hq:q<1000000000:=by omega
    have D:=g j
    refine .inl ⟨(bs (((m.take (j+1)).reverse).flatMap fun x:Int=>Fa 9 x.toNat),((j+1:Nat):Int)),?_,⟨j+1,rfl,by omega,by rw [if_pos (by omega)]⟩,by simp only [Int.toNat_natCast]; omega⟩
    simp only [Aj (show (j:Int)<((m.length+1:Nat):Int) by omega),cond_true,Bv rfl b,Ad,if_pos (Nat.le_of_lt h1)]
    refine Awc (Aj ?_) hq fun u v=>?_
    .rw [Ac,Bl (by omega) (by omega)]; omega
    .dsimp only
     rw [C3 (by rw [Ux]; omega),Ad,show Ac ((j:Int)+1)=((j+1:Nat):Int) by rw [Ac,Bl] <;> omega,Dk z,List.reverse_append,List.reverse_singleton,List.flatMap_append]
     simp
   .subst h1
    have b:(m++[(n:Int)])[m.length]? = some (n:Int):=by simp
    have D:=g m.length
    refine .inl ⟨(bs (G2 (m++[(n:Int)])),((m.length+1:Nat):Int)),?_,⟨m.length+1,rfl,by omega,by rw [if_neg (by omega)]⟩,by simp only [Int.toNat_natCast]; omega⟩
    simp only [Aj (show (m.length:Int)<((m.length+1:Nat):Int) by omega),cond_true,Bv rfl b,Ad,if_pos (Nat.le_refl m.length)]
    refine Awd (Ap ?_) B (by omega) fun u v=>?_
    .rw [Ac,Bl (by omega) (by omega)]; omega
    .dsimp only
     rw [C3 (by omega),Ad,show Ac ((m.length:Int)+1)=((m.length+1:Nat):Int) by rw [Ac,Bl] <;> omega,Pp,List.take_length]
   .have:j=m.length+1:=by omega
    subst this
    refine .inr ⟨bs (G2 (m++[(n:Int)])),?_,rfl⟩
    simp only [Ap (show ¬((m.length+1:Nat):Int)<((m.length+1:Nat):Int) by omega),cond_false,if_neg (show ¬m.length+1<=m.length by omega)]
  .rintro s rfl
   have i:G2 (m++[(n:Int)])≠[]:=by
    rw [Pp]
    intro e
    exact Pi _ (List.append_eq_nil_iff.1 e).1
   rw [K5,Nm _ _ A By.nil,decide_eq_false i]; rfl
def Fk (c:A4):List Int:=G2 c.Num++(if c.Den = [1] then [] else 47::G2 c.Den)
theorem Y3 (c:A4):By (Fk c):=by
 unfold Fk
 refine (Y0 _).app ?_
 split
 .exact By.nil
 .exact By.cons (by omega) (Y0 _)
theorem U1 {c:A4} (h:Hq c):c.Num=Ag (nv c)/\c.Den=Ag (dv c)/\c.Neg=sv c:=by
 have:=Ajf (sv c) (nv c) (dv c) (Gs c)
 rw [<-show c=Bw (sv c) (nv c) (dv c) from h] at this
 exact this
theorem Awe {n:Nat}:Ag n = [1]↔n=1:=by
 constructor
 .intro h
  have h1:Ak (Ag n)=Ak (Ag 1):=by rw [h,Lw]
  rw [Es,Es] at h1
  omega
 .rintro rfl; exact Lw
theorem Ad6 {c:A4} {k:Nat} (hc:Hq c) (i:c.Neg=false) (h:RB k c) (hk:k<=1099511627):Qj c=some (bs (Fk c))/\Qb c=some (bs (Fk c)):=by
 obtain ⟨f1,f2,f3⟩:=U1 hc
 have s:=h.nl
 have q:=h.dl
 have d1:Can c.Num:=by rw [f1]; exact Rj _
 have d2:Can c.Den:=by rw [f2]; exact Rj _
 have t1:=Y2 d1.1
 have t2:=Y2 d2.1
 have hb:=Y0 c.Num
 constructor
 .unfold Qj
  rw [Rl c k h (by omega),Ad]
  have hs:=Xy (sv c) (nv c) (dv c) (by rw [Bj,<-f1]; omega) (by rw [Bj,<-f2]; omega)
  rw [<-show c=Bw (sv c) (nv c) (dv c) from hc] at hs
  unfold J6 at hs
  cases j:Qo ⟨sv c,Ag (nv c),Ag (dv c)⟩ with
  | none=>rw [j] at hs; cases hs
  | some g=>
   rw [j,Ad] at hs
   have f:=Option.some.inj hs
   have g1:g.neg=c.Neg:=by rw [<-f]
   have g2:g.n=c.Num:=by rw [<-f]
   have g3:g.d=c.Den:=by rw [<-f]
   rw [Ad,g1,g2,g3,i,Al4 d1.1 (by omega),Ad]
   simp only [cond_false,Ad]
   rw [show Ln c.Den=some (decide (dv c=1)) by rw [f2]; exact Xx _,Ad]
   unfold Fk
   by_cases h1:dv c=1
   .rw [Aj h1,if_pos (by rw [f2,h1,Lw]),List.append_nil]; rfl
   .rw [Ap h1,if_neg (by rw [f2,Awe]; exact h1),Bool.not_false,cond_true,Al4 d2.1 (by omega),Ad,c47,C3 (by simp; omega),Ad,C3 (by simp; omega)]; rfl
 .unfold Qb
  have e:Lj c=some c:=by
   rw [Ac4 c k h (by omega)]
   exact congrArg some hc.symm
  have l:Sw c=some (decide (c.Den = [1])):=by
   unfold Sw
   rw [e,Ad]
   generalize c.Den=D
   match D with
   | []=>rfl
   | [a]=>
    show (Ae [a] 0).bind (fun v3=>some (v3==(1:Int)))=_
    rw [show Ae [a] 0=some a from rfl,Ad]
    by_cases ha:a=1
    .subst ha; rfl
    .rw [B2 ha,decide_eq_false (by simpa using ha)]
   | a::b::D=>
    rw [B2 (by simp only [List.length_cons]; omega),decide_eq_false (by simp)]; rfl
  rw [e,Ad,Al7 d1 (by omega),Ad,i]
  simp only [cond_false,Ad,l]
  unfold Fk
  by_cases h1:c.Den = [1]
  .rw [Aj h1,if_pos h1,List.append_nil]; rfl
  .rw [Ap h1,if_neg h1,Bool.not_false,cond_true,Al7 d2 (by omega),Ad,c47,C3 (by simp; omega),Ad,C3 (by simp; omega)]; rfl
theorem Al8 {c:A4} {k:Nat} (hc:Hq c) (h:RB k c) (hk:k<=1099511627):Qi c=some (Bw false (nv c) (dv c))/\Qc c=some (Bw false (nv c) (dv c)):=by
 obtain ⟨f1,f2,f3⟩:=U1 hc
 have f:=h.nl
 have b:=h.dl
 constructor
 .unfold Qi
  rw [Rl c k h (by omega),Ad,Xy false (nv c) (dv c) (by rw [Bj,<-f1]; omega) (by rw [Bj,<-f2]; omega)]; rfl
 .unfold Qc
  rw [f1,f2,As4 false (nv c) (dv c) (by rw [Bj,<-f1]; omega) (by rw [Bj,<-f2]; omega) (Gs c)]; rfl
theorem Ad7 {c:A4} {k:Nat} (hc:Hq c) (h:RB k c) (h1:1<=k):Hq (Bw false (nv c) (dv c))/\(Bw false (nv c) (dv c)).Neg=false/\RB k (Bw false (nv c) (dv c)):=by
 obtain ⟨f1,f2,f3⟩:=U1 hc
 have f:=h.nl
 have b:=h.dl
 refine ⟨Ak6 _ _ _ (Gs c),?_,Acw _ _ _ _ (by rw [Bj,<-f1]; omega) (by rw [Bj,<-f2]; omega) h1⟩
 unfold Bw
 split <;> rfl
theorem Al9 {c:A4} (hc:Hq c) (g:c.Neg=false):Fk c = [49]↔c=Bw false 1 1:=by
 obtain ⟨f1,f2,f3⟩:=U1 hc
 have q:Bw false 1 1=⟨false,[1],[1]⟩:=by
  unfold Bw
  rw [if_neg (by decide)]
  simp [Lw]
 have f:ti (1:Int) = [49]:=Yx (n:=1) (by decide)
 rw [q]
 constructor
 .intro h
  unfold Fk at h
  have hd:c.Den = [1]:=by
   by_cases hd:c.Den = [1]
   .exact hd
   .rw [if_neg hd] at h
    have:=congrArg List.length h
    simp only [List.length_append,List.length_cons,List.length_nil] at this
    have h0:G2 c.Num = []:=List.length_eq_zero_iff.1 (by omega)
    rw [h0] at h
    simp at h
  rw [if_pos hd,List.append_nil] at h
  have j:c.Num = [1]:=by
   by_cases h0:c.Num = []
   .rw [h0,Al2] at h; cases h
   .obtain ⟨m,x,e⟩:=Uz h0
    rw [e,Pp] at h
    have i:=congrArg List.length h
    rw [List.length_append,Y1,List.length_reverse] at i
    simp only [List.length_cons,List.length_nil] at i
    have k:(ti x).length≠0:=fun e=>Pi x (List.length_eq_zero_iff.1 e)
    have l:m = []:=List.length_eq_zero_iff.1 (by omega)
    subst l
    rw [List.reverse_nil,List.flatMap_nil,List.append_nil,<-f] at h
    rw [e,Adk h]; rfl
  obtain ⟨a,b,d⟩:=c
  simp only at hd j g
  rw [hd,j,g]
 .rintro rfl
  show G2 ([]++[1])++_=_
  rw [Pp,f]; rfl
end Go.Ab
namespace Go.Ab
open Go
def Gd:Bool->List Dd->List Int
 | _,[]=>[]
 | f,t::b=>tT f t++Gd false b
theorem Ama:∀(l:List Dd) (f:Bool) (j:Nat) (x:Dd),l[j]? = some x->Gd f (l.take (j+1))=Gd f (l.take j)++tT (if j=0 then f else false) x
 | [],_,_,_,h=>by simp at h
 | t::b,f,0,x,h=>by simp at h; subst h; simp [Gd]
 | t::b,f,j+1,x,h=>by
  have:=Ama b false j x (by simpa using h)
  simp only [List.take_succ_cons,Gd]
  rw [this]
  simp
theorem Amb:∀(l:List Dd) (f:Bool) (c:Int),l≠[]->Ie f l c=Gd f l++(if c=0 then [] else Fy c false++ti c.natAbs)
 | [],_,_,h=>(h rfl).elim
 | [t],f,c,_=>by
  simp only [Ie,Gd,List.append_nil]
  by_cases hc:c=0
  .rw [if_neg (by simp [hc]),if_pos hc]
  .rw [if_pos (.inl hc),if_neg hc]
 | t::u::b,f,c,_=>by
  have:=Amb (u::b) false c (by simp)
  show tT f t++Ie false (u::b) c=tT f t++Gd false (u::b)++_
  rw [this,List.append_assoc]
theorem Amc:∀(l:List Dd) (f:Bool),(∀t∈l,(-1<=t.Var/\t.Var<3000)/\(-1048576<=t.Coef/\t.Coef<=1048576))->(Gd f l).length<=47*l.length
 | [],_,_=>by simp [Gd]
 | t::b,f,h=>by
  have h1:=Yu f (h t (by simp))
  have h2:=Amc b false fun u hu=>h u (by simp [hu])
  simp only [Gd,List.length_append,List.length_cons]; omega
theorem Awf (v:Int):F5 v≠[]:=by
 obtain ⟨c,m,e,_⟩:=Avs v
 rw [e]; simp
theorem Ad8 {s:List Int} {n:Int} {j:Nat} (hs:s.length<=100000000000000) {R:Type} {K:ByteArray->Option R} {r:Option R} (c:K (bs (s++Fy n (decide (j=0))))=r) :
  ((show Option ByteArray from
   (show Option Bool from
   bif ((j:Int)==(0:Int)) then (
   some (decide (n<(0:Int)))
   )
   else (
   some false
   )
   ).bind fun i=>
   bif i then (
   (Bb (bs s) (ByteArray.mk #[45])).bind fun h=>
   some h
   )
   else (
   (show Option Bool from
   bif (decide ((j:Int)>(0:Int))) then (
   some (decide (n<(0:Int)))
   )
   else (
   some false
   )
   ).bind fun v31=>
   bif v31 then (
   (Bb (bs s) (ByteArray.mk #[32,45,32])).bind fun g=>
   some g
   )
   else (
   bif (decide ((j:Int)>(0:Int))) then (
   (Bb (bs s) (ByteArray.mk #[32,43,32])).bind fun f=>
   some f
   )
   else (
   some (bs s)
   )
   )
   )
   ).bind K)=r:=by
 have q:Bb (bs s) (ByteArray.mk #[45])=some (bs (s++[45])):=by rw [c45,C3 (by simp; omega)]
 have l:Bb (bs s) (ByteArray.mk #[32,45,32])=some (bs (s++[32,45,32])):=by rw [Ady,C3 (by simp; omega)]
 have k:Bb (bs s) (ByteArray.mk #[32,43,32])=some (bs (s++[32,43,32])):=by rw [Adz,C3 (by simp; omega)]
 unfold Fy at c
 by_cases hj:j=0
 .subst hj
  by_cases b:n<0
  .simp only [if_true,decide_true,if_pos b] at c
   simp only [show (((0:Nat):Int)==0)=true from rfl,Aj b,cond_true,Ad,q]
   exact c
  .simp only [if_true,decide_true,if_neg b,List.append_nil] at c
   simp only [show (((0:Nat):Int)==0)=true from rfl,Ap b,cond_true,cond_false,Ad,Ap (show ¬(((0:Nat):Int)>0) by decide)]
   exact c
 .by_cases b:n<0
  .simp only [decide_eq_false hj,Bool.false_eq_true,if_false,if_pos b] at c
   simp only [B2 (show (j:Int)≠0 by omega),Aj (show (j:Int)>0 by omega),Aj b,cond_true,cond_false,Ad,l]
   exact c
  .simp only [decide_eq_false hj,Bool.false_eq_true,if_false,if_neg b] at c
   simp only [B2 (show (j:Int)≠0 by omega),Aj (show (j:Int)>0 by omega),Ap b,cond_true,cond_false,Ad,k]
   exact c
theorem Amd {n:Int} (h : -1048576<=n/\n<=1048576):(bif (decide (n<(0:Int))) then some (Ac (0-n)) else some n)=some (n.natAbs:Int):=by
 by_cases b:n<0
 .rw [Aj b,cond_true,Ac,Bl (by omega) (by omega)]; congr 1; omega
 .rw [Ap b,cond_false]; congr 1; omega
theorem Awg {a:C2} (h:Ho a=true) (b:a.Terms≠[]):Lg a=some (bs (Kj a)):=by
 have G:=Yt h
 unfold Lg
 rw [Akr,h]
 obtain ⟨c,l⟩:=a
 have hc : -1048576<=c/\c<=1048576:=G.c
 have N:l.length<=16:=G.n
 have i:∀u∈l,(-1<=u.Var/\u.Var<3000)/\(-1048576<=u.Coef/\u.Coef<=1048576):=G.t
 have b:l≠[]:=b
 have E:l.length≠0:=fun e=>b (List.length_eq_zero_iff.1 e)
 have k:∀j,(Gd true (l.take j)).length<=1000:=fun j=>by
  have:=Amc (l.take j) true fun u hu=>i u (List.mem_of_mem_take hu)
  rw [List.length_take] at this; omega
 have L:Kj ⟨c,l⟩=Gd true l++(if c=0 then [] else Fy c false++ti c.natAbs):=Amb l true c b
 simp only [Ad,De,cond_false]
 rw [L]
 refine Gi (fun (s,v)=>∃j:Nat,v=j/\j<=l.length+1/\s=bs (if j<=l.length then Gd true (l.take j) else Gd true l++(if c=0 then [] else Fy c false++ti c.natAbs))) (fun (_,v)=>l.length+1-v.toNat) (fun s=>s=bs (Gd true l++(if c=0 then [] else Fy c false++ti c.natAbs))) ⟨0,rfl,by omega,rfl⟩ ?_ ?_
 .rintro ⟨s,v⟩ ⟨j,rfl,hj,rfl⟩
  rcases Nat.lt_trichotomy j l.length with h1 | h1 | h1
  .have y:l[j]? = some l[j]:=B0 h1
   generalize l[j]=t at y
   have ht:=i t (Br y)
   have hp:=k j
   have M:=Uu ht.1
   have R:=Ys t.Coef ht.2
   have D:=Nk t.Coef (decide (j=0))
   have g:Ae l (j:Int)=some t:=Bv rfl y
   refine .inl ⟨(bs (Gd true (l.take (j+1))),((j+1:Nat):Int)),?_,⟨j+1,rfl,by omega,by rw [if_pos (by omega)]⟩,by simp only [Int.toNat_natCast]; omega⟩
   have f:(bif (decide (t.Var>=(0:Int))) then (
     (Ae l (j:Int)).bind fun v24=>
     (Sx v24.Var).bind fun A=>
     (Bb (ByteArray.mk #[118]) A).bind fun z=>
     some (Sum.inl (t.Coef,z)))
     else (some (Sum.inl (t.Coef,(ByteArray.mk #[114,101,115]))):Option ((Int×ByteArray)⊕Unit)))=some (.inl (t.Coef,bs (F5 t.Var))):=by
    unfold F5
    by_cases h0:t.Var = -1
    .rw [Ap (by omega),cond_false,if_pos h0,Uw]
    .obtain ⟨n,q⟩:∃n:Nat,t.Var=n:=⟨t.Var.toNat,by omega⟩
     rw [Aj (by omega),cond_true,if_neg h0,g,Ad,q,Awa n (by omega),Ad,Uv,C3 (by rw [<-q]; have:=Ib (n:=t.Var) (by unfold I64; omega); simp; omega)]; rfl
   simp only [Aj (show (j:Int)<=(l.length:Int) by omega),Aj (show (j:Int)<(l.length:Int) by omega),cond_true,g,Ad,if_pos (Nat.le_of_lt h1)]
   simp only [g,Ad] at f
   rw [f]
   simp only [Ad]
   refine Ad8 (by omega) ?_
   rw [Amd ht.2,Ad,K5,Nm _ _ (By.var _) By.nil,decide_eq_false (Awf _),cond_false]
   have I:Ac ((j:Int)+1)=((j+1:Nat):Int):=by rw [Ac,Bl] <;> omega
   have J:Gd true (l.take (j+1))=Gd true (l.take j)++Fy t.Coef (decide (j=0))++(Jp t.Coef++F5 t.Var):=by
    rw [Ama l true j t y,tT,List.append_assoc]
    by_cases h0:j=0
    .rw [if_pos h0,decide_eq_true h0]
    .rw [if_neg h0,decide_eq_false h0]
   rw [J]
   unfold Jp
   by_cases x:t.Coef.natAbs=1
   .rw [Da (by omega),cond_true,if_pos x,C3 (by simp; omega),Ad,I]; rfl
   .have B:=Rx (n:=t.Coef.natAbs) (by omega)
    rw [B2 (by omega),cond_false,if_neg x,Alx _ (by omega),Ad,c42,C3 (by simp; omega),Ad,C3 (by simp; omega),Ad,C3 (by simp; omega),Ad,I]
  .subst h1
   have hp:=k l.length
   rw [List.take_length] at hp
   have D:=Nk c (decide (l.length=0))
   have B:=Rx (n:=c.natAbs) (by omega)
   by_cases h0:c=0
   .refine .inr ⟨bs (Gd true l),?_,by rw [if_pos h0,List.append_nil]⟩
    simp only [Aj (show (l.length:Int)<=(l.length:Int) by omega),Ap (show ¬(l.length:Int)<(l.length:Int) by omega),cond_true,cond_false,Da h0,Aj (show (l.length:Int)>0 by omega),Ad,if_pos (Nat.le_refl l.length),List.take_length]
   .refine .inl ⟨(bs (Gd true l++(Fy c false++ti c.natAbs)),((l.length+1:Nat):Int)),?_,⟨l.length+1,rfl,by omega,by rw [if_neg (by omega),if_neg h0]⟩,by simp only [Int.toNat_natCast]; omega⟩
    simp only [Aj (show (l.length:Int)<=(l.length:Int) by omega),Ap (show ¬(l.length:Int)<(l.length:Int) by omega),cond_true,cond_false,B2 h0,Ad,if_pos (Nat.le_refl l.length),List.take_length]
    refine Ad8 (by omega) ?_
    rw [Amd hc,Ad,show ((ByteArray.mk #[]).toList==(ByteArray.mk #[]).toList)=true from beq_self_eq_true _,cond_true,Alx _ (by omega),Ad,C3 (by simp only [List.length_append]; omega),Ad,decide_eq_false E]
    rw [show Ac ((l.length:Int)+1)=((l.length+1:Nat):Int) by rw [Ac,Bl] <;> omega,List.append_assoc]
  .have:j=l.length+1:=by omega
   subst this
   refine .inr ⟨_,?_,rfl⟩
   simp only [Ap (show ¬((l.length+1:Nat):Int)<=(l.length:Int) by omega),cond_false,if_neg (show ¬l.length+1<=l.length by omega)]
 .rintro s rfl; rfl
end Go.Ab
namespace Go.Ab
open Go
def Fp (data:List Ao) (t:Af) (n:Int):List Int:=match Ae data t.Num with
 | some x=>(match Ae x.Cons n with
  | some y=>Fe y.Name
  | none=>[])
 | none=>[]
mutual
def ixT (data:List Ao):Az->Af->List Int
 | ⟨n,kids⟩,t=>if t.Kind=6 then 40::((Eo data kids t.Args).drop 2++[41]) else if t.Kind=7 then ti n else if t.Kind=5 then 91::((Hr data kids t).drop 2++[93]) else [42]
def Eo (data:List Ao):List Az->List Af->List Int
 | i::is,t::ts=>44::32::(ixT data i t++Eo data is ts)
 | [],_=>[]
 | _::_,[]=>[]
def Hr (data:List Ao):List Az->Af->List Int
 | [],_=>[]
 | ⟨n,kids⟩::es,t=>44::32::(Fp data t n++(match E2 data t n with
  | some ts=>if ts.length=0 then [] else 40::((Eo data kids ts).drop 2++[41])
  | none=>[])++Hr data es t)
end
def Gk (data:List Ao) (t:Af) (e:Az):List Int:=match E2 data t e.Num with
 | some b=>if b.length=0 then [] else 40::((Eo data e.Kids b).drop 2++[41])
 | none=>[]
theorem Ad9 (data:List Ao) (i:Az) (t:Af):ixT data i t=if t.Kind=6 then 40::((Eo data i.Kids t.Args).drop 2++[41]) else if t.Kind=7 then ti i.Num else if t.Kind=5 then 91::((Hr data i.Kids t).drop 2++[93]) else [42]:=by cases i; simp only [ixT]
theorem Aea (data:List Ao):∀(c:List Az) (b:List Af),Eo data c b=(c.zip b).flatMap fun p=>44::32::ixT data p.1 p.2
 | [],_=>by simp [Eo]
 | _::_,[]=>by simp [Eo]
 | i::c,t::b=>by
  rw [Eo,Aea data c b,List.zip_cons_cons,List.flatMap_cons]; rfl
theorem Aeb (data:List Ao):∀(es:List Az) (t:Af),Hr data es t=es.flatMap fun e=>44::32::(Fp data t e.Num++Gk data t e)
 | [],_=>by simp [Hr]
 | ⟨n,kids⟩::es,t=>by
  rw [Hr,Aeb data es t,List.flatMap_cons]; rfl
theorem By.drop {l:List Int} (h:By l) (n:Nat):By (l.drop n):=fun c hc=>h c (List.mem_of_mem_drop hc)
theorem By.con (data:List Ao) (t:Af) (n:Int):By (Fp data t n):=by
 unfold Fp
 split
 .split
  .exact By.bytes _
  .exact By.nil
 .exact By.nil
theorem By.two {l:List Int} (h:By l):By (44::32::l):=By.cons (by omega) (By.cons (by omega) h)
mutual
theorem By.ix (data:List Ao):∀(i:Az) (t:Af),By (ixT data i t)
 | ⟨n,kids⟩,t=>by
  rw [ixT]
  split
  .exact By.cons (by omega) (((By.row data kids _).drop 2).app (By.cons (by omega) By.nil))
  .split
   .exact By.ti _
   .split
    .exact By.cons (by omega) (((By.els data kids _).drop 2).app (By.cons (by omega) By.nil))
    .exact By.cons (by omega) By.nil
theorem By.row (data:List Ao):∀(is:List Az) (ts:List Af),By (Eo data is ts)
 | i::is,t::ts=>by
  rw [Eo]
  exact ((By.ix data i t).app (By.row data is ts)).two
 | [],_=>by rw [Eo]; exact By.nil
 | _::_,[]=>by rw [Eo]; exact By.nil
theorem By.els (data:List Ao):∀(es:List Az) (t:Af),By (Hr data es t)
 | [],_=>by rw [Hr]; exact By.nil
 | ⟨n,kids⟩::es,t=>by
  rw [Hr]
  refine (((By.con data t n).app ?_).app (By.els data es t)).two
  split
  .split
   .exact By.nil
   .exact By.cons (by omega) (((By.row data kids _).drop 2).app (By.cons (by omega) By.nil))
  .exact By.nil
end
def NmB (data:List Ao):Prop:=∀x∈data,∀y∈x.Cons,y.Name.size<=1048576
theorem Aec {α:Type} {l:List α} {i:Int} {x:α} (h:Ae l i=some x):x∈l:=by
 unfold Ae at h
 split at h
 .exact Br h
 .cases h
theorem Awh {data:List Ao} (b:NmB data) (t:Af) (n:Int):(Fp data t n).length<=1048576:=by
 unfold Fp
 split
 .rename_i x hx
  split
  .rename_i y hy
   rw [Av9]; exact b x (Aec hx) y (Aec hy)
  .simp
 .simp
mutual
theorem Aed {data:List Ao} (hN:NmB data):∀(i:Az) (t:Af),iR i->(ixT data i t).length+2<=1048640*Cm i
 | ⟨n,kids⟩,t,h=>by
  simp only [iR] at h
  have h1:=Aee hN kids t.Args h.2
  have h2:=Ame hN kids t h.2
  have h3:=Ib h.1
  rw [ixT]
  simp only [Cm]
  split
  .simp; omega
  .split
   .omega
   .split
    .simp; omega
    .simp; omega
theorem Aee {data:List Ao} (hN:NmB data):∀(is:List Az) (ts:List Af),iRs is->(Eo data is ts).length<=1048640*Db is
 | i::is,t::ts,h=>by
  simp only [iRs] at h
  have h1:=Aed hN i t h.1
  have h2:=Aee hN is ts h.2
  rw [Eo]
  simp only [Db,List.length_cons,List.length_append]; omega
 | [],_,_=>by rw [Eo]; simp
 | _::_,[],_=>by rw [Eo]; simp
theorem Ame {data:List Ao} (hN:NmB data):∀(es:List Az) (t:Af),iRs es->(Hr data es t).length<=1048640*Db es
 | [],_,_=>by rw [Hr]; simp
 | ⟨n,kids⟩::es,t,h=>by
  simp only [iRs,iR] at h
  have h1:=Ame hN es t h.2
  have h2:=Awh hN t n
  have h3:=fun ts=>Aee hN kids ts h.1.2
  rw [Hr]
  simp only [Db,Cm,List.length_cons,List.length_append]
  split
  .rename_i ts _
   have:=h3 ts
   split
   .simp; omega
   .simp; omega
  .simp; omega
end
theorem U2 {data:List Ao}:∀{c:List Az} {b:List Af},(C8 data c b).isSome=true->c.length=b.length/\∀(j:Nat) (i:Az) (t:Af),c[j]? = some i->b[j]? = some t->(D9 data i t).isSome=true
 | [],[],_=>⟨rfl,fun j i t h=>by simp at h⟩
 | [],_::_,h=>by simp [C8] at h
 | _::_,[],h=>by simp [C8] at h
 | i::c,t::b,h=>by
  rw [Rq] at h
  cases h1:D9 data i t with
  | none=>rw [h1] at h; simp at h
  | some a=>
   rw [h1,Ad] at h
   have h2:(C8 data c b).isSome=true:=by simpa using h
   obtain ⟨g,f⟩:=U2 h2
   refine ⟨by simp [g],fun j x u hx hu=>?_⟩
   cases j with
   | zero=>simp at hx hu; subst hx; subst hu; rw [h1]; rfl
   | succ j=>exact f j x u (by simpa using hx) (by simpa using hu)
theorem U3 {data:List Ao} {t:Af}:∀{es:List Az},(E3 data es t).isSome=true->∀e∈es,∃b,E2 data t e.Num=some b/\(C8 data e.Kids b).isSome=true
 | [],_,e,he=>by cases he
 | x::es,h,e,he=>by
  rw [Rp] at h
  cases h1:E2 data t x.Num with
  | none=>rw [h1] at h; simp at h
  | some b=>
   rw [h1,Ad] at h
   cases h2:C8 data x.Kids b with
   | none=>rw [h2] at h; simp at h
   | some a=>
    rw [h2,Ad] at h
    have h3:(E3 data es t).isSome=true:=by simpa using h
    rcases List.mem_cons.1 he with rfl | he
    .exact ⟨b,h1,by rw [h2]; rfl⟩
    .exact U3 h3 e he
theorem U4 {α:Type} {g:α->List Int} (b:∀a,2<=(g a).length):∀l:List α,2*l.length<=(l.flatMap g).length
 | []=>by simp
 | a::l=>by
  have:=b a
  have:=U4 b l
  simp only [List.flatMap_cons,List.length_append,List.length_cons]; omega
theorem Y4 {α:Type} (g:α->List Int) (l:List α) (j:Nat):((l.take j).flatMap g).length<=(l.flatMap g).length:=by
 conv=>rhs; rw [<-List.take_append_drop j l,List.flatMap_append]
 rw [List.length_append]; omega
theorem Ry {X Y:List Int} {j:Nat} (h0:j=0->X = []) (h1:0<j->2<=X.length):(if 0<j then X.drop 2++[44,32] else X.drop 2)++Y=(X++(44::32::Y)).drop 2:=by
 by_cases hj:0<j
 .rw [if_pos hj,List.drop_append_of_le_length (h1 hj)]; simp
 .rw [if_neg hj,h0 (by omega)]; rfl
theorem Aef:ByteArray.mk #[44,32]=bs [44,32]:=rfl
theorem Awi:By [44,32]:=By.cons (by omega) (By.cons (by omega) By.nil)
theorem Amf {b X:List Int} {j:Nat} (h:b.length+X.length+2<=140737488355328) {R:Type} {K:List Int->Option R} {r:Option R} (c:K (b++(if 0<j then X.drop 2++[44,32] else X.drop 2))=r) :
  ((show Option (List Int) from
  bif (decide ((j:Int)>(0:Int))) then (
  (Cl (ByteArray.mk #[44,32]) (b++X.drop 2)).bind fun f=>
  some f.2
  )
  else (
  some (b++X.drop 2)
  )
  ).bind K)=r:=by
 by_cases hj:0<j
 .rw [if_pos hj] at c
  rw [Aj (by omega),Aef,Fz Awi (by simp; omega)]
  simp only [cond_true,Ad,List.append_assoc]
  exact c
 .rw [if_neg hj] at c
  rw [Ap (by omega)]
  exact c
theorem Amg {X:List Int} {j:Nat} (h:X.length+2<=140737488355328) {R:Type} {K:ByteArray->Option R} {r:Option R} (b:K (bs (if 0<j then X.drop 2++[44,32] else X.drop 2))=r) :
  ((show Option ByteArray from
  bif (decide ((j:Int)>(0:Int))) then (
  (Bb (bs (X.drop 2)) (ByteArray.mk #[44,32])).bind fun c=>
  some c
  )
  else (
  some (bs (X.drop 2))
  )
  ).bind K)=r:=by
 by_cases hj:0<j
 .rw [if_pos hj] at b
  rw [Aj (by omega),Aef,C3 (by simp; omega)]
  exact b
 .rw [if_neg hj] at b
  rw [Ap (by omega)]
  exact b
end Go.Ab
namespace Go.Ab
open Go
theorem wr1 {s:ByteArray} {b:List Int} (h:b.length+(Fe s).length<=140737488355328):Cl s b=some (((Fe s).length:Int),b++Fe s):=by
 have:=Fz (l:=Fe s) (b:=b) (By.bytes s) h
 rwa [Alt] at this
theorem Amh {data:List Ao} (S:Nat) {W:Af->Az->List Int->Option (List Int)} {f:List Az} {c:List Af} {b:List Int} (M:f.length=c.length) (L:f.length<=1099511627776) (hb:b.length+(Eo data f c).length+S+2<=140737488355328)
  (I:∀(j:Nat) (i:Az) (t:Af) (A:List Int),f[j]? = some i->c[j]? = some t->A.length+(ixT data i t).length+S<=140737488355328->W t i A=some (A++ixT data i t)) {R:Type} {J:List Int->Option R} {r:R} (B:J (b++(Eo data f c).drop 2)=some r) :
  (An (S:=(Int×(List Int))) (E:=(List Int)) (fun (h,l)=>
  bif (decide (h<(c.length:Int))) then (
  (Ae c h).bind fun s=>
  (show Option (List Int) from
  bif (decide (h>(0:Int))) then (
  (Cl (ByteArray.mk #[44,32]) l).bind fun q=>
  some q.2
  )
  else (
  some l
  )
  ).bind fun x=>
  (Ae f h).bind fun v20=>
  (W s v20 x).bind fun v21=>
  some (.inl ((Ac (h+1)),v21))
  )
  else (
  some (.inr l)
  )
   ) (0,b)).bind J=some r:=by
 rw [Aea] at hb B
 have G:(f.zip c).length=c.length:=by rw [List.length_zip]; omega
 have k:=Y4 (fun p:Az×Af=>44::32::ixT data p.1 p.2) (f.zip c)
 refine Gj c.length (fun j=>((j:Int),b++(((f.zip c).take j).flatMap fun p=>44::32::ixT data p.1 p.2).drop 2)) (by simp) ?_ ?_
 .intro j hj
  obtain ⟨i,hi⟩:∃i,f[j]? = some i:=⟨_,B0 (by omega)⟩
  obtain ⟨t,ht⟩:∃t,c[j]? = some t:=⟨_,B0 hj⟩
  have y:(f.zip c)[j]? = some (i,t):=by rw [List.getElem?_zip_eq_some]; exact ⟨hi,ht⟩
  have e:=Nl (g:=fun p:Az×Af=>44::32::ixT data p.1 p.2) y
  have D:=k j
  have u:=k (j+1)
  rw [e] at u
  have f2:0<j->2<=(((f.zip c).take j).flatMap fun p=>44::32::ixT data p.1 p.2).length:=fun h0=>by
   have:=U4 (g:=fun p:Az×Af=>44::32::ixT data p.1 p.2) (fun a=>by simp) ((f.zip c).take j)
   rw [List.length_take,G] at this; omega
  have f0:j=0->(((f.zip c).take j).flatMap fun p=>44::32::ixT data p.1 p.2) = []:=fun h0=>by rw [h0]; rfl
  rw [e]
  generalize (((f.zip c).take j).flatMap fun p=>44::32::ixT data p.1 p.2)=X at D u f2 f0
  simp only [List.length_append,List.length_cons] at u
  have hgt:Ae c (j:Int)=some t:=Bv rfl ht
  have z:Ae f (j:Int)=some i:=Bv rfl hi
  simp only [Aj (show (j:Int)<(c.length:Int) by omega),cond_true,hgt,Ad]
  refine Amf (by omega) ?_
  rw [z,Ad,I j i t _ hi ht (by split <;> simp <;> omega),Ad,List.append_assoc,Ry f0 f2,show Ac ((j:Int)+1)=((j+1:Nat):Int) by rw [Ac,Bl] <;> omega]
 .refine ⟨_,by simp only [Ap (show ¬(c.length:Int)<(c.length:Int) by omega),cond_false]; rfl,?_⟩
  rw [List.take_of_length_le (by omega)]
  exact B
theorem Ami (l:List Af):okL (some l)=(l,true):=rfl
theorem Amj {data:List Ao} (S:Nat) {t:Af} {Y:List Af->List Az->List Int->Option (List Int)} {es:List Az} {b:List Int} (hn:es.length<=1099511627776) (hb:b.length+(Hr data es t).length+S+2<=140737488355328)
  (hp:∀e∈es,J9 data t e.Num=some (okL (E2 data t e.Num))/\∃c x y,E2 data t e.Num=some c/\Ae data t.Num=some x/\Ae x.Cons e.Num=some y)
  (hW:∀e∈es,∀(c:List Af) (L:List Int),E2 data t e.Num=some c->L.length+((Eo data e.Kids c).drop 2).length+2+S<=140737488355328->Y c e.Kids L=some (L++40::((Eo data e.Kids c).drop 2++[41])))
  {R:Type} {J:List Int->Option R} {r:R} (U:J (b++(Hr data es t).drop 2)=some r) :
  (An (S:=(Int×(List Int))) (E:=(List Int)) (fun (f,k)=>
  bif (decide (f<(es.length:Int))) then (
  (Ae es f).bind fun i=>
  (show Option (List Int) from
  bif (decide (f>(0:Int))) then (
  (Cl (ByteArray.mk #[44,32]) k).bind fun A=>
  some A.2
  )
  else (
  some k
  )
  ).bind fun D=>
  (Ae data t.Num).bind fun v20=>
  (Ae v20.Cons i.Num).bind fun v21=>
  (Cl v21.Name D).bind fun v22=>
  (J9 data t i.Num).bind fun q=>
  bif (decide ((q.1.length:Int)>(0:Int))) then (
  (Y q.1 i.Kids v22.2).bind fun v24=>
  some (.inl ((Ac (f+1)),v24))
  )
  else (
  some (.inl ((Ac (f+1)),v22.2))
  )
  )
  else (
  some (.inr k)
  )
   ) (0,b)).bind J=some r:=by
 rw [Aeb] at hb U
 have h:=Y4 (fun e:Az=>44::32::(Fp data t e.Num++Gk data t e)) es
 refine Gj es.length (fun j=>((j:Int),b++((es.take j).flatMap fun e=>44::32::(Fp data t e.Num++Gk data t e)).drop 2)) (by simp) ?_ ?_
 .intro j hj
  obtain ⟨x,hx⟩:∃x,es[j]? = some x:=⟨_,B0 hj⟩
  have hxm:=Br hx
  have e:=Nl (g:=fun e:Az=>44::32::(Fp data t e.Num++Gk data t e)) hx
  have p1:=h j
  have l:=h (j+1)
  rw [e] at l
  have f2:0<j->2<=((es.take j).flatMap fun e=>44::32::(Fp data t e.Num++Gk data t e)).length:=fun h0=>by
   have:=U4 (g:=fun e:Az=>44::32::(Fp data t e.Num++Gk data t e)) (fun a=>by simp) (es.take j)
   rw [List.length_take] at this; omega
  have f0:j=0->((es.take j).flatMap fun e=>44::32::(Fp data t e.Num++Gk data t e)) = []:=fun h0=>by rw [h0]; rfl
  rw [e]
  generalize ((es.take j).flatMap fun e=>44::32::(Fp data t e.Num++Gk data t e))=X at p1 l f2 f0
  simp only [List.length_append,List.length_cons] at l
  obtain ⟨Z,c,d,y,B,N,M⟩:=hp x hxm
  have I:Fp data t x.Num=Fe y.Name:=by unfold Fp; simp only [N,M]
  have G:Ae es (j:Int)=some x:=Bv rfl hx
  have V:Ac ((j:Int)+1)=((j+1:Nat):Int):=by rw [Ac,Bl] <;> omega
  have a6:(if 0<j then X.drop 2++[44,32] else X.drop 2).length<=X.length+2:=by split <;> simp <;> omega
  have u:0<j->(if 0<j then X.drop 2++[44,32] else X.drop 2).length=X.length:=fun h0=>by
   have:=f2 h0
   rw [if_pos h0]; simp; omega
  have s:¬0<j->(if 0<j then X.drop 2++[44,32] else X.drop 2).length=0:=fun h0=>by
   rw [if_neg h0,f0 (by omega)]; rfl
  have a1:(if 0<j then X.drop 2++[44,32] else X.drop 2).length<=X.length:=by
   by_cases h0:0<j
   .rw [u h0]; exact Nat.le_refl _
   .rw [s h0]; exact Nat.zero_le _
  simp only [Aj (show (j:Int)<(es.length:Int) by omega),cond_true,G,Ad]
  refine Amf (by omega) ?_
  rw [I] at l
  rw [N,Ad,M,Ad,wr1 (by rw [List.length_append]; omega),Ad,Z,Ad,B,Ami]
  have z:Gk data t x=if c.length=0 then [] else 40::((Eo data x.Kids c).drop 2++[41]):=by unfold Gk; simp only [B]
  by_cases h0:c.length=0
  .rw [if_pos h0] at z
   rw [Ap (show ¬((((c,true):List Af×Bool).1.length:Int)>0) by show ¬((c.length:Int)>0); omega),cond_false,V]
   rw [I,z,List.append_nil,<-Ry f0 f2,List.append_assoc]
  .rw [if_neg h0] at z
   rw [z] at l
   simp only [List.length_append,List.length_cons,List.length_nil] at l
   rw [Aj (show ((((c,true):List Af×Bool).1.length:Int)>0) by show ((c.length:Int)>0); omega),cond_true]
   rw [hW x hxm c _ B (by simp only [List.length_append]; omega),Ad,V,I,z,<-Ry f0 f2]
   simp only [List.append_assoc]
 .refine ⟨_,by simp only [Ap (show ¬(es.length:Int)<(es.length:Int) by omega),cond_false]; rfl,?_⟩
  rw [List.take_of_length_le (Nat.le_refl _)]
  exact U
theorem Aeg (data:List Ao):∀(c:List Az) (b:List Af),(Eo data c b).length<=((Eo data c b).drop 2).length+2:=by
 intro c b
 rw [List.length_drop]; omega
theorem Aeh {data:List Ao} (f:Szv data) (hs:He data) {t:Af} (ht:A9 t<=200) {es:List Az} (h:(E3 data es t).isSome=true) :
  ∀e∈es,J9 data t e.Num=some (okL (E2 data t e.Num))/\∃b x y,E2 data t e.Num=some b/\Ae data t.Num=some x/\Ae x.Cons e.Num=some y:=by
 intro e he
 obtain ⟨b,h1,_⟩:=U3 h e he
 refine ⟨Ul f hs t ht e.Num,b,?_⟩
 have h2:=h1
 unfold E2 at h2
 cases c:Iq data t e.Num with
 | none=>rw [c] at h2; cases h2
 | some l=>
  obtain ⟨x,y,_,hx,_,hy,_⟩:=Pf c
  exact ⟨x,y,h1,hx,hy⟩
theorem Aei {data:List Ao} {i:Az} {t:Af} (h:(D9 data i t).isSome=true):(t.Kind=6->(C8 data i.Kids t.Args).isSome=true)/\(t.Kind=7->0<=i.Num/\i.Num<=6)/\(t.Kind=5->(E3 data i.Kids t).isSome=true):=by
 rw [Un] at h
 refine ⟨fun k=>?_,fun k=>?_,fun k=>?_⟩
 .rw [if_pos k] at h
  split at h
  .exact h
  .cases h
 .rw [if_neg (by omega),if_pos k] at h
  split at h
  .rename_i h'; exact ⟨h'.1,h'.2.1⟩
  .cases h
 .rw [if_neg (by omega),if_neg (by omega),if_pos k] at h
  split at h
  .exact h
  .cases h
theorem Awj {data:List Ao} (E:Szv data) (hs:He data):∀k:Nat,
  (∀(i:Az) (t:Af) (b:List Int),2*Cm i<=k->Cm i<=1048576->A9 t<=200->iR i->(D9 data i t).isSome=true->b.length+(ixT data i t).length+8*Cm i<=140737488355328->Rh k data t i b=some (b++ixT data i t)) /\
  (∀(c:List Az) (f:List Af) (b:List Int),2*Db c+1<=k->Db c<=1048576->(∀t∈f,A9 t<=200)->iRs c->(C8 data c f).isSome=true->b.length+(Eo data c f).length+8*Db c+8<=140737488355328->O7 k data f c b=some (b++40::((Eo data c f).drop 2++[41]))):=by
 intro k
 induction k with
 | zero=>exact ⟨fun i t b h=>by have:=Eg i; omega,fun c f b h=>by omega⟩
 | succ k ih=>
  obtain ⟨x,q⟩:=ih
  constructor
  .intro i t b hk hi ht y hd hb
   have I:=Eg i
   have z:=Ia i.Kids
   have g:=(Pk i).1 y
   obtain ⟨d6,d7,d5⟩:=Aei hd
   rw [Ad9] at hb ⊢
   rw [Rh]
   by_cases s:t.Kind=6
   .rw [if_pos s] at hb ⊢
    simp only [List.length_cons,List.length_append] at hb
    have:=Aeg data i.Kids t.Args
    rw [Da s,cond_true,q i.Kids t.Args b (by omega) (by omega) (fun a ha=>by have:=Fx ha; have:=Fm t; omega) g.2 (d6 s) (by simp at hb; omega)]; rfl
   .rw [if_neg s] at hb ⊢
    rw [B2 s,cond_false]
    by_cases u:t.Kind=7
    .rw [if_pos u] at hb ⊢
     rw [Da u,cond_true,Fg,Nj g.1,Ad,Fz (By.ti _) (by omega)]; rfl
    .rw [if_neg u] at hb ⊢
     rw [B2 u,cond_false]
     by_cases l:t.Kind=5
     .rw [if_pos l] at hb ⊢
      have c91:ByteArray.mk #[91]=bs [91]:=rfl
      have c93:ByteArray.mk #[93]=bs [93]:=rfl
      simp only [List.length_cons,List.length_append,List.length_nil,List.length_drop] at hb
      rw [Da l,cond_true,c91,Fz (By.cons (by omega) By.nil) (by simp; omega),Ad]
      refine Amj (data:=data) (8*Db i.Kids) (by omega) (by simp; omega) (Aeh E hs ht (d5 l)) (fun e he f B h1 h2=>?_) ?_
      .obtain ⟨D,g1,g2⟩:=U3 (d5 l) e he
       rw [h1] at g1; cases g1
       have G:=Hf he
       have J:=Eg e
       have A:=(Pk e).1 (Pl g.2 he)
       have:=Aeg data e.Kids f
       exact q e.Kids f B (by omega) (by omega) (Ro h1).1 A.2 g2 (by omega)
      .rw [c93,Fz (By.cons (by omega) By.nil) (by simp only [List.length_append,List.length_cons,List.length_nil,List.length_drop]; omega)]
       simp
     .rw [if_neg l] at hb ⊢
      rw [B2 l,cond_false,c42,Fz (By.cons (by omega) By.nil) (by omega)]; rfl
  .intro c f b hk hi ht y hd hb
   obtain ⟨M,L⟩:=U2 hd
   have z:=Ia c
   have c40:ByteArray.mk #[40]=bs [40]:=rfl
   have c41:ByteArray.mk #[41]=bs [41]:=rfl
   rw [O7,c40,Fz (By.cons (by omega) By.nil) (by simp; omega),Ad]
   refine Amh (data:=data) (8*Db c) M (by omega) (by simp; omega) (fun j i t B h1 h2 h3=>?_) ?_
   .have G:=Hf (Br h1)
    exact x i t B (by omega) (by omega) (ht t (Br h2)) (Pl y (Br h1)) (L j i t h1 h2) (by omega)
   .rw [c41,Fz (By.cons (by omega) By.nil) (by simp only [List.length_append,List.length_cons,List.length_nil,List.length_drop]; omega)]
    simp
end Go.Ab
