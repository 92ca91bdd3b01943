/- Plain laws: what the plain functions answer. -/
import Derived.Test.YtenghgogpgldaaaGreatDoorPsPl2
import Derived.Test.YtenghgogpgldaaaGreatDoorPsPl1
import Derived.KernelRfl
namespace Go.Ab
open Go
theorem At7 {α:Type} [DecidableEq α] (l m:List α) (b:l.length=m.length):(decide (l=m))=l.zipIdx.all (fun q=>decide (m[q.2]? = some q.1)):=by
 rw [Bool.eq_iff_iff,decide_eq_true_eq]
 constructor
 .rintro rfl
  exact X0 fun j x hx=>by simpa using hx
 .intro h
  apply List.ext_getElem?
  intro j
  cases hx:l[j]? with
  | none=>rw [List.getElem?_eq_none_iff] at hx; rw [List.getElem?_eq_none (by omega)]
  | some x=>have:=G7 h hx; rw [decide_eq_true_eq] at this; rw [this]
theorem Add {R:Type} (l m:List Int) (b:l.length<1099511627776) (h:l.length=m.length) {J:Bool⊕Unit->Option R} {rt rf:R} (h1:J (.inl false)=some rf) (h2:J (.inr ())=some rt) :
  (An (S:=Int) (E:=(Bool⊕Unit)) (fun v3=>bif (decide (v3<(l.length:Int))) then ((Af l v3).bind fun v4=>(Af m v3).bind fun v5=>bif (v4 != v5) then some (.inr (.inl false)) else some (.inl (Ac (v3+1)))) else some (.inr (.inr ()))) 0).bind J=some (bif decide (l=m) then rt else rf):=by
 rw [At7 l m h]
 refine Pl l (fun q=>decide (m[q.2]? = some q.1)) (fun j=>(j:Int)) rfl (by omega) (rt:=rt) (rf:=rf) ?_ ?_
 .intro j x hx _ g1 g2 g3
  have hj:j<m.length:=by have:=Di hx; omega
  have hy:m[j]? = some m[j]:=Bx hj
  generalize m[j]=y at hy
  simp only [g1,g2,g3,cond_true,Ad,Cg rfl hy,hy,Option.some.injEq]
  by_cases e:x=y
  .rw [C5 e,Ak e.symm]
   exact ⟨fun _=>rfl,fun h=>by cases h⟩
  .rw [C2 e,Ap (fun h=>e h.symm)]
   exact ⟨(fun h=>by cases h),fun _=>⟨.inl false,rfl,h1⟩⟩
 .intro h _; exact ⟨.inr (),by simp only [h]; rfl,h2⟩
theorem Akc (l m:List Int) (b:l.length<1099511627776):Ky l m=some (decide (l=m)):=by
 unfold Ky
 by_cases h:l.length=m.length
 .rw [C5 (by omega)]
  simp only [cond_false]
  refine (Add l m b h (rt:=true) (rf:=false) ?_ ?_).trans (by rw [Ly]) <;> rfl
 .rw [C2 (by omega),Ap (fun e=>h (by rw [e]))]; rfl
def Lb (a b:A5):Bool:=a.Neg==b.Neg&&decide (a.Num=b.Num)&&decide (a.Den=b.Den)
theorem Yw (a b:A5):Lb a b=true↔a=b:=by
 unfold Lb
 simp only [De,beq_iff_eq,decide_eq_true_eq]
 constructor
 .rintro ⟨⟨h1,h2⟩,h3⟩; cases a; cases b; simp_all
 .rintro rfl; simp
theorem At8 (a b:A5) (h1:a.Num.length<1099511627776) (h2:a.Den.length<1099511627776):To a b=some (Lb a b):=by
 unfold To Lb
 cases g:(a.Neg==b.Neg) with
 | false=>rw [show (a.Neg != b.Neg)=true by simp [bne,g]]; rfl
 | true=>
  rw [show (a.Neg != b.Neg)=false by simp [bne,g]]
  simp only [cond_false]
  by_cases f:a.Num.length=b.Num.length
  .rw [C5 (by omega)]
   by_cases c:a.Den.length=b.Den.length
   .rw [C5 (by omega)]
    simp only [cond_false,Ad,Bool.true_and]
    refine (Add a.Num b.Num h1 f (rt:=decide (a.Den=b.Den)) (rf:=false) rfl ?_).trans (by cases decide (a.Num=b.Num) <;> rfl)
    refine (Add a.Den b.Den h2 c (rt:=true) (rf:=false) ?_ ?_).trans (by rw [Ly]) <;> rfl
   .rw [C2 (by omega),Ap (fun e:a.Den=b.Den=>c (by rw [e]))]
    simp
  .rw [C2 (by omega),Ap (fun e:a.Num=b.Num=>f (by rw [e]))]
   simp
def Pv (c:A5):Bool:=Lb (B3 (sv c) (nv c) (dv c)) c && !(nv c==0)
theorem At9 (c:A5):Pv c=(Lb c (B3 (sv c) (nv c) (dv c)) && !(nv c==0)):=by
 unfold Pv
 congr 1
 rw [Bool.eq_iff_iff,Yw,Yw]; exact eq_comm
structure TSz (t:Aj):Prop where
 co:RB 1048576 t.Coef
 mo:MSz t.Mono
def Np (l:List Aj) (x:Aj) (j:Nat):Bool:=j==0||(match l[j-1]? with | some y=>decide (Cj y.Mono x.Mono<0) | none=>false)
def Nq (data:List Ay) (vars:List Ah) (res:Ah) (l:List Aj) (t:Aj) (j:Nat):Bool:=Pv t.Coef&&Gy data vars res t.Mono&&Np l t j
def Fo (data:List Ay) (vars:List Ah) (res:Ah) (p:List Aj):Bool:=decide (p.length<=1000)&&p.zipIdx.all (fun q=>Nq data vars res p q.1 q.2)
theorem Akd {S E:Type} (F:Bb->Bb->Option Int) (l:List Aj) (g:∀y∈l,∀x,F y.Mono x=some (Cj y.Mono x)) {x:Aj} {j:Nat} (hx:l[j]? = some x) (i:l.length<4611686018427387904) (c b:Option (S⊕E)) :
  (bif decide ((j:Int)>0) then ((Af l (Ac ((j:Int)-1))).bind fun f=>(F f.Mono x.Mono).bind fun v28=>bif decide (v28>=0) then c else b) else b)=bif Np l x j then b else c:=by
 have hj:=Di hx
 unfold Np
 by_cases h:j=0
 .subst h; rfl
 .rw [Ak (by omega)]
  have e:Ac ((j:Int)-1)=((j-1:Nat):Int):=by rw [Ac,Bv] <;> omega
  have hy:l[j-1]? = some l[j-1]:=Bx (by omega)
  rw [e,Cg rfl hy,hy]
  have h0:(j==0)=false:=by simpa using h
  simp only [cond_true,Ad,h0,Bool.false_or,g _ (List.getElem_mem (by omega:j-1<l.length))]
  by_cases hc:Cj l[j-1].Mono x.Mono<0
  .rw [Ap (by omega),Ak hc]; rfl
  .rw [Ak (by omega),Ap hc]; rfl
theorem Ake (s:Bool) (n:Nat):(Hc s n==0)=(n==0):=by
 unfold Hc
 by_cases h:n=0
 .rw [if_pos h]; subst h; rfl
 .rw [if_neg h]
  have:(n==0)=false:=by simpa using h
  rw [this]; cases s <;> rfl
theorem Aua {data:List Ay} {vars:List Ah} {res:Ah} (hc:Nn data vars res) {b1:List (ByteArray×Int)} (b2:List (ByteArray×List Dq)) (V:E7 data vars res b1) (p:List Aj) (U:∀t∈p,TSz t) :
  ∃B,Ta p b1 b2 data vars res.Kind res.Num res.Args=some (Fo data vars res p,B)/\E7 data vars res B:=by
 unfold Ta Fo
 by_cases A:p.length<=1000
 .rw [Ap (by omega),Ak A,Bool.true_and]
  simp only [cond_false]
  obtain ⟨r,X,S⟩:=Uu (M:=List (ByteArray×Int)) (R:=Bool×List (ByteArray×Int)) p (fun q=>Nq data vars res p q.1 q.2) (fun j o=>((j:Int),o)) (E7 data vars res)
   (fun r=>E7 data vars res r.2/\r.1=true) (fun r=>E7 data vars res r.2/\r.1=false) b1
   (s0:=((0:Int),b1))
   (step:=(fun (b,g)=>
    bif (decide (b<(p.length:Int))) then (
    (Af p b).bind fun v12=>
    (Mx v12.Coef).bind fun f=>
    (show Option Bool from
    bif (f.Neg==v12.Coef.Neg) then (
    (Ky f.Num v12.Coef.Num).bind fun i=>
    bif i then (
    (Ky f.Den v12.Coef.Den).bind fun v17=>
    some v17)
    else some false)
    else some false).bind fun E=>
    bif (!E) then some (.inr (.inl (false,g)))
    else (
    (I7 f).bind fun D=>
    bif (D==(0:Int)) then some (.inr (.inl (false,g)))
    else (
    (Qy v12.Mono g b2 data vars res.Kind res.Num res.Args).bind fun v20=>
    bif (!v20.1) then some (.inr (.inl (false,v20.2)))
    else (
    bif (decide (b>(0:Int))) then (
    (Af p (Ac (b-1))).bind fun v21=>
    (Mp v21.Mono v12.Mono).bind fun v22=>
    bif (decide (v22>=(0:Int))) then some (.inr (.inl (false,v20.2)))
    else some (.inl ((Ac (b+1)),v20.2)))
    else some (.inl ((Ac (b+1)),v20.2))))))
    else some (.inr (.inr g)):Int×List (ByteArray×Int)->Option ((Int×List (ByteArray×Int))⊕((Bool×List (ByteArray×Int))⊕List (ByteArray×Int)))))
   (J:=(fun z=>match z with
    | .inl (I,G)=>some (I,G)
    | .inr L=>some (true,L)))
   rfl V (by omega) (by
    intro j t o u hx _ h1 h2 h3
    have c:=U t (Bs hx)
    obtain ⟨B,d1,d2⟩:=At5 b2 hc u t.Mono c.mo
    have s:∀l:List Int,l=(B3 (sv t.Coef) (nv t.Coef) (dv t.Coef)).Num\/l=(B3 (sv t.Coef) (nv t.Coef) (dv t.Coef)).Den->l.length<1099511627776:=by
     intro l A
     have q:=Pm (sv t.Coef) (nv t.Coef) (dv t.Coef) 1048577 c.co.nv c.co.dv (by omega)
     have:=q.nl
     have:=q.dl
     rcases A with rfl | rfl <;> omega
    have k:(bif ((B3 (sv t.Coef) (nv t.Coef) (dv t.Coef)).Neg==t.Coef.Neg) then ((Ky (B3 (sv t.Coef) (nv t.Coef) (dv t.Coef)).Num t.Coef.Num).bind fun i=>bif i then ((Ky (B3 (sv t.Coef) (nv t.Coef) (dv t.Coef)).Den t.Coef.Den).bind fun v17=>some v17) else some false) else some false)=some (Lb (B3 (sv t.Coef) (nv t.Coef) (dv t.Coef)) t.Coef):=by
     unfold Lb
     rw [Akc _ _ (s _ (.inl rfl)),Akc _ _ (s _ (.inr rfl))]
     cases ((B3 (sv t.Coef) (nv t.Coef) (dv t.Coef)).Neg==t.Coef.Neg) <;> cases decide ((B3 (sv t.Coef) (nv t.Coef) (dv t.Coef)).Num=t.Coef.Num) <;> rfl
    simp only [h1,h2,h3,cond_true,Ad,Acd t.Coef 1048576 c.co (by omega),k,Akd Mp p (fun y hy x=>Aj2 y.Mono x (U y hy).mo) hx (by omega),Nq,Pv]
    cases N:Lb (B3 (sv t.Coef) (nv t.Coef) (dv t.Coef)) t.Coef with
    | false=>exact ⟨(fun h=>by cases h),fun _=>⟨_,rfl,_,rfl,u,rfl⟩⟩
    | true=>
     have e:=(Yw _ _).1 N
     simp only [Dm,cond_false,Bool.true_and]
     rw [e,Aim t.Coef 1048576 c.co (by omega),Ad,Ake]
     cases (nv t.Coef==0) with
     | true=>exact ⟨(fun h=>by cases h),fun _=>⟨_,rfl,_,rfl,u,rfl⟩⟩
     | false=>
      simp only [cond_false,d1,Ad,Bool.not_false,Bool.true_and]
      cases Gy data vars res t.Mono with
      | false=>exact ⟨(fun h=>by cases h),fun _=>⟨_,rfl,_,rfl,d2,rfl⟩⟩
      | true=>
       cases Np p t j with
       | true=>exact ⟨fun _=>⟨B,rfl,d2⟩,fun h=>by cases h⟩
       | false=>exact ⟨(fun h=>by cases h),fun _=>⟨_,rfl,_,rfl,d2,rfl⟩⟩) (by
    intro o u h1 _
    exact ⟨.inr o,by simp only [h1]; rfl,_,rfl,u,rfl⟩)
  refine ⟨r.2,?_,?_⟩
  .have e:some r=some (p.zipIdx.all (fun q=>Nq data vars res p q.1 q.2),r.2):=by
    rcases S with ⟨h1,h2,h3⟩ | ⟨h1,h2,h3⟩
    .rw [h1,<-h3]
    .rw [h1,<-h3]
   rw [<-e]
   exact X
  .rcases S with ⟨h1,h2,h3⟩ | ⟨h1,h2,h3⟩ <;> exact h2
 .rw [Ak (by omega),Ap A]
  exact ⟨b1,rfl,V⟩
theorem Aub {x:B5} (hc:Nn x.Data x.Vars x.Res) (p:List Aj) (c:∀t∈p,TSz t):Td x p=some (Fo x.Data x.Vars x.Res p):=by
 unfold Td Fo
 by_cases f:p.length<=1000
 .rw [Ap (by omega),Ak f,Bool.true_and]
  simp only [cond_false]
  refine (Pl p (fun q=>Nq x.Data x.Vars x.Res p q.1 q.2) (fun j=>(j:Int)) rfl (by omega) (rt:=true) (rf:=false) ?_ ?_).trans (by rw [Ly])
  .intro j t hx _ h1 h2 h3
   have b:=c t (Bs hx)
   obtain ⟨v,g,v2⟩:=At6 hc t.Mono b.mo
   simp only [h1,h2,h3,cond_true,Ad,g,v2,Ais t.Coef 1048576 b.co (by omega),Ake,Po t.Coef 1048576 b.co (by omega),At8 t.Coef _ (by have:=b.co.nl; omega) (by have:=b.co.dl; omega),
    Akd J6 p (fun y hy x=>Yv y.Mono x (c y hy).mo) hx (by omega),Nq,At9]
   cases Gy x.Data x.Vars x.Res t.Mono with
   | false=>exact ⟨(fun h=>by simp at h),fun _=>⟨.inl false,rfl,rfl⟩⟩
   | true=>
    cases (nv t.Coef==0) with
    | true=>exact ⟨(fun h=>by simp at h),fun _=>⟨.inl false,rfl,rfl⟩⟩
    | false=>
     cases Lb t.Coef (B3 (sv t.Coef) (nv t.Coef) (dv t.Coef)) with
     | false=>exact ⟨(fun h=>by simp at h),fun _=>⟨.inl false,rfl,rfl⟩⟩
     | true=>
      cases Np p t j with
      | true=>exact ⟨fun _=>rfl,fun h=>by cases h⟩
      | false=>exact ⟨(fun h=>by cases h),fun _=>⟨.inl false,rfl,rfl⟩⟩
  .intro h _; exact ⟨.inr (),by simp only [h]; rfl,rfl⟩
 .rw [Ak (by omega),Ap f]; rfl
structure CSz (x:B5):Prop where
 ds:DSz x.Data
 nv:x.Vars.length<=1048576
 vs:∀t∈x.Vars,Ba t<=1048576
 rs:Ba x.Res<=1048576
def Ig (data:List Ay) (t:Ah):Bool:=Eu data 0 t&&decide (Ba t<=200)
def Fp (x:B5):Prop:=x.Vars.length<=3000/\He x.Data/\Ig x.Data x.Res=true/\x.Vars.all (Ig x.Data)=true
theorem Fp.ctx {x:B5} (h:Fp x) (f:CSz x):Nn x.Data x.Vars x.Res:=by
 refine ⟨h.2.1,f.ds.sz.short,fun v t ht=>?_,h.1⟩
 have b:∀t,Ig x.Data t=true->Ba t<=200:=fun t h=>by
  simp only [Ig,De,decide_eq_true_eq] at h; exact h.2
 unfold tyX at ht
 by_cases c:v = -1
 .rw [if_pos c] at ht; cases ht; exact b _ h.2.2.1
 .rw [if_neg c] at ht
  exact b t (List.all_eq_true.1 h.2.2.2 t (Fe ht).2.2.2)
theorem Auc (x:B5) (c:CSz x):∃b,Tc x=some b/\(b=true↔Fp x):=by
 obtain ⟨b,b1,b2⟩:=As2 c.ds
 have l:=c.nv
 have k:=c.rs
 unfold Tc Fp
 rw [b1,Acm x.Data x.Res 0 (by omega)]
 simp only [Ad]
 cases b with
 | false=>exact ⟨false,rfl,by simp; intro _ h; have:=b2.2 h; cases this⟩
 | true=>
  have i:=b2.1 rfl
  simp only [Dm,cond_false]
  by_cases g:x.Vars.length<=3000
  .rw [Ap (by omega)]
   simp only [cond_false,Ad]
   cases f:(Eu x.Data 0 x.Res&&decide (Ba x.Res<=200)) with
   | false=>exact ⟨false,rfl,by simp [Ig,f]⟩
   | true=>
    refine ⟨x.Vars.all (Ig x.Data),?_,by rw [show Ig x.Data x.Res=true from f]; simp [g,i]⟩
    simp only [Dm,cond_false]
    refine (Nf x.Vars (Ig x.Data) (fun j=>(j:Int)) rfl (by omega) (rt:=true) (rf:=false) ?_ ?_).trans (by rw [Ly])
    .intro j t ht h1 h2 h3
     have:=c.vs t (Bs ht)
     simp only [h1,h2,h3,cond_true,Ad,Acm x.Data t 0 (by omega)]
     rw [show (Eu x.Data 0 t&&decide (Ba t<=200))=Ig x.Data t from rfl]
     cases Ig x.Data t with
     | true=>exact ⟨fun _=>rfl,fun h=>by cases h⟩
     | false=>exact ⟨(fun h=>by cases h),fun _=>⟨.inl false,rfl,rfl⟩⟩
    .intro h; exact ⟨.inr (),by simp only [h]; rfl,rfl⟩
  .rw [Ak (by omega)]
   exact ⟨false,rfl,by simp [g]⟩
theorem Va (x:B5) (c:CSz x) (p:List Aj) (hp:∀t∈p,TSz t):∃b,Ll x p=some b/\(b=true↔Fp x/\Fo x.Data x.Vars x.Res p=true):=by
 obtain ⟨b,b1,b2⟩:=Auc x c
 unfold Ll
 rw [b1,Ad]
 cases b with
 | false=>exact ⟨false,rfl,by simp; intro h; have:=b2.2 h; cases this⟩
 | true=>
  have f:=b2.1 rfl
  rw [Aub (f.ctx c) p hp]
  exact ⟨_,rfl,by simp [f]⟩
end Go.Ab
namespace Go.Ab
open Go
end Go.Ab
namespace Go.Ab
open Go
end Go.Ab
namespace Go.Ab
open Go
end Go.Ab
namespace Go.Ab
open Go
end Go.Ab
namespace Go.Ab
open Go
theorem Aud {data:List Ay} {vars:List Ah} {res:Ah} {m:Bb} (h:Gy data vars res m=true):(∀f∈m.Factors,∃t,tyX vars res f.Var=some t)/\m.Factors.length<=6:=by
 unfold Gy at h
 simp only [De,decide_eq_true_eq] at h
 obtain ⟨⟨h1,h2⟩,h3⟩:=h
 have b:∀f∈m.Factors,1<=Ei data vars res f:=by
  intro f b
  obtain ⟨j,hj⟩:=List.getElem?_of_mem b
  have:=G7 h1 hj
  simp only [L8,De,decide_eq_true_eq] at this
  exact this.1
 have ha:0<=Eb m.Atoms:=(U9 m.Atoms (fun a ha=>by
  obtain ⟨j,hj⟩:=List.getElem?_of_mem ha
  have:=G7 h2 hj
  simp only [Jp,De,decide_eq_true_eq] at this
  omega)).1
 refine ⟨fun f c=>?_,?_⟩
 .have:=b f c
  unfold Ei at this
  cases ht:tyX vars res f.Var with
  | none=>rw [ht] at this; have:(1:Int)<=-1:=this; omega
  | some t=>exact ⟨t,rfl⟩
 .have key:∀l:List Cm,(∀f∈l,1<=Ei data vars res f)->(l.length:Int)<=Dk data vars res l:=by
   intro l
   induction l with
   | nil=>intro _; simp [Dk]
   | cons f fs ih=>
    intro i
    have h1:=i f (by simp)
    have h2:=ih (fun g k=>i g (by simp [k]))
    unfold Dk at *
    simp only [List.map_cons,List.sum_cons,List.length_cons]; omega
  have:=key m.Factors b
  omega
theorem Aue (a b:A5) (j k:Nat) (ha:RB j a) (hb:RB k b) (hj:j<34359738000) (hk:k<34359738000):∃c,Kv a b=some c/\Oi a b=some c/\RB (j+k+2) c:=by
 refine ⟨_,Ain a b j k ha hb (by omega) (by omega),Arw a b j k ha hb (by omega) (by omega),?_⟩
 have h1:=ha.nv
 have h2:=ha.dv
 have h3:=hb.nv
 have h:=hb.dv
 have g:=Hb (nv a) (nv b)
 have f:=Hb (dv a) (dv b)
 exact Pm _ _ _ _ (by omega) (by omega) (by omega)
theorem Auf (a b:A5) (j k:Nat) (ha:RB j a) (hb:RB k b) (hj:j<34359738000) (hk:k<34359738000):∃c,Of a b=some c/\Og a b=some c/\RB (j+k+3) c:=by
 refine ⟨_,Aio a b j k ha hb (by omega) (by omega),Ary a b j k ha hb (by omega) (by omega),?_⟩
 have h1:=ha.nv
 have h2:=ha.dv
 have h3:=hb.nv
 have s:=hb.dv
 have q:=Hb (nv a) (dv b)
 have l:=Hb (nv b) (dv a)
 have i:=Hb (dv a) (dv b)
 have f:Jh (sv a) (nv a) (dv a) (sv b) (nv b) (dv b)<=nv a*dv b+nv b*dv a:=by
  unfold Jh
  split
  .omega
  .split <;> omega
 have h:=G6 f
 have g:=Ab5 (nv a*dv b) (nv b*dv a)
 exact Pm _ _ _ _ (by omega) (by omega) (by omega)
end Go.Ab
namespace Go.Ab
open Go
end Go.Ab
namespace Go.Ab
open Go
end Go.Ab
namespace Go.Ab
open Go
end Go.Ab
namespace Go.Ab
open Go
def sg (s:Bool) (n:Nat):Int:=if s then -(n:Int) else n
def rq (a:A5):Rat:=mkRat (sg (sv a) (nv a)) (dv a)
def Iy (a:A5):Prop:=a=B3 (sv a) (nv a) (dv a)
theorem Lc (s:Bool) (n d:Nat) (hd:d≠0):rq (B3 s n d)=mkRat (sg s n) d:=by
 obtain ⟨g,f,h1,h2,h3,i⟩:=Aiu s n d hd
 unfold rq
 rw [Rat.mkRat_eq_iff (Ea _) hd]
 generalize nv (B3 s n d)=b at *
 generalize dv (B3 s n d)=j at *
 generalize sv (B3 s n d)=s' at *
 by_cases c:n=0
 .have:b=0:=by
   rcases Nat.eq_zero_or_pos b with h | h
   .exact h
   .have:=Nat.mul_pos (Nat.pos_of_ne_zero f) h; omega
  subst this; subst c
  cases s <;> cases s' <;> simp [sg]
 .rw [h3 c,h1,h2]
  cases s <;> simp only [sg,if_true,if_false,Bool.false_eq_true,Int.natCast_mul] <;> grind
theorem Vb (s:Bool) (n d:Nat) (hd:d≠0):Iy (B3 s n d):=by
 obtain ⟨g,b,h1,h2,h3,i⟩:=Aiu s n d hd
 unfold Iy
 generalize hc:B3 s n d=c at h1 h2 h3 i
 have e:=Ux s (nv c) (dv c) g b
 rw [<-h1,<-h2,hc] at e
 by_cases f:n=0
 .have h0:nv c=0:=by
   rcases Nat.eq_zero_or_pos (nv c) with h | h
   .exact h
   .have:=Nat.mul_pos (Nat.pos_of_ne_zero b) h; omega
  rw [h0,Ace] at e ⊢
  exact e
 .rw [h3 f]; exact e
theorem Akf (n m:Int) {d e:Nat} (hd:d≠0) (g:e≠0):mkRat n d<mkRat m e↔n*e<m*d:=by
 have c:(0:Rat)<(d:Rat):=Rat.natCast_pos.2 (by omega)
 have b:(0:Rat)<(e:Rat):=Rat.natCast_pos.2 (by omega)
 rw [Rat.mkRat_eq_div,Rat.mkRat_eq_div,Rat.div_lt_iff c]
 rw [<-Rat.mul_lt_mul_right b]
 have f:(m:Rat) / (e:Rat)*(d:Rat)*(e:Rat)=(m:Rat)*(d:Rat):=by grind
 rw [f]
 have a1:(n:Rat)*(e:Rat)=((n*(e:Int):Int):Rat):=by rw [Rat.intCast_mul]; rfl
 have a2:(m:Rat)*(d:Rat)=((m*(d:Int):Int):Rat):=by rw [Rat.intCast_mul]; rfl
 rw [a1,a2,Rat.intCast_lt_intCast]
theorem Aug {a b:A5} (ha:Iy a) (hb:Iy b) (h:rq a=rq b):a=b:=by
 unfold rq at h
 rw [Rat.mkRat_eq_iff (Ea _) (Ea _)] at h
 rw [ha,hb]
 have q:=Ea a
 have l:=Ea b
 generalize nv a=n at *
 generalize dv a=d at *
 generalize sv a=s at *
 generalize nv b=m at *
 generalize dv b=e at *
 generalize sv b=t at *
 have f:n*e=m*d/\(n≠0->s=t):=by
  have c:n≠0->0<n*e:=fun h=>Nat.mul_pos (by omega) (by omega)
  have g:m≠0->0<m*d:=fun h=>Nat.mul_pos (by omega) (by omega)
  have x:((n*e:Nat):Int)=(n:Int)*e:=by simp
  have u:((m*d:Nat):Int)=(m:Int)*d:=by simp
  cases s <;> cases t <;> simp only [sg,if_true,if_false,Bool.false_eq_true,Int.neg_mul] at h
  .exact ⟨by omega,fun _=>rfl⟩
  .have:n*e=0/\m*d=0:=by omega
   refine ⟨by omega,fun i=>?_⟩
   have:=c i; omega
  .have:n*e=0/\m*d=0:=by omega
   refine ⟨by omega,fun i=>?_⟩
   have:=c i; omega
  .exact ⟨by omega,fun _=>rfl⟩
 have k:=Ux s n d e l
 have j:=Ux t m e d q
 rw [<-k,<-j,Nat.mul_comm e n,f.1,Nat.mul_comm e d,Nat.mul_comm m d]
 refine Arg fun h0=>f.2 ?_
 rintro rfl
 rw [Nat.zero_mul] at f
 have:=f.1
 rw [Nat.mul_comm d m] at h0
 omega
theorem Auh (j:Bool) (c g:Nat) (i:Bool) (b f:Nat):sg (K6 j c g i b f) (Jh j c g i b f)=sg j c*f+sg i b*g:=by
 unfold K6 Jh sg
 have l:((c*f:Nat):Int)=(c:Int)*f:=by simp
 have k:((b*g:Nat):Int)=(b:Int)*g:=by simp
 cases j <;> cases i <;> simp only [if_true,if_false,Bool.false_eq_true,Bool.true_eq_false,Int.neg_mul]
 .omega
 .by_cases h:b*g<=c*f
  .simp only [if_pos h]; simp only [if_false,Bool.false_eq_true]; omega
  .simp only [if_neg h]; simp only [if_true]; omega
 .by_cases h:b*g<=c*f
  .simp only [if_pos h]; simp only [if_true]; omega
  .simp only [if_neg h]; simp only [if_false,Bool.false_eq_true]; omega
 .omega
theorem Akg {a b:A5} {j k:Nat} (ha:RB j a) (hb:RB k b) (hj:j<34359738000) (hk:k<34359738000):∃c,Of a b=some c/\Og a b=some c/\RB (j+k+3) c/\Iy c/\rq c=rq a+rq b:=by
 obtain ⟨c,h1,h2,h3⟩:=Auf a b j k ha hb hj hk
 have e:=Aio a b j k ha hb (by omega) (by omega)
 rw [h1] at e
 have e:=Option.some.inj e
 have hd:dv a*dv b≠0:=Nat.mul_ne_zero (Ea a) (Ea b)
 refine ⟨c,h1,h2,h3,?_,?_⟩
 .rw [e]; exact Vb _ _ _ hd
 .rw [e,Lc _ _ _ hd,Auh,rq,rq,Rat.mkRat_add_mkRat _ _ (Ea a) (Ea b)]
theorem Aui (s t:Bool) (n m:Nat):sg (s != t) (n*m)=sg s n*sg t m:=by
 unfold sg
 cases s <;> cases t <;> simp [Int.neg_mul,Int.mul_neg]
theorem Akh {a b:A5} {j k:Nat} (ha:RB j a) (hb:RB k b) (hj:j<34359738000) (hk:k<34359738000):∃c,Kv a b=some c/\Oi a b=some c/\RB (j+k+2) c/\Iy c/\rq c=rq a*rq b:=by
 obtain ⟨c,h1,h2,h3⟩:=Aue a b j k ha hb hj hk
 have e:=Ain a b j k ha hb (by omega) (by omega)
 rw [h1] at e
 have e:=Option.some.inj e
 have hd:dv a*dv b≠0:=Nat.mul_ne_zero (Ea a) (Ea b)
 refine ⟨c,h1,h2,h3,?_,?_⟩
 .rw [e]; exact Vb _ _ _ hd
 .rw [e,Lc _ _ _ hd,Aui,rq,rq,Rat.mkRat_mul_mkRat]
def Nr (x:Rat):Int:=if x<0 then -1 else if 0<x then 1 else 0
theorem Auj (a:A5):rq a<0↔Hc (sv a) (nv a) = -1:=by
 have e:(0:Rat)=mkRat 0 1:=by simp
 rw [rq,e,Akf _ _ (Ea a) (by decide)]
 unfold sg Hc
 split <;> split <;> simp <;> omega
theorem Auk (a:A5):0<rq a↔Hc (sv a) (nv a)=1:=by
 have e:(0:Rat)=mkRat 0 1:=by simp
 rw [rq,e,Akf _ _ (by decide) (Ea a)]
 unfold sg Hc
 split <;> split <;> simp <;> omega
theorem Aul (a:A5):Hc (sv a) (nv a)=Nr (rq a):=by
 have h1:=Auj a
 have h2:=Auk a
 have h3:Hc (sv a) (nv a) = -1\/Hc (sv a) (nv a)=0\/Hc (sv a) (nv a)=1:=by unfold Hc; split <;> (try split) <;> simp
 unfold Nr
 split
 .rename_i h; exact h1.1 h
 .rename_i h
  split
  .rename_i h'; exact h2.1 h'
  .rename_i h'
   rcases h3 with h3 | h3 | h3
   .exact (h (h1.2 h3)).elim
   .exact h3
   .exact (h' (h2.2 h3)).elim
theorem Ade {a:A5} {k:Nat} (h:RB k a) (hk:k<34359738000):I7 a=some (Nr (rq a))/\Mn a=some (Nr (rq a)):=by
 rw [<-Aul]
 exact ⟨Aim a k h (by omega),Ais a k h (by omega)⟩
theorem Aum {a:A5} {k:Nat} (h:RB k a) (hk:k<34359738000):∃c,Mx a=some c/\I8 a=some c/\Iy c/\rq c=rq a/\RB (k+1) c :=
 ⟨_,Acd a k h (by omega),Po a k h (by omega),Vb _ _ _ (Ea a),Lc _ _ _ (Ea a),Ack h⟩
end Go.Ab
namespace Go.Ab
open Go
structure Dy {α:Type} (S:α->Prop) (g:α->α->Int):Prop where
 zero:∀a b,S a->S b->(g a b=0↔a=b)
 anti:∀a b,S a->S b->g b a = - g a b
 trans:∀a b c,S a->S b->S c->g a b<0->g b c<0->g a c<0
theorem Dy.cmpI:Dy (fun _:Int=>True) Dj:=by
 refine ⟨fun a b _ _=>Ev,fun a b _ _=>?_,fun a b c _ _ _=>?_⟩
 .unfold Go.Ab.Dj; split <;> split <;> (try split) <;> (try split) <;> omega
 .unfold Go.Ab.Dj; intro h1 h2; split at h1 <;> (try split at h1) <;> split at h2 <;> (try split at h2) <;> first | omega | (rw [if_pos (by omega)]; decide)
theorem Aki {x y:Int}:C8 x y<0↔x<0\/(x=0/\y<0):=by unfold C8; split <;> omega
theorem Akj {x y:Int}:C8 x y=0↔x=0/\y=0:=by unfold C8; split <;> omega
theorem Dy.or {α β γ:Type} {S:α->Prop} {s:β->Prop} {l:γ->Prop} {j:β->β->Int} {i:γ->γ->Int} (p:α->β) (q:α->γ) (g:∀a b,p a=p b->q a=q b->a=b) (h1:Dy s j) (h2:Dy l i) (f:∀a,S a->s (p a)/\l (q a)) :
  Dy S (fun a b=>C8 (j (p a) (p b)) (i (q a) (q b))):=by
 refine ⟨fun a b ha hb=>?_,fun a b ha hb=>?_,fun a b c ha hb hc=>?_⟩
 .rw [Akj,h1.zero _ _ (f a ha).1 (f b hb).1,h2.zero _ _ (f a ha).2 (f b hb).2]
  exact ⟨fun h=>g a b h.1 h.2,fun h=>by subst h; exact ⟨rfl,rfl⟩⟩
 .show C8 (j (p b) (p a)) (i (q b) (q a)) = - C8 (j (p a) (p b)) (i (q a) (q b))
  have z:=h1.anti _ _ (f a ha).1 (f b hb).1
  have y:=h2.anti _ _ (f a ha).2 (f b hb).2
  rw [z,y]; unfold C8; split <;> split <;> omega
 .show C8 _ _<0->C8 _ _<0->C8 _ _<0
  simp only [Aki]
  have u:=h1.zero _ _ (f a ha).1 (f b hb).1
  have z2:=h1.zero _ _ (f b hb).1 (f c hc).1
  have t1:=h1.trans _ _ _ (f a ha).1 (f b hb).1 (f c hc).1
  have t2:=h2.trans _ _ _ (f a ha).2 (f b hb).2 (f c hc).2
  rintro (h | ⟨h,h'⟩) (k | ⟨k,x⟩)
  .exact .inl (t1 h k)
  .rw [<-z2.1 k]; exact .inl h
  .rw [u.1 h]; exact .inl k
  .rw [<-z2.1 k,h]; exact .inr ⟨rfl,t2 h' x⟩
theorem Dy.mono {α:Type} {S i:α->Prop} {g:α->α->Int} (h:Dy S g) (f:∀a,i a->S a):Dy i g :=
 ⟨fun a b ha hb=>h.zero a b (f a ha) (f b hb),fun a b ha hb=>h.anti a b (f a ha) (f b hb),fun a b c ha hb hc=>h.trans a b c (f a ha) (f b hb) (f c hc)⟩
theorem Dy.congr {α:Type} {S:α->Prop} {g c:α->α->Int} (h:Dy S g) (e:∀a b,c a b=g a b):Dy S c:=by
 have:c=g:=funext fun a=>funext fun b=>e a b
 rw [this]; exact h
def LL {α:Type} (g:α->α->Int) (l m:List α):Int:=if l.length=m.length then Dx g l m else Go.Ab.Dj l.length m.length
theorem Akk {α:Type} {S:α->Prop} {g:α->α->Int} (h:Dy S g):∀l m:List α,l.length=m.length->(∀x∈l,S x)->(∀x∈m,S x)->(Dx g l m=0↔l=m)
 | [],[],_,_,_=>by simp [Dx]
 | x::xs,y::ys,b,h1,h2=>by
  simp only [Dx,Akj,h.zero x y (h1 x (by simp)) (h2 y (by simp)),Akk h xs ys (by simpa using b) (fun z c=>h1 z (by simp [c])) (fun z c=>h2 z (by simp [c])),List.cons.injEq]
 | [],_::_,b,_,_=>by simp at b
 | _::_,[],b,_,_=>by simp at b
theorem Akl {α:Type} {S:α->Prop} {g:α->α->Int} (h:Dy S g):∀l m:List α,l.length=m.length->(∀x∈l,S x)->(∀x∈m,S x)->Dx g m l = - Dx g l m
 | [],[],_,_,_=>by simp [Dx]
 | x::xs,y::ys,b,h1,h2=>by
  simp only [Dx,h.anti x y (h1 x (by simp)) (h2 y (by simp)),Akl h xs ys (by simpa using b) (fun z c=>h1 z (by simp [c])) (fun z c=>h2 z (by simp [c]))]
  unfold C8; split <;> split <;> omega
 | [],_::_,b,_,_=>by simp at b
 | _::_,[],b,_,_=>by simp at b
theorem Akm {α:Type} {S:α->Prop} {g:α->α->Int} (h:Dy S g):∀l m n:List α,l.length=m.length->m.length=n.length->(∀x∈l,S x)->(∀x∈m,S x)->(∀x∈n,S x)->Dx g l m<0->Dx g m n<0->Dx g l n<0
 | [],[],_,_,_,_,_,_=>by intro h; simp [Dx] at h
 | x::xs,y::ys,z::j,f,i,h1,h2,h3=>by
  simp only [Dx,Aki]
  have k:=h.zero x y (h1 x (by simp)) (h2 y (by simp))
  have z2:=h.zero y z (h2 y (by simp)) (h3 z (by simp))
  have t1:=h.trans x y z (h1 x (by simp)) (h2 y (by simp)) (h3 z (by simp))
  have t2:=Akm h xs ys j (by simpa using f) (by simpa using i) (fun z c=>h1 z (by simp [c])) (fun z c=>h2 z (by simp [c])) (fun z c=>h3 z (by simp [c]))
  rintro (a | ⟨a,s⟩) (b | ⟨b,q⟩)
  .exact .inl (t1 a b)
  .rw [<-z2.1 b]; exact .inl a
  .rw [k.1 a]; exact .inl b
  .rw [<-z2.1 b,a]; exact .inr ⟨rfl,t2 s q⟩
 | _::_,_::_,[],_,i,_,_,_=>by simp at i
 | [],_::_,_,f,_,_,_,_=>by simp at f
 | _::_,[],_,f,_,_,_,_=>by simp at f
theorem Dy.ll {α:Type} {S:α->Prop} {g:α->α->Int} (h:Dy S g):Dy (fun l=>∀x∈l,S x) (LL g):=by
 have c:=Dy.cmpI
 refine ⟨fun a b ha hb=>?_,fun a b ha hb=>?_,fun x y z hx hy q=>?_⟩
 .unfold LL
  split
  .rename_i i; exact Akk h a b i ha hb
  .rename_i i
   rw [Ev]
   exact ⟨fun e=>(i (by omega)).elim,fun e=>(i (by rw [e])).elim⟩
 .unfold LL
  by_cases i:a.length=b.length
  .rw [if_pos i,if_pos i.symm]; exact Akl h a b i ha hb
  .rw [if_neg i,if_neg (fun e=>i e.symm)]; exact c.anti _ _ trivial trivial
 .unfold LL
  intro h1 h2
  have neg:∀a b:Int,Go.Ab.Dj a b<0->a<b:=by intro a b h; unfold Go.Ab.Dj at h; split at h <;> (try split at h) <;> omega
  have f:∀a b:Int,a<b->Go.Ab.Dj a b<0:=by intro a b h; unfold Go.Ab.Dj; rw [if_pos h]; decide
  by_cases k:x.length=y.length
  .rw [if_pos k] at h1
   by_cases j:y.length=z.length
   .rw [if_pos j] at h2; rw [if_pos (by omega)]; exact Akm h x y z k j hx hy q h1 h2
   .rw [if_neg j] at h2; rw [if_neg (by omega)]
    have:=neg _ _ h2; exact f _ _ (by omega)
  .rw [if_neg k] at h1
   have:=neg _ _ h1
   by_cases j:y.length=z.length
   .rw [if_neg (by omega)]; exact f _ _ (by omega)
   .rw [if_neg j] at h2
    have:=neg _ _ h2
    rw [if_neg (by omega)]; exact f _ _ (by omega)
theorem Akn {α:Type} (g:α->α->Int) (l m:List α) (y:Int):C8 (LL g l m) y=if l.length=m.length then C8 (Dx g l m) y else Go.Ab.Dj l.length m.length:=by
 unfold LL
 by_cases h:l.length=m.length
 .rw [if_pos h,if_pos h]
 .rw [if_neg h,if_neg h]
  unfold C8
  rw [if_neg (fun e=>h (by have:=Ev.1 e; omega))]
theorem Aun:Dy (fun _=>True) Jl :=
 (Dy.or (S:=fun _=>True) (fun t:Dd=>t.Var) (fun t=>t.Coef) (fun a b h1 h2=>by cases a; cases b; cases h1; cases h2; rfl) Dy.cmpI Dy.cmpI (fun _ _=>⟨trivial,trivial⟩)).congr fun _ _=>rfl
theorem Auo:Dy (fun _=>True) Jm :=
 (Dy.or (S:=fun _=>True) (fun t:Cu=>t.Terms) (fun t=>t.Const) (fun a b h1 h2=>by cases a; cases b; cases h1; cases h2; rfl) Aun.ll Dy.cmpI (fun _ _=>⟨fun _ _=>trivial,trivial⟩)).congr fun a b=>by
  show Jm a b=C8 (LL Jl a.Terms b.Terms) (Go.Ab.Dj a.Const b.Const)
  rw [Akn]; rfl
theorem Aup (i j:A8):G9 i j=C8 (Go.Ab.Dj i.Num j.Num) (LL G9 i.Kids j.Kids):=by
 rw [Ac9,Yu]
 unfold C8 LL
 by_cases h:i.Num=j.Num
 .rw [if_pos h,if_pos (Ev.2 h)]
 .rw [if_neg h,if_neg (fun e=>h (Ev.1 e))]
theorem Adf:∀n:Nat,Dy (fun i=>Ct i<=n) G9:=by
 intro n
 induction n with
 | zero=>exact ⟨fun a _ ha=>by have:=E3 a; omega,fun a _ ha=>by have:=E3 a; omega,fun a _ _ ha=>by have:=E3 a; omega⟩
 | succ n ih=>
  refine (Dy.or (S:=fun i=>Ct i<=n+1) (fun i:A8=>i.Num) (fun i=>i.Kids) (fun a b h1 h2=>by cases a; cases b; cases h1; cases h2; rfl) Dy.cmpI ih.ll ?_).congr Aup
  intro i hi
  refine ⟨trivial,fun x hx=>?_⟩
  have h1:=Jk hx
  have h2:=E3 i
  show Ct x<=n
  omega
theorem Auq:Dy (fun _=>True) G9 :=
 ⟨fun a b _ _=>(Adf (max (Ct a) (Ct b))).zero a b (by show Ct a<=_; omega) (by show Ct b<=_; omega),fun a b _ _=>(Adf (max (Ct a) (Ct b))).anti a b (by show Ct a<=_; omega) (by show Ct b<=_; omega),
  fun a b c _ _ _=>(Adf (max (Ct a) (max (Ct b) (Ct c)))).trans a b c (by show Ct a<=_; omega) (by show Ct b<=_; omega) (by show Ct c<=_; omega)⟩
theorem Aur:Dy (fun _=>True) Jn :=
 (Dy.or (S:=fun _=>True) (fun t:Cm=>t.Var) (fun t=>t.Index) (fun a b h1 h2=>by cases a; cases b; cases h1; cases h2; rfl) Dy.cmpI Auq (fun _ _=>⟨trivial,trivial⟩)).congr fun _ _=>rfl
theorem Aus:Dy (fun _=>True) Kh :=
 (Dy.or (S:=fun _=>True) (fun t:Ca=>t.Lin) (fun t=>t.Deg) (fun a b h1 h2=>by cases a; cases b; cases h1; cases h2; rfl) Auo Dy.cmpI (fun _ _=>⟨trivial,trivial⟩)).congr fun _ _=>rfl
theorem Adg:Dy (fun _=>True) Cj :=
 (Dy.or (S:=fun _=>True) (fun t:Bb=>t.Factors) (fun t=>t.Atoms) (fun a b h1 h2=>by cases a; cases b; cases h1; cases h2; rfl) Aur.ll Aus.ll (fun _ _=>⟨fun _ _=>trivial,fun _ _=>trivial⟩)).congr fun a b=>by
  show Cj a b=C8 (LL Jn a.Factors b.Factors) (LL Kh a.Atoms b.Atoms)
  rw [Akn]; rfl
theorem Jq {a b:Bb}:Cj a b=0↔a=b:=Adg.zero a b trivial trivial
theorem Pw (a b:Bb):Cj b a = - Cj a b:=Adg.anti a b trivial trivial
theorem Ns {a b c:Bb} (h:Cj a b<0) (h':Cj b c<0):Cj a c<0:=Adg.trans a b c trivial trivial trivial h h'
end Go.Ab
namespace Go.Ab
open Go
theorem Ako (m:Bb):Cj m m=0:=Jq.2 rfl
theorem Adh {a b:Bb}:0<Cj a b↔Cj b a<0:=by rw [Pw a b]; omega
def cf:List Aj->Bb->Rat
 | [],_=>0
 | t::p,m=>(if Cj t.Mono m=0 then rq t.Coef else 0)+cf p m
def ltT (t u:Aj):Prop:=Cj t.Mono u.Mono<0
structure CP (p:List Aj):Prop where
 srt:p.Pairwise ltT
 coe:∀t∈p,Iy t.Coef/\rq t.Coef≠0
theorem CP.tail {t:Aj} {p:List Aj} (h:CP (t::p)):CP p:=⟨(List.pairwise_cons.1 h.srt).2,fun u hu=>h.coe u (by simp [hu])⟩
theorem CP.head {t:Aj} {p:List Aj} (h:CP (t::p)):∀u∈p,Cj t.Mono u.Mono<0:=(List.pairwise_cons.1 h.srt).1
theorem CP.nil:CP []:=⟨List.Pairwise.nil,fun _ h=>by cases h⟩
theorem CP.cons {t:Aj} {p:List Aj} (h:CP p) (h1:∀u∈p,Cj t.Mono u.Mono<0) (h2:Iy t.Coef) (h3:rq t.Coef≠0):CP (t::p) :=
 ⟨List.pairwise_cons.2 ⟨h1,h.srt⟩,fun u hu=>by
  rcases List.mem_cons.1 hu with rfl | hu
  .exact ⟨h2,h3⟩
  .exact h.coe u hu⟩
theorem Aut {p:List Aj} {m:Bb} (h:∀t∈p,Cj t.Mono m≠0):cf p m=0:=by
 induction p with
 | nil=>rfl
 | cons t p ih=>
  simp only [cf]
  rw [if_neg (h t (by simp)),ih (fun u hu=>h u (by simp [hu]))]; grind
theorem Px {p:List Aj} {m:Bb} (h:∀t∈p,Cj m t.Mono<0):cf p m=0 :=
 Aut fun t ht e=>by have:=h t ht; rw [Pw,e] at this; omega
theorem Sa {t:Aj} {p:List Aj} (h:CP (t::p)):cf (t::p) t.Mono=rq t.Coef:=by
 simp only [cf]
 rw [if_pos (Ako _),Px h.head]; grind
theorem Akp {t:Aj} {p:List Aj} {m:Bb} (h:Cj t.Mono m≠0):cf (t::p) m=cf p m:=by
 simp only [cf]; rw [if_neg h]; grind
theorem Kj (p q:List Aj) (m:Bb):cf (p++q) m=cf p m+cf q m:=by
 induction p with
 | nil=>simp only [List.nil_append,cf]; grind
 | cons t p ih=>simp only [List.cons_append,cf,ih]; grind
theorem CP.ext:∀{p q:List Aj},CP p->CP q->(∀m,cf p m=cf q m)->p=q
 | [],[],_,_,_=>rfl
 | [],u::q,_,h2,h=>by
  have:=h u.Mono
  rw [Sa h2] at this
  exact ((h2.coe u (by simp)).2 this.symm).elim
 | t::p,[],h1,_,h=>by
  have:=h t.Mono
  rw [Sa h1] at this
  exact ((h1.coe t (by simp)).2 this).elim
 | t::p,u::q,h1,h2,h=>by
  have b:Cj t.Mono u.Mono=0:=by
   rcases Int.lt_trichotomy (Cj t.Mono u.Mono) 0 with k | k | k
   .have e:=h t.Mono
    rw [Sa h1,Px (p:=u::q)] at e
    .exact ((h1.coe t (by simp)).2 e).elim
    .intro w hw
     rcases List.mem_cons.1 hw with rfl | hw
     .exact k
     .exact Ns k (h2.head w hw)
   .exact k
   .have k:=Adh.1 k
    have e:=h u.Mono
    rw [Sa h2,Px (p:=t::p)] at e
    .exact ((h2.coe u (by simp)).2 e.symm).elim
    .intro w hw
     rcases List.mem_cons.1 hw with rfl | hw
     .exact k
     .exact Ns k (h1.head w hw)
  have c:=Jq.1 b
  have hc:t.Coef=u.Coef:=by
   refine Aug (h1.coe t (by simp)).1 (h2.coe u (by simp)).1 ?_
   have e:=h t.Mono
   rw [Sa h1,c,Sa h2] at e
   exact e
  have ht:t=u:=by cases t; cases u; simp_all
  subst ht
  congr 1
  refine CP.ext h1.tail h2.tail fun m=>?_
  by_cases e:Cj t.Mono m=0
  .rw [<-Jq.1 e,Px h1.head,Px h2.head]
  .have:=h m
   rwa [Akp e,Akp e] at this
theorem Akq (c:A5):Pv c=true↔Iy c/\rq c≠0:=by
 unfold Pv Iy
 rw [De,Yw]
 have h:(!(nv c==0))=true↔rq c≠0:=by
  have e:rq c=0↔nv c=0:=by
   unfold rq
   rw [Rat.mkRat_eq_zero (Ea c)]
   unfold sg; split <;> omega
  rw [Ne,e]; simp
 rw [h]
 exact ⟨fun ⟨a,b⟩=>⟨a.symm,b⟩,fun ⟨a,b⟩=>⟨a.symm,b⟩⟩
theorem Auu {l:List Aj} (h:∀(j:Nat) (x y:Aj),l[j]? = some x->l[j+1]? = some y->Cj x.Mono y.Mono<0):l.Pairwise ltT:=by
 induction l with
 | nil=>exact List.Pairwise.nil
 | cons t l ih=>
  have ih:=ih fun j x y hx hy=>h (j+1) x y (by simpa using hx) (by simpa using hy)
  refine List.pairwise_cons.2 ⟨?_,ih⟩
  cases l with
  | nil=>intro u hu; cases hu
  | cons v l=>
   have h0:=h 0 t v rfl rfl
   intro u hu
   rcases List.mem_cons.1 hu with rfl | hu
   .exact h0
   .exact Ns h0 ((List.pairwise_cons.1 ih).1 u hu)
theorem Yx {data:List Ay} {vars:List Ah} {res:Ah} {p:List Aj}:Fo data vars res p=true↔p.length<=1000/\CP p/\∀t∈p,Gy data vars res t.Mono=true:=by
 unfold Fo
 rw [De,decide_eq_true_eq]
 constructor
 .rintro ⟨h1,h2⟩
  have g:∀(j:Nat) (t:Aj),p[j]? = some t->Pv t.Coef=true/\Gy data vars res t.Mono=true/\Np p t j=true:=by
   intro j t hj
   have:=G7 h2 hj
   simp only [Nq,De] at this
   exact ⟨this.1.1,this.1.2,this.2⟩
  refine ⟨h1,⟨Auu fun j x y hx hy=>?_,fun t ht=>?_⟩,fun t ht=>?_⟩
  .have:=(g _ _ hy).2.2
   unfold Np at this
   rw [show j+1-1=j by omega,hx] at this
   simpa using this
  .obtain ⟨j,hj⟩:=List.getElem?_of_mem ht
   exact (Akq _).1 (g j t hj).1
  .obtain ⟨j,hj⟩:=List.getElem?_of_mem ht
   exact (g j t hj).2.1
 .rintro ⟨h1,h2,h3⟩
  refine ⟨h1,List.all_eq_true.2 fun q hq=>?_⟩
  have hq:=List.mem_zipIdx' hq
  have hj:p[q.2]? = some q.1:=(Bx hq.1).trans (congrArg some hq.2.symm)
  have c:q.1∈p:=Bs hj
  simp only [Nq,De]
  refine ⟨⟨(Akq _).2 (h2.coe _ c),h3 _ c⟩,?_⟩
  unfold Np
  by_cases h0:q.2=0
  .rw [h0]; rfl
  .have b:q.2-1<p.length:=by omega
   rw [Bx b]
   have:=List.pairwise_iff_getElem.1 h2.srt (q.2-1) q.2 b hq.1 (by omega)
   rw [<-hq.2] at this
   simp only [Bool.or_eq_true,decide_eq_true_eq]
   exact .inr this
end Go.Ab
namespace Go.Ab
open Go
theorem Auv:∀(k:Nat) (t:A8),Ct t<=k->k<1099511627776->O4 k t=some t:=by
 intro k
 induction k with
 | zero=>intro t h; have:=E3 t; omega
 | succ k ih=>
  intro t h hk
  have c:=E3 t
  have b:=Kf t.Kids
  rw [O4]
  refine E6 t.Kids (fun j=>((j:Int),(t.Kids.take j))) rfl (by omega) ?_ ?_
  .intro j x hj hx h1 h2 h3
   have:=Jk (Bs hx)
   simp only [h1,h2,h3,cond_true,Ad,ih x (by omega) (by omega)]
   rw [C1 (by simp; omega),Ad,Cz hx]
  .intro h1
   exact ⟨t.Kids,by simp,by cases t; rfl⟩
theorem Auw (m:Bb) (b:MSz m):Tu m=some m:=by
 have g:=b.nf
 have f:=b.na
 unfold Tu
 refine E6 m.Factors (fun j=>((j:Int),(m.Factors.take j))) rfl (by omega) ?_ ?_
 .intro j x hj hx h1 h2 h3
  have c:=Bs hx
  have:=b.fi x c
  simp only [h1,h2,h3,cond_true,Ad,Auv 4000000 x.Index (by omega) (by omega)]
  rw [C1 (by simp; omega),Ad,Cz hx]
 .intro h1
  refine ⟨m.Factors,by simp,?_⟩
  dsimp only
  refine E6 m.Atoms (fun j=>((j:Int),(m.Atoms.take j))) rfl (by omega) ?_ ?_
  .intro j x hj hx h1 h2 h3
   have c:=Bs hx
   have:=b.al x c
   simp only [h1,h2,h3,cond_true,Ad,Xc]
   rw [C1 (by simp; omega),Ad,C1 (by simp; omega),Ad,Cz hx]; rfl
  .intro h1
   exact ⟨m.Atoms,by simp,by cases m; rfl⟩
end Go.Ab
namespace Go.Ab
open Go
structure TB (k:Nat) (t:Aj):Prop where
 co:RB k t.Coef
 mo:MSz t.Mono
theorem TSz.tb {t:Aj} (h:TSz t):TB 1048576 t:=⟨h.co,h.mo⟩
theorem TB.mono {j k:Nat} {t:Aj} (h:TB j t) (hk:j<=k):TB k t:=⟨h.co.mono hk,h.mo⟩
def Py (c:A5) (m:Bb):List Aj:=if nv c=0 then [] else [⟨B3 (sv c) (nv c) (dv c),m⟩]
theorem Akr (c:A5):rq c=0↔nv c=0:=by
 unfold rq
 rw [Rat.mkRat_eq_zero (Ea c)]
 unfold sg; split <;> omega
theorem Aux (c:A5) (m n:Bb):cf (Py c m) n=if Cj m n=0 then rq c else 0:=by
 unfold Py
 split
 .rename_i h
  rw [(Akr c).2 h]; simp [cf]
 .simp only [cf,Lc _ _ _ (Ea c)]
  show (if Cj m n=0 then rq c else 0)+0=_
  grind
structure Mg (F:Rat->Rat->Rat) (k:Nat) (p q R:List Aj):Prop where
 cp:CP R
 val:∀m,cf R m=F (cf p m) (cf q m)
 mon:∀t∈R,(∃u∈p,u.Mono=t.Mono)\/(∃u∈q,u.Mono=t.Mono)
 len:R.length<=p.length+q.length
 rb:∀t∈R,RB (k+1) t.Coef
theorem Auy {k:Nat} {c:A5} {m:Bb} (hc:RB k c):(∀t∈Py c m,t.Mono=m/\Iy t.Coef/\rq t.Coef≠0/\RB (k+1) t.Coef)/\(Py c m).length<=1:=by
 unfold Py
 split
 .exact ⟨fun _ h=>(by cases h),by simp⟩
 .rename_i h
  refine ⟨fun t ht=>?_,by simp⟩
  simp only [List.mem_singleton] at ht
  subst ht
  exact ⟨rfl,Vb _ _ _ (Ea c),by rw [Lc _ _ _ (Ea c)]; exact fun e=>h ((Akr c).1 e),Ack hc⟩
theorem Mg.step {F:Rat->Rat->Rat} {k:Nat} {p q g f R:List Aj} {c:A5} {m:Bb} (h:Mg F k g f R) (z:F 0 0=0) (hc:RB k c)
  (s:∀n,Cj m n≠0->cf p n=cf g n/\cf q n=cf f n) (h0:rq c=F (cf p m) (cf q m)) (l:∀u∈g,Cj m u.Mono<0) (j:∀u∈f,Cj m u.Mono<0)
  (x:(∃u∈p,u.Mono=m)\/(∃u∈q,u.Mono=m)) (hp:∀u∈g,u∈p) (hq:∀u∈f,u∈q) (B:g.length+f.length+1<=p.length+q.length):Mg F k p q (Py c m++R):=by
 obtain ⟨i,A⟩:=Auy (m:=m) hc
 have y:∀t∈R,Cj m t.Mono<0:=by
  intro t ht
  rcases h.mon t ht with ⟨u,hu,e⟩ | ⟨u,hu,e⟩
  .rw [<-e]; exact l u hu
  .rw [<-e]; exact j u hu
 refine ⟨?_,?_,?_,?_,?_⟩
 .refine ⟨List.pairwise_append.2 ⟨?_,h.cp.srt,?_⟩,?_⟩
  .unfold Py; split
   .exact List.Pairwise.nil
   .exact List.pairwise_singleton _ _
  .intro a ha b hb
   show Cj a.Mono b.Mono<0
   rw [(i a ha).1]; exact y b hb
  .intro t ht
   rcases List.mem_append.1 ht with ht | ht
   .exact ⟨(i t ht).2.1,(i t ht).2.2.1⟩
   .exact h.cp.coe t ht
 .intro n
  rw [Kj,Aux,h.val n]
  by_cases e:Cj m n=0
  .rw [if_pos e]
   have e':=Jq.1 e
   subst e'
   rw [Px l,Px j,z,h0]; grind
  .rw [if_neg e,(s n e).1,(s n e).2]; grind
 .intro t ht
  rcases List.mem_append.1 ht with ht | ht
  .rw [(i t ht).1]; exact x
  .rcases h.mon t ht with ⟨u,hu,e⟩ | ⟨u,hu,e⟩
   .exact .inl ⟨u,hp u hu,e⟩
   .exact .inr ⟨u,hq u hu,e⟩
 .rw [List.length_append]; have:=h.len; omega
 .intro t ht
  rcases List.mem_append.1 ht with ht | ht
  .exact (i t ht).2.2.2
  .exact h.rb t ht
end Go.Ab
namespace Go.Ab
open Go
def Gq (n:Int) (f:Bool):List Int:=if f then (if n<0 then [45] else []) else (if n<0 then [32,45,32] else [32,43,32])
def Hh (n:Int):List Int:=if n.natAbs=1 then [] else ti n.natAbs++[42]
def Gz (v:Int):List Int:=if v = -1 then [114,101,115] else 118::ti v
def tT (f:Bool) (t:Dd):List Int:=Gq t.Coef f++(Hh t.Coef++Gz t.Var)
def F0:Bool->List Dd->Int->List Int
 | f,[],c=>if c≠0\/f=true then Gq c f++ti c.natAbs else []
 | f,t::ts,c=>tT f t++F0 false ts c
def Vc (l:Cu):List Int:=F0 true l.Terms l.Const
def G0 (X:List Int):Prop:=∀c m,X=c::m->c=97
theorem G0.nil:G0 []:=by intro c m h; cases h
theorem G0.cons (X:List Int):G0 (97::X):=by intro c m h; cases h; rfl
theorem G0.nonum {X:List Int} (h:G0 X):Ix X:=by intro c m e; rw [h c m e]; decide
theorem Adi (n:Nat):∃c m,ti n=c::m/\48<=c/\c<=57:=by
 have b:=Ac3 (n:Int)
 cases h:ti (n:Int) with
 | nil=>exact (b h).elim
 | cons c m=>
  refine ⟨c,m,rfl,?_⟩
  have hc:c∈ti (n:Int):=by rw [h]; simp
  unfold ti at hc
  obtain ⟨x,hx,rfl⟩:=List.mem_map.1 hc
  have e:Lib.itoa (n:Int)=Lib.decDigits n:=by
   unfold Lib.itoa
   first | rfl | (rw [if_neg (by omega)]; simp) | simp
  rw [e] at hx
  have:=Yl n n (Nat.le_refl _) x hx
  omega
theorem Aks (ts:List Dd) (c:Int) {X:List Int} (b:G0 X):Ix (F0 false ts c++X):=by
 have k:∀(n:Int) (Y:List Int),Ix (Gq n false++Y):=by
  intro n Y c m e
  unfold Gq at e
  simp only [Bool.false_eq_true,if_false] at e
  split at e <;> (cases e; decide)
 cases ts with
 | nil=>
  simp only [F0]
  split
  .rw [List.append_assoc]; exact k _ _
  .exact b.nonum
 | cons t ts=>simp only [F0,tT,List.append_assoc]; exact k _ _
theorem Akt {v w:Int} {R S:List Int} (c:Ix R) (b:Ix S) (h:Gz v++R=Gz w++S):v=w/\R=S:=by
 unfold Gz at h
 split at h <;> split at h
 .simp only [List.cons_append,List.nil_append,List.cons.injEq,true_and] at h
  exact ⟨by omega,h⟩
 .simp at h
 .simp at h
 .simp only [List.cons_append,List.cons.injEq,true_and] at h
  obtain ⟨g,f⟩:=L5 _ _ _ _ (F9 v) (F9 w) c b h
  exact ⟨Pt g,f⟩
theorem Adj (v:Int):∃c m,Gz v=c::m/\(c=114\/c=118):=by
 unfold Gz
 split
 .exact ⟨_,_,rfl,.inl rfl⟩
 .exact ⟨_,_,rfl,.inr rfl⟩
theorem Adk (X:List Int):Ix (42::X):=by intro c m e; cases e; decide
theorem Auz {a b v w:Int} {R S:List Int} (i:Ix R) (g:Ix S) (h:Hh a++(Gz v++R)=Hh b++(Gz w++S)):a.natAbs=b.natAbs/\v=w/\R=S:=by
 unfold Hh at h
 have bad:∀(n:Nat) (u:Int) (X Y:List Int),Gz u++X=ti n++[42]++Y->False:=by
  intro n u X Y e
  obtain ⟨c,m,f,q⟩:=Adj u
  obtain ⟨d,k,l,j⟩:=Adi n
  rw [f,l] at e
  simp only [List.cons_append,List.cons.injEq] at e
  omega
 split at h <;> split at h
 .rename_i h1 h2
  simp only [List.nil_append] at h
  exact ⟨h1.trans h2.symm,Akt i g h⟩
 .exact (bad _ _ _ _ h).elim
 .exact (bad _ _ _ _ h.symm).elim
 .simp only [List.append_assoc,List.cons_append,List.nil_append] at h
  obtain ⟨f,q⟩:=L5 _ _ _ _ (F9 _) (F9 _) (Adk _) (Adk _) h
  have l:=Pt f
  obtain ⟨j,s⟩:=Akt i g (List.cons.inj q).2
  exact ⟨by omega,j,s⟩
def NoM (P:List Int):Prop:=∃c m,P=c::m/\c≠45
theorem NoM.ti (n:Nat) (X:List Int):NoM (Go.Ab.ti n++X):=by
 obtain ⟨c,m,e,h⟩:=Adi n
 exact ⟨c,m++X,by rw [e]; rfl,by omega⟩
theorem NoM.pT (a v:Int) (X:List Int):NoM (Hh a++(Gz v++X)):=by
 unfold Hh
 split
 .obtain ⟨c,m,e,h⟩:=Adj v
  exact ⟨c,m++X,by rw [e]; rfl,by omega⟩
 .rw [List.append_assoc]; exact NoM.ti _ _
theorem Adl {a b:Int} {f:Bool} {P Q:List Int} (i:NoM P) (g:NoM Q) (h:Gq a f++P=Gq b f++Q):(a<0↔b<0)/\P=Q:=by
 obtain ⟨c,m,rfl,hc⟩:=i
 obtain ⟨d,k,rfl,hd⟩:=g
 unfold Gq at h
 cases f with
 | true=>
  simp only [if_true] at h
  split at h <;> split at h
  .rename_i h1 h2; exact ⟨by simp [h1,h2],by simpa using h⟩
  .simp at h; exact (hd h.1.symm).elim
  .simp at h; exact (hc h.1).elim
  .rename_i h1 h2; exact ⟨by simp [h1,h2],by simpa using h⟩
 | false=>
  simp only [Bool.false_eq_true,if_false] at h
  split at h <;> split at h
  .rename_i h1 h2; exact ⟨by simp [h1,h2],by simpa using h⟩
  .simp at h
  .simp at h
  .rename_i h1 h2; exact ⟨by simp [h1,h2],by simpa using h⟩
theorem Adm {n:Int} {P X:List Int} (b:G0 X) (h:Gq n false++P=X):False:=by
 unfold Gq at h
 simp only [Bool.false_eq_true,if_false] at h
 split at h
 .have:=b _ _ h.symm; omega
 .have:=b _ _ h.symm; omega
theorem Aku {c d:Int} {f:Bool} {u:Dd} {m:List Dd} {X Y:List Int} (b:G0 X) (l:G0 Y) (h:F0 f [] c++X=F0 f (u::m) d++Y):False:=by
 simp only [F0,tT] at h
 split at h
 .simp only [List.append_assoc] at h
  obtain ⟨_,e⟩:=Adl (NoM.ti _ _) (NoM.pT _ _ _) h
  unfold Hh at e
  split at e
  .obtain ⟨s,m1,k,h1⟩:=Adj u.Var
   obtain ⟨q,m2,g,h2⟩:=Adi c.natAbs
   rw [k,g] at e
   simp only [List.nil_append,List.cons_append,List.cons.injEq] at e
   omega
  .simp only [List.append_assoc,List.cons_append,List.nil_append] at e
   obtain ⟨_,g⟩:=L5 _ _ _ _ (F9 _) (F9 _) b.nonum (Adk _) e
   have:=b _ _ g; omega
 .rename_i i
  have j:f=false:=by cases f with | true=>simp at i | false=>rfl
  subst j
  simp only [List.nil_append,List.append_assoc] at h
  exact Adm b h.symm
theorem Akv:∀(l m:List Dd) (f:Bool) (c d:Int) (X Y:List Int),G0 X->G0 Y->F0 f l c++X=F0 f m d++Y->l=m/\c=d/\X=Y
 | [],[],f,c,d,X,Y,g,b,h=>by
  simp only [F0] at h
  split at h <;> split at h
  .simp only [List.append_assoc] at h
   obtain ⟨y,s⟩:=Adl (NoM.ti _ _) (NoM.ti _ _) h
   obtain ⟨q,i⟩:=L5 _ _ _ _ (F9 _) (F9 _) g.nonum b.nonum s
   have x:=Pt q
   exact ⟨rfl,by omega,i⟩
  .rename_i h1 h2
   have j:f=false:=by cases f with | true=>simp at h2 | false=>rfl
   subst j
   simp only [List.append_assoc,List.nil_append] at h
   exact (Adm b h).elim
  .rename_i h1 h2
   have j:f=false:=by cases f with | true=>simp at h1 | false=>rfl
   subst j
   simp only [List.append_assoc,List.nil_append] at h
   exact (Adm g h.symm).elim
  .rename_i h1 h2
   refine ⟨rfl,?_,by simpa using h⟩
   have a1:c=0:=by by_cases k:c=0; exact k; exact (h1 (.inl k)).elim
   have a2:d=0:=by by_cases k:d=0; exact k; exact (h2 (.inl k)).elim
   omega
 | [],u::m,f,c,d,X,Y,g,b,h=>(Aku g b h).elim
 | t::l,[],f,c,d,X,Y,g,b,h=>(Aku b g h.symm).elim
 | t::l,u::m,f,c,d,X,Y,g,b,h=>by
  simp only [F0,tT,List.append_assoc] at h
  obtain ⟨y,s⟩:=Adl (NoM.pT _ _ _) (NoM.pT _ _ _) h
  obtain ⟨q,i,x⟩:=Auz (Aks _ _ g) (Aks _ _ b) s
  obtain ⟨B,A,z⟩:=Akv l m false c d X Y g b x
  have:t=u:=by
   cases t; cases u
   simp only at y q i
   subst i
   congr 1; omega
  exact ⟨by rw [this,B],A,z⟩
def Fu (a:Ca):List Int:=97::(ti a.Deg++58::Vc a.Lin)
def E8 (f:Cm):List Int:=Hf f.Var f.Index
def Vd (m:Bb):List Int:=m.Factors.flatMap E8++m.Atoms.flatMap Fu
theorem Yy (l:List Ca):G0 (l.flatMap Fu):=by
 cases l with
 | nil=>exact G0.nil
 | cons a l=>simp only [List.flatMap_cons,Fu,List.cons_append]; exact G0.cons _
theorem Yz (X:List Int):Ix (58::X):=by intro c m e; cases e; decide
theorem Akw:∀(l m:List Ca),l.flatMap Fu=m.flatMap Fu->l=m
 | [],[],_=>rfl
 | [],b::m,h=>by simp [Fu] at h
 | a::l,[],h=>by simp [Fu] at h
 | a::l,b::m,h=>by
  simp only [List.flatMap_cons,Fu,List.cons_append,List.append_assoc,List.cons.injEq,true_and] at h
  obtain ⟨s,q⟩:=L5 _ _ _ _ (F9 _) (F9 _) (Yz _) (Yz _) h
  have k:=(List.cons.inj q).2
  obtain ⟨g,f,j⟩:=Akv _ _ true _ _ _ _ (Yy l) (Yy m) k
  have i:=Akw l m j
  have c:=Pt s
  obtain ⟨⟨x,t1⟩,d1⟩:=a
  obtain ⟨⟨u,t2⟩,d2⟩:=b
  simp only at g f c
  rw [g,f,c,i]
theorem Akx (l:List Cm) {X:List Int} (b:G0 X):Nm (l.flatMap E8++X):=by
 cases l with
 | nil=>intro c m e; rw [b c m e]; exact ⟨by decide,by decide⟩
 | cons a l=>
  intro c m e
  simp only [List.flatMap_cons,E8,Hf,List.cons_append] at e
  cases e; exact ⟨by decide,by decide⟩
theorem Aky:∀(l m:List Cm) (X Y:List Int),G0 X->G0 Y->l.flatMap E8++X=m.flatMap E8++Y->l=m/\X=Y
 | [],[],X,Y,_,_,h=>⟨rfl,by simpa using h⟩
 | [],b::m,X,Y,f,_,h=>by
  simp only [List.flatMap_cons,List.flatMap_nil,E8,Hf,List.cons_append,List.nil_append] at h
  have:=f _ _ h; omega
 | a::l,[],X,Y,_,c,h=>by
  simp only [List.flatMap_cons,List.flatMap_nil,E8,Hf,List.cons_append,List.nil_append] at h
  have:=c _ _ h.symm; omega
 | a::l,b::m,X,Y,f,c,h=>by
  simp only [List.flatMap_cons,E8,Hf,List.cons_append,List.append_assoc,List.cons.injEq,true_and] at h
  obtain ⟨x,u⟩:=L5 _ _ _ _ (F9 _) (F9 _) (Yz _) (Yz _) h
  have s:=(List.cons.inj u).2
  obtain ⟨i,q⟩:=Ac5 _ _ _ _ (Akx l f) (Akx m c) s
  obtain ⟨k,j⟩:=Aky l m X Y f c q
  have g:=Pt x
  obtain ⟨y,i1⟩:=a
  obtain ⟨v2,i2⟩:=b
  simp only at i g
  exact ⟨by rw [i,g,k],j⟩
theorem Au0 {m n:Bb} (h:Vd m=Vd n):m=n:=by
 obtain ⟨c,f⟩:=Aky _ _ _ _ (Yy _) (Yy _) h
 have b:=Akw _ _ f
 cases m; cases n
 simp only at c b
 rw [c,b]
def By (l:List Int):Prop:=∀c∈l,0<=c/\c<256
theorem By.app {l m:List Int} (h:By l) (h':By m):By (l++m):=by
 intro c hc
 rcases List.mem_append.1 hc with k | k
 .exact h c k
 .exact h' c k
theorem By.ti (n:Int):By (Go.Ab.ti n):=by
 intro c h
 have:=F9 n c h
 simp only [L3,Bool.or_eq_true,De,beq_iff_eq,decide_eq_true_eq] at this
 omega
theorem By.cons {c:Int} {l:List Int} (hc:0<=c/\c<256) (h:By l):By (c::l):=by
 intro d hd
 rcases List.mem_cons.1 hd with rfl | k
 .exact hc
 .exact h d k
theorem By.nil:By []:=fun c h=>by cases h
theorem By.sgn (n:Int) (f:Bool):By (Gq n f):=by
 unfold Gq
 split <;> split <;> intro c hc <;> simp at hc <;> omega
theorem By.mag (n:Int):By (Hh n):=by
 unfold Hh
 split
 .exact By.nil
 .exact (By.ti _).app (By.cons (by omega) By.nil)
theorem By.var (n:Int):By (Gz n):=by
 unfold Gz
 split
 .intro c hc; simp at hc; omega
 .exact By.cons (by omega) (By.ti _)
theorem By.tT (f:Bool) (t:Dd):By (tT f t):=(By.sgn _ _).app ((By.mag _).app (By.var _))
theorem By.lins:∀(l:List Dd) (f:Bool) (c:Int),By (F0 f l c)
 | [],f,c=>by
  simp only [F0]
  split
  .exact (By.sgn _ _).app (By.ti _)
  .exact By.nil
 | t::l,f,c=>(By.tT f t).app (By.lins l false c)
theorem By.at (a:Ca):By (Fu a):=By.cons (by omega) ((By.ti _).app (By.cons (by omega) (By.lins _ _ _)))
theorem By.flat {α:Type} {g:α->List Int} (h:∀a,By (g a)) (l:List α):By (l.flatMap g):=by
 intro c hc
 obtain ⟨a,_,k⟩:=List.mem_flatMap.1 hc
 exact h a c k
theorem By.fac (f:Cm):By (E8 f):=Yo f.Var f.Index
theorem By.mono (m:Bb):By (Vd m):=(By.flat By.fac _).app (By.flat By.at _)
def bs (l:List Int):ByteArray:=⟨(Es l).toArray⟩
theorem Au1 {l m:List Int} (c:By l) (b:By m) (h:bs l=bs m):l=m:=by
 unfold bs at h
 have h1:(Es l).toArray=(Es m).toArray:=by injection h
 have h2:Es l=Es m:=by simpa using congrArg Array.toList h1
 exact Ac8 _ _ c b h2
def Ih (m:Bb):ByteArray:=bs (Vd m)
theorem Akz {m n:Bb} (h:Ih m=Ih n):m=n:=Au0 (Au1 (By.mono m) (By.mono n) h)
theorem Y0 (l:List Int):(bs l).size=l.length:=by unfold bs Es; simp [ByteArray.size]
theorem Ak0 {l:List Int} (h:By l):J3 (bs l)=l:=by
 unfold J3 bs Es
 simp only [List.map_map]
 conv=>rhs; rw [<-List.map_id l]
 refine List.map_congr_left fun c hc=>?_
 have:=h c hc
 simp only [Function.comp,UInt8.toNat_ofNat',id]
 omega
theorem Au2 (l m:List Int):bs l++bs m=bs (l++m):=by
 apply ByteArray.ext
 rw [ByteArray.data_append]
 unfold bs Es
 simp
theorem Pz {l m:List Int} (h:l.length+m.length<=9223372036854775807):D8 (bs l) (bs m)=some (bs (l++m)):=by
 unfold D8
 rw [if_pos (by rw [Y0,Y0]; exact h),Au2]
theorem Y1 {n:Int} (h:I64 n):Lj n=some (bs (ti n)):=by
 rw [Ac7 h]
 congr 2
 congr 1
 unfold Es ti
 rw [List.map_map]
 conv=>lhs; rw [<-List.map_id (Lib.itoa n)]
 refine List.map_congr_left fun c _=>?_
 simp [Function.comp]
end Go.Ab
namespace Go.Ab
open Go
theorem Y2 {S E R α:Type} {step:S->Option (S⊕E)} {s0:S} {J:E->Option R} {r:R} (c:α) (xs:List α) (b:Nat->S) (h0:s0=b 0) (h:xs.length<2305843009213693952)
  (f:∀(j:Nat) (x:α),xs[j]? = some x->decide (((j+1:Nat):Int)<((c::xs).length:Int))=true->Af (c::xs) ((j+1:Nat):Int)=some x->Ac (((j+1:Nat):Int)+1)=((j+1+1:Nat):Int)->step (b j)=some (.inl (b (j+1))))
  (g:decide (((xs.length+1:Nat):Int)<((c::xs).length:Int))=false->∃e,step (b xs.length)=some (.inr e)/\J e=some r):(An step s0).bind J=some r:=by
 refine Nd xs.length b h0 (fun j hj=>?_) (g (by simp))
 have hx:xs[j]? = some xs[j]:=Bx hj
 exact f j _ hx (Ak (by simp only [List.length_cons]; omega)) (Cg rfl (by simp)) (C6 (n:=xs.length+1) (by omega) (by omega))
theorem bnd {α β:Type} {X:Option α} {a:α} {K:α->Option β} {r:Option β} (h:X=some a) (k:K a=r):X.bind K=r:=by rw [h]; exact k
theorem Kk {l b:List Int} (c:By l) (h:b.length+l.length<=140737488355328):Fc (bs l) b=some ((l.length:Int),b++l):=by
 simp only [Fc,Rr,Ad,Ak0 c,Y0]
 rw [C1 (by omega)]; rfl
theorem Sb {l b:List Int} (c:By l) (h:b.length+l.length<=140737488355328):Hs (bs l) b=some ((l.length:Int),b++l):=by
 simp only [Hs,T5,Ad,Ak0 c,Y0]
 rw [C1 (by omega)]; rfl
theorem Sc {b:List Int} (hb:By b):Jc b=some (bs b):=by
 exact if_pos hb
theorem Au3 {b:List Int} (hb:By b):Xp b=some (bs b):=Sc hb
theorem Adn (n:Int) (h : -1048576<=n/\n<=1048576):(Hh n).length<=22:=by
 unfold Hh
 split
 .simp
 .have:=Kg (n:=(n.natAbs:Int)) (by unfold I64; omega)
  simp; omega
theorem Y3 (n:Int) (f:Bool):(Gq n f).length<=3:=by unfold Gq; split <;> split <;> simp
theorem Au4 {v:Int} (h : -1<=v/\v<3000):(Gz v).length<=22:=by
 unfold Gz
 split
 .simp
 .have:=Kg (n:=v) (by unfold I64; omega)
  simp; omega
structure Ak1 (a:Cu):Prop where
 c : -1048576<=a.Const/\a.Const<=1048576
 n:a.Terms.length<=16
 t:∀t∈a.Terms,(-1<=t.Var/\t.Var<3000)/\(-1048576<=t.Coef/\t.Coef<=1048576)
theorem Ado {a:Cu} (h:Hg a=true):Ak1 a:=by
 unfold Hg at h
 simp only [De,decide_eq_true_eq] at h
 refine ⟨⟨h.1.1,h.1.2.1⟩,h.1.2.2,fun t ht=>?_⟩
 obtain ⟨j,hj⟩:=List.getElem?_of_mem ht
 have:=G7 h.2 hj
 simp only [R7,De,decide_eq_true_eq] at this
 omega
theorem Adp {t:Dd} (f:Bool) (h:(-1<=t.Var/\t.Var<3000)/\(-1048576<=t.Coef/\t.Coef<=1048576)):(tT f t).length<=47:=by
 have:=Y3 t.Coef f
 have:=Adn t.Coef h.2
 have:=Au4 h.1
 unfold tT
 simp only [List.length_append]; omega
theorem Ak2 {n:Int} (h : -1048576<=n/\n<=1048576):(if Ac (0-n)>n then Ac (0-n) else n)=(n.natAbs:Int):=by
 rw [Ac,Bv (by omega) (by omega)]; split <;> omega
theorem c45:ByteArray.mk #[45]=bs [45]:=rfl
theorem Au5:ByteArray.mk #[32,45,32]=bs [32,45,32]:=rfl
theorem Au6:ByteArray.mk #[32,43,32]=bs [32,43,32]:=rfl
theorem c42:ByteArray.mk #[42]=bs [42]:=rfl
theorem Ak3:ByteArray.mk #[118]=bs [118]:=rfl
theorem c97:ByteArray.mk #[97]=bs [97]:=rfl
theorem c58:ByteArray.mk #[58]=bs [58]:=rfl
theorem Ak4:ByteArray.mk #[114,101,115]=bs [114,101,115]:=rfl
theorem Ak5:By [45]:=By.cons (by omega) By.nil
theorem by3 (a b c:Int) (ha:0<=a/\a<256) (hb:0<=b/\b<256) (hc:0<=c/\c<256):By [a,b,c]:=By.cons ha (By.cons hb (By.cons hc By.nil))
theorem Ak6 {n:Int} (f:Bool) {b:List Int} (c : -1048576<=n/\n<=1048576) (hb:b.length<=1099511627776):Up n f b=some ((n.natAbs:Int),b++Gq n f):=by
 unfold Up Gq
 rw [Ak2 c,c45,Au5,Au6]
 rw [Kk Ak5 (by simp; omega),Kk (by3 _ _ _ (by omega) (by omega) (by omega)) (by simp; omega),Kk (by3 _ _ _ (by omega) (by omega) (by omega)) (by simp; omega)]
 by_cases h:n<0
 .rw [Ak h,if_pos h,if_pos h]; cases f <;> rfl
 .rw [Ap h,if_neg h,if_neg h]; cases f <;> simp
theorem Au7 {n:Int} {b:List Int} (c : -1048576<=n/\n<=1048576) (hb:b.length<=1099511627776):Ow n true b=some (if n<0 then .inl ((n.natAbs:Int),b++[45]) else .inr ((n.natAbs:Int),b)):=by
 unfold Ow
 rw [Ak2 c,c45,Sb Ak5 (by simp; omega)]
 by_cases h:n<0
 .rw [Ak h,if_pos h]; rfl
 .rw [Ap h,if_neg h]; rfl
theorem Adq {n:Nat} (h:n<=1048576):J9 (n:Int) 10=some (bs (ti n)):=by
 unfold J9 Wm
 exact Y1 (by unfold I64; omega)
theorem Y4 {n:Nat} (h:n<=1048576):(ti (n:Int)).length<=21:=Kg (by unfold I64; omega)
theorem Ak7 {n:Int} {b:List Int} (c : -1048576<=n/\n<=1048576) (hb:b.length<=1099511627776) :
  (bif ((n.natAbs:Int) != (1:Int)) then (J9 (n.natAbs:Int) 10).bind fun v=>(D8 v (ByteArray.mk #[42])).bind fun u=>(Fc u b).bind fun w=>some w.2 else some b)=some (b++Hh n):=by
 have ht:=Y4 (n:=n.natAbs) (by omega)
 unfold Hh
 by_cases h:n.natAbs=1
 .rw [C5 (by omega),if_pos h]; simp
 .rw [C2 (by omega),if_neg h,Adq (by omega),c42]
  simp only [cond_true,Ad]
  rw [Pz (by simp; omega),Ad,Kk ((By.ti _).app (By.cons (by omega) By.nil)) (by simp; omega)]; rfl
theorem Adr {v:Int} {b:List Int} {R:Type} (K:List Int->Option R) (c : -1<=v/\v<3000) (hb:b.length<=1099511627776) :
  (bif (v==(-1)) then (Fc (ByteArray.mk #[114,101,115]) b).bind fun w=>K w.2 else (Gk v).bind fun x=>(D8 (ByteArray.mk #[118]) x).bind fun y=>(Fc y b).bind fun w=>K w.2)=K (b++Gz v):=by
 have ht:=Kg (n:=v) (by unfold I64; omega)
 unfold Gz
 by_cases h:v = -1
 .rw [Em h,if_pos h,Ak4,Kk (by3 _ _ _ (by omega) (by omega) (by omega)) (by simp; omega)]; rfl
 .rw [Cr h,if_neg h,Ak3]
  simp only [cond_false,Gk]
  rw [Y1 (by unfold I64; omega),Ad,Pz (by simp; omega),Ad]
  rw [show [118]++ti v=118::ti v from rfl,Kk (By.cons (by omega) (By.ti _)) (by simp; omega)]; rfl
theorem Y5 {α:Type} {g:α->List Int} {l:List α} {j:Nat} {x:α} (h:l[j]? = some x):(l.take (j+1)).flatMap g=(l.take j).flatMap g++g x:=by
 rw [Cz h]; simp
theorem Ak8 {α:Type} {g:α->List Int} {n:Nat}:∀(l:List α),(∀a∈l,(g a).length<=n)->(l.flatMap g).length<=l.length*n
 | [],_=>by simp
 | a::l,h=>by
  have h1:=h a (by simp)
  have h2:=Ak8 l fun b hb=>h b (by simp [hb])
  simp only [List.flatMap_cons,List.length_append,List.length_cons,Nat.add_mul]; omega
theorem Ads {α:Type} {g:α->List Int} {n:Nat} (l:List α) (j:Nat) (h:∀a∈l,(g a).length<=n):((l.take j).flatMap g).length<=l.length*n:=by
 refine Nat.le_trans (Ak8 _ fun a ha=>h a (List.mem_of_mem_take ha)) (Nat.mul_le_mul_right _ ?_)
 rw [List.length_take]; omega
theorem Ak9:∀(ts:List Dd) (c:Int),F0 false ts c=ts.flatMap (tT false)++F0 false [] c
 | [],c=>by simp
 | t::ts,c=>by
  have:=Ak9 ts c
  simp only [List.flatMap_cons,List.append_assoc,<-this]; rfl
theorem Au8 {a:Cu} (h:Hg a=true) (B:a.Terms≠[]):Lu a=some (bs (Vc a)):=by
 have z:=Ado h
 unfold Lu
 rw [Aj4,h]
 obtain ⟨c,l⟩:=a
 cases l with
 | nil=>exact (B rfl).elim
 | cons t ts=>
  have hc : -1048576<=c/\c<=1048576:=z.c
  have M:ts.length<=15:=by have:=z.n; simp at this; omega
  have ht:(-1<=t.Var/\t.Var<3000)/\(-1048576<=t.Coef/\t.Coef<=1048576):=z.t t (by simp)
  have s:∀u∈ts,(-1<=u.Var/\u.Var<3000)/\(-1048576<=u.Coef/\u.Coef<=1048576):=fun u hu=>z.t u (by simp [hu])
  have x:=fun j=>Ads (g:=tT false) (n:=47) ts j (fun u hu=>Adp false (s u hu))
  have J:=Adp true ht
  simp only [Ad,Dm,cond_false]
  rw [Ak (by simp only [List.length_cons]; omega),cond_true]
  refine bnd (a:=((t.Coef.natAbs:Int),tT true t)) ?_ ?_
  .rw [show Af (t::ts) 0=some t from rfl,Ad,Au7 ht.2 (by simp),Ad]
   have G:=Kg (n:=t.Var) (by unfold I64; omega)
   have I:=Y4 (n:=t.Coef.natAbs) (by omega)
   have D:=Adn t.Coef ht.2
   by_cases q:t.Coef<0
   .rw [if_pos q]
    simp only
    rw [Ak7 ht.2 (by simp),Ad]
    refine (Adr (fun b=>some ((t.Coef.natAbs:Int),b)) ht.1 (by simp; omega)).trans ?_
    simp [tT,Gq,q]
   .rw [if_neg q]
    simp only
    by_cases h1:t.Coef.natAbs=1
    .rw [C5 (by omega)]
     simp only [cond_false]
     by_cases y:t.Var = -1
     .rw [Em y,Ak4,cond_true,Sb (by3 _ _ _ (by omega) (by omega) (by omega)) (by simp)]
      simp [tT,Gq,q,Hh,h1,Gz,y]
     .rw [Cr y,cond_false,Ak3,Gk,Y1 (by unfold I64; omega),Ad,Pz (by simp; omega),Ad,show [118]++ti t.Var=118::ti t.Var from rfl,
       Sb (By.cons (by omega) (By.ti _)) (by simp; omega)]
      simp [tT,Gq,q,Hh,h1,Gz,y]
    .rw [C2 (by omega)]
     simp only [cond_true]
     rw [Adq (by omega),Ad,c42,Pz (by simp; omega),Ad,Sb ((By.ti _).app (By.cons (by omega) By.nil)) (by simp; omega),Ad]
     refine (Adr (fun b=>some ((t.Coef.natAbs:Int),b)) ht.1 (by simp; omega)).trans ?_
     simp [tT,Gq,q,Hh,h1]
  .simp only
   refine Y2 t ts (fun j=>(((j+1:Nat):Int),tT true t++(ts.take j).flatMap (tT false))) (by simp [Ac,Bv]) (by omega) ?_ ?_
   .intro j u hu h1 h2 h3
    have f:=s u (Bs hu)
    have:=x j
    have D:=Adn u.Coef f.2
    have A:=Y3 u.Coef false
    simp only [h1,h2,h3,cond_true,Ad]
    rw [Cr (by omega),Ak6 false f.2 (by simp only [List.length_append]; omega),Ad,Ak7 f.2 (by simp only [List.length_append]; omega),Ad]
    refine (Adr (R:=(Int×List Int)⊕List Int) (fun b=>some (.inl (((j+1+1:Nat):Int),b))) f.1 (by simp only [List.length_append]; omega)).trans ?_
    rw [Y5 hu]
    simp [tT]
   .intro h1
    have h2:=x ts.length
    rw [List.take_length] at h2
    refine ⟨tT true t++ts.flatMap (tT false),by simp only [h1,cond_false,List.take_length],?_⟩
    have E:By (tT true t++ts.flatMap (tT false)):=(By.tT _ _).app (By.flat (By.tT _) _)
    have e:Vc ⟨c,t::ts⟩=tT true t++ts.flatMap (tT false)++F0 false [] c:=by
     have:=Ak9 ts c
     rw [List.append_assoc,<-this]; rfl
    rw [e]
    have k:((((t::ts).length:Nat):Int)==(0:Int))=false:=Cr (by simp only [List.length_cons]; omega)
    by_cases i:c=0
    .simp only [C5 i,cond_false,k,Ad]
     rw [Sc E]
     simp [F0,i]
    .have L:=Y4 (n:=c.natAbs) (by omega)
     have A:=Y3 c false
     simp only [C2 i,cond_true,Ad,k]
     rw [Ak6 false hc (by simp only [List.length_append]; omega),Ad,Adq (by omega),Ad,Kk (By.ti _) (by simp only [List.length_append]; omega),Ad,
      Sc ((E.app (By.sgn _ _)).app (By.ti _))]
     simp [F0,i]
theorem Ala {a:Cu} (h:Ak1 a):(Vc a).length<=1024:=by
 have key:∀(l:List Dd) (f:Bool),(∀t∈l,(-1<=t.Var/\t.Var<3000)/\(-1048576<=t.Coef/\t.Coef<=1048576))->(F0 f l a.Const).length<=47*l.length+24:=by
  intro l
  induction l with
  | nil=>
   intro f _
   have h1:=Y4 (n:=a.Const.natAbs) (by have:=h.c; omega)
   have h2:=Y3 a.Const f
   simp only [F0]
   split <;> simp <;> omega
  | cons t l ih=>
   intro f b
   have h1:=Adp f (b t (by simp))
   have h2:=ih false fun u hu=>b u (by simp [hu])
   simp only [F0,List.length_append,List.length_cons]; omega
 have:=key a.Terms true h.t
 have:=h.n
 unfold Vc; omega
structure CMo (m:Bb):Prop where
 sz:MSz m
 nf:m.Factors.length<=6
 na:m.Atoms.length<=6
 al:∀a∈m.Atoms,Hg a.Lin=true/\a.Lin.Terms≠[]/\1<=a.Deg/\a.Deg<=6
theorem Y6 {R:Type} {a:Ca} (K:ByteArray->Option R) (h:Hg a.Lin=true/\a.Lin.Terms≠[]/\1<=a.Deg/\a.Deg<=6) :
  ((Gk a.Deg).bind fun u=>(D8 (ByteArray.mk #[97]) u).bind fun v=>(D8 v (ByteArray.mk #[58])).bind fun w=>(Lu a.Lin).bind fun x=>(D8 w x).bind fun y=>K y)=K (bs (Fu a)):=by
 have h1:=Kg (n:=a.Deg) (by unfold I64; omega)
 have h2:=Ala (Ado h.1)
 rw [Gk,Y1 (by unfold I64; omega),Ad,c97,Pz (by simp; omega),Ad,c58,Pz (by simp; omega),Ad,Au8 h.1 h.2.1,Ad,Pz (by simp; omega),Ad]
 simp [Fu]
theorem Ve {a:Ca} (h:Hg a.Lin=true/\a.Lin.Terms≠[]/\1<=a.Deg/\a.Deg<=6):(Fu a).length<=1100:=by
 have h1:=Kg (n:=a.Deg) (by unfold I64; omega)
 have h2:=Ala (Ado h.1)
 simp [Fu]; omega
theorem Adt {f:Cm} (h:Ct f.Index<=1048576) (b:iR f.Index/\I64 f.Var):(E8 f).length<=33554432:=by
 have h1:=Kg b.2
 have h2:=Ac6 f.Index b.1
 simp [E8,Hf]; omega
theorem Au9 {m:Bb} (h:CMo m):Tb m=some (Ih m):=by
 obtain ⟨fs,c⟩:=m
 have q:∀f∈fs,Ct f.Index<=1048576/\iR f.Index/\I64 f.Var:=fun f i=>⟨h.sz.fi f i,h.sz.fr f i⟩
 have u:∀a∈c,Hg a.Lin=true/\a.Lin.Terms≠[]/\1<=a.Deg/\a.Deg<=6:=h.al
 have nf:fs.length<=6:=h.nf
 have na:c.length<=6:=h.na
 have A:=fun (l:List Cm) (x:∀f∈l,f∈fs) (j:Nat)=>Ads (g:=E8) (n:=33554432) l j (fun f i=>Adt (q f (x f i)).1 (q f (x f i)).2)
 have D:=fun (l:List Ca) (x:∀a∈l,a∈c) (j:Nat)=>Ads (g:=Fu) (n:=1100) l j (fun a ha=>Ve (u a (x a ha)))
 have N:∀l:List Cm,By (l.flatMap E8):=fun l=>By.flat By.fac l
 have G:∀l:List Ca,By (l.flatMap Fu):=fun l=>By.flat By.at l
 have key:∀f:Cm,f∈fs->My f.Var f.Index=some (bs (E8 f)):=fun f i=>Ajv f.Var f.Index (q f i).2.2 (q f i).2.1 (q f i).1
 unfold Tb Ih Vd
 cases fs with
 | nil=>
  rw [Ap (by simp),cond_false]
  cases c with
  | nil=>
   rw [Ap (by simp),cond_false]
   rw [Au3 By.nil]; rfl
  | cons a c=>
   have ha:=u a (by simp)
   have y:=Ve ha
   rw [Ak (by simp only [List.length_cons]; omega),cond_true,show Af (a::c) 0=some a from rfl,Ad]
   refine (Y6 _ ha).trans ?_
   rw [Sb (By.at a) (by simp; omega),Ad]
   refine Y2 a c (fun j=>(((j+1:Nat):Int),[]++Fu a++(c.take j).flatMap Fu)) (by simp [Ac,Bv]) (by simp at na; omega) ?_ ?_
   .intro j b hb h1 h2 h3
    have k:=u b (by simp [Bs hb])
    have:=Ve k
    have:=D c (fun b hb=>by simp [hb]) j
    simp at na
    simp only [h1,h2,h3,cond_true,Ad]
    refine (Y6 _ k).trans ?_
    rw [Kk (By.at b) (by simp only [List.length_append,List.length_nil]; omega),Ad,Y5 hb]
    simp
   .intro h1
    refine ⟨[]++Fu a++c.flatMap Fu,by simp only [h1,cond_false,List.take_length],?_⟩
    dsimp only
    rw [Sc ((By.nil.app (By.at a)).app (G c))]
    simp
 | cons f fs=>
  have i:=q f (by simp)
  have L:=Adt i.1 i.2
  rw [Ak (by simp only [List.length_cons]; omega),cond_true,show Af (f::fs) 0=some f from rfl,Ad,key f (by simp),Ad,Sb (By.fac f) (by simp; omega),Ad]
  refine Y2 f fs (fun j=>(((j+1:Nat):Int),[]++E8 f++(fs.take j).flatMap E8)) (by simp [Ac,Bv]) (by simp at nf; omega) ?_ ?_
  .intro j g E h1 h2 h3
   have s:g∈f::fs:=by simp [Bs E]
   have:=Adt (q g s).1 (q g s).2
   have:=A fs (fun b hb=>by simp [hb]) j
   simp at nf
   simp only [h1,h2,h3,cond_true,Ad]
   rw [key g s,Ad,Kk (By.fac g) (by simp only [List.length_append,List.length_nil]; omega),Ad,Y5 E]
   simp
  .intro h1
   have I:=A fs (fun b hb=>by simp [hb]) fs.length
   rw [List.take_length] at I
   simp at nf
   refine ⟨[]++E8 f++fs.flatMap E8,by simp only [h1,cond_false,List.take_length],?_⟩
   have z:By ([]++E8 f++fs.flatMap E8):=(By.nil.app (By.fac f)).app (N fs)
   have J:([]++E8 f++fs.flatMap E8).length<=234881024:=by simp only [List.length_append,List.length_nil]; omega
   have M:(f::fs).flatMap E8 = []++E8 f++fs.flatMap E8:=by simp
   rw [M]
   generalize []++E8 f++fs.flatMap E8=B at z J
   cases c with
   | nil=>
    rw [Ap (by simp),cond_false,Sc z]; simp
   | cons a c=>
    have ha:=u a (by simp)
    have y:=Ve ha
    rw [Ak (by simp only [List.length_cons]; omega),cond_true,show Af (a::c) 0=some a from rfl,Ad]
    refine (Y6 _ ha).trans ?_
    rw [Kk (By.at a) (by omega),Ad]
    refine Y2 a c (fun j=>(((j+1:Nat):Int),B++Fu a++(c.take j).flatMap Fu)) (by simp [Ac,Bv]) (by simp at na; omega) ?_ ?_
    .intro j b hb h1 h2 h3
     have k:=u b (by simp [Bs hb])
     have:=Ve k
     have:=D c (fun b hb=>by simp [hb]) j
     simp at na
     simp only [h1,h2,h3,cond_true,Ad]
     refine (Y6 _ k).trans ?_
     rw [Kk (By.at b) (by simp only [List.length_append]; omega),Ad,Y5 hb]
     simp
    .intro h1
     refine ⟨B++Fu a++c.flatMap Fu,by simp only [h1,cond_false,List.take_length],?_⟩
     dsimp only
     rw [Sc ((z.app (By.at a)).app (G c))]
     simp
end Go.Ab
namespace Go.Ab
open Go
def plc (ts:List Aj):List (ByteArray×Int):=ts.zipIdx.map fun q=>(Ih q.1.Mono,(q.2:Int))
def Dst (ts:List Aj):Prop:=ts.Pairwise fun t u=>t.Mono≠u.Mono
theorem Ava (ts:List Aj) (t:Aj):plc (ts++[t])=plc ts++[(Ih t.Mono,(ts.length:Int))]:=by
 unfold plc; simp [List.zipIdx_append]
theorem Vf (ts:List Aj) (j:Nat):(plc ts)[j]? = (ts[j]?).map fun t=>(Ih t.Mono,(j:Int)):=by
 unfold plc; simp [List.getElem?_map,List.getElem?_zipIdx]
 cases ts[j]? <;> rfl
theorem Avb {ts:List Aj} {j:Nat} {t u:Aj} (h:ts[j]? = some t) (b:u.Mono=t.Mono):plc (ts.set j u)=plc ts:=by
 apply List.ext_getElem?
 intro i
 rw [Vf,Vf,List.getElem?_set]
 by_cases e:j=i
 .subst e
  rw [if_pos rfl,if_pos (Di h),h]; simp [b]
 .rw [if_neg e]
theorem Alb {α:Type}:∀(o:List (ByteArray×α)) (s:ByteArray) (v:α),Ed o s=false->Er o s v=o++[(s,v)]
 | [],_,_,_=>rfl
 | p::o,s,v,h=>by
  simp only [Ed,List.any_cons,Bool.or_eq_false_iff] at h
  simp only [Er,h.1,cond_false,List.cons_append,List.cons.injEq,true_and]
  exact Alb o s v h.2
theorem Avc {ts:List Aj} {m:Bb} (h:∀t∈ts,t.Mono≠m):Ed (plc ts) (Ih m)=false:=by
 unfold Ed
 rw [List.any_eq_false]
 intro p hp
 obtain ⟨j,hj⟩:=List.getElem?_of_mem hp
 rw [Vf] at hj
 cases ht:ts[j]? with
 | none=>rw [ht] at hj; cases hj
 | some t=>
  rw [ht] at hj
  simp only [Option.map_some,Option.some.injEq] at hj
  subst hj
  intro e
  have e:=(Pr _ _).1 e
  exact h t (Bs ht) (Akz e).symm
theorem Avd {ts:List Aj} (hd:Dst ts) {j:Nat} {t:Aj} (h:ts[j]? = some t):Ed (plc ts) (Ih t.Mono)=true/\G4 (plc ts) (Ih t.Mono) 0=(j:Int):=by
 have hp:(plc ts)[j]? = some (Ih t.Mono,(j:Int)):=by rw [Vf,h]; rfl
 refine ⟨List.any_eq_true.2 ⟨_,Bs hp,(Pr _ _).2 rfl⟩,?_⟩
 unfold G4
 have b:(plc ts).find? (fun p=>Ih t.Mono==p.1)=some (Ih t.Mono,(j:Int)):=by
  cases b:(plc ts).find? (fun p=>Ih t.Mono==p.1) with
  | none=>
   have:=List.find?_eq_none.1 b _ (Bs hp)
   exact (this ((Pr _ _).2 rfl)).elim
  | some q=>
   have h1:=List.find?_some b
   obtain ⟨i,hi⟩:=List.getElem?_of_mem (List.mem_of_find?_eq_some b)
   rw [Vf] at hi
   cases hu:ts[i]? with
   | none=>rw [hu] at hi; cases hi
   | some u=>
    rw [hu] at hi
    simp only [Option.map_some,Option.some.injEq] at hi
    subst hi
    have e:=Akz ((Pr _ _).1 h1)
    have g:i=j:=by
     have f:=Di hu
     have c:=Di h
     rw [Bx f] at hu
     rw [Bx c] at h
     rcases Nat.lt_trichotomy i j with k | k | k
     .have:=List.pairwise_iff_getElem.1 hd i j f c k
      rw [Option.some.inj hu,Option.some.inj h] at this
      exact (this e.symm).elim
     .exact k
     .have:=List.pairwise_iff_getElem.1 hd j i c f k
      rw [Option.some.inj hu,Option.some.inj h] at this
      exact (this e).elim
    subst g
    rw [e]
 rw [b]; rfl
open Classical in
theorem L9 (t:Aj) (p:List Aj) (m:Bb):cf (t::p) m=(if t.Mono=m then rq t.Coef else 0)+cf p m:=by
 simp only [cf]
 by_cases e:t.Mono=m
 .rw [if_pos (Jq.2 e),if_pos e]
 .rw [if_neg (fun h=>e (Jq.1 h)),if_neg e]
open Classical in
theorem Adu:∀{ts:List Aj} {j:Nat} {t u:Aj},ts[j]? = some t->u.Mono=t.Mono->∀m,cf (ts.set j u) m=cf ts m+(if t.Mono=m then rq u.Coef-rq t.Coef else 0)
 | [],j,t,u,h,_,m=>by simp at h
 | s::ts,0,t,u,h,hm,m=>by
  simp only [List.getElem?_cons_zero,Option.some.injEq] at h
  subst h
  rw [List.set_cons_zero,L9,L9,hm]
  split <;> grind
 | s::ts,j+1,t,u,h,hm,m=>by
  simp only [List.getElem?_cons_succ] at h
  rw [List.set_cons_succ,L9,L9,Adu h hm m]
  grind
theorem Dst.set {ts:List Aj} (h:Dst ts) {j:Nat} {t u:Aj} (ht:ts[j]? = some t) (b:u.Mono=t.Mono):Dst (ts.set j u):=by
 have e:(ts.set j u).map (·.Mono)=ts.map (·.Mono):=by
  apply List.ext_getElem?
  intro i
  rw [List.getElem?_map,List.getElem?_map,List.getElem?_set]
  by_cases e:j=i
  .subst e; rw [if_pos rfl,if_pos (Di ht),ht]; simp [b]
  .rw [if_neg e]
 have k:∀l:List Aj,Dst l↔(l.map (·.Mono)).Pairwise (·≠·):=fun l=>by rw [List.pairwise_map]; exact Iff.rfl
 rw [k,e,<-k]; exact h
structure Col (k:Nat) (P:Bb->Prop) (ts:List Aj):Prop where
 dst:Dst ts
 tb:∀t∈ts,RB k t.Coef
 mo:∀t∈ts,P t.Mono
theorem Col.nil (k:Nat) (P:Bb->Prop):Col k P []:=⟨List.Pairwise.nil,fun _ h=>(by cases h),fun _ h=>(by cases h)⟩
theorem Vg {k0 k:Nat} {P:Bb->Prop} (L:∀m,P m->CMo m) (l ts:List Aj) (B:Col k0 P ts) (J:∀t∈l,RB k t.Coef/\P t.Mono) (hk:k<=k0) (U:k0+l.length*(k+3)<34359738000) (S:ts.length+l.length<=1099511627776) :
  ∃f,H4 l (plc ts) ts=some (plc f,f)/\Col (k0+l.length*(k+3)) P f/\f.length<=ts.length+l.length/\∀m,cf f m=cf ts m+cf l m:=by
 unfold H4
 refine Xv (A:=List Aj) (fun f=>(plc f,f)) ?_
 refine Dt (fun s=>∃(j:Nat) (u:List Aj),s=((j:Int),plc u,u)/\j<=l.length/\Col (k0+j*(k+3)) P u/\u.length<=ts.length+j/\∀m,cf u m=cf ts m+cf (l.take j) m) (fun s=>l.length-s.1.toNat)
  (fun z=>∃u,z=(plc u,u)/\Col (k0+l.length*(k+3)) P u/\u.length<=ts.length+l.length/\∀m,cf u m=cf ts m+cf l m) ⟨0,ts,rfl,by omega,by simpa using B,by omega,fun m=>by simp only [List.take_zero,cf]; grind⟩ ?_ ?_
 .rintro _ ⟨j,u,rfl,hj,hu,y,q⟩
  rcases Nat.lt_or_ge j l.length with h | h
  .have hx:l[j]? = some l[j]:=Bx h
   generalize l[j]=x at hx
   obtain ⟨hb,G⟩:=J x (Bs hx)
   have E:j*(k+3)+(k+3)<=l.length*(k+3):=by rw [<-Nat.succ_mul]; exact Nat.mul_le_mul_right _ h
   have D:(j+1)*(k+3)=j*(k+3)+(k+3):=by rw [Nat.succ_mul]
   simp only [Ak (by omega:(j:Int)<(l.length:Int)),cond_true,Cg rfl hx,Ad,Au9 (L _ G),C6 h (by omega)]
   left
   by_cases hex:∃t∈u,t.Mono=x.Mono
   .obtain ⟨t,ht,I⟩:=hex
    obtain ⟨i,hi⟩:=List.getElem?_of_mem ht
    obtain ⟨g1,g2⟩:=Avd hu.dst hi
    rw [I] at g1 g2
    obtain ⟨c,R,_,N,V,M⟩:=Akg (hu.tb t ht) hb (by omega) (by omega)
    refine ⟨((j+1:Nat),plc (u.set i ⟨c,t.Mono⟩),u.set i ⟨c,t.Mono⟩),?_,⟨j+1,u.set i ⟨c,t.Mono⟩,rfl,by omega,⟨hu.dst.set hi rfl,?_,?_⟩,by rw [List.length_set]; omega,fun m=>?_⟩,by simp; omega⟩
    .simp only [g1,g2,cond_true,Ad,Cg rfl hi,R,F7 rfl,Avb (u:=⟨c,t.Mono⟩) hi rfl]
    .intro w hw
     rcases List.mem_or_eq_of_mem_set hw with hw | rfl
     .exact (hu.tb w hw).mono (by omega)
     .exact N.mono (by omega)
    .intro w hw
     rcases List.mem_or_eq_of_mem_set hw with hw | rfl
     .exact hu.mo w hw
     .exact hu.mo t ht
    .rw [Adu (u:=⟨c,t.Mono⟩) hi rfl m,q m,Cz hx,Kj,L9]
     simp only [M,I,cf]
     split <;> grind
   .have g:=Avc (m:=x.Mono) (ts:=u) fun t ht e=>hex ⟨t,ht,e⟩
    refine ⟨((j+1:Nat),plc (u++[x]),u++[x]),?_,⟨j+1,u++[x],rfl,by omega,⟨?_,?_,?_⟩,by simp; omega,fun m=>?_⟩,by simp; omega⟩
    .simp only [g,cond_false,Ad]
     rw [C1 (by simp; omega),Ad,Alb _ _ _ g,Ava]
    .refine List.pairwise_append.2 ⟨hu.dst,List.pairwise_singleton _ _,fun a ha b hb=>?_⟩
     simp only [List.mem_singleton] at hb
     subst hb
     exact fun e=>hex ⟨a,ha,e⟩
    .intro w hw
     rcases List.mem_append.1 hw with hw | hw
     .exact (hu.tb w hw).mono (by omega)
     .simp only [List.mem_singleton] at hw
      subst hw
      exact hb.mono (by omega)
    .intro w hw
     rcases List.mem_append.1 hw with hw | hw
     .exact hu.mo w hw
     .simp only [List.mem_singleton] at hw
      subst hw
      exact G
    .rw [Kj,q m,Cz hx,Kj]; grind
  .have:j=l.length:=by omega
   subst this
   rw [List.take_length] at q
   simp only [Ap (by omega:¬(l.length:Int)<(l.length:Int)),cond_false]
   exact .inr ⟨_,rfl,u,rfl,hu,y,q⟩
 .rintro _ ⟨u,rfl,h1,h2,h3⟩
  exact ⟨_,rfl,u,rfl,h1,h2,h3⟩
end Go.Ab
namespace Go.Ab
open Go
theorem Adv (t u:Aj) (h:MSz t.Mono):Lr t u=some (Cj t.Mono u.Mono):=by
 unfold Lr
 rw [Aj2 _ _ h]; rfl
theorem Ave {α:Type} (A R:List α) (x y:α):((A++y::x::R).set (A.length+1) y).set A.length x=A++x::y::R:=by
 induction A with
 | nil=>rfl
 | cons a A ih=>simp only [List.cons_append,List.length_cons,List.set_cons_succ,ih]
theorem Alc {α:Type} (A R:List α) (x:α):(A++x::R)[A.length]? = some x:=by simp
theorem Avf {α:Type} (A R:List α) (x y:α):(A++y::x::R)[A.length+1]? = some x:=by
 induction A with
 | nil=>rfl
 | cons a A ih=>simp
theorem Avg {step:Int×List Aj->Option ((Int×List Aj)⊕(Int×List Aj))} (N:Nat) (G:N<4611686018427387904)
  (b:∀(x:Aj) (R:List Aj),step (0,x::R)=some (.inr (0,x::R)))
  (l:∀(A R:List Aj) (x y:Aj),(∀t∈A++y::x::R,MSz t.Mono)->(A++y::x::R).length<=N->step (((A.length+1:Nat):Int),A++y::x::R) =
   if Cj x.Mono y.Mono<0 then some (.inl ((A.length:Int),A++x::y::R)) else some (.inr (((A.length+1:Nat):Int),A++y::x::R))) :
  ∀(n:Nat) (A R:List Aj) (x:Aj),A.length=n->(∀t∈A++x::R,MSz t.Mono)->(A++x::R).length<=N ->
   ∃f i,An step ((A.length:Int),A++x::R)=some ((f.length:Int),f++x::(i++R))/\A=f++i/\(∀a∈i,ltT x a)/\∀q y,f=q++[y]->¬ltT x y:=by
 intro n
 induction n with
 | zero=>
  intro A R x g _ _
  have:A = []:=List.length_eq_zero_iff.1 g
  subst this
  exact ⟨[],[],Fj (b x R),rfl,(fun _ h=>by cases h),(fun q y h=>by simp at h)⟩
 | succ n ih=>
  intro A R x g k c
  obtain ⟨B,y,rfl⟩:∃B y,A=B++[y]:=by
   rcases List.eq_nil_or_concat A with h | ⟨B,y,h⟩
   .rw [h] at g; cases g
   .exact ⟨B,y,by simpa using h⟩
  have u:B.length=n:=by simpa using g
  have E:(B++[y])++x::R=B++y::x::R:=by simp
  have el:(((B++[y]).length:Nat):Int)=((B.length+1:Nat):Int):=by simp
  rw [E] at k c ⊢
  rw [el]
  have j:=l B R x y k c
  by_cases hc:Cj x.Mono y.Mono<0
  .rw [if_pos hc] at j
   obtain ⟨f,i,h1,h2,h3,D⟩:=ih B (y::R) x u (by
    intro t ht
    refine k t ?_
    simp only [List.mem_append,List.mem_cons] at ht ⊢
    rcases ht with h | h | h | h <;> simp [h]) (by simpa using c)
   refine ⟨f,i++[y],?_,by rw [h2]; simp,?_,D⟩
   .rw [Kq j,h1]; simp
   .intro a ha
    rcases List.mem_append.1 ha with ha | ha
    .exact h3 a ha
    .simp only [List.mem_singleton] at ha
     subst ha; exact hc
  .rw [if_neg hc] at j
   refine ⟨B++[y],[],?_,by simp,(fun _ h=>by cases h),?_⟩
   .rw [Fj j]; simp
   .intro q z s
    have:=List.append_inj' s rfl
    have e:y=z:=by simpa using this.2
    subst e; exact hc
theorem Avh {a b c:Aj} (h:ltT a b) (h':ltT b c):ltT a c:=Ns h h'
theorem Avi {c j:List Aj} {x:Aj} (u:(c++j).Pairwise ltT) (h2:∀a∈j,ltT x a) (h1:∀g y,c=g++[y]->¬ltT x y) (hd:∀a∈c,a.Mono≠x.Mono):(c++x::j).Pairwise ltT:=by
 obtain ⟨i,s,l⟩:=List.pairwise_append.1 u
 have hx:∀a∈c,ltT a x:=by
  intro a ha
  rcases List.eq_nil_or_concat c with h | ⟨g,y,h⟩
  .rw [h] at ha; cases ha
  .have h:c=g++[y]:=by simpa using h
   have f:ltT y x:=by
    have q:=h1 g y h
    have z:=hd y (by rw [h]; simp)
    unfold ltT at *
    rcases Int.lt_trichotomy (Cj x.Mono y.Mono) 0 with k | k | k
    .exact (q k).elim
    .exact (z (Jq.1 k).symm).elim
    .exact Adh.1 k
   rw [h] at ha i
   rcases List.mem_append.1 ha with ha | ha
   .exact Avh ((List.pairwise_append.1 i).2.2 a ha y (by simp)) f
   .simp only [List.mem_singleton] at ha
    subst ha; exact f
 refine List.pairwise_append.2 ⟨i,List.pairwise_cons.2 ⟨h2,s⟩,fun a ha b hb=>?_⟩
 rcases List.mem_cons.1 hb with rfl | hb
 .exact hx a ha
 .exact l a ha b hb
noncomputable def Vh:Int×List Aj->Option ((Int×List Aj)⊕(Int×List Aj)):=fun (v31,b)=>
 (show Option Bool from
 bif (decide (v31>(0:Int))) then (
 (Af b v31).bind fun v33=>
 (Af b (Ac (v31-1))).bind fun g=>
 (Lr v33 g).bind fun v35=>
 some (decide (v35<(0:Int))))
 else some false).bind fun f=>
 bif f then (
 (Af b (Ac (v31-1))).bind fun v37=>
 (Af b v31).bind fun c=>
 (Af b v31).bind fun v39=>
 (Af (Cq b v31 v37) (Ac (v31-1))).bind fun v40=>
 some (.inl ((Ac (v31-1)),(Cq (Cq b v31 v37) (Ac (v31-1)) c))))
 else some (.inr (v31,b))
theorem Avj (y:Aj) (R:List Aj):Vh (0,y::R)=some (.inr (0,y::R)):=by
 unfold Vh
 simp only [Ap (by omega:¬(0:Int)>0),cond_false,Ad]
theorem Avk {N:Nat} (h:N<=1099511627776) (A R:List Aj) (u y:Aj) (b:∀t∈A++y::u::R,MSz t.Mono) (c:(A++y::u::R).length<=N):Vh (((A.length+1:Nat):Int),A++y::u::R) =
  if Cj u.Mono y.Mono<0 then some (.inl ((A.length:Int),A++u::y::R)) else some (.inr (((A.length+1:Nat):Int),A++y::u::R)):=by
 have g:A.length+1<N:=by simp at c; omega
 have f:Ac (((A.length+1:Nat):Int)-1)=(A.length:Int):=by rw [Ac,Bv] <;> omega
 unfold Vh
 simp only [Ak (by omega:((A.length+1:Nat):Int)>0),cond_true,f,Cg (n:=A.length+1) rfl (Avf A R u y),Cg (n:=A.length) rfl (Alc A (u::R) y),Ad,Adv u y (b u (by simp))]
 by_cases hc:Cj u.Mono y.Mono<0
 .rw [Ak hc,if_pos hc]
  simp only [cond_true]
  rw [F7 (n:=A.length+1) rfl,F7 (n:=A.length) rfl,Ave]
  have:Af ((A++y::u::R).set (A.length+1) y) (A.length:Int)=some y:=by
   refine Cg rfl ?_
   rw [List.getElem?_set_ne (by omega)]; exact Alc A (u::R) y
  rw [this]; rfl
 .rw [Ap hc,if_neg hc]; rfl
theorem Avl (b:List Aj) (hd:Dst b) (I:∀t∈b,MSz t.Mono) (M:b.length<=1099511627776) :
  ∃R,T9 0 (b.length:Int) b=some R/\R.Perm b/\R.Pairwise ltT:=by
 unfold T9
 cases b with
 | nil=>
  refine ⟨[],?_,List.Perm.refl _,List.Pairwise.nil⟩
  refine Nd 0 (fun _=>((1:Int),([]:List Aj))) (by simp [Ac,Bv]) (fun j hj=>by omega) ⟨[],?_,rfl⟩
  simp
 | cons z0 A=>
 generalize f:z0::A=b at *
 have hpos:1<=b.length:=by rw [<-f]; simp
 refine Dt (fun s=>∃(i:Nat) (S:List Aj),s=((i:Int),S++b.drop i)/\1<=i/\i<=b.length/\S.length=i/\S.Perm (b.take i)/\S.Pairwise ltT) (fun s=>b.length-s.1.toNat)
  (fun R=>R.Perm b/\R.Pairwise ltT) ⟨1,[z0],by rw [<-f]; simp [Ac,Bv],by omega,hpos,rfl,by rw [<-f]; simp,List.pairwise_singleton _ _⟩ ?_ ?_
 .rintro _ ⟨i,S,rfl,J,hi,G,c,k⟩
  rcases Nat.lt_or_ge i b.length with h | h
  .have hx:b[i]? = some b[i]:=Bx h
   generalize b[i]=x at hx
   have g:b.drop i=x::b.drop (i+1):=L2 hx
   have z:(S++x::b.drop (i+1)).length=b.length:=by simp; omega
   have y:∀t∈S++x::b.drop (i+1),t∈b:=by
    intro t ht
    rcases List.mem_append.1 ht with ht | ht
    .exact List.mem_of_mem_take (c.mem_iff.1 ht)
    .rw [<-g] at ht; exact List.mem_of_mem_drop ht
   simp only [Ak (by omega:(i:Int)<(b.length:Int)),cond_true,C6 h (by omega)]
   rw [g]
   left
   obtain ⟨q,l,h1,h2,h3,L⟩:=Avg (step:=Vh) b.length (by omega) Avj (Avk (by omega)) S.length S (b.drop (i+1)) x rfl (fun t ht=>I t (y t ht)) (by rw [z]; exact Nat.le_refl _)
   rw [G] at h1
   have hp:(q++x::l).Perm (b.take (i+1)):=by
    rw [Cz hx]
    have:(q++x::l).Perm ((q++l)++[x]):=by
     rw [List.append_assoc]
     exact List.Perm.append_left q (List.perm_append_singleton x l).symm
    exact this.trans (by rw [<-h2]; exact c.append_right [x])
   refine ⟨(((i+1:Nat):Int),(q++x::l)++b.drop (i+1)),bnd h1 (by simp),⟨i+1,q++x::l,rfl,by omega,by omega,?_,hp,?_⟩,by simp; omega⟩
   .rw [hp.length_eq,List.length_take]; omega
   .rw [h2] at k
    refine Avi k h3 L fun a ha=>?_
    have E:a∈b.take i:=c.mem_iff.1 (by rw [h2]; simp [ha])
    have B:x∈b.drop i:=by rw [g]; simp
    have D:(b.take i++b.drop i).Pairwise fun t u=>t.Mono≠u.Mono:=by rw [List.take_append_drop]; exact hd
    exact (List.pairwise_append.1 D).2.2 a E x B
  .have:i=b.length:=by omega
   subst this
   rw [List.take_length] at c
   simp only [Ap (by omega:¬(b.length:Int)<(b.length:Int)),cond_false,List.drop_length,List.append_nil]
   exact .inr ⟨S,rfl,c,k⟩
 .rintro R ⟨h1,h2⟩
  exact ⟨R,rfl,h1,h2⟩
theorem Adw {α:Type} {n:Nat} {l:List α} (h:n=l.length):Ks n l=some ():=by unfold Ks; rw [if_pos h]
theorem Avm {s:ByteArray} {i:Int} (h0:0<=i) (h:i.toNat<s.size):∃c,D7 s i=some c:=by
 unfold D7
 rw [if_pos h0]
 exact ⟨_,getElem?_pos s i.toNat h⟩
set_option maxRecDepth 20000 in
theorem Avn {n:Nat} (h:n<256):∃v,Tk (Au (n:Int))=some v:=by
 unfold Tk W2
 rw [Au,Cn (by omega) (by omega),Ap (by omega)]
 simp only [cond_false,Ad]
 rw [Ap (by omega)]
 simp only [cond_false,Ad]
 rw [Ap (by omega)]
 simp only [cond_false,Ad]
 have b:wu8 (n:Int)=(n:Int):=by
  rw [wu8]; unfold IntKind.wrap; simp [IntKind.bits,IntKind.signed]; omega
 rw [b]
 generalize g:ByteArray.mk _=T
 have f:T.size=256:=by rw [<-g]; rfl
 obtain ⟨c,hc⟩:=Avm (s:=T) (i:=(n:Int)) (by omega) (by rw [f]; simpa using h)
 rw [hc]
 exact ⟨_,rfl⟩
theorem Avo (b:List Aj) (hd:Dst b) (g:∀t∈b,MSz t.Mono) (f:b.length<=12):∃R,Lq b=some R/\R.Perm b/\R.Pairwise ltT:=by
 obtain ⟨R,h1,h2,h3⟩:=Avl b hd g (by omega)
 obtain ⟨v,c⟩:=Avn (n:=b.length) (by omega)
 refine ⟨R,?_,h2,h3⟩
 unfold Lq
 rw [Nat.ble_eq_true_of_le f,cond_true]
 unfold Aby
 rw [c,Ad]
 have hp:Tt 0 (b.length:Int) v b=some R:=by
  unfold Tt
  refine bnd (a:=R) (Fj ?_) rfl
  have w:Ac ((b.length:Int)-0)=(b.length:Int):=by rw [Ac,Bv] <;> omega
  simp only [w,Ak (by omega:(b.length:Int)<=12),cond_true,h1,Ad,Adw h2.length_eq.symm]
 rw [hp,Ad,Adw h2.length_eq.symm]; rfl
def clT (t:Aj):Aj:=⟨B3 (sv t.Coef) (nv t.Coef) (dv t.Coef),t.Mono⟩
theorem Avp {k:Nat} (p:List Aj) (hk:k<34359738000) (hp:∀t∈p,RB k t.Coef/\MSz t.Mono) (b:p.length<=1048576):Te p=some (p.map clT):=by
 unfold Te
 refine E6 p (fun j=>((j:Int),(p.take j).map clT)) rfl (by omega) ?_ ?_
 .intro j x hj hx h1 h2 h3
  obtain ⟨a1,a2⟩:=hp x (Bs hx)
  simp only [h1,h2,h3,cond_true,Ad,Acd x.Coef k a1 (by omega),Auw x.Mono a2]
  rw [C1 (by simp; omega),Ad,Cz hx]
  simp [clT]
 .intro h1
  exact ⟨p.map clT,by simp,rfl⟩
theorem Avq (p:List Aj) (m:Bb):cf (p.map clT) m=cf p m:=by
 induction p with
 | nil=>rfl
 | cons t p ih=>
  simp only [List.map_cons,cf,ih,clT]
  rw [Lc _ _ _ (Ea _)]; rfl
theorem Avr {p q:List Aj} (h:p.Perm q) (m:Bb):cf p m=cf q m:=by
 induction h with
 | nil=>rfl
 | cons x _ ih=>simp only [cf,ih]
 | swap x y l=>simp only [cf]; grind
 | trans _ _ h1 h2=>rw [h1,h2]
def nzT (t:Aj):Bool:=decide (rq t.Coef≠0)
theorem Avs (p:List Aj) (m:Bb):cf (p.filter nzT) m=cf p m:=by
 induction p with
 | nil=>rfl
 | cons t p ih=>
  by_cases h:rq t.Coef=0
  .rw [List.filter_cons_of_neg (by simp [nzT,h]),ih]; simp only [cf,h]; grind
  .rw [List.filter_cons_of_pos (by simp [nzT,h])]; simp only [cf,ih]
theorem Avt (x:Rat):(Nr x != (0:Int))=decide (x≠0):=by
 unfold Nr
 by_cases h1:x<0
 .rw [if_pos h1]
  have:x≠0:=by intro e; subst e; exact absurd h1 (by decide)
  simp [this]
 .rw [if_neg h1]
  by_cases h2:0<x
  .rw [if_pos h2]
   have:x≠0:=by intro e; subst e; exact absurd h2 (by decide)
   simp [this]
  .rw [if_neg h2]
   have:x=0:=Rat.le_antisymm (Rat.not_lt.1 h2) (Rat.not_lt.1 h1)
   simp [this]
theorem Avu {α:Type} {f:α->Bool} {l:List α} {j:Nat} {x:α} (h:l[j]? = some x):(l.take (j+1)).filter f=(l.take j).filter f++(if f x then [x] else []):=by
 rw [Cz h,List.filter_append]; congr 1; cases k:f x <;> simp [List.filter,k]
theorem Avv {k:Nat} {P:Bb->Prop} (q:∀m,P m->CMo m) (o:List (ByteArray×Int)) (ts:List Aj) (h:Col k P ts) (hk:k<34359738000) (A:ts.length<=1000)
  (z:∀c:List Aj,c.length<=ts.length->Dst c->(∀t∈c,MSz t.Mono)->∃R,Lq c=some R/\R.Perm c/\R.Pairwise ltT) :
  ∃R,Ku o ts=some (R,0)/\CP R/\(∀m,cf R m=cf ts m)/\(∀t∈R,P t.Mono/\RB (k+1) t.Coef)/\R.length<=ts.length:=by
 unfold Ku
 have g:(ts.filter nzT).length<=ts.length:=List.length_filter_le _ _
 obtain ⟨S,y,f,s⟩:=z (ts.filter nzT) g (List.Pairwise.filter _ h.dst) (fun t ht=>(q _ (h.mo t (List.mem_filter.1 ht).1)).sz)
 have b:∀t∈S,t∈ts/\rq t.Coef≠0:=by
  intro t ht
  have:=List.mem_filter.1 (f.mem_iff.1 ht)
  exact ⟨this.1,by simpa [nzT] using this.2⟩
 refine ⟨S.map clT,?_,⟨?_,?_⟩,?_,?_,?_⟩
 .refine E6 ts (fun j=>((j:Int),(ts.take j).filter nzT)) rfl (by omega) ?_ ?_
  .intro j x hj hx h1 h2 h3
   have hb:=h.tb x (Bs hx)
   have l:((ts.take j).filter nzT).length<=ts.length:=Nat.le_trans (List.length_filter_le _ _) (by rw [List.length_take]; omega)
   simp only [h1,h2,h3,cond_true,Ad,(Ade hb hk).1,Avt]
   rw [Avu hx]
   by_cases i:rq x.Coef=0
   .have:nzT x=false:=by simp [nzT,i]
    rw [Ap (by simpa using i),this]; simp
   .have:nzT x=true:=by simp [nzT,i]
    rw [Ak i,this]
    simp only [cond_true]
    rw [C1 (by simp; omega)]; simp
  .intro h1
   refine ⟨ts.filter nzT,by simp only [h1,cond_false,List.take_length],?_⟩
   rw [Ap (by omega)]
   simp only [cond_false]
   rw [y,Ad,Adw f.length_eq.symm,Ad,
    Avp (k:=k) S hk (fun t ht=>⟨h.tb t (b t ht).1,(q _ (h.mo t (b t ht).1)).sz⟩) (by rw [f.length_eq]; omega)]; rfl
 .rw [List.pairwise_map]; exact s
 .intro t ht
  obtain ⟨u,hu,rfl⟩:=List.mem_map.1 ht
  refine ⟨Vb _ _ _ (Ea _),?_⟩
  show rq (B3 _ _ _)≠0
  rw [Lc _ _ _ (Ea _)]; exact (b u hu).2
 .intro m
  rw [Avq,Avr f,Avs]
 .intro t ht
  obtain ⟨u,hu,rfl⟩:=List.mem_map.1 ht
  exact ⟨h.mo u (b u hu).1,Ack (h.tb u (b u hu).1)⟩
 .rw [List.length_map,f.length_eq]; exact g
end Go.Ab
namespace Go.Ab
open Go
theorem Adx (x:B5) (g:CSz x) (ps:List (List Aj)) (B:∀p∈ps,∀t∈p,TSz t) (U:ps.length<=1048576) :
  ∃r,It x ps=some r/\(((Fp x/\∀p∈ps,Fo x.Data x.Vars x.Res p=true)/\∃A,r = .inl (true,x,A,[],x.Data,x.Vars,x.Res.Kind,x.Res.Num,x.Res.Args)/\E7 x.Data x.Vars x.Res A) \/
   ((¬(Fp x/\∀p∈ps,Fo x.Data x.Vars x.Res p=true))/\r = .inr false)):=by
 obtain ⟨b,b1,b2⟩:=Asy g.ds
 have N:=g.nv
 have M:=g.rs
 unfold It
 rw [b1,Acl x.Data x.Res 0 (by omega)]
 by_cases l:x.Vars.length<=3000
 .rw [Ap (by omega)]
  simp only [cond_false,Ad]
  cases b with
  | false=>exact ⟨_,rfl,.inr ⟨fun h=>(by have:=b2.2 h.1.2.1; cases this),rfl⟩⟩
  | true=>
   have L:=b2.1 rfl
   simp only [Dm,cond_false]
   cases E:(Eu x.Data 0 x.Res&&decide (Ba x.Res<=200)) with
   | false=>exact ⟨_,rfl,.inr ⟨fun h=>(by have:=h.1.2.2.1; rw [show Ig x.Data x.Res=false from E] at this; cases this),rfl⟩⟩
   | true=>
    simp only [Dm,cond_false,Ad]
    refine Dt (fun i=>∃j:Nat,i=j/\j<=x.Vars.length/\(x.Vars.take j).all (Ig x.Data)=true) (fun i=>x.Vars.length-i.toNat)
     (fun z=>match z with | .inl r=>r=false/\¬Fp x | .inr _=>Fp x) ⟨0,rfl,by omega,by simp⟩ ?_ ?_
    .rintro i ⟨j,rfl,hj,c⟩
     rcases Nat.lt_or_ge j x.Vars.length with h | h
     .have ht:x.Vars[j]? = some x.Vars[j]:=Bx h
      generalize x.Vars[j]=t at ht
      have:=g.vs t (Bs ht)
      simp only [Ak (by omega:(j:Int)<(x.Vars.length:Int)),cond_true,Cg rfl ht,Ad,Acl x.Data t 0 (by omega),C6 h (by omega)]
      rw [show (Eu x.Data 0 t&&decide (Ba t<=200))=Ig x.Data t from rfl]
      cases I:Ig x.Data t with
      | true=>exact .inl ⟨_,rfl,⟨j+1,rfl,by omega,by rw [Cz ht,List.all_append,c]; simp [I]⟩,by simp; omega⟩
      | false=>
       refine .inr ⟨.inl false,rfl,rfl,fun D=>?_⟩
       have:=List.all_eq_true.1 D.2.2.2 t (Bs ht)
       rw [I] at this; cases this
     .have:j=x.Vars.length:=by omega
      subst this
      rw [List.take_length] at c
      exact .inr ⟨.inr (),by simp,l,L,E,c⟩
    .rintro (r | u) f
     .obtain ⟨rfl,f⟩:=f
      exact ⟨_,rfl,.inr ⟨fun h=>f h.1,rfl⟩⟩
     .have J:Fp x:=f
      simp only
      refine Dt (fun s=>∃(j:Nat) (o:List (ByteArray×Int)),s=((j:Int),o)/\j<=ps.length/\E7 x.Data x.Vars x.Res o/\∀p∈ps.take j,Fo x.Data x.Vars x.Res p=true) (fun s=>ps.length-s.1.toNat)
       (fun z=>match z with | .inl r=>r=false/\¬(∀p∈ps,Fo x.Data x.Vars x.Res p=true) | .inr o=>E7 x.Data x.Vars x.Res o/\∀p∈ps,Fo x.Data x.Vars x.Res p=true)
       ⟨0,[],rfl,by omega,(fun q h=>by cases h),(fun q h=>by simp at h)⟩ ?_ ?_
      .rintro _ ⟨j,o,rfl,hj,G,c⟩
       rcases Nat.lt_or_ge j ps.length with h | h
       .have ht:ps[j]? = some ps[j]:=Bx h
        generalize ps[j]=p at ht
        have k:=Bs ht
        obtain ⟨A,S,R⟩:=Aua (J.ctx g) [] G p (B p k)
        simp only [Ak (by omega:(j:Int)<(ps.length:Int)),cond_true,Cg rfl ht,Ad,S,C6 h (by omega)]
        cases y:Fo x.Data x.Vars x.Res p with
        | true=>
         refine .inl ⟨_,rfl,⟨j+1,A,rfl,by omega,R,fun q hq=>?_⟩,by simp; omega⟩
         rw [Cz ht] at hq
         rcases List.mem_append.1 hq with hq | hq
         .exact c q hq
         .simp only [List.mem_singleton] at hq
          subst hq; exact y
        | false=>
         refine .inr ⟨.inl false,rfl,rfl,fun D=>?_⟩
         have:=D p k
         rw [y] at this; cases this
       .have:j=ps.length:=by omega
        subst this
        rw [List.take_length] at c
        exact .inr ⟨.inr o,by simp,G,c⟩
      .rintro (r | o) hw
       .obtain ⟨rfl,hw⟩:=hw
        exact ⟨_,rfl,.inr ⟨fun h=>hw h.2,rfl⟩⟩
       .exact ⟨_,rfl,.inl ⟨⟨J,hw.2⟩,o,rfl,hw.1⟩⟩
 .rw [Ak (by omega)]
  exact ⟨_,rfl,.inr ⟨fun h=>l h.1.1,rfl⟩⟩
theorem Avw {data:List Ay} {vars:List Ah} {res:Ah} {m:Bb} (h:Gy data vars res m=true) (q:MSz m):CMo m:=by
 have c:=(Aud h).2
 unfold Gy at h
 simp only [De,decide_eq_true_eq] at h
 obtain ⟨⟨h1,h2⟩,h3⟩:=h
 have b:∀f∈m.Factors,0<=Ei data vars res f:=by
  intro f c
  obtain ⟨j,hj⟩:=List.getElem?_of_mem c
  have:=G7 h1 hj
  simp only [L8,De,decide_eq_true_eq] at this
  omega
 have ha:∀a∈m.Atoms,1<=a.Deg/\Hg a.Lin=true/\a.Lin.Terms≠[]:=by
  intro a ha
  obtain ⟨j,hj⟩:=List.getElem?_of_mem ha
  have:=G7 h2 hj
  simp only [Jp,De,decide_eq_true_eq] at this
  refine ⟨this.1.1.1.1,this.1.1.1.2,fun e=>?_⟩
  have k:=this.1.1.2
  rw [e] at k; simp at k
 obtain ⟨a1,a2,a3⟩:=U9 m.Atoms fun a h=>by have:=(ha a h).1; omega
 have f1:=Akb m.Factors b
 have al:(m.Atoms.length:Int)<=Eb m.Atoms:=by
  have key:∀l:List Ca,(∀a∈l,1<=a.Deg)->(l.length:Int)<=Eb l:=by
   intro l
   induction l with
   | nil=>intro _; simp [Eb]
   | cons f fs ih=>
    intro i
    have h1:=i f (by simp)
    have h2:=ih (fun g s=>i g (by simp [s]))
    unfold Eb at *
    simp only [List.map_cons,List.sum_cons,List.length_cons]; omega
  exact key _ fun a h=>(ha a h).1
 exact ⟨q,c,by omega,fun a h=>⟨(ha a h).2.1,(ha a h).2.2,(ha a h).1,by have:=a3 a h; omega⟩⟩
def Iz (x:B5) (m:Bb):Prop:=Gy x.Data x.Vars x.Res m=true/\MSz m
theorem Iz.cmo {x:B5} {m:Bb} (h:Iz x m):CMo m:=Avw h.1 h.2
structure Ga (x:B5) (p:List Aj):Prop where
 can:Fo x.Data x.Vars x.Res p=true
 sz:∀t∈p,TSz t
theorem Ga.cp {x:B5} {p:List Aj} (h:Ga x p):CP p:=(Yx.1 h.can).2.1
theorem Ga.mo {x:B5} {p:List Aj} (h:Ga x p):∀t∈p,Iz x t.Mono:=fun t ht=>⟨(Yx.1 h.can).2.2 t ht,(h.sz t ht).mo⟩
theorem Ga.of {x:B5} {p:List Aj} (hc:CP p) (b:∀t∈p,Iz x t.Mono) (c:∀t∈p,RB 1048576 t.Coef) (f:p.length<=1000):Ga x p :=
 ⟨Yx.2 ⟨f,hc,fun t ht=>(b t ht).1⟩,fun t ht=>⟨c t ht,(b t ht).2⟩⟩
theorem Ga.tb {x:B5} {p:List Aj} (h:Ga x p):∀t∈p,RB 1048576 t.Coef/\Iz x t.Mono:=fun t ht=>⟨(h.sz t ht).co,h.mo t ht⟩
theorem Ald {x:B5} (i:CSz x) (k:Fp x) {p q:List Aj} (hp:Ga x p) (hq:Ga x q):∃f,It x [p,q]=some (.inl (true,x,f,[],x.Data,x.Vars,x.Res.Kind,x.Res.Num,x.Res.Args)):=by
 have b:∀r∈[p,q],Ga x r:=by
  intro r c
  simp only [List.mem_cons,List.not_mem_nil,or_false] at c
  rcases c with rfl | rfl <;> assumption
 obtain ⟨r,h,g⟩:=Adx x i [p,q] (fun r c=>(b r c).sz) (by simp)
 rcases g with ⟨_,f,e,_⟩ | ⟨j,_⟩
 .exact ⟨f,by rw [h,e]⟩
 .exact (j ⟨k,fun r c=>(b r c).can⟩).elim
theorem Ale {r:A5} {j k:Nat} (q:List Aj) (y:RB j r) (hq:∀t∈q,RB k t.Coef) (hj:j<34359738000) (hk:k<34359738000) (D:q.length<=1048576) :
  ∃x,Qt q r=some x/\x.length=q.length/\(∀m,cf x m=cf q m*rq r)/\∀t∈x,RB (k+j+2) t.Coef/\∃u∈q,u.Mono=t.Mono:=by
 unfold Qt
 refine Dt (fun s=>∃(i:Nat) (o:List Aj),s=((i:Int),o)/\i<=q.length/\o.length=i/\(∀m,cf o m=cf (q.take i) m*rq r)/\∀t∈o,RB (k+j+2) t.Coef/\∃u∈q,u.Mono=t.Mono) (fun s=>q.length-s.1.toNat)
  (fun o=>o.length=q.length/\(∀m,cf o m=cf q m*rq r)/\∀t∈o,RB (k+j+2) t.Coef/\∃u∈q,u.Mono=t.Mono) ⟨0,[],rfl,by omega,rfl,(fun m=>by simp only [List.take_zero,cf]; grind),fun _ h=>by cases h⟩ ?_ ?_
 .rintro _ ⟨i,o,rfl,hi,l,b,g⟩
  rcases Nat.lt_or_ge i q.length with h | h
  .have hx:q[i]? = some q[i]:=Bx h
   generalize q[i]=t at hx
   have f:=Bs hx
   obtain ⟨c,B,_,A,E,z⟩:=Akh (hq t f) y hk hj
   simp only [Ak (by omega:(i:Int)<(q.length:Int)),cond_true,Cg rfl hx,Ad,B,C6 h (by omega)]
   rw [C1 (by simp; omega)]
   refine .inl ⟨_,rfl,⟨i+1,o++[⟨c,t.Mono⟩],rfl,by omega,by simp [l],fun m=>?_,fun w hw=>?_⟩,by simp; omega⟩
   .rw [Kj,b,Cz hx,Kj]
    simp only [cf,z]
    split <;> grind
   .rcases List.mem_append.1 hw with hw | hw
    .exact g w hw
    .simp only [List.mem_singleton] at hw
     subst hw
     exact ⟨A,t,f,rfl⟩
  .have:i=q.length:=by omega
   subst this
   rw [List.take_length] at b
   simp only [Ap (by omega:¬(q.length:Int)<(q.length:Int)),cond_false]
   exact .inr ⟨_,rfl,l,b,g⟩
 .rintro o ⟨h1,h2,h3⟩
  exact ⟨_,rfl,h1,h2,h3⟩
theorem Avx:∃r,H5 (-1)=some r/\RB 1 r/\rq r = -1:=by
 refine ⟨_,Arf (-1) (by decide) (by decide),?_,?_⟩
 .exact Pm _ _ _ 1 (Ic (by decide)) (Ic (by decide)) (by omega)
 .rw [Lc _ _ _ (by decide)]; decide
end Go.Ab
namespace Go.Ab
open Go
end Go.Ab
namespace Go.Ab
open Go
end Go.Ab
namespace Go.Ab
open Go
end Go.Ab
namespace Go.Ab
open Go
end Go.Ab
namespace Go.Ab
open Go
structure Asc (b:List Int) (n:Nat) (l:List Int):Prop where
 up:l.Pairwise (· < ·)
 mem:∀y,y∈l↔y∈b.take n
theorem Avy {b:List Int} (c:b.Pairwise (·<=·)) {q:Nat} {p:Int} (hp:b[q]? = some p):∀y∈b.take (q+1),y<=p:=by
 intro y hy
 obtain ⟨i,hi⟩:=List.getElem?_of_mem hy
 rw [List.getElem?_take] at hi
 split at hi
 .rename_i f
  by_cases e:i=q
  .subst e; rw [hi] at hp; cases hp; exact Int.le_refl _
  .have h1:=Di hi
   have h2:=Di hp
   have:=(List.pairwise_iff_getElem.1 c) i q h1 h2 (by omega)
   rw [Bx h1] at hi
   rw [Bx h2] at hp
   cases hi; cases hp; exact this
 .cases hi
theorem Asc.step {b:List Int} (g:b.Pairwise (·<=·)) {q:Nat} {l:List Int} {p x:Int} (h:Asc b (q+1) l) (hp:b[q]? = some p) (hx:b[q+1]? = some x) (j:x≠p):Asc b (q+2) (l++[x]):=by
 have f:=Avy g hp
 have i:p<x:=by
  have h1:=Di hp
  have h2:=Di hx
  have:=(List.pairwise_iff_getElem.1 g) q (q+1) h1 h2 (by omega)
  rw [Bx h1] at hp
  rw [Bx h2] at hx
  cases hp; cases hx; omega
 refine ⟨?_,fun y=>?_⟩
 .rw [List.pairwise_append]
  refine ⟨h.up,by simp,fun a ha c hc=>?_⟩
  rw [List.mem_singleton] at hc
  subst hc
  have:=f a ((h.mem a).1 ha)
  omega
 .rw [Cz hx,List.mem_append,List.mem_append,h.mem y]
theorem Asc.same {b:List Int} {q:Nat} {l:List Int} {x:Int} (h:Asc b (q+1) l) (hp:b[q]? = some x) (hx:b[q+1]? = some x):Asc b (q+2) l:=by
 refine ⟨h.up,fun y=>?_⟩
 rw [Cz hx,List.mem_append,h.mem y]
 constructor
 .exact .inl
 .rintro (h1 | h1)
  .exact h1
  .rw [List.mem_singleton] at h1
   subst h1
   rw [Cz hp]; simp
theorem Vi {α:Type} {l:List α} {off n:Nat} {i:Int} {j:Nat} {x:α} (hi:i=j) (hj:j<n) (h:l[off+j]? = some x):Ey l off n i=some x:=by
 subst hi
 unfold Ey
 rw [if_pos (by omega)]; simpa using h
end Go.Ab
namespace Go.Ab
open Go
end Go.Ab
namespace Go.Ab
open Go
end Go.Ab
namespace Go.Ab
open Go
end Go.Ab
namespace Go.Ab
open Go
end Go.Ab
namespace Go.Ab
open Go
theorem Avz:Wu=some true:=by kernel_rfl
end Go.Ab
namespace Go.Ab
open Go
end Go.Ab
namespace Go.Ab
open Go
theorem Alf (l:List Int) (b:l.length<=1099511627776):Qv l l=some true:=by
 unfold Qv
 rw [C5 rfl,cond_false]
 refine E6 l (fun j=>(j:Int)) rfl (by omega) ?_ ?_
 .intro j x hj hx h1 h2 h3
  simp only [h1,h2,h3,cond_true,Ad,bne_self_eq_false,cond_false]
 .intro h
  exact ⟨.inr (),by simp only [h]; rfl,rfl⟩
theorem Av0 (a:A5) (h1:a.Num.length<=1099511627776) (h2:a.Den.length<=1099511627776):Qs a a=some true:=by
 unfold Qs
 rw [beq_self_eq_true,cond_true,Alf _ h1,Ad,cond_true,Alf _ h2,Ad]
theorem Av1:∀(k:Nat) (i:A8) (a:Int),Ct i<=k->k<1099511627776->∃r,Ol k i a=some r/\True:=by
 intro k
 induction k with
 | zero=>intro i a h; have:=E3 i; omega
 | succ k ih=>
  intro i a h hk
  have f:=E3 i
  have g:=Kf i.Kids
  rw [Ol]
  refine K9 ⟨_,rfl,trivial⟩ ?_
  refine Dt (fun (v,_)=>∃j:Nat,v=j/\j<=i.Kids.length) (fun (v,_)=>i.Kids.length-v.toNat) (fun _=>True) ⟨0,rfl,by omega⟩ ?_ ?_
  .rintro ⟨v,b⟩ ⟨j,rfl,hj⟩
   rcases Nat.lt_or_ge j i.Kids.length with h' | h'
   .have hx:i.Kids[j]? = some i.Kids[j]:=Bx h'
    generalize i.Kids[j]=x at hx
    have l:=Jk (Bs hx)
    obtain ⟨⟨y,z⟩,c,_⟩:=ih x b (by omega) (by omega)
    simp only [Ak (by omega:(j:Int)<(i.Kids.length:Int)),cond_true,Cg rfl hx,Ad,c,C6 h' (by omega)]
    cases y with
    | false=>exact .inr ⟨_,rfl,trivial⟩
    | true=>exact .inl ⟨_,rfl,⟨j+1,rfl,by omega⟩,by simp only [Int.toNat_natCast]; omega⟩
   .have:j=i.Kids.length:=by omega
    subst this
    exact .inr ⟨.inr b,by simp,trivial⟩
  .rintro (⟨x,y⟩ | e) _
   .exact ⟨_,rfl,trivial⟩
   .exact ⟨_,rfl,trivial⟩
theorem Av2 (i:A8) (h:Ct i<=1048576):∃b,S6 i=some b:=by
 unfold S6
 obtain ⟨r,h1,_⟩:=Av1 4000000 i 40 (by omega) (by omega)
 exact ⟨_,by rw [h1]; rfl⟩
def P0 (m:Bb):Prop:=m.Factors.length<=8/\m.Atoms.length<=8/\∀a∈m.Atoms,a.Lin.Terms.length<=70
theorem Av3 (m:Bb) (i:MSz m):∃b,S3 m=some b/\(b=true->P0 m):=by
 unfold S3
 by_cases h1:(m.Factors.length:Int)>8
 .rw [Ak h1]
  exact ⟨false,rfl,fun h=>by cases h⟩
 .rw [Ap h1]
  by_cases h2:(m.Atoms.length:Int)>8
  .rw [Ak h2]
   exact ⟨false,rfl,fun h=>by cases h⟩
  .rw [Ap h2]
   simp only [cond_false,Ad]
   refine Dt (fun v=>∃j:Nat,v=j/\j<=m.Factors.length) (fun v=>m.Factors.length-v.toNat) (fun z=>z = .inl false\/z = .inr ()) ⟨0,rfl,by omega⟩ ?_ ?_
   .rintro v ⟨j,rfl,hj⟩
    rcases Nat.lt_or_ge j m.Factors.length with h' | h'
    .have hx:m.Factors[j]? = some m.Factors[j]:=Bx h'
     generalize m.Factors[j]=x at hx
     obtain ⟨b,hb⟩:=Av2 x.Index (i.fi x (Bs hx))
     simp only [Ak (by omega:(j:Int)<(m.Factors.length:Int)),cond_true,Cg rfl hx,Ad,hb,C6 h' (by omega)]
     cases b with
     | false=>exact .inr ⟨_,rfl,.inl rfl⟩
     | true=>exact .inl ⟨_,rfl,⟨j+1,rfl,by omega⟩,by simp only [Int.toNat_natCast]; omega⟩
    .have:j=m.Factors.length:=by omega
     subst this
     exact .inr ⟨.inr (),by simp,.inr rfl⟩
   .rintro z (rfl | rfl)
    .exact ⟨false,rfl,fun h=>by cases h⟩
    .dsimp only
     refine Dt (fun v=>∃j:Nat,v=j/\j<=m.Atoms.length/\∀a∈m.Atoms.take j,a.Lin.Terms.length<=70) (fun v=>m.Atoms.length-v.toNat) (fun z=>z = .inl false\/(z = .inr ()/\∀a∈m.Atoms,a.Lin.Terms.length<=70)) ⟨0,rfl,by omega,by simp⟩ ?_ ?_
     .rintro v ⟨j,rfl,hj,c⟩
      rcases Nat.lt_or_ge j m.Atoms.length with h' | h'
      .have hx:m.Atoms[j]? = some m.Atoms[j]:=Bx h'
       generalize m.Atoms[j]=x at hx
       simp only [Ak (by omega:(j:Int)<(m.Atoms.length:Int)),cond_true,Cg rfl hx,Ad,Wv,C6 h' (by omega)]
       by_cases f:(x.Lin.Terms.length:Int)<=70
       .rw [Ak f]
        refine .inl ⟨_,rfl,⟨j+1,rfl,by omega,fun a ha=>?_⟩,by simp only [Int.toNat_natCast]; omega⟩
        rw [Cz hx] at ha
        rcases List.mem_append.1 ha with ha | ha
        .exact c a ha
        .rw [List.mem_singleton] at ha
         subst ha; omega
       .rw [Ap f]
        exact .inr ⟨_,rfl,.inl rfl⟩
      .have:j=m.Atoms.length:=by omega
       subst this
       rw [List.take_length] at c
       exact .inr ⟨.inr (),by simp,.inr ⟨rfl,c⟩⟩
     .rintro z (rfl | ⟨rfl,g⟩)
      .exact ⟨false,rfl,fun h=>by cases h⟩
      .exact ⟨true,rfl,fun _=>⟨by omega,by omega,g⟩⟩
theorem Av4 (p:List Aj) (q:p.length<=1048576) (hp:∀t∈p,TSz t):∃b,S0 p 10=some b/\(b=true->p.length<=10/\∀t∈p,P0 t.Mono):=by
 unfold S0
 refine Dt (fun v=>∃j:Nat,v=j/\j<=p.length/\j<=11/\∀t∈p.take j,P0 t.Mono) (fun v=>p.length-v.toNat) (fun z=>z = .inl false\/(z = .inr ()/\(p.length<=10->∀t∈p,P0 t.Mono))) ⟨0,rfl,by omega,by omega,by simp⟩ ?_ ?_
 .rintro v ⟨j,rfl,hj,g,f⟩
  rcases Nat.lt_or_ge j p.length with h' | h'
  .by_cases l:j<=10
   .have hx:p[j]? = some p[j]:=Bx h'
    generalize p[j]=x at hx
    obtain ⟨b,hb,k⟩:=Av3 x.Mono (hp x (Bs hx)).mo
    simp only [Ak (by omega:(j:Int)<(p.length:Int)),Ak (by omega:(j:Int)<=10),cond_true,Cg rfl hx,Ad,hb,C6 h' (by omega)]
    cases b with
    | false=>exact .inr ⟨_,rfl,.inl rfl⟩
    | true=>
     simp only [Dm,cond_false]
     have:∃c,Mm x.Coef=some c:=by
      unfold Mm
      cases decide ((x.Coef.Num.length:Int)<=8) with
      | true=>exact ⟨_,rfl⟩
      | false=>exact ⟨_,rfl⟩
     obtain ⟨c,hc⟩:=this
     rw [hc,Ad]
     cases c with
     | false=>exact .inr ⟨_,rfl,.inl rfl⟩
     | true=>
      refine .inl ⟨_,rfl,⟨j+1,rfl,by omega,by omega,fun t ht=>?_⟩,by simp only [Int.toNat_natCast]; omega⟩
      rw [Cz hx] at ht
      rcases List.mem_append.1 ht with ht | ht
      .exact f t ht
      .rw [List.mem_singleton] at ht
       subst ht; exact k rfl
   .refine .inr ⟨.inr (),?_,.inr ⟨rfl,fun h=>by omega⟩⟩
    simp only [Ak (by omega:(j:Int)<(p.length:Int)),Ap (by omega:¬(j:Int)<=10),cond_true,cond_false,Ad]
  .have:j=p.length:=by omega
   subst this
   rw [List.take_length] at f
   exact .inr ⟨.inr (),by simp,.inr ⟨rfl,fun _=>f⟩⟩
 .rintro z (rfl | ⟨rfl,i⟩)
  .exact ⟨false,rfl,fun h=>by cases h⟩
  .refine ⟨decide ((p.length:Int)<=10),rfl,fun h=>?_⟩
   rw [decide_eq_true_eq] at h
   exact ⟨by omega,i (by omega)⟩
end Go.Ab
namespace Go.Ab
open Go
end Go.Ab
namespace Go.Ab
open Go
end Go.Ab
namespace Go.Ab
open Go
end Go.Ab
namespace Go.Ab
open Go
theorem Av5:∀(k:Nat) (t:A8),Ct t<=k->k<1099511627776->O3 k t=some t:=by
 intro k
 induction k with
 | zero=>intro t h; have:=E3 t; omega
 | succ k ih=>
  intro t h hk
  have c:=E3 t
  have b:=Kf t.Kids
  rw [O3]
  refine E6 t.Kids (fun j=>((j:Int),(t.Kids.take j))) rfl (by omega) ?_ ?_
  .intro j x hj hx h1 h2 h3
   have:=Jk (Bs hx)
   simp only [h1,h2,h3,cond_true,Ad,ih x (by omega) (by omega)]
   rw [C1 (by simp; omega),Ad,Cz hx]
  .intro h1
   exact ⟨t.Kids,by simp,by cases t; rfl⟩
theorem Av6 (m:Bb) (b:MSz m):Tp m=some m:=by
 have g:=b.nf
 have f:=b.na
 unfold Tp
 refine E6 m.Factors (fun j=>((j:Int),(m.Factors.take j))) rfl (by omega) ?_ ?_
 .intro j x hj hx h1 h2 h3
  have c:=Bs hx
  have:=b.fi x c
  simp only [h1,h2,h3,cond_true,Ad,Av5 4000000 x.Index (by omega) (by omega)]
  rw [C1 (by simp; omega),Ad,Cz hx]
 .intro h1
  refine ⟨m.Factors,by simp,?_⟩
  dsimp only
  refine E6 m.Atoms (fun j=>((j:Int),(m.Atoms.take j))) rfl (by omega) ?_ ?_
  .intro j x hj hx h1 h2 h3
   have c:=Bs hx
   have:=b.al x c
   simp only [h1,h2,h3,cond_true,Ad,W3]
   rw [C1 (by simp; omega),Ad,Ad,C1 (by simp; omega),Ad,Cz hx]; rfl
  .intro h1
   exact ⟨m.Atoms,by simp,by cases m; rfl⟩
theorem Av7 {α:Type} (b:List α) (n k:Nat) (z x:α) (B:n<=b.length) (hk:k<=n) (hb:n<=1000000) :
  ∃c:List α,((Hr (n+1) (Ac ((k:Int)+1)) (((n+1:Nat):Nat):Int)).bind fun v8=>
    match v8 with
    | .inl v9=>
     (Iq (n+1) (k:Int) (((n+1:Nat):Nat):Int)).bind fun f=>
     (Kr (Cv b n [z]) (0+v9.1) (v9.2-v9.1) (0+f.1) (f.2-f.1)).bind fun l=>some l
    | .inr _=>(Iq (n+1) (k:Int) (((n+1:Nat):Nat):Int)).bind fun v12=>some (Cv b n [z]))=some c/\c.length=max b.length (n+1) /\
   (c.set k x).take (n+1)=(b.take n).take k++x::(b.take n).drop k:=by
 have g:(Cv b n [z]).length=max b.length (n+1):=by rw [Lg B]; rfl
 have s:∀i,i<n->(Cv b n [z])[i]? = b[i]?:=fun i hi=>by rw [Nw B,if_pos hi]
 have E:Ac ((k:Int)+1)=((k+1:Nat):Int):=C6 (n:=n+1) (by omega) (by omega)
 have u:Iq (n+1) (k:Int) (((n+1:Nat):Nat):Int)=some (k,n+1):=by
  unfold Iq
  rw [if_pos (by omega)]; simp
 have key:∃c:List α,((Hr (n+1) (Ac ((k:Int)+1)) (((n+1:Nat):Nat):Int)).bind fun v8=>
    match v8 with
    | .inl v9=>
     (Iq (n+1) (k:Int) (((n+1:Nat):Nat):Int)).bind fun f=>
     (Kr (Cv b n [z]) (0+v9.1) (v9.2-v9.1) (0+f.1) (f.2-f.1)).bind fun l=>some l
    | .inr _=>(Iq (n+1) (k:Int) (((n+1:Nat):Nat):Int)).bind fun v12=>some (Cv b n [z]))=some c/\c.length=max b.length (n+1)/\(∀i,i<k->c[i]? = b[i]?)/\∀i,k<=i->i<n->c[i+1]? = b[i]?:=by
  rw [E,u]
  by_cases G:k<n
  .have q:Hr (n+1) ((k+1:Nat):Int) (((n+1:Nat):Nat):Int)=some (.inl (k+1,n+1)):=by
    unfold Hr
    rw [if_pos (by omega),if_pos (by omega)]; simp
   rw [q,Ad]
   dsimp only
   have A:Kr (Cv b n [z]) (0+(k+1)) (n+1-(k+1)) (0+k) (n+1-k)=some (Cv (Cv b n [z]) (0+(k+1)) (((Cv b n [z]).drop (0+k)).take (min (n+1-k) (n+1-(k+1))))):=by
    unfold Kr
    rw [if_pos (by omega)]
   rw [Ad]
   dsimp only
   rw [A,Ad]
   have hd:(((Cv b n [z]).drop (0+k)).take (min (n+1-k) (n+1-(k+1)))).length=n-k:=by
    rw [List.length_take,List.length_drop,g]; omega
   refine ⟨_,rfl,?_,fun i hi=>?_,fun i hi h=>?_⟩
   .rw [Lg (by rw [g]; omega),g,hd]; omega
   .rw [Nw (by rw [g]; omega),if_pos (by omega),s i (by omega)]
   .rw [Nw (by rw [g]; omega),if_neg (by omega),if_pos (by rw [hd]; omega),List.getElem?_take,if_pos (by omega),List.getElem?_drop,show 0+k+(i+1-(0+(k+1)))=i by omega,s i h]
  .have D:k=n:=by omega
   have q:Hr (n+1) ((k+1:Nat):Int) (((n+1:Nat):Nat):Int)=some (.inr ()):=by
    unfold Hr
    rw [if_pos (by omega),if_neg (by omega)]
   rw [q,Ad]
   dsimp only
   rw [Ad]
   exact ⟨_,rfl,g,fun i hi=>s i (by omega),fun i hi h=>by omega⟩
 obtain ⟨c,g1,g2,g3,g4⟩:=key
 refine ⟨c,g1,g2,?_⟩
 have y:((b.take n).take k).length=k:=by rw [List.length_take,List.length_take]; omega
 apply List.ext_getElem?
 intro i
 rw [List.getElem?_take,List.getElem?_set]
 by_cases h1:i<k
 .rw [if_pos (by omega),if_neg (by omega),g3 i h1,List.getElem?_append_left (by omega),List.getElem?_take,if_pos h1,List.getElem?_take,if_pos (by omega)]
 .rw [List.getElem?_append_right (by omega),y]
  by_cases h2:i=k
  .subst h2
   rw [if_pos (by omega),if_pos rfl,if_pos (by omega),Nat.sub_self]; rfl
  .obtain ⟨j,hj⟩:∃j,i=j+1:=⟨i-1,by omega⟩
   subst hj
   rw [show j+1-k=(j-k)+1 by omega,List.getElem?_cons_succ,List.getElem?_drop,show k+(j-k)=j by omega,List.getElem?_take]
   by_cases h3:j<n
   .rw [if_pos (by omega),if_neg (by omega),g4 j (by omega) h3,if_pos h3]
   .rw [if_neg (by omega),if_neg h3]
theorem Av8 {α:Type} (c:Nat) (b:List α) (n k:Nat) (u:n<=b.length) (hk:k<n) (hb:(b.length+n)*c<=140737488355328) (q:n<=1000000) :
  ∃o:List α,((Hr n (Ac ((k:Int)+1)) ((n:Nat):Int)).bind fun v21=>
    match v21 with
    | .inl v22=>(Ql c b k (0+v22.1) (v22.2-v22.1)).bind fun v23=>some (v23.2,v23.1)
    | .inr _=>(Li c b k []).bind fun v24=>some (v24.2,v24.1))=some (n-1,o)/\n-1<=o.length/\o.length<=b.length/\o.take (n-1)=(b.take n).take k++(b.take n).drop (k+1):=by
 have l:Ac ((k:Int)+1)=((k+1:Nat):Int):=C6 (n:=n+1) (by omega) (by omega)
 rw [l]
 by_cases h:k+1<n
 .have f:Hr n ((k+1:Nat):Int) ((n:Nat):Int)=some (.inl (k+1,n)):=by
   unfold Hr
   rw [if_pos (by omega),if_pos (by omega)]; simp
  rw [f,Ad]
  dsimp only
  have hq:Ql c b k (0+(k+1)) (n-(k+1))=some (Cv b k ((b.drop (0+(k+1))).take (n-(k+1))),k+(n-(k+1))):=by
   unfold Ql
   rw [if_pos ⟨by omega,by omega,Nat.le_trans (Nat.mul_le_mul_right _ (by omega)) hb⟩]
  rw [hq,Ad]
  have hd:((b.drop (0+(k+1))).take (n-(k+1))).length=n-(k+1):=by rw [List.length_take,List.length_drop]; omega
  refine ⟨_,by rw [show k+(n-(k+1))=n-1 by omega],?_,?_,?_⟩
  .rw [Lg (by omega),hd]; omega
  .rw [Lg (by omega),hd]; omega
  .have j:((b.take n).take k).length=k:=by rw [List.length_take,List.length_take]; omega
   apply List.ext_getElem?
   intro i
   rw [List.getElem?_take]
   by_cases h1:i<k
   .rw [if_pos (by omega),Nw (by omega),if_pos h1,List.getElem?_append_left (by omega),List.getElem?_take,if_pos h1,List.getElem?_take,if_pos (by omega)]
   .rw [List.getElem?_append_right (by omega),j,List.getElem?_drop,List.getElem?_take]
    by_cases h2:i<n-1
    .rw [if_pos h2,Nw (by omega),if_neg h1,if_pos (by rw [hd]; omega),List.getElem?_take,if_pos (by omega),List.getElem?_drop,if_pos (by omega),show 0+(k+1)+(i-k)=k+1+(i-k) by omega]
    .rw [if_neg h2,if_neg (by omega)]
 .have s:k+1=n:=by omega
  have f:Hr n ((k+1:Nat):Int) ((n:Nat):Int)=some (.inr ()):=by
   unfold Hr
   rw [if_pos (by omega),if_neg (by omega)]
  rw [f,Ad]
  dsimp only
  have hq:Li c b k []=some (Cv b k [],k):=by
   unfold Li
   rw [if_pos ⟨by omega,Nat.le_trans (Nat.mul_le_mul_right _ (by simp)) hb⟩]; rfl
  rw [hq,Ad]
  have g:Cv b k []=b:=by unfold Cv; simp
  rw [g]
  refine ⟨b,by rw [show n-1=k by omega],by omega,Nat.le_refl _,?_⟩
  have:(b.take n).drop (k+1) = []:=by rw [List.drop_eq_nil_iff,List.length_take]; omega
  rw [this,List.append_nil,List.take_take,show min k n=n-1 by omega]
end Go.Ab
namespace Go.Ab
open Go
theorem Av9 (a:Nat) (h:a<1099511627776):Ec .i64 (Ac (a:Int)) 2=some ((a / 2:Nat):Int):=by
 have h1:Ac (a:Int)=(a:Int):=by rw [Ac,Bv] <;> omega
 rw [h1]
 unfold Ec
 rw [if_neg (by decide),Int.tdiv_eq_ediv_of_nonneg (by omega),show ((a:Int) / 2)=((a / 2:Nat):Int) from rfl,Bv (by omega) (by omega)]
theorem Awa (b:List Aj) (n:Nat) (m:Bb) (Y:n<=b.length) (R:(b.take n).Pairwise ltT) (N:∀t∈b.take n,MSz t.Mono) (hb:n<=1000000) :
  ∃k:Nat,k<=n/\(∀(i:Nat) (t:Aj),i<k->(b.take n)[i]? = some t->Cj t.Mono m<0)/\(∀(i:Nat) (t:Aj),k<=i->(b.take n)[i]? = some t->0<=Cj t.Mono m) /\
   An (S:=(Int×Int)) (E:=Int) (fun (y,z)=>
    bif (decide (y<z)) then (
    (Ec .i64 (Ac (y+z)) 2).bind fun v8=>
    (Ey b 0 n v8).bind fun v9=>
    (J6 v9.Mono m).bind fun A=>
    bif (decide (A<(0:Int))) then some (.inl ((Ac (v8+1)),z))
    else some (.inl (y,v8)))
    else some (.inr y)) (0,((n:Nat):Int))=some (k:Int):=by
 have L:(b.take n).length=n:=by rw [List.length_take]; omega
 have I:∀i,i<n->(b.take n)[i]? = b[i]?:=fun i hi=>by rw [List.getElem?_take,if_pos hi]
 have D:∀(i j:Nat) (t u:Aj),i<j->(b.take n)[i]? = some t->(b.take n)[j]? = some u->Cj t.Mono u.Mono<0:=fun i j t u G ht hu=>by
  have h1:=Di ht
  have h2:=Di hu
  have:=(List.pairwise_iff_getElem.1 R) i j h1 h2 G
  rw [Bx h1] at ht
  rw [Bx h2] at hu
  cases ht; cases hu; exact this
 obtain ⟨e,h1,k,h2,h3,X,V⟩:=Oa (step:=(fun (y,z)=>
    bif (decide (y<z)) then (
    (Ec .i64 (Ac (y+z)) 2).bind fun v8=>
    (Ey b 0 n v8).bind fun v9=>
    (J6 v9.Mono m).bind fun A=>
    bif (decide (A<(0:Int))) then some (.inl ((Ac (v8+1)),z))
    else some (.inl (y,v8)))
    else some (.inr y):Int×Int->Option ((Int×Int)⊕Int)))
  (fun s=>∃i j:Nat,s=((i:Int),(j:Int))/\i<=j/\j<=n/\(∀(q:Nat) (t:Aj),q<i->(b.take n)[q]? = some t->Cj t.Mono m<0)/\(∀(q:Nat) (t:Aj),j<=q->(b.take n)[q]? = some t->0<=Cj t.Mono m))
  (fun s=>s.2.toNat-s.1.toNat)
  (fun e=>∃k:Nat,e=(k:Int)/\k<=n/\(∀(i:Nat) (t:Aj),i<k->(b.take n)[i]? = some t->Cj t.Mono m<0)/\(∀(i:Nat) (t:Aj),k<=i->(b.take n)[i]? = some t->0<=Cj t.Mono m)) (by
   rintro s ⟨i,j,rfl,G,hj,h1,h2⟩
   rcases Nat.lt_or_ge i j with h | h
   .obtain ⟨c,U⟩:∃c:Nat,c=(i+j) / 2:=⟨_,rfl⟩
    have hx:b[c]? = some (b[c]'(by omega)):=Bx _
    generalize b[c]'_=x at hx
    have f:(b.take n)[c]? = some x:=by rw [I c (by omega)]; exact hx
    have J:=N x (Bs f)
    have M:((i:Int)+(j:Int))=((i+j:Nat):Int):=by omega
    simp only [Ak (by omega:(i:Int)<(j:Int)),cond_true,M,Av9 (i+j) (by omega),<-U,Ad,Vi (l:=b) (off:=0) (n:=n) (i:=(c:Int)) rfl (by omega) (by rw [Nat.zero_add]; exact hx),Yv x.Mono m J]
    by_cases e:Cj x.Mono m<0
    .rw [Ak e,cond_true,C6 (n:=n) (by omega) (by omega)]
     refine .inl ⟨_,rfl,⟨c+1,j,rfl,by omega,hj,fun q t hq ht=>?_,h2⟩,by simp only [Int.toNat_natCast]; omega⟩
     by_cases B:q=c
     .subst B; rw [f] at ht; cases ht; exact e
     .exact Ns (D q c t x (by omega) ht f) e
    .rw [Ap e,cond_false]
     refine .inl ⟨_,rfl,⟨i,c,rfl,by omega,by omega,h1,fun q t hq ht=>?_⟩,by simp only [Int.toNat_natCast]; omega⟩
     by_cases B:q=c
     .subst B; rw [f] at ht; cases ht; omega
     .have g:=D c q x t (by omega) f ht
      refine Classical.byContradiction fun hc=>?_
      exact e (Ns g (by omega))
   .have:i=j:=by omega
    subst this
    exact .inr ⟨(i:Int),by simp only [Ap (by omega:¬(i:Int)<(i:Int)),cond_false],i,rfl,hj,h1,h2⟩) (0,((n:Nat):Int)) ⟨0,n,rfl,by omega,Nat.le_refl _,(fun q t h=>by omega),fun q t h ht=>by have:=Di ht; omega⟩
 subst h2
 exact ⟨k,h3,X,V,h1⟩
end Go.Ab
namespace Go.Ab
open Go
theorem Y7 (x:Rat):Nr x=0↔x=0:=by
 unfold Nr
 constructor
 .intro h
  split at h
  .cases h
  .split at h
   .cases h
   .grind
 .rintro rfl
  rw [if_neg (by grind),if_neg (by grind)]
theorem Alg (L:List Aj) (k:Nat) (m:Bb):cf L m=cf (L.take k) m+cf (L.drop k) m:=by
 rw [<-Kj,List.take_append_drop]
theorem CP.insert {L:List Aj} {k:Nat} {x:Aj} (h:CP L) (h1:∀(i:Nat) (t:Aj),i<k->L[i]? = some t->Cj t.Mono x.Mono<0) (h2:∀(i:Nat) (t:Aj),k<=i->L[i]? = some t->Cj x.Mono t.Mono<0) (h3:Iy x.Coef) (f:rq x.Coef≠0) :
  CP (L.take k++x::L.drop k):=by
 refine ⟨?_,fun t ht=>?_⟩
 .rw [List.pairwise_append]
  refine ⟨h.srt.sublist (List.take_sublist _ _),?_,?_⟩
  .rw [List.pairwise_cons]
   refine ⟨fun t ht=>?_,h.srt.sublist (List.drop_sublist _ _)⟩
   obtain ⟨i,hi⟩:=List.getElem?_of_mem ht
   rw [List.getElem?_drop] at hi
   exact h2 (k+i) t (by omega) hi
  .intro a ha c hc
   obtain ⟨i,hi⟩:=List.getElem?_of_mem ha
   rw [List.getElem?_take] at hi
   split at hi
   .rename_i b
    rcases List.mem_cons.1 hc with rfl | hc
    .exact h1 i a b hi
    .obtain ⟨j,hj⟩:=List.getElem?_of_mem hc
     rw [List.getElem?_drop] at hj
     have g1:=Di hi
     have g2:=Di hj
     have:=(List.pairwise_iff_getElem.1 h.srt) i (k+j) g1 g2 (by omega)
     rw [Bx g1] at hi
     rw [Bx g2] at hj
     cases hi; cases hj; exact this
   .cases hi
 .rw [List.mem_append,List.mem_cons] at ht
  rcases ht with ht | rfl | ht
  .exact h.coe t (List.mem_of_mem_take ht)
  .exact ⟨h3,f⟩
  .exact h.coe t (List.mem_of_mem_drop ht)
theorem CP.remove {L:List Aj} (k:Nat) (h:CP L):CP (L.take k++L.drop (k+1)):=by
 have b:(L.take k++L.drop (k+1)).Sublist L:=by
  have:L=L.take k++L.drop k:=(List.take_append_drop k L).symm
  conv=>rhs; rw [this]
  refine List.Sublist.append (List.Sublist.refl _) ?_
  rw [show k+1=k+1 from rfl,<-List.drop_drop]
  exact List.drop_sublist _ _
 exact ⟨h.srt.sublist b,fun t ht=>h.coe t (b.subset ht)⟩
open Classical in
theorem Awb (L:List Aj) (k:Nat) (x:Aj) (m:Bb):cf (L.take k++x::L.drop k) m=cf L m+(if x.Mono=m then rq x.Coef else 0):=by
 rw [Kj,L9,Alg L k m]; grind
theorem Awc {L:List Aj} {k:Nat} {t:Aj} (h:L[k]? = some t):L.drop k=t::L.drop (k+1):=by
 have hk:=Di h
 rw [List.drop_eq_getElem_cons hk]
 rw [Bx hk] at h
 cases h; rfl
open Classical in
theorem Awd {L:List Aj} {k:Nat} {t:Aj} (h:L[k]? = some t) (m:Bb):cf (L.take k++L.drop (k+1)) m=cf L m-(if t.Mono=m then rq t.Coef else 0):=by
 rw [Kj,Alg L k m,Awc h,L9]; grind
end Go.Ab
