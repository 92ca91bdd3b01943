/- Plain laws: what the plain functions answer. -/
import Derived.Test.YtbobikfnkmhgnaaGreatDoorPbPl2
import Derived.Test.YtbobikfnkmhgnaaGreatDoorPbPl1
import Derived.KernelRfl
namespace Go.Ab
open Go
theorem Ayb {α:Type} [DecidableEq α] (l m:List α) (b:l.length=m.length):(decide (l=m))=l.zipIdx.all (fun q=>decide (m[q.2]? = some q.1)):=by
 rw [Bool.eq_iff_iff,decide_eq_true_eq]
 constructor
 .rintro rfl
  exact Alg fun j x hx=>by simpa using hx
 .intro h
  apply List.ext_getElem?
  intro j
  cases hx:l[j]? with
  | none=>rw [List.getElem?_eq_none_iff] at hx; rw [List.getElem?_eq_none (by omega)]
  | some x=>have:=Jj h hx; rw [decide_eq_true_eq] at this; rw [this]
theorem Ayc {R:Type} (l m:List Int) (b:l.length<1099511627776) (h:l.length=m.length) {J:Bool⊕Unit->Option R} {rt rf:R} (h1:J (.inl false)=some rf) (h2:J (.inr ())=some rt) :
  (Al (S:=Int) (E:=(Bool⊕Unit)) (fun v3=>bif (decide (v3<(l.length:Int))) then ((Af l v3).bind fun v4=>(Af m v3).bind fun v5=>bif (v4 != v5) then some (.inr (.inl false)) else some (.inl (Ac (v3+1)))) else some (.inr (.inr ()))) 0).bind J=some (bif decide (l=m) then rt else rf):=by
 rw [Ayb l m h]
 refine T7 l (fun q=>decide (m[q.2]? = some q.1)) (fun j=>(j:Int)) rfl (by omega) (rt:=rt) (rf:=rf) ?_ ?_
 .intro j x hx _ g1 g2 g3
  have hj:j<m.length:=by have:=Dn hx; omega
  have hy:m[j]? = some m[j]:=Bu hj
  generalize m[j]=y at hy
  simp only [g1,g2,g3,cond_true,Ad,B6 rfl hy,hy,Option.some.injEq]
  by_cases e:x=y
  .rw [Dj e,Ak e.symm]
   exact ⟨fun _=>rfl,fun h=>by cases h⟩
  .rw [Di e,Ap (fun h=>e h.symm)]
   exact ⟨(fun h=>by cases h),fun _=>⟨.inl false,rfl,h1⟩⟩
 .intro h _; exact ⟨.inr (),by simp only [h]; rfl,h2⟩
theorem Ana (l m:List Int) (b:l.length<1099511627776):Ma l m=some (decide (l=m)):=by
 unfold Ma
 by_cases h:l.length=m.length
 .rw [Dj (by omega)]
  simp only [cond_false]
  refine (Ayc l m b h (rt:=true) (rf:=false) ?_ ?_).trans (by rw [Re]) <;> rfl
 .rw [Di (by omega),Ap (fun e=>h (by rw [e]))]; rfl
def Uo (a b:Aq):Bool:=a.Neg==b.Neg&&decide (a.Num=b.Num)&&decide (a.Den=b.Den)
theorem Anb (a b:Aq):Uo a b=true↔a=b:=by
 unfold Uo
 simp only [Dx,beq_iff_eq,decide_eq_true_eq]
 constructor
 .rintro ⟨⟨h1,h2⟩,h3⟩; cases a; cases b; simp_all
 .rintro rfl; simp
def Xs (c:Aq):Bool:=Uo (A7 (sv c) (nv c) (dv c)) c && !(nv c==0)
structure TSz (t:Aj):Prop where
 co:RB 1048576 t.Coef
 mo:MSz t.Mono
def Rr (l:List Aj) (x:Aj) (j:Nat):Bool:=j==0||(match l[j-1]? with | some y=>decide (Cr y.Mono x.Mono<0) | none=>false)
def Up (data:List Az) (vars:List Ah) (res:Ah) (l:List Aj) (t:Aj) (j:Nat):Bool:=Xs t.Coef&&Jn data vars res t.Mono&&Rr l t j
def I4 (data:List Az) (vars:List Ah) (res:Ah) (p:List Aj):Bool:=decide (p.length<=1000)&&p.zipIdx.all (fun q=>Up data vars res p q.1 q.2)
theorem Ayd {S E:Type} (F:A8->A8->Option Int) (l:List Aj) (g:∀y∈l,∀x,F y.Mono x=some (Cr y.Mono x)) {x:Aj} {j:Nat} (hx:l[j]? = some x) (i:l.length<4611686018427387904) (c b:Option (S⊕E)) :
  (bif decide ((j:Int)>0) then ((Af l (Ac ((j:Int)-1))).bind fun f=>(F f.Mono x.Mono).bind fun v28=>bif decide (v28>=0) then c else b) else b)=bif Rr l x j then b else c:=by
 have hj:=Dn hx
 unfold Rr
 by_cases h:j=0
 .subst h; rfl
 .rw [Ak (by omega)]
  have e:Ac ((j:Int)-1)=((j-1:Nat):Int):=by rw [Ac,Bp] <;> omega
  have hy:l[j-1]? = some l[j-1]:=Bu (by omega)
  rw [e,B6 rfl hy,hy]
  have h0:(j==0)=false:=by simpa using h
  simp only [cond_true,Ad,h0,Bool.false_or,g _ (List.getElem_mem (by omega:j-1<l.length))]
  by_cases hc:Cr l[j-1].Mono x.Mono<0
  .rw [Ap (by omega),Ak hc]; rfl
  .rw [Ak (by omega),Ap hc]; rfl
theorem Aye (s:Bool) (n:Nat):(Ia s n==0)=(n==0):=by
 unfold Ia
 by_cases h:n=0
 .rw [if_pos h]; subst h; rfl
 .rw [if_neg h]
  have:(n==0)=false:=by simpa using h
  rw [this]; cases s <;> rfl
theorem Ayf {data:List Az} {vars:List Ah} {res:Ah} (hc:Ul data vars res) {b1:List (ByteArray×Int)} (b2:List (ByteArray×List Co)) (hm:Ft data vars res b1) (p:List Aj) (U:∀t∈p,TSz t) :
  ∃B,Vs p b1 b2 data vars res.Kind res.Num res.Args=some (I4 data vars res p,B)/\Ft data vars res B:=by
 unfold Vs I4
 by_cases A:p.length<=1000
 .rw [Ap (by omega),Ak A,Bool.true_and]
  simp only [cond_false]
  obtain ⟨r,V,S⟩:=Ae1 (M:=List (ByteArray×Int)) (R:=Bool×List (ByteArray×Int)) p (fun q=>Up data vars res p q.1 q.2) (fun j o=>((j:Int),o)) (Ft data vars res)
   (fun r=>Ft data vars res r.2/\r.1=true) (fun r=>Ft data vars res r.2/\r.1=false) b1
   (s0:=((0:Int),b1))
   (step:=(fun (b,g)=>
    bif (decide (b<(p.length:Int))) then (
    (Af p b).bind fun v12=>
    (Li v12.Coef).bind fun f=>
    (show Option Bool from
    bif (f.Neg==v12.Coef.Neg) then (
    (Ma f.Num v12.Coef.Num).bind fun i=>
    bif i then (
    (Ma f.Den v12.Coef.Den).bind fun v17=>
    some v17)
    else some false)
    else some false).bind fun E=>
    bif (!E) then some (.inr (.inl (false,g)))
    else (
    (Ho f).bind fun D=>
    bif (D==(0:Int)) then some (.inr (.inl (false,g)))
    else (
    (Tf v12.Mono g b2 data vars res.Kind res.Num res.Args).bind fun v20=>
    bif (!v20.1) then some (.inr (.inl (false,v20.2)))
    else (
    bif (decide (b>(0:Int))) then (
    (Af p (Ac (b-1))).bind fun v21=>
    (N9 v21.Mono v12.Mono).bind fun v22=>
    bif (decide (v22>=(0:Int))) then some (.inr (.inl (false,v20.2)))
    else some (.inl ((Ac (b+1)),v20.2)))
    else some (.inl ((Ac (b+1)),v20.2))))))
    else some (.inr (.inr g)):Int×List (ByteArray×Int)->Option ((Int×List (ByteArray×Int))⊕((Bool×List (ByteArray×Int))⊕List (ByteArray×Int)))))
   (J:=(fun z=>match z with
    | .inl (I,G)=>some (I,G)
    | .inr L=>some (true,L)))
   rfl hm (by omega) (by
    intro j t o u hx _ h1 h2 h3
    have c:=U t (B4 hx)
    obtain ⟨B,d1,d2⟩:=Ax9 b2 hc u t.Mono c.mo
    have s:∀l:List Int,l=(A7 (sv t.Coef) (nv t.Coef) (dv t.Coef)).Num\/l=(A7 (sv t.Coef) (nv t.Coef) (dv t.Coef)).Den->l.length<1099511627776:=by
     intro l A
     have q:=Hv (sv t.Coef) (nv t.Coef) (dv t.Coef) 1048577 c.co.nv c.co.dv (by omega)
     have:=q.nl
     have:=q.dl
     rcases A with rfl | rfl <;> omega
    have k:(bif ((A7 (sv t.Coef) (nv t.Coef) (dv t.Coef)).Neg==t.Coef.Neg) then ((Ma (A7 (sv t.Coef) (nv t.Coef) (dv t.Coef)).Num t.Coef.Num).bind fun i=>bif i then ((Ma (A7 (sv t.Coef) (nv t.Coef) (dv t.Coef)).Den t.Coef.Den).bind fun v17=>some v17) else some false) else some false)=some (Uo (A7 (sv t.Coef) (nv t.Coef) (dv t.Coef)) t.Coef):=by
     unfold Uo
     rw [Ana _ _ (s _ (.inl rfl)),Ana _ _ (s _ (.inr rfl))]
     cases ((A7 (sv t.Coef) (nv t.Coef) (dv t.Coef)).Neg==t.Coef.Neg) <;> cases decide ((A7 (sv t.Coef) (nv t.Coef) (dv t.Coef)).Num=t.Coef.Num) <;> rfl
    simp only [h1,h2,h3,cond_true,Ad,Aas t.Coef 1048576 c.co (by omega),k,Ayd N9 p (fun y hy x=>Am4 y.Mono x (U y hy).mo) hx (by omega),Up,Xs]
    cases N:Uo (A7 (sv t.Coef) (nv t.Coef) (dv t.Coef)) t.Coef with
    | false=>exact ⟨(fun h=>by cases h),fun _=>⟨_,rfl,_,rfl,u,rfl⟩⟩
    | true=>
     have e:=(Anb _ _).1 N
     simp only [Dm,cond_false,Bool.true_and]
     rw [e,Ae7 t.Coef 1048576 c.co (by omega),Ad,Aye]
     cases (nv t.Coef==0) with
     | true=>exact ⟨(fun h=>by cases h),fun _=>⟨_,rfl,_,rfl,u,rfl⟩⟩
     | false=>
      simp only [cond_false,d1,Ad,Bool.not_false,Bool.true_and]
      cases Jn data vars res t.Mono with
      | false=>exact ⟨(fun h=>by cases h),fun _=>⟨_,rfl,_,rfl,d2,rfl⟩⟩
      | true=>
       cases Rr p t j with
       | true=>exact ⟨fun _=>⟨B,rfl,d2⟩,fun h=>by cases h⟩
       | false=>exact ⟨(fun h=>by cases h),fun _=>⟨_,rfl,_,rfl,d2,rfl⟩⟩) (by
    intro o u h1 _
    exact ⟨.inr o,by simp only [h1]; rfl,_,rfl,u,rfl⟩)
  refine ⟨r.2,?_,?_⟩
  .have e:some r=some (p.zipIdx.all (fun q=>Up data vars res p q.1 q.2),r.2):=by
    rcases S with ⟨h1,h2,h3⟩ | ⟨h1,h2,h3⟩
    .rw [h1,<-h3]
    .rw [h1,<-h3]
   rw [<-e]
   exact V
  .rcases S with ⟨h1,h2,h3⟩ | ⟨h1,h2,h3⟩ <;> exact h2
 .rw [Ak (by omega),Ap A]
  exact ⟨b1,rfl,hm⟩
structure CSz (x:Ce):Prop where
 ds:DSz x.Data
 nv:x.Vars.length<=1048576
 vs:∀t∈x.Vars,Bg t<=1048576
 rs:Bg x.Res<=1048576
def Jo (data:List Az) (t:Ah):Bool:=Fj data 0 t&&decide (Bg t<=200)
def Ig (x:Ce):Prop:=x.Vars.length<=3000/\Il x.Data/\Jo x.Data x.Res=true/\x.Vars.all (Jo x.Data)=true
theorem Ig.ctx {x:Ce} (h:Ig x) (c:CSz x):Ul x.Data x.Vars x.Res:=by
 refine ⟨h.2.1,c.ds.sz.short,fun v t ht=>?_,h.1⟩
 have good:∀t,Jo x.Data t=true->Bg t<=200:=fun t h=>by
  simp only [Jo,Dx,decide_eq_true_eq] at h; exact h.2
 unfold tyX at ht
 by_cases b:v = -1
 .rw [if_pos b] at ht; cases ht; exact good _ h.2.2.1
 .rw [if_neg b] at ht
  exact good t (List.all_eq_true.1 h.2.2.2 t (F4 ht).2.2.2)
theorem Agb (x:Ce) (c:CSz x):∃b,S0 x=some b/\(b=true↔Ig x):=by
 obtain ⟨b,b1,b2⟩:=Aw9 c.ds
 have l:=c.nv
 have k:=c.rs
 unfold S0 Ig
 rw [b1,Afh x.Data x.Res 0 (by omega)]
 simp only [Ad]
 cases b with
 | false=>exact ⟨false,rfl,by simp; intro _ h; have:=b2.2 h; cases this⟩
 | true=>
  have i:=b2.1 rfl
  simp only [Dm,cond_false]
  by_cases g:x.Vars.length<=3000
  .rw [Ap (by omega)]
   simp only [cond_false,Ad]
   cases f:(Fj x.Data 0 x.Res&&decide (Bg x.Res<=200)) with
   | false=>exact ⟨false,rfl,by simp [Jo,f]⟩
   | true=>
    refine ⟨x.Vars.all (Jo x.Data),?_,by rw [show Jo x.Data x.Res=true from f]; simp [g,i]⟩
    simp only [Dm,cond_false]
    refine (O1 x.Vars (Jo x.Data) (fun j=>(j:Int)) rfl (by omega) (rt:=true) (rf:=false) ?_ ?_).trans (by rw [Re])
    .intro j t ht h1 h2 h3
     have:=c.vs t (B4 ht)
     simp only [h1,h2,h3,cond_true,Ad,Afh x.Data t 0 (by omega)]
     rw [show (Fj x.Data 0 t&&decide (Bg t<=200))=Jo x.Data t from rfl]
     cases Jo x.Data t with
     | true=>exact ⟨fun _=>rfl,fun h=>by cases h⟩
     | false=>exact ⟨(fun h=>by cases h),fun _=>⟨.inl false,rfl,rfl⟩⟩
    .intro h; exact ⟨.inr (),by simp only [h]; rfl,rfl⟩
  .rw [Ak (by omega)]
   exact ⟨false,rfl,by simp [g]⟩
end Go.Ab
namespace Go.Ab
open Go
end Go.Ab
namespace Go.Ab
open Go
end Go.Ab
namespace Go.Ab
open Go
end Go.Ab
namespace Go.Ab
open Go
end Go.Ab
namespace Go.Ab
open Go
theorem Ayg {data:List Az} {vars:List Ah} {res:Ah} {m:A8} (h:Jn data vars res m=true):(∀f∈m.Factors,∃t,tyX vars res f.Var=some t)/\m.Factors.length<=6:=by
 unfold Jn at h
 simp only [Dx,decide_eq_true_eq] at h
 obtain ⟨⟨h1,h2⟩,h3⟩:=h
 have hf:∀f∈m.Factors,1<=D4 data vars res f:=by
  intro f hf
  obtain ⟨j,hj⟩:=List.getElem?_of_mem hf
  have:=Jj h1 hj
  simp only [Pc,Dx,decide_eq_true_eq] at this
  exact this.1
 have ha:0<=Dq m.Atoms:=(Am9 m.Atoms (fun a ha=>by
  obtain ⟨j,hj⟩:=List.getElem?_of_mem ha
  have:=Jj h2 hj
  simp only [Ml,Dx,decide_eq_true_eq] at this
  omega)).1
 refine ⟨fun f b=>?_,?_⟩
 .have:=hf f b
  unfold D4 at this
  cases ht:tyX vars res f.Var with
  | none=>rw [ht] at this; have:(1:Int)<=-1:=this; omega
  | some t=>exact ⟨t,rfl⟩
 .have key:∀l:List Bh,(∀f∈l,1<=D4 data vars res f)->(l.length:Int)<=Fu data vars res l:=by
   intro l
   induction l with
   | nil=>intro _; simp [Fu]
   | cons f fs ih=>
    intro c
    have h1:=c f (by simp)
    have h2:=ih (fun g i=>c g (by simp [i]))
    unfold Fu at *
    simp only [List.map_cons,List.sum_cons,List.length_cons]; omega
  have:=key m.Factors hf
  omega
theorem Ayh (a b:Aq) (j k:Nat) (ha:RB j a) (hb:RB k b) (hj:j<34359738000) (hk:k<34359738000):∃c,H7 a b=some c/\Kh a b=some c/\RB (j+k+2) c:=by
 refine ⟨_,Xf a b j k ha hb (by omega) (by omega),Als a b j k ha hb (by omega) (by omega),?_⟩
 have h1:=ha.nv
 have h2:=ha.dv
 have h3:=hb.nv
 have h:=hb.dv
 have g:=Gg (nv a) (nv b)
 have f:=Gg (dv a) (dv b)
 exact Hv _ _ _ _ (by omega) (by omega) (by omega)
theorem Ayi (a b:Aq) (j k:Nat) (ha:RB j a) (hb:RB k b) (hj:j<34359738000) (hk:k<34359738000):∃c,M3 a b=some c/\Oe a b=some c/\RB (j+k+3) c:=by
 refine ⟨_,Ae9 a b j k ha hb (by omega) (by omega),Alt a b j k ha hb (by omega) (by omega),?_⟩
 have h1:=ha.nv
 have h2:=ha.dv
 have h3:=hb.nv
 have s:=hb.dv
 have q:=Gg (nv a) (dv b)
 have l:=Gg (nv b) (dv a)
 have i:=Gg (dv a) (dv b)
 have f:Ik (sv a) (nv a) (dv a) (sv b) (nv b) (dv b)<=nv a*dv b+nv b*dv a:=by
  unfold Ik
  split
  .omega
  .split <;> omega
 have h:=H9 f
 have g:=Aez (nv a*dv b) (nv b*dv a)
 exact Hv _ _ _ _ (by omega) (by omega) (by omega)
end Go.Ab
namespace Go.Ab
open Go
end Go.Ab
namespace Go.Ab
open Go
theorem Ayj (k:Nat):RB k ⟨false,[],[]⟩:=⟨(fun _ h=>by cases h),(fun _ h=>by cases h),by simp,by simp⟩
end Go.Ab
namespace Go.Ab
open Go
end Go.Ab
namespace Go.Ab
open Go
def sg (s:Bool) (n:Nat):Int:=if s then -(n:Int) else n
def rq (a:Aq):Rat:=mkRat (sg (sv a) (nv a)) (dv a)
def Hg (a:Aq):Prop:=a=A7 (sv a) (nv a) (dv a)
theorem Kv (s:Bool) (n d:Nat) (hd:d≠0):rq (A7 s n d)=mkRat (sg s n) d:=by
 obtain ⟨g,f,h1,h2,h3,i⟩:=Ue s n d hd
 unfold rq
 rw [Rat.mkRat_eq_iff (Ee _) hd]
 generalize nv (A7 s n d)=b at *
 generalize dv (A7 s n d)=j at *
 generalize sv (A7 s n d)=s' at *
 by_cases c:n=0
 .have:b=0:=by
   rcases Nat.eq_zero_or_pos b with h | h
   .exact h
   .have:=Nat.mul_pos (Nat.pos_of_ne_zero f) h; omega
  subst this; subst c
  cases s <;> cases s' <;> simp [sg]
 .rw [h3 c,h1,h2]
  cases s <;> simp only [sg,if_true,if_false,Bool.false_eq_true,Int.natCast_mul] <;> grind
theorem Nk (s:Bool) (n d:Nat) (hd:d≠0):Hg (A7 s n d):=by
 obtain ⟨g,b,h1,h2,h3,i⟩:=Ue s n d hd
 unfold Hg
 generalize hc:A7 s n d=c at h1 h2 h3 i
 have e:=Lt s (nv c) (dv c) g b
 rw [<-h1,<-h2,hc] at e
 by_cases f:n=0
 .have h0:nv c=0:=by
   rcases Nat.eq_zero_or_pos (nv c) with h | h
   .exact h
   .have:=Nat.mul_pos (Nat.pos_of_ne_zero b) h; omega
  rw [h0,Xg] at e ⊢
  exact e
 .rw [h3 f]; exact e
theorem Anc (n m:Int) {d e:Nat} (hd:d≠0) (g:e≠0):mkRat n d<mkRat m e↔n*e<m*d:=by
 have c:(0:Rat)<(d:Rat):=Rat.natCast_pos.2 (by omega)
 have b:(0:Rat)<(e:Rat):=Rat.natCast_pos.2 (by omega)
 rw [Rat.mkRat_eq_div,Rat.mkRat_eq_div,Rat.div_lt_iff c]
 rw [<-Rat.mul_lt_mul_right b]
 have f:(m:Rat) / (e:Rat)*(d:Rat)*(e:Rat)=(m:Rat)*(d:Rat):=by grind
 rw [f]
 have a1:(n:Rat)*(e:Rat)=((n*(e:Int):Int):Rat):=by rw [Rat.intCast_mul]; rfl
 have a2:(m:Rat)*(d:Rat)=((m*(d:Int):Int):Rat):=by rw [Rat.intCast_mul]; rfl
 rw [a1,a2,Rat.intCast_lt_intCast]
theorem Agc {a b:Aq} (ha:Hg a) (hb:Hg b) (h:rq a=rq b):a=b:=by
 unfold rq at h
 rw [Rat.mkRat_eq_iff (Ee _) (Ee _)] at h
 rw [ha,hb]
 have q:=Ee a
 have l:=Ee b
 generalize nv a=n at *
 generalize dv a=d at *
 generalize sv a=s at *
 generalize nv b=m at *
 generalize dv b=e at *
 generalize sv b=t at *
 have f:n*e=m*d/\(n≠0->s=t):=by
  have c:n≠0->0<n*e:=fun h=>Nat.mul_pos (by omega) (by omega)
  have g:m≠0->0<m*d:=fun h=>Nat.mul_pos (by omega) (by omega)
  have x:((n*e:Nat):Int)=(n:Int)*e:=by simp
  have u:((m*d:Nat):Int)=(m:Int)*d:=by simp
  cases s <;> cases t <;> simp only [sg,if_true,if_false,Bool.false_eq_true,Int.neg_mul] at h
  .exact ⟨by omega,fun _=>rfl⟩
  .have:n*e=0/\m*d=0:=by omega
   refine ⟨by omega,fun i=>?_⟩
   have:=c i; omega
  .have:n*e=0/\m*d=0:=by omega
   refine ⟨by omega,fun i=>?_⟩
   have:=c i; omega
  .exact ⟨by omega,fun _=>rfl⟩
 have k:=Lt s n d e l
 have j:=Lt t m e d q
 rw [<-k,<-j,Nat.mul_comm e n,f.1,Nat.mul_comm e d,Nat.mul_comm m d]
 refine Aat fun h0=>f.2 ?_
 rintro rfl
 rw [Nat.zero_mul] at f
 have:=f.1
 rw [Nat.mul_comm d m] at h0
 omega
theorem Ayk (j:Bool) (c g:Nat) (i:Bool) (b f:Nat):sg (Jl j c g i b f) (Ik j c g i b f)=sg j c*f+sg i b*g:=by
 unfold Jl Ik sg
 have l:((c*f:Nat):Int)=(c:Int)*f:=by simp
 have k:((b*g:Nat):Int)=(b:Int)*g:=by simp
 cases j <;> cases i <;> simp only [if_true,if_false,Bool.false_eq_true,Bool.true_eq_false,Int.neg_mul]
 .omega
 .by_cases h:b*g<=c*f
  .simp only [if_pos h]; simp only [if_false,Bool.false_eq_true]; omega
  .simp only [if_neg h]; simp only [if_true]; omega
 .by_cases h:b*g<=c*f
  .simp only [if_pos h]; simp only [if_true]; omega
  .simp only [if_neg h]; simp only [if_false,Bool.false_eq_true]; omega
 .omega
theorem Ane {a b:Aq} {j k:Nat} (ha:RB j a) (hb:RB k b) (hj:j<34359738000) (hk:k<34359738000):∃c,M3 a b=some c/\Oe a b=some c/\RB (j+k+3) c/\Hg c/\rq c=rq a+rq b:=by
 obtain ⟨c,h1,h2,h3⟩:=Ayi a b j k ha hb hj hk
 have e:=Ae9 a b j k ha hb (by omega) (by omega)
 rw [h1] at e
 have e:=Option.some.inj e
 have hd:dv a*dv b≠0:=Nat.mul_ne_zero (Ee a) (Ee b)
 refine ⟨c,h1,h2,h3,?_,?_⟩
 .rw [e]; exact Nk _ _ _ hd
 .rw [e,Kv _ _ _ hd,Ayk,rq,rq,Rat.mkRat_add_mkRat _ _ (Ee a) (Ee b)]
theorem Anf (s t:Bool) (n m:Nat):sg (s != t) (n*m)=sg s n*sg t m:=by
 unfold sg
 cases s <;> cases t <;> simp [Int.neg_mul,Int.mul_neg]
theorem Ang {a b:Aq} {j k:Nat} (ha:RB j a) (hb:RB k b) (hj:j<34359738000) (hk:k<34359738000):∃c,H7 a b=some c/\RB (j+k+2) c/\Hg c/\rq c=rq a*rq b:=by
 have hd:dv a*dv b≠0:=Nat.mul_ne_zero (Ee a) (Ee b)
 have h1:=ha.nv
 have h2:=ha.dv
 have h3:=hb.nv
 have h:=hb.dv
 have g:=Gg (nv a) (nv b)
 have f:=Gg (dv a) (dv b)
 refine ⟨_,Xf a b j k ha hb (by omega) (by omega),Hv _ _ _ _ (by omega) (by omega) (by omega),Nk _ _ _ hd,?_⟩
 rw [Kv _ _ _ hd,Anf,rq,rq,Rat.mkRat_mul_mkRat]
theorem Ayl {a b:Aq} {j k:Nat} (ha:RB j a) (hb:RB k b) (hj:j<34359738000) (hk:k<34359738000):∃c,H7 a b=some c/\Kh a b=some c/\RB (j+k+2) c/\Hg c/\rq c=rq a*rq b:=by
 obtain ⟨c,h1,h2,h3⟩:=Ayh a b j k ha hb hj hk
 have e:=Xf a b j k ha hb (by omega) (by omega)
 rw [h1] at e
 have e:=Option.some.inj e
 have hd:dv a*dv b≠0:=Nat.mul_ne_zero (Ee a) (Ee b)
 refine ⟨c,h1,h2,h3,?_,?_⟩
 .rw [e]; exact Nk _ _ _ hd
 .rw [e,Kv _ _ _ hd,Anf,rq,rq,Rat.mkRat_mul_mkRat]
def I5 (x:Rat):Int:=if x<0 then -1 else if 0<x then 1 else 0
theorem Aym (a:Aq):rq a<0↔Ia (sv a) (nv a) = -1:=by
 have e:(0:Rat)=mkRat 0 1:=by simp
 rw [rq,e,Anc _ _ (Ee a) (by decide)]
 unfold sg Ia
 split <;> split <;> simp <;> omega
theorem Ayn (a:Aq):0<rq a↔Ia (sv a) (nv a)=1:=by
 have e:(0:Rat)=mkRat 0 1:=by simp
 rw [rq,e,Anc _ _ (by decide) (Ee a)]
 unfold sg Ia
 split <;> split <;> simp <;> omega
theorem Ayo (a:Aq):Ia (sv a) (nv a)=I5 (rq a):=by
 have h1:=Aym a
 have h2:=Ayn a
 have h3:Ia (sv a) (nv a) = -1\/Ia (sv a) (nv a)=0\/Ia (sv a) (nv a)=1:=by unfold Ia; split <;> (try split) <;> simp
 unfold I5
 split
 .rename_i h; exact h1.1 h
 .rename_i h
  split
  .rename_i h'; exact h2.1 h'
  .rename_i h'
   rcases h3 with h3 | h3 | h3
   .exact (h (h1.2 h3)).elim
   .exact h3
   .exact (h' (h2.2 h3)).elim
theorem Nl {a:Aq} {k:Nat} (h:RB k a) (hk:k<34359738000):Ho a=some (I5 (rq a))/\Mu a=some (I5 (rq a)):=by
 rw [<-Ayo]
 exact ⟨Ae7 a k h (by omega),Av0 a k h (by omega)⟩
theorem Agd {a:Aq} {k:Nat} (h:RB k a) (hk:k<34359738000):∃c,Li a=some c/\Jb a=some c/\Hg c/\rq c=rq a/\RB (k+1) c :=
 ⟨_,Aas a k h (by omega),O6 a k h (by omega),Nk _ _ _ (Ee a),Kv _ _ _ (Ee a),Afe h⟩
end Go.Ab
namespace Go.Ab
open Go
structure Ej {α:Type} (S:α->Prop) (g:α->α->Int):Prop where
 zero:∀a b,S a->S b->(g a b=0↔a=b)
 anti:∀a b,S a->S b->g b a = - g a b
 trans:∀a b c,S a->S b->S c->g a b<0->g b c<0->g a c<0
theorem Ej.cmpI:Ej (fun _:Int=>True) D3:=by
 refine ⟨fun a b _ _=>Fk,fun a b _ _=>?_,fun a b c _ _ _=>?_⟩
 .unfold Go.Ab.D3; split <;> split <;> (try split) <;> (try split) <;> omega
 .unfold Go.Ab.D3; intro h1 h2; split at h1 <;> (try split at h1) <;> split at h2 <;> (try split at h2) <;> first | omega | (rw [if_pos (by omega)]; decide)
theorem Anh {x y:Int}:Dp x y<0↔x<0\/(x=0/\y<0):=by unfold Dp; split <;> omega
theorem Ani {x y:Int}:Dp x y=0↔x=0/\y=0:=by unfold Dp; split <;> omega
theorem Ej.or {α β γ:Type} {S:α->Prop} {s:β->Prop} {l:γ->Prop} {j:β->β->Int} {i:γ->γ->Int} (p:α->β) (q:α->γ) (g:∀a b,p a=p b->q a=q b->a=b) (h1:Ej s j) (h2:Ej l i) (f:∀a,S a->s (p a)/\l (q a)) :
  Ej S (fun a b=>Dp (j (p a) (p b)) (i (q a) (q b))):=by
 refine ⟨fun a b ha hb=>?_,fun a b ha hb=>?_,fun a b c ha hb hc=>?_⟩
 .rw [Ani,h1.zero _ _ (f a ha).1 (f b hb).1,h2.zero _ _ (f a ha).2 (f b hb).2]
  exact ⟨fun h=>g a b h.1 h.2,fun h=>by subst h; exact ⟨rfl,rfl⟩⟩
 .show Dp (j (p b) (p a)) (i (q b) (q a)) = - Dp (j (p a) (p b)) (i (q a) (q b))
  have z:=h1.anti _ _ (f a ha).1 (f b hb).1
  have y:=h2.anti _ _ (f a ha).2 (f b hb).2
  rw [z,y]; unfold Dp; split <;> split <;> omega
 .show Dp _ _<0->Dp _ _<0->Dp _ _<0
  simp only [Anh]
  have u:=h1.zero _ _ (f a ha).1 (f b hb).1
  have z2:=h1.zero _ _ (f b hb).1 (f c hc).1
  have t1:=h1.trans _ _ _ (f a ha).1 (f b hb).1 (f c hc).1
  have t2:=h2.trans _ _ _ (f a ha).2 (f b hb).2 (f c hc).2
  rintro (h | ⟨h,h'⟩) (k | ⟨k,x⟩)
  .exact .inl (t1 h k)
  .rw [<-z2.1 k]; exact .inl h
  .rw [u.1 h]; exact .inl k
  .rw [<-z2.1 k,h]; exact .inr ⟨rfl,t2 h' x⟩
theorem Ej.mono {α:Type} {S i:α->Prop} {g:α->α->Int} (h:Ej S g) (f:∀a,i a->S a):Ej i g :=
 ⟨fun a b ha hb=>h.zero a b (f a ha) (f b hb),fun a b ha hb=>h.anti a b (f a ha) (f b hb),fun a b c ha hb hc=>h.trans a b c (f a ha) (f b hb) (f c hc)⟩
theorem Ej.congr {α:Type} {S:α->Prop} {g c:α->α->Int} (h:Ej S g) (e:∀a b,c a b=g a b):Ej S c:=by
 have:c=g:=funext fun a=>funext fun b=>e a b
 rw [this]; exact h
def LL {α:Type} (g:α->α->Int) (l m:List α):Int:=if l.length=m.length then Ei g l m else Go.Ab.D3 l.length m.length
theorem Anj {α:Type} {S:α->Prop} {g:α->α->Int} (h:Ej S g):∀l m:List α,l.length=m.length->(∀x∈l,S x)->(∀x∈m,S x)->(Ei g l m=0↔l=m)
 | [],[],_,_,_=>by simp [Ei]
 | x::xs,y::ys,b,h1,h2=>by
  simp only [Ei,Ani,h.zero x y (h1 x (by simp)) (h2 y (by simp)),Anj h xs ys (by simpa using b) (fun z c=>h1 z (by simp [c])) (fun z c=>h2 z (by simp [c])),List.cons.injEq]
 | [],_::_,b,_,_=>by simp at b
 | _::_,[],b,_,_=>by simp at b
theorem Ank {α:Type} {S:α->Prop} {g:α->α->Int} (h:Ej S g):∀l m:List α,l.length=m.length->(∀x∈l,S x)->(∀x∈m,S x)->Ei g m l = - Ei g l m
 | [],[],_,_,_=>by simp [Ei]
 | x::xs,y::ys,b,h1,h2=>by
  simp only [Ei,h.anti x y (h1 x (by simp)) (h2 y (by simp)),Ank h xs ys (by simpa using b) (fun z c=>h1 z (by simp [c])) (fun z c=>h2 z (by simp [c]))]
  unfold Dp; split <;> split <;> omega
 | [],_::_,b,_,_=>by simp at b
 | _::_,[],b,_,_=>by simp at b
theorem Anl {α:Type} {S:α->Prop} {g:α->α->Int} (h:Ej S g):∀l m n:List α,l.length=m.length->m.length=n.length->(∀x∈l,S x)->(∀x∈m,S x)->(∀x∈n,S x)->Ei g l m<0->Ei g m n<0->Ei g l n<0
 | [],[],_,_,_,_,_,_=>by intro h; simp [Ei] at h
 | x::xs,y::ys,z::i,f,hm,h1,h2,h3=>by
  simp only [Ei,Anh]
  have j:=h.zero x y (h1 x (by simp)) (h2 y (by simp))
  have z2:=h.zero y z (h2 y (by simp)) (h3 z (by simp))
  have t1:=h.trans x y z (h1 x (by simp)) (h2 y (by simp)) (h3 z (by simp))
  have t2:=Anl h xs ys i (by simpa using f) (by simpa using hm) (fun z c=>h1 z (by simp [c])) (fun z c=>h2 z (by simp [c])) (fun z c=>h3 z (by simp [c]))
  rintro (a | ⟨a,q⟩) (b | ⟨b,k⟩)
  .exact .inl (t1 a b)
  .rw [<-z2.1 b]; exact .inl a
  .rw [j.1 a]; exact .inl b
  .rw [<-z2.1 b,a]; exact .inr ⟨rfl,t2 q k⟩
 | _::_,_::_,[],_,hm,_,_,_=>by simp at hm
 | [],_::_,_,f,_,_,_,_=>by simp at f
 | _::_,[],_,f,_,_,_,_=>by simp at f
theorem Ej.ll {α:Type} {S:α->Prop} {g:α->α->Int} (h:Ej S g):Ej (fun l=>∀x∈l,S x) (LL g):=by
 have c:=Ej.cmpI
 refine ⟨fun a b ha hb=>?_,fun a b ha hb=>?_,fun x y z hx hy q=>?_⟩
 .unfold LL
  split
  .rename_i i; exact Anj h a b i ha hb
  .rename_i i
   rw [Fk]
   exact ⟨fun e=>(i (by omega)).elim,fun e=>(i (by rw [e])).elim⟩
 .unfold LL
  by_cases i:a.length=b.length
  .rw [if_pos i,if_pos i.symm]; exact Ank h a b i ha hb
  .rw [if_neg i,if_neg (fun e=>i e.symm)]; exact c.anti _ _ trivial trivial
 .unfold LL
  intro h1 h2
  have neg:∀a b:Int,Go.Ab.D3 a b<0->a<b:=by intro a b h; unfold Go.Ab.D3 at h; split at h <;> (try split at h) <;> omega
  have f:∀a b:Int,a<b->Go.Ab.D3 a b<0:=by intro a b h; unfold Go.Ab.D3; rw [if_pos h]; decide
  by_cases k:x.length=y.length
  .rw [if_pos k] at h1
   by_cases j:y.length=z.length
   .rw [if_pos j] at h2; rw [if_pos (by omega)]; exact Anl h x y z k j hx hy q h1 h2
   .rw [if_neg j] at h2; rw [if_neg (by omega)]
    have:=neg _ _ h2; exact f _ _ (by omega)
  .rw [if_neg k] at h1
   have:=neg _ _ h1
   by_cases j:y.length=z.length
   .rw [if_neg (by omega)]; exact f _ _ (by omega)
   .rw [if_neg j] at h2
    have:=neg _ _ h2
    rw [if_neg (by omega)]; exact f _ _ (by omega)
theorem Anm {α:Type} (g:α->α->Int) (l m:List α) (y:Int):Dp (LL g l m) y=if l.length=m.length then Dp (Ei g l m) y else Go.Ab.D3 l.length m.length:=by
 unfold LL
 by_cases h:l.length=m.length
 .rw [if_pos h,if_pos h]
 .rw [if_neg h,if_neg h]
  unfold Dp
  rw [if_neg (fun e=>h (by have:=Fk.1 e; omega))]
theorem Ayp:Ej (fun _=>True) Ks :=
 (Ej.or (S:=fun _=>True) (fun t:Dk=>t.Var) (fun t=>t.Coef) (fun a b h1 h2=>by cases a; cases b; cases h1; cases h2; rfl) Ej.cmpI Ej.cmpI (fun _ _=>⟨trivial,trivial⟩)).congr fun _ _=>rfl
theorem Ka:Ej (fun _=>True) Fg :=
 (Ej.or (S:=fun _=>True) (fun t:Ca=>t.Terms) (fun t=>t.Const) (fun a b h1 h2=>by cases a; cases b; cases h1; cases h2; rfl) Ayp.ll Ej.cmpI (fun _ _=>⟨fun _ _=>trivial,trivial⟩)).congr fun a b=>by
  show Fg a b=Dp (LL Ks a.Terms b.Terms) (Go.Ab.D3 a.Const b.Const)
  rw [Anm]; rfl
theorem Ayq (i j:A9):Ie i j=Dp (Go.Ab.D3 i.Num j.Num) (LL Ie i.Kids j.Kids):=by
 rw [Af5,Abj]
 unfold Dp LL
 by_cases h:i.Num=j.Num
 .rw [if_pos h,if_pos (Fk.2 h)]
 .rw [if_neg h,if_neg (fun e=>h (Fk.1 e))]
theorem Age:∀n:Nat,Ej (fun i=>C4 i<=n) Ie:=by
 intro n
 induction n with
 | zero=>exact ⟨fun a _ ha=>by have:=Fs a; omega,fun a _ ha=>by have:=Fs a; omega,fun a _ _ ha=>by have:=Fs a; omega⟩
 | succ n ih=>
  refine (Ej.or (S:=fun i=>C4 i<=n+1) (fun i:A9=>i.Num) (fun i=>i.Kids) (fun a b h1 h2=>by cases a; cases b; cases h1; cases h2; rfl) Ej.cmpI ih.ll ?_).congr Ayq
  intro i hi
  refine ⟨trivial,fun x hx=>?_⟩
  have h1:=Kq hx
  have h2:=Fs i
  show C4 x<=n
  omega
theorem Ayr:Ej (fun _=>True) Ie :=
 ⟨fun a b _ _=>(Age (max (C4 a) (C4 b))).zero a b (by show C4 a<=_; omega) (by show C4 b<=_; omega),fun a b _ _=>(Age (max (C4 a) (C4 b))).anti a b (by show C4 a<=_; omega) (by show C4 b<=_; omega),
  fun a b c _ _ _=>(Age (max (C4 a) (max (C4 b) (C4 c)))).trans a b c (by show C4 a<=_; omega) (by show C4 b<=_; omega) (by show C4 c<=_; omega)⟩
theorem Ays:Ej (fun _=>True) Kt :=
 (Ej.or (S:=fun _=>True) (fun t:Bh=>t.Var) (fun t=>t.Index) (fun a b h1 h2=>by cases a; cases b; cases h1; cases h2; rfl) Ej.cmpI Ayr (fun _ _=>⟨trivial,trivial⟩)).congr fun _ _=>rfl
theorem Ayt:Ej (fun _=>True) Lx :=
 (Ej.or (S:=fun _=>True) (fun t:Ba=>t.Lin) (fun t=>t.Deg) (fun a b h1 h2=>by cases a; cases b; cases h1; cases h2; rfl) Ka Ej.cmpI (fun _ _=>⟨trivial,trivial⟩)).congr fun _ _=>rfl
theorem Agf:Ej (fun _=>True) Cr :=
 (Ej.or (S:=fun _=>True) (fun t:A8=>t.Factors) (fun t=>t.Atoms) (fun a b h1 h2=>by cases a; cases b; cases h1; cases h2; rfl) Ays.ll Ayt.ll (fun _ _=>⟨fun _ _=>trivial,fun _ _=>trivial⟩)).congr fun a b=>by
  show Cr a b=Dp (LL Kt a.Factors b.Factors) (LL Lx a.Atoms b.Atoms)
  rw [Anm]; rfl
theorem Hx {a b:A8}:Cr a b=0↔a=b:=Agf.zero a b trivial trivial
theorem Rs (a b:A8):Cr b a = - Cr a b:=Agf.anti a b trivial trivial
theorem Pe {a b c:A8} (h:Cr a b<0) (h':Cr b c<0):Cr a c<0:=Agf.trans a b c trivial trivial trivial h h'
end Go.Ab
namespace Go.Ab
open Go
theorem Ano (m:A8):Cr m m=0:=Hx.2 rfl
theorem Agg {a b:A8}:0<Cr a b↔Cr b a<0:=by rw [Rs a b]; omega
def cf:List Aj->A8->Rat
 | [],_=>0
 | t::p,m=>(if Cr t.Mono m=0 then rq t.Coef else 0)+cf p m
def ltT (t u:Aj):Prop:=Cr t.Mono u.Mono<0
structure CP (p:List Aj):Prop where
 srt:p.Pairwise ltT
 coe:∀t∈p,Hg t.Coef/\rq t.Coef≠0
theorem CP.tail {t:Aj} {p:List Aj} (h:CP (t::p)):CP p:=⟨(List.pairwise_cons.1 h.srt).2,fun u hu=>h.coe u (by simp [hu])⟩
theorem CP.head {t:Aj} {p:List Aj} (h:CP (t::p)):∀u∈p,Cr t.Mono u.Mono<0:=(List.pairwise_cons.1 h.srt).1
theorem CP.nil:CP []:=⟨List.Pairwise.nil,fun _ h=>by cases h⟩
theorem CP.cons {t:Aj} {p:List Aj} (h:CP p) (h1:∀u∈p,Cr t.Mono u.Mono<0) (h2:Hg t.Coef) (h3:rq t.Coef≠0):CP (t::p) :=
 ⟨List.pairwise_cons.2 ⟨h1,h.srt⟩,fun u hu=>by
  rcases List.mem_cons.1 hu with rfl | hu
  .exact ⟨h2,h3⟩
  .exact h.coe u hu⟩
theorem Ayu {p:List Aj} {m:A8} (h:∀t∈p,Cr t.Mono m≠0):cf p m=0:=by
 induction p with
 | nil=>rfl
 | cons t p ih=>
  simp only [cf]
  rw [if_neg (h t (by simp)),ih (fun u hu=>h u (by simp [hu]))]; grind
theorem Rt {p:List Aj} {m:A8} (h:∀t∈p,Cr m t.Mono<0):cf p m=0 :=
 Ayu fun t ht e=>by have:=h t ht; rw [Rs,e] at this; omega
theorem Ru {t:Aj} {p:List Aj} (h:CP (t::p)):cf (t::p) t.Mono=rq t.Coef:=by
 simp only [cf]
 rw [if_pos (Ano _),Rt h.head]; grind
theorem Agh {t:Aj} {p:List Aj} {m:A8} (h:Cr t.Mono m≠0):cf (t::p) m=cf p m:=by
 simp only [cf]; rw [if_neg h]; grind
theorem Rv (p q:List Aj) (m:A8):cf (p++q) m=cf p m+cf q m:=by
 induction p with
 | nil=>simp only [List.nil_append,cf]; grind
 | cons t p ih=>simp only [List.cons_append,cf,ih]; grind
theorem Abk {p:List Aj} (h:CP p) {t:Aj} (ht:t∈p):cf p t.Mono=rq t.Coef:=by
 induction p with
 | nil=>cases ht
 | cons u p ih=>
  rcases List.mem_cons.1 ht with rfl | ht
  .exact Ru h
  .have:=h.head t ht
   rw [Agh (by omega)]; exact ih h.tail ht
theorem CP.ext:∀{p q:List Aj},CP p->CP q->(∀m,cf p m=cf q m)->p=q
 | [],[],_,_,_=>rfl
 | [],u::q,_,h2,h=>by
  have:=h u.Mono
  rw [Ru h2] at this
  exact ((h2.coe u (by simp)).2 this.symm).elim
 | t::p,[],h1,_,h=>by
  have:=h t.Mono
  rw [Ru h1] at this
  exact ((h1.coe t (by simp)).2 this).elim
 | t::p,u::q,h1,h2,h=>by
  have b:Cr t.Mono u.Mono=0:=by
   rcases Int.lt_trichotomy (Cr t.Mono u.Mono) 0 with k | k | k
   .have e:=h t.Mono
    rw [Ru h1,Rt (p:=u::q)] at e
    .exact ((h1.coe t (by simp)).2 e).elim
    .intro w hw
     rcases List.mem_cons.1 hw with rfl | hw
     .exact k
     .exact Pe k (h2.head w hw)
   .exact k
   .have k:=Agg.1 k
    have e:=h u.Mono
    rw [Ru h2,Rt (p:=t::p)] at e
    .exact ((h2.coe u (by simp)).2 e.symm).elim
    .intro w hw
     rcases List.mem_cons.1 hw with rfl | hw
     .exact k
     .exact Pe k (h1.head w hw)
  have hm:=Hx.1 b
  have hc:t.Coef=u.Coef:=by
   refine Agc (h1.coe t (by simp)).1 (h2.coe u (by simp)).1 ?_
   have e:=h t.Mono
   rw [Ru h1,hm,Ru h2] at e
   exact e
  have ht:t=u:=by cases t; cases u; simp_all
  subst ht
  congr 1
  refine CP.ext h1.tail h2.tail fun m=>?_
  by_cases e:Cr t.Mono m=0
  .rw [<-Hx.1 e,Rt h1.head,Rt h2.head]
  .have:=h m
   rwa [Agh e,Agh e] at this
theorem Anp (c:Aq):Xs c=true↔Hg c/\rq c≠0:=by
 unfold Xs Hg
 rw [Dx,Anb]
 have h:(!(nv c==0))=true↔rq c≠0:=by
  have e:rq c=0↔nv c=0:=by
   unfold rq
   rw [Rat.mkRat_eq_zero (Ee c)]
   unfold sg; split <;> omega
  rw [Ne,e]; simp
 rw [h]
 exact ⟨fun ⟨a,b⟩=>⟨a.symm,b⟩,fun ⟨a,b⟩=>⟨a.symm,b⟩⟩
theorem Ayv {l:List Aj} (h:∀(j:Nat) (x y:Aj),l[j]? = some x->l[j+1]? = some y->Cr x.Mono y.Mono<0):l.Pairwise ltT:=by
 induction l with
 | nil=>exact List.Pairwise.nil
 | cons t l ih=>
  have ih:=ih fun j x y hx hy=>h (j+1) x y (by simpa using hx) (by simpa using hy)
  refine List.pairwise_cons.2 ⟨?_,ih⟩
  cases l with
  | nil=>intro u hu; cases hu
  | cons v l=>
   have h0:=h 0 t v rfl rfl
   intro u hu
   rcases List.mem_cons.1 hu with rfl | hu
   .exact h0
   .exact Pe h0 ((List.pairwise_cons.1 ih).1 u hu)
theorem Abl {data:List Az} {vars:List Ah} {res:Ah} {p:List Aj}:I4 data vars res p=true↔p.length<=1000/\CP p/\∀t∈p,Jn data vars res t.Mono=true:=by
 unfold I4
 rw [Dx,decide_eq_true_eq]
 constructor
 .rintro ⟨h1,h2⟩
  have g:∀(j:Nat) (t:Aj),p[j]? = some t->Xs t.Coef=true/\Jn data vars res t.Mono=true/\Rr p t j=true:=by
   intro j t hj
   have:=Jj h2 hj
   simp only [Up,Dx] at this
   exact ⟨this.1.1,this.1.2,this.2⟩
  refine ⟨h1,⟨Ayv fun j x y hx hy=>?_,fun t ht=>?_⟩,fun t ht=>?_⟩
  .have:=(g _ _ hy).2.2
   unfold Rr at this
   rw [show j+1-1=j by omega,hx] at this
   simpa using this
  .obtain ⟨j,hj⟩:=List.getElem?_of_mem ht
   exact (Anp _).1 (g j t hj).1
  .obtain ⟨j,hj⟩:=List.getElem?_of_mem ht
   exact (g j t hj).2.1
 .rintro ⟨h1,h2,h3⟩
  refine ⟨h1,List.all_eq_true.2 fun q hq=>?_⟩
  have hq:=List.mem_zipIdx' hq
  have hj:p[q.2]? = some q.1:=(Bu hq.1).trans (congrArg some hq.2.symm)
  have hm:q.1∈p:=B4 hj
  simp only [Up,Dx]
  refine ⟨⟨(Anp _).2 (h2.coe _ hm),h3 _ hm⟩,?_⟩
  unfold Rr
  by_cases h0:q.2=0
  .rw [h0]; rfl
  .have b:q.2-1<p.length:=by omega
   rw [Bu b]
   have:=List.pairwise_iff_getElem.1 h2.srt (q.2-1) q.2 b hq.1 (by omega)
   rw [<-hq.2] at this
   simp only [Bool.or_eq_true,decide_eq_true_eq]
   exact .inr this
end Go.Ab
namespace Go.Ab
open Go
theorem Ayw:∀(k:Nat) (t:A9),C4 t<=k->k<1099511627776->Qy k t=some t:=by
 intro k
 induction k with
 | zero=>intro t h; have:=Fs t; omega
 | succ k ih=>
  intro t h hk
  have c:=Fs t
  have b:=Lv t.Kids
  rw [Qy]
  refine Fi t.Kids (fun j=>((j:Int),(t.Kids.take j))) rfl (by omega) ?_ ?_
  .intro j x hj hx h1 h2 h3
   have:=Kq (B4 hx)
   simp only [h1,h2,h3,cond_true,Ad,ih x (by omega) (by omega)]
   rw [Cy (by simp; omega),Ad,C6 hx]
  .intro h1
   exact ⟨t.Kids,by simp,by cases t; rfl⟩
theorem Ayx (m:A8) (b:MSz m):Wc m=some m:=by
 have f:=b.nf
 have c:=b.na
 unfold Wc
 refine Fi m.Factors (fun j=>((j:Int),(m.Factors.take j))) rfl (by omega) ?_ ?_
 .intro j x hj hx h1 h2 h3
  have hm:=B4 hx
  have:=b.fi x hm
  simp only [h1,h2,h3,cond_true,Ad,Ayw 4000000 x.Index (by omega) (by omega)]
  rw [Cy (by simp; omega),Ad,C6 hx]
 .intro h1
  refine ⟨m.Factors,by simp,?_⟩
  dsimp only
  refine Fi m.Atoms (fun j=>((j:Int),(m.Atoms.take j))) rfl (by omega) ?_ ?_
  .intro j x hj hx h1 h2 h3
   have hm:=B4 hx
   have:=b.al x hm
   simp only [h1,h2,h3,cond_true,Ad,Zp]
   rw [Cy (by simp; omega),Ad,Cy (by simp; omega),Ad,C6 hx]; rfl
  .intro h1
   exact ⟨m.Atoms,by simp,by cases m; rfl⟩
end Go.Ab
namespace Go.Ab
open Go
structure TB (k:Nat) (t:Aj):Prop where
 co:RB k t.Coef
 mo:MSz t.Mono
theorem TSz.tb {t:Aj} (h:TSz t):TB 1048576 t:=⟨h.co,h.mo⟩
theorem TB.mono {j k:Nat} {t:Aj} (h:TB j t) (hk:j<=k):TB k t:=⟨h.co.mono hk,h.mo⟩
def Rw (c:Aq) (m:A8):List Aj:=if nv c=0 then [] else [⟨A7 (sv c) (nv c) (dv c),m⟩]
theorem Anq (c:Aq):rq c=0↔nv c=0:=by
 unfold rq
 rw [Rat.mkRat_eq_zero (Ee c)]
 unfold sg; split <;> omega
theorem Ayy (c:Aq) (m n:A8):cf (Rw c m) n=if Cr m n=0 then rq c else 0:=by
 unfold Rw
 split
 .rename_i h
  rw [(Anq c).2 h]; simp [cf]
 .simp only [cf,Kv _ _ _ (Ee c)]
  show (if Cr m n=0 then rq c else 0)+0=_
  grind
structure Mg (F:Rat->Rat->Rat) (k:Nat) (p q R:List Aj):Prop where
 cp:CP R
 val:∀m,cf R m=F (cf p m) (cf q m)
 mon:∀t∈R,(∃u∈p,u.Mono=t.Mono)\/(∃u∈q,u.Mono=t.Mono)
 len:R.length<=p.length+q.length
 rb:∀t∈R,RB (k+1) t.Coef
theorem Ayz {k:Nat} {c:Aq} {m:A8} (hc:RB k c):(∀t∈Rw c m,t.Mono=m/\Hg t.Coef/\rq t.Coef≠0/\RB (k+1) t.Coef)/\(Rw c m).length<=1:=by
 unfold Rw
 split
 .exact ⟨fun _ h=>(by cases h),by simp⟩
 .rename_i h
  refine ⟨fun t ht=>?_,by simp⟩
  simp only [List.mem_singleton] at ht
  subst ht
  exact ⟨rfl,Nk _ _ _ (Ee c),by rw [Kv _ _ _ (Ee c)]; exact fun e=>h ((Anq c).1 e),Afe hc⟩
theorem Mg.step {F:Rat->Rat->Rat} {k:Nat} {p q g f R:List Aj} {c:Aq} {m:A8} (h:Mg F k g f R) (y:F 0 0=0) (hc:RB k c)
  (s:∀n,Cr m n≠0->cf p n=cf g n/\cf q n=cf f n) (h0:rq c=F (cf p m) (cf q m)) (l:∀u∈g,Cr m u.Mono<0) (j:∀u∈f,Cr m u.Mono<0)
  (hm:(∃u∈p,u.Mono=m)\/(∃u∈q,u.Mono=m)) (hp:∀u∈g,u∈p) (hq:∀u∈f,u∈q) (A:g.length+f.length+1<=p.length+q.length):Mg F k p q (Rw c m++R):=by
 obtain ⟨i,z⟩:=Ayz (m:=m) hc
 have x:∀t∈R,Cr m t.Mono<0:=by
  intro t ht
  rcases h.mon t ht with ⟨u,hu,e⟩ | ⟨u,hu,e⟩
  .rw [<-e]; exact l u hu
  .rw [<-e]; exact j u hu
 refine ⟨?_,?_,?_,?_,?_⟩
 .refine ⟨List.pairwise_append.2 ⟨?_,h.cp.srt,?_⟩,?_⟩
  .unfold Rw; split
   .exact List.Pairwise.nil
   .exact List.pairwise_singleton _ _
  .intro a ha b hb
   show Cr a.Mono b.Mono<0
   rw [(i a ha).1]; exact x b hb
  .intro t ht
   rcases List.mem_append.1 ht with ht | ht
   .exact ⟨(i t ht).2.1,(i t ht).2.2.1⟩
   .exact h.cp.coe t ht
 .intro n
  rw [Rv,Ayy,h.val n]
  by_cases e:Cr m n=0
  .rw [if_pos e]
   have e':=Hx.1 e
   subst e'
   rw [Rt l,Rt j,y,h0]; grind
  .rw [if_neg e,(s n e).1,(s n e).2]; grind
 .intro t ht
  rcases List.mem_append.1 ht with ht | ht
  .rw [(i t ht).1]; exact hm
  .rcases h.mon t ht with ⟨u,hu,e⟩ | ⟨u,hu,e⟩
   .exact .inl ⟨u,hp u hu,e⟩
   .exact .inr ⟨u,hq u hu,e⟩
 .rw [List.length_append]; have:=h.len; omega
 .intro t ht
  rcases List.mem_append.1 ht with ht | ht
  .exact (i t ht).2.2.2
  .exact h.rb t ht
end Go.Ab
namespace Go.Ab
open Go
def Hh (n:Int) (f:Bool):List Int:=if f then (if n<0 then [45] else []) else (if n<0 then [32,45,32] else [32,43,32])
def Im (n:Int):List Int:=if n.natAbs=1 then [] else ti n.natAbs++[42]
def Hy (v:Int):List Int:=if v = -1 then [114,101,115] else 118::ti v
def tT (f:Bool) (t:Dk):List Int:=Hh t.Coef f++(Im t.Coef++Hy t.Var)
def Gn:Bool->List Dk->Int->List Int
 | f,[],c=>if c≠0\/f=true then Hh c f++ti c.natAbs else []
 | f,t::ts,c=>tT f t++Gn false ts c
def Xt (l:Ca):List Int:=Gn true l.Terms l.Const
def Hz (X:List Int):Prop:=∀c m,X=c::m->c=97
theorem Hz.nil:Hz []:=by intro c m h; cases h
theorem Hz.cons (X:List Int):Hz (97::X):=by intro c m h; cases h; rfl
theorem Hz.nonum {X:List Int} (h:Hz X):J9 X:=by intro c m e; rw [h c m e]; decide
theorem Agi (n:Nat):∃c m,ti n=c::m/\48<=c/\c<=57:=by
 have b:=Afx (n:Int)
 cases h:ti (n:Int) with
 | nil=>exact (b h).elim
 | cons c m=>
  refine ⟨c,m,rfl,?_⟩
  have hc:c∈ti (n:Int):=by rw [h]; simp
  unfold ti at hc
  obtain ⟨x,hx,rfl⟩:=List.mem_map.1 hc
  have e:Lib.itoa (n:Int)=Lib.decDigits n:=by
   unfold Lib.itoa
   first | rfl | (rw [if_neg (by omega)]; simp) | simp
  rw [e] at hx
  have:=Aa9 n n (Nat.le_refl _) x hx
  omega
theorem Anr (ts:List Dk) (c:Int) {X:List Int} (b:Hz X):J9 (Gn false ts c++X):=by
 have k:∀(n:Int) (Y:List Int),J9 (Hh n false++Y):=by
  intro n Y c m e
  unfold Hh at e
  simp only [Bool.false_eq_true,if_false] at e
  split at e <;> (cases e; decide)
 cases ts with
 | nil=>
  simp only [Gn]
  split
  .rw [List.append_assoc]; exact k _ _
  .exact b.nonum
 | cons t ts=>simp only [Gn,tT,List.append_assoc]; exact k _ _
theorem Ans {v w:Int} {R S:List Int} (c:J9 R) (b:J9 S) (h:Hy v++R=Hy w++S):v=w/\R=S:=by
 unfold Hy at h
 split at h <;> split at h
 .simp only [List.cons_append,List.nil_append,List.cons.injEq,true_and] at h
  exact ⟨by omega,h⟩
 .simp at h
 .simp at h
 .simp only [List.cons_append,List.cons.injEq,true_and] at h
  obtain ⟨g,f⟩:=Ng _ _ _ _ (Gz v) (Gz w) c b h
  exact ⟨Rp g,f⟩
theorem Agj (v:Int):∃c m,Hy v=c::m/\(c=114\/c=118):=by
 unfold Hy
 split
 .exact ⟨_,_,rfl,.inl rfl⟩
 .exact ⟨_,_,rfl,.inr rfl⟩
theorem Agk (X:List Int):J9 (42::X):=by intro c m e; cases e; decide
theorem Ay0 {a b v w:Int} {R S:List Int} (i:J9 R) (g:J9 S) (h:Im a++(Hy v++R)=Im b++(Hy w++S)):a.natAbs=b.natAbs/\v=w/\R=S:=by
 unfold Im at h
 have bad:∀(n:Nat) (u:Int) (X Y:List Int),Hy u++X=ti n++[42]++Y->False:=by
  intro n u X Y e
  obtain ⟨c,m,f,q⟩:=Agj u
  obtain ⟨d,k,l,j⟩:=Agi n
  rw [f,l] at e
  simp only [List.cons_append,List.cons.injEq] at e
  omega
 split at h <;> split at h
 .rename_i h1 h2
  simp only [List.nil_append] at h
  exact ⟨h1.trans h2.symm,Ans i g h⟩
 .exact (bad _ _ _ _ h).elim
 .exact (bad _ _ _ _ h.symm).elim
 .simp only [List.append_assoc,List.cons_append,List.nil_append] at h
  obtain ⟨f,q⟩:=Ng _ _ _ _ (Gz _) (Gz _) (Agk _) (Agk _) h
  have l:=Rp f
  obtain ⟨j,s⟩:=Ans i g (List.cons.inj q).2
  exact ⟨by omega,j,s⟩
def NoM (P:List Int):Prop:=∃c m,P=c::m/\c≠45
theorem NoM.ti (n:Nat) (X:List Int):NoM (Go.Ab.ti n++X):=by
 obtain ⟨c,m,e,h⟩:=Agi n
 exact ⟨c,m++X,by rw [e]; rfl,by omega⟩
theorem NoM.pT (a v:Int) (X:List Int):NoM (Im a++(Hy v++X)):=by
 unfold Im
 split
 .obtain ⟨c,m,e,h⟩:=Agj v
  exact ⟨c,m++X,by rw [e]; rfl,by omega⟩
 .rw [List.append_assoc]; exact NoM.ti _ _
theorem Agl {a b:Int} {f:Bool} {P Q:List Int} (i:NoM P) (g:NoM Q) (h:Hh a f++P=Hh b f++Q):(a<0↔b<0)/\P=Q:=by
 obtain ⟨c,m,rfl,hc⟩:=i
 obtain ⟨d,k,rfl,hd⟩:=g
 unfold Hh at h
 cases f with
 | true=>
  simp only [if_true] at h
  split at h <;> split at h
  .rename_i h1 h2; exact ⟨by simp [h1,h2],by simpa using h⟩
  .simp at h; exact (hd h.1.symm).elim
  .simp at h; exact (hc h.1).elim
  .rename_i h1 h2; exact ⟨by simp [h1,h2],by simpa using h⟩
 | false=>
  simp only [Bool.false_eq_true,if_false] at h
  split at h <;> split at h
  .rename_i h1 h2; exact ⟨by simp [h1,h2],by simpa using h⟩
  .simp at h
  .simp at h
  .rename_i h1 h2; exact ⟨by simp [h1,h2],by simpa using h⟩
theorem Agm {n:Int} {P X:List Int} (b:Hz X) (h:Hh n false++P=X):False:=by
 unfold Hh at h
 simp only [Bool.false_eq_true,if_false] at h
 split at h
 .have:=b _ _ h.symm; omega
 .have:=b _ _ h.symm; omega
theorem Ant {c d:Int} {f:Bool} {u:Dk} {m:List Dk} {X Y:List Int} (b:Hz X) (k:Hz Y) (h:Gn f [] c++X=Gn f (u::m) d++Y):False:=by
 simp only [Gn,tT] at h
 split at h
 .simp only [List.append_assoc] at h
  obtain ⟨_,e⟩:=Agl (NoM.ti _ _) (NoM.pT _ _ _) h
  unfold Im at e
  split at e
  .obtain ⟨q,m1,j,h1⟩:=Agj u.Var
   obtain ⟨l,m2,g,h2⟩:=Agi c.natAbs
   rw [j,g] at e
   simp only [List.nil_append,List.cons_append,List.cons.injEq] at e
   omega
  .simp only [List.append_assoc,List.cons_append,List.nil_append] at e
   obtain ⟨_,g⟩:=Ng _ _ _ _ (Gz _) (Gz _) b.nonum (Agk _) e
   have:=b _ _ g; omega
 .rename_i i
  have hf:f=false:=by cases f with | true=>simp at i | false=>rfl
  subst hf
  simp only [List.nil_append,List.append_assoc] at h
  exact Agm b h.symm
theorem Anu:∀(l m:List Dk) (f:Bool) (c d:Int) (X Y:List Int),Hz X->Hz Y->Gn f l c++X=Gn f m d++Y->l=m/\c=d/\X=Y
 | [],[],f,c,d,X,Y,g,b,h=>by
  simp only [Gn] at h
  split at h <;> split at h
  .simp only [List.append_assoc] at h
   obtain ⟨x,q⟩:=Agl (NoM.ti _ _) (NoM.ti _ _) h
   obtain ⟨j,i⟩:=Ng _ _ _ _ (Gz _) (Gz _) g.nonum b.nonum q
   have s:=Rp j
   exact ⟨rfl,by omega,i⟩
  .rename_i h1 h2
   have hf:f=false:=by cases f with | true=>simp at h2 | false=>rfl
   subst hf
   simp only [List.append_assoc,List.nil_append] at h
   exact (Agm b h).elim
  .rename_i h1 h2
   have hf:f=false:=by cases f with | true=>simp at h1 | false=>rfl
   subst hf
   simp only [List.append_assoc,List.nil_append] at h
   exact (Agm g h.symm).elim
  .rename_i h1 h2
   refine ⟨rfl,?_,by simpa using h⟩
   have a1:c=0:=by by_cases k:c=0; exact k; exact (h1 (.inl k)).elim
   have a2:d=0:=by by_cases k:d=0; exact k; exact (h2 (.inl k)).elim
   omega
 | [],u::m,f,c,d,X,Y,g,b,h=>(Ant g b h).elim
 | t::l,[],f,c,d,X,Y,g,b,h=>(Ant b g h.symm).elim
 | t::l,u::m,f,c,d,X,Y,g,b,h=>by
  simp only [Gn,tT,List.append_assoc] at h
  obtain ⟨x,q⟩:=Agl (NoM.pT _ _ _) (NoM.pT _ _ _) h
  obtain ⟨j,i,s⟩:=Ay0 (Anr _ _ g) (Anr _ _ b) q
  obtain ⟨A,z,y⟩:=Anu l m false c d X Y g b s
  have:t=u:=by
   cases t; cases u
   simp only at x j i
   subst i
   congr 1; omega
  exact ⟨by rw [this,A],z,y⟩
def Gi (a:Ba):List Int:=97::(ti a.Deg++58::Xt a.Lin)
def E5 (f:Bh):List Int:=Ic f.Var f.Index
def Xu (m:A8):List Int:=m.Factors.flatMap E5++m.Atoms.flatMap Gi
theorem Abm (l:List Ba):Hz (l.flatMap Gi):=by
 cases l with
 | nil=>exact Hz.nil
 | cons a l=>simp only [List.flatMap_cons,Gi,List.cons_append]; exact Hz.cons _
theorem Abn (X:List Int):J9 (58::X):=by intro c m e; cases e; decide
theorem Anv:∀(l m:List Ba),l.flatMap Gi=m.flatMap Gi->l=m
 | [],[],_=>rfl
 | [],b::m,h=>by simp [Gi] at h
 | a::l,[],h=>by simp [Gi] at h
 | a::l,b::m,h=>by
  simp only [List.flatMap_cons,Gi,List.cons_append,List.append_assoc,List.cons.injEq,true_and] at h
  obtain ⟨s,q⟩:=Ng _ _ _ _ (Gz _) (Gz _) (Abn _) (Abn _) h
  have k:=(List.cons.inj q).2
  obtain ⟨g,f,j⟩:=Anu _ _ true _ _ _ _ (Abm l) (Abm m) k
  have i:=Anv l m j
  have c:=Rp s
  obtain ⟨⟨x,t1⟩,d1⟩:=a
  obtain ⟨⟨u,t2⟩,d2⟩:=b
  simp only at g f c
  rw [g,f,c,i]
theorem Anw (l:List Bh) {X:List Int} (b:Hz X):Pb (l.flatMap E5++X):=by
 cases l with
 | nil=>intro c m e; rw [b c m e]; exact ⟨by decide,by decide⟩
 | cons a l=>
  intro c m e
  simp only [List.flatMap_cons,E5,Ic,List.cons_append] at e
  cases e; exact ⟨by decide,by decide⟩
theorem Anx:∀(l m:List Bh) (X Y:List Int),Hz X->Hz Y->l.flatMap E5++X=m.flatMap E5++Y->l=m/\X=Y
 | [],[],X,Y,_,_,h=>⟨rfl,by simpa using h⟩
 | [],b::m,X,Y,f,_,h=>by
  simp only [List.flatMap_cons,List.flatMap_nil,E5,Ic,List.cons_append,List.nil_append] at h
  have:=f _ _ h; omega
 | a::l,[],X,Y,_,c,h=>by
  simp only [List.flatMap_cons,List.flatMap_nil,E5,Ic,List.cons_append,List.nil_append] at h
  have:=c _ _ h.symm; omega
 | a::l,b::m,X,Y,f,c,h=>by
  simp only [List.flatMap_cons,E5,Ic,List.cons_append,List.append_assoc,List.cons.injEq,true_and] at h
  obtain ⟨x,u⟩:=Ng _ _ _ _ (Gz _) (Gz _) (Abn _) (Abn _) h
  have s:=(List.cons.inj u).2
  obtain ⟨i,q⟩:=Afz _ _ _ _ (Anw l f) (Anw m c) s
  obtain ⟨k,j⟩:=Anx l m X Y f c q
  have g:=Rp x
  obtain ⟨y,i1⟩:=a
  obtain ⟨v2,i2⟩:=b
  simp only at i g
  exact ⟨by rw [i,g,k],j⟩
theorem Ay1 {m n:A8} (h:Xu m=Xu n):m=n:=by
 obtain ⟨c,f⟩:=Anx _ _ _ _ (Abm _) (Abm _) h
 have b:=Anv _ _ f
 cases m; cases n
 simp only at c b
 rw [c,b]
def By (l:List Int):Prop:=∀c∈l,0<=c/\c<256
theorem By.app {l m:List Int} (h:By l) (h':By m):By (l++m):=by
 intro c hc
 rcases List.mem_append.1 hc with k | k
 .exact h c k
 .exact h' c k
theorem By.ti (n:Int):By (Go.Ab.ti n):=by
 intro c h
 have:=Gz n c h
 simp only [Nf,Bool.or_eq_true,Dx,beq_iff_eq,decide_eq_true_eq] at this
 omega
theorem By.cons {c:Int} {l:List Int} (hc:0<=c/\c<256) (h:By l):By (c::l):=by
 intro d hd
 rcases List.mem_cons.1 hd with rfl | k
 .exact hc
 .exact h d k
theorem By.nil:By []:=fun c h=>by cases h
theorem By.sgn (n:Int) (f:Bool):By (Hh n f):=by
 unfold Hh
 split <;> split <;> intro c hc <;> simp at hc <;> omega
theorem By.mag (n:Int):By (Im n):=by
 unfold Im
 split
 .exact By.nil
 .exact (By.ti _).app (By.cons (by omega) By.nil)
theorem By.var (n:Int):By (Hy n):=by
 unfold Hy
 split
 .intro c hc; simp at hc; omega
 .exact By.cons (by omega) (By.ti _)
theorem By.tT (f:Bool) (t:Dk):By (tT f t):=(By.sgn _ _).app ((By.mag _).app (By.var _))
theorem By.lins:∀(l:List Dk) (f:Bool) (c:Int),By (Gn f l c)
 | [],f,c=>by
  simp only [Gn]
  split
  .exact (By.sgn _ _).app (By.ti _)
  .exact By.nil
 | t::l,f,c=>(By.tT f t).app (By.lins l false c)
theorem By.at (a:Ba):By (Gi a):=By.cons (by omega) ((By.ti _).app (By.cons (by omega) (By.lins _ _ _)))
theorem By.flat {α:Type} {g:α->List Int} (h:∀a,By (g a)) (l:List α):By (l.flatMap g):=by
 intro c hc
 obtain ⟨a,_,k⟩:=List.mem_flatMap.1 hc
 exact h a c k
theorem By.fac (f:Bh):By (E5 f):=Abc f.Var f.Index
theorem By.mono (m:A8):By (Xu m):=(By.flat By.fac _).app (By.flat By.at _)
def bs (l:List Int):ByteArray:=⟨(D6 l).toArray⟩
theorem Ay2 {l m:List Int} (b:By l) (hm:By m) (h:bs l=bs m):l=m:=by
 unfold bs at h
 have h1:(D6 l).toArray=(D6 m).toArray:=by injection h
 have h2:D6 l=D6 m:=by simpa using congrArg Array.toList h1
 exact Af2 _ _ b hm h2
def Jp (m:A8):ByteArray:=bs (Xu m)
theorem Anz {m n:A8} (h:Jp m=Jp n):m=n:=Ay1 (Ay2 (By.mono m) (By.mono n) h)
theorem Xv (l:List Int):(bs l).size=l.length:=by unfold bs D6; simp [ByteArray.size]
theorem An0 {l:List Int} (h:By l):Lf (bs l)=l:=by
 unfold Lf bs D6
 simp only [List.map_map]
 conv=>rhs; rw [<-List.map_id l]
 refine List.map_congr_left fun c hc=>?_
 have:=h c hc
 simp only [Function.comp,UInt8.toNat_ofNat',id]
 omega
theorem Ay3 (l m:List Int):bs l++bs m=bs (l++m):=by
 apply ByteArray.ext
 rw [ByteArray.data_append]
 unfold bs D6
 simp
theorem Rx {l m:List Int} (h:l.length+m.length<=9223372036854775807):Ew (bs l) (bs m)=some (bs (l++m)):=by
 unfold Ew
 rw [if_pos (by rw [Xv,Xv]; exact h),Ay3]
theorem Abo {n:Int} (h:I64 n):Mt n=some (bs (ti n)):=by
 rw [Af1 h]
 congr 2
 congr 1
 unfold D6 ti
 rw [List.map_map]
 conv=>lhs; rw [<-List.map_id (Lib.itoa n)]
 refine List.map_congr_left fun c _=>?_
 simp [Function.comp]
theorem Ay4 (v:Int) (i:A9):G0 v i=bs (Ic v i):=rfl
end Go.Ab
namespace Go.Ab
open Go
theorem Abp {S E R α:Type} {step:S->Option (S⊕E)} {s0:S} {J:E->Option R} {r:R} (c:α) (xs:List α) (b:Nat->S) (h0:s0=b 0) (h:xs.length<2305843009213693952)
  (f:∀(j:Nat) (x:α),xs[j]? = some x->decide (((j+1:Nat):Int)<((c::xs).length:Int))=true->Af (c::xs) ((j+1:Nat):Int)=some x->Ac (((j+1:Nat):Int)+1)=((j+1+1:Nat):Int)->step (b j)=some (.inl (b (j+1))))
  (g:decide (((xs.length+1:Nat):Int)<((c::xs).length:Int))=false->∃e,step (b xs.length)=some (.inr e)/\J e=some r):(Al step s0).bind J=some r:=by
 refine J7 xs.length b h0 (fun j hj=>?_) (g (by simp))
 have hx:xs[j]? = some xs[j]:=Bu hj
 exact f j _ hx (Ak (by simp only [List.length_cons]; omega)) (B6 rfl (by simp)) (Cz (n:=xs.length+1) (by omega) (by omega))
theorem bnd {α β:Type} {X:Option α} {a:α} {K:α->Option β} {r:Option β} (h:X=some a) (k:K a=r):X.bind K=r:=by rw [h]; exact k
theorem Ly {l b:List Int} (c:By l) (h:b.length+l.length<=140737488355328):Fx (bs l) b=some ((l.length:Int),b++l):=by
 simp only [Fx,T3,Ad,An0 c,Xv]
 rw [Cy (by omega)]; rfl
theorem Ry {l b:List Int} (c:By l) (h:b.length+l.length<=140737488355328):Hq (bs l) b=some ((l.length:Int),b++l):=by
 simp only [Hq,Wk,Ad,An0 c,Xv]
 rw [Cy (by omega)]; rfl
theorem Pf {b:List Int} (hb:By b):J3 b=some (bs b):=by
 exact if_pos hb
theorem Ay5 {b:List Int} (hb:By b):W8 b=some (bs b):=Pf hb
theorem Agn (n:Int) (h : -1048576<=n/\n<=1048576):(Im n).length<=22:=by
 unfold Im
 split
 .simp
 .have:=Lw (n:=(n.natAbs:Int)) (by unfold I64; omega)
  simp; omega
theorem Abq (n:Int) (f:Bool):(Hh n f).length<=3:=by unfold Hh; split <;> split <;> simp
theorem Ay6 {v:Int} (h : -1<=v/\v<3000):(Hy v).length<=22:=by
 unfold Hy
 split
 .simp
 .have:=Lw (n:=v) (by unfold I64; omega)
  simp; omega
structure An1 (a:Ca):Prop where
 c : -1048576<=a.Const/\a.Const<=1048576
 n:a.Terms.length<=16
 t:∀t∈a.Terms,(-1<=t.Var/\t.Var<3000)/\(-1048576<=t.Coef/\t.Coef<=1048576)
theorem Ago {a:Ca} (h:Fm a=true):An1 a:=by
 unfold Fm at h
 simp only [Dx,decide_eq_true_eq] at h
 refine ⟨⟨h.1.1,h.1.2.1⟩,h.1.2.2,fun t ht=>?_⟩
 obtain ⟨j,hj⟩:=List.getElem?_of_mem ht
 have:=Jj h.2 hj
 simp only [Uk,Dx,decide_eq_true_eq] at this
 omega
theorem Agp {t:Dk} (f:Bool) (h:(-1<=t.Var/\t.Var<3000)/\(-1048576<=t.Coef/\t.Coef<=1048576)):(tT f t).length<=47:=by
 have:=Abq t.Coef f
 have:=Agn t.Coef h.2
 have:=Ay6 h.1
 unfold tT
 simp only [List.length_append]; omega
theorem An2 {n:Int} (h : -1048576<=n/\n<=1048576):(if Ac (0-n)>n then Ac (0-n) else n)=(n.natAbs:Int):=by
 rw [Ac,Bp (by omega) (by omega)]; split <;> omega
theorem c45:ByteArray.mk #[45]=bs [45]:=rfl
theorem Ay7:ByteArray.mk #[32,45,32]=bs [32,45,32]:=rfl
theorem Ay8:ByteArray.mk #[32,43,32]=bs [32,43,32]:=rfl
theorem c42:ByteArray.mk #[42]=bs [42]:=rfl
theorem An3:ByteArray.mk #[118]=bs [118]:=rfl
theorem c97:ByteArray.mk #[97]=bs [97]:=rfl
theorem c58:ByteArray.mk #[58]=bs [58]:=rfl
theorem An4:ByteArray.mk #[114,101,115]=bs [114,101,115]:=rfl
theorem An5:By [45]:=By.cons (by omega) By.nil
theorem by3 (a b c:Int) (ha:0<=a/\a<256) (hb:0<=b/\b<256) (hc:0<=c/\c<256):By [a,b,c]:=By.cons ha (By.cons hb (By.cons hc By.nil))
theorem An6 {n:Int} (f:Bool) {b:List Int} (c : -1048576<=n/\n<=1048576) (hb:b.length<=1099511627776):W7 n f b=some ((n.natAbs:Int),b++Hh n f):=by
 unfold W7 Hh
 rw [An2 c,c45,Ay7,Ay8]
 rw [Ly An5 (by simp; omega),Ly (by3 _ _ _ (by omega) (by omega) (by omega)) (by simp; omega),Ly (by3 _ _ _ (by omega) (by omega) (by omega)) (by simp; omega)]
 by_cases h:n<0
 .rw [Ak h,if_pos h,if_pos h]; cases f <;> rfl
 .rw [Ap h,if_neg h,if_neg h]; cases f <;> simp
theorem Ay9 {n:Int} {b:List Int} (c : -1048576<=n/\n<=1048576) (hb:b.length<=1099511627776):Qx n true b=some (if n<0 then .inl ((n.natAbs:Int),b++[45]) else .inr ((n.natAbs:Int),b)):=by
 unfold Qx
 rw [An2 c,c45,Ry An5 (by simp; omega)]
 by_cases h:n<0
 .rw [Ak h,if_pos h]; rfl
 .rw [Ap h,if_neg h]; rfl
theorem Agq {n:Nat} (h:n<=1048576):Lo (n:Int) 10=some (bs (ti n)):=by
 unfold Lo Zg
 exact Abo (by unfold I64; omega)
theorem Abr {n:Nat} (h:n<=1048576):(ti (n:Int)).length<=21:=Lw (by unfold I64; omega)
theorem An7 {n:Int} {b:List Int} (c : -1048576<=n/\n<=1048576) (hb:b.length<=1099511627776) :
  (bif ((n.natAbs:Int) != (1:Int)) then (Lo (n.natAbs:Int) 10).bind fun v=>(Ew v (ByteArray.mk #[42])).bind fun u=>(Fx u b).bind fun w=>some w.2 else some b)=some (b++Im n):=by
 have ht:=Abr (n:=n.natAbs) (by omega)
 unfold Im
 by_cases h:n.natAbs=1
 .rw [Dj (by omega),if_pos h]; simp
 .rw [Di (by omega),if_neg h,Agq (by omega),c42]
  simp only [cond_true,Ad]
  rw [Rx (by simp; omega),Ad,Ly ((By.ti _).app (By.cons (by omega) By.nil)) (by simp; omega)]; rfl
theorem Agr {v:Int} {b:List Int} {R:Type} (K:List Int->Option R) (c : -1<=v/\v<3000) (hb:b.length<=1099511627776) :
  (bif (v==(-1)) then (Fx (ByteArray.mk #[114,101,115]) b).bind fun w=>K w.2 else (Hc v).bind fun x=>(Ew (ByteArray.mk #[118]) x).bind fun y=>(Fx y b).bind fun w=>K w.2)=K (b++Hy v):=by
 have ht:=Lw (n:=v) (by unfold I64; omega)
 unfold Hy
 by_cases h:v = -1
 .rw [Ea h,if_pos h,An4,Ly (by3 _ _ _ (by omega) (by omega) (by omega)) (by simp; omega)]; rfl
 .rw [Cm h,if_neg h,An3]
  simp only [cond_false,Hc]
  rw [Abo (by unfold I64; omega),Ad,Rx (by simp; omega),Ad]
  rw [show [118]++ti v=118::ti v from rfl,Ly (By.cons (by omega) (By.ti _)) (by simp; omega)]; rfl
theorem Abs {α:Type} {g:α->List Int} {l:List α} {j:Nat} {x:α} (h:l[j]? = some x):(l.take (j+1)).flatMap g=(l.take j).flatMap g++g x:=by
 rw [C6 h]; simp
theorem An8 {α:Type} {g:α->List Int} {n:Nat}:∀(l:List α),(∀a∈l,(g a).length<=n)->(l.flatMap g).length<=l.length*n
 | [],_=>by simp
 | a::l,h=>by
  have h1:=h a (by simp)
  have h2:=An8 l fun b hb=>h b (by simp [hb])
  simp only [List.flatMap_cons,List.length_append,List.length_cons,Nat.add_mul]; omega
theorem Ags {α:Type} {g:α->List Int} {n:Nat} (l:List α) (j:Nat) (h:∀a∈l,(g a).length<=n):((l.take j).flatMap g).length<=l.length*n:=by
 refine Nat.le_trans (An8 _ fun a ha=>h a (List.mem_of_mem_take ha)) (Nat.mul_le_mul_right _ ?_)
 rw [List.length_take]; omega
theorem An9:∀(ts:List Dk) (c:Int),Gn false ts c=ts.flatMap (tT false)++Gn false [] c
 | [],c=>by simp
 | t::ts,c=>by
  have:=An9 ts c
  simp only [List.flatMap_cons,List.append_assoc,<-this]; rfl
theorem Aza {a:Ca} (h:Fm a=true) (B:a.Terms≠[]):M8 a=some (bs (Xt a)):=by
 have z:=Ago h
 unfold M8
 rw [Xp,h]
 obtain ⟨c,l⟩:=a
 cases l with
 | nil=>exact (B rfl).elim
 | cons t ts=>
  have hc : -1048576<=c/\c<=1048576:=z.c
  have M:ts.length<=15:=by have:=z.n; simp at this; omega
  have ht:(-1<=t.Var/\t.Var<3000)/\(-1048576<=t.Coef/\t.Coef<=1048576):=z.t t (by simp)
  have s:∀u∈ts,(-1<=u.Var/\u.Var<3000)/\(-1048576<=u.Coef/\u.Coef<=1048576):=fun u hu=>z.t u (by simp [hu])
  have x:=fun j=>Ags (g:=tT false) (n:=47) ts j (fun u hu=>Agp false (s u hu))
  have J:=Agp true ht
  simp only [Ad,Dm,cond_false]
  rw [Ak (by simp only [List.length_cons]; omega),cond_true]
  refine bnd (a:=((t.Coef.natAbs:Int),tT true t)) ?_ ?_
  .rw [show Af (t::ts) 0=some t from rfl,Ad,Ay9 ht.2 (by simp),Ad]
   have G:=Lw (n:=t.Var) (by unfold I64; omega)
   have I:=Abr (n:=t.Coef.natAbs) (by omega)
   have D:=Agn t.Coef ht.2
   by_cases q:t.Coef<0
   .rw [if_pos q]
    simp only
    rw [An7 ht.2 (by simp),Ad]
    refine (Agr (fun b=>some ((t.Coef.natAbs:Int),b)) ht.1 (by simp; omega)).trans ?_
    simp [tT,Hh,q]
   .rw [if_neg q]
    simp only
    by_cases h1:t.Coef.natAbs=1
    .rw [Dj (by omega)]
     simp only [cond_false]
     by_cases y:t.Var = -1
     .rw [Ea y,An4,cond_true,Ry (by3 _ _ _ (by omega) (by omega) (by omega)) (by simp)]
      simp [tT,Hh,q,Im,h1,Hy,y]
     .rw [Cm y,cond_false,An3,Hc,Abo (by unfold I64; omega),Ad,Rx (by simp; omega),Ad,show [118]++ti t.Var=118::ti t.Var from rfl,
       Ry (By.cons (by omega) (By.ti _)) (by simp; omega)]
      simp [tT,Hh,q,Im,h1,Hy,y]
    .rw [Di (by omega)]
     simp only [cond_true]
     rw [Agq (by omega),Ad,c42,Rx (by simp; omega),Ad,Ry ((By.ti _).app (By.cons (by omega) By.nil)) (by simp; omega),Ad]
     refine (Agr (fun b=>some ((t.Coef.natAbs:Int),b)) ht.1 (by simp; omega)).trans ?_
     simp [tT,Hh,q,Im,h1]
  .simp only
   refine Abp t ts (fun j=>(((j+1:Nat):Int),tT true t++(ts.take j).flatMap (tT false))) (by simp [Ac,Bp]) (by omega) ?_ ?_
   .intro j u hu h1 h2 h3
    have f:=s u (B4 hu)
    have:=x j
    have D:=Agn u.Coef f.2
    have A:=Abq u.Coef false
    simp only [h1,h2,h3,cond_true,Ad]
    rw [Cm (by omega),An6 false f.2 (by simp only [List.length_append]; omega),Ad,An7 f.2 (by simp only [List.length_append]; omega),Ad]
    refine (Agr (R:=(Int×List Int)⊕List Int) (fun b=>some (.inl (((j+1+1:Nat):Int),b))) f.1 (by simp only [List.length_append]; omega)).trans ?_
    rw [Abs hu]
    simp [tT]
   .intro h1
    have h2:=x ts.length
    rw [List.take_length] at h2
    refine ⟨tT true t++ts.flatMap (tT false),by simp only [h1,cond_false,List.take_length],?_⟩
    have E:By (tT true t++ts.flatMap (tT false)):=(By.tT _ _).app (By.flat (By.tT _) _)
    have e:Xt ⟨c,t::ts⟩=tT true t++ts.flatMap (tT false)++Gn false [] c:=by
     have:=An9 ts c
     rw [List.append_assoc,<-this]; rfl
    rw [e]
    have k:((((t::ts).length:Nat):Int)==(0:Int))=false:=Cm (by simp only [List.length_cons]; omega)
    by_cases i:c=0
    .simp only [Dj i,cond_false,k,Ad]
     rw [Pf E]
     simp [Gn,i]
    .have L:=Abr (n:=c.natAbs) (by omega)
     have A:=Abq c false
     simp only [Di i,cond_true,Ad,k]
     rw [An6 false hc (by simp only [List.length_append]; omega),Ad,Agq (by omega),Ad,Ly (By.ti _) (by simp only [List.length_append]; omega),Ad,
      Pf ((E.app (By.sgn _ _)).app (By.ti _))]
     simp [Gn,i]
theorem Aoa {a:Ca} (h:An1 a):(Xt a).length<=1024:=by
 have key:∀(l:List Dk) (f:Bool),(∀t∈l,(-1<=t.Var/\t.Var<3000)/\(-1048576<=t.Coef/\t.Coef<=1048576))->(Gn f l a.Const).length<=47*l.length+24:=by
  intro l
  induction l with
  | nil=>
   intro f _
   have h1:=Abr (n:=a.Const.natAbs) (by have:=h.c; omega)
   have h2:=Abq a.Const f
   simp only [Gn]
   split <;> simp <;> omega
  | cons t l ih=>
   intro f b
   have h1:=Agp f (b t (by simp))
   have h2:=ih false fun u hu=>b u (by simp [hu])
   simp only [Gn,List.length_append,List.length_cons]; omega
 have:=key a.Terms true h.t
 have:=h.n
 unfold Xt; omega
structure CMo (m:A8):Prop where
 sz:MSz m
 nf:m.Factors.length<=6
 na:m.Atoms.length<=6
 al:∀a∈m.Atoms,Fm a.Lin=true/\a.Lin.Terms≠[]/\1<=a.Deg/\a.Deg<=6
theorem Abt {R:Type} {a:Ba} (K:ByteArray->Option R) (h:Fm a.Lin=true/\a.Lin.Terms≠[]/\1<=a.Deg/\a.Deg<=6) :
  ((Hc a.Deg).bind fun u=>(Ew (ByteArray.mk #[97]) u).bind fun v=>(Ew v (ByteArray.mk #[58])).bind fun w=>(M8 a.Lin).bind fun x=>(Ew w x).bind fun y=>K y)=K (bs (Gi a)):=by
 have h1:=Lw (n:=a.Deg) (by unfold I64; omega)
 have h2:=Aoa (Ago h.1)
 rw [Hc,Abo (by unfold I64; omega),Ad,c97,Rx (by simp; omega),Ad,c58,Rx (by simp; omega),Ad,Aza h.1 h.2.1,Ad,Rx (by simp; omega),Ad]
 simp [Gi]
theorem Xw {a:Ba} (h:Fm a.Lin=true/\a.Lin.Terms≠[]/\1<=a.Deg/\a.Deg<=6):(Gi a).length<=1100:=by
 have h1:=Lw (n:=a.Deg) (by unfold I64; omega)
 have h2:=Aoa (Ago h.1)
 simp [Gi]; omega
theorem Abu {f:Bh} (h:C4 f.Index<=1048576) (b:iR f.Index/\I64 f.Var):(E5 f).length<=33554432:=by
 have h1:=Lw b.2
 have h2:=Af0 f.Index b.1
 simp [E5,Ic]; omega
theorem Azb {m:A8} (h:CMo m):Vy m=some (Jp m):=by
 obtain ⟨fs,c⟩:=m
 have k:∀f∈fs,C4 f.Index<=1048576/\iR f.Index/\I64 f.Var:=fun f hf=>⟨h.sz.fi f hf,h.sz.fr f hf⟩
 have s:∀a∈c,Fm a.Lin=true/\a.Lin.Terms≠[]/\1<=a.Deg/\a.Deg<=6:=h.al
 have nf:fs.length<=6:=h.nf
 have na:c.length<=6:=h.na
 have z:=fun (l:List Bh) (u:∀f∈l,f∈fs) (j:Nat)=>Ags (g:=E5) (n:=33554432) l j (fun f hf=>Abu (k f (u f hf)).1 (k f (u f hf)).2)
 have A:=fun (l:List Ba) (u:∀a∈l,a∈c) (j:Nat)=>Ags (g:=Gi) (n:=1100) l j (fun a ha=>Xw (s a (u a ha)))
 have L:∀l:List Bh,By (l.flatMap E5):=fun l=>By.flat By.fac l
 have E:∀l:List Ba,By (l.flatMap Gi):=fun l=>By.flat By.at l
 have key:∀f:Bh,f∈fs->J2 f.Var f.Index=some (bs (E5 f)):=fun f hf=>Af3 f.Var f.Index (k f hf).2.2 (k f hf).2.1 (k f hf).1
 unfold Vy Jp Xu
 cases fs with
 | nil=>
  rw [Ap (by simp),cond_false]
  cases c with
  | nil=>
   rw [Ap (by simp),cond_false]
   rw [Ay5 By.nil]; rfl
  | cons a c=>
   have ha:=s a (by simp)
   have x:=Xw ha
   rw [Ak (by simp only [List.length_cons]; omega),cond_true,show Af (a::c) 0=some a from rfl,Ad]
   refine (Abt _ ha).trans ?_
   rw [Ry (By.at a) (by simp; omega),Ad]
   refine Abp a c (fun j=>(((j+1:Nat):Int),[]++Gi a++(c.take j).flatMap Gi)) (by simp [Ac,Bp]) (by simp at na; omega) ?_ ?_
   .intro j b hb h1 h2 h3
    have i:=s b (by simp [B4 hb])
    have:=Xw i
    have:=A c (fun b hb=>by simp [hb]) j
    simp at na
    simp only [h1,h2,h3,cond_true,Ad]
    refine (Abt _ i).trans ?_
    rw [Ly (By.at b) (by simp only [List.length_append,List.length_nil]; omega),Ad,Abs hb]
    simp
   .intro h1
    refine ⟨[]++Gi a++c.flatMap Gi,by simp only [h1,cond_false,List.take_length],?_⟩
    dsimp only
    rw [Pf ((By.nil.app (By.at a)).app (E c))]
    simp
 | cons f fs=>
  have hf:=k f (by simp)
  have J:=Abu hf.1 hf.2
  rw [Ak (by simp only [List.length_cons]; omega),cond_true,show Af (f::fs) 0=some f from rfl,Ad,key f (by simp),Ad,Ry (By.fac f) (by simp; omega),Ad]
  refine Abp f fs (fun j=>(((j+1:Nat):Int),[]++E5 f++(fs.take j).flatMap E5)) (by simp [Ac,Bp]) (by simp at nf; omega) ?_ ?_
  .intro j g D h1 h2 h3
   have q:g∈f::fs:=by simp [B4 D]
   have:=Abu (k g q).1 (k g q).2
   have:=z fs (fun b hb=>by simp [hb]) j
   simp at nf
   simp only [h1,h2,h3,cond_true,Ad]
   rw [key g q,Ad,Ly (By.fac g) (by simp only [List.length_append,List.length_nil]; omega),Ad,Abs D]
   simp
  .intro h1
   have G:=z fs (fun b hb=>by simp [hb]) fs.length
   rw [List.take_length] at G
   simp at nf
   refine ⟨[]++E5 f++fs.flatMap E5,by simp only [h1,cond_false,List.take_length],?_⟩
   have y:By ([]++E5 f++fs.flatMap E5):=(By.nil.app (By.fac f)).app (L fs)
   have I:([]++E5 f++fs.flatMap E5).length<=234881024:=by simp only [List.length_append,List.length_nil]; omega
   have eB:(f::fs).flatMap E5 = []++E5 f++fs.flatMap E5:=by simp
   rw [eB]
   generalize []++E5 f++fs.flatMap E5=B at y I
   cases c with
   | nil=>
    rw [Ap (by simp),cond_false,Pf y]; simp
   | cons a c=>
    have ha:=s a (by simp)
    have x:=Xw ha
    rw [Ak (by simp only [List.length_cons]; omega),cond_true,show Af (a::c) 0=some a from rfl,Ad]
    refine (Abt _ ha).trans ?_
    rw [Ly (By.at a) (by omega),Ad]
    refine Abp a c (fun j=>(((j+1:Nat):Int),B++Gi a++(c.take j).flatMap Gi)) (by simp [Ac,Bp]) (by simp at na; omega) ?_ ?_
    .intro j b hb h1 h2 h3
     have i:=s b (by simp [B4 hb])
     have:=Xw i
     have:=A c (fun b hb=>by simp [hb]) j
     simp at na
     simp only [h1,h2,h3,cond_true,Ad]
     refine (Abt _ i).trans ?_
     rw [Ly (By.at b) (by simp only [List.length_append]; omega),Ad,Abs hb]
     simp
    .intro h1
     refine ⟨B++Gi a++c.flatMap Gi,by simp only [h1,cond_false,List.take_length],?_⟩
     dsimp only
     rw [Pf ((y.app (By.at a)).app (E c))]
     simp
end Go.Ab
namespace Go.Ab
open Go
def plc (ts:List Aj):List (ByteArray×Int):=ts.zipIdx.map fun q=>(Jp q.1.Mono,(q.2:Int))
def Dst (ts:List Aj):Prop:=ts.Pairwise fun t u=>t.Mono≠u.Mono
theorem Azc (ts:List Aj) (t:Aj):plc (ts++[t])=plc ts++[(Jp t.Mono,(ts.length:Int))]:=by
 unfold plc; simp [List.zipIdx_append]
theorem Xx (ts:List Aj) (j:Nat):(plc ts)[j]? = (ts[j]?).map fun t=>(Jp t.Mono,(j:Int)):=by
 unfold plc; simp [List.getElem?_map,List.getElem?_zipIdx]
 cases ts[j]? <;> rfl
theorem Azd {ts:List Aj} {j:Nat} {t u:Aj} (h:ts[j]? = some t) (hm:u.Mono=t.Mono):plc (ts.set j u)=plc ts:=by
 apply List.ext_getElem?
 intro i
 rw [Xx,Xx,List.getElem?_set]
 by_cases e:j=i
 .subst e
  rw [if_pos rfl,if_pos (Dn h),h]; simp [hm]
 .rw [if_neg e]
theorem Aob {α:Type}:∀(o:List (ByteArray×α)) (s:ByteArray) (v:α),El o s=false->E3 o s v=o++[(s,v)]
 | [],_,_,_=>rfl
 | p::o,s,v,h=>by
  simp only [El,List.any_cons,Bool.or_eq_false_iff] at h
  simp only [E3,h.1,cond_false,List.cons_append,List.cons.injEq,true_and]
  exact Aob o s v h.2
theorem Aze {ts:List Aj} {m:A8} (h:∀t∈ts,t.Mono≠m):El (plc ts) (Jp m)=false:=by
 unfold El
 rw [List.any_eq_false]
 intro p hp
 obtain ⟨j,hj⟩:=List.getElem?_of_mem hp
 rw [Xx] at hj
 cases ht:ts[j]? with
 | none=>rw [ht] at hj; cases hj
 | some t=>
  rw [ht] at hj
  simp only [Option.map_some,Option.some.injEq] at hj
  subst hj
  intro e
  have e:=(Pa _ _).1 e
  exact h t (B4 ht) (Anz e).symm
theorem Azf {ts:List Aj} (hd:Dst ts) {j:Nat} {t:Aj} (h:ts[j]? = some t):El (plc ts) (Jp t.Mono)=true/\Gv (plc ts) (Jp t.Mono) 0=(j:Int):=by
 have hp:(plc ts)[j]? = some (Jp t.Mono,(j:Int)):=by rw [Xx,h]; rfl
 refine ⟨List.any_eq_true.2 ⟨_,B4 hp,(Pa _ _).2 rfl⟩,?_⟩
 unfold Gv
 have hf:(plc ts).find? (fun p=>Jp t.Mono==p.1)=some (Jp t.Mono,(j:Int)):=by
  cases hf:(plc ts).find? (fun p=>Jp t.Mono==p.1) with
  | none=>
   have:=List.find?_eq_none.1 hf _ (B4 hp)
   exact (this ((Pa _ _).2 rfl)).elim
  | some q=>
   have h1:=List.find?_some hf
   obtain ⟨i,hi⟩:=List.getElem?_of_mem (List.mem_of_find?_eq_some hf)
   rw [Xx] at hi
   cases hu:ts[i]? with
   | none=>rw [hu] at hi; cases hi
   | some u=>
    rw [hu] at hi
    simp only [Option.map_some,Option.some.injEq] at hi
    subst hi
    have e:=Anz ((Pa _ _).1 h1)
    have f:i=j:=by
     have c:=Dn hu
     have b:=Dn h
     rw [Bu c] at hu
     rw [Bu b] at h
     rcases Nat.lt_trichotomy i j with k | k | k
     .have:=List.pairwise_iff_getElem.1 hd i j c b k
      rw [Option.some.inj hu,Option.some.inj h] at this
      exact (this e.symm).elim
     .exact k
     .have:=List.pairwise_iff_getElem.1 hd j i b c k
      rw [Option.some.inj hu,Option.some.inj h] at this
      exact (this e).elim
    subst f
    rw [e]
 rw [hf]; rfl
open Classical in
theorem Rz (t:Aj) (p:List Aj) (m:A8):cf (t::p) m=(if t.Mono=m then rq t.Coef else 0)+cf p m:=by
 simp only [cf]
 by_cases e:t.Mono=m
 .rw [if_pos (Hx.2 e),if_pos e]
 .rw [if_neg (fun h=>e (Hx.1 h)),if_neg e]
open Classical in
theorem Agt:∀{ts:List Aj} {j:Nat} {t u:Aj},ts[j]? = some t->u.Mono=t.Mono->∀m,cf (ts.set j u) m=cf ts m+(if t.Mono=m then rq u.Coef-rq t.Coef else 0)
 | [],j,t,u,h,_,m=>by simp at h
 | s::ts,0,t,u,h,hm,m=>by
  simp only [List.getElem?_cons_zero,Option.some.injEq] at h
  subst h
  rw [List.set_cons_zero,Rz,Rz,hm]
  split <;> grind
 | s::ts,j+1,t,u,h,hm,m=>by
  simp only [List.getElem?_cons_succ] at h
  rw [List.set_cons_succ,Rz,Rz,Agt h hm m]
  grind
theorem Dst.set {ts:List Aj} (h:Dst ts) {j:Nat} {t u:Aj} (ht:ts[j]? = some t) (hm:u.Mono=t.Mono):Dst (ts.set j u):=by
 have e:(ts.set j u).map (·.Mono)=ts.map (·.Mono):=by
  apply List.ext_getElem?
  intro i
  rw [List.getElem?_map,List.getElem?_map,List.getElem?_set]
  by_cases e:j=i
  .subst e; rw [if_pos rfl,if_pos (Dn ht),ht]; simp [hm]
  .rw [if_neg e]
 have k:∀l:List Aj,Dst l↔(l.map (·.Mono)).Pairwise (·≠·):=fun l=>by rw [List.pairwise_map]; exact Iff.rfl
 rw [k,e,<-k]; exact h
structure Col (k:Nat) (P:A8->Prop) (ts:List Aj):Prop where
 dst:Dst ts
 tb:∀t∈ts,RB k t.Coef
 mo:∀t∈ts,P t.Mono
theorem Col.nil (k:Nat) (P:A8->Prop):Col k P []:=⟨List.Pairwise.nil,fun _ h=>(by cases h),fun _ h=>(by cases h)⟩
theorem Aoc {k0 k:Nat} {P:A8->Prop} (J:∀m,P m->CMo m) (l ts:List Aj) (B:Col k0 P ts) (I:∀t∈l,RB k t.Coef/\P t.Mono) (hk:k<=k0) (S:k0+l.length*(k+3)<34359738000) (R:ts.length+l.length<=1099511627776) :
  ∃f,N7 l (plc ts) ts=some (plc f,f)/\Col (k0+l.length*(k+3)) P f/\f.length<=ts.length+l.length/\∀m,cf f m=cf ts m+cf l m:=by
 unfold N7
 refine Aaj (A:=List Aj) (fun f=>(plc f,f)) ?_
 refine D9 (fun s=>∃(j:Nat) (u:List Aj),s=((j:Int),plc u,u)/\j<=l.length/\Col (k0+j*(k+3)) P u/\u.length<=ts.length+j/\∀m,cf u m=cf ts m+cf (l.take j) m) (fun s=>l.length-s.1.toNat)
  (fun z=>∃u,z=(plc u,u)/\Col (k0+l.length*(k+3)) P u/\u.length<=ts.length+l.length/\∀m,cf u m=cf ts m+cf l m) ⟨0,ts,rfl,by omega,by simpa using B,by omega,fun m=>by simp only [List.take_zero,cf]; grind⟩ ?_ ?_
 .rintro _ ⟨j,u,rfl,hj,hu,y,q⟩
  rcases Nat.lt_or_ge j l.length with h | h
  .have hx:l[j]? = some l[j]:=Bu h
   generalize l[j]=x at hx
   obtain ⟨hb,hm⟩:=I x (B4 hx)
   have E:j*(k+3)+(k+3)<=l.length*(k+3):=by rw [<-Nat.succ_mul]; exact Nat.mul_le_mul_right _ h
   have D:(j+1)*(k+3)=j*(k+3)+(k+3):=by rw [Nat.succ_mul]
   simp only [Ak (by omega:(j:Int)<(l.length:Int)),cond_true,B6 rfl hx,Ad,Azb (J _ hm),Cz h (by omega)]
   left
   by_cases hex:∃t∈u,t.Mono=x.Mono
   .obtain ⟨t,ht,G⟩:=hex
    obtain ⟨i,hi⟩:=List.getElem?_of_mem ht
    obtain ⟨g1,g2⟩:=Azf hu.dst hi
    rw [G] at g1 g2
    obtain ⟨c,N,_,M,U,L⟩:=Ane (hu.tb t ht) hb (by omega) (by omega)
    refine ⟨((j+1:Nat),plc (u.set i ⟨c,t.Mono⟩),u.set i ⟨c,t.Mono⟩),?_,⟨j+1,u.set i ⟨c,t.Mono⟩,rfl,by omega,⟨hu.dst.set hi rfl,?_,?_⟩,by rw [List.length_set]; omega,fun m=>?_⟩,by simp; omega⟩
    .simp only [g1,g2,cond_true,Ad,B6 rfl hi,N,Fb rfl,Azd (u:=⟨c,t.Mono⟩) hi rfl]
    .intro w hw
     rcases List.mem_or_eq_of_mem_set hw with hw | rfl
     .exact (hu.tb w hw).mono (by omega)
     .exact M.mono (by omega)
    .intro w hw
     rcases List.mem_or_eq_of_mem_set hw with hw | rfl
     .exact hu.mo w hw
     .exact hu.mo t ht
    .rw [Agt (u:=⟨c,t.Mono⟩) hi rfl m,q m,C6 hx,Rv,Rz]
     simp only [L,G,cf]
     split <;> grind
   .have g:=Aze (m:=x.Mono) (ts:=u) fun t ht e=>hex ⟨t,ht,e⟩
    refine ⟨((j+1:Nat),plc (u++[x]),u++[x]),?_,⟨j+1,u++[x],rfl,by omega,⟨?_,?_,?_⟩,by simp; omega,fun m=>?_⟩,by simp; omega⟩
    .simp only [g,cond_false,Ad]
     rw [Cy (by simp; omega),Ad,Aob _ _ _ g,Azc]
    .refine List.pairwise_append.2 ⟨hu.dst,List.pairwise_singleton _ _,fun a ha b hb=>?_⟩
     simp only [List.mem_singleton] at hb
     subst hb
     exact fun e=>hex ⟨a,ha,e⟩
    .intro w hw
     rcases List.mem_append.1 hw with hw | hw
     .exact (hu.tb w hw).mono (by omega)
     .simp only [List.mem_singleton] at hw
      subst hw
      exact hb.mono (by omega)
    .intro w hw
     rcases List.mem_append.1 hw with hw | hw
     .exact hu.mo w hw
     .simp only [List.mem_singleton] at hw
      subst hw
      exact hm
    .rw [Rv,q m,C6 hx,Rv]; grind
  .have:j=l.length:=by omega
   subst this
   rw [List.take_length] at q
   simp only [Ap (by omega:¬(l.length:Int)<(l.length:Int)),cond_false]
   exact .inr ⟨_,rfl,u,rfl,hu,y,q⟩
 .rintro _ ⟨u,rfl,h1,h2,h3⟩
  exact ⟨_,rfl,u,rfl,h1,h2,h3⟩
end Go.Ab
namespace Go.Ab
open Go
theorem Agu (t u:Aj) (h:MSz t.Mono):M5 t u=some (Cr t.Mono u.Mono):=by
 unfold M5
 rw [Am4 _ _ h]; rfl
theorem Azg {α:Type} (A R:List α) (x y:α):((A++y::x::R).set (A.length+1) y).set A.length x=A++x::y::R:=by
 induction A with
 | nil=>rfl
 | cons a A ih=>simp only [List.cons_append,List.length_cons,List.set_cons_succ,ih]
theorem Aod {α:Type} (A R:List α) (x:α):(A++x::R)[A.length]? = some x:=by simp
theorem Azh {α:Type} (A R:List α) (x y:α):(A++y::x::R)[A.length+1]? = some x:=by
 induction A with
 | nil=>rfl
 | cons a A ih=>simp
theorem Azi {step:Int×List Aj->Option ((Int×List Aj)⊕(Int×List Aj))} (N:Nat) (E:N<4611686018427387904)
  (b:∀(x:Aj) (R:List Aj),step (0,x::R)=some (.inr (0,x::R)))
  (k:∀(A R:List Aj) (x y:Aj),(∀t∈A++y::x::R,MSz t.Mono)->(A++y::x::R).length<=N->step (((A.length+1:Nat):Int),A++y::x::R) =
   if Cr x.Mono y.Mono<0 then some (.inl ((A.length:Int),A++x::y::R)) else some (.inr (((A.length+1:Nat):Int),A++y::x::R))) :
  ∀(n:Nat) (A R:List Aj) (x:Aj),A.length=n->(∀t∈A++x::R,MSz t.Mono)->(A++x::R).length<=N ->
   ∃f i,Al step ((A.length:Int),A++x::R)=some ((f.length:Int),f++x::(i++R))/\A=f++i/\(∀a∈i,ltT x a)/\∀l y,f=l++[y]->¬ltT x y:=by
 intro n
 induction n with
 | zero=>
  intro A R x g _ _
  have:A = []:=List.length_eq_zero_iff.1 g
  subst this
  exact ⟨[],[],Ds (b x R),rfl,(fun _ h=>by cases h),(fun l y h=>by simp at h)⟩
 | succ n ih=>
  intro A R x g hm c
  obtain ⟨B,y,rfl⟩:∃B y,A=B++[y]:=by
   rcases List.eq_nil_or_concat A with h | ⟨B,y,h⟩
   .rw [h] at g; cases g
   .exact ⟨B,y,by simpa using h⟩
  have s:B.length=n:=by simpa using g
  have D:(B++[y])++x::R=B++y::x::R:=by simp
  have el:(((B++[y]).length:Nat):Int)=((B.length+1:Nat):Int):=by simp
  rw [D] at hm c ⊢
  rw [el]
  have j:=k B R x y hm c
  by_cases hc:Cr x.Mono y.Mono<0
  .rw [if_pos hc] at j
   obtain ⟨f,i,h1,h2,h3,u⟩:=ih B (y::R) x s (by
    intro t ht
    refine hm t ?_
    simp only [List.mem_append,List.mem_cons] at ht ⊢
    rcases ht with h | h | h | h <;> simp [h]) (by simpa using c)
   refine ⟨f,i++[y],?_,by rw [h2]; simp,?_,u⟩
   .rw [Hm j,h1]; simp
   .intro a ha
    rcases List.mem_append.1 ha with ha | ha
    .exact h3 a ha
    .simp only [List.mem_singleton] at ha
     subst ha; exact hc
  .rw [if_neg hc] at j
   refine ⟨B++[y],[],?_,by simp,(fun _ h=>by cases h),?_⟩
   .rw [Ds j]; simp
   .intro l z q
    have:=List.append_inj' q rfl
    have e:y=z:=by simpa using this.2
    subst e; exact hc
theorem Azj {a b c:Aj} (h:ltT a b) (h':ltT b c):ltT a c:=Pe h h'
theorem Azk {c j:List Aj} {x:Aj} (u:(c++j).Pairwise ltT) (h2:∀a∈j,ltT x a) (h1:∀g y,c=g++[y]->¬ltT x y) (hd:∀a∈c,a.Mono≠x.Mono):(c++x::j).Pairwise ltT:=by
 obtain ⟨i,s,l⟩:=List.pairwise_append.1 u
 have hx:∀a∈c,ltT a x:=by
  intro a ha
  rcases List.eq_nil_or_concat c with h | ⟨g,y,h⟩
  .rw [h] at ha; cases ha
  .have h:c=g++[y]:=by simpa using h
   have f:ltT y x:=by
    have q:=h1 g y h
    have z:=hd y (by rw [h]; simp)
    unfold ltT at *
    rcases Int.lt_trichotomy (Cr x.Mono y.Mono) 0 with k | k | k
    .exact (q k).elim
    .exact (z (Hx.1 k).symm).elim
    .exact Agg.1 k
   rw [h] at ha i
   rcases List.mem_append.1 ha with ha | ha
   .exact Azj ((List.pairwise_append.1 i).2.2 a ha y (by simp)) f
   .simp only [List.mem_singleton] at ha
    subst ha; exact f
 refine List.pairwise_append.2 ⟨i,List.pairwise_cons.2 ⟨h2,s⟩,fun a ha b hb=>?_⟩
 rcases List.mem_cons.1 hb with rfl | hb
 .exact hx a ha
 .exact l a ha b hb
noncomputable def Xy:Int×List Aj->Option ((Int×List Aj)⊕(Int×List Aj)):=fun (v31,b)=>
 (show Option Bool from
 bif (decide (v31>(0:Int))) then (
 (Af b v31).bind fun v33=>
 (Af b (Ac (v31-1))).bind fun g=>
 (M5 v33 g).bind fun v35=>
 some (decide (v35<(0:Int))))
 else some false).bind fun f=>
 bif f then (
 (Af b (Ac (v31-1))).bind fun v37=>
 (Af b v31).bind fun c=>
 (Af b v31).bind fun v39=>
 (Af (Ci b v31 v37) (Ac (v31-1))).bind fun v40=>
 some (.inl ((Ac (v31-1)),(Ci (Ci b v31 v37) (Ac (v31-1)) c))))
 else some (.inr (v31,b))
theorem Azl (y:Aj) (R:List Aj):Xy (0,y::R)=some (.inr (0,y::R)):=by
 unfold Xy
 simp only [Ap (by omega:¬(0:Int)>0),cond_false,Ad]
theorem Azm {N:Nat} (h:N<=1099511627776) (A R:List Aj) (u y:Aj) (b:∀t∈A++y::u::R,MSz t.Mono) (c:(A++y::u::R).length<=N):Xy (((A.length+1:Nat):Int),A++y::u::R) =
  if Cr u.Mono y.Mono<0 then some (.inl ((A.length:Int),A++u::y::R)) else some (.inr (((A.length+1:Nat):Int),A++y::u::R)):=by
 have g:A.length+1<N:=by simp at c; omega
 have f:Ac (((A.length+1:Nat):Int)-1)=(A.length:Int):=by rw [Ac,Bp] <;> omega
 unfold Xy
 simp only [Ak (by omega:((A.length+1:Nat):Int)>0),cond_true,f,B6 (n:=A.length+1) rfl (Azh A R u y),B6 (n:=A.length) rfl (Aod A (u::R) y),Ad,Agu u y (b u (by simp))]
 by_cases hc:Cr u.Mono y.Mono<0
 .rw [Ak hc,if_pos hc]
  simp only [cond_true]
  rw [Fb (n:=A.length+1) rfl,Fb (n:=A.length) rfl,Azg]
  have:Af ((A++y::u::R).set (A.length+1) y) (A.length:Int)=some y:=by
   refine B6 rfl ?_
   rw [List.getElem?_set_ne (by omega)]; exact Aod A (u::R) y
  rw [this]; rfl
 .rw [Ap hc,if_neg hc]; rfl
theorem Azn (b:List Aj) (hd:Dst b) (hm:∀t∈b,MSz t.Mono) (L:b.length<=1099511627776) :
  ∃R,Ws 0 (b.length:Int) b=some R/\R.Perm b/\R.Pairwise ltT:=by
 unfold Ws
 cases b with
 | nil=>
  refine ⟨[],?_,List.Perm.refl _,List.Pairwise.nil⟩
  refine J7 0 (fun _=>((1:Int),([]:List Aj))) (by simp [Ac,Bp]) (fun j hj=>by omega) ⟨[],?_,rfl⟩
  simp
 | cons z0 A=>
 generalize f:z0::A=b at *
 have hpos:1<=b.length:=by rw [<-f]; simp
 refine D9 (fun s=>∃(i:Nat) (S:List Aj),s=((i:Int),S++b.drop i)/\1<=i/\i<=b.length/\S.length=i/\S.Perm (b.take i)/\S.Pairwise ltT) (fun s=>b.length-s.1.toNat)
  (fun R=>R.Perm b/\R.Pairwise ltT) ⟨1,[z0],by rw [<-f]; simp [Ac,Bp],by omega,hpos,rfl,by rw [<-f]; simp,List.pairwise_singleton _ _⟩ ?_ ?_
 .rintro _ ⟨i,S,rfl,I,hi,G,c,k⟩
  rcases Nat.lt_or_ge i b.length with h | h
  .have hx:b[i]? = some b[i]:=Bu h
   generalize b[i]=x at hx
   have g:b.drop i=x::b.drop (i+1):=Kr hx
   have z:(S++x::b.drop (i+1)).length=b.length:=by simp; omega
   have y:∀t∈S++x::b.drop (i+1),t∈b:=by
    intro t ht
    rcases List.mem_append.1 ht with ht | ht
    .exact List.mem_of_mem_take (c.mem_iff.1 ht)
    .rw [<-g] at ht; exact List.mem_of_mem_drop ht
   simp only [Ak (by omega:(i:Int)<(b.length:Int)),cond_true,Cz h (by omega)]
   rw [g]
   left
   obtain ⟨q,l,h1,h2,h3,J⟩:=Azi (step:=Xy) b.length (by omega) Azl (Azm (by omega)) S.length S (b.drop (i+1)) x rfl (fun t ht=>hm t (y t ht)) (by rw [z]; exact Nat.le_refl _)
   rw [G] at h1
   have hp:(q++x::l).Perm (b.take (i+1)):=by
    rw [C6 hx]
    have:(q++x::l).Perm ((q++l)++[x]):=by
     rw [List.append_assoc]
     exact List.Perm.append_left q (List.perm_append_singleton x l).symm
    exact this.trans (by rw [<-h2]; exact c.append_right [x])
   refine ⟨(((i+1:Nat):Int),(q++x::l)++b.drop (i+1)),bnd h1 (by simp),⟨i+1,q++x::l,rfl,by omega,by omega,?_,hp,?_⟩,by simp; omega⟩
   .rw [hp.length_eq,List.length_take]; omega
   .rw [h2] at k
    refine Azk k h3 J fun a ha=>?_
    have E:a∈b.take i:=c.mem_iff.1 (by rw [h2]; simp [ha])
    have B:x∈b.drop i:=by rw [g]; simp
    have D:(b.take i++b.drop i).Pairwise fun t u=>t.Mono≠u.Mono:=by rw [List.take_append_drop]; exact hd
    exact (List.pairwise_append.1 D).2.2 a E x B
  .have:i=b.length:=by omega
   subst this
   rw [List.take_length] at c
   simp only [Ap (by omega:¬(b.length:Int)<(b.length:Int)),cond_false,List.drop_length,List.append_nil]
   exact .inr ⟨S,rfl,c,k⟩
 .rintro R ⟨h1,h2⟩
  exact ⟨R,rfl,h1,h2⟩
theorem Nm {α:Type} {n:Nat} {l:List α} (h:n=l.length):Gc n l=some ():=by unfold Gc; rw [if_pos h]
theorem Azo {s:ByteArray} {i:Int} (h0:0<=i) (h:i.toNat<s.size):∃c,Eu s i=some c:=by
 unfold Eu
 rw [if_pos h0]
 exact ⟨_,getElem?_pos s i.toNat h⟩
set_option maxRecDepth 20000 in
theorem Azp {n:Nat} (h:n<256):∃v,Wb (Ax (n:Int))=some v:=by
 unfold Wb Zw
 rw [Ax,Cw (by omega) (by omega),Ap (by omega)]
 simp only [cond_false,Ad]
 rw [Ap (by omega)]
 simp only [cond_false,Ad]
 rw [Ap (by omega)]
 simp only [cond_false,Ad]
 have b:wu8 (n:Int)=(n:Int):=by
  rw [wu8]; unfold IntKind.wrap; simp [IntKind.bits,IntKind.signed]; omega
 rw [b]
 generalize g:ByteArray.mk _=T
 have f:T.size=256:=by rw [<-g]; rfl
 obtain ⟨c,hc⟩:=Azo (s:=T) (i:=(n:Int)) (by omega) (by rw [f]; simpa using h)
 rw [hc]
 exact ⟨_,rfl⟩
theorem Azq (b:List Aj) (hd:Dst b) (hm:∀t∈b,MSz t.Mono) (f:b.length<=12):∃R,M4 b=some R/\R.Perm b/\R.Pairwise ltT:=by
 obtain ⟨R,h1,h2,h3⟩:=Azn b hd hm (by omega)
 obtain ⟨v,c⟩:=Azp (n:=b.length) (by omega)
 refine ⟨R,?_,h2,h3⟩
 unfold M4
 rw [Nat.ble_eq_true_of_le f,cond_true]
 unfold Aek
 rw [c,Ad]
 have hp:Wa 0 (b.length:Int) v b=some R:=by
  unfold Wa
  refine bnd (a:=R) (Ds ?_) rfl
  have w:Ac ((b.length:Int)-0)=(b.length:Int):=by rw [Ac,Bp] <;> omega
  simp only [w,Ak (by omega:(b.length:Int)<=12),cond_true,h1,Ad,Nm h2.length_eq.symm]
 rw [hp,Ad,Nm h2.length_eq.symm]; rfl
def clT (t:Aj):Aj:=⟨A7 (sv t.Coef) (nv t.Coef) (dv t.Coef),t.Mono⟩
theorem Azr {k:Nat} (p:List Aj) (hk:k<34359738000) (hp:∀t∈p,RB k t.Coef/\MSz t.Mono) (b:p.length<=1048576):Vz p=some (p.map clT):=by
 unfold Vz
 refine Fi p (fun j=>((j:Int),(p.take j).map clT)) rfl (by omega) ?_ ?_
 .intro j x hj hx h1 h2 h3
  obtain ⟨a1,a2⟩:=hp x (B4 hx)
  simp only [h1,h2,h3,cond_true,Ad,Aas x.Coef k a1 (by omega),Ayx x.Mono a2]
  rw [Cy (by simp; omega),Ad,C6 hx]
  simp [clT]
 .intro h1
  exact ⟨p.map clT,by simp,rfl⟩
theorem Azs (p:List Aj) (m:A8):cf (p.map clT) m=cf p m:=by
 induction p with
 | nil=>rfl
 | cons t p ih=>
  simp only [List.map_cons,cf,ih,clT]
  rw [Kv _ _ _ (Ee _)]; rfl
theorem Azt {p q:List Aj} (h:p.Perm q) (m:A8):cf p m=cf q m:=by
 induction h with
 | nil=>rfl
 | cons x _ ih=>simp only [cf,ih]
 | swap x y l=>simp only [cf]; grind
 | trans _ _ h1 h2=>rw [h1,h2]
def nzT (t:Aj):Bool:=decide (rq t.Coef≠0)
theorem Azu (p:List Aj) (m:A8):cf (p.filter nzT) m=cf p m:=by
 induction p with
 | nil=>rfl
 | cons t p ih=>
  by_cases h:rq t.Coef=0
  .rw [List.filter_cons_of_neg (by simp [nzT,h]),ih]; simp only [cf,h]; grind
  .rw [List.filter_cons_of_pos (by simp [nzT,h])]; simp only [cf,ih]
theorem Azv (x:Rat):(I5 x != (0:Int))=decide (x≠0):=by
 unfold I5
 by_cases h1:x<0
 .rw [if_pos h1]
  have:x≠0:=by intro e; subst e; exact absurd h1 (by decide)
  simp [this]
 .rw [if_neg h1]
  by_cases h2:0<x
  .rw [if_pos h2]
   have:x≠0:=by intro e; subst e; exact absurd h2 (by decide)
   simp [this]
  .rw [if_neg h2]
   have:x=0:=Rat.le_antisymm (Rat.not_lt.1 h2) (Rat.not_lt.1 h1)
   simp [this]
theorem Azw {α:Type} {f:α->Bool} {l:List α} {j:Nat} {x:α} (h:l[j]? = some x):(l.take (j+1)).filter f=(l.take j).filter f++(if f x then [x] else []):=by
 rw [C6 h,List.filter_append]; congr 1; cases k:f x <;> simp [List.filter,k]
theorem Aoe {k:Nat} {P:A8->Prop} (q:∀m,P m->CMo m) (o:List (ByteArray×Int)) (ts:List Aj) (h:Col k P ts) (hk:k<34359738000) (A:ts.length<=1000)
  (z:∀c:List Aj,c.length<=ts.length->Dst c->(∀t∈c,MSz t.Mono)->∃R,M4 c=some R/\R.Perm c/\R.Pairwise ltT) :
  ∃R,N8 o ts=some (R,0)/\CP R/\(∀m,cf R m=cf ts m)/\(∀t∈R,P t.Mono/\RB (k+1) t.Coef)/\R.length<=ts.length:=by
 unfold N8
 have g:(ts.filter nzT).length<=ts.length:=List.length_filter_le _ _
 obtain ⟨S,y,f,s⟩:=z (ts.filter nzT) g (List.Pairwise.filter _ h.dst) (fun t ht=>(q _ (h.mo t (List.mem_filter.1 ht).1)).sz)
 have b:∀t∈S,t∈ts/\rq t.Coef≠0:=by
  intro t ht
  have:=List.mem_filter.1 (f.mem_iff.1 ht)
  exact ⟨this.1,by simpa [nzT] using this.2⟩
 refine ⟨S.map clT,?_,⟨?_,?_⟩,?_,?_,?_⟩
 .refine Fi ts (fun j=>((j:Int),(ts.take j).filter nzT)) rfl (by omega) ?_ ?_
  .intro j x hj hx h1 h2 h3
   have hb:=h.tb x (B4 hx)
   have l:((ts.take j).filter nzT).length<=ts.length:=Nat.le_trans (List.length_filter_le _ _) (by rw [List.length_take]; omega)
   simp only [h1,h2,h3,cond_true,Ad,(Nl hb hk).1,Azv]
   rw [Azw hx]
   by_cases i:rq x.Coef=0
   .have:nzT x=false:=by simp [nzT,i]
    rw [Ap (by simpa using i),this]; simp
   .have:nzT x=true:=by simp [nzT,i]
    rw [Ak i,this]
    simp only [cond_true]
    rw [Cy (by simp; omega)]; simp
  .intro h1
   refine ⟨ts.filter nzT,by simp only [h1,cond_false,List.take_length],?_⟩
   rw [Ap (by omega)]
   simp only [cond_false]
   rw [y,Ad,Nm f.length_eq.symm,Ad,
    Azr (k:=k) S hk (fun t ht=>⟨h.tb t (b t ht).1,(q _ (h.mo t (b t ht).1)).sz⟩) (by rw [f.length_eq]; omega)]; rfl
 .rw [List.pairwise_map]; exact s
 .intro t ht
  obtain ⟨u,hu,rfl⟩:=List.mem_map.1 ht
  refine ⟨Nk _ _ _ (Ee _),?_⟩
  show rq (A7 _ _ _)≠0
  rw [Kv _ _ _ (Ee _)]; exact (b u hu).2
 .intro m
  rw [Azs,Azt f,Azu]
 .intro t ht
  obtain ⟨u,hu,rfl⟩:=List.mem_map.1 ht
  exact ⟨h.mo u (b u hu).1,Afe (h.tb u (b u hu).1)⟩
 .rw [List.length_map,f.length_eq]; exact g
end Go.Ab
namespace Go.Ab
open Go
theorem Aof (x:Ce) (g:CSz x) (ps:List (List Aj)) (B:∀p∈ps,∀t∈p,TSz t) (R:ps.length<=1048576) :
  ∃r,L7 x ps=some r/\(((Ig x/\∀p∈ps,I4 x.Data x.Vars x.Res p=true)/\∃A,r = .inl (true,x,A,[],x.Data,x.Vars,x.Res.Kind,x.Res.Num,x.Res.Args)/\Ft x.Data x.Vars x.Res A) \/
   ((¬(Ig x/\∀p∈ps,I4 x.Data x.Vars x.Res p=true))/\r = .inr false)):=by
 obtain ⟨b,b1,b2⟩:=Aw5 g.ds
 have L:=g.nv
 have J:=g.rs
 unfold L7
 rw [b1,Afg x.Data x.Res 0 (by omega)]
 by_cases l:x.Vars.length<=3000
 .rw [Ap (by omega)]
  simp only [cond_false,Ad]
  cases b with
  | false=>exact ⟨_,rfl,.inr ⟨fun h=>(by have:=b2.2 h.1.2.1; cases this),rfl⟩⟩
  | true=>
   have I:=b2.1 rfl
   simp only [Dm,cond_false]
   cases E:(Fj x.Data 0 x.Res&&decide (Bg x.Res<=200)) with
   | false=>exact ⟨_,rfl,.inr ⟨fun h=>(by have:=h.1.2.2.1; rw [show Jo x.Data x.Res=false from E] at this; cases this),rfl⟩⟩
   | true=>
    simp only [Dm,cond_false,Ad]
    refine D9 (fun i=>∃j:Nat,i=j/\j<=x.Vars.length/\(x.Vars.take j).all (Jo x.Data)=true) (fun i=>x.Vars.length-i.toNat)
     (fun z=>match z with | .inl r=>r=false/\¬Ig x | .inr _=>Ig x) ⟨0,rfl,by omega,by simp⟩ ?_ ?_
    .rintro i ⟨j,rfl,hj,c⟩
     rcases Nat.lt_or_ge j x.Vars.length with h | h
     .have ht:x.Vars[j]? = some x.Vars[j]:=Bu h
      generalize x.Vars[j]=t at ht
      have:=g.vs t (B4 ht)
      simp only [Ak (by omega:(j:Int)<(x.Vars.length:Int)),cond_true,B6 rfl ht,Ad,Afg x.Data t 0 (by omega),Cz h (by omega)]
      rw [show (Fj x.Data 0 t&&decide (Bg t<=200))=Jo x.Data t from rfl]
      cases G:Jo x.Data t with
      | true=>exact .inl ⟨_,rfl,⟨j+1,rfl,by omega,by rw [C6 ht,List.all_append,c]; simp [G]⟩,by simp; omega⟩
      | false=>
       refine .inr ⟨.inl false,rfl,rfl,fun D=>?_⟩
       have:=List.all_eq_true.1 D.2.2.2 t (B4 ht)
       rw [G] at this; cases this
     .have:j=x.Vars.length:=by omega
      subst this
      rw [List.take_length] at c
      exact .inr ⟨.inr (),by simp,l,I,E,c⟩
    .rintro (r | u) f
     .obtain ⟨rfl,f⟩:=f
      exact ⟨_,rfl,.inr ⟨fun h=>f h.1,rfl⟩⟩
     .have hf:Ig x:=f
      simp only
      refine D9 (fun s=>∃(j:Nat) (o:List (ByteArray×Int)),s=((j:Int),o)/\j<=ps.length/\Ft x.Data x.Vars x.Res o/\∀p∈ps.take j,I4 x.Data x.Vars x.Res p=true) (fun s=>ps.length-s.1.toNat)
       (fun z=>match z with | .inl r=>r=false/\¬(∀p∈ps,I4 x.Data x.Vars x.Res p=true) | .inr o=>Ft x.Data x.Vars x.Res o/\∀p∈ps,I4 x.Data x.Vars x.Res p=true)
       ⟨0,[],rfl,by omega,(fun q h=>by cases h),(fun q h=>by simp at h)⟩ ?_ ?_
      .rintro _ ⟨j,o,rfl,hj,hm,c⟩
       rcases Nat.lt_or_ge j ps.length with h | h
       .have ht:ps[j]? = some ps[j]:=Bu h
        generalize ps[j]=p at ht
        have k:=B4 ht
        obtain ⟨A,N,M⟩:=Ayf (hf.ctx g) [] hm p (B p k)
        simp only [Ak (by omega:(j:Int)<(ps.length:Int)),cond_true,B6 rfl ht,Ad,N,Cz h (by omega)]
        cases y:I4 x.Data x.Vars x.Res p with
        | true=>
         refine .inl ⟨_,rfl,⟨j+1,A,rfl,by omega,M,fun q hq=>?_⟩,by simp; omega⟩
         rw [C6 ht] at hq
         rcases List.mem_append.1 hq with hq | hq
         .exact c q hq
         .simp only [List.mem_singleton] at hq
          subst hq; exact y
        | false=>
         refine .inr ⟨.inl false,rfl,rfl,fun D=>?_⟩
         have:=D p k
         rw [y] at this; cases this
       .have:j=ps.length:=by omega
        subst this
        rw [List.take_length] at c
        exact .inr ⟨.inr o,by simp,hm,c⟩
      .rintro (r | o) hw
       .obtain ⟨rfl,hw⟩:=hw
        exact ⟨_,rfl,.inr ⟨fun h=>hw h.2,rfl⟩⟩
       .exact ⟨_,rfl,.inl ⟨⟨hf,hw.2⟩,o,rfl,hw.1⟩⟩
 .rw [Ak (by omega)]
  exact ⟨_,rfl,.inr ⟨fun h=>l h.1.1,rfl⟩⟩
theorem Azx {data:List Az} {vars:List Ah} {res:Ah} {m:A8} (h:Jn data vars res m=true) (k:MSz m):CMo m:=by
 have hf:=(Ayg h).2
 unfold Jn at h
 simp only [Dx,decide_eq_true_eq] at h
 obtain ⟨⟨h1,h2⟩,h3⟩:=h
 have b:∀f∈m.Factors,0<=D4 data vars res f:=by
  intro f hf
  obtain ⟨j,hj⟩:=List.getElem?_of_mem hf
  have:=Jj h1 hj
  simp only [Pc,Dx,decide_eq_true_eq] at this
  omega
 have ha:∀a∈m.Atoms,1<=a.Deg/\Fm a.Lin=true/\a.Lin.Terms≠[]:=by
  intro a ha
  obtain ⟨j,hj⟩:=List.getElem?_of_mem ha
  have:=Jj h2 hj
  simp only [Ml,Dx,decide_eq_true_eq] at this
  refine ⟨this.1.1.1.1,this.1.1.1.2,fun e=>?_⟩
  have i:=this.1.1.2
  rw [e] at i; simp at i
 obtain ⟨a1,a2,a3⟩:=Am9 m.Atoms fun a h=>by have:=(ha a h).1; omega
 have f1:=Aya m.Factors b
 have al:(m.Atoms.length:Int)<=Dq m.Atoms:=by
  have key:∀l:List Ba,(∀a∈l,1<=a.Deg)->(l.length:Int)<=Dq l:=by
   intro l
   induction l with
   | nil=>intro _; simp [Dq]
   | cons f fs ih=>
    intro c
    have h1:=c f (by simp)
    have h2:=ih (fun g q=>c g (by simp [q]))
    unfold Dq at *
    simp only [List.map_cons,List.sum_cons,List.length_cons]; omega
  exact key _ fun a h=>(ha a h).1
 exact ⟨k,hf,by omega,fun a h=>⟨(ha a h).2.1,(ha a h).2.2,(ha a h).1,by have:=a3 a h; omega⟩⟩
def Hi (x:Ce) (m:A8):Prop:=Jn x.Data x.Vars x.Res m=true/\MSz m
theorem Hi.cmo {x:Ce} {m:A8} (h:Hi x m):CMo m:=Azx h.1 h.2
structure Jq (x:Ce) (p:List Aj):Prop where
 can:I4 x.Data x.Vars x.Res p=true
 sz:∀t∈p,TSz t
theorem Jq.cp {x:Ce} {p:List Aj} (h:Jq x p):CP p:=(Abl.1 h.can).2.1
theorem Jq.mo {x:Ce} {p:List Aj} (h:Jq x p):∀t∈p,Hi x t.Mono:=fun t ht=>⟨(Abl.1 h.can).2.2 t ht,(h.sz t ht).mo⟩
theorem Jq.of {x:Ce} {p:List Aj} (hc:CP p) (hm:∀t∈p,Hi x t.Mono) (b:∀t∈p,RB 1048576 t.Coef) (c:p.length<=1000):Jq x p :=
 ⟨Abl.2 ⟨c,hc,fun t ht=>(hm t ht).1⟩,fun t ht=>⟨b t ht,(hm t ht).2⟩⟩
theorem Jq.tb {x:Ce} {p:List Aj} (h:Jq x p):∀t∈p,RB 1048576 t.Coef/\Hi x t.Mono:=fun t ht=>⟨(h.sz t ht).co,h.mo t ht⟩
end Go.Ab
namespace Go.Ab
open Go
end Go.Ab
namespace Go.Ab
open Go
def bc:Nat->Nat->Nat
 | _,0=>1
 | 0,_+1=>0
 | n+1,k+1=>bc n k+bc n (k+1)
theorem Jr (n:Nat):bc n 0=1:=by cases n <;> rfl
theorem Agv:∀{n k:Nat},n<k->D1 n k=0
 | n,0,h=>absurd h (by omega)
 | n,k+1,h=>by
  rw [D1]
  by_cases e:n<k
  .rw [Agv e,Nat.zero_mul]
  .rw [show n-k=0 by omega,Nat.mul_zero]
theorem Aog (n:Nat):∀k,D1 (n+1) (k+1)=(n+1)*D1 n k
 | 0=>by simp [D1]
 | k+1=>by
  rw [D1,Aog n k,D1,show n+1-(k+1)=n-k by omega,Nat.mul_assoc]
theorem Xz:∀n k,D1 n k=D2 k*bc n k
 | n,0=>by rw [Jr]; rfl
 | 0,k+1=>by rw [Agv (by omega)]; simp [bc]
 | n+1,k+1=>by
  have h1:=Xz n (k+1)
  have h2:=Xz n k
  rw [Aog,bc,Nat.mul_add,<-h1,D2,D1,Nat.mul_right_comm,<-h2]
  by_cases e:k<=n
  .rw [<-Nat.mul_add,Nat.mul_comm,show k+1+(n-k)=n+1 by omega]
  .rw [Agv (by omega)]; simp
theorem X0:∀n k,bc n k<=2 ^ n
 | n,0=>by rw [Jr]; exact Nat.one_le_two_pow
 | 0,k+1=>by simp [bc]
 | n+1,k+1=>by
  have h1:=X0 n (k+1)
  have h2:=X0 n k
  rw [bc,Nat.pow_succ]; omega
def cR (n:Nat):Aq:=A7 false n 1
theorem Agw (n:Nat):sv (cR n)=false/\nv (cR n)=n/\dv (cR n)=1:=by
 obtain ⟨g,f,c,b⟩:=Ub false n 1 (by decide)
 refine ⟨?_,?_,?_⟩
 .by_cases h:n=0
  .exact b h
  .exact c h
 .unfold cR; rw [g]; simp
 .unfold cR; rw [f]; simp
theorem Agx {n k:Nat} (h:Bf n<=k) (hk:1<=k):RB k (cR n):=Hv _ _ _ _ h (by rw [Hu]; exact hk) hk
theorem Azy:Fz 0=some (cR 0):=Xe 0 (by decide) (by decide)
theorem Uq:Fz 1=some (cR 1):=Xe 1 (by decide) (by decide)
theorem Azz (n k:Nat) (b:n<1000000000) (hk:k<=64):M9 (n:Int) (k:Int)=some (cR (bc n k),true):=by
 unfold M9
 have e:(if (n:Int)>0 then (n:Int) else 0)=(n:Int):=by split <;> omega
 simp only [Ap (by omega:¬(k:Int)<0),cond_false,Ap (by omega:¬(k:Int)>64),Ad,e,Aly n k b hk]
 rw [Xz,show A7 false (D2 k*bc n k) (D2 k)=A7 false (D2 k*bc n k) (D2 k*1) by rw [Nat.mul_one],Lt _ _ _ _ (Rk k)]
 rfl
theorem Az0 (n k:Nat) (b:n<1000000000) (hk:k<=64):M9 (n:Int) (k:Int)=some (cR (bc n k),true):=Azz n k b hk
end Go.Ab
namespace Go.Ab
open Go
end Go.Ab
namespace Go.Ab
open Go
end Go.Ab
namespace Go.Ab
open Go
structure Asc (b:List Int) (n:Nat) (l:List Int):Prop where
 up:l.Pairwise (· < ·)
 mem:∀y,y∈l↔y∈b.take n
theorem Az1 {b:List Int} (c:b.Pairwise (·<=·)) {q:Nat} {p:Int} (hp:b[q]? = some p):∀y∈b.take (q+1),y<=p:=by
 intro y hy
 obtain ⟨i,hi⟩:=List.getElem?_of_mem hy
 rw [List.getElem?_take] at hi
 split at hi
 .rename_i f
  by_cases e:i=q
  .subst e; rw [hi] at hp; cases hp; exact Int.le_refl _
  .have h1:=Dn hi
   have h2:=Dn hp
   have:=(List.pairwise_iff_getElem.1 c) i q h1 h2 (by omega)
   rw [Bu h1] at hi
   rw [Bu h2] at hp
   cases hi; cases hp; exact this
 .cases hi
theorem Asc.step {b:List Int} (g:b.Pairwise (·<=·)) {q:Nat} {l:List Int} {p x:Int} (h:Asc b (q+1) l) (hp:b[q]? = some p) (hx:b[q+1]? = some x) (j:x≠p):Asc b (q+2) (l++[x]):=by
 have f:=Az1 g hp
 have i:p<x:=by
  have h1:=Dn hp
  have h2:=Dn hx
  have:=(List.pairwise_iff_getElem.1 g) q (q+1) h1 h2 (by omega)
  rw [Bu h1] at hp
  rw [Bu h2] at hx
  cases hp; cases hx; omega
 refine ⟨?_,fun y=>?_⟩
 .rw [List.pairwise_append]
  refine ⟨h.up,by simp,fun a ha c hc=>?_⟩
  rw [List.mem_singleton] at hc
  subst hc
  have:=f a ((h.mem a).1 ha)
  omega
 .rw [C6 hx,List.mem_append,List.mem_append,h.mem y]
theorem Asc.same {b:List Int} {q:Nat} {l:List Int} {x:Int} (h:Asc b (q+1) l) (hp:b[q]? = some x) (hx:b[q+1]? = some x):Asc b (q+2) l:=by
 refine ⟨h.up,fun y=>?_⟩
 rw [C6 hx,List.mem_append,h.mem y]
 constructor
 .exact .inl
 .rintro (h1 | h1)
  .exact h1
  .rw [List.mem_singleton] at h1
   subst h1
   rw [C6 hp]; simp
theorem X1 {α:Type} {l:List α} {off n:Nat} {i:Int} {j:Nat} {x:α} (hi:i=j) (hj:j<n) (h:l[off+j]? = some x):Fq l off n i=some x:=by
 subst hi
 unfold Fq
 rw [if_pos (by omega)]; simpa using h
end Go.Ab
namespace Go.Ab
open Go
end Go.Ab
namespace Go.Ab
open Go
end Go.Ab
namespace Go.Ab
open Go
end Go.Ab
namespace Go.Ab
open Go
end Go.Ab
namespace Go.Ab
open Go
theorem Az2:Zl=some true:=by kernel_rfl
end Go.Ab
namespace Go.Ab
open Go
end Go.Ab
namespace Go.Ab
open Go
theorem Aoh (l:List Int) (b:l.length<=1099511627776):Ta l l=some true:=by
 unfold Ta
 rw [Dj rfl,cond_false]
 refine Fi l (fun j=>(j:Int)) rfl (by omega) ?_ ?_
 .intro j x hj hx h1 h2 h3
  simp only [h1,h2,h3,cond_true,Ad,bne_self_eq_false,cond_false]
 .intro h
  exact ⟨.inr (),by simp only [h]; rfl,rfl⟩
theorem Az3 (a:Aq) (h1:a.Num.length<=1099511627776) (h2:a.Den.length<=1099511627776):S3 a a=some true:=by
 unfold S3
 rw [beq_self_eq_true,cond_true,Aoh _ h1,Ad,cond_true,Aoh _ h2,Ad]
theorem Az4:∀(k:Nat) (i:A9) (a:Int),C4 i<=k->k<1099511627776->∃r,P5 k i a=some r/\True:=by
 intro k
 induction k with
 | zero=>intro i a h; have:=Fs i; omega
 | succ k ih=>
  intro i a h hk
  have f:=Fs i
  have g:=Lv i.Kids
  rw [P5]
  refine Mk ⟨_,rfl,trivial⟩ ?_
  refine D9 (fun (v,_)=>∃j:Nat,v=j/\j<=i.Kids.length) (fun (v,_)=>i.Kids.length-v.toNat) (fun _=>True) ⟨0,rfl,by omega⟩ ?_ ?_
  .rintro ⟨v,b⟩ ⟨j,rfl,hj⟩
   rcases Nat.lt_or_ge j i.Kids.length with h' | h'
   .have hx:i.Kids[j]? = some i.Kids[j]:=Bu h'
    generalize i.Kids[j]=x at hx
    have hm:=Kq (B4 hx)
    obtain ⟨⟨y,z⟩,c,_⟩:=ih x b (by omega) (by omega)
    simp only [Ak (by omega:(j:Int)<(i.Kids.length:Int)),cond_true,B6 rfl hx,Ad,c,Cz h' (by omega)]
    cases y with
    | false=>exact .inr ⟨_,rfl,trivial⟩
    | true=>exact .inl ⟨_,rfl,⟨j+1,rfl,by omega⟩,by simp only [Int.toNat_natCast]; omega⟩
   .have:j=i.Kids.length:=by omega
    subst this
    exact .inr ⟨.inr b,by simp,trivial⟩
  .rintro (⟨x,y⟩ | e) _
   .exact ⟨_,rfl,trivial⟩
   .exact ⟨_,rfl,trivial⟩
theorem Aoi (i:A9) (h:C4 i<=1048576):∃b,Sy i=some b:=by
 unfold Sy
 obtain ⟨r,h1,_⟩:=Az4 4000000 i 40 (by omega) (by omega)
 exact ⟨_,by rw [h1]; rfl⟩
def R0 (m:A8):Prop:=m.Factors.length<=8/\m.Atoms.length<=8/\∀a∈m.Atoms,a.Lin.Terms.length<=70
theorem Az5 (m:A8) (hm:MSz m):∃b,Vo m=some b/\(b=true->R0 m):=by
 unfold Vo
 by_cases h1:(m.Factors.length:Int)>8
 .rw [Ak h1]
  exact ⟨false,rfl,fun h=>by cases h⟩
 .rw [Ap h1]
  by_cases h2:(m.Atoms.length:Int)>8
  .rw [Ak h2]
   exact ⟨false,rfl,fun h=>by cases h⟩
  .rw [Ap h2]
   simp only [cond_false,Ad]
   refine D9 (fun v=>∃j:Nat,v=j/\j<=m.Factors.length) (fun v=>m.Factors.length-v.toNat) (fun z=>z = .inl false\/z = .inr ()) ⟨0,rfl,by omega⟩ ?_ ?_
   .rintro v ⟨j,rfl,hj⟩
    rcases Nat.lt_or_ge j m.Factors.length with h' | h'
    .have hx:m.Factors[j]? = some m.Factors[j]:=Bu h'
     generalize m.Factors[j]=x at hx
     obtain ⟨b,hb⟩:=Aoi x.Index (hm.fi x (B4 hx))
     simp only [Ak (by omega:(j:Int)<(m.Factors.length:Int)),cond_true,B6 rfl hx,Ad,hb,Cz h' (by omega)]
     cases b with
     | false=>exact .inr ⟨_,rfl,.inl rfl⟩
     | true=>exact .inl ⟨_,rfl,⟨j+1,rfl,by omega⟩,by simp only [Int.toNat_natCast]; omega⟩
    .have:j=m.Factors.length:=by omega
     subst this
     exact .inr ⟨.inr (),by simp,.inr rfl⟩
   .rintro z (rfl | rfl)
    .exact ⟨false,rfl,fun h=>by cases h⟩
    .dsimp only
     refine D9 (fun v=>∃j:Nat,v=j/\j<=m.Atoms.length/\∀a∈m.Atoms.take j,a.Lin.Terms.length<=70) (fun v=>m.Atoms.length-v.toNat) (fun z=>z = .inl false\/(z = .inr ()/\∀a∈m.Atoms,a.Lin.Terms.length<=70)) ⟨0,rfl,by omega,by simp⟩ ?_ ?_
     .rintro v ⟨j,rfl,hj,c⟩
      rcases Nat.lt_or_ge j m.Atoms.length with h' | h'
      .have hx:m.Atoms[j]? = some m.Atoms[j]:=Bu h'
       generalize m.Atoms[j]=x at hx
       simp only [Ak (by omega:(j:Int)<(m.Atoms.length:Int)),cond_true,B6 rfl hx,Ad,Sz,Cz h' (by omega)]
       by_cases f:(x.Lin.Terms.length:Int)<=70
       .rw [Ak f]
        refine .inl ⟨_,rfl,⟨j+1,rfl,by omega,fun a ha=>?_⟩,by simp only [Int.toNat_natCast]; omega⟩
        rw [C6 hx] at ha
        rcases List.mem_append.1 ha with ha | ha
        .exact c a ha
        .rw [List.mem_singleton] at ha
         subst ha; omega
       .rw [Ap f]
        exact .inr ⟨_,rfl,.inl rfl⟩
      .have:j=m.Atoms.length:=by omega
       subst this
       rw [List.take_length] at c
       exact .inr ⟨.inr (),by simp,.inr ⟨rfl,c⟩⟩
     .rintro z (rfl | ⟨rfl,g⟩)
      .exact ⟨false,rfl,fun h=>by cases h⟩
      .exact ⟨true,rfl,fun _=>⟨by omega,by omega,g⟩⟩
theorem Az6 (p:List Aj) (q:p.length<=1048576) (hp:∀t∈p,TSz t):∃b,Vh p 10=some b/\(b=true->p.length<=10/\∀t∈p,R0 t.Mono):=by
 unfold Vh
 refine D9 (fun v=>∃j:Nat,v=j/\j<=p.length/\j<=11/\∀t∈p.take j,R0 t.Mono) (fun v=>p.length-v.toNat) (fun z=>z = .inl false\/(z = .inr ()/\(p.length<=10->∀t∈p,R0 t.Mono))) ⟨0,rfl,by omega,by omega,by simp⟩ ?_ ?_
 .rintro v ⟨j,rfl,hj,g,f⟩
  rcases Nat.lt_or_ge j p.length with h' | h'
  .by_cases l:j<=10
   .have hx:p[j]? = some p[j]:=Bu h'
    generalize p[j]=x at hx
    obtain ⟨b,hb,k⟩:=Az5 x.Mono (hp x (B4 hx)).mo
    simp only [Ak (by omega:(j:Int)<(p.length:Int)),Ak (by omega:(j:Int)<=10),cond_true,B6 rfl hx,Ad,hb,Cz h' (by omega)]
    cases b with
    | false=>exact .inr ⟨_,rfl,.inl rfl⟩
    | true=>
     simp only [Dm,cond_false]
     have:∃c,N4 x.Coef=some c:=by
      unfold N4
      cases decide ((x.Coef.Num.length:Int)<=8) with
      | true=>exact ⟨_,rfl⟩
      | false=>exact ⟨_,rfl⟩
     obtain ⟨c,hc⟩:=this
     rw [hc,Ad]
     cases c with
     | false=>exact .inr ⟨_,rfl,.inl rfl⟩
     | true=>
      refine .inl ⟨_,rfl,⟨j+1,rfl,by omega,by omega,fun t ht=>?_⟩,by simp only [Int.toNat_natCast]; omega⟩
      rw [C6 hx] at ht
      rcases List.mem_append.1 ht with ht | ht
      .exact f t ht
      .rw [List.mem_singleton] at ht
       subst ht; exact k rfl
   .refine .inr ⟨.inr (),?_,.inr ⟨rfl,fun h=>by omega⟩⟩
    simp only [Ak (by omega:(j:Int)<(p.length:Int)),Ap (by omega:¬(j:Int)<=10),cond_true,cond_false,Ad]
  .have:j=p.length:=by omega
   subst this
   rw [List.take_length] at f
   exact .inr ⟨.inr (),by simp,.inr ⟨rfl,fun _=>f⟩⟩
 .rintro z (rfl | ⟨rfl,i⟩)
  .exact ⟨false,rfl,fun h=>by cases h⟩
  .refine ⟨decide ((p.length:Int)<=10),rfl,fun h=>?_⟩
   rw [decide_eq_true_eq] at h
   exact ⟨by omega,i (by omega)⟩
end Go.Ab
namespace Go.Ab
open Go
end Go.Ab
namespace Go.Ab
open Go
end Go.Ab
namespace Go.Ab
open Go
end Go.Ab
namespace Go.Ab
open Go
theorem Aoj:∀(k:Nat) (t:A9),C4 t<=k->k<1099511627776->Om k t=some t:=by
 intro k
 induction k with
 | zero=>intro t h; have:=Fs t; omega
 | succ k ih=>
  intro t h hk
  have c:=Fs t
  have b:=Lv t.Kids
  rw [Om]
  refine Fi t.Kids (fun j=>((j:Int),(t.Kids.take j))) rfl (by omega) ?_ ?_
  .intro j x hj hx h1 h2 h3
   have:=Kq (B4 hx)
   simp only [h1,h2,h3,cond_true,Ad,ih x (by omega) (by omega)]
   rw [Cy (by simp; omega),Ad,C6 hx]
  .intro h1
   exact ⟨t.Kids,by simp,by cases t; rfl⟩
theorem Aok (m:A8) (b:MSz m):S6 m=some m:=by
 have f:=b.nf
 have c:=b.na
 unfold S6
 refine Fi m.Factors (fun j=>((j:Int),(m.Factors.take j))) rfl (by omega) ?_ ?_
 .intro j x hj hx h1 h2 h3
  have hm:=B4 hx
  have:=b.fi x hm
  simp only [h1,h2,h3,cond_true,Ad,Aoj 4000000 x.Index (by omega) (by omega)]
  rw [Cy (by simp; omega),Ad,C6 hx]
 .intro h1
  refine ⟨m.Factors,by simp,?_⟩
  dsimp only
  refine Fi m.Atoms (fun j=>((j:Int),(m.Atoms.take j))) rfl (by omega) ?_ ?_
  .intro j x hj hx h1 h2 h3
   have hm:=B4 hx
   have:=b.al x hm
   simp only [h1,h2,h3,cond_true,Ad,Tk]
   rw [Cy (by simp; omega),Ad,Ad,Cy (by simp; omega),Ad,C6 hx]; rfl
  .intro h1
   exact ⟨m.Atoms,by simp,by cases m; rfl⟩
theorem Aol {α:Type} (b:List α) (n k:Nat) (z x:α) (B:n<=b.length) (hk:k<=n) (hb:n<=1000000) :
  ∃c:List α,((Hb (n+1) (Ac ((k:Int)+1)) (((n+1:Nat):Nat):Int)).bind fun v8=>
    match v8 with
    | .inl v9=>
     (Gu (n+1) (k:Int) (((n+1:Nat):Nat):Int)).bind fun f=>
     (I8 (C5 b n [z]) (0+v9.1) (v9.2-v9.1) (0+f.1) (f.2-f.1)).bind fun l=>some l
    | .inr _=>(Gu (n+1) (k:Int) (((n+1:Nat):Nat):Int)).bind fun v12=>some (C5 b n [z]))=some c/\c.length=max b.length (n+1) /\
   (c.set k x).take (n+1)=(b.take n).take k++x::(b.take n).drop k:=by
 have g:(C5 b n [z]).length=max b.length (n+1):=by rw [Mo B]; rfl
 have s:∀i,i<n->(C5 b n [z])[i]? = b[i]?:=fun i hi=>by rw [Pk B,if_pos hi]
 have E:Ac ((k:Int)+1)=((k+1:Nat):Int):=Cz (n:=n+1) (by omega) (by omega)
 have u:Gu (n+1) (k:Int) (((n+1:Nat):Nat):Int)=some (k,n+1):=by
  unfold Gu
  rw [if_pos (by omega)]; simp
 have key:∃c:List α,((Hb (n+1) (Ac ((k:Int)+1)) (((n+1:Nat):Nat):Int)).bind fun v8=>
    match v8 with
    | .inl v9=>
     (Gu (n+1) (k:Int) (((n+1:Nat):Nat):Int)).bind fun f=>
     (I8 (C5 b n [z]) (0+v9.1) (v9.2-v9.1) (0+f.1) (f.2-f.1)).bind fun l=>some l
    | .inr _=>(Gu (n+1) (k:Int) (((n+1:Nat):Nat):Int)).bind fun v12=>some (C5 b n [z]))=some c/\c.length=max b.length (n+1)/\(∀i,i<k->c[i]? = b[i]?)/\∀i,k<=i->i<n->c[i+1]? = b[i]?:=by
  rw [E,u]
  by_cases G:k<n
  .have q:Hb (n+1) ((k+1:Nat):Int) (((n+1:Nat):Nat):Int)=some (.inl (k+1,n+1)):=by
    unfold Hb
    rw [if_pos (by omega),if_pos (by omega)]; simp
   rw [q,Ad]
   dsimp only
   have A:I8 (C5 b n [z]) (0+(k+1)) (n+1-(k+1)) (0+k) (n+1-k)=some (C5 (C5 b n [z]) (0+(k+1)) (((C5 b n [z]).drop (0+k)).take (min (n+1-k) (n+1-(k+1))))):=by
    unfold I8
    rw [if_pos (by omega)]
   rw [Ad]
   dsimp only
   rw [A,Ad]
   have hd:(((C5 b n [z]).drop (0+k)).take (min (n+1-k) (n+1-(k+1)))).length=n-k:=by
    rw [List.length_take,List.length_drop,g]; omega
   refine ⟨_,rfl,?_,fun i hi=>?_,fun i hi h=>?_⟩
   .rw [Mo (by rw [g]; omega),g,hd]; omega
   .rw [Pk (by rw [g]; omega),if_pos (by omega),s i (by omega)]
   .rw [Pk (by rw [g]; omega),if_neg (by omega),if_pos (by rw [hd]; omega),List.getElem?_take,if_pos (by omega),List.getElem?_drop,show 0+k+(i+1-(0+(k+1)))=i by omega,s i h]
  .have D:k=n:=by omega
   have q:Hb (n+1) ((k+1:Nat):Int) (((n+1:Nat):Nat):Int)=some (.inr ()):=by
    unfold Hb
    rw [if_pos (by omega),if_neg (by omega)]
   rw [q,Ad]
   dsimp only
   rw [Ad]
   exact ⟨_,rfl,g,fun i hi=>s i (by omega),fun i hi h=>by omega⟩
 obtain ⟨c,g1,g2,g3,g4⟩:=key
 refine ⟨c,g1,g2,?_⟩
 have y:((b.take n).take k).length=k:=by rw [List.length_take,List.length_take]; omega
 apply List.ext_getElem?
 intro i
 rw [List.getElem?_take,List.getElem?_set]
 by_cases h1:i<k
 .rw [if_pos (by omega),if_neg (by omega),g3 i h1,List.getElem?_append_left (by omega),List.getElem?_take,if_pos h1,List.getElem?_take,if_pos (by omega)]
 .rw [List.getElem?_append_right (by omega),y]
  by_cases h2:i=k
  .subst h2
   rw [if_pos (by omega),if_pos rfl,if_pos (by omega),Nat.sub_self]; rfl
  .obtain ⟨j,hj⟩:∃j,i=j+1:=⟨i-1,by omega⟩
   subst hj
   rw [show j+1-k=(j-k)+1 by omega,List.getElem?_cons_succ,List.getElem?_drop,show k+(j-k)=j by omega,List.getElem?_take]
   by_cases h3:j<n
   .rw [if_pos (by omega),if_neg (by omega),g4 j (by omega) h3,if_pos h3]
   .rw [if_neg (by omega),if_neg h3]
theorem Az7 {α:Type} (c:Nat) (b:List α) (n k:Nat) (u:n<=b.length) (hk:k<n) (hb:(b.length+n)*c<=140737488355328) (q:n<=1000000) :
  ∃o:List α,((Hb n (Ac ((k:Int)+1)) ((n:Nat):Int)).bind fun v21=>
    match v21 with
    | .inl v22=>(Sq c b k (0+v22.1) (v22.2-v22.1)).bind fun v23=>some (v23.2,v23.1)
    | .inr _=>(Mr c b k []).bind fun v24=>some (v24.2,v24.1))=some (n-1,o)/\n-1<=o.length/\o.length<=b.length/\o.take (n-1)=(b.take n).take k++(b.take n).drop (k+1):=by
 have l:Ac ((k:Int)+1)=((k+1:Nat):Int):=Cz (n:=n+1) (by omega) (by omega)
 rw [l]
 by_cases h:k+1<n
 .have f:Hb n ((k+1:Nat):Int) ((n:Nat):Int)=some (.inl (k+1,n)):=by
   unfold Hb
   rw [if_pos (by omega),if_pos (by omega)]; simp
  rw [f,Ad]
  dsimp only
  have hq:Sq c b k (0+(k+1)) (n-(k+1))=some (C5 b k ((b.drop (0+(k+1))).take (n-(k+1))),k+(n-(k+1))):=by
   unfold Sq
   rw [if_pos ⟨by omega,by omega,Nat.le_trans (Nat.mul_le_mul_right _ (by omega)) hb⟩]
  rw [hq,Ad]
  have hd:((b.drop (0+(k+1))).take (n-(k+1))).length=n-(k+1):=by rw [List.length_take,List.length_drop]; omega
  refine ⟨_,by rw [show k+(n-(k+1))=n-1 by omega],?_,?_,?_⟩
  .rw [Mo (by omega),hd]; omega
  .rw [Mo (by omega),hd]; omega
  .have j:((b.take n).take k).length=k:=by rw [List.length_take,List.length_take]; omega
   apply List.ext_getElem?
   intro i
   rw [List.getElem?_take]
   by_cases h1:i<k
   .rw [if_pos (by omega),Pk (by omega),if_pos h1,List.getElem?_append_left (by omega),List.getElem?_take,if_pos h1,List.getElem?_take,if_pos (by omega)]
   .rw [List.getElem?_append_right (by omega),j,List.getElem?_drop,List.getElem?_take]
    by_cases h2:i<n-1
    .rw [if_pos h2,Pk (by omega),if_neg h1,if_pos (by rw [hd]; omega),List.getElem?_take,if_pos (by omega),List.getElem?_drop,if_pos (by omega),show 0+(k+1)+(i-k)=k+1+(i-k) by omega]
    .rw [if_neg h2,if_neg (by omega)]
 .have s:k+1=n:=by omega
  have f:Hb n ((k+1:Nat):Int) ((n:Nat):Int)=some (.inr ()):=by
   unfold Hb
   rw [if_pos (by omega),if_neg (by omega)]
  rw [f,Ad]
  dsimp only
  have hq:Mr c b k []=some (C5 b k [],k):=by
   unfold Mr
   rw [if_pos ⟨by omega,Nat.le_trans (Nat.mul_le_mul_right _ (by simp)) hb⟩]; rfl
  rw [hq,Ad]
  have g:C5 b k []=b:=by unfold C5; simp
  rw [g]
  refine ⟨b,by rw [show n-1=k by omega],by omega,Nat.le_refl _,?_⟩
  have:(b.take n).drop (k+1) = []:=by rw [List.drop_eq_nil_iff,List.length_take]; omega
  rw [this,List.append_nil,List.take_take,show min k n=n-1 by omega]
end Go.Ab
namespace Go.Ab
open Go
theorem Az8 (a:Nat) (h:a<1099511627776):E2 .i64 (Ac (a:Int)) 2=some ((a / 2:Nat):Int):=by
 have h1:Ac (a:Int)=(a:Int):=by rw [Ac,Bp] <;> omega
 rw [h1]
 unfold E2
 rw [if_neg (by decide),Int.tdiv_eq_ediv_of_nonneg (by omega),show ((a:Int) / 2)=((a / 2:Nat):Int) from rfl,Bp (by omega) (by omega)]
theorem Az9 (b:List Aj) (n:Nat) (m:A8) (X:n<=b.length) (R:(b.take n).Pairwise ltT) (N:∀t∈b.take n,MSz t.Mono) (hb:n<=1000000) :
  ∃k:Nat,k<=n/\(∀(i:Nat) (t:Aj),i<k->(b.take n)[i]? = some t->Cr t.Mono m<0)/\(∀(i:Nat) (t:Aj),k<=i->(b.take n)[i]? = some t->0<=Cr t.Mono m) /\
   Al (S:=(Int×Int)) (E:=Int) (fun (y,z)=>
    bif (decide (y<z)) then (
    (E2 .i64 (Ac (y+z)) 2).bind fun v8=>
    (Fq b 0 n v8).bind fun v9=>
    (Mv v9.Mono m).bind fun A=>
    bif (decide (A<(0:Int))) then some (.inl ((Ac (v8+1)),z))
    else some (.inl (y,v8)))
    else some (.inr y)) (0,((n:Nat):Int))=some (k:Int):=by
 have L:(b.take n).length=n:=by rw [List.length_take]; omega
 have I:∀i,i<n->(b.take n)[i]? = b[i]?:=fun i hi=>by rw [List.getElem?_take,if_pos hi]
 have D:∀(i j:Nat) (t u:Aj),i<j->(b.take n)[i]? = some t->(b.take n)[j]? = some u->Cr t.Mono u.Mono<0:=fun i j t u G ht hu=>by
  have h1:=Dn ht
  have h2:=Dn hu
  have:=(List.pairwise_iff_getElem.1 R) i j h1 h2 G
  rw [Bu h1] at ht
  rw [Bu h2] at hu
  cases ht; cases hu; exact this
 obtain ⟨e,h1,k,h2,h3,V,U⟩:=Jy (step:=(fun (y,z)=>
    bif (decide (y<z)) then (
    (E2 .i64 (Ac (y+z)) 2).bind fun v8=>
    (Fq b 0 n v8).bind fun v9=>
    (Mv v9.Mono m).bind fun A=>
    bif (decide (A<(0:Int))) then some (.inl ((Ac (v8+1)),z))
    else some (.inl (y,v8)))
    else some (.inr y):Int×Int->Option ((Int×Int)⊕Int)))
  (fun s=>∃i j:Nat,s=((i:Int),(j:Int))/\i<=j/\j<=n/\(∀(q:Nat) (t:Aj),q<i->(b.take n)[q]? = some t->Cr t.Mono m<0)/\(∀(q:Nat) (t:Aj),j<=q->(b.take n)[q]? = some t->0<=Cr t.Mono m))
  (fun s=>s.2.toNat-s.1.toNat)
  (fun e=>∃k:Nat,e=(k:Int)/\k<=n/\(∀(i:Nat) (t:Aj),i<k->(b.take n)[i]? = some t->Cr t.Mono m<0)/\(∀(i:Nat) (t:Aj),k<=i->(b.take n)[i]? = some t->0<=Cr t.Mono m)) (by
   rintro s ⟨i,j,rfl,G,hj,h1,h2⟩
   rcases Nat.lt_or_ge i j with h | h
   .obtain ⟨c,hm⟩:∃c:Nat,c=(i+j) / 2:=⟨_,rfl⟩
    have hx:b[c]? = some (b[c]'(by omega)):=Bu _
    generalize b[c]'_=x at hx
    have f:(b.take n)[c]? = some x:=by rw [I c (by omega)]; exact hx
    have J:=N x (B4 f)
    have M:((i:Int)+(j:Int))=((i+j:Nat):Int):=by omega
    simp only [Ak (by omega:(i:Int)<(j:Int)),cond_true,M,Az8 (i+j) (by omega),<-hm,Ad,X1 (l:=b) (off:=0) (n:=n) (i:=(c:Int)) rfl (by omega) (by rw [Nat.zero_add]; exact hx),Af6 x.Mono m J]
    by_cases e:Cr x.Mono m<0
    .rw [Ak e,cond_true,Cz (n:=n) (by omega) (by omega)]
     refine .inl ⟨_,rfl,⟨c+1,j,rfl,by omega,hj,fun q t hq ht=>?_,h2⟩,by simp only [Int.toNat_natCast]; omega⟩
     by_cases B:q=c
     .subst B; rw [f] at ht; cases ht; exact e
     .exact Pe (D q c t x (by omega) ht f) e
    .rw [Ap e,cond_false]
     refine .inl ⟨_,rfl,⟨i,c,rfl,by omega,by omega,h1,fun q t hq ht=>?_⟩,by simp only [Int.toNat_natCast]; omega⟩
     by_cases B:q=c
     .subst B; rw [f] at ht; cases ht; omega
     .have g:=D c q x t (by omega) f ht
      refine Classical.byContradiction fun hc=>?_
      exact e (Pe g (by omega))
   .have:i=j:=by omega
    subst this
    exact .inr ⟨(i:Int),by simp only [Ap (by omega:¬(i:Int)<(i:Int)),cond_false],i,rfl,hj,h1,h2⟩) (0,((n:Nat):Int)) ⟨0,n,rfl,by omega,Nat.le_refl _,(fun q t h=>by omega),fun q t h ht=>by have:=Dn ht; omega⟩
 subst h2
 exact ⟨k,h3,V,U,h1⟩
end Go.Ab
namespace Go.Ab
open Go
theorem Abv (x:Rat):I5 x=0↔x=0:=by
 unfold I5
 constructor
 .intro h
  split at h
  .cases h
  .split at h
   .cases h
   .grind
 .rintro rfl
  rw [if_neg (by grind),if_neg (by grind)]
theorem Aom (L:List Aj) (k:Nat) (m:A8):cf L m=cf (L.take k) m+cf (L.drop k) m:=by
 rw [<-Rv,List.take_append_drop]
theorem CP.insert {L:List Aj} {k:Nat} {x:Aj} (h:CP L) (h1:∀(i:Nat) (t:Aj),i<k->L[i]? = some t->Cr t.Mono x.Mono<0) (h2:∀(i:Nat) (t:Aj),k<=i->L[i]? = some t->Cr x.Mono t.Mono<0) (h3:Hg x.Coef) (f:rq x.Coef≠0) :
  CP (L.take k++x::L.drop k):=by
 refine ⟨?_,fun t ht=>?_⟩
 .rw [List.pairwise_append]
  refine ⟨h.srt.sublist (List.take_sublist _ _),?_,?_⟩
  .rw [List.pairwise_cons]
   refine ⟨fun t ht=>?_,h.srt.sublist (List.drop_sublist _ _)⟩
   obtain ⟨i,hi⟩:=List.getElem?_of_mem ht
   rw [List.getElem?_drop] at hi
   exact h2 (k+i) t (by omega) hi
  .intro a ha c hc
   obtain ⟨i,hi⟩:=List.getElem?_of_mem ha
   rw [List.getElem?_take] at hi
   split at hi
   .rename_i b
    rcases List.mem_cons.1 hc with rfl | hc
    .exact h1 i a b hi
    .obtain ⟨j,hj⟩:=List.getElem?_of_mem hc
     rw [List.getElem?_drop] at hj
     have g1:=Dn hi
     have g2:=Dn hj
     have:=(List.pairwise_iff_getElem.1 h.srt) i (k+j) g1 g2 (by omega)
     rw [Bu g1] at hi
     rw [Bu g2] at hj
     cases hi; cases hj; exact this
   .cases hi
 .rw [List.mem_append,List.mem_cons] at ht
  rcases ht with ht | rfl | ht
  .exact h.coe t (List.mem_of_mem_take ht)
  .exact ⟨h3,f⟩
  .exact h.coe t (List.mem_of_mem_drop ht)
theorem CP.remove {L:List Aj} (k:Nat) (h:CP L):CP (L.take k++L.drop (k+1)):=by
 have b:(L.take k++L.drop (k+1)).Sublist L:=by
  have:L=L.take k++L.drop k:=(List.take_append_drop k L).symm
  conv=>rhs; rw [this]
  refine List.Sublist.append (List.Sublist.refl _) ?_
  rw [show k+1=k+1 from rfl,<-List.drop_drop]
  exact List.drop_sublist _ _
 exact ⟨h.srt.sublist b,fun t ht=>h.coe t (b.subset ht)⟩
open Classical in
theorem A0a (L:List Aj) (k:Nat) (x:Aj) (m:A8):cf (L.take k++x::L.drop k) m=cf L m+(if x.Mono=m then rq x.Coef else 0):=by
 rw [Rv,Rz,Aom L k m]; grind
theorem A0b {L:List Aj} {k:Nat} {t:Aj} (h:L[k]? = some t):L.drop k=t::L.drop (k+1):=by
 have hk:=Dn h
 rw [List.drop_eq_getElem_cons hk]
 rw [Bu hk] at h
 cases h; rfl
open Classical in
theorem A0c {L:List Aj} {k:Nat} {t:Aj} (h:L[k]? = some t) (m:A8):cf (L.take k++L.drop (k+1)) m=cf L m-(if t.Mono=m then rq t.Coef else 0):=by
 rw [Rv,Aom L k m,A0b h,Rz]; grind
end Go.Ab
namespace Go.Ab
open Go
structure PSt (K:Nat) (n:Nat) (b:List Aj):Prop where
 le:n<=b.length
 cp:CP (b.take n)
 tm:∀t∈b.take n,RB K t.Coef/\MSz t.Mono
open Classical in
theorem Aon {K kc:Nat} {n:Nat} {b:List Aj} (h:PSt K n b) {m:A8} {c:Aq} (hc:RB kc c) (hm:MSz m) (hK:K+kc+3<30000000000) (hb:b.length<=100000) :
  ∃(n':Nat) (o:List Aj),My n m c b=some (n',o)/\o.length<=b.length+1/\PSt (K+kc+3) n' o/\∀m',cf (o.take n') m'=cf (b.take n) m' + (if m=m' then rq c else 0):=by
 obtain ⟨k,k1,k2,k3,k4⟩:=Az9 b n m h.le h.cp.srt (fun t ht=>(h.tm t ht).2) (by have:=h.le; omega)
 have hlen:(b.take n).length=n:=by rw [List.length_take]; have:=h.le; omega
 have hget:∀i,i<n->(b.take n)[i]? = b[i]?:=fun i hi=>by rw [List.getElem?_take,if_pos hi]
 have hbn:=h.le
 unfold My
 rw [k4,Ad]
 by_cases hin:∃t,k<n/\(b.take n)[k]? = some t/\Cr t.Mono m=0
 .obtain ⟨t,h1,h2,h3⟩:=hin
  have htm:=h.tm t (B4 h2)
  have hmm:t.Mono=m:=Hx.1 h3
  have hbk:b[k]? = some t:=by rw [<-hget k h1]; exact h2
  have hidx:Fq b 0 n (k:Int)=some t:=X1 rfl h1 (by rw [Nat.zero_add]; exact hbk)
  obtain ⟨s,s1,s2,s3,s4,s5⟩:=Ane htm.1 hc (by omega) (by omega)
  have hset:Ci b (((0:Nat):Int)+(k:Int)) (Aj.mk s t.Mono)=b.set k ⟨s,t.Mono⟩:=Fb (n:=k) (by omega) _
  have hbs:(b.set k ⟨s,t.Mono⟩)[k]? = some ⟨s,t.Mono⟩:=by rw [List.getElem?_set,if_pos rfl,if_pos (Dn hbk)]
  have hidx2:Fq (b.set k ⟨s,t.Mono⟩) 0 n (k:Int)=some ⟨s,t.Mono⟩:=X1 rfl h1 (by rw [Nat.zero_add]; exact hbs)
  simp only [Ak (by omega:(k:Int)<(n:Int)),cond_true,hidx,Ad,Af6 t.Mono m htm.2,Ea h3,s2,hset,hidx2,(Nl s3 (by omega)).2]
  have htk:(b.set k ⟨s,t.Mono⟩).take n=(b.take n).set k ⟨s,t.Mono⟩:=by rw [List.take_set]
  have hlens:(b.set k ⟨s,t.Mono⟩).length=b.length:=List.length_set
  by_cases hz:rq s=0
  .rw [Ea ((Abv _).2 hz),cond_true]
   have hpre:Vb n (k:Int)=some k:=by
    unfold Vb
    rw [if_pos (by omega)]; simp
   rw [hpre,Ad]
   obtain ⟨o,d1,d2,d3,d4⟩:=Az7 104 (b.set k ⟨s,t.Mono⟩) n k (by omega) h1 (by rw [hlens]; omega) (by omega)
   have hrm:(b.set k ⟨s,t.Mono⟩).take n=(b.take n).set k ⟨s,t.Mono⟩:=htk
   have hee:((b.take n).set k ⟨s,t.Mono⟩).take k++((b.take n).set k ⟨s,t.Mono⟩).drop (k+1)=(b.take n).take k++(b.take n).drop (k+1):=by
    rw [List.take_set_of_le (Nat.le_refl _),List.drop_set_of_lt (by omega)]
   rw [hrm,hee] at d4
   refine ⟨n-1,o,d1,by omega,⟨d2,by rw [d4]; exact h.cp.remove k,fun u hu=>?_⟩,fun m'=>?_⟩
   .rw [d4,List.mem_append] at hu
    have hu':u∈b.take n:=by
     rcases hu with hu | hu
     .exact List.mem_of_mem_take hu
     .exact List.mem_of_mem_drop hu
    exact ⟨((h.tm u hu').1).mono (by omega),(h.tm u hu').2⟩
   .rw [d4,A0c h2 m',hmm]
    by_cases e:m=m'
    .rw [if_pos e,if_pos e]
     have:rq c = - rq t.Coef:=by rw [s5] at hz; grind
     rw [this]; grind
    .rw [if_neg e,if_neg e]; grind
  .rw [Cm (fun e=>hz ((Abv _).1 e)),cond_false]
   refine ⟨n,b.set k ⟨s,t.Mono⟩,rfl,by omega,⟨by omega,?_,fun u hu=>?_⟩,fun m'=>?_⟩
   .rw [htk]
    refine ⟨?_,fun u hu=>?_⟩
    .rw [List.pairwise_iff_getElem]
     intro i j hi hj hij
     have g:∀(q:Nat) (hq:q<((b.take n).set k ⟨s,t.Mono⟩).length),(((b.take n).set k ⟨s,t.Mono⟩)[q]).Mono=((b.take n)[q]'(by rw [List.length_set] at hq; exact hq)).Mono:=by
      intro q hq
      rw [List.getElem_set]
      split
      .rename_i e
       subst e
       have:=Bu (l:=b.take n) (i:=k) (by omega)
       rw [h2] at this
       rw [<-Option.some.inj this]
      .rfl
     unfold ltT
     rw [g i hi,g j hj]
     exact (List.pairwise_iff_getElem.1 h.cp.srt) i j _ _ hij
    .rcases List.mem_or_eq_of_mem_set hu with hu | rfl
     .exact h.cp.coe u hu
     .exact ⟨s4,hz⟩
   .rw [htk] at hu
    rcases List.mem_or_eq_of_mem_set hu with hu | rfl
    .exact ⟨((h.tm u hu).1).mono (by omega),(h.tm u hu).2⟩
    .exact ⟨s3,htm.2⟩
   .rw [htk,Agt (u:=⟨s,t.Mono⟩) h2 rfl m',hmm]
    by_cases e:m=m'
    .rw [if_pos e,if_pos e]
     show cf (b.take n) m' + (rq s-rq t.Coef)=_
     rw [s5]; grind
    .rw [if_neg e,if_neg e]
 .have hne:∀t,(b.take n)[k]? = some t->Cr t.Mono m≠0:=fun t ht e=>hin ⟨t,by have:=Dn ht; omega,ht,e⟩
  have hq:(bif decide ((k:Int)<(n:Int)) then (Fq b 0 n (k:Int)).bind fun v12=>(Mv v12.Mono m).bind fun v13=>some (v13==0) else some false)=some false:=by
   by_cases h1:k<n
   .have hx:b[k]? = some (b[k]'(by omega)):=Bu _
    generalize b[k]'_=x at hx
    have hLx:(b.take n)[k]? = some x:=by rw [hget k h1]; exact hx
    rw [Ak (by omega:(k:Int)<(n:Int)),cond_true,X1 (l:=b) (off:=0) (n:=n) (i:=(k:Int)) rfl h1 (by rw [Nat.zero_add]; exact hx),Ad,Af6 x.Mono m (h.tm x (B4 hLx)).2,Ad,Cm (hne x hLx)]
   .rw [Ap (by omega)]; rfl
  erw [hq]
  simp only [Ad,cond_false,(Nl hc (by omega)).2]
  by_cases hz:rq c=0
  .rw [Ea ((Abv _).2 hz),cond_true]
   refine ⟨n,b,rfl,by omega,⟨h.le,h.cp,fun u hu=>⟨((h.tm u hu).1).mono (by omega),(h.tm u hu).2⟩⟩,fun m'=>?_⟩
   rw [hz]
   split <;> grind
  .rw [Cm (fun e=>hz ((Abv _).1 e)),cond_false]
   have hap:Mr 104 b n [(Aj.mk (Aq.mk false [] []) (A8.mk [] []))]=some (C5 b n [(Aj.mk (Aq.mk false [] []) (A8.mk [] []))],n+1):=by
    unfold Mr
    rw [if_pos ⟨h.le,by simp; omega⟩]; rfl
   rw [hap,Ad]
   dsimp only
   obtain ⟨cc,c1,c2,c3,c4,c5⟩:=Agd hc (by omega)
   obtain ⟨o13,g1,g2,g3⟩:=Aol b n k (Aj.mk (Aq.mk false [] []) (A8.mk [] [])) ⟨cc,m⟩ h.le k1 (by omega)
   erw [g1]
   rw [Ad,c2,Ad,Aok m hm,Ad]
   have hk13:o13[k]? = some (o13[k]'(by omega)):=Bu _
   rw [X1 (l:=o13) (off:=0) (n:=n+1) (i:=(k:Int)) rfl (by omega) (by rw [Nat.zero_add]; exact hk13),Ad]
   have hset:Ci o13 (((0:Nat):Int)+(k:Int)) (Aj.mk cc m)=o13.set k ⟨cc,m⟩:=Fb (n:=k) (by omega) _
   rw [hset]
   refine ⟨n+1,o13.set k ⟨cc,m⟩,rfl,by rw [List.length_set]; omega,⟨by rw [List.length_set]; omega,?_,fun u hu=>?_⟩,fun m'=>?_⟩
   .rw [g3]
    refine h.cp.insert (fun i t hi ht=>k2 i t hi ht) (fun i t hi ht=>?_) c3 (by rw [c4]; exact hz)
    have g:=k3 i t hi ht
    have hnz:Cr t.Mono m≠0:=by
     by_cases e:i=k
     .subst e; exact hne t ht
     .have hkl:=Dn ht
      have hx:(b.take n)[k]? = some ((b.take n)[k]'(by omega)):=Bu _
      have g5:=k3 k _ (Nat.le_refl _) hx
      have g6:=hne _ hx
      have g7:=(List.pairwise_iff_getElem.1 h.cp.srt) k i (by omega) hkl (by omega)
      rw [Bu hkl] at ht
      cases ht
      intro e2
      have:=Hx.1 e2
      unfold ltT at g7
      rw [this] at g7
      omega
    show Cr m t.Mono<0
    rw [Rs t.Mono m]; omega
   .rw [g3,List.mem_append,List.mem_cons] at hu
    rcases hu with hu | rfl | hu
    .have:=h.tm u (List.mem_of_mem_take hu)
     exact ⟨this.1.mono (by omega),this.2⟩
    .exact ⟨c5.mono (by omega),hm⟩
    .have:=h.tm u (List.mem_of_mem_drop hu)
     exact ⟨this.1.mono (by omega),this.2⟩
   .rw [g3,A0a,c4]
end Go.Ab
namespace Go.Ab
open Go
theorem PSt.mono {K c n:Nat} {b:List Aj} (h:PSt K n b) (f:K<=c):PSt c n b:=⟨h.le,h.cp,fun t ht=>⟨((h.tm t ht).1).mono f,(h.tm t ht).2⟩⟩
end Go.Ab
