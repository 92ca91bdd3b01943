/- Plain laws: what the plain functions answer. -/
import Derived.Test.YtbobikfnkmhgnaaGreatDoorBpPl2
import Derived.Test.YtbobikfnkmhgnaaGreatDoorBpPl1
import Derived.KernelRfl
namespace Go.Ab
open Go
theorem Av5 {α:Type} [DecidableEq α] (l m:List α) (b:l.length=m.length):(decide (l=m))=l.zipIdx.all (fun q=>decide (m[q.2]? = some q.1)):=by
 rw [Bool.eq_iff_iff,decide_eq_true_eq]
 constructor
 .rintro rfl
  exact Zm fun j x hx=>by simpa using hx
 .intro h
  apply List.ext_getElem?
  intro j
  cases hx:l[j]? with
  | none=>rw [List.getElem?_eq_none_iff] at hx; rw [List.getElem?_eq_none (by omega)]
  | some x=>have:=Gz h hx; rw [decide_eq_true_eq] at this; rw [this]
theorem Afe {R:Type} (l m:List Int) (b:l.length<1099511627776) (h:l.length=m.length) {J:Bool⊕Unit->Option R} {rt rf:R} (h1:J (.inl false)=some rf) (h2:J (.inr ())=some rt) :
  (Am (S:=Int) (E:=(Bool⊕Unit)) (fun v3=>bif (decide (v3<(l.length:Int))) then ((Af l v3).bind fun v4=>(Af m v3).bind fun v5=>bif (v4 != v5) then some (.inr (.inl false)) else some (.inl (Ac (v3+1)))) else some (.inr (.inr ()))) 0).bind J=some (bif decide (l=m) then rt else rf):=by
 rw [Av5 l m h]
 refine Q6 l (fun q=>decide (m[q.2]? = some q.1)) (fun j=>(j:Int)) rfl (by omega) (rt:=rt) (rf:=rf) ?_ ?_
 .intro j x hx _ g1 g2 g3
  have hj:j<m.length:=by have:=Df hx; omega
  have hy:m[j]? = some m[j]:=Bn hj
  generalize m[j]=y at hy
  simp only [g1,g2,g3,cond_true,Ad,Ch rfl hy,hy,Option.some.injEq]
  by_cases e:x=y
  .rw [De e,Ak e.symm]
   exact ⟨fun _=>rfl,fun h=>by cases h⟩
  .rw [Db e,Al (fun h=>e h.symm)]
   exact ⟨(fun h=>by cases h),fun _=>⟨.inl false,rfl,h1⟩⟩
 .intro h _; exact ⟨.inr (),by simp only [h]; rfl,h2⟩
theorem Al3 (l m:List Int) (b:l.length<1099511627776):L1 l m=some (decide (l=m)):=by
 unfold L1
 by_cases h:l.length=m.length
 .rw [De (by omega)]
  simp only [cond_false]
  refine (Afe l m b h (rt:=true) (rf:=false) ?_ ?_).trans (by rw [M4]) <;> rfl
 .rw [Db (by omega),Al (fun e=>h (by rw [e]))]; rfl
def Md (a b:Aq):Bool:=a.Neg==b.Neg&&decide (a.Num=b.Num)&&decide (a.Den=b.Den)
theorem Aai (a b:Aq):Md a b=true↔a=b:=by
 unfold Md
 simp only [C6,beq_iff_eq,decide_eq_true_eq]
 constructor
 .rintro ⟨⟨h1,h2⟩,h3⟩; cases a; cases b; simp_all
 .rintro rfl; simp
theorem Av6 (a b:Aq) (h1:a.Num.length<1099511627776) (h2:a.Den.length<1099511627776):U6 a b=some (Md a b):=by
 unfold U6 Md
 cases g:(a.Neg==b.Neg) with
 | false=>rw [show (a.Neg != b.Neg)=true by simp [bne,g]]; rfl
 | true=>
  rw [show (a.Neg != b.Neg)=false by simp [bne,g]]
  simp only [cond_false]
  by_cases f:a.Num.length=b.Num.length
  .rw [De (by omega)]
   by_cases c:a.Den.length=b.Den.length
   .rw [De (by omega)]
    simp only [cond_false,Ad,Bool.true_and]
    refine (Afe a.Num b.Num h1 f (rt:=decide (a.Den=b.Den)) (rf:=false) rfl ?_).trans (by cases decide (a.Num=b.Num) <;> rfl)
    refine (Afe a.Den b.Den h2 c (rt:=true) (rf:=false) ?_ ?_).trans (by rw [M4]) <;> rfl
   .rw [Db (by omega),Al (fun e:a.Den=b.Den=>c (by rw [e]))]
    simp
  .rw [Db (by omega),Al (fun e:a.Num=b.Num=>f (by rw [e]))]
   simp
def Rk (c:Aq):Bool:=Md (B4 (sv c) (nv c) (dv c)) c && !(nv c==0)
theorem Av7 (c:Aq):Rk c=(Md c (B4 (sv c) (nv c) (dv c)) && !(nv c==0)):=by
 unfold Rk
 congr 1
 rw [Bool.eq_iff_iff,Aai,Aai]; exact eq_comm
structure TSz (t:Ag):Prop where
 co:RB 1048576 t.Coef
 mo:Dl t.Mono
def O9 (l:List Ag) (x:Ag) (j:Nat):Bool:=j==0||(match l[j-1]? with | some y=>decide (B7 y.Mono x.Mono<0) | none=>false)
def Pa (data:List Az) (vars:List Ai) (res:Ai) (l:List Ag) (t:Ag) (j:Nat):Bool:=Rk t.Coef&&Hc data vars res t.Mono&&O9 l t j
def Ho (data:List Az) (vars:List Ai) (res:Ai) (p:List Ag):Bool:=decide (p.length<=1000)&&p.zipIdx.all (fun q=>Pa data vars res p q.1 q.2)
theorem Al4 {S E:Type} (F:A8->A8->Option Int) (l:List Ag) (g:∀y∈l,∀x,F y.Mono x=some (B7 y.Mono x)) {x:Ag} {j:Nat} (hx:l[j]? = some x) (i:l.length<4611686018427387904) (c b:Option (S⊕E)) :
  (bif decide ((j:Int)>0) then ((Af l (Ac ((j:Int)-1))).bind fun f=>(F f.Mono x.Mono).bind fun v28=>bif decide (v28>=0) then c else b) else b)=bif O9 l x j then b else c:=by
 have hj:=Df hx
 unfold O9
 by_cases h:j=0
 .subst h; rfl
 .rw [Ak (by omega)]
  have e:Ac ((j:Int)-1)=((j-1:Nat):Int):=by rw [Ac,Bz] <;> omega
  have hy:l[j-1]? = some l[j-1]:=Bn (by omega)
  rw [e,Ch rfl hy,hy]
  have h0:(j==0)=false:=by simpa using h
  simp only [cond_true,Ad,h0,Bool.false_or,g _ (List.getElem_mem (by omega:j-1<l.length))]
  by_cases hc:B7 l[j-1].Mono x.Mono<0
  .rw [Al (by omega),Ak hc]; rfl
  .rw [Ak (by omega),Al hc]; rfl
theorem Aaj (s:Bool) (n:Nat):(Es s n==0)=(n==0):=by
 unfold Es
 by_cases h:n=0
 .rw [if_pos h]; subst h; rfl
 .rw [if_neg h]
  have:(n==0)=false:=by simpa using h
  rw [this]; cases s <;> rfl
theorem Al5 {data:List Az} {vars:List Ai} {res:Ai} (hc:O6 data vars res) {b1:List (ByteArray×Int)} (b2:List (ByteArray×List Eh)) (V:Fq data vars res b1) (p:List Ag) (U:∀t∈p,TSz t) :
  ∃B,Ut p b1 b2 data vars res.Kind res.Num res.Args=some (Ho data vars res p,B)/\Fq data vars res B:=by
 unfold Ut Ho
 by_cases A:p.length<=1000
 .rw [Al (by omega),Ak A,Bool.true_and]
  simp only [cond_false]
  obtain ⟨r,X,S⟩:=Wf (M:=List (ByteArray×Int)) (R:=Bool×List (ByteArray×Int)) p (fun q=>Pa data vars res p q.1 q.2) (fun j o=>((j:Int),o)) (Fq data vars res)
   (fun r=>Fq data vars res r.2/\r.1=true) (fun r=>Fq data vars res r.2/\r.1=false) b1
   (s0:=((0:Int),b1))
   (step:=(fun (b,g)=>
    bif (decide (b<(p.length:Int))) then (
    (Af p b).bind fun v12=>
    (I9 v12.Coef).bind fun f=>
    (show Option Bool from
    bif (f.Neg==v12.Coef.Neg) then (
    (L1 f.Num v12.Coef.Num).bind fun i=>
    bif i then (
    (L1 f.Den v12.Coef.Den).bind fun v17=>
    some v17)
    else some false)
    else some false).bind fun E=>
    bif (!E) then some (.inr (.inl (false,g)))
    else (
    (Hz f).bind fun D=>
    bif (D==(0:Int)) then some (.inr (.inl (false,g)))
    else (
    (Sp v12.Mono g b2 data vars res.Kind res.Num res.Args).bind fun v20=>
    bif (!v20.1) then some (.inr (.inl (false,v20.2)))
    else (
    bif (decide (b>(0:Int))) then (
    (Af p (Ac (b-1))).bind fun v21=>
    (Ld v21.Mono v12.Mono).bind fun v22=>
    bif (decide (v22>=(0:Int))) then some (.inr (.inl (false,v20.2)))
    else some (.inl ((Ac (b+1)),v20.2)))
    else some (.inl ((Ac (b+1)),v20.2))))))
    else some (.inr (.inr g)):Int×List (ByteArray×Int)->Option ((Int×List (ByteArray×Int))⊕((Bool×List (ByteArray×Int))⊕List (ByteArray×Int)))))
   (J:=(fun z=>match z with
    | .inl (I,G)=>some (I,G)
    | .inr L=>some (true,L)))
   rfl V (by omega) (by
    intro j t o u hx _ h1 h2 h3
    have c:=U t (Bo hx)
    obtain ⟨B,d1,d2⟩:=Av3 b2 hc u t.Mono c.mo
    have s:∀l:List Int,l=(B4 (sv t.Coef) (nv t.Coef) (dv t.Coef)).Num\/l=(B4 (sv t.Coef) (nv t.Coef) (dv t.Coef)).Den->l.length<1099511627776:=by
     intro l A
     have q:=Kl (sv t.Coef) (nv t.Coef) (dv t.Coef) 1048577 c.co.nv c.co.dv (by omega)
     have:=q.nl
     have:=q.dl
     rcases A with rfl | rfl <;> omega
    have k:(bif ((B4 (sv t.Coef) (nv t.Coef) (dv t.Coef)).Neg==t.Coef.Neg) then ((L1 (B4 (sv t.Coef) (nv t.Coef) (dv t.Coef)).Num t.Coef.Num).bind fun i=>bif i then ((L1 (B4 (sv t.Coef) (nv t.Coef) (dv t.Coef)).Den t.Coef.Den).bind fun v17=>some v17) else some false) else some false)=some (Md (B4 (sv t.Coef) (nv t.Coef) (dv t.Coef)) t.Coef):=by
     unfold Md
     rw [Al3 _ _ (s _ (.inl rfl)),Al3 _ _ (s _ (.inr rfl))]
     cases ((B4 (sv t.Coef) (nv t.Coef) (dv t.Coef)).Neg==t.Coef.Neg) <;> cases decide ((B4 (sv t.Coef) (nv t.Coef) (dv t.Coef)).Num=t.Coef.Num) <;> rfl
    simp only [h1,h2,h3,cond_true,Ad,Wg t.Coef 1048576 c.co (by omega),k,Al4 Ld p (fun y hy x=>Ae8 y.Mono x (U y hy).mo) hx (by omega),Pa,Rk]
    cases N:Md (B4 (sv t.Coef) (nv t.Coef) (dv t.Coef)) t.Coef with
    | false=>exact ⟨(fun h=>by cases h),fun _=>⟨_,rfl,_,rfl,u,rfl⟩⟩
    | true=>
     have e:=(Aai _ _).1 N
     simp only [Dj,cond_false,Bool.true_and]
     rw [e,Ad9 t.Coef 1048576 c.co (by omega),Ad,Aaj]
     cases (nv t.Coef==0) with
     | true=>exact ⟨(fun h=>by cases h),fun _=>⟨_,rfl,_,rfl,u,rfl⟩⟩
     | false=>
      simp only [cond_false,d1,Ad,Bool.not_false,Bool.true_and]
      cases Hc data vars res t.Mono with
      | false=>exact ⟨(fun h=>by cases h),fun _=>⟨_,rfl,_,rfl,d2,rfl⟩⟩
      | true=>
       cases O9 p t j with
       | true=>exact ⟨fun _=>⟨B,rfl,d2⟩,fun h=>by cases h⟩
       | false=>exact ⟨(fun h=>by cases h),fun _=>⟨_,rfl,_,rfl,d2,rfl⟩⟩) (by
    intro o u h1 _
    exact ⟨.inr o,by simp only [h1]; rfl,_,rfl,u,rfl⟩)
  refine ⟨r.2,?_,?_⟩
  .have e:some r=some (p.zipIdx.all (fun q=>Pa data vars res p q.1 q.2),r.2):=by
    rcases S with ⟨h1,h2,h3⟩ | ⟨h1,h2,h3⟩
    .rw [h1,<-h3]
    .rw [h1,<-h3]
   rw [<-e]
   exact X
  .rcases S with ⟨h1,h2,h3⟩ | ⟨h1,h2,h3⟩ <;> exact h2
 .rw [Ak (by omega),Al A]
  exact ⟨b1,rfl,V⟩
theorem Av8 {x:Bh} (hc:O6 x.Data x.Vars x.Res) (p:List Ag) (c:∀t∈p,TSz t):Ur x p=some (Ho x.Data x.Vars x.Res p):=by
 unfold Ur Ho
 by_cases f:p.length<=1000
 .rw [Al (by omega),Ak f,Bool.true_and]
  simp only [cond_false]
  refine (Q6 p (fun q=>Pa x.Data x.Vars x.Res p q.1 q.2) (fun j=>(j:Int)) rfl (by omega) (rt:=true) (rf:=false) ?_ ?_).trans (by rw [M4])
  .intro j t hx _ h1 h2 h3
   have b:=c t (Bo hx)
   obtain ⟨v,g,v2⟩:=Av4 hc t.Mono b.mo
   simp only [h1,h2,h3,cond_true,Ad,g,v2,Aei t.Coef 1048576 b.co (by omega),Aaj,Ra t.Coef 1048576 b.co (by omega),Av6 t.Coef _ (by have:=b.co.nl; omega) (by have:=b.co.dl; omega),
    Al4 H8 p (fun y hy x=>To y.Mono x (c y hy).mo) hx (by omega),Pa,Av7]
   cases Hc x.Data x.Vars x.Res t.Mono with
   | false=>exact ⟨(fun h=>by simp at h),fun _=>⟨.inl false,rfl,rfl⟩⟩
   | true=>
    cases (nv t.Coef==0) with
    | true=>exact ⟨(fun h=>by simp at h),fun _=>⟨.inl false,rfl,rfl⟩⟩
    | false=>
     cases Md t.Coef (B4 (sv t.Coef) (nv t.Coef) (dv t.Coef)) with
     | false=>exact ⟨(fun h=>by simp at h),fun _=>⟨.inl false,rfl,rfl⟩⟩
     | true=>
      cases O9 p t j with
      | true=>exact ⟨fun _=>rfl,fun h=>by cases h⟩
      | false=>exact ⟨(fun h=>by cases h),fun _=>⟨.inl false,rfl,rfl⟩⟩
  .intro h _; exact ⟨.inr (),by simp only [h]; rfl,rfl⟩
 .rw [Ak (by omega),Al f]; rfl
structure CSz (x:Bh):Prop where
 ds:DSz x.Data
 nv:x.Vars.length<=1048576
 vs:∀t∈x.Vars,Bg t<=1048576
 rs:Bg x.Res<=1048576
def Hq (data:List Az) (t:Ai):Bool:=E7 data 0 t&&decide (Bg t<=200)
def Fi (x:Bh):Prop:=x.Vars.length<=3000/\Ic x.Data/\Hq x.Data x.Res=true/\x.Vars.all (Hq x.Data)=true
theorem Fi.ctx {x:Bh} (h:Fi x) (c:CSz x):O6 x.Data x.Vars x.Res:=by
 refine ⟨h.2.1,c.ds.sz.short,fun v t ht=>?_,h.1⟩
 have good:∀t,Hq x.Data t=true->Bg t<=200:=fun t h=>by
  simp only [Hq,C6,decide_eq_true_eq] at h; exact h.2
 unfold tyX at ht
 by_cases b:v = -1
 .rw [if_pos b] at ht; cases ht; exact good _ h.2.2.1
 .rw [if_neg b] at ht
  exact good t (List.all_eq_true.1 h.2.2.2 t (F0 ht).2.2.2)
theorem Al6 (x:Bh) (c:CSz x):∃b,Sd x=some b/\(b=true↔Fi x):=by
 obtain ⟨b,b1,b2⟩:=Au3 c.ds
 have l:=c.nv
 have k:=c.rs
 unfold Sd Fi
 rw [b1,Aek x.Data x.Res 0 (by omega)]
 simp only [Ad]
 cases b with
 | false=>exact ⟨false,rfl,by simp; intro _ h; have:=b2.2 h; cases this⟩
 | true=>
  have i:=b2.1 rfl
  simp only [Dj,cond_false]
  by_cases g:x.Vars.length<=3000
  .rw [Al (by omega)]
   simp only [cond_false,Ad]
   cases f:(E7 x.Data 0 x.Res&&decide (Bg x.Res<=200)) with
   | false=>exact ⟨false,rfl,by simp [Hq,f]⟩
   | true=>
    refine ⟨x.Vars.all (Hq x.Data),?_,by rw [show Hq x.Data x.Res=true from f]; simp [g,i]⟩
    simp only [Dj,cond_false]
    refine (Ox x.Vars (Hq x.Data) (fun j=>(j:Int)) rfl (by omega) (rt:=true) (rf:=false) ?_ ?_).trans (by rw [M4])
    .intro j t ht h1 h2 h3
     have:=c.vs t (Bo ht)
     simp only [h1,h2,h3,cond_true,Ad,Aek x.Data t 0 (by omega)]
     rw [show (E7 x.Data 0 t&&decide (Bg t<=200))=Hq x.Data t from rfl]
     cases Hq x.Data t with
     | true=>exact ⟨fun _=>rfl,fun h=>by cases h⟩
     | false=>exact ⟨(fun h=>by cases h),fun _=>⟨.inl false,rfl,rfl⟩⟩
    .intro h; exact ⟨.inr (),by simp only [h]; rfl,rfl⟩
  .rw [Ak (by omega)]
   exact ⟨false,rfl,by simp [g]⟩
theorem Aff (x:Bh) (c:CSz x) (p:List Ag) (hp:∀t∈p,TSz t):∃b,La x p=some b/\(b=true↔Fi x/\Ho x.Data x.Vars x.Res p=true):=by
 obtain ⟨b,b1,b2⟩:=Al6 x c
 unfold La
 rw [b1,Ad]
 cases b with
 | false=>exact ⟨false,rfl,by simp; intro h; have:=b2.2 h; cases this⟩
 | true=>
  have hf:=b2.1 rfl
  rw [Av8 (hf.ctx c) p hp]
  exact ⟨_,rfl,by simp [hf]⟩
theorem Afg (x:Bh) (g:CSz x) (p:List Ag) (hp:∀t∈p,TSz t):∃b,Ka x p=some b/\(b=true↔Fi x/\Ho x.Data x.Vars x.Res p=true):=by
 obtain ⟨b,b1,b2⟩:=Ak5 g.ds
 have G:=g.nv
 have E:=g.rs
 unfold Ka Ms
 rw [b1,Wo x.Data x.Res 0 (by omega)]
 by_cases y:x.Vars.length<=3000
 .rw [Al (by omega)]
  simp only [cond_false,Ad]
  cases b with
  | false=>exact ⟨false,rfl,by simp; intro h; have:=b2.2 h.2.1; cases this⟩
  | true=>
   have D:=b2.1 rfl
   simp only [Dj,cond_false]
   cases s:(E7 x.Data 0 x.Res&&decide (Bg x.Res<=200)) with
   | false=>exact ⟨false,rfl,by simp; intro h; have:=h.2.2.1; rw [show Hq x.Data x.Res=false from s] at this; cases this⟩
   | true=>
    simp only [Dj,cond_false,Ad]
    rw [Option.bind_assoc]
    refine Er (fun i=>∃j:Nat,i=j/\j<=x.Vars.length/\(x.Vars.take j).all (Hq x.Data)=true) (fun i=>x.Vars.length-i.toNat)
     (fun z=>match z with | .inl r=>r=false/\¬Fi x | .inr _=>Fi x) ⟨0,rfl,by omega,by simp⟩ ?_ ?_
    .rintro i ⟨j,rfl,hj,c⟩
     rcases Nat.lt_or_ge j x.Vars.length with h | h
     .have ht:x.Vars[j]? = some x.Vars[j]:=Bn h
      generalize x.Vars[j]=t at ht
      have:=g.vs t (Bo ht)
      simp only [Ak (by omega:(j:Int)<(x.Vars.length:Int)),cond_true,Ch rfl ht,Ad,Wo x.Data t 0 (by omega),Cz h (by omega)]
      rw [show (E7 x.Data 0 t&&decide (Bg t<=200))=Hq x.Data t from rfl]
      cases A:Hq x.Data t with
      | true=>exact .inl ⟨_,rfl,⟨j+1,rfl,by omega,by rw [Cw ht,List.all_append,c]; simp [A]⟩,by simp; omega⟩
      | false=>
       refine .inr ⟨.inl false,rfl,rfl,fun J=>?_⟩
       have:=List.all_eq_true.1 J.2.2.2 t (Bo ht)
       rw [A] at this; cases this
     .have:j=x.Vars.length:=by omega
      subst this
      rw [List.take_length] at c
      exact .inr ⟨.inr (),by simp,y,D,s,c⟩
    .rintro (r | u) f
     .obtain ⟨rfl,f⟩:=f
      exact ⟨false,rfl,by simp [f]⟩
     .have hf:Fi x:=f
      have I:Fq x.Data x.Vars x.Res []:=fun q h=>by cases h
      obtain ⟨B,l,L⟩:=Al5 (hf.ctx g) [] I p hp
      cases k:Ho x.Data x.Vars x.Res p with
      | true=>
       rw [k] at l
       refine ⟨true,?_,by simp [hf]⟩
       simp only
       rw [Option.bind_assoc]
       refine L6 1 (fun j=>match j with | 0=>((0:Int),[]) | _=>((1:Int),B)) rfl ?_ ⟨.inr B,rfl,rfl⟩
       intro j hj
       match j,hj with
       | 0,_=>
        show (bif decide ((0:Int)<1) then _ else _)=_
        simp only [Ak (by omega:(0:Int)<1),cond_true]
        rw [show Af [p] 0=some p from rfl,Ad,l]; rfl
      | false=>
       rw [k] at l
       refine ⟨false,?_,by simp⟩
       simp only
       rw [Option.bind_assoc]
       refine L6 0 (fun _=>((0:Int),[])) rfl (fun j hj=>by omega) ⟨.inl false,?_,rfl⟩
       show (bif decide ((0:Int)<1) then _ else _)=_
       simp only [Ak (by omega:(0:Int)<1),cond_true]
       rw [show Af [p] 0=some p from rfl,Ad,l]; rfl
 .rw [Ak (by omega)]
  exact ⟨false,rfl,by simp; intro h; exact absurd h.1 y⟩
end Go.Ab
namespace Go.Ab
open Go
end Go.Ab
namespace Go.Ab
open Go
end Go.Ab
namespace Go.Ab
open Go
end Go.Ab
namespace Go.Ab
open Go
end Go.Ab
namespace Go.Ab
open Go
theorem Av9 {data:List Az} {vars:List Ai} {res:Ai} {m:A8} (h:Hc data vars res m=true):(∀f∈m.Factors,∃t,tyX vars res f.Var=some t)/\m.Factors.length<=6:=by
 unfold Hc at h
 simp only [C6,decide_eq_true_eq] at h
 obtain ⟨⟨h1,h2⟩,h3⟩:=h
 have hf:∀f∈m.Factors,1<=Di data vars res f:=by
  intro f hf
  obtain ⟨j,hj⟩:=List.getElem?_of_mem hf
  have:=Gz h1 hj
  simp only [Mb,C6,decide_eq_true_eq] at this
  exact this.1
 have ha:0<=C8 m.Atoms:=(Ww m.Atoms (fun a ha=>by
  obtain ⟨j,hj⟩:=List.getElem?_of_mem ha
  have:=Gz h2 hj
  simp only [J3,C6,decide_eq_true_eq] at this
  omega)).1
 refine ⟨fun f b=>?_,?_⟩
 .have:=hf f b
  unfold Di at this
  cases ht:tyX vars res f.Var with
  | none=>rw [ht] at this; have:(1:Int)<=-1:=this; omega
  | some t=>exact ⟨t,rfl⟩
 .have key:∀l:List Cj,(∀f∈l,1<=Di data vars res f)->(l.length:Int)<=Ci data vars res l:=by
   intro l
   induction l with
   | nil=>intro _; simp [Ci]
   | cons f fs ih=>
    intro c
    have h1:=c f (by simp)
    have h2:=ih (fun g i=>c g (by simp [i]))
    unfold Ci at *
    simp only [List.map_cons,List.sum_cons,List.length_cons]; omega
  have:=key m.Factors hf
  omega
theorem Awa (a b:Aq) (j k:Nat) (ha:RB j a) (hb:RB k b) (hj:j<34359738000) (hk:k<34359738000):∃c,Mx a b=some c/\Ia a b=some c/\RB (j+k+2) c:=by
 refine ⟨_,Zs a b j k ha hb (by omega) (by omega),Atz a b j k ha hb (by omega) (by omega),?_⟩
 have h1:=ha.nv
 have h2:=ha.dv
 have h3:=hb.nv
 have h:=hb.dv
 have g:=Gy (nv a) (nv b)
 have f:=Gy (dv a) (dv b)
 exact Kl _ _ _ _ (by omega) (by omega) (by omega)
theorem Awb (a b:Aq) (j k:Nat) (ha:RB j a) (hb:RB k b) (hj:j<34359738000) (hk:k<34359738000):∃c,Oc a b=some c/\Kd a b=some c/\RB (j+k+3) c:=by
 refine ⟨_,Aeb a b j k ha hb (by omega) (by omega),Akl a b j k ha hb (by omega) (by omega),?_⟩
 have h1:=ha.nv
 have h2:=ha.dv
 have h3:=hb.nv
 have s:=hb.dv
 have q:=Gy (nv a) (dv b)
 have l:=Gy (nv b) (dv a)
 have i:=Gy (dv a) (dv b)
 have f:Ib (sv a) (nv a) (dv a) (sv b) (nv b) (dv b)<=nv a*dv b+nv b*dv a:=by
  unfold Ib
  split
  .omega
  .split <;> omega
 have h:=H4 f
 have g:=Ad1 (nv a*dv b) (nv b*dv a)
 exact Kl _ _ _ _ (by omega) (by omega) (by omega)
end Go.Ab
namespace Go.Ab
open Go
end Go.Ab
namespace Go.Ab
open Go
end Go.Ab
namespace Go.Ab
open Go
theorem Awc:∀(k:Nat) (v:A9) (a:Int),C4 v<=k->k<1099511627776->∃r,Qf k v a=some r/\True:=by
 intro k
 induction k with
 | zero=>intro v a h _; have:=Fd v; omega
 | succ k ih=>
  intro v a h hk
  have f:=Fd v
  have i:=Ko v.Kids
  simp only [Qf]
  refine Er (fun s=>∃j:Nat,s.2=j/\j<=v.Kids.length) (fun s=>v.Kids.length-s.2.toNat) (fun _=>True) ⟨0,rfl,by omega⟩ ?_ ?_
  .rintro ⟨c,_⟩ ⟨j,rfl,hj⟩
   rcases Nat.lt_or_ge j v.Kids.length with h' | h'
   .simp only [Ak (by omega:(j:Int)<(v.Kids.length:Int)),cond_true,Da rfl h',Ad]
    cases decide (c>a) with
    | true=>exact .inr ⟨_,rfl,trivial⟩
    | false=>
     have g:=J1 (List.getElem_mem h')
     obtain ⟨r,b,_⟩:=ih v.Kids[j] (Ac (a-c)) (by omega) (by omega)
     simp only [b,cond_false,Ad,Cz h' (by omega)]
     exact .inl ⟨_,rfl,⟨j+1,rfl,by omega⟩,by simp; omega⟩
   .simp only [Al (by omega:¬(j:Int)<(v.Kids.length:Int)),cond_false]
    exact .inr ⟨_,rfl,trivial⟩
  .rintro (r | r) _
   .exact ⟨_,rfl,trivial⟩
   .exact ⟨_,rfl,trivial⟩
theorem Awd (m:A8) (c:Dl m):∃b,Up m=some b/\True:=by
 have h1:=c.nf
 have h2:=c.na
 unfold Up
 cases decide ((m.Factors.length:Int)>4) with
 | true=>exact ⟨_,rfl,trivial⟩
 | false=>
  cases decide ((m.Atoms.length:Int)>4) with
  | true=>exact ⟨_,rfl,trivial⟩
  | false=>
   simp only [cond_false,Ad]
   refine Er (fun s=>∃j:Nat,s=j/\j<=m.Factors.length) (fun s=>m.Factors.length-s.toNat) (fun _=>True) ⟨0,rfl,by omega⟩ ?_ ?_
   .rintro _ ⟨j,rfl,hj⟩
    rcases Nat.lt_or_ge j m.Factors.length with h' | h'
    .have c:=c.fi _ (List.getElem_mem h')
     obtain ⟨r,f,_⟩:=Awc 4000000 m.Factors[j].Index 13 (by omega) (by omega)
     simp only [Ak (by omega:(j:Int)<(m.Factors.length:Int)),cond_true,Da rfl h',Ad,f,Cz h' (by omega)]
     cases decide (r>12) with
     | true=>exact .inr ⟨_,rfl,trivial⟩
     | false=>exact .inl ⟨_,rfl,⟨j+1,rfl,by omega⟩,by simp; omega⟩
    .simp only [Al (by omega:¬(j:Int)<(m.Factors.length:Int)),cond_false]
     exact .inr ⟨_,rfl,trivial⟩
   .rintro (r | r) _
    .exact ⟨_,rfl,trivial⟩
    .refine Er (fun s=>∃j:Nat,s=j/\j<=m.Atoms.length) (fun s=>m.Atoms.length-s.toNat) (fun _=>True) ⟨0,rfl,by omega⟩ ?_ ?_
     .rintro _ ⟨j,rfl,hj⟩
      rcases Nat.lt_or_ge j m.Atoms.length with h' | h'
      .simp only [Ak (by omega:(j:Int)<(m.Atoms.length:Int)),cond_true,Da rfl h',Ad,Cz h' (by omega)]
       cases decide ((m.Atoms[j].Lin.Terms.length:Int)>4) with
       | true=>exact .inr ⟨_,rfl,trivial⟩
       | false=>exact .inl ⟨_,rfl,⟨j+1,rfl,by omega⟩,by simp; omega⟩
      .simp only [Al (by omega:¬(j:Int)<(m.Atoms.length:Int)),cond_false]
       exact .inr ⟨_,rfl,trivial⟩
     .rintro (r | r) _
      .exact ⟨_,rfl,trivial⟩
      .exact ⟨_,rfl,trivial⟩
theorem Awe (a:Aq):∃b,Uo a=some b:=by
 unfold Uo
 cases decide ((a.Num.length:Int)<=2) <;> exact ⟨_,rfl⟩
theorem Al7 (p:List Ag) (n:Int) (g:p.length<=1048576) (h:∀t∈p,TSz t):∃b,N0 p n=some b/\True:=by
 unfold N0
 cases decide ((p.length:Int)>n) with
 | true=>exact ⟨_,rfl,trivial⟩
 | false=>
  refine Er (fun s=>∃j:Nat,s=j/\j<=p.length) (fun s=>p.length-s.toNat) (fun _=>True) ⟨0,rfl,by omega⟩ ?_ ?_
  .rintro _ ⟨j,rfl,hj⟩
   rcases Nat.lt_or_ge j p.length with h' | h'
   .obtain ⟨c,hc⟩:=Awe p[j].Coef
    obtain ⟨m,f,_⟩:=Awd p[j].Mono (h _ (List.getElem_mem h')).mo
    simp only [Ak (by omega:(j:Int)<(p.length:Int)),cond_true,Da rfl h',Ad,hc,f,Cz h' (by omega)]
    cases c with
    | false=>exact .inr ⟨_,rfl,trivial⟩
    | true=>
     cases m with
     | false=>exact .inr ⟨_,rfl,trivial⟩
     | true=>exact .inl ⟨_,rfl,⟨j+1,rfl,by omega⟩,by simp; omega⟩
   .simp only [Al (by omega:¬(j:Int)<(p.length:Int)),cond_false]
    exact .inr ⟨_,rfl,trivial⟩
  .rintro (r | r) _
   .exact ⟨_,rfl,trivial⟩
   .exact ⟨_,rfl,trivial⟩
theorem Awf (x:Bh) (p q:List Ag) (g:p.length<=1048576) (hp:∀t∈p,TSz t) (f:q.length<=1048576) (hq:∀t∈q,TSz t):∃b,P1 x p q=some b:=by
 obtain ⟨b,hb⟩:∃b,Uk x=some b:=by
  unfold Uk
  cases decide ((x.Data.length:Int)<=2) <;> exact ⟨_,rfl⟩
 obtain ⟨c,hc,_⟩:=Al7 p 6 g hp
 obtain ⟨d,hd,_⟩:=Al7 q 6 f hq
 unfold P1
 rw [hb]
 cases b with
 | false=>exact ⟨_,rfl⟩
 | true=>
  simp only [Ad,cond_true,hc]
  cases c with
  | false=>exact ⟨_,rfl⟩
  | true=>simp only [cond_true,hd]; exact ⟨_,rfl⟩
theorem Awg:Yh=some true:=by kernel_rfl
end Go.Ab
namespace Go.Ab
open Go
def sg (s:Bool) (n:Nat):Int:=if s then -(n:Int) else n
def rq (a:Aq):Rat:=mkRat (sg (sv a) (nv a)) (dv a)
def Fu (a:Aq):Prop:=a=B4 (sv a) (nv a) (dv a)
theorem I0 (s:Bool) (n d:Nat) (hd:d≠0):rq (B4 s n d)=mkRat (sg s n) d:=by
 obtain ⟨g,f,h1,h2,h3,i⟩:=Akn s n d hd
 unfold rq
 rw [Rat.mkRat_eq_iff (Dq _) hd]
 generalize nv (B4 s n d)=b at *
 generalize dv (B4 s n d)=j at *
 generalize sv (B4 s n d)=s' at *
 by_cases c:n=0
 .have:b=0:=by
   rcases Nat.eq_zero_or_pos b with h | h
   .exact h
   .have:=Nat.mul_pos (Nat.pos_of_ne_zero f) h; omega
  subst this; subst c
  cases s <;> cases s' <;> simp [sg]
 .rw [h3 c,h1,h2]
  cases s <;> simp only [sg,if_true,if_false,Bool.false_eq_true,Int.natCast_mul] <;> grind
theorem Nd (s:Bool) (n d:Nat) (hd:d≠0):Fu (B4 s n d):=by
 obtain ⟨g,b,h1,h2,h3,i⟩:=Akn s n d hd
 unfold Fu
 generalize hc:B4 s n d=c at h1 h2 h3 i
 have e:=Wj s (nv c) (dv c) g b
 rw [<-h1,<-h2,hc] at e
 by_cases f:n=0
 .have h0:nv c=0:=by
   rcases Nat.eq_zero_or_pos (nv c) with h | h
   .exact h
   .have:=Nat.mul_pos (Nat.pos_of_ne_zero b) h; omega
  rw [h0,Wh] at e ⊢
  exact e
 .rw [h3 f]; exact e
theorem Aak (n m:Int) {d e:Nat} (hd:d≠0) (g:e≠0):mkRat n d<mkRat m e↔n*e<m*d:=by
 have c:(0:Rat)<(d:Rat):=Rat.natCast_pos.2 (by omega)
 have b:(0:Rat)<(e:Rat):=Rat.natCast_pos.2 (by omega)
 rw [Rat.mkRat_eq_div,Rat.mkRat_eq_div,Rat.div_lt_iff c]
 rw [<-Rat.mul_lt_mul_right b]
 have f:(m:Rat) / (e:Rat)*(d:Rat)*(e:Rat)=(m:Rat)*(d:Rat):=by grind
 rw [f]
 have a1:(n:Rat)*(e:Rat)=((n*(e:Int):Int):Rat):=by rw [Rat.intCast_mul]; rfl
 have a2:(m:Rat)*(d:Rat)=((m*(d:Int):Int):Rat):=by rw [Rat.intCast_mul]; rfl
 rw [a1,a2,Rat.intCast_lt_intCast]
theorem Aal {a b:Aq} (ha:Fu a) (hb:Fu b) (h:rq a=rq b):a=b:=by
 unfold rq at h
 rw [Rat.mkRat_eq_iff (Dq _) (Dq _)] at h
 rw [ha,hb]
 have q:=Dq a
 have l:=Dq b
 generalize nv a=n at *
 generalize dv a=d at *
 generalize sv a=s at *
 generalize nv b=m at *
 generalize dv b=e at *
 generalize sv b=t at *
 have f:n*e=m*d/\(n≠0->s=t):=by
  have c:n≠0->0<n*e:=fun h=>Nat.mul_pos (by omega) (by omega)
  have g:m≠0->0<m*d:=fun h=>Nat.mul_pos (by omega) (by omega)
  have x:((n*e:Nat):Int)=(n:Int)*e:=by simp
  have u:((m*d:Nat):Int)=(m:Int)*d:=by simp
  cases s <;> cases t <;> simp only [sg,if_true,if_false,Bool.false_eq_true,Int.neg_mul] at h
  .exact ⟨by omega,fun _=>rfl⟩
  .have:n*e=0/\m*d=0:=by omega
   refine ⟨by omega,fun i=>?_⟩
   have:=c i; omega
  .have:n*e=0/\m*d=0:=by omega
   refine ⟨by omega,fun i=>?_⟩
   have:=c i; omega
  .exact ⟨by omega,fun _=>rfl⟩
 have k:=Wj s n d e l
 have j:=Wj t m e d q
 rw [<-k,<-j,Nat.mul_comm e n,f.1,Nat.mul_comm e d,Nat.mul_comm m d]
 refine Ati fun h0=>f.2 ?_
 rintro rfl
 rw [Nat.zero_mul] at f
 have:=f.1
 rw [Nat.mul_comm d m] at h0
 omega
theorem Awh (j:Bool) (c g:Nat) (i:Bool) (b f:Nat):sg (Lk j c g i b f) (Ib j c g i b f)=sg j c*f+sg i b*g:=by
 unfold Lk Ib sg
 have l:((c*f:Nat):Int)=(c:Int)*f:=by simp
 have k:((b*g:Nat):Int)=(b:Int)*g:=by simp
 cases j <;> cases i <;> simp only [if_true,if_false,Bool.false_eq_true,Bool.true_eq_false,Int.neg_mul]
 .omega
 .by_cases h:b*g<=c*f
  .simp only [if_pos h]; simp only [if_false,Bool.false_eq_true]; omega
  .simp only [if_neg h]; simp only [if_true]; omega
 .by_cases h:b*g<=c*f
  .simp only [if_pos h]; simp only [if_true]; omega
  .simp only [if_neg h]; simp only [if_false,Bool.false_eq_true]; omega
 .omega
theorem Aam {a b:Aq} {j k:Nat} (ha:RB j a) (hb:RB k b) (hj:j<34359738000) (hk:k<34359738000):∃c,Oc a b=some c/\Kd a b=some c/\RB (j+k+3) c/\Fu c/\rq c=rq a+rq b:=by
 obtain ⟨c,h1,h2,h3⟩:=Awb a b j k ha hb hj hk
 have e:=Aeb a b j k ha hb (by omega) (by omega)
 rw [h1] at e
 have e:=Option.some.inj e
 have hd:dv a*dv b≠0:=Nat.mul_ne_zero (Dq a) (Dq b)
 refine ⟨c,h1,h2,h3,?_,?_⟩
 .rw [e]; exact Nd _ _ _ hd
 .rw [e,I0 _ _ _ hd,Awh,rq,rq,Rat.mkRat_add_mkRat _ _ (Dq a) (Dq b)]
theorem Al8 (s t:Bool) (n m:Nat):sg (s != t) (n*m)=sg s n*sg t m:=by
 unfold sg
 cases s <;> cases t <;> simp [Int.neg_mul,Int.mul_neg]
theorem Awi {a b:Aq} {j k:Nat} (ha:RB j a) (hb:RB k b) (hj:j<34359738000) (hk:k<34359738000):∃c,Mx a b=some c/\RB (j+k+2) c/\Fu c/\rq c=rq a*rq b:=by
 have hd:dv a*dv b≠0:=Nat.mul_ne_zero (Dq a) (Dq b)
 have h1:=ha.nv
 have h2:=ha.dv
 have h3:=hb.nv
 have h:=hb.dv
 have g:=Gy (nv a) (nv b)
 have f:=Gy (dv a) (dv b)
 refine ⟨_,Zs a b j k ha hb (by omega) (by omega),Kl _ _ _ _ (by omega) (by omega) (by omega),Nd _ _ _ hd,?_⟩
 rw [I0 _ _ _ hd,Al8,rq,rq,Rat.mkRat_mul_mkRat]
theorem Al9 {a b:Aq} {j k:Nat} (ha:RB j a) (hb:RB k b) (hj:j<34359738000) (hk:k<34359738000):∃c,Mx a b=some c/\Ia a b=some c/\RB (j+k+2) c/\Fu c/\rq c=rq a*rq b:=by
 obtain ⟨c,h1,h2,h3⟩:=Awa a b j k ha hb hj hk
 have e:=Zs a b j k ha hb (by omega) (by omega)
 rw [h1] at e
 have e:=Option.some.inj e
 have hd:dv a*dv b≠0:=Nat.mul_ne_zero (Dq a) (Dq b)
 refine ⟨c,h1,h2,h3,?_,?_⟩
 .rw [e]; exact Nd _ _ _ hd
 .rw [e,I0 _ _ _ hd,Al8,rq,rq,Rat.mkRat_mul_mkRat]
def E5 (x:Rat):Int:=if x<0 then -1 else if 0<x then 1 else 0
def Pb (x y:Rat):Int:=if x<y then -1 else if y<x then 1 else 0
theorem Afh (a:Aq):rq a<0↔Es (sv a) (nv a) = -1:=by
 have e:(0:Rat)=mkRat 0 1:=by simp
 rw [rq,e,Aak _ _ (Dq a) (by decide)]
 unfold sg Es
 split <;> split <;> simp <;> omega
theorem Afi (a:Aq):0<rq a↔Es (sv a) (nv a)=1:=by
 have e:(0:Rat)=mkRat 0 1:=by simp
 rw [rq,e,Aak _ _ (by decide) (Dq a)]
 unfold sg Es
 split <;> split <;> simp <;> omega
theorem Afj (a:Aq):Es (sv a) (nv a)=E5 (rq a):=by
 have h1:=Afh a
 have h2:=Afi a
 have h3:Es (sv a) (nv a) = -1\/Es (sv a) (nv a)=0\/Es (sv a) (nv a)=1:=by unfold Es; split <;> (try split) <;> simp
 unfold E5
 split
 .rename_i h; exact h1.1 h
 .rename_i h
  split
  .rename_i h'; exact h2.1 h'
  .rename_i h'
   rcases h3 with h3 | h3 | h3
   .exact (h (h1.2 h3)).elim
   .exact h3
   .exact (h' (h2.2 h3)).elim
theorem Me {a:Aq} {k:Nat} (h:RB k a) (hk:k<34359738000):Hz a=some (E5 (rq a))/\Gq a=some (E5 (rq a)):=by
 rw [<-Afj]
 exact ⟨Ad9 a k h (by omega),Aei a k h (by omega)⟩
theorem Awj {a:Aq} {k:Nat} (h:RB k a) (hk:k<34359738000):∃c,I9 a=some c/\Jb a=some c/\Fu c/\rq c=rq a/\RB (k+1) c :=
 ⟨_,Wg a k h (by omega),Ra a k h (by omega),Nd _ _ _ (Dq a),I0 _ _ _ (Dq a),Aeh h⟩
theorem Ama {a b:Aq} {j k:Nat} (ha:RB j a) (hb:RB k b) (hj:j<34359738000) (hk:k<34359738000):Sb a b=some (Pb (rq a) (rq b)):=by
 unfold Sb
 have h1:=ha.nv
 have h2:=ha.dv
 have h3:=hb.nv
 have S:=hb.dv
 rw [O2 a j ha (by omega),Ad,O2 b k hb (by omega),Ad,Ad8,Ad,Ad8,Ad]
 dsimp only
 have l:rq a<rq b↔sg (sv a) (nv a)*dv b<sg (sv b) (nv b)*dv a:=Aak _ _ (Dq a) (Dq b)
 have i:rq b<rq a↔sg (sv b) (nv b)*dv a<sg (sv a) (nv a)*dv b:=Aak _ _ (Dq b) (Dq a)
 have J:0<dv a:=Nat.pos_of_ne_zero (Dq a)
 have I:0<dv b:=Nat.pos_of_ne_zero (Dq b)
 have s:=Afj a
 have q:=Afj b
 have A:=Afh a
 have y:=Afi a
 have x:=Afh b
 have u:=Afi b
 by_cases f:Es (sv a) (nv a)<Es (sv b) (nv b)
 .rw [Ak f,cond_true]
  have:rq a<rq b:=by
   rw [s,q] at f
   unfold E5 at f
   grind
  unfold Pb; rw [if_pos this]
 .rw [Al f,cond_false]
  by_cases hgt:Es (sv a) (nv a)>Es (sv b) (nv b)
  .rw [Ak hgt,cond_true]
   have E:rq b<rq a:=by
    rw [s,q] at hgt
    unfold E5 at hgt
    grind
   have D:¬rq a<rq b:=by grind
   unfold Pb; rw [if_neg D,if_pos E]
  .rw [Al hgt,cond_false]
   have heq:Es (sv a) (nv a)=Es (sv b) (nv b):=by omega
   have R:=Gy (nv a) (dv b)
   have N:=Gy (nv b) (dv a)
   rw [Q8 _ _ (by omega) (by omega),Ad,Q8 _ _ (by omega) (by omega),Ad,Q7 _ _ (by omega) (by omega),Ad]
   have V:((nv a*dv b:Nat):Int)=(nv a:Int)*dv b:=by simp
   have U:((nv b*dv a:Nat):Int)=(nv b:Int)*dv a:=by simp
   have M:nv a≠0->0<nv a*dv b:=fun h=>Nat.mul_pos (by omega) I
   have L:nv b≠0->0<nv b*dv a:=fun h=>Nat.mul_pos (by omega) J
   have hw:∀z:Int,z = -1\/z=0\/z=1->Ac z=z:=by
    rintro z (rfl | rfl | rfl) <;> decide
   unfold Pb Eo
   simp only [l,i]
   rw [hw]
   .refine congrArg some ?_
    by_cases c:nv a=0
    .have g:nv b=0:=by
      unfold Es at heq; rw [if_pos c] at heq
      by_cases h:nv b=0
      .exact h
      .rw [if_neg h] at heq; split at heq <;> cases heq
     rw [c,g]; simp [Es,sg]
    .have g:nv b≠0:=by
      intro h
      unfold Es at heq; rw [if_pos h,if_neg c] at heq
      split at heq <;> cases heq
     have B:sv a=sv b:=by
      unfold Es at heq; rw [if_neg c,if_neg g] at heq
      cases h1:sv a <;> cases h2:sv b <;> simp [h1,h2] at heq ⊢
     have G:Es (sv a) (nv a)=if sv a then -1 else 1:=by unfold Es; rw [if_neg c]
     rw [G,<-B]
     cases sv a <;> simp only [sg,if_true,if_false,Bool.false_eq_true,Int.neg_mul,Int.one_mul]
     .rcases Nat.lt_trichotomy (nv a*dv b) (nv b*dv a) with h | h | h
      .rw [if_pos h,if_pos (by omega)]
      .rw [if_neg (by omega),if_neg (by omega),if_neg (by omega),if_neg (by omega)]
      .rw [if_neg (by omega),if_pos h,if_neg (by omega),if_pos (by omega)]
     .rcases Nat.lt_trichotomy (nv a*dv b) (nv b*dv a) with h | h | h
      .rw [if_pos h,if_neg (by omega),if_pos (by omega)]; rfl
      .rw [if_neg (by omega),if_neg (by omega),if_neg (by omega),if_neg (by omega)]; rfl
      .rw [if_neg (by omega),if_pos h,if_pos (by omega)]
   .have h3:Es (sv a) (nv a) = -1\/Es (sv a) (nv a)=0\/Es (sv a) (nv a)=1:=by unfold Es; split <;> (try split) <;> simp
    rcases h3 with h | h | h <;> rw [h] <;> split <;> (try split) <;> simp
end Go.Ab
namespace Go.Ab
open Go
structure Ec {α:Type} (S:α->Prop) (g:α->α->Int):Prop where
 zero:∀a b,S a->S b->(g a b=0↔a=b)
 anti:∀a b,S a->S b->g b a = - g a b
 trans:∀a b c,S a->S b->S c->g a b<0->g b c<0->g a c<0
theorem Ec.cmpI:Ec (fun _:Int=>True) Dw:=by
 refine ⟨fun a b _ _=>Fg,fun a b _ _=>?_,fun a b c _ _ _=>?_⟩
 .unfold Go.Ab.Dw; split <;> split <;> (try split) <;> (try split) <;> omega
 .unfold Go.Ab.Dw; intro h1 h2; split at h1 <;> (try split at h1) <;> split at h2 <;> (try split at h2) <;> first | omega | (rw [if_pos (by omega)]; decide)
theorem Amb {x y:Int}:Dk x y<0↔x<0\/(x=0/\y<0):=by unfold Dk; split <;> omega
theorem Amc {x y:Int}:Dk x y=0↔x=0/\y=0:=by unfold Dk; split <;> omega
theorem Ec.or {α β γ:Type} {S:α->Prop} {s:β->Prop} {l:γ->Prop} {j:β->β->Int} {i:γ->γ->Int} (p:α->β) (q:α->γ) (g:∀a b,p a=p b->q a=q b->a=b) (h1:Ec s j) (h2:Ec l i) (f:∀a,S a->s (p a)/\l (q a)) :
  Ec S (fun a b=>Dk (j (p a) (p b)) (i (q a) (q b))):=by
 refine ⟨fun a b ha hb=>?_,fun a b ha hb=>?_,fun a b c ha hb hc=>?_⟩
 .rw [Amc,h1.zero _ _ (f a ha).1 (f b hb).1,h2.zero _ _ (f a ha).2 (f b hb).2]
  exact ⟨fun h=>g a b h.1 h.2,fun h=>by subst h; exact ⟨rfl,rfl⟩⟩
 .show Dk (j (p b) (p a)) (i (q b) (q a)) = - Dk (j (p a) (p b)) (i (q a) (q b))
  have z:=h1.anti _ _ (f a ha).1 (f b hb).1
  have y:=h2.anti _ _ (f a ha).2 (f b hb).2
  rw [z,y]; unfold Dk; split <;> split <;> omega
 .show Dk _ _<0->Dk _ _<0->Dk _ _<0
  simp only [Amb]
  have u:=h1.zero _ _ (f a ha).1 (f b hb).1
  have z2:=h1.zero _ _ (f b hb).1 (f c hc).1
  have t1:=h1.trans _ _ _ (f a ha).1 (f b hb).1 (f c hc).1
  have t2:=h2.trans _ _ _ (f a ha).2 (f b hb).2 (f c hc).2
  rintro (h | ⟨h,h'⟩) (k | ⟨k,x⟩)
  .exact .inl (t1 h k)
  .rw [<-z2.1 k]; exact .inl h
  .rw [u.1 h]; exact .inl k
  .rw [<-z2.1 k,h]; exact .inr ⟨rfl,t2 h' x⟩
theorem Ec.mono {α:Type} {S i:α->Prop} {g:α->α->Int} (h:Ec S g) (f:∀a,i a->S a):Ec i g :=
 ⟨fun a b ha hb=>h.zero a b (f a ha) (f b hb),fun a b ha hb=>h.anti a b (f a ha) (f b hb),fun a b c ha hb hc=>h.trans a b c (f a ha) (f b hb) (f c hc)⟩
theorem Ec.congr {α:Type} {S:α->Prop} {g c:α->α->Int} (h:Ec S g) (e:∀a b,c a b=g a b):Ec S c:=by
 have:c=g:=funext fun a=>funext fun b=>e a b
 rw [this]; exact h
def LL {α:Type} (g:α->α->Int) (l m:List α):Int:=if l.length=m.length then Eb g l m else Go.Ab.Dw l.length m.length
theorem Amd {α:Type} {S:α->Prop} {g:α->α->Int} (h:Ec S g):∀l m:List α,l.length=m.length->(∀x∈l,S x)->(∀x∈m,S x)->(Eb g l m=0↔l=m)
 | [],[],_,_,_=>by simp [Eb]
 | x::xs,y::ys,b,h1,h2=>by
  simp only [Eb,Amc,h.zero x y (h1 x (by simp)) (h2 y (by simp)),Amd h xs ys (by simpa using b) (fun z c=>h1 z (by simp [c])) (fun z c=>h2 z (by simp [c])),List.cons.injEq]
 | [],_::_,b,_,_=>by simp at b
 | _::_,[],b,_,_=>by simp at b
theorem Ame {α:Type} {S:α->Prop} {g:α->α->Int} (h:Ec S g):∀l m:List α,l.length=m.length->(∀x∈l,S x)->(∀x∈m,S x)->Eb g m l = - Eb g l m
 | [],[],_,_,_=>by simp [Eb]
 | x::xs,y::ys,b,h1,h2=>by
  simp only [Eb,h.anti x y (h1 x (by simp)) (h2 y (by simp)),Ame h xs ys (by simpa using b) (fun z c=>h1 z (by simp [c])) (fun z c=>h2 z (by simp [c]))]
  unfold Dk; split <;> split <;> omega
 | [],_::_,b,_,_=>by simp at b
 | _::_,[],b,_,_=>by simp at b
theorem Amf {α:Type} {S:α->Prop} {g:α->α->Int} (h:Ec S g):∀l m n:List α,l.length=m.length->m.length=n.length->(∀x∈l,S x)->(∀x∈m,S x)->(∀x∈n,S x)->Eb g l m<0->Eb g m n<0->Eb g l n<0
 | [],[],_,_,_,_,_,_=>by intro h; simp [Eb] at h
 | x::xs,y::ys,z::j,f,i,h1,h2,h3=>by
  simp only [Eb,Amb]
  have k:=h.zero x y (h1 x (by simp)) (h2 y (by simp))
  have z2:=h.zero y z (h2 y (by simp)) (h3 z (by simp))
  have t1:=h.trans x y z (h1 x (by simp)) (h2 y (by simp)) (h3 z (by simp))
  have t2:=Amf h xs ys j (by simpa using f) (by simpa using i) (fun z c=>h1 z (by simp [c])) (fun z c=>h2 z (by simp [c])) (fun z c=>h3 z (by simp [c]))
  rintro (a | ⟨a,s⟩) (b | ⟨b,q⟩)
  .exact .inl (t1 a b)
  .rw [<-z2.1 b]; exact .inl a
  .rw [k.1 a]; exact .inl b
  .rw [<-z2.1 b,a]; exact .inr ⟨rfl,t2 s q⟩
 | _::_,_::_,[],_,i,_,_,_=>by simp at i
 | [],_::_,_,f,_,_,_,_=>by simp at f
 | _::_,[],_,f,_,_,_,_=>by simp at f
theorem Ec.ll {α:Type} {S:α->Prop} {g:α->α->Int} (h:Ec S g):Ec (fun l=>∀x∈l,S x) (LL g):=by
 have c:=Ec.cmpI
 refine ⟨fun a b ha hb=>?_,fun a b ha hb=>?_,fun x y z hx hy q=>?_⟩
 .unfold LL
  split
  .rename_i i; exact Amd h a b i ha hb
  .rename_i i
   rw [Fg]
   exact ⟨fun e=>(i (by omega)).elim,fun e=>(i (by rw [e])).elim⟩
 .unfold LL
  by_cases i:a.length=b.length
  .rw [if_pos i,if_pos i.symm]; exact Ame h a b i ha hb
  .rw [if_neg i,if_neg (fun e=>i e.symm)]; exact c.anti _ _ trivial trivial
 .unfold LL
  intro h1 h2
  have neg:∀a b:Int,Go.Ab.Dw a b<0->a<b:=by intro a b h; unfold Go.Ab.Dw at h; split at h <;> (try split at h) <;> omega
  have f:∀a b:Int,a<b->Go.Ab.Dw a b<0:=by intro a b h; unfold Go.Ab.Dw; rw [if_pos h]; decide
  by_cases k:x.length=y.length
  .rw [if_pos k] at h1
   by_cases j:y.length=z.length
   .rw [if_pos j] at h2; rw [if_pos (by omega)]; exact Amf h x y z k j hx hy q h1 h2
   .rw [if_neg j] at h2; rw [if_neg (by omega)]
    have:=neg _ _ h2; exact f _ _ (by omega)
  .rw [if_neg k] at h1
   have:=neg _ _ h1
   by_cases j:y.length=z.length
   .rw [if_neg (by omega)]; exact f _ _ (by omega)
   .rw [if_neg j] at h2
    have:=neg _ _ h2
    rw [if_neg (by omega)]; exact f _ _ (by omega)
theorem Amg {α:Type} (g:α->α->Int) (l m:List α) (y:Int):Dk (LL g l m) y=if l.length=m.length then Dk (Eb g l m) y else Go.Ab.Dw l.length m.length:=by
 unfold LL
 by_cases h:l.length=m.length
 .rw [if_pos h,if_pos h]
 .rw [if_neg h,if_neg h]
  unfold Dk
  rw [if_neg (fun e=>h (by have:=Fg.1 e; omega))]
theorem Awk:Ec (fun _=>True) Kp :=
 (Ec.or (S:=fun _=>True) (fun t:Bw=>t.Var) (fun t=>t.Coef) (fun a b h1 h2=>by cases a; cases b; cases h1; cases h2; rfl) Ec.cmpI Ec.cmpI (fun _ _=>⟨trivial,trivial⟩)).congr fun _ _=>rfl
theorem Tq:Ec (fun _=>True) Gi :=
 (Ec.or (S:=fun _=>True) (fun t:Ce=>t.Terms) (fun t=>t.Const) (fun a b h1 h2=>by cases a; cases b; cases h1; cases h2; rfl) Awk.ll Ec.cmpI (fun _ _=>⟨fun _ _=>trivial,trivial⟩)).congr fun a b=>by
  show Gi a b=Dk (LL Kp a.Terms b.Terms) (Go.Ab.Dw a.Const b.Const)
  rw [Amg]; rfl
theorem Awl (i j:A9):H5 i j=Dk (Go.Ab.Dw i.Num j.Num) (LL H5 i.Kids j.Kids):=by
 rw [Ae7,Aah]
 unfold Dk LL
 by_cases h:i.Num=j.Num
 .rw [if_pos h,if_pos (Fg.2 h)]
 .rw [if_neg h,if_neg (fun e=>h (Fg.1 e))]
theorem Afk:∀n:Nat,Ec (fun i=>C4 i<=n) H5:=by
 intro n
 induction n with
 | zero=>exact ⟨fun a _ ha=>by have:=Fd a; omega,fun a _ ha=>by have:=Fd a; omega,fun a _ _ ha=>by have:=Fd a; omega⟩
 | succ n ih=>
  refine (Ec.or (S:=fun i=>C4 i<=n+1) (fun i:A9=>i.Num) (fun i=>i.Kids) (fun a b h1 h2=>by cases a; cases b; cases h1; cases h2; rfl) Ec.cmpI ih.ll ?_).congr Awl
  intro i hi
  refine ⟨trivial,fun x hx=>?_⟩
  have h1:=J1 hx
  have h2:=Fd i
  show C4 x<=n
  omega
theorem Awm:Ec (fun _=>True) H5 :=
 ⟨fun a b _ _=>(Afk (max (C4 a) (C4 b))).zero a b (by show C4 a<=_; omega) (by show C4 b<=_; omega),fun a b _ _=>(Afk (max (C4 a) (C4 b))).anti a b (by show C4 a<=_; omega) (by show C4 b<=_; omega),
  fun a b c _ _ _=>(Afk (max (C4 a) (max (C4 b) (C4 c)))).trans a b c (by show C4 a<=_; omega) (by show C4 b<=_; omega) (by show C4 c<=_; omega)⟩
theorem Awn:Ec (fun _=>True) Kq :=
 (Ec.or (S:=fun _=>True) (fun t:Cj=>t.Var) (fun t=>t.Index) (fun a b h1 h2=>by cases a; cases b; cases h1; cases h2; rfl) Ec.cmpI Awm (fun _ _=>⟨trivial,trivial⟩)).congr fun _ _=>rfl
theorem Awo:Ec (fun _=>True) Ln :=
 (Ec.or (S:=fun _=>True) (fun t:B5=>t.Lin) (fun t=>t.Deg) (fun a b h1 h2=>by cases a; cases b; cases h1; cases h2; rfl) Tq Ec.cmpI (fun _ _=>⟨trivial,trivial⟩)).congr fun _ _=>rfl
theorem Afl:Ec (fun _=>True) B7 :=
 (Ec.or (S:=fun _=>True) (fun t:A8=>t.Factors) (fun t=>t.Atoms) (fun a b h1 h2=>by cases a; cases b; cases h1; cases h2; rfl) Awn.ll Awo.ll (fun _ _=>⟨fun _ _=>trivial,fun _ _=>trivial⟩)).congr fun a b=>by
  show B7 a b=Dk (LL Kq a.Factors b.Factors) (LL Ln a.Atoms b.Atoms)
  rw [Amg]; rfl
theorem Ga {a b:A8}:B7 a b=0↔a=b:=Afl.zero a b trivial trivial
theorem Rl (a b:A8):B7 b a = - B7 a b:=Afl.anti a b trivial trivial
theorem Mf {a b c:A8} (h:B7 a b<0) (h':B7 b c<0):B7 a c<0:=Afl.trans a b c trivial trivial trivial h h'
end Go.Ab
namespace Go.Ab
open Go
theorem Aan (m:A8):B7 m m=0:=Ga.2 rfl
theorem Aao {a b:A8}:0<B7 a b↔B7 b a<0:=by rw [Rl a b]; omega
def cf:List Ag->A8->Rat
 | [],_=>0
 | t::p,m=>(if B7 t.Mono m=0 then rq t.Coef else 0)+cf p m
def ltT (t u:Ag):Prop:=B7 t.Mono u.Mono<0
structure CP (p:List Ag):Prop where
 srt:p.Pairwise ltT
 coe:∀t∈p,Fu t.Coef/\rq t.Coef≠0
theorem CP.tail {t:Ag} {p:List Ag} (h:CP (t::p)):CP p:=⟨(List.pairwise_cons.1 h.srt).2,fun u hu=>h.coe u (by simp [hu])⟩
theorem CP.head {t:Ag} {p:List Ag} (h:CP (t::p)):∀u∈p,B7 t.Mono u.Mono<0:=(List.pairwise_cons.1 h.srt).1
theorem CP.nil:CP []:=⟨List.Pairwise.nil,fun _ h=>by cases h⟩
theorem CP.cons {t:Ag} {p:List Ag} (h:CP p) (h1:∀u∈p,B7 t.Mono u.Mono<0) (h2:Fu t.Coef) (h3:rq t.Coef≠0):CP (t::p) :=
 ⟨List.pairwise_cons.2 ⟨h1,h.srt⟩,fun u hu=>by
  rcases List.mem_cons.1 hu with rfl | hu
  .exact ⟨h2,h3⟩
  .exact h.coe u hu⟩
theorem Ts {p:List Ag} {m:A8} (h:∀t∈p,B7 t.Mono m≠0):cf p m=0:=by
 induction p with
 | nil=>rfl
 | cons t p ih=>
  simp only [cf]
  rw [if_neg (h t (by simp)),ih (fun u hu=>h u (by simp [hu]))]; grind
theorem Nf {p:List Ag} {m:A8} (h:∀t∈p,B7 m t.Mono<0):cf p m=0 :=
 Ts fun t ht e=>by have:=h t ht; rw [Rl,e] at this; omega
theorem J4 {t:Ag} {p:List Ag} (h:CP (t::p)):cf (t::p) t.Mono=rq t.Coef:=by
 simp only [cf]
 rw [if_pos (Aan _),Nf h.head]; grind
theorem Ng {t:Ag} {p:List Ag} {m:A8} (h:B7 t.Mono m≠0):cf (t::p) m=cf p m:=by
 simp only [cf]; rw [if_neg h]; grind
theorem I1 (p q:List Ag) (m:A8):cf (p++q) m=cf p m+cf q m:=by
 induction p with
 | nil=>simp only [List.nil_append,cf]; grind
 | cons t p ih=>simp only [List.cons_append,cf,ih]; grind
theorem Aap {p:List Ag} (h:CP p) {t:Ag} (ht:t∈p):cf p t.Mono=rq t.Coef:=by
 induction p with
 | nil=>cases ht
 | cons u p ih=>
  rcases List.mem_cons.1 ht with rfl | ht
  .exact J4 h
  .have:=h.head t ht
   rw [Ng (by omega)]; exact ih h.tail ht
theorem CP.ext:∀{p q:List Ag},CP p->CP q->(∀m,cf p m=cf q m)->p=q
 | [],[],_,_,_=>rfl
 | [],u::q,_,h2,h=>by
  have:=h u.Mono
  rw [J4 h2] at this
  exact ((h2.coe u (by simp)).2 this.symm).elim
 | t::p,[],h1,_,h=>by
  have:=h t.Mono
  rw [J4 h1] at this
  exact ((h1.coe t (by simp)).2 this).elim
 | t::p,u::q,h1,h2,h=>by
  have b:B7 t.Mono u.Mono=0:=by
   rcases Int.lt_trichotomy (B7 t.Mono u.Mono) 0 with k | k | k
   .have e:=h t.Mono
    rw [J4 h1,Nf (p:=u::q)] at e
    .exact ((h1.coe t (by simp)).2 e).elim
    .intro w hw
     rcases List.mem_cons.1 hw with rfl | hw
     .exact k
     .exact Mf k (h2.head w hw)
   .exact k
   .have k:=Aao.1 k
    have e:=h u.Mono
    rw [J4 h2,Nf (p:=t::p)] at e
    .exact ((h2.coe u (by simp)).2 e.symm).elim
    .intro w hw
     rcases List.mem_cons.1 hw with rfl | hw
     .exact k
     .exact Mf k (h1.head w hw)
  have c:=Ga.1 b
  have hc:t.Coef=u.Coef:=by
   refine Aal (h1.coe t (by simp)).1 (h2.coe u (by simp)).1 ?_
   have e:=h t.Mono
   rw [J4 h1,c,J4 h2] at e
   exact e
  have ht:t=u:=by cases t; cases u; simp_all
  subst ht
  congr 1
  refine CP.ext h1.tail h2.tail fun m=>?_
  by_cases e:B7 t.Mono m=0
  .rw [<-Ga.1 e,Nf h1.head,Nf h2.head]
  .have:=h m
   rwa [Ng e,Ng e] at this
theorem Amh (c:Aq):Rk c=true↔Fu c/\rq c≠0:=by
 unfold Rk Fu
 rw [C6,Aai]
 have h:(!(nv c==0))=true↔rq c≠0:=by
  have e:rq c=0↔nv c=0:=by
   unfold rq
   rw [Rat.mkRat_eq_zero (Dq c)]
   unfold sg; split <;> omega
  rw [Ne,e]; simp
 rw [h]
 exact ⟨fun ⟨a,b⟩=>⟨a.symm,b⟩,fun ⟨a,b⟩=>⟨a.symm,b⟩⟩
theorem Awp {l:List Ag} (h:∀(j:Nat) (x y:Ag),l[j]? = some x->l[j+1]? = some y->B7 x.Mono y.Mono<0):l.Pairwise ltT:=by
 induction l with
 | nil=>exact List.Pairwise.nil
 | cons t l ih=>
  have ih:=ih fun j x y hx hy=>h (j+1) x y (by simpa using hx) (by simpa using hy)
  refine List.pairwise_cons.2 ⟨?_,ih⟩
  cases l with
  | nil=>intro u hu; cases hu
  | cons v l=>
   have h0:=h 0 t v rfl rfl
   intro u hu
   rcases List.mem_cons.1 hu with rfl | hu
   .exact h0
   .exact Mf h0 ((List.pairwise_cons.1 ih).1 u hu)
theorem Aaq {data:List Az} {vars:List Ai} {res:Ai} {p:List Ag}:Ho data vars res p=true↔p.length<=1000/\CP p/\∀t∈p,Hc data vars res t.Mono=true:=by
 unfold Ho
 rw [C6,decide_eq_true_eq]
 constructor
 .rintro ⟨h1,h2⟩
  have g:∀(j:Nat) (t:Ag),p[j]? = some t->Rk t.Coef=true/\Hc data vars res t.Mono=true/\O9 p t j=true:=by
   intro j t hj
   have:=Gz h2 hj
   simp only [Pa,C6] at this
   exact ⟨this.1.1,this.1.2,this.2⟩
  refine ⟨h1,⟨Awp fun j x y hx hy=>?_,fun t ht=>?_⟩,fun t ht=>?_⟩
  .have:=(g _ _ hy).2.2
   unfold O9 at this
   rw [show j+1-1=j by omega,hx] at this
   simpa using this
  .obtain ⟨j,hj⟩:=List.getElem?_of_mem ht
   exact (Amh _).1 (g j t hj).1
  .obtain ⟨j,hj⟩:=List.getElem?_of_mem ht
   exact (g j t hj).2.1
 .rintro ⟨h1,h2,h3⟩
  refine ⟨h1,List.all_eq_true.2 fun q hq=>?_⟩
  have hq:=List.mem_zipIdx' hq
  have hj:p[q.2]? = some q.1:=(Bn hq.1).trans (congrArg some hq.2.symm)
  have c:q.1∈p:=Bo hj
  simp only [Pa,C6]
  refine ⟨⟨(Amh _).2 (h2.coe _ c),h3 _ c⟩,?_⟩
  unfold O9
  by_cases h0:q.2=0
  .rw [h0]; rfl
  .have b:q.2-1<p.length:=by omega
   rw [Bn b]
   have:=List.pairwise_iff_getElem.1 h2.srt (q.2-1) q.2 b hq.1 (by omega)
   rw [<-hq.2] at this
   simp only [Bool.or_eq_true,decide_eq_true_eq]
   exact .inr this
end Go.Ab
namespace Go.Ab
open Go
theorem Awq:∀(k:Nat) (t:A9),C4 t<=k->k<1099511627776->Qg k t=some t:=by
 intro k
 induction k with
 | zero=>intro t h; have:=Fd t; omega
 | succ k ih=>
  intro t h hk
  have c:=Fd t
  have b:=Ko t.Kids
  rw [Qg]
  refine D9 t.Kids (fun j=>((j:Int),(t.Kids.take j))) rfl (by omega) ?_ ?_
  .intro j x hj hx h1 h2 h3
   have:=J1 (Bo hx)
   simp only [h1,h2,h3,cond_true,Ad,ih x (by omega) (by omega)]
   rw [Cu (by simp; omega),Ad,Cw hx]
  .intro h1
   exact ⟨t.Kids,by simp,by cases t; rfl⟩
theorem Awr (m:A8) (b:Dl m):N3 m=some m:=by
 have g:=b.nf
 have f:=b.na
 unfold N3
 refine D9 m.Factors (fun j=>((j:Int),(m.Factors.take j))) rfl (by omega) ?_ ?_
 .intro j x hj hx h1 h2 h3
  have c:=Bo hx
  have:=b.fi x c
  simp only [h1,h2,h3,cond_true,Ad,Awq 4000000 x.Index (by omega) (by omega)]
  rw [Cu (by simp; omega),Ad,Cw hx]
 .intro h1
  refine ⟨m.Factors,by simp,?_⟩
  dsimp only
  refine D9 m.Atoms (fun j=>((j:Int),(m.Atoms.take j))) rfl (by omega) ?_ ?_
  .intro j x hj hx h1 h2 h3
   have c:=Bo hx
   have:=b.al x c
   simp only [h1,h2,h3,cond_true,Ad,Sn]
   rw [Cu (by simp; omega),Ad,Cu (by simp; omega),Ad,Cw hx]; rfl
  .intro h1
   exact ⟨m.Atoms,by simp,by cases m; rfl⟩
theorem Aws:∀(k:Nat) (t:A9),C4 t<=k->k<1099511627776->Qu k t=some t:=by
 intro k
 induction k with
 | zero=>intro t h; have:=Fd t; omega
 | succ k ih=>
  intro t h hk
  have c:=Fd t
  have b:=Ko t.Kids
  rw [Qu]
  refine D9 t.Kids (fun j=>((j:Int),(t.Kids.take j))) rfl (by omega) ?_ ?_
  .intro j x hj hx h1 h2 h3
   have:=J1 (Bo hx)
   simp only [h1,h2,h3,cond_true,Ad,ih x (by omega) (by omega)]
   rw [Cu (by simp; omega),Ad,Cw hx]
  .intro h1
   exact ⟨t.Kids,by simp,by cases t; rfl⟩
theorem Awt (m:A8) (b:Dl m):Vi m=some m:=by
 have g:=b.nf
 have f:=b.na
 unfold Vi
 refine D9 m.Factors (fun j=>((j:Int),(m.Factors.take j))) rfl (by omega) ?_ ?_
 .intro j x hj hx h1 h2 h3
  have c:=Bo hx
  have:=b.fi x c
  simp only [h1,h2,h3,cond_true,Ad,Aws 4000000 x.Index (by omega) (by omega)]
  rw [Cu (by simp; omega),Ad,Cw hx]
 .intro h1
  refine ⟨m.Factors,by simp,?_⟩
  dsimp only
  refine D9 m.Atoms (fun j=>((j:Int),(m.Atoms.take j))) rfl (by omega) ?_ ?_
  .intro j x hj hx h1 h2 h3
   have c:=Bo hx
   have:=b.al x c
   simp only [h1,h2,h3,cond_true,Ad,Sn]
   rw [Cu (by simp; omega),Ad,Cu (by simp; omega),Ad,Cw hx]; rfl
  .intro h1
   exact ⟨m.Atoms,by simp,by cases m; rfl⟩
end Go.Ab
namespace Go.Ab
open Go
structure TB (k:Nat) (t:Ag):Prop where
 co:RB k t.Coef
 mo:Dl t.Mono
theorem TSz.tb {t:Ag} (h:TSz t):TB 1048576 t:=⟨h.co,h.mo⟩
theorem TB.mono {j k:Nat} {t:Ag} (h:TB j t) (hk:j<=k):TB k t:=⟨h.co.mono hk,h.mo⟩
def zR:Aq:=B4 false 0 1
theorem Ami (k:Nat) (hk:1<=k):RB k zR:=by
 refine RB.mono (j:=1) ?_ hk
 have:zR=⟨false,[],[1]⟩:=Wh false 1
 rw [this]
 exact ⟨(fun _ h=>by cases h),(fun d h=>by simp at h; subst h; decide),by simp,by simp⟩
theorem Aar:rq zR=0:=by
 unfold zR; rw [I0 _ _ _ (by decide)]; simp [sg]
def H6 (c:Aq) (m:A8):List Ag:=if nv c=0 then [] else [⟨B4 (sv c) (nv c) (dv c),m⟩]
theorem Amj (c:Aq):rq c=0↔nv c=0:=by
 unfold rq
 rw [Rat.mkRat_eq_zero (Dq c)]
 unfold sg; split <;> omega
theorem Awu (c:Aq) (m n:A8):cf (H6 c m) n=if B7 m n=0 then rq c else 0:=by
 unfold H6
 split
 .rename_i h
  rw [(Amj c).2 h]; simp [cf]
 .simp only [cf,I0 _ _ _ (Dq c)]
  show (if B7 m n=0 then rq c else 0)+0=_
  grind
structure Aas (ch:Aq->Aq->Aq) (F:Rat->Rat->Rat):Prop where
 one:∀a b,ch a b=a\/ch a b=b
 val:∀a b,rq (ch a b)=F (rq a) (rq b)
 zero:F 0 0=0
abbrev MS:=List Ag×List Ag×List Ag
def Rm (b:Aq->Aq->Aq):List Ag->List Ag->List Ag->MS⊕List Ag
 | [],[],o=>.inr o
 | t::p,[],o=>.inl (p,[],o++H6 (b t.Coef zR) t.Mono)
 | [],u::q,o=>.inl ([],q,o++H6 (b zR u.Coef) u.Mono)
 | t::p,u::q,o=>if B7 t.Mono u.Mono<0 then .inl (p,u::q,o++H6 (b t.Coef zR) t.Mono) else if B7 t.Mono u.Mono=0 then .inl (p,q,o++H6 (b t.Coef u.Coef) t.Mono) else .inl (t::p,q,o++H6 (b zR u.Coef) u.Mono)
structure Mg (F:Rat->Rat->Rat) (k:Nat) (p q R:List Ag):Prop where
 cp:CP R
 val:∀m,cf R m=F (cf p m) (cf q m)
 mon:∀t∈R,(∃u∈p,u.Mono=t.Mono)\/(∃u∈q,u.Mono=t.Mono)
 len:R.length<=p.length+q.length
 rb:∀t∈R,RB (k+1) t.Coef
theorem Amk {k:Nat} {c:Aq} {m:A8} (hc:RB k c):(∀t∈H6 c m,t.Mono=m/\Fu t.Coef/\rq t.Coef≠0/\RB (k+1) t.Coef)/\(H6 c m).length<=1:=by
 unfold H6
 split
 .exact ⟨fun _ h=>(by cases h),by simp⟩
 .rename_i h
  refine ⟨fun t ht=>?_,by simp⟩
  simp only [List.mem_singleton] at ht
  subst ht
  exact ⟨rfl,Nd _ _ _ (Dq c),by rw [I0 _ _ _ (Dq c)]; exact fun e=>h ((Amj c).1 e),Aeh hc⟩
theorem Mg.step {F:Rat->Rat->Rat} {k:Nat} {p q g f R:List Ag} {c:Aq} {m:A8} (h:Mg F k g f R) (z:F 0 0=0) (hc:RB k c)
  (s:∀n,B7 m n≠0->cf p n=cf g n/\cf q n=cf f n) (h0:rq c=F (cf p m) (cf q m)) (l:∀u∈g,B7 m u.Mono<0) (j:∀u∈f,B7 m u.Mono<0)
  (x:(∃u∈p,u.Mono=m)\/(∃u∈q,u.Mono=m)) (hp:∀u∈g,u∈p) (hq:∀u∈f,u∈q) (B:g.length+f.length+1<=p.length+q.length):Mg F k p q (H6 c m++R):=by
 obtain ⟨i,A⟩:=Amk (m:=m) hc
 have y:∀t∈R,B7 m t.Mono<0:=by
  intro t ht
  rcases h.mon t ht with ⟨u,hu,e⟩ | ⟨u,hu,e⟩
  .rw [<-e]; exact l u hu
  .rw [<-e]; exact j u hu
 refine ⟨?_,?_,?_,?_,?_⟩
 .refine ⟨List.pairwise_append.2 ⟨?_,h.cp.srt,?_⟩,?_⟩
  .unfold H6; split
   .exact List.Pairwise.nil
   .exact List.pairwise_singleton _ _
  .intro a ha b hb
   show B7 a.Mono b.Mono<0
   rw [(i a ha).1]; exact y b hb
  .intro t ht
   rcases List.mem_append.1 ht with ht | ht
   .exact ⟨(i t ht).2.1,(i t ht).2.2.1⟩
   .exact h.cp.coe t ht
 .intro n
  rw [I1,Awu,h.val n]
  by_cases e:B7 m n=0
  .rw [if_pos e]
   have e':=Ga.1 e
   subst e'
   rw [Nf l,Nf j,z,h0]; grind
  .rw [if_neg e,(s n e).1,(s n e).2]; grind
 .intro t ht
  rcases List.mem_append.1 ht with ht | ht
  .rw [(i t ht).1]; exact x
  .rcases h.mon t ht with ⟨u,hu,e⟩ | ⟨u,hu,e⟩
   .exact .inl ⟨u,hp u hu,e⟩
   .exact .inr ⟨u,hq u hu,e⟩
 .rw [List.length_append]; have:=h.len; omega
 .intro t ht
  rcases List.mem_append.1 ht with ht | ht
  .exact (i t ht).2.2.2
  .exact h.rb t ht
theorem Awv {l:Aq->Aq->Aq} {F:Rat->Rat->Rat} (g:Aas l F) {step:MS->Option (MS⊕List Ag)} {k:Nat} (hk:1<=k) (N:Nat)
  (i:∀p q o,(∀t∈p,TB k t)->(∀t∈q,TB k t)->o.length+p.length+q.length<=N->step (p,q,o)=some (Rm l p q o)) :
  ∀(n:Nat) (p q o:List Ag),p.length+q.length<=n->CP p->CP q->(∀t∈p,TB k t)->(∀t∈q,TB k t)->o.length+p.length+q.length<=N->∃R,Am step (p,q,o)=some (o++R)/\Mg F k p q R:=by
 have f:∀{a b:Aq},RB k a->RB k b->RB k (l a b):=by
  intro a b ha hb
  rcases g.one a b with e | e <;> rw [e] <;> assumption
 have B:=Ami k hk
 intro n
 induction n with
 | zero=>
  intro p q o X h1 h2 t1 t2 D
  have Z:p = []:=List.length_eq_zero_iff.1 (by omega)
  have Y:q = []:=List.length_eq_zero_iff.1 (by omega)
  subst Z; subst Y
  refine ⟨[],?_,⟨CP.nil,fun m=>?_,fun _ h=>(by cases h),by simp,fun _ h=>(by cases h)⟩⟩
  .rw [Fe (i [] [] o t1 t2 D)]; simp
  .simp only [cf]; rw [g.zero]
 | succ n ih=>
  intro p q o X h1 h2 t1 t2 D
  have go:∀(y s:List Ag) (c:Aq) (m:A8),Rm l p q o = .inl (y,s,o++H6 c m)->RB k c->CP y->CP s->(∀t∈y,t∈p)->(∀t∈s,t∈q)->y.length+s.length+1<=p.length+q.length ->
    (∀n,B7 m n≠0->cf p n=cf y n/\cf q n=cf s n)->rq c=F (cf p m) (cf q m)->(∀u∈y,B7 m u.Mono<0)->(∀u∈s,B7 m u.Mono<0)->((∃u∈p,u.Mono=m)\/(∃u∈q,u.Mono=m))->∃R,Am step (p,q,o)=some (o++R)/\Mg F k p q R:=by
   intro y s c m U hc c1 c2 J I z S h0 G E V
   have ol:=(Amk (m:=m) hc).2
   obtain ⟨R,M,L⟩:=ih y s (o++H6 c m) (by omega) c1 c2 (fun t ht=>t1 t (J t ht)) (fun t ht=>t2 t (I t ht)) (by rw [List.length_append]; omega)
   refine ⟨H6 c m++R,?_,L.step g.zero hc S h0 G E V J I z⟩
   rw [I6 ((i p q o t1 t2 D).trans (congrArg some U)),M,List.append_assoc]
  cases p with
  | nil=>
   cases q with
   | nil=>
    refine ⟨[],?_,⟨CP.nil,fun m=>?_,fun _ h=>(by cases h),by simp,fun _ h=>(by cases h)⟩⟩
    .rw [Fe (i [] [] o t1 t2 D)]; simp
    .simp only [cf]; rw [g.zero]
   | cons u q=>
    refine go [] q (l zR u.Coef) u.Mono rfl (f B (t2 u (by simp)).co) CP.nil h2.tail (fun _ h=>h) (fun t h=>by simp [h]) (by simp) (fun n j=>⟨rfl,Ng j⟩) ?_ (fun _ h=>(by cases h)) h2.head (.inr ⟨u,by simp,rfl⟩)
    rw [g.val,Aar,J4 h2]; rfl
  | cons t p=>
   cases q with
   | nil=>
    refine go p [] (l t.Coef zR) t.Mono rfl (f (t1 t (by simp)).co B) h1.tail CP.nil (fun x h=>by simp [h]) (fun _ h=>h) (by simp) (fun n j=>⟨Ng j,rfl⟩) ?_ h1.head (fun _ h=>(by cases h)) (.inl ⟨t,by simp,rfl⟩)
    rw [g.val,Aar,J4 h1]; rfl
   | cons u q=>
    rcases Int.lt_trichotomy (B7 t.Mono u.Mono) 0 with hc | hc | hc
    .have hb:∀w∈u::q,B7 t.Mono w.Mono<0:=by
      intro w hw
      rcases List.mem_cons.1 hw with rfl | hw
      .exact hc
      .exact Mf hc (h2.head w hw)
     refine go p (u::q) (l t.Coef zR) t.Mono (by simp only [Rm]; rw [if_pos hc]) (f (t1 t (by simp)).co B) h1.tail h2 (fun x h=>by simp [h]) (fun _ h=>h) (by simp; omega) (fun n j=>⟨Ng j,rfl⟩) ?_ h1.head hb (.inl ⟨t,by simp,rfl⟩)
     rw [g.val,Aar,J4 h1,Nf hb]
    .have e:=Ga.1 hc
     refine go p q (l t.Coef u.Coef) t.Mono (by simp only [Rm]; rw [if_neg (by omega),if_pos hc]) (f (t1 t (by simp)).co (t2 u (by simp)).co) h1.tail h2.tail (fun x h=>by simp [h]) (fun x h=>by simp [h]) (by simp; omega) (fun n j=>⟨Ng j,Ng (by rw [<-e]; exact j)⟩) ?_ h1.head (by rw [e]; exact h2.head) (.inl ⟨t,by simp,rfl⟩)
     rw [g.val,J4 h1,e,J4 h2]
    .have A:=Aao.1 hc
     have hb:∀w∈t::p,B7 u.Mono w.Mono<0:=by
      intro w hw
      rcases List.mem_cons.1 hw with rfl | hw
      .exact A
      .exact Mf A (h1.head w hw)
     refine go (t::p) q (l zR u.Coef) u.Mono (by simp only [Rm]; rw [if_neg (by omega),if_neg (by omega)]) (f B (t2 u (by simp)).co) h1 h2.tail (fun _ h=>h) (fun x h=>by simp [h]) (by simp; omega) (fun n j=>⟨rfl,Ng j⟩) ?_ hb h2.head (.inr ⟨u,by simp,rfl⟩)
     rw [g.val,Aar,Nf hb,J4 h2]
end Go.Ab
namespace Go.Ab
open Go
def He (n:Int) (f:Bool):List Int:=if f then (if n<0 then [45] else []) else (if n<0 then [32,45,32] else [32,43,32])
def Ig (n:Int):List Int:=if n.natAbs=1 then [] else ti n.natAbs++[42]
def Hr (v:Int):List Int:=if v = -1 then [114,101,115] else 118::ti v
def tT (f:Bool) (t:Bw):List Int:=He t.Coef f++(Ig t.Coef++Hr t.Var)
def Gj:Bool->List Bw->Int->List Int
 | f,[],c=>if c≠0\/f=true then He c f++ti c.natAbs else []
 | f,t::ts,c=>tT f t++Gj false ts c
def Wx (l:Ce):List Int:=Gj true l.Terms l.Const
def Hs (X:List Int):Prop:=∀c m,X=c::m->c=97
theorem Hs.nil:Hs []:=by intro c m h; cases h
theorem Hs.cons (X:List Int):Hs (97::X):=by intro c m h; cases h; rfl
theorem Hs.nonum {X:List Int} (h:Hs X):J2 X:=by intro c m e; rw [h c m e]; decide
theorem Afm (n:Nat):∃c m,ti n=c::m/\48<=c/\c<=57:=by
 have b:=Ae0 (n:Int)
 cases h:ti (n:Int) with
 | nil=>exact (b h).elim
 | cons c m=>
  refine ⟨c,m,rfl,?_⟩
  have hc:c∈ti (n:Int):=by rw [h]; simp
  unfold ti at hc
  obtain ⟨x,hx,rfl⟩:=List.mem_map.1 hc
  have e:Lib.itoa (n:Int)=Lib.decDigits n:=by
   unfold Lib.itoa
   first | rfl | (rw [if_neg (by omega)]; simp) | simp
  rw [e] at hx
  have:=Z8 n n (Nat.le_refl _) x hx
  omega
theorem Aml (ts:List Bw) (c:Int) {X:List Int} (b:Hs X):J2 (Gj false ts c++X):=by
 have k:∀(n:Int) (Y:List Int),J2 (He n false++Y):=by
  intro n Y c m e
  unfold He at e
  simp only [Bool.false_eq_true,if_false] at e
  split at e <;> (cases e; decide)
 cases ts with
 | nil=>
  simp only [Gj]
  split
  .rw [List.append_assoc]; exact k _ _
  .exact b.nonum
 | cons t ts=>simp only [Gj,tT,List.append_assoc]; exact k _ _
theorem Amm {v w:Int} {R S:List Int} (c:J2 R) (b:J2 S) (h:Hr v++R=Hr w++S):v=w/\R=S:=by
 unfold Hr at h
 split at h <;> split at h
 .simp only [List.cons_append,List.nil_append,List.cons.injEq,true_and] at h
  exact ⟨by omega,h⟩
 .simp at h
 .simp at h
 .simp only [List.cons_append,List.cons.injEq,true_and] at h
  obtain ⟨g,f⟩:=Na _ _ _ _ (Gr v) (Gr w) c b h
  exact ⟨Ri g,f⟩
theorem Afn (v:Int):∃c m,Hr v=c::m/\(c=114\/c=118):=by
 unfold Hr
 split
 .exact ⟨_,_,rfl,.inl rfl⟩
 .exact ⟨_,_,rfl,.inr rfl⟩
theorem Afo (X:List Int):J2 (42::X):=by intro c m e; cases e; decide
theorem Aww {a b v w:Int} {R S:List Int} (i:J2 R) (g:J2 S) (h:Ig a++(Hr v++R)=Ig b++(Hr w++S)):a.natAbs=b.natAbs/\v=w/\R=S:=by
 unfold Ig at h
 have bad:∀(n:Nat) (u:Int) (X Y:List Int),Hr u++X=ti n++[42]++Y->False:=by
  intro n u X Y e
  obtain ⟨c,m,f,q⟩:=Afn u
  obtain ⟨d,k,l,j⟩:=Afm n
  rw [f,l] at e
  simp only [List.cons_append,List.cons.injEq] at e
  omega
 split at h <;> split at h
 .rename_i h1 h2
  simp only [List.nil_append] at h
  exact ⟨h1.trans h2.symm,Amm i g h⟩
 .exact (bad _ _ _ _ h).elim
 .exact (bad _ _ _ _ h.symm).elim
 .simp only [List.append_assoc,List.cons_append,List.nil_append] at h
  obtain ⟨f,q⟩:=Na _ _ _ _ (Gr _) (Gr _) (Afo _) (Afo _) h
  have l:=Ri f
  obtain ⟨j,s⟩:=Amm i g (List.cons.inj q).2
  exact ⟨by omega,j,s⟩
def NoM (P:List Int):Prop:=∃c m,P=c::m/\c≠45
theorem NoM.ti (n:Nat) (X:List Int):NoM (Go.Ab.ti n++X):=by
 obtain ⟨c,m,e,h⟩:=Afm n
 exact ⟨c,m++X,by rw [e]; rfl,by omega⟩
theorem NoM.pT (a v:Int) (X:List Int):NoM (Ig a++(Hr v++X)):=by
 unfold Ig
 split
 .obtain ⟨c,m,e,h⟩:=Afn v
  exact ⟨c,m++X,by rw [e]; rfl,by omega⟩
 .rw [List.append_assoc]; exact NoM.ti _ _
theorem Afp {a b:Int} {f:Bool} {P Q:List Int} (i:NoM P) (g:NoM Q) (h:He a f++P=He b f++Q):(a<0↔b<0)/\P=Q:=by
 obtain ⟨c,m,rfl,hc⟩:=i
 obtain ⟨d,k,rfl,hd⟩:=g
 unfold He at h
 cases f with
 | true=>
  simp only [if_true] at h
  split at h <;> split at h
  .rename_i h1 h2; exact ⟨by simp [h1,h2],by simpa using h⟩
  .simp at h; exact (hd h.1.symm).elim
  .simp at h; exact (hc h.1).elim
  .rename_i h1 h2; exact ⟨by simp [h1,h2],by simpa using h⟩
 | false=>
  simp only [Bool.false_eq_true,if_false] at h
  split at h <;> split at h
  .rename_i h1 h2; exact ⟨by simp [h1,h2],by simpa using h⟩
  .simp at h
  .simp at h
  .rename_i h1 h2; exact ⟨by simp [h1,h2],by simpa using h⟩
theorem Afq {n:Int} {P X:List Int} (b:Hs X) (h:He n false++P=X):False:=by
 unfold He at h
 simp only [Bool.false_eq_true,if_false] at h
 split at h
 .have:=b _ _ h.symm; omega
 .have:=b _ _ h.symm; omega
theorem Amn {c d:Int} {f:Bool} {u:Bw} {m:List Bw} {X Y:List Int} (b:Hs X) (k:Hs Y) (h:Gj f [] c++X=Gj f (u::m) d++Y):False:=by
 simp only [Gj,tT] at h
 split at h
 .simp only [List.append_assoc] at h
  obtain ⟨_,e⟩:=Afp (NoM.ti _ _) (NoM.pT _ _ _) h
  unfold Ig at e
  split at e
  .obtain ⟨q,m1,j,h1⟩:=Afn u.Var
   obtain ⟨l,m2,g,h2⟩:=Afm c.natAbs
   rw [j,g] at e
   simp only [List.nil_append,List.cons_append,List.cons.injEq] at e
   omega
  .simp only [List.append_assoc,List.cons_append,List.nil_append] at e
   obtain ⟨_,g⟩:=Na _ _ _ _ (Gr _) (Gr _) b.nonum (Afo _) e
   have:=b _ _ g; omega
 .rename_i i
  have hf:f=false:=by cases f with | true=>simp at i | false=>rfl
  subst hf
  simp only [List.nil_append,List.append_assoc] at h
  exact Afq b h.symm
theorem Amo:∀(l m:List Bw) (f:Bool) (c d:Int) (X Y:List Int),Hs X->Hs Y->Gj f l c++X=Gj f m d++Y->l=m/\c=d/\X=Y
 | [],[],f,c,d,X,Y,g,b,h=>by
  simp only [Gj] at h
  split at h <;> split at h
  .simp only [List.append_assoc] at h
   obtain ⟨x,q⟩:=Afp (NoM.ti _ _) (NoM.ti _ _) h
   obtain ⟨j,i⟩:=Na _ _ _ _ (Gr _) (Gr _) g.nonum b.nonum q
   have s:=Ri j
   exact ⟨rfl,by omega,i⟩
  .rename_i h1 h2
   have hf:f=false:=by cases f with | true=>simp at h2 | false=>rfl
   subst hf
   simp only [List.append_assoc,List.nil_append] at h
   exact (Afq b h).elim
  .rename_i h1 h2
   have hf:f=false:=by cases f with | true=>simp at h1 | false=>rfl
   subst hf
   simp only [List.append_assoc,List.nil_append] at h
   exact (Afq g h.symm).elim
  .rename_i h1 h2
   refine ⟨rfl,?_,by simpa using h⟩
   have a1:c=0:=by by_cases k:c=0; exact k; exact (h1 (.inl k)).elim
   have a2:d=0:=by by_cases k:d=0; exact k; exact (h2 (.inl k)).elim
   omega
 | [],u::m,f,c,d,X,Y,g,b,h=>(Amn g b h).elim
 | t::l,[],f,c,d,X,Y,g,b,h=>(Amn b g h.symm).elim
 | t::l,u::m,f,c,d,X,Y,g,b,h=>by
  simp only [Gj,tT,List.append_assoc] at h
  obtain ⟨x,q⟩:=Afp (NoM.pT _ _ _) (NoM.pT _ _ _) h
  obtain ⟨j,i,s⟩:=Aww (Aml _ _ g) (Aml _ _ b) q
  obtain ⟨A,z,y⟩:=Amo l m false c d X Y g b s
  have:t=u:=by
   cases t; cases u
   simp only at x j i
   subst i
   congr 1; omega
  exact ⟨by rw [this,A],z,y⟩
def Gb (a:B5):List Int:=97::(ti a.Deg++58::Wx a.Lin)
def Fr (f:Cj):List Int:=Ie f.Var f.Index
def Wy (m:A8):List Int:=m.Factors.flatMap Fr++m.Atoms.flatMap Gb
theorem Aat (l:List B5):Hs (l.flatMap Gb):=by
 cases l with
 | nil=>exact Hs.nil
 | cons a l=>simp only [List.flatMap_cons,Gb,List.cons_append]; exact Hs.cons _
theorem Aau (X:List Int):J2 (58::X):=by intro c m e; cases e; decide
theorem Amp:∀(l m:List B5),l.flatMap Gb=m.flatMap Gb->l=m
 | [],[],_=>rfl
 | [],b::m,h=>by simp [Gb] at h
 | a::l,[],h=>by simp [Gb] at h
 | a::l,b::m,h=>by
  simp only [List.flatMap_cons,Gb,List.cons_append,List.append_assoc,List.cons.injEq,true_and] at h
  obtain ⟨s,q⟩:=Na _ _ _ _ (Gr _) (Gr _) (Aau _) (Aau _) h
  have k:=(List.cons.inj q).2
  obtain ⟨g,f,j⟩:=Amo _ _ true _ _ _ _ (Aat l) (Aat m) k
  have i:=Amp l m j
  have c:=Ri s
  obtain ⟨⟨x,t1⟩,d1⟩:=a
  obtain ⟨⟨u,t2⟩,d2⟩:=b
  simp only at g f c
  rw [g,f,c,i]
theorem Amq (l:List Cj) {X:List Int} (b:Hs X):O5 (l.flatMap Fr++X):=by
 cases l with
 | nil=>intro c m e; rw [b c m e]; exact ⟨by decide,by decide⟩
 | cons a l=>
  intro c m e
  simp only [List.flatMap_cons,Fr,Ie,List.cons_append] at e
  cases e; exact ⟨by decide,by decide⟩
theorem Amr:∀(l m:List Cj) (X Y:List Int),Hs X->Hs Y->l.flatMap Fr++X=m.flatMap Fr++Y->l=m/\X=Y
 | [],[],X,Y,_,_,h=>⟨rfl,by simpa using h⟩
 | [],b::m,X,Y,f,_,h=>by
  simp only [List.flatMap_cons,List.flatMap_nil,Fr,Ie,List.cons_append,List.nil_append] at h
  have:=f _ _ h; omega
 | a::l,[],X,Y,_,c,h=>by
  simp only [List.flatMap_cons,List.flatMap_nil,Fr,Ie,List.cons_append,List.nil_append] at h
  have:=c _ _ h.symm; omega
 | a::l,b::m,X,Y,f,c,h=>by
  simp only [List.flatMap_cons,Fr,Ie,List.cons_append,List.append_assoc,List.cons.injEq,true_and] at h
  obtain ⟨x,u⟩:=Na _ _ _ _ (Gr _) (Gr _) (Aau _) (Aau _) h
  have s:=(List.cons.inj u).2
  obtain ⟨i,q⟩:=Ae2 _ _ _ _ (Amq l f) (Amq m c) s
  obtain ⟨k,j⟩:=Amr l m X Y f c q
  have g:=Ri x
  obtain ⟨y,i1⟩:=a
  obtain ⟨v2,i2⟩:=b
  simp only at i g
  exact ⟨by rw [i,g,k],j⟩
theorem Awx {m n:A8} (h:Wy m=Wy n):m=n:=by
 obtain ⟨c,f⟩:=Amr _ _ _ _ (Aat _) (Aat _) h
 have b:=Amp _ _ f
 cases m; cases n
 simp only at c b
 rw [c,b]
def By (l:List Int):Prop:=∀c∈l,0<=c/\c<256
theorem By.app {l m:List Int} (h:By l) (h':By m):By (l++m):=by
 intro c hc
 rcases List.mem_append.1 hc with k | k
 .exact h c k
 .exact h' c k
theorem By.ti (n:Int):By (Go.Ab.ti n):=by
 intro c h
 have:=Gr n c h
 simp only [M9,Bool.or_eq_true,C6,beq_iff_eq,decide_eq_true_eq] at this
 omega
theorem By.cons {c:Int} {l:List Int} (hc:0<=c/\c<256) (h:By l):By (c::l):=by
 intro d hd
 rcases List.mem_cons.1 hd with rfl | k
 .exact hc
 .exact h d k
theorem By.nil:By []:=fun c h=>by cases h
theorem By.sgn (n:Int) (f:Bool):By (He n f):=by
 unfold He
 split <;> split <;> intro c hc <;> simp at hc <;> omega
theorem By.mag (n:Int):By (Ig n):=by
 unfold Ig
 split
 .exact By.nil
 .exact (By.ti _).app (By.cons (by omega) By.nil)
theorem By.var (n:Int):By (Hr n):=by
 unfold Hr
 split
 .intro c hc; simp at hc; omega
 .exact By.cons (by omega) (By.ti _)
theorem By.tT (f:Bool) (t:Bw):By (tT f t):=(By.sgn _ _).app ((By.mag _).app (By.var _))
theorem By.lins:∀(l:List Bw) (f:Bool) (c:Int),By (Gj f l c)
 | [],f,c=>by
  simp only [Gj]
  split
  .exact (By.sgn _ _).app (By.ti _)
  .exact By.nil
 | t::l,f,c=>(By.tT f t).app (By.lins l false c)
theorem By.at (a:B5):By (Gb a):=By.cons (by omega) ((By.ti _).app (By.cons (by omega) (By.lins _ _ _)))
theorem By.flat {α:Type} {g:α->List Int} (h:∀a,By (g a)) (l:List α):By (l.flatMap g):=by
 intro c hc
 obtain ⟨a,_,k⟩:=List.mem_flatMap.1 hc
 exact h a c k
theorem By.fac (f:Cj):By (Fr f):=Aab f.Var f.Index
theorem By.mono (m:A8):By (Wy m):=(By.flat By.fac _).app (By.flat By.at _)
def bs (l:List Int):ByteArray:=⟨(Dy l).toArray⟩
theorem Awy {l m:List Int} (c:By l) (b:By m) (h:bs l=bs m):l=m:=by
 unfold bs at h
 have h1:(Dy l).toArray=(Dy m).toArray:=by injection h
 have h2:Dy l=Dy m:=by simpa using congrArg Array.toList h1
 exact Ae5 _ _ c b h2
def Jm (m:A8):ByteArray:=bs (Wy m)
theorem Ams {m n:A8} (h:Jm m=Jm n):m=n:=Awx (Awy (By.mono m) (By.mono n) h)
theorem Aav (l:List Int):(bs l).size=l.length:=by unfold bs Dy; simp [ByteArray.size]
theorem Amt {l:List Int} (h:By l):K2 (bs l)=l:=by
 unfold K2 bs Dy
 simp only [List.map_map]
 conv=>rhs; rw [<-List.map_id l]
 refine List.map_congr_left fun c hc=>?_
 have:=h c hc
 simp only [Function.comp,UInt8.toNat_ofNat',id]
 omega
theorem Awz (l m:List Int):bs l++bs m=bs (l++m):=by
 apply ByteArray.ext
 rw [ByteArray.data_append]
 unfold bs Dy
 simp
theorem Rn {l m:List Int} (h:l.length+m.length<=9223372036854775807):Ep (bs l) (bs m)=some (bs (l++m)):=by
 unfold Ep
 rw [if_pos (by rw [Aav,Aav]; exact h),Awz]
theorem Aaw {n:Int} (h:I64 n):Mq n=some (bs (ti n)):=by
 rw [Ae4 h]
 congr 2
 congr 1
 unfold Dy ti
 rw [List.map_map]
 conv=>lhs; rw [<-List.map_id (Lib.itoa n)]
 refine List.map_congr_left fun c _=>?_
 simp [Function.comp]
end Go.Ab
namespace Go.Ab
open Go
theorem Aax {S E R α:Type} {step:S->Option (S⊕E)} {s0:S} {J:E->Option R} {r:R} (c:α) (xs:List α) (b:Nat->S) (h0:s0=b 0) (h:xs.length<2305843009213693952)
  (f:∀(j:Nat) (x:α),xs[j]? = some x->decide (((j+1:Nat):Int)<((c::xs).length:Int))=true->Af (c::xs) ((j+1:Nat):Int)=some x->Ac (((j+1:Nat):Int)+1)=((j+1+1:Nat):Int)->step (b j)=some (.inl (b (j+1))))
  (g:decide (((xs.length+1:Nat):Int)<((c::xs).length:Int))=false->∃e,step (b xs.length)=some (.inr e)/\J e=some r):(Am step s0).bind J=some r:=by
 refine L6 xs.length b h0 (fun j hj=>?_) (g (by simp))
 have hx:xs[j]? = some xs[j]:=Bn hj
 exact f j _ hx (Ak (by simp only [List.length_cons]; omega)) (Ch rfl (by simp)) (Cz (n:=xs.length+1) (by omega) (by omega))
theorem bnd {α β:Type} {X:Option α} {a:α} {K:α->Option β} {r:Option β} (h:X=some a) (k:K a=r):X.bind K=r:=by rw [h]; exact k
theorem Lp {l b:List Int} (c:By l) (h:b.length+l.length<=140737488355328):Fw (bs l) b=some ((l.length:Int),b++l):=by
 simp only [Fw,Ta,Ad,Amt c,Aav]
 rw [Cu (by omega)]; rfl
theorem Tt {l b:List Int} (c:By l) (h:b.length+l.length<=140737488355328):Is (bs l) b=some ((l.length:Int),b++l):=by
 simp only [Is,Vr,Ad,Amt c,Aav]
 rw [Cu (by omega)]; rfl
theorem Tu {b:List Int} (hb:By b):Kf b=some (bs b):=by
 exact if_pos hb
theorem Aw0 {b:List Int} (hb:By b):Y8 b=some (bs b):=Tu hb
theorem Afr (n:Int) (h : -1048576<=n/\n<=1048576):(Ig n).length<=22:=by
 unfold Ig
 split
 .simp
 .have:=Lm (n:=(n.natAbs:Int)) (by unfold I64; omega)
  simp; omega
theorem Aay (n:Int) (f:Bool):(He n f).length<=3:=by unfold He; split <;> split <;> simp
theorem Aw1 {v:Int} (h : -1<=v/\v<3000):(Hr v).length<=22:=by
 unfold Hr
 split
 .simp
 .have:=Lm (n:=v) (by unfold I64; omega)
  simp; omega
structure Amu (a:Ce):Prop where
 c : -1048576<=a.Const/\a.Const<=1048576
 n:a.Terms.length<=16
 t:∀t∈a.Terms,(-1<=t.Var/\t.Var<3000)/\(-1048576<=t.Coef/\t.Coef<=1048576)
theorem Afs {a:Ce} (h:Fh a=true):Amu a:=by
 unfold Fh at h
 simp only [C6,decide_eq_true_eq] at h
 refine ⟨⟨h.1.1,h.1.2.1⟩,h.1.2.2,fun t ht=>?_⟩
 obtain ⟨j,hj⟩:=List.getElem?_of_mem ht
 have:=Gz h.2 hj
 simp only [Lo,C6,decide_eq_true_eq] at this
 omega
theorem Aft {t:Bw} (f:Bool) (h:(-1<=t.Var/\t.Var<3000)/\(-1048576<=t.Coef/\t.Coef<=1048576)):(tT f t).length<=47:=by
 have:=Aay t.Coef f
 have:=Afr t.Coef h.2
 have:=Aw1 h.1
 unfold tT
 simp only [List.length_append]; omega
theorem Amv {n:Int} (h : -1048576<=n/\n<=1048576):(if Ac (0-n)>n then Ac (0-n) else n)=(n.natAbs:Int):=by
 rw [Ac,Bz (by omega) (by omega)]; split <;> omega
theorem c45:ByteArray.mk #[45]=bs [45]:=rfl
theorem Aw2:ByteArray.mk #[32,45,32]=bs [32,45,32]:=rfl
theorem Aw3:ByteArray.mk #[32,43,32]=bs [32,43,32]:=rfl
theorem c42:ByteArray.mk #[42]=bs [42]:=rfl
theorem Amw:ByteArray.mk #[118]=bs [118]:=rfl
theorem c97:ByteArray.mk #[97]=bs [97]:=rfl
theorem c58:ByteArray.mk #[58]=bs [58]:=rfl
theorem Amx:ByteArray.mk #[114,101,115]=bs [114,101,115]:=rfl
theorem Amy:By [45]:=By.cons (by omega) By.nil
theorem by3 (a b c:Int) (ha:0<=a/\a<256) (hb:0<=b/\b<256) (hc:0<=c/\c<256):By [a,b,c]:=By.cons ha (By.cons hb (By.cons hc By.nil))
theorem Amz {n:Int} (f:Bool) {b:List Int} (c : -1048576<=n/\n<=1048576) (hb:b.length<=1099511627776):Wb n f b=some ((n.natAbs:Int),b++He n f):=by
 unfold Wb He
 rw [Amv c,c45,Aw2,Aw3]
 rw [Lp Amy (by simp; omega),Lp (by3 _ _ _ (by omega) (by omega) (by omega)) (by simp; omega),Lp (by3 _ _ _ (by omega) (by omega) (by omega)) (by simp; omega)]
 by_cases h:n<0
 .rw [Ak h,if_pos h,if_pos h]; cases f <;> rfl
 .rw [Al h,if_neg h,if_neg h]; cases f <;> simp
theorem Aw4 {n:Int} {b:List Int} (c : -1048576<=n/\n<=1048576) (hb:b.length<=1099511627776):Qt n true b=some (if n<0 then .inl ((n.natAbs:Int),b++[45]) else .inr ((n.natAbs:Int),b)):=by
 unfold Qt
 rw [Amv c,c45,Tt Amy (by simp; omega)]
 by_cases h:n<0
 .rw [Ak h,if_pos h]; rfl
 .rw [Al h,if_neg h]; rfl
theorem Afu {n:Nat} (h:n<=1048576):Lh (n:Int) 10=some (bs (ti n)):=by
 unfold Lh Ya
 exact Aaw (by unfold I64; omega)
theorem Aaz {n:Nat} (h:n<=1048576):(ti (n:Int)).length<=21:=Lm (by unfold I64; omega)
theorem Am0 {n:Int} {b:List Int} (c : -1048576<=n/\n<=1048576) (hb:b.length<=1099511627776) :
  (bif ((n.natAbs:Int) != (1:Int)) then (Lh (n.natAbs:Int) 10).bind fun v=>(Ep v (ByteArray.mk #[42])).bind fun u=>(Fw u b).bind fun w=>some w.2 else some b)=some (b++Ig n):=by
 have ht:=Aaz (n:=n.natAbs) (by omega)
 unfold Ig
 by_cases h:n.natAbs=1
 .rw [De (by omega),if_pos h]; simp
 .rw [Db (by omega),if_neg h,Afu (by omega),c42]
  simp only [cond_true,Ad]
  rw [Rn (by simp; omega),Ad,Lp ((By.ti _).app (By.cons (by omega) By.nil)) (by simp; omega)]; rfl
theorem Afv {v:Int} {b:List Int} {R:Type} (K:List Int->Option R) (c : -1<=v/\v<3000) (hb:b.length<=1099511627776) :
  (bif (v==(-1)) then (Fw (ByteArray.mk #[114,101,115]) b).bind fun w=>K w.2 else (G4 v).bind fun x=>(Ep (ByteArray.mk #[118]) x).bind fun y=>(Fw y b).bind fun w=>K w.2)=K (b++Hr v):=by
 have ht:=Lm (n:=v) (by unfold I64; omega)
 unfold Hr
 by_cases h:v = -1
 .rw [D8 h,if_pos h,Amx,Lp (by3 _ _ _ (by omega) (by omega) (by omega)) (by simp; omega)]; rfl
 .rw [Co h,if_neg h,Amw]
  simp only [cond_false,G4]
  rw [Aaw (by unfold I64; omega),Ad,Rn (by simp; omega),Ad]
  rw [show [118]++ti v=118::ti v from rfl,Lp (By.cons (by omega) (By.ti _)) (by simp; omega)]; rfl
theorem Aa0 {α:Type} {g:α->List Int} {l:List α} {j:Nat} {x:α} (h:l[j]? = some x):(l.take (j+1)).flatMap g=(l.take j).flatMap g++g x:=by
 rw [Cw h]; simp
theorem Am1 {α:Type} {g:α->List Int} {n:Nat}:∀(l:List α),(∀a∈l,(g a).length<=n)->(l.flatMap g).length<=l.length*n
 | [],_=>by simp
 | a::l,h=>by
  have h1:=h a (by simp)
  have h2:=Am1 l fun b hb=>h b (by simp [hb])
  simp only [List.flatMap_cons,List.length_append,List.length_cons,Nat.add_mul]; omega
theorem Afw {α:Type} {g:α->List Int} {n:Nat} (l:List α) (j:Nat) (h:∀a∈l,(g a).length<=n):((l.take j).flatMap g).length<=l.length*n:=by
 refine Nat.le_trans (Am1 _ fun a ha=>h a (List.mem_of_mem_take ha)) (Nat.mul_le_mul_right _ ?_)
 rw [List.length_take]; omega
theorem Am2:∀(ts:List Bw) (c:Int),Gj false ts c=ts.flatMap (tT false)++Gj false [] c
 | [],c=>by simp
 | t::ts,c=>by
  have:=Am2 ts c
  simp only [List.flatMap_cons,List.append_assoc,<-this]; rfl
theorem Aw5 {a:Ce} (h:Fh a=true) (B:a.Terms≠[]):M3 a=some (bs (Wx a)):=by
 have z:=Afs h
 unfold M3
 rw [Alw,h]
 obtain ⟨c,l⟩:=a
 cases l with
 | nil=>exact (B rfl).elim
 | cons t ts=>
  have hc : -1048576<=c/\c<=1048576:=z.c
  have M:ts.length<=15:=by have:=z.n; simp at this; omega
  have ht:(-1<=t.Var/\t.Var<3000)/\(-1048576<=t.Coef/\t.Coef<=1048576):=z.t t (by simp)
  have s:∀u∈ts,(-1<=u.Var/\u.Var<3000)/\(-1048576<=u.Coef/\u.Coef<=1048576):=fun u hu=>z.t u (by simp [hu])
  have x:=fun j=>Afw (g:=tT false) (n:=47) ts j (fun u hu=>Aft false (s u hu))
  have J:=Aft true ht
  simp only [Ad,Dj,cond_false]
  rw [Ak (by simp only [List.length_cons]; omega),cond_true]
  refine bnd (a:=((t.Coef.natAbs:Int),tT true t)) ?_ ?_
  .rw [show Af (t::ts) 0=some t from rfl,Ad,Aw4 ht.2 (by simp),Ad]
   have G:=Lm (n:=t.Var) (by unfold I64; omega)
   have I:=Aaz (n:=t.Coef.natAbs) (by omega)
   have D:=Afr t.Coef ht.2
   by_cases q:t.Coef<0
   .rw [if_pos q]
    simp only
    rw [Am0 ht.2 (by simp),Ad]
    refine (Afv (fun b=>some ((t.Coef.natAbs:Int),b)) ht.1 (by simp; omega)).trans ?_
    simp [tT,He,q]
   .rw [if_neg q]
    simp only
    by_cases h1:t.Coef.natAbs=1
    .rw [De (by omega)]
     simp only [cond_false]
     by_cases y:t.Var = -1
     .rw [D8 y,Amx,cond_true,Tt (by3 _ _ _ (by omega) (by omega) (by omega)) (by simp)]
      simp [tT,He,q,Ig,h1,Hr,y]
     .rw [Co y,cond_false,Amw,G4,Aaw (by unfold I64; omega),Ad,Rn (by simp; omega),Ad,show [118]++ti t.Var=118::ti t.Var from rfl,
       Tt (By.cons (by omega) (By.ti _)) (by simp; omega)]
      simp [tT,He,q,Ig,h1,Hr,y]
    .rw [Db (by omega)]
     simp only [cond_true]
     rw [Afu (by omega),Ad,c42,Rn (by simp; omega),Ad,Tt ((By.ti _).app (By.cons (by omega) By.nil)) (by simp; omega),Ad]
     refine (Afv (fun b=>some ((t.Coef.natAbs:Int),b)) ht.1 (by simp; omega)).trans ?_
     simp [tT,He,q,Ig,h1]
  .simp only
   refine Aax t ts (fun j=>(((j+1:Nat):Int),tT true t++(ts.take j).flatMap (tT false))) (by simp [Ac,Bz]) (by omega) ?_ ?_
   .intro j u hu h1 h2 h3
    have f:=s u (Bo hu)
    have:=x j
    have D:=Afr u.Coef f.2
    have A:=Aay u.Coef false
    simp only [h1,h2,h3,cond_true,Ad]
    rw [Co (by omega),Amz false f.2 (by simp only [List.length_append]; omega),Ad,Am0 f.2 (by simp only [List.length_append]; omega),Ad]
    refine (Afv (R:=(Int×List Int)⊕List Int) (fun b=>some (.inl (((j+1+1:Nat):Int),b))) f.1 (by simp only [List.length_append]; omega)).trans ?_
    rw [Aa0 hu]
    simp [tT]
   .intro h1
    have h2:=x ts.length
    rw [List.take_length] at h2
    refine ⟨tT true t++ts.flatMap (tT false),by simp only [h1,cond_false,List.take_length],?_⟩
    have E:By (tT true t++ts.flatMap (tT false)):=(By.tT _ _).app (By.flat (By.tT _) _)
    have e:Wx ⟨c,t::ts⟩=tT true t++ts.flatMap (tT false)++Gj false [] c:=by
     have:=Am2 ts c
     rw [List.append_assoc,<-this]; rfl
    rw [e]
    have k:((((t::ts).length:Nat):Int)==(0:Int))=false:=Co (by simp only [List.length_cons]; omega)
    by_cases i:c=0
    .simp only [De i,cond_false,k,Ad]
     rw [Tu E]
     simp [Gj,i]
    .have L:=Aaz (n:=c.natAbs) (by omega)
     have A:=Aay c false
     simp only [Db i,cond_true,Ad,k]
     rw [Amz false hc (by simp only [List.length_append]; omega),Ad,Afu (by omega),Ad,Lp (By.ti _) (by simp only [List.length_append]; omega),Ad,
      Tu ((E.app (By.sgn _ _)).app (By.ti _))]
     simp [Gj,i]
theorem Am3 {a:Ce} (h:Amu a):(Wx a).length<=1024:=by
 have key:∀(l:List Bw) (f:Bool),(∀t∈l,(-1<=t.Var/\t.Var<3000)/\(-1048576<=t.Coef/\t.Coef<=1048576))->(Gj f l a.Const).length<=47*l.length+24:=by
  intro l
  induction l with
  | nil=>
   intro f _
   have h1:=Aaz (n:=a.Const.natAbs) (by have:=h.c; omega)
   have h2:=Aay a.Const f
   simp only [Gj]
   split <;> simp <;> omega
  | cons t l ih=>
   intro f b
   have h1:=Aft f (b t (by simp))
   have h2:=ih false fun u hu=>b u (by simp [hu])
   simp only [Gj,List.length_append,List.length_cons]; omega
 have:=key a.Terms true h.t
 have:=h.n
 unfold Wx; omega
structure CMo (m:A8):Prop where
 sz:Dl m
 nf:m.Factors.length<=6
 na:m.Atoms.length<=6
 al:∀a∈m.Atoms,Fh a.Lin=true/\a.Lin.Terms≠[]/\1<=a.Deg/\a.Deg<=6
theorem Aa1 {R:Type} {a:B5} (K:ByteArray->Option R) (h:Fh a.Lin=true/\a.Lin.Terms≠[]/\1<=a.Deg/\a.Deg<=6) :
  ((G4 a.Deg).bind fun u=>(Ep (ByteArray.mk #[97]) u).bind fun v=>(Ep v (ByteArray.mk #[58])).bind fun w=>(M3 a.Lin).bind fun x=>(Ep w x).bind fun y=>K y)=K (bs (Gb a)):=by
 have h1:=Lm (n:=a.Deg) (by unfold I64; omega)
 have h2:=Am3 (Afs h.1)
 rw [G4,Aaw (by unfold I64; omega),Ad,c97,Rn (by simp; omega),Ad,c58,Rn (by simp; omega),Ad,Aw5 h.1 h.2.1,Ad,Rn (by simp; omega),Ad]
 simp [Gb]
theorem Wz {a:B5} (h:Fh a.Lin=true/\a.Lin.Terms≠[]/\1<=a.Deg/\a.Deg<=6):(Gb a).length<=1100:=by
 have h1:=Lm (n:=a.Deg) (by unfold I64; omega)
 have h2:=Am3 (Afs h.1)
 simp [Gb]; omega
theorem Afx {f:Cj} (h:C4 f.Index<=1048576) (b:iR f.Index/\I64 f.Var):(Fr f).length<=33554432:=by
 have h1:=Lm b.2
 have h2:=Ae3 f.Index b.1
 simp [Fr,Ie]; omega
theorem Aw6 {m:A8} (h:CMo m):U3 m=some (Jm m):=by
 obtain ⟨fs,c⟩:=m
 have k:∀f∈fs,C4 f.Index<=1048576/\iR f.Index/\I64 f.Var:=fun f hf=>⟨h.sz.fi f hf,h.sz.fr f hf⟩
 have s:∀a∈c,Fh a.Lin=true/\a.Lin.Terms≠[]/\1<=a.Deg/\a.Deg<=6:=h.al
 have nf:fs.length<=6:=h.nf
 have na:c.length<=6:=h.na
 have z:=fun (l:List Cj) (u:∀f∈l,f∈fs) (j:Nat)=>Afw (g:=Fr) (n:=33554432) l j (fun f hf=>Afx (k f (u f hf)).1 (k f (u f hf)).2)
 have A:=fun (l:List B5) (u:∀a∈l,a∈c) (j:Nat)=>Afw (g:=Gb) (n:=1100) l j (fun a ha=>Wz (s a (u a ha)))
 have L:∀l:List Cj,By (l.flatMap Fr):=fun l=>By.flat By.fac l
 have E:∀l:List B5,By (l.flatMap Gb):=fun l=>By.flat By.at l
 have key:∀f:Cj,f∈fs->N7 f.Var f.Index=some (bs (Fr f)):=fun f hf=>Alp f.Var f.Index (k f hf).2.2 (k f hf).2.1 (k f hf).1
 unfold U3 Jm Wy
 cases fs with
 | nil=>
  rw [Al (by simp),cond_false]
  cases c with
  | nil=>
   rw [Al (by simp),cond_false]
   rw [Aw0 By.nil]; rfl
  | cons a c=>
   have ha:=s a (by simp)
   have x:=Wz ha
   rw [Ak (by simp only [List.length_cons]; omega),cond_true,show Af (a::c) 0=some a from rfl,Ad]
   refine (Aa1 _ ha).trans ?_
   rw [Tt (By.at a) (by simp; omega),Ad]
   refine Aax a c (fun j=>(((j+1:Nat):Int),[]++Gb a++(c.take j).flatMap Gb)) (by simp [Ac,Bz]) (by simp at na; omega) ?_ ?_
   .intro j b hb h1 h2 h3
    have i:=s b (by simp [Bo hb])
    have:=Wz i
    have:=A c (fun b hb=>by simp [hb]) j
    simp at na
    simp only [h1,h2,h3,cond_true,Ad]
    refine (Aa1 _ i).trans ?_
    rw [Lp (By.at b) (by simp only [List.length_append,List.length_nil]; omega),Ad,Aa0 hb]
    simp
   .intro h1
    refine ⟨[]++Gb a++c.flatMap Gb,by simp only [h1,cond_false,List.take_length],?_⟩
    dsimp only
    rw [Tu ((By.nil.app (By.at a)).app (E c))]
    simp
 | cons f fs=>
  have hf:=k f (by simp)
  have J:=Afx hf.1 hf.2
  rw [Ak (by simp only [List.length_cons]; omega),cond_true,show Af (f::fs) 0=some f from rfl,Ad,key f (by simp),Ad,Tt (By.fac f) (by simp; omega),Ad]
  refine Aax f fs (fun j=>(((j+1:Nat):Int),[]++Fr f++(fs.take j).flatMap Fr)) (by simp [Ac,Bz]) (by simp at nf; omega) ?_ ?_
  .intro j g D h1 h2 h3
   have q:g∈f::fs:=by simp [Bo D]
   have:=Afx (k g q).1 (k g q).2
   have:=z fs (fun b hb=>by simp [hb]) j
   simp at nf
   simp only [h1,h2,h3,cond_true,Ad]
   rw [key g q,Ad,Lp (By.fac g) (by simp only [List.length_append,List.length_nil]; omega),Ad,Aa0 D]
   simp
  .intro h1
   have G:=z fs (fun b hb=>by simp [hb]) fs.length
   rw [List.take_length] at G
   simp at nf
   refine ⟨[]++Fr f++fs.flatMap Fr,by simp only [h1,cond_false,List.take_length],?_⟩
   have y:By ([]++Fr f++fs.flatMap Fr):=(By.nil.app (By.fac f)).app (L fs)
   have I:([]++Fr f++fs.flatMap Fr).length<=234881024:=by simp only [List.length_append,List.length_nil]; omega
   have eB:(f::fs).flatMap Fr = []++Fr f++fs.flatMap Fr:=by simp
   rw [eB]
   generalize []++Fr f++fs.flatMap Fr=B at y I
   cases c with
   | nil=>
    rw [Al (by simp),cond_false,Tu y]; simp
   | cons a c=>
    have ha:=s a (by simp)
    have x:=Wz ha
    rw [Ak (by simp only [List.length_cons]; omega),cond_true,show Af (a::c) 0=some a from rfl,Ad]
    refine (Aa1 _ ha).trans ?_
    rw [Lp (By.at a) (by omega),Ad]
    refine Aax a c (fun j=>(((j+1:Nat):Int),B++Gb a++(c.take j).flatMap Gb)) (by simp [Ac,Bz]) (by simp at na; omega) ?_ ?_
    .intro j b hb h1 h2 h3
     have i:=s b (by simp [Bo hb])
     have:=Wz i
     have:=A c (fun b hb=>by simp [hb]) j
     simp at na
     simp only [h1,h2,h3,cond_true,Ad]
     refine (Aa1 _ i).trans ?_
     rw [Lp (By.at b) (by simp only [List.length_append]; omega),Ad,Aa0 hb]
     simp
    .intro h1
     refine ⟨B++Gb a++c.flatMap Gb,by simp only [h1,cond_false,List.take_length],?_⟩
     dsimp only
     rw [Tu ((y.app (By.at a)).app (E c))]
     simp
end Go.Ab
namespace Go.Ab
open Go
def plc (ts:List Ag):List (ByteArray×Int):=ts.zipIdx.map fun q=>(Jm q.1.Mono,(q.2:Int))
def Dst (ts:List Ag):Prop:=ts.Pairwise fun t u=>t.Mono≠u.Mono
theorem Aw7 (ts:List Ag) (t:Ag):plc (ts++[t])=plc ts++[(Jm t.Mono,(ts.length:Int))]:=by
 unfold plc; simp [List.zipIdx_append]
theorem W0 (ts:List Ag) (j:Nat):(plc ts)[j]? = (ts[j]?).map fun t=>(Jm t.Mono,(j:Int)):=by
 unfold plc; simp [List.getElem?_map,List.getElem?_zipIdx]
 cases ts[j]? <;> rfl
theorem Aw8 {ts:List Ag} {j:Nat} {t u:Ag} (h:ts[j]? = some t) (b:u.Mono=t.Mono):plc (ts.set j u)=plc ts:=by
 apply List.ext_getElem?
 intro i
 rw [W0,W0,List.getElem?_set]
 by_cases e:j=i
 .subst e
  rw [if_pos rfl,if_pos (Df h),h]; simp [b]
 .rw [if_neg e]
theorem Am4 {α:Type}:∀(o:List (ByteArray×α)) (s:ByteArray) (v:α),Eu o s=false->Fb o s v=o++[(s,v)]
 | [],_,_,_=>rfl
 | p::o,s,v,h=>by
  simp only [Eu,List.any_cons,Bool.or_eq_false_iff] at h
  simp only [Fb,h.1,cond_false,List.cons_append,List.cons.injEq,true_and]
  exact Am4 o s v h.2
theorem Aw9 {ts:List Ag} {m:A8} (h:∀t∈ts,t.Mono≠m):Eu (plc ts) (Jm m)=false:=by
 unfold Eu
 rw [List.any_eq_false]
 intro p hp
 obtain ⟨j,hj⟩:=List.getElem?_of_mem hp
 rw [W0] at hj
 cases ht:ts[j]? with
 | none=>rw [ht] at hj; cases hj
 | some t=>
  rw [ht] at hj
  simp only [Option.map_some,Option.some.injEq] at hj
  subst hj
  intro e
  have e:=(Rg _ _).1 e
  exact h t (Bo ht) (Ams e).symm
theorem Axa {ts:List Ag} (hd:Dst ts) {j:Nat} {t:Ag} (h:ts[j]? = some t):Eu (plc ts) (Jm t.Mono)=true/\Hy (plc ts) (Jm t.Mono) 0=(j:Int):=by
 have hp:(plc ts)[j]? = some (Jm t.Mono,(j:Int)):=by rw [W0,h]; rfl
 refine ⟨List.any_eq_true.2 ⟨_,Bo hp,(Rg _ _).2 rfl⟩,?_⟩
 unfold Hy
 have hf:(plc ts).find? (fun p=>Jm t.Mono==p.1)=some (Jm t.Mono,(j:Int)):=by
  cases hf:(plc ts).find? (fun p=>Jm t.Mono==p.1) with
  | none=>
   have:=List.find?_eq_none.1 hf _ (Bo hp)
   exact (this ((Rg _ _).2 rfl)).elim
  | some q=>
   have h1:=List.find?_some hf
   obtain ⟨i,hi⟩:=List.getElem?_of_mem (List.mem_of_find?_eq_some hf)
   rw [W0] at hi
   cases hu:ts[i]? with
   | none=>rw [hu] at hi; cases hi
   | some u=>
    rw [hu] at hi
    simp only [Option.map_some,Option.some.injEq] at hi
    subst hi
    have e:=Ams ((Rg _ _).1 h1)
    have f:i=j:=by
     have c:=Df hu
     have b:=Df h
     rw [Bn c] at hu
     rw [Bn b] at h
     rcases Nat.lt_trichotomy i j with k | k | k
     .have:=List.pairwise_iff_getElem.1 hd i j c b k
      rw [Option.some.inj hu,Option.some.inj h] at this
      exact (this e.symm).elim
     .exact k
     .have:=List.pairwise_iff_getElem.1 hd j i b c k
      rw [Option.some.inj hu,Option.some.inj h] at this
      exact (this e).elim
    subst f
    rw [e]
 rw [hf]; rfl
open Classical in
theorem Mh (t:Ag) (p:List Ag) (m:A8):cf (t::p) m=(if t.Mono=m then rq t.Coef else 0)+cf p m:=by
 simp only [cf]
 by_cases e:t.Mono=m
 .rw [if_pos (Ga.2 e),if_pos e]
 .rw [if_neg (fun h=>e (Ga.1 h)),if_neg e]
open Classical in
theorem Afy:∀{ts:List Ag} {j:Nat} {t u:Ag},ts[j]? = some t->u.Mono=t.Mono->∀m,cf (ts.set j u) m=cf ts m+(if t.Mono=m then rq u.Coef-rq t.Coef else 0)
 | [],j,t,u,h,_,m=>by simp at h
 | s::ts,0,t,u,h,hm,m=>by
  simp only [List.getElem?_cons_zero,Option.some.injEq] at h
  subst h
  rw [List.set_cons_zero,Mh,Mh,hm]
  split <;> grind
 | s::ts,j+1,t,u,h,hm,m=>by
  simp only [List.getElem?_cons_succ] at h
  rw [List.set_cons_succ,Mh,Mh,Afy h hm m]
  grind
theorem Dst.set {ts:List Ag} (h:Dst ts) {j:Nat} {t u:Ag} (ht:ts[j]? = some t) (b:u.Mono=t.Mono):Dst (ts.set j u):=by
 have e:(ts.set j u).map (·.Mono)=ts.map (·.Mono):=by
  apply List.ext_getElem?
  intro i
  rw [List.getElem?_map,List.getElem?_map,List.getElem?_set]
  by_cases e:j=i
  .subst e; rw [if_pos rfl,if_pos (Df ht),ht]; simp [b]
  .rw [if_neg e]
 have k:∀l:List Ag,Dst l↔(l.map (·.Mono)).Pairwise (·≠·):=fun l=>by rw [List.pairwise_map]; exact Iff.rfl
 rw [k,e,<-k]; exact h
structure Col (k:Nat) (P:A8->Prop) (ts:List Ag):Prop where
 dst:Dst ts
 tb:∀t∈ts,RB k t.Coef
 mo:∀t∈ts,P t.Mono
theorem Col.nil (k:Nat) (P:A8->Prop):Col k P []:=⟨List.Pairwise.nil,fun _ h=>(by cases h),fun _ h=>(by cases h)⟩
theorem Am5 {k0 k:Nat} {P:A8->Prop} (L:∀m,P m->CMo m) (l ts:List Ag) (B:Col k0 P ts) (J:∀t∈l,RB k t.Coef/\P t.Mono) (hk:k<=k0) (U:k0+l.length*(k+3)<34359738000) (S:ts.length+l.length<=1099511627776) :
  ∃f,P9 l (plc ts) ts=some (plc f,f)/\Col (k0+l.length*(k+3)) P f/\f.length<=ts.length+l.length/\∀m,cf f m=cf ts m+cf l m:=by
 unfold P9
 refine Zg (A:=List Ag) (fun f=>(plc f,f)) ?_
 refine Er (fun s=>∃(j:Nat) (u:List Ag),s=((j:Int),plc u,u)/\j<=l.length/\Col (k0+j*(k+3)) P u/\u.length<=ts.length+j/\∀m,cf u m=cf ts m+cf (l.take j) m) (fun s=>l.length-s.1.toNat)
  (fun z=>∃u,z=(plc u,u)/\Col (k0+l.length*(k+3)) P u/\u.length<=ts.length+l.length/\∀m,cf u m=cf ts m+cf l m) ⟨0,ts,rfl,by omega,by simpa using B,by omega,fun m=>by simp only [List.take_zero,cf]; grind⟩ ?_ ?_
 .rintro _ ⟨j,u,rfl,hj,hu,y,q⟩
  rcases Nat.lt_or_ge j l.length with h | h
  .have hx:l[j]? = some l[j]:=Bn h
   generalize l[j]=x at hx
   obtain ⟨hb,G⟩:=J x (Bo hx)
   have E:j*(k+3)+(k+3)<=l.length*(k+3):=by rw [<-Nat.succ_mul]; exact Nat.mul_le_mul_right _ h
   have D:(j+1)*(k+3)=j*(k+3)+(k+3):=by rw [Nat.succ_mul]
   simp only [Ak (by omega:(j:Int)<(l.length:Int)),cond_true,Ch rfl hx,Ad,Aw6 (L _ G),Cz h (by omega)]
   left
   by_cases hex:∃t∈u,t.Mono=x.Mono
   .obtain ⟨t,ht,I⟩:=hex
    obtain ⟨i,hi⟩:=List.getElem?_of_mem ht
    obtain ⟨g1,g2⟩:=Axa hu.dst hi
    rw [I] at g1 g2
    obtain ⟨c,R,_,N,V,M⟩:=Aam (hu.tb t ht) hb (by omega) (by omega)
    refine ⟨((j+1:Nat),plc (u.set i ⟨c,t.Mono⟩),u.set i ⟨c,t.Mono⟩),?_,⟨j+1,u.set i ⟨c,t.Mono⟩,rfl,by omega,⟨hu.dst.set hi rfl,?_,?_⟩,by rw [List.length_set]; omega,fun m=>?_⟩,by simp; omega⟩
    .simp only [g1,g2,cond_true,Ad,Ch rfl hi,R,Fy rfl,Aw8 (u:=⟨c,t.Mono⟩) hi rfl]
    .intro w hw
     rcases List.mem_or_eq_of_mem_set hw with hw | rfl
     .exact (hu.tb w hw).mono (by omega)
     .exact N.mono (by omega)
    .intro w hw
     rcases List.mem_or_eq_of_mem_set hw with hw | rfl
     .exact hu.mo w hw
     .exact hu.mo t ht
    .rw [Afy (u:=⟨c,t.Mono⟩) hi rfl m,q m,Cw hx,I1,Mh]
     simp only [M,I,cf]
     split <;> grind
   .have g:=Aw9 (m:=x.Mono) (ts:=u) fun t ht e=>hex ⟨t,ht,e⟩
    refine ⟨((j+1:Nat),plc (u++[x]),u++[x]),?_,⟨j+1,u++[x],rfl,by omega,⟨?_,?_,?_⟩,by simp; omega,fun m=>?_⟩,by simp; omega⟩
    .simp only [g,cond_false,Ad]
     rw [Cu (by simp; omega),Ad,Am4 _ _ _ g,Aw7]
    .refine List.pairwise_append.2 ⟨hu.dst,List.pairwise_singleton _ _,fun a ha b hb=>?_⟩
     simp only [List.mem_singleton] at hb
     subst hb
     exact fun e=>hex ⟨a,ha,e⟩
    .intro w hw
     rcases List.mem_append.1 hw with hw | hw
     .exact (hu.tb w hw).mono (by omega)
     .simp only [List.mem_singleton] at hw
      subst hw
      exact hb.mono (by omega)
    .intro w hw
     rcases List.mem_append.1 hw with hw | hw
     .exact hu.mo w hw
     .simp only [List.mem_singleton] at hw
      subst hw
      exact G
    .rw [I1,q m,Cw hx,I1]; grind
  .have:j=l.length:=by omega
   subst this
   rw [List.take_length] at q
   simp only [Al (by omega:¬(l.length:Int)<(l.length:Int)),cond_false]
   exact .inr ⟨_,rfl,u,rfl,hu,y,q⟩
 .rintro _ ⟨u,rfl,h1,h2,h3⟩
  exact ⟨_,rfl,u,rfl,h1,h2,h3⟩
end Go.Ab
namespace Go.Ab
open Go
theorem Afz (t u:Ag) (h:Dl t.Mono):Mz t u=some (B7 t.Mono u.Mono):=by
 unfold Mz
 rw [Ae8 _ _ h]; rfl
theorem Axb {α:Type} (A R:List α) (x y:α):((A++y::x::R).set (A.length+1) y).set A.length x=A++x::y::R:=by
 induction A with
 | nil=>rfl
 | cons a A ih=>simp only [List.cons_append,List.length_cons,List.set_cons_succ,ih]
theorem Am6 {α:Type} (A R:List α) (x:α):(A++x::R)[A.length]? = some x:=by simp
theorem Axc {α:Type} (A R:List α) (x y:α):(A++y::x::R)[A.length+1]? = some x:=by
 induction A with
 | nil=>rfl
 | cons a A ih=>simp
theorem Axd {step:Int×List Ag->Option ((Int×List Ag)⊕(Int×List Ag))} (N:Nat) (G:N<4611686018427387904)
  (b:∀(x:Ag) (R:List Ag),step (0,x::R)=some (.inr (0,x::R)))
  (l:∀(A R:List Ag) (x y:Ag),(∀t∈A++y::x::R,Dl t.Mono)->(A++y::x::R).length<=N->step (((A.length+1:Nat):Int),A++y::x::R) =
   if B7 x.Mono y.Mono<0 then some (.inl ((A.length:Int),A++x::y::R)) else some (.inr (((A.length+1:Nat):Int),A++y::x::R))) :
  ∀(n:Nat) (A R:List Ag) (x:Ag),A.length=n->(∀t∈A++x::R,Dl t.Mono)->(A++x::R).length<=N ->
   ∃f i,Am step ((A.length:Int),A++x::R)=some ((f.length:Int),f++x::(i++R))/\A=f++i/\(∀a∈i,ltT x a)/\∀q y,f=q++[y]->¬ltT x y:=by
 intro n
 induction n with
 | zero=>
  intro A R x g _ _
  have:A = []:=List.length_eq_zero_iff.1 g
  subst this
  exact ⟨[],[],Fe (b x R),rfl,(fun _ h=>by cases h),(fun q y h=>by simp at h)⟩
 | succ n ih=>
  intro A R x g k c
  obtain ⟨B,y,rfl⟩:∃B y,A=B++[y]:=by
   rcases List.eq_nil_or_concat A with h | ⟨B,y,h⟩
   .rw [h] at g; cases g
   .exact ⟨B,y,by simpa using h⟩
  have u:B.length=n:=by simpa using g
  have E:(B++[y])++x::R=B++y::x::R:=by simp
  have el:(((B++[y]).length:Nat):Int)=((B.length+1:Nat):Int):=by simp
  rw [E] at k c ⊢
  rw [el]
  have j:=l B R x y k c
  by_cases hc:B7 x.Mono y.Mono<0
  .rw [if_pos hc] at j
   obtain ⟨f,i,h1,h2,h3,D⟩:=ih B (y::R) x u (by
    intro t ht
    refine k t ?_
    simp only [List.mem_append,List.mem_cons] at ht ⊢
    rcases ht with h | h | h | h <;> simp [h]) (by simpa using c)
   refine ⟨f,i++[y],?_,by rw [h2]; simp,?_,D⟩
   .rw [I6 j,h1]; simp
   .intro a ha
    rcases List.mem_append.1 ha with ha | ha
    .exact h3 a ha
    .simp only [List.mem_singleton] at ha
     subst ha; exact hc
  .rw [if_neg hc] at j
   refine ⟨B++[y],[],?_,by simp,(fun _ h=>by cases h),?_⟩
   .rw [Fe j]; simp
   .intro q z s
    have:=List.append_inj' s rfl
    have e:y=z:=by simpa using this.2
    subst e; exact hc
theorem Axe {a b c:Ag} (h:ltT a b) (h':ltT b c):ltT a c:=Mf h h'
theorem Axf {c j:List Ag} {x:Ag} (u:(c++j).Pairwise ltT) (h2:∀a∈j,ltT x a) (h1:∀g y,c=g++[y]->¬ltT x y) (hd:∀a∈c,a.Mono≠x.Mono):(c++x::j).Pairwise ltT:=by
 obtain ⟨i,s,l⟩:=List.pairwise_append.1 u
 have hx:∀a∈c,ltT a x:=by
  intro a ha
  rcases List.eq_nil_or_concat c with h | ⟨g,y,h⟩
  .rw [h] at ha; cases ha
  .have h:c=g++[y]:=by simpa using h
   have f:ltT y x:=by
    have q:=h1 g y h
    have z:=hd y (by rw [h]; simp)
    unfold ltT at *
    rcases Int.lt_trichotomy (B7 x.Mono y.Mono) 0 with k | k | k
    .exact (q k).elim
    .exact (z (Ga.1 k).symm).elim
    .exact Aao.1 k
   rw [h] at ha i
   rcases List.mem_append.1 ha with ha | ha
   .exact Axe ((List.pairwise_append.1 i).2.2 a ha y (by simp)) f
   .simp only [List.mem_singleton] at ha
    subst ha; exact f
 refine List.pairwise_append.2 ⟨i,List.pairwise_cons.2 ⟨h2,s⟩,fun a ha b hb=>?_⟩
 rcases List.mem_cons.1 hb with rfl | hb
 .exact hx a ha
 .exact l a ha b hb
noncomputable def W1:Int×List Ag->Option ((Int×List Ag)⊕(Int×List Ag)):=fun (v31,b)=>
 (show Option Bool from
 bif (decide (v31>(0:Int))) then (
 (Af b v31).bind fun v33=>
 (Af b (Ac (v31-1))).bind fun g=>
 (Mz v33 g).bind fun v35=>
 some (decide (v35<(0:Int))))
 else some false).bind fun f=>
 bif f then (
 (Af b (Ac (v31-1))).bind fun v37=>
 (Af b v31).bind fun c=>
 (Af b v31).bind fun v39=>
 (Af (Cd b v31 v37) (Ac (v31-1))).bind fun v40=>
 some (.inl ((Ac (v31-1)),(Cd (Cd b v31 v37) (Ac (v31-1)) c))))
 else some (.inr (v31,b))
theorem Axg (y:Ag) (R:List Ag):W1 (0,y::R)=some (.inr (0,y::R)):=by
 unfold W1
 simp only [Al (by omega:¬(0:Int)>0),cond_false,Ad]
theorem Axh {N:Nat} (h:N<=1099511627776) (A R:List Ag) (u y:Ag) (b:∀t∈A++y::u::R,Dl t.Mono) (c:(A++y::u::R).length<=N):W1 (((A.length+1:Nat):Int),A++y::u::R) =
  if B7 u.Mono y.Mono<0 then some (.inl ((A.length:Int),A++u::y::R)) else some (.inr (((A.length+1:Nat):Int),A++y::u::R)):=by
 have g:A.length+1<N:=by simp at c; omega
 have f:Ac (((A.length+1:Nat):Int)-1)=(A.length:Int):=by rw [Ac,Bz] <;> omega
 unfold W1
 simp only [Ak (by omega:((A.length+1:Nat):Int)>0),cond_true,f,Ch (n:=A.length+1) rfl (Axc A R u y),Ch (n:=A.length) rfl (Am6 A (u::R) y),Ad,Afz u y (b u (by simp))]
 by_cases hc:B7 u.Mono y.Mono<0
 .rw [Ak hc,if_pos hc]
  simp only [cond_true]
  rw [Fy (n:=A.length+1) rfl,Fy (n:=A.length) rfl,Axb]
  have:Af ((A++y::u::R).set (A.length+1) y) (A.length:Int)=some y:=by
   refine Ch rfl ?_
   rw [List.getElem?_set_ne (by omega)]; exact Am6 A (u::R) y
  rw [this]; rfl
 .rw [Al hc,if_neg hc]; rfl
theorem Axi (b:List Ag) (hd:Dst b) (I:∀t∈b,Dl t.Mono) (M:b.length<=1099511627776) :
  ∃R,Vx 0 (b.length:Int) b=some R/\R.Perm b/\R.Pairwise ltT:=by
 unfold Vx
 cases b with
 | nil=>
  refine ⟨[],?_,List.Perm.refl _,List.Pairwise.nil⟩
  refine L6 0 (fun _=>((1:Int),([]:List Ag))) (by simp [Ac,Bz]) (fun j hj=>by omega) ⟨[],?_,rfl⟩
  simp
 | cons z0 A=>
 generalize f:z0::A=b at *
 have hpos:1<=b.length:=by rw [<-f]; simp
 refine Er (fun s=>∃(i:Nat) (S:List Ag),s=((i:Int),S++b.drop i)/\1<=i/\i<=b.length/\S.length=i/\S.Perm (b.take i)/\S.Pairwise ltT) (fun s=>b.length-s.1.toNat)
  (fun R=>R.Perm b/\R.Pairwise ltT) ⟨1,[z0],by rw [<-f]; simp [Ac,Bz],by omega,hpos,rfl,by rw [<-f]; simp,List.pairwise_singleton _ _⟩ ?_ ?_
 .rintro _ ⟨i,S,rfl,J,hi,G,c,k⟩
  rcases Nat.lt_or_ge i b.length with h | h
  .have hx:b[i]? = some b[i]:=Bn h
   generalize b[i]=x at hx
   have g:b.drop i=x::b.drop (i+1):=L9 hx
   have z:(S++x::b.drop (i+1)).length=b.length:=by simp; omega
   have y:∀t∈S++x::b.drop (i+1),t∈b:=by
    intro t ht
    rcases List.mem_append.1 ht with ht | ht
    .exact List.mem_of_mem_take (c.mem_iff.1 ht)
    .rw [<-g] at ht; exact List.mem_of_mem_drop ht
   simp only [Ak (by omega:(i:Int)<(b.length:Int)),cond_true,Cz h (by omega)]
   rw [g]
   left
   obtain ⟨q,l,h1,h2,h3,L⟩:=Axd (step:=W1) b.length (by omega) Axg (Axh (by omega)) S.length S (b.drop (i+1)) x rfl (fun t ht=>I t (y t ht)) (by rw [z]; exact Nat.le_refl _)
   rw [G] at h1
   have hp:(q++x::l).Perm (b.take (i+1)):=by
    rw [Cw hx]
    have:(q++x::l).Perm ((q++l)++[x]):=by
     rw [List.append_assoc]
     exact List.Perm.append_left q (List.perm_append_singleton x l).symm
    exact this.trans (by rw [<-h2]; exact c.append_right [x])
   refine ⟨(((i+1:Nat):Int),(q++x::l)++b.drop (i+1)),bnd h1 (by simp),⟨i+1,q++x::l,rfl,by omega,by omega,?_,hp,?_⟩,by simp; omega⟩
   .rw [hp.length_eq,List.length_take]; omega
   .rw [h2] at k
    refine Axf k h3 L fun a ha=>?_
    have E:a∈b.take i:=c.mem_iff.1 (by rw [h2]; simp [ha])
    have B:x∈b.drop i:=by rw [g]; simp
    have D:(b.take i++b.drop i).Pairwise fun t u=>t.Mono≠u.Mono:=by rw [List.take_append_drop]; exact hd
    exact (List.pairwise_append.1 D).2.2 a E x B
  .have:i=b.length:=by omega
   subst this
   rw [List.take_length] at c
   simp only [Al (by omega:¬(b.length:Int)<(b.length:Int)),cond_false,List.drop_length,List.append_nil]
   exact .inr ⟨S,rfl,c,k⟩
 .rintro R ⟨h1,h2⟩
  exact ⟨R,rfl,h1,h2⟩
theorem Af0 {α:Type} {n:Nat} {l:List α} (h:n=l.length):Lv n l=some ():=by unfold Lv; rw [if_pos h]
theorem Axj {s:ByteArray} {i:Int} (h0:0<=i) (h:i.toNat<s.size):∃c,En s i=some c:=by
 unfold En
 rw [if_pos h0]
 exact ⟨_,getElem?_pos s i.toNat h⟩
set_option maxRecDepth 20000 in
theorem Axk {n:Nat} (h:n<256):∃v,Vh (Ax (n:Int))=some v:=by
 unfold Vh Y0
 rw [Ax,Cv (by omega) (by omega),Al (by omega)]
 simp only [cond_false,Ad]
 rw [Al (by omega)]
 simp only [cond_false,Ad]
 rw [Al (by omega)]
 simp only [cond_false,Ad]
 have b:wu8 (n:Int)=(n:Int):=by
  rw [wu8]; unfold IntKind.wrap; simp [IntKind.bits,IntKind.signed]; omega
 rw [b]
 generalize g:ByteArray.mk _=T
 have f:T.size=256:=by rw [<-g]; rfl
 obtain ⟨c,hc⟩:=Axj (s:=T) (i:=(n:Int)) (by omega) (by rw [f]; simpa using h)
 rw [hc]
 exact ⟨_,rfl⟩
theorem Axl (b:List Ag) (hd:Dst b) (g:∀t∈b,Dl t.Mono) (f:b.length<=12):∃R,My b=some R/\R.Perm b/\R.Pairwise ltT:=by
 obtain ⟨R,h1,h2,h3⟩:=Axi b hd g (by omega)
 obtain ⟨v,c⟩:=Axk (n:=b.length) (by omega)
 refine ⟨R,?_,h2,h3⟩
 unfold My
 rw [Nat.ble_eq_true_of_le f,cond_true]
 unfold Adt
 rw [c,Ad]
 have hp:Vg 0 (b.length:Int) v b=some R:=by
  unfold Vg
  refine bnd (a:=R) (Fe ?_) rfl
  have w:Ac ((b.length:Int)-0)=(b.length:Int):=by rw [Ac,Bz] <;> omega
  simp only [w,Ak (by omega:(b.length:Int)<=12),cond_true,h1,Ad,Af0 h2.length_eq.symm]
 rw [hp,Ad,Af0 h2.length_eq.symm]; rfl
def clT (t:Ag):Ag:=⟨B4 (sv t.Coef) (nv t.Coef) (dv t.Coef),t.Mono⟩
theorem Axm {k:Nat} (p:List Ag) (hk:k<34359738000) (hp:∀t∈p,RB k t.Coef/\Dl t.Mono) (b:p.length<=1048576):U4 p=some (p.map clT):=by
 unfold U4
 refine D9 p (fun j=>((j:Int),(p.take j).map clT)) rfl (by omega) ?_ ?_
 .intro j x hj hx h1 h2 h3
  obtain ⟨a1,a2⟩:=hp x (Bo hx)
  simp only [h1,h2,h3,cond_true,Ad,Wg x.Coef k a1 (by omega),Awt x.Mono a2]
  rw [Cu (by simp; omega),Ad,Cw hx]
  simp [clT]
 .intro h1
  exact ⟨p.map clT,by simp,rfl⟩
theorem Axn (p:List Ag) (m:A8):cf (p.map clT) m=cf p m:=by
 induction p with
 | nil=>rfl
 | cons t p ih=>
  simp only [List.map_cons,cf,ih,clT]
  rw [I0 _ _ _ (Dq _)]; rfl
theorem Axo {p q:List Ag} (h:p.Perm q) (m:A8):cf p m=cf q m:=by
 induction h with
 | nil=>rfl
 | cons x _ ih=>simp only [cf,ih]
 | swap x y l=>simp only [cf]; grind
 | trans _ _ h1 h2=>rw [h1,h2]
def nzT (t:Ag):Bool:=decide (rq t.Coef≠0)
theorem Axp (p:List Ag) (m:A8):cf (p.filter nzT) m=cf p m:=by
 induction p with
 | nil=>rfl
 | cons t p ih=>
  by_cases h:rq t.Coef=0
  .rw [List.filter_cons_of_neg (by simp [nzT,h]),ih]; simp only [cf,h]; grind
  .rw [List.filter_cons_of_pos (by simp [nzT,h])]; simp only [cf,ih]
theorem Axq (x:Rat):(E5 x != (0:Int))=decide (x≠0):=by
 unfold E5
 by_cases h1:x<0
 .rw [if_pos h1]
  have:x≠0:=by intro e; subst e; exact absurd h1 (by decide)
  simp [this]
 .rw [if_neg h1]
  by_cases h2:0<x
  .rw [if_pos h2]
   have:x≠0:=by intro e; subst e; exact absurd h2 (by decide)
   simp [this]
  .rw [if_neg h2]
   have:x=0:=Rat.le_antisymm (Rat.not_lt.1 h2) (Rat.not_lt.1 h1)
   simp [this]
theorem Axr {α:Type} {f:α->Bool} {l:List α} {j:Nat} {x:α} (h:l[j]? = some x):(l.take (j+1)).filter f=(l.take j).filter f++(if f x then [x] else []):=by
 rw [Cw h,List.filter_append]; congr 1; cases k:f x <;> simp [List.filter,k]
theorem Axs {k:Nat} {P:A8->Prop} (q:∀m,P m->CMo m) (o:List (ByteArray×Int)) (ts:List Ag) (h:Col k P ts) (hk:k<34359738000) (A:ts.length<=1000)
  (z:∀c:List Ag,c.length<=ts.length->Dst c->(∀t∈c,Dl t.Mono)->∃R,My c=some R/\R.Perm c/\R.Pairwise ltT) :
  ∃R,Sf o ts=some (R,0)/\CP R/\(∀m,cf R m=cf ts m)/\(∀t∈R,P t.Mono/\RB (k+1) t.Coef)/\R.length<=ts.length:=by
 unfold Sf
 have g:(ts.filter nzT).length<=ts.length:=List.length_filter_le _ _
 obtain ⟨S,y,f,s⟩:=z (ts.filter nzT) g (List.Pairwise.filter _ h.dst) (fun t ht=>(q _ (h.mo t (List.mem_filter.1 ht).1)).sz)
 have b:∀t∈S,t∈ts/\rq t.Coef≠0:=by
  intro t ht
  have:=List.mem_filter.1 (f.mem_iff.1 ht)
  exact ⟨this.1,by simpa [nzT] using this.2⟩
 refine ⟨S.map clT,?_,⟨?_,?_⟩,?_,?_,?_⟩
 .refine D9 ts (fun j=>((j:Int),(ts.take j).filter nzT)) rfl (by omega) ?_ ?_
  .intro j x hj hx h1 h2 h3
   have hb:=h.tb x (Bo hx)
   have l:((ts.take j).filter nzT).length<=ts.length:=Nat.le_trans (List.length_filter_le _ _) (by rw [List.length_take]; omega)
   simp only [h1,h2,h3,cond_true,Ad,(Me hb hk).1,Axq]
   rw [Axr hx]
   by_cases i:rq x.Coef=0
   .have:nzT x=false:=by simp [nzT,i]
    rw [Al (by simpa using i),this]; simp
   .have:nzT x=true:=by simp [nzT,i]
    rw [Ak i,this]
    simp only [cond_true]
    rw [Cu (by simp; omega)]; simp
  .intro h1
   refine ⟨ts.filter nzT,by simp only [h1,cond_false,List.take_length],?_⟩
   rw [Al (by omega)]
   simp only [cond_false]
   rw [y,Ad,Af0 f.length_eq.symm,Ad,
    Axm (k:=k) S hk (fun t ht=>⟨h.tb t (b t ht).1,(q _ (h.mo t (b t ht).1)).sz⟩) (by rw [f.length_eq]; omega)]; rfl
 .rw [List.pairwise_map]; exact s
 .intro t ht
  obtain ⟨u,hu,rfl⟩:=List.mem_map.1 ht
  refine ⟨Nd _ _ _ (Dq _),?_⟩
  show rq (B4 _ _ _)≠0
  rw [I0 _ _ _ (Dq _)]; exact (b u hu).2
 .intro m
  rw [Axn,Axo f,Axp]
 .intro t ht
  obtain ⟨u,hu,rfl⟩:=List.mem_map.1 ht
  exact ⟨h.mo u (b u hu).1,Aeh (h.tb u (b u hu).1)⟩
 .rw [List.length_map,f.length_eq]; exact g
end Go.Ab
namespace Go.Ab
open Go
theorem Axt (x:Bh) (k:CSz x) (f:List (List Ag)) (D:∀p∈f,∀t∈p,TSz t) (U:f.length<=1048576) :
  ∃r,Ms x f=some r/\(((Fi x/\∀p∈f,Ho x.Data x.Vars x.Res p=true)/\∃B,r = .inl (true,x,B,[],x.Data,x.Vars,x.Res.Kind,x.Res.Num,x.Res.Args)/\Fq x.Data x.Vars x.Res B) \/
   ((¬(Fi x/\∀p∈f,Ho x.Data x.Vars x.Res p=true))/\r = .inr false)):=by
 obtain ⟨b,b1,b2⟩:=Ak5 k.ds
 have N:=k.nv
 have M:=k.rs
 unfold Ms
 rw [b1,Wo x.Data x.Res 0 (by omega)]
 by_cases y:x.Vars.length<=3000
 .rw [Al (by omega)]
  simp only [cond_false,Ad]
  cases b with
  | false=>exact ⟨_,rfl,.inr ⟨fun h=>(by have:=b2.2 h.1.2.1; cases this),rfl⟩⟩
  | true=>
   have L:=b2.1 rfl
   simp only [Dj,cond_false]
   cases G:(E7 x.Data 0 x.Res&&decide (Bg x.Res<=200)) with
   | false=>exact ⟨_,rfl,.inr ⟨fun h=>(by have:=h.1.2.2.1; rw [show Hq x.Data x.Res=false from G] at this; cases this),rfl⟩⟩
   | true=>
    simp only [Dj,cond_false,Ad]
    refine Er (fun i=>∃j:Nat,i=j/\j<=x.Vars.length/\(x.Vars.take j).all (Hq x.Data)=true) (fun i=>x.Vars.length-i.toNat)
     (fun z=>match z with | .inl r=>r=false/\¬Fi x | .inr _=>Fi x) ⟨0,rfl,by omega,by simp⟩ ?_ ?_
    .rintro i ⟨j,rfl,hj,c⟩
     rcases Nat.lt_or_ge j x.Vars.length with h | h
     .have ht:x.Vars[j]? = some x.Vars[j]:=Bn h
      generalize x.Vars[j]=t at ht
      have:=k.vs t (Bo ht)
      simp only [Ak (by omega:(j:Int)<(x.Vars.length:Int)),cond_true,Ch rfl ht,Ad,Wo x.Data t 0 (by omega),Cz h (by omega)]
      rw [show (E7 x.Data 0 t&&decide (Bg t<=200))=Hq x.Data t from rfl]
      cases J:Hq x.Data t with
      | true=>exact .inl ⟨_,rfl,⟨j+1,rfl,by omega,by rw [Cw ht,List.all_append,c]; simp [J]⟩,by simp; omega⟩
      | false=>
       refine .inr ⟨.inl false,rfl,rfl,fun E=>?_⟩
       have:=List.all_eq_true.1 E.2.2.2 t (Bo ht)
       rw [J] at this; cases this
     .have:j=x.Vars.length:=by omega
      subst this
      rw [List.take_length] at c
      exact .inr ⟨.inr (),by simp,y,L,G,c⟩
    .rintro (r | u) g
     .obtain ⟨rfl,g⟩:=g
      exact ⟨_,rfl,.inr ⟨fun h=>g h.1,rfl⟩⟩
     .have hf:Fi x:=g
      simp only
      refine Er (fun s=>∃(j:Nat) (o:List (ByteArray×Int)),s=((j:Int),o)/\j<=f.length/\Fq x.Data x.Vars x.Res o/\∀p∈f.take j,Ho x.Data x.Vars x.Res p=true) (fun s=>f.length-s.1.toNat)
       (fun z=>match z with | .inl r=>r=false/\¬(∀p∈f,Ho x.Data x.Vars x.Res p=true) | .inr o=>Fq x.Data x.Vars x.Res o/\∀p∈f,Ho x.Data x.Vars x.Res p=true)
       ⟨0,[],rfl,by omega,(fun q h=>by cases h),(fun q h=>by simp at h)⟩ ?_ ?_
      .rintro _ ⟨j,o,rfl,hj,I,c⟩
       rcases Nat.lt_or_ge j f.length with h | h
       .have ht:f[j]? = some f[j]:=Bn h
        generalize f[j]=p at ht
        have l:=Bo ht
        obtain ⟨B,S,R⟩:=Al5 (hf.ctx k) [] I p (D p l)
        simp only [Ak (by omega:(j:Int)<(f.length:Int)),cond_true,Ch rfl ht,Ad,S,Cz h (by omega)]
        cases A:Ho x.Data x.Vars x.Res p with
        | true=>
         refine .inl ⟨_,rfl,⟨j+1,B,rfl,by omega,R,fun q hq=>?_⟩,by simp; omega⟩
         rw [Cw ht] at hq
         rcases List.mem_append.1 hq with hq | hq
         .exact c q hq
         .simp only [List.mem_singleton] at hq
          subst hq; exact A
        | false=>
         refine .inr ⟨.inl false,rfl,rfl,fun E=>?_⟩
         have:=E p l
         rw [A] at this; cases this
       .have:j=f.length:=by omega
        subst this
        rw [List.take_length] at c
        exact .inr ⟨.inr o,by simp,I,c⟩
      .rintro (r | o) hw
       .obtain ⟨rfl,hw⟩:=hw
        exact ⟨_,rfl,.inr ⟨fun h=>hw h.2,rfl⟩⟩
       .exact ⟨_,rfl,.inl ⟨⟨hf,hw.2⟩,o,rfl,hw.1⟩⟩
 .rw [Ak (by omega)]
  exact ⟨_,rfl,.inr ⟨fun h=>y h.1.1,rfl⟩⟩
theorem Axu {data:List Az} {vars:List Ai} {res:Ai} {m:A8} (h:Hc data vars res m=true) (k:Dl m):CMo m:=by
 have hf:=(Av9 h).2
 unfold Hc at h
 simp only [C6,decide_eq_true_eq] at h
 obtain ⟨⟨h1,h2⟩,h3⟩:=h
 have b:∀f∈m.Factors,0<=Di data vars res f:=by
  intro f hf
  obtain ⟨j,hj⟩:=List.getElem?_of_mem hf
  have:=Gz h1 hj
  simp only [Mb,C6,decide_eq_true_eq] at this
  omega
 have ha:∀a∈m.Atoms,1<=a.Deg/\Fh a.Lin=true/\a.Lin.Terms≠[]:=by
  intro a ha
  obtain ⟨j,hj⟩:=List.getElem?_of_mem ha
  have:=Gz h2 hj
  simp only [J3,C6,decide_eq_true_eq] at this
  refine ⟨this.1.1.1.1,this.1.1.1.2,fun e=>?_⟩
  have i:=this.1.1.2
  rw [e] at i; simp at i
 obtain ⟨a1,a2,a3⟩:=Ww m.Atoms fun a h=>by have:=(ha a h).1; omega
 have f1:=Al2 m.Factors b
 have al:(m.Atoms.length:Int)<=C8 m.Atoms:=by
  have key:∀l:List B5,(∀a∈l,1<=a.Deg)->(l.length:Int)<=C8 l:=by
   intro l
   induction l with
   | nil=>intro _; simp [C8]
   | cons f fs ih=>
    intro c
    have h1:=c f (by simp)
    have h2:=ih (fun g q=>c g (by simp [q]))
    unfold C8 at *
    simp only [List.map_cons,List.sum_cons,List.length_cons]; omega
  exact key _ fun a h=>(ha a h).1
 exact ⟨k,hf,by omega,fun a h=>⟨(ha a h).2.1,(ha a h).2.2,(ha a h).1,by have:=a3 a h; omega⟩⟩
def Gc (x:Bh) (m:A8):Prop:=Hc x.Data x.Vars x.Res m=true/\Dl m
theorem Gc.cmo {x:Bh} {m:A8} (h:Gc x m):CMo m:=Axu h.1 h.2
structure D3 (x:Bh) (p:List Ag):Prop where
 can:Ho x.Data x.Vars x.Res p=true
 sz:∀t∈p,TSz t
theorem D3.cp {x:Bh} {p:List Ag} (h:D3 x p):CP p:=(Aaq.1 h.can).2.1
theorem D3.mo {x:Bh} {p:List Ag} (h:D3 x p):∀t∈p,Gc x t.Mono:=fun t ht=>⟨(Aaq.1 h.can).2.2 t ht,(h.sz t ht).mo⟩
theorem D3.of {x:Bh} {p:List Ag} (hc:CP p) (b:∀t∈p,Gc x t.Mono) (c:∀t∈p,RB 1048576 t.Coef) (f:p.length<=1000):D3 x p :=
 ⟨Aaq.2 ⟨f,hc,fun t ht=>(b t ht).1⟩,fun t ht=>⟨c t ht,(b t ht).2⟩⟩
theorem D3.tb {x:Bh} {p:List Ag} (h:D3 x p):∀t∈p,RB 1048576 t.Coef/\Gc x t.Mono:=fun t ht=>⟨(h.sz t ht).co,h.mo t ht⟩
theorem Axv {x:Bh} (i:CSz x) (k:Fi x) {p q:List Ag} (hp:D3 x p) (hq:D3 x q):∃f,Ms x [p,q]=some (.inl (true,x,f,[],x.Data,x.Vars,x.Res.Kind,x.Res.Num,x.Res.Args)):=by
 have b:∀r∈[p,q],D3 x r:=by
  intro r c
  simp only [List.mem_cons,List.not_mem_nil,or_false] at c
  rcases c with rfl | rfl <;> assumption
 obtain ⟨r,h,g⟩:=Axt x i [p,q] (fun r c=>(b r c).sz) (by simp)
 rcases g with ⟨_,f,e,_⟩ | ⟨j,_⟩
 .exact ⟨f,by rw [h,e]⟩
 .exact (j ⟨k,fun r c=>(b r c).can⟩).elim
theorem Axw {r:Aq} {j k:Nat} (q:List Ag) (y:RB j r) (hq:∀t∈q,RB k t.Coef) (hj:j<34359738000) (hk:k<34359738000) (D:q.length<=1048576) :
  ∃x,Uq q r=some x/\x.length=q.length/\(∀m,cf x m=cf q m*rq r)/\∀t∈x,RB (k+j+2) t.Coef/\∃u∈q,u.Mono=t.Mono:=by
 unfold Uq
 refine Er (fun s=>∃(i:Nat) (o:List Ag),s=((i:Int),o)/\i<=q.length/\o.length=i/\(∀m,cf o m=cf (q.take i) m*rq r)/\∀t∈o,RB (k+j+2) t.Coef/\∃u∈q,u.Mono=t.Mono) (fun s=>q.length-s.1.toNat)
  (fun o=>o.length=q.length/\(∀m,cf o m=cf q m*rq r)/\∀t∈o,RB (k+j+2) t.Coef/\∃u∈q,u.Mono=t.Mono) ⟨0,[],rfl,by omega,rfl,(fun m=>by simp only [List.take_zero,cf]; grind),fun _ h=>by cases h⟩ ?_ ?_
 .rintro _ ⟨i,o,rfl,hi,l,b,g⟩
  rcases Nat.lt_or_ge i q.length with h | h
  .have hx:q[i]? = some q[i]:=Bn h
   generalize q[i]=t at hx
   have f:=Bo hx
   obtain ⟨c,B,A,E,z⟩:=Awi (hq t f) y hk hj
   simp only [Ak (by omega:(i:Int)<(q.length:Int)),cond_true,Ch rfl hx,Ad,B,Cz h (by omega)]
   rw [Cu (by simp; omega)]
   refine .inl ⟨_,rfl,⟨i+1,o++[⟨c,t.Mono⟩],rfl,by omega,by simp [l],fun m=>?_,fun w hw=>?_⟩,by simp; omega⟩
   .rw [I1,b,Cw hx,I1]
    simp only [cf,z]
    split <;> grind
   .rcases List.mem_append.1 hw with hw | hw
    .exact g w hw
    .simp only [List.mem_singleton] at hw
     subst hw
     exact ⟨A,t,f,rfl⟩
  .have:i=q.length:=by omega
   subst this
   rw [List.take_length] at b
   simp only [Al (by omega:¬(q.length:Int)<(q.length:Int)),cond_false]
   exact .inr ⟨_,rfl,l,b,g⟩
 .rintro o ⟨h1,h2,h3⟩
  exact ⟨_,rfl,h1,h2,h3⟩
open Classical in
theorem Axx {ts:List Ag} (hd:Dst ts) {t:Ag} (ht:t∈ts):cf ts t.Mono=rq t.Coef:=by
 induction ts with
 | nil=>cases ht
 | cons u ts ih=>
  obtain ⟨h1,h2⟩:=List.pairwise_cons.1 hd
  rw [Mh]
  have none:∀(l:List Ag) (m:A8),(∀w∈l,w.Mono≠m)->cf l m=0:=fun l m h=>Ts fun w hw e=>h w hw (Ga.1 e)
  rcases List.mem_cons.1 ht with rfl | ht
  .rw [if_pos rfl,none ts t.Mono (fun w hw e=>h1 w hw e.symm)]; grind
  .rw [if_neg (h1 t ht),ih h2 ht]; grind
theorem Axy:∃r,Ir (-1)=some r/\RB 1 r/\rq r = -1:=by
 refine ⟨_,Aea (-1) (by decide) (by decide),?_,?_⟩
 .exact Kl _ _ _ 1 (Jz (by decide)) (Jz (by decide)) (by omega)
 .rw [I0 _ _ _ (by decide)]; decide
end Go.Ab
