/- Plain laws: what the plain functions answer. -/
import Derived.Test.YtjjkmepjaemceaaGreatDoorBcPl2
import Derived.Test.YtjjkmepjaemceaaGreatDoorBcPl1
namespace Go.Ab
open Go
structure O1 (data:List A5) (vars:List Ao) (res:Ao):Prop where
 vd:Gi data
 sh:Hs data
 sz:∀v t,tyX vars res v=some t->Br t<=200
 nv:vars.length<=3000
theorem Ajr (vars:List Ao) (res:Ao) (v:Int):(tyX vars res v).isSome=decide (-1<=v/\v<vars.length):=by
 unfold tyX
 by_cases h:v = -1
 .rw [if_pos h]; subst h; rw [A4 (by omega)]; rfl
 .rw [if_neg h]
  cases hx:Au vars v with
  | none=>rcases M1 hx with h' | h' <;> rw [A8 (by omega)] <;> rfl
  | some t=>have:=Eo hx; rw [A4 (by omega)]; rfl
section
variable (b1:List (ByteArray×Int)) (b2:List (ByteArray×List D8)) (data:List A5) (vars:List Ao) (res:Ao)
theorem Ajs (v:Int) (r1 r2:Int) (b:List Ao):N8 v b1 b2 data vars r1 r2 b=some (tyX vars res v).isSome:=by
 rw [Ajr]
 unfold N8
 by_cases h:v>=-1
 .rw [A4 h]
  by_cases h':v<(vars.length:Int)
  .rw [A4 h',A4 ⟨h,h'⟩]; rfl
  .rw [A8 h',A8 (fun g=>h' g.2)]; rfl
 .rw [A8 h,A8 (fun g : -1<=v/\v<(vars.length:Int)=>h g.1)]; rfl
theorem Au6 {v:Int} {t:Ao} (b:tyX vars res v=some t):Mm v b1 b2 data vars res.Kind res.Num res.Args=some t:=by
 unfold Mm
 unfold tyX at b
 by_cases h:v = -1
 .rw [if_pos h] at b; cases b
  have c:(Ao.mk res.Kind res.Num res.Args)=res:=by cases res; rfl
  rw [Ct h,c]; rfl
 .rw [if_neg h] at b
  rw [Cg h,b]; rfl
def Tw (t:Fv):Bool:=match tyX vars res t.Var with | some u=>u.Kind==1 | none=>false
def Jz (l:Ey):Bool:=l.Terms.all (Tw vars res)
theorem Au7 (l:Ey) (f:l.Terms.length<=1048576):Ql l b1 b2 data vars res.Kind res.Num res.Args=some (Jz vars res l):=by
 unfold Ql U7 U8
 have key:=Abv l.Terms (fun t=>!Tw vars res t) (by omega) (J:=fun z=>match z with | .inl b=>some b | .inr _=>some (-1)) (step:=fun v3=>bif (decide (v3<(l.Terms.length:Int))) then ((Au l.Terms v3).bind fun v4=>(Qq v4 b1 b2 data vars res.Kind res.Num res.Args).bind fun v5=>bif v5 then some (.inr (.inl v3)) else some (.inl (Al (v3+1)))) else some (.inr (.inr ()))) (by
  intro j x hx h1 h2 h3
  have e:Qq x b1 b2 data vars res.Kind res.Num res.Args=some (!Tw vars res x):=by
   unfold Qq Tw
   rw [Ajs b1 b2 data vars res,Ap]
   cases c:tyX vars res x.Var with
   | none=>rfl
   | some t=>rw [Au6 b1 b2 data vars res c]; rfl
  simp only [h1,h2,h3,cond_true,Ap,e]) (fun h=>by simp only [h]; rfl) (fun _=>rfl) rfl
 obtain ⟨i,i1,i2⟩:=key
 erw [i1]
 simp only [Ap,i2]
 congr 1
 unfold Jz
 rw [List.any_eq_not_all_not]; simp
theorem Ajt (x:Cp) (v:Int):Nx x v=some (match tyX x.Vars x.Res v with | some t=>(t,true) | none=>(⟨0,0,[]⟩,false)):=by
 unfold Nx tyX
 by_cases h:v = -1
 .rw [Ct h,if_pos h]; rfl
 .rw [Cg h,if_neg h]
  cases hx:Au x.Vars v with
  | none=>
   rcases M1 hx with h' | h'
   .simp only [A4 h',cond_true,cond_false,Ap]
   .by_cases b:v<0
    .simp only [A4 b,cond_true,cond_false,Ap]
    .simp only [A8 b,A4 (show v>=(x.Vars.length:Int) from h'),cond_true,cond_false,Ap]
  | some t=>
   obtain ⟨a1,a2,_⟩:=Eo hx
   simp only [A8 (by omega:¬v<0),A8 (by omega:¬v>=(x.Vars.length:Int)),cond_false,Ap]
theorem Au8 (x:Cp) (l:Ey) (c:l.Terms.length<=1048576):Nz x l=some (Jz x.Vars x.Res l):=by
 unfold Nz
 refine (Jw l.Terms (Tw x.Vars x.Res) (fun j=>(j:Int)) rfl (by omega) (rt:=true) (rf:=false) ?_ ?_).trans (by rw [Jx]; rfl)
 .intro j t b h1 h2 h3
  simp only [h1,h2,h3,cond_true,Ap,Ajt]
  unfold Tw
  cases hu:tyX x.Vars x.Res t.Var with
  | none=>exact ⟨(fun h=>by cases h),fun _=>⟨.inl false,rfl,rfl⟩⟩
  | some u=>
   simp only [Dr,cond_false]
   by_cases hk:u.Kind=1
   .rw [Ct hk,C0 hk]
    exact ⟨fun _=>rfl,fun h=>by cases h⟩
   .rw [Cg hk,C7 hk]
    exact ⟨(fun h=>by cases h),fun _=>⟨.inl false,rfl,rfl⟩⟩
 .intro h; exact ⟨.inr (),by simp only [h]; rfl,rfl⟩
def E7 (f:D1):Int:=match tyX vars res f.Var with | some t=>Fw (F1 data f.Index t) | none => -1
theorem Ac2 (f:D1) : -1<=E7 data vars res f/\E7 data vars res f<=6:=by
 unfold E7
 cases tyX vars res f.Var with
 | none=>simp
 | some t=>rcases Acu (F1 data f.Index t) with ⟨h,_⟩ | ⟨d,_,h2,h⟩ <;> simp only [h] <;> omega
def M5 (m:C8):Bool:=m.Factors.all (fun f=>decide (0<=E7 data vars res f))&&m.Atoms.all (fun a=>decide (0<=a.Deg)&&Jz vars res a.Lin)
def D6 (l:List D1):Int:=(l.map (E7 data vars res)).sum
def Ff (l:List Ek):Int:=(l.map (·.Deg)).sum
def Tx (l:List Ek) (x:Ek) (j:Nat):Bool:=j==0||(match l[j-1]? with | some y=>decide (Mb y.Lin x.Lin<0) | none=>false)
def O2 (l:List D1) (f:D1) (j:Nat):Bool:=decide (1<=E7 data vars res f)&&Ky (·.Var) l f j
def Kz (l:List Ek) (a:Ek) (j:Nat):Bool:=decide (1<=a.Deg)&&O0 a.Lin && !(a.Lin.Terms.length==0)&&Jz vars res a.Lin&&Tx l a j
def Iu (m:C8):Bool:=m.Factors.zipIdx.all (fun q=>O2 data vars res m.Factors q.1 q.2)&&m.Atoms.zipIdx.all (fun q=>Kz vars res m.Atoms q.1 q.2)&&decide (D6 data vars res m.Factors+Ff m.Atoms<=6)
variable {b1 data vars res}
theorem Ac3 (hc:O1 data vars res) (j:F8 data vars res b1) (f:D1) (h:I64 f.Var) (i:iR f.Index) (hi:isz f.Index<=1048576) (b:(tyX vars res f.Var).isSome=true) :
  ∃g,Kk f.Var f.Index b1 b2 data vars res.Kind res.Num res.Args=some (E7 data vars res f,g)/\F8 data vars res g:=by
 cases c:tyX vars res f.Var with
 | none=>rw [c] at b; cases b
 | some t=>
  obtain ⟨g,h1,h2⟩:=Auy hc.vd.szv hc.sh b1 b2 vars res j f.Var f.Index t c (hc.sz _ _ c) h i hi
  refine ⟨g,?_,h2⟩
  rw [h1]; unfold E7; rw [c]
theorem Au9 (hc:O1 data vars res) (N:F8 data vars res b1) (m:C8) (k:MSz m) :
  ∃l,Sx m b1 b2 data vars res.Kind res.Num res.Args=some (M5 data vars res m,l)/\F8 data vars res l:=by
 have U:=k.nf
 have ha:=k.na
 unfold Sx
 refine Abo (fun l=>(M5 data vars res m,l)) ?_
 obtain ⟨r,r1,r2⟩:=Vi (M:=List (ByteArray×Int)) (R:=Bool×List (ByteArray×Int)) m.Factors (fun q=>decide (0<=E7 data vars res q.1)) (fun j o=>((j:Int),o)) (F8 data vars res)
  (fun r=>F8 data vars res r.2/\r.1=m.Atoms.all (fun a=>decide (0<=a.Deg)&&Jz vars res a.Lin)) (fun r=>F8 data vars res r.2/\r.1=false) b1
  (s0:=((0:Int),b1))
  (step:=(fun (A,x)=>
   bif (decide (A<(m.Factors.length:Int))) then (
   (Au m.Factors A).bind fun v8=>
   (N8 v8.Var x b2 data vars res.Kind res.Num res.Args).bind fun v10=>
   bif (!v10) then some (.inr (.inl (false,x)))
   else (
   (Kk v8.Var v8.Index x b2 data vars res.Kind res.Num res.Args).bind fun c=>
   bif (decide (c.1<(0:Int))) then some (.inr (.inl (false,c.2)))
   else some (.inl ((Al (A+1)),c.2))))
   else some (.inr (.inr x)):Int×List (ByteArray×Int)->Option ((Int×List (ByteArray×Int))⊕((Bool×List (ByteArray×Int))⊕List (ByteArray×Int)))))
  (J:=(fun z=>match z with
   | .inl (I,G)=>some (I,G)
   | .inr b=>(Bc (S:=Int) (E:=((Bool×(List (ByteArray×Int)))⊕Unit)) (fun v18=>
     bif (decide (v18<(m.Atoms.length:Int))) then (
     (Au m.Atoms v18).bind fun s=>
     bif (decide (s.Deg<(0:Int))) then some (.inr (.inl (false,b)))
     else (
     (Ql s.Lin b b2 data vars res.Kind res.Num res.Args).bind fun v21=>
     bif (!v21) then some (.inr (.inl (false,b)))
     else some (.inl (Al (v18+1)))))
     else some (.inr (.inr ()))) 0).bind fun z=>match z with
      | .inl (D,B)=>some (D,B)
      | .inr _=>some (true,b)))
  rfl N (by omega) (by
   intro j f o y hx _ h1 h2 h3
   have i:=Cq hx
   simp only [h1,h2,h3,cond_true,Ap,Ajs o b2 data vars res]
   cases g:(tyX vars res f.Var).isSome with
   | false=>
    have e:E7 data vars res f = -1:=by
     unfold E7
     cases L:tyX vars res f.Var with
     | none=>rfl
     | some t=>rw [L] at g; cases g
    rw [e]
    exact ⟨(fun h=>by cases h),fun _=>⟨_,rfl,_,rfl,y,rfl⟩⟩
   | true=>
    obtain ⟨l,d1,d2⟩:=Ac3 b2 hc y f (k.fr f i).2 (k.fr f i).1 (k.fi f i) g
    simp only [Dr,cond_false,d1,Ap]
    by_cases u:0<=E7 data vars res f
    .rw [A4 u,A8 (by omega)]
     exact ⟨fun _=>⟨l,rfl,d2⟩,fun h=>by cases h⟩
    .rw [A8 u,A4 (by omega)]
     exact ⟨(fun h=>by cases h),fun _=>⟨_,rfl,_,rfl,d2,rfl⟩⟩) (by
   intro o y h1 _
   refine ⟨.inr o,by simp only [h1]; rfl,?_⟩
   refine ⟨(m.Atoms.all (fun a=>decide (0<=a.Deg)&&Jz vars res a.Lin),o),?_,y,rfl⟩
   refine (Jw m.Atoms (fun a=>decide (0<=a.Deg)&&Jz vars res a.Lin) (fun j=>(j:Int)) rfl (by omega) (rt:=(true,o)) (rf:=(false,o)) ?_ ?_).trans (by cases m.Atoms.all (fun a=>decide (0<=a.Deg)&&Jz vars res a.Lin) <;> rfl)
   .intro j a hx h1 h2 h3
    simp only [h1,h2,h3,cond_true,Ap,Au7 o b2 data vars res a.Lin (k.al a (Cq hx))]
    by_cases u:0<=a.Deg
    .rw [A4 u,A8 (by omega)]
     cases Jz vars res a.Lin with
     | true=>exact ⟨fun _=>rfl,fun h=>by cases h⟩
     | false=>exact ⟨(fun h=>by cases h),fun _=>⟨_,rfl,rfl⟩⟩
    .rw [A8 u,A4 (by omega)]
     exact ⟨(fun h=>by cases h),fun _=>⟨_,rfl,rfl⟩⟩
   .intro h; exact ⟨.inr (),by simp only [h]; rfl,rfl⟩)
 refine ⟨r,r1,r.2,?_,?_⟩
 .unfold M5
  rw [<-X3]
  rcases r2 with ⟨h1,h2,h3⟩ | ⟨h1,h2,h3⟩
  .rw [h1,Bool.true_and,<-h3]
  .rw [h1,Bool.false_and,<-h3]
 .rcases r2 with ⟨h1,h2,h3⟩ | ⟨h1,h2,h3⟩ <;> exact h2
theorem Aju (g:D1->Int) {l:List D1} {j:Nat} {x:D1} (h:l[j]? = some x):((l.take (j+1)).map g).sum=((l.take j).map g).sum+g x:=by
 rw [D7 h]; simp
theorem Ajv {l:List Ek} {j:Nat} {x:Ek} (h:l[j]? = some x):Ff (l.take (j+1))=Ff (l.take j)+x.Deg:=by
 unfold Ff; rw [D7 h]; simp
theorem Ava (hc:O1 data vars res) (D:F8 data vars res b1) (m:C8) (k:MSz m) (hp:M5 data vars res m=true) :
  ∃p:Int×List (ByteArray×Int),Sy m b1 b2 data vars res.Kind res.Num res.Args=some p/\(decide (p.1>6) = !decide (D6 data vars res m.Factors+Ff m.Atoms<=6))/\F8 data vars res p.2:=by
 have G:=k.nf
 have ha:=k.na
 unfold M5 at hp
 rw [Dl,List.all_eq_true,List.all_eq_true] at hp
 unfold Sy
 refine E3 (fun (v5,u,g)=>∃j:Nat,u=j/\j<=m.Factors.length/\F8 data vars res g/\0<=v5/\v5<=12/\(v5=D6 data vars res (m.Factors.take j)\/(6<v5/\6<D6 data vars res (m.Factors.take j)))) (fun (_,u,_)=>m.Factors.length-u.toNat)
  (fun (v5,g)=>F8 data vars res g/\0<=v5/\v5<=12/\(v5=D6 data vars res m.Factors\/(6<v5/\6<D6 data vars res m.Factors))) ⟨0,rfl,by omega,D,by omega,by omega,.inl (by simp [D6])⟩ ?_ ?_
 .rintro ⟨v5,u,g⟩ ⟨j,rfl,hj,q,x,h12,l⟩
  rcases Nat.lt_or_ge j m.Factors.length with h | h
  .have hx:m.Factors[j]? = some m.Factors[j]:=Cv h
   generalize m.Factors[j]=f at hx
   have c:=Cq hx
   have hd:=hp.1 f c
   rw [decide_eq_true_eq] at hd
   have E:=(Ac2 data vars res f).2
   have es:D6 data vars res (m.Factors.take (j+1))=D6 data vars res (m.Factors.take j)+E7 data vars res f:=Aju _ hx
   simp only [A4 (by omega:(j:Int)<(m.Factors.length:Int)),cond_true,Cs rfl hx,Ap,D3 h (by omega)]
   by_cases s:v5<=6
   .have y:(tyX vars res f.Var).isSome=true:=by
     unfold E7 at hd
     cases B:tyX vars res f.Var with
     | none=>rw [B] at hd; have hd:(0:Int)<=-1:=hd; omega
     | some t=>rfl
    obtain ⟨I,d1,d2⟩:=Ac3 b2 hc q f (k.fr f c).2 (k.fr f c).1 (k.fi f c) y
    rw [A4 s]
    simp only [cond_true,d1,Ap]
    have b:Al (v5+E7 data vars res f)=v5+E7 data vars res f:=by rw [Al,Cl] <;> omega
    exact .inl ⟨_,rfl,⟨j+1,rfl,by omega,d2,by simp only [b]; omega,by simp only [b]; omega,by simp only [b,es]; omega⟩,by simp; omega⟩
   .rw [A8 s]
    exact .inl ⟨_,rfl,⟨j+1,rfl,by omega,q,x,h12,by simp only [es]; omega⟩,by simp; omega⟩
  .have:j=m.Factors.length:=by omega
   subst this
   rw [List.take_length] at l
   exact .inr ⟨(v5,g),by simp,q,x,h12,l⟩
 .rintro ⟨v5,g⟩ ⟨q,x,h12,l⟩
  simp only
  refine E3 (fun (v,i)=>∃j:Nat,i=j/\j<=m.Atoms.length/\0<=v/\v<=13/\(v=D6 data vars res m.Factors+Ff (m.Atoms.take j)\/(6<v/\6<D6 data vars res m.Factors+Ff (m.Atoms.take j)))) (fun (_,i)=>m.Atoms.length-i.toNat)
   (fun v=>(v=D6 data vars res m.Factors+Ff m.Atoms\/(6<v/\6<D6 data vars res m.Factors+Ff m.Atoms))) ⟨0,rfl,by omega,x,by omega,by simpa [Ff] using l⟩ ?_ ?_
  .rintro ⟨v,i⟩ ⟨j,rfl,hj,g0,g13,A⟩
   rcases Nat.lt_or_ge j m.Atoms.length with h | h
   .have hx:m.Atoms[j]? = some m.Atoms[j]:=Cv h
    generalize m.Atoms[j]=a at hx
    have hd:=hp.2 a (Cq hx)
    rw [Dl,decide_eq_true_eq] at hd
    have es:=Ajv hx
    simp only [A4 (by omega:(j:Int)<(m.Atoms.length:Int)),cond_true,Cs rfl hx,Ap,D3 h (by omega)]
    by_cases s:v<=6
    .rw [A4 s]
     simp only [cond_true]
     by_cases z:7<a.Deg
     .rw [if_pos z]
      have b:Al (v+7)=v+7:=by rw [Al,Cl] <;> omega
      exact .inl ⟨_,rfl,⟨j+1,rfl,by omega,by simp only [b]; omega,by simp only [b]; omega,by simp only [b,es]; omega⟩,by simp; omega⟩
     .rw [if_neg z]
      have b:Al (v+a.Deg)=v+a.Deg:=by rw [Al,Cl] <;> omega
      exact .inl ⟨_,rfl,⟨j+1,rfl,by omega,by simp only [b]; omega,by simp only [b]; omega,by simp only [b,es]; omega⟩,by simp; omega⟩
    .rw [A8 s]
     exact .inl ⟨_,rfl,⟨j+1,rfl,by omega,g0,g13,by simp only [es]; omega⟩,by simp; omega⟩
   .have:j=m.Atoms.length:=by omega
    subst this
    rw [List.take_length] at A
    exact .inr ⟨v,by simp,A⟩
  .intro v l
   refine ⟨(v,g),rfl,?_,q⟩
   by_cases h:D6 data vars res m.Factors+Ff m.Atoms<=6
   .rw [A4 h,A8 (by simp only; omega)]; rfl
   .rw [A8 h,A4 (by simp only; omega)]; rfl
end
end Go.Ab
namespace Go.Ab
open Go
theorem Ajw {S E:Type} (F:Ey->Ey->Option Int) (l:List Ek) (f:∀y∈l,∀x,F y.Lin x=some (Mb y.Lin x)) {x:Ek} {j:Nat} (hx:l[j]? = some x) (i:l.length<4611686018427387904) (c b:Option (S⊕E)) :
  (bif decide ((j:Int)>0) then ((Au l (Al ((j:Int)-1))).bind fun v13=>(F v13.Lin x.Lin).bind fun v28=>bif decide (v28>=0) then c else b) else b)=bif Tx l x j then b else c:=by
 have hj:=Em hx
 unfold Tx
 by_cases h:j=0
 .subst h; rfl
 .rw [A4 (by omega)]
  have e:Al ((j:Int)-1)=((j-1:Nat):Int):=by rw [Al,Cl] <;> omega
  have hy:l[j-1]? = some l[j-1]:=Cv (by omega)
  rw [e,Cs rfl hy,hy]
  have g:(j==0)=false:=by simpa using h
  simp only [cond_true,Ap,g,Bool.false_or,f _ (List.getElem_mem (by omega:j-1<l.length))]
  by_cases hc:Mb l[j-1].Lin x.Lin<0
  .rw [A8 (by omega),A4 hc]; rfl
  .rw [A4 (by omega),A8 hc]; rfl
section
variable {b1:List (ByteArray×Int)} (b2:List (ByteArray×List D8)) {data:List A5} {vars:List Ao} {res:Ao}
def V1 (data:List A5) (vars:List Ao) (res:Ao) (l:List D1) (f:D1) (j:Nat):Bool:=!(E7 data vars res f==0)&&Ky (·.Var) l f j
def O3 (l:List Ek) (a:Ek) (j:Nat):Bool:=!(a.Deg==0)&&O0 a.Lin && !(a.Lin.Terms.length==0)&&Tx l a j
theorem Avb (m:C8):Iu data vars res m=(M5 data vars res m&&decide (D6 data vars res m.Factors+Ff m.Atoms<=6)&&m.Factors.zipIdx.all (fun q=>V1 data vars res m.Factors q.1 q.2)&&m.Atoms.zipIdx.all (fun q=>O3 m.Atoms q.1 q.2)):=by
 rw [Bool.eq_iff_iff]
 unfold Iu M5
 rw [<-X3 m.Factors (fun f=>decide (0<=E7 data vars res f)),<-X3 m.Atoms (fun a=>decide (0<=a.Deg)&&Jz vars res a.Lin)]
 simp only [Dl,List.all_eq_true,O2,Kz,V1,O3,decide_eq_true_eq,Bool.not_eq_true',beq_eq_false_iff_ne,ne_eq]
 constructor
 .rintro ⟨⟨h1,h2⟩,h3⟩
  refine ⟨⟨⟨⟨fun q b=>?_,fun q b=>?_⟩,h3⟩,fun q b=>?_⟩,fun q b=>?_⟩
  .have:=(h1 q b).1; omega
  .have:=h2 q b; exact ⟨by omega,this.1.2⟩
  .have:=h1 q b; exact ⟨by omega,this.2⟩
  .have:=h2 q b; exact ⟨⟨⟨by omega,this.1.1.1.2⟩,this.1.1.2⟩,this.2⟩
 .rintro ⟨⟨⟨⟨h1,h2⟩,h3⟩,h⟩,c⟩
  refine ⟨⟨fun q b=>?_,fun q b=>?_⟩,h3⟩
  .have:=h1 q b; have g:=h q b; exact ⟨by omega,g.2⟩
  .have:=h2 q b; have g:=c q b; exact ⟨⟨⟨⟨by omega,g.1.1.2⟩,g.1.2⟩,this.2⟩,g.2⟩
theorem Avc (hc:O1 data vars res) (hm:F8 data vars res b1) (m:C8) (g:MSz m) :
  ∃u,P6 m b1 b2 data vars res.Kind res.Num res.Args=some (Iu data vars res m,u)/\F8 data vars res u:=by
 have hf:=g.nf
 have ha:=g.na
 rw [Avb]
 unfold P6
 obtain ⟨b,p1,X⟩:=Au9 b2 hc hm m g
 rw [p1]
 cases hp:M5 data vars res m with
 | false=>exact ⟨b,rfl,X⟩
 | true=>
  obtain ⟨q,q1,Y,V⟩:=Ava b2 hc X m g hp
  simp only [Ap,Dr,cond_false,q1,Y]
  cases hs:decide (D6 data vars res m.Factors+Ff m.Atoms<=6) with
  | false=>exact ⟨q.2,rfl,V⟩
  | true=>
   simp only [Dr,cond_false,Bool.true_and]
   have N:∀f∈m.Factors,(tyX vars res f.Var).isSome=true:=by
    intro f c
    unfold M5 at hp
    rw [Dl,List.all_eq_true] at hp
    have hd:=hp.1 f c
    rw [decide_eq_true_eq] at hd
    unfold E7 at hd
    cases ht:tyX vars res f.Var with
    | none=>rw [ht] at hd; have hd:(0:Int)<=-1:=hd; omega
    | some t=>rfl
   obtain ⟨r,r1,r2⟩:=Vi (M:=List (ByteArray×Int)) (R:=Bool×List (ByteArray×Int)) m.Factors (fun q=>V1 data vars res m.Factors q.1 q.2) (fun j o=>((j:Int),o)) (F8 data vars res)
    (fun r=>F8 data vars res r.2/\r.1=m.Atoms.zipIdx.all (fun q=>O3 m.Atoms q.1 q.2)) (fun r=>F8 data vars res r.2/\r.1=false) q.2
    (s0:=((0:Int),q.2))
    (step:=(fun (v9,l)=>
     bif (decide (v9<(m.Factors.length:Int))) then (
     (Au m.Factors v9).bind fun i=>
     (Kk i.Var i.Index l b2 data vars res.Kind res.Num res.Args).bind fun v13=>
     bif (v13.1==(0:Int)) then some (.inr (.inl (false,v13.2)))
     else (
     bif (decide (v9>(0:Int))) then (
     (Au m.Factors (Al (v9-1))).bind fun B=>
     bif (decide (B.Var>=i.Var)) then some (.inr (.inl (false,v13.2)))
     else some (.inl ((Al (v9+1)),v13.2)))
     else some (.inl ((Al (v9+1)),v13.2))))
     else some (.inr (.inr l)):Int×List (ByteArray×Int)->Option ((Int×List (ByteArray×Int))⊕((Bool×List (ByteArray×Int))⊕List (ByteArray×Int)))))
    (J:=(fun z=>match z with
     | .inl (L,I)=>some (L,I)
     | .inr k=>(Bc (S:=Int) (E:=((Bool×(List (ByteArray×Int)))⊕Unit)) (fun v22=>
       bif (decide (v22<(m.Atoms.length:Int))) then (
       (Au m.Atoms v22).bind fun v23=>
       (show Option Bool from
       bif (v23.Deg==(0:Int)) then some true
       else (
       (Qg v23.Lin).bind fun v25=>
       bif (!v25) then some true
       else some ((v23.Lin.Terms.length:Int)==(0:Int)))).bind fun v26=>
       bif v26 then some (.inr (.inl (false,k)))
       else (
       bif (decide (v22>(0:Int))) then (
       (Au m.Atoms (Al (v22-1))).bind fun A=>
       (Ms A.Lin v23.Lin).bind fun v28=>
       bif (decide (v28>=(0:Int))) then some (.inr (.inl (false,k)))
       else some (.inl (Al (v22+1))))
       else some (.inl (Al (v22+1)))))
       else some (.inr (.inr ()))) 0).bind fun z=>match z with
        | .inl (G,D)=>some (G,D)
        | .inr _=>some (true,k)))
    rfl V (by omega) (by
     intro j f o U hx _ h1 h2 h3
     have c:=Cq hx
     obtain ⟨u,d1,d2⟩:=Ac3 b2 hc U f (g.fr f c).2 (g.fr f c).1 (g.fi f c) (N f c)
     simp only [h1,h2,h3,cond_true,Ap,d1,Ac1 (·.Var) m.Factors hx (by omega),V1]
     cases (E7 data vars res f==0) with
     | true=>exact ⟨(fun h=>by cases h),fun _=>⟨_,rfl,_,rfl,d2,rfl⟩⟩
     | false=>
      cases Ky (·.Var) m.Factors f j with
      | true=>exact ⟨fun _=>⟨u,rfl,d2⟩,fun h=>by cases h⟩
      | false=>exact ⟨(fun h=>by cases h),fun _=>⟨_,rfl,_,rfl,d2,rfl⟩⟩) (by
     intro o U h1 _
     refine ⟨.inr o,by simp only [h1]; rfl,?_⟩
     refine ⟨(m.Atoms.zipIdx.all (fun q=>O3 m.Atoms q.1 q.2),o),?_,U,rfl⟩
     refine (Kr m.Atoms (fun q=>O3 m.Atoms q.1 q.2) (fun j=>(j:Int)) rfl (by omega) (rt:=(true,o)) (rf:=(false,o)) ?_ ?_).trans (by cases m.Atoms.zipIdx.all (fun q=>O3 m.Atoms q.1 q.2) <;> rfl)
     .intro j a hx _ h1 h2 h3
      have s:((a.Lin.Terms.length:Int)==(0:Int))=(a.Lin.Terms.length==0):=Acb a.Lin.Terms 0
      simp only [h1,h2,h3,cond_true,Ap,Au4,Ajw Ms m.Atoms (fun y hy x=>Ajn y.Lin x (by have:=g.al y hy; omega)) hx (by omega),O3,s]
      cases (a.Deg==0) with
      | true=>exact ⟨(fun h=>by cases h),fun _=>⟨_,rfl,rfl⟩⟩
      | false=>
       cases O0 a.Lin with
       | false=>exact ⟨(fun h=>by cases h),fun _=>⟨_,rfl,rfl⟩⟩
       | true=>
        cases (a.Lin.Terms.length==0) with
        | true=>exact ⟨(fun h=>by cases h),fun _=>⟨_,rfl,rfl⟩⟩
        | false=>
         cases Tx m.Atoms a j with
         | true=>exact ⟨fun _=>rfl,fun h=>by cases h⟩
         | false=>exact ⟨(fun h=>by cases h),fun _=>⟨_,rfl,rfl⟩⟩
     .intro h _; exact ⟨.inr (),by simp only [h]; rfl,rfl⟩)
   refine ⟨r.2,?_,?_⟩
   .have e:some r=some (m.Factors.zipIdx.all (fun q=>V1 data vars res m.Factors q.1 q.2)&&m.Atoms.zipIdx.all (fun q=>O3 m.Atoms q.1 q.2),r.2):=by
     rcases r2 with ⟨h1,h2,h3⟩ | ⟨h1,h2,h3⟩
     .rw [h1,Bool.true_and,<-h3]
     .rw [h1,Bool.false_and,<-h3]
    rw [<-e]
    exact r1
   .rcases r2 with ⟨h1,h2,h3⟩ | ⟨h1,h2,h3⟩ <;> exact h2
theorem Ajx (l:List D1):D6 data vars res l<=6*l.length/\-(l.length:Int)<=D6 data vars res l:=by
 induction l with
 | nil=>simp [D6]
 | cons x xs ih=>
  have:=Ac2 data vars res x
  unfold D6 at *
  simp only [List.map_cons,List.sum_cons,List.length_cons]
  omega
theorem Avd (l:List D1) (h:∀f∈l,0<=E7 data vars res f):0<=D6 data vars res l:=by
 induction l with
 | nil=>simp [D6]
 | cons x xs ih=>
  have h1:=h x (by simp)
  have h2:=ih (fun f b=>h f (by simp [b]))
  unfold D6 at *
  simp only [List.map_cons,List.sum_cons]
  omega
theorem Y2 (l:List Ek) (h:∀a∈l,0<=a.Deg):0<=Ff l/\((∀a∈l,a.Deg<=6)->Ff l<=6*l.length)/\∀a∈l,a.Deg<=Ff l:=by
 induction l with
 | nil=>simp [Ff]
 | cons x xs ih=>
  have h1:=h x (by simp)
  obtain ⟨i1,i2,i3⟩:=ih (fun f b=>h f (by simp [b]))
  unfold Ff at *
  simp only [List.map_cons,List.sum_cons,List.length_cons]
  refine ⟨by omega,fun g=>?_,fun a ha=>?_⟩
  .have:=g x (by simp)
   have:=i2 (fun a ha=>g a (by simp [ha]))
   omega
  .rcases List.mem_cons.1 ha with rfl | ha
   .omega
   .have:=i3 a ha; omega
end
theorem Ave {x:Cp} (hc:O1 x.Data x.Vars x.Res) (m:C8) (D:MSz m):∃v,Se x m=some v/\decide (v<0) = !Iu x.Data x.Vars x.Res m:=by
 have hf:=D.nf
 have ha:=D.na
 unfold Se
 have N:∀n,m.Factors.zipIdx.all (fun q=>O2 x.Data x.Vars x.Res m.Factors q.1 q.2)=true->0<=D6 x.Data x.Vars x.Res (m.Factors.take n):=by
  intro n h
  refine Avd _ (fun f hf=>?_)
  obtain ⟨j,hj⟩:=List.getElem?_of_mem (List.mem_of_mem_take hf)
  have:=Hg h hj
  simp only [O2,Dl,decide_eq_true_eq] at this
  omega
 have U:m.Factors.zipIdx.all (fun q=>O2 x.Data x.Vars x.Res m.Factors q.1 q.2)=false->Iu x.Data x.Vars x.Res m=false:=by
  intro h; unfold Iu; rw [h]; rfl
 obtain ⟨r,r1,r2⟩:=Vi (M:=Unit) (R:=Int) m.Factors (fun q=>O2 x.Data x.Vars x.Res m.Factors q.1 q.2) (fun j _=>(D6 x.Data x.Vars x.Res (m.Factors.take j),(j:Int))) (fun _=>True)
  (fun v=>decide (v<0) = !Iu x.Data x.Vars x.Res m) (fun v=>v = -1) ()
  (s0:=((0:Int),(0:Int)))
  (step:=(fun (v9,v10)=>
   bif (decide (v10<(m.Factors.length:Int))) then (
   (Au m.Factors v10).bind fun s=>
   (Nx x s.Var).bind fun v13=>
   (show Option Bool from
   bif (!v13.2) then some true
   else (
   bif (decide (v10>(0:Int))) then (
   (Au m.Factors (Al (v10-1))).bind fun v15=>
   some (decide (v15.Var>=s.Var)))
   else some false)).bind fun v16=>
   bif v16 then some (.inr (.inl (-1)))
   else (
   (P5 x.Data v13.1 s.Index).bind fun v17=>
   bif (decide (v17<(1:Int))) then some (.inr (.inl (-1)))
   else some (.inl ((Al (v9+v17)),(Al (v10+1))))))
   else some (.inr (.inr v9)):Int×Int->Option ((Int×Int)⊕(Int⊕Int))))
  (J:=(fun z=>match z with
   | .inl Y=>some Y
   | .inr X=>(Bc (S:=(Int×Int)) (E:=(Int⊕Int)) (fun (v24,v25)=>
     bif (decide (v25<(m.Atoms.length:Int))) then (
     (Au m.Atoms v25).bind fun v26=>
     (Ny v26.Lin).bind fun v28=>
     bif (!v28) then some (.inr (.inl (-1)))
     else (
     bif ((v26.Lin.Terms.length:Int)==(0:Int)) then some (.inr (.inl (-1)))
     else (
     (Nz x v26.Lin).bind fun l=>
     bif (!l) then some (.inr (.inl (-1)))
     else (
     bif (decide (v25>(0:Int))) then (
     (Au m.Atoms (Al (v25-1))).bind fun k=>
     (Lq k.Lin v26.Lin).bind fun v31=>
     bif (decide (v31>=(0:Int))) then some (.inr (.inl (-1)))
     else (
     bif (decide (v26.Deg<(1:Int))) then some (.inr (.inl (-1)))
     else (
     bif (decide (v26.Deg>(6:Int))) then some (.inr (.inl (-1)))
     else some (.inl ((Al (v24+v26.Deg)),(Al (v25+1)))))))
     else (
     bif (decide (v26.Deg<(1:Int))) then some (.inr (.inl (-1)))
     else (
     bif (decide (v26.Deg>(6:Int))) then some (.inr (.inl (-1)))
     else some (.inl ((Al (v24+v26.Deg)),(Al (v25+1))))))))))
     else some (.inr (.inr v24))) (X,0)).bind fun z=>match z with
      | .inl u=>some u
      | .inr c=>bif (decide (c>(6:Int))) then some (-1) else some c))
  (by simp [D6]) trivial (by omega) (by
   intro j f _ _ hx _ h1 h2 h3
   have a8:=Cq hx
   have hj:=Em hx
   have a1:(bif decide ((j:Int)>0) then ((Au m.Factors (Al ((j:Int)-1))).bind fun v15=>some (decide (v15.Var>=f.Var))) else some false)=some (!Ky (·.Var) m.Factors f j):=by
    unfold Ky
    by_cases h:j=0
    .subst h; rfl
    .rw [A4 (by omega)]
     have e:Al ((j:Int)-1)=((j-1:Nat):Int):=by rw [Al,Cl] <;> omega
     have hy:m.Factors[j-1]? = some m.Factors[j-1]:=Cv (by omega)
     rw [e,Cs rfl hy,hy]
     have h0:(j==0)=false:=by simpa using h
     simp only [cond_true,Ap,h0,Bool.false_or]
     by_cases hc:m.Factors[j-1].Var<f.Var
     .rw [A8 (by omega),A4 hc]; rfl
     .rw [A4 (by omega),A8 hc]; rfl
   have es:D6 x.Data x.Vars x.Res (m.Factors.take (j+1))=D6 x.Data x.Vars x.Res (m.Factors.take j)+E7 x.Data x.Vars x.Res f:=Aju _ hx
   have hb:=Ajx (data:=x.Data) (vars:=x.Vars) (res:=x.Res) (m.Factors.take j)
   have ae:(m.Factors.take j).length<=1048576:=by simp; omega
   have ac:=Ac2 x.Data x.Vars x.Res f
   simp only [h1,h2,h3,cond_true,Ap,Ajt,O2,es]
   cases ht:tyX x.Vars x.Res f.Var with
   | none=>
    have e:E7 x.Data x.Vars x.Res f = -1:=by unfold E7; rw [ht]
    rw [e]
    exact ⟨(fun h=>by cases h),fun _=>⟨.inl (-1),rfl,_,rfl,rfl⟩⟩
   | some t=>
    have e:E7 x.Data x.Vars x.Res f=Fw (F1 x.Data f.Index t):=by unfold E7; rw [ht]
    simp only [Dr,cond_false,a1,Ap,Auk hc.vd hc.sh t f.Index (hc.sz _ _ ht) (D.fi f a8),<-e]
    cases aa:Ky (·.Var) m.Factors f j with
    | false=>exact ⟨(fun h=>by simp at h),fun _=>⟨.inl (-1),rfl,_,rfl,rfl⟩⟩
    | true=>
     simp only [Dr,cond_false,Bool.and_true]
     by_cases h1:1<=E7 x.Data x.Vars x.Res f
     .rw [A4 h1,A8 (by omega)]
      refine ⟨fun _=>⟨(),?_,trivial⟩,fun h=>by cases h⟩
      simp only [cond_false]
      rw [show Al (D6 x.Data x.Vars x.Res (m.Factors.take j)+E7 x.Data x.Vars x.Res f)=D6 x.Data x.Vars x.Res (m.Factors.take j)+E7 x.Data x.Vars x.Res f by rw [Al,Cl] <;> omega]
     .rw [A8 h1,A4 (by omega)]
      exact ⟨(fun h=>by cases h),fun _=>⟨.inl (-1),rfl,_,rfl,rfl⟩⟩) (by
   intro _ _ h1 g
   have a7:=N m.Factors.length g
   have ad:=Ajx (data:=x.Data) (vars:=x.Vars) (res:=x.Res) m.Factors
   rw [List.take_length] at a7
   refine ⟨.inr (D6 x.Data x.Vars x.Res m.Factors),by simp,?_⟩
   obtain ⟨w,w1,w2⟩:=Vi (M:=Unit) (R:=Int) m.Atoms (fun q=>Kz x.Vars x.Res m.Atoms q.1 q.2&&decide (q.1.Deg<=6)) (fun j _=>(D6 x.Data x.Vars x.Res m.Factors+Ff (m.Atoms.take j),(j:Int))) (fun _=>True)
    (fun v=>decide (v<0) = !decide (D6 x.Data x.Vars x.Res m.Factors+Ff m.Atoms<=6)) (fun v=>v = -1) ()
    (s0:=(D6 x.Data x.Vars x.Res m.Factors,(0:Int)))
    (step:=(fun (v24,v25)=>
     bif (decide (v25<(m.Atoms.length:Int))) then (
     (Au m.Atoms v25).bind fun v26=>
     (Ny v26.Lin).bind fun v28=>
     bif (!v28) then some (.inr (.inl (-1)))
     else (
     bif ((v26.Lin.Terms.length:Int)==(0:Int)) then some (.inr (.inl (-1)))
     else (
     (Nz x v26.Lin).bind fun l=>
     bif (!l) then some (.inr (.inl (-1)))
     else (
     bif (decide (v25>(0:Int))) then (
     (Au m.Atoms (Al (v25-1))).bind fun k=>
     (Lq k.Lin v26.Lin).bind fun v31=>
     bif (decide (v31>=(0:Int))) then some (.inr (.inl (-1)))
     else (
     bif (decide (v26.Deg<(1:Int))) then some (.inr (.inl (-1)))
     else (
     bif (decide (v26.Deg>(6:Int))) then some (.inr (.inl (-1)))
     else some (.inl ((Al (v24+v26.Deg)),(Al (v25+1)))))))
     else (
     bif (decide (v26.Deg<(1:Int))) then some (.inr (.inl (-1)))
     else (
     bif (decide (v26.Deg>(6:Int))) then some (.inr (.inl (-1)))
     else some (.inl ((Al (v24+v26.Deg)),(Al (v25+1))))))))))
     else some (.inr (.inr v24)):Int×Int->Option ((Int×Int)⊕(Int⊕Int))))
    (J:=(fun z=>match z with
      | .inl u=>some u
      | .inr c=>bif (decide (c>(6:Int))) then some (-1) else some c))
    (by simp [Ff]) trivial (by omega) (by
     intro j a _ _ hx A h1 h2 h3
     have G:((a.Lin.Terms.length:Int)==(0:Int))=(a.Lin.Terms.length==0):=Acb a.Lin.Terms 0
     have es:=Ajv hx
     have af:0<=Ff (m.Atoms.take j)/\Ff (m.Atoms.take j)<=6*1048576:=by
      have I:∀b∈m.Atoms.take j,1<=b.Deg/\b.Deg<=6:=by
       intro b hb
       obtain ⟨i,hi⟩:=List.getElem?_of_mem hb
       have a6:=Em hi
       have L:i<j:=by simp at a6; omega
       rw [List.getElem?_take_of_lt L] at hi
       have:=A i b L hi
       simp only [Kz,Dl,decide_eq_true_eq] at this
       omega
      obtain ⟨k1,k2,_⟩:=Y2 (m.Atoms.take j) (fun b hb=>by have:=I b hb; omega)
      have:=k2 (fun b hb=>(I b hb).2)
      have hl:(m.Atoms.take j).length<=1048576:=by simp; omega
      omega
     simp only [h1,h2,h3,cond_true,Ap,Au5,Au8 x a.Lin (D.al a (Cq hx)),Ajw Lq m.Atoms (fun y hy x=>Ajo y.Lin x (by have:=D.al y hy; omega)) hx (by omega),Kz,G,es]
     cases O0 a.Lin with
     | false=>exact ⟨(fun h=>by simp at h),fun _=>⟨.inl (-1),rfl,_,rfl,rfl⟩⟩
     | true=>
      cases (a.Lin.Terms.length==0) with
      | true=>exact ⟨(fun h=>by simp at h),fun _=>⟨.inl (-1),rfl,_,rfl,rfl⟩⟩
      | false=>
       cases Jz x.Vars x.Res a.Lin with
       | false=>exact ⟨(fun h=>by simp at h),fun _=>⟨.inl (-1),rfl,_,rfl,rfl⟩⟩
       | true=>
        simp only [Dr,cond_false,Bool.not_false,Bool.and_true]
        cases Tx m.Atoms a j with
        | false=>exact ⟨(fun h=>by simp at h),fun _=>⟨.inl (-1),rfl,_,rfl,rfl⟩⟩
        | true=>
         simp only [cond_true,Bool.and_true]
         by_cases g1:a.Deg<1
         .rw [A4 g1,A8 (by omega:¬1<=a.Deg)]
          exact ⟨(fun h=>by simp at h),fun _=>⟨.inl (-1),rfl,_,rfl,rfl⟩⟩
         .by_cases g2:a.Deg>6
          .rw [A8 g1,A4 g2,A8 (by omega:¬a.Deg<=6)]
           exact ⟨(fun h=>by simp at h),fun _=>⟨.inl (-1),rfl,_,rfl,rfl⟩⟩
          .rw [A8 g1,A8 g2,A4 (by omega:a.Deg<=6),A4 (by omega:1<=a.Deg)]
           refine ⟨fun _=>⟨(),?_,trivial⟩,fun h=>by cases h⟩
           simp only [cond_false]
           rw [show Al (D6 x.Data x.Vars x.Res m.Factors+Ff (m.Atoms.take j)+a.Deg)=D6 x.Data x.Vars x.Res m.Factors+(Ff (m.Atoms.take j)+a.Deg) by rw [Al,Cl] <;> omega]) (by
     intro _ _ h1 B
     refine ⟨.inr (D6 x.Data x.Vars x.Res m.Factors+Ff m.Atoms),by simp,?_⟩
     have ag:0<=Ff m.Atoms:=(Y2 m.Atoms (fun b hb=>by
      obtain ⟨i,hi⟩:=List.getElem?_of_mem hb
      have:=Hg B hi
      simp only [Kz,Dl,decide_eq_true_eq] at this
      omega)).1
     simp only
     by_cases h6:D6 x.Data x.Vars x.Res m.Factors+Ff m.Atoms<=6
     .rw [A8 (by omega),A4 h6]
      exact ⟨_,rfl,A8 (by omega)⟩
     .rw [A4 (by omega),A8 h6]
      exact ⟨_,rfl,rfl⟩)
   refine ⟨w,w1,?_⟩
   unfold Iu
   rw [g,Bool.true_and]
   rcases w2 with ⟨g1,g2⟩ | ⟨g1,g2⟩
   .have V:m.Atoms.zipIdx.all (fun q=>Kz x.Vars x.Res m.Atoms q.1 q.2)=true:=Vh fun j a hj=>by
     have:=Hg g1 hj
     simp only [Dl] at this
     exact this.1
    rw [V,Bool.true_and,g2]
   .rw [g2]
    cases V:m.Atoms.zipIdx.all (fun q=>Kz x.Vars x.Res m.Atoms q.1 q.2) with
    | false=>rfl
    | true=>
     have hgt:¬D6 x.Data x.Vars x.Res m.Factors+Ff m.Atoms<=6:=by
      intro ab
      have:m.Atoms.zipIdx.all (fun q=>Kz x.Vars x.Res m.Atoms q.1 q.2&&decide (q.1.Deg<=6))=true:=Vh fun j a hj=>by
       have gj:=Hg V hj
       have hpos:∀b∈m.Atoms,0<=b.Deg:=fun b hb=>by
        obtain ⟨i,hi⟩:=List.getElem?_of_mem hb
        have:=Hg V hi
        simp only [Kz,Dl,decide_eq_true_eq] at this
        omega
       have:=(Y2 m.Atoms hpos).2.2 a (Cq hj)
       simp only [gj,Bool.true_and,decide_eq_true_eq]
       omega
      rw [this] at g1; cases g1
     rw [A8 hgt]; rfl)
 refine ⟨r,r1,?_⟩
 rcases r2 with ⟨h1,h2⟩ | ⟨h1,h2⟩
 .exact h2
 .rw [h2,U h1]; rfl
end Go.Ab
namespace Go.Ab
open Go
theorem Avf {α:Type} [DecidableEq α] (l m:List α) (b:l.length=m.length):(decide (l=m))=l.zipIdx.all (fun q=>decide (m[q.2]? = some q.1)):=by
 rw [Bool.eq_iff_iff,decide_eq_true_eq]
 constructor
 .rintro rfl
  exact Vh fun j x hx=>by simpa using hx
 .intro h
  apply List.ext_getElem?
  intro j
  cases hx:l[j]? with
  | none=>rw [List.getElem?_eq_none_iff] at hx; rw [List.getElem?_eq_none (by omega)]
  | some x=>have:=Hg h hx; rw [decide_eq_true_eq] at this; rw [this]
theorem Ac4 {R:Type} (l m:List Int) (b:l.length<1099511627776) (h:l.length=m.length) {J:Bool⊕Unit->Option R} {rt rf:R} (h1:J (.inl false)=some rf) (h2:J (.inr ())=some rt) :
  (Bc (S:=Int) (E:=(Bool⊕Unit)) (fun v3=>bif (decide (v3<(l.length:Int))) then ((Au l v3).bind fun v4=>(Au m v3).bind fun v5=>bif (v4 != v5) then some (.inr (.inl false)) else some (.inl (Al (v3+1)))) else some (.inr (.inr ()))) 0).bind J=some (bif decide (l=m) then rt else rf):=by
 rw [Avf l m h]
 refine Kr l (fun q=>decide (m[q.2]? = some q.1)) (fun j=>(j:Int)) rfl (by omega) (rt:=rt) (rf:=rf) ?_ ?_
 .intro j x hx _ g1 g2 g3
  have hj:j<m.length:=by have:=Em hx; omega
  have hy:m[j]? = some m[j]:=Cv hj
  generalize m[j]=y at hy
  simp only [g1,g2,g3,cond_true,Ap,Cs rfl hy,hy,Option.some.injEq]
  by_cases e:x=y
  .rw [C0 e,A4 e.symm]
   exact ⟨fun _=>rfl,fun h=>by cases h⟩
  .rw [C7 e,A8 (fun h=>e h.symm)]
   exact ⟨(fun h=>by cases h),fun _=>⟨.inl false,rfl,h1⟩⟩
 .intro h _; exact ⟨.inr (),by simp only [h]; rfl,h2⟩
theorem Ajy (l m:List Int) (b:l.length<1099511627776):Kh l m=some (decide (l=m)):=by
 unfold Kh
 by_cases h:l.length=m.length
 .rw [C0 (by omega)]
  simp only [cond_false]
  refine (Ac4 l m b h (rt:=true) (rf:=false) ?_ ?_).trans (by rw [Jx]) <;> rfl
 .rw [C7 (by omega),A8 (fun e=>h (by rw [e]))]; rfl
def Md (a b:A1):Bool:=a.Neg==b.Neg&&decide (a.Num=b.Num)&&decide (a.Den=b.Den)
theorem Ac5 (a b:A1):Md a b=true↔a=b:=by
 unfold Md
 simp only [Dl,beq_iff_eq,decide_eq_true_eq]
 constructor
 .rintro ⟨⟨h1,h2⟩,h3⟩; cases a; cases b; simp_all
 .rintro rfl; simp
theorem Avg (a b:A1) (h1:a.Num.length<1099511627776) (h2:a.Den.length<1099511627776):Sf a b=some (Md a b):=by
 unfold Sf Md
 cases g:(a.Neg==b.Neg) with
 | false=>rw [show (a.Neg != b.Neg)=true by simp [bne,g]]; rfl
 | true=>
  rw [show (a.Neg != b.Neg)=false by simp [bne,g]]
  simp only [cond_false]
  by_cases f:a.Num.length=b.Num.length
  .rw [C0 (by omega)]
   by_cases c:a.Den.length=b.Den.length
   .rw [C0 (by omega)]
    simp only [cond_false,Ap,Bool.true_and]
    refine (Ac4 a.Num b.Num h1 f (rt:=decide (a.Den=b.Den)) (rf:=false) rfl ?_).trans (by cases decide (a.Num=b.Num) <;> rfl)
    refine (Ac4 a.Den b.Den h2 c (rt:=true) (rf:=false) ?_ ?_).trans (by rw [Jx]) <;> rfl
   .rw [C7 (by omega),A8 (fun e:a.Den=b.Den=>c (by rw [e]))]
    simp
  .rw [C7 (by omega),A8 (fun e:a.Num=b.Num=>f (by rw [e]))]
   simp
def Y3 (c:A1):Bool:=Md (Bp (sv c) (nv c) (dv c)) c && !(nv c==0)
theorem Avh (c:A1):Y3 c=(Md c (Bp (sv c) (nv c) (dv c)) && !(nv c==0)):=by
 unfold Y3
 congr 1
 rw [Bool.eq_iff_iff,Ac5,Ac5]; exact eq_comm
structure TSz (t:B2):Prop where
 co:RB 1048576 t.Coef
 mo:MSz t.Mono
def V2 (l:List B2) (x:B2) (j:Nat):Bool:=j==0||(match l[j-1]? with | some y=>decide (Re y.Mono x.Mono<0) | none=>false)
def Rf (data:List A5) (vars:List Ao) (res:Ao) (l:List B2) (t:B2) (j:Nat):Bool:=Y3 t.Coef&&Iu data vars res t.Mono&&V2 l t j
def Me (data:List A5) (vars:List Ao) (res:Ao) (p:List B2):Bool:=decide (p.length<=1000)&&p.zipIdx.all (fun q=>Rf data vars res p q.1 q.2)
theorem Ajz {S E:Type} (F:C8->C8->Option Int) (l:List B2) (f:∀y∈l,∀x,F y.Mono x=some (Re y.Mono x)) {x:B2} {j:Nat} (hx:l[j]? = some x) (i:l.length<4611686018427387904) (c b:Option (S⊕E)) :
  (bif decide ((j:Int)>0) then ((Au l (Al ((j:Int)-1))).bind fun v13=>(F v13.Mono x.Mono).bind fun v28=>bif decide (v28>=0) then c else b) else b)=bif V2 l x j then b else c:=by
 have hj:=Em hx
 unfold V2
 by_cases h:j=0
 .subst h; rfl
 .rw [A4 (by omega)]
  have e:Al ((j:Int)-1)=((j-1:Nat):Int):=by rw [Al,Cl] <;> omega
  have hy:l[j-1]? = some l[j-1]:=Cv (by omega)
  rw [e,Cs rfl hy,hy]
  have g:(j==0)=false:=by simpa using h
  simp only [cond_true,Ap,g,Bool.false_or,f _ (List.getElem_mem (by omega:j-1<l.length))]
  by_cases hc:Re l[j-1].Mono x.Mono<0
  .rw [A8 (by omega),A4 hc]; rfl
  .rw [A4 (by omega),A8 hc]; rfl
theorem Aj0 (s:Bool) (n:Nat):(Mz s n==0)=(n==0):=by
 unfold Mz
 by_cases h:n=0
 .rw [if_pos h]; subst h; rfl
 .rw [if_neg h]
  have:(n==0)=false:=by simpa using h
  rw [this]; cases s <;> rfl
theorem Avi {data:List A5} {vars:List Ao} {res:Ao} (hc:O1 data vars res) {b1:List (ByteArray×Int)} (b2:List (ByteArray×List D8)) (L:F8 data vars res b1) (p:List B2) (I:∀t∈p,TSz t) :
  ∃u,Sg p b1 b2 data vars res.Kind res.Num res.Args=some (Me data vars res p,u)/\F8 data vars res u:=by
 unfold Sg Me
 by_cases s:p.length<=1000
 .rw [A8 (by omega),A4 s,Bool.true_and]
  simp only [cond_false]
  obtain ⟨r,r1,r2⟩:=Vi (M:=List (ByteArray×Int)) (R:=Bool×List (ByteArray×Int)) p (fun q=>Rf data vars res p q.1 q.2) (fun j o=>((j:Int),o)) (F8 data vars res)
   (fun r=>F8 data vars res r.2/\r.1=true) (fun r=>F8 data vars res r.2/\r.1=false) b1
   (s0:=((0:Int),b1))
   (step:=(fun (v10,f)=>
    bif (decide (v10<(p.length:Int))) then (
    (Au p v10).bind fun v12=>
    (Ln v12.Coef).bind fun c=>
    (show Option Bool from
    bif (c.Neg==v12.Coef.Neg) then (
    (Kh c.Num v12.Coef.Num).bind fun v16=>
    bif v16 then (
    (Kh c.Den v12.Coef.Den).bind fun v17=>
    some v17)
    else some false)
    else some false).bind fun v18=>
    bif (!v18) then some (.inr (.inl (false,f)))
    else (
    (Ml c).bind fun A=>
    bif (A==(0:Int)) then some (.inr (.inl (false,f)))
    else (
    (P6 v12.Mono f b2 data vars res.Kind res.Num res.Args).bind fun v20=>
    bif (!v20.1) then some (.inr (.inl (false,v20.2)))
    else (
    bif (decide (v10>(0:Int))) then (
    (Au p (Al (v10-1))).bind fun v21=>
    (Lp v21.Mono v12.Mono).bind fun v22=>
    bif (decide (v22>=(0:Int))) then some (.inr (.inl (false,v20.2)))
    else some (.inl ((Al (v10+1)),v20.2)))
    else some (.inl ((Al (v10+1)),v20.2))))))
    else some (.inr (.inr f)):Int×List (ByteArray×Int)->Option ((Int×List (ByteArray×Int))⊕((Bool×List (ByteArray×Int))⊕List (ByteArray×Int)))))
   (J:=(fun z=>match z with
    | .inl (D,B)=>some (D,B)
    | .inr E=>some (true,E)))
   rfl L (by omega) (by
    intro j t o k hx _ h1 h2 h3
    have b:=I t (Cq hx)
    obtain ⟨u,d1,d2⟩:=Avc b2 hc k t.Mono b.mo
    have i:∀l:List Int,l=(Bp (sv t.Coef) (nv t.Coef) (dv t.Coef)).Num\/l=(Bp (sv t.Coef) (nv t.Coef) (dv t.Coef)).Den->l.length<1099511627776:=by
     intro l s
     have q:=Ib (sv t.Coef) (nv t.Coef) (dv t.Coef) 1048577 b.co.nv b.co.dv (by omega)
     have:=q.nl
     have:=q.dl
     rcases s with rfl | rfl <;> omega
    have g:(bif ((Bp (sv t.Coef) (nv t.Coef) (dv t.Coef)).Neg==t.Coef.Neg) then ((Kh (Bp (sv t.Coef) (nv t.Coef) (dv t.Coef)).Num t.Coef.Num).bind fun v16=>bif v16 then ((Kh (Bp (sv t.Coef) (nv t.Coef) (dv t.Coef)).Den t.Coef.Den).bind fun v17=>some v17) else some false) else some false)=some (Md (Bp (sv t.Coef) (nv t.Coef) (dv t.Coef)) t.Coef):=by
     unfold Md
     rw [Ajy _ _ (i _ (.inl rfl)),Ajy _ _ (i _ (.inr rfl))]
     cases ((Bp (sv t.Coef) (nv t.Coef) (dv t.Coef)).Neg==t.Coef.Neg) <;> cases decide ((Bp (sv t.Coef) (nv t.Coef) (dv t.Coef)).Num=t.Coef.Num) <;> rfl
    simp only [h1,h2,h3,cond_true,Ap,Asg t.Coef 1048576 b.co (by omega),g,Ajz Lp p (fun y hy x=>Au1 y.Mono x (I y hy).mo) hx (by omega),Rf,Y3]
    cases G:Md (Bp (sv t.Coef) (nv t.Coef) (dv t.Coef)) t.Coef with
    | false=>exact ⟨(fun h=>by cases h),fun _=>⟨_,rfl,_,rfl,k,rfl⟩⟩
    | true=>
     have e:=(Ac5 _ _).1 G
     simp only [Dr,cond_false,Bool.true_and]
     rw [e,Asi t.Coef 1048576 b.co (by omega),Ap,Aj0]
     cases (nv t.Coef==0) with
     | true=>exact ⟨(fun h=>by cases h),fun _=>⟨_,rfl,_,rfl,k,rfl⟩⟩
     | false=>
      simp only [cond_false,d1,Ap,Bool.not_false,Bool.true_and]
      cases Iu data vars res t.Mono with
      | false=>exact ⟨(fun h=>by cases h),fun _=>⟨_,rfl,_,rfl,d2,rfl⟩⟩
      | true=>
       cases V2 p t j with
       | true=>exact ⟨fun _=>⟨u,rfl,d2⟩,fun h=>by cases h⟩
       | false=>exact ⟨(fun h=>by cases h),fun _=>⟨_,rfl,_,rfl,d2,rfl⟩⟩) (by
    intro o k h1 _
    exact ⟨.inr o,by simp only [h1]; rfl,_,rfl,k,rfl⟩)
  refine ⟨r.2,?_,?_⟩
  .have e:some r=some (p.zipIdx.all (fun q=>Rf data vars res p q.1 q.2),r.2):=by
    rcases r2 with ⟨h1,h2,h3⟩ | ⟨h1,h2,h3⟩
    .rw [h1,<-h3]
    .rw [h1,<-h3]
   rw [<-e]
   exact r1
  .rcases r2 with ⟨h1,h2,h3⟩ | ⟨h1,h2,h3⟩ <;> exact h2
 .rw [A4 (by omega),A8 s]
  exact ⟨b1,rfl,L⟩
theorem Avj {x:Cp} (hc:O1 x.Data x.Vars x.Res) (p:List B2) (c:∀t∈p,TSz t):R6 x p=some (Me x.Data x.Vars x.Res p):=by
 unfold R6 Me
 by_cases f:p.length<=1000
 .rw [A8 (by omega),A4 f,Bool.true_and]
  simp only [cond_false]
  refine (Kr p (fun q=>Rf x.Data x.Vars x.Res p q.1 q.2) (fun j=>(j:Int)) rfl (by omega) (rt:=true) (rf:=false) ?_ ?_).trans (by rw [Jx])
  .intro j t hx _ h1 h2 h3
   have b:=c t (Cq hx)
   obtain ⟨v,g,v2⟩:=Ave hc t.Mono b.mo
   simp only [h1,h2,h3,cond_true,Ap,g,v2,Ab8 t.Coef 1048576 b.co (by omega),Aj0,Oo t.Coef 1048576 b.co (by omega),Avg t.Coef _ (by have:=b.co.nl; omega) (by have:=b.co.dl; omega),
    Ajz Pt p (fun y hy x=>Au2 y.Mono x (c y hy).mo) hx (by omega),Rf,Avh]
   cases Iu x.Data x.Vars x.Res t.Mono with
   | false=>exact ⟨(fun h=>by simp at h),fun _=>⟨.inl false,rfl,rfl⟩⟩
   | true=>
    cases (nv t.Coef==0) with
    | true=>exact ⟨(fun h=>by simp at h),fun _=>⟨.inl false,rfl,rfl⟩⟩
    | false=>
     cases Md t.Coef (Bp (sv t.Coef) (nv t.Coef) (dv t.Coef)) with
     | false=>exact ⟨(fun h=>by simp at h),fun _=>⟨.inl false,rfl,rfl⟩⟩
     | true=>
      cases V2 p t j with
      | true=>exact ⟨fun _=>rfl,fun h=>by cases h⟩
      | false=>exact ⟨(fun h=>by cases h),fun _=>⟨.inl false,rfl,rfl⟩⟩
  .intro h _; exact ⟨.inr (),by simp only [h]; rfl,rfl⟩
 .rw [A4 (by omega),A8 f]; rfl
structure CSz (x:Cp):Prop where
 ds:DSz x.Data
 nv:x.Vars.length<=1048576
 vs:∀t∈x.Vars,Br t<=1048576
 rs:Br x.Res<=1048576
def Fx (data:List A5) (t:Ao):Bool:=Di data 0 t&&decide (Br t<=200)
def K0 (x:Cp):Prop:=x.Vars.length<=3000/\Gi x.Data/\Fx x.Data x.Res=true/\x.Vars.all (Fx x.Data)=true
theorem K0.ctx {x:Cp} (h:K0 x) (g:CSz x):O1 x.Data x.Vars x.Res:=by
 refine ⟨h.2.1,g.ds.sz.short,fun v t c=>?_,h.1⟩
 have b:∀t,Fx x.Data t=true->Br t<=200:=fun t h=>by
  simp only [Fx,Dl,decide_eq_true_eq] at h; exact h.2
 unfold tyX at c
 by_cases f:v = -1
 .rw [if_pos f] at c; cases c; exact b _ h.2.2.1
 .rw [if_neg f] at c
  exact b t (List.all_eq_true.1 h.2.2.2 t (Eo c).2.2.2)
theorem Avk (x:Cp) (c:CSz x):∃b,R5 x=some b/\(b=true↔K0 x):=by
 obtain ⟨b,b1,b2⟩:=Yo c.ds
 have q:=c.nv
 have l:=c.rs
 unfold R5 K0
 rw [b1,Tp x.Data x.Res 0 (by omega)]
 simp only [Ap]
 cases b with
 | false=>exact ⟨false,rfl,by simp; intro _ h; have:=b2.2 h; cases this⟩
 | true=>
  have i:=b2.1 rfl
  simp only [Dr,cond_false]
  by_cases g:x.Vars.length<=3000
  .rw [A8 (by omega)]
   simp only [cond_false,Ap]
   cases f:(Di x.Data 0 x.Res&&decide (Br x.Res<=200)) with
   | false=>exact ⟨false,rfl,by simp [Fx,f]⟩
   | true=>
    refine ⟨x.Vars.all (Fx x.Data),?_,by rw [show Fx x.Data x.Res=true from f]; simp [g,i]⟩
    simp only [Dr,cond_false]
    refine (Jw x.Vars (Fx x.Data) (fun j=>(j:Int)) rfl (by omega) (rt:=true) (rf:=false) ?_ ?_).trans (by rw [Jx])
    .intro j t k h1 h2 h3
     have:=c.vs t (Cq k)
     simp only [h1,h2,h3,cond_true,Ap,Tp x.Data t 0 (by omega)]
     rw [show (Di x.Data 0 t&&decide (Br t<=200))=Fx x.Data t from rfl]
     cases Fx x.Data t with
     | true=>exact ⟨fun _=>rfl,fun h=>by cases h⟩
     | false=>exact ⟨(fun h=>by cases h),fun _=>⟨.inl false,rfl,rfl⟩⟩
    .intro h; exact ⟨.inr (),by simp only [h]; rfl,rfl⟩
  .rw [A4 (by omega)]
   exact ⟨false,rfl,by simp [g]⟩
theorem Aj1 (x:Cp) (c:CSz x) (p:List B2) (hp:∀t∈p,TSz t):∃b,Pn x p=some b/\(b=true↔K0 x/\Me x.Data x.Vars x.Res p=true):=by
 obtain ⟨b,b1,b2⟩:=Avk x c
 unfold Pn
 rw [b1,Ap]
 cases b with
 | false=>exact ⟨false,rfl,by simp; intro h; have:=b2.2 h; cases this⟩
 | true=>
  have f:=b2.1 rfl
  rw [Avj (f.ctx c) p hp]
  exact ⟨_,rfl,by simp [f]⟩
theorem Aj2 (x:Cp) (g:CSz x) (p:List B2) (hp:∀t∈p,TSz t):∃b,J7 x p=some b/\(b=true↔K0 x/\Me x.Data x.Vars x.Res p=true):=by
 obtain ⟨b,b1,b2⟩:=Yn g.ds
 have J:=g.nv
 have I:=g.rs
 unfold J7 Ps
 rw [b1,To x.Data x.Res 0 (by omega)]
 by_cases A:x.Vars.length<=3000
 .rw [A8 (by omega)]
  simp only [cond_false,Ap]
  cases b with
  | false=>exact ⟨false,rfl,by simp; intro h; have:=b2.2 h.2.1; cases this⟩
  | true=>
   have G:=b2.1 rfl
   simp only [Dr,cond_false]
   cases y:(Di x.Data 0 x.Res&&decide (Br x.Res<=200)) with
   | false=>exact ⟨false,rfl,by simp; intro h; have:=h.2.2.1; rw [show Fx x.Data x.Res=false from y] at this; cases this⟩
   | true=>
    simp only [Dr,cond_false,Ap]
    rw [Option.bind_assoc]
    refine E3 (fun i=>∃j:Nat,i=j/\j<=x.Vars.length/\(x.Vars.take j).all (Fx x.Data)=true) (fun i=>x.Vars.length-i.toNat)
     (fun z=>match z with | .inl r=>r=false/\¬K0 x | .inr _=>K0 x) ⟨0,rfl,by omega,by simp⟩ ?_ ?_
    .rintro i ⟨j,rfl,hj,c⟩
     rcases Nat.lt_or_ge j x.Vars.length with h | h
     .have k:x.Vars[j]? = some x.Vars[j]:=Cv h
      generalize x.Vars[j]=t at k
      have:=g.vs t (Cq k)
      simp only [A4 (by omega:(j:Int)<(x.Vars.length:Int)),cond_true,Cs rfl k,Ap,To x.Data t 0 (by omega),D3 h (by omega)]
      rw [show (Di x.Data 0 t&&decide (Br t<=200))=Fx x.Data t from rfl]
      cases B:Fx x.Data t with
      | true=>exact .inl ⟨_,rfl,⟨j+1,rfl,by omega,by rw [D7 k,List.all_append,c]; simp [B]⟩,by simp; omega⟩
      | false=>
       refine .inr ⟨.inl false,rfl,rfl,fun M=>?_⟩
       have:=List.all_eq_true.1 M.2.2.2 t (Cq k)
       rw [B] at this; cases this
     .have:j=x.Vars.length:=by omega
      subst this
      rw [List.take_length] at c
      exact .inr ⟨.inr (),by simp,A,G,y,c⟩
    .rintro (r | u) f
     .obtain ⟨rfl,f⟩:=f
      exact ⟨false,rfl,by simp [f]⟩
     .have D:K0 x:=f
      have L:F8 x.Data x.Vars x.Res []:=fun q h=>by cases h
      obtain ⟨E,s,N⟩:=Avi (D.ctx g) [] L p hp
      cases l:Me x.Data x.Vars x.Res p with
      | true=>
       rw [l] at s
       refine ⟨true,?_,by simp [D]⟩
       simp only
       rw [Option.bind_assoc]
       refine Oj 1 (fun j=>match j with | 0=>((0:Int),[]) | _=>((1:Int),E)) rfl ?_ ⟨.inr E,rfl,rfl⟩
       intro j hj
       match j,hj with
       | 0,_=>
        show (bif decide ((0:Int)<1) then _ else _)=_
        simp only [A4 (by omega:(0:Int)<1),cond_true]
        rw [show Au [p] 0=some p from rfl,Ap,s]; rfl
      | false=>
       rw [l] at s
       refine ⟨false,?_,by simp⟩
       simp only
       rw [Option.bind_assoc]
       refine Oj 0 (fun _=>((0:Int),[])) rfl (fun j hj=>by omega) ⟨.inl false,?_,rfl⟩
       show (bif decide ((0:Int)<1) then _ else _)=_
       simp only [A4 (by omega:(0:Int)<1),cond_true]
       rw [show Au [p] 0=some p from rfl,Ap,s]; rfl
 .rw [A4 (by omega)]
  exact ⟨false,rfl,by simp; intro h; exact absurd h.1 A⟩
end Go.Ab
namespace Go.Ab
open Go
mutual
def Dt:Bl->Nat
 | ⟨_,_,l⟩=>1+Du l
def Du:List Bl->Nat
 | []=>0
 | x::xs=>Dt x+Du xs
end
theorem M6 (t:Bl):Dt t=1+Du t.Kids:=by cases t; simp only [Dt]
theorem O4 (t:Bl):1<=Dt t:=by rw [M6]; omega
theorem Mf {l:List Bl} {a:Bl} (h:a∈l):Dt a<=Du l:=by
 induction l with
 | nil=>cases h
 | cons x xs ih=>
  simp only [Du]
  rcases List.mem_cons.1 h with rfl | h
  .omega
  .have:=ih h; omega
theorem O5 (l:List Bl):l.length<=Du l:=by
 induction l with
 | nil=>simp
 | cons x xs ih=>simp only [Du,List.length_cons]; have:=O4 x; omega
theorem Aj3 (l m:List Bl):Du (l++m)=Du l+Du m:=by
 induction l with
 | nil=>simp [Du]
 | cons x xs ih=>simp only [List.cons_append,Du,ih]; omega
theorem Y4 {l:List Bl} {j:Nat} {x:Bl} (h:l[j]? = some x):Du (l.take (j+1))=Du (l.take j)+Dt x:=by
 rw [D7 h,Aj3]; simp [Du]
theorem V3 (l:List Bl) (j:Nat):Du (l.take j)<=Du l:=by
 have:=Aj3 (l.take j) (l.drop j)
 rw [List.take_append_drop] at this; omega
theorem Avl (k:Nat) (l:List Bl) (c:Nat) (L:l.length<1099511627776) (B:c<=5000)
  (ih:∀(a:Bl),a∈l->∀f:Nat,f<=c->∃q:Int,I5 k a f=some (decide (Dt a<=f),q)/\(Dt a<=f->q=(f:Int)-Dt a)) :
  ∃p:Int×Int,N2 (k+2) l c=some p/\(Du l<=c->p.1 = -1/\p.2=(c:Int)-Du l)/\(¬Du l<=c->0<=p.1):=by
 rw [N2]
 refine E3
  (fun (v3,v4)=>∃j:Nat,v3=j/\j<=l.length/\Du (l.take j)<=c/\v4=(c:Int)-Du (l.take j))
  (fun (v3,_)=>l.length-v3.toNat)
  (fun z=>match z with | .inl (i,_)=>0<=i/\¬Du l<=c | .inr v4=>Du l<=c/\v4=(c:Int)-Du l)
  ⟨0,rfl,by omega,by simp [Du],by simp [Du]⟩ ?_ ?_
 .rintro ⟨v3,v4⟩ ⟨j,rfl,hj,y,D⟩
  have D:v4=_:=D
  subst D
  rcases Nat.lt_or_ge j l.length with h | h
  .have hx:l[j]? = some l[j]:=Cv h
   generalize l[j]=x at hx
   obtain ⟨g,A,s⟩:∃g:Nat,(c:Int)-Du (l.take j)=g/\g<=c:=⟨c-Du (l.take j),by omega,by omega⟩
   obtain ⟨q,J,I⟩:=ih x (Cq hx) g s
   have E:=Y4 hx
   have G:=V3 l (j+1)
   simp only [A4 (by omega:(j:Int)<(l.length:Int)),cond_true,Cs rfl hx,Ap,Pz,A,J,D3 h (by omega)]
   by_cases hb:Dt x<=g
   .rw [A4 hb]
    have M:=I hb
    exact .inl ⟨_,rfl,⟨j+1,rfl,by omega,by omega,by show q=_; omega⟩,by simp; omega⟩
   .rw [A8 hb]
    exact .inr ⟨.inl ((j:Int),q),rfl,by omega,by omega⟩
  .have:j=l.length:=by omega
   subst this
   rw [List.take_length] at *
   exact .inr ⟨.inr ((c:Int)-Du l),by simp,y,rfl⟩
 .rintro (⟨i,b⟩ | v4) u
  .exact ⟨(i,b),rfl,fun h=>absurd h u.2,fun _=>u.1⟩
  .exact ⟨(-1,v4),rfl,fun _=>⟨rfl,u.2⟩,fun h=>absurd u.1 h⟩
theorem Avm:∀(left:Nat) (t:Bl) (k:Nat),left<=5000->4*left+4<=k->Dt t<1099511627776->∃c:Int,I5 k t left=some (decide (Dt t<=left),c)/\(Dt t<=left->c=(left:Int)-Dt t):=by
 intro left
 induction left using Nat.strongRecOn with
 | _ left l=>
  intro t k z hk y
  have hp:=O4 t
  have s:=M6 t
  have q:=O5 t.Kids
  obtain ⟨j,rfl⟩:∃j,k=j+1:=⟨k-1,by omega⟩
  cases left with
  | zero=>
   refine ⟨-1,?_,fun h=>by omega⟩
   rw [I5,A8 (by omega:¬Dt t<=0)]
   rfl
  | succ f=>
   have x:Al (((f+1:Nat):Int)-1)=(f:Int):=by rw [Al,Cl] <;> omega
   obtain ⟨g,rfl⟩:∃g,j=g+3:=⟨j-3,by omega⟩
   obtain ⟨⟨i,c⟩,h1,h2,h3⟩:=Avl g t.Kids f (by omega) (by omega) (fun a ha b u=>by
    have:=Mf ha
    exact l b (by omega) a g (by omega) (by omega) (by omega))
   rw [I5,x,A8 (by omega)]
   simp only [cond_false,Py,h1,Ap]
   by_cases hb:Du t.Kids<=f
   .obtain ⟨a1,a2⟩:=h2 hb
    simp only at a1 a2
    refine ⟨c,?_,fun _=>by omega⟩
    rw [A8 (by omega),A4 (by omega)]; rfl
   .have a1:=h3 hb
    simp only at a1
    refine ⟨c,?_,fun h=>by omega⟩
    rw [A4 (by omega),A8 (by omega)]; rfl
theorem Avn:∀(left:Nat) (t:Bl) (k:Nat),left<=5000->left+1<=k->Dt t<1099511627776->∃f:Int,I6 k t left=some (decide (Dt t<=left),f)/\(Dt t<=left->f=(left:Int)-Dt t):=by
 intro left
 induction left using Nat.strongRecOn with
 | _ left l=>
  intro t k hl hk ht
  have hp:=O4 t
  have R:=M6 t
  have B:=O5 t.Kids
  obtain ⟨k,rfl⟩:∃L,k=L+1:=⟨k-1,by omega⟩
  cases left with
  | zero=>
   refine ⟨-1,?_,fun h=>by omega⟩
   rw [I6,A8 (by omega:¬Dt t<=0)]
   rfl
  | succ c=>
   have Y:Al (((c+1:Nat):Int)-1)=(c:Int):=by rw [Al,Cl] <;> omega
   rw [I6,Y,A8 (by omega)]
   simp only [cond_false]
   have key:∃p:Bool×Int,((Bc (S:=(Int×Int)) (E:=((Bool×Int)⊕Int)) (fun (v4,v5)=>
     bif (decide (v4<(t.Kids.length:Int))) then (
     (Au t.Kids v4).bind fun D=>
     (I6 k D v5).bind fun v7=>
     bif (!v7.1) then some (.inr (.inl (false,v7.2)))
     else some (.inl ((Al (v4+1)),v7.2)))
     else some (.inr (.inr v5))) (0,(c:Int))).bind fun z=>
     match z with
     | .inl (I,G)=>some (I,G)
     | .inr v10=>some (true,v10))=some p/\p.1=decide (Dt t<=c+1)/\(Dt t<=c+1->p.2=(c:Int)-Du t.Kids):=by
    refine E3 (fun (v4,v5)=>∃j:Nat,v4=j/\j<=t.Kids.length/\Du (t.Kids.take j)<=c/\v5=(c:Int)-Du (t.Kids.take j)) (fun (v4,_)=>t.Kids.length-v4.toNat)
     (fun z=>match z with | .inl (b,_)=>b=false/\¬Dt t<=c+1 | .inr v5=>Dt t<=c+1/\v5=(c:Int)-Du t.Kids) ⟨0,rfl,by omega,by simp [Du],by simp [Du]⟩ ?_ ?_
    .rintro ⟨v4,v5⟩ ⟨j,rfl,hj,U,s⟩
     have s:v5=_:=s
     subst s
     rcases Nat.lt_or_ge j t.Kids.length with h | h
     .have hx:t.Kids[j]? = some t.Kids[j]:=Cv h
      generalize t.Kids[j]=x at hx
      obtain ⟨g,q,A⟩:∃g:Nat,(c:Int)-Du (t.Kids.take j)=g/\g<=c:=⟨c-Du (t.Kids.take j),by omega,by omega⟩
      obtain ⟨f,X,V⟩:=l g (by omega) x k (by omega) (by omega) (by have:=Mf (Cq hx); omega)
      have M:=Y4 hx
      have N:=V3 t.Kids (j+1)
      simp only [A4 (by omega:(j:Int)<(t.Kids.length:Int)),cond_true,Cs rfl hx,Ap,q,X,D3 h (by omega)]
      by_cases hb:Dt x<=g
      .rw [A4 hb]
       have e3:=V hb
       exact .inl ⟨_,rfl,⟨j+1,rfl,by omega,by omega,by show f=_; omega⟩,by simp; omega⟩
      .rw [A8 hb]
       exact .inr ⟨.inl (false,f),rfl,rfl,by omega⟩
     .have:j=t.Kids.length:=by omega
      subst this
      rw [List.take_length] at *
      exact .inr ⟨.inr ((c:Int)-Du t.Kids),by simp,by omega,rfl⟩
    .rintro (⟨b,v⟩ | v) i
     .exact ⟨(b,v),rfl,by rw [i.1,A8 i.2],fun h=>absurd h i.2⟩
     .exact ⟨(true,v),rfl,by rw [A4 i.1],fun _=>i.2⟩
   obtain ⟨⟨b,f⟩,J,y,u⟩:=key
   simp only at y u
   subst y
   exact ⟨f,J,fun h=>by have:=u h; omega⟩
mutual
def Gk (data:List A5):Bl->Ao->Bool
 | ⟨k,n,kids⟩,t=>
  if t.Kind=1 then k==3&&decide (-1099511627776<=n)&&decide (n<=1099511627776)&&kids.length==0
  else if t.Kind=2 then k==2&&(n==0||n==1)&&kids.length==0
  else if t.Kind=3 then k==1&&n==0&&kids.length==0
  else if t.Kind=6 then k==4&&n==0&&Hu data kids t.Args
  else if t.Kind=5 then k==5&&decide (0<=n)&&decide (n<8)&&(match Gp data t n with | some l=>Hu data kids l | none=>false)
  else if t.Kind=7 then k==6&&n==0&&decide (kids.length<=4096)&&(match t.Args with | u::_=>M7 data kids u | []=>false)
  else if t.Kind=8 then k==7&&n==0&&Hu data kids t.Args
  else k==8&&decide (0<=n)&&decide (n<64)&&kids.length==0
def Hu (data:List A5):List Bl->List Ao->Bool
 | [],[]=>true
 | x::xs,t::ts=>Gk data x t&&Hu data xs ts
 | [],_::_=>false
 | _::_,[]=>false
def M7 (data:List A5):List Bl->Ao->Bool
 | [],_=>true
 | x::xs,t=>Gk data x t&&M7 data xs t
end
theorem Ac6 (data:List A5) (v:Bl) (t:Ao):Gk data v t =
  if t.Kind=1 then v.Kind==3&&decide (-1099511627776<=v.Num)&&decide (v.Num<=1099511627776)&&v.Kids.length==0
  else if t.Kind=2 then v.Kind==2&&(v.Num==0||v.Num==1)&&v.Kids.length==0
  else if t.Kind=3 then v.Kind==1&&v.Num==0&&v.Kids.length==0
  else if t.Kind=6 then v.Kind==4&&v.Num==0&&Hu data v.Kids t.Args
  else if t.Kind=5 then v.Kind==5&&decide (0<=v.Num)&&decide (v.Num<8)&&(match Gp data t v.Num with | some l=>Hu data v.Kids l | none=>false)
  else if t.Kind=7 then v.Kind==6&&v.Num==0&&decide (v.Kids.length<=4096)&&(match t.Args with | u::_=>M7 data v.Kids u | []=>false)
  else if t.Kind=8 then v.Kind==7&&v.Num==0&&Hu data v.Kids t.Args
  else v.Kind==8&&decide (0<=v.Num)&&decide (v.Num<64)&&v.Kids.length==0:=by cases v; simp only [Gk]
theorem Aj4 (data:List A5) (l:List Bl) (t:Ao):M7 data l t=l.all (Gk data · t):=by
 induction l with
 | nil=>rfl
 | cons x xs ih=>simp only [M7,ih,List.all_cons]
theorem V4 (data:List A5):∀(l:List Bl) (b:List Ao),l.length≠b.length->Hu data l b=false
 | [],[],h=>absurd rfl h
 | x::xs,t::b,h=>by simp only [Hu,V4 data xs b (by simpa using h),Bool.and_false]
 | [],_::_,_=>by simp only [Hu]
 | _::_,[],_=>by simp only [Hu]
theorem Y5 (data:List A5):∀(l:List Bl) (b:List Ao),l.length=b.length->Hu data l b=(l.zip b).all (fun q=>Gk data q.1 q.2)
 | [],[],_=>rfl
 | x::xs,t::b,h=>by simp only [Hu,List.zip_cons_cons,List.all_cons,Y5 data xs b (by simpa using h)]
 | [],_::_,h=>by simp at h
 | _::_,[],h=>by simp at h
mutual
theorem Ac7 (data:List A5) (d:Nat) (v:Int):∀t,Di (data.take d) v t=true->Di data v t=true
 | ⟨k,n,l⟩,h=>by
  simp only [Di,Dl] at h ⊢
  refine ⟨?_,Aj5 data d v l h.2⟩
  have h1:=h.1
  unfold Hr at h1 ⊢
  by_cases hk:k=5
  .subst hk
   simp only [List.getElem?_take] at h1 ⊢
   by_cases hd:n.toNat<d
   .simpa [hd] using h1
   .simp [hd] at h1
  .simp only [hk,if_false] at h1 ⊢
   exact h1
theorem Aj5 (data:List A5) (d:Nat) (v:Int):∀l,Dz (data.take d) v l=true->Dz data v l=true
 | [],_=>rfl
 | x::xs,h=>by
  simp only [Dz,Dl] at h ⊢
  exact ⟨Ac7 data d v x h.1,Aj5 data d v xs h.2⟩
end
mutual
theorem Aj6 (data:List A5) (v:Int) (σ:List Ao) (hσ:∀s∈σ,Di data 0 s=true) (hv:(σ.length:Int)=v):∀t,Di data v t=true->Di data 0 (C3 σ t)=true
 | ⟨k,n,l⟩,h=>by
  simp only [Di,Dl] at h
  cases hV:isV σ k n with
  | true=>
   obtain ⟨s,h1,_,h3⟩:=Vs hV
   rw [Ts (t:=⟨k,n,l⟩) hV h1]
   exact hσ s h3
  | false=>
   rw [Vt (t:=⟨k,n,l⟩) hV,<-Acj]
   simp only [Di,Dl]
   refine ⟨?_,Aj7 data v σ hσ hv l h.2⟩
   rw [Acj,List.length_map]
   have h1:=h.1
   unfold Hr at h1 ⊢
   by_cases hk:k=4
   .exfalso
    subst hk
    simp at h1
    unfold isV at hV
    rw [A4 h1.1.1,A4 (by omega)] at hV
    cases hV
   .simp only [hk,if_false] at h1 ⊢
    exact h1
theorem Aj7 (data:List A5) (v:Int) (σ:List Ao) (hσ:∀s∈σ,Di data 0 s=true) (hv:(σ.length:Int)=v):∀l,Dz data v l=true->Dz data 0 (Ku σ l)=true
 | [],_=>rfl
 | x::xs,h=>by
  simp only [Dz,Dl] at h
  simp only [Ku,Dz,Dl]
  exact ⟨Aj6 data v σ hσ hv x h.1,Aj7 data v σ hσ hv xs h.2⟩
end
theorem Ac8 {data:List A5} {t:Ao} (h:Di data 0 t=true):∀a∈t.Args,Di data 0 a=true:=by
 rw [Tn,Dl,Aio,List.all_eq_true] at h
 exact h.2
theorem Aj8 {data:List A5} (k:Gi data) {t:Ao} (q:Di data 0 t=true) {c:Int} {l:List Ao} (h:Gp data t c=some l):∀a∈l,Di data 0 a=true/\Br a<=200:=by
 obtain ⟨x,y,hk,hx,g,hy,rfl,f⟩:=Ow h
 intro a ha
 refine ⟨?_,f a ha⟩
 obtain ⟨b,hb,rfl⟩:=List.mem_map.1 ha
 obtain ⟨i0,_,j,_⟩:=Eo hx
 have h1:=k.2.1 t.Num.toNat x j
 obtain ⟨_,_,s⟩:=h1.2.2.2.2.2 y (Eo hy).2.2.2
 have i:=List.all_eq_true.1 s b hb
 refine Aj6 data x.Vars t.Args (Ac8 q) g b ?_
 unfold Ht at i
 rw [Bool.or_eq_true] at i
 rcases i with h' | h'
 .exact Ac7 data _ _ b (Ace j h1.2.1 h').1
 .rw [Dl] at h'
  exact Ac7 data _ _ b h'.1
theorem Aj9 {data:List A5} {t:Ao} (h:Di data 0 t=true):(t.Kind=1\/t.Kind=2\/t.Kind=3\/t.Kind=5\/t.Kind=6\/t.Kind=7\/t.Kind=8\/t.Kind=9)/\(t.Kind=7->t.Args.length=1)/\(t.Kind=8->t.Args.length=1):=by
 rw [Tn,Dl] at h
 have h1:=h.1
 unfold Hr at h1
 by_cases q:t.Kind=1
 .simp [q]
 by_cases l:t.Kind=2
 .simp [l]
 by_cases k:t.Kind=3
 .simp [k]
 by_cases j:t.Kind=4
 .exfalso; simp [j] at h1; omega
 by_cases i:t.Kind=5
 .simp [i]
 by_cases g:t.Kind=6
 .simp [g]
 by_cases f:t.Kind=7
 .simp [f] at h1 ⊢; exact h1.2
 by_cases c:t.Kind=8
 .simp [c] at h1 ⊢; exact h1.2
 by_cases b:t.Kind=9
 .simp [b]
 .simp [q,l,k,j,i,g,f,c,b] at h1
end Go.Ab
namespace Go.Ab
open Go
theorem O6 {α:Type} (l:List α):((l.length:Int)==(0:Int))=(l.length==0):=Acb l 0
def Rg {α β:Type} (m:List β) (p:α×β->Bool) (q:α×Nat):Bool:=match m[q.2]? with | some y=>p (q.1,y) | none=>false
theorem Aka {α β:Type} (l:List α) (m:List β) (p:α×β->Bool) (h:l.length=m.length):(l.zip m).all p=l.zipIdx.all (Rg m p):=by
 rw [Bool.eq_iff_iff]
 constructor
 .intro ha
  refine Vh fun j x hx=>?_
  have hj:=Em hx
  have hy:m[j]? = some m[j]:=Cv (by omega)
  simp only [Rg,hy]
  refine List.all_eq_true.1 ha _ (Cq (i:=j) ?_)
  rw [List.getElem?_zip_eq_some]; exact ⟨hx,hy⟩
 .intro ha
  rw [List.all_eq_true]
  rintro ⟨x,y⟩ b
  obtain ⟨j,hj⟩:=List.getElem?_of_mem b
  rw [List.getElem?_zip_eq_some] at hj
  have:=Hg ha hj.1
  simp only [Rg,hj.2] at this
  exact this
theorem Avo {data:List A5} (hv:Gi data):∀(n:Nat) (v:Bl) (t:Ao) (k:Nat),Dt v<=n->4*n<=k->n<=5000->Di data 0 t=true->Br t<=200->Ka k data v t=some (Gk data v t):=by
 intro n
 induction n with
 | zero=>intro v t k h; have:=O4 v; omega
 | succ n ih=>
  intro v t k h hk hn X E
  have a1:=M6 v
  have a6:=O5 v.Kids
  obtain ⟨k,rfl⟩:∃k',k=k' + 4:=⟨k-4,by omega⟩
  obtain ⟨kd,k7,k8⟩:=Aj9 X
  have f:∀g:List Ao,(∀a∈g,Di data 0 a=true/\Br a<=200)->Ls (k+3) data v.Kids g=some (Hu data v.Kids g):=by
   intro g V
   rw [Ls,P9]
   by_cases hl:v.Kids.length=g.length
   .rw [C0 (by omega),Y5 data _ _ hl,Aka _ _ _ hl]
    simp only [cond_false]
    have key:=Kr v.Kids (Rg g (fun q=>Gk data q.1 q.2)) (fun j=>(j:Int)) (s0:=(0:Int)) rfl (by omega) (rt:=true) (rf:=false) (J:=fun z:Bool⊕Unit=>match z with | .inl U=>some U | .inr _=>some true)
     (step:=fun G=>bif (decide (G<(v.Kids.length:Int))) then ((Au v.Kids G).bind fun v7=>(Au g G).bind fun v9=>(N3 (k+1) v7 v9 data).bind fun S=>bif (!S) then some (.inr (.inl false)) else some (.inl (Al (G+1)))) else some (.inr (.inr ()))) (by
      intro j x hx _ h1 h2 h3
      have hy:g[j]? = some (g[j]'(by have:=Em hx; omega)):=Cv (by have:=Em hx; omega)
      generalize g[j]'(by have:=Em hx; omega)=y at hy
      have A:=V y (Cq hy)
      have hxm:=Mf (Cq hx)
      simp only [h1,h2,h3,cond_true,Ap,Cs rfl hy,Rg,hy,N3,ih x y k (by omega) (by omega) (by omega) A.1 A.2]
      cases Gk data x y with
      | true=>exact ⟨fun _=>rfl,fun h=>by cases h⟩
      | false=>exact ⟨(fun h=>by cases h),fun _=>⟨.inl false,rfl,rfl⟩⟩) (by intro h _; exact ⟨.inr (),by simp only [h]; rfl,rfl⟩)
    rw [Jx] at key
    exact congrArg (fun q=>Option.bind q some) key
   .rw [C7 (by omega),V4 data _ _ hl]; rfl
  have b:∀a∈t.Args,Di data 0 a=true/\Br a<=200:=fun a ha=>⟨Ac8 X a ha,by have:=Gg ha; have:=Gd t; omega⟩
  rw [Ka,Ac6]
  by_cases R:t.Kind=1
  .rw [Ct R,if_pos R,O6]
   cases (v.Kind==3) <;> cases decide (-1099511627776<=v.Num) <;> cases decide (v.Num<=1099511627776) <;> rfl
  rw [Cg R,if_neg R]
  by_cases N:t.Kind=2
  .rw [Ct N,if_pos N,O6]
   cases (v.Kind==2) <;> cases (v.Num==0) <;> cases (v.Num==1) <;> rfl
  rw [Cg N,if_neg N]
  by_cases M:t.Kind=3
  .rw [Ct M,if_pos M,O6]
   cases (v.Kind==1) <;> cases (v.Num==0) <;> rfl
  rw [Cg M,if_neg M]
  by_cases I:t.Kind=6
  .rw [Ct I,if_pos I,f t.Args b]
   cases (v.Kind==4) <;> cases (v.Num==0) <;> rfl
  rw [Cg I,if_neg I]
  by_cases L:t.Kind=5
  .rw [Ct L,if_pos L,Aue hv.szv t E]
   simp only [cond_false,cond_true]
   by_cases g1:v.Kind=5
   .rw [C0 g1,Ct g1]
    by_cases g2:v.Num<0
    .rw [A4 g2,A8 (by omega:¬0<=v.Num)]; rfl
    .by_cases g3:v.Num>=8
     .rw [A8 g2,A4 g3,A8 (by omega:¬v.Num<8)]
      simp
     .rw [A8 g2,A8 g3,A4 (by omega:0<=v.Num),A4 (by omega:v.Num<8)]
      simp only [cond_false,Ap,Bool.true_and]
      cases hf:Gp data t v.Num with
      | none=>rfl
      | some l=>
       simp only [okL,cond_true]
       rw [f l (Aj8 hv X hf)]; rfl
   .rw [C7 g1,Cg g1]; rfl
  rw [Cg L,if_neg L]
  by_cases c:t.Kind=7
  .rw [Ct c,if_pos c,show decide ((v.Kids.length:Int)<=4096)=decide (v.Kids.length<=4096) by congr 1; simp only [eq_iff_iff]; omega]
   have Y:=k7 c
   match B:t.Args,Y with
   | [u],_=>
    have hu:=b u (by rw [B]; simp)
    have D:Qw (k+3) v.Kids data t=some (!M7 data v.Kids u):=by
     rw [Qw,Td,Aj4]
     have key:=Abv v.Kids (fun x=>!Gk data x u) (by omega) (J:=fun z=>match z with | .inl r6=>some r6 | .inr _=>some (-1)) (step:=fun v3=>bif (decide (v3<(v.Kids.length:Int))) then ((Au v.Kids v3).bind fun v4=>(Nv (k+1) v4 data t).bind fun v5=>bif v5 then some (.inr (.inl v3)) else some (.inl (Al (v3+1)))) else some (.inr (.inr ()))) (by
      intro j x hx h1 h2 h3
      have hxm:=Mf hx
      have hi:Au t.Args 0=some u:=by rw [B]; rfl
      simp only [h1,h2,h3,cond_true,Ap,Nv,hi,ih x u k (by omega) (by omega) (by omega) hu.1 hu.2]) (fun h=>by simp only [h]; rfl) (fun _=>rfl) rfl
     obtain ⟨i,i1,i2⟩:=key
     erw [i1]
     simp only [Ap,i2]
     rw [List.any_eq_not_all_not]; simp
    simp only [cond_false,cond_true,D,Ap]
    cases (v.Kind==6) <;> cases (v.Num==0) <;> cases decide (v.Kids.length<=4096) <;> cases M7 data v.Kids u <;> rfl
  rw [Cg c,if_neg c]
  by_cases s:t.Kind=8
  .rw [Ct s,if_pos s,f t.Args b]
   cases (v.Kind==7) <;> cases (v.Num==0) <;> rfl
  rw [Cg s,if_neg s]
  have k9:t.Kind=9:=by omega
  rw [Ct k9,O6]
  cases (v.Kind==8) <;> cases decide (0<=v.Num) <;> cases decide (v.Num<64) <;> rfl
theorem Avp {data:List A5} (hv:Gi data):∀(n:Nat) (v:Bl) (t:Ao) (k:Nat),Dt v<=n->2*n<=k->n<=5000->Di data 0 t=true->Br t<=200->I7 k data v t=some (Gk data v t):=by
 intro n
 induction n with
 | zero=>intro v t k h; have:=O4 v; omega
 | succ n ih=>
  intro v t k h hk hn ht G
  have a1:=M6 v
  have a6:=O5 v.Kids
  obtain ⟨k,rfl⟩:∃k',k=k' + 2:=⟨k-2,by omega⟩
  obtain ⟨kd,k7,k8⟩:=Aj9 ht
  have A:∀i:List Ao,(∀a∈i,Di data 0 a=true/\Br a<=200)->Mr (k+1) data v.Kids i=some (Hu data v.Kids i):=by
   intro i Y
   rw [Mr]
   by_cases hl:v.Kids.length=i.length
   .rw [C0 (by omega),Y5 data _ _ hl,Aka _ _ _ hl]
    simp only [cond_false]
    have key:=Kr v.Kids (Rg i (fun q=>Gk data q.1 q.2)) (fun j=>(j:Int)) (s0:=(0:Int)) rfl (by omega) (rt:=true) (rf:=false) (J:=fun z:Bool⊕Unit=>match z with | .inl X=>some X | .inr _=>some true)
     (step:=fun v4=>bif (decide (v4<(v.Kids.length:Int))) then ((Au v.Kids v4).bind fun v5=>(Au i v4).bind fun v6=>(I7 k data v5 v6).bind fun v7=>bif (!v7) then some (.inr (.inl false)) else some (.inl (Al (v4+1)))) else some (.inr (.inr ()))) (by
      intro j x hx _ h1 h2 h3
      have hy:i[j]? = some (i[j]'(by have:=Em hx; omega)):=Cv (by have:=Em hx; omega)
      generalize i[j]'(by have:=Em hx; omega)=y at hy
      have D:=Y y (Cq hy)
      have hxm:=Mf (Cq hx)
      simp only [h1,h2,h3,cond_true,Ap,Cs rfl hy,Rg,hy,ih x y k (by omega) (by omega) (by omega) D.1 D.2]
      cases Gk data x y with
      | true=>exact ⟨fun _=>rfl,fun h=>by cases h⟩
      | false=>exact ⟨(fun h=>by cases h),fun _=>⟨.inl false,rfl,rfl⟩⟩) (by intro h _; exact ⟨.inr (),by simp only [h]; rfl,rfl⟩)
    rw [Jx] at key
    exact key
   .rw [C7 (by omega),V4 data _ _ hl]; rfl
  have g:∀a∈t.Args,Di data 0 a=true/\Br a<=200:=fun a ha=>⟨Ac8 ht a ha,by have:=Gg ha; have:=Gd t; omega⟩
  have s:∀u,t.Args = [u]->(Bc (S:=Int) (E:=(Bool⊕Unit)) (fun v12=>bif (decide (v12<(v.Kids.length:Int))) then ((Au v.Kids v12).bind fun v13=>(Au t.Args 0).bind fun U=>(I7 (k+1) data v13 U).bind fun v15=>bif (!v15) then some (.inr (.inl false)) else some (.inl (Al (v12+1)))) else some (.inr (.inr ()))) 0).bind (fun z=>match z with | .inl V=>some V | .inr _=>some true)=some (M7 data v.Kids u):=by
   intro u b
   have hu:=g u (by rw [b]; simp)
   rw [Aj4]
   refine (Jw v.Kids (Gk data · u) (fun j=>(j:Int)) rfl (by omega) (rt:=true) (rf:=false) ?_ ?_).trans (by rw [Jx])
   .intro j x hx h1 h2 h3
    have hxm:=Mf (Cq hx)
    have hi:Au t.Args 0=some u:=by rw [b]; rfl
    simp only [h1,h2,h3,cond_true,Ap,hi,ih x u (k+1) (by omega) (by omega) (by omega) hu.1 hu.2]
    cases Gk data x u with
    | true=>exact ⟨fun _=>rfl,fun h=>by cases h⟩
    | false=>exact ⟨(fun h=>by cases h),fun _=>⟨.inl false,rfl,rfl⟩⟩
   .intro h; exact ⟨.inr (),by simp only [h]; rfl,rfl⟩
  rw [I7,Ac6]
  by_cases M:t.Kind=3
  .rw [Ct M,if_neg (by omega),if_neg (by omega),if_pos M,O6]
   cases (v.Kind==1) <;> cases (v.Num==0) <;> rfl
  rw [Cg M]
  by_cases N:t.Kind=2
  .rw [Ct N,if_neg (by omega),if_pos N,O6]
   cases (v.Kind==2) <;> cases (v.Num==0) <;> cases (v.Num==1) <;> rfl
  rw [Cg N]
  by_cases R:t.Kind=1
  .rw [Ct R,if_pos R,O6]
   rw [show decide (v.Num>=-1099511627776)=decide (-1099511627776<=v.Num) from rfl]
   cases (v.Kind==3) <;> cases decide (-1099511627776<=v.Num) <;> cases decide (v.Num<=1099511627776) <;> rfl
  rw [Cg R,if_neg R,if_neg N,if_neg M]
  by_cases I:t.Kind=6
  .rw [Ct I,if_pos I,A t.Args g]
   cases (v.Kind==4) <;> cases (v.Num==0) <;> rfl
  rw [Cg I,if_neg I]
  by_cases L:t.Kind=5
  .rw [Ct L,if_pos L,Auf hv.szv t G]
   simp only [cond_false,cond_true]
   by_cases g1:v.Kind=5
   .rw [C0 g1,Ct g1]
    by_cases g2:v.Num<0
    .rw [A4 g2,A8 (by omega:¬0<=v.Num)]; rfl
    .by_cases g3:v.Num>=8
     .rw [A8 g2,A4 g3,A8 (by omega:¬v.Num<8)]
      simp
     .rw [A8 g2,A8 g3,A4 (by omega:0<=v.Num),A4 (by omega:v.Num<8)]
      simp only [cond_false,Ap,Bool.true_and]
      cases hf:Gp data t v.Num with
      | none=>rfl
      | some l=>
       simp only [okL,cond_true]
       rw [A l (Aj8 hv ht hf)]; rfl
   .rw [C7 g1,Cg g1]; rfl
  rw [Cg L,if_neg L]
  by_cases f:t.Kind=7
  .have B:=k7 f
   rw [Ct f,if_pos f,Cg (by omega:t.Kind≠8)]
   match b:t.Args,B with
   | [u],_=>
    have:=s u b
    rw [b] at this
    simp only [cond_false,cond_true,Ap]
    by_cases g1:v.Kind=6
    .by_cases g2:(v.Kids.length:Int)>4096
     .rw [C0 g1,Ct g1,A4 g2,A8 (by omega:¬v.Kids.length<=4096)]
      simp
     .by_cases g3:v.Num=0
      .rw [C0 g1,Ct g1,A8 g2,A4 (by omega:v.Kids.length<=4096),C0 g3,Ct g3]
       simp only [cond_false,Ap,Bool.true_and]
       exact this
      .rw [C0 g1,Ct g1,A8 g2,A4 (by omega:v.Kids.length<=4096),C7 g3,Cg g3]
       simp
    .rw [C7 g1,Cg g1]
     simp
  rw [Cg f,if_neg f]
  by_cases c:t.Kind=8
  .have B:=k8 c
   rw [Ct c,if_pos c]
   match b:t.Args,B with
   | [u],_=>
    have:=s u b
    rw [b] at this
    simp only [cond_false,cond_true,Ap]
    by_cases g1:v.Kind=7
    .by_cases g2:v.Kids.length=1
     .by_cases g3:v.Num=0
      .rw [C0 g1,Ct g1,C0 (by omega:(v.Kids.length:Int)=1),C0 g3,Ct g3]
       simp only [cond_false,Ap,Bool.true_and]
       refine Eq.trans this ?_
       match hk:v.Kids,g2 with
       | [w],_=>simp [M7,Hu]
      .rw [C0 g1,Ct g1,C0 (by omega:(v.Kids.length:Int)=1),C7 g3,Cg g3]
       simp
     .rw [C0 g1,Ct g1,C7 (by omega:(v.Kids.length:Int)≠1),V4 data v.Kids [u] (by simpa using g2)]
      simp
    .rw [C7 g1,Cg g1]
     simp
  rw [Cg c,if_neg c,O6]
  rw [show decide (v.Num>=0)=decide (0<=v.Num) from rfl]
  cases (v.Kind==8) <;> cases decide (0<=v.Num) <;> cases decide (v.Num<64) <;> rfl
def V5 (data:List A5) (v:Bl) (t:Ao):Bool:=Fx data t&&decide (Dt v<=5000)&&Gk data v t
theorem Akb {data:List A5} (s:DSz data) (v:Bl) (t:Ao) (g:Dt v<1099511627776) (B:Br t<=1048576):∃b,Pq data v t=some b/\Nl data v t=some b/\(b=true↔Gi data/\V5 data v t=true):=by
 obtain ⟨b,b1,b2⟩:=Yn s
 obtain ⟨c,y,x⟩:=Yo s
 have k:b=c:=by
  rw [Bool.eq_iff_iff,b2,x]
 subst k
 unfold Pq Up Nl V5
 rw [b1,y,To data t 0 (by omega),Tp data t 0 (by omega)]
 simp only [Ap]
 rw [show (Di data 0 t&&decide (Br t<=200))=Fx data t from rfl]
 cases b with
 | false=>exact ⟨false,rfl,rfl,by simp; intro h; have:=b2.2 h; cases this⟩
 | true=>
  have j:=b2.1 rfl
  cases u:Fx data t with
  | false=>exact ⟨false,rfl,rfl,by simp⟩
  | true=>
   obtain ⟨A,q,_⟩:=Avm 5000 v 4000000 (by omega) (by omega) g
   obtain ⟨z,l,_⟩:=Avn 5000 v 4000000 (by omega) (by omega) g
   have q:I5 4000000 v 5000=_:=q
   have l:I6 4000000 v 5000=_:=l
   simp only [cond_true,Ap,q,l]
   by_cases i:Dt v<=5000
   .have f:=u
    simp only [Fx,Dl,decide_eq_true_eq] at f
    rw [A4 i]
    simp only [cond_true,Avo j 5000 v t 4000000 i (by omega) (by omega) f.1 f.2,Avp j 5000 v t 4000000 i (by omega) (by omega) f.1 f.2,Ap]
    exact ⟨_,rfl,rfl,by simp [j]⟩
   .rw [A8 i]
    exact ⟨false,rfl,rfl,by simp⟩
end Go.Ab
namespace Go.Ab
open Go
mutual
def Ic (data:List A5) (d:Int):Bl->List Bl
 | ⟨k,n,kids⟩=>⟨k,n,kids⟩::Ge data d kids (Ec data d n)
def Ge (data:List A5) (d:Int):List Bl->List Bool->List Bl
 | x::xs,b::bs=>(bif b then Ic data d x else [])++Ge data d xs bs
 | [],_=>[]
 | _::_,[]=>[]
end
theorem Ac9 (data:List A5) (d:Int) (v:Bl):Ic data d v=v::Ge data d v.Kids (Ec data d v.Num):=by cases v; simp only [Ic]
mutual
theorem Akc (data:List A5) (d:Int):∀v,(Ic data d v).length<=Dt v
 | ⟨k,n,kids⟩=>by
  have:=V6 data d kids (Ec data d n)
  simp only [Ic,Dt,List.length_cons]; omega
theorem V6 (data:List A5) (d:Int):∀l r,(Ge data d l r).length<=Du l
 | x::xs,b::bs=>by
  have h1:=Akc data d x
  have h2:=V6 data d xs bs
  cases b <;> simp only [Ge,Du,List.length_append,cond_true,cond_false,List.length_nil] <;> omega
 | [],_=>by simp [Ge]
 | _::_,[]=>by simp [Ge]
end
theorem Y6 (data:List A5) (d:Int):∀(l:List Bl) (r:List Bool) (x:Bl) (b:Bool),l.length=r.length->Ge data d (l++[x]) (r++[b])=Ge data d l r++(bif b then Ic data d x else [])
 | [],[],x,b,_=>by simp [Ge]
 | y::ys,c::cs,x,b,h=>by
  simp only [List.cons_append,Ge,Y6 data d ys cs x b (by simpa using h),List.append_assoc]
 | [],_::_,_,_,h=>by simp at h
 | _::_,[],_,_,h=>by simp at h
theorem Avq {a:Ao} {d vars:Int} {σ:List Ao} (h:Gn a d vars=true) (i:(σ.length:Int)=vars):C3 σ a=⟨5,d,σ⟩:=by
 unfold Gn at h
 simp only [Dl,beq_iff_eq] at h
 obtain ⟨⟨⟨h1,h2⟩,h3⟩,g⟩:=h
 have f:isV σ a.Kind a.Num=false:=by unfold isV; rw [h1]; rfl
 rw [Vt f,h1,h2]
 congr 1
 apply List.ext_getElem?
 intro j
 rw [List.getElem?_map]
 cases hx:a.Args[j]? with
 | none=>
  rw [List.getElem?_eq_none_iff] at hx
  rw [List.getElem?_eq_none (by omega)]; rfl
 | some x=>
  have hj:=Em hx
  have:=Hg g hx
  simp only [L6,Dl,beq_iff_eq] at this
  have c:σ[j]? = some (σ[j]'(by omega)):=Cv (by omega)
  generalize σ[j]'(by omega)=s at c
  have b:isV σ x.Kind x.Num=true:=by
   unfold isV
   rw [this.1.1,this.1.2,A4 (by omega),A4 (by omega)]; rfl
  rw [c,Option.map_some,Ts b (by rw [this.1.2]; exact c)]
theorem V7 {data:List A5} {v:Bl} {t:Ao} (hk:t.Kind=5) (h:Gk data v t=true) :
  ∃x,Au data t.Num=some x/\0<=v.Num/\v.Num<x.Cons.length/\(Ec data t.Num v.Num).length=v.Kids.length/\∀(j:Nat) (w:Bl),v.Kids[j]? = some w->(Ec data t.Num v.Num)[j]? = some true->Gk data w t=true:=by
 rw [Ac6,if_neg (by omega),if_neg (by omega),if_neg (by omega),if_neg (by omega),if_pos hk] at h
 cases u:Gp data t v.Num with
 | none=>rw [u] at h; simp at h
 | some l=>
  rw [u] at h
  simp only [Dl] at h
  have b:=h.2
  have c:v.Kids.length=l.length:=by
   by_cases q:v.Kids.length=l.length
   .exact q
   .rw [V4 data _ _ q] at b; cases b
  have I:=Vu u
  obtain ⟨x,y,_,hx,z,hy,q,_⟩:=Ow u
  obtain ⟨G,E,_,_⟩:=Eo hy
  refine ⟨x,hx,G,E,by omega,fun j w B D=>?_⟩
  rw [Y5 data _ _ c] at b
  have hj:=Em B
  have g:l[j]? = some (l[j]'(by omega)):=Cv (by omega)
  have s:=List.all_eq_true.1 b (w,l[j]'(by omega)) (Cq (i:=j) (by rw [List.getElem?_zip_eq_some]; exact ⟨B,g⟩))
  simp only at s
  have ha:y.Args[j]? = some (y.Args[j]'(by rw [q] at c; simp at c; omega)):=Cv _
  generalize y.Args[j]'_=a at ha
  have A:(Ec data t.Num v.Num)[j]? = some (Gn a t.Num x.Vars):=by
   unfold Ec; simp only [hx,hy,List.getElem?_map,ha,Option.map_some]
  rw [A] at D
  have f:=Option.some.inj D
  have k:l[j]? = some (C3 t.Args a):=by rw [q,List.getElem?_map,ha]; rfl
  rw [k] at g
  rw [<-Option.some.inj g,Avq f z] at s
  have:(Ao.mk 5 t.Num t.Args)=t:=by cases t; simp only at hk; rw [hk]
  rw [this] at s; exact s
theorem Avr {data:List A5} (B:Hs data) {t:Ao} (hk:t.Kind=5):∀(n:Nat) (v:Bl) (k:Nat) (b:List Bl),Dt v<=n->n<=k->n<=1048576->b.length+Dt v<=1048576->Gk data v t=true->My k data v t.Num b=some (b++Ic data t.Num v):=by
 intro n
 induction n with
 | zero=>intro v k b h; have:=O4 v; omega
 | succ n ih=>
  intro v k b h D J hb E
  obtain ⟨k,rfl⟩:∃q,k=q+1:=⟨k-1,by omega⟩
  have u:=M6 v
  have y:=O5 v.Kids
  obtain ⟨x,hx,I,G,l,g⟩:=V7 hk E
  rw [My,Dw (by simp; omega),Ap,Acd data t.Num v.Num B,Ap,Ac9]
  generalize L:Ec data t.Num v.Num=R at *
  have i:∀j,(Ge data t.Num (v.Kids.take j) (R.take j)).length<=Du (v.Kids.take j):=fun j=>V6 _ _ _ _
  refine F6 R (fun j=>((j:Int),b++[v]++Ge data t.Num (v.Kids.take j) (R.take j))) (by simp [Ge]) (by omega) ?_ ?_
  .intro j c hj hc h1 h2 h3
   have f:v.Kids[j]? = some (v.Kids[j]'(by omega)):=Cv (by omega)
   generalize v.Kids[j]'_=w at f
   have s:=Mf (Cq f)
   have z:=Y4 f
   have A:=V3 v.Kids (j+1)
   have hp:=i j
   simp only [h1,h2,h3,cond_true,Ap,Cs rfl f,D7 f,D7 hc]
   rw [Y6 _ _ _ _ _ _ (by simp; omega)]
   cases c with
   | false=>simp
   | true=>
    rw [ih w k _ (by omega) (by omega) (by omega) (by simp; omega) (g j w f hc)]
    simp
  .intro h1
   refine ⟨b++(v::Ge data t.Num v.Kids R),?_,rfl⟩
   simp only [h1]
   rw [List.take_of_length_le (by omega:v.Kids.length<=R.length),List.take_length]; simp
theorem Avs {data:List A5} (h:Hs data) {t:Ao} (hk:t.Kind=5) (v:Bl) (A:Dt v<=5000) (u:Gk data v t=true):Si data v t.Num=some (Ic data t.Num v):=by
 have l:=M6 v
 have q:=O5 v.Kids
 obtain ⟨x,hx,z,y,i,f⟩:=V7 hk u
 unfold Si
 rw [Dw (by simp),Ap,Acd data t.Num v.Num h,Ap,Ac9]
 generalize B:Ec data t.Num v.Num=R at *
 have g:∀j,(Ge data t.Num (v.Kids.take j) (R.take j)).length<=Du (v.Kids.take j):=fun j=>V6 _ _ _ _
 refine F6 R (fun j=>((j:Int),[v]++Ge data t.Num (v.Kids.take j) (R.take j))) (by simp [Ge]) (by omega) ?_ ?_
 .intro j c hj hc h1 h2 h3
  have b:v.Kids[j]? = some (v.Kids[j]'(by omega)):=Cv (by omega)
  generalize v.Kids[j]'_=w at b
  have k:=Mf (Cq b)
  have s:=V3 v.Kids j
  have hp:=g j
  simp only [h1,h2,h3,cond_true,Ap,Cs rfl b,D7 b,D7 hc]
  rw [Y6 _ _ _ _ _ _ (by simp; omega)]
  cases c with
  | false=>simp
  | true=>
   rw [Avr h hk 5000 w 4000000 _ (by omega) (by omega) (by omega) (by simp; omega) (f j w b hc)]
   simp
 .intro h1
  refine ⟨(v::Ge data t.Num v.Kids R),?_,rfl⟩
  simp only [h1]
  rw [List.take_of_length_le (by omega:v.Kids.length<=R.length),List.take_length]; simp
theorem Avt {data:List A5} {t:Ao} (hk:t.Kind=5) (B:List (List Bool)) (J:∀(x:A5),Au data t.Num=some x->∀n:Int,0<=n->n<x.Cons.length->Au B n=some (Ec data t.Num n)):∀(n:Nat) (v:Bl) (k:Nat) (b:List Bl),Dt v<=n->n<=k->n<=1048576->b.length+Dt v<=1048576->Gk data v t=true->Lu k v b B=some (b++Ic data t.Num v):=by
 intro n
 induction n with
 | zero=>intro v k b h; have:=O4 v; omega
 | succ n ih=>
  intro v k b h G L hb I
  obtain ⟨k,rfl⟩:∃u,k=u+1:=⟨k-1,by omega⟩
  have z:=M6 v
  have A:=O5 v.Kids
  obtain ⟨x,hx,s,q,l,g⟩:=V7 hk I
  rw [Lu,Dw (by simp; omega),Ap,Yk b [] _ _ b.length rfl rfl,Ap,Yj b [] _ _ _ b.length rfl rfl,J x hx v.Num s q,Ap,Ac9]
  generalize M:Ec data t.Num v.Num=R at *
  have i:∀j,(Ge data t.Num (v.Kids.take j) (R.take j)).length<=Du (v.Kids.take j):=fun j=>V6 _ _ _ _
  refine F6 R (fun j=>((j:Int),b++[v]++Ge data t.Num (v.Kids.take j) (R.take j))) (by simp [Ge]) (by omega) ?_ ?_
  .intro j c hj hc h1 h2 h3
   have f:v.Kids[j]? = some (v.Kids[j]'(by omega)):=Cv (by omega)
   generalize v.Kids[j]'_=w at f
   have y:=Mf (Cq f)
   have D:=Y4 f
   have E:=V3 v.Kids (j+1)
   have hp:=i j
   simp only [h1,h2,h3,cond_true,Ap,Cs rfl f,D7 f,D7 hc]
   rw [Y6 _ _ _ _ _ _ (by simp; omega)]
   cases c with
   | false=>simp
   | true=>
    rw [ih w k _ (by omega) (by omega) (by omega) (by simp; omega) (g j w f hc)]
    simp
  .intro h1
   refine ⟨b++(v::Ge data t.Num v.Kids R),?_,rfl⟩
   simp only [h1]
   rw [List.take_of_length_le (by omega:v.Kids.length<=R.length),List.take_length]; simp
theorem Avu {data:List A5} (l:Hs data) (q:∀x∈data,x.Cons.length<=8) {t:Ao} (hk:t.Kind=5) (v:Bl) (k:Dt v<=5000) (h:Gk data v t=true):R9 data t v=some (Ic data t.Num v):=by
 obtain ⟨x,hx,z,u,g,f⟩:=V7 hk h
 have i:=q x (Eo hx).2.2.2
 unfold R9
 rw [hx,Ap]
 refine F6 x.Cons (fun j=>((j:Int),(List.range j).map fun c:Nat=>Ec data t.Num (c:Int))) rfl (by omega) ?_ ?_
 .intro j y hj hy h1 h2 h3
  simp only [h1,h3,cond_true,Yl data t.Num (j:Int) l,Ap]
  rw [Dw (by simp; omega),Ap,List.range_succ]; simp
 .intro h1
  refine ⟨(List.range x.Cons.length).map fun c:Nat=>Ec data t.Num (c:Int),by simp,?_⟩
  rw [Avt hk _ (fun s b n a1 a2=>?_) 5000 v 4000000 [] k (by omega) (by omega) (by simp; omega) h]
  .rfl
  .rw [hx] at b; cases b
   rw [Cs (n:=n.toNat) (by omega)]
   rw [List.getElem?_map,List.getElem?_range (by omega)]
   simp only [Option.map_some]
   rw [show ((n.toNat:Nat):Int)=n by omega]
def M8 (l:List Bl) (c:Int):Int:=((l.filter fun v=>v.Num==c).length:Nat)
theorem Akd (l:List Bl) (c:Int) (h:l.length<=1048576) {R:Type} {J:Int->Option R} {r:R} (g:J (M8 l c)=some r) :
  (Bc (S:=(Int×Int)) (E:=Int) (fun (b,v12)=>
   bif (decide (v12<(l.length:Int))) then (
   (Au l v12).bind fun v13=>
   bif (v13.Num==c) then some (.inl ((Al (b+1)),(Al (v12+1))))
   else some (.inl (b,(Al (v12+1)))))
   else some (.inr b)) (0,0)).bind J=some r:=by
 refine F6 l (fun j=>(M8 (l.take j) c,(j:Int))) rfl (by omega) ?_ ?_
 .intro j x hj hx h1 h2 h3
  have f:(List.filter (fun v=>v.Num==c) (l.take j)).length<=1048576:=by
   refine Nat.le_trans (List.length_filter_le _ _) ?_
   simp; omega
  simp only [h1,h2,h3,cond_true,Ap,D7 hx,M8,List.filter_append,List.length_append]
  cases hc:(x.Num==c) with
  | true=>
   simp only [cond_true,List.filter_cons,hc,if_true,List.filter_nil,List.length_cons,List.length_nil]
   rw [show Al (((List.filter (fun v=>v.Num==c) (l.take j)).length:Int)+1)=(((List.filter (fun v=>v.Num==c) (l.take j)).length+(0+1):Nat):Int) by rw [Al,Cl] <;> omega]
  | false=>simp [hc]
 .intro h1
  exact ⟨M8 l c,by simp only [h1]; rw [List.take_length]; rfl,g⟩
theorem Avv:∀(k:Nat) (t:Ao),Br t<=k->k<1099511627776->∃i,Lt k t=some i/\True:=by
 intro k
 induction k with
 | zero=>intro t h; have:=Kt t; omega
 | succ k ih=>
  intro t h hk
  have g:=Gd t
  have c:=Hq t.Args
  rw [Lt]
  refine Ou ?_ ⟨_,rfl,trivial⟩
  refine E3 (fun (i,o)=>∃j:Nat,i=j/\j<=t.Args.length/\o.length=j) (fun (i,_)=>t.Args.length-i.toNat) (fun _=>True) ⟨0,rfl,by omega,rfl⟩ ?_ (fun e _=>⟨_,rfl,trivial⟩)
  rintro ⟨i,o⟩ ⟨j,rfl,hj,b⟩
  rcases Nat.lt_or_ge j t.Args.length with h' | h'
  .have hx:t.Args[j]? = some t.Args[j]:=Cv h'
   generalize t.Args[j]=x at hx
   have l:=Gg (Cq hx)
   obtain ⟨y,f,_⟩:=ih x (by omega) (by omega)
   simp only [A4 (by omega:(j:Int)<(t.Args.length:Int)),cond_true,Cs rfl hx,Ap,f,D3 h' (by omega)]
   have b:o.length=j:=b
   rw [Dw (by simp; omega),Ap]
   exact .inl ⟨_,rfl,⟨j+1,rfl,by omega,by simp [b]⟩,by simp; omega⟩
  .have:j=t.Args.length:=by omega
   subst this
   exact .inr ⟨o,by simp,trivial⟩
theorem Ake {data:List A5} (g:DSz data) (i:Gi data) (t:Ao) (hk:t.Kind=5) (v:Bl) (l:V5 data v t=true) (x:A5) (hx:Au data t.Num=some x) (c:Nat) (hc:c<x.Cons.length) :
  R3 data t v c=some (M8 (Ic data t.Num v) c,0)/\R4 data t v c=some (M8 (Ic data t.Num v) c,0):=by
 have f:=l
 unfold V5 at f
 simp only [Dl,decide_eq_true_eq] at f
 obtain ⟨⟨k,u⟩,s⟩:=f
 have j:=k
 simp only [Fx,Dl,decide_eq_true_eq] at j
 obtain ⟨b,b1,b2,b3⟩:=Akb g v t (by omega) (by omega)
 have hb:b=true:=b3.2 ⟨i,l⟩
 subst hb
 obtain ⟨q,B,A⟩:=Yn g
 have E:q=true:=A.2 i
 subst E
 obtain ⟨w,z,y⟩:=Yo g
 have D:w=true:=y.2 i
 subst D
 have G:=Akc data t.Num v
 obtain ⟨ti,t1,_⟩:=Avv 4000000 t (by omega) (by omega)
 have h:(bif t.Kind != 5 then some true else bif decide ((c:Int)<0) then some true else (Au data t.Num).bind fun v5=>some (decide ((c:Int)>=(v5.Cons.length:Int))))=some false:=by
  rw [C0 hk,A8 (by omega),hx,Ap,A8 (by omega)]; rfl
 constructor
 .unfold R3 Uq P0
  rw [B,To data t 0 (by omega)]
  simp only [Ap,cond_true]
  rw [show (Di data 0 t&&decide (Br t<=200))=Fx data t from rfl,k,t1]
  simp only [Ap,Dr,cond_false]
  rw [h]
  simp only [Ap,cond_false,b1,Dr,Avu g.sz.short i.cons8 hk v u s]
  exact Akd _ _ (by omega) rfl
 .unfold R4 Pu
  rw [z,Tp data t 0 (by omega)]
  simp only [Ap,cond_true]
  rw [show (Di data 0 t&&decide (Br t<=200))=Fx data t from rfl,k]
  simp only [Dr,cond_false]
  rw [h]
  simp only [Ap,cond_false,b2,Dr]
  unfold Ur
  rw [C0 hk,b2]
  simp only [cond_false,Ap,Dr,Avs g.sz.short hk v u s]
  exact Akd _ _ (by omega) rfl
end Go.Ab
namespace Go.Ab
open Go
theorem Akf (x:Cp) (v:Int):Pp x v=some (match tyX x.Vars x.Res v with | some t=>(t,true) | none=>(⟨0,0,[]⟩,false)):=by
 unfold Pp tyX
 by_cases h:v = -1
 .rw [Ct h,if_pos h]; rfl
 .rw [Cg h,if_neg h]
  cases hx:Au x.Vars v with
  | none=>
   rcases M1 hx with h' | h'
   .rw [A4 h']; rfl
   .by_cases b:v<0
    .rw [A4 b]; rfl
    .rw [A8 b,A4 (show v>=(x.Vars.length:Int) from h')]; rfl
  | some t=>
   obtain ⟨a1,a2,_⟩:=Eo hx
   rw [A8 (by omega:¬v<0),A8 (by omega:¬v>=(x.Vars.length:Int))]; rfl
theorem Akg (t:Ao):(Ao.mk t.Kind t.Num t.Args)=t:=by cases t; rfl
theorem Avw (x:Cp) (i:CSz x) (v:Int) (w:Bl) (L:Dt w<1099511627776):∃r,Rw x v w=some r/\Rx x v w=some r/\r.1.length<=8:=by
 obtain ⟨b,b1,b2⟩:=Aj2 x i [] (fun t h=>by cases h)
 obtain ⟨c,U,S⟩:=Aj1 x i [] (fun t h=>by cases h)
 have A:b=c:=by rw [Bool.eq_iff_iff,b2,S]
 subst A
 unfold Rw Rx
 rw [b1,U]
 simp only [Ap,Akf]
 cases b with
 | false=>exact ⟨_,rfl,rfl,by simp⟩
 | true=>
  have M:=(b2.1 rfl).1
  simp only [Dr,cond_false]
  have l:(bif decide (v < -1) then some true else some (decide (v>=(x.Vars.length:Int))))=some (!(tyX x.Vars x.Res v).isSome):=by
   rw [Ajr]
   by_cases h:v < -1
   .rw [A4 h,A8 (by omega:¬(-1<=v/\v<(x.Vars.length:Int)))]; rfl
   .by_cases h':v>=(x.Vars.length:Int)
    .rw [A8 h,A4 h',A8 (by omega:¬(-1<=v/\v<(x.Vars.length:Int)))]; rfl
    .rw [A8 h,A8 h',A4 (by omega:(-1<=v/\v<(x.Vars.length:Int)))]; rfl
  rw [l]
  cases f:tyX x.Vars x.Res v with
  | none=>exact ⟨_,rfl,rfl,by simp⟩
  | some t=>
   have z:(bif decide (v>=0) then ((Au x.Vars v).bind fun s=>some (s.Kind,s.Num,s.Args)) else some (x.Res.Kind,x.Res.Num,x.Res.Args))=some (t.Kind,t.Num,t.Args):=by
    unfold tyX at f
    by_cases h:v = -1
    .rw [if_pos h] at f; cases f
     rw [A8 (by omega)]; rfl
    .rw [if_neg h] at f
     have:=Eo f
     rw [A4 (by omega),f]; rfl
   have E:=(M.ctx i).sz v t f
   obtain ⟨q,J,I,G⟩:=Akb i.ds w t L (by omega)
   simp only [Option.isSome_some,Dr,cond_false,Ap,z,Akg,J,I]
   cases q with
   | false=>exact ⟨_,rfl,rfl,by simp⟩
   | true=>
    obtain ⟨u,B⟩:=G.1 rfl
    simp only [Dr,cond_false]
    by_cases D:t.Kind=7
    .simp only [Ct D,cond_true]
     rw [Dw (by simp)]
     exact ⟨_,rfl,rfl,by simp⟩
    .simp only [Cg D,cond_false]
     by_cases k:t.Kind=5
     .simp only [Ct k,cond_true]
      have g:=B
      unfold V5 at g
      simp only [Dl] at g
      obtain ⟨y,hy,_⟩:=V7 k g.2
      have R:=u.cons8 y (Eo hy).2.2.2
      rw [hy]
      simp only [Ap]
      refine ⟨((List.range y.Cons.length).map fun c:Nat=>Da.mk v (c:Int) (M8 (Ic x.Data t.Num w) (c:Int)),0),?_,?_,by simpa using R⟩
      .refine F6 y.Cons (fun j=>((j:Int),(List.range j).map fun c:Nat=>Da.mk v (c:Int) (M8 (Ic x.Data t.Num w) (c:Int)))) rfl (by omega) ?_ ?_
       .intro j e hj N h1 h2 h3
        simp only [h1,h3,cond_true,(Ake i.ds u t k w B y hy j hj).1,Ap]
        rw [Dw (by simp; omega),List.range_succ]; simp
       .intro h1
        exact ⟨.inr _,by simp only [h1]; rfl,rfl⟩
      .refine F6 y.Cons (fun j=>((j:Int),(List.range j).map fun c:Nat=>Da.mk v (c:Int) (M8 (Ic x.Data t.Num w) (c:Int)))) rfl (by omega) ?_ ?_
       .intro j e hj N h1 h2 h3
        simp only [h1,h3,cond_true,(Ake i.ds u t k w B y hy j hj).2,Ap]
        rw [Dw (by simp; omega),List.range_succ]; simp
       .intro h1
        exact ⟨_,by simp only [h1]; rfl,rfl⟩
     .simp only [Cg k,cond_false]
      exact ⟨_,rfl,rfl,by simp⟩
theorem Avx {data:List A5} (f:DSz data) (c:Gi data) (t:Ao) (g:Fx data t=true) (i:Be) (hi:isz i<=1048576):Sa data t i=some (Fw (F1 data i t))/\Sc data t i=some (Fw (F1 data i t)):=by
 have b:=g
 simp only [Fx,Dl,decide_eq_true_eq] at b
 obtain ⟨q,l,k⟩:=Yn f
 have y:q=true:=k.2 c
 subst y
 obtain ⟨w,j,h⟩:=Yo f
 have x:w=true:=h.2 c
 subst x
 constructor
 .unfold Sa P0
  rw [l,To data t 0 (by omega)]
  simp only [Ap,cond_true]
  rw [show (Di data 0 t&&decide (Br t<=200))=Fx data t from rfl,g]
  obtain ⟨p,u,s⟩:=(Auj c.szv f.sz.short 4000000).1 i t (by omega) hi b.2
  simp only [Dr,cond_false,u,Ap]
  rcases s with ⟨a1,d,a2,a3,a4⟩ | ⟨a1,a2⟩
  .rw [a1,a2,Yt a3,a4]; rfl
  .rw [a1,Rb a2]; rfl
 .unfold Sc Pu
  rw [j,Tp data t 0 (by omega)]
  simp only [Ap,cond_true]
  rw [show (Di data 0 t&&decide (Br t<=200))=Fx data t from rfl,g]
  simp only [Dr,cond_false,(Ai2 c.szv f.sz.short c.cons8 4000000).1 i t (by omega) hi b.2,Ap]
theorem Ada {R:Type} (b:List Be) (f:Be) (i:b[0]? = some f) (l:b.length<=1048576) {J:(Int×Int×Bool)⊕Unit->Option R} {rt rf:R} (h1:J (.inl (0,0,false))=some rf) (h2:J (.inr ())=some rt) :
  (Bc (S:=Int) (E:=((Int×Int×Bool)⊕Unit)) (fun c=>
   bif (decide (c<(b.length:Int))) then (
   (Au b c).bind fun v12=>
   (Au b 0).bind fun g=>
   bif (v12.Num != g.Num) then some (.inr (.inl (0,0,false)))
   else some (.inl (Al (c+1))))
   else some (.inr (.inr ()))) 0).bind J=some (bif b.all (fun k=>k.Num==f.Num) then rt else rf):=by
 refine Jw b (fun k=>k.Num==f.Num) (fun j=>(j:Int)) rfl (by omega) ?_ ?_
 .intro j k hk g1 g2 g3
  have hi:Au b 0=some f:=Cs (n:=0) rfl i
  simp only [g1,g2,g3,cond_true,Ap,hi]
  by_cases e:k.Num=f.Num
  .rw [C0 e,Ct e]
   exact ⟨fun _=>rfl,fun h=>by cases h⟩
  .rw [C7 e,Cg e]
   exact ⟨(fun h=>by cases h),fun _=>⟨_,rfl,h1⟩⟩
 .intro h; exact ⟨.inr (),by simp only [h]; rfl,h2⟩
theorem Avy (x:Cp) (B:CSz x) (u:K0 x) (f:D1) (t:Ao) (g:tyX x.Vars x.Res f.Var=some t) (hi:isz f.Index<=1048576) :
  ∃p q:Int×Int×Bool,I3 x f=some p/\Jm x f.Var f.Index=some q/\p.2.2=q.2.2/\(p.2.2=true->p=q):=by
 have D:Fx x.Data t=true:=by
  unfold tyX at g
  by_cases h:f.Var = -1
  .rw [if_pos h] at g; cases g; exact u.2.2.1
  .rw [if_neg h] at g
   exact List.all_eq_true.1 u.2.2.2 t (Eo g).2.2.2
 have c:f.Index.Kids.length<=1048576:=by have:=Kv f.Index.Kids; have:=Gj f.Index; omega
 have j:((bif decide (f.Var>=0) then some (decide (f.Var<(x.Vars.length:Int))) else some false).bind fun v4=>(bif v4 then ((Au x.Vars f.Var).bind fun v5=>some (v5.Kind,v5.Num,v5.Args)) else some (x.Res.Kind,x.Res.Num,x.Res.Args)))=some (t.Kind,t.Num,t.Args):=by
  unfold tyX at g
  by_cases h:f.Var = -1
  .rw [if_pos h] at g; cases g
   rw [A8 (by omega)]; rfl
  .rw [if_neg h] at g
   have:=Eo g
   rw [A4 (by omega),A4 (by omega),g]; rfl
 unfold I3 Jm
 rw [Akf,g]
 simp only [Ap,Dr,cond_false]
 rw [<-Option.bind_assoc]
 erw [j]
 simp only [Ap,Akg]
 by_cases z:t.Kind=7
 .simp only [Ct z,cond_true]
  exact ⟨_,_,rfl,rfl,rfl,fun _=>rfl⟩
 .simp only [Cg z,cond_false]
  by_cases A:t.Kind=5
  .simp only [Ct A,cond_true]
   obtain ⟨d1,d2⟩:=Avx B.ds u.2.1 t D f.Index hi
   simp only [d1,d2,Ap]
   cases hk:f.Index.Kids with
   | nil=>exact ⟨_,_,rfl,rfl,rfl,fun _=>rfl⟩
   | cons b i=>
    have y:(b::i)[0]? = some b:=rfl
    rw [hk] at c
    have s:Au (b::i) 0=some b:=rfl
    have l:(((b::i).length:Int)==0)=false:=Cg (by simp; omega)
    simp only [l,cond_false,Ap,s]
    by_cases hd:Fw (F1 x.Data f.Index t)=((b::i).length:Int)
    .rw [C0 hd]
     simp only [cond_false]
     refine ⟨_,_,Ada (b::i) b y c rfl rfl,Ada (b::i) b y c rfl rfl,?_,?_⟩
     .rw [Ct hd]
     .rw [Ct hd]; intro _; rfl
    .rw [C7 hd]
     simp only [cond_true]
     refine ⟨_,_,rfl,Ada (b::i) b y c rfl rfl,?_,fun h=>by cases h⟩
     rw [Cg hd]
     cases (b::i).all (fun k=>k.Num==b.Num) <;> rfl
  .simp only [Cg A,cond_false]
   exact ⟨_,_,rfl,rfl,rfl,fun _=>rfl⟩
end Go.Ab
namespace Go.Ab
open Go
theorem Y7 {S T E F R1 R2:Type} {s1:S->Option (S⊕E)} {s2:T->Option (T⊕F)} {J1:E->Option R1} {J2:F->Option R2} (b:S->T->Prop) (m:S->Nat) (Q:R1->R2->Prop)
  (h:∀s t,b s t->(∃s' c,s1 s=some (.inl s')/\s2 t=some (.inl c)/\b s' c/\m s' < m s)\/(∃e f r1 r2,s1 s=some (.inr e)/\s2 t=some (.inr f)/\J1 e=some r1/\J2 f=some r2/\Q r1 r2)) :
  ∀{s:S} {t:T},b s t->∃r1 r2,(Bc s1 s).bind J1=some r1/\(Bc s2 t).bind J2=some r2/\Q r1 r2:=by
 have key:∀(n:Nat) (s:S) (t:T),m s<=n->b s t->∃r1 r2,(Bc s1 s).bind J1=some r1/\(Bc s2 t).bind J2=some r2/\Q r1 r2:=by
  intro n
  induction n with
  | zero=>
   intro s t k g
   rcases h s t g with ⟨s',c,_,_,_,i⟩ | ⟨e,f,r1,r2,h1,h2,h3,i,j⟩
   .omega
   .exact ⟨r1,r2,by rw [E9 h1]; exact h3,by rw [E9 h2]; exact i,j⟩
  | succ n ih=>
   intro s t k g
   rcases h s t g with ⟨s',c,h1,h2,h3,i⟩ | ⟨e,f,r1,r2,h1,h2,h3,i,j⟩
   .obtain ⟨r1,r2,a1,a2,a3⟩:=ih s' c (by omega) h3
    exact ⟨r1,r2,by rw [I2 h1]; exact a1,by rw [I2 h2]; exact a2,a3⟩
   .exact ⟨r1,r2,by rw [E9 h1]; exact h3,by rw [E9 h2]; exact i,j⟩
 intro s t g
 exact key (m s) s t (Nat.le_refl _) g
def V8 (x:Cp) (f:D1):Prop:=∃s:Int×Int×Bool,I3 x f=some s/\Jm x f.Var f.Index=some s/\s.2.2=true
theorem Akh {data:List A5} {vars:List Ao} {res:Ao} {m:C8} (h:Iu data vars res m=true):(∀f∈m.Factors,∃t,tyX vars res f.Var=some t)/\m.Factors.length<=6:=by
 unfold Iu at h
 simp only [Dl,decide_eq_true_eq] at h
 obtain ⟨⟨h1,h2⟩,h3⟩:=h
 have b:∀f∈m.Factors,1<=E7 data vars res f:=by
  intro f b
  obtain ⟨j,hj⟩:=List.getElem?_of_mem b
  have:=Hg h1 hj
  simp only [O2,Dl,decide_eq_true_eq] at this
  exact this.1
 have ha:0<=Ff m.Atoms:=(Y2 m.Atoms (fun a ha=>by
  obtain ⟨j,hj⟩:=List.getElem?_of_mem ha
  have:=Hg h2 hj
  simp only [Kz,Dl,decide_eq_true_eq] at this
  omega)).1
 refine ⟨fun f c=>?_,?_⟩
 .have:=b f c
  unfold E7 at this
  cases k:tyX vars res f.Var with
  | none=>rw [k] at this; have:(1:Int)<=-1:=this; omega
  | some t=>exact ⟨t,rfl⟩
 .have key:∀l:List D1,(∀f∈l,1<=E7 data vars res f)->(l.length:Int)<=D6 data vars res l:=by
   intro l
   induction l with
   | nil=>intro _; simp [D6]
   | cons f fs ih=>
    intro i
    have h1:=i f (by simp)
    have h2:=ih (fun g q=>i g (by simp [q]))
    unfold D6 at *
    simp only [List.map_cons,List.sum_cons,List.length_cons]; omega
  have:=key m.Factors b
  omega
theorem Aki {data:List A5} {vars:List Ao} {res:Ao} {p:List B2} (h:Me data vars res p=true):p.length<=1000/\∀t∈p,Iu data vars res t.Mono=true:=by
 unfold Me at h
 simp only [Dl,decide_eq_true_eq] at h
 refine ⟨h.1,fun t b=>?_⟩
 obtain ⟨j,hj⟩:=List.getElem?_of_mem b
 have:=Hg h.2 hj
 simp only [Rf,Dl] at this
 exact this.1.2
theorem Akj (x:Cp) (X:CSz x) (p:List B2) (hp:∀t∈p,TSz t) :
  ∃b,Nk x p=some b/\Pm x p=some b/\(b=true->K0 x/\Me x.Data x.Vars x.Res p=true/\∀t∈p,∀f∈t.Mono.Factors,V8 x f):=by
 obtain ⟨b,b1,b2⟩:=Aj2 x X p hp
 obtain ⟨c,c1,c2⟩:=Aj1 x X p hp
 have a6:b=c:=by rw [Bool.eq_iff_iff,b2,c2]
 subst a6
 unfold Nk Pm
 rw [b1,c1]
 simp only [Ap]
 cases b with
 | false=>exact ⟨false,rfl,rfl,fun h=>by cases h⟩
 | true=>
  obtain ⟨hf,hc⟩:=b2.1 rfl
  obtain ⟨N,B⟩:=Aki hc
  simp only [Dr,cond_false]
  have key:=Y7 (R1:=Bool) (R2:=Bool)
   (s1:=fun k=>bif (decide (k<(p.length:Int))) then ((Au p k).bind fun v15=>bif (decide ((v15.Mono.Atoms.length:Int)>(0:Int))) then some (.inr (.inl false)) else
    ((Bc (S:=Int) (E:=(Bool⊕Int)) (fun v20=>bif (decide (v20<(v15.Mono.Factors.length:Int))) then ((Au v15.Mono.Factors v20).bind fun v21=>(I3 x v21).bind fun v23=>bif (!v23.2.2) then some (.inr (.inl false)) else some (.inl (Al (v20+1)))) else some (.inr (.inr v20))) 0).bind fun z=>match z with | .inl l=>some (.inr (.inl l)) | .inr v25=>some (.inl (Al (k+1))))) else some (.inr (.inr ())))
   (s2:=fun k=>bif (decide (k<(p.length:Int))) then ((Au p k).bind fun v15=>bif (decide ((v15.Mono.Atoms.length:Int)>(0:Int))) then some (.inr (.inl false)) else
    ((Bc (S:=Int) (E:=(Bool⊕Int)) (fun v20=>bif (decide (v20<(v15.Mono.Factors.length:Int))) then ((Au v15.Mono.Factors v20).bind fun v21=>(Jm x v21.Var v21.Index).bind fun v23=>bif (!v23.2.2) then some (.inr (.inl false)) else some (.inl (Al (v20+1)))) else some (.inr (.inr v20))) 0).bind fun z=>match z with | .inl l=>some (.inr (.inl l)) | .inr v25=>some (.inl (Al (k+1))))) else some (.inr (.inr ())))
   (J1:=fun z:Bool⊕Unit=>match z with | .inl y=>some y | .inr _=>some true) (J2:=fun z:Bool⊕Unit=>match z with | .inl y=>some y | .inr _=>some true)
   (fun s t=>∃j:Nat,s=(j:Int)/\t=(j:Int)/\j<=p.length/\∀u∈p.take j,∀f∈u.Mono.Factors,V8 x f) (fun s=>p.length-s.toNat)
   (fun r1 r2=>r1=r2/\(r1=true->∀t∈p,∀f∈t.Mono.Factors,V8 x f)) (by
    rintro s t ⟨j,rfl,rfl,hj,q⟩
    rcases Nat.lt_or_ge j p.length with h | h
    .have hu:p[j]? = some p[j]:=Cv h
     generalize p[j]=u at hu
     have G:=Cq hu
     obtain ⟨Y,a7⟩:=Akh (B u G)
     simp only [A4 (by omega:(j:Int)<(p.length:Int)),cond_true,Cs rfl hu,Ap,D3 h (by omega)]
     by_cases ha:(u.Mono.Atoms.length:Int)>0
     .rw [A4 ha]
      exact .inr ⟨.inl false,.inl false,false,false,rfl,rfl,rfl,rfl,rfl,fun h=>by cases h⟩
     .rw [A8 ha]
      simp only [cond_false]
      obtain ⟨r1,r2,V,U,A⟩:=Y7 (R1:=Int⊕(Bool⊕Unit)) (R2:=Int⊕(Bool⊕Unit))
       (s1:=fun v20=>bif (decide (v20<(u.Mono.Factors.length:Int))) then ((Au u.Mono.Factors v20).bind fun v21=>(I3 x v21).bind fun v23=>bif (!v23.2.2) then some (.inr (.inl false)) else some (.inl (Al (v20+1)))) else some (.inr (.inr v20)))
       (s2:=fun v20=>bif (decide (v20<(u.Mono.Factors.length:Int))) then ((Au u.Mono.Factors v20).bind fun v21=>(Jm x v21.Var v21.Index).bind fun v23=>bif (!v23.2.2) then some (.inr (.inl false)) else some (.inl (Al (v20+1)))) else some (.inr (.inr v20)))
       (J1:=fun z:Bool⊕Int=>match z with | .inl l=>some (.inr (.inl l)) | .inr v25=>some (.inl ((j+1:Nat):Int))) (J2:=fun z:Bool⊕Int=>match z with | .inl l=>some (.inr (.inl l)) | .inr v25=>some (.inl ((j+1:Nat):Int)))
       (fun s t=>∃i:Nat,s=(i:Int)/\t=(i:Int)/\i<=u.Mono.Factors.length/\∀f∈u.Mono.Factors.take i,V8 x f) (fun s=>u.Mono.Factors.length-s.toNat)
       (fun r1 r2=>r1=r2/\(r1 = .inr (.inl false)\/(r1 = .inl ((j+1:Nat):Int)/\∀f∈u.Mono.Factors,V8 x f))) (by
        rintro s t ⟨i,rfl,rfl,hi,D⟩
        rcases Nat.lt_or_ge i u.Mono.Factors.length with g | g
        .have R:u.Mono.Factors[i]? = some u.Mono.Factors[i]:=Cv g
         generalize u.Mono.Factors[i]=f at R
         have L:=Cq R
         obtain ⟨ty,J⟩:=Y f L
         obtain ⟨a,b,a1,a2,a3,a4⟩:=Avy x X hf f ty J ((hp u G).mo.fi f L)
         simp only [A4 (by omega:(i:Int)<(u.Mono.Factors.length:Int)),cond_true,Cs rfl R,Ap,a1,a2,D3 g (by omega),<-a3]
         cases ho:a.2.2 with
         | false=>exact .inr ⟨.inl false,.inl false,_,_,rfl,rfl,rfl,rfl,rfl,.inl rfl⟩
         | true=>
          refine .inl ⟨_,_,rfl,rfl,⟨i+1,rfl,rfl,by omega,fun f' M=>?_⟩,by simp; omega⟩
          rw [D7 R] at M
          rcases List.mem_append.1 M with h' | h'
          .exact D f' h'
          .simp at h'; subst h'
           exact ⟨a,a1,by rw [a2,<-a4 ho],ho⟩
        .have:i=u.Mono.Factors.length:=by omega
         subst this
         rw [List.take_length] at D
         exact .inr ⟨.inr _,.inr _,_,_,by simp only [A8 (by omega:¬(u.Mono.Factors.length:Int)<(u.Mono.Factors.length:Int))]; rfl,by simp only [A8 (by omega:¬(u.Mono.Factors.length:Int)<(u.Mono.Factors.length:Int))]; rfl,rfl,rfl,rfl,.inr ⟨rfl,D⟩⟩)
       (s:=(0:Int)) (t:=(0:Int)) ⟨0,rfl,rfl,by omega,by simp⟩
      rw [V,U]
      obtain ⟨rfl,A⟩:=A
      rcases A with rfl | ⟨rfl,A⟩
      .exact .inr ⟨.inl false,.inl false,_,_,rfl,rfl,rfl,rfl,rfl,fun h=>by cases h⟩
      .refine .inl ⟨_,_,rfl,rfl,⟨j+1,rfl,rfl,by omega,fun u' I=>?_⟩,by simp; omega⟩
       rw [D7 hu] at I
       rcases List.mem_append.1 I with h' | h'
       .exact q u' h'
       .simp at h'; subst h'; exact A
    .have:j=p.length:=by omega
     subst this
     rw [List.take_length] at q
     exact .inr ⟨.inr (),.inr (),_,_,by simp,by simp,rfl,rfl,rfl,fun _=>q⟩)
   (s:=(0:Int)) (t:=(0:Int)) ⟨0,rfl,rfl,by omega,by simp⟩
  obtain ⟨r1,r2,V,U,rfl,A⟩:=key
  exact ⟨r1,V,U,fun h=>⟨hf,hc,A h⟩⟩
theorem Avz (a b:A1) (j k:Nat) (ha:RB j a) (hb:RB k b) (hj:j<34359738000) (hk:k<34359738000):∃c,Ll a b=some c/\I4 a b=some c/\RB (j+k+2) c:=by
 refine ⟨_,Aia a b j k ha hb (by omega) (by omega),Aid a b j k ha hb (by omega) (by omega),?_⟩
 have h1:=ha.nv
 have h2:=ha.dv
 have h3:=hb.nv
 have h:=hb.dv
 have g:=Gt (nv a) (nv b)
 have f:=Gt (dv a) (dv b)
 exact Ib _ _ _ _ (by omega) (by omega) (by omega)
theorem Av0 (a b:A1) (j k:Nat) (ha:RB j a) (hb:RB k b) (hj:j<34359738000) (hk:k<34359738000):∃c,Lm a b=some c/\J9 a b=some c/\RB (j+k+3) c:=by
 refine ⟨_,Ask a b j k ha hb (by omega) (by omega),Ab7 a b j k ha hb (by omega) (by omega),?_⟩
 have h1:=ha.nv
 have h2:=ha.dv
 have h3:=hb.nv
 have s:=hb.dv
 have q:=Gt (nv a) (dv b)
 have l:=Gt (nv b) (dv a)
 have i:=Gt (dv a) (dv b)
 have f:Ho (sv a) (nv a) (dv a) (sv b) (nv b) (dv b)<=nv a*dv b+nv b*dv a:=by
  unfold Ho
  split
  .omega
  .split <;> omega
 have h:=Hf f
 have g:=Abt (nv a*dv b) (nv b*dv a)
 exact Ib _ _ _ _ (by omega) (by omega) (by omega)
end Go.Ab
namespace Go.Ab
open Go
def Fh (v b:Int) (c:Da):Bool:=v==c.Var&&b==c.Con
def Iv (l:List Da):List (F5×Int):=l.map fun c=>(⟨c.Var,c.Con⟩,c.N)
theorem Akk (l:List Da) (v b:Int):Hb Gy (Iv l) ⟨v,b⟩=l.any (Fh v b):=by
 unfold Hb Iv
 rw [List.any_map]; rfl
def Ty (l:List Da):Bool:=l.zipIdx.all fun q=>!((l.take q.2).any (Fh q.1.Var q.1.Con))
theorem Akl {l:List Da} (h:Ty l=true) {i j:Nat} {a b:Da} (hi:l[i]? = some a) (hj:l[j]? = some b) (f:i<j) (v c:Int) (ha:Fh v c a=true) (hb:Fh v c b=true):False:=by
 unfold Ty at h
 have h1:=Hg h hj
 simp only [Bool.not_eq_true'] at h1
 have h2:(l.take j).any (Fh b.Var b.Con)=true:=by
  rw [List.any_eq_true]
  refine ⟨a,Cq (i:=i) (by rw [List.getElem?_take_of_lt f]; exact hi),?_⟩
  unfold Fh at *
  simp only [Dl,beq_iff_eq] at *
  omega
 rw [h1] at h2; cases h2
theorem Adb {R:Type} (l:List Da) (i:l.length<=1048576) {J:(A1×Int)⊕Unit->Option R} {rt rf:R} (h1:J (.inl (⟨false,[],[]⟩,8))=some rf) (h2:J (.inr ())=some rt) :
  (Bc (S:=Int) (E:=((A1×Int)⊕Unit)) (fun b=>
   bif (decide (b<(l.length:Int))) then (
   (Au l b).bind fun v7=>
   bif (decide (v7.N<(0:Int))) then some (.inr (.inl ((A1.mk false [] []),8)))
   else (
   bif (decide (v7.N>(5000:Int))) then some (.inr (.inl ((A1.mk false [] []),8)))
   else some (.inl (Al (b+1)))))
   else some (.inr (.inr ()))) 0).bind J=some (bif l.all (fun c=>decide (0<=c.N/\c.N<=5000)) then rt else rf):=by
 refine Jw l (fun c=>decide (0<=c.N/\c.N<=5000)) (fun j=>(j:Int)) rfl (by omega) ?_ ?_
 .intro j c hc g1 g2 g3
  simp only [g1,g2,g3,cond_true,Ap]
  by_cases f:c.N<0
  .rw [A4 f,A8 (by omega)]
   exact ⟨(fun h=>by cases h),fun _=>⟨_,rfl,h1⟩⟩
  .by_cases g:c.N>5000
   .rw [A8 f,A4 g,A8 (by omega)]
    exact ⟨(fun h=>by cases h),fun _=>⟨_,rfl,h1⟩⟩
   .rw [A8 f,A8 g,A4 (by omega)]
    exact ⟨fun _=>rfl,fun h=>by cases h⟩
 .intro h; exact ⟨.inr (),by simp only [h]; rfl,h2⟩
theorem Av1 {R:Type} (l:List Da) (g:l.length<=1048576) {J:(A1×Int)⊕(List (F5×Int))->Option R} {rt rf:R} (h1:J (.inl (⟨false,[],[]⟩,4))=some rf) (h2:J (.inr (Iv l))=some rt) :
  (Bc (S:=(Int×(List (F5×Int)))) (E:=((A1×Int)⊕(List (F5×Int)))) (fun (v16,b)=>
   bif (decide (v16<(l.length:Int))) then (
   (Au l v16).bind fun v18=>
   (show Option Bool from
   bif (Hb Gy b (F5.mk v18.Var v18.Con)) then some true
   else some false).bind fun v20=>
   bif v20 then some (.inr (.inl ((A1.mk false [] []),4)))
   else (
   (Uk Gy b (F5.mk v18.Var v18.Con) v18.N).bind fun f=>
   some (.inl ((Al (v16+1)),f))))
   else some (.inr (.inr b))) (0,[])).bind J=some (bif Ty l then rt else rf):=by
 refine Kr l (fun q=>!((l.take q.2).any (Fh q.1.Var q.1.Con))) (fun j=>((j:Int),Iv (l.take j))) rfl (by omega) ?_ ?_
 .intro j c hc _ g1 g2 g3
  simp only [g1,g2,g3,cond_true,Ap,Akk,Uk]
  cases (l.take j).any (Fh c.Var c.Con) with
  | true=>exact ⟨(fun h=>by cases h),fun _=>⟨_,rfl,h1⟩⟩
  | false=>
   refine ⟨fun _=>?_,fun h=>by cases h⟩
   simp only [cond_false,Ap,D7 hc]
   simp [Iv]
 .intro h _; exact ⟨.inr (Iv l),by simp only [h]; rw [List.take_length]; rfl,h2⟩
theorem Av2 {R:Type} (l:List Da) (L:l.length<=1048576) {J:(A1×Int)⊕Unit->Option R} {rt rf:R} (h1:J (.inl (⟨false,[],[]⟩,4))=some rf) (h2:J (.inr ())=some rt) :
  (Bc (S:=Int) (E:=((A1×Int)⊕Unit)) (fun v24=>
   bif (decide (v24<(l.length:Int))) then (
   (Gw l 0 v24).bind fun v25=>
   (Bc (S:=Int) (E:=((A1×Int)⊕Int)) (fun b=>
   bif (decide (b<(v25.length:Int))) then (
   (Au l v24).bind fun v31=>
   (Au l b).bind fun k=>
   bif (v31.Var==k.Var) then (
   (Au l v24).bind fun u=>
   (Au l b).bind fun g=>
   bif (u.Con==g.Con) then some (.inr (.inl ((A1.mk false [] []),4)))
   else some (.inl (Al (b+1))))
   else some (.inl (Al (b+1))))
   else some (.inr (.inr b))) 0).bind fun z=>
   match z with
   | .inl (y,x)=>some (.inr (.inl (y,x)))
   | .inr v37=>some (.inl (Al (v24+1))))
   else some (.inr (.inr ()))) 0).bind J=some (bif Ty l then rt else rf):=by
 refine Kr l (fun q=>!((l.take q.2).any (Fh q.1.Var q.1.Con))) (fun j=>(j:Int)) rfl (by omega) ?_ ?_
 .intro j c hc _ g1 g2 g3
  have hj:=Em hc
  have I:(l.take j).length=j:=by simp; omega
  simp only [g1,g3,cond_true,Vf rfl (show j<=l.length by omega),Ap,g2]
  have f:∀{R:Type} {s:(A1×Int)⊕Int->Option R} {r1 r2:R},s (.inl (⟨false,[],[]⟩,4))=some r2->(∀v,s (.inr v)=some r1)->(Bc (S:=Int) (E:=((A1×Int)⊕Int)) (fun b=>
    bif (decide (b<((l.take j).length:Int))) then (
    (Au l b).bind fun k=>
    bif (c.Var==k.Var) then (
    (Au l b).bind fun g=>
    bif (c.Con==g.Con) then some (.inr (.inl ((A1.mk false [] []),4)))
    else some (.inl (Al (b+1))))
    else some (.inl (Al (b+1))))
    else some (.inr (.inr b))) 0).bind s=some (bif (l.take j).all (fun d=>!Fh c.Var c.Con d) then r1 else r2):=by
   intro R s r1 r2 G D
   refine Jw (l.take j) (fun d=>!Fh c.Var c.Con d) (fun i=>(i:Int)) rfl (by omega) ?_ ?_
   .intro i d hd f1 f2 f3
    have A:i<j:=by have:=Em hd; omega
    have B:l[i]? = some d:=by rw [List.getElem?_take_of_lt A] at hd; exact hd
    simp only [f1,f3,cond_true,Cs rfl B,Ap,Fh]
    cases (c.Var==d.Var) with
    | false=>exact ⟨fun _=>rfl,fun h=>by cases h⟩
    | true=>
     cases (c.Con==d.Con) with
     | false=>exact ⟨fun _=>rfl,fun h=>by cases h⟩
     | true=>exact ⟨(fun h=>by cases h),fun _=>⟨_,rfl,G⟩⟩
   .intro h; exact ⟨.inr _,by simp only [h]; rfl,D _⟩
  have e:(!((l.take j).any (Fh c.Var c.Con)))=(l.take j).all (fun d=>!Fh c.Var c.Con d):=by rw [List.not_any_eq_all_not]
  simp only [e]
  refine ⟨fun h=>?_,fun h=>⟨.inl (⟨false,[],[]⟩,4),?_,h1⟩⟩
  .rw [f (r1:=(Sum.inl ((j+1:Nat):Int):Int⊕((A1×Int)⊕Unit))) (r2:=.inr (.inl (⟨false,[],[]⟩,4))) rfl (fun _=>rfl),h]; rfl
  .rw [f (r1:=(Sum.inl ((j+1:Nat):Int):Int⊕((A1×Int)⊕Unit))) (r2:=.inr (.inl (⟨false,[],[]⟩,4))) rfl (fun _=>rfl),h]; rfl
 .intro h _; exact ⟨.inr (),by simp only [h]; rfl,h2⟩
theorem Av3 (l:List Da) (B:l.length<=1048576) (v b z:Int) (a:A1) (h:l.any (Fh v b)=false) {R:Type} {J:Bool×Int×Bool×(List Int)×(List Int)->Option R} {r:R} (A:J (false,(l.length:Int),a.Neg,a.Num,a.Den)=some r) :
  (Bc (S:=(Bool×Int×Bool×(List Int)×(List Int))) (E:=(Bool×Int×Bool×(List Int)×(List Int))) (fun (q,v152,k,v154,i)=>
   bif (decide (v152<(l.length:Int))) then (
   (Au l v152).bind fun g=>
   (show Option Bool from
   bif (g.Var==v) then some (g.Con==b)
   else some false).bind fun s=>
   bif s then (
   (J8 g.N z).bind fun v159=>
   (I4 (A1.mk k v154 i) v159.1).bind fun f=>
   some (.inl (true,(Al (v152+1)),f.Neg,f.Num,f.Den)))
   else some (.inl (q,(Al (v152+1)),k,v154,i)))
   else some (.inr (q,v152,k,v154,i))) (false,0,a.Neg,a.Num,a.Den)).bind J=some r:=by
 refine F6 l (fun j=>(false,(j:Int),a.Neg,a.Num,a.Den)) rfl (by omega) ?_ ?_
 .intro j c hj hc g1 g2 g3
  have u:Fh v b c=false:=by
   cases hk:Fh v b c with
   | false=>rfl
   | true=>rw [<-h]; symm; rw [List.any_eq_true]; exact ⟨c,Cq hc,hk⟩
  have e:(bif (c.Var==v) then some (c.Con==b) else some false:Option Bool)=some false:=by
   unfold Fh at u
   by_cases x:c.Var=v
   .by_cases y:c.Con=b
    .rw [Ct x.symm,Ct y.symm] at u; cases u
    .rw [Ct x,Cg y]; rfl
   .rw [Cg x]; rfl
  simp only [g1,g2,g3,cond_true,Ap,e,cond_false]
 .intro h1
  exact ⟨_,by simp only [h1]; rfl,A⟩
theorem Av4 (l:List Da) (X:l.length<=1048576) (v b I:Int) (a m:A1) (L:A1×Bool) (hd:Ty l=true) {A:Nat} {G:Da} (q:l[A]? = some G) (u:Fh v b G=true) (D:J8 G.N I=some L) (M:I4 a L.1=some m)
  {R:Type} {J:Bool×Int×Bool×(List Int)×(List Int)->Option R} {r:R} (V:J (true,(l.length:Int),m.Neg,m.Num,m.Den)=some r) :
  (Bc (S:=(Bool×Int×Bool×(List Int)×(List Int))) (E:=(Bool×Int×Bool×(List Int)×(List Int))) (fun (s,v152,k,v154,i)=>
   bif (decide (v152<(l.length:Int))) then (
   (Au l v152).bind fun g=>
   (show Option Bool from
   bif (g.Var==v) then some (g.Con==b)
   else some false).bind fun y=>
   bif y then (
   (J8 g.N I).bind fun v159=>
   (I4 (A1.mk k v154 i) v159.1).bind fun f=>
   some (.inl (true,(Al (v152+1)),f.Neg,f.Num,f.Den)))
   else some (.inl (s,(Al (v152+1)),k,v154,i)))
   else some (.inr (s,v152,k,v154,i))) (false,0,a.Neg,a.Num,a.Den)).bind J=some r:=by
 have U:=Em q
 refine F6 l (fun j=>if j<=A then (false,(j:Int),a.Neg,a.Num,a.Den) else (true,(j:Int),m.Neg,m.Num,m.Den)) (by rw [if_pos (by omega)]; rfl) (by omega) ?_ ?_
 .intro j c hj hc g1 g2 g3
  have key:(bif (c.Var==v) then some (c.Con==b) else some false:Option Bool)=some (Fh v b c):=by
   unfold Fh
   by_cases x:c.Var=v
   .by_cases z:c.Con=b
    .rw [Ct x,Ct z,Ct x.symm,Ct z.symm]; rfl
    .rw [Ct x,Cg z,Ct x.symm,Cg (fun e=>z e.symm)]; rfl
   .rw [Cg x,Cg (fun e=>x e.symm)]; rfl
  rcases Nat.lt_trichotomy j A with h | h | h
  .have B:Fh v b c=false:=by
    cases hk:Fh v b c with
    | false=>rfl
    | true=>exact (Akl hd hc q h v b hk u).elim
   rw [if_pos (by omega),if_pos (by omega)]
   simp only [g1,g2,g3,cond_true,Ap,key,B,cond_false]
  .subst h
   rw [q] at hc; cases hc
   rw [if_pos (by omega),if_neg (by omega)]
   simp only [g1,g2,g3,cond_true,Ap,key,u,D,M]
  .have B:Fh v b c=false:=by
    cases hk:Fh v b c with
    | false=>rfl
    | true=>exact (Akl hd q hc h v b u hk).elim
   rw [if_neg (by omega),if_neg (by omega)]
   simp only [g1,g2,g3,cond_true,Ap,key,B,cond_false]
 .intro h1
  refine ⟨(true,(l.length:Int),m.Neg,m.Num,m.Den),?_,V⟩
  rw [if_neg (by omega)]
  simp only [h1]; rfl
theorem Av5 (l:List Da) (v b:Int) (h:l.any (Fh v b)=true):∃(i:Nat) (c:Da),l[i]? = some c/\Fh v b c=true/\Ij Gy (Iv l) ⟨v,b⟩ 0=c.N:=by
 induction l with
 | nil=>cases h
 | cons x xs ih=>
  cases hx:Fh v b x with
  | true=>
   refine ⟨0,x,rfl,hx,?_⟩
   have:Gy ⟨v,b⟩ ⟨x.Var,x.Con⟩=true:=hx
   simp only [Ij,Iv,List.map_cons,List.find?_cons,this]; rfl
  | false=>
   rw [List.any_cons,hx,Bool.false_or] at h
   obtain ⟨i,c,h1,h2,h3⟩:=ih h
   refine ⟨i+1,c,by simpa using h1,h2,?_⟩
   have:Gy ⟨v,b⟩ ⟨x.Var,x.Con⟩=false:=hx
   rw [<-h3]
   simp only [Ij,Iv,List.map_cons,List.find?_cons,this]
end Go.Ab
