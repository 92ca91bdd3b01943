/- Plain laws: what the plain functions answer. -/
import Derived.Test.YtjjkmepjaemceaaGreatDoorBsPl2
import Derived.Test.YtjjkmepjaemceaaGreatDoorBsPl1
import Derived.KernelRfl
namespace Go.Ab
open Go
structure Nr (data:List Al) (vars:List Ag) (res:Ag):Prop where
 vd:F3 data
 sh:G1 data
 sz:∀v t,Ct vars res v=some t->A2 t<=200
 nv:vars.length<=3000
theorem Auj (vars:List Ag) (res:Ag) (v:Int):(Ct vars res v).isSome=decide (-1<=v/\v<vars.length):=by
 unfold Ct
 by_cases h:v = -1
 .rw [if_pos h]; subst h; rw [Aj (by omega)]; rfl
 .rw [if_neg h]
  cases hx:Ae vars v with
  | none=>rcases Lw hx with h' | h' <;> rw [Am (by omega)] <;> rfl
  | some t=>have:=De hx; rw [Aj (by omega)]; rfl
section
variable (b1:List (ByteArray×Int)) (b2:List (ByteArray×List Dy)) (data:List Al) (vars:List Ag) (res:Ag)
theorem Akl (v:Int) (f c:Int) (b:List Ag):O6 v b1 b2 data vars f c b=some (Ct vars res v).isSome:=by
 rw [Auj]
 unfold O6
 by_cases h:v>=-1
 .rw [Aj h]
  by_cases h':v<(vars.length:Int)
  .rw [Aj h',Aj ⟨h,h'⟩]; rfl
  .rw [Am h',Am (fun g=>h' g.2)]; rfl
 .rw [Am h,Am (fun g : -1<=v/\v<(vars.length:Int)=>h g.1)]; rfl
theorem Ad6 {v:Int} {t:Ag} (ht:Ct vars res v=some t):Kc v b1 b2 data vars res.Kind res.Num res.Args=some t:=by
 unfold Kc
 unfold Ct at ht
 by_cases h:v = -1
 .rw [if_pos h] at ht; cases ht
  have b:(Ag.mk res.Kind res.Num res.Args)=res:=by cases res; rfl
  rw [B0 h,b]; rfl
 .rw [if_neg h] at ht
  rw [Bg h,ht]; rfl
def Sk (t:Es):Bool:=match Ct vars res t.Var with | some u=>u.Kind==1 | none=>false
def Jw (l:Ey):Bool:=l.Terms.all (Sk vars res)
theorem Auk (l:Ey) (c:l.Terms.length<=1048576):Ro l b1 b2 data vars res.Kind res.Num res.Args=some (Jw vars res l):=by
 unfold Ro X7 X8
 have key:=Ada l.Terms (fun t=>!Sk vars res t) (by omega) (J:=fun z=>match z with | .inl b=>some b | .inr _=>some (-1)) (step:=fun v3=>bif (decide (v3<(l.Terms.length:Int))) then ((Ae l.Terms v3).bind fun v4=>(Rr v4 b1 b2 data vars res.Kind res.Num res.Args).bind fun v5=>bif v5 then some (.inr (.inl v3)) else some (.inl (Ac (v3+1)))) else some (.inr (.inr ()))) (by
  intro j x hx h1 h2 h3
  have e:Rr x b1 b2 data vars res.Kind res.Num res.Args=some (!Sk vars res x):=by
   unfold Rr Sk
   rw [Akl b1 b2 data vars res,Ad]
   cases ht:Ct vars res x.Var with
   | none=>rfl
   | some t=>rw [Ad6 b1 b2 data vars res ht]; rfl
  simp only [h1,h2,h3,cond_true,Ad,e]) (fun h=>by simp only [h]; rfl) (fun _=>rfl) rfl
 obtain ⟨i,i1,i2⟩:=key
 erw [i1]
 simp only [Ad,i2]
 congr 1
 unfold Jw
 rw [List.any_eq_not_all_not]; simp
theorem Akm (x:Br) (v:Int):Q9 x v=some (match Ct x.Vars x.Res v with | some t=>(t,true) | none=>(⟨0,0,[]⟩,false)):=by
 unfold Q9 Ct
 by_cases h:v = -1
 .rw [B0 h,if_pos h]; rfl
 .rw [Bg h,if_neg h]
  cases hx:Ae x.Vars v with
  | none=>
   rcases Lw hx with h' | h'
   .simp only [Aj h',cond_true,cond_false,Ad]
   .by_cases h0:v<0
    .simp only [Aj h0,cond_true,cond_false,Ad]
    .simp only [Am h0,Aj (show v>=(x.Vars.length:Int) from h'),cond_true,cond_false,Ad]
  | some t=>
   obtain ⟨a1,a2,_⟩:=De hx
   simp only [Am (by omega:¬v<0),Am (by omega:¬v>=(x.Vars.length:Int)),cond_false,Ad]
theorem Aul (x:Br) (l:Ey) (b:l.Terms.length<=1048576):Rb x l=some (Jw x.Vars x.Res l):=by
 unfold Rb
 refine (Jq l.Terms (Sk x.Vars x.Res) (fun j=>(j:Int)) rfl (by omega) (rt:=true) (rf:=false) ?_ ?_).trans (by rw [Jr]; rfl)
 .intro j t ht h1 h2 h3
  simp only [h1,h2,h3,cond_true,Ad,Akm]
  unfold Sk
  cases hu:Ct x.Vars x.Res t.Var with
  | none=>exact ⟨(fun h=>by cases h),fun _=>⟨.inl false,rfl,rfl⟩⟩
  | some u=>
   simp only [Cu,cond_false]
   by_cases hk:u.Kind=1
   .rw [B0 hk,B4 hk]
    exact ⟨fun _=>rfl,fun h=>by cases h⟩
   .rw [Bg hk,Ca hk]
    exact ⟨(fun h=>by cases h),fun _=>⟨.inl false,rfl,rfl⟩⟩
 .intro h; exact ⟨.inr (),by simp only [h]; rfl,rfl⟩
def Ei (f:Cr):Int:=match Ct vars res f.Var with | some t=>Ff (Eb data f.Index t) | none => -1
theorem Ad7 (f:Cr) : -1<=Ei data vars res f/\Ei data vars res f<=6:=by
 unfold Ei
 cases Ct vars res f.Var with
 | none=>simp
 | some t=>rcases Ze (Eb data f.Index t) with ⟨h,_⟩ | ⟨d,_,h2,h⟩ <;> simp only [h] <;> omega
def L1 (m:Cb):Bool:=m.Factors.all (fun f=>decide (0<=Ei data vars res f))&&m.Atoms.all (fun a=>decide (0<=a.Deg)&&Jw vars res a.Lin)
def Dj (l:List Cr):Int:=(l.map (Ei data vars res)).sum
def Et (l:List Eg):Int:=(l.map (·.Deg)).sum
def Sl (l:List Eg) (x:Eg) (j:Nat):Bool:=j==0||(match l[j-1]? with | some y=>decide (Ju y.Lin x.Lin<0) | none=>false)
def L2 (l:List Cr) (f:Cr) (j:Nat):Bool:=decide (1<=Ei data vars res f)&&Kl (·.Var) l f j
def Km (l:List Eg) (a:Eg) (j:Nat):Bool:=decide (1<=a.Deg)&&Nq a.Lin && !(a.Lin.Terms.length==0)&&Jw vars res a.Lin&&Sl l a j
def G2 (m:Cb):Bool:=m.Factors.zipIdx.all (fun q=>L2 data vars res m.Factors q.1 q.2)&&m.Atoms.zipIdx.all (fun q=>Km vars res m.Atoms q.1 q.2)&&decide (Dj data vars res m.Factors+Et m.Atoms<=6)
variable {b1 data vars res}
theorem Ad8 (hc:Nr data vars res) (i:Fg data vars res b1) (f:Cr) (g:I64 f.Var) (h:iR f.Index) (hi:Cn f.Index<=1048576) (b:(Ct vars res f.Var).isSome=true) :
  ∃c,K5 f.Var f.Index b1 b2 data vars res.Kind res.Num res.Args=some (Ei data vars res f,c)/\Fg data vars res c:=by
 cases ht:Ct vars res f.Var with
 | none=>rw [ht] at b; cases b
 | some t=>
  obtain ⟨c,h1,h2⟩:=Aub hc.vd.szv hc.sh b1 b2 vars res i f.Var f.Index t ht (hc.sz _ _ ht) g h hi
  refine ⟨c,?_,h2⟩
  rw [h1]; unfold Ei; rw [ht]
theorem Aum (hc:Nr data vars res) (U:Fg data vars res b1) (m:Cb) (k:MSz m) :
  ∃l,Uh m b1 b2 data vars res.Kind res.Num res.Args=some (L1 data vars res m,l)/\Fg data vars res l:=by
 have hf:=k.nf
 have ha:=k.na
 unfold Uh
 refine Ac2 (fun l=>(L1 data vars res m,l)) ?_
 obtain ⟨r,N,L⟩:=U5 (M:=List (ByteArray×Int)) (R:=Bool×List (ByteArray×Int)) m.Factors (fun q=>decide (0<=Ei data vars res q.1)) (fun j o=>((j:Int),o)) (Fg data vars res)
  (fun r=>Fg data vars res r.2/\r.1=m.Atoms.all (fun a=>decide (0<=a.Deg)&&Jw vars res a.Lin)) (fun r=>Fg data vars res r.2/\r.1=false) b1
  (s0:=((0:Int),b1))
  (step:=(fun (y,u)=>
   bif (decide (y<(m.Factors.length:Int))) then (
   (Ae m.Factors y).bind fun v8=>
   (O6 v8.Var u b2 data vars res.Kind res.Num res.Args).bind fun A=>
   bif (!A) then some (.inr (.inl (false,u)))
   else (
   (K5 v8.Var v8.Index u b2 data vars res.Kind res.Num res.Args).bind fun v11=>
   bif (decide (v11.1<(0:Int))) then some (.inr (.inl (false,v11.2)))
   else some (.inl ((Ac (y+1)),v11.2))))
   else some (.inr (.inr u)):Int×List (ByteArray×Int)->Option ((Int×List (ByteArray×Int))⊕((Bool×List (ByteArray×Int))⊕List (ByteArray×Int)))))
  (J:=(fun z=>match z with
   | .inl (I,G)=>some (I,G)
   | .inr b=>(Ak (S:=Int) (E:=((Bool×(List (ByteArray×Int)))⊕Unit)) (fun c=>
     bif (decide (c<(m.Atoms.length:Int))) then (
     (Ae m.Atoms c).bind fun s=>
     bif (decide (s.Deg<(0:Int))) then some (.inr (.inl (false,b)))
     else (
     (Ro s.Lin b b2 data vars res.Kind res.Num res.Args).bind fun v21=>
     bif (!v21) then some (.inr (.inl (false,b)))
     else some (.inl (Ac (c+1)))))
     else some (.inr (.inr ()))) 0).bind fun z=>match z with
      | .inl (D,B)=>some (D,B)
      | .inr _=>some (true,b)))
  rfl U (by omega) (by
   intro j f o x hx _ h1 h2 h3
   have i:=Bi hx
   simp only [h1,h2,h3,cond_true,Ad,Akl o b2 data vars res]
   cases g:(Ct vars res f.Var).isSome with
   | false=>
    have e:Ei data vars res f = -1:=by
     unfold Ei
     cases ht:Ct vars res f.Var with
     | none=>rfl
     | some t=>rw [ht] at g; cases g
    rw [e]
    exact ⟨(fun h=>by cases h),fun _=>⟨_,rfl,_,rfl,x,rfl⟩⟩
   | true=>
    obtain ⟨l,d1,d2⟩:=Ad8 b2 hc x f (k.fr f i).2 (k.fr f i).1 (k.fi f i) g
    simp only [Cu,cond_false,d1,Ad]
    by_cases h0:0<=Ei data vars res f
    .rw [Aj h0,Am (by omega)]
     exact ⟨fun _=>⟨l,rfl,d2⟩,fun h=>by cases h⟩
    .rw [Am h0,Aj (by omega)]
     exact ⟨(fun h=>by cases h),fun _=>⟨_,rfl,_,rfl,d2,rfl⟩⟩) (by
   intro o x h1 _
   refine ⟨.inr o,by simp only [h1]; rfl,?_⟩
   refine ⟨(m.Atoms.all (fun a=>decide (0<=a.Deg)&&Jw vars res a.Lin),o),?_,x,rfl⟩
   refine (Jq m.Atoms (fun a=>decide (0<=a.Deg)&&Jw vars res a.Lin) (fun j=>(j:Int)) rfl (by omega) (rt:=(true,o)) (rf:=(false,o)) ?_ ?_).trans (by cases m.Atoms.all (fun a=>decide (0<=a.Deg)&&Jw vars res a.Lin) <;> rfl)
   .intro j a hx h1 h2 h3
    simp only [h1,h2,h3,cond_true,Ad,Auk o b2 data vars res a.Lin (k.al a (Bi hx))]
    by_cases h0:0<=a.Deg
    .rw [Aj h0,Am (by omega)]
     cases Jw vars res a.Lin with
     | true=>exact ⟨fun _=>rfl,fun h=>by cases h⟩
     | false=>exact ⟨(fun h=>by cases h),fun _=>⟨_,rfl,rfl⟩⟩
    .rw [Am h0,Aj (by omega)]
     exact ⟨(fun h=>by cases h),fun _=>⟨_,rfl,rfl⟩⟩
   .intro h; exact ⟨.inr (),by simp only [h]; rfl,rfl⟩)
 refine ⟨r,N,r.2,?_,?_⟩
 .unfold L1
  rw [<-Yr]
  rcases L with ⟨h1,h2,h3⟩ | ⟨h1,h2,h3⟩
  .rw [h1,Bool.true_and,<-h3]
  .rw [h1,Bool.false_and,<-h3]
 .rcases L with ⟨h1,h2,h3⟩ | ⟨h1,h2,h3⟩ <;> exact h2
theorem Akn (g:Cr->Int) {l:List Cr} {j:Nat} {x:Cr} (h:l[j]? = some x):((l.take (j+1)).map g).sum=((l.take j).map g).sum+g x:=by
 rw [Cw h]; simp
theorem Ako {l:List Eg} {j:Nat} {x:Eg} (h:l[j]? = some x):Et (l.take (j+1))=Et (l.take j)+x.Deg:=by
 unfold Et; rw [Cw h]; simp
theorem Aun (hc:Nr data vars res) (A:Fg data vars res b1) (m:Cb) (k:MSz m) (hp:L1 data vars res m=true) :
  ∃p:Int×List (ByteArray×Int),Ui m b1 b2 data vars res.Kind res.Num res.Args=some p/\(decide (p.1>6) = !decide (Dj data vars res m.Factors+Et m.Atoms<=6))/\Fg data vars res p.2:=by
 have hf:=k.nf
 have ha:=k.na
 unfold L1 at hp
 rw [Ce,List.all_eq_true,List.all_eq_true] at hp
 unfold Ui
 refine D3 (fun (v5,u,g)=>∃j:Nat,u=j/\j<=m.Factors.length/\Fg data vars res g/\0<=v5/\v5<=12/\(v5=Dj data vars res (m.Factors.take j)\/(6<v5/\6<Dj data vars res (m.Factors.take j)))) (fun (_,u,_)=>m.Factors.length-u.toNat)
  (fun (v5,g)=>Fg data vars res g/\0<=v5/\v5<=12/\(v5=Dj data vars res m.Factors\/(6<v5/\6<Dj data vars res m.Factors))) ⟨0,rfl,by omega,A,by omega,by omega,.inl (by simp [Dj])⟩ ?_ ?_
 .rintro ⟨v5,u,g⟩ ⟨j,rfl,hj,q,h0,h12,l⟩
  rcases Nat.lt_or_ge j m.Factors.length with h | h
  .have hx:m.Factors[j]? = some m.Factors[j]:=Bj h
   generalize m.Factors[j]=f at hx
   have c:=Bi hx
   have hd:=hp.1 f c
   rw [decide_eq_true_eq] at hd
   have B:=(Ad7 data vars res f).2
   have es:Dj data vars res (m.Factors.take (j+1))=Dj data vars res (m.Factors.take j)+Ei data vars res f:=Akn _ hx
   simp only [Aj (by omega:(j:Int)<(m.Factors.length:Int)),cond_true,Bn rfl hx,Ad,C5 h (by omega)]
   by_cases s:v5<=6
   .have x:(Ct vars res f.Var).isSome=true:=by
     unfold Ei at hd
     cases ht:Ct vars res f.Var with
     | none=>rw [ht] at hd; have hd:(0:Int)<=-1:=hd; omega
     | some t=>rfl
    obtain ⟨D,d1,d2⟩:=Ad8 b2 hc q f (k.fr f c).2 (k.fr f c).1 (k.fi f c) x
    rw [Aj s]
    simp only [cond_true,d1,Ad]
    have b:Ac (v5+Ei data vars res f)=v5+Ei data vars res f:=by rw [Ac,Bp] <;> omega
    exact .inl ⟨_,rfl,⟨j+1,rfl,by omega,d2,by simp only [b]; omega,by simp only [b]; omega,by simp only [b,es]; omega⟩,by simp; omega⟩
   .rw [Am s]
    exact .inl ⟨_,rfl,⟨j+1,rfl,by omega,q,h0,h12,by simp only [es]; omega⟩,by simp; omega⟩
  .have:j=m.Factors.length:=by omega
   subst this
   rw [List.take_length] at l
   exact .inr ⟨(v5,g),by simp,q,h0,h12,l⟩
 .rintro ⟨v5,g⟩ ⟨q,h0,h12,l⟩
  simp only
  refine D3 (fun (v,i)=>∃j:Nat,i=j/\j<=m.Atoms.length/\0<=v/\v<=13/\(v=Dj data vars res m.Factors+Et (m.Atoms.take j)\/(6<v/\6<Dj data vars res m.Factors+Et (m.Atoms.take j)))) (fun (_,i)=>m.Atoms.length-i.toNat)
   (fun v=>(v=Dj data vars res m.Factors+Et m.Atoms\/(6<v/\6<Dj data vars res m.Factors+Et m.Atoms))) ⟨0,rfl,by omega,h0,by omega,by simpa [Et] using l⟩ ?_ ?_
  .rintro ⟨v,i⟩ ⟨j,rfl,hj,g0,g13,z⟩
   rcases Nat.lt_or_ge j m.Atoms.length with h | h
   .have hx:m.Atoms[j]? = some m.Atoms[j]:=Bj h
    generalize m.Atoms[j]=a at hx
    have hd:=hp.2 a (Bi hx)
    rw [Ce,decide_eq_true_eq] at hd
    have es:=Ako hx
    simp only [Aj (by omega:(j:Int)<(m.Atoms.length:Int)),cond_true,Bn rfl hx,Ad,C5 h (by omega)]
    by_cases s:v<=6
    .rw [Aj s]
     simp only [cond_true]
     by_cases y:7<a.Deg
     .rw [if_pos y]
      have b:Ac (v+7)=v+7:=by rw [Ac,Bp] <;> omega
      exact .inl ⟨_,rfl,⟨j+1,rfl,by omega,by simp only [b]; omega,by simp only [b]; omega,by simp only [b,es]; omega⟩,by simp; omega⟩
     .rw [if_neg y]
      have b:Ac (v+a.Deg)=v+a.Deg:=by rw [Ac,Bp] <;> omega
      exact .inl ⟨_,rfl,⟨j+1,rfl,by omega,by simp only [b]; omega,by simp only [b]; omega,by simp only [b,es]; omega⟩,by simp; omega⟩
    .rw [Am s]
     exact .inl ⟨_,rfl,⟨j+1,rfl,by omega,g0,g13,by simp only [es]; omega⟩,by simp; omega⟩
   .have:j=m.Atoms.length:=by omega
    subst this
    rw [List.take_length] at z
    exact .inr ⟨v,by simp,z⟩
  .intro v l
   refine ⟨(v,g),rfl,?_,q⟩
   by_cases h:Dj data vars res m.Factors+Et m.Atoms<=6
   .rw [Aj h,Am (by simp only; omega)]; rfl
   .rw [Am h,Aj (by simp only; omega)]; rfl
end
end Go.Ab
namespace Go.Ab
open Go
theorem Akp {S E:Type} (F:Ey->Ey->Option Int) (l:List Eg) (g:∀y∈l,∀x,F y.Lin x=some (Ju y.Lin x)) {x:Eg} {j:Nat} (hx:l[j]? = some x) (i:l.length<4611686018427387904) (c b:Option (S⊕E)) :
  (bif decide ((j:Int)>0) then ((Ae l (Ac ((j:Int)-1))).bind fun f=>(F f.Lin x.Lin).bind fun v28=>bif decide (v28>=0) then c else b) else b)=bif Sl l x j then b else c:=by
 have hj:=Dh hx
 unfold Sl
 by_cases h:j=0
 .subst h; rfl
 .rw [Aj (by omega)]
  have e:Ac ((j:Int)-1)=((j-1:Nat):Int):=by rw [Ac,Bp] <;> omega
  have hy:l[j-1]? = some l[j-1]:=Bj (by omega)
  rw [e,Bn rfl hy,hy]
  have h0:(j==0)=false:=by simpa using h
  simp only [cond_true,Ad,h0,Bool.false_or,g _ (List.getElem_mem (by omega:j-1<l.length))]
  by_cases hc:Ju l[j-1].Lin x.Lin<0
  .rw [Am (by omega),Aj hc]; rfl
  .rw [Aj (by omega),Am hc]; rfl
section
variable {b1:List (ByteArray×Int)} (b2:List (ByteArray×List Dy)) {data:List Al} {vars:List Ag} {res:Ag}
def Vq (data:List Al) (vars:List Ag) (res:Ag) (l:List Cr) (f:Cr) (j:Nat):Bool:=!(Ei data vars res f==0)&&Kl (·.Var) l f j
def Ns (l:List Eg) (a:Eg) (j:Nat):Bool:=!(a.Deg==0)&&Nq a.Lin && !(a.Lin.Terms.length==0)&&Sl l a j
theorem Auo (m:Cb):G2 data vars res m=(L1 data vars res m&&decide (Dj data vars res m.Factors+Et m.Atoms<=6)&&m.Factors.zipIdx.all (fun q=>Vq data vars res m.Factors q.1 q.2)&&m.Atoms.zipIdx.all (fun q=>Ns m.Atoms q.1 q.2)):=by
 rw [Bool.eq_iff_iff]
 unfold G2 L1
 rw [<-Yr m.Factors (fun f=>decide (0<=Ei data vars res f)),<-Yr m.Atoms (fun a=>decide (0<=a.Deg)&&Jw vars res a.Lin)]
 simp only [Ce,List.all_eq_true,L2,Km,Vq,Ns,decide_eq_true_eq,Bool.not_eq_true',beq_eq_false_iff_ne,ne_eq]
 constructor
 .rintro ⟨⟨h1,h2⟩,h3⟩
  refine ⟨⟨⟨⟨fun q hq=>?_,fun q hq=>?_⟩,h3⟩,fun q hq=>?_⟩,fun q hq=>?_⟩
  .have:=(h1 q hq).1; omega
  .have:=h2 q hq; exact ⟨by omega,this.1.2⟩
  .have:=h1 q hq; exact ⟨by omega,this.2⟩
  .have:=h2 q hq; exact ⟨⟨⟨by omega,this.1.1.1.2⟩,this.1.1.2⟩,this.2⟩
 .rintro ⟨⟨⟨⟨h1,h2⟩,h3⟩,c⟩,b⟩
  refine ⟨⟨fun q hq=>?_,fun q hq=>?_⟩,h3⟩
  .have:=h1 q hq; have g:=c q hq; exact ⟨by omega,g.2⟩
  .have:=h2 q hq; have g:=b q hq; exact ⟨⟨⟨⟨by omega,g.1.1.2⟩,g.1.2⟩,this.2⟩,g.2⟩
theorem Aup (hc:Nr data vars res) (hm:Fg data vars res b1) (m:Cb) (l:MSz m) :
  ∃B,Rc m b1 b2 data vars res.Kind res.Num res.Args=some (G2 data vars res m,B)/\Fg data vars res B:=by
 have hf:=l.nf
 have ha:=l.na
 rw [Auo]
 unfold Rc
 obtain ⟨b,p1,p2⟩:=Aum b2 hc hm m l
 rw [p1]
 cases hp:L1 data vars res m with
 | false=>exact ⟨b,rfl,p2⟩
 | true=>
  obtain ⟨q,q1,q2,q3⟩:=Aun b2 hc p2 m l hp
  simp only [Ad,Cu,cond_false,q1,q2]
  cases hs:decide (Dj data vars res m.Factors+Et m.Atoms<=6) with
  | false=>exact ⟨q.2,rfl,q3⟩
  | true=>
   simp only [Cu,cond_false,Bool.true_and]
   have Y:∀f∈m.Factors,(Ct vars res f.Var).isSome=true:=by
    intro f g
    unfold L1 at hp
    rw [Ce,List.all_eq_true] at hp
    have hd:=hp.1 f g
    rw [decide_eq_true_eq] at hd
    unfold Ei at hd
    cases ht:Ct vars res f.Var with
    | none=>rw [ht] at hd; have hd:(0:Int)<=-1:=hd; omega
    | some t=>rfl
   obtain ⟨r,r1,r2⟩:=U5 (M:=List (ByteArray×Int)) (R:=Bool×List (ByteArray×Int)) m.Factors (fun q=>Vq data vars res m.Factors q.1 q.2) (fun j o=>((j:Int),o)) (Fg data vars res)
    (fun r=>Fg data vars res r.2/\r.1=m.Atoms.zipIdx.all (fun q=>Ns m.Atoms q.1 q.2)) (fun r=>Fg data vars res r.2/\r.1=false) q.2
    (s0:=((0:Int),q.2))
    (step:=(fun (v9,u)=>
     bif (decide (v9<(m.Factors.length:Int))) then (
     (Ae m.Factors v9).bind fun v11=>
     (K5 v11.Var v11.Index u b2 data vars res.Kind res.Num res.Args).bind fun i=>
     bif (i.1==(0:Int)) then some (.inr (.inl (false,i.2)))
     else (
     bif (decide (v9>(0:Int))) then (
     (Ae m.Factors (Ac (v9-1))).bind fun L=>
     bif (decide (L.Var>=v11.Var)) then some (.inr (.inl (false,i.2)))
     else some (.inl ((Ac (v9+1)),i.2)))
     else some (.inl ((Ac (v9+1)),i.2))))
     else some (.inr (.inr u)):Int×List (ByteArray×Int)->Option ((Int×List (ByteArray×Int))⊕((Bool×List (ByteArray×Int))⊕List (ByteArray×Int)))))
    (J:=(fun z=>match z with
     | .inl (X,V)=>some (X,V)
     | .inr s=>(Ak (S:=Int) (E:=((Bool×(List (ByteArray×Int)))⊕Unit)) (fun c=>
       bif (decide (c<(m.Atoms.length:Int))) then (
       (Ae m.Atoms c).bind fun k=>
       (show Option Bool from
       bif (k.Deg==(0:Int)) then some true
       else (
       (Rl k.Lin).bind fun I=>
       bif (!I) then some true
       else some ((k.Lin.Terms.length:Int)==(0:Int)))).bind fun G=>
       bif G then some (.inr (.inl (false,s)))
       else (
       bif (decide (c>(0:Int))) then (
       (Ae m.Atoms (Ac (c-1))).bind fun D=>
       (M5 D.Lin k.Lin).bind fun v28=>
       bif (decide (v28>=(0:Int))) then some (.inr (.inl (false,s)))
       else some (.inl (Ac (c+1))))
       else some (.inl (Ac (c+1)))))
       else some (.inr (.inr ()))) 0).bind fun z=>match z with
        | .inl (U,N)=>some (U,N)
        | .inr _=>some (true,s)))
    rfl q3 (by omega) (by
     intro j f o Z hx _ h1 h2 h3
     have g:=Bi hx
     obtain ⟨B,d1,d2⟩:=Ad8 b2 hc Z f (l.fr f g).2 (l.fr f g).1 (l.fi f g) (Y f g)
     simp only [h1,h2,h3,cond_true,Ad,d1,Ad5 (·.Var) m.Factors hx (by omega),Vq]
     cases (Ei data vars res f==0) with
     | true=>exact ⟨(fun h=>by cases h),fun _=>⟨_,rfl,_,rfl,d2,rfl⟩⟩
     | false=>
      cases Kl (·.Var) m.Factors f j with
      | true=>exact ⟨fun _=>⟨B,rfl,d2⟩,fun h=>by cases h⟩
      | false=>exact ⟨(fun h=>by cases h),fun _=>⟨_,rfl,_,rfl,d2,rfl⟩⟩) (by
     intro o Z h1 _
     refine ⟨.inr o,by simp only [h1]; rfl,?_⟩
     refine ⟨(m.Atoms.zipIdx.all (fun q=>Ns m.Atoms q.1 q.2),o),?_,Z,rfl⟩
     refine (K8 m.Atoms (fun q=>Ns m.Atoms q.1 q.2) (fun j=>(j:Int)) rfl (by omega) (rt:=(true,o)) (rf:=(false,o)) ?_ ?_).trans (by cases m.Atoms.zipIdx.all (fun q=>Ns m.Atoms q.1 q.2) <;> rfl)
     .intro j a hx _ h1 h2 h3
      have A:((a.Lin.Terms.length:Int)==(0:Int))=(a.Lin.Terms.length==0):=Ado a.Lin.Terms 0
      simp only [h1,h2,h3,cond_true,Ad,Auh,Akp M5 m.Atoms (fun y hy x=>Aki y.Lin x (by have:=l.al y hy; omega)) hx (by omega),Ns,A]
      cases (a.Deg==0) with
      | true=>exact ⟨(fun h=>by cases h),fun _=>⟨_,rfl,rfl⟩⟩
      | false=>
       cases Nq a.Lin with
       | false=>exact ⟨(fun h=>by cases h),fun _=>⟨_,rfl,rfl⟩⟩
       | true=>
        cases (a.Lin.Terms.length==0) with
        | true=>exact ⟨(fun h=>by cases h),fun _=>⟨_,rfl,rfl⟩⟩
        | false=>
         cases Sl m.Atoms a j with
         | true=>exact ⟨fun _=>rfl,fun h=>by cases h⟩
         | false=>exact ⟨(fun h=>by cases h),fun _=>⟨_,rfl,rfl⟩⟩
     .intro h _; exact ⟨.inr (),by simp only [h]; rfl,rfl⟩)
   refine ⟨r.2,?_,?_⟩
   .have e:some r=some (m.Factors.zipIdx.all (fun q=>Vq data vars res m.Factors q.1 q.2)&&m.Atoms.zipIdx.all (fun q=>Ns m.Atoms q.1 q.2),r.2):=by
     rcases r2 with ⟨h1,h2,h3⟩ | ⟨h1,h2,h3⟩
     .rw [h1,Bool.true_and,<-h3]
     .rw [h1,Bool.false_and,<-h3]
    rw [<-e]
    exact r1
   .rcases r2 with ⟨h1,h2,h3⟩ | ⟨h1,h2,h3⟩ <;> exact h2
theorem Akq (l:List Cr):Dj data vars res l<=6*l.length/\-(l.length:Int)<=Dj data vars res l:=by
 induction l with
 | nil=>simp [Dj]
 | cons x xs ih=>
  have:=Ad7 data vars res x
  unfold Dj at *
  simp only [List.map_cons,List.sum_cons,List.length_cons]
  omega
theorem Auq (l:List Cr) (h:∀f∈l,0<=Ei data vars res f):0<=Dj data vars res l:=by
 induction l with
 | nil=>simp [Dj]
 | cons x xs ih=>
  have h1:=h x (by simp)
  have h2:=ih (fun f hf=>h f (by simp [hf]))
  unfold Dj at *
  simp only [List.map_cons,List.sum_cons]
  omega
theorem Zq (l:List Eg) (h:∀a∈l,0<=a.Deg):0<=Et l/\((∀a∈l,a.Deg<=6)->Et l<=6*l.length)/\∀a∈l,a.Deg<=Et l:=by
 induction l with
 | nil=>simp [Et]
 | cons x xs ih=>
  have h1:=h x (by simp)
  obtain ⟨i1,i2,i3⟩:=ih (fun f hf=>h f (by simp [hf]))
  unfold Et at *
  simp only [List.map_cons,List.sum_cons,List.length_cons]
  refine ⟨by omega,fun g=>?_,fun a ha=>?_⟩
  .have:=g x (by simp)
   have:=i2 (fun a ha=>g a (by simp [ha]))
   omega
  .rcases List.mem_cons.1 ha with rfl | ha
   .omega
   .have:=i3 a ha; omega
end
theorem Aur {x:Br} (hc:Nr x.Data x.Vars x.Res) (m:Cb) (U:MSz m):∃v,Xo x m=some v/\decide (v<0) = !G2 x.Data x.Vars x.Res m:=by
 have hf:=U.nf
 have ha:=U.na
 unfold Xo
 have Z:∀n,m.Factors.zipIdx.all (fun q=>L2 x.Data x.Vars x.Res m.Factors q.1 q.2)=true->0<=Dj x.Data x.Vars x.Res (m.Factors.take n):=by
  intro n h
  refine Auq _ (fun f hf=>?_)
  obtain ⟨j,hj⟩:=List.getElem?_of_mem (List.mem_of_mem_take hf)
  have:=G0 h hj
  simp only [L2,Ce,decide_eq_true_eq] at this
  omega
 have a1:m.Factors.zipIdx.all (fun q=>L2 x.Data x.Vars x.Res m.Factors q.1 q.2)=false->G2 x.Data x.Vars x.Res m=false:=by
  intro h; unfold G2; rw [h]; rfl
 obtain ⟨r,r1,r2⟩:=U5 (M:=Unit) (R:=Int) m.Factors (fun q=>L2 x.Data x.Vars x.Res m.Factors q.1 q.2) (fun j _=>(Dj x.Data x.Vars x.Res (m.Factors.take j),(j:Int))) (fun _=>True)
  (fun v=>decide (v<0) = !G2 x.Data x.Vars x.Res m) (fun v=>v = -1) ()
  (s0:=((0:Int),(0:Int)))
  (step:=(fun (v9,l)=>
   bif (decide (l<(m.Factors.length:Int))) then (
   (Ae m.Factors l).bind fun v11=>
   (Q9 x v11.Var).bind fun N=>
   (show Option Bool from
   bif (!N.2) then some true
   else (
   bif (decide (l>(0:Int))) then (
   (Ae m.Factors (Ac (l-1))).bind fun B=>
   some (decide (B.Var>=v11.Var)))
   else some false)).bind fun a7=>
   bif a7 then some (.inr (.inl (-1)))
   else (
   (Tz x.Data N.1 v11.Index).bind fun L=>
   bif (decide (L<(1:Int))) then some (.inr (.inl (-1)))
   else some (.inl ((Ac (v9+L)),(Ac (l+1))))))
   else some (.inr (.inr v9)):Int×Int->Option ((Int×Int)⊕(Int⊕Int))))
  (J:=(fun z=>match z with
   | .inl a8=>some a8
   | .inr a6=>(Ak (S:=(Int×Int)) (E:=(Int⊕Int)) (fun (v24,g)=>
     bif (decide (g<(m.Atoms.length:Int))) then (
     (Ae m.Atoms g).bind fun c=>
     (Ra c.Lin).bind fun v28=>
     bif (!v28) then some (.inr (.inl (-1)))
     else (
     bif ((c.Lin.Terms.length:Int)==(0:Int)) then some (.inr (.inl (-1)))
     else (
     (Rb x c.Lin).bind fun A=>
     bif (!A) then some (.inr (.inl (-1)))
     else (
     bif (decide (g>(0:Int))) then (
     (Ae m.Atoms (Ac (g-1))).bind fun u=>
     (Mz u.Lin c.Lin).bind fun v31=>
     bif (decide (v31>=(0:Int))) then some (.inr (.inl (-1)))
     else (
     bif (decide (c.Deg<(1:Int))) then some (.inr (.inl (-1)))
     else (
     bif (decide (c.Deg>(6:Int))) then some (.inr (.inl (-1)))
     else some (.inl ((Ac (v24+c.Deg)),(Ac (g+1)))))))
     else (
     bif (decide (c.Deg<(1:Int))) then some (.inr (.inl (-1)))
     else (
     bif (decide (c.Deg>(6:Int))) then some (.inr (.inl (-1)))
     else some (.inl ((Ac (v24+c.Deg)),(Ac (g+1))))))))))
     else some (.inr (.inr v24))) (a6,0)).bind fun z=>match z with
      | .inl D=>some D
      | .inr k=>bif (decide (k>(6:Int))) then some (-1) else some k))
  (by simp [Dj]) trivial (by omega) (by
   intro j f _ _ hx _ h1 h2 h3
   have ad:=Bi hx
   have hj:=Dh hx
   have aa:(bif decide ((j:Int)>0) then ((Ae m.Factors (Ac ((j:Int)-1))).bind fun B=>some (decide (B.Var>=f.Var))) else some false)=some (!Kl (·.Var) m.Factors f j):=by
    unfold Kl
    by_cases h:j=0
    .subst h; rfl
    .rw [Aj (by omega)]
     have e:Ac ((j:Int)-1)=((j-1:Nat):Int):=by rw [Ac,Bp] <;> omega
     have hy:m.Factors[j-1]? = some m.Factors[j-1]:=Bj (by omega)
     rw [e,Bn rfl hy,hy]
     have h0:(j==0)=false:=by simpa using h
     simp only [cond_true,Ad,h0,Bool.false_or]
     by_cases hc:m.Factors[j-1].Var<f.Var
     .rw [Am (by omega),Aj hc]; rfl
     .rw [Aj (by omega),Am hc]; rfl
   have es:Dj x.Data x.Vars x.Res (m.Factors.take (j+1))=Dj x.Data x.Vars x.Res (m.Factors.take j)+Ei x.Data x.Vars x.Res f:=Akn _ hx
   have hb:=Akq (data:=x.Data) (vars:=x.Vars) (res:=x.Res) (m.Factors.take j)
   have ai:(m.Factors.take j).length<=1048576:=by simp; omega
   have ag:=Ad7 x.Data x.Vars x.Res f
   simp only [h1,h2,h3,cond_true,Ad,Akm,L2,es]
   cases ht:Ct x.Vars x.Res f.Var with
   | none=>
    have e:Ei x.Data x.Vars x.Res f = -1:=by unfold Ei; rw [ht]
    rw [e]
    exact ⟨(fun h=>by cases h),fun _=>⟨.inl (-1),rfl,_,rfl,rfl⟩⟩
   | some t=>
    have e:Ei x.Data x.Vars x.Res f=Ff (Eb x.Data f.Index t):=by unfold Ei; rw [ht]
    simp only [Cu,cond_false,aa,Ad,Atx hc.vd hc.sh t f.Index (hc.sz _ _ ht) (U.fi f ad),<-e]
    cases ae:Kl (·.Var) m.Factors f j with
    | false=>exact ⟨(fun h=>by simp at h),fun _=>⟨.inl (-1),rfl,_,rfl,rfl⟩⟩
    | true=>
     simp only [Cu,cond_false,Bool.and_true]
     by_cases h1:1<=Ei x.Data x.Vars x.Res f
     .rw [Aj h1,Am (by omega)]
      refine ⟨fun _=>⟨(),?_,trivial⟩,fun h=>by cases h⟩
      simp only [cond_false]
      rw [show Ac (Dj x.Data x.Vars x.Res (m.Factors.take j)+Ei x.Data x.Vars x.Res f)=Dj x.Data x.Vars x.Res (m.Factors.take j)+Ei x.Data x.Vars x.Res f by rw [Ac,Bp] <;> omega]
     .rw [Am h1,Aj (by omega)]
      exact ⟨(fun h=>by cases h),fun _=>⟨.inl (-1),rfl,_,rfl,rfl⟩⟩) (by
   intro _ _ h1 s
   have ac:=Z m.Factors.length s
   have ah:=Akq (data:=x.Data) (vars:=x.Vars) (res:=x.Res) m.Factors
   rw [List.take_length] at ac
   refine ⟨.inr (Dj x.Data x.Vars x.Res m.Factors),by simp,?_⟩
   obtain ⟨w,w1,w2⟩:=U5 (M:=Unit) (R:=Int) m.Atoms (fun q=>Km x.Vars x.Res m.Atoms q.1 q.2&&decide (q.1.Deg<=6)) (fun j _=>(Dj x.Data x.Vars x.Res m.Factors+Et (m.Atoms.take j),(j:Int))) (fun _=>True)
    (fun v=>decide (v<0) = !decide (Dj x.Data x.Vars x.Res m.Factors+Et m.Atoms<=6)) (fun v=>v = -1) ()
    (s0:=(Dj x.Data x.Vars x.Res m.Factors,(0:Int)))
    (step:=(fun (v24,g)=>
     bif (decide (g<(m.Atoms.length:Int))) then (
     (Ae m.Atoms g).bind fun c=>
     (Ra c.Lin).bind fun v28=>
     bif (!v28) then some (.inr (.inl (-1)))
     else (
     bif ((c.Lin.Terms.length:Int)==(0:Int)) then some (.inr (.inl (-1)))
     else (
     (Rb x c.Lin).bind fun A=>
     bif (!A) then some (.inr (.inl (-1)))
     else (
     bif (decide (g>(0:Int))) then (
     (Ae m.Atoms (Ac (g-1))).bind fun u=>
     (Mz u.Lin c.Lin).bind fun v31=>
     bif (decide (v31>=(0:Int))) then some (.inr (.inl (-1)))
     else (
     bif (decide (c.Deg<(1:Int))) then some (.inr (.inl (-1)))
     else (
     bif (decide (c.Deg>(6:Int))) then some (.inr (.inl (-1)))
     else some (.inl ((Ac (v24+c.Deg)),(Ac (g+1)))))))
     else (
     bif (decide (c.Deg<(1:Int))) then some (.inr (.inl (-1)))
     else (
     bif (decide (c.Deg>(6:Int))) then some (.inr (.inl (-1)))
     else some (.inl ((Ac (v24+c.Deg)),(Ac (g+1))))))))))
     else some (.inr (.inr v24)):Int×Int->Option ((Int×Int)⊕(Int⊕Int))))
    (J:=(fun z=>match z with
      | .inl D=>some D
      | .inr k=>bif (decide (k>(6:Int))) then some (-1) else some k))
    (by simp [Et]) trivial (by omega) (by
     intro j a _ _ hx G h1 h2 h3
     have V:((a.Lin.Terms.length:Int)==(0:Int))=(a.Lin.Terms.length==0):=Ado a.Lin.Terms 0
     have es:=Ako hx
     have aj:0<=Et (m.Atoms.take j)/\Et (m.Atoms.take j)<=6*1048576:=by
      have X:∀b∈m.Atoms.take j,1<=b.Deg/\b.Deg<=6:=by
       intro b hb
       obtain ⟨i,hi⟩:=List.getElem?_of_mem hb
       have ab:=Dh hi
       have Y:i<j:=by simp at ab; omega
       rw [List.getElem?_take_of_lt Y] at hi
       have:=G i b Y hi
       simp only [Km,Ce,decide_eq_true_eq] at this
       omega
      obtain ⟨k1,k2,_⟩:=Zq (m.Atoms.take j) (fun b hb=>by have:=X b hb; omega)
      have:=k2 (fun b hb=>(X b hb).2)
      have hl:(m.Atoms.take j).length<=1048576:=by simp; omega
      omega
     simp only [h1,h2,h3,cond_true,Ad,Aui,Aul x a.Lin (U.al a (Bi hx)),Akp Mz m.Atoms (fun y hy x=>Akj y.Lin x (by have:=U.al y hy; omega)) hx (by omega),Km,V,es]
     cases Nq a.Lin with
     | false=>exact ⟨(fun h=>by simp at h),fun _=>⟨.inl (-1),rfl,_,rfl,rfl⟩⟩
     | true=>
      cases (a.Lin.Terms.length==0) with
      | true=>exact ⟨(fun h=>by simp at h),fun _=>⟨.inl (-1),rfl,_,rfl,rfl⟩⟩
      | false=>
       cases Jw x.Vars x.Res a.Lin with
       | false=>exact ⟨(fun h=>by simp at h),fun _=>⟨.inl (-1),rfl,_,rfl,rfl⟩⟩
       | true=>
        simp only [Cu,cond_false,Bool.not_false,Bool.and_true]
        cases Sl m.Atoms a j with
        | false=>exact ⟨(fun h=>by simp at h),fun _=>⟨.inl (-1),rfl,_,rfl,rfl⟩⟩
        | true=>
         simp only [cond_true,Bool.and_true]
         by_cases g1:a.Deg<1
         .rw [Aj g1,Am (by omega:¬1<=a.Deg)]
          exact ⟨(fun h=>by simp at h),fun _=>⟨.inl (-1),rfl,_,rfl,rfl⟩⟩
         .by_cases g2:a.Deg>6
          .rw [Am g1,Aj g2,Am (by omega:¬a.Deg<=6)]
           exact ⟨(fun h=>by simp at h),fun _=>⟨.inl (-1),rfl,_,rfl,rfl⟩⟩
          .rw [Am g1,Am g2,Aj (by omega:a.Deg<=6),Aj (by omega:1<=a.Deg)]
           refine ⟨fun _=>⟨(),?_,trivial⟩,fun h=>by cases h⟩
           simp only [cond_false]
           rw [show Ac (Dj x.Data x.Vars x.Res m.Factors+Et (m.Atoms.take j)+a.Deg)=Dj x.Data x.Vars x.Res m.Factors+(Et (m.Atoms.take j)+a.Deg) by rw [Ac,Bp] <;> omega]) (by
     intro _ _ h1 I
     refine ⟨.inr (Dj x.Data x.Vars x.Res m.Factors+Et m.Atoms),by simp,?_⟩
     have ak:0<=Et m.Atoms:=(Zq m.Atoms (fun b hb=>by
      obtain ⟨i,hi⟩:=List.getElem?_of_mem hb
      have:=G0 I hi
      simp only [Km,Ce,decide_eq_true_eq] at this
      omega)).1
     simp only
     by_cases h6:Dj x.Data x.Vars x.Res m.Factors+Et m.Atoms<=6
     .rw [Am (by omega),Aj h6]
      exact ⟨_,rfl,Am (by omega)⟩
     .rw [Aj (by omega),Am h6]
      exact ⟨_,rfl,rfl⟩)
   refine ⟨w,w1,?_⟩
   unfold G2
   rw [s,Bool.true_and]
   rcases w2 with ⟨g1,g2⟩ | ⟨g1,g2⟩
   .have ga:m.Atoms.zipIdx.all (fun q=>Km x.Vars x.Res m.Atoms q.1 q.2)=true:=U3 fun j a hj=>by
     have:=G0 g1 hj
     simp only [Ce] at this
     exact this.1
    rw [ga,Bool.true_and,g2]
   .rw [g2]
    cases ga:m.Atoms.zipIdx.all (fun q=>Km x.Vars x.Res m.Atoms q.1 q.2) with
    | false=>rfl
    | true=>
     have hgt:¬Dj x.Data x.Vars x.Res m.Factors+Et m.Atoms<=6:=by
      intro af
      have:m.Atoms.zipIdx.all (fun q=>Km x.Vars x.Res m.Atoms q.1 q.2&&decide (q.1.Deg<=6))=true:=U3 fun j a hj=>by
       have gj:=G0 ga hj
       have hpos:∀b∈m.Atoms,0<=b.Deg:=fun b hb=>by
        obtain ⟨i,hi⟩:=List.getElem?_of_mem hb
        have:=G0 ga hi
        simp only [Km,Ce,decide_eq_true_eq] at this
        omega
       have:=(Zq m.Atoms hpos).2.2 a (Bi hj)
       simp only [gj,Bool.true_and,decide_eq_true_eq]
       omega
      rw [this] at g1; cases g1
     rw [Am hgt]; rfl)
 refine ⟨r,r1,?_⟩
 rcases r2 with ⟨h1,h2⟩ | ⟨h1,h2⟩
 .exact h2
 .rw [h2,a1 h1]; rfl
end Go.Ab
namespace Go.Ab
open Go
theorem Aus {α:Type} [DecidableEq α] (l m:List α) (b:l.length=m.length):(decide (l=m))=l.zipIdx.all (fun q=>decide (m[q.2]? = some q.1)):=by
 rw [Bool.eq_iff_iff,decide_eq_true_eq]
 constructor
 .rintro rfl
  exact U3 fun j x hx=>by simpa using hx
 .intro h
  apply List.ext_getElem?
  intro j
  cases hx:l[j]? with
  | none=>rw [List.getElem?_eq_none_iff] at hx; rw [List.getElem?_eq_none (by omega)]
  | some x=>have:=G0 h hx; rw [decide_eq_true_eq] at this; rw [this]
theorem Ad9 {R:Type} (l m:List Int) (b:l.length<1099511627776) (h:l.length=m.length) {J:Bool⊕Unit->Option R} {rt rf:R} (h1:J (.inl false)=some rf) (h2:J (.inr ())=some rt) :
  (Ak (S:=Int) (E:=(Bool⊕Unit)) (fun v3=>bif (decide (v3<(l.length:Int))) then ((Ae l v3).bind fun v4=>(Ae m v3).bind fun v5=>bif (v4 != v5) then some (.inr (.inl false)) else some (.inl (Ac (v3+1)))) else some (.inr (.inr ()))) 0).bind J=some (bif decide (l=m) then rt else rf):=by
 rw [Aus l m h]
 refine K8 l (fun q=>decide (m[q.2]? = some q.1)) (fun j=>(j:Int)) rfl (by omega) (rt:=rt) (rf:=rf) ?_ ?_
 .intro j x hx _ g1 g2 g3
  have hj:j<m.length:=by have:=Dh hx; omega
  have hy:m[j]? = some m[j]:=Bj hj
  generalize m[j]=y at hy
  simp only [g1,g2,g3,cond_true,Ad,Bn rfl hy,hy,Option.some.injEq]
  by_cases e:x=y
  .rw [B4 e,Aj e.symm]
   exact ⟨fun _=>rfl,fun h=>by cases h⟩
  .rw [Ca e,Am (fun h=>e h.symm)]
   exact ⟨(fun h=>by cases h),fun _=>⟨.inl false,rfl,h1⟩⟩
 .intro h _; exact ⟨.inr (),by simp only [h]; rfl,h2⟩
theorem Akr (l m:List Int) (b:l.length<1099511627776):K4 l m=some (decide (l=m)):=by
 unfold K4
 by_cases h:l.length=m.length
 .rw [B4 (by omega)]
  simp only [cond_false]
  refine (Ad9 l m b h (rt:=true) (rf:=false) ?_ ?_).trans (by rw [Jr]) <;> rfl
 .rw [Ca (by omega),Am (fun e=>h (by rw [e]))]; rfl
def Ld (a b:An):Bool:=a.Neg==b.Neg&&decide (a.Num=b.Num)&&decide (a.Den=b.Den)
theorem Zr (a b:An):Ld a b=true↔a=b:=by
 unfold Ld
 simp only [Ce,beq_iff_eq,decide_eq_true_eq]
 constructor
 .rintro ⟨⟨h1,h2⟩,h3⟩; cases a; cases b; simp_all
 .rintro rfl; simp
theorem Aut (a b:An) (h1:a.Num.length<1099511627776) (h2:a.Den.length<1099511627776):Xp a b=some (Ld a b):=by
 unfold Xp Ld
 cases g:(a.Neg==b.Neg) with
 | false=>rw [show (a.Neg != b.Neg)=true by simp [bne,g]]; rfl
 | true=>
  rw [show (a.Neg != b.Neg)=false by simp [bne,g]]
  simp only [cond_false]
  by_cases f:a.Num.length=b.Num.length
  .rw [B4 (by omega)]
   by_cases c:a.Den.length=b.Den.length
   .rw [B4 (by omega)]
    simp only [cond_false,Ad,Bool.true_and]
    refine (Ad9 a.Num b.Num h1 f (rt:=decide (a.Den=b.Den)) (rf:=false) rfl ?_).trans (by cases decide (a.Num=b.Num) <;> rfl)
    refine (Ad9 a.Den b.Den h2 c (rt:=true) (rf:=false) ?_ ?_).trans (by rw [Jr]) <;> rfl
   .rw [Ca (by omega),Am (fun e:a.Den=b.Den=>c (by rw [e]))]
    simp
  .rw [Ca (by omega),Am (fun e:a.Num=b.Num=>f (by rw [e]))]
   simp
def Pq (c:An):Bool:=Ld (Bb (sv c) (nv c) (dv c)) c && !(nv c==0)
theorem Auu (c:An):Pq c=(Ld c (Bb (sv c) (nv c) (dv c)) && !(nv c==0)):=by
 unfold Pq
 congr 1
 rw [Bool.eq_iff_iff,Zr,Zr]; exact eq_comm
structure TSz (t:A4):Prop where
 co:RB 1048576 t.Coef
 mo:MSz t.Mono
def Nt (l:List A4) (x:A4) (j:Nat):Bool:=j==0||(match l[j-1]? with | some y=>decide (D0 y.Mono x.Mono<0) | none=>false)
def L3 (data:List Al) (vars:List Ag) (res:Ag) (l:List A4) (t:A4) (j:Nat):Bool:=Pq t.Coef&&G2 data vars res t.Mono&&Nt l t j
def Gd (data:List Al) (vars:List Ag) (res:Ag) (p:List A4):Bool:=decide (p.length<=1000)&&p.zipIdx.all (fun q=>L3 data vars res p q.1 q.2)
theorem Aks {S E:Type} (F:Cb->Cb->Option Int) (l:List A4) (g:∀y∈l,∀x,F y.Mono x=some (D0 y.Mono x)) {x:A4} {j:Nat} (hx:l[j]? = some x) (i:l.length<4611686018427387904) (c b:Option (S⊕E)) :
  (bif decide ((j:Int)>0) then ((Ae l (Ac ((j:Int)-1))).bind fun f=>(F f.Mono x.Mono).bind fun v28=>bif decide (v28>=0) then c else b) else b)=bif Nt l x j then b else c:=by
 have hj:=Dh hx
 unfold Nt
 by_cases h:j=0
 .subst h; rfl
 .rw [Aj (by omega)]
  have e:Ac ((j:Int)-1)=((j-1:Nat):Int):=by rw [Ac,Bp] <;> omega
  have hy:l[j-1]? = some l[j-1]:=Bj (by omega)
  rw [e,Bn rfl hy,hy]
  have h0:(j==0)=false:=by simpa using h
  simp only [cond_true,Ad,h0,Bool.false_or,g _ (List.getElem_mem (by omega:j-1<l.length))]
  by_cases hc:D0 l[j-1].Mono x.Mono<0
  .rw [Am (by omega),Aj hc]; rfl
  .rw [Aj (by omega),Am hc]; rfl
theorem Akt (s:Bool) (n:Nat):(Nl s n==0)=(n==0):=by
 unfold Nl
 by_cases h:n=0
 .rw [if_pos h]; subst h; rfl
 .rw [if_neg h]
  have:(n==0)=false:=by simpa using h
  rw [this]; cases s <;> rfl
theorem Aku {data:List Al} {vars:List Ag} {res:Ag} (hc:Nr data vars res) {b1:List (ByteArray×Int)} (b2:List (ByteArray×List Dy)) (Y:Fg data vars res b1) (p:List A4) (X:∀t∈p,TSz t) :
  ∃D,Ts p b1 b2 data vars res.Kind res.Num res.Args=some (Gd data vars res p,D)/\Fg data vars res D:=by
 unfold Ts Gd
 by_cases B:p.length<=1000
 .rw [Am (by omega),Aj B,Bool.true_and]
  simp only [cond_false]
  obtain ⟨r,Z,V⟩:=U5 (M:=List (ByteArray×Int)) (R:=Bool×List (ByteArray×Int)) p (fun q=>L3 data vars res p q.1 q.2) (fun j o=>((j:Int),o)) (Fg data vars res)
   (fun r=>Fg data vars res r.2/\r.1=true) (fun r=>Fg data vars res r.2/\r.1=false) b1
   (s0:=((0:Int),b1))
   (step:=(fun (b,g)=>
    bif (decide (b<(p.length:Int))) then (
    (Ae p b).bind fun v12=>
    (Lo v12.Coef).bind fun f=>
    (show Option Bool from
    bif (f.Neg==v12.Coef.Neg) then (
    (K4 f.Num v12.Coef.Num).bind fun k=>
    bif k then (
    (K4 f.Den v12.Coef.Den).bind fun i=>
    some i)
    else some false)
    else some false).bind fun I=>
    bif (!I) then some (.inr (.inl (false,g)))
    else (
    (Jg f).bind fun G=>
    bif (G==(0:Int)) then some (.inr (.inl (false,g)))
    else (
    (Rc v12.Mono g b2 data vars res.Kind res.Num res.Args).bind fun v20=>
    bif (!v20.1) then some (.inr (.inl (false,v20.2)))
    else (
    bif (decide (b>(0:Int))) then (
    (Ae p (Ac (b-1))).bind fun v21=>
    (Lp v21.Mono v12.Mono).bind fun E=>
    bif (decide (E>=(0:Int))) then some (.inr (.inl (false,v20.2)))
    else some (.inl ((Ac (b+1)),v20.2)))
    else some (.inl ((Ac (b+1)),v20.2))))))
    else some (.inr (.inr g)):Int×List (ByteArray×Int)->Option ((Int×List (ByteArray×Int))⊕((Bool×List (ByteArray×Int))⊕List (ByteArray×Int)))))
   (J:=(fun z=>match z with
    | .inl (N,L)=>some (N,L)
    | .inr S=>some (true,S)))
   rfl Y (by omega) (by
    intro j t o A hx _ h1 h2 h3
    have c:=X t (Bi hx)
    obtain ⟨D,d1,d2⟩:=Aup b2 hc A t.Mono c.mo
    have u:∀l:List Int,l=(Bb (sv t.Coef) (nv t.Coef) (dv t.Coef)).Num\/l=(Bb (sv t.Coef) (nv t.Coef) (dv t.Coef)).Den->l.length<1099511627776:=by
     intro l B
     have q:=Nm (sv t.Coef) (nv t.Coef) (dv t.Coef) 1048577 c.co.nv c.co.dv (by omega)
     have:=q.nl
     have:=q.dl
     rcases B with rfl | rfl <;> omega
    have s:(bif ((Bb (sv t.Coef) (nv t.Coef) (dv t.Coef)).Neg==t.Coef.Neg) then ((K4 (Bb (sv t.Coef) (nv t.Coef) (dv t.Coef)).Num t.Coef.Num).bind fun k=>bif k then ((K4 (Bb (sv t.Coef) (nv t.Coef) (dv t.Coef)).Den t.Coef.Den).bind fun i=>some i) else some false) else some false)=some (Ld (Bb (sv t.Coef) (nv t.Coef) (dv t.Coef)) t.Coef):=by
     unfold Ld
     rw [Akr _ _ (u _ (.inl rfl)),Akr _ _ (u _ (.inr rfl))]
     cases ((Bb (sv t.Coef) (nv t.Coef) (dv t.Coef)).Neg==t.Coef.Neg) <;> cases decide ((Bb (sv t.Coef) (nv t.Coef) (dv t.Coef)).Num=t.Coef.Num) <;> rfl
    simp only [h1,h2,h3,cond_true,Ad,Arr t.Coef 1048576 c.co (by omega),s,Aks Lp p (fun y hy x=>Aue y.Mono x (X y hy).mo) hx (by omega),L3,Pq]
    cases U:Ld (Bb (sv t.Coef) (nv t.Coef) (dv t.Coef)) t.Coef with
    | false=>exact ⟨(fun h=>by cases h),fun _=>⟨_,rfl,_,rfl,A,rfl⟩⟩
    | true=>
     have e:=(Zr _ _).1 U
     simp only [Cu,cond_false,Bool.true_and]
     rw [e,Ai5 t.Coef 1048576 c.co (by omega),Ad,Akt]
     cases (nv t.Coef==0) with
     | true=>exact ⟨(fun h=>by cases h),fun _=>⟨_,rfl,_,rfl,A,rfl⟩⟩
     | false=>
      simp only [cond_false,d1,Ad,Bool.not_false,Bool.true_and]
      cases G2 data vars res t.Mono with
      | false=>exact ⟨(fun h=>by cases h),fun _=>⟨_,rfl,_,rfl,d2,rfl⟩⟩
      | true=>
       cases Nt p t j with
       | true=>exact ⟨fun _=>⟨D,rfl,d2⟩,fun h=>by cases h⟩
       | false=>exact ⟨(fun h=>by cases h),fun _=>⟨_,rfl,_,rfl,d2,rfl⟩⟩) (by
    intro o A h1 _
    exact ⟨.inr o,by simp only [h1]; rfl,_,rfl,A,rfl⟩)
  refine ⟨r.2,?_,?_⟩
  .have e:some r=some (p.zipIdx.all (fun q=>L3 data vars res p q.1 q.2),r.2):=by
    rcases V with ⟨h1,h2,h3⟩ | ⟨h1,h2,h3⟩
    .rw [h1,<-h3]
    .rw [h1,<-h3]
   rw [<-e]
   exact Z
  .rcases V with ⟨h1,h2,h3⟩ | ⟨h1,h2,h3⟩ <;> exact h2
 .rw [Aj (by omega),Am B]
  exact ⟨b1,rfl,Y⟩
theorem Auv {x:Br} (hc:Nr x.Data x.Vars x.Res) (p:List A4) (c:∀t∈p,TSz t):Xi x p=some (Gd x.Data x.Vars x.Res p):=by
 unfold Xi Gd
 by_cases f:p.length<=1000
 .rw [Am (by omega),Aj f,Bool.true_and]
  simp only [cond_false]
  refine (K8 p (fun q=>L3 x.Data x.Vars x.Res p q.1 q.2) (fun j=>(j:Int)) rfl (by omega) (rt:=true) (rf:=false) ?_ ?_).trans (by rw [Jr])
  .intro j t hx _ h1 h2 h3
   have b:=c t (Bi hx)
   obtain ⟨v,g,v2⟩:=Aur hc t.Mono b.mo
   simp only [h1,h2,h3,cond_true,Ad,g,v2,Ajc t.Coef 1048576 b.co (by omega),Akt,R7 t.Coef 1048576 b.co (by omega),Aut t.Coef _ (by have:=b.co.nl; omega) (by have:=b.co.dl; omega),
    Aks Tj p (fun y hy x=>Auf y.Mono x (c y hy).mo) hx (by omega),L3,Auu]
   cases G2 x.Data x.Vars x.Res t.Mono with
   | false=>exact ⟨(fun h=>by simp at h),fun _=>⟨.inl false,rfl,rfl⟩⟩
   | true=>
    cases (nv t.Coef==0) with
    | true=>exact ⟨(fun h=>by simp at h),fun _=>⟨.inl false,rfl,rfl⟩⟩
    | false=>
     cases Ld t.Coef (Bb (sv t.Coef) (nv t.Coef) (dv t.Coef)) with
     | false=>exact ⟨(fun h=>by simp at h),fun _=>⟨.inl false,rfl,rfl⟩⟩
     | true=>
      cases Nt p t j with
      | true=>exact ⟨fun _=>rfl,fun h=>by cases h⟩
      | false=>exact ⟨(fun h=>by cases h),fun _=>⟨.inl false,rfl,rfl⟩⟩
  .intro h _; exact ⟨.inr (),by simp only [h]; rfl,rfl⟩
 .rw [Aj (by omega),Am f]; rfl
structure CSz (x:Br):Prop where
 ds:DSz x.Data
 nv:x.Vars.length<=1048576
 vs:∀t∈x.Vars,A2 t<=1048576
 rs:A2 x.Res<=1048576
def Em (data:List Al) (t:Ag):Bool:=Cs data 0 t&&decide (A2 t<=200)
def F4 (x:Br):Prop:=x.Vars.length<=3000/\F3 x.Data/\Em x.Data x.Res=true/\x.Vars.all (Em x.Data)=true
theorem F4.ctx {x:Br} (h:F4 x) (f:CSz x):Nr x.Data x.Vars x.Res:=by
 refine ⟨h.2.1,f.ds.sz.short,fun v t ht=>?_,h.1⟩
 have b:∀t,Em x.Data t=true->A2 t<=200:=fun t h=>by
  simp only [Em,Ce,decide_eq_true_eq] at h; exact h.2
 unfold Ct at ht
 by_cases c:v = -1
 .rw [if_pos c] at ht; cases ht; exact b _ h.2.2.1
 .rw [if_neg c] at ht
  exact b t (List.all_eq_true.1 h.2.2.2 t (De ht).2.2.2)
theorem Auw (x:Br) (c:CSz x):∃b,Xh x=some b/\(b=true↔F4 x):=by
 obtain ⟨b,b1,b2⟩:=Y6 c.ds
 have l:=c.nv
 have k:=c.rs
 unfold Xh F4
 rw [b1,Sa x.Data x.Res 0 (by omega)]
 simp only [Ad]
 cases b with
 | false=>exact ⟨false,rfl,by simp; intro _ h; have:=b2.2 h; cases this⟩
 | true=>
  have i:=b2.1 rfl
  simp only [Cu,cond_false]
  by_cases g:x.Vars.length<=3000
  .rw [Am (by omega)]
   simp only [cond_false,Ad]
   cases f:(Cs x.Data 0 x.Res&&decide (A2 x.Res<=200)) with
   | false=>exact ⟨false,rfl,by simp [Em,f]⟩
   | true=>
    refine ⟨x.Vars.all (Em x.Data),?_,by rw [show Em x.Data x.Res=true from f]; simp [g,i]⟩
    simp only [Cu,cond_false]
    refine (Jq x.Vars (Em x.Data) (fun j=>(j:Int)) rfl (by omega) (rt:=true) (rf:=false) ?_ ?_).trans (by rw [Jr])
    .intro j t ht h1 h2 h3
     have:=c.vs t (Bi ht)
     simp only [h1,h2,h3,cond_true,Ad,Sa x.Data t 0 (by omega)]
     rw [show (Cs x.Data 0 t&&decide (A2 t<=200))=Em x.Data t from rfl]
     cases Em x.Data t with
     | true=>exact ⟨fun _=>rfl,fun h=>by cases h⟩
     | false=>exact ⟨(fun h=>by cases h),fun _=>⟨.inl false,rfl,rfl⟩⟩
    .intro h; exact ⟨.inr (),by simp only [h]; rfl,rfl⟩
  .rw [Aj (by omega)]
   exact ⟨false,rfl,by simp [g]⟩
theorem Aux (x:Br) (c:CSz x) (p:List A4) (hp:∀t∈p,TSz t):∃b,Xd x p=some b/\(b=true↔F4 x/\Gd x.Data x.Vars x.Res p=true):=by
 obtain ⟨b,b1,b2⟩:=Auw x c
 unfold Xd
 rw [b1,Ad]
 cases b with
 | false=>exact ⟨false,rfl,by simp; intro h; have:=b2.2 h; cases this⟩
 | true=>
  have hf:=b2.1 rfl
  rw [Auv (hf.ctx c) p hp]
  exact ⟨_,rfl,by simp [hf]⟩
theorem Akv (x:Br) (g:CSz x) (p:List A4) (hp:∀t∈p,TSz t):∃b,Kw x p=some b/\(b=true↔F4 x/\Gd x.Data x.Vars x.Res p=true):=by
 obtain ⟨b,b1,b2⟩:=Vi g.ds
 have G:=g.nv
 have E:=g.rs
 unfold Kw Mr
 rw [b1,Nn x.Data x.Res 0 (by omega)]
 by_cases y:x.Vars.length<=3000
 .rw [Am (by omega)]
  simp only [cond_false,Ad]
  cases b with
  | false=>exact ⟨false,rfl,by simp; intro h; have:=b2.2 h.2.1; cases this⟩
  | true=>
   have D:=b2.1 rfl
   simp only [Cu,cond_false]
   cases s:(Cs x.Data 0 x.Res&&decide (A2 x.Res<=200)) with
   | false=>exact ⟨false,rfl,by simp; intro h; have:=h.2.2.1; rw [show Em x.Data x.Res=false from s] at this; cases this⟩
   | true=>
    simp only [Cu,cond_false,Ad]
    rw [Option.bind_assoc]
    refine D3 (fun i=>∃j:Nat,i=j/\j<=x.Vars.length/\(x.Vars.take j).all (Em x.Data)=true) (fun i=>x.Vars.length-i.toNat)
     (fun z=>match z with | .inl r=>r=false/\¬F4 x | .inr _=>F4 x) ⟨0,rfl,by omega,by simp⟩ ?_ ?_
    .rintro i ⟨j,rfl,hj,c⟩
     rcases Nat.lt_or_ge j x.Vars.length with h | h
     .have ht:x.Vars[j]? = some x.Vars[j]:=Bj h
      generalize x.Vars[j]=t at ht
      have:=g.vs t (Bi ht)
      simp only [Aj (by omega:(j:Int)<(x.Vars.length:Int)),cond_true,Bn rfl ht,Ad,Nn x.Data t 0 (by omega),C5 h (by omega)]
      rw [show (Cs x.Data 0 t&&decide (A2 t<=200))=Em x.Data t from rfl]
      cases A:Em x.Data t with
      | true=>exact .inl ⟨_,rfl,⟨j+1,rfl,by omega,by rw [Cw ht,List.all_append,c]; simp [A]⟩,by simp; omega⟩
      | false=>
       refine .inr ⟨.inl false,rfl,rfl,fun hh=>?_⟩
       have:=List.all_eq_true.1 hh.2.2.2 t (Bi ht)
       rw [A] at this; cases this
     .have:j=x.Vars.length:=by omega
      subst this
      rw [List.take_length] at c
      exact .inr ⟨.inr (),by simp,y,D,s,c⟩
    .rintro (r | u) f
     .obtain ⟨rfl,f⟩:=f
      exact ⟨false,rfl,by simp [f]⟩
     .have hf:F4 x:=f
      have I:Fg x.Data x.Vars x.Res []:=fun q h=>by cases h
      obtain ⟨B,l,J⟩:=Aku (hf.ctx g) [] I p hp
      cases k:Gd x.Data x.Vars x.Res p with
      | true=>
       rw [k] at l
       refine ⟨true,?_,by simp [hf]⟩
       simp only
       rw [Option.bind_assoc]
       refine Lt 1 (fun j=>match j with | 0=>((0:Int),[]) | _=>((1:Int),B)) rfl ?_ ⟨.inr B,rfl,rfl⟩
       intro j hj
       match j,hj with
       | 0,_=>
        show (bif decide ((0:Int)<1) then _ else _)=_
        simp only [Aj (by omega:(0:Int)<1),cond_true]
        rw [show Ae [p] 0=some p from rfl,Ad,l]; rfl
      | false=>
       rw [k] at l
       refine ⟨false,?_,by simp⟩
       simp only
       rw [Option.bind_assoc]
       refine Lt 0 (fun _=>((0:Int),[])) rfl (fun j hj=>by omega) ⟨.inl false,?_,rfl⟩
       show (bif decide ((0:Int)<1) then _ else _)=_
       simp only [Aj (by omega:(0:Int)<1),cond_true]
       rw [show Ae [p] 0=some p from rfl,Ad,l]; rfl
 .rw [Aj (by omega)]
  exact ⟨false,rfl,by simp; intro h; exact absurd h.1 y⟩
end Go.Ab
namespace Go.Ab
open Go
mutual
def B6:Av->Nat
 | ⟨_,_,l⟩=>1+Cy l
def Cy:List Av->Nat
 | []=>0
 | x::xs=>B6 x+Cy xs
end
theorem Is (t:Av):B6 t=1+Cy t.Kids:=by cases t; simp only [B6]
theorem L5 (t:Av):1<=B6 t:=by rw [Is]; omega
theorem Jx {l:List Av} {a:Av} (h:a∈l):B6 a<=Cy l:=by
 induction l with
 | nil=>cases h
 | cons x xs ih=>
  simp only [Cy]
  rcases List.mem_cons.1 h with rfl | h
  .omega
  .have:=ih h; omega
theorem Kn (l:List Av):l.length<=Cy l:=by
 induction l with
 | nil=>simp
 | cons x xs ih=>simp only [Cy,List.length_cons]; have:=L5 x; omega
theorem Akw (l m:List Av):Cy (l++m)=Cy l+Cy m:=by
 induction l with
 | nil=>simp [Cy]
 | cons x xs ih=>simp only [List.cons_append,Cy,ih]; omega
theorem Zs {l:List Av} {j:Nat} {x:Av} (h:l[j]? = some x):Cy (l.take (j+1))=Cy (l.take j)+B6 x:=by
 rw [Cw h,Akw]; simp [Cy]
theorem Vr (l:List Av) (j:Nat):Cy (l.take j)<=Cy l:=by
 have:=Akw (l.take j) (l.drop j)
 rw [List.take_append_drop] at this; omega
theorem Auy (k:Nat) (l:List Av) (c:Nat) (L:l.length<1099511627776) (B:c<=5000)
  (ih:∀(a:Av),a∈l->∀f:Nat,f<=c->∃q:Int,Kx k a f=some (decide (B6 a<=f),q)/\(B6 a<=f->q=(f:Int)-B6 a)) :
  ∃p:Int×Int,Rh (k+2) l c=some p/\(Cy l<=c->p.1 = -1/\p.2=(c:Int)-Cy l)/\(¬Cy l<=c->0<=p.1):=by
 rw [Rh]
 refine D3
  (fun (v3,v4)=>∃j:Nat,v3=j/\j<=l.length/\Cy (l.take j)<=c/\v4=(c:Int)-Cy (l.take j))
  (fun (v3,_)=>l.length-v3.toNat)
  (fun z=>match z with | .inl (i,_)=>0<=i/\¬Cy l<=c | .inr v4=>Cy l<=c/\v4=(c:Int)-Cy l)
  ⟨0,rfl,by omega,by simp [Cy],by simp [Cy]⟩ ?_ ?_
 .rintro ⟨v3,v4⟩ ⟨j,rfl,hj,y,D⟩
  have D:v4=_:=D
  subst D
  rcases Nat.lt_or_ge j l.length with h | h
  .have hx:l[j]? = some l[j]:=Bj h
   generalize l[j]=x at hx
   obtain ⟨g,A,s⟩:∃g:Nat,(c:Int)-Cy (l.take j)=g/\g<=c:=⟨c-Cy (l.take j),by omega,by omega⟩
   obtain ⟨q,J,I⟩:=ih x (Bi hx) g s
   have E:=Zs hx
   have G:=Vr l (j+1)
   simp only [Aj (by omega:(j:Int)<(l.length:Int)),cond_true,Bn rfl hx,Ad,Tv,A,J,C5 h (by omega)]
   by_cases hb:B6 x<=g
   .rw [Aj hb]
    have M:=I hb
    exact .inl ⟨_,rfl,⟨j+1,rfl,by omega,by omega,by show q=_; omega⟩,by simp; omega⟩
   .rw [Am hb]
    exact .inr ⟨.inl ((j:Int),q),rfl,by omega,by omega⟩
  .have:j=l.length:=by omega
   subst this
   rw [List.take_length] at *
   exact .inr ⟨.inr ((c:Int)-Cy l),by simp,y,rfl⟩
 .rintro (⟨i,b⟩ | v4) u
  .exact ⟨(i,b),rfl,fun h=>absurd h u.2,fun _=>u.1⟩
  .exact ⟨(-1,v4),rfl,fun _=>⟨rfl,u.2⟩,fun h=>absurd u.1 h⟩
theorem Auz:∀(left:Nat) (t:Av) (k:Nat),left<=5000->4*left+4<=k->B6 t<1099511627776->∃c:Int,Kx k t left=some (decide (B6 t<=left),c)/\(B6 t<=left->c=(left:Int)-B6 t):=by
 intro left
 induction left using Nat.strongRecOn with
 | _ left l=>
  intro t k y hk ht
  have hp:=L5 t
  have s:=Is t
  have q:=Kn t.Kids
  obtain ⟨j,rfl⟩:∃j,k=j+1:=⟨k-1,by omega⟩
  cases left with
  | zero=>
   refine ⟨-1,?_,fun h=>by omega⟩
   rw [Kx,Am (by omega:¬B6 t<=0)]
   rfl
  | succ f=>
   have x:Ac (((f+1:Nat):Int)-1)=(f:Int):=by rw [Ac,Bp] <;> omega
   obtain ⟨g,rfl⟩:∃g,j=g+3:=⟨j-3,by omega⟩
   obtain ⟨⟨i,c⟩,h1,h2,h3⟩:=Auy g t.Kids f (by omega) (by omega) (fun a ha b u=>by
    have:=Jx ha
    exact l b (by omega) a g (by omega) (by omega) (by omega))
   rw [Kx,x,Am (by omega)]
   simp only [cond_false,Tu,h1,Ad]
   by_cases hb:Cy t.Kids<=f
   .obtain ⟨a1,a2⟩:=h2 hb
    simp only at a1 a2
    refine ⟨c,?_,fun _=>by omega⟩
    rw [Am (by omega),Aj (by omega)]; rfl
   .have a1:=h3 hb
    simp only at a1
    refine ⟨c,?_,fun h=>by omega⟩
    rw [Aj (by omega),Am (by omega)]; rfl
theorem Au0:∀(left:Nat) (t:Av) (k:Nat),left<=5000->left+1<=k->B6 t<1099511627776->∃f:Int,Mu k t left=some (decide (B6 t<=left),f)/\(B6 t<=left->f=(left:Int)-B6 t):=by
 intro left
 induction left using Nat.strongRecOn with
 | _ left s=>
  intro t k hl hk ht
  have hp:=L5 t
  have V:=Is t
  have G:=Kn t.Kids
  obtain ⟨k,rfl⟩:∃N,k=N+1:=⟨k-1,by omega⟩
  cases left with
  | zero=>
   refine ⟨-1,?_,fun h=>by omega⟩
   rw [Mu,Am (by omega:¬B6 t<=0)]
   rfl
  | succ c=>
   have e0:Ac (((c+1:Nat):Int)-1)=(c:Int):=by rw [Ac,Bp] <;> omega
   rw [Mu,e0,Am (by omega)]
   simp only [cond_false]
   have key:∃p:Bool×Int,((Ak (S:=(Int×Int)) (E:=((Bool×Int)⊕Int)) (fun (v4,v5)=>
     bif (decide (v4<(t.Kids.length:Int))) then (
     (Ae t.Kids v4).bind fun I=>
     (Mu k I v5).bind fun l=>
     bif (!l.1) then some (.inr (.inl (false,l.2)))
     else some (.inl ((Ac (v4+1)),l.2)))
     else some (.inr (.inr v5))) (0,(c:Int))).bind fun z=>
     match z with
     | .inl (L,J)=>some (L,J)
     | .inr q=>some (true,q))=some p/\p.1=decide (B6 t<=c+1)/\(B6 t<=c+1->p.2=(c:Int)-Cy t.Kids):=by
    refine D3 (fun (v4,v5)=>∃j:Nat,v4=j/\j<=t.Kids.length/\Cy (t.Kids.take j)<=c/\v5=(c:Int)-Cy (t.Kids.take j)) (fun (v4,_)=>t.Kids.length-v4.toNat)
     (fun z=>match z with | .inl (b,_)=>b=false/\¬B6 t<=c+1 | .inr v5=>B6 t<=c+1/\v5=(c:Int)-Cy t.Kids) ⟨0,rfl,by omega,by simp [Cy],by simp [Cy]⟩ ?_ ?_
    .rintro ⟨v4,v5⟩ ⟨j,rfl,hj,X,y⟩
     have y:v5=_:=y
     subst y
     rcases Nat.lt_or_ge j t.Kids.length with h | h
     .have hx:t.Kids[j]? = some t.Kids[j]:=Bj h
      generalize t.Kids[j]=x at hx
      obtain ⟨g,u,D⟩:∃g:Nat,(c:Int)-Cy (t.Kids.take j)=g/\g<=c:=⟨c-Cy (t.Kids.take j),by omega,by omega⟩
      obtain ⟨f,Z,Y⟩:=s g (by omega) x k (by omega) (by omega) (by have:=Jx (Bi hx); omega)
      have R:=Zs hx
      have U:=Vr t.Kids (j+1)
      simp only [Aj (by omega:(j:Int)<(t.Kids.length:Int)),cond_true,Bn rfl hx,Ad,u,Z,C5 h (by omega)]
      by_cases hb:B6 x<=g
      .rw [Aj hb]
       have e3:=Y hb
       exact .inl ⟨_,rfl,⟨j+1,rfl,by omega,by omega,by show f=_; omega⟩,by simp; omega⟩
      .rw [Am hb]
       exact .inr ⟨.inl (false,f),rfl,rfl,by omega⟩
     .have:j=t.Kids.length:=by omega
      subst this
      rw [List.take_length] at *
      exact .inr ⟨.inr ((c:Int)-Cy t.Kids),by simp,by omega,rfl⟩
    .rintro (⟨b,v⟩ | v) i
     .exact ⟨(b,v),rfl,by rw [i.1,Am i.2],fun h=>absurd h i.2⟩
     .exact ⟨(true,v),rfl,by rw [Aj i.1],fun _=>i.2⟩
   obtain ⟨⟨b,f⟩,M,B,A⟩:=key
   simp only at B A
   subst B
   exact ⟨f,M,fun h=>by have:=A h; omega⟩
mutual
def Ec (data:List Al):Av->Ag->Bool
 | ⟨k,n,kids⟩,t=>
  if t.Kind=1 then k==3&&decide (-1099511627776<=n)&&decide (n<=1099511627776)&&kids.length==0
  else if t.Kind=2 then k==2&&(n==0||n==1)&&kids.length==0
  else if t.Kind=3 then k==1&&n==0&&kids.length==0
  else if t.Kind=6 then k==4&&n==0&&He data kids t.Args
  else if t.Kind=5 then k==5&&decide (0<=n)&&decide (n<8)&&(match Fx data t n with | some l=>He data kids l | none=>false)
  else if t.Kind=7 then k==6&&n==0&&decide (kids.length<=4096)&&(match t.Args with | u::_=>L6 data kids u | []=>false)
  else if t.Kind=8 then k==7&&n==0&&He data kids t.Args
  else k==8&&decide (0<=n)&&decide (n<64)&&kids.length==0
def He (data:List Al):List Av->List Ag->Bool
 | [],[]=>true
 | x::xs,t::ts=>Ec data x t&&He data xs ts
 | [],_::_=>false
 | _::_,[]=>false
def L6 (data:List Al):List Av->Ag->Bool
 | [],_=>true
 | x::xs,t=>Ec data x t&&L6 data xs t
end
theorem Sm (data:List Al) (v:Av) (t:Ag):Ec data v t =
  if t.Kind=1 then v.Kind==3&&decide (-1099511627776<=v.Num)&&decide (v.Num<=1099511627776)&&v.Kids.length==0
  else if t.Kind=2 then v.Kind==2&&(v.Num==0||v.Num==1)&&v.Kids.length==0
  else if t.Kind=3 then v.Kind==1&&v.Num==0&&v.Kids.length==0
  else if t.Kind=6 then v.Kind==4&&v.Num==0&&He data v.Kids t.Args
  else if t.Kind=5 then v.Kind==5&&decide (0<=v.Num)&&decide (v.Num<8)&&(match Fx data t v.Num with | some l=>He data v.Kids l | none=>false)
  else if t.Kind=7 then v.Kind==6&&v.Num==0&&decide (v.Kids.length<=4096)&&(match t.Args with | u::_=>L6 data v.Kids u | []=>false)
  else if t.Kind=8 then v.Kind==7&&v.Num==0&&He data v.Kids t.Args
  else v.Kind==8&&decide (0<=v.Num)&&decide (v.Num<64)&&v.Kids.length==0:=by cases v; simp only [Ec]
theorem Akx (data:List Al) (l:List Av) (t:Ag):L6 data l t=l.all (Ec data · t):=by
 induction l with
 | nil=>rfl
 | cons x xs ih=>simp only [L6,ih,List.all_cons]
theorem Ps (data:List Al):∀(l:List Av) (b:List Ag),l.length≠b.length->He data l b=false
 | [],[],h=>absurd rfl h
 | x::xs,t::b,h=>by simp only [He,Ps data xs b (by simpa using h),Bool.and_false]
 | [],_::_,_=>by simp only [He]
 | _::_,[],_=>by simp only [He]
theorem Sn (data:List Al):∀(l:List Av) (b:List Ag),l.length=b.length->He data l b=(l.zip b).all (fun q=>Ec data q.1 q.2)
 | [],[],_=>rfl
 | x::xs,t::b,h=>by simp only [He,List.zip_cons_cons,List.all_cons,Sn data xs b (by simpa using h)]
 | [],_::_,h=>by simp at h
 | _::_,[],h=>by simp at h
mutual
theorem Aea (data:List Al) (d:Nat) (v:Int):∀t,Cs (data.take d) v t=true->Cs data v t=true
 | ⟨k,n,l⟩,h=>by
  simp only [Cs,Ce] at h ⊢
  refine ⟨?_,Aky data d v l h.2⟩
  have h1:=h.1
  unfold Hj at h1 ⊢
  by_cases hk:k=5
  .subst hk
   simp only [List.getElem?_take] at h1 ⊢
   by_cases hd:n.toNat<d
   .simpa [hd] using h1
   .simp [hd] at h1
  .simp only [hk,if_false] at h1 ⊢
   exact h1
theorem Aky (data:List Al) (d:Nat) (v:Int):∀l,Db (data.take d) v l=true->Db data v l=true
 | [],_=>rfl
 | x::xs,h=>by
  simp only [Db,Ce] at h ⊢
  exact ⟨Aea data d v x h.1,Aky data d v xs h.2⟩
end
mutual
theorem Akz (data:List Al) (v:Int) (σ:List Ag) (hσ:∀s∈σ,Cs data 0 s=true) (hv:(σ.length:Int)=v):∀t,Cs data v t=true->Cs data 0 (Ch σ t)=true
 | ⟨k,n,l⟩,h=>by
  simp only [Cs,Ce] at h
  cases hV:isV σ k n with
  | true=>
   obtain ⟨s,h1,_,h3⟩:=Vj hV
   rw [Sc (t:=⟨k,n,l⟩) hV h1]
   exact hσ s h3
  | false=>
   rw [Vk (t:=⟨k,n,l⟩) hV,<-Adv]
   simp only [Cs,Ce]
   refine ⟨?_,Ak0 data v σ hσ hv l h.2⟩
   rw [Adv,List.length_map]
   have h1:=h.1
   unfold Hj at h1 ⊢
   by_cases hk:k=4
   .exfalso
    subst hk
    simp at h1
    unfold isV at hV
    rw [Aj h1.1.1,Aj (by omega)] at hV
    cases hV
   .simp only [hk,if_false] at h1 ⊢
    exact h1
theorem Ak0 (data:List Al) (v:Int) (σ:List Ag) (hσ:∀s∈σ,Cs data 0 s=true) (hv:(σ.length:Int)=v):∀l,Db data v l=true->Db data 0 (Kh σ l)=true
 | [],_=>rfl
 | x::xs,h=>by
  simp only [Db,Ce] at h
  simp only [Kh,Db,Ce]
  exact ⟨Akz data v σ hσ hv x h.1,Ak0 data v σ hσ hv xs h.2⟩
end
theorem Aeb {data:List Al} {t:Ag} (h:Cs data 0 t=true):∀a∈t.Args,Cs data 0 a=true:=by
 rw [R9,Ce,Ajl,List.all_eq_true] at h
 exact h.2
theorem Ak1 {data:List Al} (k:F3 data) {t:Ag} (ht:Cs data 0 t=true) {c:Int} {l:List Ag} (h:Fx data t c=some l):∀a∈l,Cs data 0 a=true/\A2 a<=200:=by
 obtain ⟨x,y,hk,hx,g,hy,rfl,f⟩:=Lb h
 intro a ha
 refine ⟨?_,f a ha⟩
 obtain ⟨b,hb,rfl⟩:=List.mem_map.1 ha
 obtain ⟨i0,_,j,_⟩:=De hx
 have h1:=k.2.1 t.Num.toNat x j
 obtain ⟨_,_,q⟩:=h1.2.2.2.2.2 y (De hy).2.2.2
 have i:=List.all_eq_true.1 q b hb
 refine Akz data x.Vars t.Args (Aeb ht) g b ?_
 unfold Hk at i
 rw [Bool.or_eq_true] at i
 rcases i with h' | h'
 .exact Aea data _ _ b (Adq j h1.2.1 h').1
 .rw [Ce] at h'
  exact Aea data _ _ b h'.1
theorem Ak2 {data:List Al} {t:Ag} (h:Cs data 0 t=true):(t.Kind=1\/t.Kind=2\/t.Kind=3\/t.Kind=5\/t.Kind=6\/t.Kind=7\/t.Kind=8\/t.Kind=9)/\(t.Kind=7->t.Args.length=1)/\(t.Kind=8->t.Args.length=1):=by
 rw [R9,Ce] at h
 have h1:=h.1
 unfold Hj at h1
 by_cases q:t.Kind=1
 .simp [q]
 by_cases l:t.Kind=2
 .simp [l]
 by_cases k:t.Kind=3
 .simp [k]
 by_cases j:t.Kind=4
 .exfalso; simp [j] at h1; omega
 by_cases i:t.Kind=5
 .simp [i]
 by_cases g:t.Kind=6
 .simp [g]
 by_cases f:t.Kind=7
 .simp [f] at h1 ⊢; exact h1.2
 by_cases c:t.Kind=8
 .simp [c] at h1 ⊢; exact h1.2
 by_cases b:t.Kind=9
 .simp [b]
 .simp [q,l,k,j,i,g,f,c,b] at h1
end Go.Ab
namespace Go.Ab
open Go
theorem Nu {α:Type} (l:List α):((l.length:Int)==(0:Int))=(l.length==0):=Ado l 0
def Pt {α β:Type} (m:List β) (p:α×β->Bool) (q:α×Nat):Bool:=match m[q.2]? with | some y=>p (q.1,y) | none=>false
theorem Ak3 {α β:Type} (l:List α) (m:List β) (p:α×β->Bool) (h:l.length=m.length):(l.zip m).all p=l.zipIdx.all (Pt m p):=by
 rw [Bool.eq_iff_iff]
 constructor
 .intro ha
  refine U3 fun j x hx=>?_
  have hj:=Dh hx
  have hy:m[j]? = some m[j]:=Bj (by omega)
  simp only [Pt,hy]
  refine List.all_eq_true.1 ha _ (Bi (i:=j) ?_)
  rw [List.getElem?_zip_eq_some]; exact ⟨hx,hy⟩
 .intro ha
  rw [List.all_eq_true]
  rintro ⟨x,y⟩ hq
  obtain ⟨j,hj⟩:=List.getElem?_of_mem hq
  rw [List.getElem?_zip_eq_some] at hj
  have:=G0 ha hj.1
  simp only [Pt,hj.2] at this
  exact this
theorem Au1 {data:List Al} (Y:F3 data):∀(n:Nat) (v:Av) (t:Ag) (k:Nat),B6 v<=n->4*n<=k->n<=5000->Cs data 0 t=true->A2 t<=200->Mt k data v t=some (Ec data v t):=by
 intro n
 induction n with
 | zero=>intro v t k h; have:=L5 v; omega
 | succ n ih=>
  intro v t k h hk hn ht E
  have a1:=Is v
  have a6:=Kn v.Kids
  obtain ⟨k,rfl⟩:∃k',k=k' + 4:=⟨k-4,by omega⟩
  obtain ⟨kd,k7,k8⟩:=Ak2 ht
  have f:∀g:List Ag,(∀a∈g,Cs data 0 a=true/\A2 a<=200)->M0 (k+3) data v.Kids g=some (He data v.Kids g):=by
   intro g U
   rw [M0,T9]
   by_cases X:v.Kids.length=g.length
   .rw [B4 (by omega),Sn data _ _ X,Ak3 _ _ _ X]
    simp only [cond_false]
    have key:=K8 v.Kids (Pt g (fun q=>Ec data q.1 q.2)) (fun j=>(j:Int)) (s0:=(0:Int)) rfl (by omega) (rt:=true) (rf:=false) (J:=fun z:Bool⊕Unit=>match z with | .inl S=>some S | .inr _=>some true)
     (step:=fun G=>bif (decide (G<(v.Kids.length:Int))) then ((Ae v.Kids G).bind fun Z=>(Ae g G).bind fun v9=>(Ri (k+1) Z v9 data).bind fun v11=>bif (!v11) then some (.inr (.inl false)) else some (.inl (Ac (G+1)))) else some (.inr (.inr ()))) (by
      intro j x hx _ h1 h2 h3
      have hy:g[j]? = some (g[j]'(by have:=Dh hx; omega)):=Bj (by have:=Dh hx; omega)
      generalize g[j]'(by have:=Dh hx; omega)=y at hy
      have A:=U y (Bi hy)
      have hxm:=Jx (Bi hx)
      simp only [h1,h2,h3,cond_true,Ad,Bn rfl hy,Pt,hy,Ri,ih x y k (by omega) (by omega) (by omega) A.1 A.2]
      cases Ec data x y with
      | true=>exact ⟨fun _=>rfl,fun h=>by cases h⟩
      | false=>exact ⟨(fun h=>by cases h),fun _=>⟨.inl false,rfl,rfl⟩⟩) (by intro h _; exact ⟨.inr (),by simp only [h]; rfl,rfl⟩)
    rw [Jr] at key
    exact congrArg (fun q=>Option.bind q some) key
   .rw [Ca (by omega),Ps data _ _ X]; rfl
  have b:∀a∈t.Args,Cs data 0 a=true/\A2 a<=200:=fun a ha=>⟨Aeb ht a ha,by have:=F1 ha; have:=Fw t; omega⟩
  rw [Mt,Sm]
  by_cases R:t.Kind=1
  .rw [B0 R,if_pos R,Nu]
   cases (v.Kind==3) <;> cases decide (-1099511627776<=v.Num) <;> cases decide (v.Num<=1099511627776) <;> rfl
  rw [Bg R,if_neg R]
  by_cases N:t.Kind=2
  .rw [B0 N,if_pos N,Nu]
   cases (v.Kind==2) <;> cases (v.Num==0) <;> cases (v.Num==1) <;> rfl
  rw [Bg N,if_neg N]
  by_cases M:t.Kind=3
  .rw [B0 M,if_pos M,Nu]
   cases (v.Kind==1) <;> cases (v.Num==0) <;> rfl
  rw [Bg M,if_neg M]
  by_cases I:t.Kind=6
  .rw [B0 I,if_pos I,f t.Args b]
   cases (v.Kind==4) <;> cases (v.Num==0) <;> rfl
  rw [Bg I,if_neg I]
  by_cases L:t.Kind=5
  .rw [B0 L,if_pos L,Atr Y.szv t E]
   simp only [cond_false,cond_true]
   by_cases g1:v.Kind=5
   .rw [B4 g1,B0 g1]
    by_cases g2:v.Num<0
    .rw [Aj g2,Am (by omega:¬0<=v.Num)]; rfl
    .by_cases g3:v.Num>=8
     .rw [Am g2,Aj g3,Am (by omega:¬v.Num<8)]
      simp
     .rw [Am g2,Am g3,Aj (by omega:0<=v.Num),Aj (by omega:v.Num<8)]
      simp only [cond_false,Ad,Bool.true_and]
      cases hf:Fx data t v.Num with
      | none=>rfl
      | some l=>
       simp only [okL,cond_true]
       rw [f l (Ak1 Y ht hf)]; rfl
   .rw [Ca g1,Bg g1]; rfl
  rw [Bg L,if_neg L]
  by_cases c:t.Kind=7
  .rw [B0 c,if_pos c,show decide ((v.Kids.length:Int)<=4096)=decide (v.Kids.length<=4096) by congr 1; simp only [eq_iff_iff]; omega]
   have V:=k7 c
   match B:t.Args,V with
   | [u],_=>
    have hu:=b u (by rw [B]; simp)
    have D:Uz (k+3) v.Kids data t=some (!L6 data v.Kids u):=by
     rw [Uz,Yd,Akx]
     have key:=Ada v.Kids (fun x=>!Ec data x u) (by omega) (J:=fun z=>match z with | .inl r6=>some r6 | .inr _=>some (-1)) (step:=fun v3=>bif (decide (v3<(v.Kids.length:Int))) then ((Ae v.Kids v3).bind fun v4=>(Q3 (k+1) v4 data t).bind fun v5=>bif v5 then some (.inr (.inl v3)) else some (.inl (Ac (v3+1)))) else some (.inr (.inr ()))) (by
      intro j x hx h1 h2 h3
      have hxm:=Jx hx
      have hi:Ae t.Args 0=some u:=by rw [B]; rfl
      simp only [h1,h2,h3,cond_true,Ad,Q3,hi,ih x u k (by omega) (by omega) (by omega) hu.1 hu.2]) (fun h=>by simp only [h]; rfl) (fun _=>rfl) rfl
     obtain ⟨i,i1,i2⟩:=key
     erw [i1]
     simp only [Ad,i2]
     rw [List.any_eq_not_all_not]; simp
    simp only [cond_false,cond_true,D,Ad]
    cases (v.Kind==6) <;> cases (v.Num==0) <;> cases decide (v.Kids.length<=4096) <;> cases L6 data v.Kids u <;> rfl
  rw [Bg c,if_neg c]
  by_cases s:t.Kind=8
  .rw [B0 s,if_pos s,f t.Args b]
   cases (v.Kind==7) <;> cases (v.Num==0) <;> rfl
  rw [Bg s,if_neg s]
  have k9:t.Kind=9:=by omega
  rw [B0 k9,Nu]
  cases (v.Kind==8) <;> cases decide (0<=v.Num) <;> cases decide (v.Num<64) <;> rfl
theorem Au2 {data:List Al} (hv:F3 data):∀(n:Nat) (v:Av) (t:Ag) (k:Nat),B6 v<=n->2*n<=k->n<=5000->Cs data 0 t=true->A2 t<=200->Mv k data v t=some (Ec data v t):=by
 intro n
 induction n with
 | zero=>intro v t k h; have:=L5 v; omega
 | succ n ih=>
  intro v t k h hk hn ht G
  have a6:=Is v
  have a7:=Kn v.Kids
  obtain ⟨k,rfl⟩:∃k',k=k' + 2:=⟨k-2,by omega⟩
  obtain ⟨kd,k7,k8⟩:=Ak2 ht
  have A:∀i:List Ag,(∀a∈i,Cs data 0 a=true/\A2 a<=200)->Tx (k+1) data v.Kids i=some (He data v.Kids i):=by
   intro i a1
   rw [Tx]
   by_cases hl:v.Kids.length=i.length
   .rw [B4 (by omega),Sn data _ _ hl,Ak3 _ _ _ hl]
    simp only [cond_false]
    have key:=K8 v.Kids (Pt i (fun q=>Ec data q.1 q.2)) (fun j=>(j:Int)) (s0:=(0:Int)) rfl (by omega) (rt:=true) (rf:=false) (J:=fun z:Bool⊕Unit=>match z with | .inl Z=>some Z | .inr _=>some true)
     (step:=fun v4=>bif (decide (v4<(v.Kids.length:Int))) then ((Ae v.Kids v4).bind fun v5=>(Ae i v4).bind fun v6=>(Mv k data v5 v6).bind fun v7=>bif (!v7) then some (.inr (.inl false)) else some (.inl (Ac (v4+1)))) else some (.inr (.inr ()))) (by
      intro j x hx _ h1 h2 h3
      have hy:i[j]? = some (i[j]'(by have:=Dh hx; omega)):=Bj (by have:=Dh hx; omega)
      generalize i[j]'(by have:=Dh hx; omega)=y at hy
      have D:=a1 y (Bi hy)
      have hxm:=Jx (Bi hx)
      simp only [h1,h2,h3,cond_true,Ad,Bn rfl hy,Pt,hy,ih x y k (by omega) (by omega) (by omega) D.1 D.2]
      cases Ec data x y with
      | true=>exact ⟨fun _=>rfl,fun h=>by cases h⟩
      | false=>exact ⟨(fun h=>by cases h),fun _=>⟨.inl false,rfl,rfl⟩⟩) (by intro h _; exact ⟨.inr (),by simp only [h]; rfl,rfl⟩)
    rw [Jr] at key
    exact key
   .rw [Ca (by omega),Ps data _ _ hl]; rfl
  have g:∀a∈t.Args,Cs data 0 a=true/\A2 a<=200:=fun a ha=>⟨Aeb ht a ha,by have:=F1 ha; have:=Fw t; omega⟩
  have s:∀u,t.Args = [u]->(Ak (S:=Int) (E:=(Bool⊕Unit)) (fun v12=>bif (decide (v12<(v.Kids.length:Int))) then ((Ae v.Kids v12).bind fun X=>(Ae t.Args 0).bind fun V=>(Mv (k+1) data X V).bind fun U=>bif (!U) then some (.inr (.inl false)) else some (.inl (Ac (v12+1)))) else some (.inr (.inr ()))) 0).bind (fun z=>match z with | .inl Y=>some Y | .inr _=>some true)=some (L6 data v.Kids u):=by
   intro u b
   have hu:=g u (by rw [b]; simp)
   rw [Akx]
   refine (Jq v.Kids (Ec data · u) (fun j=>(j:Int)) rfl (by omega) (rt:=true) (rf:=false) ?_ ?_).trans (by rw [Jr])
   .intro j x hx h1 h2 h3
    have hxm:=Jx (Bi hx)
    have hi:Ae t.Args 0=some u:=by rw [b]; rfl
    simp only [h1,h2,h3,cond_true,Ad,hi,ih x u (k+1) (by omega) (by omega) (by omega) hu.1 hu.2]
    cases Ec data x u with
    | true=>exact ⟨fun _=>rfl,fun h=>by cases h⟩
    | false=>exact ⟨(fun h=>by cases h),fun _=>⟨.inl false,rfl,rfl⟩⟩
   .intro h; exact ⟨.inr (),by simp only [h]; rfl,rfl⟩
  rw [Mv,Sm]
  by_cases M:t.Kind=3
  .rw [B0 M,if_neg (by omega),if_neg (by omega),if_pos M,Nu]
   cases (v.Kind==1) <;> cases (v.Num==0) <;> rfl
  rw [Bg M]
  by_cases N:t.Kind=2
  .rw [B0 N,if_neg (by omega),if_pos N,Nu]
   cases (v.Kind==2) <;> cases (v.Num==0) <;> cases (v.Num==1) <;> rfl
  rw [Bg N]
  by_cases R:t.Kind=1
  .rw [B0 R,if_pos R,Nu]
   rw [show decide (v.Num>=-1099511627776)=decide (-1099511627776<=v.Num) from rfl]
   cases (v.Kind==3) <;> cases decide (-1099511627776<=v.Num) <;> cases decide (v.Num<=1099511627776) <;> rfl
  rw [Bg R,if_neg R,if_neg N,if_neg M]
  by_cases I:t.Kind=6
  .rw [B0 I,if_pos I,A t.Args g]
   cases (v.Kind==4) <;> cases (v.Num==0) <;> rfl
  rw [Bg I,if_neg I]
  by_cases L:t.Kind=5
  .rw [B0 L,if_pos L,Ats hv.szv t G]
   simp only [cond_false,cond_true]
   by_cases g1:v.Kind=5
   .rw [B4 g1,B0 g1]
    by_cases g2:v.Num<0
    .rw [Aj g2,Am (by omega:¬0<=v.Num)]; rfl
    .by_cases g3:v.Num>=8
     .rw [Am g2,Aj g3,Am (by omega:¬v.Num<8)]
      simp
     .rw [Am g2,Am g3,Aj (by omega:0<=v.Num),Aj (by omega:v.Num<8)]
      simp only [cond_false,Ad,Bool.true_and]
      cases hf:Fx data t v.Num with
      | none=>rfl
      | some l=>
       simp only [okL,cond_true]
       rw [A l (Ak1 hv ht hf)]; rfl
   .rw [Ca g1,Bg g1]; rfl
  rw [Bg L,if_neg L]
  by_cases f:t.Kind=7
  .have B:=k7 f
   rw [B0 f,if_pos f,Bg (by omega:t.Kind≠8)]
   match b:t.Args,B with
   | [u],_=>
    have:=s u b
    rw [b] at this
    simp only [cond_false,cond_true,Ad]
    by_cases g1:v.Kind=6
    .by_cases g2:(v.Kids.length:Int)>4096
     .rw [B4 g1,B0 g1,Aj g2,Am (by omega:¬v.Kids.length<=4096)]
      simp
     .by_cases g3:v.Num=0
      .rw [B4 g1,B0 g1,Am g2,Aj (by omega:v.Kids.length<=4096),B4 g3,B0 g3]
       simp only [cond_false,Ad,Bool.true_and]
       exact this
      .rw [B4 g1,B0 g1,Am g2,Aj (by omega:v.Kids.length<=4096),Ca g3,Bg g3]
       simp
    .rw [Ca g1,Bg g1]
     simp
  rw [Bg f,if_neg f]
  by_cases c:t.Kind=8
  .have B:=k8 c
   rw [B0 c,if_pos c]
   match b:t.Args,B with
   | [u],_=>
    have:=s u b
    rw [b] at this
    simp only [cond_false,cond_true,Ad]
    by_cases g1:v.Kind=7
    .by_cases g2:v.Kids.length=1
     .by_cases g3:v.Num=0
      .rw [B4 g1,B0 g1,B4 (by omega:(v.Kids.length:Int)=1),B4 g3,B0 g3]
       simp only [cond_false,Ad,Bool.true_and]
       refine Eq.trans this ?_
       match hk:v.Kids,g2 with
       | [w],_=>simp [L6,He]
      .rw [B4 g1,B0 g1,B4 (by omega:(v.Kids.length:Int)=1),Ca g3,Bg g3]
       simp
     .rw [B4 g1,B0 g1,Ca (by omega:(v.Kids.length:Int)≠1),Ps data v.Kids [u] (by simpa using g2)]
      simp
    .rw [Ca g1,Bg g1]
     simp
  rw [Bg c,if_neg c,Nu]
  rw [show decide (v.Num>=0)=decide (0<=v.Num) from rfl]
  cases (v.Kind==8) <;> cases decide (0<=v.Num) <;> cases decide (v.Num<64) <;> rfl
def Hf (data:List Al) (v:Av) (t:Ag):Bool:=Em data t&&decide (B6 v<=5000)&&Ec data v t
theorem Zt {data:List Al} (s:DSz data) (v:Av) (t:Ag) (g:B6 v<1099511627776) (ht:A2 t<=1048576):∃b,Ka data v t=some b/\Th data v t=some b/\(b=true↔F3 data/\Hf data v t=true):=by
 obtain ⟨b,b1,b2⟩:=Vi s
 obtain ⟨c,y,x⟩:=Y6 s
 have k:b=c:=by
  rw [Bool.eq_iff_iff,b2,x]
 subst k
 unfold Ka Xl Th Hf
 rw [b1,y,Nn data t 0 (by omega),Sa data t 0 (by omega)]
 simp only [Ad]
 rw [show (Cs data 0 t&&decide (A2 t<=200))=Em data t from rfl]
 cases b with
 | false=>exact ⟨false,rfl,rfl,by simp; intro h; have:=b2.2 h; cases this⟩
 | true=>
  have j:=b2.1 rfl
  cases u:Em data t with
  | false=>exact ⟨false,rfl,rfl,by simp⟩
  | true=>
   obtain ⟨A,q,_⟩:=Auz 5000 v 4000000 (by omega) (by omega) g
   obtain ⟨z,l,_⟩:=Au0 5000 v 4000000 (by omega) (by omega) g
   have q:Kx 4000000 v 5000=_:=q
   have l:Mu 4000000 v 5000=_:=l
   simp only [cond_true,Ad,q,l]
   by_cases i:B6 v<=5000
   .have f:=u
    simp only [Em,Ce,decide_eq_true_eq] at f
    rw [Aj i]
    simp only [cond_true,Au1 j 5000 v t 4000000 i (by omega) (by omega) f.1 f.2,Au2 j 5000 v t 4000000 i (by omega) (by omega) f.1 f.2,Ad]
    exact ⟨_,rfl,rfl,by simp [j]⟩
   .rw [Am i]
    exact ⟨false,rfl,rfl,by simp⟩
end Go.Ab
namespace Go.Ab
open Go
mutual
def Gi (data:List Al) (d:Int):Av->List Av
 | ⟨k,n,kids⟩=>⟨k,n,kids⟩::Fa data d kids (C8 data d n)
def Fa (data:List Al) (d:Int):List Av->List Bool->List Av
 | x::xs,b::bs=>(bif b then Gi data d x else [])++Fa data d xs bs
 | [],_=>[]
 | _::_,[]=>[]
end
theorem Zu (data:List Al) (d:Int) (v:Av):Gi data d v=v::Fa data d v.Kids (C8 data d v.Num):=by cases v; simp only [Gi]
mutual
theorem Vs (data:List Al) (d:Int):∀v,(Gi data d v).length<=B6 v
 | ⟨k,n,kids⟩=>by
  have:=Vt data d kids (C8 data d n)
  simp only [Gi,B6,List.length_cons]; omega
theorem Vt (data:List Al) (d:Int):∀l r,(Fa data d l r).length<=Cy l
 | x::xs,b::bs=>by
  have h1:=Vs data d x
  have h2:=Vt data d xs bs
  cases b <;> simp only [Fa,Cy,List.length_append,cond_true,cond_false,List.length_nil] <;> omega
 | [],_=>by simp [Fa]
 | _::_,[]=>by simp [Fa]
end
theorem Zv (data:List Al) (d:Int):∀(l:List Av) (r:List Bool) (x:Av) (b:Bool),l.length=r.length->Fa data d (l++[x]) (r++[b])=Fa data d l r++(bif b then Gi data d x else [])
 | [],[],x,b,_=>by simp [Fa]
 | y::ys,c::cs,x,b,h=>by
  simp only [List.cons_append,Fa,Zv data d ys cs x b (by simpa using h),List.append_assoc]
 | [],_::_,_,_,h=>by simp at h
 | _::_,[],_,_,h=>by simp at h
theorem Au3 {a:Ag} {d vars:Int} {σ:List Ag} (h:Gc a d vars=true) (i:(σ.length:Int)=vars):Ch σ a=⟨5,d,σ⟩:=by
 unfold Gc at h
 simp only [Ce,beq_iff_eq] at h
 obtain ⟨⟨⟨h1,h2⟩,h3⟩,g⟩:=h
 have f:isV σ a.Kind a.Num=false:=by unfold isV; rw [h1]; rfl
 rw [Vk f,h1,h2]
 congr 1
 apply List.ext_getElem?
 intro j
 rw [List.getElem?_map]
 cases hx:a.Args[j]? with
 | none=>
  rw [List.getElem?_eq_none_iff] at hx
  rw [List.getElem?_eq_none (by omega)]; rfl
 | some x=>
  have hj:=Dh hx
  have:=G0 g hx
  simp only [K9,Ce,beq_iff_eq] at this
  have c:σ[j]? = some (σ[j]'(by omega)):=Bj (by omega)
  generalize σ[j]'(by omega)=s at c
  have b:isV σ x.Kind x.Num=true:=by
   unfold isV
   rw [this.1.1,this.1.2,Aj (by omega),Aj (by omega)]; rfl
  rw [c,Option.map_some,Sc b (by rw [this.1.2]; exact c)]
theorem So {data:List Al} {v:Av} {t:Ag} (hk:t.Kind=5) (h:Ec data v t=true) :
  ∃x,Ae data t.Num=some x/\0<=v.Num/\v.Num<x.Cons.length/\(C8 data t.Num v.Num).length=v.Kids.length/\∀(j:Nat) (w:Av),v.Kids[j]? = some w->(C8 data t.Num v.Num)[j]? = some true->Ec data w t=true:=by
 rw [Sm,if_neg (by omega),if_neg (by omega),if_neg (by omega),if_neg (by omega),if_pos hk] at h
 cases hf:Fx data t v.Num with
 | none=>rw [hf] at h; simp at h
 | some l=>
  rw [hf] at h
  simp only [Ce] at h
  have b:=h.2
  have c:v.Kids.length=l.length:=by
   by_cases q:v.Kids.length=l.length
   .exact q
   .rw [Ps data _ _ q] at b; cases b
  have D:=Pl hf
  obtain ⟨x,y,_,hx,s,hy,q,_⟩:=Lb hf
  obtain ⟨B,A,_,_⟩:=De hy
  refine ⟨x,hx,B,A,by omega,fun j w hw z=>?_⟩
  rw [Sn data _ _ c] at b
  have hj:=Dh hw
  have g:l[j]? = some (l[j]'(by omega)):=Bj (by omega)
  have hh:=List.all_eq_true.1 b (w,l[j]'(by omega)) (Bi (i:=j) (by rw [List.getElem?_zip_eq_some]; exact ⟨hw,g⟩))
  simp only at hh
  have ha:y.Args[j]? = some (y.Args[j]'(by rw [q] at c; simp at c; omega)):=Bj _
  generalize y.Args[j]'_=a at ha
  have u:(C8 data t.Num v.Num)[j]? = some (Gc a t.Num x.Vars):=by
   unfold C8; simp only [hx,hy,List.getElem?_map,ha,Option.map_some]
  rw [u] at z
  have f:=Option.some.inj z
  have k:l[j]? = some (Ch t.Args a):=by rw [q,List.getElem?_map,ha]; rfl
  rw [k] at g
  rw [<-Option.some.inj g,Au3 f s] at hh
  have:(Ag.mk 5 t.Num t.Args)=t:=by cases t; simp only at hk; rw [hk]
  rw [this] at hh; exact hh
theorem Au4 {data:List Al} (A:G1 data) {t:Ag} (hk:t.Kind=5):∀(n:Nat) (v:Av) (k:Nat) (b:List Av),B6 v<=n->n<=k->n<=1048576->b.length+B6 v<=1048576->Ec data v t=true->Ye k data v t.Num b=some (b++Gi data t.Num v):=by
 intro n
 induction n with
 | zero=>intro v k b h; have:=L5 v; omega
 | succ n ih=>
  intro v k b h B I hb D
  obtain ⟨k,rfl⟩:∃l,k=l+1:=⟨k-1,by omega⟩
  have s:=Is v
  have u:=Kn v.Kids
  obtain ⟨x,hx,G,E,i,f⟩:=So hk D
  rw [Ye,C4 (by simp; omega),Ad,Adp data t.Num v.Num A,Ad,Zu]
  generalize J:C8 data t.Num v.Num=R at *
  have g:∀j,(Fa data t.Num (v.Kids.take j) (R.take j)).length<=Cy (v.Kids.take j):=fun j=>Vt _ _ _ _
  refine E2 R (fun j=>((j:Int),b++[v]++Fa data t.Num (v.Kids.take j) (R.take j))) (by simp [Fa]) (by omega) ?_ ?_
  .intro j c hj hc h1 h2 h3
   have hw:v.Kids[j]? = some (v.Kids[j]'(by omega)):=Bj (by omega)
   generalize v.Kids[j]'_=w at hw
   have q:=Jx (Bi hw)
   have y:=Zs hw
   have z:=Vr v.Kids (j+1)
   have hp:=g j
   simp only [h1,h2,h3,cond_true,Ad,Bn rfl hw,Cw hw,Cw hc]
   rw [Zv _ _ _ _ _ _ (by simp; omega)]
   cases c with
   | false=>simp
   | true=>
    rw [ih w k _ (by omega) (by omega) (by omega) (by simp; omega) (f j w hw hc)]
    simp
  .intro h1
   refine ⟨b++(v::Fa data t.Num v.Kids R),?_,rfl⟩
   simp only [h1]
   rw [List.take_of_length_le (by omega:v.Kids.length<=R.length),List.take_length]; simp
theorem Au5 {data:List Al} (g:G1 data) {t:Ag} (hk:t.Kind=5) (v:Av) (z:B6 v<=5000) (s:Ec data v t=true):Xt data v t.Num=some (Gi data t.Num v):=by
 have k:=Is v
 have l:=Kn v.Kids
 obtain ⟨x,hx,y,u,h,b⟩:=So hk s
 unfold Xt
 rw [C4 (by simp),Ad,Adp data t.Num v.Num g,Ad,Zu]
 generalize A:C8 data t.Num v.Num=R at *
 have f:∀j,(Fa data t.Num (v.Kids.take j) (R.take j)).length<=Cy (v.Kids.take j):=fun j=>Vt _ _ _ _
 refine E2 R (fun j=>((j:Int),[v]++Fa data t.Num (v.Kids.take j) (R.take j))) (by simp [Fa]) (by omega) ?_ ?_
 .intro j c hj hc h1 h2 h3
  have hw:v.Kids[j]? = some (v.Kids[j]'(by omega)):=Bj (by omega)
  generalize v.Kids[j]'_=w at hw
  have i:=Jx (Bi hw)
  have q:=Vr v.Kids j
  have hp:=f j
  simp only [h1,h2,h3,cond_true,Ad,Bn rfl hw,Cw hw,Cw hc]
  rw [Zv _ _ _ _ _ _ (by simp; omega)]
  cases c with
  | false=>simp
  | true=>
   rw [Au4 g hk 5000 w 4000000 _ (by omega) (by omega) (by omega) (by simp; omega) (b j w hw hc)]
   simp
 .intro h1
  refine ⟨(v::Fa data t.Num v.Kids R),?_,rfl⟩
  simp only [h1]
  rw [List.take_of_length_le (by omega:v.Kids.length<=R.length),List.take_length]; simp
theorem Au6 {data:List Al} {t:Ag} (hk:t.Kind=5) (B:List (List Bool)) (I:∀(x:Al),Ae data t.Num=some x->∀n:Int,0<=n->n<x.Cons.length->Ae B n=some (C8 data t.Num n)):∀(n:Nat) (v:Av) (k:Nat) (b:List Av),B6 v<=n->n<=k->n<=1048576->b.length+B6 v<=1048576->Ec data v t=true->Ow k v b B=some (b++Gi data t.Num v):=by
 intro n
 induction n with
 | zero=>intro v k b h; have:=L5 v; omega
 | succ n ih=>
  intro v k b h E J hb G
  obtain ⟨k,rfl⟩:∃s,k=s+1:=⟨k-1,by omega⟩
  have y:=Is v
  have z:=Kn v.Kids
  obtain ⟨x,hx,q,l,i,f⟩:=So hk G
  rw [Ow,C4 (by simp; omega),Ad,Ve b [] _ _ b.length rfl rfl,Ad,Vd b [] _ _ _ b.length rfl rfl,I x hx v.Num q l,Ad,Zu]
  generalize L:C8 data t.Num v.Num=R at *
  have g:∀j,(Fa data t.Num (v.Kids.take j) (R.take j)).length<=Cy (v.Kids.take j):=fun j=>Vt _ _ _ _
  refine E2 R (fun j=>((j:Int),b++[v]++Fa data t.Num (v.Kids.take j) (R.take j))) (by simp [Fa]) (by omega) ?_ ?_
  .intro j c hj hc h1 h2 h3
   have hw:v.Kids[j]? = some (v.Kids[j]'(by omega)):=Bj (by omega)
   generalize v.Kids[j]'_=w at hw
   have u:=Jx (Bi hw)
   have A:=Zs hw
   have D:=Vr v.Kids (j+1)
   have hp:=g j
   simp only [h1,h2,h3,cond_true,Ad,Bn rfl hw,Cw hw,Cw hc]
   rw [Zv _ _ _ _ _ _ (by simp; omega)]
   cases c with
   | false=>simp
   | true=>
    rw [ih w k _ (by omega) (by omega) (by omega) (by simp; omega) (f j w hw hc)]
    simp
  .intro h1
   refine ⟨b++(v::Fa data t.Num v.Kids R),?_,rfl⟩
   simp only [h1]
   rw [List.take_of_length_le (by omega:v.Kids.length<=R.length),List.take_length]; simp
theorem Ak4 {data:List Al} (l:G1 data) (q:∀x∈data,x.Cons.length<=8) {t:Ag} (hk:t.Kind=5) (v:Av) (k:B6 v<=5000) (h:Ec data v t=true):Qu data t v=some (Gi data t.Num v):=by
 obtain ⟨x,hx,z,u,g,f⟩:=So hk h
 have i:=q x (De hx).2.2.2
 unfold Qu
 rw [hx,Ad]
 refine E2 x.Cons (fun j=>((j:Int),(List.range j).map fun c:Nat=>C8 data t.Num (c:Int))) rfl (by omega) ?_ ?_
 .intro j y hj hy h1 h2 h3
  simp only [h1,h3,cond_true,Vf data t.Num (j:Int) l,Ad]
  rw [C4 (by simp; omega),Ad,List.range_succ]; simp
 .intro h1
  refine ⟨(List.range x.Cons.length).map fun c:Nat=>C8 data t.Num (c:Int),by simp,?_⟩
  rw [Au6 hk _ (fun s b n a1 a2=>?_) 5000 v 4000000 [] k (by omega) (by omega) (by simp; omega) h]
  .rfl
  .rw [hx] at b; cases b
   rw [Bn (n:=n.toNat) (by omega)]
   rw [List.getElem?_map,List.getElem?_range (by omega)]
   simp only [Option.map_some]
   rw [show ((n.toNat:Nat):Int)=n by omega]
def Nv (l:List Av) (c:Int):Int:=((l.filter fun v=>v.Num==c).length:Nat)
theorem Ak5 (l:List Av) (c:Int) (h:l.length<=1048576) {R:Type} {J:Int->Option R} {r:R} (g:J (Nv l c)=some r) :
  (Ak (S:=(Int×Int)) (E:=Int) (fun (v11,v12)=>
   bif (decide (v12<(l.length:Int))) then (
   (Ae l v12).bind fun b=>
   bif (b.Num==c) then some (.inl ((Ac (v11+1)),(Ac (v12+1))))
   else some (.inl (v11,(Ac (v12+1)))))
   else some (.inr v11)) (0,0)).bind J=some r:=by
 refine E2 l (fun j=>(Nv (l.take j) c,(j:Int))) rfl (by omega) ?_ ?_
 .intro j x hj hx h1 h2 h3
  have f:(List.filter (fun v=>v.Num==c) (l.take j)).length<=1048576:=by
   refine Nat.le_trans (List.length_filter_le _ _) ?_
   simp; omega
  simp only [h1,h2,h3,cond_true,Ad,Cw hx,Nv,List.filter_append,List.length_append]
  cases hc:(x.Num==c) with
  | true=>
   simp only [cond_true,List.filter_cons,hc,if_true,List.filter_nil,List.length_cons,List.length_nil]
   rw [show Ac (((List.filter (fun v=>v.Num==c) (l.take j)).length:Int)+1)=(((List.filter (fun v=>v.Num==c) (l.take j)).length+(0+1):Nat):Int) by rw [Ac,Bp] <;> omega]
  | false=>simp [hc]
 .intro h1
  exact ⟨Nv l c,by simp only [h1]; rw [List.take_length]; rfl,g⟩
theorem Au7:∀(k:Nat) (t:Ag),A2 t<=k->k<1099511627776->∃i,Ov k t=some i/\True:=by
 intro k
 induction k with
 | zero=>intro t h; have:=Kg t; omega
 | succ k ih=>
  intro t h hk
  have g:=Fw t
  have c:=Hb t.Args
  rw [Ov]
  refine No ?_ ⟨_,rfl,trivial⟩
  refine D3 (fun (i,o)=>∃j:Nat,i=j/\j<=t.Args.length/\o.length=j) (fun (i,_)=>t.Args.length-i.toNat) (fun _=>True) ⟨0,rfl,by omega,rfl⟩ ?_ (fun e _=>⟨_,rfl,trivial⟩)
  rintro ⟨i,o⟩ ⟨j,rfl,hj,b⟩
  rcases Nat.lt_or_ge j t.Args.length with h' | h'
  .have hx:t.Args[j]? = some t.Args[j]:=Bj h'
   generalize t.Args[j]=x at hx
   have l:=F1 (Bi hx)
   obtain ⟨y,f,_⟩:=ih x (by omega) (by omega)
   simp only [Aj (by omega:(j:Int)<(t.Args.length:Int)),cond_true,Bn rfl hx,Ad,f,C5 h' (by omega)]
   have b:o.length=j:=b
   rw [C4 (by simp; omega),Ad]
   exact .inl ⟨_,rfl,⟨j+1,rfl,by omega,by simp [b]⟩,by simp; omega⟩
  .have:j=t.Args.length:=by omega
   subst this
   exact .inr ⟨o,by simp,trivial⟩
theorem Au8 {data:List Al} (g:DSz data) (i:F3 data) (t:Ag) (hk:t.Kind=5) (v:Av) (l:Hf data v t=true) (x:Al) (hx:Ae data t.Num=some x) (c:Nat) (hc:c<x.Cons.length) :
  Tg data t v c=some (Nv (Gi data t.Num v) c,0)/\Aby data t v c=some (Nv (Gi data t.Num v) c,0):=by
 have f:=l
 unfold Hf at f
 simp only [Ce,decide_eq_true_eq] at f
 obtain ⟨⟨k,u⟩,s⟩:=f
 have j:=k
 simp only [Em,Ce,decide_eq_true_eq] at j
 obtain ⟨b,b1,b2,E⟩:=Zt g v t (by omega) (by omega)
 have hb:b=true:=E.2 ⟨i,l⟩
 subst hb
 obtain ⟨q,B,A⟩:=Vi g
 have hq:q=true:=A.2 i
 subst hq
 obtain ⟨w,z,y⟩:=Y6 g
 have hw:w=true:=y.2 i
 subst hw
 have D:=Vs data t.Num v
 obtain ⟨ti,t1,_⟩:=Au7 4000000 t (by omega) (by omega)
 have h:(bif t.Kind != 5 then some true else bif decide ((c:Int)<0) then some true else (Ae data t.Num).bind fun v5=>some (decide ((c:Int)>=(v5.Cons.length:Int))))=some false:=by
  rw [B4 hk,Am (by omega),hx,Ad,Am (by omega)]; rfl
 constructor
 .unfold Tg Xm Q4
  rw [B,Nn data t 0 (by omega)]
  simp only [Ad,cond_true]
  rw [show (Cs data 0 t&&decide (A2 t<=200))=Em data t from rfl,k,t1]
  simp only [Ad,Cu,cond_false]
  rw [h]
  simp only [Ad,cond_false,b1,Cu,Ak4 g.sz.short i.cons8 hk v u s]
  exact Ak5 _ _ (by omega) rfl
 .unfold Aby Tn
  rw [z,Sa data t 0 (by omega)]
  simp only [Ad,cond_true]
  rw [show (Cs data 0 t&&decide (A2 t<=200))=Em data t from rfl,k]
  simp only [Cu,cond_false]
  rw [h]
  simp only [Ad,cond_false,b2,Cu]
  unfold Ab3
  rw [B4 hk,b2]
  simp only [cond_false,Ad,Cu,Au5 g.sz.short hk v u s]
  exact Ak5 _ _ (by omega) rfl
end Go.Ab
namespace Go.Ab
open Go
theorem Aec (x:Br) (v:Int):Qp x v=some (match Ct x.Vars x.Res v with | some t=>(t,true) | none=>(⟨0,0,[]⟩,false)):=by
 unfold Qp Ct
 by_cases h:v = -1
 .rw [B0 h,if_pos h]; rfl
 .rw [Bg h,if_neg h]
  cases hx:Ae x.Vars v with
  | none=>
   rcases Lw hx with h' | h'
   .rw [Aj h']; rfl
   .by_cases h0:v<0
    .rw [Aj h0]; rfl
    .rw [Am h0,Aj (show v>=(x.Vars.length:Int) from h')]; rfl
  | some t=>
   obtain ⟨a1,a2,_⟩:=De hx
   rw [Am (by omega:¬v<0),Am (by omega:¬v>=(x.Vars.length:Int))]; rfl
theorem Au9 (t:Ag):(Ag.mk t.Kind t.Num t.Args)=t:=by cases t; rfl
theorem Ak6 {data:List Al} (f:DSz data) (c:F3 data) (t:Ag) (g:Em data t=true) (i:A0) (hi:Cn i<=1048576):Qw data t i=some (Ff (Eb data i t))/\Xn data t i=some (Ff (Eb data i t)):=by
 have b:=g
 simp only [Em,Ce,decide_eq_true_eq] at b
 obtain ⟨q,l,k⟩:=Vi f
 have hq:q=true:=k.2 c
 subst hq
 obtain ⟨w,j,h⟩:=Y6 f
 have hw:w=true:=h.2 c
 subst hw
 constructor
 .unfold Qw Q4
  rw [l,Nn data t 0 (by omega)]
  simp only [Ad,cond_true]
  rw [show (Cs data 0 t&&decide (A2 t<=200))=Em data t from rfl,g]
  obtain ⟨p,u,s⟩:=(Atw c.szv f.sz.short 4000000).1 i t (by omega) hi b.2
  simp only [Cu,cond_false,u,Ad]
  rcases s with ⟨a1,d,a2,a3,a4⟩ | ⟨a1,a2⟩
  .rw [a1,a2,Sg a3,a4]; rfl
  .rw [a1,Pn a2]; rfl
 .unfold Xn Tn
  rw [j,Sa data t 0 (by omega)]
  simp only [Ad,cond_true]
  rw [show (Cs data 0 t&&decide (A2 t<=200))=Em data t from rfl,g]
  simp only [Cu,cond_false,(Ajy c.szv f.sz.short c.cons8 4000000).1 i t (by omega) hi b.2,Ad]
theorem Zw {R:Type} (b:List A0) (c:A0) (h0:b[0]? = some c) (g:b.length<=1048576) {J:(Int×Int×Bool)⊕Unit->Option R} {rt rf:R} (h1:J (.inl (0,0,false))=some rf) (h2:J (.inr ())=some rt) :
  (Ak (S:=Int) (E:=((Int×Int×Bool)⊕Unit)) (fun v11=>
   bif (decide (v11<(b.length:Int))) then (
   (Ae b v11).bind fun v12=>
   (Ae b 0).bind fun f=>
   bif (v12.Num != f.Num) then some (.inr (.inl (0,0,false)))
   else some (.inl (Ac (v11+1))))
   else some (.inr (.inr ()))) 0).bind J=some (bif b.all (fun k=>k.Num==c.Num) then rt else rf):=by
 refine Jq b (fun k=>k.Num==c.Num) (fun j=>(j:Int)) rfl (by omega) ?_ ?_
 .intro j k hk g1 g2 g3
  have hi:Ae b 0=some c:=Bn (n:=0) rfl h0
  simp only [g1,g2,g3,cond_true,Ad,hi]
  by_cases e:k.Num=c.Num
  .rw [B4 e,B0 e]
   exact ⟨fun _=>rfl,fun h=>by cases h⟩
  .rw [Ca e,Bg e]
   exact ⟨(fun h=>by cases h),fun _=>⟨_,rfl,h1⟩⟩
 .intro h; exact ⟨.inr (),by simp only [h]; rfl,h2⟩
theorem Ava (x:Br) (z:CSz x) (s:F4 x) (f:Cr) (t:Ag) (ht:Ct x.Vars x.Res f.Var=some t) (hi:Cn f.Index<=1048576) :
  ∃p q:Int×Int×Bool,Gv x f=some p/\Ol x f.Var f.Index=some q/\p.2.2=q.2.2/\(p.2.2=true->p=q):=by
 have A:Em x.Data t=true:=by
  unfold Ct at ht
  by_cases h:f.Var = -1
  .rw [if_pos h] at ht; cases ht; exact s.2.2.1
  .rw [if_neg h] at ht
   exact List.all_eq_true.1 s.2.2.2 t (De ht).2.2.2
 have c:f.Index.Kids.length<=1048576:=by have:=Js f.Index.Kids; have:=Eh f.Index; omega
 have i:((bif decide (f.Var>=0) then some (decide (f.Var<(x.Vars.length:Int))) else some false).bind fun v4=>(bif v4 then ((Ae x.Vars f.Var).bind fun v5=>some (v5.Kind,v5.Num,v5.Args)) else some (x.Res.Kind,x.Res.Num,x.Res.Args)))=some (t.Kind,t.Num,t.Args):=by
  unfold Ct at ht
  by_cases h:f.Var = -1
  .rw [if_pos h] at ht; cases ht
   rw [Am (by omega)]; rfl
  .rw [if_neg h] at ht
   have:=De ht
   rw [Aj (by omega),Aj (by omega),ht]; rfl
 unfold Gv Ol
 rw [Aec,ht]
 simp only [Ad,Cu,cond_false]
 rw [<-Option.bind_assoc]
 erw [i]
 simp only [Ad,Au9]
 by_cases u:t.Kind=7
 .simp only [B0 u,cond_true]
  exact ⟨_,_,rfl,rfl,rfl,fun _=>rfl⟩
 .simp only [Bg u,cond_false]
  by_cases y:t.Kind=5
  .simp only [B0 y,cond_true]
   obtain ⟨d1,d2⟩:=Ak6 z.ds s.2.1 t A f.Index hi
   simp only [d1,d2,Ad]
   cases hk:f.Index.Kids with
   | nil=>exact ⟨_,_,rfl,rfl,rfl,fun _=>rfl⟩
   | cons b g=>
    have h0:(b::g)[0]? = some b:=rfl
    rw [hk] at c
    have l:Ae (b::g) 0=some b:=rfl
    have j:(((b::g).length:Int)==0)=false:=Bg (by simp; omega)
    simp only [j,cond_false,Ad,l]
    by_cases hd:Ff (Eb x.Data f.Index t)=((b::g).length:Int)
    .rw [B4 hd]
     simp only [cond_false]
     refine ⟨_,_,Zw (b::g) b h0 c rfl rfl,Zw (b::g) b h0 c rfl rfl,?_,?_⟩
     .rw [B0 hd]
     .rw [B0 hd]; intro _; rfl
    .rw [Ca hd]
     simp only [cond_true]
     refine ⟨_,_,rfl,Zw (b::g) b h0 c rfl rfl,?_,fun h=>by cases h⟩
     rw [Bg hd]
     cases (b::g).all (fun k=>k.Num==b.Num) <;> rfl
  .simp only [Bg y,cond_false]
   exact ⟨_,_,rfl,rfl,rfl,fun _=>rfl⟩
end Go.Ab
namespace Go.Ab
open Go
theorem Ak7 {S T E F R1 R2:Type} {s1:S->Option (S⊕E)} {s2:T->Option (T⊕F)} {J1:E->Option R1} {J2:F->Option R2} (g:S->T->Prop) (m:S->Nat) (Q:R1->R2->Prop)
  (h:∀s t,g s t->(∃s' i,s1 s=some (.inl s')/\s2 t=some (.inl i)/\g s' i/\m s' < m s)\/(∃e f c b,s1 s=some (.inr e)/\s2 t=some (.inr f)/\J1 e=some c/\J2 f=some b/\Q c b)) :
  ∀{s:S} {t:T},g s t->∃c b,(Ak s1 s).bind J1=some c/\(Ak s2 t).bind J2=some b/\Q c b:=by
 have key:∀(n:Nat) (s:S) (t:T),m s<=n->g s t->∃c b,(Ak s1 s).bind J1=some c/\(Ak s2 t).bind J2=some b/\Q c b:=by
  intro n
  induction n with
  | zero=>
   intro s t q j
   rcases h s t j with ⟨s',i,_,_,_,k⟩ | ⟨e,f,c,b,h1,h2,h3,k,l⟩
   .omega
   .exact ⟨c,b,by rw [D9 h1]; exact h3,by rw [D9 h2]; exact k,l⟩
  | succ n ih=>
   intro s t q j
   rcases h s t j with ⟨s',i,h1,h2,h3,k⟩ | ⟨e,f,c,b,h1,h2,h3,k,l⟩
   .obtain ⟨c,b,a1,a2,a3⟩:=ih s' i (by omega) h3
    exact ⟨c,b,by rw [Hv h1]; exact a1,by rw [Hv h2]; exact a2,a3⟩
   .exact ⟨c,b,by rw [D9 h1]; exact h3,by rw [D9 h2]; exact k,l⟩
 intro s t j
 exact key (m s) s t (Nat.le_refl _) j
def Vu (x:Br) (f:Cr):Prop:=∃s:Int×Int×Bool,Gv x f=some s/\Ol x f.Var f.Index=some s/\s.2.2=true
theorem Aed {data:List Al} {vars:List Ag} {res:Ag} {m:Cb} (h:G2 data vars res m=true):(∀f∈m.Factors,∃t,Ct vars res f.Var=some t)/\m.Factors.length<=6:=by
 unfold G2 at h
 simp only [Ce,decide_eq_true_eq] at h
 obtain ⟨⟨h1,h2⟩,h3⟩:=h
 have hf:∀f∈m.Factors,1<=Ei data vars res f:=by
  intro f hf
  obtain ⟨j,hj⟩:=List.getElem?_of_mem hf
  have:=G0 h1 hj
  simp only [L2,Ce,decide_eq_true_eq] at this
  exact this.1
 have ha:0<=Et m.Atoms:=(Zq m.Atoms (fun a ha=>by
  obtain ⟨j,hj⟩:=List.getElem?_of_mem ha
  have:=G0 h2 hj
  simp only [Km,Ce,decide_eq_true_eq] at this
  omega)).1
 refine ⟨fun f b=>?_,?_⟩
 .have:=hf f b
  unfold Ei at this
  cases ht:Ct vars res f.Var with
  | none=>rw [ht] at this; have:(1:Int)<=-1:=this; omega
  | some t=>exact ⟨t,rfl⟩
 .have key:∀l:List Cr,(∀f∈l,1<=Ei data vars res f)->(l.length:Int)<=Dj data vars res l:=by
   intro l
   induction l with
   | nil=>intro _; simp [Dj]
   | cons f fs ih=>
    intro c
    have h1:=c f (by simp)
    have h2:=ih (fun g i=>c g (by simp [i]))
    unfold Dj at *
    simp only [List.map_cons,List.sum_cons,List.length_cons]; omega
  have:=key m.Factors hf
  omega
theorem Ak8 {data:List Al} {vars:List Ag} {res:Ag} {p:List A4} (h:Gd data vars res p=true):p.length<=1000/\∀t∈p,G2 data vars res t.Mono=true:=by
 unfold Gd at h
 simp only [Ce,decide_eq_true_eq] at h
 refine ⟨h.1,fun t ht=>?_⟩
 obtain ⟨j,hj⟩:=List.getElem?_of_mem ht
 have:=G0 h.2 hj
 simp only [L3,Ce] at this
 exact this.1.2
theorem Ak9 (x:Br) (hz:CSz x) (p:List A4) (hp:∀t∈p,TSz t) :
  ∃b,Lm x p=some b/\Abt x p=some b/\(b=true->F4 x/\Gd x.Data x.Vars x.Res p=true/\∀t∈p,t.Mono.Atoms.length=0/\∀f∈t.Mono.Factors,Vu x f):=by
 obtain ⟨b,b1,b2⟩:=Akv x hz p hp
 obtain ⟨c,c1,c2⟩:=Aux x hz p hp
 have a7:b=c:=by rw [Bool.eq_iff_iff,b2,c2]
 subst a7
 unfold Lm Abt
 rw [b1,c1]
 simp only [Ad]
 cases b with
 | false=>exact ⟨false,rfl,rfl,fun h=>by cases h⟩
 | true=>
  obtain ⟨hf,hc⟩:=b2.1 rfl
  obtain ⟨Y,J⟩:=Ak8 hc
  simp only [Cu,cond_false]
  have key:=Ak7 (R1:=Bool) (R2:=Bool)
   (s1:=fun q=>bif (decide (q<(p.length:Int))) then ((Ae p q).bind fun l=>bif (decide ((l.Mono.Atoms.length:Int)>(0:Int))) then some (.inr (.inl false)) else
    ((Ak (S:=Int) (E:=(Bool⊕Int)) (fun v20=>bif (decide (v20<(l.Mono.Factors.length:Int))) then ((Ae l.Mono.Factors v20).bind fun v21=>(Gv x v21).bind fun k=>bif (!k.2.2) then some (.inr (.inl false)) else some (.inl (Ac (v20+1)))) else some (.inr (.inr v20))) 0).bind fun z=>match z with | .inl y=>some (.inr (.inl y)) | .inr D=>some (.inl (Ac (q+1))))) else some (.inr (.inr ())))
   (s2:=fun q=>bif (decide (q<(p.length:Int))) then ((Ae p q).bind fun l=>bif (decide ((l.Mono.Atoms.length:Int)>(0:Int))) then some (.inr (.inl false)) else
    ((Ak (S:=Int) (E:=(Bool⊕Int)) (fun v20=>bif (decide (v20<(l.Mono.Factors.length:Int))) then ((Ae l.Mono.Factors v20).bind fun v21=>(Ol x v21.Var v21.Index).bind fun k=>bif (!k.2.2) then some (.inr (.inl false)) else some (.inl (Ac (v20+1)))) else some (.inr (.inr v20))) 0).bind fun z=>match z with | .inl y=>some (.inr (.inl y)) | .inr D=>some (.inl (Ac (q+1))))) else some (.inr (.inr ())))
   (J1:=fun z:Bool⊕Unit=>match z with | .inl G=>some G | .inr _=>some true) (J2:=fun z:Bool⊕Unit=>match z with | .inl G=>some G | .inr _=>some true)
   (fun s t=>∃j:Nat,s=(j:Int)/\t=(j:Int)/\j<=p.length/\∀u∈p.take j,u.Mono.Atoms.length=0/\∀f∈u.Mono.Factors,Vu x f) (fun s=>p.length-s.toNat)
   (fun B M=>B=M/\(B=true->∀t∈p,t.Mono.Atoms.length=0/\∀f∈t.Mono.Factors,Vu x f)) (by
    rintro s t ⟨j,rfl,rfl,hj,A⟩
    rcases Nat.lt_or_ge j p.length with h | h
    .have hu:p[j]? = some p[j]:=Bj h
     generalize p[j]=u at hu
     have N:=Bi hu
     obtain ⟨a6,a8⟩:=Aed (J u N)
     simp only [Aj (by omega:(j:Int)<(p.length:Int)),cond_true,Bn rfl hu,Ad,C5 h (by omega)]
     by_cases ha:(u.Mono.Atoms.length:Int)>0
     .rw [Aj ha]
      exact .inr ⟨.inl false,.inl false,false,false,rfl,rfl,rfl,rfl,rfl,fun h=>by cases h⟩
     .rw [Am ha]
      simp only [cond_false]
      obtain ⟨B,M,q1,q2,I⟩:=Ak7 (R1:=Int⊕(Bool⊕Unit)) (R2:=Int⊕(Bool⊕Unit))
       (s1:=fun v20=>bif (decide (v20<(u.Mono.Factors.length:Int))) then ((Ae u.Mono.Factors v20).bind fun v21=>(Gv x v21).bind fun k=>bif (!k.2.2) then some (.inr (.inl false)) else some (.inl (Ac (v20+1)))) else some (.inr (.inr v20)))
       (s2:=fun v20=>bif (decide (v20<(u.Mono.Factors.length:Int))) then ((Ae u.Mono.Factors v20).bind fun v21=>(Ol x v21.Var v21.Index).bind fun k=>bif (!k.2.2) then some (.inr (.inl false)) else some (.inl (Ac (v20+1)))) else some (.inr (.inr v20)))
       (J1:=fun z:Bool⊕Int=>match z with | .inl y=>some (.inr (.inl y)) | .inr D=>some (.inl ((j+1:Nat):Int))) (J2:=fun z:Bool⊕Int=>match z with | .inl y=>some (.inr (.inl y)) | .inr D=>some (.inl ((j+1:Nat):Int)))
       (fun s t=>∃i:Nat,s=(i:Int)/\t=(i:Int)/\i<=u.Mono.Factors.length/\∀f∈u.Mono.Factors.take i,Vu x f) (fun s=>u.Mono.Factors.length-s.toNat)
       (fun B M=>B=M/\(B = .inr (.inl false)\/(B = .inl ((j+1:Nat):Int)/\∀f∈u.Mono.Factors,Vu x f))) (by
        rintro s t ⟨i,rfl,rfl,hi,L⟩
        rcases Nat.lt_or_ge i u.Mono.Factors.length with g | g
        .have Z:u.Mono.Factors[i]? = some u.Mono.Factors[i]:=Bj g
         generalize u.Mono.Factors[i]=f at Z
         have V:=Bi Z
         obtain ⟨ty,U⟩:=a6 f V
         obtain ⟨a,b,a1,a2,a3,a4⟩:=Ava x hz hf f ty U ((hp u N).mo.fi f V)
         simp only [Aj (by omega:(i:Int)<(u.Mono.Factors.length:Int)),cond_true,Bn rfl Z,Ad,a1,a2,C5 g (by omega),<-a3]
         cases ho:a.2.2 with
         | false=>exact .inr ⟨.inl false,.inl false,_,_,rfl,rfl,rfl,rfl,rfl,.inl rfl⟩
         | true=>
          refine .inl ⟨_,_,rfl,rfl,⟨i+1,rfl,rfl,by omega,fun f' X=>?_⟩,by simp; omega⟩
          rw [Cw Z] at X
          rcases List.mem_append.1 X with h' | h'
          .exact L f' h'
          .simp at h'; subst h'
           exact ⟨a,a1,by rw [a2,<-a4 ho],ho⟩
        .have:i=u.Mono.Factors.length:=by omega
         subst this
         rw [List.take_length] at L
         exact .inr ⟨.inr _,.inr _,_,_,by simp only [Am (by omega:¬(u.Mono.Factors.length:Int)<(u.Mono.Factors.length:Int))]; rfl,by simp only [Am (by omega:¬(u.Mono.Factors.length:Int)<(u.Mono.Factors.length:Int))]; rfl,rfl,rfl,rfl,.inr ⟨rfl,L⟩⟩)
       (s:=(0:Int)) (t:=(0:Int)) ⟨0,rfl,rfl,by omega,by simp⟩
      rw [q1,q2]
      obtain ⟨rfl,I⟩:=I
      rcases I with rfl | ⟨rfl,I⟩
      .exact .inr ⟨.inl false,.inl false,_,_,rfl,rfl,rfl,rfl,rfl,fun h=>by cases h⟩
      .refine .inl ⟨_,_,rfl,rfl,⟨j+1,rfl,rfl,by omega,fun u' R=>?_⟩,by simp; omega⟩
       rw [Cw hu] at R
       rcases List.mem_append.1 R with h' | h'
       .exact A u' h'
       .simp at h'; subst h'; exact ⟨by omega,I⟩
    .have:j=p.length:=by omega
     subst this
     rw [List.take_length] at A
     exact .inr ⟨.inr (),.inr (),_,_,by simp,by simp,rfl,rfl,rfl,fun _=>A⟩)
   (s:=(0:Int)) (t:=(0:Int)) ⟨0,rfl,rfl,by omega,by simp⟩
  obtain ⟨B,M,q1,q2,rfl,I⟩:=key
  exact ⟨B,q1,q2,fun h=>⟨hf,hc,I h⟩⟩
theorem Avb (a b:An) (j k:Nat) (ha:RB j a) (hb:RB k b) (hj:j<34359738000) (hk:k<34359738000):∃c,Fu a b=some c/\Xf a b=some c/\RB (j+k+2) c:=by
 refine ⟨_,Adh a b j k ha hb (by omega) (by omega),Asa a b j k ha hb (by omega) (by omega),?_⟩
 have h1:=ha.nv
 have h2:=ha.dv
 have h3:=hb.nv
 have h:=hb.dv
 have g:=Gz (nv a) (nv b)
 have f:=Gz (dv a) (dv b)
 exact Nm _ _ _ _ (by omega) (by omega) (by omega)
theorem Avc (a b:An) (j k:Nat) (ha:RB j a) (hb:RB k b) (hj:j<34359738000) (hk:k<34359738000):∃c,Gm a b=some c/\Qq a b=some c/\RB (j+k+3) c:=by
 refine ⟨_,Ai6 a b j k ha hb (by omega) (by omega),Ajb a b j k ha hb (by omega) (by omega),?_⟩
 have h1:=ha.nv
 have h2:=ha.dv
 have h3:=hb.nv
 have s:=hb.dv
 have q:=Gz (nv a) (dv b)
 have l:=Gz (nv b) (dv a)
 have i:=Gz (dv a) (dv b)
 have f:Iq (sv a) (nv a) (dv a) (sv b) (nv b) (dv b)<=nv a*dv b+nv b*dv a:=by
  unfold Iq
  split
  .omega
  .split <;> omega
 have h:=Ha f
 have g:=Ac8 (nv a*dv b) (nv b*dv a)
 exact Nm _ _ _ _ (by omega) (by omega) (by omega)
end Go.Ab
namespace Go.Ab
open Go
def I5 (v b:Int) (c:Ew):Bool:=v==c.Var&&b==c.Con
def Lf (l:List Ew):List (Gn×Int):=l.map fun c=>(⟨c.Var,c.Con⟩,c.N)
theorem Ala (l:List Ew) (v b:Int):Hw Ij (Lf l) ⟨v,b⟩=l.any (I5 v b):=by
 unfold Hw Lf
 rw [List.any_map]; rfl
def Zx (l:List Ew):Bool:=l.zipIdx.all fun q=>!((l.take q.2).any (I5 q.1.Var q.1.Con))
theorem Avd {R:Type} (l:List Ew) (k:l.length<=1048576) {J:(An×Int)⊕Unit->Option R} {rt rf:R} (h1:J (.inl (⟨false,[],[]⟩,8))=some rf) (h2:J (.inr ())=some rt) :
  (Ak (S:=Int) (E:=((An×Int)⊕Unit)) (fun b=>
   bif (decide (b<(l.length:Int))) then (
   (Ae l b).bind fun g=>
   bif (decide (g.N<(0:Int))) then some (.inr (.inl ((An.mk false [] []),8)))
   else (
   bif (decide (g.N>(5000:Int))) then some (.inr (.inl ((An.mk false [] []),8)))
   else some (.inl (Ac (b+1)))))
   else some (.inr (.inr ()))) 0).bind J=some (bif l.all (fun c=>decide (0<=c.N/\c.N<=5000)) then rt else rf):=by
 refine Jq l (fun c=>decide (0<=c.N/\c.N<=5000)) (fun j=>(j:Int)) rfl (by omega) ?_ ?_
 .intro j c hc g1 g2 g3
  simp only [g1,g2,g3,cond_true,Ad]
  by_cases f:c.N<0
  .rw [Aj f,Am (by omega)]
   exact ⟨(fun h=>by cases h),fun _=>⟨_,rfl,h1⟩⟩
  .by_cases i:c.N>5000
   .rw [Am f,Aj i,Am (by omega)]
    exact ⟨(fun h=>by cases h),fun _=>⟨_,rfl,h1⟩⟩
   .rw [Am f,Am i,Aj (by omega)]
    exact ⟨fun _=>rfl,fun h=>by cases h⟩
 .intro h; exact ⟨.inr (),by simp only [h]; rfl,h2⟩
theorem Ave {R:Type} (l:List Ew) (k:l.length<=1048576) {J:(An×Int)⊕(List (Gn×Int))->Option R} {rt rf:R} (h1:J (.inl (⟨false,[],[]⟩,4))=some rf) (h2:J (.inr (Lf l))=some rt) :
  (Ak (S:=(Int×(List (Gn×Int)))) (E:=((An×Int)⊕(List (Gn×Int)))) (fun (f,g)=>
   bif (decide (f<(l.length:Int))) then (
   (Ae l f).bind fun b=>
   (show Option Bool from
   bif (Hw Ij g (Gn.mk b.Var b.Con)) then some true
   else some false).bind fun v20=>
   bif v20 then some (.inr (.inl ((An.mk false [] []),4)))
   else (
   (Tb Ij g (Gn.mk b.Var b.Con) b.N).bind fun i=>
   some (.inl ((Ac (f+1)),i))))
   else some (.inr (.inr g))) (0,[])).bind J=some (bif Zx l then rt else rf):=by
 refine K8 l (fun q=>!((l.take q.2).any (I5 q.1.Var q.1.Con))) (fun j=>((j:Int),Lf (l.take j))) rfl (by omega) ?_ ?_
 .intro j c hc _ g1 g2 g3
  simp only [g1,g2,g3,cond_true,Ad,Ala,Tb]
  cases (l.take j).any (I5 c.Var c.Con) with
  | true=>exact ⟨(fun h=>by cases h),fun _=>⟨_,rfl,h1⟩⟩
  | false=>
   refine ⟨fun _=>?_,fun h=>by cases h⟩
   simp only [cond_false,Ad,Cw hc]
   simp [Lf]
 .intro h _; exact ⟨.inr (Lf l),by simp only [h]; rw [List.take_length]; rfl,h2⟩
theorem Avf (l:List Ew) (v b:Int) (h:l.any (I5 v b)=true):∃(i:Nat) (c:Ew),l[i]? = some c/\I5 v b c=true/\J9 Ij (Lf l) ⟨v,b⟩ 0=c.N:=by
 induction l with
 | nil=>cases h
 | cons x xs ih=>
  cases hx:I5 v b x with
  | true=>
   refine ⟨0,x,rfl,hx,?_⟩
   have:Ij ⟨v,b⟩ ⟨x.Var,x.Con⟩=true:=hx
   simp only [J9,Lf,List.map_cons,List.find?_cons,this]; rfl
  | false=>
   rw [List.any_cons,hx,Bool.false_or] at h
   obtain ⟨i,c,h1,h2,h3⟩:=ih h
   refine ⟨i+1,c,by simpa using h1,h2,?_⟩
   have:Ij ⟨v,b⟩ ⟨x.Var,x.Con⟩=false:=hx
   rw [<-h3]
   simp only [J9,Lf,List.map_cons,List.find?_cons,this]
end Go.Ab
namespace Go.Ab
open Go
end Go.Ab
namespace Go.Ab
open Go
theorem Avg:∀(k:Nat) (v:Av) (a:Int),B6 v<=k->k<1099511627776->∃r,Ok k v a=some r/\True:=by
 intro k
 induction k with
 | zero=>intro v a h _; have:=L5 v; omega
 | succ k ih=>
  intro v a h hk
  have f:=Is v
  have i:=Kn v.Kids
  simp only [Ok]
  refine D3 (fun s=>∃j:Nat,s.2=j/\j<=v.Kids.length) (fun s=>v.Kids.length-s.2.toNat) (fun _=>True) ⟨0,rfl,by omega⟩ ?_ ?_
  .rintro ⟨c,_⟩ ⟨j,rfl,hj⟩
   rcases Nat.lt_or_ge j v.Kids.length with h' | h'
   .simp only [Aj (by omega:(j:Int)<(v.Kids.length:Int)),cond_true,Cv rfl h',Ad]
    cases decide (c>a) with
    | true=>exact .inr ⟨_,rfl,trivial⟩
    | false=>
     have g:=Jx (List.getElem_mem h')
     obtain ⟨r,b,_⟩:=ih v.Kids[j] (Ac (a-c)) (by omega) (by omega)
     simp only [b,cond_false,Ad,C5 h' (by omega)]
     exact .inl ⟨_,rfl,⟨j+1,rfl,by omega⟩,by simp; omega⟩
   .simp only [Am (by omega:¬(j:Int)<(v.Kids.length:Int)),cond_false]
    exact .inr ⟨_,rfl,trivial⟩
  .rintro (r | r) _
   .exact ⟨_,rfl,trivial⟩
   .exact ⟨_,rfl,trivial⟩
theorem Avh:∀(k:Nat) (v:A0) (a:Int),Cn v<=k->k<1099511627776->∃r,Ou k v a=some r/\True:=by
 intro k
 induction k with
 | zero=>intro v a h _; have:=Eh v; omega
 | succ k ih=>
  intro v a h hk
  have f:=Eh v
  have i:=Js v.Kids
  simp only [Ou]
  refine D3 (fun s=>∃j:Nat,s.2=j/\j<=v.Kids.length) (fun s=>v.Kids.length-s.2.toNat) (fun _=>True) ⟨0,rfl,by omega⟩ ?_ ?_
  .rintro ⟨c,_⟩ ⟨j,rfl,hj⟩
   rcases Nat.lt_or_ge j v.Kids.length with h' | h'
   .simp only [Aj (by omega:(j:Int)<(v.Kids.length:Int)),cond_true,Cv rfl h',Ad]
    cases decide (c>a) with
    | true=>exact .inr ⟨_,rfl,trivial⟩
    | false=>
     have g:=Hm (List.getElem_mem h')
     obtain ⟨r,b,_⟩:=ih v.Kids[j] (Ac (a-c)) (by omega) (by omega)
     simp only [b,cond_false,Ad,C5 h' (by omega)]
     exact .inl ⟨_,rfl,⟨j+1,rfl,by omega⟩,by simp; omega⟩
   .simp only [Am (by omega:¬(j:Int)<(v.Kids.length:Int)),cond_false]
    exact .inr ⟨_,rfl,trivial⟩
  .rintro (r | r) _
   .exact ⟨_,rfl,trivial⟩
   .exact ⟨_,rfl,trivial⟩
theorem Alb (l:List Av) (i:l.length<=1048576) (h:∀v∈l,B6 v<=1048576):∃b,Ql l=some b/\True:=by
 unfold Ql
 refine D3 (fun s=>∃j:Nat,s.2=j/\j<=l.length) (fun s=>l.length-s.2.toNat) (fun _=>True) ⟨0,rfl,by omega⟩ ?_ ?_
 .rintro ⟨c,_⟩ ⟨j,rfl,hj⟩
  rcases Nat.lt_or_ge j l.length with h' | h'
  .have g:=h _ (List.getElem_mem h')
   obtain ⟨r,f,_⟩:=Avg 4000000 l[j] (Ac (61-c)) (by omega) (by omega)
   simp only [Aj (by omega:(j:Int)<(l.length:Int)),cond_true,Cv rfl h',Ad,f,C5 h' (by omega)]
   cases decide (Ac (c+r)>60) with
   | true=>exact .inr ⟨_,rfl,trivial⟩
   | false=>exact .inl ⟨_,rfl,⟨j+1,rfl,by omega⟩,by simp; omega⟩
  .simp only [Am (by omega:¬(j:Int)<(l.length:Int)),cond_false]
   exact .inr ⟨_,rfl,trivial⟩
 .rintro (r | r) _
  .exact ⟨_,rfl,trivial⟩
  .exact ⟨_,rfl,trivial⟩
theorem Avi (m:Cb) (c:MSz m):∃b,Tm m=some b/\True:=by
 have h1:=c.nf
 have h2:=c.na
 unfold Tm
 cases decide ((m.Factors.length:Int)>4) with
 | true=>exact ⟨_,rfl,trivial⟩
 | false=>
  cases decide ((m.Atoms.length:Int)>4) with
  | true=>exact ⟨_,rfl,trivial⟩
  | false=>
   simp only [cond_false,Ad]
   refine D3 (fun s=>∃j:Nat,s=j/\j<=m.Factors.length) (fun s=>m.Factors.length-s.toNat) (fun _=>True) ⟨0,rfl,by omega⟩ ?_ ?_
   .rintro _ ⟨j,rfl,hj⟩
    rcases Nat.lt_or_ge j m.Factors.length with h' | h'
    .have c:=c.fi _ (List.getElem_mem h')
     obtain ⟨r,f,_⟩:=Avh 4000000 m.Factors[j].Index 13 (by omega) (by omega)
     simp only [Aj (by omega:(j:Int)<(m.Factors.length:Int)),cond_true,Cv rfl h',Ad,f,C5 h' (by omega)]
     cases decide (r>12) with
     | true=>exact .inr ⟨_,rfl,trivial⟩
     | false=>exact .inl ⟨_,rfl,⟨j+1,rfl,by omega⟩,by simp; omega⟩
    .simp only [Am (by omega:¬(j:Int)<(m.Factors.length:Int)),cond_false]
     exact .inr ⟨_,rfl,trivial⟩
   .rintro (r | r) _
    .exact ⟨_,rfl,trivial⟩
    .refine D3 (fun s=>∃j:Nat,s=j/\j<=m.Atoms.length) (fun s=>m.Atoms.length-s.toNat) (fun _=>True) ⟨0,rfl,by omega⟩ ?_ ?_
     .rintro _ ⟨j,rfl,hj⟩
      rcases Nat.lt_or_ge j m.Atoms.length with h' | h'
      .simp only [Aj (by omega:(j:Int)<(m.Atoms.length:Int)),cond_true,Cv rfl h',Ad,C5 h' (by omega)]
       cases decide ((m.Atoms[j].Lin.Terms.length:Int)>4) with
       | true=>exact .inr ⟨_,rfl,trivial⟩
       | false=>exact .inl ⟨_,rfl,⟨j+1,rfl,by omega⟩,by simp; omega⟩
      .simp only [Am (by omega:¬(j:Int)<(m.Atoms.length:Int)),cond_false]
       exact .inr ⟨_,rfl,trivial⟩
     .rintro (r | r) _
      .exact ⟨_,rfl,trivial⟩
      .exact ⟨_,rfl,trivial⟩
theorem Avj (a:An):∃b,Tl a=some b:=by
 unfold Tl
 cases decide ((a.Num.length:Int)<=2) <;> exact ⟨_,rfl⟩
theorem Alc (p:List A4) (n:Int) (g:p.length<=1048576) (h:∀t∈p,TSz t):∃b,Qo p n=some b/\True:=by
 unfold Qo
 cases decide ((p.length:Int)>n) with
 | true=>exact ⟨_,rfl,trivial⟩
 | false=>
  refine D3 (fun s=>∃j:Nat,s=j/\j<=p.length) (fun s=>p.length-s.toNat) (fun _=>True) ⟨0,rfl,by omega⟩ ?_ ?_
  .rintro _ ⟨j,rfl,hj⟩
   rcases Nat.lt_or_ge j p.length with h' | h'
   .obtain ⟨c,hc⟩:=Avj p[j].Coef
    obtain ⟨m,f,_⟩:=Avi p[j].Mono (h _ (List.getElem_mem h')).mo
    simp only [Aj (by omega:(j:Int)<(p.length:Int)),cond_true,Cv rfl h',Ad,hc,f,C5 h' (by omega)]
    cases c with
    | false=>exact .inr ⟨_,rfl,trivial⟩
    | true=>
     cases m with
     | false=>exact .inr ⟨_,rfl,trivial⟩
     | true=>exact .inl ⟨_,rfl,⟨j+1,rfl,by omega⟩,by simp; omega⟩
   .simp only [Am (by omega:¬(j:Int)<(p.length:Int)),cond_false]
    exact .inr ⟨_,rfl,trivial⟩
  .rintro (r | r) _
   .exact ⟨_,rfl,trivial⟩
   .exact ⟨_,rfl,trivial⟩
theorem Avk (x:Br) (p q:List A4) (g:p.length<=1048576) (hp:∀t∈p,TSz t) (f:q.length<=1048576) (hq:∀t∈q,TSz t):∃b,Tc x p q=some b:=by
 obtain ⟨b,hb⟩:∃b,Tf x=some b:=by
  unfold Tf
  cases decide ((x.Data.length:Int)<=2) <;> exact ⟨_,rfl⟩
 obtain ⟨c,hc,_⟩:=Alc p 6 g hp
 obtain ⟨d,hd,_⟩:=Alc q 6 f hq
 unfold Tc
 rw [hb]
 cases b with
 | false=>exact ⟨_,rfl⟩
 | true=>
  simp only [Ad,cond_true,hc]
  cases c with
  | false=>exact ⟨_,rfl⟩
  | true=>simp only [cond_true,hd]; exact ⟨_,rfl⟩
theorem Avl:Xc=some true:=by kernel_rfl
end Go.Ab
namespace Go.Ab
open Go
def sg (s:Bool) (n:Nat):Int:=if s then -(n:Int) else n
def rq (a:An):Rat:=mkRat (sg (sv a) (nv a)) (dv a)
def L7 (a:An):Prop:=a=Bb (sv a) (nv a) (dv a)
theorem Ald (s:Bool) (n d:Nat) (hd:d≠0):rq (Bb s n d)=mkRat (sg s n) d:=by
 obtain ⟨g,f,h1,h2,h3,i⟩:=Y2 s n d hd
 unfold rq
 rw [Rat.mkRat_eq_iff (F0 _) hd]
 generalize nv (Bb s n d)=b at *
 generalize dv (Bb s n d)=j at *
 generalize sv (Bb s n d)=s' at *
 by_cases c:n=0
 .have:b=0:=by
   rcases Nat.eq_zero_or_pos b with h | h
   .exact h
   .have:=Nat.mul_pos (Nat.pos_of_ne_zero f) h; omega
  subst this; subst c
  cases s <;> cases s' <;> simp [sg]
 .rw [h3 c,h1,h2]
  cases s <;> simp only [sg,if_true,if_false,Bool.false_eq_true,Int.natCast_mul] <;> grind
theorem Avm (s:Bool) (n d:Nat) (hd:d≠0):L7 (Bb s n d):=by
 obtain ⟨g,b,h1,h2,h3,i⟩:=Y2 s n d hd
 unfold L7
 generalize hc:Bb s n d=c at h1 h2 h3 i
 have e:=Ph s (nv c) (dv c) g b
 rw [<-h1,<-h2,hc] at e
 by_cases f:n=0
 .have h0:nv c=0:=by
   rcases Nat.eq_zero_or_pos (nv c) with h | h
   .exact h
   .have:=Nat.mul_pos (Nat.pos_of_ne_zero b) h; omega
  rw [h0,R4] at e ⊢
  exact e
 .rw [h3 f]; exact e
theorem Avn {a b:An} (ha:L7 a) (hb:L7 b) (h:rq a=rq b):a=b:=by
 unfold rq at h
 rw [Rat.mkRat_eq_iff (F0 _) (F0 _)] at h
 rw [ha,hb]
 have l:=F0 a
 have k:=F0 b
 generalize nv a=n at *
 generalize dv a=d at *
 generalize sv a=s at *
 generalize nv b=m at *
 generalize dv b=e at *
 generalize sv b=t at *
 have hh:n*e=m*d/\(n≠0->s=t):=by
  have c:n≠0->0<n*e:=fun h=>Nat.mul_pos (by omega) (by omega)
  have f:m≠0->0<m*d:=fun h=>Nat.mul_pos (by omega) (by omega)
  have u:((n*e:Nat):Int)=(n:Int)*e:=by simp
  have q:((m*d:Nat):Int)=(m:Int)*d:=by simp
  cases s <;> cases t <;> simp only [sg,if_true,if_false,Bool.false_eq_true,Int.neg_mul] at h
  .exact ⟨by omega,fun _=>rfl⟩
  .have:n*e=0/\m*d=0:=by omega
   refine ⟨by omega,fun g=>?_⟩
   have:=c g; omega
  .have:n*e=0/\m*d=0:=by omega
   refine ⟨by omega,fun g=>?_⟩
   have:=c g; omega
  .exact ⟨by omega,fun _=>rfl⟩
 have j:=Ph s n d e k
 have i:=Ph t m e d l
 rw [<-j,<-i,Nat.mul_comm e n,hh.1,Nat.mul_comm e d,Nat.mul_comm m d]
 refine Ai7 fun h0=>hh.2 ?_
 rintro rfl
 rw [Nat.zero_mul] at hh
 have:=hh.1
 rw [Nat.mul_comm d m] at h0
 omega
end Go.Ab
namespace Go.Ab
open Go
structure Dv {α:Type} (S:α->Prop) (g:α->α->Int):Prop where
 zero:∀a b,S a->S b->(g a b=0↔a=b)
 anti:∀a b,S a->S b->g b a = - g a b
 trans:∀a b c,S a->S b->S c->g a b<0->g b c<0->g a c<0
theorem Dv.cmpI:Dv (fun _:Int=>True) Di:=by
 refine ⟨fun a b _ _=>E3,fun a b _ _=>?_,fun a b c _ _ _=>?_⟩
 .unfold Go.Ab.Di; split <;> split <;> (try split) <;> (try split) <;> omega
 .unfold Go.Ab.Di; intro h1 h2; split at h1 <;> (try split at h1) <;> split at h2 <;> (try split at h2) <;> first | omega | (rw [if_pos (by omega)]; decide)
theorem Ale {x y:Int}:C9 x y<0↔x<0\/(x=0/\y<0):=by unfold C9; split <;> omega
theorem Alf {x y:Int}:C9 x y=0↔x=0/\y=0:=by unfold C9; split <;> omega
theorem Dv.or {α β γ:Type} {S:α->Prop} {s:β->Prop} {l:γ->Prop} {j:β->β->Int} {i:γ->γ->Int} (p:α->β) (q:α->γ) (g:∀a b,p a=p b->q a=q b->a=b) (h1:Dv s j) (h2:Dv l i) (f:∀a,S a->s (p a)/\l (q a)) :
  Dv S (fun a b=>C9 (j (p a) (p b)) (i (q a) (q b))):=by
 refine ⟨fun a b ha hb=>?_,fun a b ha hb=>?_,fun a b c ha hb hc=>?_⟩
 .rw [Alf,h1.zero _ _ (f a ha).1 (f b hb).1,h2.zero _ _ (f a ha).2 (f b hb).2]
  exact ⟨fun h=>g a b h.1 h.2,fun h=>by subst h; exact ⟨rfl,rfl⟩⟩
 .show C9 (j (p b) (p a)) (i (q b) (q a)) = - C9 (j (p a) (p b)) (i (q a) (q b))
  have z:=h1.anti _ _ (f a ha).1 (f b hb).1
  have y:=h2.anti _ _ (f a ha).2 (f b hb).2
  rw [z,y]; unfold C9; split <;> split <;> omega
 .show C9 _ _<0->C9 _ _<0->C9 _ _<0
  simp only [Ale]
  have u:=h1.zero _ _ (f a ha).1 (f b hb).1
  have z2:=h1.zero _ _ (f b hb).1 (f c hc).1
  have t1:=h1.trans _ _ _ (f a ha).1 (f b hb).1 (f c hc).1
  have t2:=h2.trans _ _ _ (f a ha).2 (f b hb).2 (f c hc).2
  rintro (h | ⟨h,h'⟩) (k | ⟨k,x⟩)
  .exact .inl (t1 h k)
  .rw [<-z2.1 k]; exact .inl h
  .rw [u.1 h]; exact .inl k
  .rw [<-z2.1 k,h]; exact .inr ⟨rfl,t2 h' x⟩
theorem Dv.mono {α:Type} {S i:α->Prop} {g:α->α->Int} (h:Dv S g) (f:∀a,i a->S a):Dv i g :=
 ⟨fun a b ha hb=>h.zero a b (f a ha) (f b hb),fun a b ha hb=>h.anti a b (f a ha) (f b hb),fun a b c ha hb hc=>h.trans a b c (f a ha) (f b hb) (f c hc)⟩
theorem Dv.congr {α:Type} {S:α->Prop} {g c:α->α->Int} (h:Dv S g) (e:∀a b,c a b=g a b):Dv S c:=by
 have:c=g:=funext fun a=>funext fun b=>e a b
 rw [this]; exact h
def LL {α:Type} (g:α->α->Int) (l m:List α):Int:=if l.length=m.length then Du g l m else Go.Ab.Di l.length m.length
theorem Alg {α:Type} {S:α->Prop} {g:α->α->Int} (h:Dv S g):∀l m:List α,l.length=m.length->(∀x∈l,S x)->(∀x∈m,S x)->(Du g l m=0↔l=m)
 | [],[],_,_,_=>by simp [Du]
 | x::xs,y::ys,b,h1,h2=>by
  simp only [Du,Alf,h.zero x y (h1 x (by simp)) (h2 y (by simp)),Alg h xs ys (by simpa using b) (fun z c=>h1 z (by simp [c])) (fun z c=>h2 z (by simp [c])),List.cons.injEq]
 | [],_::_,b,_,_=>by simp at b
 | _::_,[],b,_,_=>by simp at b
theorem Alh {α:Type} {S:α->Prop} {g:α->α->Int} (h:Dv S g):∀l m:List α,l.length=m.length->(∀x∈l,S x)->(∀x∈m,S x)->Du g m l = - Du g l m
 | [],[],_,_,_=>by simp [Du]
 | x::xs,y::ys,b,h1,h2=>by
  simp only [Du,h.anti x y (h1 x (by simp)) (h2 y (by simp)),Alh h xs ys (by simpa using b) (fun z c=>h1 z (by simp [c])) (fun z c=>h2 z (by simp [c]))]
  unfold C9; split <;> split <;> omega
 | [],_::_,b,_,_=>by simp at b
 | _::_,[],b,_,_=>by simp at b
theorem Ali {α:Type} {S:α->Prop} {g:α->α->Int} (h:Dv S g):∀l m n:List α,l.length=m.length->m.length=n.length->(∀x∈l,S x)->(∀x∈m,S x)->(∀x∈n,S x)->Du g l m<0->Du g m n<0->Du g l n<0
 | [],[],_,_,_,_,_,_=>by intro h; simp [Du] at h
 | x::xs,y::ys,z::j,f,i,h1,h2,h3=>by
  simp only [Du,Ale]
  have k:=h.zero x y (h1 x (by simp)) (h2 y (by simp))
  have z2:=h.zero y z (h2 y (by simp)) (h3 z (by simp))
  have t1:=h.trans x y z (h1 x (by simp)) (h2 y (by simp)) (h3 z (by simp))
  have t2:=Ali h xs ys j (by simpa using f) (by simpa using i) (fun z c=>h1 z (by simp [c])) (fun z c=>h2 z (by simp [c])) (fun z c=>h3 z (by simp [c]))
  rintro (a | ⟨a,s⟩) (b | ⟨b,q⟩)
  .exact .inl (t1 a b)
  .rw [<-z2.1 b]; exact .inl a
  .rw [k.1 a]; exact .inl b
  .rw [<-z2.1 b,a]; exact .inr ⟨rfl,t2 s q⟩
 | _::_,_::_,[],_,i,_,_,_=>by simp at i
 | [],_::_,_,f,_,_,_,_=>by simp at f
 | _::_,[],_,f,_,_,_,_=>by simp at f
theorem Dv.ll {α:Type} {S:α->Prop} {g:α->α->Int} (h:Dv S g):Dv (fun l=>∀x∈l,S x) (LL g):=by
 have c:=Dv.cmpI
 refine ⟨fun a b ha hb=>?_,fun a b ha hb=>?_,fun x y z hx hy q=>?_⟩
 .unfold LL
  split
  .rename_i i; exact Alg h a b i ha hb
  .rename_i i
   rw [E3]
   exact ⟨fun e=>(i (by omega)).elim,fun e=>(i (by rw [e])).elim⟩
 .unfold LL
  by_cases i:a.length=b.length
  .rw [if_pos i,if_pos i.symm]; exact Alh h a b i ha hb
  .rw [if_neg i,if_neg (fun e=>i e.symm)]; exact c.anti _ _ trivial trivial
 .unfold LL
  intro h1 h2
  have neg:∀a b:Int,Go.Ab.Di a b<0->a<b:=by intro a b h; unfold Go.Ab.Di at h; split at h <;> (try split at h) <;> omega
  have f:∀a b:Int,a<b->Go.Ab.Di a b<0:=by intro a b h; unfold Go.Ab.Di; rw [if_pos h]; decide
  by_cases k:x.length=y.length
  .rw [if_pos k] at h1
   by_cases j:y.length=z.length
   .rw [if_pos j] at h2; rw [if_pos (by omega)]; exact Ali h x y z k j hx hy q h1 h2
   .rw [if_neg j] at h2; rw [if_neg (by omega)]
    have:=neg _ _ h2; exact f _ _ (by omega)
  .rw [if_neg k] at h1
   have:=neg _ _ h1
   by_cases j:y.length=z.length
   .rw [if_neg (by omega)]; exact f _ _ (by omega)
   .rw [if_neg j] at h2
    have:=neg _ _ h2
    rw [if_neg (by omega)]; exact f _ _ (by omega)
theorem Alj {α:Type} (g:α->α->Int) (l m:List α) (y:Int):C9 (LL g l m) y=if l.length=m.length then C9 (Du g l m) y else Go.Ab.Di l.length m.length:=by
 unfold LL
 by_cases h:l.length=m.length
 .rw [if_pos h,if_pos h]
 .rw [if_neg h,if_neg h]
  unfold C9
  rw [if_neg (fun e=>h (by have:=E3.1 e; omega))]
theorem Avo:Dv (fun _=>True) Jt :=
 (Dv.or (S:=fun _=>True) (fun t:Es=>t.Var) (fun t=>t.Coef) (fun a b h1 h2=>by cases a; cases b; cases h1; cases h2; rfl) Dv.cmpI Dv.cmpI (fun _ _=>⟨trivial,trivial⟩)).congr fun _ _=>rfl
theorem Avp:Dv (fun _=>True) Ju :=
 (Dv.or (S:=fun _=>True) (fun t:Ey=>t.Terms) (fun t=>t.Const) (fun a b h1 h2=>by cases a; cases b; cases h1; cases h2; rfl) Avo.ll Dv.cmpI (fun _ _=>⟨fun _ _=>trivial,trivial⟩)).congr fun a b=>by
  show Ju a b=C9 (LL Jt a.Terms b.Terms) (Go.Ab.Di a.Const b.Const)
  rw [Alj]; rfl
theorem Avq (i j:A0):Hc i j=C9 (Go.Ab.Di i.Num j.Num) (LL Hc i.Kids j.Kids):=by
 rw [Ad4,Zp]
 unfold C9 LL
 by_cases h:i.Num=j.Num
 .rw [if_pos h,if_pos (E3.2 h)]
 .rw [if_neg h,if_neg (fun e=>h (E3.1 e))]
theorem Aee:∀n:Nat,Dv (fun i=>Cn i<=n) Hc:=by
 intro n
 induction n with
 | zero=>exact ⟨fun a _ ha=>by have:=Eh a; omega,fun a _ ha=>by have:=Eh a; omega,fun a _ _ ha=>by have:=Eh a; omega⟩
 | succ n ih=>
  refine (Dv.or (S:=fun i=>Cn i<=n+1) (fun i:A0=>i.Num) (fun i=>i.Kids) (fun a b h1 h2=>by cases a; cases b; cases h1; cases h2; rfl) Dv.cmpI ih.ll ?_).congr Avq
  intro i hi
  refine ⟨trivial,fun x hx=>?_⟩
  have h1:=Hm hx
  have h2:=Eh i
  show Cn x<=n
  omega
theorem Avr:Dv (fun _=>True) Hc :=
 ⟨fun a b _ _=>(Aee (max (Cn a) (Cn b))).zero a b (by show Cn a<=_; omega) (by show Cn b<=_; omega),fun a b _ _=>(Aee (max (Cn a) (Cn b))).anti a b (by show Cn a<=_; omega) (by show Cn b<=_; omega),
  fun a b c _ _ _=>(Aee (max (Cn a) (max (Cn b) (Cn c)))).trans a b c (by show Cn a<=_; omega) (by show Cn b<=_; omega) (by show Cn c<=_; omega)⟩
theorem Avs:Dv (fun _=>True) Jv :=
 (Dv.or (S:=fun _=>True) (fun t:Cr=>t.Var) (fun t=>t.Index) (fun a b h1 h2=>by cases a; cases b; cases h1; cases h2; rfl) Dv.cmpI Avr (fun _ _=>⟨trivial,trivial⟩)).congr fun _ _=>rfl
theorem Avt:Dv (fun _=>True) Kk :=
 (Dv.or (S:=fun _=>True) (fun t:Eg=>t.Lin) (fun t=>t.Deg) (fun a b h1 h2=>by cases a; cases b; cases h1; cases h2; rfl) Avp Dv.cmpI (fun _ _=>⟨trivial,trivial⟩)).congr fun _ _=>rfl
theorem Aef:Dv (fun _=>True) D0 :=
 (Dv.or (S:=fun _=>True) (fun t:Cb=>t.Factors) (fun t=>t.Atoms) (fun a b h1 h2=>by cases a; cases b; cases h1; cases h2; rfl) Avs.ll Avt.ll (fun _ _=>⟨fun _ _=>trivial,fun _ _=>trivial⟩)).congr fun a b=>by
  show D0 a b=C9 (LL Jv a.Factors b.Factors) (LL Kk a.Atoms b.Atoms)
  rw [Alj]; rfl
theorem Zy {a b:Cb}:D0 a b=0↔a=b:=Aef.zero a b trivial trivial
theorem Alk (a b:Cb):D0 b a = - D0 a b:=Aef.anti a b trivial trivial
theorem Aeg {a b c:Cb} (h:D0 a b<0) (h':D0 b c<0):D0 a c<0:=Aef.trans a b c trivial trivial trivial h h'
end Go.Ab
