/- Plain laws: what the plain functions answer. -/
import Derived.Test.YthhfdmfhkfdfkaaGreatDoorPePl2
import Derived.Test.YthhfdmfhkfdfkaaGreatDoorPePl1
import Derived.KernelRfl
namespace Go.Ab
open Go
structure Pb (data:List Ao) (vars:List Ag) (res:Ag):Prop where
 vd:Gv data
 sh:Hf data
 sz:∀v t,Dl vars res v=some t->A6 t<=200
 nv:vars.length<=3000
theorem Ays (vars:List Ag) (res:Ag) (v:Int):(Dl vars res v).isSome=decide (-1<=v/\v<vars.length):=by
 unfold Dl;by_cases h:v = -1
 .rw [if_pos h]; subst h; rw [An ω]; rfl
 .rw [if_neg h];cases hx:Ae vars v with
  | none=>rcases O7 hx with h' | h' <;> rw [Aq ω] <;> rfl
  | some t=>have:=Ec hx; rw [An ω]; rfl
section
variable (b1:List (ByteArray×Int)) (b2:List (ByteArray×List D2)) (data:List Ao) (vars:List Ag) (res:Ag)
theorem Aod (v:Int) (f c:Int) (b:List Ag):Qm v b1 b2 data vars f c b=some (Dl vars res v).isSome:=by
 rw [Ays];unfold Qm;by_cases h:v>=-1
 .rw [An h];by_cases h':v<(vars.length:Int)
  .rw [An h',An ⟨h,h'⟩]; rfl
  .rw [Aq h',Aq (λg=>h' g.2)]; rfl
 .rw [Aq h,Aq (λg : -1<=v/\v<(vars.length:Int)=>h g.1)]; rfl
theorem Agm {v:Int} {t:Ag} (ht:Dl vars res v=some t):K4 v b1 b2 data vars res.Kind res.Num res.Args=some t:=by
 unfold K4;unfold Dl at ht;by_cases h:v = -1
 .rw [if_pos h] at ht; cases ht;have b:(Ag.mk res.Kind res.Num res.Args)=res:=(by cases res; rfl);rw [Ct h,b]; rfl
 .rw [if_neg h] at ht;rw [Bz h,ht]; rfl
def Pc (t:Dv):Bool:=match Dl vars res t.Var with | some u=>u.Kind==1 | none=>false
def Kk (l:De):Bool:=l.Terms.all (Pc vars res)
theorem Ayt (l:De) (c:l.Terms.length<=1048576):Qg l b1 b2 data vars res.Kind res.Num res.Args=some (Kk vars res l):=by
 unfold Qg Zu Z2;have key:=Afq l.Terms (λt=>!Pc vars res t) ω (J:=λz=>match z with | .inl b=>some b | .inr _=>some (-1)) (step:=λv3=>bif v3<(l.Terms.length:Int) then ((Ae l.Terms v3).bind λv4=>(S6 v4 b1 b2 data vars res.Kind res.Num res.Args).bind λv5=>bif v5 then some (.inr (.inl v3)) else some (.inl (Aa (v3+1)))) else some (.inr (.inr ()))) (by intro j x hx h1 h2 h3;have e:S6 x b1 b2 data vars res.Kind res.Num res.Args=some (!Pc vars res x):=(by unfold S6 Pc;rw [Aod b1 b2 data vars res,Ad];cases ht:Dl vars res x.Var with| none=>rfl| some t=>rw [Agm b1 b2 data vars res ht]; rfl);simp only [h1,h2,h3,cond_true,Ad,e]) (λh=>by simp only [h]; rfl) (λ_=>rfl) rfl
 obtain ⟨i,i1,i2⟩:=key
 erw [i1];simp only [Ad,i2];congr 1;unfold Kk;rw [List.any_eq_not_all_not]; simp
theorem Abv (x:B8) (v:Int):Lx x v=some (match Dl x.Vars x.Res v with | some t=>(t,true) | none=>(⟨0,0,[]⟩,false)):=by
 unfold Lx Dl;by_cases h:v = -1
 .rw [Ct h,if_pos h]; rfl
 .rw [Bz h,if_neg h];cases hx:Ae x.Vars v with
  | none=>
   rcases O7 hx with h' | h'
   .simp only [An h',cond_true,cond_false,Ad]
   .by_cases h0:v<0
    .simp only [An h0,cond_true,cond_false,Ad]
    .simp only [Aq h0,An (show v>=(x.Vars.length:Int) from h'),cond_true,cond_false,Ad]
  | some t=>obtain ⟨a1,a2,_⟩:=Ec hx;simp only [Aq (by omega:¬v<0),Aq (by omega:¬v>=(x.Vars.length:Int)),cond_false,Ad]
theorem Ayu (x:B8) (l:De) (b:l.Terms.length<=1048576):Qt x l=some (Kk x.Vars x.Res l):=by
 unfold Qt;refine (Ld l.Terms (Pc x.Vars x.Res) (λj=>(j:Int)) rfl ω (rt:=true) (rf:=false) ?_ ?_).trans (by rw [Kf]; rfl)
 .intro j t ht h1 h2 h3;simp only [h1,h2,h3,cond_true,Ad,Abv];unfold Pc;cases hu:Dl x.Vars x.Res t.Var with
  | none=>exact ⟨(λh=>by cases h),λ_=>⟨.inl false,rfl,rfl⟩⟩
  | some u=>
   simp only [D3,cond_false];by_cases hk:u.Kind=1
   .rw [Ct hk,Cp hk];exact ⟨λ_=>rfl,λh=>by cases h⟩
   .rw [Bz hk,Cs hk];exact ⟨(λh=>by cases h),λ_=>⟨.inl false,rfl,rfl⟩⟩
 .intro h; exact ⟨.inr (),by simp only [h]; rfl,rfl⟩
def Ez (f:Cn):Int:=match Dl vars res f.Var with | some t=>Gb (Ee data f.Index t) | none => -1
theorem Agn (f:Cn) : -1<=Ez data vars res f/\Ez data vars res f<=6:=by
 unfold Ez;cases Dl vars res f.Var with
 | none=>simp
 | some t=>rcases Xr (Ee data f.Index t) with ⟨h,_⟩ | ⟨d,_,h2,h⟩ <;> simp only [h] <;> omega
def Nc (m:Bw):Bool:=m.Factors.all (λf=>decide (0<=Ez data vars res f))&&m.Atoms.all (λa=>decide (0<=a.Deg)&&Kk vars res a.Lin)
def Dz (l:List Cn):Int:=(l.map (Ez data vars res)).sum
def E6 (l:List Cb):Int:=(l.map (·.Deg)).sum
def Ua (l:List Cb) (x:Cb) (j:Nat):Bool:=j==0||(match l[j-1]? with | some y=>decide (Ki y.Lin x.Lin<0) | none=>false)
def Lm (l:List Cn) (f:Cn) (j:Nat):Bool:=decide (1<=Ez data vars res f)&&Jw (·.Var) l f j
def Ip (l:List Cb) (a:Cb) (j:Nat):Bool:=decide (1<=a.Deg)&&Hg a.Lin && !(a.Lin.Terms.length==0)&&Kk vars res a.Lin&&Ua l a j
def Gw (m:Bw):Bool:=m.Factors.zipIdx.all (λq=>Lm data vars res m.Factors q.1 q.2)&&m.Atoms.zipIdx.all (λq=>Ip vars res m.Atoms q.1 q.2)&&decide (Dz data vars res m.Factors+E6 m.Atoms<=6)
variable {b1 data vars res}
theorem Ago (hc:Pb data vars res) (h:F8 data vars res b1) (f:Cn) (hv:I64 f.Var) (g:iR f.Index) (hi:C1 f.Index<=1048576) (b:(Dl vars res f.Var).isSome=true) : ∃c,L7 f.Var f.Index b1 b2 data vars res.Kind res.Num res.Args=some (Ez data vars res f,c)/\F8 data vars res c:=by cases ht:Dl vars res f.Var with| none=>rw [ht] at b; cases b| some t=>obtain ⟨c,h1,h2⟩:=Ayl hc.vd.szv hc.sh b1 b2 vars res h f.Var f.Index t ht (hc.sz _ _ ht) hv g hi;refine ⟨c,?_,h2⟩;rw [h1]; unfold Ez; rw [ht]
theorem Ayv (hc:Pb data vars res) (U:F8 data vars res b1) (m:Bw) (k:MSz m) :
  ∃l,V6 m b1 b2 data vars res.Kind res.Num res.Args=some (Nc data vars res m,l)/\F8 data vars res l:=by
 have V:=k.nf
 have ha:=k.na
 unfold V6
 refine Afk (λl=>(Nc data vars res m,l)) ?_
 obtain ⟨r,N,L⟩:=Xb (M:=List (ByteArray×Int)) (R:=Bool×List (ByteArray×Int)) m.Factors (λq=>decide (0<=Ez data vars res q.1)) (λj o=>((j:Int),o)) (F8 data vars res)
  (λr=>F8 data vars res r.2/\r.1=m.Atoms.all (λa=>decide (0<=a.Deg)&&Kk vars res a.Lin)) (λr=>F8 data vars res r.2/\r.1=false) b1
  (s0:=((0:Int),b1))
  (step:=(λ(y,u)=>
   bif y<(m.Factors.length:Int) then (
   (Ae m.Factors y).bind λv8=>
   (Qm v8.Var u b2 data vars res.Kind res.Num res.Args).bind λA=>
   bif (!A) then some (.inr (.inl (false,u)))
   else (
   (L7 v8.Var v8.Index u b2 data vars res.Kind res.Num res.Args).bind λv11=>
   bif v11.1<(0:Int) then some (.inr (.inl (false,v11.2)))
   else some (.inl ((Aa (y+1)),v11.2))))
   else some (.inr (.inr u)):Int×List (ByteArray×Int)->Option ((Int×List (ByteArray×Int))⊕((Bool×List (ByteArray×Int))⊕List (ByteArray×Int)))))
  (J:=(λz=>match z with
   | .inl (I,G)=>some (I,G)
   | .inr b=>(Al (S:=Int) (E:=((Bool×(List (ByteArray×Int)))⊕Unit)) (λc=>
     bif c<(m.Atoms.length:Int) then (
     (Ae m.Atoms c).bind λs=>
     bif s.Deg<(0:Int) then some (.inr (.inl (false,b)))
     else (
     (Qg s.Lin b b2 data vars res.Kind res.Num res.Args).bind λv21=>
     bif (!v21) then some (.inr (.inl (false,b)))
     else some (.inl (Aa (c+1)))))
     else some (.inr (.inr ()))) 0).bind λz=>match z with
      | .inl (D,B)=>some (D,B)
      | .inr _=>some (true,b)))
  rfl U ω (by
   intro j f o x hx _ h1 h2 h3
   have i:=Bg hx
   simp only [h1,h2,h3,cond_true,Ad,Aod o b2 data vars res]
   cases g:(Dl vars res f.Var).isSome with
   | false=>
    have e:Ez data vars res f = -1:=by
     unfold Ez
     cases ht:Dl vars res f.Var with
     | none=>rfl
     | some t=>rw [ht] at g; cases g
    rw [e]
    exact ⟨(λh=>by cases h),λ_=>⟨_,rfl,_,rfl,x,rfl⟩⟩
   | true=>
    obtain ⟨l,d1,d2⟩:=Ago b2 hc x f (k.fr f i).2 (k.fr f i).1 (k.fi f i) g
    simp only [D3,cond_false,d1,Ad]
    by_cases h0:0<=Ez data vars res f
    .rw [An h0,Aq ω]
     exact ⟨λ_=>⟨l,rfl,d2⟩,λh=>by cases h⟩
    .rw [Aq h0,An ω]
     exact ⟨(λh=>by cases h),λ_=>⟨_,rfl,_,rfl,d2,rfl⟩⟩) (by
   intro o x h1 _
   refine ⟨.inr o,by simp only [h1]; rfl,?_⟩
   refine ⟨(m.Atoms.all (λa=>decide (0<=a.Deg)&&Kk vars res a.Lin),o),?_,x,rfl⟩
   refine (Ld m.Atoms (λa=>decide (0<=a.Deg)&&Kk vars res a.Lin) (λj=>(j:Int)) rfl ω (rt:=(true,o)) (rf:=(false,o)) ?_ ?_).trans (by cases m.Atoms.all (λa=>decide (0<=a.Deg)&&Kk vars res a.Lin) <;> rfl)
   .intro j a hx h1 h2 h3
    simp only [h1,h2,h3,cond_true,Ad,Ayt o b2 data vars res a.Lin (k.al a (Bg hx))]
    by_cases h0:0<=a.Deg
    .rw [An h0,Aq ω]
     cases Kk vars res a.Lin with
     | true=>exact ⟨λ_=>rfl,λh=>by cases h⟩
     | false=>exact ⟨(λh=>by cases h),λ_=>⟨_,rfl,rfl⟩⟩
    .rw [Aq h0,An ω]
     exact ⟨(λh=>by cases h),λ_=>⟨_,rfl,rfl⟩⟩
   .intro h; exact ⟨.inr (),by simp only [h]; rfl,rfl⟩)
 refine ⟨r,N,r.2,?_,?_⟩
 .unfold Nc
  rw [<-Aax]
  rcases L with ⟨h1,h2,h3⟩ | ⟨h1,h2,h3⟩
  .rw [h1,Bool.true_and,<-h3]
  .rw [h1,Bool.false_and,<-h3]
 .rcases L with ⟨h1,h2,h3⟩ | ⟨h1,h2,h3⟩ <;> exact h2
theorem Aoe (g:Cn->Int) {l:List Cn} {j:Nat} {x:Cn} (h:l[j]? = some x):((l.take (j+1)).map g).sum=((l.take j).map g).sum+g x:=by rw [Cu h]; simp
theorem Aof {l:List Cb} {j:Nat} {x:Cb} (h:l[j]? = some x):E6 (l.take (j+1))=E6 (l.take j)+x.Deg:=by unfold E6; rw [Cu h]; simp
theorem Ayw (hc:Pb data vars res) (z:F8 data vars res b1) (m:Bw) (k:MSz m) (hp:Nc data vars res m=true) : ∃p:Int×List (ByteArray×Int),V7 m b1 b2 data vars res.Kind res.Num res.Args=some p/\(decide (p.1>6) = !decide (Dz data vars res m.Factors+E6 m.Atoms<=6))/\F8 data vars res p.2:=by
 have B:=k.nf;have ha:=k.na;unfold Nc at hp;rw [Ca,List.all_eq_true,List.all_eq_true] at hp;unfold V7;refine C6 (λ(v5,s,g)=>∃j:Nat,s=j/\j<=m.Factors.length/\F8 data vars res g/\0<=v5/\v5<=12/\(v5=Dz data vars res (m.Factors.take j)\/(6<v5/\6<Dz data vars res (m.Factors.take j)))) (λ(_,s,_)=>m.Factors.length-s.toNat) (λ(v5,g)=>F8 data vars res g/\0<=v5/\v5<=12/\(v5=Dz data vars res m.Factors\/(6<v5/\6<Dz data vars res m.Factors))) ⟨0,rfl,ω,z,ω,ω,.inl (by simp [Dz])⟩ ?_ ?_
 .rintro ⟨v5,s,g⟩ ⟨j,rfl,hj,l,h0,h12,hv⟩;rcases Nat.lt_or_ge j m.Factors.length with h | h
  .have hx:m.Factors[j]? = some m.Factors[j]:=Be h;generalize m.Factors[j]=f at hx;have c:=Bg hx;have hd:=hp.1 f c;rw [decide_eq_true_eq] at hd;have A:=(Agn data vars res f).2;have es:Dz data vars res (m.Factors.take (j+1))=Dz data vars res (m.Factors.take j)+Ez data vars res f:=Aoe _ hx;simp only [An (by omega:(j:Int)<(m.Factors.length:Int)),cond_true,Bi rfl hx,Ad,Co h ω];by_cases q:v5<=6
   .have u:(Dl vars res f.Var).isSome=true:=by
     unfold Ez at hd;cases ht:Dl vars res f.Var with
     | none=>rw [ht] at hd; have hd:(0:Int)<=-1:=hd; omega
     | some t=>rfl
    obtain ⟨D,d1,d2⟩:=Ago b2 hc l f (k.fr f c).2 (k.fr f c).1 (k.fi f c) u;rw [An q];simp only [cond_true,d1,Ad];have b:Aa (v5+Ez data vars res f)=v5+Ez data vars res f:=(by rw [Aa,B4] <;> omega);exact .inl ⟨_,rfl,⟨j+1,rfl,ω,d2,by simp only [b]; omega,by simp only [b]; omega,by simp only [b,es]; omega⟩,by simp; omega⟩
   .rw [Aq q];exact .inl ⟨_,rfl,⟨j+1,rfl,ω,l,h0,h12,by simp only [es]; omega⟩,by simp; omega⟩
  .have:j=m.Factors.length:=ω;subst this;rw [List.take_length] at hv;exact .inr ⟨(v5,g),ψ,l,h0,h12,hv⟩
 .rintro ⟨v5,g⟩ ⟨l,h0,h12,hv⟩;simp only;refine C6 (λ(v,i)=>∃j:Nat,i=j/\j<=m.Atoms.length/\0<=v/\v<=13/\(v=Dz data vars res m.Factors+E6 (m.Atoms.take j)\/(6<v/\6<Dz data vars res m.Factors+E6 (m.Atoms.take j)))) (λ(_,i)=>m.Atoms.length-i.toNat) (λv=>(v=Dz data vars res m.Factors+E6 m.Atoms\/(6<v/\6<Dz data vars res m.Factors+E6 m.Atoms))) ⟨0,rfl,ω,h0,ω,by simpa [E6] using hv⟩ ?_ ?_
  .rintro ⟨v,i⟩ ⟨j,rfl,hj,g0,g13,y⟩;rcases Nat.lt_or_ge j m.Atoms.length with h | h
   .have hx:m.Atoms[j]? = some m.Atoms[j]:=Be h;generalize m.Atoms[j]=a at hx;have hd:=hp.2 a (Bg hx);rw [Ca,decide_eq_true_eq] at hd;have es:=Aof hx;simp only [An (by omega:(j:Int)<(m.Atoms.length:Int)),cond_true,Bi rfl hx,Ad,Co h ω];by_cases q:v<=6
    .rw [An q];simp only [cond_true];by_cases x:7<a.Deg
     .rw [if_pos x];have b:Aa (v+7)=v+7:=(by rw [Aa,B4] <;> omega);exact .inl ⟨_,rfl,⟨j+1,rfl,ω,by simp only [b]; omega,by simp only [b]; omega,by simp only [b,es]; omega⟩,by simp; omega⟩
     .rw [if_neg x];have b:Aa (v+a.Deg)=v+a.Deg:=(by rw [Aa,B4] <;> omega);exact .inl ⟨_,rfl,⟨j+1,rfl,ω,by simp only [b]; omega,by simp only [b]; omega,by simp only [b,es]; omega⟩,by simp; omega⟩
    .rw [Aq q];exact .inl ⟨_,rfl,⟨j+1,rfl,ω,g0,g13,by simp only [es]; omega⟩,by simp; omega⟩
   .have:j=m.Atoms.length:=ω;subst this;rw [List.take_length] at y;exact .inr ⟨v,ψ,y⟩
  .intro v hv;refine ⟨(v,g),rfl,?_,l⟩;by_cases h:Dz data vars res m.Factors+E6 m.Atoms<=6
   .rw [An h,Aq (by simp only; omega)]; rfl
   .rw [Aq h,An (by simp only; omega)]; rfl
end
end Go.Ab
namespace Go.Ab
open Go
theorem Aog {S E:Type} (F:De->De->Option Int) (l:List Cb) (g:∀y∈l,∀x,F y.Lin x=some (Ki y.Lin x)) {x:Cb} {j:Nat} (hx:l[j]? = some x) (i:l.length<4611686018427387904) (c b:Option (S⊕E)) : (bif decide ((j:Int)>0) then ((Ae l (Aa ((j:Int)-1))).bind λf=>(F f.Lin x.Lin).bind λv28=>bif decide (v28>=0) then c else b) else b)=bif Ua l x j then b else c:=by
 have hj:=Dr hx;unfold Ua;by_cases h:j=0
 .subst h; rfl
 .rw [An ω];have e:Aa ((j:Int)-1)=((j-1:Nat):Int):=(by rw [Aa,B4] <;> omega);have hy:l[j-1]? = some l[j-1]:=Be ω;rw [e,Bi rfl hy,hy];have h0:(j==0)=false:=(by simpa using h);simp only [cond_true,Ad,h0,Bool.false_or,g _ (List.getElem_mem (by omega:j-1<l.length))];by_cases hc:Ki l[j-1].Lin x.Lin<0
  .rw [Aq ω,An hc]; rfl
  .rw [An ω,Aq hc]; rfl
section
variable {b1:List (ByteArray×Int)} (b2:List (ByteArray×List D2)) {data:List Ao} {vars:List Ag} {res:Ag}
def Xu (data:List Ao) (vars:List Ag) (res:Ag) (l:List Cn) (f:Cn) (j:Nat):Bool:=!(Ez data vars res f==0)&&Jw (·.Var) l f j
def Pd (l:List Cb) (a:Cb) (j:Nat):Bool:=!(a.Deg==0)&&Hg a.Lin && !(a.Lin.Terms.length==0)&&Ua l a j
theorem Ayx (m:Bw):Gw data vars res m=(Nc data vars res m&&decide (Dz data vars res m.Factors+E6 m.Atoms<=6)&&m.Factors.zipIdx.all (λq=>Xu data vars res m.Factors q.1 q.2)&&m.Atoms.zipIdx.all (λq=>Pd m.Atoms q.1 q.2)):=by
 rw [Bool.eq_iff_iff];unfold Gw Nc;rw [<-Aax m.Factors (λf=>decide (0<=Ez data vars res f)),<-Aax m.Atoms (λa=>decide (0<=a.Deg)&&Kk vars res a.Lin)];simp only [Ca,List.all_eq_true,Lm,Ip,Xu,Pd,decide_eq_true_eq,Bool.not_eq_true',beq_eq_false_iff_ne,ne_eq];constructor
 .rintro ⟨⟨h1,h2⟩,h3⟩;refine ⟨⟨⟨⟨λq hq=>?_,λq hq=>?_⟩,h3⟩,λq hq=>?_⟩,λq hq=>?_⟩
  .have:=(h1 q hq).1; omega
  .have:=h2 q hq; exact ⟨ω,this.1.2⟩
  .have:=h1 q hq; exact ⟨ω,this.2⟩
  .have:=h2 q hq; exact ⟨⟨⟨ω,this.1.1.1.2⟩,this.1.1.2⟩,this.2⟩
 .rintro ⟨⟨⟨⟨h1,h2⟩,h3⟩,h4⟩,b⟩;refine ⟨⟨λq hq=>?_,λq hq=>?_⟩,h3⟩
  .have:=h1 q hq; have g:=h4 q hq; exact ⟨ω,g.2⟩
  .have:=h2 q hq; have g:=b q hq; exact ⟨⟨⟨⟨ω,g.1.1.2⟩,g.1.2⟩,this.2⟩,g.2⟩
theorem Ayy (hc:Pb data vars res) (hm:F8 data vars res b1) (m:Bw) (i:MSz m) :
  ∃u,Su m b1 b2 data vars res.Kind res.Num res.Args=some (Gw data vars res m,u)/\F8 data vars res u:=by
 have hf:=i.nf
 have ha:=i.na
 rw [Ayx]
 unfold Su
 obtain ⟨b,p1,Y⟩:=Ayv b2 hc hm m i
 rw [p1]
 cases hp:Nc data vars res m with
 | false=>exact ⟨b,rfl,Y⟩
 | true=>
  obtain ⟨q,q1,q2,X⟩:=Ayw b2 hc Y m i hp
  simp only [Ad,D3,cond_false,q1,q2]
  cases hs:decide (Dz data vars res m.Factors+E6 m.Atoms<=6) with
  | false=>exact ⟨q.2,rfl,X⟩
  | true=>
   simp only [D3,cond_false,Bool.true_and]
   have N:∀f∈m.Factors,(Dl vars res f.Var).isSome=true:=by
    intro f c
    unfold Nc at hp
    rw [Ca,List.all_eq_true] at hp
    have hd:=hp.1 f c
    rw [decide_eq_true_eq] at hd
    unfold Ez at hd
    cases ht:Dl vars res f.Var with
    | none=>rw [ht] at hd; have hd:(0:Int)<=-1:=hd; omega
    | some t=>rfl
   obtain ⟨r,Z,V⟩:=Xb (M:=List (ByteArray×Int)) (R:=Bool×List (ByteArray×Int)) m.Factors (λq=>Xu data vars res m.Factors q.1 q.2) (λj o=>((j:Int),o)) (F8 data vars res)
    (λr=>F8 data vars res r.2/\r.1=m.Atoms.zipIdx.all (λq=>Pd m.Atoms q.1 q.2)) (λr=>F8 data vars res r.2/\r.1=false) q.2
    (s0:=((0:Int),q.2))
    (step:=(λ(v9,l)=>
     bif v9<(m.Factors.length:Int) then (
     (Ae m.Factors v9).bind λv11=>
     (L7 v11.Var v11.Index l b2 data vars res.Kind res.Num res.Args).bind λg=>
     bif (g.1==(0:Int)) then some (.inr (.inl (false,g.2)))
     else (
     bif v9>(0:Int) then (
     (Ae m.Factors (Aa (v9-1))).bind λB=>
     bif B.Var>=v11.Var then some (.inr (.inl (false,g.2)))
     else some (.inl ((Aa (v9+1)),g.2)))
     else some (.inl ((Aa (v9+1)),g.2))))
     else some (.inr (.inr l)):Int×List (ByteArray×Int)->Option ((Int×List (ByteArray×Int))⊕((Bool×List (ByteArray×Int))⊕List (ByteArray×Int)))))
    (J:=(λz=>match z with
     | .inl (L,I)=>some (L,I)
     | .inr k=>(Al (S:=Int) (E:=((Bool×(List (ByteArray×Int)))⊕Unit)) (λv22=>
       bif v22<(m.Atoms.length:Int) then (
       (Ae m.Atoms v22).bind λv23=>
       (show OB from
       bif (v23.Deg==(0:Int)) then some true
       else (
       (Mv v23.Lin).bind λv25=>
       bif (!v25) then some true
       else some ((v23.Lin.Terms.length:Int)==(0:Int)))).bind λv26=>
       bif v26 then some (.inr (.inl (false,k)))
       else (
       bif v22>(0:Int) then (
       (Ae m.Atoms (Aa (v22-1))).bind λA=>
       (K9 A.Lin v23.Lin).bind λv28=>
       bif v28>=(0:Int) then some (.inr (.inl (false,k)))
       else some (.inl (Aa (v22+1))))
       else some (.inl (Aa (v22+1)))))
       else some (.inr (.inr ()))) 0).bind λz=>match z with
        | .inl (G,D)=>some (G,D)
        | .inr _=>some (true,k)))
    rfl X ω (by
     intro j f o U hx _ h1 h2 h3
     have c:=Bg hx
     obtain ⟨u,d1,d2⟩:=Ago b2 hc U f (i.fr f c).2 (i.fr f c).1 (i.fi f c) (N f c)
     simp only [h1,h2,h3,cond_true,Ad,d1,Agl (·.Var) m.Factors hx ω,Xu]
     cases (Ez data vars res f==0) with
     | true=>exact ⟨(λh=>by cases h),λ_=>⟨_,rfl,_,rfl,d2,rfl⟩⟩
     | false=>
      cases Jw (·.Var) m.Factors f j with
      | true=>exact ⟨λ_=>⟨u,rfl,d2⟩,λh=>by cases h⟩
      | false=>exact ⟨(λh=>by cases h),λ_=>⟨_,rfl,_,rfl,d2,rfl⟩⟩) (by
     intro o U h1 _
     refine ⟨.inr o,by simp only [h1]; rfl,?_⟩
     refine ⟨(m.Atoms.zipIdx.all (λq=>Pd m.Atoms q.1 q.2),o),?_,U,rfl⟩
     refine (M5 m.Atoms (λq=>Pd m.Atoms q.1 q.2) (λj=>(j:Int)) rfl ω (rt:=(true,o)) (rf:=(false,o)) ?_ ?_).trans (by cases m.Atoms.zipIdx.all (λq=>Pd m.Atoms q.1 q.2) <;> rfl)
     .intro j a hx _ h1 h2 h3
      have s:((a.Lin.Terms.length:Int)==(0:Int))=(a.Lin.Terms.length==0):=Af3 a.Lin.Terms 0
      simp only [h1,h2,h3,cond_true,Ad,Ayr,Aog K9 m.Atoms (λy hy x=>An9 y.Lin x (by have:=i.al y hy; omega)) hx ω,Pd,s]
      cases (a.Deg==0) with
      | true=>exact ⟨(λh=>by cases h),λ_=>⟨_,rfl,rfl⟩⟩
      | false=>
       cases Hg a.Lin with
       | false=>exact ⟨(λh=>by cases h),λ_=>⟨_,rfl,rfl⟩⟩
       | true=>
        cases (a.Lin.Terms.length==0) with
        | true=>exact ⟨(λh=>by cases h),λ_=>⟨_,rfl,rfl⟩⟩
        | false=>
         cases Ua m.Atoms a j with
         | true=>exact ⟨λ_=>rfl,λh=>by cases h⟩
         | false=>exact ⟨(λh=>by cases h),λ_=>⟨_,rfl,rfl⟩⟩
     .intro h _; exact ⟨.inr (),by simp only [h]; rfl,rfl⟩)
   refine ⟨r.2,?_,?_⟩
   .have e:some r=some (m.Factors.zipIdx.all (λq=>Xu data vars res m.Factors q.1 q.2)&&m.Atoms.zipIdx.all (λq=>Pd m.Atoms q.1 q.2),r.2):=by
     rcases V with ⟨h1,h2,h3⟩ | ⟨h1,h2,h3⟩
     .rw [h1,Bool.true_and,<-h3]
     .rw [h1,Bool.false_and,<-h3]
    rw [<-e]
    exact Z
   .rcases V with ⟨h1,h2,h3⟩ | ⟨h1,h2,h3⟩ <;> exact h2
theorem Aoh (l:List Cn):Dz data vars res l<=6*l.length/\-(l.length:Int)<=Dz data vars res l:=by induction l with| nil=>simp [Dz]| cons x xs ih=>have:=Agn data vars res x;unfold Dz at *;simp only [List.map_cons,List.sum_cons,List.length_cons];omega
theorem Aoi (l:List Cn) (h:∀f∈l,0<=Ez data vars res f):0<=Dz data vars res l:=by induction l with| nil=>simp [Dz]| cons x xs ih=>have h1:=h x ψ;have h2:=ih (λf b=>h f (by simp [b]));unfold Dz at *;simp only [List.map_cons,List.sum_cons];omega
theorem Xv (l:List Cb) (h:∀a∈l,0<=a.Deg):0<=E6 l/\((∀a∈l,a.Deg<=6)->E6 l<=6*l.length)/\∀a∈l,a.Deg<=E6 l:=by
 induction l with
 | nil=>simp [E6]
 | cons x xs ih=>
  have h1:=h x ψ;obtain ⟨i1,i2,i3⟩:=ih (λf b=>h f (by simp [b]));unfold E6 at *;simp only [List.map_cons,List.sum_cons,List.length_cons];refine ⟨ω,λg=>?_,λa ha=>?_⟩
  .have:=g x ψ;have:=i2 (λa ha=>g a (by simp [ha]));omega
  .rcases List.mem_cons.1 ha with rfl | ha
   .omega
   .have:=i3 a ha; omega
end
theorem Ayz {x:B8} (hc:Pb x.Data x.Vars x.Res) (m:Bw) (G:MSz m):∃v,V1 x m=some v/\decide (v<0) = !Gw x.Data x.Vars x.Res m:=by
 have hf:=G.nf
 have ha:=G.na
 unfold V1
 have U:∀n,m.Factors.zipIdx.all (λq=>Lm x.Data x.Vars x.Res m.Factors q.1 q.2)=true->0<=Dz x.Data x.Vars x.Res (m.Factors.take n):=by
  intro n h
  refine Aoi _ (λf hf=>?_)
  obtain ⟨j,hj⟩:=List.getElem?_of_mem (List.mem_of_mem_take hf)
  have:=Ge h hj
  simp only [Lm,Ca,decide_eq_true_eq] at this
  omega
 have V:m.Factors.zipIdx.all (λq=>Lm x.Data x.Vars x.Res m.Factors q.1 q.2)=false->Gw x.Data x.Vars x.Res m=false:=by
  intro h; unfold Gw; rw [h]; rfl
 obtain ⟨r,r1,r2⟩:=Xb (M:=Unit) (R:=Int) m.Factors (λq=>Lm x.Data x.Vars x.Res m.Factors q.1 q.2) (λj _=>(Dz x.Data x.Vars x.Res (m.Factors.take j),(j:Int))) (λ_=>True)
  (λv=>decide (v<0) = !Gw x.Data x.Vars x.Res m) (λv=>v = -1) ()
  (s0:=((0:Int),(0:Int)))
  (step:=(λ(v9,c)=>
   bif c<(m.Factors.length:Int) then (
   (Ae m.Factors c).bind λv11=>
   (Lx x v11.Var).bind λD=>
   (show OB from
   bif (!D.2) then some true
   else (
   bif c>(0:Int) then (
   (Ae m.Factors (Aa (c-1))).bind λs=>
   some (decide (s.Var>=v11.Var)))
   else some false)).bind λZ=>
   bif Z then some (.inr (.inl (-1)))
   else (
   (Ta x.Data D.1 v11.Index).bind λv17=>
   bif v17<(1:Int) then some (.inr (.inl (-1)))
   else some (.inl ((Aa (v9+v17)),(Aa (c+1))))))
   else some (.inr (.inr v9)):Int×Int->Option ((Int×Int)⊕(Int⊕Int))))
  (J:=(λz=>match z with
   | .inl a1=>some a1
   | .inr Y=>(Al (S:=(Int×Int)) (E:=(Int⊕Int)) (λ(v24,v25)=>
     bif v25<(m.Atoms.length:Int) then (
     (Ae m.Atoms v25).bind λv26=>
     (Ob v26.Lin).bind λv28=>
     bif (!v28) then some (.inr (.inl (-1)))
     else (
     bif ((v26.Lin.Terms.length:Int)==(0:Int)) then some (.inr (.inl (-1)))
     else (
     (Qt x v26.Lin).bind λl=>
     bif (!l) then some (.inr (.inl (-1)))
     else (
     bif v25>(0:Int) then (
     (Ae m.Atoms (Aa (v25-1))).bind λk=>
     (M1 k.Lin v26.Lin).bind λv31=>
     bif v31>=(0:Int) then some (.inr (.inl (-1)))
     else (
     bif v26.Deg<(1:Int) then some (.inr (.inl (-1)))
     else (
     bif v26.Deg>(6:Int) then some (.inr (.inl (-1)))
     else some (.inl ((Aa (v24+v26.Deg)),(Aa (v25+1)))))))
     else (
     bif v26.Deg<(1:Int) then some (.inr (.inl (-1)))
     else (
     bif v26.Deg>(6:Int) then some (.inr (.inl (-1)))
     else some (.inl ((Aa (v24+v26.Deg)),(Aa (v25+1))))))))))
     else some (.inr (.inr v24))) (Y,0)).bind λz=>match z with
      | .inl u=>some u
      | .inr v33=>bif v33>(6:Int) then some (-1) else some v33))
  (by simp [Dz]) trivial ω (by
   intro j f _ _ hx _ h1 h2 h3
   have aa:=Bg hx
   have hj:=Dr hx
   have a6:(bif decide ((j:Int)>0) then ((Ae m.Factors (Aa ((j:Int)-1))).bind λs=>some (decide (s.Var>=f.Var))) else some false)=some (!Jw (·.Var) m.Factors f j):=by
    unfold Jw
    by_cases h:j=0
    .subst h; rfl
    .rw [An ω]
     have e:Aa ((j:Int)-1)=((j-1:Nat):Int):=by rw [Aa,B4] <;> omega
     have hy:m.Factors[j-1]? = some m.Factors[j-1]:=Be ω
     rw [e,Bi rfl hy,hy]
     have h0:(j==0)=false:=by simpa using h
     simp only [cond_true,Ad,h0,Bool.false_or]
     by_cases hc:m.Factors[j-1].Var<f.Var
     .rw [Aq ω,An hc]; rfl
     .rw [An ω,Aq hc]; rfl
   have es:Dz x.Data x.Vars x.Res (m.Factors.take (j+1))=Dz x.Data x.Vars x.Res (m.Factors.take j)+Ez x.Data x.Vars x.Res f:=Aoe _ hx
   have hb:=Aoh (data:=x.Data) (vars:=x.Vars) (res:=x.Res) (m.Factors.take j)
   have af:(m.Factors.take j).length<=1048576:=by simp; omega
   have ad:=Agn x.Data x.Vars x.Res f
   simp only [h1,h2,h3,cond_true,Ad,Abv,Lm,es]
   cases ht:Dl x.Vars x.Res f.Var with
   | none=>
    have e:Ez x.Data x.Vars x.Res f = -1:=by unfold Ez; rw [ht]
    rw [e]
    exact ⟨(λh=>by cases h),λ_=>⟨.inl (-1),rfl,_,rfl,rfl⟩⟩
   | some t=>
    have e:Ez x.Data x.Vars x.Res f=Gb (Ee x.Data f.Index t):=by unfold Ez; rw [ht]
    simp only [D3,cond_false,a6,Ad,Ax7 hc.vd hc.sh t f.Index (hc.sz _ _ ht) (G.fi f aa),<-e]
    cases ab:Jw (·.Var) m.Factors f j with
    | false=>exact ⟨(λh=>by simp at h),λ_=>⟨.inl (-1),rfl,_,rfl,rfl⟩⟩
    | true=>
     simp only [D3,cond_false,Bool.and_true]
     by_cases h1:1<=Ez x.Data x.Vars x.Res f
     .rw [An h1,Aq ω]
      refine ⟨λ_=>⟨(),?_,trivial⟩,λh=>by cases h⟩
      simp only [cond_false]
      rw [show Aa (Dz x.Data x.Vars x.Res (m.Factors.take j)+Ez x.Data x.Vars x.Res f)=Dz x.Data x.Vars x.Res (m.Factors.take j)+Ez x.Data x.Vars x.Res f by rw [Aa,B4] <;> omega]
     .rw [Aq h1,An ω]
      exact ⟨(λh=>by cases h),λ_=>⟨.inl (-1),rfl,_,rfl,rfl⟩⟩) (by
   intro _ _ h1 g
   have a8:=U m.Factors.length g
   have ae:=Aoh (data:=x.Data) (vars:=x.Vars) (res:=x.Res) m.Factors
   rw [List.take_length] at a8
   refine ⟨.inr (Dz x.Data x.Vars x.Res m.Factors),ψ,?_⟩
   obtain ⟨w,w1,w2⟩:=Xb (M:=Unit) (R:=Int) m.Atoms (λq=>Ip x.Vars x.Res m.Atoms q.1 q.2&&decide (q.1.Deg<=6)) (λj _=>(Dz x.Data x.Vars x.Res m.Factors+E6 (m.Atoms.take j),(j:Int))) (λ_=>True)
    (λv=>decide (v<0) = !decide (Dz x.Data x.Vars x.Res m.Factors+E6 m.Atoms<=6)) (λv=>v = -1) ()
    (s0:=(Dz x.Data x.Vars x.Res m.Factors,(0:Int)))
    (step:=(λ(v24,v25)=>
     bif v25<(m.Atoms.length:Int) then (
     (Ae m.Atoms v25).bind λv26=>
     (Ob v26.Lin).bind λv28=>
     bif (!v28) then some (.inr (.inl (-1)))
     else (
     bif ((v26.Lin.Terms.length:Int)==(0:Int)) then some (.inr (.inl (-1)))
     else (
     (Qt x v26.Lin).bind λl=>
     bif (!l) then some (.inr (.inl (-1)))
     else (
     bif v25>(0:Int) then (
     (Ae m.Atoms (Aa (v25-1))).bind λk=>
     (M1 k.Lin v26.Lin).bind λv31=>
     bif v31>=(0:Int) then some (.inr (.inl (-1)))
     else (
     bif v26.Deg<(1:Int) then some (.inr (.inl (-1)))
     else (
     bif v26.Deg>(6:Int) then some (.inr (.inl (-1)))
     else some (.inl ((Aa (v24+v26.Deg)),(Aa (v25+1)))))))
     else (
     bif v26.Deg<(1:Int) then some (.inr (.inl (-1)))
     else (
     bif v26.Deg>(6:Int) then some (.inr (.inl (-1)))
     else some (.inl ((Aa (v24+v26.Deg)),(Aa (v25+1))))))))))
     else some (.inr (.inr v24)):Int×Int->Option ((Int×Int)⊕(Int⊕Int))))
    (J:=(λz=>match z with
      | .inl u=>some u
      | .inr v33=>bif v33>(6:Int) then some (-1) else some v33))
    (by simp [E6]) trivial ω (by
     intro j a _ _ hx A h1 h2 h3
     have I:((a.Lin.Terms.length:Int)==(0:Int))=(a.Lin.Terms.length==0):=Af3 a.Lin.Terms 0
     have es:=Aof hx
     have ag:0<=E6 (m.Atoms.take j)/\E6 (m.Atoms.take j)<=6*1048576:=by
      have L:∀b∈m.Atoms.take j,1<=b.Deg/\b.Deg<=6:=by
       intro b hb
       obtain ⟨i,hi⟩:=List.getElem?_of_mem hb
       have a7:=Dr hi
       have N:i<j:=by simp at a7; omega
       rw [List.getElem?_take_of_lt N] at hi
       have:=A i b N hi
       simp only [Ip,Ca,decide_eq_true_eq] at this
       omega
      obtain ⟨k1,k2,_⟩:=Xv (m.Atoms.take j) (λb hb=>by have:=L b hb; omega)
      have:=k2 (λb hb=>(L b hb).2)
      have hl:(m.Atoms.take j).length<=1048576:=by simp; omega
      omega
     simp only [h1,h2,h3,cond_true,Ad,Aoc,Ayu x a.Lin (G.al a (Bg hx)),Aog M1 m.Atoms (λy hy x=>Aoa y.Lin x (by have:=G.al y hy; omega)) hx ω,Ip,I,es]
     cases Hg a.Lin with
     | false=>exact ⟨(λh=>by simp at h),λ_=>⟨.inl (-1),rfl,_,rfl,rfl⟩⟩
     | true=>
      cases (a.Lin.Terms.length==0) with
      | true=>exact ⟨(λh=>by simp at h),λ_=>⟨.inl (-1),rfl,_,rfl,rfl⟩⟩
      | false=>
       cases Kk x.Vars x.Res a.Lin with
       | false=>exact ⟨(λh=>by simp at h),λ_=>⟨.inl (-1),rfl,_,rfl,rfl⟩⟩
       | true=>
        simp only [D3,cond_false,Bool.not_false,Bool.and_true]
        cases Ua m.Atoms a j with
        | false=>exact ⟨(λh=>by simp at h),λ_=>⟨.inl (-1),rfl,_,rfl,rfl⟩⟩
        | true=>
         simp only [cond_true,Bool.and_true]
         by_cases g1:a.Deg<1
         .rw [An g1,Aq (by omega:¬1<=a.Deg)]
          exact ⟨(λh=>by simp at h),λ_=>⟨.inl (-1),rfl,_,rfl,rfl⟩⟩
         .by_cases g2:a.Deg>6
          .rw [Aq g1,An g2,Aq (by omega:¬a.Deg<=6)]
           exact ⟨(λh=>by simp at h),λ_=>⟨.inl (-1),rfl,_,rfl,rfl⟩⟩
          .rw [Aq g1,Aq g2,An (by omega:a.Deg<=6),An (by omega:1<=a.Deg)]
           refine ⟨λ_=>⟨(),?_,trivial⟩,λh=>by cases h⟩
           simp only [cond_false]
           rw [show Aa (Dz x.Data x.Vars x.Res m.Factors+E6 (m.Atoms.take j)+a.Deg)=Dz x.Data x.Vars x.Res m.Factors+(E6 (m.Atoms.take j)+a.Deg) by rw [Aa,B4] <;> omega]) (by
     intro _ _ h1 B
     refine ⟨.inr (Dz x.Data x.Vars x.Res m.Factors+E6 m.Atoms),ψ,?_⟩
     have ah:0<=E6 m.Atoms:=(Xv m.Atoms (λb hb=>by
      obtain ⟨i,hi⟩:=List.getElem?_of_mem hb
      have:=Ge B hi
      simp only [Ip,Ca,decide_eq_true_eq] at this
      omega)).1
     simp only
     by_cases h6:Dz x.Data x.Vars x.Res m.Factors+E6 m.Atoms<=6
     .rw [Aq ω,An h6]
      exact ⟨_,rfl,Aq ω⟩
     .rw [An ω,Aq h6]
      exact ⟨_,rfl,rfl⟩)
   refine ⟨w,w1,?_⟩
   unfold Gw
   rw [g,Bool.true_and]
   rcases w2 with ⟨g1,g2⟩ | ⟨g1,g2⟩
   .have X:m.Atoms.zipIdx.all (λq=>Ip x.Vars x.Res m.Atoms q.1 q.2)=true:=W9 λj a hj=>by
     have:=Ge g1 hj
     simp only [Ca] at this
     exact this.1
    rw [X,Bool.true_and,g2]
   .rw [g2]
    cases X:m.Atoms.zipIdx.all (λq=>Ip x.Vars x.Res m.Atoms q.1 q.2) with
    | false=>rfl
    | true=>
     have hgt:¬Dz x.Data x.Vars x.Res m.Factors+E6 m.Atoms<=6:=by
      intro ac
      have:m.Atoms.zipIdx.all (λq=>Ip x.Vars x.Res m.Atoms q.1 q.2&&decide (q.1.Deg<=6))=true:=W9 λj a hj=>by
       have gj:=Ge X hj
       have hpos:∀b∈m.Atoms,0<=b.Deg:=λb hb=>by
        obtain ⟨i,hi⟩:=List.getElem?_of_mem hb
        have:=Ge X hi
        simp only [Ip,Ca,decide_eq_true_eq] at this
        omega
       have:=(Xv m.Atoms hpos).2.2 a (Bg hj)
       simp only [gj,Bool.true_and,decide_eq_true_eq]
       omega
      rw [this] at g1; cases g1
     rw [Aq hgt]; rfl)
 refine ⟨r,r1,?_⟩
 rcases r2 with ⟨h1,h2⟩ | ⟨h1,h2⟩
 .exact h2
 .rw [h2,V h1]; rfl
end Go.Ab
namespace Go.Ab
open Go
theorem Ay0 {α:Type} [DecidableEq α] (l m:List α) (b:l.length=m.length):(decide (l=m))=l.zipIdx.all (λq=>decide (m[q.2]? = some q.1)):=by
 rw [Bool.eq_iff_iff,decide_eq_true_eq];constructor
 .rintro rfl;exact W9 λj x hx=>by simpa using hx
 .intro h;apply List.ext_getElem?;intro j;cases hx:l[j]? with| none=>rw [List.getElem?_eq_none_iff] at hx; rw [List.getElem?_eq_none ω]| some x=>have:=Ge h hx; rw [decide_eq_true_eq] at this; rw [this]
theorem Agp {R:Type} (l m:List Int) (b:l.length<1099511627776) (h:l.length=m.length) {J:Bool⊕Unit->Option R} {rt rf:R} (h1:J (.inl false)=some rf) (h2:J (.inr ())=some rt) : (Al (S:=Int) (E:=(Bool⊕Unit)) (λv3=>bif v3<(l.length:Int) then ((Ae l v3).bind λv4=>(Ae m v3).bind λv5=>bif (v4 != v5) then some (.inr (.inl false)) else some (.inl (Aa (v3+1)))) else some (.inr (.inr ()))) 0).bind J=some (bif decide (l=m) then rt else rf):=by
 rw [Ay0 l m h];refine M5 l (λq=>decide (m[q.2]? = some q.1)) (λj=>(j:Int)) rfl ω (rt:=rt) (rf:=rf) ?_ ?_
 .intro j x hx _ g1 g2 g3;have hj:j<m.length:=(by have:=Dr hx; omega);have hy:m[j]? = some m[j]:=Be hj;generalize m[j]=y at hy;simp only [g1,g2,g3,cond_true,Ad,Bi rfl hy,hy,Option.some.injEq];by_cases e:x=y
  .rw [Cp e,An e.symm];exact ⟨λ_=>rfl,λh=>by cases h⟩
  .rw [Cs e,Aq (λh=>e h.symm)];exact ⟨(λh=>by cases h),λ_=>⟨.inl false,rfl,h1⟩⟩
 .intro h _; exact ⟨.inr (),by simp only [h]; rfl,h2⟩
theorem Aoj (l m:List Int) (b:l.length<1099511627776):L5 l m=some (decide (l=m)):=by
 unfold L5;by_cases h:l.length=m.length
 .rw [Cp ω];simp only [cond_false];refine (Agp l m b h (rt:=true) (rf:=false) ?_ ?_).trans (by rw [Kf]) <;> rfl
 .rw [Cs ω,Aq (λe=>h (by rw [e]))]; rfl
def Mk (a b:Ai):Bool:=a.Neg==b.Neg&&decide (a.Num=b.Num)&&decide (a.Den=b.Den)
theorem Abw (a b:Ai):Mk a b=true↔a=b:=by
 unfold Mk;simp only [Ca,beq_iff_eq,decide_eq_true_eq];constructor
 .rintro ⟨⟨h1,h2⟩,h3⟩; cases a; cases b; simp_all
 .rintro rfl; simp
theorem Ay1 (a b:Ai) (h1:a.Num.length<1099511627776) (h2:a.Den.length<1099511627776):V2 a b=some (Mk a b):=by
 unfold V2 Mk;cases g:(a.Neg==b.Neg) with
 | false=>rw [show (a.Neg != b.Neg)=true by simp [bne,g]]; rfl
 | true=>
  rw [show (a.Neg != b.Neg)=false by simp [bne,g]];simp only [cond_false];by_cases f:a.Num.length=b.Num.length
  .rw [Cp ω];by_cases c:a.Den.length=b.Den.length
   .rw [Cp ω];simp only [cond_false,Ad,Bool.true_and];refine (Agp a.Num b.Num h1 f (rt:=decide (a.Den=b.Den)) (rf:=false) rfl ?_).trans (by cases decide (a.Num=b.Num) <;> rfl);refine (Agp a.Den b.Den h2 c (rt:=true) (rf:=false) ?_ ?_).trans (by rw [Kf]) <;> rfl
   .rw [Cs ω,Aq (λe:a.Den=b.Den=>c (by rw [e]))];simp
  .rw [Cs ω,Aq (λe:a.Num=b.Num=>f (by rw [e]))];simp
def Rq (c:Ai):Bool:=Mk (Bj (sv c) (nv c) (dv c)) c && !(nv c==0)
theorem Ay2 (c:Ai):Rq c=(Mk c (Bj (sv c) (nv c) (dv c)) && !(nv c==0)):=by unfold Rq;congr 1;rw [Bool.eq_iff_iff,Abw,Abw]; exact eq_comm
structure TSz (t:A5):Prop where
 co:RB 1048576 t.Coef
 mo:MSz t.Mono
def Pe (l:List A5) (x:A5) (j:Nat):Bool:=j==0||(match l[j-1]? with | some y=>decide (En y.Mono x.Mono<0) | none=>false)
def Pf (data:List Ao) (vars:List Ag) (res:Ag) (l:List A5) (t:A5) (j:Nat):Bool:=Rq t.Coef&&Gw data vars res t.Mono&&Pe l t j
def F9 (data:List Ao) (vars:List Ag) (res:Ag) (p:List A5):Bool:=decide (p.length<=1000)&&p.zipIdx.all (λq=>Pf data vars res p q.1 q.2)
theorem Aok {S E:Type} (F:Bw->Bw->Option Int) (l:List A5) (g:∀y∈l,∀x,F y.Mono x=some (En y.Mono x)) {x:A5} {j:Nat} (hx:l[j]? = some x) (i:l.length<4611686018427387904) (c b:Option (S⊕E)) : (bif decide ((j:Int)>0) then ((Ae l (Aa ((j:Int)-1))).bind λf=>(F f.Mono x.Mono).bind λv28=>bif decide (v28>=0) then c else b) else b)=bif Pe l x j then b else c:=by
 have hj:=Dr hx;unfold Pe;by_cases h:j=0
 .subst h; rfl
 .rw [An ω];have e:Aa ((j:Int)-1)=((j-1:Nat):Int):=(by rw [Aa,B4] <;> omega);have hy:l[j-1]? = some l[j-1]:=Be ω;rw [e,Bi rfl hy,hy];have h0:(j==0)=false:=(by simpa using h);simp only [cond_true,Ad,h0,Bool.false_or,g _ (List.getElem_mem (by omega:j-1<l.length))];by_cases hc:En l[j-1].Mono x.Mono<0
  .rw [Aq ω,An hc]; rfl
  .rw [An ω,Aq hc]; rfl
theorem Aol (s:Bool) (n:Nat):(Ia s n==0)=(n==0):=by
 unfold Ia;by_cases h:n=0
 .rw [if_pos h]; subst h; rfl
 .rw [if_neg h];have:(n==0)=false:=(by simpa using h);rw [this]; cases s <;> rfl
theorem Ay3 {data:List Ao} {vars:List Ag} {res:Ag} (hc:Pb data vars res) {b1:List (ByteArray×Int)} (b2:List (ByteArray×List D2)) (V:F8 data vars res b1) (p:List A5) (U:∀t∈p,TSz t) :
  ∃B,Vk p b1 b2 data vars res.Kind res.Num res.Args=some (F9 data vars res p,B)/\F8 data vars res B:=by
 unfold Vk F9
 by_cases A:p.length<=1000
 .rw [Aq ω,An A,Bool.true_and]
  simp only [cond_false]
  obtain ⟨r,X,S⟩:=Xb (M:=List (ByteArray×Int)) (R:=Bool×List (ByteArray×Int)) p (λq=>Pf data vars res p q.1 q.2) (λj o=>((j:Int),o)) (F8 data vars res)
   (λr=>F8 data vars res r.2/\r.1=true) (λr=>F8 data vars res r.2/\r.1=false) b1
   (s0:=((0:Int),b1))
   (step:=(λ(b,g)=>
    bif b<(p.length:Int) then (
    (Ae p b).bind λv12=>
    (N7 v12.Coef).bind λf=>
    (show OB from
    bif (f.Neg==v12.Coef.Neg) then (
    (L5 f.Num v12.Coef.Num).bind λi=>
    bif i then (
    (L5 f.Den v12.Coef.Den).bind λv17=>
    some v17)
    else some false)
    else some false).bind λE=>
    bif (!E) then some (.inr (.inl (false,g)))
    else (
    (Hv f).bind λD=>
    bif (D==(0:Int)) then some (.inr (.inl (false,g)))
    else (
    (Su v12.Mono g b2 data vars res.Kind res.Num res.Args).bind λv20=>
    bif (!v20.1) then some (.inr (.inl (false,v20.2)))
    else (
    bif b>(0:Int) then (
    (Ae p (Aa (b-1))).bind λv21=>
    (N8 v21.Mono v12.Mono).bind λv22=>
    bif v22>=(0:Int) then some (.inr (.inl (false,v20.2)))
    else some (.inl ((Aa (b+1)),v20.2)))
    else some (.inl ((Aa (b+1)),v20.2))))))
    else some (.inr (.inr g)):Int×List (ByteArray×Int)->Option ((Int×List (ByteArray×Int))⊕((Bool×List (ByteArray×Int))⊕List (ByteArray×Int)))))
   (J:=(λz=>match z with
    | .inl (I,G)=>some (I,G)
    | .inr L=>some (true,L)))
   rfl V ω (by
    intro j t o u hx _ h1 h2 h3
    have c:=U t (Bg hx)
    obtain ⟨B,d1,d2⟩:=Ayy b2 hc u t.Mono c.mo
    have s:∀l:List Int,l=(Bj (sv t.Coef) (nv t.Coef) (dv t.Coef)).Num\/l=(Bj (sv t.Coef) (nv t.Coef) (dv t.Coef)).Den->l.length<1099511627776:=by
     intro l A
     have q:=Jh (sv t.Coef) (nv t.Coef) (dv t.Coef) 1048577 c.co.nv c.co.dv ω
     have:=q.nl
     have:=q.dl
     rcases A with rfl | rfl <;> omega
    have k:(bif ((Bj (sv t.Coef) (nv t.Coef) (dv t.Coef)).Neg==t.Coef.Neg) then ((L5 (Bj (sv t.Coef) (nv t.Coef) (dv t.Coef)).Num t.Coef.Num).bind λi=>bif i then ((L5 (Bj (sv t.Coef) (nv t.Coef) (dv t.Coef)).Den t.Coef.Den).bind λv17=>some v17) else some false) else some false)=some (Mk (Bj (sv t.Coef) (nv t.Coef) (dv t.Coef)) t.Coef):=by
     unfold Mk
     rw [Aoj _ _ (s _ (.inl rfl)),Aoj _ _ (s _ (.inr rfl))]
     cases ((Bj (sv t.Coef) (nv t.Coef) (dv t.Coef)).Neg==t.Coef.Neg) <;> cases decide ((Bj (sv t.Coef) (nv t.Coef) (dv t.Coef)).Num=t.Coef.Num) <;> rfl
    simp only [h1,h2,h3,cond_true,Ad,Av2 t.Coef 1048576 c.co ω,k,Aok N8 p (λy hy x=>Ayo y.Mono x (U y hy).mo) hx ω,Pf,Rq]
    cases N:Mk (Bj (sv t.Coef) (nv t.Coef) (dv t.Coef)) t.Coef with
    | false=>exact ⟨(λh=>by cases h),λ_=>⟨_,rfl,_,rfl,u,rfl⟩⟩
    | true=>
     have e:=(Abw _ _).1 N
     simp only [D3,cond_false,Bool.true_and]
     rw [e,Afw t.Coef 1048576 c.co ω,Ad,Aol]
     cases (nv t.Coef==0) with
     | true=>exact ⟨(λh=>by cases h),λ_=>⟨_,rfl,_,rfl,u,rfl⟩⟩
     | false=>
      simp only [cond_false,d1,Ad,Bool.not_false,Bool.true_and]
      cases Gw data vars res t.Mono with
      | false=>exact ⟨(λh=>by cases h),λ_=>⟨_,rfl,_,rfl,d2,rfl⟩⟩
      | true=>
       cases Pe p t j with
       | true=>exact ⟨λ_=>⟨B,rfl,d2⟩,λh=>by cases h⟩
       | false=>exact ⟨(λh=>by cases h),λ_=>⟨_,rfl,_,rfl,d2,rfl⟩⟩) (by
    intro o u h1 _
    exact ⟨.inr o,by simp only [h1]; rfl,_,rfl,u,rfl⟩)
  refine ⟨r.2,?_,?_⟩
  .have e:some r=some (p.zipIdx.all (λq=>Pf data vars res p q.1 q.2),r.2):=by
    rcases S with ⟨h1,h2,h3⟩ | ⟨h1,h2,h3⟩
    .rw [h1,<-h3]
    .rw [h1,<-h3]
   rw [<-e]
   exact X
  .rcases S with ⟨h1,h2,h3⟩ | ⟨h1,h2,h3⟩ <;> exact h2
 .rw [An ω,Aq A]
  exact ⟨b1,rfl,V⟩
theorem Ay4 {x:B8} (hc:Pb x.Data x.Vars x.Res) (p:List A5) (c:∀t∈p,TSz t):Vn x p=some (F9 x.Data x.Vars x.Res p):=by
 unfold Vn F9;by_cases f:p.length<=1000
 .rw [Aq ω,An f,Bool.true_and];simp only [cond_false];refine (M5 p (λq=>Pf x.Data x.Vars x.Res p q.1 q.2) (λj=>(j:Int)) rfl ω (rt:=true) (rf:=false) ?_ ?_).trans (by rw [Kf])
  .intro j t hx _ h1 h2 h3;have b:=c t (Bg hx);obtain ⟨v,g,v2⟩:=Ayz hc t.Mono b.mo;simp only [h1,h2,h3,cond_true,Ad,g,v2,Amy t.Coef 1048576 b.co ω,Aol,O4 t.Coef 1048576 b.co ω,Ay1 t.Coef _ (by have:=b.co.nl; omega) (by have:=b.co.dl; omega),
    Aok Sz p (λy hy x=>Ayp y.Mono x (c y hy).mo) hx ω,Pf,Ay2];cases Gw x.Data x.Vars x.Res t.Mono with
   | false=>exact ⟨(λh=>by simp at h),λ_=>⟨.inl false,rfl,rfl⟩⟩
   | true=>
    cases (nv t.Coef==0) with
    | true=>exact ⟨(λh=>by simp at h),λ_=>⟨.inl false,rfl,rfl⟩⟩
    | false=>
     cases Mk t.Coef (Bj (sv t.Coef) (nv t.Coef) (dv t.Coef)) with
     | false=>exact ⟨(λh=>by simp at h),λ_=>⟨.inl false,rfl,rfl⟩⟩
     | true=>cases Pe p t j with| true=>exact ⟨λ_=>rfl,λh=>by cases h⟩| false=>exact ⟨(λh=>by cases h),λ_=>⟨.inl false,rfl,rfl⟩⟩
  .intro h _; exact ⟨.inr (),by simp only [h]; rfl,rfl⟩
 .rw [An ω,Aq f]; rfl
structure CSz (x:B8):Prop where
 ds:DSz x.Data
 nv:x.Vars.length<=1048576
 vs:∀t∈x.Vars,A6 t<=1048576
 rs:A6 x.Res<=1048576
def F0 (data:List Ao) (t:Ag):Bool:=Dc data 0 t&&decide (A6 t<=200)
def Fr (x:B8):Prop:=x.Vars.length<=3000/\Gv x.Data/\F0 x.Data x.Res=true/\x.Vars.all (F0 x.Data)=true
theorem Fr.ctx {x:B8} (h:Fr x) (c:CSz x):Pb x.Data x.Vars x.Res:=by
 refine ⟨h.2.1,c.ds.sz.short,λv t ht=>?_,h.1⟩;have b:∀t,F0 x.Data t=true->A6 t<=200:=λt h=>by simp only [F0,Ca,decide_eq_true_eq] at h; exact h.2
 unfold Dl at ht;by_cases hv:v = -1
 .rw [if_pos hv] at ht; cases ht; exact b _ h.2.2.1
 .rw [if_neg hv] at ht;exact b t (List.all_eq_true.1 h.2.2.2 t (Ec ht).2.2.2)
theorem Ay5 (x:B8) (c:CSz x):∃b,Vm x=some b/\(b=true↔Fr x):=by
 obtain ⟨b,b1,b2⟩:=Ani c.ds;have k:=c.nv;have i:=c.rs;unfold Vm Fr;rw [b1,Abc x.Data x.Res 0 ω];simp only [Ad];cases b with
 | false=>exact ⟨false,rfl,by simp; intro _ h; have:=b2.2 h; cases this⟩
 | true=>
  have hv:=b2.1 rfl;simp only [D3,cond_false];by_cases g:x.Vars.length<=3000
  .rw [Aq ω];simp only [cond_false,Ad];cases f:(Dc x.Data 0 x.Res&&decide (A6 x.Res<=200)) with
   | false=>exact ⟨false,rfl,by simp [F0,f]⟩
   | true=>
    refine ⟨x.Vars.all (F0 x.Data),?_,by rw [show F0 x.Data x.Res=true from f]; simp [g,hv]⟩;simp only [D3,cond_false];refine (Ld x.Vars (F0 x.Data) (λj=>(j:Int)) rfl ω (rt:=true) (rf:=false) ?_ ?_).trans (by rw [Kf])
    .intro j t ht h1 h2 h3;have:=c.vs t (Bg ht);simp only [h1,h2,h3,cond_true,Ad,Abc x.Data t 0 ω];rw [show (Dc x.Data 0 t&&decide (A6 t<=200))=F0 x.Data t from rfl];cases F0 x.Data t with| true=>exact ⟨λ_=>rfl,λh=>by cases h⟩| false=>exact ⟨(λh=>by cases h),λ_=>⟨.inl false,rfl,rfl⟩⟩
    .intro h; exact ⟨.inr (),by simp only [h]; rfl,rfl⟩
  .rw [An ω];exact ⟨false,rfl,by simp [g]⟩
theorem Ay6 (x:B8) (c:CSz x) (p:List A5) (hp:∀t∈p,TSz t):∃b,Vd x p=some b/\(b=true↔Fr x/\F9 x.Data x.Vars x.Res p=true):=by obtain ⟨b,b1,b2⟩:=Ay5 x c;unfold Vd;rw [b1,Ad];cases b with| false=>exact ⟨false,rfl,by simp; intro h; have:=b2.2 h; cases this⟩| true=>have f:=b2.1 rfl;rw [Ay4 (f.ctx c) p hp];exact ⟨_,rfl,by simp [f]⟩
end Go.Ab
namespace Go.Ab
open Go
mutual
def B1:Ar->Nat
 | ⟨_,_,l⟩=>1+C7 l
def C7:List Ar->Nat
 | []=>0
 | x::xs=>B1 x+C7 xs
end
theorem G6 (t:Ar):B1 t=1+C7 t.Kids:=by cases t; simp only [B1]
theorem Nd (t:Ar):1<=B1 t:=by rw [G6]; omega
theorem Gr {l:List Ar} {a:Ar} (h:a∈l):B1 a<=C7 l:=by
 induction l with
 | nil=>cases h
 | cons x xs ih=>
  simp only [C7];rcases List.mem_cons.1 h with rfl | h
  .omega
  .have:=ih h; omega
theorem Kl (l:List Ar):l.length<=C7 l:=by induction l with| nil=>simp| cons x xs ih=>simp only [C7,List.length_cons]; have:=Nd x; omega
theorem Aom (l m:List Ar):C7 (l++m)=C7 l+C7 m:=by induction l with| nil=>simp [C7]| cons x xs ih=>simp only [List.cons_append,C7,ih]; omega
theorem Abx {l:List Ar} {j:Nat} {x:Ar} (h:l[j]? = some x):C7 (l.take (j+1))=C7 (l.take j)+B1 x:=by rw [Cu h,Aom]; simp [C7]
theorem Xw (l:List Ar) (j:Nat):C7 (l.take j)<=C7 l:=by have:=Aom (l.take j) (l.drop j);rw [List.take_append_drop] at this; omega
theorem Ay7 (k:Nat) (l:List Ar) (c:Nat) (I:l.length<1099511627776) (B:c<=5000) (ih:∀(a:Ar),a∈l->∀f:Nat,f<=c->∃q:Int,Lz k a f=some (decide (B1 a<=f),q)/\(B1 a<=f->q=(f:Int)-B1 a)) : ∃p:Int×Int,S7 (k+2) l c=some p/\(C7 l<=c->p.1 = -1/\p.2=(c:Int)-C7 l)/\(¬C7 l<=c->0<=p.1):=by
 rw [S7];refine C6 (λ(v3,v4)=>∃j:Nat,v3=j/\j<=l.length/\C7 (l.take j)<=c/\v4=(c:Int)-C7 (l.take j)) (λ(v3,_)=>l.length-v3.toNat) (λz=>match z with | .inl (i,_)=>0<=i/\¬C7 l<=c | .inr v4=>C7 l<=c/\v4=(c:Int)-C7 l) ⟨0,rfl,ω,by simp [C7],by simp [C7]⟩ ?_ ?_
 .rintro ⟨v3,v4⟩ ⟨j,rfl,hj,y,h4⟩;have h4:v4=_:=h4;subst h4;rcases Nat.lt_or_ge j l.length with h | h
  .have hx:l[j]? = some l[j]:=Be h;generalize l[j]=x at hx;obtain ⟨g,A,s⟩:∃g:Nat,(c:Int)-C7 (l.take j)=g/\g<=c:=⟨c-C7 (l.take j),ω,ω⟩;obtain ⟨q,G,e2⟩:=ih x (Bg hx) g s;have D:=Abx hx;have E:=Xw l (j+1);simp only [An (by omega:(j:Int)<(l.length:Int)),cond_true,Bi rfl hx,Ad,Vu,A,G,Co h ω];by_cases hb:B1 x<=g
   .rw [An hb];have J:=e2 hb;exact .inl ⟨_,rfl,⟨j+1,rfl,ω,ω,by show q=_; omega⟩,by simp; omega⟩
   .rw [Aq hb];exact .inr ⟨.inl ((j:Int),q),rfl,ω,ω⟩
  .have:j=l.length:=ω;subst this;rw [List.take_length] at *;exact .inr ⟨.inr ((c:Int)-C7 l),ψ,y,rfl⟩
 .rintro (⟨i,b⟩ | v4) u
  .exact ⟨(i,b),rfl,λh=>absurd h u.2,λ_=>u.1⟩
  .exact ⟨(-1,v4),rfl,λ_=>⟨rfl,u.2⟩,λh=>absurd u.1 h⟩
theorem Ay8:∀(left:Nat) (t:Ar) (k:Nat),left<=5000->4*left+4<=k->B1 t<1099511627776->∃c:Int,Lz k t left=some (decide (B1 t<=left),c)/\(B1 t<=left->c=(left:Int)-B1 t):=by
 intro left;induction left using Nat.strongRecOn with
 | _ left l=>
  intro t k y hk ht;have hp:=Nd t;have s:=G6 t;have q:=Kl t.Kids;obtain ⟨j,rfl⟩:∃j,k=j+1:=⟨k-1,ω⟩;cases left with
  | zero=>refine ⟨-1,?_,λh=>ω⟩;rw [Lz,Aq (by omega:¬B1 t<=0)];rfl
  | succ f=>
   have x:Aa (((f+1:Nat):Int)-1)=(f:Int):=(by rw [Aa,B4] <;> omega);obtain ⟨g,rfl⟩:∃g,j=g+3:=⟨j-3,ω⟩;obtain ⟨⟨i,c⟩,h1,h2,h3⟩:=Ay7 g t.Kids f ω ω (λa ha b u=>by have:=Gr ha;exact l b ω a g ω ω ω);rw [Lz,x,Aq ω];simp only [cond_false,Vt,h1,Ad];by_cases hb:C7 t.Kids<=f
   .obtain ⟨a1,a2⟩:=h2 hb;simp only at a1 a2;refine ⟨c,?_,λ_=>ω⟩;rw [Aq ω,An ω]; rfl
   .have a1:=h3 hb;simp only at a1;refine ⟨c,?_,λh=>ω⟩;rw [An ω,Aq ω]; rfl
theorem Ay9:∀(left:Nat) (t:Ar) (k:Nat),left<=5000->left+1<=k->B1 t<1099511627776->∃f:Int,L2 k t left=some (decide (B1 t<=left),f)/\(B1 t<=left->f=(left:Int)-B1 t):=by
 intro left;induction left using Nat.strongRecOn with
 | _ left s=>
  intro t k Z hk ht;have hp:=Nd t;have U:=G6 t;have D:=Kl t.Kids;obtain ⟨k,rfl⟩:∃M,k=M+1:=⟨k-1,ω⟩;cases left with
  | zero=>refine ⟨-1,?_,λh=>ω⟩;rw [L2,Aq (by omega:¬B1 t<=0)];rfl
  | succ c=>
   have Y:Aa (((c+1:Nat):Int)-1)=(c:Int):=(by rw [Aa,B4] <;> omega);rw [L2,Y,Aq ω];simp only [cond_false];have key:∃p:Bool×Int,((Al (S:=(Int×Int)) (E:=((Bool×Int)⊕Int)) (λ(v4,v5)=>
     bif v4<(t.Kids.length:Int) then ((Ae t.Kids v4).bind λG=> (L2 k G v5).bind λl=> bif (!l.1) then some (.inr (.inl (false,l.2))) else some (.inl ((Aa (v4+1)),l.2))) else some (.inr (.inr v5))) (0,(c:Int))).bind λz=> match z with
     | .inl (J,I)=>some (J,I)
     | .inr q=>some (true,q))=some p/\p.1=decide (B1 t<=c+1)/\(B1 t<=c+1->p.2=(c:Int)-C7 t.Kids):=by
    refine C6 (λ(v4,v5)=>∃j:Nat,v4=j/\j<=t.Kids.length/\C7 (t.Kids.take j)<=c/\v5=(c:Int)-C7 (t.Kids.take j)) (λ(v4,_)=>t.Kids.length-v4.toNat) (λz=>match z with | .inl (b,_)=>b=false/\¬B1 t<=c+1 | .inr v5=>B1 t<=c+1/\v5=(c:Int)-C7 t.Kids) ⟨0,rfl,ω,by simp [C7],by simp [C7]⟩ ?_ ?_
    .rintro ⟨v4,v5⟩ ⟨j,rfl,hj,V,h4⟩;have h4:v5=_:=h4;subst h4;rcases Nat.lt_or_ge j t.Kids.length with h | h
     .have hx:t.Kids[j]? = some t.Kids[j]:=Be h;generalize t.Kids[j]=x at hx;obtain ⟨g,u,B⟩:∃g:Nat,(c:Int)-C7 (t.Kids.take j)=g/\g<=c:=⟨c-C7 (t.Kids.take j),ω,ω⟩;obtain ⟨f,X,e2⟩:=s g ω x k ω ω (by have:=Gr (Bg hx); omega);have N:=Abx hx;have R:=Xw t.Kids (j+1);simp only [An (by omega:(j:Int)<(t.Kids.length:Int)),cond_true,Bi rfl hx,Ad,u,X,Co h ω];by_cases hb:B1 x<=g
      .rw [An hb];have e3:=e2 hb;exact .inl ⟨_,rfl,⟨j+1,rfl,ω,ω,by show f=_; omega⟩,by simp; omega⟩
      .rw [Aq hb];exact .inr ⟨.inl (false,f),rfl,rfl,ω⟩
     .have:j=t.Kids.length:=ω;subst this;rw [List.take_length] at *;exact .inr ⟨.inr ((c:Int)-C7 t.Kids),ψ,ω,rfl⟩
    .rintro (⟨b,v⟩ | v) i
     .exact ⟨(b,v),rfl,by rw [i.1,Aq i.2],λh=>absurd h i.2⟩
     .exact ⟨(true,v),rfl,by rw [An i.1],λ_=>i.2⟩
   obtain ⟨⟨b,f⟩,L,A,y⟩:=key;simp only at A y;subst A;exact ⟨f,L,λh=>by have:=y h; omega⟩
mutual
def D8 (data:List Ao):Ar->Ag->Bool
 | ⟨k,n,kids⟩,t=>
  if t.Kind=1 then k==3&&decide (-1099511627776<=n)&&decide (n<=1099511627776)&&kids.length==0
  else if t.Kind=2 then k==2&&(n==0||n==1)&&kids.length==0
  else if t.Kind=3 then k==1&&n==0&&kids.length==0
  else if t.Kind=6 then k==4&&n==0&&Ie data kids t.Args
  else if t.Kind=5 then k==5&&decide (0<=n)&&decide (n<8)&&(match Gg data t n with | some l=>Ie data kids l | none=>false)
  else if t.Kind=7 then k==6&&n==0&&decide (kids.length<=4096)&&(match t.Args with | u::_=>Nf data kids u | []=>false)
  else if t.Kind=8 then k==7&&n==0&&Ie data kids t.Args
  else k==8&&decide (0<=n)&&decide (n<64)&&kids.length==0
def Ie (data:List Ao):List Ar->List Ag->Bool
 | [],[]=>true
 | x::xs,t::ts=>D8 data x t&&Ie data xs ts
 | [],_::_=>false
 | _::_,[]=>false
def Nf (data:List Ao):List Ar->Ag->Bool
 | [],_=>true
 | x::xs,t=>D8 data x t&&Nf data xs t
end
theorem Pg (data:List Ao) (v:Ar) (t:Ag):D8 data v t = if t.Kind=1 then v.Kind==3&&decide (-1099511627776<=v.Num)&&decide (v.Num<=1099511627776)&&v.Kids.length==0 else if t.Kind=2 then v.Kind==2&&(v.Num==0||v.Num==1)&&v.Kids.length==0 else if t.Kind=3 then v.Kind==1&&v.Num==0&&v.Kids.length==0 else if t.Kind=6 then v.Kind==4&&v.Num==0&&Ie data v.Kids t.Args else if t.Kind=5 then v.Kind==5&&decide (0<=v.Num)&&decide (v.Num<8)&&(match Gg data t v.Num with | some l=>Ie data v.Kids l | none=>false) else if t.Kind=7 then v.Kind==6&&v.Num==0&&decide (v.Kids.length<=4096)&&(match t.Args with | u::_=>Nf data v.Kids u | []=>false) else if t.Kind=8 then v.Kind==7&&v.Num==0&&Ie data v.Kids t.Args else v.Kind==8&&decide (0<=v.Num)&&decide (v.Num<64)&&v.Kids.length==0:=by cases v; simp only [D8]
theorem Aon (data:List Ao) (l:List Ar) (t:Ag):Nf data l t=l.all (D8 data · t):=by induction l with| nil=>rfl| cons x xs ih=>simp only [Nf,ih,List.all_cons]
theorem Ph (data:List Ao):∀(l:List Ar) (b:List Ag),l.length≠b.length->Ie data l b=false
 | [],[],h=>absurd rfl h
 | x::xs,t::b,h=>by simp only [Ie,Ph data xs b (by simpa using h),Bool.and_false]
 | [],_::_,_=>by simp only [Ie]
 | _::_,[],_=>by simp only [Ie]
theorem Rr (data:List Ao):∀(l:List Ar) (b:List Ag),l.length=b.length->Ie data l b=(l.zip b).all (λq=>D8 data q.1 q.2)
 | [],[],_=>rfl
 | x::xs,t::b,h=>by simp only [Ie,List.zip_cons_cons,List.all_cons,Rr data xs b (by simpa using h)]
 | [],_::_,h=>by simp at h
 | _::_,[],h=>by simp at h
mutual
theorem Agq (data:List Ao) (d:Nat) (v:Int):∀t,Dc (data.take d) v t=true->Dc data v t=true
 | ⟨k,n,l⟩,h=>by
  simp only [Dc,Ca] at h ⊢
  refine ⟨?_,Aoo data d v l h.2⟩
  have h1:=h.1
  unfold Il at h1 ⊢
  by_cases hk:k=5
  .subst hk
   simp only [List.getElem?_take] at h1 ⊢
   by_cases hd:n.toNat<d
   .simpa [hd] using h1
   .simp [hd] at h1
  .simp only [hk,if_false] at h1 ⊢
   exact h1
theorem Aoo (data:List Ao) (d:Nat) (v:Int):∀l,Dp (data.take d) v l=true->Dp data v l=true
 | [],_=>rfl
 | x::xs,h=>by
  simp only [Dp,Ca] at h ⊢
  exact ⟨Agq data d v x h.1,Aoo data d v xs h.2⟩
end
mutual
theorem Aop (data:List Ao) (v:Int) (σ:List Ag) (hσ:∀s∈σ,Dc data 0 s=true) (hv:(σ.length:Int)=v):∀t,Dc data v t=true->Dc data 0 (Cv σ t)=true
 | ⟨k,n,l⟩,h=>by
  simp only [Dc,Ca] at h
  cases hV:isV σ k n with
  | true=>
   obtain ⟨s,h1,_,h3⟩:=Xm hV
   rw [T5 (t:=⟨k,n,l⟩) hV h1]
   exact hσ s h3
  | false=>
   rw [Xn (t:=⟨k,n,l⟩) hV,<-Agb]
   simp only [Dc,Ca]
   refine ⟨?_,Aoq data v σ hσ hv l h.2⟩
   rw [Agb,List.length_map]
   have h1:=h.1
   unfold Il at h1 ⊢
   by_cases hk:k=4
   .exfalso
    subst hk
    simp at h1
    unfold isV at hV
    rw [An h1.1.1,An ω] at hV
    cases hV
   .simp only [hk,if_false] at h1 ⊢
    exact h1
theorem Aoq (data:List Ao) (v:Int) (σ:List Ag) (hσ:∀s∈σ,Dc data 0 s=true) (hv:(σ.length:Int)=v):∀l,Dp data v l=true->Dp data 0 (Lh σ l)=true
 | [],_=>rfl
 | x::xs,h=>by
  simp only [Dp,Ca] at h
  simp only [Lh,Dp,Ca]
  exact ⟨Aop data v σ hσ hv x h.1,Aoq data v σ hσ hv xs h.2⟩
end
theorem Agr {data:List Ao} {t:Ag} (h:Dc data 0 t=true):∀a∈t.Args,Dc data 0 a=true:=by rw [T0,Ca,Am7,List.all_eq_true] at h;exact h.2
theorem Aor {data:List Ao} (hv:Gv data) {t:Ag} (ht:Dc data 0 t=true) {c:Int} {l:List Ag} (h:Gg data t c=some l):∀a∈l,Dc data 0 a=true/\A6 a<=200:=by
 obtain ⟨x,y,hk,hx,g,hy,rfl,f⟩:=Mi h;intro a ha;refine ⟨?_,f a ha⟩;obtain ⟨b,hb,rfl⟩:=List.mem_map.1 ha;obtain ⟨i0,_,j,_⟩:=Ec hx;have h1:=hv.2.1 t.Num.toNat x j;obtain ⟨_,_,k⟩:=h1.2.2.2.2.2 y (Ec hy).2.2.2;have i:=List.all_eq_true.1 k b hb;refine Aop data x.Vars t.Args (Agr ht) g b ?_;unfold Im at i;rw [Bool.or_eq_true] at i;rcases i with h' | h'
 .exact Agq data _ _ b (Af5 j h1.2.1 h').1
 .rw [Ca] at h';exact Agq data _ _ b h'.1
theorem Aos {data:List Ao} {t:Ag} (h:Dc data 0 t=true):(t.Kind=1\/t.Kind=2\/t.Kind=3\/t.Kind=5\/t.Kind=6\/t.Kind=7\/t.Kind=8\/t.Kind=9)/\(t.Kind=7->t.Args.length=1)/\(t.Kind=8->t.Args.length=1):=by
 rw [T0,Ca] at h;have h1:=h.1;unfold Il at h1;by_cases q:t.Kind=1
 .simp [q]
 by_cases l:t.Kind=2
 .simp [l]
 by_cases k:t.Kind=3
 .simp [k]
 by_cases j:t.Kind=4
 .exfalso; simp [j] at h1; omega
 by_cases i:t.Kind=5
 .simp [i]
 by_cases g:t.Kind=6
 .simp [g]
 by_cases f:t.Kind=7
 .simp [f] at h1 ⊢; exact h1.2
 by_cases c:t.Kind=8
 .simp [c] at h1 ⊢; exact h1.2
 by_cases b:t.Kind=9
 .simp [b]
 .simp [q,l,k,j,i,g,f,c,b] at h1
end Go.Ab
namespace Go.Ab
open Go
theorem Pi {α:Type} (l:List α):((l.length:Int)==(0:Int))=(l.length==0):=Af3 l 0
def Rs {α β:Type} (m:List β) (p:α×β->Bool) (q:α×Nat):Bool:=match m[q.2]? with | some y=>p (q.1,y) | none=>false
theorem Aot {α β:Type} (l:List α) (m:List β) (p:α×β->Bool) (h:l.length=m.length):(l.zip m).all p=l.zipIdx.all (Rs m p):=by
 rw [Bool.eq_iff_iff];constructor
 .intro ha;refine W9 λj x hx=>?_;have hj:=Dr hx;have hy:m[j]? = some m[j]:=Be ω;simp only [Rs,hy];refine List.all_eq_true.1 ha _ (Bg (i:=j) ?_);rw [List.getElem?_zip_eq_some]; exact ⟨hx,hy⟩
 .intro ha;rw [List.all_eq_true];rintro ⟨x,y⟩ hq;obtain ⟨j,hj⟩:=List.getElem?_of_mem hq;rw [List.getElem?_zip_eq_some] at hj;have:=Ge ha hj.1;simp only [Rs,hj.2] at this;exact this
theorem Aza {data:List Ao} (hv:Gv data):∀(n:Nat) (v:Ar) (t:Ag) (k:Nat),B1 v<=n->4*n<=k->n<=5000->Dc data 0 t=true->A6 t<=200->N3 k data v t=some (D8 data v t):=by
 intro n;induction n with
 | zero=>intro v t k h; have:=Nd v; omega
 | succ n ih=>
  intro v t k h hk hn ht E;have a1:=G6 v;have a6:=Kl v.Kids;obtain ⟨k,rfl⟩:∃k',k=k' + 4:=⟨k-4,ω⟩;obtain ⟨kd,k7,k8⟩:=Aos ht;have f:∀g:List Ag,(∀a∈g,Dc data 0 a=true/\A6 a<=200)->N9 (k+3) data v.Kids g=some (Ie data v.Kids g):=by
   intro g U;rw [N9,Wa];by_cases X:v.Kids.length=g.length
   .rw [Cp ω,Rr data _ _ X,Aot _ _ _ X];simp only [cond_false];have key:=M5 v.Kids (Rs g (λq=>D8 data q.1 q.2)) (λj=>(j:Int)) (s0:=(0:Int)) rfl ω (rt:=true) (rf:=false) (J:=λz:Bool⊕Unit=>match z with | .inl S=>some S | .inr _=>some true)
     (step:=λG=>bif G<(v.Kids.length:Int) then ((Ae v.Kids G).bind λY=>(Ae g G).bind λv9=>(S8 (k+1) Y v9 data).bind λv11=>bif (!v11) then some (.inr (.inl false)) else some (.inl (Aa (G+1)))) else some (.inr (.inr ()))) (by intro j x hx _ h1 h2 h3;have hy:g[j]? = some (g[j]'(by have:=Dr hx; omega)):=Be (by have:=Dr hx; omega);generalize g[j]'(by have:=Dr hx; omega)=y at hy;have A:=U y (Bg hy);have hxm:=Gr (Bg hx);simp only [h1,h2,h3,cond_true,Ad,Bi rfl hy,Rs,hy,S8,ih x y k ω ω ω A.1 A.2];cases D8 data x y with| true=>exact ⟨λ_=>rfl,λh=>by cases h⟩| false=>exact ⟨(λh=>by cases h),λ_=>⟨.inl false,rfl,rfl⟩⟩) (by intro h _; exact ⟨.inr (),by simp only [h]; rfl,rfl⟩)
    rw [Kf] at key;exact congrArg (λq=>Option.bind q some) key
   .rw [Cs ω,Ph data _ _ X]; rfl
  have b:∀a∈t.Args,Dc data 0 a=true/\A6 a<=200:=λa ha=>⟨Agr ht a ha,by have:=Gf ha; have:=Ga t; omega⟩;rw [N3,Pg];by_cases R:t.Kind=1
  .rw [Ct R,if_pos R,Pi];cases (v.Kind==3) <;> cases decide (-1099511627776<=v.Num) <;> cases decide (v.Num<=1099511627776) <;> rfl
  rw [Bz R,if_neg R];by_cases N:t.Kind=2
  .rw [Ct N,if_pos N,Pi];cases (v.Kind==2) <;> cases (v.Num==0) <;> cases (v.Num==1) <;> rfl
  rw [Bz N,if_neg N];by_cases M:t.Kind=3
  .rw [Ct M,if_pos M,Pi];cases (v.Kind==1) <;> cases (v.Num==0) <;> rfl
  rw [Bz M,if_neg M];by_cases I:t.Kind=6
  .rw [Ct I,if_pos I,f t.Args b];cases (v.Kind==4) <;> cases (v.Num==0) <;> rfl
  rw [Bz I,if_neg I];by_cases L:t.Kind=5
  .rw [Ct L,if_pos L,Ax1 hv.szv t E];simp only [cond_false,cond_true];by_cases g1:v.Kind=5
   .rw [Cp g1,Ct g1];by_cases g2:v.Num<0
    .rw [An g2,Aq (by omega:¬0<=v.Num)]; rfl
    .by_cases g3:v.Num>=8
     .rw [Aq g2,An g3,Aq (by omega:¬v.Num<8)];simp
     .rw [Aq g2,Aq g3,An (by omega:0<=v.Num),An (by omega:v.Num<8)];simp only [cond_false,Ad,Bool.true_and];cases hf:Gg data t v.Num with| none=>rfl| some l=>simp only [okL,cond_true];rw [f l (Aor hv ht hf)]; rfl
   .rw [Cs g1,Bz g1]; rfl
  rw [Bz L,if_neg L];by_cases c:t.Kind=7
  .rw [Ct c,if_pos c,show decide ((v.Kids.length:Int)<=4096)=decide (v.Kids.length<=4096) by congr 1; simp only [eq_iff_iff]; omega];have V:=k7 c
   match B:t.Args,V with
   | [u],_=>
    have hu:=b u (by rw [B]; simp);have D:W6 (k+3) v.Kids data t=some (!Nf data v.Kids u):=by
     rw [W6,Aam,Aon];have key:=Afq v.Kids (λx=>!D8 data x u) ω (J:=λz=>match z with | .inl Z=>some Z | .inr _=>some (-1)) (step:=λv3=>bif v3<(v.Kids.length:Int) then ((Ae v.Kids v3).bind λv4=>(Sv (k+1) v4 data t).bind λv5=>bif v5 then some (.inr (.inl v3)) else some (.inl (Aa (v3+1)))) else some (.inr (.inr ()))) (by intro j x hx h1 h2 h3;have hxm:=Gr hx;have hi:Ae t.Args 0=some u:=(by rw [B]; rfl);simp only [h1,h2,h3,cond_true,Ad,Sv,hi,ih x u k ω ω ω hu.1 hu.2]) (λh=>by simp only [h]; rfl) (λ_=>rfl) rfl
     obtain ⟨i,i1,i2⟩:=key
     erw [i1];simp only [Ad,i2];rw [List.any_eq_not_all_not]; simp
    simp only [cond_false,cond_true,D,Ad];cases (v.Kind==6) <;> cases (v.Num==0) <;> cases decide (v.Kids.length<=4096) <;> cases Nf data v.Kids u <;> rfl
  rw [Bz c,if_neg c];by_cases s:t.Kind=8
  .rw [Ct s,if_pos s,f t.Args b];cases (v.Kind==7) <;> cases (v.Num==0) <;> rfl
  rw [Bz s,if_neg s];have k9:t.Kind=9:=ω;rw [Ct k9,Pi];cases (v.Kind==8) <;> cases decide (0<=v.Num) <;> cases decide (v.Num<64) <;> rfl
theorem Azb {data:List Ao} (hv:Gv data):∀(n:Nat) (v:Ar) (t:Ag) (k:Nat),B1 v<=n->2*n<=k->n<=5000->Dc data 0 t=true->A6 t<=200->L3 k data v t=some (D8 data v t):=by
 intro n;induction n with
 | zero=>intro v t k h; have:=Nd v; omega
 | succ n ih=>
  intro v t k h hk hn ht G;have a6:=G6 v;have a7:=Kl v.Kids;obtain ⟨k,rfl⟩:∃k',k=k' + 2:=⟨k-2,ω⟩;obtain ⟨kd,k7,k8⟩:=Aos ht;have A:∀i:List Ag,(∀a∈i,Dc data 0 a=true/\A6 a<=200)->Qk (k+1) data v.Kids i=some (Ie data v.Kids i):=by
   intro i a1;rw [Qk];by_cases hl:v.Kids.length=i.length
   .rw [Cp ω,Rr data _ _ hl,Aot _ _ _ hl];simp only [cond_false];have key:=M5 v.Kids (Rs i (λq=>D8 data q.1 q.2)) (λj=>(j:Int)) (s0:=(0:Int)) rfl ω (rt:=true) (rf:=false) (J:=λz:Bool⊕Unit=>match z with | .inl Z=>some Z | .inr _=>some true)
     (step:=λv4=>bif v4<(v.Kids.length:Int) then ((Ae v.Kids v4).bind λv5=>(Ae i v4).bind λv6=>(L3 k data v5 v6).bind λv7=>bif (!v7) then some (.inr (.inl false)) else some (.inl (Aa (v4+1)))) else some (.inr (.inr ()))) (by intro j x hx _ h1 h2 h3;have hy:i[j]? = some (i[j]'(by have:=Dr hx; omega)):=Be (by have:=Dr hx; omega);generalize i[j]'(by have:=Dr hx; omega)=y at hy;have D:=a1 y (Bg hy);have hxm:=Gr (Bg hx);simp only [h1,h2,h3,cond_true,Ad,Bi rfl hy,Rs,hy,ih x y k ω ω ω D.1 D.2];cases D8 data x y with| true=>exact ⟨λ_=>rfl,λh=>by cases h⟩| false=>exact ⟨(λh=>by cases h),λ_=>⟨.inl false,rfl,rfl⟩⟩) (by intro h _; exact ⟨.inr (),by simp only [h]; rfl,rfl⟩)
    rw [Kf] at key;exact key
   .rw [Cs ω,Ph data _ _ hl]; rfl
  have g:∀a∈t.Args,Dc data 0 a=true/\A6 a<=200:=λa ha=>⟨Agr ht a ha,by have:=Gf ha; have:=Ga t; omega⟩;have s:∀u,t.Args = [u]->(Al (S:=Int) (E:=(Bool⊕Unit)) (λv12=>bif v12<(v.Kids.length:Int) then ((Ae v.Kids v12).bind λX=>(Ae t.Args 0).bind λV=>(L3 (k+1) data X V).bind λU=>bif (!U) then some (.inr (.inl false)) else some (.inl (Aa (v12+1)))) else some (.inr (.inr ()))) 0).bind (λz=>match z with | .inl Y=>some Y | .inr _=>some true)=some (Nf data v.Kids u):=by
   intro u b;have hu:=g u (by rw [b]; simp);rw [Aon];refine (Ld v.Kids (D8 data · u) (λj=>(j:Int)) rfl ω (rt:=true) (rf:=false) ?_ ?_).trans (by rw [Kf])
   .intro j x hx h1 h2 h3;have hxm:=Gr (Bg hx);have hi:Ae t.Args 0=some u:=(by rw [b]; rfl);simp only [h1,h2,h3,cond_true,Ad,hi,ih x u (k+1) ω ω ω hu.1 hu.2];cases D8 data x u with| true=>exact ⟨λ_=>rfl,λh=>by cases h⟩| false=>exact ⟨(λh=>by cases h),λ_=>⟨.inl false,rfl,rfl⟩⟩
   .intro h; exact ⟨.inr (),by simp only [h]; rfl,rfl⟩
  rw [L3,Pg];by_cases M:t.Kind=3
  .rw [Ct M,if_neg ω,if_neg ω,if_pos M,Pi];cases (v.Kind==1) <;> cases (v.Num==0) <;> rfl
  rw [Bz M];by_cases N:t.Kind=2
  .rw [Ct N,if_neg ω,if_pos N,Pi];cases (v.Kind==2) <;> cases (v.Num==0) <;> cases (v.Num==1) <;> rfl
  rw [Bz N];by_cases R:t.Kind=1
  .rw [Ct R,if_pos R,Pi];rw [show decide (v.Num>=-1099511627776)=decide (-1099511627776<=v.Num) from rfl];cases (v.Kind==3) <;> cases decide (-1099511627776<=v.Num) <;> cases decide (v.Num<=1099511627776) <;> rfl
  rw [Bz R,if_neg R,if_neg N,if_neg M];by_cases I:t.Kind=6
  .rw [Ct I,if_pos I,A t.Args g];cases (v.Kind==4) <;> cases (v.Num==0) <;> rfl
  rw [Bz I,if_neg I];by_cases L:t.Kind=5
  .rw [Ct L,if_pos L,Ax2 hv.szv t G];simp only [cond_false,cond_true];by_cases g1:v.Kind=5
   .rw [Cp g1,Ct g1];by_cases g2:v.Num<0
    .rw [An g2,Aq (by omega:¬0<=v.Num)]; rfl
    .by_cases g3:v.Num>=8
     .rw [Aq g2,An g3,Aq (by omega:¬v.Num<8)];simp
     .rw [Aq g2,Aq g3,An (by omega:0<=v.Num),An (by omega:v.Num<8)];simp only [cond_false,Ad,Bool.true_and];cases hf:Gg data t v.Num with| none=>rfl| some l=>simp only [okL,cond_true];rw [A l (Aor hv ht hf)]; rfl
   .rw [Cs g1,Bz g1]; rfl
  rw [Bz L,if_neg L];by_cases f:t.Kind=7
  .have B:=k7 f;rw [Ct f,if_pos f,Bz (by omega:t.Kind≠8)]
   match b:t.Args,B with
   | [u],_=>
    have:=s u b;rw [b] at this;simp only [cond_false,cond_true,Ad];by_cases g1:v.Kind=6
    .by_cases g2:(v.Kids.length:Int)>4096
     .rw [Cp g1,Ct g1,An g2,Aq (by omega:¬v.Kids.length<=4096)];simp
     .by_cases g3:v.Num=0
      .rw [Cp g1,Ct g1,Aq g2,An (by omega:v.Kids.length<=4096),Cp g3,Ct g3];simp only [cond_false,Ad,Bool.true_and];exact this
      .rw [Cp g1,Ct g1,Aq g2,An (by omega:v.Kids.length<=4096),Cs g3,Bz g3];simp
    .rw [Cs g1,Bz g1];simp
  rw [Bz f,if_neg f];by_cases c:t.Kind=8
  .have B:=k8 c;rw [Ct c,if_pos c]
   match b:t.Args,B with
   | [u],_=>
    have:=s u b;rw [b] at this;simp only [cond_false,cond_true,Ad];by_cases g1:v.Kind=7
    .by_cases g2:v.Kids.length=1
     .by_cases g3:v.Num=0
      .rw [Cp g1,Ct g1,Cp (by omega:(v.Kids.length:Int)=1),Cp g3,Ct g3];simp only [cond_false,Ad,Bool.true_and];refine Eq.trans this ?_
       match hk:v.Kids,g2 with| [w],_=>simp [Nf,Ie]
      .rw [Cp g1,Ct g1,Cp (by omega:(v.Kids.length:Int)=1),Cs g3,Bz g3];simp
     .rw [Cp g1,Ct g1,Cs (by omega:(v.Kids.length:Int)≠1),Ph data v.Kids [u] (by simpa using g2)];simp
    .rw [Cs g1,Bz g1];simp
  rw [Bz c,if_neg c,Pi];rw [show decide (v.Num>=0)=decide (0<=v.Num) from rfl];cases (v.Kind==8) <;> cases decide (0<=v.Num) <;> cases decide (v.Num<64) <;> rfl
def Hz (data:List Ao) (v:Ar) (t:Ag):Bool:=F0 data t&&decide (B1 v<=5000)&&D8 data v t
theorem Aou {data:List Ao} (j:DSz data) (v:Ar) (t:Ag) (f:B1 v<1099511627776) (ht:A6 t<=1048576):∃b,Ms data v t=some b/\(b=true↔Gv data/\Hz data v t=true):=by
 obtain ⟨b,b1,b2⟩:=Aga j;unfold Ms Zn Hz;rw [b1,Xi data t 0 ω];simp only [Ad];rw [show (Dc data 0 t&&decide (A6 t<=200))=F0 data t from rfl];cases b with
 | false=>exact ⟨false,rfl,by simp; intro h; have:=b2.2 h; cases this⟩
 | true=>
  have hv:=b2.1 rfl;cases k:F0 data t with
  | false=>exact ⟨false,rfl,ψ⟩
  | true=>
   obtain ⟨l,i,_⟩:=Ay8 5000 v 4000000 ω ω f;have i:Lz 4000000 v 5000=_:=i;simp only [cond_true,Ad,i];by_cases g:B1 v<=5000
   .have c:=k;simp only [F0,Ca,decide_eq_true_eq] at c;rw [An g];simp only [cond_true,Aza hv 5000 v t 4000000 g ω ω c.1 c.2,Ad];exact ⟨_,rfl,by simp [hv]⟩
   .rw [Aq g];exact ⟨false,rfl,ψ⟩
theorem Azc {data:List Ao} (k:DSz data) (v:Ar) (t:Ag) (g:B1 v<1099511627776) (ht:A6 t<=1048576):∃b,Qa data v t=some b/\(b=true↔Gv data/\Hz data v t=true):=by
 obtain ⟨c,q,j⟩:=Ani k;unfold Qa Hz;rw [q,Abc data t 0 ω];simp only [Ad];rw [show (Dc data 0 t&&decide (A6 t<=200))=F0 data t from rfl];cases c with
 | false=>exact ⟨false,rfl,by simp; intro h; have:=j.2 h; cases this⟩
 | true=>
  have hv:=j.1 rfl;cases l:F0 data t with
  | false=>exact ⟨false,rfl,ψ⟩
  | true=>
   obtain ⟨s,e2,_⟩:=Ay9 5000 v 4000000 ω ω g;have e2:L2 4000000 v 5000=_:=e2;simp only [cond_true,Ad,e2];by_cases i:B1 v<=5000
   .have f:=l;simp only [F0,Ca,decide_eq_true_eq] at f;rw [An i];simp only [cond_true,Azb hv 5000 v t 4000000 i ω ω f.1 f.2,Ad];exact ⟨_,rfl,by simp [hv]⟩
   .rw [Aq i];exact ⟨false,rfl,ψ⟩
end Go.Ab
namespace Go.Ab
open Go
mutual
def Fs (data:List Ao) (d:Int):Ar->List Ar
 | ⟨k,n,kids⟩=>⟨k,n,kids⟩::Fh data d kids (Cx data d n)
def Fh (data:List Ao) (d:Int):List Ar->List Bool->List Ar
 | x::xs,b::bs=>(bif b then Fs data d x else [])++Fh data d xs bs
 | [],_=>[]
 | _::_,[]=>[]
end
theorem Aby (data:List Ao) (d:Int) (v:Ar):Fs data d v=v::Fh data d v.Kids (Cx data d v.Num):=by cases v; simp only [Fs]
mutual
theorem Abz (data:List Ao) (d:Int):∀v,(Fs data d v).length<=B1 v
 | ⟨k,n,kids⟩=>by
  have:=Xx data d kids (Cx data d n)
  simp only [Fs,B1,List.length_cons]; omega
theorem Xx (data:List Ao) (d:Int):∀l r,(Fh data d l r).length<=C7 l
 | x::xs,b::bs=>by
  have h1:=Abz data d x
  have h2:=Xx data d xs bs
  cases b <;> simp only [Fh,C7,List.length_append,cond_true,cond_false,List.length_nil] <;> omega
 | [],_=>by simp [Fh]
 | _::_,[]=>by simp [Fh]
end
theorem Ab0 (data:List Ao) (d:Int):∀(l:List Ar) (r:List Bool) (x:Ar) (b:Bool),l.length=r.length->Fh data d (l++[x]) (r++[b])=Fh data d l r++(bif b then Fs data d x else [])
 | [],[],x,b,_=>by simp [Fh]
 | y::ys,c::cs,x,b,h=>by simp only [List.cons_append,Fh,Ab0 data d ys cs x b (by simpa using h),List.append_assoc]
 | [],_::_,_,_,h=>by simp at h
 | _::_,[],_,_,h=>by simp at h
theorem Azd {a:Ag} {d vars:Int} {σ:List Ag} (h:G5 a d vars=true) (f:(σ.length:Int)=vars):Cv σ a=⟨5,d,σ⟩:=by
 unfold G5 at h;simp only [Ca,beq_iff_eq] at h;obtain ⟨⟨⟨h1,h2⟩,h3⟩,h4⟩:=h;have hv:isV σ a.Kind a.Num=false:=by unfold isV; rw [h1]; rfl
 rw [Xn hv,h1,h2];congr 1;apply List.ext_getElem?;intro j;rw [List.getElem?_map];cases hx:a.Args[j]? with| none=>rw [List.getElem?_eq_none_iff] at hx;rw [List.getElem?_eq_none ω]; rfl| some x=>have hj:=Dr hx;have:=Ge h4 hx;simp only [Mf,Ca,beq_iff_eq] at this;have c:σ[j]? = some (σ[j]' ω):=Be ω;generalize σ[j]' ω=s at c;have b:isV σ x.Kind x.Num=true:=(by unfold isV;rw [this.1.1,this.1.2,An ω,An ω]; rfl);rw [c,Option.map_some,T5 b (by rw [this.1.2]; exact c)]
theorem Rt {data:List Ao} {v:Ar} {t:Ag} (hk:t.Kind=5) (h:D8 data v t=true) : ∃x,Ae data t.Num=some x/\0<=v.Num/\v.Num<x.Cons.length/\(Cx data t.Num v.Num).length=v.Kids.length/\∀(j:Nat) (w:Ar),v.Kids[j]? = some w->(Cx data t.Num v.Num)[j]? = some true->D8 data w t=true:=by
 rw [Pg,if_neg ω,if_neg ω,if_neg ω,if_neg ω,if_pos hk] at h;cases s:Gg data t v.Num with
 | none=>rw [s] at h; simp at h
 | some l=>
  rw [s] at h;simp only [Ca] at h;have b:=h.2;have c:v.Kids.length=l.length:=by
   by_cases q:v.Kids.length=l.length
   .exact q
   .rw [Ph data _ _ q] at b; cases b
  have E:=Rl s;obtain ⟨x,y,_,hx,u,hy,q,_⟩:=Mi s;obtain ⟨D,B,_,_⟩:=Ec hy;refine ⟨x,hx,D,B,ω,λj w hw A=>?_⟩;rw [Rr data _ _ c] at b;have hj:=Dr hw;have g:l[j]? = some (l[j]' ω):=Be ω;have hh:=List.all_eq_true.1 b (w,l[j]' ω) (Bg (i:=j) (by rw [List.getElem?_zip_eq_some]; exact ⟨hw,g⟩));simp only at hh;have ha:y.Args[j]? = some (y.Args[j]'(by rw [q] at c; simp at c; omega)):=Be _;generalize y.Args[j]'_=a at ha;have z:(Cx data t.Num v.Num)[j]? = some (G5 a t.Num x.Vars):=(by unfold Cx; simp only [hx,hy,List.getElem?_map,ha,Option.map_some]);rw [z] at A;have f:=Option.some.inj A;have k:l[j]? = some (Cv t.Args a):=(by rw [q,List.getElem?_map,ha]; rfl);rw [k] at g;rw [<-Option.some.inj g,Azd f u] at hh;have:(Ag.mk 5 t.Num t.Args)=t:=(by cases t; simp only at hk; rw [hk]);rw [this] at hh; exact hh
theorem Aze {data:List Ao} (A:Hf data) {t:Ag} (hk:t.Kind=5):∀(n:Nat) (v:Ar) (k:Nat) (b:List Ar),B1 v<=n->n<=k->n<=1048576->b.length+B1 v<=1048576->D8 data v t=true->Tu k data v t.Num b=some (b++Fs data t.Num v):=by
 intro n;induction n with
 | zero=>intro v k b h; have:=Nd v; omega
 | succ n ih=>
  intro v k b h B I hb D;obtain ⟨k,rfl⟩:∃l,k=l+1:=⟨k-1,ω⟩;have s:=G6 v;have u:=Kl v.Kids;obtain ⟨x,hx,G,E,i,f⟩:=Rt hk D;rw [Tu,Di (by simp; omega),Ad,Af4 data t.Num v.Num A,Ad,Aby];generalize J:Cx data t.Num v.Num=R at *;have g:∀j,(Fh data t.Num (v.Kids.take j) (R.take j)).length<=C7 (v.Kids.take j):=λj=>Xx _ _ _ _;refine Fg R (λj=>((j:Int),b++[v]++Fh data t.Num (v.Kids.take j) (R.take j))) (by simp [Fh]) ω ?_ ?_
  .intro j c hj hc h1 h2 h3;have hw:v.Kids[j]? = some (v.Kids[j]' ω):=Be ω;generalize v.Kids[j]'_=w at hw;have q:=Gr (Bg hw);have y:=Abx hw;have z:=Xw v.Kids (j+1);have hp:=g j;simp only [h1,h2,h3,cond_true,Ad,Bi rfl hw,Cu hw,Cu hc];rw [Ab0 _ _ _ _ _ _ (by simp; omega)];cases c with| false=>simp| true=>rw [ih w k _ ω ω ω (by simp; omega) (f j w hw hc)];simp
  .intro h1;refine ⟨b++(v::Fh data t.Num v.Kids R),?_,rfl⟩;simp only [h1];rw [List.take_of_length_le (by omega:v.Kids.length<=R.length),List.take_length]; simp
theorem Azf {data:List Ao} (g:Hf data) {t:Ag} (hk:t.Kind=5) (v:Ar) (hv:B1 v<=5000) (s:D8 data v t=true):Wr data v t.Num=some (Fs data t.Num v):=by
 have k:=G6 v;have l:=Kl v.Kids;obtain ⟨x,hx,y,u,h,b⟩:=Rt hk s;unfold Wr;rw [Di ψ,Ad,Af4 data t.Num v.Num g,Ad,Aby];generalize z:Cx data t.Num v.Num=R at *;have f:∀j,(Fh data t.Num (v.Kids.take j) (R.take j)).length<=C7 (v.Kids.take j):=λj=>Xx _ _ _ _;refine Fg R (λj=>((j:Int),[v]++Fh data t.Num (v.Kids.take j) (R.take j))) (by simp [Fh]) ω ?_ ?_
 .intro j c hj hc h1 h2 h3;have hw:v.Kids[j]? = some (v.Kids[j]' ω):=Be ω;generalize v.Kids[j]'_=w at hw;have i:=Gr (Bg hw);have q:=Xw v.Kids j;have hp:=f j;simp only [h1,h2,h3,cond_true,Ad,Bi rfl hw,Cu hw,Cu hc];rw [Ab0 _ _ _ _ _ _ (by simp; omega)];cases c with| false=>simp| true=>rw [Aze g hk 5000 w 4000000 _ ω ω ω (by simp; omega) (b j w hw hc)];simp
 .intro h1;refine ⟨(v::Fh data t.Num v.Kids R),?_,rfl⟩;simp only [h1];rw [List.take_of_length_le (by omega:v.Kids.length<=R.length),List.take_length]; simp
theorem Azg {data:List Ao} {t:Ag} (hk:t.Kind=5) (B:List (List Bool)) (I:∀(x:Ao),Ae data t.Num=some x->∀n:Int,0<=n->n<x.Cons.length->Ae B n=some (Cx data t.Num n)):∀(n:Nat) (v:Ar) (k:Nat) (b:List Ar),B1 v<=n->n<=k->n<=1048576->b.length+B1 v<=1048576->D8 data v t=true->Qz k v b B=some (b++Fs data t.Num v):=by
 intro n;induction n with
 | zero=>intro v k b h; have:=Nd v; omega
 | succ n ih=>
  intro v k b h E J hb G;obtain ⟨k,rfl⟩:∃s,k=s+1:=⟨k-1,ω⟩;have y:=G6 v;have z:=Kl v.Kids;obtain ⟨x,hx,q,l,i,f⟩:=Rt hk G;rw [Qz,Di (by simp; omega),Ad,T2 b [] _ _ b.length rfl rfl,Ad,T1 b [] _ _ _ b.length rfl rfl,I x hx v.Num q l,Ad,Aby];generalize L:Cx data t.Num v.Num=R at *;have g:∀j,(Fh data t.Num (v.Kids.take j) (R.take j)).length<=C7 (v.Kids.take j):=λj=>Xx _ _ _ _;refine Fg R (λj=>((j:Int),b++[v]++Fh data t.Num (v.Kids.take j) (R.take j))) (by simp [Fh]) ω ?_ ?_
  .intro j c hj hc h1 h2 h3;have hw:v.Kids[j]? = some (v.Kids[j]' ω):=Be ω;generalize v.Kids[j]'_=w at hw;have u:=Gr (Bg hw);have A:=Abx hw;have D:=Xw v.Kids (j+1);have hp:=g j;simp only [h1,h2,h3,cond_true,Ad,Bi rfl hw,Cu hw,Cu hc];rw [Ab0 _ _ _ _ _ _ (by simp; omega)];cases c with| false=>simp| true=>rw [ih w k _ ω ω ω (by simp; omega) (f j w hw hc)];simp
  .intro h1;refine ⟨b++(v::Fh data t.Num v.Kids R),?_,rfl⟩;simp only [h1];rw [List.take_of_length_le (by omega:v.Kids.length<=R.length),List.take_length]; simp
theorem Azh {data:List Ao} (k:Hf data) (l:∀x∈data,x.Cons.length<=8) {t:Ag} (hk:t.Kind=5) (v:Ar) (hv:B1 v<=5000) (h:D8 data v t=true):Wc data t v=some (Fs data t.Num v):=by
 obtain ⟨x,hx,u,s,g,f⟩:=Rt hk h;have i:=l x (Ec hx).2.2.2;unfold Wc;rw [hx,Ad];refine Fg x.Cons (λj=>((j:Int),(List.range j).map λc:Nat=>Cx data t.Num (c:Int))) rfl ω ?_ ?_
 .intro j y hj hy h1 h2 h3;simp only [h1,h3,cond_true,Xj data t.Num (j:Int) k,Ad];rw [Di (by simp; omega),Ad,List.range_succ]; simp
 .intro h1;refine ⟨(List.range x.Cons.length).map λc:Nat=>Cx data t.Num (c:Int),ψ,?_⟩;rw [Azg hk _ (λq b n a1 a2=>?_) 5000 v 4000000 [] hv ω ω (by simp; omega) h]
  .rfl
  .rw [hx] at b; cases b;rw [Bi (n:=n.toNat) ω];rw [List.getElem?_map,List.getElem?_range ω];simp only [Option.map_some];rw [show ((n.toNat:Nat):Int)=n by omega]
end Go.Ab
namespace Go.Ab
open Go
theorem Azi {data:List Ao} (c:DSz data) (hv:Gv data) (t:Ag) (f:F0 data t=true) (i:A3) (hi:C1 i<=1048576):Vv data t i=some (Gb (Ee data i t)):=by
 have b:=f;simp only [F0,Ca,decide_eq_true_eq] at b;obtain ⟨q,h,g⟩:=Aga c;have hq:q=true:=g.2 hv;subst hq;unfold Vv Z0;rw [h,Xi data t 0 ω];simp only [Ad,cond_true];rw [show (Dc data 0 t&&decide (A6 t<=200))=F0 data t from rfl,f];obtain ⟨p,k,j⟩:=(Ax5 hv.szv c.sz.short 4000000).1 i t ω hi b.2;simp only [D3,cond_false,k,Ad];rcases j with ⟨a1,d,a2,a3,a4⟩ | ⟨a1,a2⟩
 .rw [a1,a2,Xq a3,a4]; rfl
 .rw [a1,Rn a2]; rfl
end Go.Ab
namespace Go.Ab
open Go
theorem Xy {data:List Ao} {vars:List Ag} {res:Ag} {m:Bw} (h:Gw data vars res m=true):(∀f∈m.Factors,∃t,Dl vars res f.Var=some t)/\m.Factors.length<=6:=by
 unfold Gw at h;simp only [Ca,decide_eq_true_eq] at h;obtain ⟨⟨h1,h2⟩,h3⟩:=h;have b:∀f∈m.Factors,1<=Ez data vars res f:=by intro f b;obtain ⟨j,hj⟩:=List.getElem?_of_mem b;have:=Ge h1 hj;simp only [Lm,Ca,decide_eq_true_eq] at this;exact this.1
 have ha:0<=E6 m.Atoms:=(Xv m.Atoms (λa ha=>by obtain ⟨j,hj⟩:=List.getElem?_of_mem ha;have:=Ge h2 hj;simp only [Ip,Ca,decide_eq_true_eq] at this;omega)).1;refine ⟨λf c=>?_,?_⟩
 .have:=b f c;unfold Ez at this;cases ht:Dl vars res f.Var with
  | none=>rw [ht] at this; have:(1:Int)<=-1:=this; omega
  | some t=>exact ⟨t,rfl⟩
 .have key:∀l:List Cn,(∀f∈l,1<=Ez data vars res f)->(l.length:Int)<=Dz data vars res l:=(by intro l;induction l with| nil=>intro _; simp [Dz]| cons f fs ih=>intro i;have h1:=i f ψ;have h2:=ih (λg k=>i g (by simp [k]));unfold Dz at *;simp only [List.map_cons,List.sum_cons,List.length_cons]; omega);have:=key m.Factors b;omega
theorem Azj (a b:Ai) (j k:Nat) (ha:RB j a) (hb:RB k b) (hj:j<34359738000) (hk:k<34359738000):∃c,Ey a b=some c/\Hn a b=some c/\RB (j+k+2) c:=by refine ⟨_,Xc a b j k ha hb ω ω,Awk a b j k ha hb ω ω,?_⟩;have h1:=ha.nv;have h2:=ha.dv;have h3:=hb.nv;have h4:=hb.dv;have g:=Fp (nv a) (nv b);have f:=Fp (dv a) (dv b);exact Jh _ _ _ _ ω ω ω
theorem Azk (a b:Ai) (j k:Nat) (ha:RB j a) (hb:RB k b) (hj:j<34359738000) (hk:k<34359738000):∃c,G9 a b=some c/\I7 a b=some c/\RB (j+k+3) c:=by
 refine ⟨_,Afy a b j k ha hb ω ω,Awm a b j k ha hb ω ω,?_⟩;have h1:=ha.nv;have h2:=ha.dv;have h3:=hb.nv;have h4:=hb.dv;have q:=Fp (nv a) (dv b);have l:=Fp (nv b) (dv a);have i:=Fp (dv a) (dv b);have f:Ib (sv a) (nv a) (dv a) (sv b) (nv b) (dv b)<=nv a*dv b+nv b*dv a:=by
  unfold Ib;split
  .omega
  .split <;> omega
 have h:=G4 f;have g:=W8 (nv a*dv b) (nv b*dv a);exact Jh _ _ _ _ ω ω ω
end Go.Ab
namespace Go.Ab
open Go
end Go.Ab
namespace Go.Ab
open Go
end Go.Ab
namespace Go.Ab
open Go
end Go.Ab
namespace Go.Ab
open Go
def sg (s:Bool) (n:Nat):Int:=if s then -(n:Int) else n
def rq (a:Ai):Rat:=mkRat (sg (sv a) (nv a)) (dv a)
def Ef (a:Ai):Prop:=a=Bj (sv a) (nv a) (dv a)
theorem Km (s:Bool) (n d:Nat) (hd:d≠0):rq (Bj s n d)=mkRat (sg s n) d:=by
 obtain ⟨g,f,h1,h2,h3,h4⟩:=Aa9 s n d hd;unfold rq;rw [Rat.mkRat_eq_iff (D4 _) hd];generalize nv (Bj s n d)=b at *;generalize dv (Bj s n d)=i at *;generalize sv (Bj s n d)=s' at *;by_cases c:n=0
 .have:b=0:=by
   rcases Nat.eq_zero_or_pos b with h | h
   .exact h
   .have:=Nat.mul_pos (Nat.pos_of_ne_zero f) h; omega
  subst this; subst c;cases s <;> cases s' <;> simp [sg]
 .rw [h3 c,h1,h2];cases s <;> simp only [sg,if_true,if_false,Bool.false_eq_true,Int.natCast_mul] <;> grind
theorem Ng (s:Bool) (n d:Nat) (hd:d≠0):Ef (Bj s n d):=by
 obtain ⟨g,b,h1,h2,h3,h4⟩:=Aa9 s n d hd;unfold Ef;generalize hc:Bj s n d=c at h1 h2 h3 h4;have e:=O2 s (nv c) (dv c) g b;rw [<-h1,<-h2,hc] at e;by_cases f:n=0
 .have h0:nv c=0:=by
   rcases Nat.eq_zero_or_pos (nv c) with h | h
   .exact h
   .have:=Nat.mul_pos (Nat.pos_of_ne_zero b) h; omega
  rw [h0,Xd] at e ⊢;exact e
 .rw [h3 f]; exact e
theorem Aov (n m:Int) {d e:Nat} (hd:d≠0) (g:e≠0):mkRat n d<mkRat m e↔n*e<m*d:=by
 have c:(0:Rat)<(d:Rat):=Rat.natCast_pos.2 ω;have b:(0:Rat)<(e:Rat):=Rat.natCast_pos.2 ω;rw [Rat.mkRat_eq_div,Rat.mkRat_eq_div,Rat.div_lt_iff c];rw [<-Rat.mul_lt_mul_right b];have f:(m:Rat) / (e:Rat)*(d:Rat)*(e:Rat)=(m:Rat)*(d:Rat):=by grind
 rw [f];have a1:(n:Rat)*(e:Rat)=((n*(e:Int):Int):Rat):=by rw [Rat.intCast_mul]; rfl
 have a2:(m:Rat)*(d:Rat)=((m*(d:Int):Int):Rat):=by rw [Rat.intCast_mul]; rfl
 rw [a1,a2,Rat.intCast_lt_intCast]
theorem Ags {a b:Ai} (ha:Ef a) (hb:Ef b) (h:rq a=rq b):a=b:=by
 unfold rq at h;rw [Rat.mkRat_eq_iff (D4 _) (D4 _)] at h;rw [ha,hb];have k:=D4 a;have j:=D4 b;generalize nv a=n at *;generalize dv a=d at *;generalize sv a=s at *;generalize nv b=m at *;generalize dv b=e at *;generalize sv b=t at *;have hh:n*e=m*d/\(n≠0->s=t):=by
  have c:n≠0->0<n*e:=λh=>Nat.mul_pos ω ω;have f:m≠0->0<m*d:=λh=>Nat.mul_pos ω ω;have q:((n*e:Nat):Int)=(n:Int)*e:=ψ;have l:((m*d:Nat):Int)=(m:Int)*d:=ψ;cases s <;> cases t <;> simp only [sg,if_true,if_false,Bool.false_eq_true,Int.neg_mul] at h
  .exact ⟨ω,λ_=>rfl⟩
  .have:n*e=0/\m*d=0:=ω;refine ⟨ω,λg=>?_⟩;have:=c g; omega
  .have:n*e=0/\m*d=0:=ω;refine ⟨ω,λg=>?_⟩;have:=c g; omega
  .exact ⟨ω,λ_=>rfl⟩
 have i:=O2 s n d e j;have e2:=O2 t m e d k;rw [<-i,<-e2,Nat.mul_comm e n,hh.1,Nat.mul_comm e d,Nat.mul_comm m d];refine Amv λh0=>hh.2 ?_;rintro rfl;rw [Nat.zero_mul] at hh;have:=hh.1;rw [Nat.mul_comm d m] at h0;omega
theorem Aow (j:Bool) (c g:Nat) (i:Bool) (b f:Nat):sg (Jg j c g i b f) (Ib j c g i b f)=sg j c*f+sg i b*g:=by
 unfold Jg Ib sg;have l:((c*f:Nat):Int)=(c:Int)*f:=ψ;have k:((b*g:Nat):Int)=(b:Int)*g:=ψ;cases j <;> cases i <;> simp only [if_true,if_false,Bool.false_eq_true,Bool.true_eq_false,Int.neg_mul]
 .omega
 .by_cases h:b*g<=c*f
  .simp only [if_pos h]; simp only [if_false,Bool.false_eq_true]; omega
  .simp only [if_neg h]; simp only [if_true]; omega
 .by_cases h:b*g<=c*f
  .simp only [if_pos h]; simp only [if_true]; omega
  .simp only [if_neg h]; simp only [if_false,Bool.false_eq_true]; omega
 .omega
theorem Ub {a b:Ai} {j k:Nat} (ha:RB j a) (hb:RB k b) (hj:j<34359738000) (hk:k<34359738000):∃c,G9 a b=some c/\I7 a b=some c/\RB (j+k+3) c/\Ef c/\rq c=rq a+rq b:=by
 obtain ⟨c,h1,h2,h3⟩:=Azk a b j k ha hb hj hk;have e:=Afy a b j k ha hb ω ω;rw [h1] at e;have e:=Option.some.inj e;have hd:dv a*dv b≠0:=Nat.mul_ne_zero (D4 a) (D4 b);refine ⟨c,h1,h2,h3,?_,?_⟩
 .rw [e]; exact Ng _ _ _ hd
 .rw [e,Km _ _ _ hd,Aow,rq,rq,Rat.mkRat_add_mkRat _ _ (D4 a) (D4 b)]
theorem Agt (s t:Bool) (n m:Nat):sg (s != t) (n*m)=sg s n*sg t m:=by unfold sg;cases s <;> cases t <;> simp [Int.neg_mul,Int.mul_neg]
theorem Xz {a b:Ai} {j k:Nat} (ha:RB j a) (hb:RB k b) (hj:j<34359738000) (hk:k<34359738000):∃c,Ey a b=some c/\RB (j+k+2) c/\Ef c/\rq c=rq a*rq b:=by have hd:dv a*dv b≠0:=Nat.mul_ne_zero (D4 a) (D4 b);have h1:=ha.nv;have h2:=ha.dv;have h3:=hb.nv;have h4:=hb.dv;have g:=Fp (nv a) (nv b);have f:=Fp (dv a) (dv b);refine ⟨_,Xc a b j k ha hb ω ω,Jh _ _ _ _ ω ω ω,Ng _ _ _ hd,?_⟩;rw [Km _ _ _ hd,Agt,rq,rq,Rat.mkRat_mul_mkRat]
theorem Uc {a b:Ai} {j k:Nat} (ha:RB j a) (hb:RB k b) (hj:j<34359738000) (hk:k<34359738000):∃c,Ey a b=some c/\Hn a b=some c/\RB (j+k+2) c/\Ef c/\rq c=rq a*rq b:=by
 obtain ⟨c,h1,h2,h3⟩:=Azj a b j k ha hb hj hk;have e:=Xc a b j k ha hb ω ω;rw [h1] at e;have e:=Option.some.inj e;have hd:dv a*dv b≠0:=Nat.mul_ne_zero (D4 a) (D4 b);refine ⟨c,h1,h2,h3,?_,?_⟩
 .rw [e]; exact Ng _ _ _ hd
 .rw [e,Km _ _ _ hd,Agt,rq,rq,Rat.mkRat_mul_mkRat]
def Jx (x:Rat):Int:=if x<0 then -1 else if 0<x then 1 else 0
theorem Azl (a:Ai):rq a<0↔Ia (sv a) (nv a) = -1:=by have e:(0:Rat)=mkRat 0 1:=ψ;rw [rq,e,Aov _ _ (D4 a) δ];unfold sg Ia;split <;> split <;> simp <;> omega
theorem Azm (a:Ai):0<rq a↔Ia (sv a) (nv a)=1:=by have e:(0:Rat)=mkRat 0 1:=ψ;rw [rq,e,Aov _ _ δ (D4 a)];unfold sg Ia;split <;> split <;> simp <;> omega
theorem Azn (a:Ai):Ia (sv a) (nv a)=Jx (rq a):=by
 have h1:=Azl a;have h2:=Azm a;have h3:Ia (sv a) (nv a) = -1\/Ia (sv a) (nv a)=0\/Ia (sv a) (nv a)=1:=by unfold Ia; split <;> (try split) <;> simp
 unfold Jx;split
 .rename_i h; exact h1.1 h
 .rename_i h;split
  .rename_i h'; exact h2.1 h'
  .rename_i h';rcases h3 with h3 | h3 | h3
   .exact (h (h1.2 h3)).elim
   .exact h3
   .exact (h' (h2.2 h3)).elim
theorem Aox {a:Ai} {k:Nat} (h:RB k a) (hk:k<34359738000):Hv a=some (Jx (rq a))/\Qi a=some (Jx (rq a)):=by rw [<-Azn];exact ⟨Afw a k h ω,Amy a k h ω⟩
end Go.Ab
namespace Go.Ab
open Go
structure Ek {α:Type} (S:α->Prop) (g:α->α->Int):Prop where
 zero:∀a b,S a->S b->(g a b=0↔a=b)
 anti:∀a b,S a->S b->g b a = - g a b
 trans:∀a b c,S a->S b->S c->g a b<0->g b c<0->g a c<0
theorem Ek.cmpI:Ek (λ_:Int=>True) Dy:=by
 refine ⟨λa b _ _=>Fu,λa b _ _=>?_,λa b c _ _ _=>?_⟩
 .unfold Go.Ab.Dy; split <;> split <;> (try split) <;> (try split) <;> omega
 .unfold Go.Ab.Dy; intro h1 h2; split at h1 <;> (try split at h1) <;> split at h2 <;> (try split at h2) <;> first | omega | (rw [if_pos ω]; decide)
theorem Aoy {x y:Int}:Dm x y<0↔x<0\/(x=0/\y<0):=by unfold Dm; split <;> omega
theorem Aoz {x y:Int}:Dm x y=0↔x=0/\y=0:=by unfold Dm; split <;> omega
theorem Ek.or {α β γ:Type} {S:α->Prop} {s:β->Prop} {l:γ->Prop} {j:β->β->Int} {i:γ->γ->Int} (p:α->β) (q:α->γ) (g:∀a b,p a=p b->q a=q b->a=b) (h1:Ek s j) (h2:Ek l i) (f:∀a,S a->s (p a)/\l (q a)) : Ek S (λa b=>Dm (j (p a) (p b)) (i (q a) (q b))):=by
 refine ⟨λa b ha hb=>?_,λa b ha hb=>?_,λa b c ha hb hc=>?_⟩
 .rw [Aoz,h1.zero _ _ (f a ha).1 (f b hb).1,h2.zero _ _ (f a ha).2 (f b hb).2];exact ⟨λh=>g a b h.1 h.2,λh=>by subst h; exact ⟨rfl,rfl⟩⟩
 .show Dm (j (p b) (p a)) (i (q b) (q a)) = - Dm (j (p a) (p b)) (i (q a) (q b));have y:=h1.anti _ _ (f a ha).1 (f b hb).1;have e2:=h2.anti _ _ (f a ha).2 (f b hb).2;rw [y,e2]; unfold Dm; split <;> split <;> omega
 .show Dm _ _<0->Dm _ _<0->Dm _ _<0;simp only [Aoy];have u:=h1.zero _ _ (f a ha).1 (f b hb).1;have z2:=h1.zero _ _ (f b hb).1 (f c hc).1;have t1:=h1.trans _ _ _ (f a ha).1 (f b hb).1 (f c hc).1;have t2:=h2.trans _ _ _ (f a ha).2 (f b hb).2 (f c hc).2;rintro (h | ⟨h,h'⟩) (k | ⟨k,x⟩)
  .exact .inl (t1 h k)
  .rw [<-z2.1 k]; exact .inl h
  .rw [u.1 h]; exact .inl k
  .rw [<-z2.1 k,h]; exact .inr ⟨rfl,t2 h' x⟩
theorem Ek.mono {α:Type} {S i:α->Prop} {g:α->α->Int} (h:Ek S g) (f:∀a,i a->S a):Ek i g := ⟨λa b ha hb=>h.zero a b (f a ha) (f b hb),λa b ha hb=>h.anti a b (f a ha) (f b hb),λa b c ha hb hc=>h.trans a b c (f a ha) (f b hb) (f c hc)⟩
theorem Ek.congr {α:Type} {S:α->Prop} {g c:α->α->Int} (h:Ek S g) (e:∀a b,c a b=g a b):Ek S c:=by have:c=g:=funext λa=>funext λb=>e a b;rw [this]; exact h
def LL {α:Type} (g:α->α->Int) (l m:List α):Int:=if l.length=m.length then Ej g l m else Go.Ab.Dy l.length m.length
theorem Ao0 {α:Type} {S:α->Prop} {g:α->α->Int} (h:Ek S g):∀l m:List α,l.length=m.length->(∀x∈l,S x)->(∀x∈m,S x)->(Ej g l m=0↔l=m)
 | [],[],_,_,_=>by simp [Ej]
 | x::xs,y::ys,b,h1,h2=>by simp only [Ej,Aoz,h.zero x y (h1 x ψ) (h2 y ψ),Ao0 h xs ys (by simpa using b) (λz c=>h1 z (by simp [c])) (λz c=>h2 z (by simp [c])),List.cons.injEq]
 | [],_::_,b,_,_=>by simp at b
 | _::_,[],b,_,_=>by simp at b
theorem Ao1 {α:Type} {S:α->Prop} {g:α->α->Int} (h:Ek S g):∀l m:List α,l.length=m.length->(∀x∈l,S x)->(∀x∈m,S x)->Ej g m l = - Ej g l m
 | [],[],_,_,_=>by simp [Ej]
 | x::xs,y::ys,b,h1,h2=>by simp only [Ej,h.anti x y (h1 x ψ) (h2 y ψ),Ao1 h xs ys (by simpa using b) (λz c=>h1 z (by simp [c])) (λz c=>h2 z (by simp [c]))];unfold Dm; split <;> split <;> omega
 | [],_::_,b,_,_=>by simp at b
 | _::_,[],b,_,_=>by simp at b
theorem Ao2 {α:Type} {S:α->Prop} {g:α->α->Int} (h:Ek S g):∀l m n:List α,l.length=m.length->m.length=n.length->(∀x∈l,S x)->(∀x∈m,S x)->(∀x∈n,S x)->Ej g l m<0->Ej g m n<0->Ej g l n<0
 | [],[],_,_,_,_,_,_=>by intro h; simp [Ej] at h
 | x::xs,y::ys,z::j,f,i,h1,h2,h3=>by
  simp only [Ej,Aoy];have k:=h.zero x y (h1 x ψ) (h2 y ψ);have z2:=h.zero y z (h2 y ψ) (h3 z ψ);have t1:=h.trans x y z (h1 x ψ) (h2 y ψ) (h3 z ψ);have t2:=Ao2 h xs ys j (by simpa using f) (by simpa using i) (λz c=>h1 z (by simp [c])) (λz c=>h2 z (by simp [c])) (λz c=>h3 z (by simp [c]));rintro (a | ⟨a,s⟩) (b | ⟨b,q⟩)
  .exact .inl (t1 a b)
  .rw [<-z2.1 b]; exact .inl a
  .rw [k.1 a]; exact .inl b
  .rw [<-z2.1 b,a]; exact .inr ⟨rfl,t2 s q⟩
 | _::_,_::_,[],_,i,_,_,_=>by simp at i
 | [],_::_,_,f,_,_,_,_=>by simp at f
 | _::_,[],_,f,_,_,_,_=>by simp at f
theorem Ek.ll {α:Type} {S:α->Prop} {g:α->α->Int} (h:Ek S g):Ek (λl=>∀x∈l,S x) (LL g):=by
 have c:=Ek.cmpI;refine ⟨λa b ha hb=>?_,λa b ha hb=>?_,λx y z hx hy k=>?_⟩
 .unfold LL;split
  .rename_i i; exact Ao0 h a b i ha hb
  .rename_i i;rw [Fu];exact ⟨λe=>(i ω).elim,λe=>(i (by rw [e])).elim⟩
 .unfold LL;by_cases i:a.length=b.length
  .rw [if_pos i,if_pos i.symm]; exact Ao1 h a b i ha hb
  .rw [if_neg i,if_neg (λe=>i e.symm)]; exact c.anti _ _ trivial trivial
 .unfold LL;intro h1 h2;have neg:∀a b:Int,Go.Ab.Dy a b<0->a<b:=(by intro a b h; unfold Go.Ab.Dy at h; split at h <;> (try split at h) <;> omega);have f:∀a b:Int,a<b->Go.Ab.Dy a b<0:=(by intro a b h; unfold Go.Ab.Dy; rw [if_pos h]; decide);by_cases j:x.length=y.length
  .rw [if_pos j] at h1;by_cases e2:y.length=z.length
   .rw [if_pos e2] at h2; rw [if_pos ω]; exact Ao2 h x y z j e2 hx hy k h1 h2
   .rw [if_neg e2] at h2; rw [if_neg ω];have:=neg _ _ h2; exact f _ _ ω
  .rw [if_neg j] at h1;have:=neg _ _ h1;by_cases e2:y.length=z.length
   .rw [if_neg ω]; exact f _ _ ω
   .rw [if_neg e2] at h2;have:=neg _ _ h2;rw [if_neg ω]; exact f _ _ ω
theorem Ao3 {α:Type} (g:α->α->Int) (l m:List α) (y:Int):Dm (LL g l m) y=if l.length=m.length then Dm (Ej g l m) y else Go.Ab.Dy l.length m.length:=by
 unfold LL;by_cases h:l.length=m.length
 .rw [if_pos h,if_pos h]
 .rw [if_neg h,if_neg h];unfold Dm;rw [if_neg (λe=>h (by have:=Fu.1 e; omega))]
theorem Azo:Ek (λ_=>True) Kh := (Ek.or (S:=λ_=>True) (λt:Dv=>t.Var) (λt=>t.Coef) (λa b h1 h2=>by cases a; cases b; cases h1; cases h2; rfl) Ek.cmpI Ek.cmpI (λ_ _=>⟨trivial,trivial⟩)).congr λ_ _=>rfl
theorem Azp:Ek (λ_=>True) Ki := (Ek.or (S:=λ_=>True) (λt:De=>t.Terms) (λt=>t.Const) (λa b h1 h2=>by cases a; cases b; cases h1; cases h2; rfl) Azo.ll Ek.cmpI (λ_ _=>⟨λ_ _=>trivial,trivial⟩)).congr λa b=>by show Ki a b=Dm (LL Kh a.Terms b.Terms) (Go.Ab.Dy a.Const b.Const);rw [Ao3]; rfl
theorem Azq (i j:A3):Ic i j=Dm (Go.Ab.Dy i.Num j.Num) (LL Ic i.Kids j.Kids):=by
 rw [Agk,Abu];unfold Dm LL;by_cases h:i.Num=j.Num
 .rw [if_pos h,if_pos (Fu.2 h)]
 .rw [if_neg h,if_neg (λe=>h (Fu.1 e))]
theorem Agu:∀n:Nat,Ek (λi=>C1 i<=n) Ic:=by intro n;induction n with| zero=>exact ⟨λa _ ha=>by have:=E5 a; omega,λa _ ha=>by have:=E5 a; omega,λa _ _ ha=>by have:=E5 a; omega⟩| succ n ih=>refine (Ek.or (S:=λi=>C1 i<=n+1) (λi:A3=>i.Num) (λi=>i.Kids) (λa b h1 h2=>by cases a; cases b; cases h1; cases h2; rfl) Ek.cmpI ih.ll ?_).congr Azq;intro i hi;refine ⟨trivial,λx hx=>?_⟩;have h1:=Hy hx;have h2:=E5 i;show C1 x<=n;omega
theorem Azr:Ek (λ_=>True) Ic := ⟨λa b _ _=>(Agu (max (C1 a) (C1 b))).zero a b (by show C1 a<=_; omega) (by show C1 b<=_; omega),λa b _ _=>(Agu (max (C1 a) (C1 b))).anti a b (by show C1 a<=_; omega) (by show C1 b<=_; omega),
  λa b c _ _ _=>(Agu (max (C1 a) (max (C1 b) (C1 c)))).trans a b c (by show C1 a<=_; omega) (by show C1 b<=_; omega) (by show C1 c<=_; omega)⟩
theorem Azs:Ek (λ_=>True) Kj := (Ek.or (S:=λ_=>True) (λt:Cn=>t.Var) (λt=>t.Index) (λa b h1 h2=>by cases a; cases b; cases h1; cases h2; rfl) Ek.cmpI Azr (λ_ _=>⟨trivial,trivial⟩)).congr λ_ _=>rfl
theorem Azt:Ek (λ_=>True) Ll := (Ek.or (S:=λ_=>True) (λt:Cb=>t.Lin) (λt=>t.Deg) (λa b h1 h2=>by cases a; cases b; cases h1; cases h2; rfl) Azp Ek.cmpI (λ_ _=>⟨trivial,trivial⟩)).congr λ_ _=>rfl
theorem Agv:Ek (λ_=>True) En := (Ek.or (S:=λ_=>True) (λt:Bw=>t.Factors) (λt=>t.Atoms) (λa b h1 h2=>by cases a; cases b; cases h1; cases h2; rfl) Azs.ll Azt.ll (λ_ _=>⟨λ_ _=>trivial,λ_ _=>trivial⟩)).congr λa b=>by show En a b=Dm (LL Kj a.Factors b.Factors) (LL Ll a.Atoms b.Atoms);rw [Ao3]; rfl
theorem X0 {a b:Bw}:En a b=0↔a=b:=Agv.zero a b trivial trivial
theorem Ao4 (a b:Bw):En b a = - En a b:=Agv.anti a b trivial trivial
theorem Agw {a b c:Bw} (h:En a b<0) (h':En b c<0):En a c<0:=Agv.trans a b c trivial trivial trivial h h'
end Go.Ab
namespace Go.Ab
open Go
theorem Azu (m:Bw):En m m=0:=X0.2 rfl
theorem Azv {a b:Bw}:0<En a b↔En b a<0:=by rw [Ao4 a b]; omega
def cf:List A5->Bw->Rat
 | [],_=>0
 | t::p,m=>(if En t.Mono m=0 then rq t.Coef else 0)+cf p m
def ltT (t u:A5):Prop:=En t.Mono u.Mono<0
structure CP (p:List A5):Prop where
 srt:p.Pairwise ltT
 coe:∀t∈p,Ef t.Coef/\rq t.Coef≠0
theorem CP.tail {t:A5} {p:List A5} (h:CP (t::p)):CP p:=⟨(List.pairwise_cons.1 h.srt).2,λu hu=>h.coe u (by simp [hu])⟩
theorem CP.head {t:A5} {p:List A5} (h:CP (t::p)):∀u∈p,En t.Mono u.Mono<0:=(List.pairwise_cons.1 h.srt).1
theorem CP.nil:CP []:=⟨List.Pairwise.nil,λ_ h=>by cases h⟩
theorem CP.cons {t:A5} {p:List A5} (h:CP p) (h1:∀u∈p,En t.Mono u.Mono<0) (h2:Ef t.Coef) (h3:rq t.Coef≠0):CP (t::p) := ⟨List.pairwise_cons.2 ⟨h1,h.srt⟩,λu hu=>by
  rcases List.mem_cons.1 hu with rfl | hu
  .exact ⟨h2,h3⟩
  .exact h.coe u hu⟩
theorem Azw {p:List A5} {m:Bw} (h:∀t∈p,En t.Mono m≠0):cf p m=0:=by induction p with| nil=>rfl| cons t p ih=>simp only [cf];rw [if_neg (h t ψ),ih (λu hu=>h u (by simp [hu]))]; grind
theorem Ru {p:List A5} {m:Bw} (h:∀t∈p,En m t.Mono<0):cf p m=0 := Azw λt ht e=>by have:=h t ht; rw [Ao4,e] at this; omega
theorem Ud {t:A5} {p:List A5} (h:CP (t::p)):cf (t::p) t.Mono=rq t.Coef:=by simp only [cf];rw [if_pos (Azu _),Ru h.head]; grind
theorem Ao5 {t:A5} {p:List A5} {m:Bw} (h:En t.Mono m≠0):cf (t::p) m=cf p m:=by simp only [cf]; rw [if_neg h]; grind
theorem Azx (p q:List A5) (m:Bw):cf (p++q) m=cf p m+cf q m:=by induction p with| nil=>simp only [List.nil_append,cf]; grind| cons t p ih=>simp only [List.cons_append,cf,ih]; grind
theorem CP.ext:∀{p q:List A5},CP p->CP q->(∀m,cf p m=cf q m)->p=q
 | [],[],_,_,_=>rfl
 | [],u::q,_,h2,h=>by have:=h u.Mono;rw [Ud h2] at this;exact ((h2.coe u ψ).2 this.symm).elim
 | t::p,[],h1,_,h=>by have:=h t.Mono;rw [Ud h1] at this;exact ((h1.coe t ψ).2 this).elim
 | t::p,u::q,h1,h2,h=>by
  have b:En t.Mono u.Mono=0:=by
   rcases Int.lt_trichotomy (En t.Mono u.Mono) 0 with k | k | k
   .have e:=h t.Mono;rw [Ud h1,Ru (p:=u::q)] at e
    .exact ((h1.coe t ψ).2 e).elim
    .intro w hw;rcases List.mem_cons.1 hw with rfl | hw
     .exact k
     .exact Agw k (h2.head w hw)
   .exact k
   .have k:=Azv.1 k;have e:=h u.Mono;rw [Ud h2,Ru (p:=t::p)] at e
    .exact ((h2.coe u ψ).2 e.symm).elim
    .intro w hw;rcases List.mem_cons.1 hw with rfl | hw
     .exact k
     .exact Agw k (h1.head w hw)
  have c:=X0.1 b;have hc:t.Coef=u.Coef:=(by refine Ags (h1.coe t ψ).1 (h2.coe u ψ).1 ?_;have e:=h t.Mono;rw [Ud h1,c,Ud h2] at e;exact e);have ht:t=u:=(by cases t; cases u; simp_all);subst ht;congr 1;refine CP.ext h1.tail h2.tail λm=>?_;by_cases e:En t.Mono m=0
  .rw [<-X0.1 e,Ru h1.head,Ru h2.head]
  .have:=h m;rwa [Ao5 e,Ao5 e] at this
theorem Ao6 (c:Ai):Rq c=true↔Ef c/\rq c≠0:=by
 unfold Rq Ef;rw [Ca,Abw];have h:(!(nv c==0))=true↔rq c≠0:=by have e:rq c=0↔nv c=0:=(by unfold rq;rw [Rat.mkRat_eq_zero (D4 c)];unfold sg; split <;> omega);rw [Ne,e]; simp
 rw [h];exact ⟨λ⟨a,b⟩=>⟨a.symm,b⟩,λ⟨a,b⟩=>⟨a.symm,b⟩⟩
theorem Azy {l:List A5} (h:∀(j:Nat) (x y:A5),l[j]? = some x->l[j+1]? = some y->En x.Mono y.Mono<0):l.Pairwise ltT:=by
 induction l with
 | nil=>exact List.Pairwise.nil
 | cons t l ih=>
  have ih:=ih λj x y hx hy=>h (j+1) x y (by simpa using hx) (by simpa using hy);refine List.pairwise_cons.2 ⟨?_,ih⟩;cases l with
  | nil=>intro u hu; cases hu
  | cons v l=>
   have h0:=h 0 t v rfl rfl;intro u hu;rcases List.mem_cons.1 hu with rfl | hu
   .exact h0
   .exact Agw h0 ((List.pairwise_cons.1 ih).1 u hu)
theorem Ue {data:List Ao} {vars:List Ag} {res:Ag} {p:List A5}:F9 data vars res p=true↔p.length<=1000/\CP p/\∀t∈p,Gw data vars res t.Mono=true:=by
 unfold F9;rw [Ca,decide_eq_true_eq];constructor
 .rintro ⟨h1,h2⟩;have g:∀(j:Nat) (t:A5),p[j]? = some t->Rq t.Coef=true/\Gw data vars res t.Mono=true/\Pe p t j=true:=(by intro j t hj;have:=Ge h2 hj;simp only [Pf,Ca] at this;exact ⟨this.1.1,this.1.2,this.2⟩);refine ⟨h1,⟨Azy λj x y hx hy=>?_,λt ht=>?_⟩,λt ht=>?_⟩
  .have:=(g _ _ hy).2.2;unfold Pe at this;rw [show j+1-1=j by omega,hx] at this;simpa using this
  .obtain ⟨j,hj⟩:=List.getElem?_of_mem ht;exact (Ao6 _).1 (g j t hj).1
  .obtain ⟨j,hj⟩:=List.getElem?_of_mem ht;exact (g j t hj).2.1
 .rintro ⟨h1,h2,h3⟩;refine ⟨h1,List.all_eq_true.2 λq hq=>?_⟩;have hq:=List.mem_zipIdx' hq;have hj:p[q.2]? = some q.1:=(Be hq.1).trans (congrArg some hq.2.symm);have c:q.1∈p:=Bg hj;simp only [Pf,Ca];refine ⟨⟨(Ao6 _).2 (h2.coe _ c),h3 _ c⟩,?_⟩;unfold Pe;by_cases h0:q.2=0
  .rw [h0]; rfl
  .have b:q.2-1<p.length:=ω;rw [Be b];have:=List.pairwise_iff_getElem.1 h2.srt (q.2-1) q.2 b hq.1 ω;rw [<-hq.2] at this;simp only [Bool.or_eq_true,decide_eq_true_eq];exact .inr this
end Go.Ab
namespace Go.Ab
open Go
end Go.Ab
namespace Go.Ab
open Go
structure TB (k:Nat) (t:A5):Prop where
 co:RB k t.Coef
 mo:MSz t.Mono
theorem TSz.tb {t:A5} (h:TSz t):TB 1048576 t:=⟨h.co,h.mo⟩
theorem TB.mono {j k:Nat} {t:A5} (h:TB j t) (hk:j<=k):TB k t:=⟨h.co.mono hk,h.mo⟩
def Rv (c:Ai) (m:Bw):List A5:=if nv c=0 then [] else [⟨Bj (sv c) (nv c) (dv c),m⟩]
theorem Ao7 (c:Ai):rq c=0↔nv c=0:=by unfold rq;rw [Rat.mkRat_eq_zero (D4 c)];unfold sg; split <;> omega
theorem Azz (c:Ai) (m n:Bw):cf (Rv c m) n=if En m n=0 then rq c else 0:=by
 unfold Rv;split
 .rename_i h;rw [(Ao7 c).2 h]; simp [cf]
 .simp only [cf,Km _ _ _ (D4 c)];show (if En m n=0 then rq c else 0)+0=_;grind
structure Mg (F:Rat->Rat->Rat) (k:Nat) (p q R:List A5):Prop where
 cp:CP R
 val:∀m,cf R m=F (cf p m) (cf q m)
 mon:∀t∈R,(∃u∈p,u.Mono=t.Mono)\/(∃u∈q,u.Mono=t.Mono)
 len:R.length<=p.length+q.length
 rb:∀t∈R,RB (k+1) t.Coef
theorem Az0 {k:Nat} {c:Ai} {m:Bw} (hc:RB k c):(∀t∈Rv c m,t.Mono=m/\Ef t.Coef/\rq t.Coef≠0/\RB (k+1) t.Coef)/\(Rv c m).length<=1:=by
 unfold Rv;split
 .exact ⟨λ_ h=>(by cases h),ψ⟩
 .rename_i h;refine ⟨λt ht=>?_,ψ⟩;simp only [List.mem_singleton] at ht;subst ht;exact ⟨rfl,Ng _ _ _ (D4 c),by rw [Km _ _ _ (D4 c)]; exact λe=>h ((Ao7 c).1 e),Awj hc⟩
theorem Mg.step {F:Rat->Rat->Rat} {k:Nat} {p q g f R:List A5} {c:Ai} {m:Bw} (h:Mg F k g f R) (y:F 0 0=0) (hc:RB k c) (hv:∀n,En m n≠0->cf p n=cf g n/\cf q n=cf f n) (h0:rq c=F (cf p m) (cf q m)) (l:∀u∈g,En m u.Mono<0) (j:∀u∈f,En m u.Mono<0) (s:(∃u∈p,u.Mono=m)\/(∃u∈q,u.Mono=m)) (hp:∀u∈g,u∈p) (hq:∀u∈f,u∈q) (A:g.length+f.length+1<=p.length+q.length):Mg F k p q (Rv c m++R):=by
 obtain ⟨i,z⟩:=Az0 (m:=m) hc;have x:∀t∈R,En m t.Mono<0:=by
  intro t ht;rcases h.mon t ht with ⟨u,hu,e⟩ | ⟨u,hu,e⟩
  .rw [<-e]; exact l u hu
  .rw [<-e]; exact j u hu
 refine ⟨?_,?_,?_,?_,?_⟩
 .refine ⟨List.pairwise_append.2 ⟨?_,h.cp.srt,?_⟩,?_⟩
  .unfold Rv; split
   .exact List.Pairwise.nil
   .exact List.pairwise_singleton _ _
  .intro a ha b hb;show En a.Mono b.Mono<0;rw [(i a ha).1]; exact x b hb
  .intro t ht;rcases List.mem_append.1 ht with ht | ht
   .exact ⟨(i t ht).2.1,(i t ht).2.2.1⟩
   .exact h.cp.coe t ht
 .intro n;rw [Azx,Azz,h.val n];by_cases e:En m n=0
  .rw [if_pos e];have e':=X0.1 e;subst e';rw [Ru l,Ru j,y,h0]; grind
  .rw [if_neg e,(hv n e).1,(hv n e).2]; grind
 .intro t ht;rcases List.mem_append.1 ht with ht | ht
  .rw [(i t ht).1]; exact s
  .rcases h.mon t ht with ⟨u,hu,e⟩ | ⟨u,hu,e⟩
   .exact .inl ⟨u,hp u hu,e⟩
   .exact .inr ⟨u,hq u hu,e⟩
 .rw [List.length_append]; have:=h.len; omega
 .intro t ht;rcases List.mem_append.1 ht with ht | ht
  .exact (i t ht).2.2.2
  .exact h.rb t ht
end Go.Ab
namespace Go.Ab
open Go
def Ab1 (n:Int) (f:Bool):List Int:=if f then (if n<0 then [45] else []) else (if n<0 then [32,45,32] else [32,43,32])
def Agx (n:Int):List Int:=if n.natAbs=1 then [] else ti n.natAbs++[42]
def Agy (v:Int):List Int:=if v = -1 then [114,101,115] else 118::ti v
def tT (f:Bool) (t:Dv):List Int:=Ab1 t.Coef f++(Agx t.Coef++Agy t.Var)
def Ab2:Bool->List Dv->Int->List Int
 | f,[],c=>if c≠0\/f=true then Ab1 c f++ti c.natAbs else []
 | f,t::b,c=>tT f t++Ab2 false b c
def Az1 (l:De):List Int:=Ab2 true l.Terms l.Const
def Ab3 (X:List Int):Prop:=∀c m,X=c::m->c=97
theorem Ab3.nil:Ab3 []:=by intro c m h; cases h
theorem Ab3.cons (X:List Int):Ab3 (97::X):=by intro c m h; cases h; rfl
theorem Az2 (n:Nat):∃c m,ti n=c::m/\48<=c/\c<=57:=by
 have b:=Agg (n:Int);cases h:ti (n:Int) with
 | nil=>exact (b h).elim
 | cons c m=>refine ⟨c,m,rfl,?_⟩;have hc:c∈ti (n:Int):=(by rw [h]; simp);unfold ti at hc;obtain ⟨x,hx,rfl⟩:=List.mem_map.1 hc;have e:Lib.itoa (n:Int)=Lib.decDigits n:=(by unfold Lib.itoa;first | rfl | (rw [if_neg ω]; simp) | simp);rw [e] at hx;have:=Abk n n (Nat.le_refl _) x hx;omega
def NoM (P:List Int):Prop:=∃c m,P=c::m/\c≠45
theorem NoM.ti (n:Nat) (X:List Int):NoM (Go.Ab.ti n++X):=by obtain ⟨c,m,e,h⟩:=Az2 n;exact ⟨c,m++X,by rw [e]; rfl,ω⟩
def Ao8 (a:Cb):List Int:=97::(ti a.Deg++58::Az1 a.Lin)
def Ao9 (f:Cn):List Int:=Lk f.Var f.Index
def Az3 (m:Bw):List Int:=m.Factors.flatMap Ao9++m.Atoms.flatMap Ao8
def By (l:List Int):Prop:=∀c∈l,0<=c/\c<256
theorem By.app {l m:List Int} (h:By l) (h':By m):By (l++m):=by
 intro c hc;rcases List.mem_append.1 hc with k | k
 .exact h c k
 .exact h' c k
theorem By.ti (n:Int):By (Go.Ab.ti n):=by intro c h;have:=Na n c h;simp only [M9,Bool.or_eq_true,Ca,beq_iff_eq,decide_eq_true_eq] at this;omega
theorem By.cons {c:Int} {l:List Int} (hc:0<=c/\c<256) (h:By l):By (c::l):=by
 intro d hd;rcases List.mem_cons.1 hd with rfl | k
 .exact hc
 .exact h d k
theorem By.nil:By []:=λc h=>by cases h
theorem By.sgn (n:Int) (f:Bool):By (Ab1 n f):=by unfold Ab1;split <;> split <;> intro c hc <;> simp at hc <;> omega
theorem By.mag (n:Int):By (Agx n):=by
 unfold Agx;split
 .exact By.nil
 .exact (By.ti _).app (By.cons ω By.nil)
theorem By.var (n:Int):By (Agy n):=by
 unfold Agy;split
 .intro c hc; simp at hc; omega
 .exact By.cons ω (By.ti _)
theorem By.tT (f:Bool) (t:Dv):By (tT f t):=(By.sgn _ _).app ((By.mag _).app (By.var _))
theorem By.lins:∀(l:List Dv) (f:Bool) (c:Int),By (Ab2 f l c)
 | [],f,c=>by
  simp only [Ab2];split
  .exact (By.sgn _ _).app (By.ti _)
  .exact By.nil
 | t::l,f,c=>(By.tT f t).app (By.lins l false c)
theorem By.at (a:Cb):By (Ao8 a):=By.cons ω ((By.ti _).app (By.cons ω (By.lins _ _ _)))
theorem By.flat {α:Type} {g:α->List Int} (h:∀a,By (g a)) (l:List α):By (l.flatMap g):=by intro c hc;obtain ⟨a,_,k⟩:=List.mem_flatMap.1 hc;exact h a c k
theorem By.fac (f:Cn):By (Ao9 f):=Abo f.Var f.Index
theorem By.mono (m:Bw):By (Az3 m):=(By.flat By.fac _).app (By.flat By.at _)
def bs (l:List Int):ByteArray:=⟨(E7 l).toArray⟩
end Go.Ab
namespace Go.Ab
open Go
structure CMo (m:Bw):Prop where
 sz:MSz m
 nf:m.Factors.length<=6
 na:m.Atoms.length<=6
 al:∀a∈m.Atoms,Hg a.Lin=true/\a.Lin.Terms≠[]/\1<=a.Deg/\a.Deg<=6
end Go.Ab
namespace Go.Ab
open Go
def Dst (b:List A5):Prop:=b.Pairwise λt u=>t.Mono≠u.Mono
theorem Dst.set {b:List A5} (h:Dst b) {j:Nat} {t u:A5} (ht:b[j]? = some t) (c:u.Mono=t.Mono):Dst (b.set j u):=by
 have e:(b.set j u).map (·.Mono)=b.map (·.Mono):=by
  apply List.ext_getElem?;intro i;rw [List.getElem?_map,List.getElem?_map,List.getElem?_set];by_cases e:j=i
  .subst e; rw [if_pos rfl,if_pos (Dr ht),ht]; simp [c]
  .rw [if_neg e]
 have k:∀l:List A5,Dst l↔(l.map (·.Mono)).Pairwise (·≠·):=λl=>by rw [List.pairwise_map]; exact Iff.rfl
 rw [k,e,<-k]; exact h
structure Col (k:Nat) (P:Bw->Prop) (ts:List A5):Prop where
 dst:Dst ts
 tb:∀t∈ts,RB k t.Coef
 mo:∀t∈ts,P t.Mono
theorem Col.nil (k:Nat) (P:Bw->Prop):Col k P []:=⟨List.Pairwise.nil,λ_ h=>(by cases h),λ_ h=>(by cases h)⟩
end Go.Ab
namespace Go.Ab
open Go
end Go.Ab
namespace Go.Ab
open Go
theorem Apa (x:B8) (g:CSz x) (ps:List (List A5)) (B:∀p∈ps,∀t∈p,TSz t) (R:ps.length<=1048576) : ∃r,Lw x ps=some r/\(((Fr x/\∀p∈ps,F9 x.Data x.Vars x.Res p=true)/\∃A,r = .inl (true,x,A,[],x.Data,x.Vars,x.Res.Kind,x.Res.Num,x.Res.Args)/\F8 x.Data x.Vars x.Res A) \/ ((¬(Fr x/\∀p∈ps,F9 x.Data x.Vars x.Res p=true))/\r = .inr false)):=by
 obtain ⟨b,b1,b2⟩:=Aga g.ds;have L:=g.nv;have J:=g.rs;unfold Lw;rw [b1,Xi x.Data x.Res 0 ω];by_cases l:x.Vars.length<=3000
 .rw [Aq ω];simp only [cond_false,Ad];cases b with
  | false=>exact ⟨_,rfl,.inr ⟨λh=>(by have:=b2.2 h.1.2.1; cases this),rfl⟩⟩
  | true=>
   have hv:=b2.1 rfl;simp only [D3,cond_false];cases D:(Dc x.Data 0 x.Res&&decide (A6 x.Res<=200)) with
   | false=>exact ⟨_,rfl,.inr ⟨λh=>(by have:=h.1.2.2.1; rw [show F0 x.Data x.Res=false from D] at this; cases this),rfl⟩⟩
   | true=>
    simp only [D3,cond_false,Ad];refine C6 (λi=>∃j:Nat,i=j/\j<=x.Vars.length/\(x.Vars.take j).all (F0 x.Data)=true) (λi=>x.Vars.length-i.toNat) (λz=>match z with | .inl r=>r=false/\¬Fr x | .inr _=>Fr x) ⟨0,rfl,ω,ψ⟩ ?_ ?_
    .rintro i ⟨j,rfl,hj,c⟩;rcases Nat.lt_or_ge j x.Vars.length with h | h
     .have ht:x.Vars[j]? = some x.Vars[j]:=Be h;generalize x.Vars[j]=t at ht;have:=g.vs t (Bg ht);simp only [An (by omega:(j:Int)<(x.Vars.length:Int)),cond_true,Bi rfl ht,Ad,Xi x.Data t 0 ω,Co h ω];rw [show (Dc x.Data 0 t&&decide (A6 t<=200))=F0 x.Data t from rfl];cases G:F0 x.Data t with| true=>exact .inl ⟨_,rfl,⟨j+1,rfl,ω,by rw [Cu ht,List.all_append,c]; simp [G]⟩,by simp; omega⟩| false=>refine .inr ⟨.inl false,rfl,rfl,λhh=>?_⟩;have:=List.all_eq_true.1 hh.2.2.2 t (Bg ht);rw [G] at this; cases this
     .have:j=x.Vars.length:=ω;subst this;rw [List.take_length] at c;exact .inr ⟨.inr (),ψ,l,hv,D,c⟩
    .rintro (r | u) f
     .obtain ⟨rfl,f⟩:=f;exact ⟨_,rfl,.inr ⟨λh=>f h.1,rfl⟩⟩
     .have I:Fr x:=f;simp only;refine C6 (λs=>∃(j:Nat) (o:List (ByteArray×Int)),s=((j:Int),o)/\j<=ps.length/\F8 x.Data x.Vars x.Res o/\∀p∈ps.take j,F9 x.Data x.Vars x.Res p=true) (λs=>ps.length-s.1.toNat) (λz=>match z with | .inl r=>r=false/\¬(∀p∈ps,F9 x.Data x.Vars x.Res p=true) | .inr o=>F8 x.Data x.Vars x.Res o/\∀p∈ps,F9 x.Data x.Vars x.Res p=true) ⟨0,[],rfl,ω,(λq h=>by cases h),(λq h=>by simp at h)⟩ ?_ ?_
      .rintro _ ⟨j,o,rfl,hj,E,c⟩;rcases Nat.lt_or_ge j ps.length with h | h
       .have ht:ps[j]? = some ps[j]:=Be h;generalize ps[j]=p at ht;have k:=Bg ht;obtain ⟨A,N,M⟩:=Ay3 (I.ctx g) [] E p (B p k);simp only [An (by omega:(j:Int)<(ps.length:Int)),cond_true,Bi rfl ht,Ad,N,Co h ω];cases y:F9 x.Data x.Vars x.Res p with
        | true=>
         refine .inl ⟨_,rfl,⟨j+1,A,rfl,ω,M,λq hq=>?_⟩,by simp; omega⟩;rw [Cu ht] at hq;rcases List.mem_append.1 hq with hq | hq
         .exact c q hq
         .simp only [List.mem_singleton] at hq;subst hq; exact y
        | false=>refine .inr ⟨.inl false,rfl,rfl,λhh=>?_⟩;have:=hh p k;rw [y] at this; cases this
       .have:j=ps.length:=ω;subst this;rw [List.take_length] at c;exact .inr ⟨.inr o,ψ,E,c⟩
      .rintro (r | o) hw
       .obtain ⟨rfl,hw⟩:=hw;exact ⟨_,rfl,.inr ⟨λh=>hw h.2,rfl⟩⟩
       .exact ⟨_,rfl,.inl ⟨⟨I,hw.2⟩,o,rfl,hw.1⟩⟩
 .rw [An ω];exact ⟨_,rfl,.inr ⟨λh=>l h.1.1,rfl⟩⟩
theorem Agz {data:List Ao} {vars:List Ag} {res:Ag} {m:Bw} (h:Gw data vars res m=true) (q:MSz m):CMo m:=by
 have c:=(Xy h).2;unfold Gw at h;simp only [Ca,decide_eq_true_eq] at h;obtain ⟨⟨h1,h2⟩,h3⟩:=h;have b:∀f∈m.Factors,0<=Ez data vars res f:=by intro f c;obtain ⟨j,hj⟩:=List.getElem?_of_mem c;have:=Ge h1 hj;simp only [Lm,Ca,decide_eq_true_eq] at this;omega
 have ha:∀a∈m.Atoms,1<=a.Deg/\Hg a.Lin=true/\a.Lin.Terms≠[]:=by intro a ha;obtain ⟨j,hj⟩:=List.getElem?_of_mem ha;have:=Ge h2 hj;simp only [Ip,Ca,decide_eq_true_eq] at this;refine ⟨this.1.1.1.1,this.1.1.1.2,λe=>?_⟩;have k:=this.1.1.2;rw [e] at k; simp at k
 obtain ⟨a1,a2,a3⟩:=Xv m.Atoms λa h=>by have:=(ha a h).1; omega
 have f1:=Aoi m.Factors b;have al:(m.Atoms.length:Int)<=E6 m.Atoms:=by have key:∀l:List Cb,(∀a∈l,1<=a.Deg)->(l.length:Int)<=E6 l:=(by intro l;induction l with| nil=>intro _; simp [E6]| cons f fs ih=>intro i;have h1:=i f ψ;have h2:=ih (λg s=>i g (by simp [s]));unfold E6 at *;simp only [List.map_cons,List.sum_cons,List.length_cons]; omega);exact key _ λa h=>(ha a h).1
 exact ⟨q,c,ω,λa h=>⟨(ha a h).2.1,(ha a h).2.2,(ha a h).1,by have:=a3 a h; omega⟩⟩
def Ln (x:B8) (m:Bw):Prop:=Gw x.Data x.Vars x.Res m=true/\MSz m
theorem Ln.cmo {x:B8} {m:Bw} (h:Ln x m):CMo m:=Agz h.1 h.2
structure Kn (x:B8) (p:List A5):Prop where
 can:F9 x.Data x.Vars x.Res p=true
 sz:∀t∈p,TSz t
theorem Kn.cp {x:B8} {p:List A5} (h:Kn x p):CP p:=(Ue.1 h.can).2.1
theorem Kn.mo {x:B8} {p:List A5} (h:Kn x p):∀t∈p,Ln x t.Mono:=λt ht=>⟨(Ue.1 h.can).2.2 t ht,(h.sz t ht).mo⟩
theorem Kn.of {x:B8} {p:List A5} (hc:CP p) (b:∀t∈p,Ln x t.Mono) (c:∀t∈p,RB 1048576 t.Coef) (f:p.length<=1000):Kn x p := ⟨Ue.2 ⟨f,hc,λt ht=>(b t ht).1⟩,λt ht=>⟨c t ht,(b t ht).2⟩⟩
theorem Kn.tb {x:B8} {p:List A5} (h:Kn x p):∀t∈p,RB 1048576 t.Coef/\Ln x t.Mono:=λt ht=>⟨(h.sz t ht).co,h.mo t ht⟩
end Go.Ab
namespace Go.Ab
open Go
end Go.Ab
namespace Go.Ab
open Go
def bc:Nat->Nat->Nat
 | _,0=>1
 | 0,_+1=>0
 | n+1,k+1=>bc n k+bc n (k+1)
theorem Ab4 (n:Nat):bc n 0=1:=by cases n <;> rfl
theorem X1:∀{n k:Nat},n<k->F7 n k=0
 | n,0,h=>absurd h ω
 | n,k+1,h=>by
  rw [F7];by_cases e:n<k
  .rw [X1 e,Nat.zero_mul]
  .rw [show n-k=0 by omega,Nat.mul_zero]
theorem Apb (n:Nat):∀k,F7 (n+1) (k+1)=(n+1)*F7 n k
 | 0=>by simp [F7]
 | k+1=>by rw [F7,Apb n k,F7,show n+1-(k+1)=n-k by omega,Nat.mul_assoc]
theorem X2:∀n k,F7 n k=fct k*bc n k
 | n,0=>by rw [Ab4]; rfl
 | 0,k+1=>by rw [X1 ω]; simp [bc]
 | n+1,k+1=>by
  have h1:=X2 n (k+1);have h2:=X2 n k;rw [Apb,bc,Nat.mul_add,<-h1,fct,F7,Nat.mul_right_comm,<-h2];by_cases e:k<=n
  .rw [<-Nat.mul_add,Nat.mul_comm,show k+1+(n-k)=n+1 by omega]
  .rw [X1 ω]; simp
def cR (n:Nat):Ai:=Bj false n 1
theorem X3 (n:Nat):sv (cR n)=false/\nv (cR n)=n/\dv (cR n)=1:=by
 obtain ⟨g,f,c,b⟩:=Aa3 false n 1 δ;refine ⟨?_,?_,?_⟩
 .by_cases h:n=0
  .exact b h
  .exact c h
 .unfold cR; rw [g]; simp
 .unfold cR; rw [f]; simp
theorem H3 {n k:Nat} (h:Ba n<=k) (hk:1<=k):RB k (cR n):=Jh _ _ _ _ h (by rw [Kg]; exact hk) hk
theorem Apc {a b K:Nat} (ha:Ba a<=K) (hb:Ba b<=K) (c:1<=K) (h:K<60000000000):G9 (cR a) (cR b)=some (cR (a+b)):=by obtain ⟨a1,a2,a3⟩:=X3 a;obtain ⟨b1,b2,f⟩:=X3 b;rw [Afy _ _ K K (H3 ha c) (H3 hb c) ω ω,a1,a2,a3,b1,b2,f];simp [Jg,Ib,cR]
theorem Az4 {a K:Nat} (ha:Ba a<=K) (b:1<=K) (h:K<60000000000):Hv (cR a)=some (if a=0 then 0 else 1):=by obtain ⟨a1,a2,a3⟩:=X3 a;rw [Afw _ K (H3 ha b) ω,a1,a2];simp [Ia]
theorem Ag0:Dn 0=some (cR 0):=Tx 0 δ δ
theorem Ag1:Dn 1=some (cR 1):=Tx 1 δ δ
theorem Apd (n k:Nat) (b:n<1000000000) (hk:k<=64):Vx (n:Int) (k:Int)=some (cR (bc n k),true):=by
 unfold Vx;have e:(if (n:Int)>0 then (n:Int) else 0)=(n:Int):=by split <;> omega
 simp only [Aq (by omega:¬(k:Int)<0),cond_false,Aq (by omega:¬(k:Int)>64),Ad,e,Awu n k b hk];rw [X2,show Bj false (fct k*bc n k) (fct k)=Bj false (fct k*bc n k) (fct k*1) by rw [Nat.mul_one],O2 _ _ _ _ (Xf k)];rfl
theorem Az5 (n k:Nat) (b:n<1000000000) (hk:k<=64):Afb (n:Int) (k:Int)=some (cR (bc n k),true):=Apd n k b hk
theorem Ag2:∀(l:List Ag) (r:List Bool) (s:Nat) (n:Nat) (p:Int) (L:Nat->Option Ag),l.length=r.length->(∀j,L (s+j)=l[j]?) -> (((r.zipIdx s).filter λq=>!q.1).map λq=>(q.2:Int))[n]? = some p->∃(m:Nat) (a:Ag),p=m/\L m=some a/\(Em l r)[n]? = some a
 | [],[],s,n,p,L,_,_,h=>by simp at h
 | a::l,b::r,s,n,p,L,i,g,h=>by
  have c:l.length=r.length:=(by simpa using i);have f:∀j,L (s+1+j)=l[j]?:=λj=>by rw [show s+1+j=s+(j+1) by omega,g]; rfl
  cases b with
  | true=>simp only [List.zipIdx_cons,List.filter_cons,D3] at h;obtain ⟨m,x,h1,h2,h3⟩:=Ag2 l r (s+1) n p L c f (by simpa using h);exact ⟨m,x,h1,h2,by simpa [Em] using h3⟩
  | false=>simp only [List.zipIdx_cons,List.filter_cons,Bool.not_false,if_true,List.map_cons] at h;cases n with| zero=>simp only [List.getElem?_cons_zero,Option.some.injEq] at h;exact ⟨s,a,h.symm,by have:=g 0; simpa using this,by simp [Em]⟩| succ n=>simp only [List.getElem?_cons_succ] at h;obtain ⟨m,x,h1,h2,h3⟩:=Ag2 l r (s+1) n p L c f h;exact ⟨m,x,h1,h2,by simpa [Em] using h3⟩
 | [],_::_,_,_,_,_,h,_,_=>by simp at h
 | _::_,[],_,_,_,_,h,_,_=>by simp at h
theorem Az6 {l:List Ag} {r:List Bool} (b:l.length=r.length) {n:Nat} {p:Int} (h:(Ed r)[n]? = some p):∃(m:Nat) (a:Ag),p=m/\l[m]? = some a/\(Em l r)[n]? = some a := Ag2 l r 0 n p (λj=>l[j]?) b (λj=>ψ) (by unfold Ed at h; exact h)
theorem Az7 (l:List Ag) (r:List Bool) (c:l.length=r.length):(Ed r).length=(Em l r).length:=by
 unfold Ed Em;rw [List.length_map,List.length_map];have key:∀(l:List Ag) (r:List Bool) (s:Nat),l.length=r.length->((r.zipIdx s).filter λq=>!q.1).length=((l.zip r).filter λp=>!p.2).length:=by
  intro l;induction l with
  | nil=>intro r s h; have:r = []:=List.length_eq_zero_iff.1 h.symm; subst this; rfl
  | cons a l ih=>intro r s h;cases r with| nil=>simp at h| cons b r=>have:=ih r (s+1) (by simpa using h);cases b <;> simp [this]
 exact key l r 0 c
theorem Ape {data:List Ao} {t:Ag} (hk:t.Kind=5):∀(n:Nat) (v:Ar),B1 v<=n->D8 data v t=true->∀x∈Fs data t.Num v,D8 data x t=true/\B1 x<=B1 v:=by
 intro n;induction n with
 | zero=>intro v h; have:=Nd v; omega
 | succ n ih=>
  intro v h q x hx;have s:=G6 v;obtain ⟨y,_,_,_,k,f⟩:=Rt hk q;rw [Aby] at hx;rcases List.mem_cons.1 hx with rfl | hx
  .exact ⟨q,Nat.le_refl _⟩
  .have key:∀(l:List Ar) (r:List Bool),(∀(j:Nat) (w:Ar),l[j]? = some w->r[j]? = some true->D8 data w t=true)->C7 l<=n->x∈Fh data t.Num l r->D8 data x t=true/\B1 x<=C7 l:=by
    intro l;induction l with
    | nil=>intro r _ _ hx; simp [Fh] at hx
    | cons w l c=>
     intro r i u hx;cases r with
     | nil=>simp [Fh] at hx
     | cons b r=>
      have hw:C7 (w::l)=B1 w+C7 l:=(by simp [C7]);have g:∀(j:Nat) (w':Ar),l[j]? = some w'->r[j]? = some true->D8 data w' t=true:=λj w' h1 h2=>i (j+1) w' h1 h2;cases b with
      | true=>
       simp only [Fh,cond_true,List.mem_append] at hx;rcases hx with hx | hx
       .have:=ih w ω (i 0 w rfl rfl) x hx;exact ⟨this.1,ω⟩
       .have:=c r g ω hx;exact ⟨this.1,ω⟩
      | false=>simp only [Fh,cond_false,List.nil_append] at hx;have:=c r g ω hx;exact ⟨this.1,ω⟩
   have:=key v.Kids _ f ω hx;exact ⟨this.1,ω⟩
theorem X4 (data:List Ao):∀(f:List A3) (c:List Ag) (d:Nat),C2 data f c=some d->f.length=c.length/\∀(j:Nat) (i:A3) (t:Ag),f[j]? = some i->c[j]? = some t->∃e,Ee data i t=some e/\e<=d
 | [],[],d,_=>⟨rfl,λj i t h=>by simp at h⟩
 | i::f,t::c,d,h=>by
  rw [M8] at h;cases h1:Ee data i t with
  | none=>rw [h1] at h; cases h
  | some a=>
   rw [h1,Ad] at h;cases h2:C2 data f c with
   | none=>rw [h2] at h; cases h
   | some b=>rw [h2] at h;have h:a+b=d:=Option.some.inj h;obtain ⟨g1,g2⟩:=X4 data f c b h2;refine ⟨by simp [g1],λj i' g hi ht=>?_⟩;cases j with| zero=>cases hi; cases ht; exact ⟨a,h1,ω⟩| succ j=>obtain ⟨e,k,e2⟩:=g2 j i' g hi ht;exact ⟨e,k,ω⟩
 | [],_::_,_,h=>by simp only [C2] at h; cases h
 | _::_,[],_,h=>by simp only [C2] at h; cases h
end Go.Ab
