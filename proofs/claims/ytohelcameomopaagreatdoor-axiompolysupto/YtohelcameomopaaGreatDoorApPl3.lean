/- Plain laws: what the plain functions answer. -/
import Derived.Test.YtohelcameomopaaGreatDoorApPl2
import Derived.Test.YtohelcameomopaaGreatDoorApPl1
import Derived.KernelRfl
namespace Go.Ab
open Go
theorem Apj {S E:Type} (F:Bb->Bb->Option Int) (l:List A7) (g:∀y∈l,∀x,F y.Lin x=some (E8 y.Lin x)) {x:A7} {j:Nat} (hx:l[j]? = some x) (i:l.length<4611686018427387904) (c b:Option (S⊕E)) : (bif decide ((j:Int)>0) then ((Ae l (Aa ((j:Int)-1))).bind λf=>(F f.Lin x.Lin).bind λv28=>bif decide (v28>=0) then c else b) else b)=bif Nm l x j then b else c:=by
 have hj:=Dx hx;unfold Nm;by_cases h:j=0
 .subst h; rfl
 .rw [Aj ω];have e:Aa ((j:Int)-1)=((j-1:Nat):Int):=(by rw [Aa,Bm] <;> omega);have hy:l[j-1]? = some l[j-1]:=Bv ω;rw [e,Ce rfl hy,hy];have h0:(j==0)=false:=(by simpa using h);simp only [cond_true,Ad,h0,Bool.false_or,g _ (List.getElem_mem (by omega:j-1<l.length))];by_cases hc:E8 l[j-1].Lin x.Lin<0
  .rw [An ω,Aj hc]; rfl
  .rw [Aj ω,An hc]; rfl
section
variable {b1:List (ByteArray×Int)} (b2:List (ByteArray×List Cs)) {data:List A3} {vars:List Ai} {res:Ai}
def Y1 (data:List A3) (vars:List Ai) (res:Ai) (l:List B7) (f:B7) (j:Nat):Bool:=!(Ff data vars res f==0)&&Kg (·.Var) l f j
def Qf (l:List A7) (a:A7) (j:Nat):Bool:=!(a.Deg==0)&&C2 a.Lin && !(a.Lin.Terms.length==0)&&Nm l a j
theorem A0r (m:Ba):Hh data vars res m=(Om data vars res m&&decide (D4 data vars res m.Factors+Cb m.Atoms<=6)&&m.Factors.zipIdx.all (λq=>Y1 data vars res m.Factors q.1 q.2)&&m.Atoms.zipIdx.all (λq=>Qf m.Atoms q.1 q.2)):=by
 rw [Bool.eq_iff_iff];unfold Hh Om;rw [<-Acd m.Factors (λf=>decide (0<=Ff data vars res f)),<-Acd m.Atoms (λa=>decide (0<=a.Deg)&&Ea vars res a.Lin)];simp only [Dj,List.all_eq_true,Nn,Ik,Y1,Qf,decide_eq_true_eq,Bool.not_eq_true',beq_eq_false_iff_ne,ne_eq];constructor
 .rintro ⟨⟨h1,h2⟩,h3⟩;refine ⟨⟨⟨⟨λq hq=>?_,λq hq=>?_⟩,h3⟩,λq hq=>?_⟩,λq hq=>?_⟩
  .have:=(h1 q hq).1; omega
  .have:=h2 q hq; exact ⟨ω,this.1.2⟩
  .have:=h1 q hq; exact ⟨ω,this.2⟩
  .have:=h2 q hq; exact ⟨⟨⟨ω,this.1.1.1.2⟩,this.1.1.2⟩,this.2⟩
 .rintro ⟨⟨⟨⟨h1,h2⟩,h3⟩,c⟩,b⟩;refine ⟨⟨λq hq=>?_,λq hq=>?_⟩,h3⟩
  .have:=h1 q hq; have g:=c q hq; exact ⟨ω,g.2⟩
  .have:=h2 q hq; have g:=b q hq; exact ⟨⟨⟨⟨ω,g.1.1.2⟩,g.1.2⟩,this.2⟩,g.2⟩
theorem A0s (hc:Qd data vars res) (hm:F6 data vars res b1) (m:Ba) (i:D9 m) :
  ∃A,Um m b1 b2 data vars res.Kind res.Num res.Args=some (Hh data vars res m,A)/\F6 data vars res A:=by
 have hf:=i.nf
 have ha:=i.na
 rw [A0r]
 unfold Um
 obtain ⟨b,p1,Z⟩:=A0p b2 hc hm m i
 rw [p1]
 cases hp:Om data vars res m with
 | false=>exact ⟨b,rfl,Z⟩
 | true=>
  obtain ⟨q,q1,q2,Y⟩:=A0q b2 hc Z m i hp
  simp only [Ad,Dk,cond_false,q1,q2]
  cases hs:decide (D4 data vars res m.Factors+Cb m.Atoms<=6) with
  | false=>exact ⟨q.2,rfl,Y⟩
  | true=>
   simp only [Dk,cond_false,Bool.true_and]
   have U:∀f∈m.Factors,(tyX vars res f.Var).isSome=true:=by
    intro f c
    unfold Om at hp
    rw [Dj,List.all_eq_true] at hp
    have hd:=hp.1 f c
    rw [decide_eq_true_eq] at hd
    unfold Ff at hd
    cases ht:tyX vars res f.Var with
    | none=>rw [ht] at hd; have hd:(0:Int)<=-1:=hd; omega
    | some t=>rfl
   obtain ⟨r,r1,X⟩:=Yo (M:=List (ByteArray×Int)) (R:=Bool×List (ByteArray×Int)) m.Factors (λq=>Y1 data vars res m.Factors q.1 q.2) (λj o=>((j:Int),o)) (F6 data vars res)
    (λr=>F6 data vars res r.2/\r.1=m.Atoms.zipIdx.all (λq=>Qf m.Atoms q.1 q.2)) (λr=>F6 data vars res r.2/\r.1=false) q.2
    (s0:=((0:Int),q.2))
    (step:=(λ(v9,s)=>
     bif v9<(m.Factors.length:Int) then (
     (Ae m.Factors v9).bind λk=>
     (Md k.Var k.Index s b2 data vars res.Kind res.Num res.Args).bind λg=>
     bif (g.1==(0:Int)) then some (.inr (.inl (false,g.2)))
     else (
     bif v9>(0:Int) then (
     (Ae m.Factors (Aa (v9-1))).bind λD=>
     bif D.Var>=k.Var then some (.inr (.inl (false,g.2)))
     else some (.inl ((Aa (v9+1)),g.2)))
     else some (.inl ((Aa (v9+1)),g.2))))
     else some (.inr (.inr s)):Int×List (ByteArray×Int)->Option ((Int×List (ByteArray×Int))⊕((Bool×List (ByteArray×Int))⊕List (ByteArray×Int)))))
    (J:=(λz=>match z with
     | .inl (N,L)=>some (N,L)
     | .inr l=>(Al (S:=Int) (E:=((Bool×(List (ByteArray×Int)))⊕Unit)) (λv22=>
       bif v22<(m.Atoms.length:Int) then (
       (Ae m.Atoms v22).bind λv23=>
       (show OB from
       bif (v23.Deg==(0:Int)) then some true
       else (
       (I4 v23.Lin).bind λv25=>
       bif (!v25) then some true
       else some ((v23.Lin.Terms.length:Int)==(0:Int)))).bind λv26=>
       bif v26 then some (.inr (.inl (false,l)))
       else (
       bif v22>(0:Int) then (
       (Ae m.Atoms (Aa (v22-1))).bind λB=>
       (Lk B.Lin v23.Lin).bind λv28=>
       bif v28>=(0:Int) then some (.inr (.inl (false,l)))
       else some (.inl (Aa (v22+1))))
       else some (.inl (Aa (v22+1)))))
       else some (.inr (.inr ()))) 0).bind λz=>match z with
        | .inl (I,G)=>some (I,G)
        | .inr _=>some (true,l)))
    rfl Y ω (by
     intro j f o V hx _ h1 h2 h3
     have c:=Cd hx
     obtain ⟨A,d1,d2⟩:=Ah2 b2 hc V f (i.fr f c).2 (i.fr f c).1 (i.fi f c) (U f c)
     simp only [h1,h2,h3,cond_true,Ad,d1,Ahz (·.Var) m.Factors hx ω,Y1]
     cases (Ff data vars res f==0) with
     | true=>exact ⟨(λh=>by cases h),λ_=>⟨_,rfl,_,rfl,d2,rfl⟩⟩
     | false=>
      cases Kg (·.Var) m.Factors f j with
      | true=>exact ⟨λ_=>⟨A,rfl,d2⟩,λh=>by cases h⟩
      | false=>exact ⟨(λh=>by cases h),λ_=>⟨_,rfl,_,rfl,d2,rfl⟩⟩) (by
     intro o V h1 _
     refine ⟨.inr o,by simp only [h1]; rfl,?_⟩
     refine ⟨(m.Atoms.zipIdx.all (λq=>Qf m.Atoms q.1 q.2),o),?_,V,rfl⟩
     refine (Od m.Atoms (λq=>Qf m.Atoms q.1 q.2) (λj=>(j:Int)) rfl ω (rt:=(true,o)) (rf:=(false,o)) ?_ ?_).trans (by cases m.Atoms.zipIdx.all (λq=>Qf m.Atoms q.1 q.2) <;> rfl)
     .intro j a hx _ h1 h2 h3
      have u:((a.Lin.Terms.length:Int)==(0:Int))=(a.Lin.Terms.length==0):=An6 a.Lin.Terms 0
      simp only [h1,h2,h3,cond_true,Ad,Lq,Apj Lk m.Atoms (λy hy x=>Ac9 y.Lin x (by have:=i.al y hy; omega)) hx ω,Qf,u]
      cases (a.Deg==0) with
      | true=>exact ⟨(λh=>by cases h),λ_=>⟨_,rfl,rfl⟩⟩
      | false=>
       cases C2 a.Lin with
       | false=>exact ⟨(λh=>by cases h),λ_=>⟨_,rfl,rfl⟩⟩
       | true=>
        cases (a.Lin.Terms.length==0) with
        | true=>exact ⟨(λh=>by cases h),λ_=>⟨_,rfl,rfl⟩⟩
        | false=>
         cases Nm m.Atoms a j with
         | true=>exact ⟨λ_=>rfl,λh=>by cases h⟩
         | false=>exact ⟨(λh=>by cases h),λ_=>⟨_,rfl,rfl⟩⟩
     .intro h _; exact ⟨.inr (),by simp only [h]; rfl,rfl⟩)
   refine ⟨r.2,?_,?_⟩
   .have e:some r=some (m.Factors.zipIdx.all (λq=>Y1 data vars res m.Factors q.1 q.2)&&m.Atoms.zipIdx.all (λq=>Qf m.Atoms q.1 q.2),r.2):=by
     rcases X with ⟨h1,h2,h3⟩ | ⟨h1,h2,h3⟩
     .rw [h1,Bool.true_and,<-h3]
     .rw [h1,Bool.false_and,<-h3]
    rw [<-e]
    exact r1
   .rcases X with ⟨h1,h2,h3⟩ | ⟨h1,h2,h3⟩ <;> exact h2
theorem Apk (l:List B7):D4 data vars res l<=6*l.length/\-(l.length:Int)<=D4 data vars res l:=by induction l with| nil=>simp [D4]| cons x xs ih=>have:=Ah1 data vars res x;unfold D4 at *;simp only [List.map_cons,List.sum_cons,List.length_cons];omega
theorem Apl (l:List B7) (h:∀f∈l,0<=Ff data vars res f):0<=D4 data vars res l:=by induction l with| nil=>simp [D4]| cons x xs ih=>have h1:=h x ψ;have h2:=ih (λf b=>h f (by simp [b]));unfold D4 at *;simp only [List.map_cons,List.sum_cons];omega
theorem Y2 (l:List A7) (h:∀a∈l,0<=a.Deg):0<=Cb l/\((∀a∈l,a.Deg<=6)->Cb l<=6*l.length)/\∀a∈l,a.Deg<=Cb l:=by
 induction l with
 | nil=>simp [Cb]
 | cons x xs ih=>
  have h1:=h x ψ;obtain ⟨i1,i2,i3⟩:=ih (λf b=>h f (by simp [b]));unfold Cb at *;simp only [List.map_cons,List.sum_cons,List.length_cons];refine ⟨ω,λg=>?_,λa ha=>?_⟩
  .have:=g x ψ;have:=i2 (λa ha=>g a (by simp [ha]));omega
  .rcases List.mem_cons.1 ha with rfl | ha
   .omega
   .have:=i3 a ha; omega
end
theorem A0t {x:Bk} (hc:Qd x.Data x.Vars x.Res) (m:Ba) (I:D9 m):∃v,Pf x m=some v/\decide (v<0) = !Hh x.Data x.Vars x.Res m:=by
 have hf:=I.nf
 have ha:=I.na
 unfold Pf
 have V:∀n,m.Factors.zipIdx.all (λq=>Nn x.Data x.Vars x.Res m.Factors q.1 q.2)=true->0<=D4 x.Data x.Vars x.Res (m.Factors.take n):=by
  intro n h
  refine Apl _ (λf hf=>?_)
  obtain ⟨j,hj⟩:=List.getElem?_of_mem (List.mem_of_mem_take hf)
  have:=Hm h hj
  simp only [Nn,Dj,decide_eq_true_eq] at this
  omega
 have X:m.Factors.zipIdx.all (λq=>Nn x.Data x.Vars x.Res m.Factors q.1 q.2)=false->Hh x.Data x.Vars x.Res m=false:=by
  intro h; unfold Hh; rw [h]; rfl
 obtain ⟨r,r1,r2⟩:=Yo (M:=Unit) (R:=Int) m.Factors (λq=>Nn x.Data x.Vars x.Res m.Factors q.1 q.2) (λj _=>(D4 x.Data x.Vars x.Res (m.Factors.take j),(j:Int))) (λ_=>True)
  (λv=>decide (v<0) = !Hh x.Data x.Vars x.Res m) (λv=>v = -1) ()
  (s0:=((0:Int),(0:Int)))
  (step:=(λ(v9,c)=>
   bif c<(m.Factors.length:Int) then (
   (Ae m.Factors c).bind λu=>
   (Pg x u.Var).bind λG=>
   (show OB from
   bif (!G.2) then some true
   else (
   bif c>(0:Int) then (
   (Ae m.Factors (Aa (c-1))).bind λs=>
   some (decide (s.Var>=u.Var)))
   else some false)).bind λa1=>
   bif a1 then some (.inr (.inl (-1)))
   else (
   (Rs x.Data G.1 u.Index).bind λv17=>
   bif v17<(1:Int) then some (.inr (.inl (-1)))
   else some (.inl ((Aa (v9+v17)),(Aa (c+1))))))
   else some (.inr (.inr v9)):Int×Int->Option ((Int×Int)⊕(Int⊕Int))))
  (J:=(λz=>match z with
   | .inl a6=>some a6
   | .inr Z=>(Al (S:=(Int×Int)) (E:=(Int⊕Int)) (λ(v24,v25)=>
     bif v25<(m.Atoms.length:Int) then (
     (Ae m.Atoms v25).bind λv26=>
     (Jn v26.Lin).bind λv28=>
     bif (!v28) then some (.inr (.inl (-1)))
     else (
     bif ((v26.Lin.Terms.length:Int)==(0:Int)) then some (.inr (.inl (-1)))
     else (
     (Pc x v26.Lin).bind λl=>
     bif (!l) then some (.inr (.inl (-1)))
     else (
     bif v25>(0:Int) then (
     (Ae m.Atoms (Aa (v25-1))).bind λk=>
     (I6 k.Lin v26.Lin).bind λv31=>
     bif v31>=(0:Int) then some (.inr (.inl (-1)))
     else (
     bif v26.Deg<(1:Int) then some (.inr (.inl (-1)))
     else (
     bif v26.Deg>(6:Int) then some (.inr (.inl (-1)))
     else some (.inl ((Aa (v24+v26.Deg)),(Aa (v25+1)))))))
     else (
     bif v26.Deg<(1:Int) then some (.inr (.inl (-1)))
     else (
     bif v26.Deg>(6:Int) then some (.inr (.inl (-1)))
     else some (.inl ((Aa (v24+v26.Deg)),(Aa (v25+1))))))))))
     else some (.inr (.inr v24))) (Z,0)).bind λz=>match z with
      | .inl A=>some A
      | .inr v33=>bif v33>(6:Int) then some (-1) else some v33))
  (by simp [D4]) trivial ω (by
   intro j f _ _ hx _ h1 h2 h3
   have ab:=Cd hx
   have hj:=Dx hx
   have a7:(bif decide ((j:Int)>0) then ((Ae m.Factors (Aa ((j:Int)-1))).bind λs=>some (decide (s.Var>=f.Var))) else some false)=some (!Kg (·.Var) m.Factors f j):=by
    unfold Kg
    by_cases h:j=0
    .subst h; rfl
    .rw [Aj ω]
     have e:Aa ((j:Int)-1)=((j-1:Nat):Int):=by rw [Aa,Bm] <;> omega
     have hy:m.Factors[j-1]? = some m.Factors[j-1]:=Bv ω
     rw [e,Ce rfl hy,hy]
     have h0:(j==0)=false:=by simpa using h
     simp only [cond_true,Ad,h0,Bool.false_or]
     by_cases hc:m.Factors[j-1].Var<f.Var
     .rw [An ω,Aj hc]; rfl
     .rw [Aj ω,An hc]; rfl
   have es:D4 x.Data x.Vars x.Res (m.Factors.take (j+1))=D4 x.Data x.Vars x.Res (m.Factors.take j)+Ff x.Data x.Vars x.Res f:=Aph _ hx
   have hb:=Apk (data:=x.Data) (vars:=x.Vars) (res:=x.Res) (m.Factors.take j)
   have ag:(m.Factors.take j).length<=1048576:=by simp; omega
   have ae:=Ah1 x.Data x.Vars x.Res f
   simp only [h1,h2,h3,cond_true,Ad,Apg,Nn,es]
   cases ht:tyX x.Vars x.Res f.Var with
   | none=>
    have e:Ff x.Data x.Vars x.Res f = -1:=by unfold Ff; rw [ht]
    rw [e]
    exact ⟨(λh=>by cases h),λ_=>⟨.inl (-1),rfl,_,rfl,rfl⟩⟩
   | some t=>
    have e:Ff x.Data x.Vars x.Res f=Gz (Hn x.Data f.Index t):=by unfold Ff; rw [ht]
    simp only [Dk,cond_false,a7,Ad,Az6 hc.vd hc.sh t f.Index (hc.sz _ _ ht) (I.fi f ab),<-e]
    cases ac:Kg (·.Var) m.Factors f j with
    | false=>exact ⟨(λh=>by simp at h),λ_=>⟨.inl (-1),rfl,_,rfl,rfl⟩⟩
    | true=>
     simp only [Dk,cond_false,Bool.and_true]
     by_cases h1:1<=Ff x.Data x.Vars x.Res f
     .rw [Aj h1,An ω]
      refine ⟨λ_=>⟨(),?_,trivial⟩,λh=>by cases h⟩
      simp only [cond_false]
      rw [show Aa (D4 x.Data x.Vars x.Res (m.Factors.take j)+Ff x.Data x.Vars x.Res f)=D4 x.Data x.Vars x.Res (m.Factors.take j)+Ff x.Data x.Vars x.Res f by rw [Aa,Bm] <;> omega]
     .rw [An h1,Aj ω]
      exact ⟨(λh=>by cases h),λ_=>⟨.inl (-1),rfl,_,rfl,rfl⟩⟩) (by
   intro _ _ h1 g
   have aa:=V m.Factors.length g
   have af:=Apk (data:=x.Data) (vars:=x.Vars) (res:=x.Res) m.Factors
   rw [List.take_length] at aa
   refine ⟨.inr (D4 x.Data x.Vars x.Res m.Factors),ψ,?_⟩
   obtain ⟨w,w1,w2⟩:=Yo (M:=Unit) (R:=Int) m.Atoms (λq=>Ik x.Vars x.Res m.Atoms q.1 q.2&&decide (q.1.Deg<=6)) (λj _=>(D4 x.Data x.Vars x.Res m.Factors+Cb (m.Atoms.take j),(j:Int))) (λ_=>True)
    (λv=>decide (v<0) = !decide (D4 x.Data x.Vars x.Res m.Factors+Cb m.Atoms<=6)) (λv=>v = -1) ()
    (s0:=(D4 x.Data x.Vars x.Res m.Factors,(0:Int)))
    (step:=(λ(v24,v25)=>
     bif v25<(m.Atoms.length:Int) then (
     (Ae m.Atoms v25).bind λv26=>
     (Jn v26.Lin).bind λv28=>
     bif (!v28) then some (.inr (.inl (-1)))
     else (
     bif ((v26.Lin.Terms.length:Int)==(0:Int)) then some (.inr (.inl (-1)))
     else (
     (Pc x v26.Lin).bind λl=>
     bif (!l) then some (.inr (.inl (-1)))
     else (
     bif v25>(0:Int) then (
     (Ae m.Atoms (Aa (v25-1))).bind λk=>
     (I6 k.Lin v26.Lin).bind λv31=>
     bif v31>=(0:Int) then some (.inr (.inl (-1)))
     else (
     bif v26.Deg<(1:Int) then some (.inr (.inl (-1)))
     else (
     bif v26.Deg>(6:Int) then some (.inr (.inl (-1)))
     else some (.inl ((Aa (v24+v26.Deg)),(Aa (v25+1)))))))
     else (
     bif v26.Deg<(1:Int) then some (.inr (.inl (-1)))
     else (
     bif v26.Deg>(6:Int) then some (.inr (.inl (-1)))
     else some (.inl ((Aa (v24+v26.Deg)),(Aa (v25+1))))))))))
     else some (.inr (.inr v24)):Int×Int->Option ((Int×Int)⊕(Int⊕Int))))
    (J:=(λz=>match z with
      | .inl A=>some A
      | .inr v33=>bif v33>(6:Int) then some (-1) else some v33))
    (by simp [Cb]) trivial ω (by
     intro j a _ _ hx B h1 h2 h3
     have L:((a.Lin.Terms.length:Int)==(0:Int))=(a.Lin.Terms.length==0):=An6 a.Lin.Terms 0
     have es:=Api hx
     have ah:0<=Cb (m.Atoms.take j)/\Cb (m.Atoms.take j)<=6*1048576:=by
      have N:∀b∈m.Atoms.take j,1<=b.Deg/\b.Deg<=6:=by
       intro b hb
       obtain ⟨i,hi⟩:=List.getElem?_of_mem hb
       have a8:=Dx hi
       have U:i<j:=by simp at a8; omega
       rw [List.getElem?_take_of_lt U] at hi
       have:=B i b U hi
       simp only [Ik,Dj,decide_eq_true_eq] at this
       omega
      obtain ⟨k1,k2,_⟩:=Y2 (m.Atoms.take j) (λb hb=>by have:=N b hb; omega)
      have:=k2 (λb hb=>(N b hb).2)
      have hl:(m.Atoms.take j).length<=1048576:=by simp; omega
      omega
     simp only [h1,h2,h3,cond_true,Ad,Nl,Ah0 x a.Lin (I.al a (Cd hx)),Apj I6 m.Atoms (λy hy x=>Ada y.Lin x (by have:=I.al y hy; omega)) hx ω,Ik,L,es]
     cases C2 a.Lin with
     | false=>exact ⟨(λh=>by simp at h),λ_=>⟨.inl (-1),rfl,_,rfl,rfl⟩⟩
     | true=>
      cases (a.Lin.Terms.length==0) with
      | true=>exact ⟨(λh=>by simp at h),λ_=>⟨.inl (-1),rfl,_,rfl,rfl⟩⟩
      | false=>
       cases Ea x.Vars x.Res a.Lin with
       | false=>exact ⟨(λh=>by simp at h),λ_=>⟨.inl (-1),rfl,_,rfl,rfl⟩⟩
       | true=>
        simp only [Dk,cond_false,Bool.not_false,Bool.and_true]
        cases Nm m.Atoms a j with
        | false=>exact ⟨(λh=>by simp at h),λ_=>⟨.inl (-1),rfl,_,rfl,rfl⟩⟩
        | true=>
         simp only [cond_true,Bool.and_true]
         by_cases g1:a.Deg<1
         .rw [Aj g1,An (by omega:¬1<=a.Deg)]
          exact ⟨(λh=>by simp at h),λ_=>⟨.inl (-1),rfl,_,rfl,rfl⟩⟩
         .by_cases g2:a.Deg>6
          .rw [An g1,Aj g2,An (by omega:¬a.Deg<=6)]
           exact ⟨(λh=>by simp at h),λ_=>⟨.inl (-1),rfl,_,rfl,rfl⟩⟩
          .rw [An g1,An g2,Aj (by omega:a.Deg<=6),Aj (by omega:1<=a.Deg)]
           refine ⟨λ_=>⟨(),?_,trivial⟩,λh=>by cases h⟩
           simp only [cond_false]
           rw [show Aa (D4 x.Data x.Vars x.Res m.Factors+Cb (m.Atoms.take j)+a.Deg)=D4 x.Data x.Vars x.Res m.Factors+(Cb (m.Atoms.take j)+a.Deg) by rw [Aa,Bm] <;> omega]) (by
     intro _ _ h1 D
     refine ⟨.inr (D4 x.Data x.Vars x.Res m.Factors+Cb m.Atoms),ψ,?_⟩
     have ai:0<=Cb m.Atoms:=(Y2 m.Atoms (λb hb=>by
      obtain ⟨i,hi⟩:=List.getElem?_of_mem hb
      have:=Hm D hi
      simp only [Ik,Dj,decide_eq_true_eq] at this
      omega)).1
     simp only
     by_cases h6:D4 x.Data x.Vars x.Res m.Factors+Cb m.Atoms<=6
     .rw [An ω,Aj h6]
      exact ⟨_,rfl,An ω⟩
     .rw [Aj ω,An h6]
      exact ⟨_,rfl,rfl⟩)
   refine ⟨w,w1,?_⟩
   unfold Hh
   rw [g,Bool.true_and]
   rcases w2 with ⟨g1,g2⟩ | ⟨g1,g2⟩
   .have Y:m.Atoms.zipIdx.all (λq=>Ik x.Vars x.Res m.Atoms q.1 q.2)=true:=Acb λj a hj=>by
     have:=Hm g1 hj
     simp only [Dj] at this
     exact this.1
    rw [Y,Bool.true_and,g2]
   .rw [g2]
    cases Y:m.Atoms.zipIdx.all (λq=>Ik x.Vars x.Res m.Atoms q.1 q.2) with
    | false=>rfl
    | true=>
     have hgt:¬D4 x.Data x.Vars x.Res m.Factors+Cb m.Atoms<=6:=by
      intro ad
      have:m.Atoms.zipIdx.all (λq=>Ik x.Vars x.Res m.Atoms q.1 q.2&&decide (q.1.Deg<=6))=true:=Acb λj a hj=>by
       have gj:=Hm Y hj
       have hpos:∀b∈m.Atoms,0<=b.Deg:=λb hb=>by
        obtain ⟨i,hi⟩:=List.getElem?_of_mem hb
        have:=Hm Y hi
        simp only [Ik,Dj,decide_eq_true_eq] at this
        omega
       have:=(Y2 m.Atoms hpos).2.2 a (Cd hj)
       simp only [gj,Bool.true_and,decide_eq_true_eq]
       omega
      rw [this] at g1; cases g1
     rw [An hgt]; rfl)
 refine ⟨r,r1,?_⟩
 rcases r2 with ⟨h1,h2⟩ | ⟨h1,h2⟩
 .exact h2
 .rw [h2,X h1]; rfl
end Go.Ab
namespace Go.Ab
open Go
theorem A0u {α:Type} [DecidableEq α] (l m:List α) (b:l.length=m.length):(decide (l=m))=l.zipIdx.all (λq=>decide (m[q.2]? = some q.1)):=by
 rw [Bool.eq_iff_iff,decide_eq_true_eq];constructor
 .rintro rfl;exact Acb λj x hx=>by simpa using hx
 .intro h;apply List.ext_getElem?;intro j;cases hx:l[j]? with| none=>rw [List.getElem?_eq_none_iff] at hx; rw [List.getElem?_eq_none ω]| some x=>have:=Hm h hx; rw [decide_eq_true_eq] at this; rw [this]
theorem Ah3 {R:Type} (l m:List Int) (b:l.length<1099511627776) (h:l.length=m.length) {J:Bool⊕Unit->Option R} {rt rf:R} (h1:J (.inl false)=some rf) (h2:J (.inr ())=some rt) : (Al (S:=Int) (E:=(Bool⊕Unit)) (λv3=>bif v3<(l.length:Int) then ((Ae l v3).bind λv4=>(Ae m v3).bind λv5=>bif (v4 != v5) then some (.inr (.inl false)) else some (.inl (Aa (v3+1)))) else some (.inr (.inr ()))) 0).bind J=some (bif decide (l=m) then rt else rf):=by
 rw [A0u l m h];refine Od l (λq=>decide (m[q.2]? = some q.1)) (λj=>(j:Int)) rfl ω (rt:=rt) (rf:=rf) ?_ ?_
 .intro j x hx _ g1 g2 g3;have hj:j<m.length:=(by have:=Dx hx; omega);have hy:m[j]? = some m[j]:=Bv hj;generalize m[j]=y at hy;simp only [g1,g2,g3,cond_true,Ad,Ce rfl hy,hy,Option.some.injEq];by_cases e:x=y
  .rw [De e,Aj e.symm];exact ⟨λ_=>rfl,λh=>by cases h⟩
  .rw [Dh e,An (λh=>e h.symm)];exact ⟨(λh=>by cases h),λ_=>⟨.inl false,rfl,h1⟩⟩
 .intro h _; exact ⟨.inr (),by simp only [h]; rfl,h2⟩
theorem Apm (l m:List Int) (b:l.length<1099511627776):M5 l m=some (decide (l=m)):=by
 unfold M5;by_cases h:l.length=m.length
 .rw [De ω];simp only [cond_false];refine (Ah3 l m b h (rt:=true) (rf:=false) ?_ ?_).trans (by rw [Ml]) <;> rfl
 .rw [Dh ω,An (λe=>h (by rw [e]))]; rfl
def No (a b:Ar):Bool:=a.Neg==b.Neg&&decide (a.Num=b.Num)&&decide (a.Den=b.Den)
theorem Adc (a b:Ar):No a b=true↔a=b:=by
 unfold No;simp only [Dj,beq_iff_eq,decide_eq_true_eq];constructor
 .rintro ⟨⟨h1,h2⟩,h3⟩; cases a; cases b; simp_all
 .rintro rfl; simp
theorem A0v (a b:Ar) (h1:a.Num.length<1099511627776) (h2:a.Den.length<1099511627776):W9 a b=some (No a b):=by
 unfold W9 No;cases g:(a.Neg==b.Neg) with
 | false=>rw [show (a.Neg != b.Neg)=true by simp [bne,g]]; rfl
 | true=>
  rw [show (a.Neg != b.Neg)=false by simp [bne,g]];simp only [cond_false];by_cases f:a.Num.length=b.Num.length
  .rw [De ω];by_cases c:a.Den.length=b.Den.length
   .rw [De ω];simp only [cond_false,Ad,Bool.true_and];refine (Ah3 a.Num b.Num h1 f (rt:=decide (a.Den=b.Den)) (rf:=false) rfl ?_).trans (by cases decide (a.Num=b.Num) <;> rfl);refine (Ah3 a.Den b.Den h2 c (rt:=true) (rf:=false) ?_ ?_).trans (by rw [Ml]) <;> rfl
   .rw [Dh ω,An (λe:a.Den=b.Den=>c (by rw [e]))];simp
  .rw [Dh ω,An (λe:a.Num=b.Num=>f (by rw [e]))];simp
def S4 (c:Ar):Bool:=No (A9 (sv c) (nv c) (dv c)) c && !(nv c==0)
theorem A0w (c:Ar):S4 c=(No c (A9 (sv c) (nv c) (dv c)) && !(nv c==0)):=by unfold S4;congr 1;rw [Bool.eq_iff_iff,Adc,Adc]; exact eq_comm
structure TSz (t:Ah):Prop where
 co:RB 1048576 t.Coef
 mo:D9 t.Mono
def Qg (l:List Ah) (x:Ah) (j:Nat):Bool:=j==0||(match l[j-1]? with | some y=>decide (C4 y.Mono x.Mono<0) | none=>false)
def Qh (data:List A3) (vars:List Ai) (res:Ai) (l:List Ah) (t:Ah) (j:Nat):Bool:=S4 t.Coef&&Hh data vars res t.Mono&&Qg l t j
def I2 (data:List A3) (vars:List Ai) (res:Ai) (p:List Ah):Bool:=decide (p.length<=1000)&&p.zipIdx.all (λq=>Qh data vars res p q.1 q.2)
theorem Apn {S E:Type} (F:Ba->Ba->Option Int) (l:List Ah) (g:∀y∈l,∀x,F y.Mono x=some (C4 y.Mono x)) {x:Ah} {j:Nat} (hx:l[j]? = some x) (i:l.length<4611686018427387904) (c b:Option (S⊕E)) : (bif decide ((j:Int)>0) then ((Ae l (Aa ((j:Int)-1))).bind λf=>(F f.Mono x.Mono).bind λv28=>bif decide (v28>=0) then c else b) else b)=bif Qg l x j then b else c:=by
 have hj:=Dx hx;unfold Qg;by_cases h:j=0
 .subst h; rfl
 .rw [Aj ω];have e:Aa ((j:Int)-1)=((j-1:Nat):Int):=(by rw [Aa,Bm] <;> omega);have hy:l[j-1]? = some l[j-1]:=Bv ω;rw [e,Ce rfl hy,hy];have h0:(j==0)=false:=(by simpa using h);simp only [cond_true,Ad,h0,Bool.false_or,g _ (List.getElem_mem (by omega:j-1<l.length))];by_cases hc:C4 l[j-1].Mono x.Mono<0
  .rw [An ω,Aj hc]; rfl
  .rw [Aj ω,An hc]; rfl
theorem Apo (s:Bool) (n:Nat):(I0 s n==0)=(n==0):=by
 unfold I0;by_cases h:n=0
 .rw [if_pos h]; subst h; rfl
 .rw [if_neg h];have:(n==0)=false:=(by simpa using h);rw [this]; cases s <;> rfl
theorem App {data:List A3} {vars:List Ai} {res:Ai} (hc:Qd data vars res) {b1:List (ByteArray×Int)} (b2:List (ByteArray×List Cs)) (hm:F6 data vars res b1) (p:List Ah) (U:∀t∈p,TSz t) :
  ∃B,W5 p b1 b2 data vars res.Kind res.Num res.Args=some (I2 data vars res p,B)/\F6 data vars res B:=by
 unfold W5 I2
 by_cases A:p.length<=1000
 .rw [An ω,Aj A,Bool.true_and]
  simp only [cond_false]
  obtain ⟨r,V,S⟩:=Yo (M:=List (ByteArray×Int)) (R:=Bool×List (ByteArray×Int)) p (λq=>Qh data vars res p q.1 q.2) (λj o=>((j:Int),o)) (F6 data vars res)
   (λr=>F6 data vars res r.2/\r.1=true) (λr=>F6 data vars res r.2/\r.1=false) b1
   (s0:=((0:Int),b1))
   (step:=(λ(b,g)=>
    bif b<(p.length:Int) then (
    (Ae p b).bind λv12=>
    (M4 v12.Coef).bind λf=>
    (show OB from
    bif (f.Neg==v12.Coef.Neg) then (
    (M5 f.Num v12.Coef.Num).bind λi=>
    bif i then (
    (M5 f.Den v12.Coef.Den).bind λv17=>
    some v17)
    else some false)
    else some false).bind λE=>
    bif (!E) then some (.inr (.inl (false,g)))
    else (
    (Ix f).bind λD=>
    bif (D==(0:Int)) then some (.inr (.inl (false,g)))
    else (
    (Um v12.Mono g b2 data vars res.Kind res.Num res.Args).bind λv20=>
    bif (!v20.1) then some (.inr (.inl (false,v20.2)))
    else (
    bif b>(0:Int) then (
    (Ae p (Aa (b-1))).bind λv21=>
    (Pi v21.Mono v12.Mono).bind λv22=>
    bif v22>=(0:Int) then some (.inr (.inl (false,v20.2)))
    else some (.inl ((Aa (b+1)),v20.2)))
    else some (.inl ((Aa (b+1)),v20.2))))))
    else some (.inr (.inr g)):Int×List (ByteArray×Int)->Option ((Int×List (ByteArray×Int))⊕((Bool×List (ByteArray×Int))⊕List (ByteArray×Int)))))
   (J:=(λz=>match z with
    | .inl (I,G)=>some (I,G)
    | .inr L=>some (true,L)))
   rfl hm ω (by
    intro j t o u hx _ h1 h2 h3
    have c:=U t (Cd hx)
    obtain ⟨B,d1,d2⟩:=A0s b2 hc u t.Mono c.mo
    have s:∀l:List Int,l=(A9 (sv t.Coef) (nv t.Coef) (dv t.Coef)).Num\/l=(A9 (sv t.Coef) (nv t.Coef) (dv t.Coef)).Den->l.length<1099511627776:=by
     intro l A
     have q:=Hf (sv t.Coef) (nv t.Coef) (dv t.Coef) 1048577 c.co.nv c.co.dv ω
     have:=q.nl
     have:=q.dl
     rcases A with rfl | rfl <;> omega
    have k:(bif ((A9 (sv t.Coef) (nv t.Coef) (dv t.Coef)).Neg==t.Coef.Neg) then ((M5 (A9 (sv t.Coef) (nv t.Coef) (dv t.Coef)).Num t.Coef.Num).bind λi=>bif i then ((M5 (A9 (sv t.Coef) (nv t.Coef) (dv t.Coef)).Den t.Coef.Den).bind λv17=>some v17) else some false) else some false)=some (No (A9 (sv t.Coef) (nv t.Coef) (dv t.Coef)) t.Coef):=by
     unfold No
     rw [Apm _ _ (s _ (.inl rfl)),Apm _ _ (s _ (.inr rfl))]
     cases ((A9 (sv t.Coef) (nv t.Coef) (dv t.Coef)).Neg==t.Coef.Neg) <;> cases decide ((A9 (sv t.Coef) (nv t.Coef) (dv t.Coef)).Num=t.Coef.Num) <;> rfl
    simp only [h1,h2,h3,cond_true,Ad,Aci t.Coef 1048576 c.co ω,k,Apn Pi p (λy hy x=>Apc y.Mono x (U y hy).mo) hx ω,Qh,S4]
    cases N:No (A9 (sv t.Coef) (nv t.Coef) (dv t.Coef)) t.Coef with
    | false=>exact ⟨(λh=>by cases h),λ_=>⟨_,rfl,_,rfl,u,rfl⟩⟩
    | true=>
     have e:=(Adc _ _).1 N
     simp only [Dk,cond_false,Bool.true_and]
     rw [e,Ag2 t.Coef 1048576 c.co ω,Ad,Apo]
     cases (nv t.Coef==0) with
     | true=>exact ⟨(λh=>by cases h),λ_=>⟨_,rfl,_,rfl,u,rfl⟩⟩
     | false=>
      simp only [cond_false,d1,Ad,Bool.not_false,Bool.true_and]
      cases Hh data vars res t.Mono with
      | false=>exact ⟨(λh=>by cases h),λ_=>⟨_,rfl,_,rfl,d2,rfl⟩⟩
      | true=>
       cases Qg p t j with
       | true=>exact ⟨λ_=>⟨B,rfl,d2⟩,λh=>by cases h⟩
       | false=>exact ⟨(λh=>by cases h),λ_=>⟨_,rfl,_,rfl,d2,rfl⟩⟩) (by
    intro o u h1 _
    exact ⟨.inr o,by simp only [h1]; rfl,_,rfl,u,rfl⟩)
  refine ⟨r.2,?_,?_⟩
  .have e:some r=some (p.zipIdx.all (λq=>Qh data vars res p q.1 q.2),r.2):=by
    rcases S with ⟨h1,h2,h3⟩ | ⟨h1,h2,h3⟩
    .rw [h1,<-h3]
    .rw [h1,<-h3]
   rw [<-e]
   exact V
  .rcases S with ⟨h1,h2,h3⟩ | ⟨h1,h2,h3⟩ <;> exact h2
 .rw [Aj ω,An A]
  exact ⟨b1,rfl,hm⟩
theorem A0x {x:Bk} (hc:Qd x.Data x.Vars x.Res) (p:List Ah) (c:∀t∈p,TSz t):Wz x p=some (I2 x.Data x.Vars x.Res p):=by
 unfold Wz I2;by_cases f:p.length<=1000
 .rw [An ω,Aj f,Bool.true_and];simp only [cond_false];refine (Od p (λq=>Qh x.Data x.Vars x.Res p q.1 q.2) (λj=>(j:Int)) rfl ω (rt:=true) (rf:=false) ?_ ?_).trans (by rw [Ml])
  .intro j t hx _ h1 h2 h3;have b:=c t (Cd hx);obtain ⟨v,g,v2⟩:=A0t hc t.Mono b.mo;simp only [h1,h2,h3,cond_true,Ad,g,v2,Aha t.Coef 1048576 b.co ω,Apo,Of t.Coef 1048576 b.co ω,A0v t.Coef _ (by have:=b.co.nl; omega) (by have:=b.co.dl; omega),
    Apn Lg p (λy hy x=>Y0 y.Mono x (c y hy).mo) hx ω,Qh,A0w];cases Hh x.Data x.Vars x.Res t.Mono with
   | false=>exact ⟨(λh=>by simp at h),λ_=>⟨.inl false,rfl,rfl⟩⟩
   | true=>
    cases (nv t.Coef==0) with
    | true=>exact ⟨(λh=>by simp at h),λ_=>⟨.inl false,rfl,rfl⟩⟩
    | false=>
     cases No t.Coef (A9 (sv t.Coef) (nv t.Coef) (dv t.Coef)) with
     | false=>exact ⟨(λh=>by simp at h),λ_=>⟨.inl false,rfl,rfl⟩⟩
     | true=>cases Qg p t j with| true=>exact ⟨λ_=>rfl,λh=>by cases h⟩| false=>exact ⟨(λh=>by cases h),λ_=>⟨.inl false,rfl,rfl⟩⟩
  .intro h _; exact ⟨.inr (),by simp only [h]; rfl,rfl⟩
 .rw [Aj ω,An f]; rfl
structure CSz (x:Bk):Prop where
 ds:DSz x.Data
 nv:x.Vars.length<=1048576
 vs:∀t∈x.Vars,Bo t<=1048576
 rs:Bo x.Res<=1048576
def Il (data:List A3) (t:Ai):Bool:=Fv data 0 t&&decide (Bo t<=200)
def F0 (x:Bk):Prop:=x.Vars.length<=3000/\Ja x.Data/\Il x.Data x.Res=true/\x.Vars.all (Il x.Data)=true
theorem F0.ctx {x:Bk} (h:F0 x) (c:CSz x):Qd x.Data x.Vars x.Res:=by
 refine ⟨h.2.1,c.ds.sz.short,λv t ht=>?_,h.1⟩;have good:∀t,Il x.Data t=true->Bo t<=200:=λt h=>by simp only [Il,Dj,decide_eq_true_eq] at h; exact h.2
 unfold tyX at ht;by_cases b:v = -1
 .rw [if_pos b] at ht; cases ht; exact good _ h.2.2.1
 .rw [if_neg b] at ht;exact good t (List.all_eq_true.1 h.2.2.2 t (Gj ht).2.2.2)
theorem Apq (x:Bk) (c:CSz x):∃b,T9 x=some b/\(b=true↔F0 x):=by
 obtain ⟨b,b1,b2⟩:=Azs c.ds;have l:=c.nv;have k:=c.rs;unfold T9 F0;rw [b1,Ahc x.Data x.Res 0 ω];simp only [Ad];cases b with
 | false=>exact ⟨false,rfl,by simp; intro _ h; have:=b2.2 h; cases this⟩
 | true=>
  have i:=b2.1 rfl;simp only [Dk,cond_false];by_cases g:x.Vars.length<=3000
  .rw [An ω];simp only [cond_false,Ad];cases f:(Fv x.Data 0 x.Res&&decide (Bo x.Res<=200)) with
   | false=>exact ⟨false,rfl,by simp [Il,f]⟩
   | true=>
    refine ⟨x.Vars.all (Il x.Data),?_,by rw [show Il x.Data x.Res=true from f]; simp [g,i]⟩;simp only [Dk,cond_false];refine (P4 x.Vars (Il x.Data) (λj=>(j:Int)) rfl ω (rt:=true) (rf:=false) ?_ ?_).trans (by rw [Ml])
    .intro j t ht h1 h2 h3;have:=c.vs t (Cd ht);simp only [h1,h2,h3,cond_true,Ad,Ahc x.Data t 0 ω];rw [show (Fv x.Data 0 t&&decide (Bo t<=200))=Il x.Data t from rfl];cases Il x.Data t with| true=>exact ⟨λ_=>rfl,λh=>by cases h⟩| false=>exact ⟨(λh=>by cases h),λ_=>⟨.inl false,rfl,rfl⟩⟩
    .intro h; exact ⟨.inr (),by simp only [h]; rfl,rfl⟩
  .rw [Aj ω];exact ⟨false,rfl,by simp [g]⟩
theorem Apr (x:Bk) (c:CSz x) (p:List Ah) (hp:∀t∈p,TSz t):∃b,M2 x p=some b/\(b=true↔F0 x/\I2 x.Data x.Vars x.Res p=true):=by obtain ⟨b,b1,b2⟩:=Apq x c;unfold M2;rw [b1,Ad];cases b with| false=>exact ⟨false,rfl,by simp; intro h; have:=b2.2 h; cases this⟩| true=>have f:=b2.1 rfl;rw [A0x (f.ctx c) p hp];exact ⟨_,rfl,by simp [f]⟩
theorem A0y (x:Bk) (g:CSz x) (p:List Ah) (hp:∀t∈p,TSz t):∃b,Ww x p=some b/\(b=true↔F0 x/\I2 x.Data x.Vars x.Res p=true):=by
 obtain ⟨b,b1,b2⟩:=Aon g.ds;have I:=g.nv;have G:=g.rs;unfold Ww Lh;rw [b1,Yu x.Data x.Res 0 ω];by_cases y:x.Vars.length<=3000
 .rw [An ω];simp only [cond_false,Ad];cases b with
  | false=>exact ⟨false,rfl,by simp; intro h; have:=b2.2 h.2.1; cases this⟩
  | true=>
   have E:=b2.1 rfl;simp only [Dk,cond_false];cases s:(Fv x.Data 0 x.Res&&decide (Bo x.Res<=200)) with
   | false=>exact ⟨false,rfl,by simp; intro h; have:=h.2.2.1; rw [show Il x.Data x.Res=false from s] at this; cases this⟩
   | true=>
    simp only [Dk,cond_false,Ad];rw [Option.bind_assoc];refine Fe (λi=>∃j:Nat,i=j/\j<=x.Vars.length/\(x.Vars.take j).all (Il x.Data)=true) (λi=>x.Vars.length-i.toNat) (λz=>match z with | .inl r=>r=false/\¬F0 x | .inr _=>F0 x) ⟨0,rfl,ω,ψ⟩ ?_ ?_
    .rintro i ⟨j,rfl,hj,c⟩;rcases Nat.lt_or_ge j x.Vars.length with h | h
     .have ht:x.Vars[j]? = some x.Vars[j]:=Bv h;generalize x.Vars[j]=t at ht;have:=g.vs t (Cd ht);simp only [Aj (by omega:(j:Int)<(x.Vars.length:Int)),cond_true,Ce rfl ht,Ad,Yu x.Data t 0 ω,C6 h ω];rw [show (Fv x.Data 0 t&&decide (Bo t<=200))=Il x.Data t from rfl];cases A:Il x.Data t with| true=>exact .inl ⟨_,rfl,⟨j+1,rfl,ω,by rw [C8 ht,List.all_append,c]; simp [A]⟩,by simp; omega⟩| false=>refine .inr ⟨.inl false,rfl,rfl,λJ=>?_⟩;have:=List.all_eq_true.1 J.2.2.2 t (Cd ht);rw [A] at this; cases this
     .have:j=x.Vars.length:=ω;subst this;rw [List.take_length] at c;exact .inr ⟨.inr (),ψ,y,E,s,c⟩
    .rintro (r | u) f
     .obtain ⟨rfl,f⟩:=f;exact ⟨false,rfl,by simp [f]⟩
     .have B:F0 x:=f;have hm:F6 x.Data x.Vars x.Res []:=λq h=>by cases h
      obtain ⟨D,l,L⟩:=App (B.ctx g) [] hm p hp;cases k:I2 x.Data x.Vars x.Res p with
      | true=>
       rw [k] at l;refine ⟨true,?_,by simp [B]⟩;simp only;rw [Option.bind_assoc];refine Ie 1 (λj=>match j with | 0=>((0:Int),[]) | _=>((1:Int),D)) rfl ?_ ⟨.inr D,rfl,rfl⟩
       intro j hj
       match j,hj with| 0,_=>show (bif decide ((0:Int)<1) then _ else _)=_;simp only [Aj (by omega:(0:Int)<1),cond_true];rw [show Ae [p] 0=some p from rfl,Ad,l]; rfl
      | false=>rw [k] at l;refine ⟨false,?_,ψ⟩;simp only;rw [Option.bind_assoc];refine Ie 0 (λ_=>((0:Int),[])) rfl (λj hj=>ω) ⟨.inl false,?_,rfl⟩;show (bif decide ((0:Int)<1) then _ else _)=_;simp only [Aj (by omega:(0:Int)<1),cond_true];rw [show Ae [p] 0=some p from rfl,Ad,l]; rfl
 .rw [Aj ω];exact ⟨false,rfl,by simp; intro h; exact absurd h.1 y⟩
end Go.Ab
namespace Go.Ab
open Go
end Go.Ab
namespace Go.Ab
open Go
end Go.Ab
namespace Go.Ab
open Go
end Go.Ab
namespace Go.Ab
open Go
end Go.Ab
namespace Go.Ab
open Go
theorem A0z {data:List A3} {vars:List Ai} {res:Ai} {m:Ba} (h:Hh data vars res m=true):(∀f∈m.Factors,∃t,tyX vars res f.Var=some t)/\m.Factors.length<=6:=by
 unfold Hh at h;simp only [Dj,decide_eq_true_eq] at h;obtain ⟨⟨h1,h2⟩,h3⟩:=h;have b:∀f∈m.Factors,1<=Ff data vars res f:=by intro f b;obtain ⟨j,hj⟩:=List.getElem?_of_mem b;have:=Hm h1 hj;simp only [Nn,Dj,decide_eq_true_eq] at this;exact this.1
 have ha:0<=Cb m.Atoms:=(Y2 m.Atoms (λa ha=>by obtain ⟨j,hj⟩:=List.getElem?_of_mem ha;have:=Hm h2 hj;simp only [Ik,Dj,decide_eq_true_eq] at this;omega)).1;refine ⟨λf c=>?_,?_⟩
 .have:=b f c;unfold Ff at this;cases ht:tyX vars res f.Var with
  | none=>rw [ht] at this; have:(1:Int)<=-1:=this; omega
  | some t=>exact ⟨t,rfl⟩
 .have key:∀l:List B7,(∀f∈l,1<=Ff data vars res f)->(l.length:Int)<=D4 data vars res l:=(by intro l;induction l with| nil=>intro _; simp [D4]| cons f fs ih=>intro i;have h1:=i f ψ;have h2:=ih (λg k=>i g (by simp [k]));unfold D4 at *;simp only [List.map_cons,List.sum_cons,List.length_cons]; omega);have:=key m.Factors b;omega
theorem A00 (a b:Ar) (j k:Nat) (ha:RB j a) (hb:RB k b) (hj:j<34359738000) (hk:k<34359738000):∃c,Hj a b=some c/\I5 a b=some c/\RB (j+k+2) c:=by refine ⟨_,Yq a b j k ha hb ω ω,Anz a b j k ha hb ω ω,?_⟩;have h1:=ha.nv;have h2:=ha.dv;have h3:=hb.nv;have h:=hb.dv;have g:=Gy (nv a) (nv b);have f:=Gy (dv a) (dv b);exact Hf _ _ _ _ ω ω ω
theorem A01 (a b:Ar) (j k:Nat) (ha:RB j a) (hb:RB k b) (hj:j<34359738000) (hk:k<34359738000):∃c,N3 a b=some c/\Ph a b=some c/\RB (j+k+3) c:=by
 refine ⟨_,Ag4 a b j k ha hb ω ω,Ag9 a b j k ha hb ω ω,?_⟩;have h1:=ha.nv;have h2:=ha.dv;have h3:=hb.nv;have s:=hb.dv;have q:=Gy (nv a) (dv b);have l:=Gy (nv b) (dv a);have i:=Gy (dv a) (dv b);have f:Hz (sv a) (nv a) (dv a) (sv b) (nv b) (dv b)<=nv a*dv b+nv b*dv a:=by
  unfold Hz;split
  .omega
  .split <;> omega
 have h:=Hy f;have g:=Aca (nv a*dv b) (nv b*dv a);exact Hf _ _ _ _ ω ω ω
end Go.Ab
namespace Go.Ab
open Go
end Go.Ab
namespace Go.Ab
open Go
theorem A02 (k:Nat):RB k ⟨false,[],[]⟩:=⟨(λ_ h=>by cases h),(λ_ h=>by cases h),ψ,ψ⟩
end Go.Ab
namespace Go.Ab
open Go
end Go.Ab
namespace Go.Ab
open Go
def sg (s:Bool) (n:Nat):Int:=if s then -(n:Int) else n
def rq (a:Ar):Rat:=mkRat (sg (sv a) (nv a)) (dv a)
def Im (a:Ar):Prop:=a=A9 (sv a) (nv a) (dv a)
theorem Lr (s:Bool) (n d:Nat) (hd:d≠0):rq (A9 s n d)=mkRat (sg s n) d:=by
 obtain ⟨g,f,h1,h2,h3,i⟩:=Vq s n d hd;unfold rq;rw [Rat.mkRat_eq_iff (Es _) hd];generalize nv (A9 s n d)=b at *;generalize dv (A9 s n d)=j at *;generalize sv (A9 s n d)=s' at *;by_cases c:n=0
 .have:b=0:=by
   rcases Nat.eq_zero_or_pos b with h | h
   .exact h
   .have:=Nat.mul_pos (Nat.pos_of_ne_zero f) h; omega
  subst this; subst c;cases s <;> cases s' <;> simp [sg]
 .rw [h3 c,h1,h2];cases s <;> simp only [sg,if_true,if_false,Bool.false_eq_true,Int.natCast_mul] <;> grind
theorem Qi (s:Bool) (n d:Nat) (hd:d≠0):Im (A9 s n d):=by
 obtain ⟨g,b,h1,h2,h3,i⟩:=Vq s n d hd;unfold Im;generalize hc:A9 s n d=c at h1 h2 h3 i;have e:=Mm s (nv c) (dv c) g b;rw [<-h1,<-h2,hc] at e;by_cases f:n=0
 .have h0:nv c=0:=by
   rcases Nat.eq_zero_or_pos (nv c) with h | h
   .exact h
   .have:=Nat.mul_pos (Nat.pos_of_ne_zero b) h; omega
  rw [h0,Vn] at e ⊢;exact e
 .rw [h3 f]; exact e
theorem Aps (n m:Int) {d e:Nat} (hd:d≠0) (g:e≠0):mkRat n d<mkRat m e↔n*e<m*d:=by
 have c:(0:Rat)<(d:Rat):=Rat.natCast_pos.2 ω;have b:(0:Rat)<(e:Rat):=Rat.natCast_pos.2 ω;rw [Rat.mkRat_eq_div,Rat.mkRat_eq_div,Rat.div_lt_iff c];rw [<-Rat.mul_lt_mul_right b];have f:(m:Rat) / (e:Rat)*(d:Rat)*(e:Rat)=(m:Rat)*(d:Rat):=by grind
 rw [f];have a1:(n:Rat)*(e:Rat)=((n*(e:Int):Int):Rat):=by rw [Rat.intCast_mul]; rfl
 have a2:(m:Rat)*(d:Rat)=((m*(d:Int):Int):Rat):=by rw [Rat.intCast_mul]; rfl
 rw [a1,a2,Rat.intCast_lt_intCast]
theorem Ah4 {a b:Ar} (ha:Im a) (hb:Im b) (h:rq a=rq b):a=b:=by
 unfold rq at h;rw [Rat.mkRat_eq_iff (Es _) (Es _)] at h;rw [ha,hb];have q:=Es a;have l:=Es b;generalize nv a=n at *;generalize dv a=d at *;generalize sv a=s at *;generalize nv b=m at *;generalize dv b=e at *;generalize sv b=t at *;have f:n*e=m*d/\(n≠0->s=t):=by
  have c:n≠0->0<n*e:=λh=>Nat.mul_pos ω ω;have g:m≠0->0<m*d:=λh=>Nat.mul_pos ω ω;have x:((n*e:Nat):Int)=(n:Int)*e:=ψ;have u:((m*d:Nat):Int)=(m:Int)*d:=ψ;cases s <;> cases t <;> simp only [sg,if_true,if_false,Bool.false_eq_true,Int.neg_mul] at h
  .exact ⟨ω,λ_=>rfl⟩
  .have:n*e=0/\m*d=0:=ω;refine ⟨ω,λi=>?_⟩;have:=c i; omega
  .have:n*e=0/\m*d=0:=ω;refine ⟨ω,λi=>?_⟩;have:=c i; omega
  .exact ⟨ω,λ_=>rfl⟩
 have k:=Mm s n d e l;have j:=Mm t m e d q;rw [<-k,<-j,Nat.mul_comm e n,f.1,Nat.mul_comm e d,Nat.mul_comm m d];refine Acj λh0=>f.2 ?_;rintro rfl;rw [Nat.zero_mul] at f;have:=f.1;rw [Nat.mul_comm d m] at h0;omega
theorem A03 (j:Bool) (c g:Nat) (i:Bool) (b f:Nat):sg (Ke j c g i b f) (Hz j c g i b f)=sg j c*f+sg i b*g:=by
 unfold Ke Hz sg;have l:((c*f:Nat):Int)=(c:Int)*f:=ψ;have k:((b*g:Nat):Int)=(b:Int)*g:=ψ;cases j <;> cases i <;> simp only [if_true,if_false,Bool.false_eq_true,Bool.true_eq_false,Int.neg_mul]
 .omega
 .by_cases h:b*g<=c*f
  .simp only [if_pos h]; simp only [if_false,Bool.false_eq_true]; omega
  .simp only [if_neg h]; simp only [if_true]; omega
 .by_cases h:b*g<=c*f
  .simp only [if_pos h]; simp only [if_true]; omega
  .simp only [if_neg h]; simp only [if_false,Bool.false_eq_true]; omega
 .omega
theorem Apt {a b:Ar} {j k:Nat} (ha:RB j a) (hb:RB k b) (hj:j<34359738000) (hk:k<34359738000):∃c,N3 a b=some c/\Ph a b=some c/\RB (j+k+3) c/\Im c/\rq c=rq a+rq b:=by
 obtain ⟨c,h1,h2,h3⟩:=A01 a b j k ha hb hj hk;have e:=Ag4 a b j k ha hb ω ω;rw [h1] at e;have e:=Option.some.inj e;have hd:dv a*dv b≠0:=Nat.mul_ne_zero (Es a) (Es b);refine ⟨c,h1,h2,h3,?_,?_⟩
 .rw [e]; exact Qi _ _ _ hd
 .rw [e,Lr _ _ _ hd,A03,rq,rq,Rat.mkRat_add_mkRat _ _ (Es a) (Es b)]
theorem Apu (s t:Bool) (n m:Nat):sg (s != t) (n*m)=sg s n*sg t m:=by unfold sg;cases s <;> cases t <;> simp [Int.neg_mul,Int.mul_neg]
theorem Ah5 {a b:Ar} {j k:Nat} (ha:RB j a) (hb:RB k b) (hj:j<34359738000) (hk:k<34359738000):∃c,Hj a b=some c/\RB (j+k+2) c/\Im c/\rq c=rq a*rq b:=by have hd:dv a*dv b≠0:=Nat.mul_ne_zero (Es a) (Es b);have h1:=ha.nv;have h2:=ha.dv;have h3:=hb.nv;have h:=hb.dv;have g:=Gy (nv a) (nv b);have f:=Gy (dv a) (dv b);refine ⟨_,Yq a b j k ha hb ω ω,Hf _ _ _ _ ω ω ω,Qi _ _ _ hd,?_⟩;rw [Lr _ _ _ hd,Apu,rq,rq,Rat.mkRat_mul_mkRat]
theorem Add {a b:Ar} {j k:Nat} (ha:RB j a) (hb:RB k b) (hj:j<34359738000) (hk:k<34359738000):∃c,Hj a b=some c/\I5 a b=some c/\RB (j+k+2) c/\Im c/\rq c=rq a*rq b:=by
 obtain ⟨c,h1,h2,h3⟩:=A00 a b j k ha hb hj hk;have e:=Yq a b j k ha hb ω ω;rw [h1] at e;have e:=Option.some.inj e;have hd:dv a*dv b≠0:=Nat.mul_ne_zero (Es a) (Es b);refine ⟨c,h1,h2,h3,?_,?_⟩
 .rw [e]; exact Qi _ _ _ hd
 .rw [e,Lr _ _ _ hd,Apu,rq,rq,Rat.mkRat_mul_mkRat]
def Kh (x:Rat):Int:=if x<0 then -1 else if 0<x then 1 else 0
theorem A04 (a:Ar):rq a<0↔I0 (sv a) (nv a) = -1:=by have e:(0:Rat)=mkRat 0 1:=ψ;rw [rq,e,Aps _ _ (Es a) δ];unfold sg I0;split <;> split <;> simp <;> omega
theorem A05 (a:Ar):0<rq a↔I0 (sv a) (nv a)=1:=by have e:(0:Rat)=mkRat 0 1:=ψ;rw [rq,e,Aps _ _ δ (Es a)];unfold sg I0;split <;> split <;> simp <;> omega
theorem A06 (a:Ar):I0 (sv a) (nv a)=Kh (rq a):=by
 have h1:=A04 a;have h2:=A05 a;have h3:I0 (sv a) (nv a) = -1\/I0 (sv a) (nv a)=0\/I0 (sv a) (nv a)=1:=by unfold I0; split <;> (try split) <;> simp
 unfold Kh;split
 .rename_i h; exact h1.1 h
 .rename_i h;split
  .rename_i h'; exact h2.1 h'
  .rename_i h';rcases h3 with h3 | h3 | h3
   .exact (h (h1.2 h3)).elim
   .exact h3
   .exact (h' (h2.2 h3)).elim
theorem S5 {a:Ar} {k:Nat} (h:RB k a) (hk:k<34359738000):Ix a=some (Kh (rq a))/\L9 a=some (Kh (rq a)):=by rw [<-A06];exact ⟨Ag2 a k h ω,Aha a k h ω⟩
theorem Apv {a:Ar} {k:Nat} (h:RB k a) (hk:k<34359738000):∃c,M4 a=some c/\Jq a=some c/\Im c/\rq c=rq a/\RB (k+1) c := ⟨_,Aci a k h ω,Of a k h ω,Qi _ _ _ (Es a),Lr _ _ _ (Es a),Anx h⟩
end Go.Ab
namespace Go.Ab
open Go
structure Ey {α:Type} (S:α->Prop) (g:α->α->Int):Prop where
 zero:∀a b,S a->S b->(g a b=0↔a=b)
 anti:∀a b,S a->S b->g b a = - g a b
 trans:∀a b c,S a->S b->S c->g a b<0->g b c<0->g a c<0
theorem Ey.cmpI:Ey (λ_:Int=>True) D2:=by
 refine ⟨λa b _ _=>Fz,λa b _ _=>?_,λa b c _ _ _=>?_⟩
 .unfold Go.Ab.D2; split <;> split <;> (try split) <;> (try split) <;> omega
 .unfold Go.Ab.D2; intro h1 h2; split at h1 <;> (try split at h1) <;> split at h2 <;> (try split at h2) <;> first | omega | (rw [if_pos ω]; decide)
theorem Apw {x y:Int}:D3 x y<0↔x<0\/(x=0/\y<0):=by unfold D3; split <;> omega
theorem Apx {x y:Int}:D3 x y=0↔x=0/\y=0:=by unfold D3; split <;> omega
theorem Ey.or {α β γ:Type} {S:α->Prop} {s:β->Prop} {l:γ->Prop} {j:β->β->Int} {i:γ->γ->Int} (p:α->β) (q:α->γ) (g:∀a b,p a=p b->q a=q b->a=b) (h1:Ey s j) (h2:Ey l i) (f:∀a,S a->s (p a)/\l (q a)) : Ey S (λa b=>D3 (j (p a) (p b)) (i (q a) (q b))):=by
 refine ⟨λa b ha hb=>?_,λa b ha hb=>?_,λa b c ha hb hc=>?_⟩
 .rw [Apx,h1.zero _ _ (f a ha).1 (f b hb).1,h2.zero _ _ (f a ha).2 (f b hb).2];exact ⟨λh=>g a b h.1 h.2,λh=>by subst h; exact ⟨rfl,rfl⟩⟩
 .show D3 (j (p b) (p a)) (i (q b) (q a)) = - D3 (j (p a) (p b)) (i (q a) (q b));have z:=h1.anti _ _ (f a ha).1 (f b hb).1;have y:=h2.anti _ _ (f a ha).2 (f b hb).2;rw [z,y]; unfold D3; split <;> split <;> omega
 .show D3 _ _<0->D3 _ _<0->D3 _ _<0;simp only [Apw];have u:=h1.zero _ _ (f a ha).1 (f b hb).1;have z2:=h1.zero _ _ (f b hb).1 (f c hc).1;have t1:=h1.trans _ _ _ (f a ha).1 (f b hb).1 (f c hc).1;have t2:=h2.trans _ _ _ (f a ha).2 (f b hb).2 (f c hc).2;rintro (h | ⟨h,h'⟩) (k | ⟨k,x⟩)
  .exact .inl (t1 h k)
  .rw [<-z2.1 k]; exact .inl h
  .rw [u.1 h]; exact .inl k
  .rw [<-z2.1 k,h]; exact .inr ⟨rfl,t2 h' x⟩
theorem Ey.mono {α:Type} {S i:α->Prop} {g:α->α->Int} (h:Ey S g) (f:∀a,i a->S a):Ey i g := ⟨λa b ha hb=>h.zero a b (f a ha) (f b hb),λa b ha hb=>h.anti a b (f a ha) (f b hb),λa b c ha hb hc=>h.trans a b c (f a ha) (f b hb) (f c hc)⟩
theorem Ey.congr {α:Type} {S:α->Prop} {g c:α->α->Int} (h:Ey S g) (e:∀a b,c a b=g a b):Ey S c:=by have:c=g:=funext λa=>funext λb=>e a b;rw [this]; exact h
def LL {α:Type} (g:α->α->Int) (l m:List α):Int:=if l.length=m.length then Ew g l m else Go.Ab.D2 l.length m.length
theorem Apy {α:Type} {S:α->Prop} {g:α->α->Int} (h:Ey S g):∀l m:List α,l.length=m.length->(∀x∈l,S x)->(∀x∈m,S x)->(Ew g l m=0↔l=m)
 | [],[],_,_,_=>by simp [Ew]
 | x::xs,y::ys,b,h1,h2=>by simp only [Ew,Apx,h.zero x y (h1 x ψ) (h2 y ψ),Apy h xs ys (by simpa using b) (λz c=>h1 z (by simp [c])) (λz c=>h2 z (by simp [c])),List.cons.injEq]
 | [],_::_,b,_,_=>by simp at b
 | _::_,[],b,_,_=>by simp at b
theorem Apz {α:Type} {S:α->Prop} {g:α->α->Int} (h:Ey S g):∀l m:List α,l.length=m.length->(∀x∈l,S x)->(∀x∈m,S x)->Ew g m l = - Ew g l m
 | [],[],_,_,_=>by simp [Ew]
 | x::xs,y::ys,b,h1,h2=>by simp only [Ew,h.anti x y (h1 x ψ) (h2 y ψ),Apz h xs ys (by simpa using b) (λz c=>h1 z (by simp [c])) (λz c=>h2 z (by simp [c]))];unfold D3; split <;> split <;> omega
 | [],_::_,b,_,_=>by simp at b
 | _::_,[],b,_,_=>by simp at b
theorem Ap0 {α:Type} {S:α->Prop} {g:α->α->Int} (h:Ey S g):∀l m n:List α,l.length=m.length->m.length=n.length->(∀x∈l,S x)->(∀x∈m,S x)->(∀x∈n,S x)->Ew g l m<0->Ew g m n<0->Ew g l n<0
 | [],[],_,_,_,_,_,_=>by intro h; simp [Ew] at h
 | x::xs,y::ys,z::i,f,hm,h1,h2,h3=>by
  simp only [Ew,Apw];have j:=h.zero x y (h1 x ψ) (h2 y ψ);have z2:=h.zero y z (h2 y ψ) (h3 z ψ);have t1:=h.trans x y z (h1 x ψ) (h2 y ψ) (h3 z ψ);have t2:=Ap0 h xs ys i (by simpa using f) (by simpa using hm) (λz c=>h1 z (by simp [c])) (λz c=>h2 z (by simp [c])) (λz c=>h3 z (by simp [c]));rintro (a | ⟨a,q⟩) (b | ⟨b,k⟩)
  .exact .inl (t1 a b)
  .rw [<-z2.1 b]; exact .inl a
  .rw [j.1 a]; exact .inl b
  .rw [<-z2.1 b,a]; exact .inr ⟨rfl,t2 q k⟩
 | _::_,_::_,[],_,hm,_,_,_=>by simp at hm
 | [],_::_,_,f,_,_,_,_=>by simp at f
 | _::_,[],_,f,_,_,_,_=>by simp at f
theorem Ey.ll {α:Type} {S:α->Prop} {g:α->α->Int} (h:Ey S g):Ey (λl=>∀x∈l,S x) (LL g):=by
 have c:=Ey.cmpI;refine ⟨λa b ha hb=>?_,λa b ha hb=>?_,λx y z hx hy q=>?_⟩
 .unfold LL;split
  .rename_i i; exact Apy h a b i ha hb
  .rename_i i;rw [Fz];exact ⟨λe=>(i ω).elim,λe=>(i (by rw [e])).elim⟩
 .unfold LL;by_cases i:a.length=b.length
  .rw [if_pos i,if_pos i.symm]; exact Apz h a b i ha hb
  .rw [if_neg i,if_neg (λe=>i e.symm)]; exact c.anti _ _ trivial trivial
 .unfold LL;intro h1 h2;have neg:∀a b:Int,Go.Ab.D2 a b<0->a<b:=(by intro a b h; unfold Go.Ab.D2 at h; split at h <;> (try split at h) <;> omega);have f:∀a b:Int,a<b->Go.Ab.D2 a b<0:=(by intro a b h; unfold Go.Ab.D2; rw [if_pos h]; decide);by_cases k:x.length=y.length
  .rw [if_pos k] at h1;by_cases j:y.length=z.length
   .rw [if_pos j] at h2; rw [if_pos ω]; exact Ap0 h x y z k j hx hy q h1 h2
   .rw [if_neg j] at h2; rw [if_neg ω];have:=neg _ _ h2; exact f _ _ ω
  .rw [if_neg k] at h1;have:=neg _ _ h1;by_cases j:y.length=z.length
   .rw [if_neg ω]; exact f _ _ ω
   .rw [if_neg j] at h2;have:=neg _ _ h2;rw [if_neg ω]; exact f _ _ ω
theorem Ap1 {α:Type} (g:α->α->Int) (l m:List α) (y:Int):D3 (LL g l m) y=if l.length=m.length then D3 (Ew g l m) y else Go.Ab.D2 l.length m.length:=by
 unfold LL;by_cases h:l.length=m.length
 .rw [if_pos h,if_pos h]
 .rw [if_neg h,if_neg h];unfold D3;rw [if_neg (λe=>h (by have:=Fz.1 e; omega))]
theorem A07:Ey (λ_=>True) Lo := (Ey.or (S:=λ_=>True) (λt:A5=>t.Var) (λt=>t.Coef) (λa b h1 h2=>by cases a; cases b; cases h1; cases h2; rfl) Ey.cmpI Ey.cmpI (λ_ _=>⟨trivial,trivial⟩)).congr λ_ _=>rfl
theorem H6:Ey (λ_=>True) E8 := (Ey.or (S:=λ_=>True) (λt:Bb=>t.Terms) (λt=>t.Const) (λa b h1 h2=>by cases a; cases b; cases h1; cases h2; rfl) A07.ll Ey.cmpI (λ_ _=>⟨λ_ _=>trivial,trivial⟩)).congr λa b=>by show E8 a b=D3 (LL Lo a.Terms b.Terms) (Go.Ab.D2 a.Const b.Const);rw [Ap1]; rfl
theorem A08 (i j:Bn):I1 i j=D3 (Go.Ab.D2 i.Num j.Num) (LL I1 i.Kids j.Kids):=by
 rw [Ahy,Adb];unfold D3 LL;by_cases h:i.Num=j.Num
 .rw [if_pos h,if_pos (Fz.2 h)]
 .rw [if_neg h,if_neg (λe=>h (Fz.1 e))]
theorem Ah6:∀n:Nat,Ey (λi=>Dy i<=n) I1:=by intro n;induction n with| zero=>exact ⟨λa _ ha=>by have:=Gq a; omega,λa _ ha=>by have:=Gq a; omega,λa _ _ ha=>by have:=Gq a; omega⟩| succ n ih=>refine (Ey.or (S:=λi=>Dy i<=n+1) (λi:Bn=>i.Num) (λi=>i.Kids) (λa b h1 h2=>by cases a; cases b; cases h1; cases h2; rfl) Ey.cmpI ih.ll ?_).congr A08;intro i hi;refine ⟨trivial,λx hx=>?_⟩;have h1:=Nh hx;have h2:=Gq i;show Dy x<=n;omega
theorem A09:Ey (λ_=>True) I1 := ⟨λa b _ _=>(Ah6 (max (Dy a) (Dy b))).zero a b (by show Dy a<=_; omega) (by show Dy b<=_; omega),λa b _ _=>(Ah6 (max (Dy a) (Dy b))).anti a b (by show Dy a<=_; omega) (by show Dy b<=_; omega),
  λa b c _ _ _=>(Ah6 (max (Dy a) (max (Dy b) (Dy c)))).trans a b c (by show Dy a<=_; omega) (by show Dy b<=_; omega) (by show Dy c<=_; omega)⟩
theorem A1a:Ey (λ_=>True) Lp := (Ey.or (S:=λ_=>True) (λt:B7=>t.Var) (λt=>t.Index) (λa b h1 h2=>by cases a; cases b; cases h1; cases h2; rfl) Ey.cmpI A09 (λ_ _=>⟨trivial,trivial⟩)).congr λ_ _=>rfl
theorem A1b:Ey (λ_=>True) Mp := (Ey.or (S:=λ_=>True) (λt:A7=>t.Lin) (λt=>t.Deg) (λa b h1 h2=>by cases a; cases b; cases h1; cases h2; rfl) H6 Ey.cmpI (λ_ _=>⟨trivial,trivial⟩)).congr λ_ _=>rfl
theorem Ah7:Ey (λ_=>True) C4 := (Ey.or (S:=λ_=>True) (λt:Ba=>t.Factors) (λt=>t.Atoms) (λa b h1 h2=>by cases a; cases b; cases h1; cases h2; rfl) A1a.ll A1b.ll (λ_ _=>⟨λ_ _=>trivial,λ_ _=>trivial⟩)).congr λa b=>by show C4 a b=D3 (LL Lp a.Factors b.Factors) (LL Mp a.Atoms b.Atoms);rw [Ap1]; rfl
theorem G4 {a b:Ba}:C4 a b=0↔a=b:=Ah7.zero a b trivial trivial
theorem S6 (a b:Ba):C4 b a = - C4 a b:=Ah7.anti a b trivial trivial
theorem Qj {a b c:Ba} (h:C4 a b<0) (h':C4 b c<0):C4 a c<0:=Ah7.trans a b c trivial trivial trivial h h'
end Go.Ab
namespace Go.Ab
open Go
theorem Ah8 (m:Ba):C4 m m=0:=G4.2 rfl
theorem Ah9 {a b:Ba}:0<C4 a b↔C4 b a<0:=by rw [S6 a b]; omega
def cf:List Ah->Ba->Rat
 | [],_=>0
 | t::p,m=>(if C4 t.Mono m=0 then rq t.Coef else 0)+cf p m
def ltT (t u:Ah):Prop:=C4 t.Mono u.Mono<0
structure CP (p:List Ah):Prop where
 srt:p.Pairwise ltT
 coe:∀t∈p,Im t.Coef/\rq t.Coef≠0
theorem CP.tail {t:Ah} {p:List Ah} (h:CP (t::p)):CP p:=⟨(List.pairwise_cons.1 h.srt).2,λu hu=>h.coe u (by simp [hu])⟩
theorem CP.head {t:Ah} {p:List Ah} (h:CP (t::p)):∀u∈p,C4 t.Mono u.Mono<0:=(List.pairwise_cons.1 h.srt).1
theorem CP.nil:CP []:=⟨List.Pairwise.nil,λ_ h=>by cases h⟩
theorem CP.cons {t:Ah} {p:List Ah} (h:CP p) (h1:∀u∈p,C4 t.Mono u.Mono<0) (h2:Im t.Coef) (h3:rq t.Coef≠0):CP (t::p) := ⟨List.pairwise_cons.2 ⟨h1,h.srt⟩,λu hu=>by
  rcases List.mem_cons.1 hu with rfl | hu
  .exact ⟨h2,h3⟩
  .exact h.coe u hu⟩
theorem Ap2 {p:List Ah} {m:Ba} (h:∀t∈p,C4 t.Mono m≠0):cf p m=0:=by induction p with| nil=>rfl| cons t p ih=>simp only [cf];rw [if_neg (h t ψ),ih (λu hu=>h u (by simp [hu]))]; grind
theorem Y3 {p:List Ah} {m:Ba} (h:∀t∈p,C4 m t.Mono<0):cf p m=0 := Ap2 λt ht e=>by have:=h t ht; rw [S6,e] at this; omega
theorem S7 {t:Ah} {p:List Ah} (h:CP (t::p)):cf (t::p) t.Mono=rq t.Coef:=by simp only [cf];rw [if_pos (Ah8 _),Y3 h.head]; grind
theorem Aia {t:Ah} {p:List Ah} {m:Ba} (h:C4 t.Mono m≠0):cf (t::p) m=cf p m:=by simp only [cf]; rw [if_neg h]; grind
theorem Mq (p q:List Ah) (m:Ba):cf (p++q) m=cf p m+cf q m:=by induction p with| nil=>simp only [List.nil_append,cf]; grind| cons t p ih=>simp only [List.cons_append,cf,ih]; grind
theorem Y4 {p:List Ah} (h:CP p) {t:Ah} (ht:t∈p):cf p t.Mono=rq t.Coef:=by
 induction p with
 | nil=>cases ht
 | cons u p ih=>
  rcases List.mem_cons.1 ht with rfl | ht
  .exact S7 h
  .have:=h.head t ht;rw [Aia ω]; exact ih h.tail ht
theorem CP.ext:∀{p q:List Ah},CP p->CP q->(∀m,cf p m=cf q m)->p=q
 | [],[],_,_,_=>rfl
 | [],u::q,_,h2,h=>by have:=h u.Mono;rw [S7 h2] at this;exact ((h2.coe u ψ).2 this.symm).elim
 | t::p,[],h1,_,h=>by have:=h t.Mono;rw [S7 h1] at this;exact ((h1.coe t ψ).2 this).elim
 | t::p,u::q,h1,h2,h=>by
  have b:C4 t.Mono u.Mono=0:=by
   rcases Int.lt_trichotomy (C4 t.Mono u.Mono) 0 with k | k | k
   .have e:=h t.Mono;rw [S7 h1,Y3 (p:=u::q)] at e
    .exact ((h1.coe t ψ).2 e).elim
    .intro w hw;rcases List.mem_cons.1 hw with rfl | hw
     .exact k
     .exact Qj k (h2.head w hw)
   .exact k
   .have k:=Ah9.1 k;have e:=h u.Mono;rw [S7 h2,Y3 (p:=t::p)] at e
    .exact ((h2.coe u ψ).2 e.symm).elim
    .intro w hw;rcases List.mem_cons.1 hw with rfl | hw
     .exact k
     .exact Qj k (h1.head w hw)
  have hm:=G4.1 b;have hc:t.Coef=u.Coef:=(by refine Ah4 (h1.coe t ψ).1 (h2.coe u ψ).1 ?_;have e:=h t.Mono;rw [S7 h1,hm,S7 h2] at e;exact e);have ht:t=u:=(by cases t; cases u; simp_all);subst ht;congr 1;refine CP.ext h1.tail h2.tail λm=>?_;by_cases e:C4 t.Mono m=0
  .rw [<-G4.1 e,Y3 h1.head,Y3 h2.head]
  .have:=h m;rwa [Aia e,Aia e] at this
theorem Ap3 (c:Ar):S4 c=true↔Im c/\rq c≠0:=by
 unfold S4 Im;rw [Dj,Adc];have h:(!(nv c==0))=true↔rq c≠0:=by have e:rq c=0↔nv c=0:=(by unfold rq;rw [Rat.mkRat_eq_zero (Es c)];unfold sg; split <;> omega);rw [Ne,e]; simp
 rw [h];exact ⟨λ⟨a,b⟩=>⟨a.symm,b⟩,λ⟨a,b⟩=>⟨a.symm,b⟩⟩
theorem A1c {l:List Ah} (h:∀(j:Nat) (x y:Ah),l[j]? = some x->l[j+1]? = some y->C4 x.Mono y.Mono<0):l.Pairwise ltT:=by
 induction l with
 | nil=>exact List.Pairwise.nil
 | cons t l ih=>
  have ih:=ih λj x y hx hy=>h (j+1) x y (by simpa using hx) (by simpa using hy);refine List.pairwise_cons.2 ⟨?_,ih⟩;cases l with
  | nil=>intro u hu; cases hu
  | cons v l=>
   have h0:=h 0 t v rfl rfl;intro u hu;rcases List.mem_cons.1 hu with rfl | hu
   .exact h0
   .exact Qj h0 ((List.pairwise_cons.1 ih).1 u hu)
theorem Ade {data:List A3} {vars:List Ai} {res:Ai} {p:List Ah}:I2 data vars res p=true↔p.length<=1000/\CP p/\∀t∈p,Hh data vars res t.Mono=true:=by
 unfold I2;rw [Dj,decide_eq_true_eq];constructor
 .rintro ⟨h1,h2⟩;have g:∀(j:Nat) (t:Ah),p[j]? = some t->S4 t.Coef=true/\Hh data vars res t.Mono=true/\Qg p t j=true:=(by intro j t hj;have:=Hm h2 hj;simp only [Qh,Dj] at this;exact ⟨this.1.1,this.1.2,this.2⟩);refine ⟨h1,⟨A1c λj x y hx hy=>?_,λt ht=>?_⟩,λt ht=>?_⟩
  .have:=(g _ _ hy).2.2;unfold Qg at this;rw [show j+1-1=j by omega,hx] at this;simpa using this
  .obtain ⟨j,hj⟩:=List.getElem?_of_mem ht;exact (Ap3 _).1 (g j t hj).1
  .obtain ⟨j,hj⟩:=List.getElem?_of_mem ht;exact (g j t hj).2.1
 .rintro ⟨h1,h2,h3⟩;refine ⟨h1,List.all_eq_true.2 λq hq=>?_⟩;have hq:=List.mem_zipIdx' hq;have hj:p[q.2]? = some q.1:=(Bv hq.1).trans (congrArg some hq.2.symm);have hm:q.1∈p:=Cd hj;simp only [Qh,Dj];refine ⟨⟨(Ap3 _).2 (h2.coe _ hm),h3 _ hm⟩,?_⟩;unfold Qg;by_cases h0:q.2=0
  .rw [h0]; rfl
  .have b:q.2-1<p.length:=ω;rw [Bv b];have:=List.pairwise_iff_getElem.1 h2.srt (q.2-1) q.2 b hq.1 ω;rw [<-hq.2] at this;simp only [Bool.or_eq_true,decide_eq_true_eq];exact .inr this
end Go.Ab
namespace Go.Ab
open Go
theorem A1d:∀(k:Nat) (t:Bn),Dy t<=k->k<1099511627776->R5 k t=some t:=by
 intro k;induction k with
 | zero=>intro t h; have:=Gq t; omega
 | succ k ih=>
  intro t h hk;have c:=Gq t;have b:=Oj t.Kids;rw [R5];refine Gf t.Kids (λj=>((j:Int),(t.Kids.take j))) rfl ω ?_ ?_
  .intro j x hj hx h1 h2 h3;have:=Nh (Cd hx);simp only [h1,h2,h3,cond_true,Ad,ih x ω ω];rw [C3 (by simp; omega),Ad,C8 hx]
  .intro h1;exact ⟨t.Kids,ψ,by cases t; rfl⟩
theorem A1e (m:Ba) (b:D9 m):Xq m=some m:=by
 have f:=b.nf;have c:=b.na;unfold Xq;refine Gf m.Factors (λj=>((j:Int),(m.Factors.take j))) rfl ω ?_ ?_
 .intro j x hj hx h1 h2 h3;have hm:=Cd hx;have:=b.fi x hm;simp only [h1,h2,h3,cond_true,Ad,A1d 4000000 x.Index ω ω];rw [C3 (by simp; omega),Ad,C8 hx]
 .intro h1;refine ⟨m.Factors,ψ,?_⟩;dsimp only;refine Gf m.Atoms (λj=>((j:Int),(m.Atoms.take j))) rfl ω ?_ ?_
  .intro j x hj hx h1 h2 h3;have hm:=Cd hx;have:=b.al x hm;simp only [h1,h2,h3,cond_true,Ad,Ud];rw [C3 (by simp; omega),Ad,C3 (by simp; omega),Ad,C8 hx]; rfl
  .intro h1;exact ⟨m.Atoms,ψ,by cases m; rfl⟩
end Go.Ab
namespace Go.Ab
open Go
structure TB (k:Nat) (t:Ah):Prop where
 co:RB k t.Coef
 mo:D9 t.Mono
theorem TSz.tb {t:Ah} (h:TSz t):TB 1048576 t:=⟨h.co,h.mo⟩
theorem TB.mono {j k:Nat} {t:Ah} (h:TB j t) (hk:j<=k):TB k t:=⟨h.co.mono hk,h.mo⟩
end Go.Ab
namespace Go.Ab
open Go
def H7 (n:Int) (f:Bool):List Int:=if f then (if n<0 then [45] else []) else (if n<0 then [32,45,32] else [32,43,32])
def Jc (n:Int):List Int:=if n.natAbs=1 then [] else ti n.natAbs++[42]
def Ip (v:Int):List Int:=if v = -1 then [114,101,115] else 118::ti v
def tT (f:Bool) (t:A5):List Int:=H7 t.Coef f++(Jc t.Coef++Ip t.Var)
def G5:Bool->List A5->Int->List Int
 | f,[],c=>if c≠0\/f=true then H7 c f++ti c.natAbs else []
 | f,t::ts,c=>tT f t++G5 false ts c
def Y5 (l:Bb):List Int:=G5 true l.Terms l.Const
def Iq (X:List Int):Prop:=∀c m,X=c::m->c=97
theorem Iq.nil:Iq []:=by intro c m h; cases h
theorem Iq.cons (X:List Int):Iq (97::X):=by intro c m h; cases h; rfl
theorem Iq.nonum {X:List Int} (h:Iq X):K1 X:=by intro c m e; rw [h c m e]; decide
theorem Aib (n:Nat):∃c m,ti n=c::m/\48<=c/\c<=57:=by
 have b:=Ahs (n:Int);cases h:ti (n:Int) with
 | nil=>exact (b h).elim
 | cons c m=>refine ⟨c,m,rfl,?_⟩;have hc:c∈ti (n:Int):=(by rw [h]; simp);unfold ti at hc;obtain ⟨x,hx,rfl⟩:=List.mem_map.1 hc;have e:Lib.itoa (n:Int)=Lib.decDigits n:=(by unfold Lib.itoa;first | rfl | (rw [if_neg ω]; simp) | simp);rw [e] at hx;have:=Ac0 n n (Nat.le_refl _) x hx;omega
theorem Ap4 (ts:List A5) (c:Int) {X:List Int} (b:Iq X):K1 (G5 false ts c++X):=by
 have k:∀(n:Int) (Y:List Int),K1 (H7 n false++Y):=by intro n Y c m e;unfold H7 at e;simp only [Bool.false_eq_true,if_false] at e;split at e <;> (cases e; decide)
 cases ts with
 | nil=>
  simp only [G5];split
  .rw [List.append_assoc]; exact k _ _
  .exact b.nonum
 | cons t ts=>simp only [G5,tT,List.append_assoc]; exact k _ _
theorem Ap5 {v w:Int} {R S:List Int} (c:K1 R) (b:K1 S) (h:Ip v++R=Ip w++S):v=w/\R=S:=by
 unfold Ip at h;split at h <;> split at h
 .simp only [List.cons_append,List.nil_append,List.cons.injEq,true_and] at h;exact ⟨ω,h⟩
 .simp at h
 .simp at h
 .simp only [List.cons_append,List.cons.injEq,true_and] at h;obtain ⟨g,f⟩:=Ol _ _ _ _ (Hg v) (Hg w) c b h;exact ⟨S0 g,f⟩
theorem Aic (v:Int):∃c m,Ip v=c::m/\(c=114\/c=118):=by
 unfold Ip;split
 .exact ⟨_,_,rfl,.inl rfl⟩
 .exact ⟨_,_,rfl,.inr rfl⟩
theorem Aid (X:List Int):K1 (42::X):=by intro c m e; cases e; decide
theorem A1f {a b v w:Int} {R S:List Int} (i:K1 R) (g:K1 S) (h:Jc a++(Ip v++R)=Jc b++(Ip w++S)):a.natAbs=b.natAbs/\v=w/\R=S:=by
 unfold Jc at h;have bad:∀(n:Nat) (u:Int) (X Y:List Int),Ip u++X=ti n++[42]++Y->False:=by intro n u X Y e;obtain ⟨c,m,f,q⟩:=Aic u;obtain ⟨d,k,l,j⟩:=Aib n;rw [f,l] at e;simp only [List.cons_append,List.cons.injEq] at e;omega
 split at h <;> split at h
 .rename_i h1 h2;simp only [List.nil_append] at h;exact ⟨h1.trans h2.symm,Ap5 i g h⟩
 .exact (bad _ _ _ _ h).elim
 .exact (bad _ _ _ _ h.symm).elim
 .simp only [List.append_assoc,List.cons_append,List.nil_append] at h;obtain ⟨f,q⟩:=Ol _ _ _ _ (Hg _) (Hg _) (Aid _) (Aid _) h;have l:=S0 f;obtain ⟨j,s⟩:=Ap5 i g (List.cons.inj q).2;exact ⟨ω,j,s⟩
def NoM (P:List Int):Prop:=∃c m,P=c::m/\c≠45
theorem NoM.ti (n:Nat) (X:List Int):NoM (Go.Ab.ti n++X):=by obtain ⟨c,m,e,h⟩:=Aib n;exact ⟨c,m++X,by rw [e]; rfl,ω⟩
theorem NoM.pT (a v:Int) (X:List Int):NoM (Jc a++(Ip v++X)):=by
 unfold Jc;split
 .obtain ⟨c,m,e,h⟩:=Aic v;exact ⟨c,m++X,by rw [e]; rfl,ω⟩
 .rw [List.append_assoc]; exact NoM.ti _ _
theorem Aie {a b:Int} {f:Bool} {P Q:List Int} (i:NoM P) (g:NoM Q) (h:H7 a f++P=H7 b f++Q):(a<0↔b<0)/\P=Q:=by
 obtain ⟨c,m,rfl,hc⟩:=i;obtain ⟨d,k,rfl,hd⟩:=g;unfold H7 at h;cases f with
 | true=>
  simp only [if_true] at h;split at h <;> split at h
  .rename_i h1 h2; exact ⟨by simp [h1,h2],by simpa using h⟩
  .simp at h; exact (hd h.1.symm).elim
  .simp at h; exact (hc h.1).elim
  .rename_i h1 h2; exact ⟨by simp [h1,h2],by simpa using h⟩
 | false=>
  simp only [Bool.false_eq_true,if_false] at h;split at h <;> split at h
  .rename_i h1 h2; exact ⟨by simp [h1,h2],by simpa using h⟩
  .simp at h
  .simp at h
  .rename_i h1 h2; exact ⟨by simp [h1,h2],by simpa using h⟩
theorem Aif {n:Int} {P X:List Int} (b:Iq X) (h:H7 n false++P=X):False:=by
 unfold H7 at h;simp only [Bool.false_eq_true,if_false] at h;split at h
 .have:=b _ _ h.symm; omega
 .have:=b _ _ h.symm; omega
theorem Ap6 {c d:Int} {f:Bool} {u:A5} {m:List A5} {X Y:List Int} (b:Iq X) (l:Iq Y) (h:G5 f [] c++X=G5 f (u::m) d++Y):False:=by
 simp only [G5,tT] at h;split at h
 .simp only [List.append_assoc] at h;obtain ⟨_,e⟩:=Aie (NoM.ti _ _) (NoM.pT _ _ _) h;unfold Jc at e;split at e
  .obtain ⟨s,m1,k,h1⟩:=Aic u.Var;obtain ⟨q,m2,g,h2⟩:=Aib c.natAbs;rw [k,g] at e;simp only [List.nil_append,List.cons_append,List.cons.injEq] at e;omega
  .simp only [List.append_assoc,List.cons_append,List.nil_append] at e;obtain ⟨_,g⟩:=Ol _ _ _ _ (Hg _) (Hg _) b.nonum (Aid _) e;have:=b _ _ g; omega
 .rename_i i;have j:f=false:=(by cases f with | true=>simp at i | false=>rfl);subst j;simp only [List.nil_append,List.append_assoc] at h;exact Aif b h.symm
theorem Ap7:∀(l m:List A5) (f:Bool) (c d:Int) (X Y:List Int),Iq X->Iq Y->G5 f l c++X=G5 f m d++Y->l=m/\c=d/\X=Y
 | [],[],f,c,d,X,Y,g,b,h=>by
  simp only [G5] at h;split at h <;> split at h
  .simp only [List.append_assoc] at h;obtain ⟨y,s⟩:=Aie (NoM.ti _ _) (NoM.ti _ _) h;obtain ⟨q,i⟩:=Ol _ _ _ _ (Hg _) (Hg _) g.nonum b.nonum s;have x:=S0 q;exact ⟨rfl,ω,i⟩
  .rename_i h1 h2;have j:f=false:=(by cases f with | true=>simp at h2 | false=>rfl);subst j;simp only [List.append_assoc,List.nil_append] at h;exact (Aif b h).elim
  .rename_i h1 h2;have j:f=false:=(by cases f with | true=>simp at h1 | false=>rfl);subst j;simp only [List.append_assoc,List.nil_append] at h;exact (Aif g h.symm).elim
  .rename_i h1 h2;refine ⟨rfl,?_,by simpa using h⟩;have a1:c=0:=(by by_cases k:c=0; exact k; exact (h1 (.inl k)).elim);have a2:d=0:=(by by_cases k:d=0; exact k; exact (h2 (.inl k)).elim);omega
 | [],u::m,f,c,d,X,Y,g,b,h=>(Ap6 g b h).elim
 | t::l,[],f,c,d,X,Y,g,b,h=>(Ap6 b g h.symm).elim
 | t::l,u::m,f,c,d,X,Y,g,b,h=>by simp only [G5,tT,List.append_assoc] at h;obtain ⟨y,s⟩:=Aie (NoM.pT _ _ _) (NoM.pT _ _ _) h;obtain ⟨q,i,x⟩:=A1f (Ap4 _ _ g) (Ap4 _ _ b) s;obtain ⟨B,A,z⟩:=Ap7 l m false c d X Y g b x;have:t=u:=(by cases t; cases u;simp only at y q i;subst i;congr 1; omega);exact ⟨by rw [this,B],A,z⟩
def G0 (a:A7):List Int:=97::(ti a.Deg++58::Y5 a.Lin)
def Ga (f:B7):List Int:=Jb f.Var f.Index
def Y6 (m:Ba):List Int:=m.Factors.flatMap Ga++m.Atoms.flatMap G0
theorem Adf (l:List A7):Iq (l.flatMap G0):=by cases l with| nil=>exact Iq.nil| cons a l=>simp only [List.flatMap_cons,G0,List.cons_append]; exact Iq.cons _
theorem Adg (X:List Int):K1 (58::X):=by intro c m e; cases e; decide
theorem Ap8:∀(l m:List A7),l.flatMap G0=m.flatMap G0->l=m
 | [],[],_=>rfl
 | [],b::m,h=>by simp [G0] at h
 | a::l,[],h=>by simp [G0] at h
 | a::l,b::m,h=>by simp only [List.flatMap_cons,G0,List.cons_append,List.append_assoc,List.cons.injEq,true_and] at h;obtain ⟨s,q⟩:=Ol _ _ _ _ (Hg _) (Hg _) (Adg _) (Adg _) h;have k:=(List.cons.inj q).2;obtain ⟨g,f,j⟩:=Ap7 _ _ true _ _ _ _ (Adf l) (Adf m) k;have i:=Ap8 l m j;have c:=S0 s;obtain ⟨⟨x,t1⟩,d1⟩:=a;obtain ⟨⟨u,t2⟩,d2⟩:=b;simp only at g f c;rw [g,f,c,i]
theorem Ap9 (l:List B7) {X:List Int} (b:Iq X):Qc (l.flatMap Ga++X):=by cases l with| nil=>intro c m e; rw [b c m e]; exact ⟨δ,δ⟩| cons a l=>intro c m e;simp only [List.flatMap_cons,Ga,Jb,List.cons_append] at e;cases e; exact ⟨δ,δ⟩
theorem Aqa:∀(l m:List B7) (X Y:List Int),Iq X->Iq Y->l.flatMap Ga++X=m.flatMap Ga++Y->l=m/\X=Y
 | [],[],X,Y,_,_,h=>⟨rfl,by simpa using h⟩
 | [],b::m,X,Y,f,_,h=>by simp only [List.flatMap_cons,List.flatMap_nil,Ga,Jb,List.cons_append,List.nil_append] at h;have:=f _ _ h; omega
 | a::l,[],X,Y,_,c,h=>by simp only [List.flatMap_cons,List.flatMap_nil,Ga,Jb,List.cons_append,List.nil_append] at h;have:=c _ _ h.symm; omega
 | a::l,b::m,X,Y,f,c,h=>by simp only [List.flatMap_cons,Ga,Jb,List.cons_append,List.append_assoc,List.cons.injEq,true_and] at h;obtain ⟨x,u⟩:=Ol _ _ _ _ (Hg _) (Hg _) (Adg _) (Adg _) h;have s:=(List.cons.inj u).2;obtain ⟨i,q⟩:=Ahu _ _ _ _ (Ap9 l f) (Ap9 m c) s;obtain ⟨k,j⟩:=Aqa l m X Y f c q;have g:=S0 x;obtain ⟨y,i1⟩:=a;obtain ⟨v2,i2⟩:=b;simp only at i g;exact ⟨by rw [i,g,k],j⟩
theorem A1g {m n:Ba} (h:Y6 m=Y6 n):m=n:=by obtain ⟨c,f⟩:=Aqa _ _ _ _ (Adf _) (Adf _) h;have b:=Ap8 _ _ f;cases m; cases n;simp only at c b;rw [c,b]
def By (l:List Int):Prop:=∀c∈l,0<=c/\c<256
theorem By.app {l m:List Int} (h:By l) (h':By m):By (l++m):=by
 intro c hc;rcases List.mem_append.1 hc with k | k
 .exact h c k
 .exact h' c k
theorem By.ti (n:Int):By (Go.Ab.ti n):=by intro c h;have:=Hg n c h;simp only [Ok,Bool.or_eq_true,Dj,beq_iff_eq,decide_eq_true_eq] at this;omega
theorem By.cons {c:Int} {l:List Int} (hc:0<=c/\c<256) (h:By l):By (c::l):=by
 intro d hd;rcases List.mem_cons.1 hd with rfl | k
 .exact hc
 .exact h d k
theorem By.nil:By []:=λc h=>by cases h
theorem By.sgn (n:Int) (f:Bool):By (H7 n f):=by unfold H7;split <;> split <;> intro c hc <;> simp at hc <;> omega
theorem By.mag (n:Int):By (Jc n):=by
 unfold Jc;split
 .exact By.nil
 .exact (By.ti _).app (By.cons ω By.nil)
theorem By.var (n:Int):By (Ip n):=by
 unfold Ip;split
 .intro c hc; simp at hc; omega
 .exact By.cons ω (By.ti _)
theorem By.tT (f:Bool) (t:A5):By (tT f t):=(By.sgn _ _).app ((By.mag _).app (By.var _))
theorem By.lins:∀(l:List A5) (f:Bool) (c:Int),By (G5 f l c)
 | [],f,c=>by
  simp only [G5];split
  .exact (By.sgn _ _).app (By.ti _)
  .exact By.nil
 | t::l,f,c=>(By.tT f t).app (By.lins l false c)
theorem By.at (a:A7):By (G0 a):=By.cons ω ((By.ti _).app (By.cons ω (By.lins _ _ _)))
theorem By.flat {α:Type} {g:α->List Int} (h:∀a,By (g a)) (l:List α):By (l.flatMap g):=by intro c hc;obtain ⟨a,_,k⟩:=List.mem_flatMap.1 hc;exact h a c k
theorem By.fac (f:B7):By (Ga f):=Ac3 f.Var f.Index
theorem By.mono (m:Ba):By (Y6 m):=(By.flat By.fac _).app (By.flat By.at _)
def bs (l:List Int):ByteArray:=⟨(Eh l).toArray⟩
theorem A1h {l m:List Int} (b:By l) (hm:By m) (h:bs l=bs m):l=m:=by
 unfold bs at h;have h1:(Eh l).toArray=(Eh m).toArray:=by injection h
 have h2:Eh l=Eh m:=by simpa using congrArg Array.toList h1
 exact Ahx _ _ b hm h2
def Ki (m:Ba):ByteArray:=bs (Y6 m)
theorem Aqb {m n:Ba} (h:Ki m=Ki n):m=n:=A1g (A1h (By.mono m) (By.mono n) h)
theorem Adh (l:List Int):(bs l).size=l.length:=by unfold bs Eh; simp [ByteArray.size]
theorem Aqc {l:List Int} (h:By l):L3 (bs l)=l:=by
 unfold L3 bs Eh
 simp only [List.map_map]
 conv=>rhs; rw [<-List.map_id l]
 refine List.map_congr_left λc hc=>?_
 have:=h c hc
 simp only [Function.comp,UInt8.toNat_ofNat',id]
 omega
theorem A1i (l m:List Int):bs l++bs m=bs (l++m):=by apply ByteArray.ext;rw [ByteArray.data_append];unfold bs Eh;simp
theorem S8 {l m:List Int} (h:l.length+m.length<=9223372036854775807):Fg (bs l) (bs m)=some (bs (l++m)):=by unfold Fg;rw [if_pos (by rw [Adh,Adh]; exact h),A1i]
theorem Adi {n:Int} (h:I64 n):Nx n=some (bs (ti n)):=by
 rw [Ahw h]
 congr 2
 congr 1
 unfold Eh ti
 rw [List.map_map]
 conv=>lhs; rw [<-List.map_id (Lib.itoa n)]
 refine List.map_congr_left λc _=>?_
 simp [Function.comp]
end Go.Ab
namespace Go.Ab
open Go
theorem Adj {S E R α:Type} {step:S->Option (S⊕E)} {s0:S} {J:E->Option R} {r:R} (c:α) (xs:List α) (b:Nat->S) (h0:s0=b 0) (h:xs.length<2305843009213693952) (f:∀(j:Nat) (x:α),xs[j]? = some x->decide (((j+1:Nat):Int)<((c::xs).length:Int))=true->Ae (c::xs) ((j+1:Nat):Int)=some x->Aa (((j+1:Nat):Int)+1)=((j+1+1:Nat):Int)->step (b j)=some (.inl (b (j+1)))) (g:decide (((xs.length+1:Nat):Int)<((c::xs).length:Int))=false->∃e,step (b xs.length)=some (.inr e)/\J e=some r):(Al step s0).bind J=some r:=by refine Ie xs.length b h0 (λj hj=>?_) (g ψ);have hx:xs[j]? = some xs[j]:=Bv hj;exact f j _ hx (Aj (by simp only [List.length_cons]; omega)) (Ce rfl ψ) (C6 (n:=xs.length+1) ω ω)
theorem Dl {α β:Type} {X:Option α} {a:α} {K:α->Option β} {r:Option β} (h:X=some a) (k:K a=r):X.bind K=r:=by rw [h]; exact k
theorem Mr {l b:List Int} (c:By l) (h:b.length+l.length<=140737488355328):F9 (bs l) b=some ((l.length:Int),b++l):=by simp only [F9,Vh,Ad,Aqc c,Adh];rw [C3 ω]; rfl
theorem Vx {l b:List Int} (c:By l) (h:b.length+l.length<=140737488355328):Iy (bs l) b=some ((l.length:Int),b++l):=by simp only [Iy,Xx,Ad,Aqc c,Adh];rw [C3 ω]; rfl
theorem Vy {b:List Int} (hb:By b):Kx b=some (bs b):=by exact if_pos hb
theorem A1j {b:List Int} (hb:By b):Yh b=some (bs b):=Vy hb
theorem Aig (n:Int) (h : -1048576<=n/\n<=1048576):(Jc n).length<=22:=by
 unfold Jc;split
 .simp
 .have:=Mo (n:=(n.natAbs:Int)) (by unfold I64; omega);simp; omega
theorem Adk (n:Int) (f:Bool):(H7 n f).length<=3:=by unfold H7; split <;> split <;> simp
theorem A1k {v:Int} (h : -1<=v/\v<3000):(Ip v).length<=22:=by
 unfold Ip;split
 .simp
 .have:=Mo (n:=v) (by unfold I64; omega);simp; omega
structure Aqd (a:Bb):Prop where
 c : -1048576<=a.Const/\a.Const<=1048576
 n:a.Terms.length<=16
 t:∀t∈a.Terms,(-1<=t.Var/\t.Var<3000)/\(-1048576<=t.Coef/\t.Coef<=1048576)
theorem Aih {a:Bb} (h:C2 a=true):Aqd a:=by unfold C2 at h;simp only [Dj,decide_eq_true_eq] at h;refine ⟨⟨h.1.1,h.1.2.1⟩,h.1.2.2,λt ht=>?_⟩;obtain ⟨j,hj⟩:=List.getElem?_of_mem ht;have:=Hm h.2 hj;simp only [Nk,Dj,decide_eq_true_eq] at this;omega
theorem Aii {t:A5} (f:Bool) (h:(-1<=t.Var/\t.Var<3000)/\(-1048576<=t.Coef/\t.Coef<=1048576)):(tT f t).length<=47:=by have:=Adk t.Coef f;have:=Aig t.Coef h.2;have:=A1k h.1;unfold tT;simp only [List.length_append]; omega
theorem Aqe {n:Int} (h : -1048576<=n/\n<=1048576):(if Aa (0-n)>n then Aa (0-n) else n)=(n.natAbs:Int):=by rw [Aa,Bm ω ω]; split <;> omega
theorem c45:ByteArray.mk #[45]=bs [45]:=rfl
theorem A1l:ByteArray.mk #[32,45,32]=bs [32,45,32]:=rfl
theorem A1m:ByteArray.mk #[32,43,32]=bs [32,43,32]:=rfl
theorem c42:ByteArray.mk #[42]=bs [42]:=rfl
theorem Aqf:ByteArray.mk #[118]=bs [118]:=rfl
theorem c97:ByteArray.mk #[97]=bs [97]:=rfl
theorem c58:ByteArray.mk #[58]=bs [58]:=rfl
theorem Aqg:ByteArray.mk #[114,101,115]=bs [114,101,115]:=rfl
theorem Aqh:By [45]:=By.cons ω By.nil
theorem by3 (a b c:Int) (ha:0<=a/\a<256) (hb:0<=b/\b<256) (hc:0<=c/\c<256):By [a,b,c]:=By.cons ha (By.cons hb (By.cons hc By.nil))
theorem Aqi {n:Int} (f:Bool) {b:List Int} (c : -1048576<=n/\n<=1048576) (hb:b.length<=1099511627776):Yi n f b=some ((n.natAbs:Int),b++H7 n f):=by
 unfold Yi H7;rw [Aqe c,c45,A1l,A1m];rw [Mr Aqh (by simp; omega),Mr (by3 _ _ _ ω ω ω) (by simp; omega),Mr (by3 _ _ _ ω ω ω) (by simp; omega)];by_cases h:n<0
 .rw [Aj h,if_pos h,if_pos h]; cases f <;> rfl
 .rw [An h,if_neg h,if_neg h]; cases f <;> simp
theorem A1n {n:Int} {b:List Int} (c : -1048576<=n/\n<=1048576) (hb:b.length<=1099511627776):Rz n true b=some (if n<0 then .inl ((n.natAbs:Int),b++[45]) else .inr ((n.natAbs:Int),b)):=by
 unfold Rz;rw [Aqe c,c45,Vx Aqh (by simp; omega)];by_cases h:n<0
 .rw [Aj h,if_pos h]; rfl
 .rw [An h,if_neg h]; rfl
theorem Aij {n:Nat} (h:n<=1048576):Mf (n:Int) 10=some (bs (ti n)):=by unfold Mf Aau;exact Adi (by unfold I64; omega)
theorem Adl {n:Nat} (h:n<=1048576):(ti (n:Int)).length<=21:=Mo (by unfold I64; omega)
theorem Aqj {n:Int} {b:List Int} (c : -1048576<=n/\n<=1048576) (hb:b.length<=1099511627776) : (bif ((n.natAbs:Int) != (1:Int)) then (Mf (n.natAbs:Int) 10).bind λv=>(Fg v (ByteArray.mk #[42])).bind λu=>(F9 u b).bind λw=>some w.2 else some b)=some (b++Jc n):=by
 have ht:=Adl (n:=n.natAbs) ω;unfold Jc;by_cases h:n.natAbs=1
 .rw [De ω,if_pos h]; simp
 .rw [Dh ω,if_neg h,Aij ω,c42];simp only [cond_true,Ad];rw [S8 (by simp; omega),Ad,Mr ((By.ti _).app (By.cons ω By.nil)) (by simp; omega)]; rfl
theorem Aik {v:Int} {b:List Int} {R:Type} (K:List Int->Option R) (c : -1<=v/\v<3000) (hb:b.length<=1099511627776) : (bif (v==(-1)) then (F9 (ByteArray.mk #[114,101,115]) b).bind λw=>K w.2 else (Hv v).bind λx=>(Fg (ByteArray.mk #[118]) x).bind λy=>(F9 y b).bind λw=>K w.2)=K (b++Ip v):=by
 have ht:=Mo (n:=v) (by unfold I64; omega);unfold Ip;by_cases h:v = -1
 .rw [Dw h,if_pos h,Aqg,Mr (by3 _ _ _ ω ω ω) (by simp; omega)]; rfl
 .rw [Ch h,if_neg h,Aqf];simp only [cond_false,Hv];rw [Adi (by unfold I64; omega),Ad,S8 (by simp; omega),Ad];rw [show [118]++ti v=118::ti v from rfl,Mr (By.cons ω (By.ti _)) (by simp; omega)]; rfl
theorem Adm {α:Type} {g:α->List Int} {l:List α} {j:Nat} {x:α} (h:l[j]? = some x):(l.take (j+1)).flatMap g=(l.take j).flatMap g++g x:=by rw [C8 h]; simp
theorem Aqk {α:Type} {g:α->List Int} {n:Nat}:∀(l:List α),(∀a∈l,(g a).length<=n)->(l.flatMap g).length<=l.length*n
 | [],_=>ψ
 | a::l,h=>by have h1:=h a ψ;have h2:=Aqk l λb hb=>h b (by simp [hb]);simp only [List.flatMap_cons,List.length_append,List.length_cons,Nat.add_mul]; omega
theorem Ail {α:Type} {g:α->List Int} {n:Nat} (l:List α) (j:Nat) (h:∀a∈l,(g a).length<=n):((l.take j).flatMap g).length<=l.length*n:=by refine Nat.le_trans (Aqk _ λa ha=>h a (List.mem_of_mem_take ha)) (Nat.mul_le_mul_right _ ?_);rw [List.length_take]; omega
theorem Aql:∀(ts:List A5) (c:Int),G5 false ts c=ts.flatMap (tT false)++G5 false [] c
 | [],c=>ψ
 | t::ts,c=>by have:=Aql ts c;simp only [List.flatMap_cons,List.append_assoc,<-this]; rfl
theorem A1o {a:Bb} (h:C2 a=true) (B:a.Terms≠[]):N9 a=some (bs (Y5 a)):=by
 have z:=Aih h;unfold N9;rw [Lq,h];obtain ⟨c,l⟩:=a;cases l with
 | nil=>exact (B rfl).elim
 | cons t ts=>
  have hc : -1048576<=c/\c<=1048576:=z.c;have M:ts.length<=15:=(by have:=z.n; simp at this; omega);have ht:(-1<=t.Var/\t.Var<3000)/\(-1048576<=t.Coef/\t.Coef<=1048576):=z.t t ψ;have s:∀u∈ts,(-1<=u.Var/\u.Var<3000)/\(-1048576<=u.Coef/\u.Coef<=1048576):=λu hu=>z.t u (by simp [hu]);have x:=λj=>Ail (g:=tT false) (n:=47) ts j (λu hu=>Aii false (s u hu));have J:=Aii true ht;simp only [Ad,Dk,cond_false];rw [Aj (by simp only [List.length_cons]; omega),cond_true];refine Dl (a:=((t.Coef.natAbs:Int),tT true t)) ?_ ?_
  .rw [show Ae (t::ts) 0=some t from rfl,Ad,A1n ht.2 ψ,Ad];have G:=Mo (n:=t.Var) (by unfold I64; omega);have I:=Adl (n:=t.Coef.natAbs) ω;have D:=Aig t.Coef ht.2;by_cases q:t.Coef<0
   .rw [if_pos q];simp only;rw [Aqj ht.2 ψ,Ad];refine (Aik (λb=>some ((t.Coef.natAbs:Int),b)) ht.1 (by simp; omega)).trans ?_;simp [tT,H7,q]
   .rw [if_neg q];simp only;by_cases h1:t.Coef.natAbs=1
    .rw [De ω];simp only [cond_false];by_cases y:t.Var = -1
     .rw [Dw y,Aqg,cond_true,Vx (by3 _ _ _ ω ω ω) ψ];simp [tT,H7,q,Jc,h1,Ip,y]
     .rw [Ch y,cond_false,Aqf,Hv,Adi (by unfold I64; omega),Ad,S8 (by simp; omega),Ad,show [118]++ti t.Var=118::ti t.Var from rfl,
       Vx (By.cons ω (By.ti _)) (by simp; omega)];simp [tT,H7,q,Jc,h1,Ip,y]
    .rw [Dh ω];simp only [cond_true];rw [Aij ω,Ad,c42,S8 (by simp; omega),Ad,Vx ((By.ti _).app (By.cons ω By.nil)) (by simp; omega),Ad];refine (Aik (λb=>some ((t.Coef.natAbs:Int),b)) ht.1 (by simp; omega)).trans ?_;simp [tT,H7,q,Jc,h1]
  .simp only;refine Adj t ts (λj=>(((j+1:Nat):Int),tT true t++(ts.take j).flatMap (tT false))) (by simp [Aa,Bm]) ω ?_ ?_
   .intro j u hu h1 h2 h3;have f:=s u (Cd hu);have:=x j;have D:=Aig u.Coef f.2;have A:=Adk u.Coef false;simp only [h1,h2,h3,cond_true,Ad];rw [Ch ω,Aqi false f.2 (by simp only [List.length_append]; omega),Ad,Aqj f.2 (by simp only [List.length_append]; omega),Ad];refine (Aik (R:=(Int×List Int)⊕List Int) (λb=>some (.inl (((j+1+1:Nat):Int),b))) f.1 (by simp only [List.length_append]; omega)).trans ?_;rw [Adm hu];simp [tT]
   .intro h1;have h2:=x ts.length;rw [List.take_length] at h2;refine ⟨tT true t++ts.flatMap (tT false),by simp only [h1,cond_false,List.take_length],?_⟩;have E:By (tT true t++ts.flatMap (tT false)):=(By.tT _ _).app (By.flat (By.tT _) _);have e:Y5 ⟨c,t::ts⟩=tT true t++ts.flatMap (tT false)++G5 false [] c:=(by have:=Aql ts c;rw [List.append_assoc,<-this]; rfl);rw [e];have k:((((t::ts).length:Nat):Int)==(0:Int))=false:=Ch (by simp only [List.length_cons]; omega);by_cases i:c=0
    .simp only [De i,cond_false,k,Ad];rw [Vy E];simp [G5,i]
    .have L:=Adl (n:=c.natAbs) ω;have A:=Adk c false;simp only [Dh i,cond_true,Ad,k];rw [Aqi false hc (by simp only [List.length_append]; omega),Ad,Aij ω,Ad,Mr (By.ti _) (by simp only [List.length_append]; omega),Ad, Vy ((E.app (By.sgn _ _)).app (By.ti _))];simp [G5,i]
theorem Aqm {a:Bb} (h:Aqd a):(Y5 a).length<=1024:=by
 have key:∀(l:List A5) (f:Bool),(∀t∈l,(-1<=t.Var/\t.Var<3000)/\(-1048576<=t.Coef/\t.Coef<=1048576))->(G5 f l a.Const).length<=47*l.length+24:=by
  intro l;induction l with
  | nil=>intro f _;have h1:=Adl (n:=a.Const.natAbs) (by have:=h.c; omega);have h2:=Adk a.Const f;simp only [G5];split <;> simp <;> omega
  | cons t l ih=>intro f b;have h1:=Aii f (b t ψ);have h2:=ih false λu hu=>b u (by simp [hu]);simp only [G5,List.length_append,List.length_cons]; omega
 have:=key a.Terms true h.t;have:=h.n;unfold Y5; omega
structure CMo (m:Ba):Prop where
 sz:D9 m
 nf:m.Factors.length<=6
 na:m.Atoms.length<=6
 al:∀a∈m.Atoms,C2 a.Lin=true/\a.Lin.Terms≠[]/\1<=a.Deg/\a.Deg<=6
theorem Adn {R:Type} {a:A7} (K:ByteArray->Option R) (h:C2 a.Lin=true/\a.Lin.Terms≠[]/\1<=a.Deg/\a.Deg<=6) : ((Hv a.Deg).bind λu=>(Fg (ByteArray.mk #[97]) u).bind λv=>(Fg v (ByteArray.mk #[58])).bind λw=>(N9 a.Lin).bind λx=>(Fg w x).bind λy=>K y)=K (bs (G0 a)):=by have h1:=Mo (n:=a.Deg) (by unfold I64; omega);have h2:=Aqm (Aih h.1);rw [Hv,Adi (by unfold I64; omega),Ad,c97,S8 (by simp; omega),Ad,c58,S8 (by simp; omega),Ad,A1o h.1 h.2.1,Ad,S8 (by simp; omega),Ad];simp [G0]
theorem Y7 {a:A7} (h:C2 a.Lin=true/\a.Lin.Terms≠[]/\1<=a.Deg/\a.Deg<=6):(G0 a).length<=1100:=by have h1:=Mo (n:=a.Deg) (by unfold I64; omega);have h2:=Aqm (Aih h.1);simp [G0]; omega
theorem Aim {f:B7} (h:Dy f.Index<=1048576) (b:iR f.Index/\I64 f.Var):(Ga f).length<=33554432:=by have h1:=Mo b.2;have h2:=Ahv f.Index b.1;simp [Ga,Jb]; omega
theorem A1p {m:Ba} (h:CMo m):Xc m=some (Ki m):=by
 obtain ⟨fs,c⟩:=m;have q:∀f∈fs,Dy f.Index<=1048576/\iR f.Index/\I64 f.Var:=λf i=>⟨h.sz.fi f i,h.sz.fr f i⟩;have u:∀a∈c,C2 a.Lin=true/\a.Lin.Terms≠[]/\1<=a.Deg/\a.Deg<=6:=h.al;have nf:fs.length<=6:=h.nf;have na:c.length<=6:=h.na;have A:=λ(l:List B7) (x:∀f∈l,f∈fs) (j:Nat)=>Ail (g:=Ga) (n:=33554432) l j (λf i=>Aim (q f (x f i)).1 (q f (x f i)).2);have D:=λ(l:List A7) (x:∀a∈l,a∈c) (j:Nat)=>Ail (g:=G0) (n:=1100) l j (λa ha=>Y7 (u a (x a ha)));have M:∀l:List B7,By (l.flatMap Ga):=λl=>By.flat By.fac l;have G:∀l:List A7,By (l.flatMap G0):=λl=>By.flat By.at l;have key:∀f:B7,f∈fs->Kw f.Var f.Index=some (bs (Ga f)):=λf i=>Ao7 f.Var f.Index (q f i).2.2 (q f i).2.1 (q f i).1;unfold Xc Ki Y6;cases fs with
 | nil=>
  rw [An ψ,cond_false];cases c with
  | nil=>rw [An ψ,cond_false];rw [A1j By.nil]; rfl
  | cons a c=>
   have ha:=u a ψ;have y:=Y7 ha;rw [Aj (by simp only [List.length_cons]; omega),cond_true,show Ae (a::c) 0=some a from rfl,Ad];refine (Adn _ ha).trans ?_;rw [Vx (By.at a) (by simp; omega),Ad];refine Adj a c (λj=>(((j+1:Nat):Int),[]++G0 a++(c.take j).flatMap G0)) (by simp [Aa,Bm]) (by simp at na; omega) ?_ ?_
   .intro j b hb h1 h2 h3;have k:=u b (by simp [Cd hb]);have:=Y7 k;have:=D c (λb hb=>by simp [hb]) j;simp at na;simp only [h1,h2,h3,cond_true,Ad];refine (Adn _ k).trans ?_;rw [Mr (By.at b) (by simp only [List.length_append,List.length_nil]; omega),Ad,Adm hb];simp
   .intro h1;refine ⟨[]++G0 a++c.flatMap G0,by simp only [h1,cond_false,List.take_length],?_⟩;dsimp only;rw [Vy ((By.nil.app (By.at a)).app (G c))];simp
 | cons f fs=>
  have i:=q f ψ;have L:=Aim i.1 i.2;rw [Aj (by simp only [List.length_cons]; omega),cond_true,show Ae (f::fs) 0=some f from rfl,Ad,key f ψ,Ad,Vx (By.fac f) (by simp; omega),Ad];refine Adj f fs (λj=>(((j+1:Nat):Int),[]++Ga f++(fs.take j).flatMap Ga)) (by simp [Aa,Bm]) (by simp at nf; omega) ?_ ?_
  .intro j g E h1 h2 h3;have s:g∈f::fs:=(by simp [Cd E]);have:=Aim (q g s).1 (q g s).2;have:=A fs (λb hb=>by simp [hb]) j;simp at nf;simp only [h1,h2,h3,cond_true,Ad];rw [key g s,Ad,Mr (By.fac g) (by simp only [List.length_append,List.length_nil]; omega),Ad,Adm E];simp
  .intro h1;have I:=A fs (λb hb=>by simp [hb]) fs.length;rw [List.take_length] at I;simp at nf;refine ⟨[]++Ga f++fs.flatMap Ga,by simp only [h1,cond_false,List.take_length],?_⟩;have z:By ([]++Ga f++fs.flatMap Ga):=(By.nil.app (By.fac f)).app (M fs);have J:([]++Ga f++fs.flatMap Ga).length<=234881024:=(by simp only [List.length_append,List.length_nil]; omega);have eB:(f::fs).flatMap Ga = []++Ga f++fs.flatMap Ga:=ψ;rw [eB];generalize []++Ga f++fs.flatMap Ga=B at z J;cases c with
   | nil=>rw [An ψ,cond_false,Vy z]; simp
   | cons a c=>
    have ha:=u a ψ;have y:=Y7 ha;rw [Aj (by simp only [List.length_cons]; omega),cond_true,show Ae (a::c) 0=some a from rfl,Ad];refine (Adn _ ha).trans ?_;rw [Mr (By.at a) ω,Ad];refine Adj a c (λj=>(((j+1:Nat):Int),B++G0 a++(c.take j).flatMap G0)) (by simp [Aa,Bm]) (by simp at na; omega) ?_ ?_
    .intro j b hb h1 h2 h3;have k:=u b (by simp [Cd hb]);have:=Y7 k;have:=D c (λb hb=>by simp [hb]) j;simp at na;simp only [h1,h2,h3,cond_true,Ad];refine (Adn _ k).trans ?_;rw [Mr (By.at b) (by simp only [List.length_append]; omega),Ad,Adm hb];simp
    .intro h1;refine ⟨B++G0 a++c.flatMap G0,by simp only [h1,cond_false,List.take_length],?_⟩;dsimp only;rw [Vy ((z.app (By.at a)).app (G c))];simp
end Go.Ab
namespace Go.Ab
open Go
def plc (ts:List Ah):List (ByteArray×Int):=ts.zipIdx.map λq=>(Ki q.1.Mono,(q.2:Int))
def Dst (ts:List Ah):Prop:=ts.Pairwise λt u=>t.Mono≠u.Mono
theorem A1q (ts:List Ah) (t:Ah):plc (ts++[t])=plc ts++[(Ki t.Mono,(ts.length:Int))]:=by unfold plc; simp [List.zipIdx_append]
theorem Y8 (ts:List Ah) (j:Nat):(plc ts)[j]? = (ts[j]?).map λt=>(Ki t.Mono,(j:Int)):=by unfold plc; simp [List.getElem?_map,List.getElem?_zipIdx];cases ts[j]? <;> rfl
theorem A1r {ts:List Ah} {j:Nat} {t u:Ah} (h:ts[j]? = some t) (hm:u.Mono=t.Mono):plc (ts.set j u)=plc ts:=by
 apply List.ext_getElem?;intro i;rw [Y8,Y8,List.getElem?_set];by_cases e:j=i
 .subst e;rw [if_pos rfl,if_pos (Dx h),h]; simp [hm]
 .rw [if_neg e]
theorem Aqn {α:Type}:∀(o:List (ByteArray×α)) (s:ByteArray) (v:α),Fd o s=false->Fp o s v=o++[(s,v)]
 | [],_,_,_=>rfl
 | p::o,s,v,h=>by simp only [Fd,List.any_cons,Bool.or_eq_false_iff] at h;simp only [Fp,h.1,cond_false,List.cons_append,List.cons.injEq,true_and];exact Aqn o s v h.2
theorem A1s {ts:List Ah} {m:Ba} (h:∀t∈ts,t.Mono≠m):Fd (plc ts) (Ki m)=false:=by unfold Fd;rw [List.any_eq_false];intro p hp;obtain ⟨j,hj⟩:=List.getElem?_of_mem hp;rw [Y8] at hj;cases ht:ts[j]? with| none=>rw [ht] at hj; cases hj| some t=>rw [ht] at hj;simp only [Option.map_some,Option.some.injEq] at hj;subst hj;intro e;have e:=(Sy _ _).1 e;exact h t (Cd ht) (Aqb e).symm
theorem A1t {ts:List Ah} (hd:Dst ts) {j:Nat} {t:Ah} (h:ts[j]? = some t):Fd (plc ts) (Ki t.Mono)=true/\Ht (plc ts) (Ki t.Mono) 0=(j:Int):=by
 have hp:(plc ts)[j]? = some (Ki t.Mono,(j:Int)):=by rw [Y8,h]; rfl
 refine ⟨List.any_eq_true.2 ⟨_,Cd hp,(Sy _ _).2 rfl⟩,?_⟩;unfold Ht;have b:(plc ts).find? (λp=>Ki t.Mono==p.1)=some (Ki t.Mono,(j:Int)):=by
  cases b:(plc ts).find? (λp=>Ki t.Mono==p.1) with
  | none=>have:=List.find?_eq_none.1 b _ (Cd hp);exact (this ((Sy _ _).2 rfl)).elim
  | some q=>
   have h1:=List.find?_some b;obtain ⟨i,hi⟩:=List.getElem?_of_mem (List.mem_of_find?_eq_some b);rw [Y8] at hi;cases hu:ts[i]? with
   | none=>rw [hu] at hi; cases hi
   | some u=>
    rw [hu] at hi;simp only [Option.map_some,Option.some.injEq] at hi;subst hi;have e:=Aqb ((Sy _ _).1 h1);have g:i=j:=by
     have f:=Dx hu;have c:=Dx h;rw [Bv f] at hu;rw [Bv c] at h;rcases Nat.lt_trichotomy i j with k | k | k
     .have:=List.pairwise_iff_getElem.1 hd i j f c k;rw [Option.some.inj hu,Option.some.inj h] at this;exact (this e.symm).elim
     .exact k
     .have:=List.pairwise_iff_getElem.1 hd j i c f k;rw [Option.some.inj hu,Option.some.inj h] at this;exact (this e).elim
    subst g;rw [e]
 rw [b]; rfl
open Classical in
theorem On (t:Ah) (p:List Ah) (m:Ba):cf (t::p) m=(if t.Mono=m then rq t.Coef else 0)+cf p m:=by
 simp only [cf];by_cases e:t.Mono=m
 .rw [if_pos (G4.2 e),if_pos e]
 .rw [if_neg (λh=>e (G4.1 h)),if_neg e]
open Classical in
theorem Ain:∀{ts:List Ah} {j:Nat} {t u:Ah},ts[j]? = some t->u.Mono=t.Mono->∀m,cf (ts.set j u) m=cf ts m+(if t.Mono=m then rq u.Coef-rq t.Coef else 0)
 | [],j,t,u,h,_,m=>by simp at h
 | s::ts,0,t,u,h,hm,m=>by simp only [List.getElem?_cons_zero,Option.some.injEq] at h;subst h;rw [List.set_cons_zero,On,On,hm];split <;> grind
 | s::ts,j+1,t,u,h,hm,m=>by simp only [List.getElem?_cons_succ] at h;rw [List.set_cons_succ,On,On,Ain h hm m];grind
theorem Dst.set {ts:List Ah} (h:Dst ts) {j:Nat} {t u:Ah} (ht:ts[j]? = some t) (hm:u.Mono=t.Mono):Dst (ts.set j u):=by
 have e:(ts.set j u).map (·.Mono)=ts.map (·.Mono):=by
  apply List.ext_getElem?;intro i;rw [List.getElem?_map,List.getElem?_map,List.getElem?_set];by_cases e:j=i
  .subst e; rw [if_pos rfl,if_pos (Dx ht),ht]; simp [hm]
  .rw [if_neg e]
 have k:∀l:List Ah,Dst l↔(l.map (·.Mono)).Pairwise (·≠·):=λl=>by rw [List.pairwise_map]; exact Iff.rfl
 rw [k,e,<-k]; exact h
structure Col (k:Nat) (P:Ba->Prop) (ts:List Ah):Prop where
 dst:Dst ts
 tb:∀t∈ts,RB k t.Coef
 mo:∀t∈ts,P t.Mono
theorem Col.nil (k:Nat) (P:Ba->Prop):Col k P []:=⟨List.Pairwise.nil,λ_ h=>(by cases h),λ_ h=>(by cases h)⟩
theorem Ado {k0 k:Nat} {P:Ba->Prop} (J:∀m,P m->CMo m) (l ts:List Ah) (B:Col k0 P ts) (I:∀t∈l,RB k t.Coef/\P t.Mono) (hk:k<=k0) (S:k0+l.length*(k+3)<34359738000) (R:ts.length+l.length<=1099511627776) : ∃f,Kt l (plc ts) ts=some (plc f,f)/\Col (k0+l.length*(k+3)) P f/\f.length<=ts.length+l.length/\∀m,cf f m=cf ts m+cf l m:=by
 unfold Kt;refine Ab5 (A:=List Ah) (λf=>(plc f,f)) ?_;refine Fe (λs=>∃(j:Nat) (u:List Ah),s=((j:Int),plc u,u)/\j<=l.length/\Col (k0+j*(k+3)) P u/\u.length<=ts.length+j/\∀m,cf u m=cf ts m+cf (l.take j) m) (λs=>l.length-s.1.toNat) (λz=>∃u,z=(plc u,u)/\Col (k0+l.length*(k+3)) P u/\u.length<=ts.length+l.length/\∀m,cf u m=cf ts m+cf l m) ⟨0,ts,rfl,ω,by simpa using B,ω,λm=>by simp only [List.take_zero,cf]; grind⟩ ?_ ?_
 .rintro _ ⟨j,u,rfl,hj,hu,y,q⟩;rcases Nat.lt_or_ge j l.length with h | h
  .have hx:l[j]? = some l[j]:=Bv h;generalize l[j]=x at hx;obtain ⟨hb,hm⟩:=I x (Cd hx);have E:j*(k+3)+(k+3)<=l.length*(k+3):=(by rw [<-Nat.succ_mul]; exact Nat.mul_le_mul_right _ h);have D:(j+1)*(k+3)=j*(k+3)+(k+3):=(by rw [Nat.succ_mul]);simp only [Aj (by omega:(j:Int)<(l.length:Int)),cond_true,Ce rfl hx,Ad,A1p (J _ hm),C6 h ω];left;by_cases hex:∃t∈u,t.Mono=x.Mono
   .obtain ⟨t,ht,G⟩:=hex;obtain ⟨i,hi⟩:=List.getElem?_of_mem ht;obtain ⟨g1,g2⟩:=A1t hu.dst hi;rw [G] at g1 g2;obtain ⟨c,N,_,M,U,L⟩:=Apt (hu.tb t ht) hb ω ω;refine ⟨((j+1:Nat),plc (u.set i ⟨c,t.Mono⟩),u.set i ⟨c,t.Mono⟩),?_,⟨j+1,u.set i ⟨c,t.Mono⟩,rfl,ω,⟨hu.dst.set hi rfl,?_,?_⟩,by rw [List.length_set]; omega,λm=>?_⟩,by simp; omega⟩
    .simp only [g1,g2,cond_true,Ad,Ce rfl hi,N,Fh rfl,A1r (u:=⟨c,t.Mono⟩) hi rfl]
    .intro w hw;rcases List.mem_or_eq_of_mem_set hw with hw | rfl
     .exact (hu.tb w hw).mono ω
     .exact M.mono ω
    .intro w hw;rcases List.mem_or_eq_of_mem_set hw with hw | rfl
     .exact hu.mo w hw
     .exact hu.mo t ht
    .rw [Ain (u:=⟨c,t.Mono⟩) hi rfl m,q m,C8 hx,Mq,On];simp only [L,G,cf];split <;> grind
   .have g:=A1s (m:=x.Mono) (ts:=u) λt ht e=>hex ⟨t,ht,e⟩;refine ⟨((j+1:Nat),plc (u++[x]),u++[x]),?_,⟨j+1,u++[x],rfl,ω,⟨?_,?_,?_⟩,by simp; omega,λm=>?_⟩,by simp; omega⟩
    .simp only [g,cond_false,Ad];rw [C3 (by simp; omega),Ad,Aqn _ _ _ g,A1q]
    .refine List.pairwise_append.2 ⟨hu.dst,List.pairwise_singleton _ _,λa ha b hb=>?_⟩;simp only [List.mem_singleton] at hb;subst hb;exact λe=>hex ⟨a,ha,e⟩
    .intro w hw;rcases List.mem_append.1 hw with hw | hw
     .exact (hu.tb w hw).mono ω
     .simp only [List.mem_singleton] at hw;subst hw;exact hb.mono ω
    .intro w hw;rcases List.mem_append.1 hw with hw | hw
     .exact hu.mo w hw
     .simp only [List.mem_singleton] at hw;subst hw;exact hm
    .rw [Mq,q m,C8 hx,Mq]; grind
  .have:j=l.length:=ω;subst this;rw [List.take_length] at q;simp only [An (by omega:¬(l.length:Int)<(l.length:Int)),cond_false];exact .inr ⟨_,rfl,u,rfl,hu,y,q⟩
 .rintro _ ⟨u,rfl,h1,h2,h3⟩;exact ⟨_,rfl,u,rfl,h1,h2,h3⟩
end Go.Ab
namespace Go.Ab
open Go
theorem Aio (t u:Ah) (h:D9 t.Mono):N6 t u=some (C4 t.Mono u.Mono):=by unfold N6;rw [Apc _ _ h]; rfl
theorem A1u {α:Type} (A R:List α) (x y:α):((A++y::x::R).set (A.length+1) y).set A.length x=A++x::y::R:=by induction A with| nil=>rfl| cons a A ih=>simp only [List.cons_append,List.length_cons,List.set_cons_succ,ih]
theorem Aqo {α:Type} (A R:List α) (x:α):(A++x::R)[A.length]? = some x:=ψ
theorem A1v {α:Type} (A R:List α) (x y:α):(A++y::x::R)[A.length+1]? = some x:=by induction A with| nil=>rfl| cons a A ih=>simp
theorem A1w {step:Int×List Ah->Option ((Int×List Ah)⊕(Int×List Ah))} (N:Nat) (E:N<4611686018427387904) (b:∀(x:Ah) (R:List Ah),step (0,x::R)=some (.inr (0,x::R))) (k:∀(A R:List Ah) (x y:Ah),(∀t∈A++y::x::R,D9 t.Mono)->(A++y::x::R).length<=N->step (((A.length+1:Nat):Int),A++y::x::R) = if C4 x.Mono y.Mono<0 then some (.inl ((A.length:Int),A++x::y::R)) else some (.inr (((A.length+1:Nat):Int),A++y::x::R))) : ∀(n:Nat) (A R:List Ah) (x:Ah),A.length=n->(∀t∈A++x::R,D9 t.Mono)->(A++x::R).length<=N -> ∃f i,Al step ((A.length:Int),A++x::R)=some ((f.length:Int),f++x::(i++R))/\A=f++i/\(∀a∈i,ltT x a)/\∀l y,f=l++[y]->¬ltT x y:=by
 intro n;induction n with
 | zero=>intro A R x g _ _;have:A = []:=List.length_eq_zero_iff.1 g;subst this;exact ⟨[],[],Cz (b x R),rfl,(λ_ h=>by cases h),(λl y h=>by simp at h)⟩
 | succ n ih=>
  intro A R x g hm c;obtain ⟨B,y,rfl⟩:∃B y,A=B++[y]:=by
   rcases List.eq_nil_or_concat A with h | ⟨B,y,h⟩
   .rw [h] at g; cases g
   .exact ⟨B,y,by simpa using h⟩
  have s:B.length=n:=(by simpa using g);have D:(B++[y])++x::R=B++y::x::R:=ψ;have el:(((B++[y]).length:Nat):Int)=((B.length+1:Nat):Int):=ψ;rw [D] at hm c ⊢;rw [el];have j:=k B R x y hm c;by_cases hc:C4 x.Mono y.Mono<0
  .rw [if_pos hc] at j;obtain ⟨f,i,h1,h2,h3,u⟩:=ih B (y::R) x s (by intro t ht;refine hm t ?_;simp only [List.mem_append,List.mem_cons] at ht ⊢;rcases ht with h | h | h | h <;> simp [h]) (by simpa using c);refine ⟨f,i++[y],?_,by rw [h2]; simp,?_,u⟩
   .rw [Ft j,h1]; simp
   .intro a ha;rcases List.mem_append.1 ha with ha | ha
    .exact h3 a ha
    .simp only [List.mem_singleton] at ha;subst ha; exact hc
  .rw [if_neg hc] at j;refine ⟨B++[y],[],?_,ψ,(λ_ h=>by cases h),?_⟩
   .rw [Cz j]; simp
   .intro l z q;have:=List.append_inj' q rfl;have e:y=z:=(by simpa using this.2);subst e; exact hc
theorem A1x {a b c:Ah} (h:ltT a b) (h':ltT b c):ltT a c:=Qj h h'
theorem A1y {c j:List Ah} {x:Ah} (u:(c++j).Pairwise ltT) (h2:∀a∈j,ltT x a) (h1:∀g y,c=g++[y]->¬ltT x y) (hd:∀a∈c,a.Mono≠x.Mono):(c++x::j).Pairwise ltT:=by
 obtain ⟨i,s,l⟩:=List.pairwise_append.1 u;have hx:∀a∈c,ltT a x:=by
  intro a ha;rcases List.eq_nil_or_concat c with h | ⟨g,y,h⟩
  .rw [h] at ha; cases ha
  .have h:c=g++[y]:=(by simpa using h);have f:ltT y x:=by
    have q:=h1 g y h;have z:=hd y (by rw [h]; simp);unfold ltT at *;rcases Int.lt_trichotomy (C4 x.Mono y.Mono) 0 with k | k | k
    .exact (q k).elim
    .exact (z (G4.1 k).symm).elim
    .exact Ah9.1 k
   rw [h] at ha i;rcases List.mem_append.1 ha with ha | ha
   .exact A1x ((List.pairwise_append.1 i).2.2 a ha y ψ) f
   .simp only [List.mem_singleton] at ha;subst ha; exact f
 refine List.pairwise_append.2 ⟨i,List.pairwise_cons.2 ⟨h2,s⟩,λa ha b hb=>?_⟩;rcases List.mem_cons.1 hb with rfl | hb
 .exact hx a ha
 .exact l a ha b hb
noncomputable def Y9:Int×List Ah->Option ((Int×List Ah)⊕(Int×List Ah)):=λ(v31,b)=> (show OB from bif v31>(0:Int) then ((Ae b v31).bind λv33=> (Ae b (Aa (v31-1))).bind λg=> (N6 v33 g).bind λv35=> some (decide (v35<(0:Int)))) else some false).bind λf=>
 bif f then ((Ae b (Aa (v31-1))).bind λv37=> (Ae b v31).bind λc=> (Ae b v31).bind λv39=> (Ae (B9 b v31 v37) (Aa (v31-1))).bind λv40=> some (.inl ((Aa (v31-1)),(B9 (B9 b v31 v37) (Aa (v31-1)) c)))) else some (.inr (v31,b))
theorem A1z (y:Ah) (R:List Ah):Y9 (0,y::R)=some (.inr (0,y::R)):=by unfold Y9;simp only [An (by omega:¬(0:Int)>0),cond_false,Ad]
theorem A10 {N:Nat} (h:N<=1099511627776) (A R:List Ah) (u y:Ah) (b:∀t∈A++y::u::R,D9 t.Mono) (c:(A++y::u::R).length<=N):Y9 (((A.length+1:Nat):Int),A++y::u::R) = if C4 u.Mono y.Mono<0 then some (.inl ((A.length:Int),A++u::y::R)) else some (.inr (((A.length+1:Nat):Int),A++y::u::R)):=by
 have g:A.length+1<N:=by simp at c; omega
 have f:Aa (((A.length+1:Nat):Int)-1)=(A.length:Int):=by rw [Aa,Bm] <;> omega
 unfold Y9;simp only [Aj (by omega:((A.length+1:Nat):Int)>0),cond_true,f,Ce (n:=A.length+1) rfl (A1v A R u y),Ce (n:=A.length) rfl (Aqo A (u::R) y),Ad,Aio u y (b u ψ)];by_cases hc:C4 u.Mono y.Mono<0
 .rw [Aj hc,if_pos hc];simp only [cond_true];rw [Fh (n:=A.length+1) rfl,Fh (n:=A.length) rfl,A1u];have:Ae ((A++y::u::R).set (A.length+1) y) (A.length:Int)=some y:=(by refine Ce rfl ?_;rw [List.getElem?_set_ne ω]; exact Aqo A (u::R) y);rw [this]; rfl
 .rw [An hc,if_neg hc]; rfl
theorem A11 (b:List Ah) (hd:Dst b) (hm:∀t∈b,D9 t.Mono) (L:b.length<=1099511627776) : ∃R,X0 0 (b.length:Int) b=some R/\R.Perm b/\R.Pairwise ltT:=by
 unfold X0;cases b with
 | nil=>refine ⟨[],?_,List.Perm.refl _,List.Pairwise.nil⟩;refine Ie 0 (λ_=>((1:Int),([]:List Ah))) (by simp [Aa,Bm]) (λj hj=>ω) ⟨[],?_,rfl⟩;simp
 | cons z0 A=>
 generalize f:z0::A=b at *;have hpos:1<=b.length:=by rw [<-f]; simp
 refine Fe (λs=>∃(i:Nat) (S:List Ah),s=((i:Int),S++b.drop i)/\1<=i/\i<=b.length/\S.length=i/\S.Perm (b.take i)/\S.Pairwise ltT) (λs=>b.length-s.1.toNat) (λR=>R.Perm b/\R.Pairwise ltT) ⟨1,[z0],by rw [<-f]; simp [Aa,Bm],ω,hpos,rfl,by rw [<-f]; simp,List.pairwise_singleton _ _⟩ ?_ ?_
 .rintro _ ⟨i,S,rfl,I,hi,G,c,k⟩;rcases Nat.lt_or_ge i b.length with h | h
  .have hx:b[i]? = some b[i]:=Bv h;generalize b[i]=x at hx;have g:b.drop i=x::b.drop (i+1):=Ij hx;have z:(S++x::b.drop (i+1)).length=b.length:=(by simp; omega);have y:∀t∈S++x::b.drop (i+1),t∈b:=by
    intro t ht;rcases List.mem_append.1 ht with ht | ht
    .exact List.mem_of_mem_take (c.mem_iff.1 ht)
    .rw [<-g] at ht; exact List.mem_of_mem_drop ht
   simp only [Aj (by omega:(i:Int)<(b.length:Int)),cond_true,C6 h ω];rw [g];left;obtain ⟨q,l,h1,h2,h3,J⟩:=A1w (step:=Y9) b.length ω A1z (A10 ω) S.length S (b.drop (i+1)) x rfl (λt ht=>hm t (y t ht)) (by rw [z]; exact Nat.le_refl _);rw [G] at h1;have hp:(q++x::l).Perm (b.take (i+1)):=(by rw [C8 hx];have:(q++x::l).Perm ((q++l)++[x]):=(by rw [List.append_assoc];exact List.Perm.append_left q (List.perm_append_singleton x l).symm);exact this.trans (by rw [<-h2]; exact c.append_right [x]));refine ⟨(((i+1:Nat):Int),(q++x::l)++b.drop (i+1)),Dl h1 ψ,⟨i+1,q++x::l,rfl,ω,ω,?_,hp,?_⟩,by simp; omega⟩
   .rw [hp.length_eq,List.length_take]; omega
   .rw [h2] at k;refine A1y k h3 J λa ha=>?_;have E:a∈b.take i:=c.mem_iff.1 (by rw [h2]; simp [ha]);have B:x∈b.drop i:=(by rw [g]; simp);have D:(b.take i++b.drop i).Pairwise λt u=>t.Mono≠u.Mono:=(by rw [List.take_append_drop]; exact hd);exact (List.pairwise_append.1 D).2.2 a E x B
  .have:i=b.length:=ω;subst this;rw [List.take_length] at c;simp only [An (by omega:¬(b.length:Int)<(b.length:Int)),cond_false,List.drop_length,List.append_nil];exact .inr ⟨S,rfl,c,k⟩
 .rintro R ⟨h1,h2⟩;exact ⟨R,rfl,h1,h2⟩
theorem Oo {α:Type} {n:Nat} {l:List α} (h:n=l.length):Gd n l=some ():=by unfold Gd; rw [if_pos h]
theorem A12 {s:ByteArray} {i:Int} (h0:0<=i) (h:i.toNat<s.size):∃c,Fc s i=some c:=by unfold Fc;rw [if_pos h0];exact ⟨_,getElem?_pos s i.toNat h⟩
set_option maxRecDepth 20000 in
theorem Aqp {n:Nat} (h:n<256):∃v,Uv (Az (n:Int))=some v:=by
 unfold Uv Abf;rw [Az,C7 ω ω,An ω];simp only [cond_false,Ad];rw [An ω];simp only [cond_false,Ad];rw [An ω];simp only [cond_false,Ad];have b:wu8 (n:Int)=(n:Int):=by rw [wu8]; unfold IntKind.wrap; simp [IntKind.bits,IntKind.signed]; omega
 rw [b];generalize g:ByteArray.mk _=T;have f:T.size=256:=by rw [<-g]; rfl
 obtain ⟨c,hc⟩:=A12 (s:=T) (i:=(n:Int)) ω (by rw [f]; simpa using h);rw [hc];exact ⟨_,rfl⟩
theorem A13 (b:List Ah) (hd:Dst b) (hm:∀t∈b,D9 t.Mono) (f:b.length<=12):∃R,N5 b=some R/\R.Perm b/\R.Pairwise ltT:=by
 obtain ⟨R,h1,h2,h3⟩:=A11 b hd hm ω;obtain ⟨v,c⟩:=Aqp (n:=b.length) ω;refine ⟨R,?_,h2,h3⟩;unfold N5;rw [Nat.ble_eq_true_of_le f,cond_true];unfold Agj;rw [c,Ad];have hp:Xp 0 (b.length:Int) v b=some R:=by unfold Xp;refine Dl (a:=R) (Cz ?_) rfl;have w:Aa ((b.length:Int)-0)=(b.length:Int):=(by rw [Aa,Bm] <;> omega);simp only [w,Aj (by omega:(b.length:Int)<=12),cond_true,h1,Ad,Oo h2.length_eq.symm]
 rw [hp,Ad,Oo h2.length_eq.symm]; rfl
def clT (t:Ah):Ah:=⟨A9 (sv t.Coef) (nv t.Coef) (dv t.Coef),t.Mono⟩
theorem A14 {k:Nat} (p:List Ah) (hk:k<34359738000) (hp:∀t∈p,RB k t.Coef/\D9 t.Mono) (b:p.length<=1048576):Xd p=some (p.map clT):=by
 unfold Xd;refine Gf p (λj=>((j:Int),(p.take j).map clT)) rfl ω ?_ ?_
 .intro j x hj hx h1 h2 h3;obtain ⟨a1,a2⟩:=hp x (Cd hx);simp only [h1,h2,h3,cond_true,Ad,Aci x.Coef k a1 ω,A1e x.Mono a2];rw [C3 (by simp; omega),Ad,C8 hx];simp [clT]
 .intro h1;exact ⟨p.map clT,ψ,rfl⟩
theorem A15 (p:List Ah) (m:Ba):cf (p.map clT) m=cf p m:=by induction p with| nil=>rfl| cons t p ih=>simp only [List.map_cons,cf,ih,clT];rw [Lr _ _ _ (Es _)]; rfl
theorem A16 {p q:List Ah} (h:p.Perm q) (m:Ba):cf p m=cf q m:=by induction h with| nil=>rfl| cons x _ ih=>simp only [cf,ih]| swap x y l=>simp only [cf]; grind| trans _ _ h1 h2=>rw [h1,h2]
def nzT (t:Ah):Bool:=decide (rq t.Coef≠0)
theorem A17 (p:List Ah) (m:Ba):cf (p.filter nzT) m=cf p m:=by
 induction p with
 | nil=>rfl
 | cons t p ih=>
  by_cases h:rq t.Coef=0
  .rw [List.filter_cons_of_neg (by simp [nzT,h]),ih]; simp only [cf,h]; grind
  .rw [List.filter_cons_of_pos (by simp [nzT,h])]; simp only [cf,ih]
theorem A18 (x:Rat):(Kh x != (0:Int))=decide (x≠0):=by
 unfold Kh;by_cases h1:x<0
 .rw [if_pos h1];have:x≠0:=(by intro e; subst e; exact absurd h1 δ);simp [this]
 .rw [if_neg h1];by_cases h2:0<x
  .rw [if_pos h2];have:x≠0:=(by intro e; subst e; exact absurd h2 δ);simp [this]
  .rw [if_neg h2];have:x=0:=Rat.le_antisymm (Rat.not_lt.1 h2) (Rat.not_lt.1 h1);simp [this]
theorem A19 {α:Type} {f:α->Bool} {l:List α} {j:Nat} {x:α} (h:l[j]? = some x):(l.take (j+1)).filter f=(l.take j).filter f++(if f x then [x] else []):=by rw [C8 h,List.filter_append]; congr 1; cases k:f x <;> simp [List.filter,k]
theorem Aip {k:Nat} {P:Ba->Prop} (q:∀m,P m->CMo m) (o:List (ByteArray×Int)) (ts:List Ah) (h:Col k P ts) (hk:k<34359738000) (A:ts.length<=1000) (z:∀c:List Ah,c.length<=ts.length->Dst c->(∀t∈c,D9 t.Mono)->∃R,N5 c=some R/\R.Perm c/\R.Pairwise ltT) : ∃R,Ku o ts=some (R,0)/\CP R/\(∀m,cf R m=cf ts m)/\(∀t∈R,P t.Mono/\RB (k+1) t.Coef)/\R.length<=ts.length:=by
 unfold Ku;have g:(ts.filter nzT).length<=ts.length:=List.length_filter_le _ _;obtain ⟨S,y,f,s⟩:=z (ts.filter nzT) g (List.Pairwise.filter _ h.dst) (λt ht=>(q _ (h.mo t (List.mem_filter.1 ht).1)).sz);have b:∀t∈S,t∈ts/\rq t.Coef≠0:=by intro t ht;have:=List.mem_filter.1 (f.mem_iff.1 ht);exact ⟨this.1,by simpa [nzT] using this.2⟩
 refine ⟨S.map clT,?_,⟨?_,?_⟩,?_,?_,?_⟩
 .refine Gf ts (λj=>((j:Int),(ts.take j).filter nzT)) rfl ω ?_ ?_
  .intro j x hj hx h1 h2 h3;have hb:=h.tb x (Cd hx);have l:((ts.take j).filter nzT).length<=ts.length:=Nat.le_trans (List.length_filter_le _ _) (by rw [List.length_take]; omega);simp only [h1,h2,h3,cond_true,Ad,(S5 hb hk).1,A18];rw [A19 hx];by_cases i:rq x.Coef=0
   .have:nzT x=false:=(by simp [nzT,i]);rw [An (by simpa using i),this]; simp
   .have:nzT x=true:=(by simp [nzT,i]);rw [Aj i,this];simp only [cond_true];rw [C3 (by simp; omega)]; simp
  .intro h1;refine ⟨ts.filter nzT,by simp only [h1,cond_false,List.take_length],?_⟩;rw [An ω];simp only [cond_false];rw [y,Ad,Oo f.length_eq.symm,Ad, A14 (k:=k) S hk (λt ht=>⟨h.tb t (b t ht).1,(q _ (h.mo t (b t ht).1)).sz⟩) (by rw [f.length_eq]; omega)]; rfl
 .rw [List.pairwise_map]; exact s
 .intro t ht;obtain ⟨u,hu,rfl⟩:=List.mem_map.1 ht;refine ⟨Qi _ _ _ (Es _),?_⟩;show rq (A9 _ _ _)≠0;rw [Lr _ _ _ (Es _)]; exact (b u hu).2
 .intro m;rw [A15,A16 f,A17]
 .intro t ht;obtain ⟨u,hu,rfl⟩:=List.mem_map.1 ht;exact ⟨h.mo u (b u hu).1,Anx (h.tb u (b u hu).1)⟩
 .rw [List.length_map,f.length_eq]; exact g
end Go.Ab
namespace Go.Ab
open Go
theorem Aqq (x:Bk) (g:CSz x) (ps:List (List Ah)) (B:∀p∈ps,∀t∈p,TSz t) (S:ps.length<=1048576) : ∃r,Lh x ps=some r/\(((F0 x/\∀p∈ps,I2 x.Data x.Vars x.Res p=true)/\∃A,r = .inl (true,x,A,[],x.Data,x.Vars,x.Res.Kind,x.Res.Num,x.Res.Args)/\F6 x.Data x.Vars x.Res A) \/ ((¬(F0 x/\∀p∈ps,I2 x.Data x.Vars x.Res p=true))/\r = .inr false)):=by
 obtain ⟨b,b1,b2⟩:=Aon g.ds;have M:=g.nv;have L:=g.rs;unfold Lh;rw [b1,Yu x.Data x.Res 0 ω];by_cases l:x.Vars.length<=3000
 .rw [An ω];simp only [cond_false,Ad];cases b with
  | false=>exact ⟨_,rfl,.inr ⟨λh=>(by have:=b2.2 h.1.2.1; cases this),rfl⟩⟩
  | true=>
   have J:=b2.1 rfl;simp only [Dk,cond_false];cases E:(Fv x.Data 0 x.Res&&decide (Bo x.Res<=200)) with
   | false=>exact ⟨_,rfl,.inr ⟨λh=>(by have:=h.1.2.2.1; rw [show Il x.Data x.Res=false from E] at this; cases this),rfl⟩⟩
   | true=>
    simp only [Dk,cond_false,Ad];refine Fe (λi=>∃j:Nat,i=j/\j<=x.Vars.length/\(x.Vars.take j).all (Il x.Data)=true) (λi=>x.Vars.length-i.toNat) (λz=>match z with | .inl r=>r=false/\¬F0 x | .inr _=>F0 x) ⟨0,rfl,ω,ψ⟩ ?_ ?_
    .rintro i ⟨j,rfl,hj,c⟩;rcases Nat.lt_or_ge j x.Vars.length with h | h
     .have ht:x.Vars[j]? = some x.Vars[j]:=Bv h;generalize x.Vars[j]=t at ht;have:=g.vs t (Cd ht);simp only [Aj (by omega:(j:Int)<(x.Vars.length:Int)),cond_true,Ce rfl ht,Ad,Yu x.Data t 0 ω,C6 h ω];rw [show (Fv x.Data 0 t&&decide (Bo t<=200))=Il x.Data t from rfl];cases G:Il x.Data t with| true=>exact .inl ⟨_,rfl,⟨j+1,rfl,ω,by rw [C8 ht,List.all_append,c]; simp [G]⟩,by simp; omega⟩| false=>refine .inr ⟨.inl false,rfl,rfl,λD=>?_⟩;have:=List.all_eq_true.1 D.2.2.2 t (Cd ht);rw [G] at this; cases this
     .have:j=x.Vars.length:=ω;subst this;rw [List.take_length] at c;exact .inr ⟨.inr (),ψ,l,J,E,c⟩
    .rintro (r | u) f
     .obtain ⟨rfl,f⟩:=f;exact ⟨_,rfl,.inr ⟨λh=>f h.1,rfl⟩⟩
     .have I:F0 x:=f;simp only;refine Fe (λs=>∃(j:Nat) (o:List (ByteArray×Int)),s=((j:Int),o)/\j<=ps.length/\F6 x.Data x.Vars x.Res o/\∀p∈ps.take j,I2 x.Data x.Vars x.Res p=true) (λs=>ps.length-s.1.toNat) (λz=>match z with | .inl r=>r=false/\¬(∀p∈ps,I2 x.Data x.Vars x.Res p=true) | .inr o=>F6 x.Data x.Vars x.Res o/\∀p∈ps,I2 x.Data x.Vars x.Res p=true) ⟨0,[],rfl,ω,(λq h=>by cases h),(λq h=>by simp at h)⟩ ?_ ?_
      .rintro _ ⟨j,o,rfl,hj,hm,c⟩;rcases Nat.lt_or_ge j ps.length with h | h
       .have ht:ps[j]? = some ps[j]:=Bv h;generalize ps[j]=p at ht;have k:=Cd ht;obtain ⟨A,R,N⟩:=App (I.ctx g) [] hm p (B p k);simp only [Aj (by omega:(j:Int)<(ps.length:Int)),cond_true,Ce rfl ht,Ad,R,C6 h ω];cases y:I2 x.Data x.Vars x.Res p with
        | true=>
         refine .inl ⟨_,rfl,⟨j+1,A,rfl,ω,N,λq hq=>?_⟩,by simp; omega⟩;rw [C8 ht] at hq;rcases List.mem_append.1 hq with hq | hq
         .exact c q hq
         .simp only [List.mem_singleton] at hq;subst hq; exact y
        | false=>refine .inr ⟨.inl false,rfl,rfl,λD=>?_⟩;have:=D p k;rw [y] at this; cases this
       .have:j=ps.length:=ω;subst this;rw [List.take_length] at c;exact .inr ⟨.inr o,ψ,hm,c⟩
      .rintro (r | o) hw
       .obtain ⟨rfl,hw⟩:=hw;exact ⟨_,rfl,.inr ⟨λh=>hw h.2,rfl⟩⟩
       .exact ⟨_,rfl,.inl ⟨⟨I,hw.2⟩,o,rfl,hw.1⟩⟩
 .rw [Aj ω];exact ⟨_,rfl,.inr ⟨λh=>l h.1.1,rfl⟩⟩
theorem A2a {data:List A3} {vars:List Ai} {res:Ai} {m:Ba} (h:Hh data vars res m=true) (q:D9 m):CMo m:=by
 have c:=(A0z h).2;unfold Hh at h;simp only [Dj,decide_eq_true_eq] at h;obtain ⟨⟨h1,h2⟩,h3⟩:=h;have b:∀f∈m.Factors,0<=Ff data vars res f:=by intro f c;obtain ⟨j,hj⟩:=List.getElem?_of_mem c;have:=Hm h1 hj;simp only [Nn,Dj,decide_eq_true_eq] at this;omega
 have ha:∀a∈m.Atoms,1<=a.Deg/\C2 a.Lin=true/\a.Lin.Terms≠[]:=by intro a ha;obtain ⟨j,hj⟩:=List.getElem?_of_mem ha;have:=Hm h2 hj;simp only [Ik,Dj,decide_eq_true_eq] at this;refine ⟨this.1.1.1.1,this.1.1.1.2,λe=>?_⟩;have k:=this.1.1.2;rw [e] at k; simp at k
 obtain ⟨a1,a2,a3⟩:=Y2 m.Atoms λa h=>by have:=(ha a h).1; omega
 have f1:=Apl m.Factors b;have al:(m.Atoms.length:Int)<=Cb m.Atoms:=by have key:∀l:List A7,(∀a∈l,1<=a.Deg)->(l.length:Int)<=Cb l:=(by intro l;induction l with| nil=>intro _; simp [Cb]| cons f fs ih=>intro i;have h1:=i f ψ;have h2:=ih (λg s=>i g (by simp [s]));unfold Cb at *;simp only [List.map_cons,List.sum_cons,List.length_cons]; omega);exact key _ λa h=>(ha a h).1
 exact ⟨q,c,ω,λa h=>⟨(ha a h).2.1,(ha a h).2.2,(ha a h).1,by have:=a3 a h; omega⟩⟩
def G6 (x:Bk) (m:Ba):Prop:=Hh x.Data x.Vars x.Res m=true/\D9 m
theorem G6.cmo {x:Bk} {m:Ba} (h:G6 x m):CMo m:=A2a h.1 h.2
structure Gr (x:Bk) (p:List Ah):Prop where
 can:I2 x.Data x.Vars x.Res p=true
 sz:∀t∈p,TSz t
theorem Gr.cp {x:Bk} {p:List Ah} (h:Gr x p):CP p:=(Ade.1 h.can).2.1
theorem Gr.mo {x:Bk} {p:List Ah} (h:Gr x p):∀t∈p,G6 x t.Mono:=λt ht=>⟨(Ade.1 h.can).2.2 t ht,(h.sz t ht).mo⟩
theorem Gr.of {x:Bk} {p:List Ah} (hc:CP p) (hm:∀t∈p,G6 x t.Mono) (b:∀t∈p,RB 1048576 t.Coef) (c:p.length<=1000):Gr x p := ⟨Ade.2 ⟨c,hc,λt ht=>(hm t ht).1⟩,λt ht=>⟨b t ht,(hm t ht).2⟩⟩
theorem Gr.tb {x:Bk} {p:List Ah} (h:Gr x p):∀t∈p,RB 1048576 t.Coef/\G6 x t.Mono:=λt ht=>⟨(h.sz t ht).co,h.mo t ht⟩
theorem Aqr {x:Bk} (i:CSz x) (k:F0 x) {p q:List Ah} (hp:Gr x p) (hq:Gr x q):∃f,Lh x [p,q]=some (.inl (true,x,f,[],x.Data,x.Vars,x.Res.Kind,x.Res.Num,x.Res.Args)):=by
 have b:∀r∈[p,q],Gr x r:=by intro r c;simp only [List.mem_cons,List.not_mem_nil,or_false] at c;rcases c with rfl | rfl <;> assumption
 obtain ⟨r,h,g⟩:=Aqq x i [p,q] (λr c=>(b r c).sz) ψ;rcases g with ⟨_,f,e,_⟩ | ⟨j,_⟩
 .exact ⟨f,by rw [h,e]⟩
 .exact (j ⟨k,λr c=>(b r c).can⟩).elim
theorem A2b {r:Ar} {j k:Nat} (q:List Ah) (y:RB j r) (hq:∀t∈q,RB k t.Coef) (hj:j<34359738000) (hk:k<34359738000) (D:q.length<=1048576) : ∃x,W7 q r=some x/\x.length=q.length/\(∀m,cf x m=cf q m*rq r)/\∀t∈x,RB (k+j+2) t.Coef/\∃u∈q,u.Mono=t.Mono:=by
 unfold W7;refine Fe (λs=>∃(i:Nat) (o:List Ah),s=((i:Int),o)/\i<=q.length/\o.length=i/\(∀m,cf o m=cf (q.take i) m*rq r)/\∀t∈o,RB (k+j+2) t.Coef/\∃u∈q,u.Mono=t.Mono) (λs=>q.length-s.1.toNat) (λo=>o.length=q.length/\(∀m,cf o m=cf q m*rq r)/\∀t∈o,RB (k+j+2) t.Coef/\∃u∈q,u.Mono=t.Mono) ⟨0,[],rfl,ω,rfl,(λm=>by simp only [List.take_zero,cf]; grind),λ_ h=>by cases h⟩ ?_ ?_
 .rintro _ ⟨i,o,rfl,hi,l,b,g⟩;rcases Nat.lt_or_ge i q.length with h | h
  .have hx:q[i]? = some q[i]:=Bv h;generalize q[i]=t at hx;have f:=Cd hx;obtain ⟨c,B,A,E,z⟩:=Ah5 (hq t f) y hk hj;simp only [Aj (by omega:(i:Int)<(q.length:Int)),cond_true,Ce rfl hx,Ad,B,C6 h ω];rw [C3 (by simp; omega)];refine .inl ⟨_,rfl,⟨i+1,o++[⟨c,t.Mono⟩],rfl,ω,by simp [l],λm=>?_,λw hw=>?_⟩,by simp; omega⟩
   .rw [Mq,b,C8 hx,Mq];simp only [cf,z];split <;> grind
   .rcases List.mem_append.1 hw with hw | hw
    .exact g w hw
    .simp only [List.mem_singleton] at hw;subst hw;exact ⟨A,t,f,rfl⟩
  .have:i=q.length:=ω;subst this;rw [List.take_length] at b;simp only [An (by omega:¬(q.length:Int)<(q.length:Int)),cond_false];exact .inr ⟨_,rfl,l,b,g⟩
 .rintro o ⟨h1,h2,h3⟩;exact ⟨_,rfl,h1,h2,h3⟩
theorem A2c:∃r,F3 (-1)=some r/\RB 1 r/\rq r = -1:=by
 refine ⟨_,Vm (-1) δ δ,?_,?_⟩
 .exact Hf _ _ _ 1 (I9 δ) (I9 δ) ω
 .rw [Lr _ _ _ δ]; decide
end Go.Ab
namespace Go.Ab
open Go
end Go.Ab
namespace Go.Ab
open Go
def bc:Nat->Nat->Nat
 | _,0=>1
 | 0,_+1=>0
 | n+1,k+1=>bc n k+bc n (k+1)
theorem Kj (n:Nat):bc n 0=1:=by cases n <;> rfl
theorem Aiq:∀{n k:Nat},n<k->Ef n k=0
 | n,0,h=>absurd h ω
 | n,k+1,h=>by
  rw [Ef];by_cases e:n<k
  .rw [Aiq e,Nat.zero_mul]
  .rw [show n-k=0 by omega,Nat.mul_zero]
theorem Aqs (n:Nat):∀k,Ef (n+1) (k+1)=(n+1)*Ef n k
 | 0=>by simp [Ef]
 | k+1=>by rw [Ef,Aqs n k,Ef,show n+1-(k+1)=n-k by omega,Nat.mul_assoc]
theorem Za:∀n k,Ef n k=D1 k*bc n k
 | n,0=>by rw [Kj]; rfl
 | 0,k+1=>by rw [Aiq ω]; simp [bc]
 | n+1,k+1=>by
  have h1:=Za n (k+1);have h2:=Za n k;rw [Aqs,bc,Nat.mul_add,<-h1,D1,Ef,Nat.mul_right_comm,<-h2];by_cases e:k<=n
  .rw [<-Nat.mul_add,Nat.mul_comm,show k+1+(n-k)=n+1 by omega]
  .rw [Aiq ω]; simp
theorem Zb:∀n k,bc n k<=2 ^ n
 | n,0=>by rw [Kj]; exact Nat.one_le_two_pow
 | 0,k+1=>by simp [bc]
 | n+1,k+1=>by have h1:=Zb n (k+1);have h2:=Zb n k;rw [bc,Nat.pow_succ]; omega
def cR (n:Nat):Ar:=A9 false n 1
theorem Air (n:Nat):sv (cR n)=false/\nv (cR n)=n/\dv (cR n)=1:=by
 obtain ⟨g,f,c,b⟩:=Sn false n 1 δ;refine ⟨?_,?_,?_⟩
 .by_cases h:n=0
  .exact b h
  .exact c h
 .unfold cR; rw [g]; simp
 .unfold cR; rw [f]; simp
theorem Ais {n k:Nat} (h:Bi n<=k) (hk:1<=k):RB k (cR n):=Hf _ _ _ _ h (by rw [Ig]; exact hk) hk
theorem A2d:F3 0=some (cR 0):=Vm 0 δ δ
theorem Adp:F3 1=some (cR 1):=Vm 1 δ δ
theorem A2e (n k:Nat) (b:n<1000000000) (hk:k<=64):Oc (n:Int) (k:Int)=some (cR (bc n k),true):=by
 unfold Oc;have e:(if (n:Int)>0 then (n:Int) else 0)=(n:Int):=by split <;> omega
 simp only [An (by omega:¬(k:Int)<0),cond_false,An (by omega:¬(k:Int)>64),Ad,e,An5 n k b hk];rw [Za,show A9 false (D1 k*bc n k) (D1 k)=A9 false (D1 k*bc n k) (D1 k*1) by rw [Nat.mul_one],Mm _ _ _ _ (Ss k)];rfl
theorem A2f (n k:Nat) (b:n<1000000000) (hk:k<=64):Oc (n:Int) (k:Int)=some (cR (bc n k),true):=A2e n k b hk
end Go.Ab
namespace Go.Ab
open Go
end Go.Ab
namespace Go.Ab
open Go
end Go.Ab
namespace Go.Ab
open Go
structure Asc (b:List Int) (n:Nat) (l:List Int):Prop where
 up:l.Pairwise (· < ·)
 mem:∀y,y∈l↔y∈b.take n
theorem Asc.same {b:List Int} {q:Nat} {l:List Int} {x:Int} (h:Asc b (q+1) l) (hp:b[q]? = some x) (hx:b[q+1]? = some x):Asc b (q+2) l:=by
 refine ⟨h.up,λy=>?_⟩;rw [C8 hx,List.mem_append,h.mem y];constructor
 .exact .inl
 .rintro (h1 | h1)
  .exact h1
  .rw [List.mem_singleton] at h1;subst h1;rw [C8 hp]; simp
theorem Nq {α:Type} {l:List α} {off n:Nat} {i:Int} {j:Nat} {x:α} (hi:i=j) (hj:j<n) (h:l[off+j]? = some x):Ep l off n i=some x:=by subst hi;unfold Ep;rw [if_pos ω]; simpa using h
end Go.Ab
namespace Go.Ab
open Go
end Go.Ab
namespace Go.Ab
open Go
end Go.Ab
namespace Go.Ab
open Go
end Go.Ab
namespace Go.Ab
open Go
end Go.Ab
namespace Go.Ab
open Go
end Go.Ab
namespace Go.Ab
open Go
end Go.Ab
namespace Go.Ab
open Go
end Go.Ab
namespace Go.Ab
open Go
end Go.Ab
namespace Go.Ab
open Go
end Go.Ab
namespace Go.Ab
open Go
end Go.Ab
