/- Plain laws: what the plain functions answer. -/
import Derived.Test.YtphbdfhbonlpfaaGreatDoorRgPl1
import Derived.Test.YtphbdfhbonlpfaaGreatDoorRgPl0
open List
namespace Go.Ab
open Go
theorem Asy {S E:Type} (F:Bz->Bz->Option Int) (l:List Bi) (g:∀y∈l,∀x,F y.L x=some (G3 y.L x)) {x:Bi} {j:Nat} (hx:l[j]? = some x) (i:l.length<4611686018427387904) (c b:Option (S⊕E)) : (bif decide ((j:Int)>0) then ((Ag l (Aa ((j:Int)-1))).bind λf=>(F f.L x.L).bind λv28=>bif decide (v28>=0) then c else b) else b)=bif Pi l x j then b else c:=by
 have hj:=Eh hx;unfold Pi;by_cases h:j=0
 .subst h;rfl
 .rw[Ao ω];have e:Aa ((j:Int)-1)=((j-1:Nat):Int):=ξ;have hy:l[j-1]? = some l[j-1]:=B4 ω;rw[e,Br rfl hy,hy];have h0:(j==0)=false:=(by simpa using h);simp only[Ak,Ad,h0,Bool.false_or,g _ (getElem_mem (ω:j-1<l.length))];by_cases hc:G3 l[j-1].L x.L<0
  .rw[As ω,Ao hc];rfl
  .rw[Ao ω,As hc];rfl
section
variable {b1:List (ByteArray×Int)} (b2:List (ByteArray×List Av)) {data:List Al} {vars:List Af} {res:Af}
def Aa8 (data:List Al) (vars:List Af) (res:Af) (l:List Bf) (f:Bf) (j:Nat):Bool:=!(D3 data vars res f==0)&&Kx (·.v) l f j
def Si (l:List Bi) (a:Bi) (j:Nat):Bool:=!(a.P==0)&&Ic a.L && !(a.L.T.length==0)&&Pi l a j
theorem A4m (m:Bd):Ix data vars res m=(Mr data vars res m&&decide (Bw data vars res m.F+Dk m.A<=6)&&m.F.zipIdx.all (λq=>Aa8 data vars res m.F q.1 q.2)&&m.A.zipIdx.all (λq=>Si m.A q.1 q.2)):=by
 rw[Bool.eq_iff_iff];unfold Ix Mr;rw[<-Ae4 m.F (λf=>decide (0<=D3 data vars res f)),<-Ae4 m.A (λa=>decide (0<=a.P)&&Ju vars res a.L)];simp only[Dz,I5,Ma,Ki,Aa8,Si,D8,Bool.not_eq_true',beq_eq_false_iff_ne,ne_eq];constructor
 .rintro⟨⟨h1,h2⟩,h3⟩;refine⟨⟨⟨⟨λq hq=>?_,λq hq=>?_⟩,h3⟩,λq hq=>?_⟩,λq hq=>?_⟩
  .have:=(h1 q hq).1;omega
  .have:=h2 q hq;exact⟨ω,this.1.2⟩
  .have:=h1 q hq;exact⟨ω,this.2⟩
  .have:=h2 q hq;exact⟨⟨⟨ω,this.1.1.1.2⟩,this.1.1.2⟩,this.2⟩
 .rintro⟨⟨⟨⟨h1,h2⟩,h3⟩,c⟩,b⟩;refine⟨⟨λq hq=>?_,λq hq=>?_⟩,h3⟩
  .have:=h1 q hq;have g:=c q hq;exact⟨ω,g.2⟩
  .have:=h2 q hq;have g:=b q hq;exact⟨⟨⟨⟨ω,g.1.1.2⟩,g.1.2⟩,this.2⟩,g.2⟩
theorem A4n (hc:Ky data vars res) (hm:D0 data vars res b1) (m:Bd) (i:MSz m) :
  ∃A,Ws m b1 b2 data vars res.G res.U res.R=some (Ix data vars res m,A)/\D0 data vars res A:=by
 have hf:=i.nf
 have ha:=i.na
 rw[A4m]
 unfold Ws
 obtain⟨b,p1,Z⟩:=A4k b2 hc hm m i
 rw[p1]
 cases hp:Mr data vars res m with
 | false=>exact⟨b,rfl,Z⟩
 | true=>
  obtain⟨q,q1,q2,Y⟩:=A4l b2 hc Z m i hp
  simp only[Ad,Eg,Am,q1,q2]
  cases hs:decide (Bw data vars res m.F+Dk m.A<=6) with
  | false=>exact⟨q.2,rfl,Y⟩
  | true=>
   simp only[Eg,Am,Bool.true_and]
   have U:∀f∈m.F,(Em vars res f.v).isSome=true:=by
    intro f c
    unfold Mr at hp
    rw[Dz,I5]at hp
    have hd:=hp.1 f c
    rw[D8]at hd
    unfold D3 at hd
    cases ht:Em vars res f.v with
    | none=>rw[ht]at hd;have hd:(0:Int)<=-1:=hd;omega
    | some t=>rfl
   obtain⟨r,r1,X⟩:=Aax (M:=List (ByteArray×Int)) (R:=Bool×List (ByteArray×Int)) m.F (λq=>Aa8 data vars res m.F q.1 q.2) (λj o=>((j:Int),o)) (D0 data vars res)
    (λr=>D0 data vars res r.2/\r.1=m.A.zipIdx.all (λq=>Si m.A q.1 q.2)) (λr=>D0 data vars res r.2/\r.1=false) q.2
    (s0:=((0:Int),q.2))
    (step:=(λ(v9,s)=>
     bif v9<(m.F.length:Int) then (
     (Ag m.F v9).bind λk=>
     (M9 k.v k.I s b2 data vars res.G res.U res.R).bind λg=>
     bif (g.1==(0:Int)) then some (.inr (.inl (false,g.2)))
     else (
     bif v9>(0:Int) then (
     (Ag m.F (Aa (v9-1))).bind λD=>
     bif D.v>=k.v then some (.inr (.inl (false,g.2)))
     else some (.inl ((Aa (v9+1)),g.2)))
     else some (.inl ((Aa (v9+1)),g.2))))
     else some (.inr (.inr s)):Int×List (ByteArray×Int)->Option ((Int×List (ByteArray×Int))⊕((Bool×List (ByteArray×Int))⊕List (ByteArray×Int)))))
    (J:=(λz=>match z with
     | .inl (N,L)=>some (N,L)
     | .inr l=>(An (S:=Int) (E:=((Bool×List (ByteArray×Int))⊕Unit)) (λv22=>
       bif v22<(m.A.length:Int) then (
       (Ag m.A v22).bind λv23=>
       (show OB from
       bif (v23.P==(0:Int)) then some true
       else (
       (Qc v23.L).bind λv25=>
       bif (!v25) then some true
       else some ((v23.L.T.length:Int)==(0:Int)))).bind λv26=>
       bif v26 then some (.inr (.inl (false,l)))
       else (
       bif v22>(0:Int) then (
       (Ag m.A (Aa (v22-1))).bind λB=>
       (M7 B.L v23.L).bind λv28=>
       bif v28>=(0:Int) then some (.inr (.inl (false,l)))
       else some (.inl (Aa (v22+1))))
       else some (.inl (Aa (v22+1)))))
       else some (.inr (.inr ()))) 0).bind λz=>match z with
        | .inl (I,G)=>some (I,G)
        | .inr _=>some (true,l)))
    rfl Y ω (by
     intro j f o V hx _ h1 h2 h3
     have c:=Bq hx
     obtain⟨A,d1,d2⟩:=Aa7 b2 hc V f (i.fr f c).2 (i.fr f c).1 (i.fi f c) (U f c)
     simp only[h1,h2,h3,Ak,Ad,d1,Akz (·.v) m.F hx ω,Aa8]
     cases (D3 data vars res f==0) with
     | true=>exact⟨nofun,λ_=>⟨_,rfl,_,rfl,d2,rfl⟩⟩
     | false=>
      cases Kx (·.v) m.F f j with
      | true=>exact⟨λ_=>⟨A,rfl,d2⟩,λh=>by cases h⟩
      | false=>exact⟨nofun,λ_=>⟨_,rfl,_,rfl,d2,rfl⟩⟩) (by
     intro o V h1 _
     refine⟨.inr o,by simp only[h1];rfl,?_⟩
     refine⟨(m.A.zipIdx.all (λq=>Si m.A q.1 q.2),o),?_,V,rfl⟩
     refine (Uu m.A (λq=>Si m.A q.1 q.2) (λj=>(j:Int)) rfl ω (rt:=(true,o)) (rf:=(false,o)) ?_ ?_).trans (by cases m.A.zipIdx.all (λq=>Si m.A q.1 q.2) <;> rfl)
     .intro j a hx _ h1 h2 h3
      have u:((a.L.T.length:Int)==(0:Int))=(a.L.T.length==0):=Ars a.L.T 0
      simp only[h1,h2,h3,Ak,Ad,Ast,Asy M7 m.A (λy hy x=>Afw y.L x (by have:=i.al y hy;omega)) hx ω,Si,u]
      cases (a.P==0) with
      | true=>exact⟨nofun,λ_=>⟨_,rfl,rfl⟩⟩
      | false=>
       cases Ic a.L with
       | false=>exact⟨nofun,λ_=>⟨_,rfl,rfl⟩⟩
       | true=>
        cases (a.L.T.length==0) with
        | true=>exact⟨nofun,λ_=>⟨_,rfl,rfl⟩⟩
        | false=>
         cases Pi m.A a j with
         | true=>exact⟨λ_=>rfl,λh=>by cases h⟩
         | false=>exact⟨nofun,λ_=>⟨_,rfl,rfl⟩⟩
     .intro h _;exact⟨.inr (),by simp only[h];rfl,rfl⟩)
   refine⟨r.2,?_,?_⟩
   .have e:some r=some (m.F.zipIdx.all (λq=>Aa8 data vars res m.F q.1 q.2)&&m.A.zipIdx.all (λq=>Si m.A q.1 q.2),r.2):=by
     rcases X with⟨h1,h2,h3⟩|⟨h1,h2,h3⟩
     .rw[h1,Bool.true_and,<-h3]
     .rw[h1,Bool.false_and,<-h3]
    rw[<-e]
    exact r1
   .rcases X with⟨h1,h2,h3⟩|⟨h1,h2,h3⟩ <;> exact h2
theorem Asz (l:List Bf):Bw data vars res l<=6*l.length/\-(l.length:Int)<=Bw data vars res l:=by induction l with| nil=>simp[Bw]| cons x xs ih=>have:=Afy data vars res x;unfold Bw at *;simp only[map_cons,sum_cons,Ed];omega
theorem As0 (l:List Bf) (h:∀f∈l,0<=D3 data vars res f):0<=Bw data vars res l:=by induction l with| nil=>simp[Bw]| cons x xs ih=>have h1:=h x ψ;have h2:=ih (λf hf=>h f (by simp[hf]));unfold Bw at *;simp only[map_cons,sum_cons];omega
theorem Aa9 (l:List Bi) (h:∀a∈l,0<=a.P):0<=Dk l/\((∀a∈l,a.P<=6)->Dk l<=6*l.length)/\∀a∈l,a.P<=Dk l:=by
 induction l with
 | nil=>simp[Dk]
 | cons x xs ih=>
  have h1:=h x ψ;obtain⟨i1,i2,i3⟩:=ih (λf hf=>h f (by simp[hf]));unfold Dk at *;simp only[map_cons,sum_cons,Ed];refine⟨ω,λg=>?_,λa ha=>?_⟩
  .have:=g x ψ;have:=i2 (λa ha=>g a (by simp[ha]));omega
  .rcases E8.1 ha with rfl|ha
   .omega
   .have:=i3 a ha;omega
end
variable {a:A7} {A K N P U V W X b d g h hb j o q r s t u x y:Int} {l:List Int} {k n off:Nat}
theorem A4o {x:Bs} (hc:Ky x.D x.V x.E) (m:Bd) (I:MSz m):∃v,Zd x m=some v/\decide (v<0) = !Ix x.D x.V x.E m:=by
 have hf:=I.nf
 have ha:=I.na
 unfold Zd
 have V:∀n,m.F.zipIdx.all (λq=>Ma x.D x.V x.E m.F q.1 q.2)=true->0<=Bw x.D x.V x.E (m.F.take n):=by
  intro n h
  refine As0 _ (λf hf=>?_)
  obtain⟨j,hj⟩:=Hu (mem_of_mem_take hf)
  have:=Jq h hj
  simp only[Ma,Dz,D8]at this
  omega
 have X:m.F.zipIdx.all (λq=>Ma x.D x.V x.E m.F q.1 q.2)=false->Ix x.D x.V x.E m=false:=by
  intro h;unfold Ix;rw[h];rfl
 obtain⟨r,r1,r2⟩:=Aax (M:=Unit) (R:=Int) m.F (λq=>Ma x.D x.V x.E m.F q.1 q.2) (λj _=>(Bw x.D x.V x.E (m.F.take j),(j:Int))) (λ_=>True)
  (λv=>decide (v<0) = !Ix x.D x.V x.E m) (λv=>v = -1) ()
  (s0:=((0:Int),(0:Int)))
  (step:=(λ(v9,c)=>
   bif c<(m.F.length:Int) then (
   (Ag m.F c).bind λu=>
   (Tq x u.v).bind λG=>
   (show OB from
   bif (!G.2) then some true
   else (
   bif c>(0:Int) then (
   (Ag m.F (Aa (c-1))).bind λs=>
   some (decide (s.v>=u.v)))
   else some false)).bind λa1=>
   bif a1 then some (.inr (.inl (-1)))
   else (
   (Wp x.D G.1 u.I).bind λv17=>
   bif v17<(1:Int) then some (.inr (.inl (-1)))
   else some (.inl ((Aa (v9+v17)),(Aa (c+1))))))
   else some (.inr (.inr v9)):Int×Int->Option ((Int×Int)⊕(Int⊕Int))))
  (J:=(λz=>match z with
   | .inl a6=>some a6
   | .inr Z=>(An (S:=(Int×Int)) (E:=(Int⊕Int)) (λ(v24,v25)=>
     bif v25<(m.A.length:Int) then (
     (Ag m.A v25).bind λv26=>
     (Ts v26.L).bind λv28=>
     bif (!v28) then some (.inr (.inl (-1)))
     else (
     bif ((v26.L.T.length:Int)==(0:Int)) then some (.inr (.inl (-1)))
     else (
     (Tt x v26.L).bind λl=>
     bif (!l) then some (.inr (.inl (-1)))
     else (
     bif v25>(0:Int) then (
     (Ag m.A (Aa (v25-1))).bind λk=>
     (Qf k.L v26.L).bind λv31=>
     bif v31>=(0:Int) then some (.inr (.inl (-1)))
     else (
     bif v26.P<(1:Int) then some (.inr (.inl (-1)))
     else (
     bif v26.P>(6:Int) then some (.inr (.inl (-1)))
     else some (.inl ((Aa (v24+v26.P)),(Aa (v25+1)))))))
     else (
     bif v26.P<(1:Int) then some (.inr (.inl (-1)))
     else (
     bif v26.P>(6:Int) then some (.inr (.inl (-1)))
     else some (.inl ((Aa (v24+v26.P)),(Aa (v25+1))))))))))
     else some (.inr (.inr v24))) (Z,0)).bind λz=>match z with
      | .inl A=>some A
      | .inr v33=>bif v33>(6:Int) then some (-1) else some v33))
  (by simp[Bw]) trivial ω (by
   intro j f _ _ hx _ h1 h2 h3
   have ab:=Bq hx
   have hj:=Eh hx
   have a7:(bif decide ((j:Int)>0) then ((Ag m.F (Aa ((j:Int)-1))).bind λs=>some (decide (s.v>=f.v))) else some false)=some (!Kx (·.v) m.F f j):=by
    unfold Kx
    by_cases h:j=0
    .subst h;rfl
    .rw[Ao ω]
     have e:Aa ((j:Int)-1)=((j-1:Nat):Int):=by rw[Aa,B6] <;> omega
     have hy:m.F[j-1]? = some m.F[j-1]:=B4 ω
     rw[e,Br rfl hy,hy]
     have h0:(j==0)=false:=by simpa using h
     simp only[Ak,Ad,h0,Bool.false_or]
     by_cases hc:m.F[j-1].v<f.v
     .rw[As ω,Ao hc];rfl
     .rw[Ao ω,As hc];rfl
   have es:Bw x.D x.V x.E (m.F.take (j+1))=Bw x.D x.V x.E (m.F.take j)+D3 x.D x.V x.E f:=Ak0 _ hx
   have hb:=Asz (data:=x.D) (vars:=x.V) (res:=x.E) (m.F.take j)
   have ag:(m.F.take j).length<=1048576:=by simp;omega
   have ae:=Afy x.D x.V x.E f
   simp only[h1,h2,h3,Ak,Ad,Asx,Ma,es]
   cases ht:Em x.V x.E f.v with
   | none=>
    have e:D3 x.D x.V x.E f = -1:=by unfold D3;rw[ht]
    rw[e]
    exact⟨nofun,λ_=>⟨.inl (-1),rfl,_,rfl,rfl⟩⟩
   | some t=>
    have e:D3 x.D x.V x.E f=Hy (C3 x.D f.I t):=by unfold D3;rw[ht]
    simp only[Eg,Am,a7,Ad,A34 hc.vd hc.sh t f.I (hc.sz _ _ ht) (I.fi f ab),<-e]
    cases ac:Kx (·.v) m.F f j with
    | false=>exact⟨(λh=>by simp at h),λ_=>⟨.inl (-1),rfl,_,rfl,rfl⟩⟩
    | true=>
     simp only[Eg,Am,Bool.and_true]
     by_cases h1:1<=D3 x.D x.V x.E f
     .rw[Ao h1,As ω]
      refine⟨λ_=>⟨(),?_,trivial⟩,λh=>by cases h⟩
      simp only[Am]
      rw[show Aa (Bw x.D x.V x.E (m.F.take j)+D3 x.D x.V x.E f)=Bw x.D x.V x.E (m.F.take j)+D3 x.D x.V x.E f by rw[Aa,B6] <;> omega]
     .rw[As h1,Ao ω]
      exact⟨nofun,λ_=>⟨.inl (-1),rfl,_,rfl,rfl⟩⟩) (by
   intro _ _ h1 g
   have aa:=V m.F.length g
   have af:=Asz (data:=x.D) (vars:=x.V) (res:=x.E) m.F
   rw[Dq]at aa
   refine⟨.inr (Bw x.D x.V x.E m.F),ψ,?_⟩
   obtain⟨w,w1,w2⟩:=Aax (M:=Unit) (R:=Int) m.A (λq=>Ki x.V x.E m.A q.1 q.2&&decide (q.1.P<=6)) (λj _=>(Bw x.D x.V x.E m.F+Dk (m.A.take j),(j:Int))) (λ_=>True)
    (λv=>decide (v<0) = !decide (Bw x.D x.V x.E m.F+Dk m.A<=6)) (λv=>v = -1) ()
    (s0:=(Bw x.D x.V x.E m.F,(0:Int)))
    (step:=(λ(v24,v25)=>
     bif v25<(m.A.length:Int) then (
     (Ag m.A v25).bind λv26=>
     (Ts v26.L).bind λv28=>
     bif (!v28) then some (.inr (.inl (-1)))
     else (
     bif ((v26.L.T.length:Int)==(0:Int)) then some (.inr (.inl (-1)))
     else (
     (Tt x v26.L).bind λl=>
     bif (!l) then some (.inr (.inl (-1)))
     else (
     bif v25>(0:Int) then (
     (Ag m.A (Aa (v25-1))).bind λk=>
     (Qf k.L v26.L).bind λv31=>
     bif v31>=(0:Int) then some (.inr (.inl (-1)))
     else (
     bif v26.P<(1:Int) then some (.inr (.inl (-1)))
     else (
     bif v26.P>(6:Int) then some (.inr (.inl (-1)))
     else some (.inl ((Aa (v24+v26.P)),(Aa (v25+1)))))))
     else (
     bif v26.P<(1:Int) then some (.inr (.inl (-1)))
     else (
     bif v26.P>(6:Int) then some (.inr (.inl (-1)))
     else some (.inl ((Aa (v24+v26.P)),(Aa (v25+1))))))))))
     else some (.inr (.inr v24)):Int×Int->Option ((Int×Int)⊕(Int⊕Int))))
    (J:=(λz=>match z with
      | .inl A=>some A
      | .inr v33=>bif v33>(6:Int) then some (-1) else some v33))
    (by simp[Dk]) trivial ω (by
     intro j a _ _ hx B h1 h2 h3
     have L:((a.L.T.length:Int)==(0:Int))=(a.L.T.length==0):=Ars a.L.T 0
     have es:=Ak1 hx
     have ah:0<=Dk (m.A.take j)/\Dk (m.A.take j)<=6*1048576:=by
      have N:∀b∈m.A.take j,1<=b.P/\b.P<=6:=by
       intro b hb
       obtain⟨i,hi⟩:=Hu hb
       have a8:=Eh hi
       have U:i<j:=by simp at a8;omega
       rw[getElem?_take_of_lt U]at hi
       have:=B i b U hi
       simp only[Ki,Dz,D8]at this
       omega
      obtain⟨k1,k2,_⟩:=Aa9 (m.A.take j) (λb hb=>by have:=N b hb;omega)
      have:=k2 (λb hb=>(N b hb).2)
      have hl:(m.A.take j).length<=1048576:=by simp;omega
      omega
     simp only[h1,h2,h3,Ak,Ad,A4h,A4j x a.L (I.al a (Bq hx)),Asy Qf m.A (λy hy x=>Asp y.L x (by have:=I.al y hy;omega)) hx ω,Ki,L,es]
     cases Ic a.L with
     | false=>exact⟨(λh=>by simp at h),λ_=>⟨.inl (-1),rfl,_,rfl,rfl⟩⟩
     | true=>
      cases (a.L.T.length==0) with
      | true=>exact⟨(λh=>by simp at h),λ_=>⟨.inl (-1),rfl,_,rfl,rfl⟩⟩
      | false=>
       cases Ju x.V x.E a.L with
       | false=>exact⟨(λh=>by simp at h),λ_=>⟨.inl (-1),rfl,_,rfl,rfl⟩⟩
       | true=>
        simp only[Eg,Am,Bool.not_false,Bool.and_true]
        cases Pi m.A a j with
        | false=>exact⟨(λh=>by simp at h),λ_=>⟨.inl (-1),rfl,_,rfl,rfl⟩⟩
        | true=>
         simp only[Ak,Bool.and_true]
         by_cases g1:a.P<1
         .rw[Ao g1,As (ω:¬1<=a.P)]
          exact⟨(λh=>by simp at h),λ_=>⟨.inl (-1),rfl,_,rfl,rfl⟩⟩
         .by_cases g2:a.P>6
          .rw[As g1,Ao g2,As (ω:¬a.P<=6)]
           exact⟨(λh=>by simp at h),λ_=>⟨.inl (-1),rfl,_,rfl,rfl⟩⟩
          .rw[As g1,As g2,Ao (ω:a.P<=6),Ao (ω:1<=a.P)]
           refine⟨λ_=>⟨(),?_,trivial⟩,λh=>by cases h⟩
           simp only[Am]
           rw[show Aa (Bw x.D x.V x.E m.F+Dk (m.A.take j)+a.P)=Bw x.D x.V x.E m.F+(Dk (m.A.take j)+a.P) by rw[Aa,B6] <;> omega]) (by
     intro _ _ h1 D
     refine⟨.inr (Bw x.D x.V x.E m.F+Dk m.A),ψ,?_⟩
     have ai:0<=Dk m.A:=(Aa9 m.A (λb hb=>by
      obtain⟨i,hi⟩:=Hu hb
      have:=Jq D hi
      simp only[Ki,Dz,D8]at this
      omega)).1
     simp only
     by_cases h6:Bw x.D x.V x.E m.F+Dk m.A<=6
     .rw[As ω,Ao h6]
      exact⟨_,rfl,As ω⟩
     .rw[Ao ω,As h6]
      exact⟨_,rfl,rfl⟩)
   refine⟨w,w1,?_⟩
   unfold Ix
   rw[g,Bool.true_and]
   rcases w2 with⟨g1,g2⟩|⟨g1,g2⟩
   .have Y:m.A.zipIdx.all (λq=>Ki x.V x.E m.A q.1 q.2)=true:=Ae3 λj a hj=>by
     have:=Jq g1 hj
     simp only[Dz]at this
     exact this.1
    rw[Y,Bool.true_and,g2]
   .rw[g2]
    cases Y:m.A.zipIdx.all (λq=>Ki x.V x.E m.A q.1 q.2) with
    | false=>rfl
    | true=>
     have hgt:¬Bw x.D x.V x.E m.F+Dk m.A<=6:=by
      intro ad
      have:m.A.zipIdx.all (λq=>Ki x.V x.E m.A q.1 q.2&&decide (q.1.P<=6))=true:=Ae3 λj a hj=>by
       have gj:=Jq Y hj
       have hpos:∀b∈m.A,0<=b.P:=λb hb=>by
        obtain⟨i,hi⟩:=Hu hb
        have:=Jq Y hi
        simp only[Ki,Dz,D8]at this
        omega
       have:=(Aa9 m.A hpos).2.2 a (Bq hj)
       simp only[gj,Bool.true_and,D8]
       omega
      rw[this]at g1;cases g1
     rw[As hgt];rfl)
 refine⟨r,r1,?_⟩
 rcases r2 with⟨h1,h2⟩|⟨h1,h2⟩
 .exact h2
 .rw[h2,X h1];rfl
theorem Sj (l:List Int) (b:l.length<4611686018427387904):L2 l=some (Iv l):=by
 unfold L2;refine Jp (λv=>∃k:Nat,v=k/\k<=l.length/\Iv (l.take k)=Iv l) (λv=>v.toNat) (λv=>∃k:Nat,v=k/\k<=l.length/\l.take k=Iv l) ⟨l.length,rfl,Nat.le_refl _,ψ⟩ ?_ ?_
 .rintro v ⟨k,rfl,hk,ht⟩;cases k with
  | zero=>exact .inr ⟨0,rfl,0,rfl,ω,by simpa[Iv] using ht⟩
  | succ j=>
   have hw:Aa (((j+1:Nat):Int)-1)=(j:Int):=ξ;have hj:j<l.length:=ω;have hp:decide (((j+1:Nat):Int)>0)=true:=Ao ω;simp only[hp,Ak,hw,Ez rfl hj,Ad];rw[take_succ_eq_append_getElem hj]at ht;by_cases h0:l[j]=0
   .rw[h0,A2l]at ht;exact .inl ⟨j,by rw[Fm h0];rfl,⟨j,rfl,ω,ht⟩,ω⟩
   .rw[A2m h0]at ht;exact .inr ⟨((j+1:Nat):Int),by rw[Cy h0];rfl,j+1,rfl,ω,by rw[take_succ_eq_append_getElem hj];exact ht⟩
 .rintro v ⟨k,rfl,hk,ht⟩;rw[Ut rfl hk,ht];rfl
theorem As1 (l:List Int) (hd:Nc l) (D:l.length<1099511627776):Wq l=some (Ah (Ap l).toNat):=by
 unfold Wq;have f:Aa ((l.length:Int)+1)=((l.length+1:Nat):Int):=by rw[Aa,B6] <;> omega
 rw[f,Aj9 rfl ω ω];simp only[Ad];refine Jp (λ(c,i,o)=>∃k:Nat,i=k/\k<=l.length/\o.length=k/\Ck o/\0<=c/\c<5/\Ap o+1000000000 ^ k*c=Ap (l.take k)) (λ(_,i,_)=>l.length-i.toNat) (λ(c,o)=>o.length=l.length/\Ck o/\0<=c/\c<5/\Ap o+1000000000 ^ l.length*c=Ap l) ⟨0,rfl,ω,rfl,Ck.nil,ω,ω,by simp[Ap]⟩ ?_ ?_
 .rintro⟨c,i,o⟩ ⟨k,rfl,hk,g,b,q,hc,u⟩;rcases Cf k l.length with h|h
  .have hx:=hd l[k] (getElem_mem h);refine .inl ⟨((l[k]+c) / 1000000000,((k+1:Nat):Int),o++[(l[k]+c) % 1000000000]),?_,⟨k+1,rfl,ω,by simp[g],b.snoc ω ω,ω,ω,?_⟩,ζ⟩
   .have A:Bb l[k]=l[k]:=Dy ω ω;have z:Bb (l[k]+c)=l[k]+c:=Dy ω ω;have s:Cz ((l[k]+c) % 1000000000)=(l[k]+c) % 1000000000:=Hn ω ω;have y:Aa ((k:Int)+1)=((k+1:Nat):Int):=ξ;have x:decide ((k:Int)<(l.length:Int))=true:=(by simpa using h);simp only[x,Ak,Ez rfl h,Ad,A,z,Mm (show 0<=l[k]+c by omega) (show (0:Int)<1000000000 by decide),s,Dn (show (o.length+[(l[k]+c) % 1000000000].length)*4<=_ by simp;omega),Mn (show 0<=l[k]+c by omega) (show l[k]+c<=_ by omega) (show (0:Int)<1000000000 by decide),y]
   .rw[Hv l h,<-u,Oi,g,Int.pow_succ];have:=Int.mul_ediv_add_emod (l[k]+c) 1000000000;grind
  .have j:k=l.length:=ω;subst j;refine .inr ⟨(c,o),ψ,g,b,q,hc,by simpa using u⟩
 .rintro⟨c,o⟩ ⟨h2,h3,I,G,E⟩;have B:=Ip hd;by_cases hc:c>0
  .have s:Cz c=c:=Hn ω ω;simp only[decide_eq_true hc,Ak,s,Dn (show (o.length+[c].length)*4<=_ by simp;omega),Ad,Sj (o++[c]) ζ];rw[Mo (h3.snoc ω ω) (n:=(Ap l).toNat) (by rw[Oi,h2];omega)]
  .have:c=0:=ω;subst this;simp only[Int.lt_irrefl,gt_iff_lt,decide_false,Am,Sj o ω,Ad];rw[Mo h3 (n:=(Ap l).toNat) ω]
theorem U4 (h:n<18446744073709551616):Bp n<=3:=Ku (Nat.lt_of_lt_of_le h δ)
theorem Xq (n:Nat) (h:n<18446744073709551616):Ql n=some (Ah n):=by
 unfold Ql;have b:=U4 h;unfold Bp at b;refine Jp (λ(w,o)=>∃k:Nat,w=k/\k<=n/\o++Ah k=Ah n) (λ(w,_)=>w.toNat) (λo=>o=Ah n) ⟨n,rfl,Nat.le_refl _,ψ⟩ ?_ (by rintro o rfl;rfl);rintro⟨w,o⟩ ⟨k,rfl,hk,c⟩;by_cases h0:k=0
 .subst h0;rw[Hc,append_nil]at c;exact .inr ⟨o,ψ,c⟩
 .have f:o.length<=3:=(by rw[<-c]at b;simp at b;omega);refine .inl ⟨(((k / 1000000000:Nat):Int),o++[((k % 1000000000:Nat):Int)]),?_,⟨k / 1000000000,rfl,ω,by rw[append_assoc];rw[Oh h0]at c;exact c⟩,ζ⟩;have l:decide ((k:Int)>0)=true:=Ao ω;have j:I3 (k:Int) 1000000000=some ((k % 1000000000:Nat):Int):=(by rw[Mm ω δ];rfl);have i:Cz ((k % 1000000000:Nat):Int)=((k % 1000000000:Nat):Int):=Hn ω ω;have g:Ia .u64 (k:Int) 1000000000=some ((k / 1000000000:Nat):Int):=(by rw[Mn ω ω δ];rfl);simp only[l,Ak,j,Ad,i,Dn (show (o.length+[((k % 1000000000:Nat):Int)].length)*4<=_ by simp;omega),g]
def Hi (m n:Nat):Int:=if m<n then -1 else if n<m then 1 else 0
theorem Aba (m n:Nat) (f:Bp m<1099511627776) (c:Bp n<1099511627776):T5 (Ah m) (Ah n)=some (Hi m n):=by
 unfold T5;unfold Bp at f c;by_cases g:(Ah m).length=(Ah n).length
 .rw[Ea (ω:((Ah m).length:Int)=(Ah n).length),Am];have hw:Aa (((Ah m).length:Int)-1)=((Ah m).length:Int)-1:=ξ;rw[hw];refine Jp (λv=>∃k:Nat,v=(k:Int)-1/\k<=(Ah m).length/\(Ah m).drop k=(Ah n).drop k) (λv=>(v+1).toNat) (λe=>match e with|.inl r=>r=Hi m n | .inr _=>m=n) ⟨(Ah m).length,rfl,Nat.le_refl _,by rw[drop_length,g,drop_length]⟩ ?_ ?_
  .rintro v ⟨k,rfl,hk,hd⟩;cases k with
   | zero=>refine .inr ⟨.inr (),ψ,?_⟩;have:Ah m=Ah n:=(by simpa using hd);have:=congrArg Ap this;rw[G7,G7]at this;show m=n;omega
   | succ j=>
    have hj:j<(Ah m).length:=ω;have hj':j<(Ah n).length:=ω;have i:((j+1:Nat):Int)-1=(j:Int):=ω;have h:decide ((j:Int)>=0)=true:=Ao ω;simp only[i,h,Ak,Ez rfl hj,Ez rfl hj',Ad];rcases Int.lt_trichotomy (Ah m)[j] (Ah n)[j] with b|heq|hgt
    .refine .inr ⟨.inl (-1),by rw[Ao b];rfl,?_⟩;have:=Arp (Gl m) hj hj' (Gl n) hd b;rw[G7,G7]at this;show (-1:Int)=Hi m n;rw[Hi,Aw ω]
    .refine .inl ⟨(j:Int)-1,?_,⟨j,rfl,ω,?_⟩,ω⟩
     .rw[As (ω:¬(Ah m)[j]<(Ah n)[j]),Am,As (ω:¬(Ah m)[j]>(Ah n)[j]),Am];rw[Aa,B6 ω ω]
     .rw[drop_eq_getElem_cons hj,drop_eq_getElem_cons hj',hd,heq]
    .refine .inr ⟨.inl 1,by rw[As (ω:¬(Ah m)[j]<(Ah n)[j]),Am,Ao (ω:(Ah m)[j]>(Ah n)[j])];rfl,?_⟩;have:=Arp (Gl n) hj' hj (Gl m) hd.symm hgt;rw[G7,G7]at this;show (1:Int)=Hi m n;rw[Hi,Au ω,Aw ω]
  .rintro (e|e) he
   .simp only at he ⊢;rw[he]
   .simp only at he ⊢;rw[Hi,Au ω,Au ω]
 .rw[D9 (ω:((Ah m).length:Int)≠(Ah n).length),Ak];by_cases b:(Ah m).length<(Ah n).length
  .rw[Ao (ω:((Ah m).length:Int)<(Ah n).length),Ak];have:=Aro (m:=m) (n:=n) b;rw[Hi,Aw this]
  .rw[As (ω:¬((Ah m).length:Int)<(Ah n).length),Am];have:=Aro (m:=n) (n:=m) (by unfold Bp;omega);rw[Hi,Au ω,Aw this]
theorem As2 (h:Ck l) (c:l≠[]->1000000000 ^ (l.length-1)<=Ap l):Can l:=by refine⟨h,λb h0=>?_⟩;have h1:=c b;have e:=dropLast_concat_getLast b;have h2:Ck l.dropLast:=λd hd=>h d (dropLast_subset l hd);have h3:=Ln h2;rw[length_dropLast]at h3;have f:=congrArg Ap e;rw[Oi,h0]at f;omega
theorem Qw (l:List Int) (h:l.length<=k):Ap (l.take k)=Ap l:=by rw[Im h]
theorem As3 (a b:List Int) (ha:Ck a) (hb:Ck b) (hl:a.length<1099511627776) (Y:b.length<=a.length) (U:a≠[]->1000000000 ^ (a.length-1)<=Ap a) : ((Gz 4 0 (Aa ((a.length:Int)+1)) (0:Int)).bind λo3=> (An (S:=(Int×Int×List Int)) (E:=(Int×List Int)) (λ(v20,v21,u)=> bif v21<(a.length:Int) then ((Ag a v21).bind λv23=> (show Option Int from bif v21<(b.length:Int) then ((Ag b v21).bind λv24=> some (Cz ((Cz (v23+v20))+v24))) else (some (Cz (v23+v20)))).bind λv25=> (Ia .u32 v25 1000000000).bind λv26=> (I3 v25 1000000000).bind λf=> (Ca 4 u [f]).bind λg=> some (.inl (v26,(Aa (v21+1)),g))) else (some (.inr (v20,u)))) (0,0,o3)).bind λ(l,q)=> bif l>(0:Int) then ((Ca 4 q [l]).bind λJ=> some J) else (some q))=some (Ah (Ap a+Ap b).toNat):=by
 have A:Aa ((a.length:Int)+1)=((a.length+1:Nat):Int):=by rw[Aa,B6] <;> omega
 rw[A,Aj9 rfl ω ω];simp only[Ad];have a7:=Ip ha.u32;have a6:=Ip hb.u32;refine Jp (λ(c,i,o)=>∃k:Nat,i=k/\k<=a.length/\o.length=k/\Ck o/\0<=c/\c<=1/\Ap o+1000000000 ^ k*c=Ap (a.take k)+Ap (b.take k)) (λ(_,i,_)=>a.length-i.toNat) (λ(c,o)=>o.length=a.length/\Ck o/\0<=c/\c<=1/\Ap o+1000000000 ^ a.length*c=Ap a+Ap b) ⟨0,rfl,ω,rfl,Ck.nil,ω,ω,by simp[Ap]⟩ ?_ ?_
 .rintro⟨c,i,o⟩ ⟨k,rfl,hk,M,z,V,hc,L⟩;rcases Cf k a.length with h|h
  .have hx:=ha.get h;have e4:Aa ((k:Int)+1)=((k+1:Nat):Int):=ξ;have e5:decide ((k:Int)<(a.length:Int))=true:=Ao ω;have step:∀s:Int,0<=s->s<2000000000->(show Option Int from bif (k:Int)<(b.length:Int) then ((Ag b k).bind λv24=>some (Cz ((Cz (a[k]+c))+v24))) else some (Cz (a[k]+c)))=some s ->
     Ap (a.take (k+1))+Ap (b.take (k+1))=Ap (a.take k)+Ap (b.take k)+1000000000 ^ k*(s-c) -> (∃s',(bif (k:Int)<(a.length:Int) then ((Ag a k).bind λv23=> (show Option Int from bif (k:Int)<(b.length:Int) then ((Ag b k).bind λv24=> some (Cz ((Cz (v23+c))+v24))) else (some (Cz (v23+c)))).bind λv25=> (Ia .u32 v25 1000000000).bind λv26=> (I3 v25 1000000000).bind λf=> (Ca 4 o [f]).bind λg=> some (.inl (v26,(Aa ((k:Int)+1)),g))) else (some (.inr (c,o))))=some (Sum.inl s':(Int×Int×List Int)⊕(Int×List Int))/\(∃j:Nat,s'.2.1=j/\j<=a.length/\s'.2.2.length=j/\Ck s'.2.2/\0<=s'.1/\s'.1<=1/\Ap s'.2.2+1000000000 ^ j*s'.1=Ap (a.take j)+Ap (b.take j))/\a.length-s'.2.1.toNat<a.length-(k:Int).toNat):=by
    intro s y a1 hs x;refine⟨(s / 1000000000,((k+1:Nat):Int),o++[s % 1000000000]),?_,⟨k+1,rfl,ω,by simp[M],z.snoc ω ω,ζ,ζ,?_⟩,ζ⟩
    .rw[e5,Ak,Ez rfl h,Ad,hs,Ad,Arj y ω δ,Ad,Mm y δ,Ad,Dn ζ,Ad,e4]
    .rw[x,<-L,Oi,M,Int.pow_succ];have:=Int.mul_ediv_add_emod s 1000000000;grind
   refine .inl ?_;rcases Cf k b.length with hb'|hb'
   .have hy:=hb.get hb';obtain⟨s',I,G,D⟩:=step (a[k]+c+b[k]) ω ω (by have B:Cz (a[k]+c)=a[k]+c:=Hn ω ω;have Z:Cz (a[k]+c+b[k])=a[k]+c+b[k]:=Hn ω ω;show (bif (k:Int)<(b.length:Int) then _ else _)=_;rw[Ao (ω:(k:Int)<(b.length:Int)),Ak,Ez rfl hb',Ad,B,Z]) (by rw[Hv a h,Hv b hb'];grind);exact⟨s',I,G,D⟩
   .obtain⟨s',I,G,D⟩:=step (a[k]+c) ω ω (by have B:Cz (a[k]+c)=a[k]+c:=Hn ω ω;show (bif (k:Int)<(b.length:Int) then _ else _)=_;rw[As (ω:¬(k:Int)<(b.length:Int)),Am,B]) (by rw[Hv a h,Qw b hb',Qw b ω];grind);exact⟨s',I,G,D⟩
  .have R:k=a.length:=ω;subst R;refine .inr ⟨(c,o),ψ,M,z,V,hc,?_⟩;rw[Dq,Qw b Y]at L;exact L
 .rintro⟨c,o⟩ ⟨h2,h3,h4,h5,h6⟩;simp only[];by_cases hc:c>0
  .have:c=1:=ω;subst this;rw[Ao hc,Ak,Dn ζ,Ad];congr 1;refine Akb (As2 (h3.snoc ω ω) λ_=>?_) (by rw[Oi,h2];omega);rw[Oi,h2];have:=Ip h3.u32;simp[h2];omega
  .have:c=0:=ω;subst this;rw[As hc,Am];congr 1;refine Akb (As2 h3 λN=>?_) ω;have X:a≠[]:=(by intro e;rw[e]at h2;exact N (Fu.1 h2));have:=U X;rw[h2];omega
theorem As4 (h:Ah n≠[]):1000000000 ^ ((Ah n).length-1)<=Ap (Ah n):=by
 rw[G7];have h1:(Ah n).length≠0:=λe=>h (Fu.1 e);have:=Arm (n:=n) (k:=(Ah n).length-1) (by unfold Bp;omega);have e:((1000000000 ^ ((Ah n).length-1):Nat):Int)=1000000000 ^ ((Ah n).length-1):=by rw[Int.natCast_pow];rfl
 omega
theorem A4p (m n:Nat) (c:Bp m<1099511627776) (b:Bp n<1099511627776):Z1 (Ah m) (Ah n)=some (Ah (m+n)):=by
 unfold Z1;unfold Bp at c b;by_cases f:(Ah m).length<(Ah n).length
 .simp only[Ao (ω:((Ah m).length:Int)<(Ah n).length),Ak,Ad];have:=As3 (Ah n) (Ah m) (Gl n) (Gl m) b ω As4;rw[G7,G7]at this;rw[show m+n=((n:Int)+(m:Int)).toNat by omega];exact this
 .simp only[As (ω:¬((Ah m).length:Int)<(Ah n).length),Am,Ad];have:=As3 (Ah m) (Ah n) (Gl m) (Gl n) c ω As4;rw[G7,G7]at this;rw[show m+n=((m:Int)+(n:Int)).toNat by omega];exact this
theorem Nj (h:k<n) (b:n<4611686018427387904):Aa ((k:Int)+1)=((k+1:Nat):Int):=by rw[Aa,B6] <;> omega
theorem As5 (m n:Nat) (X:Bp m<1099511627776) (B:n<=m):Wy (Ah m) (Ah n)=some (Ah (m-n)):=by
 unfold Wy;have E:(Ah n).length<=(Ah m).length:=L7 B;unfold Bp at X;rw[Aj9 rfl ω ω];simp only[Ad];have ha:=Gl m;have hb:=Gl n;refine Jp (λ(c,i,o)=>∃k:Nat,i=k/\k<=(Ah m).length/\o.length=k/\Ck o/\0<=c/\c<=1/\Ap o=Ap ((Ah m).take k)-Ap ((Ah n).take k)+1000000000 ^ k*c) (λ(_,i,_)=>(Ah m).length-i.toNat) (λo=>∃c:Int,o.length=(Ah m).length/\Ck o/\0<=c/\c<=1/\Ap o=(m:Int)-n+1000000000 ^ (Ah m).length*c) ⟨0,rfl,ω,rfl,Ck.nil,ω,ω,by simp[Ap]⟩ ?_ ?_
 .rintro⟨c,i,o⟩ ⟨k,rfl,hk,l,g,I,hc,q⟩;rcases Cf k (Ah m).length with h|h
  .have hx:=ha.get h;have R:=Nj h ω;have N:decide ((k:Int)<((Ah m).length:Int))=true:=Ao ω;have L:Aa (Ah m)[k]=(Ah m)[k]:=B6 ω ω;have J:Aa ((Ah m)[k]-c)=(Ah m)[k]-c:=B6 ω ω;have key:∀s:Int,-1000000001<=s->s<1000000000->Ap ((Ah m).take (k+1))-Ap ((Ah n).take (k+1))=Ap ((Ah m).take k)-Ap ((Ah n).take k)+1000000000 ^ k*(s+c) ->
     ∃(f:Int) (d:Int),(bif decide (s<0) then ((Ca 4 o [(Cz (Aa (s+1000000000)))]).bind λA=>some (Sum.inl (1,(Aa ((k:Int)+1)),A))) else ((Ca 4 o [(Cz s)]).bind λz=>some (Sum.inl (0,(Aa ((k:Int)+1)),z))))=some (Sum.inl (f,((k+1:Nat):Int),o++[d]):(Int×Int×List Int)⊕List Int) /\ (-1000000000<=s->(∃j:Nat,((k+1:Nat):Int)=j/\j<=(Ah m).length/\(o++[d]).length=j/\Ck (o++[d])/\0<=f/\f<=1/\Ap (o++[d])=Ap ((Ah m).take j)-Ap ((Ah n).take j)+1000000000 ^ j*f)):=by
    intro s h1 h2 b;by_cases M:s<0
    .refine⟨1,Cz (Aa (s+1000000000)),by rw[Ao M,Ak,Dn ζ,Ad,R],λh3=>?_⟩;have V:Aa (s+1000000000)=s+1000000000:=B6 ω ω;have u:Cz (s+1000000000)=s+1000000000:=Hn ω ω;rw[V,u];refine⟨k+1,rfl,ω,by simp[l],g.snoc ω ω,ω,ω,?_⟩;rw[b,Oi,l,q,Int.pow_succ];grind
    .refine⟨0,Cz s,by rw[As M,Am,Dn ζ,Ad,R],λh3=>?_⟩;have u:Cz s=s:=Hn ω ω;rw[u];refine⟨k+1,rfl,ω,by simp[l],g.snoc ω ω,ω,ω,?_⟩;rw[b,Oi,l,q,Int.pow_succ];grind
   refine .inl ?_;rcases Cf k (Ah n).length with hb'|hb'
   .have hy:=hb.get hb';have U:Aa (Ah n)[k]=(Ah n)[k]:=B6 ω ω;have S:Aa ((Ah m)[k]-c-(Ah n)[k])=(Ah m)[k]-c-(Ah n)[k]:=B6 ω ω;obtain⟨f,d,y,x⟩:=key ((Ah m)[k]-c-(Ah n)[k]) ω ω (by rw[Hv _ h,Hv _ hb'];grind);refine⟨(f,((k+1:Nat):Int),o++[d]),?_,x ω,ζ⟩;rw[<-y];simp only[N,Ak,Ez rfl h,Ad,L,J,Ao (ω:(k:Int)<((Ah n).length:Int)),Ez rfl hb',U,S]
   .obtain⟨f,d,y,x⟩:=key ((Ah m)[k]-c) ω ω (by rw[Hv _ h,Qw (Ah n) hb',Qw (Ah n) ω];grind);refine⟨(f,((k+1:Nat):Int),o++[d]),?_,x ω,ζ⟩;rw[<-y];simp only[N,Ak,Ez rfl h,Ad,L,J,As (ω:¬(k:Int)<((Ah n).length:Int)),Am]
  .have G:k=(Ah m).length:=ω;subst G;refine .inr ⟨o,ψ,c,l,g,I,hc,?_⟩;rw[Dq,Qw _ E,G7,G7]at q;exact q
 .rintro o ⟨c,h2,h3,h4,Z,Y⟩;have D:=Ln h3;rw[h2]at D;have hp:=L6 (Ah m).length;have:c=0:=by
   rcases Int.lt_or_le 0 c with hc|hc
   .have:c=1:=ω;subst this;omega
   .omega
  subst this;rw[Sj o ω,Ad,Mo h3 (n:=m-n) ω]
theorem Ak2 (m d:Nat) (M:Bp m<1099511627776) (hd:0<d) (N:d<4294967296):Ub (Ah m) d=some (Ah (m / d),((m % d:Nat):Int)):=by
 unfold Ub;unfold Bp at M;rw[Lm rfl rfl (Nat.le_refl _) ω ω];simp only[Ad];have ha:=Gl m;have hw:Aa (((Ah m).length:Int)-1)=((Ah m).length:Int)-1:=by rw[Aa,B6] <;> omega
 rw[hw];refine Jp (λ(r,i,o)=>∃k:Nat,i=(k:Int)-1/\k<=(Ah m).length/\o.length=(Ah m).length/\Ck o/\0<=r/\r<d/\Ap (o.drop k)*d+r=Ap ((Ah m).drop k)) (λ(_,i,_)=>(i+1).toNat) (λ(r,o)=>o.length=(Ah m).length/\Ck o/\0<=r/\r<d/\Ap o*d+r=m) ⟨(Ah m).length,rfl,Nat.le_refl _,ψ,Ck.replicate _,ω,ω,by simp[Ap]⟩ ?_ ?_
 .rintro⟨r,i,o⟩ ⟨k,rfl,hk,A,g,s,L,z⟩;cases k with
  | zero=>exact .inr ⟨(r,o),ψ,A,g,s,L,by simpa[G7] using z⟩
  | succ j=>
   have hj:j<(Ah m).length:=ω;have h:j<o.length:=ω;have hx:=ha.get hj;have X:((j+1:Nat):Int)-1=(j:Int):=ω;have V:decide ((j:Int)>=0)=true:=Ao ω;have I:Bb (r*1000000000)=r*1000000000:=Dy ω ω;have G:Bb (Ah m)[j]=(Ah m)[j]:=Dy ω ω;have E:Bb (r*1000000000+(Ah m)[j])=r*1000000000+(Ah m)[j]:=Dy ω ω;have b:(0:Int)<(d:Int):=ω;have c:0<=r*1000000000+(Ah m)[j]:=ω;have f:0<=(r*1000000000+(Ah m)[j]) / (d:Int):=Int.ediv_nonneg c ω;have u:(r*1000000000+(Ah m)[j]) / (d:Int)<1000000000:=(by apply Int.ediv_lt_of_lt_mul b;have:(r+1)*1000000000<=d*1000000000:=Int.mul_le_mul_of_nonneg_right ω δ;omega);have D:Cz ((r*1000000000+(Ah m)[j]) / (d:Int))=(r*1000000000+(Ah m)[j]) / (d:Int):=Hn f ω;have y:=Int.emod_nonneg (r*1000000000+(Ah m)[j]) (ω:(d:Int)≠0);have x:=Int.emod_lt_of_pos (r*1000000000+(Ah m)[j]) b;have B:Aa ((j:Int)-1)=(j:Int)-1:=ξ;refine .inl ⟨((r*1000000000+(Ah m)[j]) % (d:Int),(j:Int)-1,o.set j ((r*1000000000+(Ah m)[j]) / (d:Int))),?_,⟨j,rfl,ω,by simpa using A,g.set _ f u,y,x,?_⟩,ψ⟩
   .simp only[X,V,Ak,Ez rfl hj,Ez rfl h,Ad,I,G,E,Mn c ω b,Mm c b,D,B,Ho rfl]
   .have d1:(o.set j ((r*1000000000+(Ah m)[j]) / (d:Int))).drop j=((r*1000000000+(Ah m)[j]) / (d:Int))::o.drop (j+1):=(by rw[drop_eq_getElem_cons (by simpa using h),drop_set_of_lt ω];simp);rw[d1,drop_eq_getElem_cons hj];simp only[Ap];rw[<-z];have:=Int.mul_ediv_add_emod (r*1000000000+(Ah m)[j]) (d:Int);grind
 .rintro⟨r,o⟩ ⟨h2,h3,U,S,R⟩;simp only[];have J:=Ip h3.u32;have l:((m / d:Nat):Int)=Ap o/\((m % d:Nat):Int)=r:=(by have b:(0:Int)<(d:Int):=ω;have e:=Int.ediv_emod_unique b (r:=r) (q:=Ap o) (a:=(m:Int));have:=e.2 ⟨by rw[<-R];grind,U,S⟩;exact⟨by rw[Int.natCast_ediv];exact this.1,by rw[Int.natCast_emod];exact this.2⟩);rw[Sj o ω,Ad,Mo h3 l.1.symm,l.2]
theorem Afz (hx:0<=x) (c:x<1000000000) (hy:0<=y) (b:y<1000000000):0<=x*y/\x*y<=999999998000000001:=by refine⟨Int.mul_nonneg hx hy,?_⟩;have h1:x*y<=999999999*y:=Int.mul_le_mul_of_nonneg_right ω hy;omega
theorem Abb (m n:Nat) (hm:Bp m<549755813888) (hn:Bp n<549755813888):Qb (Ah m) (Ah n)=some (Ah (m*n)):=by
 unfold Qb;unfold Bp at hm hn;by_cases hz:m=0\/n=0
 .have:(show OB from bif (((Ah m).length:Int)==(0:Int)) then some true else some (((Ah n).length:Int)==(0:Int)))=some true:=by
   show (bif (((Ah m).length:Int)==(0:Int)) then some true else some (((Ah n).length:Int)==(0:Int)))=some true;by_cases h:m=0
   .subst h;rw[Hc];rfl
   .have y:n=0:=ω;subst y;rw[Cy (by have:=J5 h;have:(Ah m).length≠0:=λe=>this (Fu.1 e);omega),Hc];rfl
  rw[this,Ad,Ak];have:m*n=0:=(by rcases hz with rfl|rfl <;> simp);rw[this,Hc]
 .have I:m≠0:=ω;have y:n≠0:=ω;have aa:(Ah m).length≠0:=λe=>J5 I (Fu.1 e);have a8:(Ah n).length≠0:=λe=>J5 y (Fu.1 e);simp only[Cy (ω:((Ah m).length:Int)≠0),Cy (ω:((Ah n).length:Int)≠0),Am,Ad];have hw:Aa (((Ah m).length:Int)+((Ah n).length:Int))=(((Ah m).length+(Ah n).length:Nat):Int):=ξ;rw[hw,Lm rfl rfl (Nat.le_refl _) ω ω];simp only[Ad];have ha:=Gl m;have hb:=Gl n;refine Jp (λ(i,o)=>∃k:Nat,i=k/\k<=(Ah m).length/\o.length=(Ah m).length+(Ah n).length/\Ck o/\o.drop (k+(Ah n).length)=replicate ((Ah m).length-k) 0/\Ap o=Ap ((Ah m).take k)*n) (λ(i,_)=>(Ah m).length-i.toNat) (λo=>o.length=(Ah m).length+(Ah n).length/\Ck o/\Ap o=((m*n:Nat):Int)) ⟨0,rfl,ω,ψ,Ck.replicate _,by rw[drop_replicate];congr 1;omega,by simp[Ae1,Ap]⟩ ?_ ?_
  .rintro⟨i,o⟩ ⟨k,rfl,hk,R,D,L,G⟩;rcases Cf k (Ah m).length with h|h
   .have hx:=ha.get h;have e4:=Nj h ω;have e5:decide ((k:Int)<((Ah m).length:Int))=true:=Ao ω;simp only[e5,Ak];refine .inl (Ae0 (Ey (λ(c,j,o')=>∃q:Nat,j=q/\q<=(Ah n).length/\o'.length=(Ah m).length+(Ah n).length/\Ck o'/\o'.drop (k+(Ah n).length)=replicate ((Ah m).length-k) 0/\0<=c/\c<1000000000 /\ Ap o' + 1000000000 ^ (k+q)*c=Ap o+1000000000 ^ k*((Ah m)[k]*Ap ((Ah n).take q))) (λ(_,j,_)=>(Ah n).length-j.toNat) (λ(c,j,o')=>o'.length=(Ah m).length+(Ah n).length/\Ck o'/\o'.drop (k+(Ah n).length)=replicate ((Ah m).length-k) 0/\0<=c/\c<1000000000 /\ Ap o' + 1000000000 ^ (k+(Ah n).length)*c=Ap o+1000000000 ^ k*((Ah m)[k]*n)) ⟨0,rfl,ω,R,D,L,ω,ω,by simp[Ap]⟩ ?_ ?_))
    .rintro⟨c,j,o'⟩ ⟨q,rfl,hq,l,b,f,z,hc,x⟩;rcases Cf q (Ah n).length with hq'|hq'
     .have hy:=hb.get hq';have g:k+q<o'.length:=ω;have a1:=b.get g;have a6:=Afz hx.1 hx.2 hy.1 hy.2;have Y:Bb (Ah m)[k]=(Ah m)[k]:=Dy ω ω;have X:Bb (Ah n)[q]=(Ah n)[q]:=Dy ω ω;have V:Bb ((Ah m)[k]*(Ah n)[q])=(Ah m)[k]*(Ah n)[q]:=Dy ω ω;have U:Bb o'[k+q]=o'[k+q]:=Dy ω ω;have S:Bb ((Ah m)[k]*(Ah n)[q]+o'[k+q])=(Ah m)[k]*(Ah n)[q]+o'[k+q]:=Dy ω ω;have N:Bb ((Ah m)[k]*(Ah n)[q]+o'[k+q]+c)=(Ah m)[k]*(Ah n)[q]+o'[k+q]+c:=Dy ω ω;have e6:=Nj hq' ω;have e7:decide ((q:Int)<((Ah n).length:Int))=true:=Ao ω;have M:Aa ((k:Int)+(q:Int))=((k+q:Nat):Int):=ξ;generalize hs:(Ah m)[k]*(Ah n)[q]+o'[k+q]+c=s at N;have A:0<=s:=ω;have a7:s<1000000000000000000:=ω;have E:Cz (s % 1000000000)=s % 1000000000:=Hn ω ω;refine .inl ⟨(s / 1000000000,((q+1:Nat):Int),o'.set (k+q) (s % 1000000000)),?_,⟨q+1,rfl,ω,by simpa using l,b.set _ ω ω,?_,ω,ω,?_⟩,ζ⟩
      .simp only[e7,Ak,Ez rfl h,Ez rfl hq',M,Ez rfl g,Ad,Y,X,V,U,S,hs,N,Mm A (show (0:Int)<1000000000 by decide),Mn A (show s<=_ by omega) (show (0:Int)<1000000000 by decide),E,e6,Ho rfl]
      .rw[drop_set_of_lt ω];exact f
      .rw[Nd _ g,Hv _ hq'];have:=Int.mul_ediv_add_emod s 1000000000;have Z:(1000000000:Int) ^ (k+(q+1))=1000000000 ^ (k+q)*1000000000:=(by rw[<-Nat.add_assoc,Int.pow_succ]);have p2:(1000000000:Int) ^ (k+q)=1000000000 ^ k*1000000000 ^ q:=Int.pow_add ..;rw[Z];grind
     .have:q=(Ah n).length:=ω;subst this;refine .inr ⟨(c,_,o'),by simp;rfl,l,b,f,z,hc,?_⟩;rw[Dq,G7]at x;exact x
    .rintro⟨c,j,o'⟩ ⟨l,b,f,z,hc,x⟩;have M:Aa ((k:Int)+((Ah n).length:Int))=((k+(Ah n).length:Nat):Int):=ξ;have g:k+(Ah n).length<o'.length:=ω;have E:Cz c=c:=Hn ω ω;have u:o'[k+(Ah n).length]=0:=(by have:=congrArg head? f;rw[head?_drop,B4 g]at this;have B:(replicate ((Ah m).length-k) (0:Int)).head? = some 0:=(by cases hh:(Ah m).length-k with| zero=>omega| succ t=>rfl);rw[B]at this;exact Ew this);refine⟨_,by simp only[M,Ez rfl g,Ad,E,e4,Ho rfl];rfl,_,rfl,⟨k+1,rfl,ω,by simpa using l,b.set _ z hc,?_,?_⟩,ζ⟩
     .rw[drop_set_of_lt ω,show k+1+(Ah n).length=(k+(Ah n).length)+1 by omega,<-drop_drop,f,drop_replicate];congr 1
     .rw[Nd _ g,u,Hv _ h,Int.add_mul,<-G];grind
   .have J:k=(Ah m).length:=ω;subst J;refine .inr ⟨o,ψ,R,D,?_⟩;rw[Dq,G7]at G;rw[G];simp
  .rintro o ⟨h2,h3,h4⟩;rw[Sj o ω,Ad,Mo h3 h4]
theorem As6 (a:List Int) (m:Nat) (ha:Ck a) (X:a.length<1099511627776) (V:m<1000000000) : ∃o,W5 a m=some o/\o.length=a.length+1/\Ck o/\Ap o=Ap a*m:=by
 unfold W5;have u:Aa ((a.length:Int)+1)=((a.length+1:Nat):Int):=by rw[Aa,B6] <;> omega
 rw[u,Lm rfl rfl (Nat.le_refl _) ω ω];simp only[Ad];refine Ey (λ(c,i,o)=>∃k:Nat,i=k/\k<=a.length/\o.length=a.length+1/\Ck o/\o.drop k=replicate (a.length+1-k) 0/\0<=c/\c<1000000000/\Ap o+1000000000 ^ k*c=Ap (a.take k)*m) (λ(_,i,_)=>a.length-i.toNat) (λ(c,o)=>o.length=a.length+1/\Ck o/\o.drop a.length = [0]/\0<=c/\c<1000000000/\Ap o+1000000000 ^ a.length*c=Ap a*m) ⟨0,rfl,ω,ψ,Ck.replicate _,ψ,ω,ω,by simp[Ap,Ae1]⟩ ?_ ?_
 .rintro⟨c,i,o⟩ ⟨k,rfl,hk,B,q,g,z,hc,I⟩;rcases Cf k a.length with h|h
  .have hx:=ha.get h;have f:k<o.length:=ω;have G:=Afz hx.1 hx.2 (show (0:Int)<=m by omega) ω;have U:=Nj h ω;have S:decide ((k:Int)<(a.length:Int))=true:=Ao ω;have E:Bb a[k]=a[k]:=Dy ω ω;have D:Bb (a[k]*(m:Int))=a[k]*m:=Dy ω ω;have A:Bb (a[k]*(m:Int)+c)=a[k]*m+c:=Dy ω ω;have b:o[k]=0:=(by have:=congrArg head? g;rw[head?_drop,B4 f]at this;have l:(replicate (a.length+1-k) (0:Int)).head? = some 0:=(by cases Y:a.length+1-k with| zero=>omega| succ t=>rfl);rw[l]at this;exact Ew this);generalize L:a[k]*(m:Int)+c=s at A;have j:0<=s:=ω;have J:s<1000000000000000000:=ω;have x:Cz (s % 1000000000)=s % 1000000000:=Hn ω ω;refine .inl ⟨(s / 1000000000,((k+1:Nat):Int),o.set k (s % 1000000000)),?_,⟨k+1,rfl,ω,by simpa using B,q.set _ ω ω,?_,ω,ω,?_⟩,ζ⟩
   .simp only[S,Ak,Ez rfl h,Ez rfl f,Ad,E,D,L,A,Mm j (show (0:Int)<1000000000 by decide),Mn j (show s<=_ by omega) (show (0:Int)<1000000000 by decide),x,U,Ho rfl]
   .rw[drop_set_of_lt ω,<-drop_drop,g,drop_replicate];congr 1
   .rw[Nd _ f,b,Hv _ h,Int.pow_succ];have:=Int.mul_ediv_add_emod s 1000000000;grind
  .have y:k=a.length:=ω;subst y;refine .inr ⟨(c,o),ψ,B,q,by rw[g];simp,z,hc,by rwa [Dq]at I⟩
 .rintro⟨c,o⟩ ⟨h2,h3,g,R,N,M⟩;have f:a.length<o.length:=ω;have x:Cz c=c:=Hn ω ω;have b:o[a.length]=0:=(by have:=congrArg head? g;rw[head?_drop,B4 f]at this;exact Ew this);refine⟨o.set a.length c,by simp only[Ez rfl f,Ad,x,Ho rfl],by simpa using h2,h3.set _ R N,?_⟩;rw[Nd _ f,b,<-M];grind
theorem Sk {α:Type} {l:List α} {i:Int} (hi:i=k) (hk:k<n) (h:off+k<l.length):Lc l off n i=some l[off+k]:=by subst hi;have h1:(0:Int)<=(k:Int):=ω;have h2:(k:Int)<(n:Int):=ω;simp[Lc,hk,h]
theorem A4q {k tb B:Int} (i:0<P) (u:V=j+P*tb) (l:0<=j) (x:U=k+P*hb) (s:k<P) (hq:q*V<=U) (c:0<=g) (h:hb<g*tb) (b:0<=tb):q<g:=by
 rcases Int.lt_or_le q g with h'|h'
 .exact h'
 .exfalso;have f:0<=V:=(by have:=Int.mul_nonneg (Int.le_of_lt i) b;omega);have h1:g*V<=q*V:=Int.mul_le_mul_of_nonneg_right h' f;have h2:g*(P*tb)<=g*V:=Int.mul_le_mul_of_nonneg_left ω c;have h3:P*(hb+1)<=P*(g*tb):=Int.mul_le_mul_of_nonneg_left ω (Int.le_of_lt i);have z:g*(P*tb)=P*(g*tb):=(by grind);have y:P*(hb+1)=P*hb+P:=(by grind);omega
theorem As7 {k tb:Int} (i:0<P) (y:V=j+P*tb) (s:j<P) (z:U=k+P*hb) (u:0<=k) (hq:U<(q+1)*V) (l:0<=g) (hgt:g<=tb+1) (h:g*tb<=hb) (b:0<V):g<=q+1:=by
 rcases Int.lt_or_le (q+1) g with h'|h'
 .exfalso;have f:0<=g-1:=by
   rcases Int.lt_or_le g 1 with h2|h2
   .have:g=0:=ω;subst this;have c:q+1<0:=h';have:(q+1)*V<0:=Int.mul_neg_of_neg_of_pos c b;have h0:0<=hb:=(by simpa using h);have:=Int.mul_nonneg (Int.le_of_lt i) h0;omega
   .omega
  have h1:(q+1)*V<=(g-1)*V:=Int.mul_le_mul_of_nonneg_right ω (Int.le_of_lt b);have x:P*(tb+1)=P*tb+P:=(by grind);have h2:(g-1)*V<=(g-1)*(P*(tb+1)):=Int.mul_le_mul_of_nonneg_left ω f;have h3:(g-1)*(P*(tb+1))=P*(g*tb+(g-tb-1)):=(by grind);have A:P*(g*tb+(g-tb-1))<=P*hb:=Int.mul_le_mul_of_nonneg_left ω (Int.le_of_lt i);omega
 .exact h'
theorem A4r {A C:Type} {X:Option (A×C)} {Q:A->C->Prop} (h:∃r,X=some r/\Q r.1 r.2):∃q o,X=some (q,o)/\Q q o:=by obtain⟨⟨a,c⟩,h1,h2⟩:=h;exact⟨a,c,h1,h2⟩
theorem al1 (k:g*t+r=h):(g-1)*t+(r+t)=h:=by grind
theorem al2 {p:Int} (e:s-1000000000*d=x-b-p):o+P*(s-x)-P*1000000000*d=(o-P*b)-P*p:=by grind
theorem al3 (b X K g A y:Int):b-X*(g*A)-X*K*(g*y)=b-X*(g*(A+K*y)):=by grind
theorem al4 {c:Int} (h:u+X*(W+N*c-U)-X*N*b=u-X*(g*V)):X*(U-g*V)=X*(W+N*(c-b)):=by grind
theorem al5 (u X q:Int):u-X*q-u=X*(-q):=by grind
theorem al6 (h:o-P*b=r):o+P*(x-b-x)=r:=by grind
theorem al7 {c:Int} (g:x+y+c=s) (f:1000000000*(s / 1000000000)+s % 1000000000=s) (h:b+X*K*c=o+X*A):b+X*K*(s % 1000000000-x)+X*K*1000000000*(s / 1000000000)=o+X*(A+K*y):=by grind
theorem al8 {f c:Int} (h1:o-X*N*b=u-X*((q+1)*V)) (h2:u+X*(W+N*f-U)+X*N*c=o+X*V):X*(U-q*V)=X*(W+N*(f-b+c)):=by grind
theorem al9 {c f:Int} (h1:g+P*c=o+X*V) (h2:o-P*b=u-X*((q+1)*V)) (h3:f=b-c):g+P*(0-f)=u-X*(q*V):=by grind
theorem gtb (k:g*t+r=h):g*(t*1000000000+x)=(h-r)*1000000000+g*x:=by subst k;grind
theorem Ak3 (h:(1000000000:Int) ^ k*x=1000000000 ^ k*y):x=y:=Int.eq_of_mul_eq_mul_left (by have:=L6 k;omega) h
theorem As8 {o u:List Int} (b:off<=o.length) (hu:off<=u.length) (h:o.take off=u.take off):Ap o-Ap u=1000000000 ^ off*(Ap (o.drop off)-Ap (u.drop off)):=by rw[Pd o off b,Pd u off hu,h];grind
theorem Af0 (h:Ck l) (k:Nat):0<=Ap (l.drop k):=Ip (h.drop k).u32
theorem A4s {D:List Int} (b:Ck D) (h2:2<=n) (i:n<D.length) (g:Ap D<1000000000 ^ (n+1)) : Ap D=Ap (D.take (n-2))+1000000000 ^ (n-2)*((D[n]*1000000000+D[n-1])*1000000000+D[n-2]):=by
 have e:=Pd D (n+1) i;have h0:Ap (D.drop (n+1))=0:=by
  have s:=Af0 b (n+1);have ht:=Ip ((b.take (n+1)).u32);rcases Int.lt_or_le 0 (Ap (D.drop (n+1))) with h|h
  .have:(1000000000:Int) ^ (n+1)*1<=1000000000 ^ (n+1)*Ap (D.drop (n+1)):=Int.mul_le_mul_of_nonneg_left h (Int.le_of_lt (L6 _));omega
  .omega
 rw[h0,Int.mul_zero,Int.add_zero]at e;obtain⟨t,rfl⟩:∃t,n=t+2:=⟨n-2,ω⟩;have q:=Hv D (k:=t) ω;have l:=Hv D (k:=t+1) ω;have j:=Hv D (k:=t+2) ω;have f:(1000000000:Int) ^ (t+1)=1000000000 ^ t*1000000000:=Int.pow_succ ..;have c:(1000000000:Int) ^ (t+2)=1000000000 ^ (t+1)*1000000000:=Int.pow_succ ..;have i1:t+2-2=t:=rfl;have i2:t+2-1=t+1:=rfl;simp only[i1,i2];rw[e,j,l,q,c,f];grind
theorem A4t {v:List Int} (h2:2<=n) (g:v.length=n) : Ap v=Ap (v.take (n-2))+1000000000 ^ (n-2)*(v[n-1]*1000000000+v[n-2]):=by obtain⟨t,rfl⟩:∃t,n=t+2:=⟨n-2,ω⟩;have f:=Hv v (k:=t) ω;have b:=Hv v (k:=t+1) ω;have e:v.take (t+1+1)=v:=Im ω;rw[e]at b;have c:(1000000000:Int) ^ (t+1)=1000000000 ^ t*1000000000:=Int.pow_succ ..;have i1:t+2-2=t:=rfl;have i2:t+2-1=t+1:=rfl;simp only[i1,i2];rw[b,f,c];grind
set_option maxHeartbeats 1000000 in
theorem A4u (v u:List Int) (off n:Nat) (hv:Ck v) (hu:Ck u) (hn:v.length=n) (h2:2<=n) (c7:n<1099511627776) (bp:500000000<=v[n-1]) (X:off+n<u.length) (hT:Ap (u.drop off)<Ap v*1000000000) : ∃q o,Z9 off (n+1) v u=some (q,o)/\o.length=u.length/\Ck o/\0<=q/\q<1000000000/\Ap o=Ap u-1000000000 ^ off*(q*Ap v)/\0<=Ap (o.drop off)/\Ap (o.drop off)<Ap v:=by
 have b7:=Ln hv;rw[hn]at b7;have cb:(u.drop off).length=u.length-off:=length_drop;have A:=hu.drop off;have bo:=Ip A.u32;have b9:Ap (u.drop off)<1000000000 ^ (n+1):=by rw[Int.pow_succ];omega
 have ab:=A4s A h2 ω b9;have ao:=A4t h2 hn;have gd:∀i (h:i<(u.drop off).length),(u.drop off)[i]=u[off+i]' ω:=λi h=>getElem_drop;rw[gd,gd,gd]at ab;have bt:=hu.get (i:=off+n) ω;have bv:=hu.get (i:=off+(n-1)) ω;have bu:=hu.get (i:=off+(n-2)) ω;have bw:=hv.get (i:=n-1) ω;have ad:=hv.get (i:=n-2) ω;have hP:=L6 (n-2);have b8:=Ip ((hv.take (n-2)).u32);have aa:=Ln (hv.take (n-2));rw[length_take,Nat.min_eq_left ω]at aa;have bb:=Ip ((A.take (n-2)).u32);have ba:=Ln (A.take (n-2));rw[length_take,Nat.min_eq_left ω]at ba;have y:0<Ap v:=by have:(1000000000:Int) ^ (n-2)*1<=1000000000 ^ (n-2)*(v[n-1]*1000000000+v[n-2]):=Int.mul_le_mul_of_nonneg_left ω (Int.le_of_lt hP);omega
 generalize hq:Ap (u.drop off) / Ap v=q;have bi:q*Ap v<=Ap (u.drop off):=by rw[<-hq];exact Int.ediv_mul_le _ ω
 have ar:Ap (u.drop off)<(q+1)*Ap v:=by rw[<-hq];have:=Int.lt_ediv_add_one_mul_self (Ap (u.drop off)) y;exact this
 have ag:0<=q:=by rw[<-hq];exact Int.ediv_nonneg bo ω
 have bg:q<1000000000:=by rw[<-hq];exact Int.ediv_lt_of_lt_mul y (by rw[Int.mul_comm];exact hT)
 have l:(0:Int)<v[n-1]:=ω;generalize ak:u[off+n]*1000000000+u[off+(n-1)]=head at ab;have am:0<=head:=ω;have c9:head<=v[n-1]*1000000000+v[n-2]:=by
  rcases Int.lt_or_le (v[n-1]*1000000000+v[n-2]) head with h|h
  .exfalso;have a1:(1000000000:Int) ^ (n-2)*((v[n-1]*1000000000+v[n-2]+1)*1000000000)<=1000000000 ^ (n-2)*(head*1000000000+u[off+(n-2)]):=Int.mul_le_mul_of_nonneg_left ω (Int.le_of_lt hP);have a2:Ap v*1000000000<(1000000000 ^ (n-2)*(v[n-1]*1000000000+v[n-2]+1))*1000000000:=(by have:(1000000000:Int) ^ (n-2)*(v[n-1]*1000000000+v[n-2]+1)=1000000000 ^ (n-2)*(v[n-1]*1000000000+v[n-2])+1000000000 ^ (n-2):=(by grind);omega);have a3:((1000000000:Int) ^ (n-2)*(v[n-1]*1000000000+v[n-2]+1))*1000000000=1000000000 ^ (n-2)*((v[n-1]*1000000000+v[n-2]+1)*1000000000):=(by grind);omega
  .exact h
 have ca:0<=head / v[n-1]:=Int.ediv_nonneg am ω;have bm:head / v[n-1]<=1000000001:=by have:head / v[n-1]<1000000002:=Int.ediv_lt_of_lt_mul l ω;omega
 have bf:=Int.emod_nonneg head (ω:v[n-1]≠0);have bx:=Int.emod_lt_of_pos head l;have bn:=Int.mul_ediv_add_emod head v[n-1];unfold Z9;have w1:Aa ((v.length:Int)-1)=((n-1:Nat):Int):=by rw[Aa,B6] <;> omega
 have w2:Aa ((v.length:Int)-2)=((n-2:Nat):Int):=by rw[Aa,B6] <;> omega
 have w3:(v.length:Int)=((n:Nat):Int):=ω;have x1:Bb u[off+n]=u[off+n]:=Dy ω ω;have x2:Bb (u[off+n]*1000000000)=u[off+n]*1000000000:=Dy ω ω;have x3:Bb u[off+(n-1)]=u[off+(n-1)]:=Dy ω ω;have x4:Bb (u[off+n]*1000000000+u[off+(n-1)])=head:=by rw[Bb,Dy ω ω,ak]
 have x5:Bb v[n-1]=v[n-1]:=Dy ω ω;have x6:Bb v[n-2]=v[n-2]:=Dy ω ω;have x7:Bb u[off+(n-2)]=u[off+(n-2)]:=Dy ω ω;rw[w1,w2,Ez rfl (ω:n-1<v.length),Ad,Ez rfl (ω:n-2<v.length),Ad,w3,Sk rfl (ω:n<n+1) ω,Ad,Sk rfl (ω:n-1<n+1) ω,Ad,x1,x2,x3,x4,x5,x6,Mn am ω l,Ad,Mm am l,Ad];refine A4r (Ey (λ(g,rest)=>g*v[n-1]+rest=head/\0<=rest/\rest<2000000000/\q<=g/\g<=1000000001) (λ(g,_)=>g.toNat) (λg=>q<=g/\g<=q+1/\g<=1000000000) ⟨by rw[Int.mul_comm];exact bn,bf,ω,?_,bm⟩ ?_ ?_)
 .rcases Int.lt_or_le (head / v[n-1]) q with h|h
  .exfalso;have a1:(head / v[n-1]+1)*v[n-1]<=q*v[n-1]:=Int.mul_le_mul_of_nonneg_right ω ω;have a2:head<(head / v[n-1]+1)*v[n-1]:=Int.lt_ediv_add_one_mul_self head l;have a3:q*(1000000000 ^ (n-2)*(v[n-1]*1000000000+v[n-2]))<=q*Ap v:=Int.mul_le_mul_of_nonneg_left ω ag;have a4:(1000000000:Int) ^ (n-2)*((head+1)*1000000000)<=1000000000 ^ (n-2)*(q*(v[n-1]*1000000000+v[n-2])):=(by apply Int.mul_le_mul_of_nonneg_left _ (Int.le_of_lt hP);have b1:(head+1)*1000000000<=q*v[n-1]*1000000000:=ω;have b2:0<=q*v[n-2]:=Int.mul_nonneg ag ad.1;have b3:q*(v[n-1]*1000000000+v[n-2])=q*v[n-1]*1000000000+q*v[n-2]:=(by grind);omega);have a5:q*((1000000000:Int) ^ (n-2)*(v[n-1]*1000000000+v[n-2]))=1000000000 ^ (n-2)*(q*(v[n-1]*1000000000+v[n-2])):=(by grind);have a6:(1000000000:Int) ^ (n-2)*((head+1)*1000000000)=1000000000 ^ (n-2)*(head*1000000000)+1000000000 ^ (n-2)*1000000000:=(by grind);have a7:(1000000000:Int) ^ (n-2)*(head*1000000000+u[off+(n-2)])=1000000000 ^ (n-2)*(head*1000000000)+1000000000 ^ (n-2)*u[off+(n-2)]:=(by grind);have a8:(1000000000:Int) ^ (n-2)*(u[off+(n-2)]+1)<=1000000000 ^ (n-2)*1000000000:=Int.mul_le_mul_of_nonneg_left ω (Int.le_of_lt hP);have a9:(1000000000:Int) ^ (n-2)*(u[off+(n-2)]+1)=1000000000 ^ (n-2)*u[off+(n-2)]+1000000000 ^ (n-2):=(by grind);omega
  .exact h
 .rintro⟨g,rest⟩ ⟨k1,k2,k3,k4,k5⟩;have S:0<=g:=ω;have w4:Bb (v[n-1])=v[n-1]:=x5;have af:∀(hgt:q<g),(some (Sum.inl ((Bb (g-1)),(Bb (rest+v[n-1])))):Option ((Int×Int)⊕Int))=some (.inl (g-1,rest+v[n-1])):=(by intro hgt;rw[show Bb (g-1)=g-1 from Dy ω ω,show Bb (rest+v[n-1])=rest+v[n-1] from Dy ω ω]);have stay:∀(hr:rest<1000000000) (hgt:q<g),(g-1)*v[n-1]+(rest+v[n-1])=head/\0<=rest+v[n-1]/\rest+v[n-1]<2000000000/\q<=g-1/\g-1<=1000000001:=(by intro hr hgt;exact⟨al1 k1,ω,ω,ω,ω⟩);by_cases hr:rest<1000000000
  .by_cases Y:g>=1000000000
   .refine .inl ⟨(g-1,rest+v[n-1]),?_,stay hr ω,ζ⟩;simp only[Ao hr,Ak,Ao Y,Ad];exact af ω
   .have br:=Afz S ω ad.1 ad.2;have y1:Bb (g*v[n-2])=g*v[n-2]:=Dy ω ω;have y2:Bb (rest*1000000000)=rest*1000000000:=Dy ω ω;have y3:Bb (rest*1000000000+u[off+(n-2)])=rest*1000000000+u[off+(n-2)]:=Dy ω ω;have az:g*(v[n-1]*1000000000+v[n-2])=(head-rest)*1000000000+g*v[n-2]:=gtb k1;simp only[Ao hr,Ak,As Y,Am,Sk rfl (ω:n-2<n+1) (ω:off+(n-2)<u.length),Ad,y1,x7,y2,y3];by_cases ae:g*v[n-2]>rest*1000000000+u[off+(n-2)]
    .have hgt:q<g:=A4q (P:=1000000000 ^ (n-2)) (tb:=v[n-1]*1000000000+v[n-2]) (hb:=head*1000000000+u[off+(n-2)]) (B:=0) hP ao b8 ab ba bi S ω ω;refine .inl ⟨(g-1,rest+v[n-1]),?_,stay hr hgt,ζ⟩;rw[Ao ae,Ak];exact af hgt
    .refine .inr ⟨g,by rw[As ae,Am],k4,?_,ω⟩;exact As7 (P:=1000000000 ^ (n-2)) (tb:=v[n-1]*1000000000+v[n-2]) (hb:=head*1000000000+u[off+(n-2)]) hP ao aa ab bb ar S ω ω y
  .refine .inr ⟨g,by simp only[As hr,Am,Ad],k4,?_⟩;have Y:g<=1000000000:=by
    rcases Int.lt_or_le 1000000000 g with h|h
    .exfalso;have:g=1000000001:=ω;subst this;omega
    .exact h
   refine⟨?_,Y⟩;have az:g*(v[n-1]*1000000000+v[n-2])=(head-rest)*1000000000+g*v[n-2]:=gtb k1;have bq:g*v[n-2]<=1000000000*v[n-2]:=Int.mul_le_mul_of_nonneg_right Y ad.1;exact As7 (P:=1000000000 ^ (n-2)) (tb:=v[n-1]*1000000000+v[n-2]) (hb:=head*1000000000+u[off+(n-2)]) hP ao aa ab bb ar S ω ω y
 .rintro g ⟨k1,k2,k3⟩;have S:0<=g:=ω;refine Ey (λ(b,i,o)=>∃k:Nat,i=k/\k<=n/\o.length=u.length/\Ck o/\o.take off=u.take off/\o.drop (off+k)=u.drop (off+k)/\0<=b/\b<=1000000001/\Ap o-1000000000 ^ (off+k)*b=Ap u-1000000000 ^ off*(g*Ap (v.take k))) (λ(_,i,_)=>n-i.toNat) (λ(b,o)=>o.length=u.length/\Ck o/\o.take off=u.take off/\o.drop (off+n)=u.drop (off+n)/\0<=b/\b<=1000000001/\Ap o-1000000000 ^ (off+n)*b=Ap u-1000000000 ^ off*(g*Ap v)) ⟨0,rfl,ω,rfl,hu,rfl,rfl,ω,ω,by simp[Ap]⟩ ?_ ?_
  .rintro⟨b,i,o⟩ ⟨k,rfl,hk,ho,I,M,L,b6,b5,f⟩;rcases Cf k n with h|h
   .have E:off+k<o.length:=ω;have J:k<v.length:=ω;have hx:=I.get E;have hy:=hv.get J;have e4:=Nj h ω;have e5:decide ((k:Int)<(n:Int))=true:=Ao ω;have av:0<=g*v[k]:=Int.mul_nonneg S hy.1;have bz:g*v[k]<=1000000000*v[k]:=Int.mul_le_mul_of_nonneg_right k3 hy.1;have y1:Bb v[k]=v[k]:=Dy ω ω;have y2:Bb (g*v[k])=g*v[k]:=Dy ω ω;have y3:Aa o[off+k]=o[off+k]:=B6 ω ω;generalize au:g*v[k]=p at *;have y4:Aa (o[off+k]-b)=o[off+k]-b:=B6 ω ω;have y5:Aa (p % 1000000000)=p % 1000000000:=B6 ω ω;have y6:Aa (o[off+k]-b-p % 1000000000)=o[off+k]-b-p % 1000000000:=B6 ω ω;have y7:Aa (p / 1000000000)=p / 1000000000:=B6 ω ω;simp only[e5,Ak,Sk rfl (ω:k<n+1) E,Ez rfl J,Ad,y1,y2,au,y3,y4,Mm av (show (0:Int)<1000000000 by decide),Mn av (show p<=_ by omega) (show (0:Int)<1000000000 by decide),y5,y6,y7];refine .inl (Ae0 (Ey (λ(b',s)=>∃t:Nat,b'=p / 1000000000+t/\s=o[off+k]-b-p % 1000000000+t*1000000000/\s<1000000000/\t<=3) (λ(_,s)=>(-s).toNat) (λ(b',s)=>∃t:Nat,b'=p / 1000000000+t/\s=o[off+k]-b-p % 1000000000+t*1000000000/\s<1000000000/\0<=s/\t<=2) ⟨0,ψ,ψ,ω,ω⟩ ?_ ?_))
    .rintro⟨b',s⟩ ⟨t,rfl,hs,ac,ht⟩;by_cases G:s<0
     .refine .inl ⟨(p / 1000000000+(t+1:Nat),s+1000000000),?_,⟨t+1,rfl,by rw[hs];simp;omega,ω,ω⟩,ζ⟩;rw[Ao G,Ak,show Aa (p / 1000000000+(t:Int)+1)=p / 1000000000+((t+1:Nat):Int) by rw[Aa,B6] <;> omega,show Aa (s+1000000000)=s+1000000000 from B6 ω ω]
     .exact .inr ⟨(p / 1000000000+t,s),by rw[As G,Am],t,rfl,hs,ac,ω,ω⟩
    .rintro⟨b',s⟩ ⟨t,rfl,hs,ac,G,ht⟩;have y8:Cz s=s:=Hn ω ω;refine⟨.inl (p / 1000000000+t,((k+1:Nat):Int),o.set (off+k) s),by simp only[Sk rfl (ω:k<n+1) E,Ad,y8,e4];rw[Ho (n:=off+k) ω],_,rfl,⟨k+1,rfl,ω,by simpa using ho,I.set _ G ac,?_,?_,ω,ω,?_⟩,ζ⟩
     .rw[take_set_of_le ω];exact M
     .rw[drop_set_of_lt ω,show off+(k+1)=(off+k)+1 by omega,<-drop_drop,L,drop_drop]
     .rw[Nd _ E,Hv v J,show off+(k+1)=(off+k)+1 by omega,Int.pow_succ];have ay:=Int.mul_ediv_add_emod p 1000000000;have pa:(1000000000:Int) ^ (off+k)=1000000000 ^ off*1000000000 ^ k:=Int.pow_add ..;have eA:s-1000000000*(p / 1000000000+(t:Int))=o[off+k]-b-p:=(by rw[hs];omega);rw[al2 eA,f,<-au,pa];exact al3 _ _ _ _ _ _
   .have aj:k=n:=ω;subst aj;refine .inr ⟨(b,o),ψ,ho,I,M,L,b6,b5,?_⟩;rw[Im ω]at f;exact f
  .rintro⟨b,o⟩ ⟨ho,I,M,L,b6,b5,f⟩;have hV:=y;have ah:off+n<o.length:=ω;have ax:o[off+n]=u[off+n]:=(by have:=congrArg head? L;rw[head?_drop,head?_drop,B4 ah,B4 X]at this;exact Ew this);have hE:Ap (u.drop (off+n))=u[off+n]:=by
    have a1:=Pd (u.drop off) (n+1) ω;have a2:=Ip (((hu.drop off).take (n+1)).u32);have a3:=Af0 (hu.drop off) (n+1);have a4:Ap ((u.drop off).drop (n+1))=0:=by
     rcases Int.lt_or_le 0 (Ap ((u.drop off).drop (n+1))) with h|h
     .have:(1000000000:Int) ^ (n+1)*1<=1000000000 ^ (n+1)*Ap ((u.drop off).drop (n+1)):=Int.mul_le_mul_of_nonneg_left h (Int.le_of_lt (L6 _));omega
     .omega
    rw[drop_eq_getElem_cons X];simp only[Ap];rw[drop_drop,show off+(n+1)=off+n+1 by omega]at a4;rw[a4];omega
   have main:∀o':List Int,o'.length=u.length->Ck o'->o'.take off=u.take off->o'.drop (off+n)=u.drop (off+n)->0<=Ap ((o'.drop off).take n)/\Ap ((o'.drop off).take n)<1000000000 ^ n /\
     Ap o'=Ap u+1000000000 ^ off*(Ap ((o'.drop off).take n)+1000000000 ^ n*u[off+n]-Ap (u.drop off)):=by intro o' l1 l2 l3 l4;have a1:=Pd (o'.drop off) n (by rw[length_drop];omega);rw[drop_drop,l4,hE]at a1;have a2:=As8 ω ω l3;refine⟨Ip (((l2.drop off).take n).u32),?_,by rw[<-a1];omega⟩;have:=Ln ((l2.drop off).take n);rw[length_take,length_drop,Nat.min_eq_left ω]at this;exact this
   obtain⟨m1,m2,m3⟩:=main o ho I M L;have pa:(1000000000:Int) ^ (off+n)=1000000000 ^ off*1000000000 ^ n:=Int.pow_add ..;have star:Ap (u.drop off)-g*Ap v=Ap ((o.drop off).take n)+1000000000 ^ n*(u[off+n]-b):=(by apply Ak3 (k:=off);rw[m3,pa]at f;exact al4 f);have y1:Aa u[off+n]=u[off+n]:=B6 ω ω;have y2:Aa (u[off+n]-b)=u[off+n]-b:=B6 ω ω;have ap:=L6 n;have fin:∀(U:List Int) (x:Int) (j:List Int),U=j.set (off+n) x->j.length=u.length->Ck j->0<=x->x<1000000000->j.take off=u.take off->Ap U=Ap u-1000000000 ^ off*(q*Ap v) ->
     U.length=u.length/\Ck U/\0<=q/\q<1000000000/\Ap U=Ap u-1000000000 ^ off*(q*Ap v)/\0<=Ap (U.drop off)/\Ap (U.drop off)<Ap v:=by intro U x j e l1 l2 x0 x1 l3 aq;have L4:U.length=u.length:=(by rw[e];simpa using l1);have T4:U.take off=u.take off:=(by rw[e,take_set_of_le ω];exact l3);have hp:=As8 ω ω T4;have hd:Ap (U.drop off)=Ap (u.drop off)-q*Ap v:=(by have:Ap (U.drop off)-Ap (u.drop off) = - (q*Ap v):=(by apply Ak3 (k:=off);rw[<-hp,aq];exact al5 _ _ _);omega);have bh:(q+1)*Ap v=q*Ap v+Ap v:=(by grind);exact⟨L4,by rw[e];exact l2.set _ x0 x1,ag,bg,aq,ω,ω⟩
   simp only[Sk rfl (ω:n<n+1) ah,ax,Ad,y1,y2];by_cases z:u[off+n]-b>=0
   .have c8:g*Ap v<=Ap (u.drop off):=(by have:=Int.mul_nonneg (Int.le_of_lt ap) z;omega);have R:g=q:=by
     rcases Int.lt_or_le q g with h|h
     .exfalso;have:(q+1)*Ap v<=g*Ap v:=Int.mul_le_mul_of_nonneg_right ω ω;omega
     .omega
    have y3:Cz (u[off+n]-b)=u[off+n]-b:=Hn ω ω;have y4:Cz g=g:=Hn ω ω;rw[Ao z,Ak,y3,y4,Ho (n:=off+n) ω];refine⟨_,rfl,?_⟩;rw[R];refine fin _ (u[off+n]-b) o rfl ho I z ω M ?_;rw[Nd _ ah,ax];rw[R]at f;exact al6 f
   .have R:g=q+1:=by
     have h1:1000000000 ^ n*(u[off+n]-b)<=1000000000 ^ n*(-1):=Int.mul_le_mul_of_nonneg_left ω (Int.le_of_lt ap);rcases Int.lt_or_le q g with h|h
     .omega
     .exfalso;have:g*Ap v<=q*Ap v:=Int.mul_le_mul_of_nonneg_right h ω;omega
    rw[As z,Am];refine Ey (λ(c,i,j)=>∃k:Nat,i=k/\k<=n/\j.length=u.length/\Ck j/\j.take off=u.take off/\j.drop (off+k)=o.drop (off+k)/\0<=c/\c<=1/\Ap j+1000000000 ^ (off+k)*c=Ap o+1000000000 ^ off*Ap (v.take k)) (λ(_,i,_)=>n-i.toNat) (λ(c,j)=>j.length=u.length/\Ck j/\j.take off=u.take off/\j.drop (off+n)=o.drop (off+n)/\0<=c/\c<=1/\Ap j+1000000000 ^ (off+n)*c=Ap o+1000000000 ^ off*Ap v) ⟨0,rfl,ω,ho,I,M,rfl,ω,ω,by simp[Ap]⟩ ?_ ?_
    .rintro⟨c,i,j⟩ ⟨k,rfl,hk,h3,N,V,Z,b4,b0,D⟩;rcases Cf k n with h|h
     .have E:off+k<j.length:=ω;have J:k<v.length:=ω;have hx:=N.get E;have hy:=hv.get J;have e4:=Nj h ω;have e5:decide ((k:Int)<(n:Int))=true:=Ao ω;have z1:Cz (j[off+k]+v[k])=j[off+k]+v[k]:=Hn ω ω;have z2:Cz (j[off+k]+v[k]+c)=j[off+k]+v[k]+c:=Hn ω ω;generalize hs:j[off+k]+v[k]+c=s at z2;have G:0<=s:=ω;have ac:s<2000000000:=ω;refine .inl ⟨(s / 1000000000,((k+1:Nat):Int),j.set (off+k) (s % 1000000000)),?_,⟨k+1,rfl,ω,by simpa using h3,N.set _ ω ω,?_,?_,ω,ω,?_⟩,ζ⟩
      .simp only[e5,Ak,Sk rfl (ω:k<n+1) E,Ez rfl J,Ad,z1,hs,z2,Arj G (show s<=_ by omega) (show (0:Int)<1000000000 by decide),Mm G (show (0:Int)<1000000000 by decide),e4];rw[Ho (n:=off+k) ω]
      .rw[take_set_of_le ω];exact V
      .rw[drop_set_of_lt ω,show off+(k+1)=(off+k)+1 by omega,<-drop_drop,Z,drop_drop]
      .rw[Nd _ E,Hv v J,show off+(k+1)=(off+k)+1 by omega,Int.pow_succ];have ay:=Int.mul_ediv_add_emod s 1000000000;have pk:(1000000000:Int) ^ (off+k)=1000000000 ^ off*1000000000 ^ k:=Int.pow_add ..;rw[pk]at D ⊢;exact al7 hs ay D
     .have aj:k=n:=ω;subst aj;refine .inr ⟨(c,j),ψ,h3,N,V,Z,b4,b0,?_⟩;rw[Im ω]at D;exact D
    .rintro⟨c,j⟩ ⟨h3,N,V,Z,b4,b0,D⟩;have ai:off+n<j.length:=ω;obtain⟨r1,r2,r3⟩:=main j h3 N V (Z.trans L);have bj:j[off+n]=u[off+n]:=(by have:=congrArg head? (Z.trans L);rw[head?_drop,head?_drop,B4 ai,B4 X]at this;exact Ew this);have be:Ap (u.drop off)-q*Ap v=Ap ((j.drop off).take n)+1000000000 ^ n*(u[off+n]-b+c):=(by apply Ak3 (k:=off);rw[r3,pa]at D;rw[R]at f;rw[pa]at f;exact al8 f D);have bl:u[off+n]-b+c=0:=by
      have bh:(q+1)*Ap v=q*Ap v+Ap v:=(by grind);rcases Int.lt_or_le (u[off+n]-b+c) 0 with h|h
      .exfalso;have h1:1000000000 ^ n*(u[off+n]-b+c)<=1000000000 ^ n*(-1):=Int.mul_le_mul_of_nonneg_left ω (Int.le_of_lt ap);omega
      .omega
     have y5:Aa c=c:=B6 ω ω;have y6:Aa (u[off+n]-b+c)=0:=(by rw[bl];rfl);have y7:Cz (0:Int)=0:=rfl;have y8:Bb (g-1)=q:=(by rw[R,Bb,Dy ω ω];omega);have y9:Cz q=q:=Hn ω ω;simp only[Sk rfl (ω:n<n+1) ai,Ad,y5,y6,y7,y8,y9];rw[Ho (n:=off+n) ω];refine⟨_,rfl,?_⟩;refine fin _ 0 j rfl h3 N ω ω V ?_;rw[Nd _ ai,bj];rw[R]at f;exact al9 D f ω
theorem A4v (a:List Int) (m:Int):Ajz a m=W5 a m:=rfl
theorem A4w (ht:1<=t) (b:t<1000000000) (hd:d*(t+1)+r=1000000000) (g:0<=r) (c:r<=t):500000000<=d*t:=by
 have f:0<=d:=by
  rcases Int.lt_or_le d 0 with h|h
  .exfalso;have:d*(t+1)<=(-1)*(t+1):=Int.mul_le_mul_of_nonneg_right ω ω;omega
  .exact h
 have e:d*(t+1)=d*t+d:=by grind
 rcases Int.lt_or_le t 2 with h|h
 .have:t=1:=ω;subst this;omega
 .rcases Int.lt_or_le d 2 with h2|h2
  .have:d=0\/d=1:=ω;rcases this with rfl|rfl <;> omega
  .have h3:2*(t-1)<=d*(t-1):=Int.mul_le_mul_of_nonneg_right h2 ω;have i:d*(t-1)=d*t-d:=(by grind);omega
theorem bl1 (P t d:Int):P*t*d=P*(d*t):=by grind
theorem bl2 {K Q S:Int} (h:o=u-X*(q*V)) (b:u+V*(X*1000000000)*Q=S):o+V*X*(q+1000000000*Q)=S:=by grind
set_option maxHeartbeats 1000000 in
theorem Ak4 (m n:Nat) (hm:Bp m<274877906944) (hn:Bp n<274877906944) (G:n≠0):T1 (Ah m) (Ah n)=some (Ah (m / n),Ah (m % n)):=by
 unfold T1;rw[Aba m n ω ω,Ad];unfold Bp at hm hn;by_cases g:m<n
 .rw[show Hi m n = -1 by rw[Hi,Aw g],Ao (by decide:(-1:Int)<0),Ak,Dn ζ,Ad,Nat.div_eq_of_lt g,Nat.mod_eq_of_lt g,Hc];rfl
 .rw[As (show ¬Hi m n<0 by rw[Hi,Au g];split <;> decide),Am];have be:(Ah n).length<=(Ah m).length:=L7 ω;have b0:(Ah n).length≠0:=λe=>J5 G (Fu.1 e);by_cases h1:(Ah n).length=1
  .rw[Fm (ω:((Ah n).length:Int)=1),Ak];have a6:n<1000000000:=(by have:=Oj n;rw[show Bp n=1 from h1]at this;simpa using this);have am:Ah n = [(n:Int)]:=(by rw[Oh G,Nat.div_eq_of_lt a6,Hc,Nat.mod_eq_of_lt a6]);rw[am,show Ag [(n:Int)] 0=some (n:Int) from rfl,Ad,show Bb (n:Int)=n from Dy ω ω,Ak2 m n (by unfold Bp;omega) ω ω,Ad];have az:m % n<n:=Nat.mod_lt _ ω;rw[Xq (m % n) ω,Ad]
  .rw[Cy (ω:((Ah n).length:Int)≠1),Am];generalize hL:(Ah n).length=L at *;generalize hA:(Ah m).length=A at *;have w1:Aa ((L:Int)-1)=((L-1:Nat):Int):=ξ;have hi:L-1<(Ah n).length:=ω;have ht:=(Gl n).get hi;have ax:(Ah n)[L-1]≠0:=(by have:=(Ae2 n).2 (J5 G);rw[getLast_eq_getElem]at this;simpa[hL] using this);generalize y:(Ah n)[L-1]=t at *;have w2:Bb t=t:=Dy ω ω;have w3:Bb (t+1)=t+1:=Dy ω ω;rw[w1,Ez rfl hi,y,Ad,w2,w3,Mn δ δ ω,Ad];have U:=Int.mul_ediv_add_emod 1000000000 (t+1);have ah:=Int.emod_nonneg 1000000000 (ω:t+1≠0);have b9:=Int.emod_lt_of_pos 1000000000 (ω:0<t+1);have aq:1<=1000000000 / (t+1):=by
    rcases Int.lt_or_le (1000000000 / (t+1)) 1 with h|h
    .exfalso;have:(t+1)*(1000000000 / (t+1))<=(t+1)*0:=Int.mul_le_mul_of_nonneg_left ω ω;omega
    .exact h
   have ap:1000000000 / (t+1)<=500000000:=(by have:=Int.ediv_lt_of_lt_mul (a:=1000000000) (b:=500000001) (c:=t+1) ω ω;omega);obtain⟨d,hd⟩:∃d:Nat,1000000000 / (t+1)=(d:Int):=⟨(1000000000 / (t+1)).toNat,ω⟩;rw[hd]at U aq ap ⊢;obtain⟨u,ag,E,S,R⟩:=As6 (Ah m) d (Gl m) ω ω;obtain⟨v0,af,ae,D,b7⟩:=As6 (Ah n) d (Gl n) ω ω;rw[ag,Ad,A4v,af,Ad,G7]at *;rw[hL]at ae;rw[hA]at E;rw[Ut rfl (ω:L<=v0.length),Ad];have x:=L6 (L-1);have pL:(1000000000:Int) ^ L=1000000000 ^ (L-1)*1000000000:=(by rw[<-Int.pow_succ];congr 1;omega);have Y:=Hv (Ah n) hi;rw[Im ω,G7,y]at Y;have ay:=Ip (((Gl n).take (L-1)).u32);have Z:=Ln ((Gl n).take (L-1));rw[length_take,hL,Nat.min_eq_left ω]at Z;have bb:(n:Int)*d<1000000000 ^ L:=(by have a1:(n:Int)*d<(1000000000 ^ (L-1)*(t+1))*d:=Int.mul_lt_mul_of_pos_right (by have:(1000000000:Int) ^ (L-1)*(t+1)=1000000000 ^ (L-1)*t+1000000000 ^ (L-1):=(by grind);omega) ω;have a2:(1000000000 ^ (L-1)*(t+1))*(d:Int)=1000000000 ^ (L-1)*((t+1)*d):=(by grind);have a3:(1000000000:Int) ^ (L-1)*((t+1)*d)<=1000000000 ^ (L-1)*1000000000:=Int.mul_le_mul_of_nonneg_left ω (Int.le_of_lt x);omega);have M:Ap (v0.take L)=(n:Int)*d:=by
    have e:=Pd v0 L ω;have z:Ap (v0.drop L)=0:=by
     have a1:=Af0 D L;have a2:=Ip ((D.take L).u32);rcases Int.lt_or_le 0 (Ap (v0.drop L)) with h|h
     .have:(1000000000:Int) ^ L*1<=1000000000 ^ L*Ap (v0.drop L):=Int.mul_le_mul_of_nonneg_left h (Int.le_of_lt (L6 _));omega
     .omega
    rw[z]at e;omega
   have I:(v0.take L).length=L:=(by rw[length_take];omega);have f:=D.take L;have J:L-1<(v0.take L).length:=ω;have ak:500000000<=(d:Int)*t:=A4w (r:=1000000000 % (t+1)) ω ω (by rw[Int.mul_comm];exact U) ah ω;have l:500000000<=(v0.take L)[L-1]:=by
    have e:=Hv (v0.take L) J;rw[Im ω,M]at e;have b1:=Ln (f.take (L-1));rw[length_take,I,Nat.min_eq_left ω]at b1;have b2:(1000000000:Int) ^ (L-1)*t*d<=n*d:=Int.mul_le_mul_of_nonneg_right ω ω;have b3:(1000000000:Int) ^ (L-1)*500000000<=1000000000 ^ (L-1)*(d*t):=Int.mul_le_mul_of_nonneg_left ak (Int.le_of_lt x);rw[bl1]at b2;rcases Int.lt_or_le (v0.take L)[L-1] 500000000 with h|h
    .exfalso;have b4:(1000000000:Int) ^ (L-1)*((v0.take L)[L-1]+1)<=1000000000 ^ (L-1)*500000000:=Int.mul_le_mul_of_nonneg_left ω (Int.le_of_lt x);have b5:(1000000000:Int) ^ (L-1)*((v0.take L)[L-1]+1)=1000000000 ^ (L-1)*(v0.take L)[L-1]+1000000000 ^ (L-1):=(by grind);omega
    .exact h
   generalize b6:v0.take L=v at *;have w4:Aa ((A:Int)-(L:Int))=((A-L:Nat):Int):=ξ;have w5:Aa (((A-L:Nat):Int)+1)=((A-L+1:Nat):Int):=ξ;rw[w4,w5,Lm rfl rfl (Nat.le_refl _) ω ω,Ad,E];have b8:=Ip S.u32;have ar:(0:Int)<(n:Int)*d:=Int.mul_pos ω ω;refine Jp (λ(i,w,q)=>∃k:Nat,i=(k:Int)-1/\k<=A-L+1/\w.length=A+1/\Ck w/\q.length=A-L+1/\Ck q/\Ap w<Ap v*1000000000 ^ k/\Ap w+Ap v*1000000000 ^ k*Ap (q.drop k)=(m:Int)*d) (λ(i,_,_)=>(i+1).toNat) (λ(w,q)=>w.length=A+1/\Ck w/\q.length=A-L+1/\Ck q/\Ap w<Ap v/\Ap w+Ap v*Ap q=(m:Int)*d) ⟨A-L+1,ω,Nat.le_refl _,E,S,ψ,Ck.replicate _,?_,by rw[drop_of_length_le ψ];simp[Ap,R]⟩ ?_ ?_
   .have aj:(m:Int)<1000000000 ^ A:=(by have:=Ln (Gl m);rwa [G7,hA]at this);have a1:(m:Int)*d<1000000000 ^ A*500000000:=(by have c1:(m:Int)*d<=m*500000000:=Int.mul_le_mul_of_nonneg_left ω ω;have c2:(m:Int)*500000000<1000000000 ^ A*500000000:=Int.mul_lt_mul_of_pos_right aj δ;omega);have a2:(1000000000:Int) ^ (L-1)*500000000<=Ap v:=(by have e:=Hv v J;rw[Im ω]at e;have b1:=Ip ((f.take (L-1)).u32);have b3:(1000000000:Int) ^ (L-1)*500000000<=1000000000 ^ (L-1)*v[L-1]:=Int.mul_le_mul_of_nonneg_left l (Int.le_of_lt x);omega);have a3:(1000000000:Int) ^ (L-1)*500000000*1000000000 ^ (A-L+1)<=Ap v*1000000000 ^ (A-L+1):=Int.mul_le_mul_of_nonneg_right a2 (Int.le_of_lt (L6 _));have a4:(1000000000:Int) ^ (L-1)*500000000*1000000000 ^ (A-L+1)=1000000000 ^ A*500000000:=(by have:(1000000000:Int) ^ A=1000000000 ^ (L-1)*1000000000 ^ (A-L+1):=(by rw[<-Int.pow_add];congr 1;omega);rw[this];grind);rw[R];omega
   .rintro⟨i,w,q⟩ ⟨k,rfl,hk,ac,B,X,V,a7,s⟩;cases k with
    | zero=>exact .inr ⟨(w,q),ψ,ac,B,X,V,by simpa using a7,by simpa using s⟩
    | succ j=>
     have e0:((j+1:Nat):Int)-1=(j:Int):=ω;have e1:decide ((j:Int)>=0)=true:=Ao ω;have w6:Aa ((j:Int)+(L:Int))=((j+L:Nat):Int):=ξ;have w7:Aa (((j+L:Nat):Int)+1)=((j+L+1:Nat):Int):=ξ;have sA:Yu (A+1) (j:Int) ((j+L+1:Nat):Int)=some (j,j+L+1):=(by have c1:(0:Int)<=(j:Int):=ω;have c2:(j:Int)<=((j+L+1:Nat):Int):=ω;have c3:((j+L+1:Nat):Int)<=((A+1:Nat):Int):=ω;have c4:(j:Int)=0\/(j:Int)<((j+L+1:Nat):Int):=ω;rw[Yu,Aw ⟨c1,c2,c3,c4⟩];rfl);have au:Ap (w.drop j)<Ap v*1000000000:=by
      have s1:=Pd w j ω;have s2:=Ip ((B.take j).u32);rcases Int.lt_or_le (Ap (w.drop j)) (Ap v*1000000000) with h|h
      .exact h
      .exfalso;have:(1000000000:Int) ^ j*(Ap v*1000000000)<=1000000000 ^ j*Ap (w.drop j):=Int.mul_le_mul_of_nonneg_left h (Int.le_of_lt (L6 _));have e:Ap v*(1000000000:Int) ^ (j+1)=1000000000 ^ j*(Ap v*1000000000):=(by rw[Int.pow_succ];grind);omega
     obtain⟨qd,o,r1,r2,r3,r4,r5,r6,r7,r8⟩:=A4u v w j L f B I ω ω l ω au;have a8:j<q.length:=ω;have w8:Aa ((j:Int)-1)=(j:Int)-1:=ξ;have lG:G0 (A+1) o=some ():=(by rw[G0,Aw ω]);refine .inl ⟨((j:Int)-1,o,q.set j qd),?_,⟨j,rfl,ω,ω,r3,by simpa using X,V.set _ r4 r5,?_,?_⟩,ψ⟩
     .simp only[e0,e1,Ak,w6,w7,sA,Ad,Nat.zero_add,show j+L+1-j=L+1 by omega,r1,lG,Ez rfl a8,w8,Ho rfl]
     .have s1:=Pd o j ω;have s2:=Ln (r3.take j);rw[length_take,Nat.min_eq_left ω]at s2;have:(1000000000:Int) ^ j*(Ap (o.drop j)+1)<=1000000000 ^ j*Ap v:=Int.mul_le_mul_of_nonneg_left ω (Int.le_of_lt (L6 _));have e:(1000000000:Int) ^ j*(Ap (o.drop j)+1)=1000000000 ^ j*Ap (o.drop j)+1000000000 ^ j:=(by grind);rw[Int.mul_comm (Ap v)];omega
     .have d1:(q.set j qd).drop j=qd::q.drop (j+1):=(by rw[drop_eq_getElem_cons (by simpa using a8),drop_set_of_lt ω];simp);rw[d1];simp only[Ap];rw[Int.pow_succ]at s;exact bl2 (K:=0) r6 s
   .rintro⟨w,q⟩ ⟨h2,h3,h4,h5,h6,h7⟩;rw[M]at h6 h7;have ad:=Ip h3.u32;have ba:=Ip h5.u32;have N:=(Int.ediv_emod_unique ar (r:=Ap w) (q:=Ap q) (a:=(m:Int)*d)).2 ⟨by rw[<-h7],ad,h6⟩;have ao:(m*d) / (n*d)=m / n:=Nat.mul_div_mul_right m n ω;have ai:(m*d) % (n*d)=(m % n)*d:=Nat.mul_mod_mul_right d m n;have av:Ap q=((m / n:Nat):Int):=(by rw[<-N.1,<-ao];simp);have aa:Ap w=(((m % n)*d:Nat):Int):=(by rw[<-N.2,<-ai];simp);have ab:Bp ((m % n)*d)<1099511627776:=(by have g:=Ln h3;have:Bp ((m % n)*d)<=A+1:=(by apply Ku;rw[h2,aa]at g;have e:((1000000000 ^ (A+1):Nat):Int)=1000000000 ^ (A+1):=(by rw[Int.natCast_pow];rfl);omega);omega);dsimp only;rw[Sj w ω,Ad,Mo h3 aa,Ak2 _ d ab ω ω,Ad,Sj q ω,Ad,Mo h5 av,Nat.mul_div_cancel _ ω]
theorem As9 (h:Bp n<=2):n<1000000000000000000:=by have h1:=Oj n;have h2:1000000000 ^ Bp n<=1000000000 ^ 2:=Nat.pow_le_pow_right δ h;omega
theorem Ata (n:Nat) (h:Bp n<=2):W4 (Ah n)=some ((n:Int),true):=by
 unfold W4;unfold Bp at h;have ha:=Gl n;refine Jp (λ(w,i)=>∃k:Nat,i=k/\k<=(Ah n).length/\w=Ap ((Ah n).drop ((Ah n).length-k))) (λ(_,i)=>(Ah n).length-i.toNat) (λe=>match e with|.inl _=>False | .inr w=>w=n) ⟨0,rfl,ω,by simp[Ap]⟩ ?_ ?_
 .rintro⟨w,i⟩ ⟨k,rfl,hk,rfl⟩;rcases Cf k (Ah n).length with c|hge
  .have z:decide ((k:Int)<((Ah n).length:Int))=true:=Ao ω;have s:Aa (((Ah n).length:Int)-1)=((Ah n).length:Int)-1:=ξ;have q:Aa (((Ah n).length:Int)-1-(k:Int))=(((Ah n).length-1-k:Nat):Int):=ξ;have hj:(Ah n).length-1-k<(Ah n).length:=ω;have hx:=ha.get hj;have x:=Af0 ha ((Ah n).length-k);have b:=Ln (ha.drop ((Ah n).length-k));rw[length_drop,show (Ah n).length-((Ah n).length-k)=k by omega]at b;have u:(1000000000:Int) ^ k<=1000000000:=(by have:k=0\/k=1:=ω;rcases this with rfl|rfl <;> decide);have l:Bb (Ah n)[(Ah n).length-1-k]=(Ah n)[(Ah n).length-1-k]:=Dy ω ω;have j:Bb (18446744073709551615-(Ah n)[(Ah n).length-1-k])=18446744073709551615-(Ah n)[(Ah n).length-1-k]:=Dy ω ω;have g:Bb (Ap ((Ah n).drop ((Ah n).length-k))*1000000000)=Ap ((Ah n).drop ((Ah n).length-k))*1000000000:=Dy ω ω;have f:Bb (Ap ((Ah n).drop ((Ah n).length-k))*1000000000+(Ah n)[(Ah n).length-1-k])=Ap ((Ah n).drop ((Ah n).length-k))*1000000000+(Ah n)[(Ah n).length-1-k]:=Dy ω ω;have y:=Nj c ω;have hc:¬Ap ((Ah n).drop ((Ah n).length-k))>(18446744073709551615-(Ah n)[(Ah n).length-1-k]) / 1000000000:=ω;refine .inl ⟨(Ap ((Ah n).drop ((Ah n).length-k))*1000000000+(Ah n)[(Ah n).length-1-k],((k+1:Nat):Int)),?_,⟨k+1,rfl,ω,?_⟩,ζ⟩
   .simp only[z,Ak,s,q,Ez rfl hj,Ad,l,j,Mn (show 0<=18446744073709551615-(Ah n)[(Ah n).length-1-k] by omega) (show 18446744073709551615-(Ah n)[(Ah n).length-1-k]<=_ by omega) (show (0:Int)<1000000000 by decide),As hc,Am,g,f,y]
   .have hd:(Ah n).drop ((Ah n).length-(k+1))=(Ah n)[(Ah n).length-1-k]::(Ah n).drop ((Ah n).length-k):=(by rw[show (Ah n).length-(k+1)=(Ah n).length-1-k by omega,drop_eq_getElem_cons hj];congr 2;omega);rw[hd];simp only[Ap];omega
  .have:k=(Ah n).length:=ω;subst this;refine .inr ⟨.inr _,by simp;rfl,?_⟩;exact G7 n
 .rintro (e|e) he
  .exact he.elim
  .simp only at he ⊢;rw[he]
theorem A4x (m n:Nat) (s:Bp m<274877906944) (l:Bp n<274877906944):Zx (Ah m) (Ah n)=some (Ah (Nat.gcd m n)):=by
 unfold Zx;refine Jp (λ(a,b)=>∃x y:Nat,a=Ah x/\b=Ah y/\Bp x<274877906944/\Bp y<274877906944/\Nat.gcd x y=Nat.gcd m n) (λ(_,b)=>(Ap b).toNat) (λe=>match e with|.inl r=>r=Ah (Nat.gcd m n) | .inr r=>r=Ah (Nat.gcd m n)) ⟨m,n,rfl,rfl,s,l,rfl⟩ ?_ ?_
 .rintro⟨a,b⟩ ⟨x,y,rfl,rfl,hx,hy,hg⟩;by_cases c:y=0
  .subst c;refine .inr ⟨.inr (Ah x),by rw[Hc];rfl,?_⟩;show Ah x=_;rw[<-hg,Nat.gcd_zero_right]
  .have z:(Ah y).length≠0:=λe=>J5 c (Fu.1 e);have j:decide (((Ah y).length:Int)>0)=true:=Ao ω;by_cases h2:Bp x<=2/\Bp y<=2
   .have h:=As9 h2.1;have g:=As9 h2.2;unfold Bp at h2;simp only[j,Ak,Ao (ω:((Ah x).length:Int)<=2),Ao (ω:((Ah y).length:Int)<=2),Ad,Ata x h2.1,Ata y h2.2];refine .inr (A2j (Ey (λ(p,q)=>∃u v:Nat,p=u/\q=v/\u<1000000000000000000/\v<1000000000000000000/\Nat.gcd u v=Nat.gcd m n) (λ(_,q)=>q.toNat) (λ(p,q)=>p=((Nat.gcd m n:Nat):Int)/\Nat.gcd m n<1000000000000000000) ⟨x,y,rfl,rfl,h,g,hg⟩ ?_ ?_))
    .rintro⟨p,q⟩ ⟨u,v,rfl,rfl,hu,k,f⟩;by_cases i:v=0
     .subst i;refine .inr ⟨((u:Int),(0:Int)),rfl,?_⟩;rw[Nat.gcd_zero_right]at f;exact⟨by rw[f],ω⟩
     .refine .inl ⟨((v:Int),((u % v:Nat):Int)),?_,⟨v,u % v,rfl,rfl,k,by have:=Nat.mod_lt u (ω:v>0);omega,?_⟩,?_⟩
      .simp only[Ao (ω:(v:Int)>0),Ak,Mm (ω:(0:Int)<=u) (ω:(0:Int)<v),Ad];rfl
      .rw[<-f,Nat.gcd_comm v,<-Nat.gcd_rec,Nat.gcd_comm]
      .have:=Nat.mod_lt u (ω:v>0);simp only[Int.toNat_natCast];exact this
    .rintro⟨p,q⟩ ⟨rfl,A⟩;dsimp only;rw[Xq _ ω];exact⟨_,rfl,_,rfl,rfl⟩
   .refine .inl ⟨(Ah y,Ah (x % y)),?_,⟨y,x % y,rfl,rfl,hy,by have:=L7 (Nat.mod_le x y);omega,?_⟩,?_⟩
    .have:(bif ((Ah x).length:Int)<=(2:Int) then some (decide (((Ah y).length:Int)<=(2:Int))) else some false)=some false:=by
      unfold Bp at h2;by_cases hc:(Ah x).length<=2
      .rw[Ao (ω:((Ah x).length:Int)<=2),Ak,As (ω:¬((Ah y).length:Int)<=2)]
      .rw[As (ω:¬((Ah x).length:Int)<=2),Am]
     simp only[j,Ak];rw[this,Ad,Am,Ak4 x y hx hy c,Ad]
    .rw[<-hg,Nat.gcd_comm y,<-Nat.gcd_rec,Nat.gcd_comm]
    .simp only[G7];have:=Nat.mod_lt x (ω:y>0);omega
 .rintro (e|e) he
  .simp only at he ⊢;rw[he]
  .simp only at he ⊢;rw[he]
theorem Abc:Ah 1 = [1]:=by rw[Oh δ,show 1 / 1000000000=0 by decide,Hc];rfl
theorem Ak5 (n:Nat):T0 (Ah n)=some (decide (n=1)):=by
 unfold T0;by_cases h0:n=0
 .subst h0;rw[Hc];rfl
 .rw[Oh h0];by_cases h1:n / 1000000000=0
  .rw[h1,Hc];have e:Ag [((n % 1000000000:Nat):Int)] 0=some ((n % 1000000000:Nat):Int):=rfl;simp only[length_singleton,e,Ad];have:(((1:Nat):Int)==(1:Int))=true:=rfl;rw[this,Ak];congr 1;by_cases b:n=1
   .subst b;rfl
   .rw[Cy ω,As b]
  .have c:(Ah (n / 1000000000)).length≠0:=λe=>J5 h1 (Fu.1 e);rw[Cy ζ,Am,As ω]
def Ci (b:Bool) (n d:Nat):A7:=if n=0 then ⟨false,[],[1]⟩ else ⟨b,Ah (n / Nat.gcd n d),Ah (d / Nat.gcd n d)⟩
theorem U5 (b:Bool) (n d:Nat) (g:Bp n<274877906944) (hd:Bp d<274877906944):P8 ⟨b,Ah n,Ah d⟩=some (Ci b n d):=by
 unfold P8 Adw;dsimp only;by_cases h0:n=0
 .subst h0;rw[Hc];rfl
 .have h:(Ah n).length≠0:=λe=>J5 h0 (Fu.1 e);rw[Cy ω,Am,Ak5,Ad,Ci,Au h0];by_cases h1:d=1
  .subst h1;rw[Ao rfl,Ak];simp
  .rw[As h1,Am,A4x n d g hd,Ad,Ak5,Ad];by_cases hg:Nat.gcd n d=1
   .rw[Ao hg,Ak,hg];simp
   .have f:Nat.gcd n d≠0:=(by have:=Nat.gcd_pos_of_pos_left d (ω:0<n);omega);have c:Bp (Nat.gcd n d)<274877906944:=(by have:=L7 (Nat.gcd_le_left d (ω:0<n));omega);rw[As hg,Am,Ak4 n _ g c f,Ad,Ak4 d _ hd c f,Ad];rfl
def nv (a:A7):Nat:=if (Ap a.U).toNat=0\/(Ap a.B).toNat=0 then 0 else (Ap a.U).toNat
def dv (a:A7):Nat:=if (Ap a.U).toNat=0\/(Ap a.B).toNat=0 then 1 else (Ap a.B).toNat
def sv (a:A7):Bool:=if (Ap a.U).toNat=0\/(Ap a.B).toNat=0 then false else a.N
structure RB (k:Nat) (a:A7):Prop where
 num:Nc a.U
 den:Nc a.B
 nl:a.U.length<=k
 dl:a.B.length<=k
theorem A4y (h:Nc l):Ap l<=5*1000000000 ^ l.length-5:=by induction l with| nil=>simp[Ap]| cons d l ih=>have h1:=h d ψ;have h2:=ih (λx hx=>h x (by simp[hx]));simp only[Ap,Ed];rw[Int.pow_succ];omega
theorem A4z (h:Nc l):Ap l<1000000000 ^ (l.length+1):=by have h1:=A4y h;have hp:=L6 l.length;rw[Int.pow_succ];omega
theorem Af1 (h:Nc l):Bp (Ap l).toNat<=l.length+1:=by
 apply Ku;have h1:=A4z h;have h2:=Ip h;have e:((1000000000 ^ (l.length+1):Nat):Int)=1000000000 ^ (l.length+1):=by rw[Int.natCast_pow];rfl
 omega
theorem RB.mono {j:Nat} (h:RB j a) (hk:j<=k):RB k a:=⟨h.num,h.den,by have:=h.nl;omega,by have:=h.dl;omega⟩
theorem Sl:Bp 1=1:=by unfold Bp;rw[Abc];rfl
theorem RB.nv (h:RB k a):Bp (nv a)<=k+1:=by
 unfold Ab.nv;split
 .simp[Akc]
 .have:=Af1 h.num;have:=h.nl;omega
theorem RB.dv (h:RB k a):Bp (dv a)<=k+1:=by
 unfold Ab.dv;split
 .simp[Sl]
 .have:=Af1 h.den;have:=h.dl;omega
theorem Ie (a:A7):dv a≠0:=by
 unfold dv;split
 .decide
 .omega
theorem Xr (a:A7) (k:Nat) (h:RB k a) (hk:k<274877906900):O2 a=some ⟨sv a,Ah (nv a),Ah (dv a)⟩:=by
 unfold O2;have h1:=h.nl;have h2:=h.dl;rw[As1 _ h.num ω,Ad,As1 _ h.den ω,Ad];unfold nv dv sv;generalize (Ap a.U).toNat=x;generalize (Ap a.B).toNat=y;by_cases hx:x=0
 .subst hx;simp only[Hc,true_or,if_true,Abc];rfl
 .have c:(Ah x).length≠0:=λe=>J5 hx (Fu.1 e);by_cases hy:y=0
  .subst hy;simp only[Hc,or_true,if_true,Abc,Cy (ω:((Ah x).length:Int)≠0),Am];rfl
  .have b:(Ah y).length≠0:=λe=>J5 hy (Fu.1 e);simp only[hx,hy,or_self,if_false,Cy (ω:((Ah x).length:Int)≠0),Am,Cy (ω:((Ah y).length:Int)≠0),Ad]
theorem Ak6 (a:A7) (k:Nat) (h:RB k a) (hk:k<274877906900):J3 a=some (Ci (sv a) (nv a) (dv a)):=by unfold J3;have h1:=h.nv;have h2:=h.dv;rw[Xr a k h hk,Ad,U5 _ _ _ ω ω];rfl
def Kj (s:Bool) (n:Nat):Int:=if n=0 then 0 else if s then -1 else 1
theorem A40 (s:Bool) (n:Nat) (d:List Int):Zf ⟨s,Ah n,d⟩=some (Kj s n):=by
 unfold Zf Kj;dsimp only;by_cases h:n=0
 .subst h;rw[Hc];rfl
 .have b:(Ah n).length≠0:=λe=>J5 h (Fu.1 e);rw[Cy ω,Am,Au h];cases s <;> rfl
theorem Ak7 (a:A7) (k:Nat) (h:RB k a) (hk:k<274877906900):I4 a=some (Kj (sv a) (nv a)):=by unfold I4;rw[Xr a k h hk,Ad,A40];rfl
theorem Ak8 (z:Int) (h1 : -9223372036854775808<=z) (h2:z<=9223372036854775807):T6 z=some (Ah z.natAbs):=by
 unfold T6;by_cases h:z<0
 .have e:Bb z=z+18446744073709551616:=(by have:IntKind.u64.wrap z=z % 18446744073709551616:=(by simp[IntKind.wrap,IntKind.bits,IntKind.signed]);rw[Bb,this];omega);have b:Bb (0-(z+18446744073709551616))=((z.natAbs:Nat):Int):=(by have:IntKind.u64.wrap (0-(z+18446744073709551616))=(0-(z+18446744073709551616)) % 18446744073709551616:=(by simp[IntKind.wrap,IntKind.bits,IntKind.signed]);rw[Bb,this];omega);rw[Ao h,Ak,e,b,Xq _ ω];rfl
 .have b:Bb z=((z.natAbs:Nat):Int):=(by rw[Bb,Dy ω ω];omega);rw[As h,Am,b,Xq _ ω];rfl
theorem Abd (z:Int) (h1 : -9223372036854775808<=z) (h2:z<=9223372036854775807):G1 z=some (Ci (decide (z<0)) z.natAbs 1):=by unfold G1;have:=U4 (n:=z.natAbs) ω;rw[Ak8 z h1 h2,Ad,<-Abc,U5 _ _ _ ω (by rw[Sl];decide)];rfl
theorem A41 (x y:Int) (h1 : -9223372036854775808<=x) (h2:x<=9223372036854775807) (h3 : -9223372036854775808<=y) (b:y<=9223372036854775807) (hy:y≠0):Ug x y=some (Ci (decide (x<0) != decide (y<0)) x.natAbs y.natAbs):=by unfold Ug;have a1:=U4 (n:=x.natAbs) ω;have a2:=U4 (n:=y.natAbs) ω;rw[Cy hy,Am,Ak8 x h1 h2,Ad,Ak8 y h3 b,Ad,U5 _ _ _ ω ω];rfl
theorem Af2 (a b:A7) (j k:Nat) (ha:RB j a) (hb:RB k b) (hj:j<68719476736) (hk:k<68719476736):Hm a b=some (Ci (sv a != sv b) (nv a*nv b) (dv a*dv b)):=by unfold Hm;have h1:=ha.nv;have h2:=ha.dv;have h3:=hb.nv;have g:=hb.dv;have f:=Lo (nv a) (nv b);have c:=Lo (dv a) (dv b);rw[Xr a j ha ω,Ad,Xr b k hb ω,Ad];dsimp only;rw[Abb _ _ ω ω,Ad,Abb _ _ ω ω,Ad,U5 _ _ _ ω ω];rfl
def Xs (b:Bool) (g i:Nat) (c:Bool) (f h:Nat):Bool:=if b=c then b else if f*i<=g*h then b else c
def Sn (i:Bool) (c g:Nat) (h:Bool) (b f:Nat):Nat:=if i=h then c*f+b*g else if b*g<=c*f then c*f-b*g else b*g-c*f
theorem Ak9 (a b:A7) (j k:Nat) (ha:RB j a) (hb:RB k b) (hj:j<68719476736) (hk:k<68719476736) : N8 a b=some (Ci (Xs (sv a) (nv a) (dv a) (sv b) (nv b) (dv b)) (Sn (sv a) (nv a) (dv a) (sv b) (nv b) (dv b)) (dv a*dv b)):=by
 unfold N8 Adx;have h1:=ha.nv;have h2:=ha.dv;have h3:=hb.nv;have s:=hb.dv;have q:=Lo (nv a) (dv b);have l:=Lo (nv b) (dv a);have i:=Lo (dv a) (dv b);have h:=Arn (nv a*dv b) (nv b*dv a);have g:=L7 (Nat.sub_le (nv a*dv b) (nv b*dv a));have f:=L7 (Nat.sub_le (nv b*dv a) (nv a*dv b));rw[Xr a j ha ω,Ad,Xr b k hb ω,Ad];dsimp only;rw[Abb _ _ ω ω,Ad,Abb _ _ ω ω,Ad,Abb _ _ ω ω,Ad];by_cases c:sv a=sv b
 .have e:(sv a==sv b)=true:=(by rw[c];exact beq_self_eq_true _);rw[e,Ak,A4p _ _ ω ω,Ad,Ad,U5 _ _ _ ω ω,Xs,Sn,Aw c,Aw c];rfl
 .have e:(sv a==sv b)=false:=(by simpa using c);rw[e,Am,Aba _ _ ω ω,Ad,Xs,Sn,Au c,Au c];by_cases hc:nv b*dv a<=nv a*dv b
  .rw[Ao (show Hi (nv a*dv b) (nv b*dv a)>=0 by rw[Hi,Au ω];split <;> decide),Ak,As5 _ _ ω hc,Ad,Ad,U5 _ _ _ ω ω,Aw hc,Aw hc];rfl
  .rw[As (show ¬Hi (nv a*dv b) (nv b*dv a)>=0 by rw[Hi,Aw ω];decide),Am,As5 _ _ ω ω,Ad,Ad,U5 _ _ _ ω ω,Au hc,Au hc];rfl
theorem Abe (s:Bool) (d:Nat):Ci s 0 d=⟨false,[],[1]⟩:=by simp[Ci]
theorem Qx (s:Bool) (n d k:Nat) (b:Bp n<=k) (hd:Bp d<=k) (hk:1<=k):RB k (Ci s n d):=by
 unfold Ci;split
 .refine⟨nofun,(λx h=>?_),ψ,by simpa using hk⟩;simp at h;subst h;decide
 .have h1:=Akd n (Nat.gcd n d);have h2:=Akd d (Nat.gcd n d);unfold Bp at *;exact⟨(Gl _).u32,(Gl _).u32,by simp only;omega,by simp only;omega⟩
theorem Af3 (s:Bool) (n d:Nat) (hd:d≠0):nv (Ci s n d)=n / Nat.gcd n d/\dv (Ci s n d)=d / Nat.gcd n d/\(n≠0->sv (Ci s n d)=s)/\(n=0->sv (Ci s n d)=false):=by
 by_cases h0:n=0
 .subst h0;rw[Abe];have c:d / Nat.gcd 0 d=1:=(by rw[Nat.gcd_zero_left];exact Nat.div_self ω);refine⟨by simp[nv,Ap],?_,λh=>(h rfl).elim,λ_=>by simp[sv,Ap]⟩;rw[c];simp[dv,Ap]
 .have hg:0<Nat.gcd n d:=Nat.gcd_pos_of_pos_left d ω;have h1:n / Nat.gcd n d≠0:=(by have:=Nat.div_pos (Nat.gcd_le_left d (ω:0<n)) hg;omega);have h2:d / Nat.gcd n d≠0:=(by have:=Nat.div_pos (Nat.gcd_le_right n (ω:0<d)) hg;omega);have e:Ci s n d=⟨s,Ah (n / Nat.gcd n d),Ah (d / Nat.gcd n d)⟩:=(by simp[Ci,h0]);have b:(Ap (Ah (n / Nat.gcd n d))).toNat=n / Nat.gcd n d:=(by rw[G7];rfl);have v2:(Ap (Ah (d / Nat.gcd n d))).toNat=d / Nat.gcd n d:=(by rw[G7];rfl);rw[e];have hc:¬(n / Nat.gcd n d=0\/d / Nat.gcd n d=0):=ω;refine⟨?_,?_,λ_=>?_,λh=>(h0 h).elim⟩
  .simp only[nv,b,v2,Au hc]
  .simp only[dv,b,v2,Au hc]
  .simp only[sv,b,v2,Au hc]
theorem Xt (s:Bool) (n d k:Nat) (hk:k≠0):Ci s (k*n) (k*d)=Ci s n d:=by
 unfold Ci;by_cases h:n=0
 .subst h;simp
 .have h1:k*n≠0:=Nat.mul_ne_zero hk h;rw[Au h1,Au h,Nat.gcd_mul_left,Nat.mul_div_mul_left _ _ ω,Nat.mul_div_mul_left _ _ ω]
theorem Atb {s t:Bool} {d:Nat} (h:n≠0->s=t):Ci s n d=Ci t n d:=by
 unfold Ci;by_cases h0:n=0
 .simp[h0]
 .rw[h h0]
theorem Atc (l:List Int):Lz l=(L2 l).bind λv=>Ca 4 [] v:=by
 unfold Lz L2;generalize An _ _=x;cases x with
 | none=>rfl
 | some v=>simp only[Ad];cases Er l 0 v with| none=>rfl| some y=>simp only[Ad];cases Ca 4 [] y <;> rfl
theorem A42 (l:List Int):(Iv l).length<=l.length:=by
 induction l with
 | nil=>simp[Iv]
 | cons d l ih=>simp only[Iv];cases ht:Iv l with| nil=>simp only[];split <;> simp| cons x m=>rw[ht]at ih;simpa using ih
theorem U6 (l:List Int) (b:l.length<2199023255552):Lz l=some (Iv l):=by have:=A42 l;rw[Atc,Sj l ω,Ad,Dn ζ];rfl
theorem Atd (l:List Int) (hd:Nc l) (B:l.length<1099511627776):We l=some (Ah (Ap l).toNat):=by
 unfold We;refine Jp (λ(c,i,o)=>∃k:Nat,i=k/\k<=l.length/\o.length=k/\Ck o/\0<=c/\c<5/\Ap o+1000000000 ^ k*c=Ap (l.take k)) (λ(_,i,_)=>l.length-i.toNat) (λ(c,o)=>o.length=l.length/\Ck o/\0<=c/\c<5/\Ap o+1000000000 ^ l.length*c=Ap l) ⟨0,rfl,ω,rfl,Ck.nil,ω,ω,by simp[Ap]⟩ ?_ ?_
 .rintro⟨c,i,o⟩ ⟨k,rfl,hk,f,b,j,hc,s⟩;rcases Cf k l.length with h|h
  .have hx:=hd l[k] (getElem_mem h);refine .inl ⟨((c+l[k]) / 1000000000,((k+1:Nat):Int),o++[(c+l[k]) % 1000000000]),?_,⟨k+1,rfl,ω,by simp[f],b.snoc ω ω,ω,ω,?_⟩,ζ⟩
   .have z:Bb l[k]=l[k]:=Dy ω ω;have y:Bb (c+l[k])=c+l[k]:=Dy ω ω;have q:Cz ((c+l[k]) % 1000000000)=(c+l[k]) % 1000000000:=Hn ω ω;have x:=Nj h ω;have u:decide ((k:Int)<(l.length:Int))=true:=(by simpa using h);simp only[u,Ak,Ez rfl h,Ad,z,y,Mm (show 0<=c+l[k] by omega) (show (0:Int)<1000000000 by decide),q,Dn (show (o.length+[(c+l[k]) % 1000000000].length)*4<=_ by simp;omega),Mn (show 0<=c+l[k] by omega) (show c+l[k]<=_ by omega) (show (0:Int)<1000000000 by decide),x]
   .rw[Hv l h,<-s,Oi,f,Int.pow_succ];have:=Int.mul_ediv_add_emod (c+l[k]) 1000000000;grind
  .have g:k=l.length:=ω;subst g;refine .inr ⟨(c,o),ψ,f,b,j,hc,by simpa using s⟩
 .rintro⟨c,o⟩ ⟨h2,h3,G,E,D⟩;have A:=Ip hd;by_cases hc:c>0
  .have q:Cz c=c:=Hn ω ω;simp only[decide_eq_true hc,Ak,q,Dn (show (o.length+[c].length)*4<=_ by simp;omega),Ad,U6 (o++[c]) ζ];rw[Mo (h3.snoc ω ω) (n:=(Ap l).toNat) (by rw[Oi,h2];omega)]
  .have:c=0:=ω;subst this;simp only[Int.lt_irrefl,gt_iff_lt,decide_false,Am,U6 o ω,Ad];rw[Mo h3 (n:=(Ap l).toNat) ω]
theorem Ate (n:Int):P5 n=Ql n:=rfl
theorem Ala (a b:List Int):Tv a b=T5 a b:=rfl
theorem A43 (m d:Nat) (c:Bp m<1099511627776) (hd:0<d) (b:d<4294967296):Zl (Ah m) d=some (Ah (m / d),((m % d:Nat):Int)):=by
 have h:=Ak2 m d c hd b;unfold Ub at h;unfold Zl;unfold Bp at c;rw[Lm rfl rfl (Nat.le_refl _) ω ω]at h ⊢;simp only[Ad]at h ⊢;revert h;generalize An _ _=x;cases x with
 | none=>intro h;cases h
 | some v=>obtain⟨r,o⟩:=v;simp only[Ad];intro h;rw[Atc];cases ht:L2 o with| none=>rw[ht]at h;cases h| some y=>rw[ht]at h;simp only[Ad]at h ⊢;have hy:y=Ah (m / d):=congrArg Prod.fst (Ew h);have:=Akd m d;unfold Bp at this;rw[Dn (by rw[hy];simp;omega)];exact h
theorem Atf (m n:Nat) (X:Bp m<1099511627776) (G:n<=m):Wr (Ah m) (Ah n)=some (Ah (m-n)):=by
 unfold Wr;have J:(Ah n).length<=(Ah m).length:=L7 G;unfold Bp at X;rw[Lm rfl rfl (Nat.le_refl _) ω ω];simp only[Ad];have ha:=Gl m;have hb:=Gl n;refine Jp (λ(c,i,o)=>∃k:Nat,i=k/\k<=(Ah m).length/\o.length=(Ah m).length/\Ck o/\o.drop k=replicate ((Ah m).length-k) 0/\0<=c/\c<=1/\Ap o=Ap ((Ah m).take k)-Ap ((Ah n).take k)+1000000000 ^ k*c) (λ(_,i,_)=>(Ah m).length-i.toNat) (λo=>∃c:Int,o.length=(Ah m).length/\Ck o/\0<=c/\c<=1/\Ap o=(m:Int)-n+1000000000 ^ (Ah m).length*c) ⟨0,rfl,ω,ψ,Ck.replicate _,ψ,ω,ω,by simp[Ap,Ae1]⟩ ?_ ?_
 .rintro⟨c,i,o⟩ ⟨k,rfl,hk,E,u,y,M,hc,z⟩;rcases Cf k (Ah m).length with h|h
  .have hx:=ha.get h;have f:k<o.length:=ω;have S:=Nj h ω;have R:decide ((k:Int)<((Ah m).length:Int))=true:=Ao ω;have b:o[k]=0:=(by have:=congrArg head? y;rw[head?_drop,B4 f]at this;have x:(replicate ((Ah m).length-k) (0:Int)).head? = some 0:=(by cases Y:(Ah m).length-k with| zero=>omega| succ t=>rfl);rw[x]at this;exact Ew this);have key:∀s:Int,0<=s->s<=1000000000->Ap ((Ah m).take (k+1))-Ap ((Ah n).take (k+1))=Ap ((Ah m).take k)-Ap ((Ah n).take k)+1000000000 ^ k*((Ah m)[k]-s+c) ->
     ∃(l d:Int),(bif (Ah m)[k]>=s then (some (Sum.inl (0,((k+1:Nat):Int),(Di o (k:Int) (Cz ((Ah m)[k]-s)))))) else (some (Sum.inl (1,((k+1:Nat):Int),(Di o (k:Int) (Cz ((Cz ((Ah m)[k]+1000000000))-s)))))):Option ((Int×Int×List Int)⊕List Int))=some (.inl (l,((k+1:Nat):Int),o.set k d)) /\ (∃q:Nat,((k+1:Nat):Int)=q/\q<=(Ah m).length/\(o.set k d).length=(Ah m).length/\Ck (o.set k d)/\(o.set k d).drop q=replicate ((Ah m).length-q) 0/\0<=l/\l<=1/\Ap (o.set k d)=Ap ((Ah m).take q)-Ap ((Ah n).take q)+1000000000 ^ q*l):=by
    intro s h1 h2 g;have j:∀d:Int,(o.set k d).drop (k+1)=replicate ((Ah m).length-(k+1)) 0:=(by intro d;rw[drop_set_of_lt ω,<-drop_drop,y,drop_replicate];congr 1);by_cases N:(Ah m)[k]>=s
    .have A:Cz ((Ah m)[k]-s)=(Ah m)[k]-s:=Hn ω ω;refine⟨0,(Ah m)[k]-s,by rw[Ao N,Ak,A,Ho rfl],k+1,rfl,ω,by simpa using E,u.set _ ω ω,j _,ω,ω,?_⟩;rw[Nd _ f,b,g,z];grind
    .have A:Cz ((Ah m)[k]+1000000000)=(Ah m)[k]+1000000000:=Hn ω ω;have V:Cz ((Ah m)[k]+1000000000-s)=(Ah m)[k]+1000000000-s:=Hn ω ω;refine⟨1,(Ah m)[k]+1000000000-s,by rw[As N,Am,A,V,Ho rfl],k+1,rfl,ω,by simpa using E,u.set _ ω ω,j _,ω,ω,?_⟩;rw[Nd _ f,b,g,z,Int.pow_succ];grind
   refine .inl ?_;rcases Cf k (Ah n).length with hb'|hb'
   .have hy:=hb.get hb';have U:Cz (c+(Ah n)[k])=c+(Ah n)[k]:=Hn ω ω;obtain⟨l,d,D,B⟩:=key (c+(Ah n)[k]) ω ω (by rw[Hv _ h,Hv _ hb'];grind);refine⟨(l,((k+1:Nat):Int),o.set k d),?_,B,ζ⟩;rw[<-D];simp only[R,Ak,Ez rfl h,Ez rfl f,Ad,Ao (ω:(k:Int)<((Ah n).length:Int)),Ez rfl hb',U,S]
   .obtain⟨l,d,D,B⟩:=key c ω ω (by rw[Hv _ h,Qw (Ah n) hb',Qw (Ah n) ω];grind);refine⟨(l,((k+1:Nat):Int),o.set k d),?_,B,ζ⟩;rw[<-D];simp only[R,Ak,Ez rfl h,Ez rfl f,Ad,As (ω:¬(k:Int)<((Ah n).length:Int)),Am,S]
  .have L:k=(Ah m).length:=ω;subst L;refine .inr ⟨o,ψ,c,E,u,M,hc,?_⟩;rw[Dq,Qw _ J,G7,G7]at z;exact z
 .rintro o ⟨c,h2,h3,h4,h5,Z⟩;have I:=Ln h3;rw[h2]at I;have hp:=L6 (Ah m).length;have:c=0:=by
   rcases Int.lt_or_le 0 c with hc|hc
   .have:c=1:=ω;subst this;omega
   .omega
  subst this;rw[U6 o ω,Ad,Mo h3 (n:=m-n) ω]
theorem A44 {o:List Int} (hk:k<o.length) (h:o.drop k=replicate n 0):o[k]=0:=by have:=congrArg head? h;rw[head?_drop,B4 hk]at this;cases n with| zero=>simp at this| succ t=>exact Ew this
theorem cl1 {c w:Int} (f:c+x+w=s) (hw:w=y*A) (b:1000000000*(s / 1000000000)+s % 1000000000=s) (z V:Int) (h:o+X*K*c=z+X*(y*V)):o+X*K*(s % 1000000000-x)+X*K*1000000000*(s / 1000000000)=z+X*(y*(V+K*A)):=by grind
set_option maxHeartbeats 1000000 in
theorem A45 (m n:Nat) (hm:Bp m<274877906944) (hn:Bp n<274877906944):Tw (Ah m) (Ah n)=some (Ah (m*n)):=by
  unfold Tw;unfold Bp at hm hn;have hw:Aa (((Ah m).length:Int)+((Ah n).length:Int))=(((Ah m).length+(Ah n).length:Nat):Int):=ξ;have M:Aa ((((Ah m).length+(Ah n).length:Nat):Int)+1)=(((Ah m).length+(Ah n).length+1:Nat):Int):=ξ;rw[hw,M,Lm rfl rfl (Nat.le_refl _) ω ω];simp only[Ad];have ha:=Gl m;have hb:=Gl n;have D:Ap (Ah n)=n:=G7 n;generalize Ah n=b at *;generalize hL:b.length=L at *;refine Jp (λ(i,o)=>∃k:Nat,i=k/\k<=(Ah m).length/\o.length=(Ah m).length+L+1/\Ck o/\o.drop (k+L)=replicate ((Ah m).length+1-k) 0/\Ap o=Ap ((Ah m).take k)*n) (λ(i,_)=>(Ah m).length-i.toNat) (λo=>o.length=(Ah m).length+L+1/\Ck o/\Ap o=((m*n:Nat):Int)) ⟨0,rfl,ω,ψ,Ck.replicate _,by rw[drop_replicate];congr 1;omega,by simp[Ae1,Ap]⟩ ?_ ?_
  . rintro⟨i,o⟩ ⟨k,rfl,hk,ho,G,U,N⟩;rcases Cf k (Ah m).length with h|h
    . have hx:=ha.get h;have e4:=Nj h ω;have e5:decide ((k:Int)<((Ah m).length:Int))=true:=Ao ω;simp only[e5,Ak];have X:Ag (Ah m) (k:Int)=some (Ah m)[k]:=Ez rfl h;generalize J:(Ah m)[k]=x at *;refine .inl (Ae0 (Ey (λ(c,j,o')=>∃q:Nat,j=q/\o'.length=(Ah m).length+L+1/\Ck o'/\0<=c/\c<1000000000 /\ ((q<=L/\o'.drop (k+L)=replicate ((Ah m).length+1-k) 0/\Ap o' + 1000000000 ^ (k+q)*c=Ap o+1000000000 ^ k*(x*Ap (b.take q))) \/ (q=L+1/\c=0/\o'.drop (k+1+L)=replicate ((Ah m).length+1-(k+1)) 0/\Ap o'=Ap o+1000000000 ^ k*(x*n)))) (λ(_,j,_)=>L+1-j.toNat) (λ(c,j,o')=>o'.length=(Ah m).length+L+1/\Ck o'/\o'.drop (k+1+L)=replicate ((Ah m).length+1-(k+1)) 0/\Ap o'=Ap o+1000000000 ^ k*(x*n)) ⟨0,rfl,ho,G,ω,ω,.inl ⟨ω,U,by simp[Ap]⟩⟩ ?_ ?_))
      . rintro⟨c,j,o'⟩ ⟨q,rfl,u,g,A,hc,hq⟩;rcases hq with⟨hq,f,l⟩|⟨rfl,rfl,f,l⟩
        . have e8:Aa ((k:Int)+(q:Int))=((k+q:Nat):Int):=ξ;have e6:Aa ((q:Int)+1)=((q+1:Nat):Int):=Nj (Nat.lt_succ_self q) ω;have y:k+q<o'.length:=ω;have a1:=g.get y;have w4:Bb o'[k+q]=o'[k+q]:=Dy ω ω;have w5:Bb (c+o'[k+q])=c+o'[k+q]:=Dy ω ω;have p1:(1000000000:Int) ^ (k+(q+1))=1000000000 ^ (k+q)*1000000000:=(by rw[<-Nat.add_assoc,Int.pow_succ]);have Z:(1000000000:Int) ^ (k+q)=1000000000 ^ k*1000000000 ^ q:=Int.pow_add ..;rcases Cf q L with hq'|hq'
          . have B:q<b.length:=ω;have hy:=hb.get B;have a6:=Afz hx.1 hx.2 hy.1 hy.2;have w1:Bb x=x:=Dy ω ω;have w2:Bb b[q]=b[q]:=Dy ω ω;have w3:Bb (x*b[q])=x*b[q]:=Dy ω ω;have Y:Bb (c+o'[k+q]+x*b[q])=c+o'[k+q]+x*b[q]:=Dy ω ω;generalize hs:c+o'[k+q]+x*b[q]=s at Y;have E:0<=s:=ω;have a7:s<1000000000000000000:=ω;have w7:Cz (s % 1000000000)=s % 1000000000:=Hn ω ω;refine .inl ⟨(s / 1000000000,((q+1:Nat):Int),o'.set (k+q) (s % 1000000000)),?_,⟨q+1,rfl,by simpa using u,g.set _ ω ω,ω,ω,.inl ⟨ω,?_,?_⟩⟩,ζ⟩
            . simp only[Ao (ω:(q:Int)<(L:Int)),Ak,Ad,e8,Ez rfl y,X,Ez rfl B,w1,w2,w3,w4,w5,hs,Y,Mm E (show (0:Int)<1000000000 by decide),Mn E (show s<=_ by omega) (show (0:Int)<1000000000 by decide),w7,e6,Ho rfl]
            . rw[drop_set_of_lt ω];exact f
            . rw[Nd _ y,Hv _ B,p1,Z];rw[Z]at l;exact cl1 hs rfl (Int.mul_ediv_add_emod s 1000000000) _ _ l
          . have R:q=L:=ω;subst R;by_cases V:c>0
            . have z:o'[k+q]=0:=A44 y f;refine .inl ⟨(0,((q+1:Nat):Int),o'.set (k+q) c),?_,⟨q+1,rfl,by simpa using u,g.set _ ω ω,ω,ω,.inr ⟨rfl,rfl,?_,?_⟩⟩,ψ⟩
              . have w8:Cz c=c:=Hn ω ω;have w9:Bb c=c:=Dy ω ω;simp only[As (ω:¬(q:Int)<(q:Int)),Am,Ao V,Ak,Ad,e8,Ez rfl y,z,show Bb (0:Int)=0 from rfl,Int.add_zero,w9,Mm A (show (0:Int)<1000000000 by decide),Mn A (show c<=_ by omega) (show (0:Int)<1000000000 by decide),Int.emod_eq_of_lt A hc,Int.ediv_eq_zero_of_lt A hc,w8,e6,Ho rfl]
              . rw[drop_set_of_lt ω,show k+1+q=(k+q)+1 by omega,<-drop_drop,f,drop_replicate];congr 1
              . rw[Nd _ y,z,Int.sub_zero];rw[Im ω,D]at l;omega
            . have I:c=0:=ω;subst I;refine .inr ⟨(0,(q:Int),o'),?_,u,g,?_,?_⟩
              . simp only[As (ω:¬(q:Int)<(q:Int)),Am,Ad,show decide ((0:Int)>0)=false from rfl]
              . rw[show k+1+q=(k+q)+1 by omega,<-drop_drop,f,drop_replicate];congr 1
              . rw[Im ω,D]at l;omega
        . refine .inr ⟨(0,((L+1:Nat):Int),o'),?_,u,g,f,l⟩;simp only[As (ω:¬((L+1:Nat):Int)<(L:Int)),Am,Ad,show decide ((0:Int)>0)=false from rfl]
      . rintro⟨c,j,o'⟩ ⟨u,g,f,l⟩;refine⟨_,by simp only[e4],(((k+1:Nat):Int),o'),rfl,⟨k+1,rfl,ω,u,g,f,?_⟩,ζ⟩;rw[l,Hv _ h,Int.add_mul,<-N,J];grind
    . have S:k=(Ah m).length:=ω;subst S;refine .inr ⟨o,ψ,ho,G,?_⟩;rw[Dq,G7]at N;rw[N];simp
  . rintro o ⟨h2,h3,h4⟩;rw[U6 o ω,Ad,Mo h3 h4]
end Go.Ab
