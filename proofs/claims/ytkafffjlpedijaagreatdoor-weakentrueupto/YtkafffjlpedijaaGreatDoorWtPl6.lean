/- Plain laws: what the plain functions answer. -/
import Derived.Test.YtkafffjlpedijaaGreatDoorWtPl5
namespace Go.Ab
open Go
noncomputable def Qk (a:Hy):List As:=(Q9 a).getD []
theorem Awu (a:Hy) (f:a.E.T.length+a.F.T.length<=12):Q9 a=some (Qk a)/\(∀g,Qk a = [g]->a.G≠1)/\(∀g c,Qk a = [g,c]->a.G=1)/\(On a=some true->(a.G=1->Qk a = [a.E,a.F])/\(a.G≠1->∀s e,Kt a.E a.F=some (s,e)->Qk a = [s])):=by
 obtain⟨b,hb,_⟩:=Alw a f;obtain⟨r,i⟩:=Alv a.E a.F f;have key:∃l,Q9 a=some l/\(∀g,l = [g]->a.G≠1)/\(∀g c,l = [g,c]->a.G=1)/\(On a=some true->(a.G=1->l = [a.E,a.F])/\(a.G≠1->∀s e,Kt a.E a.F=some (s,e)->l = [s])):=by
  unfold Q9;rw[Awm a.E ω,Awm a.F ω,hb,i];cases b with
  | false=>exact⟨[],rfl,λ_ h=>(by cases h),λ_ _ h=>(by cases h),λh=>(by cases h)⟩
  | true=>
   simp only[Ad,Dz,Am];by_cases hk:a.G=1
   .rw[Dk hk];exact⟨_,rfl,λ_ h=>(by cases h),λ_ _ _=>hk,λ_=>⟨λ_=>rfl,λh=>absurd hk h⟩⟩
   .rw[Cn hk];exact⟨_,rfl,λ_ _=>hk,λ_ _ h=>(by cases h),λ_=>⟨λh=>absurd h hk,λ_ s e h=>by rw[Fj h]⟩⟩
 obtain⟨l,h1,h2⟩:=key;have e:Qk a=l:=by unfold Qk;rw[h1];rfl
 rw[e];exact⟨h1,h2⟩
def Ql (fs:List As) (u:Ee):Prop:=Qj fs (Qk u.X) u.Y u.Z
open Classical in
theorem Bbk (fs:List As) (u:Ee) (hn:fs.length<=5) (h4:∀f∈fs,f.T.length<=4) (hu:USm u):Q3 fs u=some (decide (Ql fs u)):=by
 have he:=hu.e4;have hf:=hu.f4;obtain⟨l1,_,_⟩:=Awu u.X ω;have hp:=hu.sz.fi;have hq:=hu.sz.se;unfold Q3 Ys Ql;rw[l1,Ad];generalize Qk u.X=l
 match l with
 | []=>rw[decide_eq_false (λh:Qj fs [] u.Y u.Z=>h)];rfl
 | [g]=>
  have i0:Af [g] 0=some g:=rfl;rw[Dk ψ,Ak,i0,Ad,Ags fs g u.Y hn h4 hp.1 hp.2,Ad];by_cases hc:Kf fs g u.Y
  .rw[Abz.2 hc,Ak];by_cases h0:u.Z = []
   .rw[decide_eq_true (show Qj fs [g] u.Y u.Z from ⟨hc,h0⟩),h0];rfl
   .rw[decide_eq_false (λh:Qj fs [g] u.Y u.Z=>h0 h.2),Cn (λh=>h0 (Fa.1 ω))];rfl
  .rw[decide_eq_false (λh:Qj fs [g] u.Y u.Z=>hc h.1)];cases h:(fs.all Cd&&(Cd g&&(Lt fs u.Y&&decide (Xw fs g u.Y)))) with| true=>exact (hc (Abz.1 h)).elim| false=>rfl
 | [g,g']=>
  have i0:Af [g,g'] 0=some g:=rfl;have i1:Af [g,g'] 1=some g':=rfl;rw[Cn ψ,Am,Dk ψ,Ak,i0,i1,Ad,Ad,Ags fs g u.Y hn h4 hp.1 hp.2,Ags fs g' u.Z hn h4 hq.1 hq.2,Ad,Ad];have e1:(fs.all Cd&&(Cd g&&(Lt fs u.Y&&decide (Xw fs g u.Y))))=decide (Kf fs g u.Y):=(by rw[Bool.eq_iff_iff,C8];exact Abz);have e2:(fs.all Cd&&(Cd g' && (Lt fs u.Z&&decide (Xw fs g' u.Z))))=decide (Kf fs g' u.Z):=(by rw[Bool.eq_iff_iff,C8];exact Abz);rw[e1,e2];by_cases hc:Kf fs g u.Y
  .by_cases hd:Kf fs g' u.Z
   .rw[decide_eq_true hc,decide_eq_true hd,decide_eq_true (show Qj fs [g,g'] u.Y u.Z from ⟨hc,hd⟩)];rfl
   .rw[decide_eq_true hc,decide_eq_false hd,decide_eq_false (λh:Qj fs [g,g'] u.Y u.Z=>hd h.2)];rfl
  .rw[decide_eq_false hc,decide_eq_false (λh:Qj fs [g,g'] u.Y u.Z=>hc h.1)];rfl
 | g::g' :: g'' :: t=>rw[Cn ζ,Am,Cn ζ,Am,decide_eq_false (λh:Qj fs (g::g' :: g'' :: t) u.Y u.Z=>h)];rfl
def Awv (x:Bh) (u:Ee) (R:List Ai):Prop:=∃S,AxV x u.X S/\∀val,Dx x val R=(Gr x val u.W:Rat)*Dx x val S
theorem Bbl {x:Bh} (f:CSz x) (u:Ee) (hu:USm u):∃R e,Pi x u=some (R,e)/\(e=0->PX x 136 16001 R/\Awv x u R):=by
 have B:=hu.e4;have A:=hu.f4;have c:RB 3 (cR 1):=(Lq (k:=1) (by rw[K0];decide) δ).mono δ;have h1:rq (cR 1)=1:=by rw[Qb];rfl
 obtain⟨b,b1,b2⟩:=Uq x f [⟨cR 1,u.W⟩] (λt ht=>by simp only[Dw]at ht;subst ht;exact⟨c.mono δ,hu.sz.pa⟩);obtain⟨R,e,z,y⟩:=Bbh f u.X ω ω;unfold Pi Adh;rw[P9,Ad,Ad,b1,Ad,z];cases b with
 | false=>exact⟨[],7,rfl,λh=>absurd h δ⟩
 | true=>
  simp only[Dz,Am,Ad];by_cases h0:e=0
  .rw[Fc h0,Am];obtain⟨i,hi,g,l⟩:=y h0;obtain⟨_,j⟩:=b2.1 rfl;have hm:E5 x u.W:=⟨(Xl.1 j).2.2 ⟨cR 1,u.W⟩ ψ,hu.sz.pa⟩;obtain⟨S,e',s,q⟩:=Bbb f i hm (Alb 1) h1 c hi g;rw[s];exact⟨S,e',rfl,λh=>⟨(q h).1.px,R,l,(q h).2⟩⟩
  .rw[Ek h0,Ak];exact⟨[],e,rfl,λh=>(h0 h).elim⟩
noncomputable def O9 (x:Bh) (u:Ee):List Ai:=match Pi x u with|some r=>r.1|none=>[]
noncomputable def Nf (x:Bh) (u:Ee):Int:=match Pi x u with|some r=>r.2|none=>0
theorem Aww {x:Bh} (b:CSz x) (u:Ee) (hu:USm u):Pi x u=some (O9 x u,Nf x u)/\(Nf x u=0->PX x 136 16001 (O9 x u)/\Awv x u (O9 x u)):=by
 obtain⟨R,e,h1,h2⟩:=Bbl b u hu;have f:O9 x u=R:=by unfold O9;rw[h1]
 have c:Nf x u=e:=by unfold Nf;rw[h1]
 rw[f,c];exact⟨h1,h2⟩
noncomputable def usV (x:Bh):List Ee->A7->Rat
 | [],_=>0
 | u::l,m=>rq u.C*cf (O9 x u) m+usV x l m
theorem Bbm (x:Bh) (l b:List Ee) (m:A7):usV x (l++b) m=usV x l m+usV x b m:=by induction l with| nil=>simp only[List.nil_append,usV];grind| cons u l ih=>simp only[Du,usV,ih];grind
theorem PX.tsz {x:Bh} {n k:Nat} {p:List Ai} (h:PX x n k p) (hk:k<=1048576):∀t∈p,TSz t:=λt ht=>⟨(h.rb t ht).mono hk,(h.mo t ht).2⟩
theorem Bbn {x:Bh} (k:CSz x) (y:En x) {p q:List Ai} (hp:PX x 12 9 p) (hq:PX x 12 9 q) (f:List Ee) (hl:f.length<=6) (hu:∀u∈f,USm u) : ∃R e,Q4 x p q f=some (R,e)/\(e=0↔∀u∈f,Nf x u=0)/\(e=0->PX x 1000 1048576 R/\∀a,cf R a=cf p a-cf q a-usV x f a):=by
 obtain⟨b,b1,b2⟩:=Uq x k p (hp.tsz δ);obtain⟨c,c1,c2⟩:=Uq x k q (hq.tsz δ);have hb:b=true:=b2.2 ⟨y,(hp.can δ δ).can⟩;have hc:c=true:=c2.2 ⟨y,(hq.can δ δ).can⟩;subst hb hc;obtain⟨D,d1,d2,d3⟩:=Awp k y hp hq δ δ δ δ δ;unfold Q4;rw[b1,c1,d1];simp only[Ad,Dz,Am,bne_self_eq_false];obtain⟨e,I,Z⟩:=Lb (step:=(λ(v11,v12)=> bif v12<(f.length:Int) then ((Af f v12).bind λl=> (Pi x l).bind λi=> bif (i.2 != (0:Int)) then (some (.inr (.inl ([],i.2)))) else ((Ti x i.1 l.C).bind λg=> bif (g.2 != (0:Int)) then (some (.inr (.inl ([],g.2)))) else ((Mx x v11 g.1).bind λv17=> bif (v17.2 != (0:Int)) then (some (.inr (.inl ([],v17.2)))) else (some (.inl (v17.1,(Ac (v12+1)))))))) else (some (.inr (.inr v11))):List Ai×Int->Option ((List Ai×Int)⊕((List Ai×Int)⊕List Ai)))) (λs=>∃(j:Nat) (R:List Ai),s=(R,(j:Int))/\j<=f.length/\PX x (24+136*j) (21+16020*j) R/\(∀a,cf R a=cf p a-cf q a-usV x (f.take j) a)/\∀u∈f.take j,Nf x u=0) (λs=>f.length-s.2.toNat) (λe=>(∃z,e = .inl ([],z)/\z≠0/\∃u∈f,Nf x u≠0)\/(∃R,e = .inr R/\PX x 1000 1048576 R/\(∀a,cf R a=cf p a-cf q a-usV x f a)/\∀u∈f,Nf x u=0)) (by
   rintro _ ⟨j,R,rfl,hj,G,B,A⟩;dsimp only;rcases Cg j f.length with h|h
   .have hx:f[j]? = some f[j]:=Bx h;generalize f[j]=u at hx;have hm:=Cf hx;obtain⟨Y,X⟩:=Aww k u (hu u hm);rw[Ap ω,Ak,Bv rfl hx,Ad,Y,Ad];dsimp only;by_cases h0:Nf x u=0
    .left;rw[Fc h0,Am];obtain⟨S,M,L,J⟩:=Bbc k y (X h0).1 (hu u hm).co δ δ δ δ;obtain⟨T,t1,t2,t3⟩:=Awp k y G L ω ω δ ω δ;rw[M,Ad];dsimp only;rw[Fc rfl,Am,t1,Ad];dsimp only;rw[Fc rfl,Am,C9 h ω];refine⟨_,rfl,⟨j+1,T,rfl,ω,t2.up ω ω,λa=>?_,λw hw=>?_⟩,ζ⟩
     .rw[t3,B,J,Dc hx,Bbm];simp only[usV];grind
     .rw[Dc hx]at hw;rcases D7.1 hw with hw|hw
      .exact A w hw
      .rw[Dw]at hw;subst hw;exact h0
    .right;rw[Ek h0,Ak];exact⟨_,rfl,.inl ⟨_,rfl,h0,u,hm,h0⟩⟩
   .right;have:j=f.length:=ω;subst this;rw[Dh]at B A;exact⟨_,by rw[Ax ω,Am],.inr ⟨R,rfl,G.up ω ω,B,A⟩⟩)
  (D,0) ⟨0,D,rfl,ω,d2.up ω ω,λa=>by rw[d3,List.take_zero];simp only[usV];grind,λu hu=>by simp at hu⟩;rcases Z with⟨z,rfl,h0,u,hm,E⟩|⟨R,rfl,V,U,N⟩
 .exact⟨[],z,bnd I rfl,⟨λh=>(h0 h).elim,λh=>(E (h u hm)).elim⟩,λh=>(h0 h).elim⟩
 .exact⟨R,0,bnd I rfl,⟨λ_=>N,λ_=>rfl⟩,λ_=>⟨V,U⟩⟩
structure PSm (p:List Ai):Prop where
 len:p.length<=12
 rb:∀t∈p,RB 9 t.C
 sz:∀t∈p,TSz t
theorem PSm.px {x:Bh} {p:List Ai} (h:PSm p) (hc:H3 x.D x.V x.E p=true):PX x 12 9 p :=
 have hp:H5 x p:=⟨hc,h.sz⟩
 ⟨hp.cp,hp.mo,h.rb,h.len⟩
structure OkW (x:Bh) (fs:List As) (p q:List Ai) (us:List Ee):Prop where
 fx:En x
 cp:H3 x.D x.V x.E p=true
 cq:H3 x.D x.V x.E q=true
 fl:fs.all Cd=true
 ju:∀u∈us,Ql fs u/\(u.X.G=1\/0<=rq u.C)
 pr:∀u∈us,Nf x u=0
 va:∀a,0<=cf p a-cf q a-usV x us a
open Classical in
theorem Bbo {x:Bh} (hz:CSz x) (fs:List As) (hn:fs.length<=5) (h4:∀f∈fs,f.T.length<=4) {p q:List Ai} (hp:PSm p) (hq:PSm q) (us:List Ee) (hl:us.length<=6) (hu:∀u∈us,USm u) :
  ∃e,Ms x fs p q us=some e/\(e=0↔OkW x fs p q us):=by
 obtain⟨b,b1,b2⟩:=Uq x hz p hp.sz
 obtain⟨c,c1,c2⟩:=Uq x hz q hq.sz
 unfold Ms
 rw[b1,c1,(Awc fs hn h4).1]
 cases b with
 | false=>exact⟨1,rfl,⟨λh=>absurd h δ,λh=>absurd (b2.2 ⟨h.fx,h.cp⟩) δ⟩⟩
 | true=>
  cases c with
  | false=>exact⟨1,rfl,⟨λh=>absurd h δ,λh=>absurd (c2.2 ⟨h.fx,h.cq⟩) δ⟩⟩
  | true=>
   cases hfs:fs.all Cd with
   | false=>exact⟨1,rfl,⟨λh=>absurd h δ,λh=>absurd h.fl (by rw[hfs];decide)⟩⟩
   | true=>
    simp only[Ad,Dz,Am]
    obtain⟨hf,hcp⟩:=b2.1 rfl
    obtain⟨_,hcq⟩:=c2.1 rfl
    obtain⟨R,e,r1,r2,r3⟩:=Bbn hz hf (hp.px hcp) (hq.px hcq) us hl hu
    let P:Ee->Bool:=λu=>decide (Ql fs u)&&(decide (u.X.G=1)||decide (0<=rq u.C))
    have hP:∀u,P u=(decide (Ql fs u)&&(decide (u.X.G=1)||decide (0<=rq u.C))):=λ_=>rfl
    have hall:us.all P=true↔∀u∈us,Ql fs u/\(u.X.G=1\/0<=rq u.C):=by
     rw[D2]
     refine forall_congr' λu=>imp_congr_right λ_=>?_
     rw[hP,Ck,Bool.or_eq_true,C8,C8,C8]
    have hfin:∃e',(Q4 x p q us).bind (λv16=>
      bif (v16.2 != (0:Int)) then (some v16.2)
      else (
      (Q5 v16.1).bind λv17=>
      bif (!v17) then (some (15:Int)) else (some (0:Int))))=some e'/\(e'=0↔(∀u∈us,Nf x u=0)/\∀a,0<=cf p a-cf q a-usV x us a):=by
     rw[r1,Ad]
     dsimp only
     by_cases h0:e=0
     .obtain⟨g1,g2⟩:=r3 h0
      have g3:=r2.1 h0
      have hlen:=g1.len
      rw[Fc h0,Am,A7e R g1.rb δ ω,Ad]
      have hd:Dst R:=CP.dst g1.cp
      have hnn:=A7g hd
      cases hcs:(R.all λt=>decide (0<=rq t.C)) with
      | true=>exact⟨0,rfl,⟨λ_=>⟨g3,λa=>by rw[<-g2];exact hnn.1 hcs a⟩,λ_=>rfl⟩⟩
      | false=>exact⟨15,rfl,⟨λh=>absurd h δ,λh=>absurd (hnn.2 λa=>by rw[g2];exact h.2 a) (by rw[hcs];decide)⟩⟩
     .rw[Ek h0,Ak]
      exact⟨e,rfl,⟨λh=>(h0 h).elim,λh=>(h0 (r2.2 h.1)).elim⟩⟩
    obtain⟨e',f1,f2⟩:=hfin
    have key:=Ky (step:=(λv10=>
      bif v10<(us.length:Int) then (
      (Af us v10).bind λv11=>
      (Q3 fs v11).bind λv13=>
      bif (!v13) then (
      some (.inr (.inl 23))
      )
      else (
      bif (v11.X.G != (1:Int)) then (
      (G5 v11.C).bind λv14=>
      bif v14<(0:Int) then (
      some (.inr (.inl 23))
      )
      else (
      some (.inl (Ac (v10+1)))
      )
      )
      else (
      some (.inl (Ac (v10+1)))
      )))
      else (
      some (.inr (.inr ()))
      ):Int->Option (Int⊕(Int⊕Unit)))) (s0:=0) (J:=λz=>match z with
       | .inl r15=>some r15
       | .inr _=>(Q4 x p q us).bind (λv16=>
        bif (v16.2 != (0:Int)) then (some v16.2)
        else (
        (Q5 v16.1).bind λv17=>
        bif (!v17) then (some (15:Int)) else (some (0:Int))))) us P (λj=>(j:Int)) rfl ω (rt:=e') (rf:=23) (by
     intro j u hx h1 h2 h3
     have hm:=Cf hx
     rw[h1,Ak,h2,Ad,Bbk fs u hn h4 (hu u hm),Ad,h3,hP]
     cases hj:decide (Ql fs u) with
     | false=>exact⟨nofun,λ_=>⟨_,rfl,rfl⟩⟩
     | true=>
      by_cases hk:u.X.G=1
      .rw[Fc hk,decide_eq_true hk]
       exact⟨(λ_=>rfl),λh=>by cases h⟩
      .rw[Ek hk,decide_eq_false hk,(M9 (hu u hm).co δ).1,Ad]
       by_cases h0:0<=rq u.C
       .rw[decide_eq_true h0,Ax (λh=>by rw[Abx]at h;grind)]
        exact⟨(λ_=>rfl),λh=>by cases h⟩
       .rw[decide_eq_false h0,Ap ((Abx _).2 (by grind))]
        exact⟨nofun,λ_=>⟨_,rfl,rfl⟩⟩) (by
     intro h1
     exact⟨.inr (),by rw[h1,Am],f1⟩)
    refine⟨_,key,?_⟩
    cases ha:us.all P with
    | true=>
     rw[Ak,f2]
     exact⟨λh=>⟨hf,hcp,hcq,hfs,hall.1 ha,h.1,h.2⟩,λh=>⟨h.pr,h.va⟩⟩
    | false=>
     rw[Am]
     exact⟨λh=>absurd h δ,λh=>absurd (hall.2 h.ju) (by rw[ha];decide)⟩
def sX:Bh:=⟨[],[⟨1,0,[]⟩],⟨1,0,[]⟩⟩
def sM:As:=⟨-1,[⟨0,1⟩]⟩
def sO:Aj:=⟨false,[1],[1]⟩
def sP:List Ai:=[⟨sO,⟨[],[⟨⟨0,[⟨0,1⟩]⟩,1⟩]⟩⟩]
def sQ:List Ai:=[⟨sO,⟨[],[]⟩⟩,⟨sO,⟨[],[⟨sM,1⟩]⟩⟩]
def sU:Ee:=⟨⟨1,sM,⟨1,[]⟩,1⟩,sO,⟨[],[]⟩,[sO],[⟨false,[],[]⟩]⟩
theorem Al9:rq sO=1:=δ
theorem Bbp:RB 1048576 sO:=by
 have h:Ma [1]:=λx hx=>by simp only[Dw]at hx;subst hx;decide
 exact⟨h,h,δ,δ⟩
theorem Bbq:Pn [sM] sM [sO]=some true:=by
 rw[Ags [sM] sM [sO] δ (λf b=>by simp only[Dw]at b;subst b;decide) δ (λp hp=>by simp only[Dw]at hp;subst hp;exact Bbp)];have hm:Lt [sM] [sO]=true:=by unfold Lt;simp only[List.length_singleton,List.all_cons,List.all_nil,Bool.and_true,decide_true,Al9];decide
 rw[Abz.2 ⟨δ,δ,hm,.inl ⟨λv=>by simp only[dq,Al9];grind,by simp only[dq,Al9];grind⟩⟩]
theorem Bbr:Q3 [sM] sU=some true:=by have h1:Q9 sU.X=some [sM,⟨1,[]⟩]:=κ;have h2:Pn [sM] ⟨1,[]⟩ [⟨false,[],[]⟩]=some true:=κ;have i0:Af [sM,(⟨1,[]⟩:As)] 0=some sM:=rfl;have i1:Af [sM,(⟨1,[]⟩:As)] 1=some ⟨1,[]⟩:=rfl;have c:sU.Y = [sO]:=rfl;have b:sU.Z = [⟨false,[],[]⟩]:=rfl;unfold Q3 Ys;rw[h1,Ad,Cn ψ,Am,Dk ψ,Ak,i0,i1,c,b,Ad,Bbq,Ad,Ak,Ad,h2];rfl
theorem Bbs:Yj=some true:=by
 have h0:Mt 1=some sO:=κ;have h1:L2 sX sP=some true:=κ;have h2:L2 sX sQ=some true:=κ;have h3:Tf [sM]=some true:=κ;have i:Q4 sX sP sQ [sU]=some ([],0):=κ;have h:Q5 []=some true:=κ;have g:Ms sX [sM] sP sQ []=some 15:=κ;have b:Ac (0+1)=1:=κ;have f:Ms sX [sM] sP sQ [sU]=some 0:=by
  unfold Ms;rw[h1,h2,h3,i];simp only[Ad,Dz,Am];refine bnd (a:=.inr ()) ?_ (by simp only[bne_self_eq_false,Am,h,Ad,Dz]);refine (Ir (s':=1) ?_).trans (D5 ?_)
  .have i0:Af [sU] 0=some sU:=rfl;have c:sU.X.G=1:=rfl;simp only[List.length_singleton,i0,Ad,Bbr,Dz,Am,c,bne_self_eq_false,b];rfl
  .rfl
 unfold Yj;rw[h0,Ad];show (Ms sX [sM] sP sQ [sU]).bind _=_;rw[f,Ad];show (Ms sX [sM] sP sQ []).bind _=_;rw[g];rfl
theorem Bbt (x:Bh) (fs:List As) (p q:List Ai) (g:fs.length<=1048576) (ht:∀f∈fs,f.T.length<=1048576) (hp:p.length<=1048576/\∀t∈p,TSz t) (hq:q.length<=1048576/\∀t∈q,TSz t) : ∃b,Yk x fs p q=some b/\(b=true->(fs.length<=5/\∀f∈fs,f.T.length<=4)/\(p.length<=6/\∀t∈p,RB 3 t.C)/\(q.length<=6/\∀t∈q,RB 3 t.C)):=by
 obtain⟨a,a1,a2⟩:=Ba2 fs 5 4 g ht;obtain⟨b,b1,b2⟩:=Awt p 6 hp.1 hp.2;obtain⟨c,l,k⟩:=Awt q 6 hq.1 hq.2;have hk:∃d,Yo x=some d:=by unfold Yo;cases decide ((x.D.length:Int)<=2) <;> exact⟨_,rfl⟩
 obtain⟨d,d1⟩:=hk;unfold Yk;rw[d1,a1,b1,l];cases d with
 | false=>exact⟨false,rfl,λh=>by cases h⟩
 | true=>
  cases a with
  | false=>exact⟨false,rfl,λh=>by cases h⟩
  | true=>cases b with| false=>exact⟨false,rfl,λh=>by cases h⟩| true=>refine⟨c,rfl,λh=>?_⟩;obtain⟨y,j⟩:=a2 rfl;obtain⟨u,e4⟩:=b2 rfl;obtain⟨s,i⟩:=k h;exact⟨⟨ω,λf g=>by have:=j f g;omega⟩,⟨ω,e4⟩,⟨ω,i⟩⟩
theorem Awx {p:List Ai} (h:p.length<=6/\∀t∈p,RB 3 t.C) (ht:∀t∈p,TSz t):PSm p:=⟨ω,λt ht=>(h.2 t ht).mono δ,ht⟩
def z0:Aj:=⟨false,[],[]⟩
theorem Awy {l:As} (c:Cd l=true):l.T.Pairwise λa b=>a.v<b.v:=by refine Av8 (·.v) l.T λj x hx=>?_;unfold Cd at c;rw[Ck,D2]at c;have:=c.2 (x,j) (List.mk_mem_zipIdx_iff_getElem?.2 hx);unfold Sc at this;rw[Ck]at this;exact this.2
def lsQ (g:Int->Int):List (Rat×Int)->Rat
 | []=>0
 | t::l=>t.1*(g t.2:Rat)+lsQ g l
def clQ:List (Rat×Int)->Int->Rat
 | [],_=>0
 | t::l,v=>(if t.2=v then t.1 else 0)+clQ l v
def Kg (v:Int) (l:List (Rat×Int)):List (Rat×Int):=l.filter λt=>!(t.2==v)
theorem Ama (g:Int->Int) (v:Int):∀l,lsQ g l=clQ l v*(g v:Rat)+lsQ g (Kg v l)
 | []=>by simp only[lsQ,clQ,Kg,List.filter_nil];grind
 | t::l=>by
  have ih:=Ama g v l;unfold Kg at *;simp only[lsQ,clQ,List.filter_cons];by_cases h:t.2=v
  .rw[Ay h,Dk h,Av δ,ih,<-h];grind
  .rw[Av h,Cn h,Ay δ];simp only[lsQ];rw[ih];grind
theorem Amb (v w:Int):∀l,clQ (Kg v l) w=if w=v then 0 else clQ l w
 | []=>by simp[Kg,clQ]
 | t::l=>by
  have ih:=Amb v w l;unfold Kg at *;simp only[clQ,List.filter_cons];by_cases h:t.2=v
  .rw[Dk h,Av δ,ih];by_cases hw:w=v
   .rw[Ay hw,Ay hw]
   .rw[Av hw,Av hw,Av ω];grind
  .rw[Cn h,Ay δ];simp only[clQ];rw[ih];by_cases hw:w=v
   .rw[Ay hw,Ay hw,Av ω];grind
   .rw[Av hw,Av hw]
theorem Bbu (g:Int->Int):∀(n:Nat) (L M:List (Rat×Int)),L.length+M.length<=n->(∀v,clQ L v=clQ M v)->lsQ g L=lsQ g M:=by
 intro n;induction n with
 | zero=>intro L M h _;have h1:L = []:=Fa.1 ω;have h2:M = []:=Fa.1 ω;rw[h1,h2]
 | succ n ih=>
  intro L M h hc;have b:∀v (l:List (Rat×Int)),(Kg v l).length<=l.length:=λv l=>List.length_filter_le _ _;have key:∀v,(Kg v L).length+(Kg v M).length<L.length+M.length->lsQ g L=lsQ g M:=λv hv=>by rw[Ama g v L,Ama g v M,hc v,ih (Kg v L) (Kg v M) ω λw=>by rw[Amb,Amb,hc w]]
  have e:∀t (l:List (Rat×Int)),Kg t.2 (t::l)=Kg t.2 l:=λt l=>by unfold Kg;rw[List.filter_cons,Dk rfl,Av δ]
  cases L with
  | cons t L=>refine key t.2 ?_;have h1:=b t.2 L;have h2:=b t.2 M;rw[e];simp only[Ei];omega
  | nil=>cases M with| nil=>rfl| cons t M=>refine key t.2 ?_;have h1:=b t.2 M;rw[e];simp only[Ei,List.length_nil,Kg,List.filter_nil];unfold Kg at h1;omega
theorem Bbv (g:Int->Int) (l m:List (Rat×Int)):lsQ g (l++m)=lsQ g l+lsQ g m:=by induction l with| nil=>simp only[List.nil_append,lsQ];grind| cons t l ih=>simp only[Du,lsQ,ih];grind
theorem Bbw (l m:List (Rat×Int)) (v:Int):clQ (l++m) v=clQ l v+clQ m v:=by induction l with| nil=>simp only[List.nil_append,clQ];grind| cons t l ih=>simp only[Du,clQ,ih];grind
def qt (r:Rat) (l:List Bk):List (Rat×Int):=l.map λt=>(r*(t.C:Rat),t.v)
theorem Awz (g:Int->Int) (r:Rat) (l:List Bk):lsQ g (qt r l)=r*(ls g l:Rat):=by induction l with| nil=>simp only[qt,List.map_nil,lsQ,ls];grind| cons t l ih=>have ih:lsQ g (List.map (λt=>(r*(t.C:Rat),t.v)) l)=r*(ls g l:Rat):=ih;simp only[qt,List.map_cons,lsQ,ls,ih,Rat.intCast_add,Rat.intCast_mul];grind
theorem Aw0 (r:Rat) {l:List Bk} (v:Int) (h:l.Pairwise λa b=>a.v<b.v):clQ (qt r l) v=r*(fc l v:Rat):=by
 induction l with
 | nil=>simp only[qt,List.map_nil,clQ,fc,List.find?_nil,Option.elim];grind
 | cons t l ih=>
  rw[List.pairwise_cons]at h;have ih:clQ (List.map (λt=>(r*(t.C:Rat),t.v)) l) v=r*(fc l v:Rat):=ih h.2;simp only[qt,List.map_cons,clQ,ih];unfold fc;rw[List.find?_cons];by_cases e:t.v=v
  .have h0:fc l v=0:=Av9 λu hu=>by have:=h.1 u hu;omega
   unfold fc at h0;rw[Ay e,Dk e,h0];show _=r*((t.C:Int):Rat);simp only[Rat.intCast_zero];grind
  .rw[Av e,Cn e];dsimp only;grind
def qA:List As->List Aj->List (Rat×Int)
 | f::fs,p::ps=>qt (rq p) f.T++qA fs ps
 | _,_=>[]
theorem Aw1 (g:Int->Int):∀(fs:List As) (ps:List Aj),lsQ g (qA fs ps)=dq (λf=>ls g f.T) fs ps
 | [],_=>by simp only[qA,lsQ,dq]
 | _::_,[]=>by simp only[qA,lsQ,dq]
 | f::fs,p::ps=>by simp only[qA,Bbv,Awz,dq,Aw1 g fs ps]
theorem Aw2 (v:Int):∀(fs:List As) (ps:List Aj),(∀f∈fs,Cd f=true)->clQ (qA fs ps) v=dq (λf=>fc f.T v) fs ps
 | [],_,_=>by simp only[qA,clQ,dq]
 | _::_,[],_=>by simp only[qA,clQ,dq]
 | f::fs,p::ps,h=>by simp only[qA,Bbw,Aw0 _ v (Awy (h f ψ)),dq,Aw2 v fs ps λf b=>h f (by simp[b])]
theorem Aw3 (P Q:As->Int):∀(fs:List As) (ps:List Aj),dq (λf=>P f+Q f) fs ps=dq P fs ps+dq Q fs ps
 | [],_=>by simp only[dq];grind
 | _::_,[]=>by simp only[dq];grind
 | f::fs,p::ps=>by simp only[dq,Aw3 P Q fs ps,Rat.intCast_add];grind
theorem Aw4 {P:As->Int}:∀(fs:List As) (ps:List Aj),(∀f∈fs,0<=P f)->(∀p∈ps,¬rq p<0)->0<=dq P fs ps
 | [],_,_,_=>by simp only[dq];exact Rat.le_refl
 | _::_,[],_,_=>by simp only[dq];exact Rat.le_refl
 | f::fs,p::ps,h,hp=>by have h1:=Aw4 fs ps (λf b=>h f (by simp[b])) λp h=>hp p (by simp[h]);have h2:0<=rq p:=Rat.not_lt.1 (hp p ψ);have h3:(0:Rat)<=(P f:Rat):=(by exact_mod_cast h f ψ);have:=Rat.mul_nonneg h2 h3;simp only[dq];grind
theorem Aw5 {fs:List As} {g:As} {ps:List Aj} (G:Int->Int) (b:∀f∈fs,Cd f=true) (hg:Cd g=true) (h:Qi fs g ps):dq (λf=>ls G f.T) fs ps=(ls G g.T:Rat):=by rw[<-Aw1,Bbu G _ (qA fs ps) (qt 1 g.T) (Nat.le_refl _) λv=>by rw[Aw2 v fs ps b,Aw0 1 v (Awy hg),h v];grind,Awz];grind
theorem Amc {fs:List As} {g:As} {ps:List Aj} {val:Int->A3} (h:Kf fs g ps) (b:∀f∈fs,0<=D4 val f):0<=D4 val g:=by
 obtain⟨h1,h2,h3,c⟩:=h;rw[D2]at h1;unfold Lt at h3;rw[Ck,D2]at h3;have hp:∀p∈ps,¬rq p<0:=λp hm=>by have:=h3.2 p hm;simpa using this
 have key:=Aw4 (P:=λf=>D4 val f) fs ps b hp;have e:(λf:As=>D4 val f)=λf=>f.Q+ls (λv=>(val v).U) f.T:=by funext f;exact So val f
 rw[e,Aw3]at key;rcases c with⟨a1,a2⟩|⟨a1,a2⟩
 .rw[Aw5 _ h1 h2 a1]at key;have:(0:Rat)<=((g.Q+ls (λv=>(val v).U) g.T:Int):Rat):=(by rw[Rat.intCast_add];grind);rw[So]
  exact_mod_cast this
 .rw[Aw5 _ h1 Awk a1]at key;simp only[ls,Rat.intCast_zero]at key;grind
def sT (c:Rat) (p:List Ai):List (Rat×A7):=p.map λt=>(c*rq t.C,t.M)
theorem Bbx (c:Rat) (p:List Ai) (m:A7):cfW (sT c p) m=c*cf p m:=by induction p with| nil=>show (0:Rat)=c*0;grind| cons t p ih=>have ih:cfW (List.map (λt:Ai=>(c*rq t.C,t.M)) p) m=c*cf p m:=ih;simp only[sT,List.map_cons,cfW,ih,O5];split <;> grind
theorem Bby (x:Bh) (val:Int->A3) (c:Rat) (p:List Ai):Fu (Gr x val) (sT c p)=c*Dx x val p:=by induction p with| nil=>show (0:Rat)=c*0;grind| cons t p ih=>have ih:Fu (Gr x val) (List.map (λt:Ai=>(c*rq t.C,t.M)) p)=c*Dx x val p:=ih;simp only[sT,List.map_cons,Fu,Dx,ih];grind
noncomputable def usL (x:Bh):List Ee->List (Rat×A7)
 | []=>[]
 | u::l=>sT (- rq u.C) (O9 x u)++usL x l
noncomputable def usP (x:Bh) (val:Int->A3):List Ee->Rat
 | []=>0
 | u::l=>rq u.C*Dx x val (O9 x u)+usP x val l
theorem Aw6 (x:Bh) (m:A7):∀b,cfW (usL x b) m = - usV x b m
 | []=>by simp only[usL,cfW,usV];grind
 | u::l=>by simp only[usL,usV,Si,Bbx,Aw6 x m l];grind
theorem Aw7 (x:Bh) (val:Int->A3):∀b,Fu (Gr x val) (usL x b) = - usP x val b
 | []=>by simp only[usL,Fu,usP];grind
 | u::l=>by simp only[usL,usP,Uw,Bby,Aw7 x val l];grind
theorem Aw8 (x:Bh) (val:Int->A3):∀b:List Ee,(∀u∈b,0<=rq u.C*Dx x val (O9 x u))->0<=usP x val b
 | [],_=>Rat.le_refl
 | u::l,h=>by have h1:=h u ψ;have h2:=Aw8 x val l λw hw=>h w (by simp[hw]);simp only[usP];grind
theorem Bbz {x:Bh} {fs:List As} {val:Int->A3} (q:CSz x) {u:Ee} (hu:USm u) (hj:Ql fs u/\(u.X.G=1\/0<=rq u.C)) (hp:Nf x u=0) (g:∀f∈fs,0<=D4 val f):0<=rq u.C*Dx x val (O9 x u):=by
 have B:=hu.e4;have y:=hu.f4;obtain⟨S,⟨hv,z⟩,A⟩:=((Aww q u hu).2 hp).2;obtain⟨_,_,_,c⟩:=Awu u.X ω;obtain⟨l,k⟩:=c hv;obtain⟨j,i⟩:=z val;obtain⟨b,j2⟩:=hj;rw[A val];unfold Ql at b;by_cases hk:u.X.G=1
 .rw[l hk]at b;have b:Kf fs u.X.E u.Y/\Kf fs u.X.F u.Z:=b;rw[j hk (Amc b.1 g) (Amc b.2 g)];grind
 .obtain⟨⟨s,e⟩,h⟩:=Alv u.X.E u.X.F ω;rw[k hk s e h]at b;have b:Kf fs s u.Y/\u.Z = []:=b;have h1:=i hk s e h (Amc b.1 g);have h2:0<=rq u.C:=by
   rcases j2 with j2|j2
   .exact absurd j2 hk
   .exact j2
  exact Rat.mul_nonneg h2 (Rat.mul_nonneg (Rat.natCast_nonneg (a:=Gr x val u.W)) h1)
theorem Bb0 {x:Bh} {fs:List As} {p q:List Ai} {b:List Ee} {val:Int->A3} (c:CSz x) (hu:∀u∈b,USm u) (h:OkW x fs p q b) (g:∀f∈fs,0<=D4 val f):Dx x val q<=Dx x val p:=by have h1:=Aw8 x val b λu hm=>Bbz c (hu u hm) (h.ju u hm) (h.pr u hm) g;have h2:=Af9 (Gr x val) _ ((p.map wT++q.map nT)++usL x b) (Nat.le_refl _) (λm=>by rw[Si,Si,Ald,Aut,Aw6];have:=h.va m;grind);rw[Uw,Uw,Ale,Auu,Aw7]at h2;grind
theorem Bb1 {α β:Type} {X:Option α} {a:α} {K:α->Option β} {Q:β->Prop} (h:X=some a) (k:∃b,K a=some b/\Q b):∃b,X.bind K=some b/\Q b:=by rw[h];exact k
theorem Bb2 {l:As} (f:Cd l=true) {val:Int->A3} {W:List Int} {Z:List Aj} (V:W.length=Z.length) (hW:W.length<=4000000) (R:∀(k:Nat) w z,W[k]? = some w->Z[k]? = some z->RB 3 z/\rq z=((val w).U:Rat)) : ∃r:Aj×Bool,Yv l W Z=some r/\(r.2=true->RB 400 r.1/\rq r.1=(D4 val l:Rat)):=by
 have D:∀t∈l.T,-1048576<=t.C/\t.C<=1048576:=by intro t ht;obtain⟨j,hj⟩:=Gz ht;unfold Cd at f;rw[Ck,D2]at f;have:=f.2 (t,j) (List.mk_mem_zipIdx_iff_getElem?.2 hj);unfold Sc at this;rw[Ck,C8]at this;exact this.1.2.2.2
 have g:(-1048576<=l.Q/\l.Q<=1048576)/\l.T.length<=16:=by unfold Cd at f;rw[Ck,C8]at f;exact⟨⟨f.1.1,f.1.2.1⟩,f.1.2.2⟩
 obtain⟨g,X⟩:=g;obtain⟨c,_,c1,c2,_,Y⟩:=Af7 l.Q ω ω;unfold Yv;rw[c1,Ad];refine Ej (λs=>∃(j:Nat) (P:Aj),s=((j:Int),P.N,P.U,P.B)/\j<=l.T.length/\RB (3+11*j) P/\rq P=(D4 val ⟨l.Q,l.T.take j⟩:Rat)) (λs=>l.T.length-s.1.toNat) (λe=>e = .inl (⟨false,[],[]⟩,false)\/∃P:Aj,e = .inr (P.N,P.U,P.B)/\RB 400 P/\rq P=(D4 val l:Rat)) ⟨0,c,rfl,ω,c2.mono ω,by rw[Y];unfold D4;simp⟩ ?_ ?_
 .rintro s ⟨j,P,rfl,hj,A,hq⟩;rcases Cg j l.T.length with h|h
  .have hx:l.T[j]? = some l.T[j]:=Bx h;generalize l.T[j]=t at hx;have ht:=D t (Cf hx);have u:∃e:Int×Int,An (S:=(Int×Int)) (E:=(Int×Int)) (λ(v25,v26)=>
     bif v26<(W.length:Int) then ((Af W v26).bind λB=> (Af l.T (j:Int)).bind λv28=> bif (B==v28.v) then (some (.inl (v26,(Ac (v26+1))))) else (some (.inl (v25,(Ac (v26+1)))))) else (some (.inr (v25,v26)))) ((-1),0)=some e/\(e.1 = -1\/∃k:Nat,e.1=(k:Int)/\W[k]? = some t.v):=by
    refine Lb (λs:Int×Int=>(∃i:Nat,s.2=(i:Int)/\i<=W.length)/\(s.1 = -1\/∃k:Nat,s.1=(k:Int)/\W[k]? = some t.v)) (λs=>W.length-s.2.toNat) (λe:Int×Int=>e.1 = -1\/∃k:Nat,e.1=(k:Int)/\W[k]? = some t.v) ?_ ((-1),0) ⟨⟨0,rfl,ω⟩,.inl rfl⟩;rintro⟨a,_⟩ ⟨⟨i,rfl,hi⟩,ha⟩;rcases Cg i W.length with h'|h'
    .have hy:W[i]? = some W[i]:=Bx h';generalize W[i]=y at hy;left;simp only[Ap (ω:(i:Int)<(W.length:Int)),Ak,Bv rfl hy,Bv rfl hx,Ad,C9 h' ω];by_cases e:y=t.v
     .rw[Dk e,Ak];exact⟨_,rfl,⟨⟨i+1,rfl,ω⟩,.inr ⟨i,rfl,by rw[hy,e]⟩⟩,by simp only[Int.toNat_natCast];omega⟩
     .rw[Cn e,Am];exact⟨_,rfl,⟨⟨i+1,rfl,ω⟩,ha⟩,by simp only[Int.toNat_natCast];omega⟩
    .right;exact⟨(a,(i:Int)),by simp only[Ax (ω:¬(i:Int)<(W.length:Int)),Am],ha⟩
   obtain⟨⟨a,b⟩,I,G⟩:=u;have G:a = -1\/∃k:Nat,a=(k:Int)/\W[k]? = some t.v:=G;rcases G with rfl|⟨k,rfl,hk⟩
   .right;refine⟨.inl (⟨false,[],[]⟩,false),?_,.inl rfl⟩;dsimp only;rw[Ap ω,Ak];exact bnd I rfl
   .have U:=E4 hk;have x:Z[k]? = some (Z[k]' ω):=Bx _;generalize Z[k]'_=z at x;obtain⟨J,z2⟩:=R k t.v z hk x;obtain⟨d,_,d1,d2,_,d3⟩:=Af7 t.C ω ω;obtain⟨m,_,m1,m2,_,m3⟩:=A53 d2 J ω ω;obtain⟨q,_,N,M,_,L⟩:=Aa6 A m2 ω ω;left;refine⟨(((j+1:Nat):Int),q.N,q.U,q.B),?_,⟨j+1,q,rfl,ω,M.mono ω,?_⟩,by simp only[Int.toNat_natCast];omega⟩
    .dsimp only;rw[Ap ω,Ak];refine bnd I ?_;dsimp only;rw[Ax (ω:¬(k:Int)<0),Am,Ax (ω:¬(k:Int)>=(Z.length:Int)),Ad,Am,Bv rfl hx,Ad,d1,Ad,Bv rfl x,Ad,m1,Ad];rw[show (Pm (Aj.mk P.N P.U P.B) m)=some q from N,Ad,C9 h ω]
    .rw[L,hq,m3,d3,z2,Aup _ hx,Rat.intCast_add,Rat.intCast_mul]
  .have:j=l.T.length:=ω;subst this;rw[Dh]at hq;exact .inr ⟨.inr (P.N,P.U,P.B),by dsimp only;rw[Ax ω];rfl,.inr ⟨P,rfl,A.mono ω,hq⟩⟩
 .rintro e (rfl|⟨P,rfl,A,hq⟩)
  .exact⟨_,rfl,λh=>by cases h⟩
  .exact⟨(P,true),rfl,λ_=>⟨A,hq⟩⟩
theorem Bb3 {fs:List As} (y:∀f∈fs,Cd f=true) (B:fs.length<=1048576) {val:Int->A3} {W:List Int} {Z:List Aj} (l:W.length=Z.length) (A:W.length<=4000000) (x:∀(k:Nat) w z,W[k]? = some w->Z[k]? = some z->RB 3 z/\rq z=((val w).U:Rat)) : ∃b,Yq fs W Z=some b/\(b=true->∀f∈fs,0<=D4 val f):=by
 unfold Yq;refine Ej (λs=>∃j:Nat,s=(j:Int)/\j<=fs.length/\∀f∈fs.take j,0<=D4 val f) (λs=>fs.length-s.toNat) (λe=>e = .inl false\/(e = .inr ()/\∀f∈fs,0<=D4 val f)) ⟨0,rfl,ω,ψ⟩ ?_ ?_
 .rintro s ⟨j,rfl,hj,c⟩;rcases Cg j fs.length with h|h
  .have hx:fs[j]? = some fs[j]:=Bx h;generalize fs[j]=f at hx;obtain⟨⟨r,b⟩,u,q⟩:=Bb2 (y f (Cf hx)) l A x;simp only[Ap (ω:(j:Int)<(fs.length:Int)),Ak,Bv rfl hx,Ad,u,C9 h ω];cases b with
   | false=>exact .inr ⟨_,rfl,.inl rfl⟩
   | true=>
    obtain⟨g1,g2⟩:=q rfl;have g2:rq r=(D4 val f:Rat):=g2;rw[Dz,Am,(M9 g1 δ).2,Ad];by_cases h0:D4 val f<0
    .have i:rq r<0:=(by rw[g2];exact_mod_cast h0);rw[Ap (by unfold G2;rw[Ay i];decide),Ak];exact .inr ⟨_,rfl,.inl rfl⟩
    .have i:¬rq r<0:=(by rw[g2];intro h2;exact h0 (by exact_mod_cast h2));rw[Ax (by unfold G2;rw[Av i];split <;> decide),Am];refine .inl ⟨_,rfl,⟨j+1,rfl,ω,λg hg=>?_⟩,by simp only[Int.toNat_natCast];omega⟩;rw[Dc hx]at hg;rcases D7.1 hg with hg|hg
     .exact c g hg
     .rw[Dw]at hg;subst hg;omega
  .have:j=fs.length:=ω;subst this;rw[Dh]at c;exact .inr ⟨.inr (),by simp only[Ax (ω:¬(fs.length:Int)<(fs.length:Int)),Am],.inr ⟨rfl,c⟩⟩
 .rintro e (rfl|⟨rfl,h⟩)
  .exact⟨false,rfl,λh=>by cases h⟩
  .exact⟨true,rfl,λ_=>h⟩
structure WZ (val:Int->A3) (n:Nat) (W:List Int) (Z:List Aj):Prop where
 len:W.length=Z.length
 le:W.length<=n
 at':∀(k:Nat) w z,W[k]? = some w->Z[k]? = some z->RB 3 z/\rq z=((val w).U:Rat)
theorem WZ.snoc {val:Int->A3} {n:Nat} {W:List Int} {Z:List Aj} (h:WZ val n W Z) {w:Int} {z:Aj} (h1:RB 3 z) (h2:rq z=((val w).U:Rat)):WZ val (n+1) (W++[w]) (Z++[z]):=by
 have c:=h.len;refine⟨by simp[c],by have:=h.le;simp;omega,λk a b ha hb=>?_⟩;rcases Cg k W.length with hk|hk
 .rw[List.getElem?_append_left hk]at ha;rw[List.getElem?_append_left ω]at hb;exact h.at' k a b ha hb
 .rw[List.getElem?_append_right hk]at ha;rw[List.getElem?_append_right ω]at hb;have ha:=Cf ha;have hb:=Cf hb;rw[Dw]at ha hb;subst ha hb;exact⟨h1,h2⟩
theorem WZ.mono {val:Int->A3} {n m:Nat} {W:List Int} {Z:List Aj} (h:WZ val n W Z) (hm:n<=m):WZ val m W Z:=⟨h.len,Nat.le_trans h.le hm,h.at'⟩
theorem Bb4 {fs:List As} {env:List A3} {res:A3} (I:∀f∈fs,Cd f=true) (G:fs.length<=1048576) (L:env.length<=1048576) (J:∀v∈env,I64 v.U) (q:I64 res.U) : ∃b,Ym fs env res=some b/\(b=true->∀f∈fs,0<=D4 (Ed env res) f):=by
 unfold I64 at q;have g:∃s:List Int×List Aj,(show Option ((List Int)×(List Aj)) from
   bif (res.G==(3:Int)) then ((Cj 8 [] [(-1)]).bind λB=> (Mt res.U).bind λv5=> (Cj 56 [] [v5]).bind λA=> some (B,A)) else (some ([],[])))=some s/\WZ (Ed env res) 1 s.1 s.2:=by
  have h0:WZ (Ed env res) 0 [] []:=⟨rfl,ψ,λk a b h=>by simp at h⟩;by_cases hk:res.G=3
  .obtain⟨z,_,i,z2,_,z3⟩:=Af7 res.U q.1 q.2;rw[Dk hk,Ak,Dm ψ,Ad,i,Ad,Dm ψ,Ad];refine⟨_,rfl,h0.snoc z2 ?_⟩;have:Ed env res (-1)=res:=(by unfold Ed;rw[Aek ω]);rw[this,z3]
  .rw[Cn hk,Am];exact⟨_,rfl,h0.mono ω⟩
 obtain⟨⟨x,u⟩,y,l⟩:=g;have l:WZ (Ed env res) 1 x u:=l;unfold Ym;refine Bb1 y ?_;dsimp only;refine Ej (λs=>∃(j:Nat) (W:List Int) (Z:List Aj),s=((j:Int),W,Z)/\j<=env.length/\WZ (Ed env res) (j+1) W Z) (λs=>env.length-s.1.toNat) (λe=>WZ (Ed env res) (env.length+1) e.1 e.2) ⟨0,x,u,rfl,ω,l⟩ ?_ ?_
 .rintro s ⟨j,W,Z,rfl,hj,c⟩;rcases Cg j env.length with h|h
  .have hx:env[j]? = some env[j]:=Bx h;generalize env[j]=v at hx;have hv:=J v (Cf hx);unfold I64 at hv;have D:=c.len;have E:=c.le;left;simp only[Ap (ω:(j:Int)<(env.length:Int)),Ak,Bv rfl hx,Ad,C9 h ω];by_cases hk:v.G=3
   .obtain⟨z,_,i,z2,_,z3⟩:=Af7 v.U hv.1 hv.2;rw[Dk hk,Ak,Dm ζ,Ad,i,Ad,Dm ζ,Ad];refine⟨_,rfl,⟨j+1,_,_,rfl,ω,c.snoc z2 ?_⟩,by simp only[Int.toNat_natCast];omega⟩;have:Ed env res (j:Int)=v:=(by unfold Ed;rw[Bv rfl hx]);rw[this,z3]
   .rw[Cn hk,Am];exact⟨_,rfl,⟨j+1,W,Z,rfl,ω,c.mono ω⟩,by simp only[Int.toNat_natCast];omega⟩
  .have:j=env.length:=ω;subst this;exact .inr ⟨(W,Z),by simp only[Ax (ω:¬(env.length:Int)<(env.length:Int)),Am],c⟩
 .rintro⟨W,Z⟩ c;have c:WZ (Ed env res) (env.length+1) W Z:=c;obtain⟨b,b1,b2⟩:=Bb3 (val:=Ed env res) I G c.len (by have:=c.le;omega) c.at';exact⟨b,by dsimp only;rw[b1];rfl,b2⟩
theorem Bb5 (x:Bh) (fs:List As) (p q:List Ai) (k:List Ee) (env:List A3) (res:A3) (s:CSz x) (E:fs.length<=1048576) (A:∀f∈fs,f.T.length<=1048576) (hp:p.length<=1048576/\∀t∈p,TSz t) (hq:q.length<=1048576/\∀t∈q,TSz t) (hu:k.length<=1048576/\∀u∈k,USz u) (l:env.length<=1048576) (j:∀v∈env,Da v<=1048576/\I64 v.U) (i:Da res<=1048576/\I64 res.U) : Add x fs p q k env res=some true:=by
 obtain⟨a,a1,a2⟩:=Bbt x fs p q E A hp hq;obtain⟨b,b1,b2⟩:=Bbj k 4 hu.1 hu.2;obtain⟨c,Z,_⟩:=As1 env l λv hv=>(j v hv).1;obtain⟨d,d1,_⟩:=As1 [res] ψ λv hv=>by rw[Dw]at hv;subst hv;exact i.1
 unfold Add;rw[Bbs,Ad,Dz,Am,a1,b1,Z,d1];cases a with
 | false=>rfl
 | true=>
  cases b with
  | false=>rfl
  | true=>
   cases c with
   | false=>rfl
   | true=>
    cases d with
    | false=>rfl
    | true=>
     obtain⟨⟨Y,X⟩,V,e4⟩:=a2 rfl;obtain⟨e5,G⟩:=b2 rfl;have I:=Awx V hp.2;have sq:=Awx e4 hq.2;obtain⟨g,g1,g2⟩:=Bbo s fs Y X I sq k ω G;simp only[Ad,Dz,Am,g1];by_cases hg:g=0
     .have ok:=g2.1 hg;obtain⟨h,h1,h2⟩:=Bb4 (fs:=fs) (env:=env) (res:=res) (D2.1 ok.fl) E l (λv hv=>(j v hv).2) i.2;rw[Fc hg,Am,h1];cases h with
      | false=>rfl
      | true=>
       have U:=Bb0 (val:=Ed env res) s G ok (h2 rfl);obtain⟨D,S,L⟩:=Auq x s p hp.2 env res (λv hv=>(j v hv).1) i.1;obtain⟨B,R,J⟩:=Auq x s q hq.2 env res (λv hv=>(j v hv).1) i.1;simp only[Ad,Dz,Am,S,R];have z:D.2≠0\/∃u,D=(u,0)/\Xp x p env res u:=by
        rcases L with⟨_,rfl⟩|⟨hv,⟨_,rfl⟩|⟨_,⟨_,rfl⟩|⟨_,u,rfl,hu⟩⟩⟩
        .exact .inl δ
        .exact .inl δ
        .exact .inl δ
        .exact .inr ⟨u,rfl,hu⟩
       have y:B.2≠0\/∃u,B=(u,0)/\Xp x q env res u:=by
        rcases J with⟨_,rfl⟩|⟨hv,⟨_,rfl⟩|⟨_,⟨_,rfl⟩|⟨_,u,rfl,hu⟩⟩⟩
        .exact .inl δ
        .exact .inl δ
        .exact .inl δ
        .exact .inr ⟨u,rfl,hu⟩
       rcases z with N|⟨u,rfl,hu⟩
       .rw[Ek N];rfl
       .rcases y with M|⟨w,rfl,hw⟩
        .rw[Fc rfl,Am,Ek M];rfl
        .have h0:0<=rq u-rq w:=(by rw[hu.val,hw.val];grind);have:=A8p h0;simp only[bne_self_eq_false,Am,A8o hu.rb hw.rb δ δ,Ad];rw[Ap ω]
     .rw[Ek hg];rfl
end Go.Ab
