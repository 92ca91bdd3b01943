/- Plain laws: what the plain functions answer. -/
import Derived.Test.YtdjgjhnhlpiccaaGreatDoorMsPl3
open List
namespace Go.Ab
open Go
variable {m:A3} {t:Af} {e i:Ah} {P Q:Ah->Prop} {u:Ah×Nat} {res:Ax} {x:B9} {l:Bn} {L M ts:List (Ah×Nat)} {R:List (List Ah×Nat)} {b es:List Ah} {data:List Ai} {D D' K S S' a d j k:Nat} {α β:Type} {g:α->Nat}
theorem A9v {b:List Ax} (N:b.length=x.V.length) (V:Amu x b res m) {a:Ao} (ha:RB K a) (hK:K<=20000000) {R:Type} {J:Int×Bool×List Int×List Int->Option R} {Q:R->Prop} (hJ:∀g:Ao,RB (K+12000) g->(m.A = []->g=a)->(m.A≠[]->Hr g)->rq g=rq a*(Dv (m.A.map (Qy (Dk b res))):Rat)->∃r,J ((m.A.length:Int),g.N,g.U,g.B)=some r/\Q r) : ∃r,(Ak (S:=(Int×Bool×List Int×List Int)) (E:=(Int×Bool×List Int×List Int)) (λ(k,A,z,y)=> bif k<(m.A.length:Int) then ((Ag m.A k).bind λi=> (Ed i.L.Q).bind λv183=> (Ak (S:=(Int×Bool×List Int×List Int)) (E:=(Int×Bool×List Int×List Int)) (λ(f,v193,v194,u)=> bif f<(i.L.T.length:Int) then ((Ag i.L.T f).bind λv196=> (Ed v196.C).bind λv198=> (Oz v196.v res b).bind λM=> (Ed M.U).bind λL=> (Fa v198 L).bind λv201=> (Jd (Ao.mk v193 v194 u) v201).bind λl=> some (.inl ((Ac (f+1)),l.N,l.U,l.B))) else some (.inr (f,v193,v194,u))) (0,v183.N,v183.U,v183.B)).bind λ(v203,I,G,v206)=> (T0 (Ao.mk I G v206) i.P).bind λD=> (Fa (Ao.mk A z y) D).bind λv208=> some (.inl ((Ac (k+1)),v208.N,v208.U,v208.B))) else some (.inr (k,A,z,y))) (0,a.N,a.U,a.B)).bind J=some r/\Q r:=by
 refine Et (λs=>∃(j:Nat) (g:Ao),s=((j:Int),g.N,g.U,g.B)/\j<=m.A.length/\RB (K+j*2000) g/\(j=0->g=a)/\(0<j->Hr g)/\rq g=rq a*(Dv ((m.A.take j).map (Qy (Dk b res))):Rat)) (λs=>m.A.length-s.1.toNat) (λe=>∃g:Ao,e=((m.A.length:Int),g.N,g.U,g.B)/\RB (K+12000) g/\(m.A = []->g=a)/\(m.A≠[]->Hr g)/\rq g=rq a*(Dv (m.A.map (Qy (Dk b res))):Rat)) ⟨0,a,rfl,ω,ha.mono ω,λ_=>rfl,λh=>ω,by simp only[take_zero,map_nil,Dv];show _=_*(1:Rat);grind⟩ ?_ ?_
 .rintro s ⟨j,g,rfl,hj,hg,h0,U,B⟩;have a1:=V.al;rcases Cj j m.A.length with h|h
  .have hx:m.A[j]? = some m.A[j]:=Bs h;generalize m.A[j]=t at hx;obtain⟨t1,t2,t3,t4,t5,t6⟩:=V.atm t (Bu hx);left;refine Afs ?_;simp only[As (ω:(j:Int)<(m.A.length:Int)),Am,Br rfl hx,Ad,C5 h ω];refine A9u N t5 ⟨t3,t4⟩ t6 λn n1 n2=>?_;obtain⟨d,hd⟩:∃d:Nat,t.P=d:=⟨t.P.toNat,ω⟩;obtain⟨c,c1,c2,c3,c4⟩:=A9r n1 δ n2 d ω;obtain⟨q,q1,Z,Y,X⟩:=Sv hg (c3.mono (show 3+d*(200+20)<=1900 by omega)) ω δ;refine⟨.inl (((j+1:Nat):Int),q.N,q.U,q.B),?_,_,rfl,⟨j+1,q,rfl,ω,Z.mono ω,λh=>ω,λ_=>Y,?_⟩,by simp only[Int.toNat_natCast];omega⟩
   .show (T0 n t.P).bind _=_;rw[hd,c1,Ad];show (Fa g c).bind _=_;rw[q1];rfl
   .have:Qy (Dk b res) t=bc (Mu (Dk b res) t.L).toNat d:=(by unfold Qy;rw[hd,Int.toNat_natCast]);rw[X,B,c4,Awe hx,Rat.natCast_mul,this];grind
  .have:j=m.A.length:=ω;subst this;rw[Db]at B;refine .inr ⟨((m.A.length:Int),g.N,g.U,g.B),by simp only[A5 (ω:¬(m.A.length:Int)<(m.A.length:Int)),Aq],g,rfl,hg.mono ω,λh=>h0 (by rw[h];rfl),λh=>U (length_pos_iff.2 h),B⟩
 .rintro e ⟨g,rfl,h1,h2,h3,h4⟩;exact hJ g h1 h2 h3 h4
theorem A9w (x:B9) (g:CSz x) (hf:Hq x) (i:Ah) (t:Af) (hg:G0 x.D t=true) (hi:Bv i<=1048576) (w:Ax) (j:Mp x.D w t=true) (hd:Di x.D i t=some d) (c:d<=6) : Wh x.D t i w=some (cR (bv x.D i t w),0)/\bv x.D i t w<=5000 ^ 6:=by have h:=hg;simp only[G0,Ct,Du]at h;have f:=j;unfold Mp at f;simp only[Ct,Du]at f;obtain⟨⟨_,k⟩,l⟩:=f;have d1:=Agt g.ds hf.2.1 t hg i hi;obtain⟨b,b1,q⟩:=Aue g.ds w t ω ω;have hb:b=true:=q.2 ⟨hf.2.1,j⟩;subst hb;refine⟨?_,Nat.le_trans ((Ya x.D 5000 δ _).1 i t w d (Nat.le_refl _) hd k) (Nat.pow_le_pow_right δ c)⟩;unfold Wh Wo;rw[d1,hd,Pj c,Ad,Ad,As ω,b1];simp only[Ad,bnt,Aq];rw[A85 hf.2.1.szv g.ds.sz.short hf.2.1.cons8 (Bv i) i t w 4000000 d (Nat.le_refl _) ω ω hd c ω l k];rfl
theorem A9x (hf:Hq x) {v:Int} (h:Dj x.V x.E v=some t):G0 x.D t=true:=by
 unfold Dj at h;by_cases e:v = -1
 .rw[Av e]at h;cases h;exact hf.2.2.1
 .rw[Ar e]at h;exact G7.1 hf.2.2.2 t (Hc h).2.2.2
theorem A9y (h:Js x m):∀v∈Jt m,∃t,Dj x.V x.E v=some t:=by
 intro v hv;unfold Jt Mr at hv;rcases Ej.1 hv with hv|hv
 .obtain⟨f,hf,rfl⟩:=mem_map.1 hv;exact (Agu h.1).1 f hf
 .obtain⟨a,ha,hv⟩:=mem_flatMap.1 hv;obtain⟨u,hu,rfl⟩:=mem_map.1 hv;have b:=h.1;unfold Jq at b;simp only[Ct]at b;obtain⟨j,hj⟩:=Hi ha;have:=Is b.1.2 hj;simp only[No,Ct,Du]at this;have hi:=G7.1 this.1.2 u hu;unfold Sl at hi;cases ht:Dj x.V x.E u.v with| none=>rw[ht]at hi;cases hi| some t=>exact⟨t,rfl⟩
theorem A9z (U:CSz x) (hf:Hq x) {c:List Ax} (h:Js x m) (s:∀v∈Jt m,Iv x c res v=true):Amu x c res m:=by
 have hc:=h.cmo;have A:=h.1;have z:=Ame h.1 h.2;have q:=Agu h.1;unfold Jq at A;simp only[Ct]at A;have G:∀f∈m.F,Iv x c res f.v=true:=λf g=>s _ (by unfold Jt;exact Ej.2 (.inl (mem_map.2 ⟨f,g,rfl⟩)));refine⟨q.2,?_,λf g=>?_,λa ha=>?_⟩
 .obtain⟨_,_,h3,_⟩:=z;first|exact h3|omega
 .obtain⟨t,ht⟩:=q.1 f g;obtain⟨j,hj⟩:=Hi g;have k:=Is A.1.1 hj;simp only[Pl,Ct,Du]at k;have h1:=k.1;unfold Dz at h1;rw[ht]at h1;have h1:1<=Ji (Di x.D f.I t):=h1;have V:Mp x.D (Dk c res f.v) t=true:=(by have:=G f g;unfold Iv at this;rw[ht]at this;exact this);rcases Ala (Di x.D f.I t) with⟨h2,_⟩|⟨d,h2,h3,_⟩
  .rw[h2]at h1;omega
  .obtain⟨g1,g2⟩:=A9w x U hf f.I t (A9x hf ht) (h.2.fi f g) _ V h2 h3;have E:H9 x (Dk c res) f=bv x.D f.I t (Dk c res f.v):=(by unfold H9;rw[ht]);rw[E];exact⟨t,ht,g1,g2⟩
 .obtain⟨j,hj⟩:=Hi ha;have k:=Is A.1.2 hj;simp only[No,Ct,Du]at k;obtain⟨⟨⟨⟨S,B⟩,_⟩,R⟩,_⟩:=k;have N:a.P<=6:=(by obtain⟨_,_,_,X⟩:=z;exact (X a ha).2.2.2);unfold F3 at B;simp only[Ct,Du]at B;obtain⟨⟨M,L,J⟩,I⟩:=B;refine⟨S,N,M,L,J,λu hu=>?_⟩;obtain⟨i,hi⟩:=Hi hu;have y:=Is I hi;simp only[Sk,Ct,Du]at y;obtain⟨⟨_,_,_,c1,c2⟩,_⟩:=y;have l:=G7.1 R u hu;unfold Sl at l;have b:Iv x c res u.v=true:=s _ (by unfold Jt Mr;exact Ej.2 (.inr (mem_flatMap.2 ⟨a,ha,mem_map.2 ⟨u,hu,rfl⟩⟩)));cases ht:Dj x.V x.E u.v with| none=>rw[ht]at l;cases l| some t=>rw[ht]at l;have D:t.G=1:=eq_of_beq l;unfold Iv at b;rw[ht]at b;have b:Mp x.D (Dk c res u.v) t=true:=b;unfold Mp at b;rw[Su,Av D]at b;simp only[Ct,Du]at b;exact⟨c1,c2,t,rfl,b.2.1.1.2,b.2.1.2⟩
theorem A90 (c:CSz x) (hf:Hq x) (w:Ax) (t:Af) (hw:Cp w<=1048576) (ht:B3 t<=200):Rr x.D w t=some (Mp x.D w t):=by obtain⟨b,b1,f⟩:=Aue c.ds w t ω ω;rw[b1];congr 1;rw[Bool.eq_iff_iff,f];exact⟨λh=>h.2,λh=>⟨hf.2.1,h⟩⟩
theorem A91 (x:B9) (q:CSz x) (hf:Hq x) (b:List Ax) (res:Ax) (l:b.length=x.V.length) (k:∀v∈b,Cp v<=1048576) (f:Cp res<=1048576) (V:List Int) (u:V.length<=1000000) (i:∀v∈V,∃t,Dj x.V x.E v=some t) (b1:List (ByteArray×Int)) (b2:List (ByteArray×List Ap)) : Ak (S:=Int) (E:=((Ao×Int)⊕Unit)) (λv17=> bif v17<(V.length:Int) then ((Ag V v17).bind λc=> (Oz c res b).bind λg=> (Kn c b1 b2 x.D x.V x.E.G x.E.U x.E.R).bind λv20=> (Rr x.D g v20).bind λv21=> bif (!v21) then some (.inr (.inl ((Ao.mk false [] []),11))) else some (.inl (Ac (v17+1)))) else some (.inr (.inr ()))) 0=some (bif V.all (Iv x b res) then .inr () else .inl (⟨false,[],[]⟩,11)):=by
 rw[<-Option.bind_fun_some (Ak _ _)];refine Aa4 V (Iv x b res) (λj=>(j:Int)) rfl ω ?_ ?_
 .intro j v hv h1 h2 h3;obtain⟨t,ht⟩:=i v (Bu hv);have s:=(hf.ctx q).sz v t ht;have hb:Iv x b res v=Mp x.D (Dk b res v) t:=(by unfold Iv;rw[ht]);simp only[h1,h2,h3,Am,Ad,Amh l res ht,U7 (ht:=ht),A90 q hf (Dk b res v) t (Avj k f v) ω,hb];cases Mp x.D (Dk b res v) t with| true=>exact⟨λ_=>rfl,λh=>by cases h⟩| false=>exact⟨nofun,λ_=>⟨_,rfl,rfl⟩⟩
 .intro h;exact⟨.inr (),by simp only[h];rfl,rfl⟩
theorem A92 {p:List Aj} (hp:∀t∈p,Js x t.M) (D:p.length<=1000):(Hj p).length<=102000:=by
 have key:∀q:List Aj,(∀t∈q,Js x t.M)->(Hj q).length<=102*q.length:=by
  intro q;induction q with
  | nil=>intro _;simp[Hj]
  | cons t q ih=>intro h;have h1:=ih (λu hu=>h u (by simp[hu]));have hc:=h t ψ;have f:=hc.1;have z:=(Agu f).2;have s:=Ame hc.1 hc.2;have B:t.M.A.length<=6:=(by obtain⟨_,_,h3,_⟩:=s;first|exact h3|omega);unfold Jq at f;simp only[Ct]at f;have b:∀a∈t.M.A,a.L.T.length<=16:=(by intro a ha;obtain⟨j,hj⟩:=Hi ha;have c:=Is f.1.2 hj;simp only[No,Ct,Du]at c;have i:=c.1.1.1.2;unfold F3 at i;simp only[Ct,Du]at i;exact i.1.2.2);have h2:∀A:List Bd,(∀a∈A,a.L.T.length<=16)->(Mr A).length<=16*A.length:=(by intro A;induction A with| nil=>intro _;simp[Mr]| cons a A k=>intro g;have g1:=k (λu hu=>g u (by simp[hu]));have g2:=g a ψ;unfold Mr at *;simp only[flatMap_cons,Ek,C1,D6];omega);have h3:=h2 t.M.A b;have y:Hj (t::q)=Jt t.M++Hj q:=(by simp[Hj]);have l:(Jt t.M).length=t.M.F.length+(Mr t.M.A).length:=(by unfold Jt;simp);rw[y,Ek,D6,l];omega
 have:=key p hp;omega
structure Vn (x:B9) (p:List Aj) (env:List Ax) (res:Ax) (u:Ao):Prop where
 can:Hr u
 rb:RB 2000000000 u
 val:rq u=K9 x (Dk env res) p
theorem A93 (x:B9) (L:CSz x) (p:List Aj) (hp:∀t∈p,TSz t) (b:List Ax) (res:Ax) (a6:∀v∈b,Cp v<=1048576) (G:Cp res<=1048576) : ∃r,Ox x p b res=some r/\((¬(Hq x/\I4 x.D x.V x.E p=true)/\r=(⟨false,[],[]⟩,1))\/((Hq x/\I4 x.D x.V x.E p=true) /\ ((b.length≠x.V.length/\r=(⟨false,[],[]⟩,5))\/(b.length=x.V.length/\((¬(∀v∈Hj p,Iv x b res v=true)/\r=(⟨false,[],[]⟩,11))\/((∀v∈Hj p,Iv x b res v=true)/\∃u,r=(u,0)/\Vn x p b res u)))))):=by
 by_cases hv:Hq x/\I4 x.D x.V x.E p=true
 .have hf:=hv.1;have M:I6 x p:=⟨hv.2,hp⟩;obtain⟨b',hb,_⟩:=Amk L (ps:=[p]) (λq hq=>by simp only[Ea]at hq;subst hq;exact hp) ψ ⟨hv.1,λq hq=>by simp only[Ea]at hq;subst hq;exact hv.2⟩;have hl:=(Abo.1 hv.2).1;have a8:=A92 M.mo hl;have a7:∀t∈p,t.M.A.length<=1000000:=λt ht=>by obtain⟨_,_,h3,_⟩:=(M.mo t ht).cmo;omega
  obtain⟨V,v1,v2,v3,v4⟩:=A8s p ω a7 ω;unfold Ox;rw[hb];simp only[Ad,bnt,Aq];by_cases l:b.length=x.V.length
  .rw[Gb ω,Aq,v1,Ad];have S:∀v∈V,∃t,Dj x.V x.E v=some t:=λv R=>by have:=(v4 v).1 R;unfold Hj at this;obtain⟨t,ht,D⟩:=mem_flatMap.1 this;exact A9y (M.mo t ht) v D
   rw[A91 x L hf b res l a6 G V v3 S b' [],Ad];cases y:V.all (Iv x b res) with
   | false=>refine⟨_,rfl,.inr ⟨hv,.inr ⟨l,.inl ⟨λh=>?_,rfl⟩⟩⟩⟩;rw[all_eq_false]at y;obtain⟨v,h1,h2⟩:=y;exact h2 (h v ((v4 v).1 h1))
   | true=>
    have A:∀v∈Hj p,Iv x b res v=true:=λv h=>G7.1 y v ((v4 v).2 h);have U:∀t∈p,Amu x b res t.M:=λt ht=>A9z L hf (M.mo t ht) λv h=>A v (mem_flatMap.2 ⟨t,ht,h⟩);have wrap:∀{X:Option (Ao×Int)},(∃r,X=some r/\∃u,r=(u,0)/\Vn x p b res u)->∃r,X=some r/\((¬(Hq x/\I4 x.D x.V x.E p=true)/\r=(⟨false,[],[]⟩,1))\/((Hq x/\I4 x.D x.V x.E p=true) /\
      ((b.length≠x.V.length/\r=(⟨false,[],[]⟩,5))\/(b.length=x.V.length/\((¬(∀v∈Hj p,Iv x b res v=true)/\r=(⟨false,[],[]⟩,11))\/((∀v∈Hj p,Iv x b res v=true)/\∃u,r=(u,0)/\Vn x p b res u)))))):=by rintro X ⟨r,h1,h2⟩;exact⟨r,h1,.inr ⟨hv,.inr ⟨l,.inr ⟨A,h2⟩⟩⟩⟩
    refine wrap ?_;simp only[Am,Ag8,Ad];refine Et (λs=>∃(j:Nat) (g:Ao),s=((j:Int),g.N,g.U,g.B)/\j<=p.length/\RB (1+j*1070000) g/\Hr g/\rq g=K9 x (Dk b res) (p.take j)) (λs=>p.length-s.1.toNat) (λz=>∃g:Ao,z = .inr (g.N,g.U,g.B)/\Vn x p b res g) ⟨0,cR 0,rfl,ω,(Oj (k:=1) (by rw[Aa2];decide) δ).mono ω,Awb 0,by rw[Vm];rfl⟩ ?_ ?_
    .rintro s ⟨j,g,rfl,hj,hg,Y,B⟩;rcases Cj j p.length with h|h
     .have hx:p[j]? = some p[j]:=Bs h;generalize p[j]=t at hx;have E:=Bu hx;have D:=U t E;left;refine Afs ?_;simp only[As (ω:(j:Int)<(p.length:Int)),Am,Br rfl hx,Ad,C5 h ω];refine A9t t.M.F (H9 x (Dk b res)) (λc=>.inr ((t.M.F.length:Int),c.N,c.U,c.B)) D.fl (λf Z=>by obtain⟨_,_,_,h⟩:=D.fac f Z;exact h) ?_ ?_ (hp t E).co δ λm1 r1 _ _ q1=>?_
      .intro i f c c' a1 N k2 k3 I;obtain⟨ty,t1,t2,_⟩:=D.fac f (Bu a1);simp only[N,k2,k3,Am,Ad,U7 (ht:=t1),Amh l res t1,t2,bne_self_eq_false,Aq];show (Fa c (cR (H9 x (Dk b res) f))).bind _=_;rw[I];rfl
      .intro c N;simp only[N,Aq]
      .dsimp only;refine A9v l D r1 δ λm2 r2 _ _ q2=>?_;obtain⟨c,c1,_,c2,c3,c4⟩:=Agw hg r2 ω δ;refine⟨.inl (((j+1:Nat):Int),c.N,c.U,c.B),?_,_,rfl,⟨j+1,c,rfl,ω,c2.mono ω,c3,?_⟩,by simp only[Int.toNat_natCast];omega⟩
       .show (Jd g m2).bind _=_;rw[c1];rfl
       .rw[c4,B,q2,q1,C4 hx,Awf];show _=_+(rq t.C*(S3 x (Dk b res) t.M:Rat)+0);unfold S3;rw[Rat.natCast_mul];grind
     .have:j=p.length:=ω;subst this;rw[Db]at B;exact .inr ⟨.inr (g.N,g.U,g.B),by simp only[A5 (ω:¬(p.length:Int)<(p.length:Int)),Aq],g,rfl,Y,hg.mono ω,B⟩
    .rintro z ⟨g,rfl,hE⟩;exact⟨(g,0),by rw[<-Awc g],g,rfl,hE⟩
  .rw[F2 ω,Am];exact⟨_,rfl,.inr ⟨hv,.inl ⟨l,rfl⟩⟩⟩
 .have J:¬(Hq x/\∀r∈[p],I4 x.D x.V x.E r=true):=λh=>hv ⟨h.1,h.2 p ψ⟩;have he:=Amj L (ps:=[p]) (λr hr=>by simp only[Ea]at hr;subst hr;exact hp) ψ J;refine⟨_,?_,.inl ⟨hv,rfl⟩⟩;unfold Ox;rw[he];rfl
open Classical in
noncomputable def cfW:List (Rat×A3)->A3->Rat
 | [],_=>0
 | t::l,m=>(if t.2=m then t.1 else 0)+cfW l m
def Kt (v:A3->Nat):List (Rat×A3)->Rat
 | []=>0
 | t::l=>t.1*(v t.2:Rat)+Kt v l
open Classical in
noncomputable def S4 (l:List (Rat×A3)) (m:A3):List (Rat×A3):=l.filter λt=>decide (t.2≠m)
open Classical in
theorem Awg (v:A3->Nat) (m:A3):∀l:List (Rat×A3),Kt v l=cfW l m*(v m:Rat)+Kt v (S4 l m)
 | []=>by simp only[Kt,cfW,S4,filter_nil];grind
 | t::l=>by
  have ih:=Awg v m l;unfold S4 at *;simp only[Kt,cfW];by_cases e:t.2=m
  .rw[Av e,filter_cons_of_neg (by simp[e]),ih,e];grind
  .rw[Ar e,filter_cons_of_pos (by simp[e])];simp only[Kt];rw[ih];grind
open Classical in
theorem Awh (m:A3):∀(l:List (Rat×A3)) (m':A3),cfW (S4 l m) m'=if m'=m then 0 else cfW l m'
 | [],m'=>by simp[S4,cfW]
 | t::l,m'=>by
  have ih:=Awh m l m';unfold S4 at *;by_cases e:t.2=m
  .rw[filter_cons_of_neg (by simp[e]),ih];by_cases e2:m'=m
   .rw[Av e2,Av e2]
   .rw[Ar e2,Ar e2];simp only[cfW];rw[Ar (by rw[e];exact λh=>e2 h.symm)];grind
  .rw[filter_cons_of_pos (by simp[e])];simp only[cfW];rw[ih];by_cases e2:m'=m
   .rw[Av e2,Av e2,Ar (by rw[e2];exact e)];grind
   .rw[Ar e2,Ar e2]
open Classical in
theorem A94 (v:A3->Nat):∀(n:Nat) (l:List (Rat×A3)),l.length<=n->(∀m,0<=cfW l m)->0<=Kt v l:=by
 intro n;induction n with
 | zero=>intro l hl _;have:l = []:=Gn.1 ω;subst this;exact Rat.le_refl
 | succ n ih=>
  intro l hl h;cases l with
  | nil=>exact Rat.le_refl
  | cons t l=>
   rw[Awg v t.2 (t::l)];have h1:0<=Kt v (S4 (t::l) t.2):=by
    refine ih _ ?_ λm=>?_
    .unfold S4;rw[filter_cons_of_neg ψ];have:=length_filter_le (λu:Rat×A3=>decide (u.2≠t.2)) l;simp only[D6]at hl;omega
    .rw[Awh];split
     .exact Rat.le_refl
     .exact h m
   have h2:=Rat.mul_nonneg (h t.2) (Rat.natCast_nonneg (a:=v t.2));grind
def wT (t:Aj):Rat×A3:=(rq t.C,t.M)
def nT (t:Aj):Rat×A3:=(- rq t.C,t.M)
theorem A95 (p:List Aj) (m:A3):cfW (p.map wT) m=cf p m:=by induction p with| nil=>rfl| cons t p ih=>simp only[map_cons,cfW,ih,Vh,wT]
theorem A96 (p:List Aj) (m:A3):cfW (p.map nT) m = - cf p m:=by induction p with| nil=>show (0:Rat) = - 0;grind| cons t p ih=>simp only[map_cons,cfW,ih,Vh,nT];split <;> grind
theorem A97 (l k:List (Rat×A3)) (m:A3):cfW (l++k) m=cfW l m+cfW k m:=by induction l with| nil=>simp only[nil_append,cfW];grind| cons t l ih=>simp only[D9,cfW,ih];grind
theorem A98 (v:A3->Nat) (l k:List (Rat×A3)):Kt v (l++k)=Kt v l+Kt v k:=by induction l with| nil=>simp only[nil_append,Kt];grind| cons t l ih=>simp only[D9,Kt,ih];grind
theorem A99:∀(k:Nat) (v:Ax),Cp v<=k->k<1099511627776->∃r,Ty k v=some r/\True:=by
 intro k;induction k with
 | zero=>intro v h _;have:=Xz v;omega
 | succ k ih=>
  intro v h hk;have hv:=Lv v;have g:=Vb v.K;rw[Ty];refine Et (λs=>∃j:Nat,s.2=j/\j<=v.K.length) (λs=>v.K.length-s.2.toNat) (λ_=>True) ⟨0,rfl,ω⟩ ?_ (λe _=>⟨e,rfl,trivial⟩);rintro⟨c,_⟩ ⟨j,rfl,hj⟩;rcases Cj j v.K.length with h'|h'
  .have f:=L7 (getElem_mem h');obtain⟨r,b,_⟩:=ih v.K[j] ω ω;simp only[As (ω:(j:Int)<(v.K.length:Int)),Am,Hv rfl h',Ad,b,C5 h' ω];exact .inl ⟨_,rfl,⟨j+1,rfl,ω⟩,ζ⟩
  .simp only[A5 (ω:¬(j:Int)<(v.K.length:Int)),Aq];exact .inr ⟨_,rfl,trivial⟩
noncomputable def Ahk (g:List Aj) (l:Bn) (p:List Ao):Int×List Aj->Option ((Int×List Aj)⊕(Int×List Aj)):=λ(v173,b)=> bif v173<(p.length:Int) then ((Ag p v173).bind λv175=> (Ir v175).bind λc=> bif (c==(0:Int)) then (some (.inl ((Ac (v173+1)),b))) else ((Ak (Ab7 g l v173 v175) (0,b)).bind λ(h,f)=> some (.inl ((Ac (v173+1)),f)))) else (some (.inr (v173,b)))
def Pw (l:Bn) (N:Nat) (f:Nat->Nat) (g:List Bd):Prop:=(l.T.length≠0/\PwN g N f)\/(l.T.length=0/\N=0/\f 0=prb l.Q.toNat g)
abbrev Grp:=Bn×Nat×(Nat->Nat)
inductive Gs:List Grp->List Bd->Prop
 | nil:Gs [] []
 | cons {l:Bn} {N:Nat} {f:Nat->Nat} {g rest:List Bd} {gs:List Grp}:g≠[]->(∀a∈g,a.L=l)->(∀a∈rest,Ez l a.L<0)->Pw l N f g->Gs gs rest->Gs ((l,N,f)::gs) (g++rest)
def Nu (B:List Ent):List Grp->List Ent
 | []=>B
 | q::gs=>Nu (Iw B q.1 q.2.2 (q.2.1+1)) gs
structure Atk (A:List Bd):Prop where
 deg:∀a∈A,0<=a.P
 lin:∀a∈A,F3 a.L=true
 sum:Dp A<=12
 len:A.length<=12
theorem Yc {a:Bn} (h:F3 a=true):a.T.length<=16/\-1048576<=a.Q/\a.Q<=1048576:=by unfold F3 at h;simp only[Ct,Du]at h;exact⟨h.1.2.2,h.1.1,h.1.2.1⟩
theorem Atk.sub {A B:List Bd} (h:Atk (A++B)):Atk A/\Atk B:=by have h1:=h.sum;have h2:=h.len;rw[S0]at h1;rw[Ek]at h2;exact⟨⟨λa ha=>h.deg a (by simp[ha]),λa ha=>h.lin a (by simp[ha]),ω,ω⟩,⟨λa ha=>h.deg a (by simp[ha]),λa ha=>h.lin a (by simp[ha]),ω,ω⟩⟩
theorem Baa {g:List Bd} (hk:Atk g) (b:g≠[]) (hg:∀a∈g,a.L=l):∃N f,O5 g=some (Ls (N+1) f)/\Pw l N f g/\N<=Dp g/\∀k,k<N+1->f k<Fc:=by
 have q:=hk.len;have j:=hk.sum;obtain⟨a,ha⟩:∃a,a∈g:=by cases g with| nil=>exact (b rfl).elim| cons a _=>exact⟨a,ψ⟩
 have c:=hk.lin a ha;rw[hg a ha]at c;have hc:=(Yc c).2.2;by_cases h:l.T.length=0
 .have h1:=A9e g hc (λa ha=>by rw[hg a ha];exact⟨h,rfl⟩) hk.deg hk.sum ω;exact⟨0,λ_=>prb l.Q.toNat g,h1,.inr ⟨h,rfl,rfl⟩,ω,λk _=>Yb ω j⟩
 .obtain⟨N,f,h1,h2⟩:=A9c g b (λa ha=>by rw[hg a ha];exact h) hk.deg hk.sum ω;refine⟨N,f,h1,.inl ⟨h,h2⟩,by rw[h2.1];exact Nat.le_refl _,λk i=>Nat.lt_of_le_of_lt (h2.le i) (Yb ?_ j)⟩;have:=h2.1;omega
noncomputable def Ahl (r:List Bd) (l:Bn):Int->Option (Int⊕Int):=λb=> bif b<(r.length:Int) then ((Ag r b).bind λv117=> (Lj v117.L l).bind λc=> bif (c==(0:Int)) then (some (.inl (Ac (b+1)))) else (some (.inr b))) else (some (.inr b))
theorem Bab {r:List Bd} {a:Bd} (h0:r[0]? = some a) (ht:∀b∈r,b.L.T.length<1099511627776) (u:r.length<=1000) :
  ∃n:Nat,Ak (Ahl r a.L) 1=some (n:Int)/\1<=n/\n<=r.length/\(∀b∈r.take n,b.L=a.L)/\∀b,r[n]? = some b->b.L≠a.L:=by
 have hpos:=Eg h0
 obtain⟨e,q,n,l,k⟩:=Ka (step:=Ahl r a.L) (λs=>∃n:Nat,s=(n:Int)/\1<=n/\n<=r.length/\∀b∈r.take n,b.L=a.L) (λs=>r.length-s.toNat)
  (λe=>∃n:Nat,e=(n:Int)/\1<=n/\n<=r.length/\(∀b∈r.take n,b.L=a.L)/\∀b,r[n]? = some b->b.L≠a.L) (by
  rintro _ ⟨j,rfl,g,f,c⟩
  unfold Ahl
  rcases Cj j r.length with h|h
  .have hx:r[j]? = some r[j]:=Bs h
   have i:=getElem_mem h
   generalize r[j]=b at hx i
   simp only[As (ω:(j:Int)<(r.length:Int)),Am,Br rfl hx,Ad,Xs _ _ (ht b i),C5 h ω]
   by_cases hc:b.L=a.L
   .left
    rw[Eu ((K7.zero _ _ trivial trivial).2 hc)]
    refine⟨_,rfl,⟨j+1,rfl,ω,ω,λd hd=>?_⟩,ω⟩
    rw[C4 hx]at hd
    rcases Ej.1 hd with hd|hd
    .exact c d hd
    .simp only[Ea]at hd
     rw[hd];exact hc
   .right
    rw[C3 (λh=>hc ((K7.zero _ _ trivial trivial).1 h))]
    exact⟨_,rfl,j,rfl,g,f,c,λd hd=>by rw[hx]at hd;cases hd;exact hc⟩
  .right
   refine⟨_,by simp only[A5 (ω:¬(j:Int)<(r.length:Int)),Aq],j,rfl,g,f,c,λd hd=>?_⟩
   have:=Eg hd
   omega) 1 ⟨1,rfl,ω,ω,λb hb=>by
    cases r with
    | nil=>simp at hpos
    | cons x r=>simp at hb h0;rw[hb,h0]⟩
 exact⟨n,by rw[<-l];exact q,k⟩
noncomputable def Ab8:(List Aj×List Bd)->Option ((List Aj×List Bd)⊕List Aj):=λ(g,b)=> bif (b.length:Int)>(0:Int) then ((Ag b 0).bind λf=> (Ak (Ahl b f.L) 1).bind λc=> (F5 b 0 c).bind λi=> (O5 i).bind λh=> (Ak (Ahk g f.L h) (0,[])).bind λ(k,j)=> (F5 b c b.length).bind λv201=> some (.inl (j,v201))) else (some (.inr g))
theorem Bac (n:Nat):n+1<=2 ^ n:=by induction n with| zero=>decide| succ n ih=>rw[Nat.pow_succ];omega
theorem Bad {B:List Ent} {f:Nat->Nat} {n M:Nat} (c:∀b∈B,b.1.length<=M):∀b∈Iw B l f n,b.1.length<=M+1:=by
 intro b hb;unfold Iw at hb;rw[mem_flatMap]at hb;obtain⟨k,_,hk⟩:=hb;split at hk
 .cases hk
 .rw[mem_map]at hk;obtain⟨d,hd,rfl⟩:=hk;have:=c d hd;have:=Av9 l k;simp only[Ek];omega
theorem Yd (k:t.G=6) (h:Di data i t=some d):Cx data i.K t.R=some d:=by
 rw[Lu,Av k]at h;by_cases e:i.U=0
 .rw[Av e]at h;exact h
 .rw[Ar e]at h;cases h
theorem Ab9 (k:t.G=7) (h:Di data i t=some d):(0<=i.U/\i.U<=6/\i.K.length=0)/\i.U.toNat=d:=by
 rw[Lu,Ar ω,Av k]at h;by_cases e:0<=i.U/\i.U<=6/\i.K.length=0
 .rw[Av e]at h;exact⟨e,Fp h⟩
 .rw[Ar e]at h;cases h
theorem Ye (k:t.G=5) (h:Di data i t=some d):Fw data i.K t=some d:=by
 rw[Lu,Ar ω,Ar ω,Av k]at h;by_cases e:i.U=0
 .rw[Av e]at h;exact h
 .rw[Ar e]at h;cases h
def pv {α:Type} (f:α->Nat):List (α×Nat)->Nat
 | []=>0
 | p::l=>p.2*f p.1+pv f l
theorem Kf (f:α->Nat) (l m:List (α×Nat)):pv f (l++m)=pv f l+pv f m:=by induction l with| nil=>simp[pv]| cons p l ih=>simp only[D9,pv,ih];omega
theorem Yf (f:α->Nat) (g:β->α) (l:List (β×Nat)):pv f (l.map λp=>(g p.1,p.2))=pv (λx=>f (g x)) l:=by induction l with| nil=>rfl| cons p l ih=>simp only[map_cons,pv,ih]
theorem Qz {f:α->Nat} {l:List (α×Nat)} (h:∀p∈l,f p.1=g p.1):pv f l=pv g l:=by induction l with| nil=>rfl| cons p l ih=>simp only[pv,h p ψ,ih λq hq=>h q (by simp[hq])]
theorem Ok (c:Nat) (f:α->Nat) (l:List (α×Nat)):pv (λx=>c*f x) l=c*pv f l:=by induction l with| nil=>rfl| cons p l ih=>simp only[pv,ih,Nat.mul_add];rw[Nat.mul_left_comm]
theorem Aca (f:β->Nat) (g:α×Nat->List (β×Nat)) (h:α->Nat) (l:List (α×Nat)) (hg:∀p∈l,pv f (g p)=p.2*h p.1):pv f (l.flatMap g)=pv h l:=by induction l with| nil=>rfl| cons p l ih=>rw[flatMap_cons,Kf,hg p ψ,ih λq hq=>hg q (by simp[hq]),pv]
theorem Bae {f:α->Nat} {l:List (α×Nat)} (h:∀p∈l,f p.1<=g p.1):pv f l<=pv g l:=by induction l with| nil=>exact Nat.le_refl _| cons p l ih=>have h1:=Nat.mul_le_mul_left p.2 (h p ψ);have h2:=ih λq hq=>h q (by simp[hq]);simp only[pv];omega
def Fd (h:Ah) (c:Nat) (l:List (List Ah×Nat)):List (List Ah×Nat):=l.map λr=>(h::r.1,c*r.2)
def E7 (b:Af->Ah->Ah->List (Ah×Nat)):List Af->List Ah->List Ah->List (List Ah×Nat)
 | t::ts,i::is,j::c=>(b t i j).flatMap λw=>Fd w.1 w.2 (E7 b ts is c)
 | _,_,_=>[([],1)]
def Awi (row:Ah->Ah->List (Ah×Nat)) (a:Ah) (l:List Ah) (M:List Ah->List (List Ah×Nat)):List Ah->List (List Ah×Nat)
 | []=>[(a::l,1)]
 | b::m=>Fd a 1 (M (b::m))++(Fd b 1 (Awi row a l M m)++(row a b).flatMap λw=>Fd w.1 w.2 (M m))
def Kg (row:Ah->Ah->List (Ah×Nat)):List Ah->List Ah->List (List Ah×Nat)
 | []=>λm=>[(m,1)]
 | a::l=>Awi row a l (Kg row l)
theorem Acb (row:Ah->Ah->List (Ah×Nat)) (m:List Ah):Kg row [] m = [(m,1)]:=rfl
theorem Ahm (row:Ah->Ah->List (Ah×Nat)) (a:Ah) (l:List Ah):Kg row (a::l) [] = [(a::l,1)]:=rfl
theorem Acd (row:Ah->Ah->List (Ah×Nat)) (a b:Ah) (l m:List Ah):Kg row (a::l) (b::m)=Fd a 1 (Kg row l (b::m))++(Fd b 1 (Kg row (a::l) m)++(row a b).flatMap λw=>Fd w.1 w.2 (Kg row l m)):=rfl
def J6 (data:List Ai) (t:Af) (rows:List Af->List Ah->List Ah->List (List Ah×Nat)) (a b:Ah):List (Ah×Nat) := if a.U=b.U then (rows (J5 data t a.U) a.K b.K).map λr=>(⟨a.U,r.1⟩,r.2) else []
def Yg (a b:Nat):List (Ah×Nat):=((range (a+b+1)).filter λk=>Rc a b k != 0).map λ(k:Nat)=>(⟨(k:Int),[]⟩,Rc a b k)
def D4 (data:List Ai):Nat->Af->Ah->Ah->List (Ah×Nat)
 | 0,_,_,_=>[]
 | k+1,t,i,j=> if t.G=6 then (E7 (D4 data k) t.R i.K j.K).map λr=>(⟨0,r.1⟩,r.2) else if t.G=7 then Yg i.U.toNat j.U.toNat else if t.G=5 then (Kg (J6 data t (E7 (D4 data k))) i.K j.K).map λr=>(⟨0,r.1⟩,r.2) else [(⟨0,[]⟩,1)]
def eS {α:Type}:List (α->Nat)->List α->Nat
 | [],_=>1
 | _::_,[]=>0
 | w::b,x::xs=>eS (w::b) xs+w x*eS b xs
theorem Vo (xs:List α):eS [] xs=1:=by cases xs <;> rfl
theorem Ahn {α:Type} (w:α->Nat) (x:α):∀(l:List α) (b:List (α->Nat)),eS (b++[w]) (l++[x])=eS (b++[w]) l+eS b l*w x
 | [],[]=>by simp[eS]
 | [],v::vs=>by cases vs <;> simp[eS]
 | y::l,[]=>by have h:=Ahn w x l [];simp only[nil_append,D9,eS,Vo]at h ⊢;omega
 | y::l,v::vs=>by have h1:=Ahn w x l (v::vs);have h2:=Ahn w x l vs;simp only[D9,eS]at h1 ⊢;rw[h1,h2];simp only[Nat.mul_add,Nat.add_mul,Nat.mul_assoc];omega
theorem Awj (b:List (α->Nat)):∀(n:Nat) (l:List α) (q:Nat),l.length=n->q<=b.length->dpS b l q=eS (b.take q) l:=by
 intro n;induction n with
 | zero=>
  intro l q g hq;have:l = []:=Gn.1 g;subst this;cases q with
  | zero=>rfl
  | succ q=>cases b with| nil=>simp at hq| cons w b=>rfl
 | succ n ih=>
  intro l q g hq;rcases eq_nil_or_concat l with h|⟨c,x,h⟩
  .subst h;simp at g
  .rw[concat_eq_append]at h;subst h;rw[Avy];have f:c.length=n:=(by simpa using g);cases q with
   | zero=>rw[take_zero,Vo];show dpS b c 0=1;rw[ih c 0 f ω,take_zero,Vo]
   | succ q=>
    have hw:b[q]? = some b[q]:=Bs _;show dpS b c (q+1)+dpS b c q*(match b[q]? with|some w=>w x|none=>0)=_
    rw[ih c (q+1) f hq,ih c q f ω,hw,C4 hw,Ahn]
theorem Amv (b:Ah->β->Nat) (h:Ah) (c:Nat) (L:List (List Ah×Nat)):pv (λr=>eS (r.map b) []) (Fd h c L)=0:=by induction L with| nil=>rfl| cons r L ih=>show _*eS (b h::r.1.map b) []+pv (λr=>eS (r.map b) []) (Fd h c L)=0;rw[ih];rfl
theorem Amw (b:Ah->β->Nat) (h:Ah) (c:Nat) (x:β) (xs:List β) (L:List (List Ah×Nat)) : pv (λr=>eS (r.map b) (x::xs)) (Fd h c L)=pv (λr=>eS (r.map b) xs) (Fd h c L)+c*b h x*pv (λr=>eS (r.map b) xs) L:=by induction L with| nil=>rfl| cons r L ih=>show c*r.2*eS (b h::r.1.map b) (x::xs)+pv (λr=>eS (r.map b) (x::xs)) (Fd h c L)=(c*r.2*eS (b h::r.1.map b) xs+pv (λr=>eS (r.map b) xs) (Fd h c L))+c*b h x*(r.2*eS (r.1.map b) xs+pv (λr=>eS (r.map b) xs) L);rw[ih,eS];simp only[Nat.mul_add];have:c*r.2*(b h x*eS (r.1.map b) xs)=c*b h x*(r.2*eS (r.1.map b) xs):=(by ac_rfl);omega
theorem Awk {β:Type} (b:Ah->β->Nat) (x:β) (xs:List β) (L:List (List Ah×Nat)):∀R:List (Ah×Nat), pv (λr=>eS (r.map b) (x::xs)) (R.flatMap λw=>Fd w.1 w.2 L)=pv (λr=>eS (r.map b) xs) (R.flatMap λw=>Fd w.1 w.2 L)+pv (λe=>b e x) R*pv (λr=>eS (r.map b) xs) L
 | []=>by simp[pv]
 | w::R=>by rw[flatMap_cons,Kf,Kf,Amw,Awk b x xs L R];simp only[pv,Nat.add_mul];omega
theorem Baf {row:Ah->Ah->List (Ah×Nat)} {c:Ah->β->Nat}:∀(xs:List β),(∀x∈xs,∀a,P a->∀b,Q b->pv (λe=>c e x) (row a b)=c a x*c b x)->∀(l m:List Ah),(∀a∈l,P a)->(∀b∈m,Q b) -> pv (λr=>eS (r.map c) xs) (Kg row l m)=eS (l.map c) xs*eS (m.map c) xs:=by
 have one:∀(xs:List β) (m:List Ah),pv (λr:List Ah=>eS (r.map c) xs) [(m,1)]=eS (m.map c) xs:=λxs m=>by show 1*eS (m.map c) xs+0=_;omega
 intro xs;induction xs with
 | nil=>
  intro _ l;cases l with
  | nil=>intro m _ _;rw[Acb,one,map_nil,Vo,Nat.one_mul]
  | cons a l=>
   intro m z s;show _=0*_;rw[Nat.zero_mul];cases m with
   | nil=>rw[Ahm,one];rfl
   | cons b m=>
    rw[Acd,Kf,Kf,Amv,Amv];rw[Aca (h:=λ_=>0) (hg:=λp _=>by rw[Amv,Nat.mul_zero])];have:∀L:List (Ah×Nat),pv (λ_=>0) L=0:=λL=>by induction L with| nil=>rfl| cons p L ih=>simp only[pv,ih];omega
    rw[this]
 | cons x xs ih=>
  intro f l;have ih:=ih λy hy=>f y (by simp[hy]);cases l with
  | nil=>intro m _ _;rw[Acb,one,map_nil,Vo,Nat.one_mul]
  | cons a l=>intro m;cases m with| nil=>intro _ _;rw[Ahm,one,map_nil,Vo,Nat.mul_one]| cons b m=>intro z s;have u:∀a∈l,P a:=λy hy=>z y (by simp[hy]);have q:∀b∈m,Q b:=λy hy=>s y (by simp[hy]);have h0:=ih (a::l) (b::m) z s;rw[Acd,Kf,Kf]at h0;rw[Acd,Kf,Kf,Amw,Amw,Awk,f x ψ a (z a ψ) b (s b ψ),ih l (b::m) u s,ih (a::l) m z q,ih l m u q];simp only[map_cons,eS]at h0 ⊢;generalize eS (c a::l.map c) xs=A at *;generalize eS (c b::m.map c) xs=B at *;generalize eS (l.map c) xs=k at *;generalize eS (m.map c) xs=j at *;generalize c a x=i at *;generalize c b x=g at *;have D:(A+i*k)*(B+g*j)=A*B+i*(k*B)+g*(A*j)+i*g*(k*j):=(by simp only[Nat.add_mul,Nat.mul_add];have I:A*(g*j)=g*(A*j):=(by ac_rfl);have G:i*k*B=i*(k*B):=(by ac_rfl);have E:i*k*(g*j)=i*g*(k*j):=(by ac_rfl);omega);rw[D,<-h0];simp only[Nat.one_mul];omega
theorem Ace (f:List Ah->Nat) (h:Ah) (c:Nat) (L:List (List Ah×Nat)):pv f (Fd h c L)=c*pv (λr=>f (h::r)) L:=by induction L with| nil=>rfl| cons r L ih=>show c*r.2*f (h::r.1)+pv f (Fd h c L)=c*(r.2*f (h::r.1)+pv (λr=>f (h::r)) L);rw[ih,Nat.mul_add,Nat.mul_assoc]
theorem Bag (L:List (α×Nat)):pv (λ_=>0) L=0:=by induction L with| nil=>rfl| cons p L ih=>simp only[pv,ih];omega
theorem Awl {g:Af->Ah->Ah->List (Ah×Nat)} (u:∀t i j w a b,Bv i<=k->Di data i t=some a->Di data j t=some b->G9 data w t=true->pv (λx=>bv data x t w) (g t i j)=bv data i t w*bv data j t w) : ∀(ts:List Af) (is f:List Ah) (c:List Ax) (q l:Nat),Cb is<=k->Cx data is ts=some q->Cx data f ts=some l->Hy data c ts=true->pv (λr=>bvs data r ts c) (E7 g ts is f)=bvs data is ts c*bvs data f ts c:=by
 intro ts;induction ts with
 | nil=>
  intro is f c q l _ h1 h2 h3;cases is with
  | cons i is=>simp only[Cx]at h1;cases h1
  | nil=>cases f with| cons j f=>simp only[Cx]at h2;cases h2| nil=>simp only[E7,pv,Sz]
 | cons t ts ih=>
  intro is f c q l s h1 h2 h3;cases is with
  | nil=>simp only[Cx]at h1;cases h1
  | cons i is=>
   cases f with
   | nil=>simp only[Cx]at h2;cases h2
   | cons j f=>
    cases c with
    | nil=>simp only[Hy]at h3;cases h3
    | cons w c=>
     simp only[Hy,Ct]at h3;simp only[Cb]at s;rw[Nm]at h1 h2;cases a1:Di data i t with
     | none=>rw[a1]at h1;cases h1
     | some a=>
      cases a2:Cx data is ts with
      | none=>rw[a1,a2]at h1;cases h1
      | some B=>
       cases b1:Di data j t with
       | none=>rw[b1]at h2;cases h2
       | some b=>
        cases b2:Cx data f ts with
        | none=>rw[b1,b2]at h2;cases h2
        | some A=>
         have z:=u t i j w a b ω a1 b1 h3.1;have y:=ih is f c B A ω a2 b2 h3.2;show pv (λr=>bvs data r (t::ts) (w::c)) ((g t i j).flatMap λw=>Fd w.1 w.2 (E7 g ts is f))=_;rw[Aca (h:=λx=>pv (λr=>bvs data r ts c) (E7 g ts is f)*bv data x t w) (hg:=λp _=>by rw[Ace];have:(λr=>bvs data (p.1::r) (t::ts) (w::c))=λr=>bv data p.1 t w*bvs data r ts c:=(by funext r;rw[Sy]);rw[this,Ok,Nat.mul_comm (bv data p.1 t w)]),Ok,z,y,Sy,Sy]
         ac_rfl
theorem Awm (data:List Ai):∀(c:List Ax) (l:List Af) (r:List Bool),Hy data c l=true->Hy data (J4 c r) (F7 l r)=true
 | [],[],r,_=>by simp[J4,F7,Hy]
 | w::c,t::l,[],_=>by simp[J4,F7,Hy]
 | w::c,t::l,b::r,h=>by simp only[Hy,Ct]at h;have ih:=Awm data c l r h.2;unfold J4 F7 at ih ⊢;cases b with| true=>simpa using ih| false=>simp only[zip_cons_cons,filter_cons,Bool.not_false,if_true,map_cons,Hy,h.1,Bool.true_and];exact ih
 | [],_::_,_,h=>by simp only[Hy]at h;cases h
 | _::_,[],_,h=>by simp only[Hy]at h;cases h
theorem Bah (hk:t.G=5) {x:Ax} (h:G9 data x t=true):Hy data (J4 x.K (D7 data t.U x.U)) (J5 data t x.U)=true:=by rw[Su,Ar ω,Ar ω,Ar ω,Ar ω,Av hk]at h;cases hf:Jh data t x.U with| none=>rw[hf]at h;simp at h| some l=>rw[hf]at h;simp only[Ct]at h;have e:J5 data t x.U=F7 l (D7 data t.U x.U):=(by unfold J5 Gx;rw[hf];rfl);rw[e];exact Awm data _ _ _ h.2
theorem Amx (data:List Ai) (t:Af):∀es:List Ah,bws data es t=es.map (wOf data t)
 | []=>by simp only[bws,map_nil]
 | ⟨n,b⟩::es=>by simp only[bws,Amx data t es,map_cons];rfl
theorem Awn (a b n:Nat):pv (λx:Ah=>bc n x.U.toNat) (Yg a b)=bc n a*bc n b:=by
 rw[<-X9 n a b (a+b+1) ω];unfold Yg;generalize a+b+1=N;induction N with
 | zero=>rfl
 | succ N ih=>
  rw[range_succ,filter_append,map_append,Kf,ih,sm];congr 1;by_cases h:Rc a b N=0
  .simp[h,pv]
  .simp[h,pv]
theorem Bai:∀(k:Nat) (t:Af) (i j:Ah) (w:Ax) (B A:Nat),Bv i<=k->Di data i t=some B->Di data j t=some A->G9 data w t=true->pv (λx=>bv data x t w) (D4 data k t i j)=bv data i t w*bv data j t w:=by
 intro k;induction k with
 | zero=>intro t i j w B A h;have:=El i;omega
 | succ k ih=>
  intro t i j w B A S hi hj z;have J:=El i;rw[Nt data i,Nt data j,D4];by_cases c:t.G=6
  .rw[Av c,Av c,Av c,Yf];have hi:=Yd c hi;have hj:=Yd c hj;rw[Su,Ar ω,Ar ω,Ar ω,Av c]at z;simp only[Ct]at z;rw[<-Awl (k:=k) (λt i j w a b h1 h2 h3 G=>ih t i j w a b h1 h2 h3 G) t.R i.K j.K w.K B A ω hi hj z.2];exact Qz λp _=>by rw[Nt,Av c]
  .rw[Ar c,Ar c,Ar c];by_cases s:t.G=7
   .rw[Av s,Av s,Av s,<-Awn];exact Qz λp _=>by rw[Nt,Ar c,Av s]
   .rw[Ar s,Ar s,Ar s];by_cases f:t.G=5
    .have hi:=Ye f hi;have hj:=Ye f hj;obtain⟨_,R⟩:=Ab2 data _ _ _ hi;obtain⟨_,N⟩:=Ab2 data _ _ _ hj;have y:∀l:List Ah,dpS (bws data l t) (Il data t.U w) l.length=eS (l.map (wOf data t)) (Il data t.U w):=λl=>by rw[Awj _ _ _ _ rfl (by rw[Amx,C1];exact Nat.le_refl _),Amx,Ii (by rw[C1];exact Nat.le_refl _)]
     rw[Av f,Av f,Av f,Yf,y,y];rw[<-Baf (P:=λa=>Bv a<=k/\∃ts,Gx data t a.U=some ts/\Cx data a.K ts=some (pdg data t a)) (Q:=λb=>∃ts,Gx data t b.U=some ts/\Cx data b.K ts=some (pdg data t b)) (row:=J6 data t (E7 (D4 data k))) (Il data t.U w) (λx hx a ha b hb=>?_) i.K j.K (λa ha=>⟨by have:=Kd ha;omega,R a ha⟩) N]
     .exact Qz λp _=>by rw[Nt,Ar c,Ar s,Av f];exact y p.1
     .obtain⟨D,_⟩:=Avh f _ w (Nat.le_refl _) z x hx;obtain⟨M,ts,a1,a2⟩:=ha;obtain⟨I,b1,b2⟩:=hb;have L:=El a;unfold J6;by_cases e:a.U=b.U
      .rw[Av e,Yf];by_cases ex:x.U=a.U
       .have u:J5 data t a.U=ts:=(by unfold J5;rw[a1]);have E:I=ts:=(by rw[<-e,a1]at b1;exact (Fp b1).symm);subst E;have hp:=Bah f D;rw[ex,u]at hp;have hv:=Awl (k:=k) (λt i j w a b h1 h2 h3 G=>ih t i j w a b h1 h2 h3 G) I a.K b.K (J4 x.K (D7 data t.U a.U)) _ _ ω a2 b2 hp;unfold wOf;rw[Av ex,Av ω,u,<-e,u,<-hv];exact Qz λp _=>by rw[Av ex];rw[u]
       .have J:∀r:List Ah,wOf data t ⟨a.U,r⟩ x=0:=λr=>by unfold wOf;rw[Ar ex]
        have q:wOf data t a x=0:=(by unfold wOf;rw[Ar ex]);rw[q,Nat.zero_mul,Qz (g:=λ_=>0) λp _=>J p.1,Bag]
      .rw[Ar e];show 0=_;by_cases ex:x.U=a.U
       .have q:wOf data t b x=0:=(by unfold wOf;rw[Ar ω]);rw[q,Nat.mul_zero]
       .have q:wOf data t a x=0:=(by unfold wOf;rw[Ar ex]);rw[q,Nat.zero_mul]
    .rw[Ar f,Ar f,Ar f];show 1*bv data ⟨0,[]⟩ t w+0=1*1;rw[Nt,Ar c,Ar s,Ar f]
theorem Acf:∀(a b N:Nat),sm N (Rc a b)<=3 ^ (a+b)
 | 0,b,N=>by
  have h1:1<=3 ^ (0+b):=Nat.pow_pos δ;by_cases h:b<N
  .rw[Abz (k:=b) h λj hj=>by rw[Ab0,Ar hj],Ab0,Av rfl];exact h1
  .rw[Vk λk hk=>by rw[Ab0,Ar ω]];omega
 | a+1,0,N=>by
  have h1:1<=3 ^ (a+1+0):=Nat.pow_pos δ;by_cases h:a+1<N
  .rw[Abz (k:=a+1) h λj hj=>by rw[Ab1,Ar hj],Ab1,Av rfl];exact h1
  .rw[Vk λk hk=>by rw[Ab1,Ar ω]];omega
 | a+1,b+1,0=>Nat.zero_le _
 | a+1,b+1,N+1=>by rw[Aha,Avq,X6 λk _=>Avp a b k];have e:sm N (λk=>Rc a (b+1) k+Rc (a+1) b k+Rc a b k)=sm N (Rc a (b+1))+sm N (Rc (a+1) b)+sm N (Rc a b):=(by rw[Vj (λk=>Rc a (b+1) k+Rc (a+1) b k),Vj]);have h1:=Acf a (b+1) N;have h2:=Acf (a+1) b N;have h3:=Acf a b N;have g:a+(b+1)=a+b+1:=ω;have f:a+1+b=a+b+1:=ω;have c:a+1+(b+1)=a+b+2:=ω;rw[g]at h1;rw[f]at h2;rw[e,c];have l:3 ^ (a+b+1)=3 ^ (a+b)*3:=Nat.pow_succ ..;have i:3 ^ (a+b+2)=3 ^ (a+b+1)*3:=Nat.pow_succ ..;omega
theorem Baj (a b:Nat):pv (λ_=>1) (Yg a b)<=3 ^ (a+b):=by
 have h:=Acf a b (a+b+1);refine Nat.le_trans (Nat.le_of_eq ?_) h;unfold Yg;generalize a+b+1=N;induction N with
 | zero=>rfl
 | succ N ih=>
  rw[range_succ,filter_append,map_append,Kf,ih,sm];congr 1;by_cases h:Rc a b N=0
  .simp[h,pv]
  .simp[h,pv]
structure Gp (data:List Ai) (t:Af) (D S:Nat) (p:Ah×Nat):Prop where
 pos:1<=p.2
 deg:∃d,Di data p.1 t=some d/\d<=D
 siz:Bv p.1<=S
 num:iR p.1
structure Gr (data:List Ai) (ts:List Af) (D S:Nat) (p:List Ah×Nat):Prop where
 pos:1<=p.2
 deg:∃d,Cx data p.1 ts=some d/\d<=D
 siz:Cb p.1<=S
 num:E6 p.1
structure Ge (data:List Ai) (t:Af) (D S:Nat) (p:List Ah×Nat):Prop where
 pos:1<=p.2
 deg:∃d,Fw data p.1 t=some d/\d<=D
 siz:Cb p.1<=S
 num:E6 p.1
def Acg (data:List Ai) (k:Nat) (b:Af->Ah->Ah->List (Ah×Nat)):Prop:=∀(t:Af) (i j:Ah) (f c:Nat),Bv i<=k->Di data i t=some f->Di data j t=some c->f+c<=6->iR i->iR j -> (∀p∈b t i j,Gp data t (f+c) (Bv i+Bv j) p)/\pv (λ_=>1) (b t i j)<=3 ^ (f+c)
theorem Aho {h:Ah} {c:Nat} {L:List (List Ah×Nat)} {p:List Ah×Nat} (hp:p∈Fd h c L):∃r∈L,p=(h::r.1,c*r.2):=by obtain⟨r,h1,h2⟩:=mem_map.1 hp;exact⟨r,h1,h2.symm⟩
theorem Ahp {c:Af->Ah->Ah->List (Ah×Nat)} (A:Acg data k c) : ∀(ts:List Af) (is f:List Ah) (l g:Nat),Cb is<=k->Cx data is ts=some l->Cx data f ts=some g->l+g<=6->E6 is->E6 f -> (∀p∈E7 c ts is f,Gr data ts (l+g) (Cb is+Cb f) p)/\pv (λ_=>1) (E7 c ts is f)<=3 ^ (l+g):=by
 intro ts;induction ts with
 | nil=>
  intro is f l g _ h1 h2 _ _ _;cases is with
  | cons i is=>simp only[Cx]at h1;cases h1
  | nil=>
   cases f with
   | cons j f=>simp only[Cx]at h2;cases h2
   | nil=>
    refine⟨λp hp=>?_,?_⟩
    .simp only[E7,Ea]at hp;subst hp;exact⟨Nat.le_refl _,⟨0,by simp only[Cx],ω⟩,by simp[Cb],by simp[E6]⟩
    .show 1*1+0<=_;exact Nat.pow_pos δ
 | cons t ts ih=>
  intro is f l g y h1 h2 J s q;cases is with
  | nil=>simp only[Cx]at h1;cases h1
  | cons i is=>
   cases f with
   | nil=>simp only[Cx]at h2;cases h2
   | cons j f=>
    simp only[Cb]at y;simp only[E6]at s q;rw[Nm]at h1 h2;cases a1:Di data i t with
    | none=>rw[a1]at h1;cases h1
    | some a=>
     cases a2:Cx data is ts with
     | none=>rw[a1,a2]at h1;cases h1
     | some x=>
      cases b1:Di data j t with
      | none=>rw[b1]at h2;cases h2
      | some b=>
       cases b2:Cx data f ts with
       | none=>rw[b1,b2]at h2;cases h2
       | some u=>
        rw[a1,a2]at h1;rw[b1,b2]at h2;have h1:a+x=l:=Fp h1;have h2:b+u=g:=Fp h2;obtain⟨D,B⟩:=A t i j a b ω a1 b1 ω s.1 q.1;obtain⟨f1,f2⟩:=ih is f x u ω a2 b2 ω s.2 q.2;refine⟨λp hp=>?_,?_⟩
        .obtain⟨w,hw,hp⟩:=mem_flatMap.1 (show p∈(c t i j).flatMap λw=>Fd w.1 w.2 (E7 c ts is f) from hp);obtain⟨r,z,rfl⟩:=Aho hp;have g1:=D w hw;have g2:=f1 r z;obtain⟨d,d1,d2⟩:=g1.deg;obtain⟨E,d3,d4⟩:=g2.deg;refine⟨Nat.mul_pos g1.pos g2.pos,⟨d+E,by rw[Nm,d1,Ad,d3];rfl,ω⟩,?_,?_⟩
         .have I:=g1.siz;have G:=g2.siz;simp only[Cb];omega
         .simp only[E6];exact⟨g1.num,g2.num⟩
        .show pv (λ_=>1) ((c t i j).flatMap λw=>Fd w.1 w.2 (E7 c ts is f))<=_;rw[Aca (h:=λ_=>pv (λ_=>1) (E7 c ts is f)*1) (hg:=λp _=>by rw[Ace,Nat.mul_one]),Ok];have:=Nat.mul_le_mul f2 B;rw[<-Nat.pow_add,show x+u+(a+b)=l+g by omega]at this;exact this
theorem Ahq (h:Fw data (e::es) t=some d):∃ts a b,Gx data t e.U=some ts/\Cx data e.K ts=some a/\Fw data es t=some b/\d=1+a+b:=by
 rw[U2]at h;cases h1:Gx data t e.U with
 | none=>rw[h1]at h;cases h
 | some ts=>
  rw[h1,Ad]at h;cases h2:Cx data e.K ts with
  | none=>rw[h2]at h;cases h
  | some a=>rw[h2,Ad]at h;cases h3:Fw data es t with| none=>rw[h3]at h;cases h| some b=>rw[h3]at h;exact⟨ts,a,b,rfl,h2,rfl,(Fp h).symm⟩
theorem Amy {ts:List Af} {b:Nat} (h1:Gx data t e.U=some ts) (h2:Cx data e.K ts=some a) (h3:Fw data es t=some b):Fw data (e::es) t=some (1+a+b):=by rw[U2,h1,Ad,h2,Ad,h3];rfl
theorem Bak {c:Af->Ah->Ah->List (Ah×Nat)} (z:Acg data k c) {a b:Ah} {ts i:List Af} {h f:Nat} (x:Cb a.K<=k) (a1:Gx data t a.U=some ts) (B:Cx data a.K ts=some h) (b1:Gx data t b.U=some i) (b2:Cx data b.K i=some f) (A:h+f<=6) (j:iR a) (u:iR b) : (∀p∈J6 data t (E7 c) a b,1<=p.2/\(∃d,Cx data p.1.K ts=some d/\d<=h+f)/\p.1.U=a.U/\Bv p.1+1<=Bv a+Bv b/\iR p.1)/\pv (λ_=>1) (J6 data t (E7 c) a b)<=3 ^ (h+f):=by
 unfold J6;by_cases e:a.U=b.U
 .have q:J5 data t a.U=ts:=(by unfold J5;rw[a1]);have l:i=ts:=(by rw[<-e,a1]at b1;exact (Fp b1).symm);subst l;rw[Og]at j u;obtain⟨f1,f2⟩:=Ahp z i a.K b.K h f x B b2 A j.2 u.2;rw[Av e,q];refine⟨λp hp=>?_,by rw[Yf];exact f2⟩;obtain⟨r,y,rfl⟩:=mem_map.1 hp;have g:=f1 r y;have s:=g.siz;have E:=El a;have D:=El b;refine⟨g.pos,g.deg,rfl,?_,?_⟩
  .rw[El];show 1+Cb r.1+1<=_;omega
  .rw[Og];exact⟨j.1,g.num⟩
 .rw[Ar e];exact⟨λp hp=>(by cases hp),Nat.zero_le _⟩
theorem Awo {u:Af->Ah->Ah->List (Ah×Nat)} (hm:Acg data k u) (t:Af) : ∀(l m:List Ah) (z y:Nat),Cb l<=k+1->(∀e∈l,Cb e.K<=k)->Fw data l t=some z->Fw data m t=some y->z+y<=6->E6 l->E6 m -> (∀p∈Kg (J6 data t (E7 u)) l m,Ge data t (z+y) (Cb l+Cb m) p)/\pv (λ_=>1) (Kg (J6 data t (E7 u)) l m)<=3 ^ (z+y):=by
 have x:∀(l m:List Ah) (D S:Nat),(∃d,Fw data l t=some d/\d<=D)->Cb l<=S->E6 l->(∀p∈[(l,1)],Ge data t D S p)/\pv (λ_=>1) [(l,1)]<=3 ^ D:=λl m D S h1 h2 h3=>by
  refine⟨λp hp=>?_,?_⟩
  .simp only[Ea]at hp;subst hp;exact⟨Nat.le_refl _,h1,h2,h3⟩
  .show 1*1+0<=_;exact Nat.pow_pos δ
 intro l;induction l with
 | nil=>intro m z y _ _ _ h2 _ _ G;rw[Acb];exact x m m _ _ ⟨y,h2,ω⟩ ω G
 | cons a l A=>
  intro m;induction m with
  | nil=>intro z y _ _ h1 _ _ I _;rw[Ahm];exact x _ [] _ _ ⟨z,h1,ω⟩ ω I
  | cons b m J=>
   intro z y hs hk h1 h2 h6 I G;obtain⟨ts,q,dl,a1,a2,a3,rfl⟩:=Ahq h1;obtain⟨us,j,c,b1,b2,L,rfl⟩:=Ahq h2;have i:=I;have f:=G;simp only[E6]at i f;have za:Cb (a::l)=Bv a+Cb l:=(by simp only[Cb]);have zb:Cb (b::m)=Bv b+Cb m:=(by simp only[Cb]);have E:∀e∈l,Cb e.K<=k:=λe he=>hk e (by simp[he]);obtain⟨R,x2⟩:=A (b::m) dl (1+j+c) ω E a3 h2 ω i.2 G;obtain⟨N,y2⟩:=J (1+q+dl) c hs hk h1 L ω I f.2;obtain⟨M,z2⟩:=A m dl c ω E a3 L ω i.2 f.2;obtain⟨V,U⟩:=Bak hm (t:=t) (hk a ψ) a1 a2 b1 b2 ω i.1 f.1;rw[Acd];refine⟨λp hp=>?_,?_⟩
   .rcases Ej.1 hp with hp|hp
    .obtain⟨r,B,rfl⟩:=Aho hp;have g:=R r B;obtain⟨d,d1,d2⟩:=g.deg;have s:=g.siz;refine⟨by have:=g.pos;show 1<=1*r.2;omega,⟨_,Amy a1 a2 d1,ω⟩,?_,?_⟩
     .simp only[Cb]at s ⊢;omega
     .simp only[E6];exact⟨i.1,g.num⟩
    .rcases Ej.1 hp with hp|hp
     .obtain⟨r,B,rfl⟩:=Aho hp;have g:=N r B;obtain⟨d,d1,d2⟩:=g.deg;have s:=g.siz;refine⟨by have:=g.pos;show 1<=1*r.2;omega,⟨_,Amy b1 b2 d1,ω⟩,?_,?_⟩
      .simp only[Cb]at s ⊢;omega
      .simp only[E6];exact⟨f.1,g.num⟩
     .obtain⟨w,hw,hp⟩:=mem_flatMap.1 hp;obtain⟨r,B,rfl⟩:=Aho hp;obtain⟨Y,⟨d',v2,v3⟩,v4,v5,X⟩:=V w hw;have g:=M r B;obtain⟨d,d1,d2⟩:=g.deg;have s:=g.siz;refine⟨Nat.mul_pos Y g.pos,⟨_,Amy (by rw[v4];exact a1) v2 d1,ω⟩,?_,?_⟩
      .simp only[Cb]at s ⊢;omega
      .simp only[E6];exact⟨X,g.num⟩
   .rw[Kf,Kf,Ace,Ace];rw[Aca (h:=λ_=>pv (λ_=>1) (Kg (J6 data t (E7 u)) l m)*1) (hg:=λp _=>by rw[Ace,Nat.mul_one]),Ok];have Z:=Nat.mul_le_mul z2 U;rw[<-Nat.pow_add]at Z;have p1:3 ^ (dl+(1+j+c))<=3 ^ (1+q+dl+(j+c)):=Nat.pow_le_pow_right δ ω;have p2:3 ^ (1+q+dl+c)<=3 ^ (1+q+dl+(j+c)):=Nat.pow_le_pow_right δ ω;have p3:3 ^ (dl+c+(q+j))<=3 ^ (1+q+dl+(j+c)):=Nat.pow_le_pow_right δ ω;have p4:3 ^ (1+q+dl+(1+j+c))=3 ^ (1+q+dl+(j+c))*3:=(by rw[show 1+q+dl+(1+j+c)=(1+q+dl+(j+c))+1 by omega,Nat.pow_succ]);omega
theorem Q2 (data:List Ai):∀k,Acg data k (D4 data k):=by
 intro k;induction k with
 | zero=>intro t i j x u h;have:=El i;omega
 | succ k ih=>
  intro t i j x u M hi hj A D B;have L:=El i;have G:=El j;have f:=D;have c:=B;rw[Og]at f c;rw[D4];by_cases b:t.G=6
  .rw[Av b,Yf];have hi:=Yd b hi;have hj:=Yd b hj;obtain⟨f1,f2⟩:=Ahp ih t.R i.K j.K x u ω hi hj A f.2 c.2;refine⟨λp hp=>?_,f2⟩;obtain⟨r,z,rfl⟩:=mem_map.1 hp;have g:=f1 r z;obtain⟨d,d1,d2⟩:=g.deg;refine⟨g.pos,⟨d,by rw[Lu,Av b,Av rfl];exact d1,d2⟩,?_,?_⟩
   .have s:=g.siz;rw[El];show 1+Cb r.1<=_;omega
   .rw[Og];exact⟨by show Ev 0;unfold Ev;omega,g.num⟩
  .rw[Ar b];by_cases l:t.G=7
   .rw[Av l,(Ab9 l hi).2,(Ab9 l hj).2];refine⟨λp hp=>?_,Baj x u⟩;obtain⟨n,I,rfl⟩:=mem_map.1 hp;obtain⟨E,y⟩:=mem_filter.1 I;rw[mem_range]at E;have y:Rc x u n≠0:=(by simpa using y);refine⟨Nat.pos_of_ne_zero y,⟨n,by rw[Lu,Ar b,Av l,Av ⟨by show (0:Int)<=n;omega,by show (n:Int)<=6;omega,rfl⟩];rfl,ω⟩,?_,?_⟩
    .rw[El];show 1+Cb []<=_;simp only[Cb];omega
    .rw[Og];exact⟨by show Ev (n:Int);unfold Ev;omega,by show E6 [];simp only[E6]⟩
   .rw[Ar l];by_cases q:t.G=5
    .rw[Av q,Yf];have hi:=Ye q hi;have hj:=Ye q hj;obtain⟨f1,f2⟩:=Awo ih t i.K j.K x u ω (λe J=>by have:=Kd J;have:=El e;omega) hi hj A f.2 c.2;refine⟨λp hp=>?_,f2⟩;obtain⟨r,z,rfl⟩:=mem_map.1 hp;have g:=f1 r z;obtain⟨d,d1,d2⟩:=g.deg;refine⟨g.pos,⟨d,by rw[Lu,Ar b,Ar l,Av q,Av rfl];exact d1,d2⟩,?_,?_⟩
     .have s:=g.siz;rw[El];show 1+Cb r.1<=_;omega
     .rw[Og];exact⟨by show Ev 0;unfold Ev;omega,g.num⟩
    .rw[Ar q];refine⟨λp hp=>?_,?_⟩
     .simp only[Ea]at hp;subst hp;refine⟨Nat.le_refl _,⟨0,by rw[Lu,Ar b,Ar l,Ar q,Av ⟨rfl,rfl⟩],ω⟩,?_,?_⟩
      .rw[El];show 1+Cb []<=_;simp only[Cb];omega
      .rw[Og];exact⟨by show Ev 0;unfold Ev;omega,by show E6 [];simp only[E6]⟩
     .show 1*1+0<=_;exact Nat.pow_pos δ
theorem Mv {l:List (α×Nat)} (h:∀p∈l,1<=p.2):l.length<=pv (λ_=>1) l:=by induction l with| nil=>exact Nat.le_refl _| cons p l ih=>have h1:=h p ψ;have h2:=ih λq hq=>h q (by simp[hq]);simp only[D6,pv];omega
theorem Pq {l:List (α×Nat)} {p:α×Nat} (h:p∈l):p.2<=pv (λ_=>1) l:=by
 induction l with
 | nil=>cases h
 | cons q l ih=>
  simp only[pv];rcases Gi.1 h with rfl|h
  .omega
  .have:=ih h;omega
def Ba (p:Ah×Nat):Ap:=⟨p.1,cR p.2⟩
def toR (p:List Ah×Nat):Ig:=⟨p.1,cR p.2⟩
theorem Awp {b:Nat} (ha:a<=729) (hb:b<=729):Fa (cR a) (cR b)=some (cR (a*b)):=Amq (K:=3) (Kz ω) (Kz ω) δ δ
theorem S5 (h:d<=6):3 ^ d<=729:=Nat.le_trans (Nat.pow_le_pow_right δ h) δ
theorem Awq {α:Type} (h:Ah) (c:Nat) (f:α->List (List Ah×Nat)):∀L:List α,Fd h c (L.flatMap f)=L.flatMap λr=>Fd h c (f r)
 | []=>rfl
 | r::L=>by have ih:=Awq h c f L;unfold Fd at ih ⊢;rw[flatMap_cons,flatMap_cons,map_append,ih]
def J7 (W:List (Ah×Nat)) (r:List Ah×Nat):List (List Ah×Nat):=W.map λw=>(r.1++[w.1],r.2*w.2)
theorem Awr (b:Af->Ah->Ah->List (Ah×Nat)) (t:Af) (i j:Ah):∀(ts:List Af) (is c:List Ah),is.length=ts.length->c.length=ts.length -> E7 b (ts++[t]) (is++[i]) (c++[j])=(E7 b ts is c).flatMap (J7 (b t i j))
 | [],[],[],_,_=>by show (b t i j).flatMap (λw=>Fd w.1 w.2 [([],1)])=J7 (b t i j) ([],1)++[];rw[append_nil];unfold J7;induction b t i j with| nil=>rfl| cons w W ih=>rw[flatMap_cons,ih];show [([w.1],w.2*1)]++_=_;rw[Nat.mul_one,map_cons,Nat.one_mul];rfl
 | t0::ts,i0::is,f::c,h1,h2=>by show (b t0 i0 f).flatMap (λw=>Fd w.1 w.2 (E7 b (ts++[t]) (is++[i]) (c++[j])))=((b t0 i0 f).flatMap λw=>Fd w.1 w.2 (E7 b ts is c)).flatMap (J7 (b t i j));rw[Awr b t i j ts is c (by simpa using h1) (by simpa using h2),flatMap_assoc];congr 1;funext w;rw[Awq];unfold Fd;rw[flatMap_map];congr 1;funext r;unfold J7;rw[map_map];congr 1;funext v;show (w.1::(r.1++[v.1]),w.2*(r.2*v.2))=(w.1::r.1++[v.1],w.2*r.2*v.2);rw[Nat.mul_assoc];rfl
 | [],_::_,_,h,_=>by simp at h
 | [],[],_::_,_,h=>by simp at h
 | _::_,[],_,h,_=>by simp at h
 | _::_,_::_,[],_,h=>by simp at h
theorem Aws (f:α->List β) {l:List α} {x:α} (h:l[j]? = some x):(l.take (j+1)).flatMap f=(l.take j).flatMap f++f x:=by rw[C4 h,flatMap_append];simp
theorem Yh {α β:Type} (f:α->List β) (n:Nat):∀l:List α,(∀a∈l,(f a).length<=n)->(l.flatMap f).length<=l.length*n
 | [],_=>ψ
 | a::l,h=>by have h1:=h a ψ;have h2:=Yh f n l λb hb=>h b (by simp[hb]);rw[flatMap_cons,Ek,D6,Nat.add_mul];omega
theorem Bal (l:List Ah) (h:l.length<=1048576):Xb l=some ([],l):=by unfold Xb P1;rw[D2 ζ];rfl
theorem Bam {c:Af->Ah->Ah->List (Ah×Nat)} (hg:Acg data k c) (X:∀t i j a b,Bv i<=k->Di data i t=some a->Di data j t=some b->a+b<=6->B3 t<=200->iR i->iR j->Ob K data t i j=some ((c t i j).map Ba)) (ts:List Af) (is f:List Ah) {N:Nat} (hk:Cb is<=k) (h1:Cx data is ts=some S) (h2:Cx data f ts=some N) (h6:S+N<=6) (ht:∀t∈ts,B3 t<=200) (hl:ts.length<=100000) (V:E6 is) (U:E6 f) : R7 (K+1) data ts is f=some ((E7 c ts is f).map toR):=by
 obtain⟨l1,g1⟩:=X4 data _ _ _ h1;obtain⟨l2,g2⟩:=X4 data _ _ _ h2;have s:∀j,(∀r∈E7 c (ts.take j) (is.take j) (f.take j),1<=r.2/\r.2<=729/\r.1.length<=100000)/\(E7 c (ts.take j) (is.take j) (f.take j)).length<=729:=λj=>by
  obtain⟨a,a1,a2⟩:=Ab3 data is ts S j h1;obtain⟨b,b1,b2⟩:=Ab3 data f ts N j h2;have hs:Cb (is.take j)<=Cb is:=(by have:=U5 (is.take j) (is.drop j);rw[take_append_drop]at this;omega);have q1:E6 (is.take j):=(by have:=Ald (is.take j) (is.drop j);rw[take_append_drop]at this;exact (this.1 V).1);have q2:E6 (f.take j):=(by have:=Ald (f.take j) (f.drop j);rw[take_append_drop]at this;exact (this.1 U).1);obtain⟨l,Y⟩:=Ahp hg (ts.take j) (is.take j) (f.take j) a b ω a1 b1 ω q1 q2;have D:=S5 (show a+b<=6 by omega);refine⟨λr y=>?_,?_⟩
  .have g:=l r y;have:=Pq y;obtain⟨d,d1,_⟩:=g.deg;have B:=(X4 data _ _ _ d1).1;rw[length_take]at B;exact⟨g.pos,ω,ω⟩
  .have:=Mv λp hp=>(l p hp).pos;omega
 rw[R7,L9,Ad];refine F6 ts (λj=>((E7 c (ts.take j) (is.take j) (f.take j)).map toR,(j:Int))) (by simp[E7,toR]) ω ?_ ?_
 .intro j t hj hx l Y e3;have hi:is[j]? = some (is[j]' ω):=Bs _;generalize is[j]'_=i at hi;have h:f[j]? = some (f[j]' ω):=Bs _;generalize f[j]'_=i' at h;obtain⟨a,a1,a2⟩:=g1 j i t hi hx;obtain⟨b,b1,b2⟩:=g2 j i' t h hx;have a7:=Kd (Bu hi);have L:=ht t (Bu hx);have x:=Alb V (Bu hi);have u:=Alb U (Bu h);obtain⟨w1,w2⟩:=hg t i i' a b ω a1 b1 ω x u;have D:=S5 (show a+b<=6 by omega);have I:(c t i i').length<=729:=(by have:=Mv λp hp=>(w1 p hp).pos;omega);have J:∀w∈c t i i',w.2<=729:=λw hw=>by have:=Pq hw;omega
  obtain⟨x1,x2⟩:=s j;have M:E7 c (ts.take (j+1)) (is.take (j+1)) (f.take (j+1))=(E7 c (ts.take j) (is.take j) (f.take j)).flatMap (J7 (c t i i')):=(by rw[C4 hx,C4 hi,C4 h,Awr _ _ _ _ _ _ _ ζ ζ]);rw[M];have A:=X t i i' a b ω a1 b1 ω L x u;generalize E7 c (ts.take j) (is.take j) (f.take j)=R at *;generalize c t i i'=W at *;simp only[l,Y,Am,Ad];refine F6 (R.map toR) (λn=>((n:Int),((R.take n).flatMap (J7 W)).map toR)) ψ (by rw[C1];omega) ?_ ?_
  .intro n r' hn y f1 f2 f3;rw[getElem?_map]at y;obtain⟨r,hq,rfl⟩:=Option.map_eq_some_iff.1 y;obtain⟨y1,Z,y3⟩:=x1 r (Bu hq);have a6:((R.take n).flatMap (J7 W)).length<=729*729:=(by refine Nat.le_trans (Yh _ 729 _ λq _=>by unfold J7;rw[C1];exact I) (Nat.mul_le_mul_right _ ?_);rw[length_take];omega);simp only[f1,f2,f3,Am,Ad,Br rfl hi,Br rfl h,A];refine F6 (W.map Ba) (λm=>((m:Int),((R.take n).flatMap (J7 W)).map toR++((J7 (W.take m) r).map toR))) (by simp[J7]) (by rw[C1];omega) ?_ ?_
   .intro m w' X hw E p2 p3;rw[getElem?_map]at hw;obtain⟨w,z,rfl⟩:=Option.map_eq_some_iff.1 hw;have G:=J w (Bu z);have a8:(J7 (W.take m) r).length<=729:=(by unfold J7;rw[C1,length_take];omega);have aa:(((R.take n).flatMap (J7 W)).map toR++(J7 (W.take m) r).map toR).length<=729*729+729:=(by rw[Ek,C1,C1];omega);simp only[E,p2,p3,Am,Ad];show (Xb r.1).bind _=_;rw[Bal _ ω,Ad,D2 ζ,Ad];show (Fa (cR r.2) (cR w.2)).bind _=_;rw[Awp Z G,Ad,D2 (by rw[length_singleton];omega),Ad];have:J7 (W.take (m+1)) r=J7 (W.take m) r++[(r.1++[w.1],r.2*w.2)]:=(by unfold J7;rw[C4 z,map_append];rfl);rw[this,map_append,append_assoc];rfl
   .intro E;refine⟨_,by simp only[E];rfl,?_⟩;rw[C1,Db,Aws _ hq,map_append]
  .intro f1;refine⟨_,by simp only[f1];rfl,?_⟩;rw[C1,Db,e3]
 .intro l;refine⟨_,by simp only[l];rfl,?_⟩;rw[Ii ω,Ii ω,Ii ω]
theorem Amz (a:α) (l:List α):F5 (a::l) 1 ((a::l).length:Int)=some l:=by unfold F5;rw[Av ⟨δ,by simp only[D6];omega,ω⟩];simp
theorem Ban (a:Ah) (l:List Ah) (h:l.length<=999999):Aap [[a],l]=some (a::l) := Ami (B:=32) δ (gr:=Afb) (λn h=>Ahg n h) [a] l ζ
theorem Am0 (e:Ah) {c:Nat} (hc:c<=729) (s:R.length<=729) (h:∀r∈R,r.2<=729/\r.1.length<=100000) (b:List Ig) (l:b.length<=1000000) : R9 e (cR c) (R.map toR) b=some (b++(Fd e c R).map toR):=by
 unfold R9;refine F6 (R.map toR) (λn=>((n:Int),b++(Fd e c (R.take n)).map toR)) (by simp[Fd]) (by rw[C1];omega) ?_ ?_
 .intro n k q f f1 f2 f3;rw[getElem?_map]at f;obtain⟨r,hq,rfl⟩:=Option.map_eq_some_iff.1 f;obtain⟨g,j⟩:=h r (Bu hq);have i:(b++(Fd e c (R.take n)).map toR).length<=1000729:=(by rw[Ek,C1];unfold Fd;rw[C1,length_take];omega);simp only[f1,f2,f3,Am,Ad];show (Aap [[e],r.1]).bind _=_;rw[Ban _ _ ω,Ad];show (Fa (cR c) (cR r.2)).bind _=_;rw[Awp hc g,Ad,D2 (by rw[length_singleton];omega),Ad];have:Fd e c (R.take (n+1))=Fd e c (R.take n)++[(e::r.1,c*r.2)]:=(by unfold Fd;rw[C4 hq,map_append];rfl);rw[this,map_append,append_assoc];rfl
 .intro f1;refine⟨_,by simp only[f1];rfl,?_⟩;rw[C1,Db]
theorem Bao (f:Szv data) (i:Ml data) (t:Af) (ht:B3 t<=200) (c:Int) {ts:List Af} (h:Gx data t c=some ts):Aaq data t c=some ts:=by
 unfold Aaq;unfold Gx at h;rw[Abc f t ht c,Ad];cases hf:Jh data t c with
 | none=>rw[hf]at h;cases h
 | some l=>
  rw[hf]at h;have h:F7 l (D7 data t.U c)=ts:=Fp h;subst h;have k:=Xn hf;obtain⟨x,y,_,hx,_,hy,s,_⟩:=Ph hf;obtain⟨g,_⟩:=f x (Hc hx).2.2.2 y (Hc hy).2.2.2;have q:l.length<=6:=(by rw[s];simpa using g);simp only[okL,Xm data t.U c i,Ad];refine F6 (D7 data t.U c) (λj=>((j:Int),F7 (l.take j) ((D7 data t.U c).take j))) (by simp[F7]) ω ?_ ?_
  .intro j b hj hb h1 h2 h3;have ha:l[j]? = some l[j]:=Bs ω;generalize l[j]=a at ha;have u:=Xo (l.take j) ((D7 data t.U c).take j);have:(l.take j).length<=6:=ζ;simp only[h1,h2,h3,Am,Ad,Br rfl ha,Af2 ha hb];rw[D2 ζ];cases b <;> simp
  .intro h1;refine⟨_,by simp only[h1];rfl,?_⟩;rw[Ii ω,Ii (Nat.le_refl _)]
def Am1 (data:List Ai) (k K:Nat):Prop:=∀(ts:List Af) (is b:List Ah) (f c:Nat),Cb is<=k->Cx data is ts=some f->Cx data b ts=some c->f+c<=6->(∀t∈ts,B3 t<=200)->ts.length<=100000->E6 is->E6 b->R7 K data ts is b=some ((E7 (D4 data k) ts is b).map toR)
theorem Bap (hz:Szv data) (hs:Ml data) (ht:B3 t<=200) {K0:Nat} (hR:∀K,K0<=K->Am1 data k K):∀(n:Nat) (l m:List Ah) (K u s:Nat),l.length+m.length<=n->K0+n+1<=K->Cb l<=k+1->(∀e∈l,Cb e.K<=k)->Fw data l t=some u->Fw data m t=some s->u+s<=6->E6 l->E6 m -> Pa K data t l m=some ((Kg (J6 data t (E7 (D4 data k))) l m).map toR):=by
 intro n;induction n with
 | zero=>intro l m K u s Y hK _ _ _ _ _ _ _;have e1:l = []:=Gn.1 ω;obtain⟨K,rfl⟩:∃K',K=K' + 1:=⟨K-1,ω⟩;subst e1;rw[Pa,Acb,L9];rfl
 | succ n ih=>
  intro l m K u s Y hK G hk h1 h2 h6 N L;obtain⟨K,rfl⟩:∃K',K=K' + 1:=⟨K-1,ω⟩;rw[Pa];cases l with
  | nil=>rw[Acb,L9];rfl
  | cons a l=>
   rw[C3 ζ,Aq];cases m with
   | nil=>rw[Ahm,L9];rfl
   | cons b m=>
    rw[C3 ζ,Aq];obtain⟨ts,E,dl,a1,a2,a3,rfl⟩:=Ahq h1;obtain⟨i,D,B,b1,b2,J,rfl⟩:=Ahq h2;have h:=N;have g:=L;simp only[E6]at h g;have za:Cb (a::l)=Bv a+Cb l:=(by simp only[Cb]);have j:∀e∈l,Cb e.K<=k:=λe he=>hk e (by simp[he]);have n1:=U3 data _ _ _ h1;have n2:=U3 data _ _ _ h2;simp only[D6]at Y n1 n2;have f:∀(l m:List Ah) (u s:Nat),Cb l<=k+1->(∀e∈l,Cb e.K<=k)->Fw data l t=some u->Fw data m t=some s->u+s<=6->E6 l->E6 m->(∀r∈Kg (J6 data t (E7 (D4 data k))) l m,r.2<=729/\r.1.length<=100000)/\(Kg (J6 data t (E7 (D4 data k))) l m).length<=729:=λl m u s q1 q2 q3 q4 q5 q6 q7=>by
     obtain⟨I,x2⟩:=Awo (Q2 data k) t l m u s q1 q2 q3 q4 q5 q6 q7;have:=S5 q5;refine⟨λr A=>⟨by have:=Pq A;omega,?_⟩,?_⟩
     .obtain⟨d,d1,d2⟩:=(I r A).deg;have:=U3 data _ _ _ d1;omega
     .have:=Mv λp hp=>(I p hp).pos;omega
    have s1:F5 (a::l) 1 ((a::l).length:Int)=some l:=Amz a l;have s2:F5 (b::m) 1 ((b::m).length:Int)=some m:=Amz b m;have i1:Ag (a::l) 0=some a:=rfl;have i2:Ag (b::m) 0=some b:=rfl;obtain⟨I,x2⟩:=f l (b::m) dl (1+D+B) ω j a3 h2 ω h.2 L;obtain⟨y1,y2⟩:=f (a::l) m (1+E+dl) B G hk h1 J ω N g.2;obtain⟨z1,z2⟩:=f l m dl B ω j a3 J ω h.2 g.2;have L1:∀(e:Ah) (c:Nat) (R:List (List Ah×Nat)),((Fd e c R).map toR).length=R.length:=λe c R=>by unfold Fd;simp
    have c1:Ed 1=some (cR 1):=L9;rw[i1,Ad,c1,Ad,s1,Ad,ih l (b::m) K dl (1+D+B) ζ ω ω j a3 h2 ω h.2 L,Ad,Am0 a δ x2 I [] ψ,Ad,i2,Ad,Ad,s2,Ad, ih (a::l) m K (1+E+dl) B ζ ω G hk h1 J ω N g.2,Ad,Am0 b δ y2 y1 _ (by rw[nil_append,L1];omega),Ad,Ad,Ad];rw[Acd];by_cases e:a.U=b.U
    .have U:i=ts:=(by rw[<-e,a1]at b1;exact (Fp b1).symm);subst U;have V:J5 data t a.U=i:=(by unfold J5;rw[a1]);obtain⟨p1,p2⟩:=Af4 a1;have pl:i.length<=100000:=(by unfold Gx at a1;cases hf:Jh data t a.U with| none=>rw[hf]at a1;cases a1| some l=>rw[hf]at a1;have a1:F7 l (D7 data t.U a.U)=i:=Fp a1;obtain⟨x,y,_,hx,_,hy,hl,_⟩:=Ph hf;obtain⟨y6,_⟩:=hz x (Hc hx).2.2.2 y (Hc hy).2.2.2;have a8:l.length<=6:=(by rw[hl];simpa using y6);have:=Xo l (D7 data t.U a.U);rw[a1]at this;omega);have ha:=h.1;have hb:=g.1;rw[Og]at ha hb;have z:=hR K ω i a.K b.K E D (hk a ψ) a2 b2 ω p1 pl ha.2 hb.2;obtain⟨w1,w2⟩:=Ahp (Q2 data k) i a.K b.K E D (hk a ψ) a2 b2 ω ha.2 hb.2;have a6:=S5 (show E+D<=6 by omega);have a7:(E7 (D4 data k) i a.K b.K).length<=729:=(by have:=Mv λp hp=>(w1 p hp).pos;omega);have S:∀r∈E7 (D4 data k) i a.K b.K,r.2<=729:=λr A=>by have:=Pq A;omega
     rw[Eu e,Am,Ad,Ad,ih l m K dl B ω ω ω j a3 J ω h.2 g.2,Ad,Ad,Bao hz hs t ht _ a1,Ad,Ad,Ad,z,Ad];have Z:J6 data t (E7 (D4 data k)) a b=(E7 (D4 data k) i a.K b.K).map λr=>(⟨a.U,r.1⟩,r.2):=(by unfold J6;rw[Av e,V]);rw[Z];generalize E7 (D4 data k) i a.K b.K=W at *;generalize Kg (J6 data t (E7 (D4 data k))) l m=M at *;have hO:∀n,(flatMap (λw:Ah×Nat=>Fd w.1 w.2 M) ((W.take n).map λr=>(⟨a.U,r.1⟩,r.2))).length<=729*729:=λn=>by refine Nat.le_trans (Yh _ 729 _ λq _=>by unfold Fd;rw[C1];exact z2) (Nat.mul_le_mul_right _ ?_);rw[C1,length_take];omega
     refine F6 (W.map toR) (λn=>((n:Int),[]++(Fd a 1 (Kg (J6 data t (E7 (D4 data k))) l (b::m))).map toR++(Fd b 1 (Kg (J6 data t (E7 (D4 data k))) (a::l) m)).map toR++(flatMap (λw:Ah×Nat=>Fd w.1 w.2 M) ((W.take n).map λr=>(⟨a.U,r.1⟩,r.2))).map toR)) ψ (by rw[C1];omega) ?_ ?_
     .intro n r' Y A f1 f2 f3;rw[getElem?_map]at A;obtain⟨r,hq,rfl⟩:=Option.map_eq_some_iff.1 A;have X:=S r (Bu hq);have aa:=hO n;simp only[f1,f2,f3,Am,Ad,i1];show (R9 ⟨a.U,r.1⟩ (cR r.2) _ _).bind _=_;rw[Am0 _ X z2 z1 _ (by rw[Ek,Ek,Ek,L1,L1,C1,length_nil];omega),Ad];rw[C4 hq,map_append,flatMap_append,map_append,append_assoc];simp
     .intro f1;refine⟨_,by simp only[f1];rfl,?_⟩;rw[C1,Db,map_append,map_append];simp
    .rw[C3 e,Aq];have Z:J6 data t (E7 (D4 data k)) a b = []:=(by unfold J6;rw[Ar e]);rw[Z,map_append,map_append];simp
theorem Baq (h:∀t i j a b,Bv i<=k->Di data i t=some a->Di data j t=some b->a+b<=6->B3 t<=200->iR i->iR j->Ob K data t i j=some ((D4 data k t i j).map Ba)):Am1 data k (K+1) := λts is g _ _ hk h1 h2 q ht l f c=>Bam (Q2 data k) h ts is g hk h1 h2 q ht l f c
theorem Awt (i:R.length<=100000) {Q:Type} {step:Int×List Ap->Option ((Int×List Ap)⊕List Ap)} {J:List Ap->Option Q} {q:Q} (b:∀(v:Int) (o:List Ap),step (v,o)=bif v<((R.map toR).length:Int) then ((Ag (R.map toR) v).bind λr=>(Cd 88 o [Ap.mk (Ah.mk 0 r.list) r.coef]).bind λo=>some (.inl ((Ac (v+1)),o))) else some (.inr o)) (f:J ((R.map λr=>((⟨0,r.1⟩:Ah),r.2)).map Ba)=some q):(Ak step (0,[])).bind J=some q:=by
 refine F6 (R.map toR) (λn=>((n:Int),((R.take n).map λr=>((⟨0,r.1⟩:Ah),r.2)).map Ba)) ψ (by rw[C1];omega) ?_ ?_
 .intro n g h c f1 f2 f3;rw[getElem?_map]at c;obtain⟨r,hq,rfl⟩:=Option.map_eq_some_iff.1 c;rw[b,f1,Am,f2,Ad,D2 (by rw[C1,C1,length_take,length_singleton];omega),Ad,f3,C4 hq,map_append,map_append];rfl
 .intro f1;refine⟨_,by rw[b,f1,Aq],?_⟩;rw[C1,Db];exact f
theorem Bar {b:Nat} (h:a+b<=12) {Q:Type} {step:Int×List Ap->Option ((Int×List Ap)⊕List Ap)} {J:List Ap->Option Q} {q:Q} (c:∀(v:Int) (o:List Ap),step (v,o)=bif v<((Ls (a+b+1) (Rc a b)).length:Int) then ((Ag (Ls (a+b+1) (Rc a b)) v).bind λx=>(Ir x).bind λs=>bif (s != (0:Int)) then ((Cd 88 o [Ap.mk (Ah.mk v []) x]).bind λo=>some (.inl ((Ac (v+1)),o))) else some (.inl ((Ac (v+1)),o))) else some (.inr o)) (l:J ((Yg a b).map Ba)=some q):(Ak step (0,[])).bind J=some q:=by
 have f:∀n,(((range (n+1)).filter λk=>Rc a b k != 0).map λ(k:Nat)=>((⟨(k:Int),[]⟩:Ah),Rc a b k)).map Ba=(((range n).filter λk=>Rc a b k != 0).map λ(k:Nat)=>((⟨(k:Int),[]⟩:Ah),Rc a b k)).map Ba++(if Rc a b n=0 then [] else [⟨⟨(n:Int),[]⟩,cR (Rc a b n)⟩]):=λn=>by
  rw[range_succ,filter_append,map_append,map_append];by_cases h:Rc a b n=0
  .simp[h]
  .simp[h,Ba]
 refine F6 (Ls (a+b+1) (Rc a b)) (λn=>((n:Int),(((range n).filter λk=>Rc a b k != 0).map λ(k:Nat)=>((⟨(k:Int),[]⟩:Ah),Rc a b k)).map Ba)) ψ (by rw[Ms];omega) ?_ ?_
 .intro n x g hx f1 f2 f3;rw[Ms]at g;rw[Mt _ g]at hx;have hx:cR (Rc a b n)=x:=Fp hx;subst hx;have j:Rc a b n<=3 ^ 12:=(by have h1:=Acf a b (n+1);have h2:Rc a b n<=sm (n+1) (Rc a b):=(by rw[sm];omega);exact Nat.le_trans h2 (Nat.le_trans h1 (Nat.pow_le_pow_right δ h)));have i:((((range n).filter λk=>Rc a b k != 0).map λ(k:Nat)=>((⟨(k:Int),[]⟩:Ah),Rc a b k)).map Ba).length<=13:=(by rw[C1,C1];refine Nat.le_trans (length_filter_le _ _) ?_;rw[length_range];omega);rw[c,f1,Am,f2,Ad,(Np.cR (a:=Rc a b n) (Kz ω)).sign,Ad,f n];by_cases h:Rc a b n=0
  .rw[Av h,Av h,append_nil,f3];rfl
  .rw[Ar h,Ar h,show ((1:Int) != 0)=true from rfl,Am,D2 (by rw[length_singleton];omega),Ad,f3]
 .intro f1;refine⟨_,by rw[c,f1,Aq],?_⟩;rw[Ms];exact l
theorem Bas (N:Szv data) (U:Ml data):∀(k:Nat) (t:Af) (i j:Ah) (K q l:Nat),Bv i<=k->10*k<=K->Di data i t=some q->Di data j t=some l->q+l<=6->B3 t<=200->iR i->iR j -> Ob K data t i j=some ((D4 data k t i j).map Ba):=by
 intro k;induction k with
 | zero=>intro t i j K q l h;have:=El i;omega
 | succ k ih=>
  intro t i j K q l z Y hi hj y ht E D;obtain⟨K,rfl⟩:∃B,K=B+1:=⟨K-1,ω⟩;have M:=El i;have g:=E;have f:=D;rw[Og]at g f;have J:∀K,10*k+1<=K->Am1 data k K:=λK Y=>by obtain⟨K,rfl⟩:∃B,K=B+1:=⟨K-1,ω⟩;exact Baq λt i j a b h1 h2 h3 h4 h5 y Z=>ih t i j K a b h1 ω h2 h3 h4 h5 y Z
  have A:=Q2 data (k+1) t i j q l z hi hj y E D;have L:=S5 y;have c:(D4 data (k+1) t i j).length<=729:=(by have:=Mv λp hp=>(A.1 p hp).pos;omega);rw[Ob];rw[D4]at c ⊢;have R:=J0 t;by_cases u:t.G=6
  .rw[Av u]at c ⊢;rw[Eu u,Am];have hi:=Yd u hi;have hj:=Yd u hj;have S:=Lr t.R;rw[J K ω t.R i.K j.K q l ω hi hj y (λa ha=>by have:=Kc ha;omega) ω g.2 f.2,Ad];rw[C1]at c;exact Awt ω (λv o=>rfl) rfl
  .rw[Ar u]at c ⊢;rw[C3 u,Aq];by_cases s:t.G=7
   .rw[Av s];rw[Eu s,Am];obtain⟨e,_⟩:=Ab9 s hi;obtain⟨e',_⟩:=Ab9 s hj;have I:(i.U.toNat:Int)=i.U:=ω;have G:(j.U.toNat:Int)=j.U:=ω;have X:Aaj i.U j.U=some (Ls (i.U.toNat+j.U.toNat+1) (Rc i.U.toNat j.U.toNat),true):=(by unfold Aaj;rw[A5 ω,A5 ω,A5 ω,A5 ω];simp only[Aq,Ad];have:=Av4 i.U.toNat j.U.toNat ω ω;rw[I,G]at this;rw[this,Ad]);rw[X,Ad];exact Bar ω (λv o=>rfl) rfl
   .rw[Ar s]at c ⊢;rw[C3 s,Aq];by_cases x:t.G=5
    .rw[Av x]at c ⊢;rw[Eu x,Am];have hi:=Ye x hi;have hj:=Ye x hj;have I:=U3 data _ _ _ hi;have G:=U3 data _ _ _ hj;rw[Bap N U ht J (i.K.length+j.K.length) i.K j.K K q l (Nat.le_refl _) ω ω (λe V=>by have:=Kd V;have:=El e;omega) hi hj y g.2 f.2,Ad];rw[C1]at c;exact Awt ω (λv o=>rfl) rfl
    .rw[Ar x];rw[C3 x,Aq,L9,Ad,D2 ψ,Ad];rfl
theorem Awu:∀k,Xg k=O8 k
 | 0=>by funext i b;rfl
 | k+1=>by have ih:=Awu k;funext i b;rw[Xg,O8,ih]
theorem Bat (i:Ah) (hi:Bv i<=1048576) (b:iR i):Aai i []=some (wx i):=by have h:=As9 4000001 i [] ω b ζ;rw[nil_append]at h;rw[<-h,show (4000001:Nat)=4000000+1 from rfl,O8,<-Awu];rfl
theorem By.wx (i:Ah):By (Go.Ab.wx i):=Alf i
def Ku (i:Ah):ByteArray:=bs (wx i)
theorem Awv {j:Ah} (h:Ku i=Ku j):i=j:=by have h1:=Al4 (By.wx i) (By.wx j) h;have h2:=Aga i j [] [] Af9 Af9 (by rw[append_nil,append_nil];exact h1);exact h2.1
theorem Bau (i:Ah):wx i≠[]:=by rw[Af8];intro h;exact Af7 _ (append_eq_nil_iff.1 h).1
theorem Bav (i:Ah):Nat.beq (Ku i).size 0=false:=by unfold Ku;rw[X2];have:=Bau i;cases h:wx i with| nil=>exact (this h).elim| cons a l=>rfl
def pls (ts:List (Ah×Nat)):List (ByteArray×Int):=ts.zipIdx.map λq=>(Ku q.1.1,(q.2:Int))
def Dw (ts:List (Ah×Nat)):Prop:=ts.Pairwise λt u=>t.1≠u.1
theorem Baw (ts:List (Ah×Nat)) (t:Ah×Nat):pls (ts++[t])=pls ts++[(Ku t.1,(ts.length:Int))]:=by unfold pls;rw[zipIdx_append];simp
theorem Ach (ts:List (Ah×Nat)) (j:Nat):(pls ts)[j]? = (ts[j]?).map λt=>(Ku t.1,(j:Int)):=by unfold pls;rw[getElem?_map,getElem?_zipIdx];cases ts[j]? <;> simp
theorem Bax {t:Ah×Nat} (h:ts[j]? = some t) (b:u.1=t.1):pls (ts.set j u)=pls ts:=by
 refine ext_getElem? λn=>?_;rw[Ach,Ach,getElem?_set];by_cases e:j=n
 .subst e;rw[Av rfl,h];have:=Eg h;rw[Av this];simp[b]
 .rw[Ar e]
theorem Bay {m:Ah} (h:∀t∈ts,t.1≠m):E9 (pls ts) (Ku m)=false:=by cases e:E9 (pls ts) (Ku m) with| false=>rfl| true=>unfold E9 at e;obtain⟨p,hp,e⟩:=any_eq_true.1 e;obtain⟨j,hj⟩:=Hi hp;rw[Ach]at hj;obtain⟨t,ht,rfl⟩:=Option.map_eq_some_iff.1 hj;exact (h t (Bu ht) (Awv ((Nl _ _).1 e)).symm).elim
theorem Baz (hd:Dw ts) {t:Ah×Nat} (h:ts[j]? = some t):E9 (pls ts) (Ku t.1)=true/\Ib (pls ts) (Ku t.1) 0=(j:Int):=by
 have hj:=Ach ts j;rw[h]at hj;have c:(Ku t.1,(j:Int))∈pls ts:=Bu hj;refine⟨?_,?_⟩
 .unfold E9;exact any_eq_true.2 ⟨_,c,(Nl _ _).2 rfl⟩
 .unfold Ib;cases hf:(pls ts).find? λp=>Ku t.1==p.1 with
  | none=>rw[find?_eq_none]at hf;exact (hf _ c ((Nl _ _).2 rfl)).elim
  | some p=>
   have h1:=find?_some hf;have h1:Ku t.1=p.1:=(Nl _ _).1 h1;obtain⟨n,b⟩:=Hi (mem_of_find?_eq_some hf);rw[Ach]at b;obtain⟨u,hu,rfl⟩:=Option.map_eq_some_iff.1 b;have h1:=Awv h1;show (n:Int)=j;rcases Nat.lt_trichotomy n j with k|k|k
   .exact (pairwise_iff_getElem.1 hd n j (Eg hu) (Eg h) k (by
     rw[Bs (Eg hu)]at hu
     rw[Bs (Eg h)]at h
     rw[Fp hu,Fp h];exact h1.symm)).elim
   .rw[k]
   .exact (pairwise_iff_getElem.1 hd j n (Eg h) (Eg hu) k (by
     rw[Bs (Eg hu)]at hu
     rw[Bs (Eg h)]at h
     rw[Fp hu,Fp h];exact h1)).elim
theorem Aww {α:Type} (f:α->Nat):∀{ts:List (α×Nat)} {j:Nat} {t:α×Nat} (c:Nat),ts[j]? = some t->pv f (ts.set j (t.1,t.2+c))=pv f ts+c*f t.1
 | t' :: ts,0,t,c,h=>by have h:t'=t:=(by simpa using h);subst h;simp only[set_cons_zero,pv,Nat.add_mul];omega
 | t' :: ts,j+1,t,c,h=>by have ih:=Aww f (ts:=ts) (j:=j) (t:=t) c (by simpa using h);simp only[set_cons_succ,pv,ih];omega
 | [],_,_,_,h=>by simp at h
structure Cw (P:Ah->Prop) (ts:List (Ah×Nat)):Prop where
 dst:Dw ts
 mo:∀t∈ts,P t.1
 pos:∀t∈ts,1<=t.2
theorem Cw.nil (P:Ah->Prop):Cw P []:=⟨Pairwise.nil,λ_ h=>(by cases h),λ_ h=>(by cases h)⟩
theorem Dw.set (h:Dw ts) {t:Ah×Nat} (ht:ts[j]? = some t) (b:u.1=t.1):Dw (ts.set j u):=by
 have e:∀l:List (Ah×Nat),Dw l↔(l.map (·.1)).Pairwise (·≠·):=λl=>by unfold Dw;rw[pairwise_map]
 rw[e]at h ⊢;have:(ts.set j u).map (·.1)=ts.map (·.1):=by
  refine ext_getElem? λn=>?_;rw[getElem?_map,getElem?_map,getElem?_set];by_cases k:j=n
  .subst k;rw[Av rfl,Av (Eg ht),ht];simp[b]
  .rw[Ar k]
 rw[this];exact h
theorem Awx (Y:∀i,P i->Bv i<=1048576/\iR i) (l ts:List (Ah×Nat)) (G:Cw P ts) (X:∀t∈l,P t.1/\1<=t.2) (hN:pv (λ_=>1) ts+pv (λ_=>1) l<Fc) (Z:ts.length+l.length<=1000000000) (data:List Ai) (a b:Int) (c:List Af) : ∃k,R5 (l.map Ba) (pls ts) (ts.map Ba) data a b c=some (pls k,k.map Ba)/\Cw P k/\k.length<=ts.length+l.length/\∀f:Ah->Nat,pv f k=pv f ts+pv f l:=by
 unfold R5;refine Aa0 (A:=List (Ah×Nat)) (λk=>(pls k,k.map Ba)) ?_;refine Et (λs=>∃(j:Nat) (u:List (Ah×Nat)),s=((j:Int),pls u,u.map Ba)/\j<=l.length/\Cw P u/\u.length<=ts.length+j/\∀f:Ah->Nat,pv f u=pv f ts+pv f (l.take j)) (λs=>l.length-s.1.toNat) (λz=>∃u,z=(pls u,u.map Ba)/\Cw P u/\u.length<=ts.length+l.length/\∀f:Ah->Nat,pv f u=pv f ts+pv f l) ⟨0,ts,rfl,ω,G,ω,λf=>by simp only[take_zero,pv];omega⟩ ?_ ?_
 .rintro _ ⟨j,u,rfl,hj,hu,E,hv⟩;rcases Cj j l.length with h|h
  .have hx:l[j]? = some l[j]:=Bs h;generalize l[j]=x at hx;obtain⟨M,hp⟩:=X x (Bu hx);obtain⟨S,R⟩:=Y _ M;have D:(l.map Ba)[j]? = some (Ba x):=(by rw[getElem?_map,hx];rfl);have I:pv (λ_=>1) (l.take (j+1))<=pv (λ_=>1) l:=(by have:=Kf (λ_=>1) (l.take (j+1)) (l.drop (j+1));rw[take_append_drop]at this;omega);have q:∀f:Ah->Nat,pv f (l.take (j+1))=pv f (l.take j)+x.2*f x.1:=λf=>by rw[C4 hx,Kf];simp only[pv];omega
   have V:=q (λ_=>1);have U:=hv (λ_=>1);have y:((l.map Ba).length:Int)=(l.length:Int):=(by rw[C1]);have hw:Aai (Ba x).I []=some (wx x.1):=Bat x.1 S R;simp only[y,As (ω:(j:Int)<(l.length:Int)),Am,Br rfl D,Ad,hw,C5 h ω,Po (By.wx x.1)];have hb:bs (wx x.1)=Ku x.1:=rfl;rw[hb];left;by_cases hex:∃t∈u,t.1=x.1
   .obtain⟨t,ht,N⟩:=hex;obtain⟨i,hi⟩:=Hi ht;obtain⟨g1,g2⟩:=Baz hu.dst hi;rw[N]at g1 g2;have J:(u.map Ba)[i]? = some (Ba t):=(by rw[getElem?_map,hi];rfl);have tb:=Pq ht;have B:Jd (Ba t).C (Ba x).C=some (cR (t.2+x.2)):=Np.add (Np.c ω) (Np.c ω);refine⟨((j+1:Nat),pls (u.set i (t.1,t.2+x.2)),(u.set i (t.1,t.2+x.2)).map Ba),?_,⟨j+1,u.set i (t.1,t.2+x.2),rfl,ω,⟨hu.dst.set hi rfl,?_,?_⟩,by rw[length_set];omega,λf=>?_⟩,ζ⟩
    .simp only[g1,g2,Am,Ad,Br rfl J,B,H5 rfl,Bax (u:=(t.1,t.2+x.2)) hi rfl];rw[map_set];rfl
    .intro w hw;rcases mem_or_eq_of_mem_set hw with hw|rfl
     .exact hu.mo w hw
     .exact hu.mo t ht
    .intro w hw;rcases mem_or_eq_of_mem_set hw with hw|rfl
     .exact hu.pos w hw
     .show 1<=t.2+x.2;omega
    .rw[Aww f x.2 hi,hv f,q f,N];omega
   .have g:=Bay (m:=x.1) (ts:=u) λt ht e=>hex ⟨t,ht,e⟩;have L:Xh (Ku x.1)=some (Ku x.1):=(by unfold Xh;rw[Bav,Aq]);refine⟨((j+1:Nat),pls (u++[x]),(u++[x]).map Ba),?_,⟨j+1,u++[x],rfl,ω,⟨?_,?_,?_⟩,ζ,λf=>?_⟩,ζ⟩
    .simp only[g,Aq,Ad,L];rw[D2 (by rw[C1,length_singleton];omega),Ad,Amc _ _ _ g,Baw,map_append,C1];rfl
    .refine pairwise_append.2 ⟨hu.dst,pairwise_singleton _ _,λa ha b hb=>?_⟩;simp only[Ea]at hb;subst hb;exact λe=>hex ⟨a,ha,e⟩
    .intro w hw;rcases Ej.1 hw with hw|hw
     .exact hu.mo w hw
     .simp only[Ea]at hw;subst hw;exact M
    .intro w hw;rcases Ej.1 hw with hw|hw
     .exact hu.pos w hw
     .simp only[Ea]at hw;subst hw;exact hp
    .rw[Kf,hv f,q f];simp only[pv];omega
  .have:j=l.length:=ω;subst this;rw[Db]at hv;have y:((l.map Ba).length:Int)=(l.length:Int):=(by rw[C1]);simp only[y,A5 (ω:¬(l.length:Int)<(l.length:Int)),Aq];exact .inr ⟨_,rfl,u,rfl,hu,E,hv⟩
 .rintro _ ⟨u,rfl,h1,h2,h3⟩;exact⟨_,rfl,u,rfl,h1,h2,h3⟩
theorem Ba0 {B:Nat} (f:B<=1024) {gr:Int->Option (List α)} (hg:∀n:Nat,n<=1000000->gr (n:Int)=some []) (ls:List (List α)) (g:ls.length<=1000) (h:ls.flatten.length<=1000000):Ag9 B gr ls=some ls.flatten:=by
 have b:∀{j x},ls[j]? = some x->(ls.take (j+1)).flatten=(ls.take j).flatten++x:=λ{j x} hx=>by rw[C4 hx,flatten_append];simp
 have c:∀j,(ls.take j).flatten.length<=1000000:=λj=>by have:ls.flatten=(ls.take j).flatten++(ls.drop j).flatten:=(by rw[<-flatten_append,take_append_drop]);rw[this,Ek]at h;omega
 unfold Ag9;refine F6 ls (λj=>(((ls.take j).flatten.length:Int),(j:Int))) rfl ω ?_ ?_
 .intro j x hj hx h1 h2 h3;have a1:=c (j+1);rw[b hx,Ek]at a1;have w:Ac (((ls.take j).flatten.length:Int)+(x.length:Int))=(((ls.take (j+1)).flatten.length:Nat):Int):=(by rw[b hx,Ek,Ac,Cl] <;> omega);simp only[h1,h2,h3,Am,Ad,w,A5 (ω:¬(((ls.take (j+1)).flatten.length:Nat):Int)<0),Aq]
 .intro h1;refine⟨(((ls.take ls.length).flatten.length:Nat):Int),by simp only[h1];rfl,?_⟩;rw[Db,hg _ h,Ad];refine F6 ls (λj=>((j:Int),(ls.take j).flatten)) rfl ω ?_ ?_
  .intro j x hj hx h1 h2 h3;have a1:=c (j+1);rw[b hx,Ek]at a1;have:((ls.take j).flatten.length+x.length)*B<=1000000*1024:=Nat.mul_le_mul a1 f;simp only[h1,h2,h3,Am,Ad];rw[D2 ω,Ad,b hx]
  .intro h1;exact⟨ls.flatten,by simp only[h1,Db];rfl,rfl⟩
theorem Ba1 (ls:List (List Ap)) (b:ls.length<=1000) (h:ls.flatten.length<=1000000):Ae8 ls=some ls.flatten := Ba0 (B:=88) δ (gr:=Afa) (λn h=>Ahg n h) ls b h
theorem Awy:∀k,L2 k=Qg k
 | 0=>by funext i;rfl
 | k+1=>by have ih:=Awy k;funext i;rw[L2,Qg,ih]
theorem Am2 {a b:Ah}:G8 a b=0↔a=b:=Agy.zero a b trivial trivial
theorem Aci (a b:Ah):G8 b a = - G8 a b:=Agy.anti a b trivial trivial
theorem Awz {a b c:Ah} (h:G8 a b<0) (h':G8 b c<0):G8 a c<0:=Agy.trans a b c trivial trivial trivial h h'
theorem Am3:Py (λt u:Ap=>G8 t.I u.I) where
 irr x:=by
  show ¬G8 x.I x.I<0
  rw[Am2.2 rfl];omega
 trs x y z h1 h2:=Awz h1 h2
 ntr x y z h1 h2:=by
  show ¬G8 x.I z.I<0
  have h1:¬G8 x.I y.I<0:=h1
  have h2:¬G8 y.I z.I<0:=h2
  intro h3
  rcases Int.lt_trichotomy (G8 x.I y.I) 0 with k|k|k
  .exact h1 k
  .rw[Am2.1 k]at h3;exact h2 h3
  .exact h2 (Awz (show G8 y.I x.I<0 by rw[Aci x.I y.I];omega) h3)
theorem Aw0 (a b:Ap) (h:Bv a.I<=1048576):Pb a b=some (G8 a.I b.I):=by unfold Pb;rw[Atf 1048576 4000000 a.I b.I h ω ω];rfl
def Am4 (b:List Ap):List Ap:=b.mergeSort λt u=>decide (G8 t.I u.I<=0)
theorem Ba2 (f:List Ap) (hd:f.Pairwise λt u=>t.I≠u.I):(Am4 f).Pairwise λt u=>G8 t.I u.I<0:=by
 have h1:=pairwise_mergeSort (le:=λt u:Ap=>decide (G8 t.I u.I<=0)) (λa b c h1 h2=>by
  simp only[Du]at *
  have:=Am3.ntr c b a (by show ¬G8 _ _<0;rw[Aci];omega) (by show ¬G8 _ _<0;rw[Aci];omega)
  have this:¬G8 c.I a.I<0:=this
  rw[Aci]at this;omega) (λa b=>by
  simp only[Bool.or_eq_true,Du]
  rw[Aci a.I b.I];omega) f
 have h2:(Am4 f).Pairwise λt u=>t.I≠u.I:=((mergeSort_perm f _).pairwise_iff (λ{x y} h=>h.symm)).2 hd
 refine (h1.and h2).imp λ{t u} h=>?_
 have a:=of_decide_eq_true h.1
 have b:G8 t.I u.I≠0:=λe=>h.2 (Am2.1 e)
 omega
theorem Ba3 (b:List Ap) (hd:b.Pairwise λt u=>t.I≠u.I) (c:∀t∈b,Bv t.I<=1048576):∃R,Lk b=some R/\R.Perm b:=by
 rcases Cj 12 b.length with h|h
 .have e:Nat.ble b.length 12=false:=(by cases k:Nat.ble b.length 12 with| false=>rfl| true=>have:=Nat.le_of_ble_eq_true k;omega);unfold Lk;rw[e,Aq];obtain⟨r,f,g,law,hc,hp,_⟩:=Ap8 (cmp:=Pb) (l:=b) (r:=Am4 b) ⟨_,Am3,λx hx y _=>Aw0 x y (c x hx),mergeSort_perm b _,Ba2 b hd⟩;exact⟨r,f,hp⟩
 .obtain⟨R,h1,h2,_⟩:=Avl (cmp:=Pb) Am3 b (λx hx y _=>Aw0 x y (c x hx)) ω;obtain⟨v,hv⟩:=Avb (n:=b.length) ω;refine⟨R,?_,h2⟩
  .unfold Lk;rw[Nat.ble_eq_true_of_le h,Am];unfold Akp;rw[hv,Ad];have hp:Aar 0 (b.length:Int) v b=some R:=(by unfold Aar;have e:Afc 0 (b.length:Int) b=Aby Pb 0 (b.length:Int) b:=rfl;have w:Ac ((b.length:Int)-0)=(b.length:Int):=ξ;refine bnd (a:=R) (Gf ?_) rfl;rw[w,As ω,Am,e,h1,Ad,Ns h2.length_eq.symm];rfl);rw[hp,Ad,Ns h2.length_eq.symm];rfl
def dgi (data:List Ai) (t:Af) (p:Ah×Nat):Nat:=match Di data p.1 t with|some d=>d|none=>0
def bk (data:List Ai) (t:Af) (L:List (Ah×Nat)) (d:Nat):List (Ah×Nat):=L.filter λp=>dgi data t p==d
theorem Aw1 {α:Type} (f:α->Nat):∀(n:Nat) (L:List α),(∀x∈L,f x<n)->((range n).flatMap λd=>L.filter λx=>f x==d).Perm L
 | 0,L,h=>by cases L with| nil=>exact Perm.refl _| cons x L=>exact absurd (h x ψ) ω
 | n+1,L,h=>by
  have ih:=Aw1 f n (L.filter λx=>!(f x==n)) λx hx=>by obtain⟨h1,h2⟩:=mem_filter.1 hx;have:=h x h1;have:f x≠n:=(by simpa using h2);omega
  rw[range_succ,flatMap_append];have e:((range n).flatMap λd=>(L.filter λx=>!(f x==n)).filter λx=>f x==d)=(range n).flatMap λd=>L.filter λx=>f x==d:=by
   have key:∀R:List Nat,(∀d∈R,d<n)->(R.flatMap λd=>(L.filter λx=>!(f x==n)).filter λx=>f x==d)=R.flatMap λd=>L.filter λx=>f x==d:=by
    intro R;induction R with
    | nil=>intro _;rfl
    | cons d R b=>
     intro c;rw[flatMap_cons,flatMap_cons,b λq hq=>c q (by simp[hq]),filter_filter];congr 1;refine filter_congr λx _=>?_;have:=c d ψ;by_cases e:f x=d
     .have:f x≠n:=ω;simp[e];omega
     .simp[e]
   exact key _ λd hd=>mem_range.1 hd
  rw[e]at ih;refine (Perm.append_right _ ih).trans ?_;have:=filter_append_perm (λx=>!(f x==n)) L;simp only[Bool.not_not]at this;simpa using this
def i7:Nat->I7
 | 0=>.c0
 | 1=>.c1
 | 2=>.c2
 | 3=>.c3
 | 4=>.c4
 | 5=>.c5
 | _=>.c6
theorem Aw2 (d:Nat) (h:d<7):Yz (d:Int)=some (i7 d):=by rcases (ω:d=0\/d=1\/d=2\/d=3\/d=4\/d=5\/d=6) with rfl|rfl|rfl|rfl|rfl|rfl|rfl <;> rfl
theorem Ba4 {x:Ah×Nat} (h:L[j]? = some x) (d:Nat):(bk data t (L.take (j+1)) d).map Ba=(bk data t (L.take j) d).map Ba++(if dgi data t x=d then [Ba x] else []):=by
 unfold bk;rw[Avc h,map_append];by_cases e:dgi data t x=d
 .simp[e]
 .simp[e]
def Aw3 (data:List Ai) (t:Af) (i:Ah):Prop:=Bv i<=1048576/\iR i/\∃d,Di data i t=some d/\d<=6
theorem Aw4 (hz:DSz data) (hv:Hw data) (hg:G0 data t=true) (y:Cw (Aw3 data t) L) (hN:pv (λ_=>1) L<Fc) (X:L.length<=1000000000) : (1000<L.length/\Nf (pls L) (L.map Ba) data t.G t.U t.R=some ([],9))\/(L.length<=1000/\∃R:List (Ah×Nat),Nf (pls L) (L.map Ba) data t.G t.U t.R=some (R.map Ba,0)/\R.Perm L):=by
 have q:∀x∈L,Di data x.1 t=some (dgi data t x)/\dgi data t x<7:=λx hx=>by obtain⟨_,_,d,d1,d2⟩:=y.mo x hx;have:dgi data t x=d:=(by unfold dgi;rw[d1]);rw[this];exact⟨d1,ω⟩
 have G:Af.mk t.G t.U t.R=t:=by cases t;rfl
 have V:∀j d,((bk data t (L.take j) d).map Ba).length<=1000000000:=λj d=>by unfold bk;rw[C1];refine Nat.le_trans (length_filter_le _ _) ?_;rw[length_take];omega
 have g:∀d,∃S:List (Ah×Nat),Lk ((bk data t L d).map Ba)=some (S.map Ba)/\S.Perm (bk data t L d):=λd=>by
  have hd:((bk data t L d).map Ba).Pairwise λa b=>a.I≠b.I:=(by rw[pairwise_map];exact Pairwise.sublist filter_sublist y.dst);obtain⟨R,r1,r2⟩:=Ba3 ((bk data t L d).map Ba) hd λw hw=>by obtain⟨p,hp,rfl⟩:=mem_map.1 hw;exact (y.mo p (mem_filter.1 hp).1).1
  obtain⟨S,D,A⟩:∃S:List (Ah×Nat),R=S.map Ba/\S.Perm (bk data t L d):=by
   have inj:∀(M:List Ap) (B:List (Ah×Nat)),M.Perm (B.map Ba)->∃S:List (Ah×Nat),M=S.map Ba/\S.Perm B:=by
    intro M;induction M with
    | nil=>intro B h;have h:=h.symm.eq_nil;cases B with| nil=>exact⟨[],rfl,Perm.refl _⟩| cons b B=>simp at h
    | cons w M ih=>intro B h;obtain⟨b,hb,e⟩:=mem_map.1 (h.mem_iff.1 (by simp:w∈w::M));obtain⟨Z,Y,rfl⟩:=append_of_mem hb;have h2:(w::M).Perm (w::(Z++Y).map Ba):=(by refine h.trans ?_;rw[map_append,map_append,map_cons,e];exact perm_middle);obtain⟨S,D,A⟩:=ih (Z++Y) h2.cons_inv;exact⟨b::S,by rw[map_cons,e,D],(A.cons b).trans perm_middle.symm⟩
   exact inj R _ r2
  subst D;exact⟨S,r1,A⟩
 obtain⟨S,U⟩:=Classical.axiomOfChoice g;have f:((range 7).flatMap S).Perm L:=by
  have h1:=Aw1 (dgi data t) 7 L λx hx=>(q x hx).2;refine Perm.trans ?_ h1;have:∀R:List Nat,(R.flatMap S).Perm (R.flatMap λd=>L.filter λx=>dgi data t x==d):=λR=>by induction R with| nil=>exact Perm.refl _| cons d R ih=>rw[flatMap_cons,flatMap_cons];exact (U d).2.append ih
  exact this _
 have key:Nf (pls L) (L.map Ba) data t.G t.U t.R=some (if 1000<L.length then ([],9) else (((range 7).flatMap S).map Ba,0)):=by
  unfold Nf;refine K1 L.length (λj=>((j:Int),(j:Int),(bk data t (L.take j) 0).map Ba,(bk data t (L.take j) 1).map Ba,(bk data t (L.take j) 2).map Ba,(bk data t (L.take j) 3).map Ba,(bk data t (L.take j) 4).map Ba,(bk data t (L.take j) 5).map Ba,(bk data t (L.take j) 6).map Ba)) (by simp[bk]) ?_ ⟨((L.length:Int),(bk data t L 0).map Ba,(bk data t L 1).map Ba,(bk data t L 2).map Ba,(bk data t L 3).map Ba,(bk data t L 4).map Ba,(bk data t L 5).map Ba,(bk data t L 6).map Ba),?_,?_⟩
  .intro j hj;have hx:L[j]? = some L[j]:=Bs hj;generalize L[j]=x at hx;have z:=Bu hx;obtain⟨g1,g2,g3⟩:=y.mo x z;obtain⟨d1,d2⟩:=q x z;have hp:=y.pos x z;have a1:=Pq z;have E:(L.map Ba)[j]? = some (Ba x):=(by rw[getElem?_map,hx];rfl);have i:(((L.map Ba).length:Nat):Int)=(L.length:Int):=(by rw[C1]);have k:Np (Ba x).C x.2:=Np.c ω;have I:Ir (Ba x).C=some 1:=(by rw[k.sign,Ar ω]);have u:Ko (Ba x).C=some (cR x.2):=k.can;have s:Mf data t (Ba x).I=some (dgi data t x:Int):=(by show Mf data t x.1=_;rw[Agt hz hv t hg x.1 g1,d1,Pj ω]);have J:L2 4000000 (Ba x).I=some x.1:=(by rw[Awy];exact Aur 4000000 x.1 ω ω);have N:∀d,Cd 88 ((bk data t (L.take j) d).map Ba) [⟨x.1,cR x.2⟩]=some ((bk data t (L.take j) d).map Ba++[⟨x.1,cR x.2⟩]):=λd=>D2 (by have:=V j d;rw[length_singleton];omega);simp only[i,As (ω:(j:Int)<(L.length:Int)),Am,Br rfl E,Ad,I,show ((1:Int) != 0)=true from rfl,G,s,Aw2 _ d2,C5 hj ω];simp only[Ba4 hx];rcases (ω:dgi data t x=0\/dgi data t x=1\/dgi data t x=2\/dgi data t x=3\/dgi data t x=4\/dgi data t x=5\/dgi data t x=6) with e|e|e|e|e|e|e <;> (simp only[e,i7,J,u,N,Ad];simp[Ba])
  .have i:(((L.map Ba).length:Nat):Int)=(L.length:Int):=(by rw[C1]);simp only[i,A5 (ω:¬(L.length:Int)<(L.length:Int)),Aq,Db]
  .dsimp only;by_cases h:1000<L.length
   .rw[As ω,Am,Av h]
   .rw[A5 ω,Aq,Ar h];have hB:∀d,Lk ((bk data t L d).map Ba)=some ((S d).map Ba):=λd=>(U d).1;have hG:∀d,Gm (bk data t L d).length ((S d).map Ba)=some ():=λd=>Ns (by have h:((S d).map Ba).length=(S d).length:=ψ;rw[h];exact (U d).2.length_eq.symm);refine K1 7 (λj=>((j:Int),(if 0<j then (S 0).map Ba else (bk data t L 0).map Ba),(if 1<j then (S 1).map Ba else (bk data t L 1).map Ba),(if 2<j then (S 2).map Ba else (bk data t L 2).map Ba),(if 3<j then (S 3).map Ba else (bk data t L 3).map Ba),(if 4<j then (S 4).map Ba else (bk data t L 4).map Ba),(if 5<j then (S 5).map Ba else (bk data t L 5).map Ba),(if 6<j then (S 6).map Ba else (bk data t L 6).map Ba))) rfl ?_ ⟨((S 0).map Ba,(S 1).map Ba,(S 2).map Ba,(S 3).map Ba,(S 4).map Ba,(S 5).map Ba,(S 6).map Ba),rfl,?_⟩
    .intro j hj;have hw:Ac ((j:Int)+1)=((j+1:Nat):Int):=C5 (n:=7) hj ω;simp only[As (ω:(j:Int)<((7:Nat):Int)),Am,Aw2 j hj,Ad,hw];rcases (ω:j=0\/j=1\/j=2\/j=3\/j=4\/j=5\/j=6) with rfl|rfl|rfl|rfl|rfl|rfl|rfl <;> (dsimp only[i7];simp[hB,hG])
    .have l:([(S 0).map Ba,(S 1).map Ba,(S 2).map Ba,(S 3).map Ba,(S 4).map Ba,(S 5).map Ba,(S 6).map Ba]:List (List Ap)).flatten=((range 7).flatMap S).map Ba:=(by rw[show range 7 = [0,1,2,3,4,5,6] from rfl];simp[map_append]);dsimp only;rw[Ba1 _ ψ (by rw[l,C1,f.length_eq];omega),l];rfl
 by_cases h:1000<L.length
 .rw[Av h]at key;exact .inl ⟨h,key⟩
 .rw[Ar h]at key;exact .inr ⟨ω,_,key,f⟩
def GI (data:List Ai) (t:Af) (S D:Nat) (i:Ah):Prop:=Bv i<=S/\iR i/\∃d,Di data i t=some d/\d<=D
theorem GI.mono (h:GI data t S D i) (b:S<=S') (c:D<=D'):GI data t S' D' i:=by obtain⟨h1,h2,d,h3,f⟩:=h;exact⟨ω,h2,d,h3,ω⟩
theorem Cw.imp (h:Cw P L) (hi:∀i,P i->Q i):Cw Q L:=⟨h.dst,λt ht=>hi _ (h.mo t ht),h.pos⟩
theorem GI.good (b:S<=1048576) (c:D<=6) (h:GI data t S D i):Aw3 data t i:=h.mono b c
theorem Ahr (b:DSz data) (hv:Hw data) (hg:G0 data t=true) (c:S<=1048576) (k:D<=6) (j:∀p∈L,GI data t S D p.1/\1<=p.2) (g:pv (λ_=>1) L<Fc) (q:L.length<=2000) : (1000<L.length/\Qf data t (L.map Ba)=some ([],9))\/∃P,Qf data t (L.map Ba)=some (P.map Ba,0)/\Cw (GI data t S D) P/\P.length<=1000/\∀f:Ah->Nat,pv f P=pv f L:=by
 unfold Qf W4;rw[A5 (by rw[C1];omega),Aq];simp only[Ad];obtain⟨T,a1,a2,a3,a4⟩:=Awx (P:=GI data t S D) (λi h=>⟨by have:=h.1;omega,h.2.1⟩) L [] (Cw.nil _) j (by show 0+_<Fc;omega) ζ data t.G t.U t.R;have a1:R5 (L.map Ba) [] [] data t.G t.U t.R=some (pls T,T.map Ba):=a1;rw[a1];simp only[Ad];have a4:∀f:Ah->Nat,pv f T=pv f L:=λf=>by rw[a4];show 0+_=_;omega
 rcases Aw4 b hv hg (a2.imp λi h=>h.good c k) (by rw[a4];exact g) (by simp at a3;omega) with⟨hb,h⟩|⟨h1,R,h2,h3⟩
 .left;exact⟨by simp only[length_nil]at a3;omega,by rw[h];rfl⟩
 .right;rw[h2];refine⟨R,rfl,⟨(h3.pairwise_iff (λ{x y} h=>h.symm)).2 a2.dst,λp hp=>a2.mo p (h3.mem_iff.1 hp),λp hp=>a2.pos p (h3.mem_iff.1 hp)⟩,by rw[h3.length_eq];exact h1,λf=>?_⟩;rw[<-a4 f];have:∀{A B:List (Ah×Nat)},A.Perm B->pv f A=pv f B:=λ{A B} h=>by induction h with| nil=>rfl| cons x _ ih=>simp only[pv,ih]| swap x y l=>simp only[pv];omega| trans _ _ h1 h2=>rw[h1,h2]
  exact this h3
theorem Ahs (g:DSz data) (hv:Hw data) (hg:G0 data t=true) (u:S<=1048576) (x:D<=6) (l:∀p∈L,GI data t S D p.1) (s:L.length<=2000):Ui data t (L.map Ba)=some true:=by
 have b:Uf data t=some true:=by have f:=hg;simp only[G0,Ct,Du]at f;obtain⟨q,k,h⟩:=Afz g;have hq:q=true:=h.2 hv;subst hq;unfold Uf;rw[k,Xl data t 0 ω];simp only[Ad,Am];rw[show (Fb data 0 t&&decide (B3 t<=200))=G0 data t from rfl,hg]
 have c:∃i,Aaf data t=some (i,true):=by unfold Aaf;rw[b,Ad];simp only[bnt,Aq];have f:=hg;simp only[G0,Ct,Du]at f;obtain⟨i,hi,_⟩:=A6v 4000000 t ω ω;exact⟨i,by rw[hi];rfl⟩
 obtain⟨i,hi⟩:=c;unfold Ui;rw[hi,Ad];simp only[Am];have hc:Aag (L.map Ba) data t=some false:=by
  unfold Aag Ae9;refine bnd (a:= -1) ?_ rfl;refine F6 (L.map Ba) (λj=>(j:Int)) rfl (by rw[C1];omega) ?_ ?_
  .intro j w' hj hw h1 h2 h3;rw[getElem?_map]at hw;obtain⟨w,hq,rfl⟩:=Option.map_eq_some_iff.1 hw;obtain⟨g1,g2,d,d1,d2⟩:=l w (Bu hq);have:Aah (Ba w) data t=some false:=(by unfold Aah Wo;show ((Mf data t w.1).bind λv3=>some (decide (v3>=0))).bind _=_;rw[Agt g hv t hg w.1 ω,d1,Pj ω];simp only[Ad];rw[As ω];rfl);simp only[h1,h2,h3,Am,Ad,this,Aq]
  .intro h1;exact⟨_,by simp only[h1];rfl,rfl⟩
 rw[hc];rfl
theorem Ba5 {c:Nat} (f:∀p∈L,p.2<Fc) (hc:c<Fc) (g:L.length<=1000000):Uj (L.map Ba) (cR c)=some ((L.map λp=>(p.1,p.2*c)).map Ba):=by
 unfold Uj;refine F6 (L.map Ba) (λj=>((j:Int),((L.take j).map λp=>(p.1,p.2*c)).map Ba)) ψ (by rw[C1];omega) ?_ ?_
 .intro j w' hj hw h1 h2 h3;rw[getElem?_map]at hw;obtain⟨w,hq,rfl⟩:=Option.map_eq_some_iff.1 hw;have b:Fa (Ba w).C (cR c)=some (cR (w.2*c)):=Np.mul (Np.c (f w (Bu hq))) (Np.c hc);simp only[h1,h2,h3,Am,Ad,b];rw[D2 (by rw[C1,C1,length_take,length_singleton];omega),Ad,C4 hq,map_append,map_append];rfl
 .intro h1;refine⟨_,by simp only[h1];rfl,?_⟩;rw[C1,Db]
def KM:Nat:=400000
theorem Aw5 {α:Type} (f:α->Nat) (c:Nat):∀L:List (α×Nat),pv f (L.map λp=>(p.1,p.2*c))=c*pv f L
 | []=>rfl
 | p::L=>by rw[map_cons,pv,Aw5 f c L,pv,Nat.mul_add];have:p.2*c*f p.1=c*(p.2*f p.1):=(by ac_rfl);show p.2*c*f p.1+_=_;omega
theorem Ba6 (f:α->Nat) {A B:List (α×Nat)} (h:A.Perm B):pv f A=pv f B:=by induction h with| nil=>rfl| cons x _ ih=>simp only[pv,ih]| swap x y l=>simp only[pv];omega| trans _ _ h1 h2=>rw[h1,h2]
def pv2 (data:List Ai) (t:Af) (f:Ah->Nat) (P Q:List (Ah×Nat)):Nat:=pv (λa=>pv (λb=>pv f (D4 data KM t a b)) Q) P
theorem Aht (f:α->Nat) {L:List (α×Nat)} {x:α×Nat} (h:L[j]? = some x):pv f (L.take (j+1))=pv f (L.take j)+x.2*f x.1:=by rw[C4 h,Kf];simp only[pv];omega
theorem Aw6 (f:α->Nat) (L:List (α×Nat)) (j:Nat):pv f (L.take j)<=pv f L:=by have:=Kf f (L.take j) (L.drop j);rw[take_append_drop]at this;omega
theorem Ahu {f:α->Nat} {L:List (α×Nat)} (h:∀p∈L,f p.1<=g p.1):pv f L<=pv g L:=Bae h
noncomputable def Acj (data:List Ai) (t:Af) (v:Ap) (q:List Ap):Int×List (ByteArray×Int)×List Ap->Option ((Int×List (ByteArray×Int)×List Ap)⊕(Int×List (ByteArray×Int)×List Ap)):=λ(b,j,g)=> bif b<(q.length:Int) then ((Ag q b).bind λf=> (Ob (4000000) data t v.I f.I).bind λi=> (Fa v.C f.C).bind λh=> (Uj i h).bind λv105=> (R5 v105 j g data t.G t.U t.R).bind λc=> some (.inl ((Ac (b+1)),c.1,c.2))) else (some (.inr (b,j,g)))
theorem Ba7 (hz:DSz data) (hv:Hw data) (hg:G0 data t=true) (hS:S+S'<=400000) (hD:D+D'<=6) {v:Ah×Nat} (B:GI data t S D v.1) (E:v.2<Fc) (G:1<=v.2) {Q:List (Ah×Nat)} (R:Cw (GI data t S' D') Q) (a8:Q.length<=1000) (aa:pv (λ_=>1) Q<Fc) {g:List (Ah×Nat)} (J:Cw (GI data t (S+S') (D+D')) g) (Y:g.length<=900000000) (hb:pv (λ_=>1) g+729*(v.2*pv (λ_=>1) Q)<Fc) : ∃u,Ak (Acj data t (Ba v) (Q.map Ba)) (0,pls g,g.map Ba)=some ((Q.length:Int),pls u,u.map Ba)/\Cw (GI data t (S+S') (D+D')) u/\u.length<=g.length+729*Q.length/\∀f:Ah->Nat,pv f u=pv f g+v.2*pv (λb=>pv f (D4 data KM t v.1 b)) Q:=by
 have y:(((Q.map Ba).length:Nat):Int)=(Q.length:Int):=by rw[C1]
 obtain⟨e,e1,u,rfl,e2,e3,e4⟩:=Ka (step:=Acj data t (Ba v) (Q.map Ba)) (λ(s:Int×List (ByteArray×Int)×List Ap)=>∃(j:Nat) (u:List (Ah×Nat)),s=((j:Int),pls u,u.map Ba)/\j<=Q.length/\Cw (GI data t (S+S') (D+D')) u/\u.length<=g.length+729*j/\∀f:Ah->Nat,pv f u=pv f g+v.2*pv (λb=>pv f (D4 data KM t v.1 b)) (Q.take j)) (λs=>Q.length-s.1.toNat) (λe=>∃u,e=((Q.length:Int),pls u,u.map Ba)/\Cw (GI data t (S+S') (D+D')) u/\u.length<=g.length+729*Q.length/\∀f:Ah->Nat,pv f u=pv f g+v.2*pv (λb=>pv f (D4 data KM t v.1 b)) Q) (by
   rintro _ ⟨j,u,rfl,hj,hu,I,k⟩;rcases Cj j Q.length with h|h
   .left;have hx:Q[j]? = some Q[j]:=Bs h;generalize Q[j]=w at hx;have M:=Bu hx;obtain⟨w1,X,U,V,w4⟩:=R.mo w M;have wp:=R.pos w M;have wb:=Pq M;obtain⟨v1,v2,dv,v3,v4⟩:=B;have A:(Q.map Ba)[j]? = some (Ba w):=(by rw[getElem?_map,hx];rfl);have x:Ob 4000000 data t (Ba v).I (Ba w).I=some ((D4 data KM t v.1 w.1).map Ba):=Bas hv.szv hz.sz.short KM t v.1 w.1 4000000 dv U (by unfold KM;omega) (by unfold KM;omega) v3 V ω (by have:=hg;simp only[G0,Ct,Du]at this;exact this.2) v2 X;obtain⟨g1,g2⟩:=Q2 data KM t v.1 w.1 dv U (by unfold KM;omega) v3 V ω v2 X;have a6:=S5 (show dv+U<=6 by omega);have Z:(D4 data KM t v.1 w.1).length<=729:=(by have:=Mv λp hp=>(g1 p hp).pos;omega);have N:Fa (Ba v).C (Ba w).C=some (cR (v.2*w.2)):=Np.mul (Np.c E) (Np.c ω);have a7:v.2*w.2<=v.2*pv (λ_=>1) Q:=Nat.mul_le_mul_left _ wb;have L:Uj ((D4 data KM t v.1 w.1).map Ba) (cR (v.2*w.2))=some (((D4 data KM t v.1 w.1).map λp=>(p.1,p.2*(v.2*w.2))).map Ba):=Ba5 (λp hp=>by have:=Pq hp;have:(1000:Nat)<Fc:=(by unfold Fc;decide);omega) ω ω;have l:∀f:Ah->Nat,pv f ((D4 data KM t v.1 w.1).map λp=>(p.1,p.2*(v.2*w.2)))=v.2*w.2*pv f (D4 data KM t v.1 w.1):=λf=>Aw5 f _ _;have z:pv (λ_=>1) u+pv (λ_=>1) ((D4 data KM t v.1 w.1).map λp=>(p.1,p.2*(v.2*w.2)))<Fc:=(by rw[l,k];have k0:pv (λb=>pv (λ_=>1) (D4 data KM t v.1 b)) (Q.take (j+1))<=729*pv (λ_=>1) Q:=(by refine Nat.le_trans (Aw6 _ Q (j+1)) ?_;rw[<-Ok];refine Ahu λp hp=>?_;obtain⟨p1,p2,dp,p3,p4⟩:=R.mo p hp;have:=(Q2 data KM t v.1 p.1 dv dp (by unfold KM;omega) v3 p3 ω v2 p2).2;have:=S5 (show dv+dp<=6 by omega);omega);have k1:=Aht (λb=>pv (λ_=>1) (D4 data KM t v.1 b)) hx;have k2:=Nat.mul_le_mul_left v.2 k0;rw[k1,Nat.mul_add]at k2;have k3:v.2*(729*pv (λ_=>1) Q)=729*(v.2*pv (λ_=>1) Q):=(by ac_rfl);have k4:v.2*(w.2*pv (λ_=>1) (D4 data KM t v.1 w.1))=v.2*w.2*pv (λ_=>1) (D4 data KM t v.1 w.1):=(by ac_rfl);omega);obtain⟨T,a1,a2,a3,a4⟩:=Awx (P:=GI data t (S+S') (D+D')) (λi h=>⟨by have:=h.1;omega,h.2.1⟩) ((D4 data KM t v.1 w.1).map λp=>(p.1,p.2*(v.2*w.2))) u hu (λp hp=>by obtain⟨q,hq,rfl⟩:=mem_map.1 hp;obtain⟨d,d1,d2⟩:=(g1 q hq).deg;refine⟨⟨by have:=(g1 q hq).siz;show Bv q.1<=_;omega,(g1 q hq).num,d,d1,ω⟩,?_⟩;exact Nat.mul_pos (g1 q hq).pos (Nat.mul_pos G wp)) z (by rw[C1];omega) data t.G t.U t.R;refine⟨((j+1:Nat),pls T,T.map Ba),?_,⟨j+1,T,rfl,ω,a2,by rw[C1]at a3;omega,λf=>?_⟩,ζ⟩
    .unfold Acj;simp only[y,As (ω:(j:Int)<(Q.length:Int)),Am,Br rfl A,Ad,x,N,L,a1,C5 h ω]
    .rw[a4,k,l,Aht _ hx,Nat.mul_add];have:v.2*(w.2*pv f (D4 data KM t v.1 w.1))=v.2*w.2*pv f (D4 data KM t v.1 w.1):=(by ac_rfl);omega
   .right;have:j=Q.length:=ω;subst this;rw[Db]at k;exact⟨_,by unfold Acj;simp only[y,A5 (ω:¬(Q.length:Int)<(Q.length:Int)),Aq],u,rfl,hu,I,k⟩)
  (0,pls g,g.map Ba) ⟨0,g,rfl,ω,J,ω,λf=>by rw[take_zero];show _=_+v.2*0;omega⟩;exact⟨u,e1,e2,e3,e4⟩
theorem Aw7:(729:Nat)<Fc:=by unfold Fc;decide
noncomputable def Ack (data:List Ai) (t:Af) (p q:List Ap):Int×List (ByteArray×Int)×List Ap->Option ((Int×List (ByteArray×Int)×List Ap)⊕(List (ByteArray×Int)×List Ap)):=λ(v78,c,b)=> bif v78<(p.length:Int) then ((Ag p v78).bind λh=> (Ak (Acj data t h q) (0,c,b)).bind λ(_,g,f)=> some (.inl ((Ac (v78+1)),g,f))) else (some (.inr (c,b)))
theorem Ba8 (A:DSz data) (hv:Hw data) (hg:G0 data t=true) (hS:S+S'<=400000) (hD:D+D'<=6) (hL:∀p∈L,GI data t S D p.1/\1<=p.2) (hM:∀p∈M,GI data t S' D' p.1/\1<=p.2) (Y:L.length<=2000) (V:M.length<=2000) (ae:L≠[]) (ad:M≠[]) (hN:729*(pv (λ_=>1) L*pv (λ_=>1) M)<Fc) : (1000<729*(pv (λ_=>1) L*pv (λ_=>1) M)/\Mh data t (L.map Ba) (M.map Ba)=some ([],9))\/∃R,Mh data t (L.map Ba) (M.map Ba)=some (R.map Ba,0)/\Cw (GI data t (S+S') (D+D')) R/\R.length<=1000/\∀f:Ah->Nat,pv f R=pv2 data t f L M:=by
 have n1:1<=pv (λ_=>1) L:=by have h1:=Mv λp hp=>(hL p hp).2;cases L with| nil=>exact (ae rfl).elim| cons a l=>simp at h1;omega
 have n2:1<=pv (λ_=>1) M:=by have h1:=Mv λp hp=>(hM p hp).2;cases M with| nil=>exact (ad rfl).elim| cons a l=>simp at h1;omega
 have m1:pv (λ_=>1) L<=pv (λ_=>1) L*pv (λ_=>1) M:=Nat.le_mul_of_pos_right _ n2;have m2:pv (λ_=>1) M<=pv (λ_=>1) L*pv (λ_=>1) M:=Nat.le_mul_of_pos_left _ n1;unfold Mh;rw[Ahs A hv hg (show S<=1048576 by omega) (show D<=6 by omega) (λp hp=>(hL p hp).1) Y,Ahs A hv hg (show S'<=1048576 by omega) (show D'<=6 by omega) (λp hp=>(hM p hp).1) V];simp only[Ad,bnt,Aq];rcases Ahr A hv hg (show S<=1048576 by omega) (show D<=6 by omega) hL ω Y with⟨hb,h⟩|⟨P,p1,Z,p3,p5⟩
 .left;exact⟨by have:=Mv λp hp=>(hL p hp).2;omega,by rw[h];rfl⟩
 .rw[p1];simp only[Ad,show ((0:Int) != 0)=false from rfl,Aq];rcases Ahr A hv hg (show S'<=1048576 by omega) (show D'<=6 by omega) hM ω V with⟨hb,h⟩|⟨Q,q1,q2,q3,q5⟩
  .left;exact⟨by have:=Mv λp hp=>(hM p hp).2;omega,by rw[h];rfl⟩
  .rw[q1];simp only[Ad,show ((0:Int) != 0)=false from rfl,Aq];have ac:P.length≠0:=λe=>by have:P = []:=Gn.1 e;have h:=p5 λ_=>1;rw[this]at h;have h:0=pv (λ_=>1) L:=h;omega
   have ab:Q.length≠0:=λe=>by have:Q = []:=Gn.1 e;have h:=q5 λ_=>1;rw[this]at h;have h:0=pv (λ_=>1) M:=h;omega
   have wP:Ac (((P.map Ba).length:Int)-1)=((P.length-1:Nat):Int):=(by rw[C1,Ac,Cl] <;> omega);have wQ:Ac (((Q.map Ba).length:Int)-1)=((Q.length-1:Nat):Int):=(by rw[C1,Ac,Cl] <;> omega);have q:∀{R:List (Ah×Nat)} {S D:Nat},S<=1048576->D<=6->Cw (GI data t S D) R->R.length≠0->∃(w:Ap) (d:Nat),(R.map Ba)[R.length-1]? = some w/\Mf data t w.I=some (d:Int)/\d<=D:=λ{R S D} h1 h2 h3 h4=>by have hx:R[R.length-1]? = some (R[R.length-1]' ω):=Bs _;generalize R[R.length-1]'_=x at hx;obtain⟨g1,g2,d,g3,g4⟩:=h3.mo x (Bu hx);refine⟨Ba x,d,by rw[getElem?_map,hx];rfl,?_,g4⟩;show Mf data t x.1=_;rw[Agt A hv t hg x.1 ω,g3,Pj ω]
   obtain⟨a,da,a1,a2,a3⟩:=q (show S<=1048576 by omega) ω Z ac;obtain⟨b,db,b1,b2,b3⟩:=q (show S'<=1048576 by omega) ω q2 ab;have a6:Ac ((da:Int)+(db:Int))=(da:Int)+(db:Int):=ξ;have lP:(((P.map Ba).length:Nat):Int)=(P.length:Int):=(by rw[C1]);rw[C3 (by rw[C1];omega),C3 (by rw[C1];omega)];simp only[Aq,Ad,wP,wQ,Br rfl a1,Br rfl b1,a2,b2,a6];rw[A5 ω,Aq];unfold W4;simp only[Ad];have N:pv (λ_=>1) Q=pv (λ_=>1) M:=q5 _;have U:pv (λ_=>1) P=pv (λ_=>1) L:=p5 _;have z:∀j,729*(pv (λ_=>1) (P.take j)*pv (λ_=>1) Q)<Fc:=λj=>by have h1:=Aw6 (λ_=>1) P j;have h2:=Nat.mul_le_mul_right (pv (λ_=>1) Q) h1;rw[U]at h2;rw[N]at h2 ⊢;omega
   have G:∀a,GI data t S D a->pv (λb=>pv (λ_=>1) (D4 data KM t a b)) Q<=729*pv (λ_=>1) Q:=λa ha=>by rw[<-Ok];refine Ahu λp hp=>?_;obtain⟨x1,x2,dp,x3,x4⟩:=q2.mo p hp;obtain⟨v1,v2,dv,v3,v4⟩:=ha;have:=(Q2 data KM t a p.1 dv dp (by unfold KM;omega) v3 x3 ω v2 x2).2;have:=S5 (show dv+dp<=6 by omega);omega
   have s:∀j,pv2 data t (λ_=>1) (P.take j) Q<=729*(pv (λ_=>1) (P.take j)*pv (λ_=>1) Q):=λj=>by
    unfold pv2;have h1:pv (λa=>pv (λb=>pv (λ_=>1) (D4 data KM t a b)) Q) (P.take j)<=pv (λa=>729*pv (λ_=>1) Q*1) (P.take j):=Ahu λp hp=>by rw[Nat.mul_one];exact G p.1 (Z.mo p (mem_of_mem_take hp))
    rw[Ok]at h1;refine Nat.le_trans h1 (Nat.le_of_eq ?_)
    ac_rfl
   have E:∃T:List (Ah×Nat),Cw (GI data t (S+S') (D+D')) T/\T.length<=900000000/\(∀f:Ah->Nat,pv f T=pv2 data t f P Q)/\∀{X:Type} {J:List (ByteArray×Int)×List Ap->Option X} {x:X},J (pls T,T.map Ba)=some x->(Ak (Ack data t (P.map Ba) (Q.map Ba)) (0,[],[])).bind J=some x:=by
    have I:∀j,j<=P.length->∃u:List (Ah×Nat),Cw (GI data t (S+S') (D+D')) u/\u.length<=729*Q.length*j/\(∀f:Ah->Nat,pv f u=pv2 data t f (P.take j) Q)/\∀{X:Type} {J:List (ByteArray×Int)×List Ap->Option X},(Ak (Ack data t (P.map Ba) (Q.map Ba)) (0,[],[])).bind J=(Ak (Ack data t (P.map Ba) (Q.map Ba)) ((j:Int),pls u,u.map Ba)).bind J:=by
     intro j;induction j with
     | zero=>intro _;exact⟨[],Cw.nil _,ψ,λf=>by rw[take_zero];rfl,λ{X J}=>rfl⟩
     | succ j ih=>
      intro hj;obtain⟨u,u1,u2,u3,u4⟩:=ih ω;have hx:P[j]? = some (P[j]' ω):=Bs _;generalize P[j]'_=v at hx;have hm:=Bu hx;have a7:(P.map Ba)[j]? = some (Ba v):=(by rw[getElem?_map,hx];rfl);have ah:=Pq hm;have af:=Aht (λ_=>1) hx;have b3:=z (j+1);have b4:=s j;rw[af,Nat.add_mul,Nat.mul_one]at b3;have ag:=u3 λ_=>1;have a8:729*Q.length*j<=729*1000*1000:=Nat.mul_le_mul ω ω;obtain⟨T,t1,t2,t3,t4⟩:=Ba7 A hv hg hS hD (Z.mo v hm) ω (Z.pos v hm) q2 q3 ω u1 ω ω;refine⟨T,t2,by rw[Nat.mul_succ];omega,λf=>?_,λ{X J}=>?_⟩
      .rw[t4,u3];unfold pv2;rw[Aht _ hx]
      .rw[u4,Lh (s':=(((j+1:Nat):Int),pls T,T.map Ba))];unfold Ack;simp only[lP,As (ω:(j:Int)<(P.length:Int)),Am,Br rfl a7,Ad,t1,C5 (show j<P.length by omega) ω]
    obtain⟨T,t1,t2,t3,t4⟩:=I P.length (Nat.le_refl _);rw[Db]at t3;have a8:729*Q.length*P.length<=729*1000*1000:=Nat.mul_le_mul ω ω;refine⟨T,t1,ω,t3,λ{X J x} hJ=>?_⟩;rw[t4,Gf (e:=(pls T,T.map Ba)) (by unfold Ack;simp only[lP,A5 (ω:¬(P.length:Int)<(P.length:Int)),Aq])];exact hJ
   obtain⟨T,t1,t2,t3,t4⟩:=E;have aa:pv (λ_=>1) T<Fc:=(by rw[t3];have h1:=s P.length;rw[Db]at h1;have h2:=z P.length;rw[Db]at h2;omega);have B:∀f:Ah->Nat,pv2 data t f P Q=pv2 data t f L M:=λf=>by unfold pv2;rw[p5];congr 1;funext a;exact q5 _
   rcases Aw4 A hv hg (t1.imp λi h=>h.good ω ω) aa ω with⟨hb,h⟩|⟨h1,R,h2,h3⟩
   .left;refine⟨by have g1:=Mv λp hp=>t1.pos p hp;have g2:=t3 λ_=>1;have g3:=s P.length;rw[Db,U,N]at g3;omega,?_⟩;exact t4 (J:=λ(k,g)=>(Nf k g data t.G t.U t.R).bind λc=>some (c.1,c.2)) (by show (Nf (pls T) (T.map Ba) data t.G t.U t.R).bind _=_;rw[h];rfl)
   .right;refine⟨R,t4 (J:=λ(k,g)=>(Nf k g data t.G t.U t.R).bind λc=>some (c.1,c.2)) (by show (Nf (pls T) (T.map Ba) data t.G t.U t.R).bind _=_;rw[h2];rfl),⟨(h3.pairwise_iff (λ{x y} h=>h.symm)).2 t1.dst,λp hp=>t1.mo p (h3.mem_iff.1 hp),λp hp=>t1.pos p (h3.mem_iff.1 hp)⟩,by rw[h3.length_eq];exact h1,λf=>?_⟩;rw[Ba6 f h3,t3,B]
def Q3 (data:List Ai) (t:Af):List Ah->(Ah->Nat)->Ah->Nat
 | [],f,a=>f a
 | r::rs,f,a=>pv (Q3 data t rs f) (D4 data KM t a r)
theorem Am5 (data:List Ai) (t:Af) (r:Ah) (f:Ah->Nat):∀(c:List Ah) (a:Ah),Q3 data t (c++[r]) f a=Q3 data t c (λb=>pv f (D4 data KM t b r)) a
 | [],a=>rfl
 | q::c,a=>by show pv (Q3 data t (c++[r]) f) (D4 data KM t a q)=pv (Q3 data t c λb=>pv f (D4 data KM t b r)) (D4 data KM t a q);exact Qz λp _=>Am5 data t r f c p.1
def dgo (data:List Ai) (t:Af) (i:Ah):Nat:=match Di data i t with|some d=>d|none=>0
def Eb (data:List Ai) (t:Af) (is:List Ah):Nat:=(is.map (dgo data t)).sum
theorem Ba9 (data:List Ai) (t:Af) (is:List Ah) (r:Ah):Eb data t (is++[r])=Eb data t is+dgo data t r:=by unfold Eb;simp
structure GG (data:List Ai) (t:Af) (is:List Ah):Prop where
 num:∀i∈is,iR i
 deg:∀i∈is,Di data i t=some (dgo data t i)
 siz:Cb is<=400000
 sum:Eb data t is<=6
 len:is.length<=6
def Acl (data:List Ai) (t:Af) (f:Ah->Nat):Prop:=∀i j a b,Bv i<=KM->Di data i t=some a->Di data j t=some b->a+b<=6->iR i->iR j->pv f (D4 data KM t i j)=f i*f j
theorem Bba (data:List Ai) (t:Af) {w:Ax} (h:G9 data w t=true):Acl data t λi=>bv data i t w:=λi j a b h1 h2 h3 _ _ _=>Bai KM t i j w a b h1 h2 h3 h
theorem Aw8 {data:List Ai} {t:Af} {f:Ah->Nat} (hf:Acl data t f):∀(b:List Ah) (a:Ah),GG data t (a::b)->Q3 data t b f a=f a*Dv (b.map f)
 | [],a,_=>by simp[Q3,Dv]
 | r::b,a,h=>by
  have s:=h.siz;have hd:=h.sum;have u:=h.len;have z:Eb data t (a::r::b)=dgo data t a+(dgo data t r+Eb data t b):=(by unfold Eb;simp);rw[z]at hd;simp only[Cb]at s;simp only[D6]at u;have j:=h.num a ψ;have c:=h.num r ψ;have l:=h.deg a ψ;have k:=h.deg r ψ;obtain⟨g1,_⟩:=Q2 data KM t a r _ _ (by unfold KM;omega) l k ω j c;show pv (Q3 data t b f) (D4 data KM t a r)=f a*(f r*Dv (b.map f));rw[Qz (g:=λx=>Dv (b.map f)*f x) λp hp=>by
   have g:=g1 p hp;obtain⟨d,d1,d2⟩:=g.deg;have q:=g.siz;have y:dgo data t p.1=d:=(by unfold dgo;rw[d1]);have hp:GG data t (p.1::b):=by
    refine⟨λi hi=>?_,λi hi=>?_,by simp only[Cb];omega,?_,by simp only[D6];omega⟩
    .rcases Gi.1 hi with rfl|hi
     .exact g.num
     .exact h.num i (by simp[hi])
    .rcases Gi.1 hi with rfl|hi
     .rw[y];exact d1
     .exact h.deg i (by simp[hi])
    .have:Eb data t (p.1::b)=dgo data t p.1+Eb data t b:=(by unfold Eb;simp);omega
   rw[Aw8 hf b p.1 hp,Nat.mul_comm],Ok,hf a r _ _ (by unfold KM;omega) l k ω j c]
  ac_rfl
structure PRg (data:List Ai) (t:Af) (i0:Ah) (rs:List Ah) (R:List (Ah×Nat)):Prop where
 cw:Cw (GI data t (Cb (i0::rs)) (Eb data t (i0::rs))) R
 len:R.length<=1000
 val:∀f:Ah->Nat,pv f R=Q3 data t rs f i0
 cnt:pv (λ_=>1) R<=3 ^ (Eb data t (i0::rs)*rs.length)
theorem PRg.one (h:GG data t [i]):PRg data t i [] [(i,1)]:=by
 refine⟨⟨pairwise_singleton _ _,λp hp=>?_,λp hp=>?_⟩,ψ,λf=>?_,by simp[pv]⟩
 .simp only[Ea]at hp;subst hp;exact⟨by simp[Cb],h.num i ψ,_,h.deg i ψ,by simp[Eb]⟩
 .simp only[Ea]at hp;subst hp;exact Nat.le_refl _
 .show 1*f i+0=f i;omega
theorem GG.take {c:Ah} (h:GG data t (c::b)) (j:Nat):GG data t (c::b.take j):=by
 have k:=h.siz;have hd:=h.sum;have q:=h.len;have g:b=b.take j++b.drop j:=(take_append_drop j b).symm;have u:Cb b=Cb (b.take j)+Cb (b.drop j):=by rw[<-U5,<-g]
 have s:Eb data t b=Eb data t (b.take j)+Eb data t (b.drop j):=by unfold Eb;rw[<-sum_append,<-map_append,<-g]
 have f:∀l,Eb data t (c::l)=dgo data t c+Eb data t l:=λl=>by unfold Eb;simp
 rw[f]at hd;simp only[Cb]at k;simp only[D6]at q;refine⟨λi hi=>?_,λi hi=>?_,by simp only[Cb];omega,by rw[f];omega,by rw[D6,length_take];omega⟩
 .rcases Gi.1 hi with rfl|hi
  .exact h.num _ ψ
  .exact h.num i (by have:=mem_of_mem_take hi;simp[this])
 .rcases Gi.1 hi with rfl|hi
  .exact h.deg _ ψ
  .exact h.deg i (by have:=mem_of_mem_take hi;simp[this])
theorem Bbb (c:DSz data) (hv:Hw data) (hg:G0 data t=true) (f:S<=1048576) (g:D<=6) (j:∀p∈M,GI data t S D p.1/\1<=p.2) (b:M.length<=2000) (u:pv (λ_=>1) M<Fc) : Mh data t [] (M.map Ba)=some ([],9)\/Mh data t [] (M.map Ba)=some ([],0):=by
 have hb:=Aw7;unfold Mh;rw[show Ui data t []=some true from Ahs c hv hg f g (L:=[]) (λp hp=>by cases hp) ψ,Ahs c hv hg f g (λp hp=>(j p hp).1) b];simp only[Ad,bnt,Aq];rcases Ahr c hv hg f g (L:=[]) (λp hp=>by cases hp) (by show 0<Fc;omega) ψ with⟨_,h⟩|⟨P,i,q,A,l⟩
 .have h:Qf data t []=some ([],9):=h;left;rw[h];rfl
 .have i:Qf data t []=some (P.map Ba,0):=i;have s:P = []:=(by have h1:=Mv q.pos;rw[l]at h1;have h1:P.length<=0:=h1;exact Gn.1 ω);subst s;rw[i];simp only[Ad,show ((0:Int) != 0)=false from rfl,Aq];rcases Ahr c hv hg f g j u b with⟨_,h⟩|⟨Q,k,z,y,x⟩
  .left;rw[h];rfl
  .right;rw[k];rfl
theorem PRg.step (B:DSz data) (hv:Hw data) (hg:G0 data t=true) {r:Ah} {R:List (Ah×Nat)} (h:PRg data t i b R) (u:GG data t (i::(b++[r]))) : (b≠[]/\Mh data t (R.map Ba) [⟨r,cR 1⟩]=some ([],9))\/∃x,Mh data t (R.map Ba) [⟨r,cR 1⟩]=some (x.map Ba,0)/\PRg data t i (b++[r]) x:=by
 have hs:=u.siz;have hd:=u.sum;have X:=u.len;have J:∀l,Eb data t (i::l)=dgo data t i+Eb data t l:=λl=>by unfold Eb;simp
 have e5:Cb (i::(b++[r]))=Cb (i::b)+Bv r:=by simp only[Cb,U5];omega
 have Z:Eb data t (i::(b++[r]))=Eb data t (i::b)+dgo data t r:=by rw[J,J,Ba9];omega
 have z:b.length<=4:=by simp only[D6,Ek,length_nil]at X;omega
 have A:=u.num r ψ;have N:=u.deg r ψ;have s:=h.cnt;have E:(3:Nat) ^ (Eb data t (i::b)*b.length)<=3 ^ 24:=Nat.pow_le_pow_right δ (Nat.mul_le_mul (ω:_<=6) z);have Y:(729:Nat)*(3 ^ 24*1)<Fc:=by unfold Fc;decide
 have j:pv (λ_:Ah=>1) [(r,1)]=1:=rfl;have I:∀p∈[(r,1)],GI data t (Bv r) (dgo data t r) p.1/\1<=p.2:=λp hp=>by simp only[Ea]at hp;subst hp;exact⟨⟨Nat.le_refl _,A,_,N,Nat.le_refl _⟩,Nat.le_refl _⟩
 have k:[(r,1)].map Ba = [⟨r,cR 1⟩]:=rfl;by_cases G:R = []
 .subst G;have y:b≠[]:=λe=>by subst e;have h0:(0:Nat)=1:=h.val λ_=>1;omega
  rcases Bbb B hv hg (S:=Bv r) (D:=dgo data t r) ω ω I ψ (by rw[j];have:=Aw7;omega) with c|c
  .left;rw[<-k];exact⟨y,c⟩
  .right;refine⟨[],by rw[<-k];exact c,⟨Cw.nil _,ψ,λf=>?_,Nat.zero_le _⟩⟩;rw[Am5,<-h.val];rfl
 rcases Ba8 B hv hg (S:=Cb (i::b)) (S':=Bv r) (D:=Eb data t (i::b)) (D':=dgo data t r) ω ω (L:=R) (M:=[(r,1)]) (λp hp=>⟨h.cw.mo p hp,h.cw.pos p hp⟩) I (by have:=h.len;omega) ψ G ψ (by rw[j];have:729*(pv (λ_=>1) R*1)<=729*(3 ^ 24*1):=ω;omega) with⟨hb,c⟩|⟨x,c1,c2,c3,c5⟩
 .left;rw[<-k];refine⟨λe=>?_,c⟩;subst e;rw[j]at hb;simp only[length_nil,Nat.mul_zero,Nat.pow_zero]at s;omega
 .right;have q:∀f:Ah->Nat,pv f x=pv (λa=>pv f (D4 data KM t a r)) R:=λf=>by rw[c5];unfold pv2;refine Qz λp hp=>?_;show 1*pv f (D4 data KM t p.1 r)+0=pv f (D4 data KM t p.1 r);omega
  refine⟨x,by rw[<-k];exact c1,⟨by rw[e5,Z];exact c2,c3,λf=>by rw[q,h.val,Am5],?_⟩⟩
  .rw[q];have h1:pv (λa=>pv (λ_=>1) (D4 data KM t a r)) R<=pv (λ_=>3 ^ (Eb data t (i::(b++[r])))*1) R:=Ahu λp hp=>by obtain⟨x1,V,d,U,x4⟩:=h.cw.mo p hp;have g:=(Q2 data KM t p.1 r d _ (by unfold KM;omega) U N ω V A).2;rw[Nat.mul_one];exact Nat.le_trans g (Nat.pow_le_pow_right δ ω)
   rw[Ok]at h1;have h2:=Nat.mul_le_mul_left (3 ^ (Eb data t (i::(b++[r])))) s;refine Nat.le_trans h1 (Nat.le_trans h2 ?_);rw[<-Nat.pow_add];refine Nat.pow_le_pow_right δ ?_;rw[Ek,length_singleton,Nat.mul_add,Nat.mul_one,Nat.add_comm];exact Nat.add_le_add_right (Nat.mul_le_mul_right _ ω) _
end Go.Ab
