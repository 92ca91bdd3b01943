/- Plain laws. -/
import Derived.Test.YtdinnpegmcadbaaGreatDoorRnPl3
open List
namespace Go.Ab
open Go
variable {t:Af} {e i:Ah} {P Q:Ah->Prop} {u:Ah×Nat} {x:B9} {l:Bg} {L M ts:List (Ah×Nat)} {R:List (List Ah×Nat)} {b es:List Ah} {data:List Ai} {D D' K S S' a d j k:Nat} {α β:Type} {g:α->Nat}
theorem A95 (c:CSz x) (m:Hn x) (w:Ay) (t:Af) (o:Co w<=1048576) (ht:Bx t<=200):Rm x.D w t=some (Mo x.D w t):=by obtain⟨b,n,f⟩:=Auf c.ds w t ω ω;rw[n];congr 1;rw[Bool.eq_iff_iff,f];exact⟨λh=>h.2,λh=>⟨m.2.1,h⟩⟩
theorem A96 (x:B9) (q:CSz x) (p:Hn x) (b:List Ay) (res:Ay) (l:b.length=x.V.length) (k:∀v∈b,Co v<=1048576) (f:Co res<=1048576) (V:List Int) (u:V.length<=1000000) (i:∀v∈V,∃t,C9 x.V x.E v=some t) (b1:List (ByteArray×Int)) (b2:List (ByteArray×List Au)) : Ak (S:=Int) (E:=((Aq×Int)⊕Unit)) (λm=> bif m<(V.length:Int) then ((Ag V m).bind λc=> (Ot c res b).bind λg=> (Ka c b1 b2 x.D x.V x.E.G x.E.U x.E.R).bind λn=> (Rm x.D g n).bind λo=> bif (!o) then some (.inr (.inl ((Aq.mk false [] []),11))) else some (.inl (Ac (m+1)))) else some (.inr (.inr ()))) 0=some (bif V.all (I3 x b res) then .inr () else .inl (⟨false,[],[]⟩,11)):=by
 rw[<-Option.bind_fun_some (Ak _ _)];refine Abc V (I3 x b res) (λj=>(j:Int)) rfl ω ?_ ?_
 .intro j v r w y A;obtain⟨t,ht⟩:=i v (Bv r);have s:=(p.ctx q).sz v t ht;have B:I3 x b res v=Mo x.D (Dl b res v) t:=(by unfold I3;rw[ht]);simp only[w,y,A,Am,Ad,Amo l res ht,Xo (ht:=ht),A95 q p (Dl b res v) t (A8l k f v) ω,B];cases Mo x.D (Dl b res v) t with| true=>exact⟨λ_=>rfl,λh=>by cases h⟩| false=>exact⟨nofun,λ_=>⟨_,rfl,rfl⟩⟩
 .intro h;exact⟨.inr (),by simp only[h];rfl,rfl⟩
theorem A97 {p:List Aj} (hp:∀t∈p,Ju x t.M) (D:p.length<=1000):(Hk p).length<=102000:=by
 have m:∀q:List Aj,(∀t∈q,Ju x t.M)->(Hk q).length<=102*q.length:=by
  intro q;induction q with
  | nil=>intro _;simp[Hk]
  | cons t q ih=>intro h;have E:=ih λu n=>h u (by simp[n]);have o:=h t ψ;have f:=o.1;have z:=(Agt f).2;have s:=Ami o.1 o.2;have B:t.M.A.length<=6:=(by obtain⟨_,_,r,_⟩:=s;first|exact r|omega);unfold Js at f;simp only[Cz]at f;have b:∀a∈t.M.A,a.L.T.length<=16:=(by intro a v;obtain⟨j,w⟩:=Hh v;have c:=Je f.1.2 w;simp only[Nc,Cz,Ds]at c;have i:=c.1.1.1.2;unfold Ek at i;simp only[Cz,Ds]at i;exact i.1.2.2);have C:∀A:List Bf,(∀a∈A,a.L.T.length<=16)->(Mr A).length<=16*A.length:=(by intro A;induction A with| nil=>intro _;simp[Mr]| cons a A k=>intro g;have F:=k λu n=>g u (by simp[n]);have G:=g a ψ;unfold Mr at *;simp only[flatMap_cons,Ep,C2,D1];omega);have r:=C t.M.A b;have y:Hk (t::q)=Jv t.M++Hk q:=(by simp[Hk]);have l:(Jv t.M).length=t.M.F.length+(Mr t.M.A).length:=(by unfold Jv;simp);rw[y,Ep,D1,l];omega
 have:=m p hp;omega
structure Vh (x:B9) (p:List Aj) (env:List Ay) (res:Ay) (u:Aq):Prop where
 can:Ho u
 rb:RB 2000000000 u
 val:rq u=L5 x (Dl env res) p
theorem A98 (x:B9) (L:CSz x) (p:List Aj) (hp:∀t∈p,TSz t) (b:List Ay) (res:Ay) (a6:∀v∈b,Co v<=1048576) (G:Co res<=1048576) : ∃r,Ri x p b res=some r/\((¬(Hn x/\Jk x.D x.V x.E p=true)/\r=(⟨false,[],[]⟩,1))\/((Hn x/\Jk x.D x.V x.E p=true) /\ ((b.length≠x.V.length/\r=(⟨false,[],[]⟩,5))\/(b.length=x.V.length/\((¬(∀v∈Hk p,I3 x b res v=true)/\r=(⟨false,[],[]⟩,11))\/((∀v∈Hk p,I3 x b res v=true)/\∃u,r=(u,0)/\Vh x p b res u)))))):=by
 by_cases m:Hn x/\Jk x.D x.V x.E p=true
 .have T:=m.1;have M:Kf x p:=⟨m.2,hp⟩;obtain⟨b',hb,_⟩:=Avx L (ps:=[p]) (λq n=>by simp only[D4]at n;subst n;exact hp) ψ ⟨m.1,λq n=>by simp only[D4]at n;subst n;exact m.2⟩;have hl:=(Abw.1 m.2).1;have a8:=A97 M.mo hl;have a7:∀t∈p,t.M.A.length<=1000000:=λt ht=>by obtain⟨_,_,h3,_⟩:=(M.mo t ht).cmo;omega
  obtain⟨V,v1,v2,v3,C⟩:=A8x p ω a7 ω;unfold Ri;rw[hb];simp only[Ad,bnt,Ap];by_cases l:b.length=x.V.length
  .rw[G0 ω,Ap,v1,Ad];have S:∀v∈V,∃t,C9 x.V x.E v=some t:=λv R=>by have:=(C v).1 R;unfold Hk at this;obtain⟨t,ht,D⟩:=mem_flatMap.1 this;exact A93 (M.mo t ht) v D
   rw[A96 x L T b res l a6 G V v3 S b' [],Ad];cases y:V.all (I3 x b res) with
   | false=>refine⟨_,rfl,.inr ⟨m,.inr ⟨l,.inl ⟨λh=>?_,rfl⟩⟩⟩⟩;rw[all_eq_false]at y;obtain⟨v,F,H⟩:=y;exact H (h v ((C v).1 F))
   | true=>
    have A:∀v∈Hk p,I3 x b res v=true:=λv h=>Gt.1 y v ((C v).2 h);have U:∀t∈p,Am0 x b res t.M:=λt ht=>A94 L T (M.mo t ht) λv h=>A v (mem_flatMap.2 ⟨t,ht,h⟩);have o:∀{X:Option (Aq×Int)},(∃r,X=some r/\∃u,r=(u,0)/\Vh x p b res u)->∃r,X=some r/\((¬(Hn x/\Jk x.D x.V x.E p=true)/\r=(⟨false,[],[]⟩,1))\/((Hn x/\Jk x.D x.V x.E p=true) /\
      ((b.length≠x.V.length/\r=(⟨false,[],[]⟩,5))\/(b.length=x.V.length/\((¬(∀v∈Hk p,I3 x b res v=true)/\r=(⟨false,[],[]⟩,11))\/((∀v∈Hk p,I3 x b res v=true)/\∃u,r=(u,0)/\Vh x p b res u)))))):=by rintro X ⟨r,F,H⟩;exact⟨r,F,.inr ⟨m,.inr ⟨l,.inr ⟨A,H⟩⟩⟩⟩
    refine o ?_;simp only[Am,Ag7,Ad];refine Er (λs=>∃(j:Nat) (g:Aq),s=((j:Int),g.N,g.U,g.B)/\j<=p.length/\RB (1+j*1070000) g/\Ho g/\rq g=L5 x (Dl b res) (p.take j)) (λs=>p.length-s.1.toNat) (λz=>∃g:Aq,z = .inr (g.N,g.U,g.B)/\Vh x p b res g) ⟨0,cR 0,rfl,ω,(Od (k:=1) (by rw[Aba];decide) δ).mono ω,Awb 0,by rw[Vg];rfl⟩ ?_ ?_
    .rintro s ⟨j,g,rfl,hj,W,Y,B⟩;rcases Cf j p.length with h|h
     .have w:p[j]? = some p[j]:=Bp h;generalize p[j]=t at w;have E:=Bv w;have D:=U t E;left;refine Afr ?_;simp only[Ar (ω:(j:Int)<(p.length:Int)),Am,Bn rfl w,Ad,C3 h ω];refine A9y t.M.F (Lc x (Dl b res)) (λc=>.inr ((t.M.F.length:Int),c.N,c.U,c.B)) D.fl (λf Z=>by obtain⟨_,_,_,h⟩:=D.fac f Z;exact h) ?_ ?_ (hp t E).co δ λm1 r1 _ _ q1=>?_
      .intro i f c c' a1 N k2 k3 I;obtain⟨ty,t1,t2,_⟩:=D.fac f (Bv a1);simp only[N,k2,k3,Am,Ad,Xo (ht:=t1),Amo l res t1,t2,bne_self_eq_false,Ap];show (Fa c (cR (Lc x (Dl b res) f))).bind _=_;rw[I];rfl
      .intro c N;simp only[N,Ap]
      .dsimp only;refine A90 l D r1 δ λm2 r2 _ _ q2=>?_;obtain⟨c,c1,_,c2,c3,c4⟩:=Agu W r2 ω δ;refine⟨.inl (((j+1:Nat):Int),c.N,c.U,c.B),?_,_,rfl,⟨j+1,c,rfl,ω,c2.mono ω,c3,?_⟩,by simp only[Int.toNat_natCast];omega⟩
       .show (Ja g m2).bind _=_;rw[c1];rfl
       .rw[c4,B,q2,q1,Cs w,Awf];show _=_+(rq t.C*(Sw x (Dl b res) t.M:Rat)+0);unfold Sw;rw[Rat.natCast_mul];grind
     .have:j=p.length:=ω;subst this;rw[C1]at B;exact .inr ⟨.inr (g.N,g.U,g.B),by simp only[A3 (ω:¬(p.length:Int)<(p.length:Int)),Ap],g,rfl,Y,W.mono ω,B⟩
    .rintro z ⟨g,rfl,hE⟩;exact⟨(g,0),by rw[<-Awc g],g,rfl,hE⟩
  .rw[F4 ω,Am];exact⟨_,rfl,.inr ⟨m,.inl ⟨l,rfl⟩⟩⟩
 .have J:¬(Hn x/\∀r∈[p],Jk x.D x.V x.E r=true):=λh=>m ⟨h.1,h.2 p ψ⟩;have he:=Avw L (ps:=[p]) (λr hr=>by simp only[D4]at hr;subst hr;exact hp) ψ J;refine⟨_,?_,.inl ⟨m,rfl⟩⟩;unfold Ri;rw[he];rfl
open Classical in
noncomputable def cfW:List (Rat×A5)->A5->Rat
 | [],_=>0
 | t::l,m=>(if t.2=m then t.1 else 0)+cfW l m
def Kv (v:A5->Nat):List (Rat×A5)->Rat
 | []=>0
 | t::l=>t.1*(v t.2:Rat)+Kv v l
open Classical in
noncomputable def Sx (l:List (Rat×A5)) (m:A5):List (Rat×A5):=l.filter λt=>decide (t.2≠m)
open Classical in
theorem Awg (v:A5->Nat) (m:A5):∀l:List (Rat×A5),Kv v l=cfW l m*(v m:Rat)+Kv v (Sx l m)
 | []=>by simp only[Kv,cfW,Sx,filter_nil];grind
 | t::l=>by
  have ih:=Awg v m l;unfold Sx at *;simp only[Kv,cfW];by_cases e:t.2=m
  .rw[As e,filter_cons_of_neg (by simp[e]),ih,e];grind
  .rw[Ao e,filter_cons_of_pos (by simp[e])];simp only[Kv];rw[ih];grind
open Classical in
theorem Awh (m:A5):∀(l:List (Rat×A5)) (o:A5),cfW (Sx l m) o=if o=m then 0 else cfW l o
 | [],o=>by simp[Sx,cfW]
 | t::l,o=>by
  have ih:=Awh m l o;unfold Sx at *;by_cases e:t.2=m
  .rw[filter_cons_of_neg (by simp[e]),ih];by_cases n:o=m
   .rw[As n,As n]
   .rw[Ao n,Ao n];simp only[cfW];rw[Ao (by rw[e];exact λh=>n h.symm)];grind
  .rw[filter_cons_of_pos (by simp[e])];simp only[cfW];rw[ih];by_cases n:o=m
   .rw[As n,As n,Ao (by rw[n];exact e)];grind
   .rw[Ao n,Ao n]
open Classical in
theorem A99 (v:A5->Nat):∀(n:Nat) (l:List (Rat×A5)),l.length<=n->(∀m,0<=cfW l m)->0<=Kv v l:=by
 intro n;induction n with
 | zero=>intro l o _;have:l = []:=F3.1 ω;subst this;exact Rat.le_refl
 | succ n ih=>
  intro l o h;cases l with
  | nil=>exact Rat.le_refl
  | cons t l=>
   rw[Awg v t.2 (t::l)];have p:0<=Kv v (Sx (t::l) t.2):=by
    refine ih _ ?_ λm=>?_
    .unfold Sx;rw[filter_cons_of_neg ψ];have:=length_filter_le (λu:Rat×A5=>decide (u.2≠t.2)) l;simp only[D1]at o;omega
    .rw[Awh];split
     .exact Rat.le_refl
     .exact h m
   have q:=Rat.mul_nonneg (h t.2) (Rat.natCast_nonneg (a:=v t.2));grind
def wT (t:Aj):Rat×A5:=(rq t.C,t.M)
def nT (t:Aj):Rat×A5:=(- rq t.C,t.M)
theorem Baa (p:List Aj) (m:A5):cfW (p.map wT) m=cf p m:=by induction p with| nil=>rfl| cons t p ih=>simp only[map_cons,cfW,ih,Vb,wT]
theorem Bab (p:List Aj) (m:A5):cfW (p.map nT) m = - cf p m:=by induction p with| nil=>show (0:Rat) = - 0;grind| cons t p ih=>simp only[map_cons,cfW,ih,Vb,nT];split <;> grind
theorem Bac (l k:List (Rat×A5)) (m:A5):cfW (l++k) m=cfW l m+cfW k m:=by induction l with| nil=>simp only[nil_append,cfW];grind| cons t l ih=>simp only[D0,cfW,ih];grind
theorem Bad (v:A5->Nat) (l k:List (Rat×A5)):Kv v (l++k)=Kv v l+Kv v k:=by induction l with| nil=>simp only[nil_append,Kv];grind| cons t l ih=>simp only[D0,Kv,ih];grind
theorem Bae:∀(k:Nat) (v:Ay),Co v<=k->k<1099511627776->∃r,To k v=some r/\True:=by
 intro k;induction k with
 | zero=>intro v h _;have:=Xu v;omega
 | succ k ih=>
  intro v h n;have o:=L0 v;have g:=U5 v.K;rw[To];refine Er (λs=>∃j:Nat,s.2=j/\j<=v.K.length) (λs=>v.K.length-s.2.toNat) (λ_=>True) ⟨0,rfl,ω⟩ ?_ λe _=>⟨e,rfl,trivial⟩;rintro⟨c,_⟩ ⟨j,rfl,p⟩;rcases Cf j v.K.length with m|m
  .have f:=Mn (getElem_mem m);obtain⟨r,b,_⟩:=ih v.K[j] ω ω;simp only[Ar (ω:(j:Int)<(v.K.length:Int)),Am,Hs rfl m,Ad,b,C3 m ω];exact .inl ⟨_,rfl,⟨j+1,rfl,ω⟩,ζ⟩
  .simp only[A3 (ω:¬(j:Int)<(v.K.length:Int)),Ap];exact .inr ⟨_,rfl,trivial⟩
noncomputable def Ahk (g:List Aj) (l:Bg) (p:List Aq):Int×List Aj->Option ((Int×List Aj)⊕(Int×List Aj)):=λ(m,b)=> bif m<(p.length:Int) then ((Ag p m).bind λn=> (Is n).bind λc=> bif (c==(0:Int)) then (some (.inl ((Ac (m+1)),b))) else ((Ak (Acf g l m n) (0,b)).bind λ(h,f)=> some (.inl ((Ac (m+1)),f)))) else (some (.inr (m,b)))
def Pw (l:Bg) (N:Nat) (f:Nat->Nat) (g:List Bf):Prop:=(l.T.length≠0/\PwN g N f)\/(l.T.length=0/\N=0/\f 0=prb l.Q.toNat g)
abbrev Grp:=Bg×Nat×(Nat->Nat)
inductive Gs:List Grp->List Bf->Prop
 | nil:Gs [] []
 | cons {l:Bg} {N:Nat} {f:Nat->Nat} {g rest:List Bf} {gs:List Grp}:g≠[]->(∀a∈g,a.L=l)->(∀a∈rest,Ib l a.L<0)->Pw l N f g->Gs gs rest->Gs ((l,N,f)::gs) (g++rest)
def Ng (B:List Ent):List Grp->List Ent
 | []=>B
 | q::h=>Ng (Iu B q.1 q.2.2 (q.2.1+1)) h
structure Atk (A:List Bf):Prop where
 deg:∀a∈A,0<=a.P
 lin:∀a∈A,Ek a.L=true
 sum:Dn A<=12
 len:A.length<=12
theorem X7 {a:Bg} (h:Ek a=true):a.T.length<=16/\-1048576<=a.Q/\a.Q<=1048576:=by unfold Ek at h;simp only[Cz,Ds]at h;exact⟨h.1.2.2,h.1.1,h.1.2.1⟩
theorem Atk.sub {A B:List Bf} (h:Atk (A++B)):Atk A/\Atk B:=by have h1:=h.sum;have h2:=h.len;rw[Sv]at h1;rw[Ep]at h2;exact⟨⟨λa ha=>h.deg a (by simp[ha]),λa ha=>h.lin a (by simp[ha]),ω,ω⟩,⟨λa ha=>h.deg a (by simp[ha]),λa ha=>h.lin a (by simp[ha]),ω,ω⟩⟩
theorem Baf {g:List Bf} (m:Atk g) (b:g≠[]) (hg:∀a∈g,a.L=l):∃N f,Oy g=some (Ls (N+1) f)/\Pw l N f g/\N<=Dn g/\∀k,k<N+1->f k<Fe:=by
 have q:=m.len;have j:=m.sum;obtain⟨a,n⟩:∃a,a∈g:=by cases g with| nil=>exact (b rfl).elim| cons a _=>exact⟨a,ψ⟩
 have c:=m.lin a n;rw[hg a n]at c;have r:=(X7 c).2.2;by_cases h:l.T.length=0
 .have p:=A9j g r (λa n=>by rw[hg a n];exact⟨h,rfl⟩) m.deg m.sum ω;exact⟨0,λ_=>prb l.Q.toNat g,p,.inr ⟨h,rfl,rfl⟩,ω,λk _=>X6 ω j⟩
 .obtain⟨N,f,p,o⟩:=A9h g b (λa n=>by rw[hg a n];exact h) m.deg m.sum ω;refine⟨N,f,p,.inl ⟨h,o⟩,by rw[o.1];exact Nat.le_refl _,λk i=>Nat.lt_of_le_of_lt (o.le i) (X6 ?_ j)⟩;have:=o.1;omega
noncomputable def Ahl (r:List Bf) (l:Bg):Int->Option (Int⊕Int):=λb=> bif b<(r.length:Int) then ((Ag r b).bind λh=> (N1 h.L l).bind λc=> bif (c==(0:Int)) then (some (.inl (Ac (b+1)))) else (some (.inr b))) else (some (.inr b))
theorem Bag {r:List Bf} {a:Bf} (h0:r[0]? = some a) (ht:∀b∈r,b.L.T.length<1099511627776) (u:r.length<=1000) :
  ∃n:Nat,Ak (Ahl r a.L) 1=some (n:Int)/\1<=n/\n<=r.length/\(∀b∈r.take n,b.L=a.L)/\∀b,r[n]? = some b->b.L≠a.L:=by
 have o:=Ec h0
 obtain⟨e,q,n,l,k⟩:=Jm (step:=Ahl r a.L) (λs=>∃n:Nat,s=(n:Int)/\1<=n/\n<=r.length/\∀b∈r.take n,b.L=a.L) (λs=>r.length-s.toNat)
  (λe=>∃n:Nat,e=(n:Int)/\1<=n/\n<=r.length/\(∀b∈r.take n,b.L=a.L)/\∀b,r[n]? = some b->b.L≠a.L) (by
  rintro _ ⟨j,rfl,g,f,c⟩
  unfold Ahl
  rcases Cf j r.length with h|h
  .have p:r[j]? = some r[j]:=Bp h
   have i:=getElem_mem h
   generalize r[j]=b at p i
   simp only[Ar (ω:(j:Int)<(r.length:Int)),Am,Bn rfl p,Ad,Agf _ _ (ht b i),C3 h ω]
   by_cases v:b.L=a.L
   .left
    rw[Eh ((Mp.zero _ _ trivial trivial).2 v)]
    refine⟨_,rfl,⟨j+1,rfl,ω,ω,λd m=>?_⟩,ω⟩
    rw[Cs p]at m
    rcases Ef.1 m with m|m
    .exact c d m
    .simp only[D4]at m
     rw[m];exact v
   .right
    rw[C8 λh=>v ((Mp.zero _ _ trivial trivial).1 h)]
    exact⟨_,rfl,j,rfl,g,f,c,λd m=>by rw[p]at m;cases m;exact v⟩
  .right
   refine⟨_,by simp only[A3 (ω:¬(j:Int)<(r.length:Int)),Ap],j,rfl,g,f,c,λd m=>?_⟩
   have:=Ec m
   omega) 1 ⟨1,rfl,ω,ω,λb w=>by
    cases r with
    | nil=>simp at o
    | cons x r=>simp at w h0;rw[w,h0]⟩
 exact⟨n,by rw[<-l];exact q,k⟩
noncomputable def Acg:(List Aj×List Bf)->Option ((List Aj×List Bf)⊕List Aj):=λ(g,b)=> bif (b.length:Int)>(0:Int) then ((Ag b 0).bind λf=> (Ak (Ahl b f.L) 1).bind λc=> (F1 b 0 c).bind λi=> (Oy i).bind λh=> (Ak (Ahk g f.L h) (0,[])).bind λ(k,j)=> (F1 b c b.length).bind λm=> some (.inl (j,m))) else (some (.inr g))
theorem Bah (n:Nat):n+1<=2 ^ n:=by induction n with| zero=>decide| succ n ih=>rw[Nat.pow_succ];omega
theorem Bai {B:List Ent} {f:Nat->Nat} {n M:Nat} (c:∀b∈B,b.1.length<=M):∀b∈Iu B l f n,b.1.length<=M+1:=by
 intro b m;unfold Iu at m;rw[mem_flatMap]at m;obtain⟨k,_,h⟩:=m;split at h
 .cases h
 .rw[mem_map]at h;obtain⟨d,o,rfl⟩:=h;have:=c d o;have:=Av9 l k;simp only[Ep];omega
theorem X8 (k:t.G=6) (h:Dj data i t=some d):Cx data i.K t.R=some d:=by
 rw[Mj,As k]at h;by_cases e:i.U=0
 .rw[As e]at h;exact h
 .rw[Ao e]at h;cases h
theorem Ahm (k:t.G=7) (h:Dj data i t=some d):(0<=i.U/\i.U<=6/\i.K.length=0)/\i.U.toNat=d:=by
 rw[Mj,Ao ω,As k]at h;by_cases e:0<=i.U/\i.U<=6/\i.K.length=0
 .rw[As e]at h;exact⟨e,Fh h⟩
 .rw[Ao e]at h;cases h
theorem X9 (k:t.G=5) (h:Dj data i t=some d):Fv data i.K t=some d:=by
 rw[Mj,Ao ω,Ao ω,As k]at h;by_cases e:i.U=0
 .rw[As e]at h;exact h
 .rw[Ao e]at h;cases h
def pv {α:Type} (f:α->Nat):List (α×Nat)->Nat
 | []=>0
 | p::l=>p.2*f p.1+pv f l
theorem Kg (f:α->Nat) (l m:List (α×Nat)):pv f (l++m)=pv f l+pv f m:=by induction l with| nil=>simp[pv]| cons p l ih=>simp only[D0,pv,ih];omega
theorem Ya (f:α->Nat) (g:β->α) (l:List (β×Nat)):pv f (l.map λp=>(g p.1,p.2))=pv (λx=>f (g x)) l:=by induction l with| nil=>rfl| cons p l ih=>simp only[map_cons,pv,ih]
theorem Qs {f:α->Nat} {l:List (α×Nat)} (h:∀p∈l,f p.1=g p.1):pv f l=pv g l:=by induction l with| nil=>rfl| cons p l ih=>simp only[pv,h p ψ,ih λq m=>h q (by simp[m])]
theorem Oe (c:Nat) (f:α->Nat) (l:List (α×Nat)):pv (λx=>c*f x) l=c*pv f l:=by induction l with| nil=>rfl| cons p l ih=>simp only[pv,ih,Nat.mul_add];rw[Nat.mul_left_comm]
theorem Ach (f:β->Nat) (g:α×Nat->List (β×Nat)) (h:α->Nat) (l:List (α×Nat)) (hg:∀p∈l,pv f (g p)=p.2*h p.1):pv f (l.flatMap g)=pv h l:=by induction l with| nil=>rfl| cons p l ih=>rw[flatMap_cons,Kg,hg p ψ,ih λq m=>hg q (by simp[m]),pv]
theorem Baj {f:α->Nat} {l:List (α×Nat)} (h:∀p∈l,f p.1<=g p.1):pv f l<=pv g l:=by induction l with| nil=>exact Nat.le_refl _| cons p l ih=>have n:=Nat.mul_le_mul_left p.2 (h p ψ);have o:=ih λq m=>h q (by simp[m]);simp only[pv];omega
def Ff (h:Ah) (c:Nat) (l:List (List Ah×Nat)):List (List Ah×Nat):=l.map λr=>(h::r.1,c*r.2)
def E8 (b:Af->Ah->Ah->List (Ah×Nat)):List Af->List Ah->List Ah->List (List Ah×Nat)
 | t::ts,i::is,j::c=>(b t i j).flatMap λw=>Ff w.1 w.2 (E8 b ts is c)
 | _,_,_=>[([],1)]
def Awi (row:Ah->Ah->List (Ah×Nat)) (a:Ah) (l:List Ah) (M:List Ah->List (List Ah×Nat)):List Ah->List (List Ah×Nat)
 | []=>[(a::l,1)]
 | b::m=>Ff a 1 (M (b::m))++(Ff b 1 (Awi row a l M m)++(row a b).flatMap λw=>Ff w.1 w.2 (M m))
def Kh (row:Ah->Ah->List (Ah×Nat)):List Ah->List Ah->List (List Ah×Nat)
 | []=>λm=>[(m,1)]
 | a::l=>Awi row a l (Kh row l)
theorem Aci (row:Ah->Ah->List (Ah×Nat)) (m:List Ah):Kh row [] m = [(m,1)]:=rfl
theorem Ahn (row:Ah->Ah->List (Ah×Nat)) (a:Ah) (l:List Ah):Kh row (a::l) [] = [(a::l,1)]:=rfl
theorem Acj (row:Ah->Ah->List (Ah×Nat)) (a b:Ah) (l m:List Ah):Kh row (a::l) (b::m)=Ff a 1 (Kh row l (b::m))++(Ff b 1 (Kh row (a::l) m)++(row a b).flatMap λw=>Ff w.1 w.2 (Kh row l m)):=rfl
def J4 (data:List Ai) (t:Af) (rows:List Af->List Ah->List Ah->List (List Ah×Nat)) (a b:Ah):List (Ah×Nat) := if a.U=b.U then (rows (J3 data t a.U) a.K b.K).map λr=>(⟨a.U,r.1⟩,r.2) else []
def Yb (a b:Nat):List (Ah×Nat):=((range (a+b+1)).filter λk=>Rc a b k != 0).map λ(k:Nat)=>(⟨(k:Int),[]⟩,Rc a b k)
def Eb (data:List Ai):Nat->Af->Ah->Ah->List (Ah×Nat)
 | 0,_,_,_=>[]
 | k+1,t,i,j=> if t.G=6 then (E8 (Eb data k) t.R i.K j.K).map λr=>(⟨0,r.1⟩,r.2) else if t.G=7 then Yb i.U.toNat j.U.toNat else if t.G=5 then (Kh (J4 data t (E8 (Eb data k))) i.K j.K).map λr=>(⟨0,r.1⟩,r.2) else [(⟨0,[]⟩,1)]
def eS {α:Type}:List (α->Nat)->List α->Nat
 | [],_=>1
 | _::_,[]=>0
 | w::b,x::xs=>eS (w::b) xs+w x*eS b xs
theorem Vi (xs:List α):eS [] xs=1:=by cases xs <;> rfl
theorem Aho {α:Type} (w:α->Nat) (x:α):∀(l:List α) (b:List (α->Nat)),eS (b++[w]) (l++[x])=eS (b++[w]) l+eS b l*w x
 | [],[]=>by simp[eS]
 | [],v::m=>by cases m <;> simp[eS]
 | y::l,[]=>by have h:=Aho w x l [];simp only[nil_append,D0,eS,Vi]at h ⊢;omega
 | y::l,v::m=>by have n:=Aho w x l (v::m);have o:=Aho w x l m;simp only[D0,eS]at n ⊢;rw[n,o];simp only[Nat.mul_add,Nat.add_mul,Nat.mul_assoc];omega
theorem Awj (b:List (α->Nat)):∀(n:Nat) (l:List α) (q:Nat),l.length=n->q<=b.length->dpS b l q=eS (b.take q) l:=by
 intro n;induction n with
 | zero=>
  intro l q g m;have:l = []:=F3.1 g;subst this;cases q with
  | zero=>rfl
  | succ q=>cases b with| nil=>simp at m| cons w b=>rfl
 | succ n ih=>
  intro l q g m;rcases eq_nil_or_concat l with h|⟨c,x,h⟩
  .subst h;simp at g
  .rw[concat_eq_append]at h;subst h;rw[Avy];have f:c.length=n:=(by simpa using g);cases q with
   | zero=>rw[take_zero,Vi];show dpS b c 0=1;rw[ih c 0 f ω,take_zero,Vi]
   | succ q=>
    have o:b[q]? = some b[q]:=Bp _;show dpS b c (q+1)+dpS b c q*(match b[q]? with|some w=>w x|none=>0)=_
    rw[ih c (q+1) f m,ih c q f ω,o,Cs o,Aho]
theorem Am1 (b:Ah->β->Nat) (h:Ah) (c:Nat) (L:List (List Ah×Nat)):pv (λr=>eS (r.map b) []) (Ff h c L)=0:=by induction L with| nil=>rfl| cons r L ih=>show _*eS (b h::r.1.map b) []+pv (λr=>eS (r.map b) []) (Ff h c L)=0;rw[ih];rfl
theorem Am2 (b:Ah->β->Nat) (h:Ah) (c:Nat) (x:β) (xs:List β) (L:List (List Ah×Nat)) : pv (λr=>eS (r.map b) (x::xs)) (Ff h c L)=pv (λr=>eS (r.map b) xs) (Ff h c L)+c*b h x*pv (λr=>eS (r.map b) xs) L:=by induction L with| nil=>rfl| cons r L ih=>show c*r.2*eS (b h::r.1.map b) (x::xs)+pv (λr=>eS (r.map b) (x::xs)) (Ff h c L)=(c*r.2*eS (b h::r.1.map b) xs+pv (λr=>eS (r.map b) xs) (Ff h c L))+c*b h x*(r.2*eS (r.1.map b) xs+pv (λr=>eS (r.map b) xs) L);rw[ih,eS];simp only[Nat.mul_add];have:c*r.2*(b h x*eS (r.1.map b) xs)=c*b h x*(r.2*eS (r.1.map b) xs):=(by ac_rfl);omega
theorem Awk {β:Type} (b:Ah->β->Nat) (x:β) (xs:List β) (L:List (List Ah×Nat)):∀R:List (Ah×Nat), pv (λr=>eS (r.map b) (x::xs)) (R.flatMap λw=>Ff w.1 w.2 L)=pv (λr=>eS (r.map b) xs) (R.flatMap λw=>Ff w.1 w.2 L)+pv (λe=>b e x) R*pv (λr=>eS (r.map b) xs) L
 | []=>by simp[pv]
 | w::R=>by rw[flatMap_cons,Kg,Kg,Am2,Awk b x xs L R];simp only[pv,Nat.add_mul];omega
theorem Bak {row:Ah->Ah->List (Ah×Nat)} {c:Ah->β->Nat}:∀(xs:List β),(∀x∈xs,∀a,P a->∀b,Q b->pv (λe=>c e x) (row a b)=c a x*c b x)->∀(l m:List Ah),(∀a∈l,P a)->(∀b∈m,Q b) -> pv (λr=>eS (r.map c) xs) (Kh row l m)=eS (l.map c) xs*eS (m.map c) xs:=by
 have one:∀(xs:List β) (m:List Ah),pv (λr:List Ah=>eS (r.map c) xs) [(m,1)]=eS (m.map c) xs:=λxs m=>by show 1*eS (m.map c) xs+0=_;omega
 intro xs;induction xs with
 | nil=>
  intro _ l;cases l with
  | nil=>intro m _ _;rw[Aci,one,map_nil,Vi,Nat.one_mul]
  | cons a l=>
   intro m z s;show _=0*_;rw[Nat.zero_mul];cases m with
   | nil=>rw[Ahn,one];rfl
   | cons b m=>
    rw[Acj,Kg,Kg,Am1,Am1];rw[Ach (h:=λ_=>0) (hg:=λp _=>by rw[Am1,Nat.mul_zero])];have:∀L:List (Ah×Nat),pv (λ_=>0) L=0:=λL=>by induction L with| nil=>rfl| cons p L ih=>simp only[pv,ih];omega
    rw[this]
 | cons x xs ih=>
  intro f l;have ih:=ih λy n=>f y (by simp[n]);cases l with
  | nil=>intro m _ _;rw[Aci,one,map_nil,Vi,Nat.one_mul]
  | cons a l=>intro m;cases m with| nil=>intro _ _;rw[Ahn,one,map_nil,Vi,Nat.mul_one]| cons b m=>intro z s;have u:∀a∈l,P a:=λy n=>z y (by simp[n]);have q:∀b∈m,Q b:=λy n=>s y (by simp[n]);have o:=ih (a::l) (b::m) z s;rw[Acj,Kg,Kg]at o;rw[Acj,Kg,Kg,Am2,Am2,Awk,f x ψ a (z a ψ) b (s b ψ),ih l (b::m) u s,ih (a::l) m z q,ih l m u q];simp only[map_cons,eS]at o ⊢;generalize eS (c a::l.map c) xs=A at *;generalize eS (c b::m.map c) xs=B at *;generalize eS (l.map c) xs=k at *;generalize eS (m.map c) xs=j at *;generalize c a x=i at *;generalize c b x=g at *;have D:(A+i*k)*(B+g*j)=A*B+i*(k*B)+g*(A*j)+i*g*(k*j):=(by simp only[Nat.add_mul,Nat.mul_add];have I:A*(g*j)=g*(A*j):=(by ac_rfl);have G:i*k*B=i*(k*B):=(by ac_rfl);have E:i*k*(g*j)=i*g*(k*j):=(by ac_rfl);omega);rw[D,<-o];simp only[Nat.one_mul];omega
theorem Ack (f:List Ah->Nat) (h:Ah) (c:Nat) (L:List (List Ah×Nat)):pv f (Ff h c L)=c*pv (λr=>f (h::r)) L:=by induction L with| nil=>rfl| cons r L ih=>show c*r.2*f (h::r.1)+pv f (Ff h c L)=c*(r.2*f (h::r.1)+pv (λr=>f (h::r)) L);rw[ih,Nat.mul_add,Nat.mul_assoc]
theorem Bal (L:List (α×Nat)):pv (λ_=>0) L=0:=by induction L with| nil=>rfl| cons p L ih=>simp only[pv,ih];omega
theorem Awl {g:Af->Ah->Ah->List (Ah×Nat)} (u:∀t i j w a b,Bw i<=k->Dj data i t=some a->Dj data j t=some b->G5 data w t=true->pv (λx=>bv data x t w) (g t i j)=bv data i t w*bv data j t w) : ∀(ts:List Af) (is f:List Ah) (c:List Ay) (q l:Nat),Cd is<=k->Cx data is ts=some q->Cx data f ts=some l->Hw data c ts=true->pv (λr=>bvs data r ts c) (E8 g ts is f)=bvs data is ts c*bvs data f ts c:=by
 intro ts;induction ts with
 | nil=>
  intro is f c q l _ m n o;cases is with
  | cons i is=>simp only[Cx]at m;cases m
  | nil=>cases f with| cons j f=>simp only[Cx]at n;cases n| nil=>simp only[E8,pv,Su]
 | cons t ts ih=>
  intro is f c q l s m n o;cases is with
  | nil=>simp only[Cx]at m;cases m
  | cons i is=>
   cases f with
   | nil=>simp only[Cx]at n;cases n
   | cons j f=>
    cases c with
    | nil=>simp only[Hw]at o;cases o
    | cons w c=>
     simp only[Hw,Cz]at o;simp only[Cd]at s;rw[Nb]at m n;cases v:Dj data i t with
     | none=>rw[v]at m;cases m
     | some a=>
      cases E:Cx data is ts with
      | none=>rw[v,E]at m;cases m
      | some B=>
       cases C:Dj data j t with
       | none=>rw[C]at n;cases n
       | some b=>
        cases F:Cx data f ts with
        | none=>rw[C,F]at n;cases n
        | some A=>
         have z:=u t i j w a b ω v C o.1;have y:=ih is f c B A ω E F o.2;show pv (λr=>bvs data r (t::ts) (w::c)) ((g t i j).flatMap λw=>Ff w.1 w.2 (E8 g ts is f))=_;rw[Ach (h:=λx=>pv (λr=>bvs data r ts c) (E8 g ts is f)*bv data x t w) (hg:=λp _=>by rw[Ack];have:(λr=>bvs data (p.1::r) (t::ts) (w::c))=λr=>bv data p.1 t w*bvs data r ts c:=(by funext r;rw[Ss]);rw[this,Oe,Nat.mul_comm (bv data p.1 t w)]),Oe,z,y,Ss,Ss]
         ac_rfl
theorem Awm (data:List Ai):∀(c:List Ay) (l:List Af) (r:List Bool),Hw data c l=true->Hw data (J2 c r) (F6 l r)=true
 | [],[],r,_=>by simp[J2,F6,Hw]
 | w::c,t::l,[],_=>by simp[J2,F6,Hw]
 | w::c,t::l,b::r,h=>by simp only[Hw,Cz]at h;have ih:=Awm data c l r h.2;unfold J2 F6 at ih ⊢;cases b with| true=>simpa using ih| false=>simp only[zip_cons_cons,filter_cons,Bool.not_false,if_true,map_cons,Hw,h.1,Bool.true_and];exact ih
 | [],_::_,_,h=>by simp only[Hw]at h;cases h
 | _::_,[],_,h=>by simp only[Hw]at h;cases h
theorem Bam (n:t.G=5) {x:Ay} (h:G5 data x t=true):Hw data (J2 x.K (Ea data t.U x.U)) (J3 data t x.U)=true:=by rw[So,Ao ω,Ao ω,Ao ω,Ao ω,As n]at h;cases m:Jg data t x.U with| none=>rw[m]at h;simp at h| some l=>rw[m]at h;simp only[Cz]at h;have e:J3 data t x.U=F6 l (Ea data t.U x.U):=(by unfold J3 Gu;rw[m];rfl);rw[e];exact Awm data _ _ _ h.2
theorem Am3 (data:List Ai) (t:Af):∀es:List Ah,bws data es t=es.map (wOf data t)
 | []=>by simp only[bws,map_nil]
 | ⟨n,b⟩::es=>by simp only[bws,Am3 data t es,map_cons];rfl
theorem Ban (a b n:Nat):pv (λx:Ah=>bc n x.U.toNat) (Yb a b)=bc n a*bc n b:=by
 rw[<-X4 n a b (a+b+1) ω];unfold Yb;generalize a+b+1=N;induction N with
 | zero=>rfl
 | succ N ih=>
  rw[range_succ,filter_append,map_append,Kg,ih,sm];congr 1;by_cases h:Rc a b N=0
  .simp[h,pv]
  .simp[h,pv]
theorem Bao:∀(k:Nat) (t:Af) (i j:Ah) (w:Ay) (B A:Nat),Bw i<=k->Dj data i t=some B->Dj data j t=some A->G5 data w t=true->pv (λx=>bv data x t w) (Eb data k t i j)=bv data i t w*bv data j t w:=by
 intro k;induction k with
 | zero=>intro t i j w B A h;have:=Es i;omega
 | succ k ih=>
  intro t i j w B A S n o z;have J:=Es i;rw[Qp data i,Qp data j,Eb];by_cases c:t.G=6
  .rw[As c,As c,As c,Ya];have n:=X8 c n;have o:=X8 c o;rw[So,Ao ω,Ao ω,Ao ω,As c]at z;simp only[Cz]at z;rw[<-Awl (k:=k) (λt i j w a b C F H G=>ih t i j w a b C F H G) t.R i.K j.K w.K B A ω n o z.2];exact Qs λp _=>by rw[Qp,As c]
  .rw[Ao c,Ao c,Ao c];by_cases s:t.G=7
   .rw[As s,As s,As s,<-Ban];exact Qs λp _=>by rw[Qp,Ao c,As s]
   .rw[Ao s,Ao s,Ao s];by_cases f:t.G=5
    .have n:=X9 f n;have o:=X9 f o;obtain⟨_,R⟩:=Ab9 data _ _ _ n;obtain⟨_,N⟩:=Ab9 data _ _ _ o;have y:∀l:List Ah,dpS (bws data l t) (Ip data t.U w) l.length=eS (l.map (wOf data t)) (Ip data t.U w):=λl=>by rw[Awj _ _ _ _ rfl (by rw[Am3,C2];exact Nat.le_refl _),Am3,Ik (by rw[C2];exact Nat.le_refl _)]
     rw[As f,As f,As f,Ya,y,y];rw[<-Bak (P:=λa=>Bw a<=k/\∃ts,Gu data t a.U=some ts/\Cx data a.K ts=some (pdg data t a)) (Q:=λb=>∃ts,Gu data t b.U=some ts/\Cx data b.K ts=some (pdg data t b)) (row:=J4 data t (E8 (Eb data k))) (Ip data t.U w) (λx V a v b W=>?_) i.K j.K (λa v=>⟨by have:=Kd v;omega,R a v⟩) N]
     .exact Qs λp _=>by rw[Qp,Ao c,Ao s,As f];exact y p.1
     .obtain⟨D,_⟩:=Avi f _ w (Nat.le_refl _) z x V;obtain⟨M,ts,T,X⟩:=v;obtain⟨I,U,b2⟩:=W;have L:=Es a;unfold J4;by_cases e:a.U=b.U
      .rw[As e,Ya];by_cases m:x.U=a.U
       .have u:J3 data t a.U=ts:=(by unfold J3;rw[T]);have E:I=ts:=(by rw[<-e,T]at U;exact (Fh U).symm);subst E;have hp:=Bam f D;rw[m,u]at hp;have hv:=Awl (k:=k) (λt i j w a b C F H G=>ih t i j w a b C F H G) I a.K b.K (J2 x.K (Ea data t.U a.U)) _ _ ω X b2 hp;unfold wOf;rw[As m,As ω,u,<-e,u,<-hv];exact Qs λp _=>by rw[As m];rw[u]
       .have J:∀r:List Ah,wOf data t ⟨a.U,r⟩ x=0:=λr=>by unfold wOf;rw[Ao m]
        have q:wOf data t a x=0:=(by unfold wOf;rw[Ao m]);rw[q,Nat.zero_mul,Qs (g:=λ_=>0) λp _=>J p.1,Bal]
      .rw[Ao e];show 0=_;by_cases m:x.U=a.U
       .have q:wOf data t b x=0:=(by unfold wOf;rw[Ao ω]);rw[q,Nat.mul_zero]
       .have q:wOf data t a x=0:=(by unfold wOf;rw[Ao m]);rw[q,Nat.zero_mul]
    .rw[Ao f,Ao f,Ao f];show 1*bv data ⟨0,[]⟩ t w+0=1*1;rw[Qp,Ao c,Ao s,Ao f]
theorem Acl:∀(a b N:Nat),sm N (Rc a b)<=3 ^ (a+b)
 | 0,b,N=>by
  have m:1<=3 ^ (0+b):=Nat.pow_pos δ;by_cases h:b<N
  .rw[Ab6 (k:=b) h λj n=>by rw[Ab7,Ao n],Ab7,As rfl];exact m
  .rw[Ve λk o=>by rw[Ab7,Ao ω]];omega
 | a+1,0,N=>by
  have m:1<=3 ^ (a+1+0):=Nat.pow_pos δ;by_cases h:a+1<N
  .rw[Ab6 (k:=a+1) h λj n=>by rw[Ab8,Ao n],Ab8,As rfl];exact m
  .rw[Ve λk o=>by rw[Ab8,Ao ω]];omega
 | a+1,b+1,0=>Nat.zero_le _
 | a+1,b+1,N+1=>by rw[Aha,Avo,X1 λk _=>Avn a b k];have e:sm N (λk=>Rc a (b+1) k+Rc (a+1) b k+Rc a b k)=sm N (Rc a (b+1))+sm N (Rc (a+1) b)+sm N (Rc a b):=(by rw[Vd λk=>Rc a (b+1) k+Rc (a+1) b k,Vd]);have m:=Acl a (b+1) N;have p:=Acl (a+1) b N;have q:=Acl a b N;have g:a+(b+1)=a+b+1:=ω;have f:a+1+b=a+b+1:=ω;have c:a+1+(b+1)=a+b+2:=ω;rw[g]at m;rw[f]at p;rw[e,c];have l:3 ^ (a+b+1)=3 ^ (a+b)*3:=Nat.pow_succ ..;have i:3 ^ (a+b+2)=3 ^ (a+b+1)*3:=Nat.pow_succ ..;omega
theorem Bap (a b:Nat):pv (λ_=>1) (Yb a b)<=3 ^ (a+b):=by
 have h:=Acl a b (a+b+1);refine Nat.le_trans (Nat.le_of_eq ?_) h;unfold Yb;generalize a+b+1=N;induction N with
 | zero=>rfl
 | succ N ih=>
  rw[range_succ,filter_append,map_append,Kg,ih,sm];congr 1;by_cases h:Rc a b N=0
  .simp[h,pv]
  .simp[h,pv]
structure Gp (data:List Ai) (t:Af) (D S:Nat) (p:Ah×Nat):Prop where
 pos:1<=p.2
 deg:∃d,Dj data p.1 t=some d/\d<=D
 siz:Bw p.1<=S
 num:iR p.1
structure Gr (data:List Ai) (ts:List Af) (D S:Nat) (p:List Ah×Nat):Prop where
 pos:1<=p.2
 deg:∃d,Cx data p.1 ts=some d/\d<=D
 siz:Cd p.1<=S
 num:Fc p.1
structure Ge (data:List Ai) (t:Af) (D S:Nat) (p:List Ah×Nat):Prop where
 pos:1<=p.2
 deg:∃d,Fv data p.1 t=some d/\d<=D
 siz:Cd p.1<=S
 num:Fc p.1
def Acm (data:List Ai) (k:Nat) (b:Af->Ah->Ah->List (Ah×Nat)):Prop:=∀(t:Af) (i j:Ah) (f c:Nat),Bw i<=k->Dj data i t=some f->Dj data j t=some c->f+c<=6->iR i->iR j -> (∀p∈b t i j,Gp data t (f+c) (Bw i+Bw j) p)/\pv (λ_=>1) (b t i j)<=3 ^ (f+c)
theorem Ahp {h:Ah} {c:Nat} {L:List (List Ah×Nat)} {p:List Ah×Nat} (hp:p∈Ff h c L):∃r∈L,p=(h::r.1,c*r.2):=by obtain⟨r,m,n⟩:=mem_map.1 hp;exact⟨r,m,n.symm⟩
theorem Ahq {c:Af->Ah->Ah->List (Ah×Nat)} (A:Acm data k c) : ∀(ts:List Af) (is f:List Ah) (l g:Nat),Cd is<=k->Cx data is ts=some l->Cx data f ts=some g->l+g<=6->Fc is->Fc f -> (∀p∈E8 c ts is f,Gr data ts (l+g) (Cd is+Cd f) p)/\pv (λ_=>1) (E8 c ts is f)<=3 ^ (l+g):=by
 intro ts;induction ts with
 | nil=>
  intro is f l g _ m n _ _ _;cases is with
  | cons i is=>simp only[Cx]at m;cases m
  | nil=>
   cases f with
   | cons j f=>simp only[Cx]at n;cases n
   | nil=>
    refine⟨λp hp=>?_,?_⟩
    .simp only[E8,D4]at hp;subst hp;exact⟨Nat.le_refl _,⟨0,by simp only[Cx],ω⟩,by simp[Cd],by simp[Fc]⟩
    .show 1*1+0<=_;exact Nat.pow_pos δ
 | cons t ts ih=>
  intro is f l g y m n J s q;cases is with
  | nil=>simp only[Cx]at m;cases m
  | cons i is=>
   cases f with
   | nil=>simp only[Cx]at n;cases n
   | cons j f=>
    simp only[Cd]at y;simp only[Fc]at s q;rw[Nb]at m n;cases o:Dj data i t with
    | none=>rw[o]at m;cases m
    | some a=>
     cases H:Cx data is ts with
     | none=>rw[o,H]at m;cases m
     | some x=>
      cases v:Dj data j t with
      | none=>rw[v]at n;cases n
      | some b=>
       cases N:Cx data f ts with
       | none=>rw[v,N]at n;cases n
       | some u=>
        rw[o,H]at m;rw[v,N]at n;have m:a+x=l:=Fh m;have n:b+u=g:=Fh n;obtain⟨D,B⟩:=A t i j a b ω o v ω s.1 q.1;obtain⟨f1,f2⟩:=ih is f x u ω H N ω s.2 q.2;refine⟨λp hp=>?_,?_⟩
        .obtain⟨w,T,hp⟩:=mem_flatMap.1 (show p∈(c t i j).flatMap λw=>Ff w.1 w.2 (E8 c ts is f) from hp);obtain⟨r,z,rfl⟩:=Ahp hp;have C:=D w T;have F:=f1 r z;obtain⟨d,d1,d2⟩:=C.deg;obtain⟨E,d3,d4⟩:=F.deg;refine⟨Nat.mul_pos C.pos F.pos,⟨d+E,by rw[Nb,d1,Ad,d3];rfl,ω⟩,?_,?_⟩
         .have I:=C.siz;have G:=F.siz;simp only[Cd];omega
         .simp only[Fc];exact⟨C.num,F.num⟩
        .show pv (λ_=>1) ((c t i j).flatMap λw=>Ff w.1 w.2 (E8 c ts is f))<=_;rw[Ach (h:=λ_=>pv (λ_=>1) (E8 c ts is f)*1) (hg:=λp _=>by rw[Ack,Nat.mul_one]),Oe];have:=Nat.mul_le_mul f2 B;rw[<-Nat.pow_add,show x+u+(a+b)=l+g by omega]at this;exact this
theorem Ahr (h:Fv data (e::es) t=some d):∃ts a b,Gu data t e.U=some ts/\Cx data e.K ts=some a/\Fv data es t=some b/\d=1+a+b:=by
 rw[Uv]at h;cases n:Gu data t e.U with
 | none=>rw[n]at h;cases h
 | some ts=>
  rw[n,Ad]at h;cases m:Cx data e.K ts with
  | none=>rw[m]at h;cases h
  | some a=>rw[m,Ad]at h;cases o:Fv data es t with| none=>rw[o]at h;cases h| some b=>rw[o]at h;exact⟨ts,a,b,rfl,m,rfl,(Fh h).symm⟩
theorem Am4 {ts:List Af} {b:Nat} (h:Gu data t e.U=some ts) (m:Cx data e.K ts=some a) (n:Fv data es t=some b):Fv data (e::es) t=some (1+a+b):=by rw[Uv,h,Ad,m,Ad,n];rfl
theorem Baq {c:Af->Ah->Ah->List (Ah×Nat)} (z:Acm data k c) {a b:Ah} {ts i:List Af} {h f:Nat} (x:Cd a.K<=k) (a1:Gu data t a.U=some ts) (B:Cx data a.K ts=some h) (b1:Gu data t b.U=some i) (b2:Cx data b.K i=some f) (A:h+f<=6) (j:iR a) (u:iR b) : (∀p∈J4 data t (E8 c) a b,1<=p.2/\(∃d,Cx data p.1.K ts=some d/\d<=h+f)/\p.1.U=a.U/\Bw p.1+1<=Bw a+Bw b/\iR p.1)/\pv (λ_=>1) (J4 data t (E8 c) a b)<=3 ^ (h+f):=by
 unfold J4;by_cases e:a.U=b.U
 .have q:J3 data t a.U=ts:=(by unfold J3;rw[a1]);have l:i=ts:=(by rw[<-e,a1]at b1;exact (Fh b1).symm);subst l;rw[Pe]at j u;obtain⟨f1,f2⟩:=Ahq z i a.K b.K h f x B b2 A j.2 u.2;rw[As e,q];refine⟨λp hp=>?_,by rw[Ya];exact f2⟩;obtain⟨r,y,rfl⟩:=mem_map.1 hp;have g:=f1 r y;have s:=g.siz;have E:=Es a;have D:=Es b;refine⟨g.pos,g.deg,rfl,?_,?_⟩
  .rw[Es];show 1+Cd r.1+1<=_;omega
  .rw[Pe];exact⟨j.1,g.num⟩
 .rw[Ao e];exact⟨λp hp=>(by cases hp),Nat.zero_le _⟩
theorem Awn {u:Af->Ah->Ah->List (Ah×Nat)} (hm:Acm data k u) (t:Af) : ∀(l m:List Ah) (z y:Nat),Cd l<=k+1->(∀e∈l,Cd e.K<=k)->Fv data l t=some z->Fv data m t=some y->z+y<=6->Fc l->Fc m -> (∀p∈Kh (J4 data t (E8 u)) l m,Ge data t (z+y) (Cd l+Cd m) p)/\pv (λ_=>1) (Kh (J4 data t (E8 u)) l m)<=3 ^ (z+y):=by
 have x:∀(l m:List Ah) (D S:Nat),(∃d,Fv data l t=some d/\d<=D)->Cd l<=S->Fc l->(∀p∈[(l,1)],Ge data t D S p)/\pv (λ_=>1) [(l,1)]<=3 ^ D:=λl m D S o v h3=>by
  refine⟨λp hp=>?_,?_⟩
  .simp only[D4]at hp;subst hp;exact⟨Nat.le_refl _,o,v,h3⟩
  .show 1*1+0<=_;exact Nat.pow_pos δ
 intro l;induction l with
 | nil=>intro m z y _ _ _ v _ _ G;rw[Aci];exact x m m _ _ ⟨y,v,ω⟩ ω G
 | cons a l A=>
  intro m;induction m with
  | nil=>intro z y _ _ o _ _ I _;rw[Ahn];exact x _ [] _ _ ⟨z,o,ω⟩ ω I
  | cons b m J=>
   intro z y hs C o v h6 I G;obtain⟨ts,q,n,F,H,T,rfl⟩:=Ahr o;obtain⟨us,j,c,W,b2,L,rfl⟩:=Ahr v;have i:=I;have f:=G;simp only[Fc]at i f;have za:Cd (a::l)=Bw a+Cd l:=(by simp only[Cd]);have zb:Cd (b::m)=Bw b+Cd m:=(by simp only[Cd]);have E:∀e∈l,Cd e.K<=k:=λe he=>C e (by simp[he]);obtain⟨R,x2⟩:=A (b::m) n (1+j+c) ω E T v ω i.2 G;obtain⟨N,y2⟩:=J (1+q+n) c hs C o L ω I f.2;obtain⟨M,z2⟩:=A m n c ω E T L ω i.2 f.2;obtain⟨V,U⟩:=Baq hm (t:=t) (C a ψ) F H W b2 ω i.1 f.1;rw[Acj];refine⟨λp hp=>?_,?_⟩
   .rcases Ef.1 hp with hp|hp
    .obtain⟨r,B,rfl⟩:=Ahp hp;have g:=R r B;obtain⟨d,d1,d2⟩:=g.deg;have s:=g.siz;refine⟨by have:=g.pos;show 1<=1*r.2;omega,⟨_,Am4 F H d1,ω⟩,?_,?_⟩
     .simp only[Cd]at s ⊢;omega
     .simp only[Fc];exact⟨i.1,g.num⟩
    .rcases Ef.1 hp with hp|hp
     .obtain⟨r,B,rfl⟩:=Ahp hp;have g:=N r B;obtain⟨d,d1,d2⟩:=g.deg;have s:=g.siz;refine⟨by have:=g.pos;show 1<=1*r.2;omega,⟨_,Am4 W b2 d1,ω⟩,?_,?_⟩
      .simp only[Cd]at s ⊢;omega
      .simp only[Fc];exact⟨f.1,g.num⟩
     .obtain⟨w,hw,hp⟩:=mem_flatMap.1 hp;obtain⟨r,B,rfl⟩:=Ahp hp;obtain⟨Y,⟨d',v2,v3⟩,v4,v5,X⟩:=V w hw;have g:=M r B;obtain⟨d,d1,d2⟩:=g.deg;have s:=g.siz;refine⟨Nat.mul_pos Y g.pos,⟨_,Am4 (by rw[v4];exact F) v2 d1,ω⟩,?_,?_⟩
      .simp only[Cd]at s ⊢;omega
      .simp only[Fc];exact⟨X,g.num⟩
   .rw[Kg,Kg,Ack,Ack];rw[Ach (h:=λ_=>pv (λ_=>1) (Kh (J4 data t (E8 u)) l m)*1) (hg:=λp _=>by rw[Ack,Nat.mul_one]),Oe];have Z:=Nat.mul_le_mul z2 U;rw[<-Nat.pow_add]at Z;have p1:3 ^ (n+(1+j+c))<=3 ^ (1+q+n+(j+c)):=Nat.pow_le_pow_right δ ω;have p2:3 ^ (1+q+n+c)<=3 ^ (1+q+n+(j+c)):=Nat.pow_le_pow_right δ ω;have p3:3 ^ (n+c+(q+j))<=3 ^ (1+q+n+(j+c)):=Nat.pow_le_pow_right δ ω;have p4:3 ^ (1+q+n+(1+j+c))=3 ^ (1+q+n+(j+c))*3:=(by rw[show 1+q+n+(1+j+c)=(1+q+n+(j+c))+1 by omega,Nat.pow_succ]);omega
theorem Qt (data:List Ai):∀k,Acm data k (Eb data k):=by
 intro k;induction k with
 | zero=>intro t i j x u h;have:=Es i;omega
 | succ k ih=>
  intro t i j x u M m o A D B;have L:=Es i;have G:=Es j;have f:=D;have c:=B;rw[Pe]at f c;rw[Eb];by_cases b:t.G=6
  .rw[As b,Ya];have m:=X8 b m;have o:=X8 b o;obtain⟨f1,f2⟩:=Ahq ih t.R i.K j.K x u ω m o A f.2 c.2;refine⟨λp hp=>?_,f2⟩;obtain⟨r,z,rfl⟩:=mem_map.1 hp;have g:=f1 r z;obtain⟨d,d1,d2⟩:=g.deg;refine⟨g.pos,⟨d,by rw[Mj,As b,As rfl];exact d1,d2⟩,?_,?_⟩
   .have s:=g.siz;rw[Es];show 1+Cd r.1<=_;omega
   .rw[Pe];exact⟨by show E5 0;unfold E5;omega,g.num⟩
  .rw[Ao b];by_cases l:t.G=7
   .rw[As l,(Ahm l m).2,(Ahm l o).2];refine⟨λp hp=>?_,Bap x u⟩;obtain⟨n,I,rfl⟩:=mem_map.1 hp;obtain⟨E,y⟩:=mem_filter.1 I;rw[mem_range]at E;have y:Rc x u n≠0:=(by simpa using y);refine⟨Nat.pos_of_ne_zero y,⟨n,by rw[Mj,Ao b,As l,As ⟨by show (0:Int)<=n;omega,by show (n:Int)<=6;omega,rfl⟩];rfl,ω⟩,?_,?_⟩
    .rw[Es];show 1+Cd []<=_;simp only[Cd];omega
    .rw[Pe];exact⟨by show E5 (n:Int);unfold E5;omega,by show Fc [];simp only[Fc]⟩
   .rw[Ao l];by_cases q:t.G=5
    .rw[As q,Ya];have m:=X9 q m;have o:=X9 q o;obtain⟨f1,f2⟩:=Awn ih t i.K j.K x u ω (λe J=>by have:=Kd J;have:=Es e;omega) m o A f.2 c.2;refine⟨λp hp=>?_,f2⟩;obtain⟨r,z,rfl⟩:=mem_map.1 hp;have g:=f1 r z;obtain⟨d,d1,d2⟩:=g.deg;refine⟨g.pos,⟨d,by rw[Mj,Ao b,Ao l,As q,As rfl];exact d1,d2⟩,?_,?_⟩
     .have s:=g.siz;rw[Es];show 1+Cd r.1<=_;omega
     .rw[Pe];exact⟨by show E5 0;unfold E5;omega,g.num⟩
    .rw[Ao q];refine⟨λp hp=>?_,?_⟩
     .simp only[D4]at hp;subst hp;refine⟨Nat.le_refl _,⟨0,by rw[Mj,Ao b,Ao l,Ao q,As ⟨rfl,rfl⟩],ω⟩,?_,?_⟩
      .rw[Es];show 1+Cd []<=_;simp only[Cd];omega
      .rw[Pe];exact⟨by show E5 0;unfold E5;omega,by show Fc [];simp only[Fc]⟩
     .show 1*1+0<=_;exact Nat.pow_pos δ
theorem Mu {l:List (α×Nat)} (h:∀p∈l,1<=p.2):l.length<=pv (λ_=>1) l:=by induction l with| nil=>exact Nat.le_refl _| cons p l ih=>have n:=h p ψ;have o:=ih λq m=>h q (by simp[m]);simp only[D1,pv];omega
theorem Pn {l:List (α×Nat)} {p:α×Nat} (h:p∈l):p.2<=pv (λ_=>1) l:=by
 induction l with
 | nil=>cases h
 | cons q l ih=>
  simp only[pv];rcases Gc.1 h with rfl|h
  .omega
  .have:=ih h;omega
def Ba (p:Ah×Nat):Au:=⟨p.1,cR p.2⟩
def toR (p:List Ah×Nat):Ii:=⟨p.1,cR p.2⟩
theorem Awo {b:Nat} (h:a<=729) (hb:b<=729):Fa (cR a) (cR b)=some (cR (a*b)):=Amw (K:=3) (K6 ω) (K6 ω) δ δ
theorem Sy (h:d<=6):3 ^ d<=729:=Nat.le_trans (Nat.pow_le_pow_right δ h) δ
theorem Awp {α:Type} (h:Ah) (c:Nat) (f:α->List (List Ah×Nat)):∀L:List α,Ff h c (L.flatMap f)=L.flatMap λr=>Ff h c (f r)
 | []=>rfl
 | r::L=>by have ih:=Awp h c f L;unfold Ff at ih ⊢;rw[flatMap_cons,flatMap_cons,map_append,ih]
def J5 (W:List (Ah×Nat)) (r:List Ah×Nat):List (List Ah×Nat):=W.map λw=>(r.1++[w.1],r.2*w.2)
theorem Awq (b:Af->Ah->Ah->List (Ah×Nat)) (t:Af) (i j:Ah):∀(ts:List Af) (is c:List Ah),is.length=ts.length->c.length=ts.length -> E8 b (ts++[t]) (is++[i]) (c++[j])=(E8 b ts is c).flatMap (J5 (b t i j))
 | [],[],[],_,_=>by show (b t i j).flatMap (λw=>Ff w.1 w.2 [([],1)])=J5 (b t i j) ([],1)++[];rw[append_nil];unfold J5;induction b t i j with| nil=>rfl| cons w W ih=>rw[flatMap_cons,ih];show [([w.1],w.2*1)]++_=_;rw[Nat.mul_one,map_cons,Nat.one_mul];rfl
 | t0::ts,m::is,f::c,n,o=>by show (b t0 m f).flatMap (λw=>Ff w.1 w.2 (E8 b (ts++[t]) (is++[i]) (c++[j])))=((b t0 m f).flatMap λw=>Ff w.1 w.2 (E8 b ts is c)).flatMap (J5 (b t i j));rw[Awq b t i j ts is c (by simpa using n) (by simpa using o),flatMap_assoc];congr 1;funext w;rw[Awp];unfold Ff;rw[flatMap_map];congr 1;funext r;unfold J5;rw[map_map];congr 1;funext v;show (w.1::(r.1++[v.1]),w.2*(r.2*v.2))=(w.1::r.1++[v.1],w.2*r.2*v.2);rw[Nat.mul_assoc];rfl
 | [],_::_,_,h,_=>by simp at h
 | [],[],_::_,_,h=>by simp at h
 | _::_,[],_,h,_=>by simp at h
 | _::_,_::_,[],_,h=>by simp at h
theorem Awr (f:α->List β) {l:List α} {x:α} (h:l[j]? = some x):(l.take (j+1)).flatMap f=(l.take j).flatMap f++f x:=by rw[Cs h,flatMap_append];simp
theorem Yc {α β:Type} (f:α->List β) (n:Nat):∀l:List α,(∀a∈l,(f a).length<=n)->(l.flatMap f).length<=l.length*n
 | [],_=>ψ
 | a::l,h=>by have o:=h a ψ;have p:=Yc f n l λb m=>h b (by simp[m]);rw[flatMap_cons,Ep,D1,Nat.add_mul];omega
theorem Bar (l:List Ah) (h:l.length<=1048576):W7 l=some ([],l):=by unfold W7 Kn;rw[Dy ζ];rfl
theorem Bas {c:Af->Ah->Ah->List (Ah×Nat)} (hg:Acm data k c) (V:∀t i j a b,Bw i<=k->Dj data i t=some a->Dj data j t=some b->a+b<=6->Bx t<=200->iR i->iR j->N4 K data t i j=some ((c t i j).map Ba)) (ts:List Af) (is f:List Ah) {N M:Nat} (hk:Cd is<=k) (h1:Cx data is ts=some N) (h2:Cx data f ts=some M) (h6:N+M<=6) (ht:∀t∈ts,Bx t<=200) (hl:ts.length<=100000) (U:Fc is) (S:Fc f) : R4 (K+1) data ts is f=some ((E8 c ts is f).map toR):=by
 obtain⟨l1,g1⟩:=Xy data _ _ _ h1;obtain⟨l2,g2⟩:=Xy data _ _ _ h2;have s:∀j,(∀r∈E8 c (ts.take j) (is.take j) (f.take j),1<=r.2/\r.2<=729/\r.1.length<=100000)/\(E8 c (ts.take j) (is.take j) (f.take j)).length<=729:=λj=>by
  obtain⟨a,v,a2⟩:=Aca data is ts N j h1;obtain⟨b,C,b2⟩:=Aca data f ts M j h2;have hs:Cd (is.take j)<=Cd is:=(by have:=Uy (is.take j) (is.drop j);rw[take_append_drop]at this;omega);have q1:Fc (is.take j):=(by have:=Ali (is.take j) (is.drop j);rw[take_append_drop]at this;exact (this.1 U).1);have q2:Fc (f.take j):=(by have:=Ali (f.take j) (f.drop j);rw[take_append_drop]at this;exact (this.1 S).1);obtain⟨l,X⟩:=Ahq hg (ts.take j) (is.take j) (f.take j) a b ω v C ω q1 q2;have D:=Sy (show a+b<=6 by omega);refine⟨λr y=>?_,?_⟩
  .have g:=l r y;have:=Pn y;obtain⟨d,d1,_⟩:=g.deg;have B:=(Xy data _ _ _ d1).1;rw[length_take]at B;exact⟨g.pos,ω,ω⟩
  .have:=Mu λp hp=>(l p hp).pos;omega
 rw[R4,L3,Ad];refine F5 ts (λj=>((E8 c (ts.take j) (is.take j) (f.take j)).map toR,(j:Int))) (by simp[E8,toR]) ω ?_ ?_
 .intro j t hj F l X e3;have o:is[j]? = some (is[j]' ω):=Bp _;generalize is[j]'_=i at o;have h:f[j]? = some (f[j]' ω):=Bp _;generalize f[j]'_=i' at h;obtain⟨a,v,a2⟩:=g1 j i t o F;obtain⟨b,C,b2⟩:=g2 j i' t h F;have a7:=Kd (Bv o);have T:=ht t (Bv F);have x:=Alg U (Bv o);have u:=Alg S (Bv h);obtain⟨w1,w2⟩:=hg t i i' a b ω v C ω x u;have D:=Sy (show a+b<=6 by omega);have I:(c t i i').length<=729:=(by have:=Mu λp hp=>(w1 p hp).pos;omega);have J:∀w∈c t i i',w.2<=729:=λw H=>by have:=Pn H;omega
  obtain⟨Z,x2⟩:=s j;have L:E8 c (ts.take (j+1)) (is.take (j+1)) (f.take (j+1))=(E8 c (ts.take j) (is.take j) (f.take j)).flatMap (J5 (c t i i')):=(by rw[Cs F,Cs o,Cs h,Awq _ _ _ _ _ _ _ ζ ζ]);rw[L];have A:=V t i i' a b ω v C ω T x u;generalize E8 c (ts.take j) (is.take j) (f.take j)=R at *;generalize c t i i'=W at *;simp only[l,X,Am,Ad];refine F5 (R.map toR) (λn=>((n:Int),((R.take n).flatMap (J5 W)).map toR)) ψ (by rw[C2];omega) ?_ ?_
  .intro n r' hn y f1 f2 f3;rw[getElem?_map]at y;obtain⟨r,hq,rfl⟩:=Option.map_eq_some_iff.1 y;obtain⟨y1,Y,y3⟩:=Z r (Bv hq);have a6:((R.take n).flatMap (J5 W)).length<=729*729:=(by refine Nat.le_trans (Yc _ 729 _ λq _=>by unfold J5;rw[C2];exact I) (Nat.mul_le_mul_right _ ?_);rw[length_take];omega);simp only[f1,f2,f3,Am,Ad,Bn rfl o,Bn rfl h,A];refine F5 (W.map Ba) (λm=>((m:Int),((R.take n).flatMap (J5 W)).map toR++((J5 (W.take m) r).map toR))) (by simp[J5]) (by rw[C2];omega) ?_ ?_
   .intro m w' V H E p2 p3;rw[getElem?_map]at H;obtain⟨w,z,rfl⟩:=Option.map_eq_some_iff.1 H;have G:=J w (Bv z);have a8:(J5 (W.take m) r).length<=729:=(by unfold J5;rw[C2,length_take];omega);have aa:(((R.take n).flatMap (J5 W)).map toR++(J5 (W.take m) r).map toR).length<=729*729+729:=(by rw[Ep,C2,C2];omega);simp only[E,p2,p3,Am,Ad];show (W7 r.1).bind _=_;rw[Bar _ ω,Ad,Dy ζ,Ad];show (Fa (cR r.2) (cR w.2)).bind _=_;rw[Awo Y G,Ad,Dy (by rw[length_singleton];omega),Ad];have:J5 (W.take (m+1)) r=J5 (W.take m) r++[(r.1++[w.1],r.2*w.2)]:=(by unfold J5;rw[Cs z,map_append];rfl);rw[this,map_append,append_assoc];rfl
   .intro E;refine⟨_,by simp only[E];rfl,?_⟩;rw[C2,C1,Awr _ hq,map_append]
  .intro f1;refine⟨_,by simp only[f1];rfl,?_⟩;rw[C2,C1,e3]
 .intro l;refine⟨_,by simp only[l];rfl,?_⟩;rw[Ik ω,Ik ω,Ik ω]
theorem Am5 (a:α) (l:List α):F1 (a::l) 1 ((a::l).length:Int)=some l:=by unfold F1;rw[As ⟨δ,by simp only[D1];omega,ω⟩];simp
theorem Bat (a:Ah) (l:List Ah) (h:l.length<=999999):Aay [[a],l]=some (a::l) := Ag9 (B:=32) δ (gr:=Afa) (λn h=>Ace n h) [a] l ζ
theorem Am6 (e:Ah) {c:Nat} (o:c<=729) (s:R.length<=729) (h:∀r∈R,r.2<=729/\r.1.length<=100000) (b:List Ii) (l:b.length<=1000000) : R6 e (cR c) (R.map toR) b=some (b++(Ff e c R).map toR):=by
 unfold R6;refine F5 (R.map toR) (λn=>((n:Int),b++(Ff e c (R.take n)).map toR)) (by simp[Ff]) (by rw[C2];omega) ?_ ?_
 .intro n k q f f1 f2 f3;rw[getElem?_map]at f;obtain⟨r,m,rfl⟩:=Option.map_eq_some_iff.1 f;obtain⟨g,j⟩:=h r (Bv m);have i:(b++(Ff e c (R.take n)).map toR).length<=1000729:=(by rw[Ep,C2];unfold Ff;rw[C2,length_take];omega);simp only[f1,f2,f3,Am,Ad];show (Aay [[e],r.1]).bind _=_;rw[Bat _ _ ω,Ad];show (Fa (cR c) (cR r.2)).bind _=_;rw[Awo o g,Ad,Dy (by rw[length_singleton];omega),Ad];have:Ff e c (R.take (n+1))=Ff e c (R.take n)++[(e::r.1,c*r.2)]:=(by unfold Ff;rw[Cs m,map_append];rfl);rw[this,map_append,append_assoc];rfl
 .intro f1;refine⟨_,by simp only[f1];rfl,?_⟩;rw[C2,C1]
theorem Bau (f:Szv data) (i:Mi data) (t:Af) (ht:Bx t<=200) (c:Int) {ts:List Af} (h:Gu data t c=some ts):Aaz data t c=some ts:=by
 unfold Aaz;unfold Gu at h;rw[Abk f t ht c,Ad];cases m:Jg data t c with
 | none=>rw[m]at h;cases h
 | some l=>
  rw[m]at h;have h:F6 l (Ea data t.U c)=ts:=Fh h;subst h;have k:=Xi m;obtain⟨x,y,_,p,_,r,s,_⟩:=Pc m;obtain⟨g,_⟩:=f x (G3 p).2.2.2 y (G3 r).2.2.2;have q:l.length<=6:=(by rw[s];simpa using g);simp only[okL,Xh data t.U c i,Ad];refine F5 (Ea data t.U c) (λj=>((j:Int),F6 (l.take j) ((Ea data t.U c).take j))) (by simp[F6]) ω ?_ ?_
  .intro j b B v n w A;have o:l[j]? = some l[j]:=Bp ω;generalize l[j]=a at o;have u:=Xj (l.take j) ((Ea data t.U c).take j);have:(l.take j).length<=6:=ζ;simp only[n,w,A,Am,Ad,Bn rfl o,Af1 o v];rw[Dy ζ];cases b <;> simp
  .intro n;refine⟨_,by simp only[n];rfl,?_⟩;rw[Ik ω,Ik (Nat.le_refl _)]
def Am7 (data:List Ai) (k K:Nat):Prop:=∀(ts:List Af) (is b:List Ah) (f c:Nat),Cd is<=k->Cx data is ts=some f->Cx data b ts=some c->f+c<=6->(∀t∈ts,Bx t<=200)->ts.length<=100000->Fc is->Fc b->R4 K data ts is b=some ((E8 (Eb data k) ts is b).map toR)
theorem Bav (hz:Szv data) (hs:Mi data) (ht:Bx t<=200) {K0:Nat} (hR:∀K,K0<=K->Am7 data k K):∀(n:Nat) (l m:List Ah) (K u s:Nat),l.length+m.length<=n->K0+n+1<=K->Cd l<=k+1->(∀e∈l,Cd e.K<=k)->Fv data l t=some u->Fv data m t=some s->u+s<=6->Fc l->Fc m -> O4 K data t l m=some ((Kh (J4 data t (E8 (Eb data k))) l m).map toR):=by
 intro n;induction n with
 | zero=>intro l m K u s Y hK _ _ _ _ _ _ _;have e1:l = []:=F3.1 ω;obtain⟨K,rfl⟩:∃K',K=K' + 1:=⟨K-1,ω⟩;subst e1;rw[O4,Aci,L3];rfl
 | succ n ih=>
  intro l m K u s Y hK G C F H h6 N L;obtain⟨K,rfl⟩:∃K',K=K' + 1:=⟨K-1,ω⟩;rw[O4];cases l with
  | nil=>rw[Aci,L3];rfl
  | cons a l=>
   rw[C8 ζ,Ap];cases m with
   | nil=>rw[Ahn,L3];rfl
   | cons b m=>
    rw[C8 ζ,Ap];obtain⟨ts,E,v,o,a2,T,rfl⟩:=Ahr F;obtain⟨i,D,B,b1,b2,J,rfl⟩:=Ahr H;have h:=N;have g:=L;simp only[Fc]at h g;have za:Cd (a::l)=Bw a+Cd l:=(by simp only[Cd]);have j:∀e∈l,Cd e.K<=k:=λe he=>C e (by simp[he]);have n1:=Uw data _ _ _ F;have n2:=Uw data _ _ _ H;simp only[D1]at Y n1 n2;have f:∀(l m:List Ah) (u s:Nat),Cd l<=k+1->(∀e∈l,Cd e.K<=k)->Fv data l t=some u->Fv data m t=some s->u+s<=6->Fc l->Fc m->(∀r∈Kh (J4 data t (E8 (Eb data k))) l m,r.2<=729/\r.1.length<=100000)/\(Kh (J4 data t (E8 (Eb data k))) l m).length<=729:=λl m u s q1 q2 q3 q4 q5 q6 q7=>by
     obtain⟨I,x2⟩:=Awn (Qt data k) t l m u s q1 q2 q3 q4 q5 q6 q7;have:=Sy q5;refine⟨λr A=>⟨by have:=Pn A;omega,?_⟩,?_⟩
     .obtain⟨d,d1,d2⟩:=(I r A).deg;have:=Uw data _ _ _ d1;omega
     .have:=Mu λp hp=>(I p hp).pos;omega
    have s1:F1 (a::l) 1 ((a::l).length:Int)=some l:=Am5 a l;have s2:F1 (b::m) 1 ((b::m).length:Int)=some m:=Am5 b m;have i1:Ag (a::l) 0=some a:=rfl;have i2:Ag (b::m) 0=some b:=rfl;obtain⟨I,x2⟩:=f l (b::m) v (1+D+B) ω j T H ω h.2 L;obtain⟨y1,y2⟩:=f (a::l) m (1+E+v) B G C F J ω N g.2;obtain⟨z1,z2⟩:=f l m v B ω j T J ω h.2 g.2;have L1:∀(e:Ah) (c:Nat) (R:List (List Ah×Nat)),((Ff e c R).map toR).length=R.length:=λe c R=>by unfold Ff;simp
    have c1:Ej 1=some (cR 1):=L3;rw[i1,Ad,c1,Ad,s1,Ad,ih l (b::m) K v (1+D+B) ζ ω ω j T H ω h.2 L,Ad,Am6 a δ x2 I [] ψ,Ad,i2,Ad,Ad,s2,Ad, ih (a::l) m K (1+E+v) B ζ ω G C F J ω N g.2,Ad,Am6 b δ y2 y1 _ (by rw[nil_append,L1];omega),Ad,Ad,Ad];rw[Acj];by_cases e:a.U=b.U
    .have U:i=ts:=(by rw[<-e,o]at b1;exact (Fh b1).symm);subst U;have V:J3 data t a.U=i:=(by unfold J3;rw[o]);obtain⟨p1,p2⟩:=Af3 o;have pl:i.length<=100000:=(by unfold Gu at o;cases hf:Jg data t a.U with| none=>rw[hf]at o;cases o| some l=>rw[hf]at o;have o:F6 l (Ea data t.U a.U)=i:=Fh o;obtain⟨x,y,_,hx,_,hy,hl,_⟩:=Pc hf;obtain⟨y6,_⟩:=hz x (G3 hx).2.2.2 y (G3 hy).2.2.2;have a8:l.length<=6:=(by rw[hl];simpa using y6);have:=Xj l (Ea data t.U a.U);rw[o]at this;omega);have ha:=h.1;have hb:=g.1;rw[Pe]at ha hb;have z:=hR K ω i a.K b.K E D (C a ψ) a2 b2 ω p1 pl ha.2 hb.2;obtain⟨w1,w2⟩:=Ahq (Qt data k) i a.K b.K E D (C a ψ) a2 b2 ω ha.2 hb.2;have a6:=Sy (show E+D<=6 by omega);have a7:(E8 (Eb data k) i a.K b.K).length<=729:=(by have:=Mu λp hp=>(w1 p hp).pos;omega);have S:∀r∈E8 (Eb data k) i a.K b.K,r.2<=729:=λr A=>by have:=Pn A;omega
     rw[Eh e,Am,Ad,Ad,ih l m K v B ω ω ω j T J ω h.2 g.2,Ad,Ad,Bau hz hs t ht _ o,Ad,Ad,Ad,z,Ad];have Z:J4 data t (E8 (Eb data k)) a b=(E8 (Eb data k) i a.K b.K).map λr=>(⟨a.U,r.1⟩,r.2):=(by unfold J4;rw[As e,V]);rw[Z];generalize E8 (Eb data k) i a.K b.K=W at *;generalize Kh (J4 data t (E8 (Eb data k))) l m=M at *;have hO:∀n,(flatMap (λw:Ah×Nat=>Ff w.1 w.2 M) ((W.take n).map λr=>(⟨a.U,r.1⟩,r.2))).length<=729*729:=λn=>by refine Nat.le_trans (Yc _ 729 _ λq _=>by unfold Ff;rw[C2];exact z2) (Nat.mul_le_mul_right _ ?_);rw[C2,length_take];omega
     refine F5 (W.map toR) (λn=>((n:Int),[]++(Ff a 1 (Kh (J4 data t (E8 (Eb data k))) l (b::m))).map toR++(Ff b 1 (Kh (J4 data t (E8 (Eb data k))) (a::l) m)).map toR++(flatMap (λw:Ah×Nat=>Ff w.1 w.2 M) ((W.take n).map λr=>(⟨a.U,r.1⟩,r.2))).map toR)) ψ (by rw[C2];omega) ?_ ?_
     .intro n r' Y A f1 f2 f3;rw[getElem?_map]at A;obtain⟨r,hq,rfl⟩:=Option.map_eq_some_iff.1 A;have X:=S r (Bv hq);have aa:=hO n;simp only[f1,f2,f3,Am,Ad,i1];show (R6 ⟨a.U,r.1⟩ (cR r.2) _ _).bind _=_;rw[Am6 _ X z2 z1 _ (by rw[Ep,Ep,Ep,L1,L1,C2,length_nil];omega),Ad];rw[Cs hq,map_append,flatMap_append,map_append,append_assoc];simp
     .intro f1;refine⟨_,by simp only[f1];rfl,?_⟩;rw[C2,C1,map_append,map_append];simp
    .rw[C8 e,Ap];have Z:J4 data t (E8 (Eb data k)) a b = []:=(by unfold J4;rw[Ao e]);rw[Z,map_append,map_append];simp
theorem Baw (h:∀t i j a b,Bw i<=k->Dj data i t=some a->Dj data j t=some b->a+b<=6->Bx t<=200->iR i->iR j->N4 K data t i j=some ((Eb data k t i j).map Ba)):Am7 data k (K+1) := λts is g _ _ m n o q p l f c=>Bas (Qt data k) h ts is g m n o q p l f c
theorem Aws (i:R.length<=100000) {Q:Type} {step:Int×List Au->Option ((Int×List Au)⊕List Au)} {J:List Au->Option Q} {q:Q} (b:∀(v:Int) (o:List Au),step (v,o)=bif v<((R.map toR).length:Int) then ((Ag (R.map toR) v).bind λr=>(B8 88 o [Au.mk (Ah.mk 0 r.list) r.coef]).bind λo=>some (.inl ((Ac (v+1)),o))) else some (.inr o)) (f:J ((R.map λr=>((⟨0,r.1⟩:Ah),r.2)).map Ba)=some q):(Ak step (0,[])).bind J=some q:=by
 refine F5 (R.map toR) (λn=>((n:Int),((R.take n).map λr=>((⟨0,r.1⟩:Ah),r.2)).map Ba)) ψ (by rw[C2];omega) ?_ ?_
 .intro n g h c f1 f2 f3;rw[getElem?_map]at c;obtain⟨r,m,rfl⟩:=Option.map_eq_some_iff.1 c;rw[b,f1,Am,f2,Ad,Dy (by rw[C2,C2,length_take,length_singleton];omega),Ad,f3,Cs m,map_append,map_append];rfl
 .intro f1;refine⟨_,by rw[b,f1,Ap],?_⟩;rw[C2,C1];exact f
theorem Bax {b:Nat} (h:a+b<=12) {Q:Type} {step:Int×List Au->Option ((Int×List Au)⊕List Au)} {J:List Au->Option Q} {q:Q} (c:∀(v:Int) (o:List Au),step (v,o)=bif v<((Ls (a+b+1) (Rc a b)).length:Int) then ((Ag (Ls (a+b+1) (Rc a b)) v).bind λx=>(Is x).bind λs=>bif (s != (0:Int)) then ((B8 88 o [Au.mk (Ah.mk v []) x]).bind λo=>some (.inl ((Ac (v+1)),o))) else some (.inl ((Ac (v+1)),o))) else some (.inr o)) (l:J ((Yb a b).map Ba)=some q):(Ak step (0,[])).bind J=some q:=by
 have f:∀n,(((range (n+1)).filter λk=>Rc a b k != 0).map λ(k:Nat)=>((⟨(k:Int),[]⟩:Ah),Rc a b k)).map Ba=(((range n).filter λk=>Rc a b k != 0).map λ(k:Nat)=>((⟨(k:Int),[]⟩:Ah),Rc a b k)).map Ba++(if Rc a b n=0 then [] else [⟨⟨(n:Int),[]⟩,cR (Rc a b n)⟩]):=λn=>by
  rw[range_succ,filter_append,map_append,map_append];by_cases h:Rc a b n=0
  .simp[h]
  .simp[h,Ba]
 refine F5 (Ls (a+b+1) (Rc a b)) (λn=>((n:Int),(((range n).filter λk=>Rc a b k != 0).map λ(k:Nat)=>((⟨(k:Int),[]⟩:Ah),Rc a b k)).map Ba)) ψ (by rw[Ms];omega) ?_ ?_
 .intro n x g m f1 f2 f3;rw[Ms]at g;rw[Mt _ g]at m;have m:cR (Rc a b n)=x:=Fh m;subst m;have j:Rc a b n<=3 ^ 12:=(by have p:=Acl a b (n+1);have r:Rc a b n<=sm (n+1) (Rc a b):=(by rw[sm];omega);exact Nat.le_trans r (Nat.le_trans p (Nat.pow_le_pow_right δ h)));have i:((((range n).filter λk=>Rc a b k != 0).map λ(k:Nat)=>((⟨(k:Int),[]⟩:Ah),Rc a b k)).map Ba).length<=13:=(by rw[C2,C2];refine Nat.le_trans (length_filter_le _ _) ?_;rw[length_range];omega);rw[c,f1,Am,f2,Ad,(Np.cR (a:=Rc a b n) (K6 ω)).sign,Ad,f n];by_cases h:Rc a b n=0
  .rw[As h,As h,append_nil,f3];rfl
  .rw[Ao h,Ao h,show ((1:Int) != 0)=true from rfl,Am,Dy (by rw[length_singleton];omega),Ad,f3]
 .intro f1;refine⟨_,by rw[c,f1,Ap],?_⟩;rw[Ms];exact l
theorem Bay (N:Szv data) (U:Mi data):∀(k:Nat) (t:Af) (i j:Ah) (K q l:Nat),Bw i<=k->10*k<=K->Dj data i t=some q->Dj data j t=some l->q+l<=6->Bx t<=200->iR i->iR j -> N4 K data t i j=some ((Eb data k t i j).map Ba):=by
 intro k;induction k with
 | zero=>intro t i j K q l h;have:=Es i;omega
 | succ k ih=>
  intro t i j K q l z Y m n y r E D;obtain⟨K,rfl⟩:∃B,K=B+1:=⟨K-1,ω⟩;have M:=Es i;have g:=E;have f:=D;rw[Pe]at g f;have J:∀K,10*k+1<=K->Am7 data k K:=λK Y=>by obtain⟨K,rfl⟩:∃B,K=B+1:=⟨K-1,ω⟩;exact Baw λt i j a b w C F H T y Z=>ih t i j K a b w ω C F H T y Z
  have A:=Qt data (k+1) t i j q l z m n y E D;have L:=Sy y;have c:(Eb data (k+1) t i j).length<=729:=(by have:=Mu λp hp=>(A.1 p hp).pos;omega);rw[N4];rw[Eb]at c ⊢;have R:=Jf t;by_cases u:t.G=6
  .rw[As u]at c ⊢;rw[Eh u,Am];have m:=X8 u m;have n:=X8 u n;have S:=K7 t.R;rw[J K ω t.R i.K j.K q l ω m n y (λa W=>by have:=Jx W;omega) ω g.2 f.2,Ad];rw[C2]at c;exact Aws ω (λv o=>rfl) rfl
  .rw[Ao u]at c ⊢;rw[C8 u,Ap];by_cases s:t.G=7
   .rw[As s];rw[Eh s,Am];obtain⟨e,_⟩:=Ahm s m;obtain⟨e',_⟩:=Ahm s n;have I:(i.U.toNat:Int)=i.U:=ω;have G:(j.U.toNat:Int)=j.U:=ω;have X:Aas i.U j.U=some (Ls (i.U.toNat+j.U.toNat+1) (Rc i.U.toNat j.U.toNat),true):=(by unfold Aas;rw[A3 ω,A3 ω,A3 ω,A3 ω];simp only[Ap,Ad];have:=Av4 i.U.toNat j.U.toNat ω ω;rw[I,G]at this;rw[this,Ad]);rw[X,Ad];exact Bax ω (λv o=>rfl) rfl
   .rw[Ao s]at c ⊢;rw[C8 s,Ap];by_cases x:t.G=5
    .rw[As x]at c ⊢;rw[Eh x,Am];have m:=X9 x m;have n:=X9 x n;have I:=Uw data _ _ _ m;have G:=Uw data _ _ _ n;rw[Bav N U r J (i.K.length+j.K.length) i.K j.K K q l (Nat.le_refl _) ω ω (λe V=>by have:=Kd V;have:=Es e;omega) m n y g.2 f.2,Ad];rw[C2]at c;exact Aws ω (λv o=>rfl) rfl
    .rw[Ao x];rw[C8 x,Ap,L3,Ad,Dy ψ,Ad];rfl
theorem Awt:∀k,Xc k=O2 k
 | 0=>by funext i b;rfl
 | k+1=>by have ih:=Awt k;funext i b;rw[Xc,O2,ih]
theorem Baz (i:Ah) (m:Bw i<=1048576) (b:iR i):Aar i []=some (wx i):=by have h:=Ata 4000001 i [] ω b ζ;rw[nil_append]at h;rw[<-h,show (4000001:Nat)=4000000+1 from rfl,O2,<-Awt];rfl
theorem By.wx (i:Ah):By (Go.Ab.wx i):=Alk i
def Kw (i:Ah):ByteArray:=bs (wx i)
theorem Awu {j:Ah} (h:Kw i=Kw j):i=j:=by have m:=Al7 (By.wx i) (By.wx j) h;have n:=Af9 i j [] [] Af8 Af8 (by rw[append_nil,append_nil];exact m);exact n.1
theorem Ba0 (i:Ah):wx i≠[]:=by rw[Af7];intro h;exact Af6 _ (append_eq_nil_iff.1 h).1
theorem Ba1 (i:Ah):Nat.beq (Kw i).size 0=false:=by unfold Kw;rw[Xw];have:=Ba0 i;cases h:wx i with| nil=>exact (this h).elim| cons a l=>rfl
def pls (ts:List (Ah×Nat)):List (ByteArray×Int):=ts.zipIdx.map λq=>(Kw q.1.1,(q.2:Int))
def Dw (ts:List (Ah×Nat)):Prop:=ts.Pairwise λt u=>t.1≠u.1
theorem Ba2 (ts:List (Ah×Nat)) (t:Ah×Nat):pls (ts++[t])=pls ts++[(Kw t.1,(ts.length:Int))]:=by unfold pls;rw[zipIdx_append];simp
theorem Acn (ts:List (Ah×Nat)) (j:Nat):(pls ts)[j]? = (ts[j]?).map λt=>(Kw t.1,(j:Int)):=by unfold pls;rw[getElem?_map,getElem?_zipIdx];cases ts[j]? <;> simp
theorem Ba3 {t:Ah×Nat} (h:ts[j]? = some t) (b:u.1=t.1):pls (ts.set j u)=pls ts:=by
 refine ext_getElem? λn=>?_;rw[Acn,Acn,getElem?_set];by_cases e:j=n
 .subst e;rw[As rfl,h];have:=Ec h;rw[As this];simp[b]
 .rw[Ao e]
theorem Ba4 {m:Ah} (h:∀t∈ts,t.1≠m):E9 (pls ts) (Kw m)=false:=by cases e:E9 (pls ts) (Kw m) with| false=>rfl| true=>unfold E9 at e;obtain⟨p,hp,e⟩:=any_eq_true.1 e;obtain⟨j,n⟩:=Hh hp;rw[Acn]at n;obtain⟨t,o,rfl⟩:=Option.map_eq_some_iff.1 n;exact (h t (Bv o) (Awu ((Na _ _).1 e)).symm).elim
theorem Ba5 (r:Dw ts) {t:Ah×Nat} (h:ts[j]? = some t):E9 (pls ts) (Kw t.1)=true/\Ig (pls ts) (Kw t.1) 0=(j:Int):=by
 have s:=Acn ts j;rw[h]at s;have c:(Kw t.1,(j:Int))∈pls ts:=Bv s;refine⟨?_,?_⟩
 .unfold E9;exact any_eq_true.2 ⟨_,c,(Na _ _).2 rfl⟩
 .unfold Ig;cases q:(pls ts).find? λp=>Kw t.1==p.1 with
  | none=>rw[find?_eq_none]at q;exact (q _ c ((Na _ _).2 rfl)).elim
  | some p=>
   have o:=find?_some q;have o:Kw t.1=p.1:=(Na _ _).1 o;obtain⟨n,b⟩:=Hh (mem_of_find?_eq_some q);rw[Acn]at b;obtain⟨u,m,rfl⟩:=Option.map_eq_some_iff.1 b;have o:=Awu o;show (n:Int)=j;rcases Nat.lt_trichotomy n j with k|k|k
   .exact (pairwise_iff_getElem.1 r n j (Ec m) (Ec h) k (by
     rw[Bp (Ec m)]at m
     rw[Bp (Ec h)]at h
     rw[Fh m,Fh h];exact o.symm)).elim
   .rw[k]
   .exact (pairwise_iff_getElem.1 r j n (Ec h) (Ec m) k (by
     rw[Bp (Ec m)]at m
     rw[Bp (Ec h)]at h
     rw[Fh m,Fh h];exact o)).elim
theorem Awv {α:Type} (f:α->Nat):∀{ts:List (α×Nat)} {j:Nat} {t:α×Nat} (c:Nat),ts[j]? = some t->pv f (ts.set j (t.1,t.2+c))=pv f ts+c*f t.1
 | t' :: ts,0,t,c,h=>by have h:t'=t:=(by simpa using h);subst h;simp only[set_cons_zero,pv,Nat.add_mul];omega
 | t' :: ts,j+1,t,c,h=>by have ih:=Awv f (ts:=ts) (j:=j) (t:=t) c (by simpa using h);simp only[set_cons_succ,pv,ih];omega
 | [],_,_,_,h=>by simp at h
structure Cw (P:Ah->Prop) (ts:List (Ah×Nat)):Prop where
 dst:Dw ts
 mo:∀t∈ts,P t.1
 pos:∀t∈ts,1<=t.2
theorem Cw.nil (P:Ah->Prop):Cw P []:=⟨Pairwise.nil,λ_ h=>(by cases h),λ_ h=>(by cases h)⟩
theorem Dw.set (h:Dw ts) {t:Ah×Nat} (ht:ts[j]? = some t) (b:u.1=t.1):Dw (ts.set j u):=by
 have e:∀l:List (Ah×Nat),Dw l↔(l.map (·.1)).Pairwise (·≠·):=λl=>by unfold Dw;rw[pairwise_map]
 rw[e]at h ⊢;have:(ts.set j u).map (·.1)=ts.map (·.1):=by
  refine ext_getElem? λn=>?_;rw[getElem?_map,getElem?_map,getElem?_set];by_cases k:j=n
  .subst k;rw[As rfl,As (Ec ht),ht];simp[b]
  .rw[Ao k]
 rw[this];exact h
theorem Aww (Y:∀i,P i->Bw i<=1048576/\iR i) (l ts:List (Ah×Nat)) (G:Cw P ts) (X:∀t∈l,P t.1/\1<=t.2) (hN:pv (λ_=>1) ts+pv (λ_=>1) l<Fe) (Z:ts.length+l.length<=1000000000) (data:List Ai) (a b:Int) (c:List Af) : ∃k,R2 (l.map Ba) (pls ts) (ts.map Ba) data a b c=some (pls k,k.map Ba)/\Cw P k/\k.length<=ts.length+l.length/\∀f:Ah->Nat,pv f k=pv f ts+pv f l:=by
 unfold R2;refine Aa8 (A:=List (Ah×Nat)) (λk=>(pls k,k.map Ba)) ?_;refine Er (λs=>∃(j:Nat) (u:List (Ah×Nat)),s=((j:Int),pls u,u.map Ba)/\j<=l.length/\Cw P u/\u.length<=ts.length+j/\∀f:Ah->Nat,pv f u=pv f ts+pv f (l.take j)) (λs=>l.length-s.1.toNat) (λz=>∃u,z=(pls u,u.map Ba)/\Cw P u/\u.length<=ts.length+l.length/\∀f:Ah->Nat,pv f u=pv f ts+pv f l) ⟨0,ts,rfl,ω,G,ω,λf=>by simp only[take_zero,pv];omega⟩ ?_ ?_
 .rintro _ ⟨j,u,rfl,hj,o,E,r⟩;rcases Cf j l.length with h|h
  .have F:l[j]? = some l[j]:=Bp h;generalize l[j]=x at F;obtain⟨M,hp⟩:=X x (Bv F);obtain⟨S,R⟩:=Y _ M;have D:(l.map Ba)[j]? = some (Ba x):=(by rw[getElem?_map,F];rfl);have I:pv (λ_=>1) (l.take (j+1))<=pv (λ_=>1) l:=(by have:=Kg (λ_=>1) (l.take (j+1)) (l.drop (j+1));rw[take_append_drop]at this;omega);have q:∀f:Ah->Nat,pv f (l.take (j+1))=pv f (l.take j)+x.2*f x.1:=λf=>by rw[Cs F,Kg];simp only[pv];omega
   have V:=q λ_=>1;have U:=r λ_=>1;have y:((l.map Ba).length:Int)=(l.length:Int):=(by rw[C2]);have n:Aar (Ba x).I []=some (wx x.1):=Baz x.1 S R;simp only[y,Ar (ω:(j:Int)<(l.length:Int)),Am,Bn rfl D,Ad,n,C3 h ω,Pl (By.wx x.1)];have H:bs (wx x.1)=Kw x.1:=rfl;rw[H];left;by_cases p:∃t∈u,t.1=x.1
   .obtain⟨t,v,N⟩:=p;obtain⟨i,C⟩:=Hh v;obtain⟨T,W⟩:=Ba5 o.dst C;rw[N]at T W;have J:(u.map Ba)[i]? = some (Ba t):=(by rw[getElem?_map,C];rfl);have tb:=Pn v;have B:Ja (Ba t).C (Ba x).C=some (cR (t.2+x.2)):=Np.add (Np.c ω) (Np.c ω);refine⟨((j+1:Nat),pls (u.set i (t.1,t.2+x.2)),(u.set i (t.1,t.2+x.2)).map Ba),?_,⟨j+1,u.set i (t.1,t.2+x.2),rfl,ω,⟨o.dst.set C rfl,?_,?_⟩,by rw[length_set];omega,λf=>?_⟩,ζ⟩
    .simp only[T,W,Am,Ad,Bn rfl J,B,Ht rfl,Ba3 (u:=(t.1,t.2+x.2)) C rfl];rw[map_set];rfl
    .intro w n;rcases mem_or_eq_of_mem_set n with n|rfl
     .exact o.mo w n
     .exact o.mo t v
    .intro w n;rcases mem_or_eq_of_mem_set n with n|rfl
     .exact o.pos w n
     .show 1<=t.2+x.2;omega
    .rw[Awv f x.2 C,r f,q f,N];omega
   .have g:=Ba4 (m:=x.1) (ts:=u) λt v e=>p ⟨t,v,e⟩;have L:Xd (Kw x.1)=some (Kw x.1):=(by unfold Xd;rw[Ba1,Ap]);refine⟨((j+1:Nat),pls (u++[x]),(u++[x]).map Ba),?_,⟨j+1,u++[x],rfl,ω,⟨?_,?_,?_⟩,ζ,λf=>?_⟩,ζ⟩
    .simp only[g,Ap,Ad,L];rw[Dy (by rw[C2,length_singleton];omega),Ad,Amf _ _ _ g,Ba2,map_append,C2];rfl
    .refine pairwise_append.2 ⟨o.dst,pairwise_singleton _ _,λa ha b H=>?_⟩;simp only[D4]at H;subst H;exact λe=>p ⟨a,ha,e⟩
    .intro w n;rcases Ef.1 n with n|n
     .exact o.mo w n
     .simp only[D4]at n;subst n;exact M
    .intro w n;rcases Ef.1 n with n|n
     .exact o.pos w n
     .simp only[D4]at n;subst n;exact hp
    .rw[Kg,r f,q f];simp only[pv];omega
  .have:j=l.length:=ω;subst this;rw[C1]at r;have y:((l.map Ba).length:Int)=(l.length:Int):=(by rw[C2]);simp only[y,A3 (ω:¬(l.length:Int)<(l.length:Int)),Ap];exact .inr ⟨_,rfl,u,rfl,o,E,r⟩
 .rintro _ ⟨u,rfl,h1,h2,h3⟩;exact⟨_,rfl,u,rfl,h1,h2,h3⟩
theorem Ba6 {B:Nat} (f:B<=1024) {gr:Int->Option (List α)} (hg:∀n:Nat,n<=1000000->gr (n:Int)=some []) (ls:List (List α)) (g:ls.length<=1000) (h:ls.flatten.length<=1000000):Ag8 B gr ls=some ls.flatten:=by
 have b:∀{j x},ls[j]? = some x->(ls.take (j+1)).flatten=(ls.take j).flatten++x:=λ{j x} m=>by rw[Cs m,flatten_append];simp
 have c:∀j,(ls.take j).flatten.length<=1000000:=λj=>by have:ls.flatten=(ls.take j).flatten++(ls.drop j).flatten:=(by rw[<-flatten_append,take_append_drop]);rw[this,Ep]at h;omega
 unfold Ag8;refine F5 ls (λj=>(((ls.take j).flatten.length:Int),(j:Int))) rfl ω ?_ ?_
 .intro j x s m o q r;have p:=c (j+1);rw[b m,Ep]at p;have w:Ac (((ls.take j).flatten.length:Int)+(x.length:Int))=(((ls.take (j+1)).flatten.length:Nat):Int):=(by rw[b m,Ep,Ac,Ci] <;> omega);simp only[o,q,r,Am,Ad,w,A3 (ω:¬(((ls.take (j+1)).flatten.length:Nat):Int)<0),Ap]
 .intro o;refine⟨(((ls.take ls.length).flatten.length:Nat):Int),by simp only[o];rfl,?_⟩;rw[C1,hg _ h,Ad];refine F5 ls (λj=>((j:Int),(ls.take j).flatten)) rfl ω ?_ ?_
  .intro j x s m o q r;have p:=c (j+1);rw[b m,Ep]at p;have:((ls.take j).flatten.length+x.length)*B<=1000000*1024:=Nat.mul_le_mul p f;simp only[o,q,r,Am,Ad];rw[Dy ω,Ad,b m]
  .intro o;exact⟨ls.flatten,by simp only[o,C1];rfl,rfl⟩
theorem Ba7 (ls:List (List Au)) (b:ls.length<=1000) (h:ls.flatten.length<=1000000):Ae6 ls=some ls.flatten := Ba6 (B:=88) δ (gr:=Ae9) (λn h=>Ace n h) ls b h
theorem Awx:∀k,Lx k=P8 k
 | 0=>by funext i;rfl
 | k+1=>by have ih:=Awx k;funext i;rw[Lx,P8,ih]
theorem Am8 {a b:Ah}:G4 a b=0↔a=b:=Agw.zero a b trivial trivial
theorem Aco (a b:Ah):G4 b a = - G4 a b:=Agw.anti a b trivial trivial
theorem Awy {a b c:Ah} (h:G4 a b<0) (m:G4 b c<0):G4 a c<0:=Agw.trans a b c trivial trivial trivial h m
theorem Am9:Nu (λt u:Au=>G4 t.I u.I) where
 irr x:=by
  show ¬G4 x.I x.I<0
  rw[Am8.2 rfl];omega
 trs x y z m h:=Awy m h
 ntr x y z m h:=by
  show ¬G4 x.I z.I<0
  have m:¬G4 x.I y.I<0:=m
  have h:¬G4 y.I z.I<0:=h
  intro n
  rcases Int.lt_trichotomy (G4 x.I y.I) 0 with k|k|k
  .exact m k
  .rw[Am8.1 k]at n;exact h n
  .exact h (Awy (show G4 y.I x.I<0 by rw[Aco x.I y.I];omega) n)
theorem Awz (a b:Au) (h:Bw a.I<=1048576):O5 a b=some (G4 a.I b.I):=by unfold O5;rw[Atg 1048576 4000000 a.I b.I h ω ω];rfl
def Ana (b:List Au):List Au:=b.mergeSort λt u=>decide (G4 t.I u.I<=0)
theorem Ba8 (f:List Au) (o:f.Pairwise λt u=>t.I≠u.I):(Ana f).Pairwise λt u=>G4 t.I u.I<0:=by
 have m:=pairwise_mergeSort (le:=λt u:Au=>decide (G4 t.I u.I<=0)) (λa b c m n=>by
  simp only[Ds]at *
  have:=Am9.ntr c b a (by show ¬G4 _ _<0;rw[Aco];omega) (by show ¬G4 _ _<0;rw[Aco];omega)
  have this:¬G4 c.I a.I<0:=this
  rw[Aco]at this;omega) (λa b=>by
  simp only[Bool.or_eq_true,Ds]
  rw[Aco a.I b.I];omega) f
 have n:(Ana f).Pairwise λt u=>t.I≠u.I:=((mergeSort_perm f _).pairwise_iff λ{x y} h=>h.symm).2 o
 refine (m.and n).imp λ{t u} h=>?_
 have a:=of_decide_eq_true h.1
 have b:G4 t.I u.I≠0:=λe=>h.2 (Am8.1 e)
 omega
theorem Ba9 (b:List Au) (p:b.Pairwise λt u=>t.I≠u.I) (c:∀t∈b,Bw t.I<=1048576):∃R,Lh b=some R/\R.Perm b:=by
 rcases Cf 12 b.length with h|h
 .have e:Nat.ble b.length 12=false:=(by cases k:Nat.ble b.length 12 with| false=>rfl| true=>have:=Nat.le_of_ble_eq_true k;omega);unfold Lh;rw[e,Ap];obtain⟨r,f,g,q,B,hp,_⟩:=Ap7 (cmp:=O5) (l:=b) (r:=Ana b) ⟨_,Am9,λx m y _=>Awz x y (c x m),mergeSort_perm b _,Ba8 b p⟩;exact⟨r,f,hp⟩
 .obtain⟨R,s,o,_⟩:=Amq (cmp:=O5) Am9 b (λx m y _=>Awz x y (c x m)) ω;obtain⟨v,A⟩:=Amh (n:=b.length) ω;refine⟨R,?_,o⟩
  .unfold Lh;rw[Nat.ble_eq_true_of_le h,Am];unfold Akr;rw[A,Ad];have hp:Aa0 0 (b.length:Int) v b=some R:=(by unfold Aa0;have e:Afb 0 (b.length:Int) b=X0 O5 0 (b.length:Int) b:=rfl;have w:Ac ((b.length:Int)-0)=(b.length:Int):=ξ;refine bnd (a:=R) (F0 ?_) rfl;rw[w,Ar ω,Am,e,s,Ad,Ku o.length_eq.symm];rfl);rw[hp,Ad,Ku o.length_eq.symm];rfl
def dgi (data:List Ai) (t:Af) (p:Ah×Nat):Nat:=match Dj data p.1 t with|some d=>d|none=>0
def bk (data:List Ai) (t:Af) (L:List (Ah×Nat)) (d:Nat):List (Ah×Nat):=L.filter λp=>dgi data t p==d
theorem Aw0 {α:Type} (f:α->Nat):∀(n:Nat) (L:List α),(∀x∈L,f x<n)->((range n).flatMap λd=>L.filter λx=>f x==d).Perm L
 | 0,L,h=>by cases L with| nil=>exact Perm.refl _| cons x L=>exact absurd (h x ψ) ω
 | n+1,L,h=>by
  have ih:=Aw0 f n (L.filter λx=>!(f x==n)) λx o=>by obtain⟨p,r⟩:=mem_filter.1 o;have:=h x p;have:f x≠n:=(by simpa using r);omega
  rw[range_succ,flatMap_append];have e:((range n).flatMap λd=>(L.filter λx=>!(f x==n)).filter λx=>f x==d)=(range n).flatMap λd=>L.filter λx=>f x==d:=by
   have m:∀R:List Nat,(∀d∈R,d<n)->(R.flatMap λd=>(L.filter λx=>!(f x==n)).filter λx=>f x==d)=R.flatMap λd=>L.filter λx=>f x==d:=by
    intro R;induction R with
    | nil=>intro _;rfl
    | cons d R b=>
     intro c;rw[flatMap_cons,flatMap_cons,b λq s=>c q (by simp[s]),filter_filter];congr 1;refine filter_congr λx _=>?_;have:=c d ψ;by_cases e:f x=d
     .have:f x≠n:=ω;simp[e];omega
     .simp[e]
   exact m _ λd v=>mem_range.1 v
  rw[e]at ih;refine (Perm.append_right _ ih).trans ?_;have:=filter_append_perm (λx=>!(f x==n)) L;simp only[Bool.not_not]at this;simpa using this
def i7:Nat->I7
 | 0=>.c0
 | 1=>.c1
 | 2=>.c2
 | 3=>.c3
 | 4=>.c4
 | 5=>.c5
 | _=>.c6
theorem Aw1 (d:Nat) (h:d<7):Y2 (d:Int)=some (i7 d):=by rcases (ω:d=0\/d=1\/d=2\/d=3\/d=4\/d=5\/d=6) with rfl|rfl|rfl|rfl|rfl|rfl|rfl <;> rfl
theorem Bba {x:Ah×Nat} (h:L[j]? = some x) (d:Nat):(bk data t (L.take (j+1)) d).map Ba=(bk data t (L.take j) d).map Ba++(if dgi data t x=d then [Ba x] else []):=by
 unfold bk;rw[Avd h,map_append];by_cases e:dgi data t x=d
 .simp[e]
 .simp[e]
def Aw2 (data:List Ai) (t:Af) (i:Ah):Prop:=Bw i<=1048576/\iR i/\∃d,Dj data i t=some d/\d<=6
theorem Aw3 (F:DSz data) (H:Hu data) (hg:Gw data t=true) (y:Cw (Aw2 data t) L) (hN:pv (λ_=>1) L<Fe) (X:L.length<=1000000000) : (1000<L.length/\M5 (pls L) (L.map Ba) data t.G t.U t.R=some ([],9))\/(L.length<=1000/\∃R:List (Ah×Nat),M5 (pls L) (L.map Ba) data t.G t.U t.R=some (R.map Ba,0)/\R.Perm L):=by
 have q:∀x∈L,Dj data x.1 t=some (dgi data t x)/\dgi data t x<7:=λx o=>by obtain⟨_,_,d,d1,d2⟩:=y.mo x o;have:dgi data t x=d:=(by unfold dgi;rw[d1]);rw[this];exact⟨d1,ω⟩
 have G:Af.mk t.G t.U t.R=t:=by cases t;rfl
 have V:∀j d,((bk data t (L.take j) d).map Ba).length<=1000000000:=λj d=>by unfold bk;rw[C2];refine Nat.le_trans (length_filter_le _ _) ?_;rw[length_take];omega
 have g:∀d,∃S:List (Ah×Nat),Lh ((bk data t L d).map Ba)=some (S.map Ba)/\S.Perm (bk data t L d):=λd=>by
  have T:((bk data t L d).map Ba).Pairwise λa b=>a.I≠b.I:=(by rw[pairwise_map];exact Pairwise.sublist filter_sublist y.dst);obtain⟨R,W,r2⟩:=Ba9 ((bk data t L d).map Ba) T λw v=>by obtain⟨p,hp,rfl⟩:=mem_map.1 v;exact (y.mo p (mem_filter.1 hp).1).1
  obtain⟨S,D,A⟩:∃S:List (Ah×Nat),R=S.map Ba/\S.Perm (bk data t L d):=by
   have C:∀(M:List Au) (B:List (Ah×Nat)),M.Perm (B.map Ba)->∃S:List (Ah×Nat),M=S.map Ba/\S.Perm B:=by
    intro M;induction M with
    | nil=>intro B h;have h:=h.symm.eq_nil;cases B with| nil=>exact⟨[],rfl,Perm.refl _⟩| cons b B=>simp at h
    | cons w M ih=>intro B h;obtain⟨b,hb,e⟩:=mem_map.1 (h.mem_iff.1 (by simp:w∈w::M));obtain⟨Z,Y,rfl⟩:=append_of_mem hb;have h2:(w::M).Perm (w::(Z++Y).map Ba):=(by refine h.trans ?_;rw[map_append,map_append,map_cons,e];exact perm_middle);obtain⟨S,D,A⟩:=ih (Z++Y) h2.cons_inv;exact⟨b::S,by rw[map_cons,e,D],(A.cons b).trans perm_middle.symm⟩
   exact C R _ r2
  subst D;exact⟨S,W,A⟩
 obtain⟨S,U⟩:=Classical.axiomOfChoice g;have f:((range 7).flatMap S).Perm L:=by
  have h1:=Aw0 (dgi data t) 7 L λx o=>(q x o).2;refine Perm.trans ?_ h1;have:∀R:List Nat,(R.flatMap S).Perm (R.flatMap λd=>L.filter λx=>dgi data t x==d):=λR=>by induction R with| nil=>exact Perm.refl _| cons d R ih=>rw[flatMap_cons,flatMap_cons];exact (U d).2.append ih
  exact this _
 have m:M5 (pls L) (L.map Ba) data t.G t.U t.R=some (if 1000<L.length then ([],9) else (((range 7).flatMap S).map Ba,0)):=by
  unfold M5;refine Kc L.length (λj=>((j:Int),(j:Int),(bk data t (L.take j) 0).map Ba,(bk data t (L.take j) 1).map Ba,(bk data t (L.take j) 2).map Ba,(bk data t (L.take j) 3).map Ba,(bk data t (L.take j) 4).map Ba,(bk data t (L.take j) 5).map Ba,(bk data t (L.take j) 6).map Ba)) (by simp[bk]) ?_ ⟨((L.length:Int),(bk data t L 0).map Ba,(bk data t L 1).map Ba,(bk data t L 2).map Ba,(bk data t L 3).map Ba,(bk data t L 4).map Ba,(bk data t L 5).map Ba,(bk data t L 6).map Ba),?_,?_⟩
  .intro j r;have o:L[j]? = some L[j]:=Bp r;generalize L[j]=x at o;have z:=Bv o;obtain⟨g1,g2,g3⟩:=y.mo x z;obtain⟨d1,d2⟩:=q x z;have hp:=y.pos x z;have a1:=Pn z;have E:(L.map Ba)[j]? = some (Ba x):=(by rw[getElem?_map,o];rfl);have i:(((L.map Ba).length:Nat):Int)=(L.length:Int):=(by rw[C2]);have k:Np (Ba x).C x.2:=Np.c ω;have I:Is (Ba x).C=some 1:=(by rw[k.sign,Ao ω]);have u:Ko (Ba x).C=some (cR x.2):=k.can;have s:Mb data t (Ba x).I=some (dgi data t x:Int):=(by show Mb data t x.1=_;rw[Ags F H t hg x.1 g1,d1,Qi ω]);have J:Lx 4000000 (Ba x).I=some x.1:=(by rw[Awx];exact Aut 4000000 x.1 ω ω);have N:∀d,B8 88 ((bk data t (L.take j) d).map Ba) [⟨x.1,cR x.2⟩]=some ((bk data t (L.take j) d).map Ba++[⟨x.1,cR x.2⟩]):=λd=>Dy (by have:=V j d;rw[length_singleton];omega);simp only[i,Ar (ω:(j:Int)<(L.length:Int)),Am,Bn rfl E,Ad,I,show ((1:Int) != 0)=true from rfl,G,s,Aw1 _ d2,C3 r ω];simp only[Bba o];rcases (ω:dgi data t x=0\/dgi data t x=1\/dgi data t x=2\/dgi data t x=3\/dgi data t x=4\/dgi data t x=5\/dgi data t x=6) with e|e|e|e|e|e|e <;> (simp only[e,i7,J,u,N,Ad];simp[Ba])
  .have i:(((L.map Ba).length:Nat):Int)=(L.length:Int):=(by rw[C2]);simp only[i,A3 (ω:¬(L.length:Int)<(L.length:Int)),Ap,C1]
  .dsimp only;by_cases h:1000<L.length
   .rw[Ar ω,Am,As h]
   .rw[A3 ω,Ap,Ao h];have hB:∀d,Lh ((bk data t L d).map Ba)=some ((S d).map Ba):=λd=>(U d).1;have hG:∀d,Ft (bk data t L d).length ((S d).map Ba)=some ():=λd=>Ku (by have h:((S d).map Ba).length=(S d).length:=ψ;rw[h];exact (U d).2.length_eq.symm);refine Kc 7 (λj=>((j:Int),(if 0<j then (S 0).map Ba else (bk data t L 0).map Ba),(if 1<j then (S 1).map Ba else (bk data t L 1).map Ba),(if 2<j then (S 2).map Ba else (bk data t L 2).map Ba),(if 3<j then (S 3).map Ba else (bk data t L 3).map Ba),(if 4<j then (S 4).map Ba else (bk data t L 4).map Ba),(if 5<j then (S 5).map Ba else (bk data t L 5).map Ba),(if 6<j then (S 6).map Ba else (bk data t L 6).map Ba))) rfl ?_ ⟨((S 0).map Ba,(S 1).map Ba,(S 2).map Ba,(S 3).map Ba,(S 4).map Ba,(S 5).map Ba,(S 6).map Ba),rfl,?_⟩
    .intro j r;have v:Ac ((j:Int)+1)=((j+1:Nat):Int):=C3 (n:=7) r ω;simp only[Ar (ω:(j:Int)<((7:Nat):Int)),Am,Aw1 j r,Ad,v];rcases (ω:j=0\/j=1\/j=2\/j=3\/j=4\/j=5\/j=6) with rfl|rfl|rfl|rfl|rfl|rfl|rfl <;> (dsimp only[i7];simp[hB,hG])
    .have l:([(S 0).map Ba,(S 1).map Ba,(S 2).map Ba,(S 3).map Ba,(S 4).map Ba,(S 5).map Ba,(S 6).map Ba]:List (List Au)).flatten=((range 7).flatMap S).map Ba:=(by rw[show range 7 = [0,1,2,3,4,5,6] from rfl];simp[map_append]);dsimp only;rw[Ba7 _ ψ (by rw[l,C2,f.length_eq];omega),l];rfl
 by_cases h:1000<L.length
 .rw[As h]at m;exact .inl ⟨h,m⟩
 .rw[Ao h]at m;exact .inr ⟨ω,_,m,f⟩
def GI (data:List Ai) (t:Af) (S D:Nat) (i:Ah):Prop:=Bw i<=S/\iR i/\∃d,Dj data i t=some d/\d<=D
theorem GI.mono (h:GI data t S D i) (b:S<=S') (c:D<=D'):GI data t S' D' i:=by obtain⟨h1,h2,d,h3,f⟩:=h;exact⟨ω,h2,d,h3,ω⟩
theorem Cw.imp (h:Cw P L) (hi:∀i,P i->Q i):Cw Q L:=⟨h.dst,λt m=>hi _ (h.mo t m),h.pos⟩
theorem GI.good (b:S<=1048576) (c:D<=6) (h:GI data t S D i):Aw2 data t i:=h.mono b c
theorem Ahs (b:DSz data) (C:Hu data) (hg:Gw data t=true) (c:S<=1048576) (k:D<=6) (j:∀p∈L,GI data t S D p.1/\1<=p.2) (g:pv (λ_=>1) L<Fe) (q:L.length<=2000) : (1000<L.length/\P7 data t (L.map Ba)=some ([],9))\/∃P,P7 data t (L.map Ba)=some (P.map Ba,0)/\Cw (GI data t S D) P/\P.length<=1000/\∀f:Ah->Nat,pv f P=pv f L:=by
 unfold P7 W0;rw[A3 (by rw[C2];omega),Ap];simp only[Ad];obtain⟨T,r,n,w,o⟩:=Aww (P:=GI data t S D) (λi h=>⟨by have:=h.1;omega,h.2.1⟩) L [] (Cw.nil _) j (by show 0+_<Fe;omega) ζ data t.G t.U t.R;have r:R2 (L.map Ba) [] [] data t.G t.U t.R=some (pls T,T.map Ba):=r;rw[r];simp only[Ad];have o:∀f:Ah->Nat,pv f T=pv f L:=λf=>by rw[o];show 0+_=_;omega
 rcases Aw3 b C hg (n.imp λi h=>h.good c k) (by rw[o];exact g) (by simp at w;omega) with⟨E,h⟩|⟨s,R,v,m⟩
 .left;exact⟨by simp only[length_nil]at w;omega,by rw[h];rfl⟩
 .right;rw[v];refine⟨R,rfl,⟨(m.pairwise_iff λ{x y} h=>h.symm).2 n.dst,λp hp=>n.mo p (m.mem_iff.1 hp),λp hp=>n.pos p (m.mem_iff.1 hp)⟩,by rw[m.length_eq];exact s,λf=>?_⟩;rw[<-o f];have:∀{A B:List (Ah×Nat)},A.Perm B->pv f A=pv f B:=λ{A B} h=>by induction h with| nil=>rfl| cons x _ ih=>simp only[pv,ih]| swap x y l=>simp only[pv];omega| trans _ _ s v=>rw[s,v]
  exact this m
theorem Aht (g:DSz data) (r:Hu data) (hg:Gw data t=true) (u:S<=1048576) (x:D<=6) (l:∀p∈L,GI data t S D p.1) (s:L.length<=2000):Ub data t (L.map Ba)=some true:=by
 have b:T8 data t=some true:=by have f:=hg;simp only[Gw,Cz,Ds]at f;obtain⟨q,k,h⟩:=Afy g;have m:q=true:=h.2 r;subst m;unfold T8;rw[k,Xg data t 0 ω];simp only[Ad,Am];rw[show (Fb data 0 t&&decide (Bx t<=200))=Gw data t from rfl,hg]
 have c:∃i,Aao data t=some (i,true):=by unfold Aao;rw[b,Ad];simp only[bnt,Ap];have f:=hg;simp only[Gw,Cz,Ds]at f;obtain⟨i,n,_⟩:=A6z 4000000 t ω ω;exact⟨i,by rw[n];rfl⟩
 obtain⟨i,n⟩:=c;unfold Ub;rw[n,Ad];simp only[Am];have y:Aap (L.map Ba) data t=some false:=by
  unfold Aap Ae8;refine bnd (a:= -1) ?_ rfl;refine F5 (L.map Ba) (λj=>(j:Int)) rfl (by rw[C2];omega) ?_ ?_
  .intro j E F v o A B;rw[getElem?_map]at v;obtain⟨w,m,rfl⟩:=Option.map_eq_some_iff.1 v;obtain⟨G,H,d,d1,d2⟩:=l w (Bv m);have:Aaq (Ba w) data t=some false:=(by unfold Aaq Wj;show ((Mb data t w.1).bind λC=>some (decide (C>=0))).bind _=_;rw[Ags g r t hg w.1 ω,d1,Qi ω];simp only[Ad];rw[Ar ω];rfl);simp only[o,A,B,Am,Ad,this,Ap]
  .intro o;exact⟨_,by simp only[o];rfl,rfl⟩
 rw[y];rfl
theorem Bbb {c:Nat} (f:∀p∈L,p.2<Fe) (o:c<Fe) (g:L.length<=1000000):Uc (L.map Ba) (cR c)=some ((L.map λp=>(p.1,p.2*c)).map Ba):=by
 unfold Uc;refine F5 (L.map Ba) (λj=>((j:Int),((L.take j).map λp=>(p.1,p.2*c)).map Ba)) ψ (by rw[C2];omega) ?_ ?_
 .intro j s v m h q r;rw[getElem?_map]at m;obtain⟨w,n,rfl⟩:=Option.map_eq_some_iff.1 m;have b:Fa (Ba w).C (cR c)=some (cR (w.2*c)):=Np.mul (Np.c (f w (Bv n))) (Np.c o);simp only[h,q,r,Am,Ad,b];rw[Dy (by rw[C2,C2,length_take,length_singleton];omega),Ad,Cs n,map_append,map_append];rfl
 .intro h;refine⟨_,by simp only[h];rfl,?_⟩;rw[C2,C1]
def KM:Nat:=400000
theorem Aw4 {α:Type} (f:α->Nat) (c:Nat):∀L:List (α×Nat),pv f (L.map λp=>(p.1,p.2*c))=c*pv f L
 | []=>rfl
 | p::L=>by rw[map_cons,pv,Aw4 f c L,pv,Nat.mul_add];have:p.2*c*f p.1=c*(p.2*f p.1):=(by ac_rfl);show p.2*c*f p.1+_=_;omega
theorem Bbc (f:α->Nat) {A B:List (α×Nat)} (h:A.Perm B):pv f A=pv f B:=by induction h with| nil=>rfl| cons x _ ih=>simp only[pv,ih]| swap x y l=>simp only[pv];omega| trans _ _ m n=>rw[m,n]
def pv2 (data:List Ai) (t:Af) (f:Ah->Nat) (P Q:List (Ah×Nat)):Nat:=pv (λa=>pv (λb=>pv f (Eb data KM t a b)) Q) P
theorem Ahu (f:α->Nat) {L:List (α×Nat)} {x:α×Nat} (h:L[j]? = some x):pv f (L.take (j+1))=pv f (L.take j)+x.2*f x.1:=by rw[Cs h,Kg];simp only[pv];omega
theorem Aw5 (f:α->Nat) (L:List (α×Nat)) (j:Nat):pv f (L.take j)<=pv f L:=by have:=Kg f (L.take j) (L.drop j);rw[take_append_drop]at this;omega
theorem Ahv {f:α->Nat} {L:List (α×Nat)} (h:∀p∈L,f p.1<=g p.1):pv f L<=pv g L:=Baj h
noncomputable def Acp (data:List Ai) (t:Af) (v:Au) (q:List Au):Int×List (ByteArray×Int)×List Au->Option ((Int×List (ByteArray×Int)×List Au)⊕(Int×List (ByteArray×Int)×List Au)):=λ(b,j,g)=> bif b<(q.length:Int) then ((Ag q b).bind λf=> (N4 (4000000) data t v.I f.I).bind λi=> (Fa v.C f.C).bind λh=> (Uc i h).bind λm=> (R2 m j g data t.G t.U t.R).bind λc=> some (.inl ((Ac (b+1)),c.1,c.2))) else (some (.inr (b,j,g)))
theorem Bbd (W:DSz data) (hv:Hu data) (hg:Gw data t=true) (hS:S+S'<=400000) (hD:D+D'<=6) {v:Ah×Nat} (B:GI data t S D v.1) (E:v.2<Fe) (G:1<=v.2) {Q:List (Ah×Nat)} (R:Cw (GI data t S' D') Q) (a8:Q.length<=1000) (aa:pv (λ_=>1) Q<Fe) {g:List (Ah×Nat)} (J:Cw (GI data t (S+S') (D+D')) g) (Y:g.length<=900000000) (hb:pv (λ_=>1) g+729*(v.2*pv (λ_=>1) Q)<Fe) : ∃u,Ak (Acp data t (Ba v) (Q.map Ba)) (0,pls g,g.map Ba)=some ((Q.length:Int),pls u,u.map Ba)/\Cw (GI data t (S+S') (D+D')) u/\u.length<=g.length+729*Q.length/\∀f:Ah->Nat,pv f u=pv f g+v.2*pv (λb=>pv f (Eb data KM t v.1 b)) Q:=by
 have y:(((Q.map Ba).length:Nat):Int)=(Q.length:Int):=by rw[C2]
 obtain⟨e,e1,u,rfl,e2,e3,e4⟩:=Jm (step:=Acp data t (Ba v) (Q.map Ba)) (λ(s:Int×List (ByteArray×Int)×List Au)=>∃(j:Nat) (u:List (Ah×Nat)),s=((j:Int),pls u,u.map Ba)/\j<=Q.length/\Cw (GI data t (S+S') (D+D')) u/\u.length<=g.length+729*j/\∀f:Ah->Nat,pv f u=pv f g+v.2*pv (λb=>pv f (Eb data KM t v.1 b)) (Q.take j)) (λs=>Q.length-s.1.toNat) (λe=>∃u,e=((Q.length:Int),pls u,u.map Ba)/\Cw (GI data t (S+S') (D+D')) u/\u.length<=g.length+729*Q.length/\∀f:Ah->Nat,pv f u=pv f g+v.2*pv (λb=>pv f (Eb data KM t v.1 b)) Q) (by
   rintro _ ⟨j,u,rfl,hj,F,I,k⟩;rcases Cf j Q.length with h|h
   .left;have m:Q[j]? = some Q[j]:=Bp h;generalize Q[j]=w at m;have M:=Bv m;obtain⟨w1,X,U,V,w4⟩:=R.mo w M;have wp:=R.pos w M;have wb:=Pn M;obtain⟨v1,r,dv,C,v4⟩:=B;have A:(Q.map Ba)[j]? = some (Ba w):=(by rw[getElem?_map,m];rfl);have x:N4 4000000 data t (Ba v).I (Ba w).I=some ((Eb data KM t v.1 w.1).map Ba):=Bay hv.szv W.sz.short KM t v.1 w.1 4000000 dv U (by unfold KM;omega) (by unfold KM;omega) C V ω (by have:=hg;simp only[Gw,Cz,Ds]at this;exact this.2) r X;obtain⟨n,g2⟩:=Qt data KM t v.1 w.1 dv U (by unfold KM;omega) C V ω r X;have a6:=Sy (show dv+U<=6 by omega);have Z:(Eb data KM t v.1 w.1).length<=729:=(by have:=Mu λp hp=>(n p hp).pos;omega);have N:Fa (Ba v).C (Ba w).C=some (cR (v.2*w.2)):=Np.mul (Np.c E) (Np.c ω);have a7:v.2*w.2<=v.2*pv (λ_=>1) Q:=Nat.mul_le_mul_left _ wb;have L:Uc ((Eb data KM t v.1 w.1).map Ba) (cR (v.2*w.2))=some (((Eb data KM t v.1 w.1).map λp=>(p.1,p.2*(v.2*w.2))).map Ba):=Bbb (λp hp=>by have:=Pn hp;have:(1000:Nat)<Fe:=(by unfold Fe;decide);omega) ω ω;have l:∀f:Ah->Nat,pv f ((Eb data KM t v.1 w.1).map λp=>(p.1,p.2*(v.2*w.2)))=v.2*w.2*pv f (Eb data KM t v.1 w.1):=λf=>Aw4 f _ _;have z:pv (λ_=>1) u+pv (λ_=>1) ((Eb data KM t v.1 w.1).map λp=>(p.1,p.2*(v.2*w.2)))<Fe:=(by rw[l,k];have k0:pv (λb=>pv (λ_=>1) (Eb data KM t v.1 b)) (Q.take (j+1))<=729*pv (λ_=>1) Q:=(by refine Nat.le_trans (Aw5 _ Q (j+1)) ?_;rw[<-Oe];refine Ahv λp hp=>?_;obtain⟨p1,p2,H,p3,p4⟩:=R.mo p hp;have:=(Qt data KM t v.1 p.1 dv H (by unfold KM;omega) C p3 ω r p2).2;have:=Sy (show dv+H<=6 by omega);omega);have k1:=Ahu (λb=>pv (λ_=>1) (Eb data KM t v.1 b)) m;have k2:=Nat.mul_le_mul_left v.2 k0;rw[k1,Nat.mul_add]at k2;have k3:v.2*(729*pv (λ_=>1) Q)=729*(v.2*pv (λ_=>1) Q):=(by ac_rfl);have k4:v.2*(w.2*pv (λ_=>1) (Eb data KM t v.1 w.1))=v.2*w.2*pv (λ_=>1) (Eb data KM t v.1 w.1):=(by ac_rfl);omega);obtain⟨T,a1,a2,a3,a4⟩:=Aww (P:=GI data t (S+S') (D+D')) (λi h=>⟨by have:=h.1;omega,h.2.1⟩) ((Eb data KM t v.1 w.1).map λp=>(p.1,p.2*(v.2*w.2))) u F (λp hp=>by obtain⟨q,o,rfl⟩:=mem_map.1 hp;obtain⟨d,d1,d2⟩:=(n q o).deg;refine⟨⟨by have:=(n q o).siz;show Bw q.1<=_;omega,(n q o).num,d,d1,ω⟩,?_⟩;exact Nat.mul_pos (n q o).pos (Nat.mul_pos G wp)) z (by rw[C2];omega) data t.G t.U t.R;refine⟨((j+1:Nat),pls T,T.map Ba),?_,⟨j+1,T,rfl,ω,a2,by rw[C2]at a3;omega,λf=>?_⟩,ζ⟩
    .unfold Acp;simp only[y,Ar (ω:(j:Int)<(Q.length:Int)),Am,Bn rfl A,Ad,x,N,L,a1,C3 h ω]
    .rw[a4,k,l,Ahu _ m,Nat.mul_add];have:v.2*(w.2*pv f (Eb data KM t v.1 w.1))=v.2*w.2*pv f (Eb data KM t v.1 w.1):=(by ac_rfl);omega
   .right;have:j=Q.length:=ω;subst this;rw[C1]at k;exact⟨_,by unfold Acp;simp only[y,A3 (ω:¬(Q.length:Int)<(Q.length:Int)),Ap],u,rfl,F,I,k⟩)
  (0,pls g,g.map Ba) ⟨0,g,rfl,ω,J,ω,λf=>by rw[take_zero];show _=_+v.2*0;omega⟩;exact⟨u,e1,e2,e3,e4⟩
theorem Aw6:(729:Nat)<Fe:=by unfold Fe;decide
noncomputable def Acq (data:List Ai) (t:Af) (p q:List Au):Int×List (ByteArray×Int)×List Au->Option ((Int×List (ByteArray×Int)×List Au)⊕(List (ByteArray×Int)×List Au)):=λ(m,c,b)=> bif m<(p.length:Int) then ((Ag p m).bind λh=> (Ak (Acp data t h q) (0,c,b)).bind λ(_,g,f)=> some (.inl ((Ac (m+1)),g,f))) else (some (.inr (c,b)))
theorem Bbe (A:DSz data) (o:Hu data) (hg:Gw data t=true) (hS:S+S'<=400000) (hD:D+D'<=6) (F:∀p∈L,GI data t S D p.1/\1<=p.2) (H:∀p∈M,GI data t S' D' p.1/\1<=p.2) (Y:L.length<=2000) (V:M.length<=2000) (ae:L≠[]) (ad:M≠[]) (hN:729*(pv (λ_=>1) L*pv (λ_=>1) M)<Fe) : (1000<729*(pv (λ_=>1) L*pv (λ_=>1) M)/\Me data t (L.map Ba) (M.map Ba)=some ([],9))\/∃R,Me data t (L.map Ba) (M.map Ba)=some (R.map Ba,0)/\Cw (GI data t (S+S') (D+D')) R/\R.length<=1000/\∀f:Ah->Nat,pv f R=pv2 data t f L M:=by
 have n1:1<=pv (λ_=>1) L:=by have m:=Mu λp hp=>(F p hp).2;cases L with| nil=>exact (ae rfl).elim| cons a l=>simp at m;omega
 have n2:1<=pv (λ_=>1) M:=by have m:=Mu λp hp=>(H p hp).2;cases M with| nil=>exact (ad rfl).elim| cons a l=>simp at m;omega
 have m1:pv (λ_=>1) L<=pv (λ_=>1) L*pv (λ_=>1) M:=Nat.le_mul_of_pos_right _ n2;have m2:pv (λ_=>1) M<=pv (λ_=>1) L*pv (λ_=>1) M:=Nat.le_mul_of_pos_left _ n1;unfold Me;rw[Aht A o hg (show S<=1048576 by omega) (show D<=6 by omega) (λp hp=>(F p hp).1) Y,Aht A o hg (show S'<=1048576 by omega) (show D'<=6 by omega) (λp hp=>(H p hp).1) V];simp only[Ad,bnt,Ap];rcases Ahs A o hg (show S<=1048576 by omega) (show D<=6 by omega) F ω Y with⟨hb,h⟩|⟨P,p1,Z,p3,W⟩
 .left;exact⟨by have:=Mu λp hp=>(F p hp).2;omega,by rw[h];rfl⟩
 .rw[p1];simp only[Ad,show ((0:Int) != 0)=false from rfl,Ap];rcases Ahs A o hg (show S'<=1048576 by omega) (show D'<=6 by omega) H ω V with⟨hb,h⟩|⟨Q,q1,q2,q3,q5⟩
  .left;exact⟨by have:=Mu λp hp=>(H p hp).2;omega,by rw[h];rfl⟩
  .rw[q1];simp only[Ad,show ((0:Int) != 0)=false from rfl,Ap];have ac:P.length≠0:=λe=>by have:P = []:=F3.1 e;have h:=W λ_=>1;rw[this]at h;have h:0=pv (λ_=>1) L:=h;omega
   have ab:Q.length≠0:=λe=>by have:Q = []:=F3.1 e;have h:=q5 λ_=>1;rw[this]at h;have h:0=pv (λ_=>1) M:=h;omega
   have wP:Ac (((P.map Ba).length:Int)-1)=((P.length-1:Nat):Int):=(by rw[C2,Ac,Ci] <;> omega);have wQ:Ac (((Q.map Ba).length:Int)-1)=((Q.length-1:Nat):Int):=(by rw[C2,Ac,Ci] <;> omega);have q:∀{R:List (Ah×Nat)} {S D:Nat},S<=1048576->D<=6->Cw (GI data t S D) R->R.length≠0->∃(w:Au) (d:Nat),(R.map Ba)[R.length-1]? = some w/\Mb data t w.I=some (d:Int)/\d<=D:=λ{R S D} m r C h4=>by have n:R[R.length-1]? = some (R[R.length-1]' ω):=Bp _;generalize R[R.length-1]'_=x at n;obtain⟨g1,g2,d,g3,g4⟩:=C.mo x (Bv n);refine⟨Ba x,d,by rw[getElem?_map,n];rfl,?_,g4⟩;show Mb data t x.1=_;rw[Ags A o t hg x.1 ω,g3,Qi ω]
   obtain⟨a,da,a1,a2,a3⟩:=q (show S<=1048576 by omega) ω Z ac;obtain⟨b,db,b1,b2,b3⟩:=q (show S'<=1048576 by omega) ω q2 ab;have a6:Ac ((da:Int)+(db:Int))=(da:Int)+(db:Int):=ξ;have lP:(((P.map Ba).length:Nat):Int)=(P.length:Int):=(by rw[C2]);rw[C8 (by rw[C2];omega),C8 (by rw[C2];omega)];simp only[Ap,Ad,wP,wQ,Bn rfl a1,Bn rfl b1,a2,b2,a6];rw[A3 ω,Ap];unfold W0;simp only[Ad];have N:pv (λ_=>1) Q=pv (λ_=>1) M:=q5 _;have U:pv (λ_=>1) P=pv (λ_=>1) L:=W _;have z:∀j,729*(pv (λ_=>1) (P.take j)*pv (λ_=>1) Q)<Fe:=λj=>by have m:=Aw5 (λ_=>1) P j;have r:=Nat.mul_le_mul_right (pv (λ_=>1) Q) m;rw[U]at r;rw[N]at r ⊢;omega
   have G:∀a,GI data t S D a->pv (λb=>pv (λ_=>1) (Eb data KM t a b)) Q<=729*pv (λ_=>1) Q:=λa ha=>by rw[<-Oe];refine Ahv λp hp=>?_;obtain⟨x1,x2,dp,x3,x4⟩:=q2.mo p hp;obtain⟨v1,v2,dv,v3,v4⟩:=ha;have:=(Qt data KM t a p.1 dv dp (by unfold KM;omega) v3 x3 ω v2 x2).2;have:=Sy (show dv+dp<=6 by omega);omega
   have s:∀j,pv2 data t (λ_=>1) (P.take j) Q<=729*(pv (λ_=>1) (P.take j)*pv (λ_=>1) Q):=λj=>by
    unfold pv2;have m:pv (λa=>pv (λb=>pv (λ_=>1) (Eb data KM t a b)) Q) (P.take j)<=pv (λa=>729*pv (λ_=>1) Q*1) (P.take j):=Ahv λp hp=>by rw[Nat.mul_one];exact G p.1 (Z.mo p (mem_of_mem_take hp))
    rw[Oe]at m;refine Nat.le_trans m (Nat.le_of_eq ?_)
    ac_rfl
   have E:∃T:List (Ah×Nat),Cw (GI data t (S+S') (D+D')) T/\T.length<=900000000/\(∀f:Ah->Nat,pv f T=pv2 data t f P Q)/\∀{X:Type} {J:List (ByteArray×Int)×List Au->Option X} {x:X},J (pls T,T.map Ba)=some x->(Ak (Acq data t (P.map Ba) (Q.map Ba)) (0,[],[])).bind J=some x:=by
    have I:∀j,j<=P.length->∃u:List (Ah×Nat),Cw (GI data t (S+S') (D+D')) u/\u.length<=729*Q.length*j/\(∀f:Ah->Nat,pv f u=pv2 data t f (P.take j) Q)/\∀{X:Type} {J:List (ByteArray×Int)×List Au->Option X},(Ak (Acq data t (P.map Ba) (Q.map Ba)) (0,[],[])).bind J=(Ak (Acq data t (P.map Ba) (Q.map Ba)) ((j:Int),pls u,u.map Ba)).bind J:=by
     intro j;induction j with
     | zero=>intro _;exact⟨[],Cw.nil _,ψ,λf=>by rw[take_zero];rfl,λ{X J}=>rfl⟩
     | succ j ih=>
      intro hj;obtain⟨u,u1,u2,u3,u4⟩:=ih ω;have n:P[j]? = some (P[j]' ω):=Bp _;generalize P[j]'_=v at n;have hm:=Bv n;have a7:(P.map Ba)[j]? = some (Ba v):=(by rw[getElem?_map,n];rfl);have ah:=Pn hm;have af:=Ahu (λ_=>1) n;have b3:=z (j+1);have b4:=s j;rw[af,Nat.add_mul,Nat.mul_one]at b3;have ag:=u3 λ_=>1;have a8:729*Q.length*j<=729*1000*1000:=Nat.mul_le_mul ω ω;obtain⟨T,t1,t2,t3,t4⟩:=Bbd A o hg hS hD (Z.mo v hm) ω (Z.pos v hm) q2 q3 ω u1 ω ω;refine⟨T,t2,by rw[Nat.mul_succ];omega,λf=>?_,λ{X J}=>?_⟩
      .rw[t4,u3];unfold pv2;rw[Ahu _ n]
      .rw[u4,Lg (s':=(((j+1:Nat):Int),pls T,T.map Ba))];unfold Acq;simp only[lP,Ar (ω:(j:Int)<(P.length:Int)),Am,Bn rfl a7,Ad,t1,C3 (show j<P.length by omega) ω]
    obtain⟨T,t1,t2,t3,t4⟩:=I P.length (Nat.le_refl _);rw[C1]at t3;have a8:729*Q.length*P.length<=729*1000*1000:=Nat.mul_le_mul ω ω;refine⟨T,t1,ω,t3,λ{X J x} hJ=>?_⟩;rw[t4,F0 (e:=(pls T,T.map Ba)) (by unfold Acq;simp only[lP,A3 (ω:¬(P.length:Int)<(P.length:Int)),Ap])];exact hJ
   obtain⟨T,t1,t2,t3,t4⟩:=E;have aa:pv (λ_=>1) T<Fe:=(by rw[t3];have m:=s P.length;rw[C1]at m;have r:=z P.length;rw[C1]at r;omega);have B:∀f:Ah->Nat,pv2 data t f P Q=pv2 data t f L M:=λf=>by unfold pv2;rw[W];congr 1;funext a;exact q5 _
   rcases Aw3 A o hg (t1.imp λi h=>h.good ω ω) aa ω with⟨hb,h⟩|⟨m,R,r,C⟩
   .left;refine⟨by have g1:=Mu λp hp=>t1.pos p hp;have g2:=t3 λ_=>1;have g3:=s P.length;rw[C1,U,N]at g3;omega,?_⟩;exact t4 (J:=λ(k,g)=>(M5 k g data t.G t.U t.R).bind λc=>some (c.1,c.2)) (by show (M5 (pls T) (T.map Ba) data t.G t.U t.R).bind _=_;rw[h];rfl)
   .right;refine⟨R,t4 (J:=λ(k,g)=>(M5 k g data t.G t.U t.R).bind λc=>some (c.1,c.2)) (by show (M5 (pls T) (T.map Ba) data t.G t.U t.R).bind _=_;rw[r];rfl),⟨(C.pairwise_iff λ{x y} h=>h.symm).2 t1.dst,λp hp=>t1.mo p (C.mem_iff.1 hp),λp hp=>t1.pos p (C.mem_iff.1 hp)⟩,by rw[C.length_eq];exact m,λf=>?_⟩;rw[Bbc f C,t3,B]
def Qu (data:List Ai) (t:Af):List Ah->(Ah->Nat)->Ah->Nat
 | [],f,a=>f a
 | r::h,f,a=>pv (Qu data t h f) (Eb data KM t a r)
theorem Anb (data:List Ai) (t:Af) (r:Ah) (f:Ah->Nat):∀(c:List Ah) (a:Ah),Qu data t (c++[r]) f a=Qu data t c (λb=>pv f (Eb data KM t b r)) a
 | [],a=>rfl
 | q::c,a=>by show pv (Qu data t (c++[r]) f) (Eb data KM t a q)=pv (Qu data t c λb=>pv f (Eb data KM t b r)) (Eb data KM t a q);exact Qs λp _=>Anb data t r f c p.1
def dgo (data:List Ai) (t:Af) (i:Ah):Nat:=match Dj data i t with|some d=>d|none=>0
def Eg (data:List Ai) (t:Af) (is:List Ah):Nat:=(is.map (dgo data t)).sum
theorem Bbf (data:List Ai) (t:Af) (is:List Ah) (r:Ah):Eg data t (is++[r])=Eg data t is+dgo data t r:=by unfold Eg;simp
structure GG (data:List Ai) (t:Af) (is:List Ah):Prop where
 num:∀i∈is,iR i
 deg:∀i∈is,Dj data i t=some (dgo data t i)
 siz:Cd is<=400000
 sum:Eg data t is<=6
 len:is.length<=6
def Anc (data:List Ai) (t:Af) (f:Ah->Nat):Prop:=∀i j a b,Bw i<=KM->Dj data i t=some a->Dj data j t=some b->a+b<=6->iR i->iR j->pv f (Eb data KM t i j)=f i*f j
theorem Bbg (data:List Ai) (t:Af) {w:Ay} (h:G5 data w t=true):Anc data t λi=>bv data i t w:=λi j a b m n o _ _ _=>Bao KM t i j w a b m n o h
theorem Aw7 {data:List Ai} {t:Af} {f:Ah->Nat} (n:Anc data t f):∀(b:List Ah) (a:Ah),GG data t (a::b)->Qu data t b f a=f a*Dz (b.map f)
 | [],a,_=>by simp[Qu,Dz]
 | r::b,a,h=>by
  have s:=h.siz;have o:=h.sum;have u:=h.len;have z:Eg data t (a::r::b)=dgo data t a+(dgo data t r+Eg data t b):=(by unfold Eg;simp);rw[z]at o;simp only[Cd]at s;simp only[D1]at u;have j:=h.num a ψ;have c:=h.num r ψ;have l:=h.deg a ψ;have k:=h.deg r ψ;obtain⟨v,_⟩:=Qt data KM t a r _ _ (by unfold KM;omega) l k ω j c;show pv (Qu data t b f) (Eb data KM t a r)=f a*(f r*Dz (b.map f));rw[Qs (g:=λx=>Dz (b.map f)*f x) λp hp=>by
   have g:=v p hp;obtain⟨d,d1,d2⟩:=g.deg;have q:=g.siz;have y:dgo data t p.1=d:=(by unfold dgo;rw[d1]);have hp:GG data t (p.1::b):=by
    refine⟨λi m=>?_,λi m=>?_,by simp only[Cd];omega,?_,by simp only[D1];omega⟩
    .rcases Gc.1 m with rfl|m
     .exact g.num
     .exact h.num i (by simp[m])
    .rcases Gc.1 m with rfl|m
     .rw[y];exact d1
     .exact h.deg i (by simp[m])
    .have:Eg data t (p.1::b)=dgo data t p.1+Eg data t b:=(by unfold Eg;simp);omega
   rw[Aw7 n b p.1 hp,Nat.mul_comm],Oe,n a r _ _ (by unfold KM;omega) l k ω j c]
  ac_rfl
structure PRg (data:List Ai) (t:Af) (i0:Ah) (rs:List Ah) (R:List (Ah×Nat)):Prop where
 cw:Cw (GI data t (Cd (i0::rs)) (Eg data t (i0::rs))) R
 len:R.length<=1000
 val:∀f:Ah->Nat,pv f R=Qu data t rs f i0
 cnt:pv (λ_=>1) R<=3 ^ (Eg data t (i0::rs)*rs.length)
theorem PRg.one (h:GG data t [i]):PRg data t i [] [(i,1)]:=by
 refine⟨⟨pairwise_singleton _ _,λp hp=>?_,λp hp=>?_⟩,ψ,λf=>?_,by simp[pv]⟩
 .simp only[D4]at hp;subst hp;exact⟨by simp[Cd],h.num i ψ,_,h.deg i ψ,by simp[Eg]⟩
 .simp only[D4]at hp;subst hp;exact Nat.le_refl _
 .show 1*f i+0=f i;omega
theorem GG.take {c:Ah} (h:GG data t (c::b)) (j:Nat):GG data t (c::b.take j):=by
 have k:=h.siz;have hd:=h.sum;have q:=h.len;have g:b=b.take j++b.drop j:=(take_append_drop j b).symm;have u:Cd b=Cd (b.take j)+Cd (b.drop j):=by rw[<-Uy,<-g]
 have s:Eg data t b=Eg data t (b.take j)+Eg data t (b.drop j):=by unfold Eg;rw[<-sum_append,<-map_append,<-g]
 have f:∀l,Eg data t (c::l)=dgo data t c+Eg data t l:=λl=>by unfold Eg;simp
 rw[f]at hd;simp only[Cd]at k;simp only[D1]at q;refine⟨λi hi=>?_,λi hi=>?_,by simp only[Cd];omega,by rw[f];omega,by rw[D1,length_take];omega⟩
 .rcases Gc.1 hi with rfl|hi
  .exact h.num _ ψ
  .exact h.num i (by have:=mem_of_mem_take hi;simp[this])
 .rcases Gc.1 hi with rfl|hi
  .exact h.deg _ ψ
  .exact h.deg i (by have:=mem_of_mem_take hi;simp[this])
theorem Bbh (c:DSz data) (m:Hu data) (hg:Gw data t=true) (f:S<=1048576) (g:D<=6) (j:∀p∈M,GI data t S D p.1/\1<=p.2) (b:M.length<=2000) (u:pv (λ_=>1) M<Fe) : Me data t [] (M.map Ba)=some ([],9)\/Me data t [] (M.map Ba)=some ([],0):=by
 have o:=Aw6;unfold Me;rw[show Ub data t []=some true from Aht c m hg f g (L:=[]) (λp hp=>by cases hp) ψ,Aht c m hg f g (λp hp=>(j p hp).1) b];simp only[Ad,bnt,Ap];rcases Ahs c m hg f g (L:=[]) (λp hp=>by cases hp) (by show 0<Fe;omega) ψ with⟨_,h⟩|⟨P,i,q,A,l⟩
 .have h:P7 data t []=some ([],9):=h;left;rw[h];rfl
 .have i:P7 data t []=some (P.map Ba,0):=i;have s:P = []:=(by have n:=Mu q.pos;rw[l]at n;have n:P.length<=0:=n;exact F3.1 ω);subst s;rw[i];simp only[Ad,show ((0:Int) != 0)=false from rfl,Ap];rcases Ahs c m hg f g j u b with⟨_,h⟩|⟨Q,k,z,y,x⟩
  .left;rw[h];rfl
  .right;rw[k];rfl
theorem PRg.step (B:DSz data) (hv:Hu data) (hg:Gw data t=true) {r:Ah} {R:List (Ah×Nat)} (h:PRg data t i b R) (u:GG data t (i::(b++[r]))) : (b≠[]/\Me data t (R.map Ba) [⟨r,cR 1⟩]=some ([],9))\/∃x,Me data t (R.map Ba) [⟨r,cR 1⟩]=some (x.map Ba,0)/\PRg data t i (b++[r]) x:=by
 have hs:=u.siz;have hd:=u.sum;have X:=u.len;have J:∀l,Eg data t (i::l)=dgo data t i+Eg data t l:=λl=>by unfold Eg;simp
 have m:Cd (i::(b++[r]))=Cd (i::b)+Bw r:=by simp only[Cd,Uy];omega
 have Z:Eg data t (i::(b++[r]))=Eg data t (i::b)+dgo data t r:=by rw[J,J,Bbf];omega
 have z:b.length<=4:=by simp only[D1,Ep,length_nil]at X;omega
 have A:=u.num r ψ;have N:=u.deg r ψ;have s:=h.cnt;have E:(3:Nat) ^ (Eg data t (i::b)*b.length)<=3 ^ 24:=Nat.pow_le_pow_right δ (Nat.mul_le_mul (ω:_<=6) z);have Y:(729:Nat)*(3 ^ 24*1)<Fe:=by unfold Fe;decide
 have j:pv (λ_:Ah=>1) [(r,1)]=1:=rfl;have I:∀p∈[(r,1)],GI data t (Bw r) (dgo data t r) p.1/\1<=p.2:=λp hp=>by simp only[D4]at hp;subst hp;exact⟨⟨Nat.le_refl _,A,_,N,Nat.le_refl _⟩,Nat.le_refl _⟩
 have k:[(r,1)].map Ba = [⟨r,cR 1⟩]:=rfl;by_cases G:R = []
 .subst G;have y:b≠[]:=λe=>by subst e;have h0:(0:Nat)=1:=h.val λ_=>1;omega
  rcases Bbh B hv hg (S:=Bw r) (D:=dgo data t r) ω ω I ψ (by rw[j];have:=Aw6;omega) with c|c
  .left;rw[<-k];exact⟨y,c⟩
  .right;refine⟨[],by rw[<-k];exact c,⟨Cw.nil _,ψ,λf=>?_,Nat.zero_le _⟩⟩;rw[Anb,<-h.val];rfl
 rcases Bbe B hv hg (S:=Cd (i::b)) (S':=Bw r) (D:=Eg data t (i::b)) (D':=dgo data t r) ω ω (L:=R) (M:=[(r,1)]) (λp hp=>⟨h.cw.mo p hp,h.cw.pos p hp⟩) I (by have:=h.len;omega) ψ G ψ (by rw[j];have:729*(pv (λ_=>1) R*1)<=729*(3 ^ 24*1):=ω;omega) with⟨hb,c⟩|⟨x,c1,c2,c3,c5⟩
 .left;rw[<-k];refine⟨λe=>?_,c⟩;subst e;rw[j]at hb;simp only[length_nil,Nat.mul_zero,Nat.pow_zero]at s;omega
 .right;have q:∀f:Ah->Nat,pv f x=pv (λa=>pv f (Eb data KM t a r)) R:=λf=>by rw[c5];unfold pv2;refine Qs λp hp=>?_;show 1*pv f (Eb data KM t p.1 r)+0=pv f (Eb data KM t p.1 r);omega
  refine⟨x,by rw[<-k];exact c1,⟨by rw[m,Z];exact c2,c3,λf=>by rw[q,h.val,Anb],?_⟩⟩
  .rw[q];have h1:pv (λa=>pv (λ_=>1) (Eb data KM t a r)) R<=pv (λ_=>3 ^ (Eg data t (i::(b++[r])))*1) R:=Ahv λp hp=>by obtain⟨n,V,d,U,o⟩:=h.cw.mo p hp;have g:=(Qt data KM t p.1 r d _ (by unfold KM;omega) U N ω V A).2;rw[Nat.mul_one];exact Nat.le_trans g (Nat.pow_le_pow_right δ ω)
   rw[Oe]at h1;have h2:=Nat.mul_le_mul_left (3 ^ (Eg data t (i::(b++[r])))) s;refine Nat.le_trans h1 (Nat.le_trans h2 ?_);rw[<-Nat.pow_add];refine Nat.pow_le_pow_right δ ?_;rw[Ep,length_singleton,Nat.mul_add,Nat.mul_one,Nat.add_comm];exact Nat.add_le_add_right (Nat.mul_le_mul_right _ ω) _
end Go.Ab
