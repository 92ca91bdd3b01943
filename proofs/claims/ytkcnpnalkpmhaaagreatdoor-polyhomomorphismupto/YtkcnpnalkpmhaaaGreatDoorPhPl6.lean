/- Plain laws: what the plain functions answer. -/
import Derived.Test.YtkcnpnalkpmhaaaGreatDoorPhPl5
open List
namespace Go.Ab
open Go
variable {res:Af} {t:Aj} {a:Ao} {χ:Bh->Nat} {m:Bj} {P:Bj->Prop} {x:Cd} {v:Co->Nat} {w:Int} {W:Int->Prop} {b1:List (ByteArray×Int)} {vars:List Af} {p q ts:List Aj} {data:List Ak} {b:List Az} {F:List Bh} {A l:List Bi} {B:List Ent} {K k k0 n:Nat}
def NoF (x:Cd) (D:Nat) (m:Bj):Prop:=Ii x m/\m.F = []/\Dy m.A<=(D:Nat)
theorem NoF.mono {D D':Nat} (h:NoF x D m) (hd:D<=D'):NoF x D' m:=⟨h.1,h.2.1,by have:=h.2.2;omega⟩
theorem Gs.nil_of {c:List Grp} (h:Gs c A):A = []->c = []:=by cases h with| nil=>exact λ_=>rfl| cons b _ _ _ _=>exact λe=>absurd (append_eq_nil_iff.1 e).1 b
theorem IsE.one {a:Bi} (h:IsE [a] B):B.length<=1:=by
 obtain⟨gs,G,x,I,q,rfl⟩:=h;have E:G = [a]:=perm_singleton.1 x;rw[E]at q;generalize c:[a]=X at q;cases q with
 | nil=>cases c
 | @cons l N f g rest gs s hg J z D=>
  have L:g.length+rest.length=1:=(by have:=congrArg length c;simpa using this.symm);have y:g.length=1:=(by have:=length_pos_iff.2 s;have:rest.length≠1\/g.length=0:=ω;omega);have b:rest = []:=Fu.1 ω;subst b;rw[append_nil]at c;subst c;have u:=D.nil_of rfl;subst u
  .show (I1 [([],1)] l f (N+1)).length<=1;have key:∀n,(∀i j,i<n->j<n->f i≠0->f j≠0->i=j)->(I1 [(([],1):Ent)] l f n).length<=1/\((I1 [(([],1):Ent)] l f n).length=1->∃i,i<n/\f i≠0):=by
    intro n;induction n with
    | zero=>intro _;simp[I1]
    | succ n ih=>
     intro h;obtain⟨i1,i2⟩:=ih λi j hi hj=>h i j ω ω;rw[Awl,E5];by_cases h0:f n=0
     .rw[Au h0];refine⟨by simpa using i1,λe=>?_⟩;obtain⟨i,a1,a2⟩:=i2 (by simpa using e);exact⟨i,ω,a2⟩
     .rw[Ar h0];have:(I1 [(([],1):Ent)] l f n).length≠1:=λe=>by obtain⟨i,a1,a2⟩:=i2 e;have:=h i n ω ω a2 h0;omega
      refine⟨by simp only[C6,length_singleton];omega,λ_=>⟨n,ω,h0⟩⟩
   refine (key (N+1) ?_).1;rcases z with⟨_,h2⟩|⟨_,h2,_⟩
   .have e:∀k,k<N+1->f k=if k=N then 1 else 0:=by refine A8o λn _=>?_;rw[h2.2.2 n];have A:N=a.P.toNat:=(by have:=h2.1;simpa[Dm] using this);rw[Aca (k:=N) ω (λj hj=>by simp[hj])];simp[prb,A]
    intro i j hi hj h1 h2;rw[e i hi]at h1;rw[e j hj]at h2;split at h1
    .split at h2
     .omega
     .exact (h2 rfl).elim
    .exact (h1 rfl).elim
   .intro i j hi hj _ _;omega
noncomputable def eB (A:List Bi):List Ent:=open Classical in if h:∃B,IsE A B then Classical.choose h else []
def sq:Nat->(Nat->Rat)->Rat
 | 0,_=>0
 | n+1,f=>sq n f+f n
def cs (K:Nat):Nat->Nat
 | 0=>0
 | j+1=>cs K j+(1+min j (K-j))
theorem Bbv {α:Type} (f:α->Int) (l:List α) (h:∀j x,l[j]? = some x->N3 f l x j=true):l.Pairwise λa b=>f a<f b:=by
 have step:∀j x y,l[j]? = some x->l[j+1]? = some y->f x<f y:=by intro j x y hx hy;have:=h (j+1) y hy;unfold N3 at this;rw[Nat.add_sub_cancel,hx]at this;simpa using this
 have c:∀d j x y,l[j]? = some x->l[j+d+1]? = some y->f x<f y:=by intro d;induction d with| zero=>exact λj x y h1 h2=>step j x y h1 h2| succ d ih=>intro j x y h1 h2;have g:l[j+d+1]? = some (l[j+d+1]'(by have:=Eg h2;omega)):=Bt _;have a1:=ih j x _ h1 g;have a2:=step _ _ _ g h2;omega
 rw[pairwise_iff_getElem];intro i j hi hj k;obtain⟨d,hd⟩:∃d,j=i+d+1:=⟨j-i-1,ω⟩;subst hd;exact c d i _ _ (Bt hi) (Bt hj)
theorem Bbw (b2:List (ByteArray×List Av)) (hc:Md data vars res) (z:Dv data vars res b1) (m:Bj) (k:MSz m) (hp:My data vars res m=true) : ∃p:Int×List (ByteArray×Int),Pk m b1 b2 data vars res.G res.U res.R=some p/\(p.1=Cn data vars res m.F+Dy m.A\/(6<p.1/\6<Cn data vars res m.F+Dy m.A))/\Dv data vars res p.2:=by
 have hf:=k.nf;have ha:=k.na;unfold My at hp;rw[C3,G5,G5]at hp;unfold Pk;refine Ee (λ(v5,s,g)=>∃j:Nat,s=j/\j<=m.F.length/\Dv data vars res g/\0<=v5/\v5<=12/\(v5=Cn data vars res (m.F.take j)\/(6<v5/\6<Cn data vars res (m.F.take j)))) (λ(_,s,_)=>m.F.length-s.toNat) (λ(v5,g)=>Dv data vars res g/\0<=v5/\v5<=12/\(v5=Cn data vars res m.F\/(6<v5/\6<Cn data vars res m.F))) ⟨0,rfl,ω,z,ω,ω,.inl (by simp[Cn])⟩ ?_ ?_
 .rintro⟨v5,s,g⟩ ⟨j,rfl,hj,l,h0,h12,hv⟩;rcases Ch j m.F.length with h|h
  .have hx:m.F[j]? = some m.F[j]:=Bt h;generalize m.F[j]=f at hx;have c:=Bv hx;have hd:=hp.1 f c;rw[Dt]at hd;have A:=(Atg data vars res f).2;have es:Cn data vars res (m.F.take (j+1))=Cn data vars res (m.F.take j)+Eh data vars res f:=Ath _ hx;simp only[As (ω:(j:Int)<(m.F.length:Int)),Am,Bu rfl hx,Ad,C9 h ω];by_cases q:v5<=6
   .have u:(D4 vars res f.v).isSome=true:=by
     unfold Eh at hd;cases ht:D4 vars res f.v with
     | none=>rw[ht]at hd;have hd:(0:Int)<=-1:=hd;omega
     | some t=>rfl
    obtain⟨B,d1,d2⟩:=Abm b2 hc l f (k.fr f c).2 (k.fr f c).1 (k.fi f c) u;rw[As q];simp only[Am,d1,Ad];have b:Ac (v5+Eh data vars res f)=v5+Eh data vars res f:=ξ;exact .inl ⟨_,rfl,⟨j+1,rfl,ω,d2,by simp only[b];omega,by simp only[b];omega,by simp only[b,es];omega⟩,ζ⟩
   .rw[Ay q];exact .inl ⟨_,rfl,⟨j+1,rfl,ω,l,h0,h12,by simp only[es];omega⟩,ζ⟩
  .have:j=m.F.length:=ω;subst this;rw[Db]at hv;exact .inr ⟨(v5,g),ψ,l,h0,h12,hv⟩
 .rintro⟨v5,g⟩ ⟨l,h0,h12,hv⟩;simp only;refine Ee (λ(v,i)=>∃j:Nat,i=j/\j<=m.A.length/\0<=v/\v<=13/\(v=Cn data vars res m.F+Dy (m.A.take j)\/(6<v/\6<Cn data vars res m.F+Dy (m.A.take j)))) (λ(_,i)=>m.A.length-i.toNat) (λv=>(v=Cn data vars res m.F+Dy m.A\/(6<v/\6<Cn data vars res m.F+Dy m.A))) ⟨0,rfl,ω,h0,ω,by simpa[Dy] using hv⟩ ?_ ?_
  .rintro⟨v,i⟩ ⟨j,rfl,hj,g0,g13,y⟩;rcases Ch j m.A.length with h|h
   .have hx:m.A[j]? = some m.A[j]:=Bt h;generalize m.A[j]=a at hx;have hd:=hp.2 a (Bv hx);rw[C3,Dt]at hd;have es:=Ati hx;simp only[As (ω:(j:Int)<(m.A.length:Int)),Am,Bu rfl hx,Ad,C9 h ω];by_cases q:v<=6
    .rw[As q];simp only[Am];by_cases x:7<a.P
     .rw[Au x];have b:Ac (v+7)=v+7:=ξ;exact .inl ⟨_,rfl,⟨j+1,rfl,ω,by simp only[b];omega,by simp only[b];omega,by simp only[b,es];omega⟩,ζ⟩
     .rw[Ar x];have b:Ac (v+a.P)=v+a.P:=ξ;exact .inl ⟨_,rfl,⟨j+1,rfl,ω,by simp only[b];omega,by simp only[b];omega,by simp only[b,es];omega⟩,ζ⟩
    .rw[Ay q];exact .inl ⟨_,rfl,⟨j+1,rfl,ω,g0,g13,by simp only[es];omega⟩,ζ⟩
   .have:j=m.A.length:=ω;subst this;rw[Db]at y;exact .inr ⟨v,ψ,y⟩
  .intro v hv;exact⟨(v,g),rfl,hv,l⟩
def Ly (x:Cd) (m:Bj):Int:=Cn x.D x.V x.E m.F+Dy m.A
structure Yt (x:Cd) (m:Bj):Prop where
 fac:∀f∈m.F,1<=Eh x.D x.V x.E f
 asc:m.F.Pairwise λa b=>a.v<b.v
 atm:∀a∈m.A,1<=a.P/\Ip a.L=true/\a.L.T.length≠0/\Kt x.V x.E a.L=true
 srt:m.A.Pairwise λa b=>Im a.L b.L<0
 deg:Ly x m<=6
theorem Ii.f (h:Ii x m):Yt x m:=by
 have hc:=h.1;unfold Jp at hc;rw[C3,C3,Dt]at hc;obtain⟨⟨h1,h2⟩,h3⟩:=hc;have g1:∀j f,m.F[j]? = some f->1<=Eh x.D x.V x.E f/\N3 (·.v) m.F f j=true:=λj f hj=>by have:=Jg h1 hj;unfold P5 at this;rw[C3,Dt]at this;exact this
 have g2:∀j a,m.A[j]? = some a->(1<=a.P/\Ip a.L=true/\a.L.T.length≠0/\Kt x.V x.E a.L=true)/\Ra m.A a j=true:=λj a hj=>by have:=Jg h2 hj;unfold N4 at this;simp only[C3,Dt,Bool.not_eq_true',beq_eq_false_iff_ne,ne_eq]at this;exact⟨⟨this.1.1.1.1,this.1.1.1.2,this.1.1.2,this.1.2⟩,this.2⟩
 refine⟨λf hf=>?_,Bbv _ _ λj f hj=>(g1 j f hj).2,λa ha=>?_,?_,h3⟩
 .obtain⟨j,hj⟩:=Ht hf;exact (g1 j f hj).1
 .obtain⟨j,hj⟩:=Ht ha;exact (g2 j a hj).1
 .have step:∀j x y,m.A[j]? = some x->m.A[j+1]? = some y->Im x.L y.L<0:=(by intro j x y hx hy;have:=(g2 (j+1) y hy).2;unfold Ra at this;rw[Nat.add_sub_cancel,hx]at this;simpa using this);have b:∀d j x y,m.A[j]? = some x->m.A[j+d+1]? = some y->Im x.L y.L<0:=(by intro d;induction d with| zero=>exact λj x y h1 h2=>step j x y h1 h2| succ d ih=>intro j x y h1 h2;have c:m.A[j+d+1]? = some (m.A[j+d+1]'(by have:=Eg h2;omega)):=Bt _;exact Ahf.trs _ _ _ (ih j x _ h1 c) (step _ _ _ c h2));rw[pairwise_iff_getElem];intro i j hi hj g;obtain⟨d,hd⟩:∃d,j=i+d+1:=⟨j-i-1,ω⟩;subst hd;exact b d i _ _ (Bt hi) (Bt hj)
theorem Yt.fsum0 (h:Yt x m):0<=Cn x.D x.V x.E m.F:=by
 have key:∀l:List Bh,(∀f∈l,1<=Eh x.D x.V x.E f)->0<=Cn x.D x.V x.E l:=λl=>by induction l with| nil=>intro _;simp[Cn]| cons f l ih=>intro b;have h1:=b f ψ;have h2:=ih λg hg=>b g (by simp[hg]);unfold Cn at *;simp only[map_cons,sum_cons];omega
 exact key _ h.fac
theorem Bbx (h:∀a∈l,1<=a.P):Dy l=(Dm l:Nat)/\l.length<=Dm l:=by induction l with| nil=>exact⟨rfl,Nat.le_refl _⟩| cons a l ih=>obtain⟨e,c⟩:=ih λb hb=>h b (by simp[hb]);have f:=h a ψ;unfold Dy at *;simp only[map_cons,sum_cons,Dm,D8];omega
theorem Yt.as (h:Yt x m):Dy m.A=(Dm m.A:Nat)/\m.A.length<=Dm m.A:=Bbx λa ha=>(h.atm a ha).1
theorem Bby (h:Yt x m):My x.D x.V x.E m=true:=by unfold My;rw[C3,G5,G5];refine⟨λf hf=>decide_eq_true (by have:=h.fac f hf;omega),λa ha=>?_⟩;obtain⟨h1,_,_,b⟩:=h.atm a ha;rw[b,As ω];rfl
theorem Bbz (b2:List (ByteArray×List Av)) (hc:Md x.D x.V x.E) (c:Dv x.D x.V x.E b1) (h:Ii x m) : ∃b,Pk m b1 b2 x.D x.V x.E.G x.E.U x.E.R=some (Ly x m,b)/\Dv x.D x.V x.E b:=by obtain⟨⟨d,b⟩,h1,h2,h3⟩:=Bbw b2 hc c m h.2 (Bby h.f);have:=h.f.deg;unfold Ly at *;dsimp only at h2 h3;have e:d=Cn x.D x.V x.E m.F+Dy m.A:=ω;subst e;exact⟨b,h1,h3⟩
theorem Axv (b2:List (ByteArray×List Av)) (hc:Md x.D x.V x.E) (i:Dv x.D x.V x.E b1) (q:List Aj) (D:q.length<=1000000) (h:∀u∈q,Ii x u.M) : ∃G b,Wp q b1 b2 x.D x.V x.E.G x.E.U x.E.R=some (G,b)/\Dv x.D x.V x.E b/\0<=G/\G<=6/\∀u∈q,Ly x u.M<=G:=by
 unfold Wp;obtain⟨e,B,G,b,rfl,A⟩:=Li (step:=(λ(v4,v5,k)=> bif v5<(q.length:Int) then ((Ag q v5).bind λl=> (Pk l.M k b2 x.D x.V x.E.G x.E.U x.E.R).bind λv9=> some (.inl ((if v9.1>v4 then v9.1 else v4),(Ac (v5+1)),v9.2))) else (some (.inr (v4,k))):Int×Int×List (ByteArray×Int)->Option ((Int×Int×List (ByteArray×Int))⊕(Int×List (ByteArray×Int))))) (λs=>∃(j:Nat) (G:Int) (b:List (ByteArray×Int)),s=(G,(j:Int),b)/\j<=q.length/\Dv x.D x.V x.E b/\0<=G/\G<=6/\∀u∈q.take j,Ly x u.M<=G) (λs=>q.length-s.2.1.toNat) (λe=>∃G b,e=(G,b)/\Dv x.D x.V x.E b/\0<=G/\G<=6/\∀u∈q,Ly x u.M<=G) (by
   rintro _ ⟨j,G,b,rfl,hj,i,h0,z,g⟩;dsimp only;rcases Ch j q.length with h'|h'
   .left;have hx:q[j]? = some q[j]:=Bt h';generalize q[j]=u at hx;have hu:=h u (Bv hx);obtain⟨c,c1,c2⟩:=Bbz b2 hc i hu;have y:=hu.f.deg;refine⟨(if Ly x u.M>G then Ly x u.M else G,((j+1:Nat):Int),c),?_,⟨j+1,_,c,rfl,ω,c2,by split <;> omega,by split <;> omega,λw hw=>?_⟩,ζ⟩
    .rw[As ω,Am,Bu rfl hx,Ad,c1,Ad,C9 h' ω]
    .rw[Da hx]at hw;rcases Ei.1 hw with hw|hw
     .have:=g w hw;split <;> omega
     .rw[Et]at hw;subst hw;split <;> omega
   .right;have:j=q.length:=ω;subst this;rw[Db]at g;exact⟨(G,b),by rw[Ay ω,Aq],G,b,rfl,i,h0,z,g⟩)
  (0,0,b1) ⟨0,0,b1,rfl,ω,i,ω,ω,λu hu=>by simp at hu⟩;exact⟨G,b,bnd B rfl,A⟩
def G2 (v:Co->Nat):List Bi->Nat
 | []=>1
 | a::l=>bc (v a.L) a.P.toNat*G2 v l
theorem Acz (v:Co->Nat) (l m:List Bi):G2 v (l++m)=G2 v l*G2 v m:=by induction l with| nil=>simp[G2]| cons a l ih=>simp only[Ed,G2,ih,Nat.mul_assoc]
theorem Axw (v:Co->Nat) {m:List Bi} (h:l.Perm m):G2 v l=G2 v m:=by induction h with| nil=>rfl| cons a _ ih=>simp only[G2,ih]| swap a b l=>simp only[G2];rw[<-Nat.mul_assoc,<-Nat.mul_assoc,Nat.mul_comm (bc (v b.L) _)]| trans _ _ h1 h2=>exact h1.trans h2
theorem Ana {v:Co->Nat} {l:Co}:∀{g:List Bi},(∀a∈g,a.L=l)->G2 v g=prb (v l) g
 | [],_=>rfl
 | a::g,h=>by simp only[G2,prb];rw[h a ψ,Ana λb hb=>h b (by simp[hb])]
def Jr (v:Co->Nat):List Ent->Nat
 | []=>0
 | b::bs=>b.2*G2 v b.1+Jr v bs
theorem Bb0 (v:Co->Nat) (B C:List Ent):Jr v (B++C)=Jr v B+Jr v C:=by induction B with| nil=>simp[Jr]| cons b B ih=>simp only[Ed,Jr,ih,Nat.add_assoc]
theorem Bb1 (v:Co->Nat) (l:Co) (k c:Nat) (B:List Ent):Jr v (B.map λb=>(b.1++atO l k,b.2*c))=Jr v B*(c*bc (v l) k):=by
 have ha:G2 v (atO l k)=bc (v l) k:=by
  unfold atO;by_cases h:k=0
  .subst h;rw[Au rfl,J0];rfl
  .rw[Ar h];simp[G2]
 induction B with| nil=>simp[Jr]| cons b B ih=>simp only[map_cons,Jr,ih,Acz,ha];rw[Nat.add_mul];congr 1;rw[Nat.mul_assoc,Nat.mul_assoc,<-Nat.mul_assoc c,Nat.mul_comm c,Nat.mul_assoc]
theorem Axx (v:Co->Nat) (B:List Ent) (l:Co) (f:Nat->Nat):∀n,Jr v (I1 B l f n)=Jr v B*sm n λk=>f k*bc (v l) k
 | 0=>by simp[I1,Jr,sm]
 | n+1=>by
  rw[Awl,Bb0,Axx v B l f n];show _=Jr v B*(sm n (λk=>f k*bc (v l) k)+f n*bc (v l) n);rw[Nat.mul_add];congr 1;by_cases h:f n=0
  .rw[Au h,h];simp[Jr]
  .rw[Ar h,Bb1]
def Mh (v:Co->Nat):Prop:=∀l:Co,l.T.length=0->v l=l.Q.toNat
theorem Gs.val (hv:Mh v):∀{b:List Grp} {A:List Bi},Gs b A->∀B,Jr v (N8 B b)=Jr v B*G2 v A:=by
 intro b A h;induction h with
 | nil=>intro B;simp[N8,G2]
 | @cons l N f g rest b c hg j i k ih=>
  intro B;show Jr v (N8 (I1 B l f (N+1)) b)=_;rw[ih,Axx,Acz,Ana hg,<-Nat.mul_assoc];congr 2;rcases i with⟨_,_,_,h3⟩|⟨h1,h2,h3⟩
  .exact h3 (v l)
  .subst h2;rw[hv l h1];simp[sm,J0,h3]
theorem IsE.val (hv:Mh v) (h:IsE A B):Jr v B=G2 v A:=by obtain⟨gs,g,c,f,b,rfl⟩:=h;rw[b.val hv,<-Axw v c];simp[Jr,G2]
def eW (c:Rat) (B:List Ent):List (Rat×Bj):=B.map λb=>(c*(b.2:Rat),⟨[],b.1⟩)
def fv (val:Int->Az) (l:Co):Nat:=(O3 val l).toNat
theorem Bb2 (val:Int->Az):Mh (fv val):=λl h=>by unfold fv O3;rw[Fu.1 h];simp
theorem Bb3 (x:Cd) (val:Int->Az) (L:List Bi):O4 x val ⟨[],L⟩=G2 (fv val) L:=by
 unfold O4;have h:∀L:List Bi,D6 (L.map (Ri val))=G2 (fv val) L:=by intro L;induction L with| nil=>rfl| cons a L ih=>rw[map_cons];show Ri val a*D6 (L.map (Ri val))=_;rw[ih];rfl
 rw[h];show 1*_=_;rw[Nat.one_mul]
theorem Bb4 (b:Ii x m) {L:List Bi} (h:Acy x.V x.E L) (c:Cn x.D x.V x.E m.F+Dy L<=6):Ii x ⟨m.F,L⟩:=by have h0:=b.f.fsum0;obtain⟨g1,g2⟩:=Bbs h ω;have hc:=b.1;unfold Jp at hc g1;rw[C3,C3]at hc g1;refine⟨?_,⟨b.2.nf,g2.na,b.2.fi,b.2.fr,g2.al⟩⟩;unfold Jp;rw[C3,C3];exact⟨⟨hc.1.1,g1.1.2⟩,decide_eq_true c⟩
noncomputable def Ah1 (x:Cd) (t:Aj) (q:List Aj):(Int×List (ByteArray×Int)×List (ByteArray×List Av)×List (ByteArray×Int)×List Aj)->Option ((Int×List (ByteArray×Int)×List (ByteArray×List Av)×List (ByteArray×Int)×List Aj)⊕((List Aj×Int)⊕(Int×List (ByteArray×Int)×List (ByteArray×List Av)×List (ByteArray×Int)×List Aj))):=λ(c,j,i,h,g)=> bif c<(q.length:Int) then ((Ag q c).bind λf=> (Ec t.C f.C).bind λv127=> (Qo t.M f.M).bind λk=> (R8 v127 k j i x.D x.V x.E.G x.E.U x.E.R).bind λb=> bif (b.2.1 != (0:Int)) then (some (.inr (.inl ([],b.2.1)))) else ((L3 b.1 h g).bind λv130=> some (.inl ((Ac (c+1)),b.2.2.1,b.2.2.2,v130.1,v130.2)))) else (some (.inr (.inr (c,j,i,h,g))))
theorem Bb5 (x:Cd) (val:Int->Az) (F:List Bh) (L:List Bi):O4 x val ⟨F,L⟩=D6 (F.map (Lx x val))*G2 (fv val) L:=by have h:=Bb3 x val L;unfold O4 at h ⊢;rw[<-h];show _=_*(1*_);rw[Nat.one_mul]
def ls (g:Int->Int):List En->Int
 | []=>0
 | t::l=>t.C*g t.v+ls g l
structure PX (x:Cd) (n k:Nat) (R:List Aj):Prop where
 cp:CP R
 mo:∀t∈R,Ii x t.M
 rb:∀t∈R,RB k t.C
 len:R.length<=n
theorem PX.can {R:List Aj} (h:PX x n k R) (b:n<=1000) (hk:k<=1048576):Ho x R := Ho.of h.cp h.mo (λt ht=>(h.rb t ht).mono hk) (Nat.le_trans h.len b)
theorem Axy (hc:CP p) (h:∀t∈p,RB k t.C) (hk:3<=k) (m:Bj):∃a,RB k a/\rq a=cf p m:=by
 by_cases b:∃t∈p,Ey t.M m=0
 .obtain⟨t,ht,e⟩:=b;exact⟨t.C,h t ht,by rw[<-Agx hc ht,Rg.1 e]⟩
 .obtain⟨y,i,f,g,c⟩:=Acj 0 ω ω;exact⟨y,f.mono hk,by rw[c,Alu λt ht e=>b ⟨t,ht,e⟩];rfl⟩
theorem Bb6 (h:CSz x) (hf:G6 x) {m l:Nat} (hp:PX x n k p) (hq:PX x m l q) (y:n+m<=1000) (h3:3<=k) (u:3<=l) (hk:k<=1048576) (s:l<=1048576) : ∃R,R5 x p q=some (R,0)/\PX x (n+m) (k+l+3) R/\∀a,cf R a=cf p a+cf q a:=by have j:=hp.len;have i:=hq.len;obtain⟨R,g,f⟩:=A8x h hf (hp.can ω hk) (hq.can ω s) ω;refine⟨R,g,⟨f.cp,λt ht=>(f.tb t ht).1,λt ht=>?_,by have:=f.len;omega⟩,f.val⟩;obtain⟨a,a1,a2⟩:=Axy hp.cp hp.rb h3 t.M;obtain⟨b,b1,b2⟩:=Axy hq.cp hq.rb u t.M;obtain⟨c,c1,_,c2,c3,c4⟩:=Vo a1 b1 ω ω;have e:t.C=c:=Abx (f.cp.coe t ht).1 c3 (by rw[<-Agx f.cp ht,f.val,c4,a2,b2]);rw[e];exact c2
theorem Bb7:Qi (λa b:Bh=>a.v-b.v):=⟨λ_ h=>ω,λ_ _ _ h1 h2=>ω,λ_ _ _ h1 h2 h3=>ω⟩
theorem Bb8 (hv:∀f∈F,-1<=f.v/\f.v<=1000000000) (c:F.length<20):∃R,Wx F=some R/\R.Perm F/\R.Pairwise (λa b=>a.v<=b.v):=by obtain⟨R,h1,h2,h3⟩:=Awj (cmp:=Wy) Bb7 F (λx hx y hy=>by have:=hv x hx;have:=hv y hy;unfold Wy;have w:Ac (x.v-y.v)=x.v-y.v:=ξ;rw[w]) c;refine⟨R,?_,h2,h3.imp λ{a b} h=>ω⟩;unfold Wx;have e:Aem (F.length:Int) F=Ahe Wy (F.length:Int) F:=rfl;rw[e,h1,Ad,M3 h2.length_eq.symm];rfl
theorem Anb {l m:List Bh} (h:l.Perm m):Cn data vars res l=Cn data vars res m:=by induction h with| nil=>rfl| cons a _ ih=>simp only[Cn,map_cons,sum_cons]at ih ⊢;omega| swap a b l=>simp only[Cn,map_cons,sum_cons];omega| trans _ _ h1 h2=>exact h1.trans h2
theorem Oa.perm {l m:List Bh} (hp:l.Perm m) (h:Oa data vars res m):Oa data vars res l:=by
 refine⟨λf hf=>h.fac f (hp.mem_iff.1 hf),?_,by rw[Anb hp];exact h.sum⟩;have:∀{l m:List Bh},l.Perm m->(l.map λf=>Ca f.I).sum=(m.map λf=>Ca f.I).sum:=λ{l m} h=>by induction h with| nil=>rfl| cons a _ ih=>simp only[map_cons,sum_cons,ih]| swap a b l=>simp only[map_cons,sum_cons];omega| trans _ _ h1 h2=>exact h1.trans h2
 rw[this hp];exact h.siz
structure Vz (data:List Ak) (vars:List Af) (res:Af) (c:Rat) (F:List Bh) (A:List Bi) (K:Nat) (out:List Aj):Prop where
 ex:∃Fs FE S gs,Fs.Perm F/\Rn data vars res Fs FE/\S.Perm A/\Ach S/\Gs gs S/\Fo K out (Rm (FE.map (Kw c)) gs)
 len:out.length<=10 ^ (Cn data vars res F).toNat*2 ^ Dm A
theorem Bb9 (hz:DSz data) (hv:Ia data) (hx:Md data vars res) (M:∀v t,D4 vars res v=some t->G1 data t=true) {c:Ao} (hc:RB K c) (hK:K<20000000000) (h0:rq c≠0) (E:Oa data vars res F) (B:Atk A) (hs:Cn data vars res F+(Dm A:Nat)<=6) {b2:List (ByteArray×List Av)} (m1:Dv data vars res b1) (m2:PMg data vars res b2) : ∃out e q k,R8 c ⟨F,A⟩ b1 b2 data vars res.G res.U res.R=some (out,e,q,k)/\Dv data vars res q/\PMg data vars res k/\((e=9/\out = [])\/(e=0/\Vz data vars res (rq c) F A (K+3636) out)):=by
 have a7:=M8 (data:=data) (vars:=vars) (res:=res) (l:=F) λf hf=>(E.fac f hf).2.2;have a6:=E.sum;have hT:∀b∈A,b.L.T.length<1099511627776:=λb hb=>by have:=(Ahj (B.lin b hb)).1;omega
 have U:=B.len;have R:=B.sum;obtain⟨S,s1,j,Y⟩:=A9f A hT ω;have g:Atk S:=⟨λa ha=>B.deg a (j.mem_iff.1 ha),λa ha=>B.lin a (j.mem_iff.1 ha),by rw[Amr j];exact R,by rw[j.length_eq];exact U⟩;obtain⟨G,f1,f2,f3⟩:=Bb8 (F:=F) (λf hf=>by obtain⟨t,d,h1,_⟩:=Am8 (E.fac f hf).2.2;have:=Ate vars res f.v;rw[h1]at this;have:=of_decide_eq_true this.symm;have:=hx.nv;omega) ω;have x:=E.perm f2;have s:N6 (rq c)≠0:=by
  unfold N6;split
  .decide
  .split
   .decide
   .rename_i h1 h2;exact (h0 (by grind)).elim
 have N:Wz A=some ([],A):=by unfold Wz Qk;rw[Ds ζ];rfl
 have h:Ww F=some ([],F):=by unfold Ww Qk;rw[Ds ζ];rfl
 have i:=f2.length_eq;obtain⟨z,X,z2⟩:=Bbp hz hv hx M (c:=rq c) G.length G [] [⟨c,⟨[],[]⟩⟩] [([],1)] K b1 b2 (Nat.le_refl _) f3 (λf hf=>by cases hf) x (.cons rfl (by show rq c=rq c*((1:Nat):Rat);grind) hc (by simp[Kw]) .nil) (Rn.nil _ _ _) (λp hp=>by simp only[Et]at hp;subst hp;simp) ω m1 m2;rcases z2 with⟨q,k,rfl,L,J⟩|⟨ts,V,q,k,rfl,L,J,Z,I⟩
 .refine⟨[],9,q,k,?_,L,J,.inl ⟨rfl,rfl⟩⟩;unfold R8;rw[(Aby hc ω).1,Ad,C7 s,Aq,h,Ad];dsimp only;rw[f1,Ad,M3 i.symm,Ad];exact bnd X rfl
 .rw[nil_append]at I;have u:=I.len;rw[Anb f2]at u;have a1:0<=Cn data vars res F:=ω;have y:(V.map (Kw (rq c))).length*2 ^ Dm S<=10 ^ (Cn data vars res F).toNat*2 ^ Dm A:=(by rw[C6,Amr j];exact Nat.mul_le_mul_right _ u);have D:10 ^ (Cn data vars res F).toNat*2 ^ Dm A<=1000000:=(by have h1:2 ^ Dm A<=10 ^ Dm A:=Nat.pow_le_pow_left δ _;have h2:=Nat.mul_le_mul_left (10 ^ (Cn data vars res F).toNat) h1;rw[<-Nat.pow_add]at h2;exact Nat.le_trans h2 (Ah0 ω));obtain⟨gs,out,g1,g2,g3,g4⟩:=Bbh S.length S ts (V.map (Kw (rq c))) (K+202*G.length) 0 (Nat.le_refl _) Y g Z (λb hb=>by obtain⟨p,_,rfl⟩:=mem_map.1 hb;simp[Kw]) (by have:=g.len;omega) (by have:=g.len;omega) (Nat.le_trans y D);refine⟨out,0,q,k,?_,L,J,.inr ⟨rfl,⟨G,V,S,gs,f2,I,j,Y,g2,g3.mono (by have:=g.len;omega)⟩,Nat.le_trans g4 y⟩⟩;unfold R8;rw[(Aby hc ω).1,Ad,C7 s,Aq,h,Ad];dsimp only;rw[f1,Ad,M3 i.symm,Ad];refine bnd X ?_;dsimp only;rw[N,Ad];dsimp only;rw[s1,Ad,M3 j.length_eq.symm,Ad];exact bnd g1 rfl
def I2 (χ:Bh->Nat) (v:Co->Nat):List Hg->Nat
 | []=>0
 | b::bs=>D6 (b.1.1.map χ)*(b.2.2*G2 v b.2.1)+I2 χ v bs
theorem Bca (χ:Bh->Nat) (v:Co->Nat) (B C:List Hg):I2 χ v (B++C)=I2 χ v B+I2 χ v C:=by induction B with| nil=>simp[I2]| cons b B ih=>simp only[Ed,I2,ih,Nat.add_assoc]
theorem Bcb (χ:Bh->Nat) (v:Co->Nat) (l:Co) (k c:Nat) (B:List Hg):I2 χ v (B.map (To l k c))=I2 χ v B*(c*bc (v l) k):=by
 have ha:G2 v (atO l k)=bc (v l) k:=by
  unfold atO;by_cases h:k=0
  .subst h;rw[Au rfl,J0];rfl
  .rw[Ar h];simp[G2]
 induction B with
 | nil=>simp[I2]
 | cons b B ih=>
  simp only[map_cons,I2,ih,To,Acz,ha];rw[Nat.add_mul];congr 1
  ac_rfl
theorem Axz (χ:Bh->Nat) (v:Co->Nat) (B:List Hg) (l:Co) (f:Nat->Nat):∀n,I2 χ v (Kv B l f n)=I2 χ v B*sm n λk=>f k*bc (v l) k
 | 0=>by simp[Kv,I2,sm]
 | n+1=>by
  rw[Ahx,Bca,Axz χ v B l f n];show _=I2 χ v B*(sm n (λk=>f k*bc (v l) k)+f n*bc (v l) n);rw[Nat.mul_add];congr 1;by_cases h:f n=0
  .rw[Au h,h];simp[I2]
  .rw[Ar h,Bcb]
theorem Gs.valG (hv:Mh v):∀{b:List Grp} {A:List Bi},Gs b A->∀B,I2 χ v (Rm B b)=I2 χ v B*G2 v A:=by
 intro b A h;induction h with
 | nil=>intro B;simp[Rm,G2]
 | @cons l N f g rest b c hg j i k ih=>
  intro B;show I2 χ v (Rm (Kv B l f (N+1)) b)=_;rw[ih,Axz,Acz,Ana hg,<-Nat.mul_assoc];congr 2;rcases i with⟨_,_,_,h3⟩|⟨h1,h2,h3⟩
  .exact h3 (v l)
  .subst h2;rw[hv l h1];simp[sm,J0,h3]
theorem Ax0 (χ:Bh->Nat) (v:Co->Nat) (c:Rat):∀b:List N9,I2 χ v (b.map (Kw c))=pv (λF=>D6 (F.map χ)) b
 | []=>rfl
 | p::b=>by rw[map_cons,I2,Ax0 χ v c b,pv];show D6 (p.1.map χ)*(p.2*1)+_=_;rw[Nat.mul_one,Nat.mul_comm]
def Ef (χ:Bh->Nat) (v:Co->Nat):List Aj->Rat
 | []=>0
 | t::p=>rq t.C*((D6 (t.M.F.map χ)*G2 v t.M.A:Nat):Rat)+Ef χ v p
theorem Ah2 (χ:Bh->Nat) (v:Co->Nat):∀p q:List Aj,Ef χ v (p++q)=Ef χ v p+Ef χ v q
 | [],q=>by simp only[nil_append,Ef];grind
 | t::p,q=>by simp only[Ed,Ef,Ah2 χ v p q];grind
theorem Fo.polX {c:Rat} {bs:List Hg} (h:Fo K ts bs) (hc:∀b∈bs,b.1.2=c):Go.Ab.Ef χ v ts=c*(I2 χ v bs:Rat):=by induction h with| nil=>simp only[Go.Ab.Ef,I2];grind| @cons t b ts bs a1 a2 a3 a4 _ ih=>have hb:=hc b ψ;simp only[Go.Ab.Ef,I2,ih λd hd=>hc d (by simp[hd]),a1,a2,hb,Rat.natCast_add,Rat.natCast_mul];grind
theorem Bcc {l m:List Nat} (h:l.Perm m):D6 l=D6 m:=by induction h with| nil=>rfl| cons a _ ih=>simp only[D6,ih]| swap a b l=>simp only[D6];ac_rfl| trans _ _ h1 h2=>exact h1.trans h2
theorem Vz.val {c:Rat} {f:List Aj} (h:Vz data vars res c F A K f) (i:Vy data vars res χ F) (hv:Mh v):Ef χ v f=c*((D6 (F.map χ)*G2 v A:Nat):Rat):=by obtain⟨s,u,S,gs,h1,h2,h3,l,k,j⟩:=h.ex;rw[j.polX (c:=c) λb hb=>by obtain⟨q,b1,b2,_⟩:=Am7 gs hb;obtain⟨p,_,rfl⟩:=mem_map.1 b1;rw[b2];rfl];rw[k.valG hv,Ax0,h2.val χ λg hg=>i g (h1.mem_iff.1 hg),Axw v h3,Bcc (h1.map χ)]
theorem Bcd {l:Co} {f:Nat->Nat} {b:Ent} (hb:b∈I1 B l f n):∃c∈B,∀a∈b.1,a∈c.1\/a.L=l:=by
 unfold I1 at hb;rw[mem_flatMap]at hb;obtain⟨k,_,hk⟩:=hb;split at hk
 .cases hk
 .obtain⟨d,hd,rfl⟩:=mem_map.1 hk;refine⟨d,hd,λa ha=>?_⟩;rcases Ei.1 ha with ha|ha
  .exact .inl ha
  .unfold atO at ha;split at ha
   .cases ha
   .simp only[Et]at ha;right;rw[ha]
theorem Bce {j:List Grp} (h:Gs j A):∀(B:List Ent) (b:Ent),b∈N8 B j->∃q∈B,∀a∈b.1,a∈q.1\/∃c∈A,a.L=c.L:=by
 induction h with
 | nil=>intro B b hb;exact⟨b,hb,λa ha=>.inl ha⟩
 | @cons l N f g rest j k hg s u x ih=>
  intro B b hb;obtain⟨b1,c1,c2⟩:=ih _ b (show b∈N8 (I1 B l f (N+1)) j from hb);obtain⟨q,d1,d2⟩:=Bcd c1;obtain⟨a0,i⟩:∃a,a∈g:=(by cases g with| nil=>exact (k rfl).elim| cons a _=>exact⟨a,ψ⟩);refine⟨q,d1,λa ha=>?_⟩;rcases c2 a ha with h|⟨c,h1,h2⟩
  .rcases d2 a h with h|h
   .exact .inl h
   .exact .inr ⟨a0,by simp[i],by rw[h,hg a0 i]⟩
  .exact .inr ⟨c,by simp[h1],h2⟩
theorem Vz.mono {c:Rat} {i:List Aj} (h:Vz data vars res c F A K i) (B:∀a∈A,Ip a.L=true/\Kt vars res a.L=true):∀t∈i,RB K t.C/\(∃n:Nat,rq t.C=c*(n:Rat))/\(∀f∈t.M.F,Ff f.v/\iR f.I/\Ca f.I<=400000/\1<=Eh data vars res f)/\t.M.F.Pairwise (λa b=>a.v<b.v)/\Cn data vars res t.M.F<=Cn data vars res F/\Acy vars res t.M.A/\Dy t.M.A<=(Dm A:Nat)/\(∀f∈t.M.F,∃g∈F,g.v=f.v)/\∀a∈t.M.A,∃c∈A,a.L=c.L:=by
 obtain⟨R,U,S,gs,h1,h2,h3,M,l,k⟩:=h.ex;intro t ht;obtain⟨b,b1,b2,L,J⟩:=k.mem ht;obtain⟨N,c1,c2,c3⟩:=Am7 gs b1;obtain⟨p,j,rfl⟩:=mem_map.1 c1;obtain⟨g1,g2⟩:=Bbr (vars:=vars) (res:=res) l (λa ha=>B a (h3.mem_iff.1 ha)) [(Kw c p).2] 0 (λd hd=>by simp only[Et]at hd;subst hd;exact⟨⟨Pairwise.nil,λ_ h=>by cases h⟩,by simp[Dy,Kw],λ_ h=>by cases h⟩) b.2 c3;rw[Amr h3]at g2;have G:b.1.1=p.1:=by rw[c2];rfl
 have E:b.1.2=c:=by rw[c2];rfl
 rw[b2];dsimp only;rw[G];refine⟨J,⟨b.2.2,by rw[L,E]⟩,λf hf=>?_,h2.asc p j,by have:=h2.sum p j;rw[Anb h1]at this;exact this,g1,ω,λf hf=>?_,λa ha=>?_⟩
 .obtain⟨z,y,x,u,_⟩:=h2.fac p j f hf;exact⟨z,y,x,u⟩
 .obtain⟨_,_,_,_,g,s,q⟩:=h2.fac p j f hf;exact⟨g,h1.mem_iff.1 s,q⟩
 .obtain⟨d,d1,d2⟩:=Bce l _ _ c3;simp only[Et]at d1;subst d1;rcases d2 a ha with h|⟨I,k,D⟩
  .cases h
  .exact⟨I,h3.mem_iff.1 k,D⟩
theorem Bcf {c:Ao} (ha:RB K a) (hc:RB k c) (h:rq a=rq c*(n:Rat)) (h0:rq c≠0):Bp n<=K+k+2:=by
 have i:=ha.nv;have hd:=hc.dv;have e:rq c*(n:Rat)=mkRat (sg (sv c) (nv c)*(n:Int)) (dv c):=by unfold rq;rw[show ((n:Nat):Rat)=mkRat (n:Int) 1 from (Ahh (n:Int)).symm,Rat.mkRat_mul_mkRat,Nat.mul_one]
 rw[e]at h;unfold rq at h;rw[Rat.mkRat_eq_iff (F4 a) (F4 c)]at h;have b:nv c≠0:=λg=>h0 ((A7g c).2 g);have hh:=congrArg Int.natAbs h;have f:∀(s:Bool) (m:Nat),(sg s m).natAbs=m:=λs m=>by unfold sg;split <;> omega
 rw[Int.natAbs_mul,Int.natAbs_mul,Int.natAbs_mul,f,f,Int.natAbs_natCast,Int.natAbs_natCast,Int.natAbs_natCast]at hh;have h1:n<=nv a*dv c:=by rw[hh];have d0:=Nat.pos_of_ne_zero (F4 a);have c0:=Nat.pos_of_ne_zero b;have h2:n<=nv c*n:=Nat.le_mul_of_pos_left _ c0;exact Nat.le_trans h2 (Nat.le_mul_of_pos_right _ d0)
 have h2:=I4 h1;have h3:=Hx (nv a) (dv c);omega
theorem Bcg {x c:Ao} {j L:Nat} (hx:Hu x) (ha:RB j a) (hc:RB k c) (b:Bp n<=L) (g:1<=L) (h:rq x=rq a+rq c*(n:Rat)) (hj:j<10000000000) (hk:k<10000000000) (f:L<10000000000):RB (j+k+L+5) x:=by obtain⟨m,m1,m2,m3,m4⟩:=Rf hc (O2 b g) ω ω;obtain⟨d,d1,_,d3,d4,d5⟩:=Vo ha m2 ω ω;have:x=d:=Abx hx d4 (by rw[h,d5,m4,Vv]);rw[this];exact d3.mono ω
def Tm (k0:Nat) (c:Ao) (N B:Nat) (t:Aj):Prop:=RB B t.C/\∃(a:Ao) (n:Nat),RB k0 a/\rq t.C=rq a+rq c*(n:Rat)/\n<=N
theorem Bch (hP:∀m,P m->CMo m) {c:Ao} (hc:RB k c) (a1:rq c≠0) (l ts:List Aj) (y:Col k0 P ts) (hl:∀t∈l,RB K t.C/\P t.M/\∃n:Nat,rq t.C=rq c*(n:Rat)) (ab:k0<=2000000000) (hK:K<=2000000000) (hk:k<=2000000000) (aa:l.length<=1000000) (hn:ts.length<=1099511627776) : ∃f,L3 l (Fk ts) ts=some (Fk f,f)/\Col (max k0 K+k+(K+k+10)) P f/\f.length<=ts.length+l.length/\∀m,cf f m=cf ts m+cf l m:=by
 have J:∀t∈l,∀n:Nat,rq t.C=rq c*(n:Rat)->n<1000000000 ^ (K+k+2):=λt ht n h=>by have h1:=Bcf (hl t ht).1 hc h a1;exact Nat.lt_of_lt_of_le (Oy n) (Nat.pow_le_pow_right δ h1)
 have a6:∀N,N<=1000000*1000000000 ^ (K+k+2)->Bp N<=K+k+3:=λN h=>by refine Kq (Nat.lt_of_le_of_lt h ?_);rw[show K+k+3=(K+k+2)+1 by omega,Nat.pow_succ];have key:∀X:Nat,0<X->1000000*X<X*1000000000:=λX h=>ω;exact key (1000000000 ^ (K+k+2)) (Nat.pow_pos (show 0<1000000000 by decide))
 have hB:∀(N:Nat) (x a:Ao),N<=1000000*1000000000 ^ (K+k+2)->Hu x->RB (max k0 K) a->rq x=rq a+rq c*(N:Rat)->RB (max k0 K+k+(K+k+10)) x:=λN x a h1 h2 h3 h4=>by have h5:=Bcg h2 h3 hc (a6 N h1) ω h4 ω ω ω;exact h5.mono ω
 unfold L3;refine Xs (A:=List Aj) (λf=>(Fk f,f)) ?_;refine Ee (λs=>∃(j:Nat) (u:List Aj),s=((j:Int),Fk u,u)/\j<=l.length/\Dst u/\(∀t∈u,P t.M)/\(∀t∈u,Tm (max k0 K) c (j*1000000000 ^ (K+k+2)) (max k0 K+k+(K+k+10)) t)/\u.length<=ts.length+j/\∀m,cf u m=cf ts m+cf (l.take j) m) (λs=>l.length-s.1.toNat) (λz=>∃u,z=(Fk u,u)/\Col (max k0 K+k+(K+k+10)) P u/\u.length<=ts.length+l.length/\∀m,cf u m=cf ts m+cf l m) ⟨0,ts,rfl,ω,y.dst,y.mo,λt ht=>⟨(y.tb t ht).mono ω,t.C,0,(y.tb t ht).mono ω,by rw[show ((0:Nat):Rat)=0 from rfl];grind,ω⟩,ω,λm=>by simp only[take_zero,cf];grind⟩ ?_ ?_
 .rintro _ ⟨j,u,rfl,hj,hu,B,L,Y,hv⟩;rcases Ch j l.length with h|h
  .have hx:l[j]? = some l[j]:=Bt h;generalize l[j]=x at hx;obtain⟨hb,hm,n,I⟩:=hl x (Bv hx);have a8:=J x (Bv hx) n I;have ad:(j+1)*1000000000 ^ (K+k+2)=j*1000000000 ^ (K+k+2)+1000000000 ^ (K+k+2):=(by rw[Nat.add_mul,Nat.one_mul]);have ac:(j+1)*1000000000 ^ (K+k+2)<=1000000*1000000000 ^ (K+k+2):=Nat.mul_le_mul_right _ ω;simp only[As (ω:(j:Int)<(l.length:Int)),Am,Bu rfl hx,Ad,Ava (hP _ hm),C9 h ω];left;by_cases hex:∃t∈u,t.M=x.M
   .obtain⟨t,ht,he⟩:=hex;obtain⟨i,hi⟩:=Ht ht;obtain⟨g1,g2⟩:=Ave hu hi;rw[he]at g1 g2;obtain⟨tb,a,V,G,M,a7⟩:=L t ht;obtain⟨E,c1,_,c3,c4,c5⟩:=Vo tb hb ω ω;have D:rq E=rq a+rq c*((V+n:Nat):Rat):=(by rw[c5,M,I,Rat.natCast_add];grind);have Z:=hB (V+n) E a ω c4 G D;refine⟨((j+1:Nat),Fk (u.set i ⟨E,t.M⟩),u.set i ⟨E,t.M⟩),?_,⟨j+1,u.set i ⟨E,t.M⟩,rfl,ω,hu.set hi rfl,?_,?_,by rw[length_set];omega,λm=>?_⟩,ζ⟩
    .simp only[g1,g2,Am,Ad,Bu rfl hi,c1,He rfl,Avc (u:=⟨E,t.M⟩) hi rfl]
    .intro w hw;rcases mem_or_eq_of_mem_set hw with hw|rfl
     .exact B w hw
     .exact B t ht
    .intro w hw;rcases mem_or_eq_of_mem_set hw with hw|rfl
     .obtain⟨U,b,q,S,R,q4⟩:=L w hw;exact⟨U,b,q,S,R,ω⟩
     .exact⟨Z,a,V+n,G,D,ω⟩
    .rw[Al9 (u:=⟨E,t.M⟩) hi rfl m,hv m,Da hx,Te,Tf];simp only[c5,he,cf];split <;> grind
   .have g:=Avd (m:=x.M) (ts:=u) λt ht e=>hex ⟨t,ht,e⟩;refine⟨((j+1:Nat),Fk (u++[x]),u++[x]),?_,⟨j+1,u++[x],rfl,ω,?_,?_,?_,ζ,λm=>?_⟩,ζ⟩
    .simp only[g,Aq,Ad];rw[Ds ζ,Ad,Ag6 _ _ _ g,Avb]
    .refine pairwise_append.2 ⟨hu,pairwise_singleton _ _,λa ha b hb=>?_⟩;simp only[Et]at hb;subst hb;exact λe=>hex ⟨a,ha,e⟩
    .intro w hw;rcases Ei.1 hw with hw|hw
     .exact B w hw
     .simp only[Et]at hw;subst hw;exact hm
    .intro w hw;rcases Ei.1 hw with hw|hw
     .obtain⟨U,b,q,S,R,q4⟩:=L w hw;exact⟨U,b,q,S,R,ω⟩
     .simp only[Et]at hw;subst hw;exact⟨hb.mono ω,w.C,0,hb.mono ω,by rw[show ((0:Nat):Rat)=0 from rfl];grind,ω⟩
    .rw[Te,hv m,Da hx,Te];grind
  .have:j=l.length:=ω;subst this;rw[Db]at hv;simp only[Ay (ω:¬(l.length:Int)<(l.length:Int)),Aq];exact .inr ⟨_,rfl,u,rfl,⟨hu,λt ht=>(L t ht).1,B⟩,Y,hv⟩
 .rintro _ ⟨u,rfl,h1,h2,h3⟩;exact⟨_,rfl,u,rfl,h1,h2,h3⟩
theorem Bci (s:∀m,P m->CMo m) (o:List (ByteArray×Int)) (ts:List Aj) (h:Col k P ts) (hk:k<34359738000) (D:ts.length<=1000000000) : Lj o ts=some ([],9)\/∃R,Lj o ts=some (R,0)/\CP R/\(∀m,cf R m=cf ts m)/\(∀t∈R,P t.M/\RB (k+1) t.C)/\R.length<=1000:=by
 have A:(ts.filter nzT).length<=ts.length:=length_filter_le _ _;have c:∀{X:Option (List Aj×Int)},(bif (((ts.filter nzT).length:Nat):Int)>(1000:Int) then (some ([],9)) else ((Pj (ts.filter nzT)).bind λf=> (Gf (ts.filter nzT).length f).bind λv20=> (Wv f).bind λv21=> some (v21,0)))=X->Lj o ts=X:=λ{X} B=>by
  unfold Lj;refine bnd (a:=ts.filter nzT) ?_ B;rw[<-Option.bind_fun_some (An _ _)];refine F3 ts (λj=>((j:Int),(ts.take j).filter nzT)) rfl ω ?_ ?_
  .intro j x hj hx h1 h2 h3;have hb:=h.tb x (Bv hx);have q:((ts.take j).filter nzT).length<=ts.length:=Nat.le_trans (length_filter_le _ _) (by rw[length_take];omega);simp only[h1,h2,h3,Am,Ad,(Aby hb hk).1,Avm];rw[Amb hx];by_cases i:rq x.C=0
   .have:nzT x=false:=(by simp[nzT,i]);rw[Ay (by simpa using i),this];simp
   .have:nzT x=true:=(by simp[nzT,i]);rw[As i,this];simp only[Am];rw[Ds ζ];simp
  .intro h1;exact⟨ts.filter nzT,by simp only[h1,Aq,Db],rfl⟩
 by_cases l:1000<(ts.filter nzT).length
 .left;refine c ?_;rw[As ω,Am]
 .right;obtain⟨S,z,g,y⟩:=Av7 (ts.filter nzT) (Pairwise.filter _ h.dst) (λt ht=>(s _ (h.mo t (mem_filter.1 ht).1)).sz);have b:∀t∈S,t∈ts/\rq t.C≠0:=(by intro t ht;have:=mem_filter.1 (g.mem_iff.1 ht);exact⟨this.1,by simpa[nzT] using this.2⟩);refine⟨S.map clT,c ?_,⟨?_,?_⟩,?_,?_,?_⟩
  .rw[Ay ω];simp only[Aq];rw[z,Ad,M3 g.length_eq.symm,Ad, Avi (k:=k) S hk (λt ht=>⟨h.tb t (b t ht).1,(s _ (h.mo t (b t ht).1)).sz⟩) (by rw[g.length_eq];omega)];rfl
  .rw[pairwise_map];exact y
  .intro t ht;obtain⟨u,hu,rfl⟩:=mem_map.1 ht;refine⟨Re _ _ _ (F4 _),?_⟩;show rq (Cb _ _ _)≠0;rw[O1 _ _ _ (F4 _)];exact (b u hu).2
  .intro m;rw[Avj,Avk g,Avl]
  .intro t ht;obtain⟨u,hu,rfl⟩:=mem_map.1 ht;exact⟨h.mo u (b u hu).1,At0 (h.tb u (b u hu).1)⟩
  .rw[C6,g.length_eq];omega
def mX (χ:Bh->Nat) (v:Co->Nat) (m:Bj):Nat:=D6 (m.F.map χ)*G2 v m.A
theorem Bcj (χ:Bh->Nat) (v:Co->Nat) (p:List Aj):Jl (mX χ v) (p.map wT)=Ef χ v p:=by induction p with| nil=>rfl| cons t p ih=>simp only[map_cons,Jl,Ef,ih,wT];rfl
theorem Bck (χ:Bh->Nat) (v:Co->Nat) (p:List Aj):Jl (mX χ v) (p.map nT) = - Ef χ v p:=by induction p with| nil=>show (0:Rat) = - 0;grind| cons t p ih=>simp only[map_cons,Jl,Ef,ih,nT];show-rq t.C*((D6 (t.M.F.map χ)*G2 v t.M.A:Nat):Rat)+_=_;grind
theorem Ax1 (h:∀m,cf q m<=cf p m):Ef χ v q<=Ef χ v p:=by have:=Awt (mX χ v) _ (p.map wT++q.map nT) (Nat.le_refl _) (λm=>by rw[Aww,Awu,Awv];have:=h m;grind);rw[Awx,Bcj,Bck]at this;grind
theorem Ax2 (h:∀m,cf q m=cf p m):Ef χ v q=Ef χ v p := Rat.le_antisymm (Ax1 λm=>by rw[h m];exact Rat.le_refl) (Ax1 λm=>by rw[h m];exact Rat.le_refl)
theorem Ah3 {x:Cd} (val:Int->Az):∀p:List Aj,Kf x val p=Ef (Lx x val) (fv val) p
 | []=>rfl
 | t::p=>by simp only[Kf,Ef,Ah3 val p];have:O4 x val t.M=D6 (t.M.F.map (Lx x val))*G2 (fv val) t.M.A:=Bb5 x val t.M.F t.M.A;rw[this]
theorem Bcl (h1:∀f∈F,Ff f.v/\iR f.I/\Ca f.I<=1048576/\1<=Eh x.D x.V x.E f) (h2:F.Pairwise λa b=>a.v<b.v) (h3:Cn x.D x.V x.E F<=6):Ii x ⟨F,[]⟩:=by
 have g:=M8 (data:=x.D) (vars:=x.V) (res:=x.E) (l:=F) λf hf=>(h1 f hf).2.2.2;refine⟨?_,⟨by show F.length<=_;omega,ψ,λf hf=>(h1 f hf).2.2.1,λf hf=>⟨(h1 f hf).2.1,(h1 f hf).1⟩,λa ha=>by cases ha⟩⟩;unfold Jp;have h:F.zipIdx.all (λq=>P5 x.D x.V x.E F q.1 q.2)=true:=by rw[G5];rintro⟨a,j⟩ hq;have hj:F[j]? = some a:=mk_mem_zipIdx_iff_getElem?.1 hq;have hd:=(h1 a (Bv hj)).2.2.2;show P5 x.D x.V x.E F a j=true;unfold P5;have hp:N3 (·.v) F a j=true:=(by unfold N3;cases j with| zero=>rfl| succ j=>have g:=Eg hj;have hy:F[j]? = some F[j]:=Bt ω;have c:=pairwise_iff_getElem.1 h2 j (j+1) ω g ω;have e:F[j+1]=a:=(by have:=Bt g;rw[hj]at this;exact (Eo this).symm);rw[e]at c;simp only[Nat.add_sub_cancel,hy,Bool.or_eq_true];exact .inr (decide_eq_true c));rw[hp,As hd];rfl
 show (F.zipIdx.all (λq=>P5 x.D x.V x.E F q.1 q.2)&&([]:List Bi).zipIdx.all _&&decide (Cn x.D x.V x.E F+Dy []<=6))=true;rw[h];have:Dy []=0:=rfl;rw[this,As ω];rfl
def Ax3 (x:Cd) (Z:Nat) (m:Bj):Prop:=Ii x m/\∀f∈m.F,Ca f.I<=Z
def Ob (x:Cd) (Z:Nat) (W:Int->Prop) (m:Bj):Prop:=Ax3 x Z m/\∀w∈J1 m,W w
theorem Ro:w∈J1 m↔(∃f∈m.F,f.v=w)\/∃a∈m.A,w∈a.L.T.map (·.v):=by unfold J1 M5;rw[Ei,mem_map,mem_flatMap]
theorem Vz.canZ {c:Rat} {b:List Aj} (h:Vz x.D x.V x.E c F A K b) (j:∀w∈J1 ⟨F,A⟩,W w) (k:∀a∈A,Ip a.L=true/\Kt x.V x.E a.L=true) (z:Cn x.D x.V x.E F+(Dm A:Nat)<=6):∀t∈b,RB K t.C/\Ob x 400000 W t.M/\∃n:Nat,rq t.C=c*(n:Rat):=by
 intro t ht;obtain⟨h1,h2,h3,u,D,s,B,q,l⟩:=h.mono k t ht;have i:=Bcl (x:=x) (λf hf=>⟨(h3 f hf).1,(h3 f hf).2.1,by have:=(h3 f hf).2.2.1;omega,(h3 f hf).2.2.2⟩) u ω;have:=Bb4 i s (by show Cn x.D x.V x.E t.M.F+Dy t.M.A<=6;omega);refine⟨h1,⟨⟨this,λf hf=>(h3 f hf).2.2.1⟩,λw hw=>?_⟩,h2⟩;rcases Ro.1 hw with⟨f,f1,f2⟩|⟨a,a1,a2⟩
 .obtain⟨g,g1,g2⟩:=q f f1;exact j w (Ro.2 (.inl ⟨g,g1,by rw[g2,f2]⟩))
 .obtain⟨y,c1,c2⟩:=l a a1;exact j w (Ro.2 (.inr ⟨y,c1,by rw[<-c2];exact a2⟩))
structure TmZ (x:Cd) (k Z:Nat) (W:Int->Prop) (t:Aj):Prop where
 vr:∀w∈J1 t.M,W w
 mo:Ax3 x Z t.M
 rb:RB k t.C
 nz:rq t.C≠0
theorem Bcm (hf:G6 x) {v:Int} {t:Af} (h:D4 x.V x.E v=some t):G1 x.D t=true:=by
 unfold D4 at h;split at h
 .cases h;exact hf.2.2.1
 .exact G5.1 hf.2.2.2 t (Hf h).2.2.2
theorem Anc:∀(l:List Bh) (Z:Nat),(∀f∈l,Ca f.I<=Z)->(l.map λf=>Ca f.I).sum<=l.length*Z
 | [],_,_=>ψ
 | f::l,Z,h=>by have h1:=h f ψ;have h2:=Anc l Z λg hg=>h g (by simp[hg]);rw[map_cons,sum_cons,D8,Nat.add_mul];omega
def K9 (x:Cd) (χ:Bh->Nat) (p:List Aj):Prop:=∀t∈p,Vy x.D x.V x.E χ t.M.F
theorem kb1 (h:k<=1000):k+k+2+3636<=2000000000:=ω
theorem kb2 (h:k<=1000):k+k+2<=2000000000:=ω
theorem Bcn (hz:CSz x) (hf:G6 x) {Z:Nat} (hk:k<=1000) (hZ:Z<=33333) (ht:TmZ x k Z W t) (hq:∀u∈q,TmZ x k Z W u) (hG:∀u∈q,Ly x t.M+Ly x u.M<=6) (aa:q.length<=1000) (ab:2*k+3638<=k0) (Y:k0+q.length*(6*k+3652)<=1000000000) (I:Col k0 (Ob x 400000 W) ts) (a8:ts.length<=1000000000) {U:List (ByteArray×Int)} {S:List (ByteArray×List Av)} (X:Dv x.D x.V x.E U) (V:PMg x.D x.V x.E S) : ∃z,An (Ah1 x t q) (0,U,S,Fk ts,ts)=some z/\(z = .inl ([],9)\/∃y i b,z = .inr ((q.length:Int),y,i,Fk b,b)/\Dv x.D x.V x.E y/\PMg x.D x.V x.E i/\Col (k0+q.length*(6*k+3652)) (Ob x 400000 W) b/\b.length<=ts.length+q.length*1000000/\∀χ v,Vy x.D x.V x.E χ t.M.F->K9 x χ q->Mh v->Ef χ v b=Ef χ v ts+rq t.C*(mX χ v t.M:Rat)*Ef χ v q):=by
 have M:=hf.ctx hz;obtain⟨e,e1,e2⟩:=Li (step:=Ah1 x t q) (λs=>∃(j:Nat) (y:List (ByteArray×Int)) (i:List (ByteArray×List Av)) (b:List Aj),s=((j:Int),y,i,Fk b,b)/\j<=q.length/\Dv x.D x.V x.E y/\PMg x.D x.V x.E i/\Col (k0+j*(6*k+3652)) (Ob x 400000 W) b/\b.length<=ts.length+j*1000000/\∀χ v,Vy x.D x.V x.E χ t.M.F->K9 x χ q->Mh v->Ef χ v b=Ef χ v ts+rq t.C*(mX χ v t.M:Rat)*Ef χ v (q.take j)) (λs=>q.length-s.1.toNat) (λz=>z = .inl ([],9)\/∃(y:List (ByteArray×Int)) (i:List (ByteArray×List Av)) (b:List Aj),z = .inr ((q.length:Int),y,i,Fk b,b)/\Dv x.D x.V x.E y/\PMg x.D x.V x.E i/\Col (k0+q.length*(6*k+3652)) (Ob x 400000 W) b/\b.length<=ts.length+q.length*1000000/\∀χ v,Vy x.D x.V x.E χ t.M.F->K9 x χ q->Mh v->Ef χ v b=Ef χ v ts+rq t.C*(mX χ v t.M:Rat)*Ef χ v q) (by
   rintro _ ⟨j,y,i,b,rfl,hj,g1,g2,g3,g4,g5⟩;unfold Ah1;dsimp only;rcases Ch j q.length with h|h
   .have hx:q[j]? = some q[j]:=Bt h;generalize q[j]=u at hx;have E:=Bv hx;have hu:=hq u E;have L:=hG u E;obtain⟨c,c1,c2,_,c4⟩:=Rf ht.rb hu.rb ω ω;have N:rq c≠0:=by
     rw[c4];intro h0;rcases Rat.mul_eq_zero.1 h0 with h1|h1
     .exact ht.nz h1
     .exact hu.nz h1
    have D:=ht.mo.1.f;have B:=hu.mo.1.f;have am:=D.as;have au:=B.as;have f0:=D.fsum0;have f1:=B.fsum0;have l1:=M8 (data:=x.D) (vars:=x.V) (res:=x.E) (l:=t.M.F) D.fac;have l2:=M8 (data:=x.D) (vars:=x.V) (res:=x.E) (l:=u.M.F) B.fac;have ae:Dm (t.M.A++u.M.A)=Dm t.M.A+Dm u.M.A:=Tk _ _;unfold Ly at L;have J:Cn x.D x.V x.E (t.M.F++u.M.F)+(Dm (t.M.A++u.M.A):Nat)<=6:=(by rw[Qb];omega);have A:∀a∈t.M.A++u.M.A,1<=a.P/\Ip a.L=true/\a.L.T.length≠0/\Kt x.V x.E a.L=true:=λa ha=>by
     rcases Ei.1 ha with h|h
     .exact D.atm a h
     .exact B.atm a h
    have hA:Atk (t.M.A++u.M.A):=⟨λa ha=>by have:=(A a ha).1;omega,λa ha=>(A a ha).2.1,ω,by rw[E5];omega⟩;have hF:Oa x.D x.V x.E (t.M.F++u.M.F):=by
     refine⟨λf hf=>?_,?_,by rw[Qb];omega⟩
     .rcases Ei.1 hf with h|h
      .exact⟨(ht.mo.1.2.fr f h).2,(ht.mo.1.2.fr f h).1,D.fac f h⟩
      .exact⟨(hu.mo.1.2.fr f h).2,(hu.mo.1.2.fr f h).1,B.fac f h⟩
     .rw[map_append,sum_append];have s1:=Anc t.M.F Z ht.mo.2;have s2:=Anc u.M.F Z hu.mo.2;have s3:t.M.F.length*Z<=6*33333:=Nat.mul_le_mul ω hZ;have s4:u.M.F.length*Z<=6*33333:=Nat.mul_le_mul ω hZ;omega
    have a6:Qo t.M u.M=some ⟨t.M.F++u.M.F,t.M.A++u.M.A⟩:=Ams _ _ ω ω;obtain⟨out,er,d1,d2,x1,x2,x3,x4⟩:=Bb9 hz.ds hf.2.1 M (λv t h=>Bcm hf h) (K:=k+k+2) c2 ω N hF hA J g1 g2;rw[As ω,Am,Bu rfl hx,Ad,c1,Ad,a6,Ad,x1,Ad];dsimp only;rcases x4 with⟨rfl,rfl⟩|⟨rfl,hE⟩
    .right;exact⟨.inl ([],9),by rw[Gx δ,Am],.inl rfl⟩
    .left;have a7:=hE.canZ (W:=W) (λw hw=>by
      rcases Ro.1 hw with⟨f,f1,f2⟩|⟨a,a1,a2⟩
      .rcases Ei.1 f1 with f1|f1
       .exact ht.vr w (Ro.2 (.inl ⟨f,f1,f2⟩))
       .exact hu.vr w (Ro.2 (.inl ⟨f,f1,f2⟩))
      .rcases Ei.1 a1 with a1|a1
       .exact ht.vr w (Ro.2 (.inr ⟨a,a1,a2⟩))
       .exact hu.vr w (Ro.2 (.inr ⟨a,a1,a2⟩))) (λa ha=>⟨(A a ha).2.1,(A a ha).2.2.2⟩) J
     have R:out.length<=1000000:=(by refine Nat.le_trans hE.len ?_;have h1:2 ^ Dm (t.M.A++u.M.A)<=10 ^ Dm (t.M.A++u.M.A):=Nat.pow_le_pow_left δ _;have h2:=Nat.mul_le_mul_left (10 ^ (Cn x.D x.V x.E (t.M.F++u.M.F)).toNat) h1;rw[<-Nat.pow_add]at h2;exact Nat.le_trans h2 (Ah0 ω));have ad:j*(6*k+3652)+(6*k+3652)<=q.length*(6*k+3652):=(by rw[<-Nat.succ_mul];exact Nat.mul_le_mul_right _ h);have ac:(j+1)*(6*k+3652)=j*(6*k+3652)+(6*k+3652):=Nat.succ_mul _ _;have q1:k0+j*(6*k+3652)<=2000000000:=Nat.le_trans (Nat.add_le_add_left (Nat.mul_le_mul_right _ hj) k0) (Nat.le_trans Y δ);have q2:k+k+2+3636<=2000000000:=kb1 hk;have q3:k+k+2<=2000000000:=kb2 hk;have q4:b.length<=1099511627776:=ω;obtain⟨T,t1,t2,t3,t4⟩:=Bch (k0:=k0+j*(6*k+3652)) (K:=k+k+2+3636) (k:=k+k+2) (P:=Ob x 400000 W) (λm h=>h.1.1.cmo) c2 N out b g3 (λw hw=>a7 w hw) q1 q2 q3 R q4;refine⟨(((j+1:Nat):Int),d1,d2,Fk T,T),?_,⟨j+1,d1,d2,T,rfl,ω,x2,x3,⟨t2.dst,λw hw=>(t2.tb w hw).mono ω,t2.mo⟩,ω,λχ v h1 G h2=>?_⟩,ζ⟩
     .rw[H9 rfl,Aq,t1,Ad,C9 h ω]
     .have e1:Ef χ v T=Ef χ v (b++out):=Ax2 λm=>by rw[t4,Te]
      rw[e1,Ah2,g5 χ v h1 G h2,hE.val (λg hg=>by
       rcases Ei.1 hg with hg|hg
       .exact h1 g hg
       .exact G u E g hg) h2,c4,Da hx,Ah2]
      show _=_+_*(_+(rq u.C*((D6 (u.M.F.map χ)*G2 v u.M.A:Nat):Rat)+0));rw[map_append,Ahy,Acz];unfold mX;simp only[Rat.natCast_mul];grind
   .right;have:j=q.length:=ω;subst this;refine⟨_,by rw[Ay ω,Aq],.inr ⟨y,i,b,rfl,g1,g2,g3,g4,λχ v h1 G h2=>by rw[g5 χ v h1 G h2,Db]⟩⟩)
  (0,U,S,Fk ts,ts) ⟨0,U,S,ts,rfl,ω,X,V,⟨I.dst,λw hw=>(I.tb w hw).mono ω,I.mo⟩,ω,λχ v h1 G h2=>by rw[take_zero];simp only[Ef];grind⟩;exact⟨e,e1,e2⟩
noncomputable def Ah4 (x:Cd) (p q:List Aj):(Int×List (ByteArray×Int)×List (ByteArray×List Av)×List (ByteArray×Int)×List Aj)->Option ((Int×List (ByteArray×Int)×List (ByteArray×List Av)×List (ByteArray×Int)×List Aj)⊕((List Aj×Int)⊕(List (ByteArray×Int)×List (ByteArray×List Av)×List (ByteArray×Int)×List Aj))):=λ(c,k,j,i,b)=>
 bif c<(p.length:Int) then (
 (Ag p c).bind λf=>
 (An (Ah1 x f q) (0,k,j,i,b)).bind λz=>
 match z with
 | .inl (h,g)=>(
 some (.inr (.inl (h,g)))
 )
 | .inr (_,y,u,s,l)=>(
 some (.inl ((Ac (c+1)),y,u,s,l))
 )
 )
 else (
 some (.inr (.inr (k,j,i,b)))
 )
theorem Bco (M:CSz x) (hf:G6 x) {Z:Nat} (hk:k<=1000) (U:Z<=33333) (hp:∀t∈p,TmZ x k Z W t) (hq:∀u∈q,TmZ x k Z W u) (V:∀t∈p,∀u∈q,Ly x t.M+Ly x u.M<=6) (S:p.length<=20) (l:q.length<=20) {A:List (ByteArray×Int)} {y:List (ByteArray×List Av)} (E:Dv x.D x.V x.E A) (D:PMg x.D x.V x.E y) : ∃z,An (Ah4 x p q) (0,A,y,[],[])=some z/\(z = .inl ([],9)\/∃f c b,z = .inr (f,c,Fk b,b)/\Col (2*k+3638+p.length*(q.length*(6*k+3652))) (Ob x 400000 W) b/\b.length<=p.length*(q.length*1000000)/\∀χ v,K9 x χ p->K9 x χ q->Mh v->Ef χ v b=Ef χ v p*Ef χ v q):=by
 have b1:q.length*(6*k+3652)<=20*9652:=Nat.mul_le_mul l ω;obtain⟨e,Y,X⟩:=Li (step:=Ah4 x p q) (λs=>∃(j:Nat) (f:List (ByteArray×Int)) (c:List (ByteArray×List Av)) (b:List Aj),s=((j:Int),f,c,Fk b,b)/\j<=p.length/\Dv x.D x.V x.E f/\PMg x.D x.V x.E c/\Col (2*k+3638+j*(q.length*(6*k+3652))) (Ob x 400000 W) b/\b.length<=j*(q.length*1000000)/\∀χ v,K9 x χ p->K9 x χ q->Mh v->Ef χ v b=Ef χ v (p.take j)*Ef χ v q) (λs=>p.length-s.1.toNat) (λz=>z = .inl ([],9)\/∃(f:List (ByteArray×Int)) (c:List (ByteArray×List Av)) (b:List Aj),z = .inr (f,c,Fk b,b)/\Col (2*k+3638+p.length*(q.length*(6*k+3652))) (Ob x 400000 W) b/\b.length<=p.length*(q.length*1000000)/\∀χ v,K9 x χ p->K9 x χ q->Mh v->Ef χ v b=Ef χ v p*Ef χ v q) (by
   rintro _ ⟨j,f,c,b,rfl,hj,g1,g2,g3,g4,g5⟩;unfold Ah4;dsimp only;rcases Ch j p.length with h|h
   .have hx:p[j]? = some p[j]:=Bt h;generalize p[j]=t at hx;have g:=Bv hx;have b2:j*(q.length*(6*k+3652))<=20*(20*9652):=Nat.mul_le_mul ω b1;have b3:j*(q.length*1000000)<=20*(20*1000000):=Nat.mul_le_mul ω (Nat.mul_le_mul l (Nat.le_refl _));obtain⟨z,G,z2⟩:=Bcn M hf hk U (hp t g) hq (V t g) ω ω ω g3 ω g1 g2;rw[As ω,Am,Bu rfl hx,Ad,G,Ad];rcases z2 with rfl|⟨d1,d2,T,rfl,L,J,B,y4,I⟩
    .right;exact⟨_,rfl,.inl rfl⟩
    .left;have R:(j+1)*(q.length*(6*k+3652))=j*(q.length*(6*k+3652))+q.length*(6*k+3652):=Nat.succ_mul _ _;have N:(j+1)*(q.length*1000000)=j*(q.length*1000000)+q.length*1000000:=Nat.succ_mul _ _;refine⟨(((j+1:Nat):Int),d1,d2,Fk T,T),?_,⟨j+1,d1,d2,T,rfl,ω,L,J,⟨B.dst,λw hw=>(B.tb w hw).mono ω,B.mo⟩,ω,λχ v h1 i h2=>?_⟩,ζ⟩
     .dsimp only;rw[C9 h ω]
     .rw[I χ v (h1 t g) i h2,g5 χ v h1 i h2,Da hx,Ah2];show _=(_+(rq t.C*((D6 (t.M.F.map χ)*G2 v t.M.A:Nat):Rat)+0))*_;unfold mX;grind
   .right;have:j=p.length:=ω;subst this;refine⟨_,by rw[Ay ω,Aq],.inr ⟨f,c,b,rfl,g3,g4,λχ v h1 i h2=>by rw[g5 χ v h1 i h2,Db]⟩⟩)
  (0,A,y,[],[]) ⟨0,A,y,[],rfl,ω,E,D,Col.nil _ _,ψ,λχ v h1 i h2=>by rw[take_zero];simp only[Ef];grind⟩;exact⟨e,Y,X⟩
theorem Bcp (M:CSz x) (hf:G6 x) {Z:Nat} (hk:k<=1000) (hZ:Z<=33333) (hp:Ho x p) (hq:Ho x q) (J:∀t∈p,TmZ x k Z W t) (I:∀u∈q,TmZ x k Z W u) (l:p.length<=20) (j:q.length<=20) :
  ∃R e,T9 x p q=some (R,e)/\(e≠0\/(e=0/\CP R/\(∀t∈R,Ob x 400000 W t.M/\RB (2*k+3639+p.length*(q.length*(6*k+3652))) t.C)/\R.length<=1000/\∀χ v,K9 x χ p->K9 x χ q->Mh v->Ef χ v R=Ef χ v p*Ef χ v q)):=by
 have f:=hf.ctx M
 obtain⟨b',hb,s⟩:=Av8 M (ps:=[p,q]) (λr E=>by
  simp only[F1,not_mem_nil,or_false]at E
  rcases E with rfl|rfl
  .exact hp.sz
  .exact hq.sz) ψ ⟨hf,λr E=>by
  simp only[F1,not_mem_nil,or_false]at E
  rcases E with rfl|rfl
  .exact hp.can
  .exact hq.can⟩
 have fin:∀c:List (ByteArray×Int),Dv x.D x.V x.E c->(∀t∈p,∀u∈q,Ly x t.M+Ly x u.M<=6)->∃R e,((An (Ah4 x p q) (0,c,[],[],[])).bind λz=>
 match z with
 | .inl (A,y)=>(
 some (A,y)
 )
 | .inr (a6,a1,D,B)=>(
 (Lj D B).bind λb=>
 some (b.1,b.2)
 ))=some (R,e)/\(e≠0\/(e=0/\CP R/\(∀t∈R,Ob x 400000 W t.M/\RB (2*k+3639+p.length*(q.length*(6*k+3652))) t.C)/\R.length<=1000/\∀χ v,K9 x χ p->K9 x χ q->Mh v->Ef χ v R=Ef χ v p*Ef χ v q)):=by
  intro c hc L
  obtain⟨z,z1,z2⟩:=Bco M hf hk hZ J I L l j hc (PMg.nil _ _ _)
  rw[z1,Ad]
  rcases z2 with rfl|⟨d1,d2,T,rfl,y1,y2,y3⟩
  .exact⟨[],9,rfl,.inl δ⟩
  .have b1:p.length*(q.length*(6*k+3652))<=20*(20*9652):=Nat.mul_le_mul l (Nat.mul_le_mul j ω)
   have b2:p.length*(q.length*1000000)<=20*(20*1000000):=Nat.mul_le_mul l (Nat.mul_le_mul j (Nat.le_refl _))
   rcases Bci (P:=Ob x 400000 W) (λm h=>h.1.1.cmo) (Fk T) T y1 ω ω with h|⟨R,i,g,r3,r4,r5⟩
   .exact⟨[],9,by dsimp only;rw[h];rfl,.inl δ⟩
   .exact⟨R,0,by dsimp only;rw[i];rfl,.inr ⟨rfl,g,λt ht=>⟨(r4 t ht).1,(r4 t ht).2.mono ω⟩,r5,λχ v h1 U h2=>by rw[<-y3 χ v h1 U h2];exact Ax2 r3⟩⟩
 unfold T9
 rw[hb]
 simp only[Ad,bnt,Aq,Qm]
 by_cases S:p.length=0
 .rw[Ay ω]
  simp only[Aq,Ad]
  have:p = []:=Fu.1 S
  obtain⟨R,e,i,g⟩:=fin b' s λt ht=>by rw[this]at ht;cases ht
  exact⟨R,e,i,g⟩
 .rw[As ω]
  simp only[Am]
  by_cases N:q.length=0
  .rw[Ay ω]
   simp only[Aq,Ad]
   have:q = []:=Fu.1 N
   obtain⟨R,e,i,g⟩:=fin b' s λt ht u hu=>by rw[this]at hu;cases hu
   exact⟨R,e,i,g⟩
  .rw[As ω]
   simp only[Am]
   obtain⟨G,c,g1,g2,g3,g4,g5⟩:=Axv [] f s p ω λt ht=>(J t ht).mo.1
   obtain⟨G',c',Y,X,a8,a7,V⟩:=Axv [] f g2 q ω λt ht=>(I t ht).mo.1
   have wG:Ac (G+G')=G+G':=by rw[Ac,Cj] <;> omega
   rw[g1]
   simp only[Ad]
   rw[Y]
   simp only[Ad,wG]
   by_cases L:G+G' > 6
   .rw[As L]
    exact⟨[],13,rfl,.inl δ⟩
   .rw[Ay L]
    simp only[Aq]
    obtain⟨R,e,i,g⟩:=fin c' X λt ht u hu=>by
     have h1:=g5 t ht
     have h2:=V u hu
     omega
    exact⟨R,e,i,g⟩
theorem Bcq (data:List Ak):∀n:Nat,(∀(i:Ai) (t:Af) (w:Az),Ca i<=n->Dj data i t=some 0->bv data i t w=1)/\(∀(is:List Ai) (ts:List Af) (c:List Az),Ck is<=n->Cy data is ts=some 0->bvs data is ts c=1):=by
 intro n;induction n with
 | zero=>refine⟨λi t w h=>by have:=Ep i;omega,λis ts c h _=>?_⟩;have:=P1 is;have:is = []:=Fu.1 ω;subst this;exact Tj _ _ _
 | succ n ih=>
  have key:∀(i:Ai) (t:Af) (w:Az),Ca i<=n+1->Dj data i t=some 0->bv data i t w=1:=by
   intro i t w hi hd;have l:=Ep i;rw[Rh];rw[Mw]at hd;by_cases j:t.G=6
   .rw[Au j]at hd ⊢;by_cases e:i.U=0
    .rw[Au e]at hd;exact ih.2 i.K t.R w.K ω hd
    .rw[Ar e]at hd;cases hd
   .rw[Ar j]at hd ⊢;by_cases g:t.G=7
    .rw[Au g]at hd ⊢;by_cases e:0<=i.U/\i.U<=6/\i.K.length=0
     .rw[Au e]at hd;have hd:=Eo hd;rw[hd,J0]
     .rw[Ar e]at hd;cases hd
    .rw[Ar g]at hd ⊢;by_cases k:t.G=5
     .rw[Au k]at hd ⊢;have hd:Fv data i.K t=some 0:=by
       by_cases e:i.U=0
       .rw[Au e]at hd;exact hd
       .rw[Ar e]at hd;cases hd
      have q:=Vf data _ _ _ hd;have:i.K = []:=Fu.1 ω;rw[this];rw[Aw1 _ _ _ _ rfl ψ,length_nil,take_zero,Vx]
     .rw[Ar k]
  refine⟨key,?_⟩;intro is;induction is with
  | nil=>intro ts c _ _;exact Tj _ _ _
  | cons i is f=>
   intro ts c hi hd;cases ts with
   | nil=>simp only[Cy]at hd;cases hd
   | cons t ts=>
    cases c with
    | nil=>simp only[bvs]
    | cons w c=>
     simp only[Ck]at hi;rw[N1]at hd;cases h1:Dj data i t with
     | none=>rw[h1]at hd;cases hd
     | some a=>cases h2:Cy data is ts with| none=>rw[h1,h2]at hd;cases hd| some b=>rw[h1,h2]at hd;have hd:a+b=0:=Eo hd;have ha:a=0:=ω;have hb:b=0:=ω;subst ha;subst hb;rw[Ti,key i t w ω h1,f ts c ω h2]
theorem Bcr {res:Az} (h:∀f∈F,Jk x b res f.v=true):Vy x.D x.V x.E (Lx x (Fw b res)) F:=by
 intro g hg t ht;have hx:=h g hg;unfold Jk at hx;rw[ht]at hx;have hx:M1 x.D (Fw b res g.v) t=true:=hx;unfold M1 at hx;rw[C3]at hx;have e:∀i,Lx x (Fw b res) ⟨g.v,i⟩=bv x.D i t (Fw b res g.v):=λi=>by unfold Lx;rw[ht]
 have c:(λi=>Lx x (Fw b res) ⟨g.v,i⟩)=λi=>bv x.D i t (Fw b res g.v):=funext e;exact⟨by rw[c];exact Ba9 x.D t hx.2,λi h0 _ _=>by rw[e];exact (Bcq x.D (Ca i)).1 i t _ (Nat.le_refl _) h0⟩
theorem Bcs:∀(k:Nat) (i:Ai) (a:Int),Ca i<=k->k<1099511627776->-1099511627776<=a->a<=1099511627776->∃r,Un k i a=some r/\(r.1=true->r.2=a-Ca i/\0<=r.2)/\r.2<=a/\-1<=r.2+1099511627776:=by
 intro k;induction k with
 | zero=>intro i a h;have:=Ep i;omega
 | succ k ih=>
  intro i a h hk h1 h2;have E:=Ep i;have G:=P1 i.K;have w:Ac (a-1)=a-1:=ξ;rw[Un,w];by_cases h0:a-1<0
  .rw[As h0];exact⟨_,rfl,nofun,by show a-1<=a;omega,by show -1<=a-1+1099511627776;omega⟩
  .rw[Ay h0,Aq];have D:∀j,Ck (i.K.take j)<=Ck i.K:=λj=>by have:=Vh (i.K.take j) (i.K.drop j);rw[take_append_drop]at this;omega
   refine Ee (λs=>∃j:Nat,s.1=j/\j<=i.K.length/\s.2=a-1-Ck (i.K.take j)/\0<=s.2) (λs=>i.K.length-s.1.toNat) (λz=>(∃c,z = .inl (false,c)/\c<=a/\-1<=c+1099511627776)\/(∃c,z = .inr c/\c=a-1-Ck i.K/\0<=c)) ⟨0,rfl,ω,by simp[Ck],by show 0<=a-1;omega⟩ ?_ ?_
   .rintro⟨_,b⟩ ⟨j,rfl,hj,hb,f⟩;dsimp only at hb f;rcases Ch j i.K.length with h'|h'
    .have hx:i.K[j]? = some i.K[j]:=Bt h';generalize i.K[j]=x at hx;have J:=Kc (Bv hx);obtain⟨⟨y,z⟩,B,A,u,q⟩:=ih x b ω ω ω ω;have I:Ck (i.K.take (j+1))=Ck (i.K.take j)+Ca x:=(by rw[Da hx,Vh];simp[Ck]);simp only[As (ω:(j:Int)<(i.K.length:Int)),Am,Bu rfl hx,Ad,B,C9 h' ω];cases y with| false=>exact .inr ⟨_,rfl,.inl ⟨z,rfl,by dsimp only at u;omega,q⟩⟩| true=>obtain⟨l,g⟩:=A rfl;exact .inl ⟨_,rfl,⟨j+1,rfl,ω,by dsimp only at l ⊢;rw[I];omega,g⟩,by simp only[Int.toNat_natCast];omega⟩
    .have:j=i.K.length:=ω;subst this;rw[Db]at hb;exact .inr ⟨.inr b,ψ,.inr ⟨b,rfl,hb,f⟩⟩
   .rintro z (⟨c,rfl,c1,c2⟩|⟨c,rfl,c1,c2⟩)
    .exact⟨_,rfl,nofun,c1,c2⟩
    .exact⟨_,rfl,λ_=>⟨by dsimp only;omega,c2⟩,by dsimp only;omega,by dsimp only;omega⟩
theorem Bct (i:Ai) (h:Ca i<=1048576):∃b,Zr i=some b/\(b=true->Ca i<=40):=by unfold Zr;obtain⟨r,h1,h2,_⟩:=Bcs 4000000 i 40 ω ω ω ω;exact⟨r.1,by rw[h1];rfl,λc=>by have:=h2 c;omega⟩
theorem Bcu (m:Bj) (i:MSz m):∃b,Zj m=some b/\(b=true->∀f∈m.F,Ca f.I<=40):=by
 unfold Zj;by_cases h1:(m.F.length:Int)>8
 .rw[As h1];exact⟨false,rfl,λh=>by cases h⟩
 .rw[Ay h1];by_cases h2:(m.A.length:Int)>8
  .rw[As h2];exact⟨false,rfl,λh=>by cases h⟩
  .rw[Ay h2];simp only[Aq,Ad];refine Ee (λv=>∃j:Nat,v=j/\j<=m.F.length/\∀f∈m.F.take j,Ca f.I<=40) (λv=>m.F.length-v.toNat) (λz=>z = .inl false\/(z = .inr ()/\∀f∈m.F,Ca f.I<=40)) ⟨0,rfl,ω,ψ⟩ ?_ ?_
   .rintro v ⟨j,rfl,hj,c⟩;rcases Ch j m.F.length with h'|h'
    .have hx:m.F[j]? = some m.F[j]:=Bt h';generalize m.F[j]=x at hx;obtain⟨b,hb,g⟩:=Bct x.I (i.fi x (Bv hx));simp only[As (ω:(j:Int)<(m.F.length:Int)),Am,Bu rfl hx,Ad,hb,C9 h' ω];cases b with
     | false=>exact .inr ⟨_,rfl,.inl rfl⟩
     | true=>
      refine .inl ⟨_,rfl,⟨j+1,rfl,ω,λf hf=>?_⟩,by simp only[Int.toNat_natCast];omega⟩;rw[Da hx]at hf;rcases Ei.1 hf with hf|hf
      .exact c f hf
      .rw[Et]at hf;subst hf;exact g rfl
    .have:j=m.F.length:=ω;subst this;rw[Db]at c;exact .inr ⟨.inr (),ψ,.inr ⟨rfl,c⟩⟩
   .rintro z (rfl|⟨rfl,c⟩)
    .exact⟨false,rfl,λh=>by cases h⟩
    .dsimp only;refine Ee (λv=>∃j:Nat,v=j/\j<=m.A.length) (λv=>m.A.length-v.toNat) (λ_=>True) ⟨0,rfl,ω⟩ ?_ ?_
     .rintro v ⟨j,rfl,hj⟩;rcases Ch j m.A.length with h'|h'
      .have hx:m.A[j]? = some m.A[j]:=Bt h';generalize m.A[j]=x at hx;simp only[As (ω:(j:Int)<(m.A.length:Int)),Am,Bu rfl hx,Ad,Aeh,C9 h' ω];cases decide ((x.L.T.length:Int)<=70) with| true=>exact .inl ⟨_,rfl,⟨j+1,rfl,ω⟩,by simp only[Int.toNat_natCast];omega⟩| false=>exact .inr ⟨_,rfl,trivial⟩
      .have:j=m.A.length:=ω;subst this;exact .inr ⟨.inr (),ψ,trivial⟩
     .rintro (z|z) _
      .exact⟨_,rfl,λ_=>c⟩
      .exact⟨_,rfl,λ_=>c⟩
def O6 (t:Aj):Prop:=t.C.U.length<=8/\t.C.B.length<=8/\∀f∈t.M.F,Ca f.I<=40
theorem Bcv (a:Ao):∃b,Zk a=some b/\(b=true->a.U.length<=8/\a.B.length<=8):=by
 unfold Zk;by_cases h:(a.U.length:Int)<=8
 .rw[As h];exact⟨_,rfl,λh2=>by rw[Dt]at h2;omega⟩
 .rw[Ay h];exact⟨_,rfl,λh2=>by cases h2⟩
theorem Bcw (p:List Aj) (s:p.length<=1048576) (hp:∀t∈p,TSz t):∃b,Ze p 10=some b/\(b=true->p.length<=10/\∀t∈p,O6 t):=by
 unfold Ze;refine Ee (λv=>∃j:Nat,v=j/\j<=p.length/\j<=11/\∀t∈p.take j,O6 t) (λv=>p.length-v.toNat) (λz=>z = .inl false\/(z = .inr ()/\(p.length<=10->∀t∈p,O6 t))) ⟨0,rfl,ω,ω,ψ⟩ ?_ ?_
 .rintro v ⟨j,rfl,hj,i,f⟩;rcases Ch j p.length with h'|h'
  .by_cases q:j<=10
   .have hx:p[j]? = some p[j]:=Bt h';generalize p[j]=x at hx;obtain⟨b,hb,l⟩:=Bcu x.M (hp x (Bv hx)).mo;simp only[As (ω:(j:Int)<(p.length:Int)),As (ω:(j:Int)<=10),Am,Bu rfl hx,Ad,hb,C9 h' ω];cases b with
    | false=>exact .inr ⟨_,rfl,.inl rfl⟩
    | true=>
     simp only[bnt,Aq];obtain⟨c,hc,g⟩:=Bcv x.C;rw[hc,Ad];cases c with
     | false=>exact .inr ⟨_,rfl,.inl rfl⟩
     | true=>
      refine .inl ⟨_,rfl,⟨j+1,rfl,ω,ω,λt ht=>?_⟩,by simp only[Int.toNat_natCast];omega⟩;rw[Da hx]at ht;rcases Ei.1 ht with ht|ht
      .exact f t ht
      .rw[Et]at ht;subst ht;exact⟨(g rfl).1,(g rfl).2,l rfl⟩
   .refine .inr ⟨.inr (),?_,.inr ⟨rfl,λh=>ω⟩⟩;simp only[As (ω:(j:Int)<(p.length:Int)),Ay (ω:¬(j:Int)<=10),Am,Aq,Ad]
  .have:j=p.length:=ω;subst this;rw[Db]at f;exact .inr ⟨.inr (),ψ,.inr ⟨rfl,λ_=>f⟩⟩
 .rintro z (rfl|⟨rfl,k⟩)
  .exact⟨false,rfl,λh=>by cases h⟩
  .refine⟨decide ((p.length:Int)<=10),rfl,λh=>?_⟩;rw[Dt]at h;exact⟨ω,k ω⟩
theorem Bcx (x:Cd) (k:CSz x) (ps:List (List Aj)) (s:ps.length<=1048576) (hp:∀p∈ps,p.length<=1048576/\∀t∈p,TSz t) : ∃b,Zc x ps=some b/\(b=true->∀p∈ps,p.length<=10/\∀t∈p,O6 t):=by
 unfold Zc;refine Ee (λv=>∃j:Nat,v=j/\j<=ps.length/\∀p∈ps.take j,p.length<=10/\∀t∈p,O6 t) (λv=>ps.length-v.toNat) (λz=>z = .inl false\/(z = .inr ()/\∀p∈ps,p.length<=10/\∀t∈p,O6 t)) ⟨0,rfl,ω,ψ⟩ ?_ ?_
 .rintro v ⟨j,rfl,hj,c⟩;rcases Ch j ps.length with h'|h'
  .have hx:ps[j]? = some ps[j]:=Bt h';generalize ps[j]=p at hx;obtain⟨i,g⟩:=hp p (Bv hx);obtain⟨b,hb,l⟩:=Bcw p i g;simp only[As (ω:(j:Int)<(ps.length:Int)),Am,Bu rfl hx,Ad,hb,C9 h' ω];cases b with
   | false=>exact .inr ⟨_,rfl,.inl rfl⟩
   | true=>
    refine .inl ⟨_,rfl,⟨j+1,rfl,ω,λq hq=>?_⟩,by simp only[Int.toNat_natCast];omega⟩;rw[Da hx]at hq;rcases Ei.1 hq with hq|hq
    .exact c q hq
    .rw[Et]at hq;subst hq;exact l rfl
  .have:j=ps.length:=ω;subst this;rw[Db]at c;exact .inr ⟨.inr (),ψ,.inr ⟨rfl,c⟩⟩
 .rintro z (rfl|⟨rfl,f⟩)
  .exact⟨false,rfl,λh=>by cases h⟩
  .obtain⟨b,hb⟩:=A8u x k;exact⟨b,by dsimp only;rw[hb];rfl,λ_=>f⟩
theorem Ax4 (h:cf p m≠0):∃t∈p,t.M=m:=by
 by_cases b:∃t∈p,t.M=m
 .exact b
 .exact (h (Alu λt ht e=>b ⟨t,ht,Rg.1 e⟩)).elim
theorem Ah5 (h:TSz t) (b:O6 t):RB 8 t.C:=⟨h.co.num,h.co.den,b.1,b.2.1⟩
theorem Ax5 (h:CSz x) (hp:∀t∈p,TSz t) {res:Az} (f:∀v∈b,Di v<=1048576) (c:Di res<=1048576) : ∃r,Nl x p b res=some r/\(r.2≠0\/(G6 x/\Hy x.D x.V x.E p=true/\b.length=x.V.length/\(∀v∈Gk p,Jk x b res v=true)/\∃u,r=(u,0)/\Ym x p b res u)):=by
 obtain⟨r,h1,g⟩:=Awq x h p hp b res f c;refine⟨r,h1,?_⟩;rcases g with⟨_,rfl⟩|⟨hv,⟨_,rfl⟩|⟨i,⟨_,rfl⟩|⟨ht,u,rfl,hu⟩⟩⟩
 .exact .inl δ
 .exact .inl δ
 .exact .inl δ
 .exact .inr ⟨hv.1,hv.2,i,ht,u,rfl,hu⟩
theorem Ax6 (i:CSz x) (hf:G6 x) (hp:Ho x p) {res:Az} (f:∀v∈b,Di v<=1048576) (c:Di res<=1048576) (j:b.length=x.V.length) (ht:∀v∈Gk p,Jk x b res v=true):∃u,Nl x p b res=some (u,0)/\Ym x p b res u:=by
 obtain⟨r,h1,g⟩:=Awq x i p hp.sz b res f c;rcases g with⟨h,_⟩|⟨hv,⟨h,_⟩|⟨_,⟨h,_⟩|⟨_,u,rfl,hu⟩⟩⟩
 .exact (h ⟨hf,hp.can⟩).elim
 .exact (h j).elim
 .exact (h ht).elim
 .exact⟨u,h1,hu⟩
theorem V1:w∈Gk p↔∃t∈p,w∈J1 t.M:=by unfold Gk;rw[mem_flatMap]
theorem Bcy (i:CSz x) (hp:∀t∈p,TSz t) (hq:∀t∈q,TSz t) (y:∀t∈p,O6 t) (sq:∀t∈q,O6 t) (g:p.length<=10) (f:q.length<=10) : ∃R e,R5 x p q=some (R,e)/\(G6 x->Hy x.D x.V x.E p=true->Hy x.D x.V x.E q=true->e=0/\PX x 20 19 R/\∀a,cf R a=cf p a+cf q a):=by
 by_cases hv:G6 x/\Hy x.D x.V x.E p=true/\Hy x.D x.V x.E q=true
 .obtain⟨hf,h1,h2⟩:=hv;have u:Ho x p:=⟨h1,hp⟩;have s:Ho x q:=⟨h2,hq⟩;obtain⟨R,B,A,z⟩:=Bb6 i hf (n:=10) (m:=10) (k:=8) (l:=8) (p:=p) (q:=q) ⟨u.cp,u.mo,λt ht=>Ah5 (hp t ht) (y t ht),g⟩ ⟨s.cp,s.mo,λt ht=>Ah5 (hq t ht) (sq t ht),f⟩ δ δ δ δ δ;exact⟨R,0,B,λ_ _ _=>⟨rfl,A,z⟩⟩
 .have D:=Ami i (ps:=[p,q]) (λr j=>by simp only[F1,not_mem_nil,or_false]at j;rcases j with rfl|rfl <;> assumption) ψ (λh=>hv ⟨h.1,h.2 p ψ,h.2 q ψ⟩)
  refine⟨[],1,?_,λa b c=>(hv ⟨a,b,c⟩).elim⟩;unfold R5;rw[D];rfl
theorem Bcz (l:CSz x) (hp:∀t∈p,TSz t) (hq:∀t∈q,TSz t) (j:∀t∈p,O6 t) (sq:∀t∈q,O6 t) (c:p.length<=10) (b:q.length<=10) : ∃R e,T9 x p q=some (R,e)/\(e=0->G6 x->Hy x.D x.V x.E p=true->Hy x.D x.V x.E q=true->Ho x R/\(∀w∈Gk R,w∈Gk p\/w∈Gk q)/\∀χ v,K9 x χ p->K9 x χ q->Mh v->Ef χ v R=Ef χ v p*Ef χ v q):=by
 by_cases hv:G6 x/\Hy x.D x.V x.E p=true/\Hy x.D x.V x.E q=true
 .obtain⟨hf,h1,h2⟩:=hv;have i:Ho x p:=⟨h1,hp⟩;have g:Ho x q:=⟨h2,hq⟩;obtain⟨R,e,y,u⟩:=Bcp l hf (k:=8) (Z:=40) (W:=λw=>w∈Gk p\/w∈Gk q) δ δ i g (λt ht=>⟨λw hw=>.inl (V1.2 ⟨t,ht,hw⟩),⟨i.mo t ht,(j t ht).2.2⟩,Ah5 (hp t ht) (j t ht),(i.cp.coe t ht).2⟩) (λt ht=>⟨λw hw=>.inr (V1.2 ⟨t,ht,hw⟩),⟨g.mo t ht,(sq t ht).2.2⟩,Ah5 (hq t ht) (sq t ht),(g.cp.coe t ht).2⟩) ω ω;refine⟨R,e,y,λf _ _ _=>?_⟩;rcases u with h|⟨_,c1,c2,c3,c4⟩
  .exact (h f).elim
  .have hb:p.length*(q.length*(6*8+3652))<=10*(10*3700):=Nat.mul_le_mul c (Nat.mul_le_mul b δ);refine⟨Ho.of c1 (λt ht=>(c2 t ht).1.1.1) (λt ht=>(c2 t ht).2.mono ω) c3,λw hw=>?_,c4⟩;obtain⟨t,ht,hw⟩:=V1.1 hw;exact (c2 t ht).1.2 w hw
 .have f:=Ami l (ps:=[p,q]) (λr s=>by simp only[F1,not_mem_nil,or_false]at s;rcases s with rfl|rfl <;> assumption) ψ (λh=>hv ⟨h.1,h.2 p ψ,h.2 q ψ⟩)
  refine⟨[],1,?_,λh=>absurd h δ⟩;unfold T9;rw[f];rfl
theorem Ax7 {res:Az} (h:∀v∈Gk p,Jk x b res v=true):K9 x (Lx x (Fw b res)) p:=λt ht=> Bcr λf hf=>h f.v (V1.2 ⟨t,ht,Ro.2 (.inl ⟨f,hf,rfl⟩)⟩)
theorem Bc0 (x:Cd) (p q:List Aj) (i:List Az) (res:Az) (B:CSz x) (hl:p.length<=1048576) (hp:∀t∈p,TSz t) (a7:q.length<=1048576) (hq:∀t∈q,TSz t) (a8:i.length<=1048576) (j:∀v∈i,Di v<=1048576) (g:Di res<=1048576):Aed x p q i res=some true:=by
 unfold Aed;obtain⟨b,b1,b2⟩:=Bcx x B [p,q] ψ (λr hr=>by
  simp only[F1,not_mem_nil,or_false]at hr;rcases hr with rfl|rfl
  .exact⟨hl,hp⟩
  .exact⟨a7,hq⟩);obtain⟨c,c1⟩:=A97 i res a8 j g;rw[b1,Ad,c1];cases b with
 | false=>rfl
 | true=>
  cases c with
  | false=>rfl
  | true=>
   obtain⟨N,sp⟩:=b2 rfl p ψ;obtain⟨L,sq⟩:=b2 rfl q ψ;simp only[bnt,Aq,Ad];have tail:∀{Y:OB},Y=some true->((bif (p.length:Int)>4 then some true else some (decide ((q.length:Int)>4))):OB).bind (λv5=>bif v5 then some true else Y)=some true:=λ{Y} hY=>by
    cases decide ((p.length:Int)>4) with
    | true=>rfl
    | false=>simp only[Aq,Ad];cases decide ((q.length:Int)>4) with| true=>rfl| false=>exact hY
   refine tail ?_;obtain⟨r1,h1,o1⟩:=Ax5 B hp j g;obtain⟨r2,h2,o2⟩:=Ax5 B hq j g;obtain⟨R,e,a1,a2⟩:=Bcy B hp hq sp sq N L;obtain⟨T,f,m1,m2⟩:=Bcz B hp hq sp sq N L;rw[h1,Ad,h2,Ad,a1,Ad,m1,Ad];simp only[A8p];rcases o1 with k1|⟨hf,S,A,E,u,rfl,hu⟩
   .rw[Gx k1];rfl
   .rcases o2 with k2|⟨_,M,_,D,w,rfl,hw⟩
    .simp only[Gx k2];rfl
    .obtain⟨rfl,a3,a4⟩:=a2 hf S M;have J:=hu.rb;have I:=hw.rb;have ab:Ho x R:=a3.can δ δ;have aa:∀v∈Gk R,Jk x i res v=true:=λv hv=>by
      obtain⟨t,ht,hv⟩:=V1.1 hv;have U:cf R t.M≠0:=(by rw[Agx a3.cp ht];exact (a3.cp.coe t ht).2);rw[a4]at U;by_cases h0:cf p t.M=0
      .have h3:cf q t.M≠0:=λh3=>U (by rw[h0,h3];grind);obtain⟨t',g1,g2⟩:=Ax4 h3;exact D v (V1.2 ⟨t',g1,by rw[g2];exact hv⟩)
      .obtain⟨t',g1,g2⟩:=Ax4 h0;exact E v (V1.2 ⟨t',g1,by rw[g2];exact hv⟩)
     obtain⟨y,y1,y2⟩:=Ax6 B hf ab j g A aa;obtain⟨s,_,s2,s3,s4,s5⟩:=Vo J I δ δ;have a6:y=s:=Abx y2.can s4 (by rw[y2.val,s5,hu.val,hw.val,<-Amt];exact A94 λm=>by rw[a4,Te]);subst a6;have l:Pf y y=some true:=Av2 y (by have:=s3.nl;omega) (by have:=s3.dl;omega);have first:((bif ((0:Int)==0) then (Nl x R i res).bind λG=> bif (G.2 != (0:Int)) then (some (.inl false)) else ((R6 u w).bind λX=> (Pf G.1 X).bind λv17=> bif (!v17) then (some (.inl false)) else (some (.inr ())))
      else some (.inr ())):Option (Bool⊕Unit))=some (.inr ()):=by rw[beq_self_eq_true,Am,y1,Ad];simp only[bne_self_eq_false,Aq];rw[s2,Ad,l];rfl
     simp only[bne_self_eq_false,Aq,Ad]
     erw[first];simp only[Ad];by_cases V:f=0
     .subst V;obtain⟨n1,n2,n3⟩:=m2 rfl hf S M;obtain⟨z,z1,z2⟩:=Ax6 B hf n1 j g A (λv hv=>by
       rcases n2 v hv with h|h
       .exact E v h
       .exact D v h);obtain⟨d,_,d2,d3,d4,d5⟩:=A63 J I δ δ;have Z:z=d:=Abx z2.can d4 (by rw[z2.val,d5,hu.val,hw.val,Ah3,Ah3,Ah3];exact n3 _ _ (Ax7 E) (Ax7 D) (Bb2 _));subst Z;have k:Pf z z=some true:=Av2 z (by have:=d3.nl;omega) (by have:=d3.dl;omega);rw[beq_self_eq_true,Am,z1,Ad];simp only[bne_self_eq_false,Aq];rw[d2,Ad,k];rfl
     .rw[C7 V];rfl
end Go.Ab
