/- Plain laws: what the plain functions answer. -/
import Derived.Test.YtphbdfhbonlpfaaGreatDoorRgPl5
open List
namespace Go.Ab
open Go
variable {a:A7} {res:Af} {t:Aj} {m:Bd} {P:Bd->Prop} {χ:Bf->Nat} {x:Bs} {v:Bz->Nat} {W:Int->Prop} {b1:List (ByteArray×Int)} {vars:List Af} {R p q ts:List Aj} {data:List Al} {F:List Bf} {A:List Bi} {B:List Ent} {K L b k k0 l n:Nat} {C E:Type}
def cl:List Ek->Int->Int
 | [],_=>0
 | t::l,v=>(if t.v=v then t.C else 0)+cl l v
theorem Acf {l:List Ek} {v:Int} (h:∀t∈l,t.v≠v):cl l v=0:=by induction l with| nil=>rfl| cons t l ih=>simp only[cl];rw[Au (h t ψ),ih λu hu=>h u (by simp[hu])];rfl
structure Amr (L:List Ek):Prop where
 srt:L.Pairwise λa b=>a.v<b.v
 nz:∀t∈L,t.C≠0
theorem Amr.ext:∀{L M:List Ek},Amr L->Amr M->(∀v,cl L v=cl M v)->L=M:=by
 intro L;induction L with
 | nil=>intro M _ b h;cases M with| nil=>rfl| cons t M=>have:=h t.v;simp only[cl,if_true]at this;rw[Acf λu hu=>by have:=(pairwise_cons.1 b.srt).1 u hu;omega]at this;exact (b.nz t ψ ω).elim
 | cons s L ih=>
  intro M c b h;have g:cl (s::L) s.v=s.C:=(by simp only[cl,if_true];rw[Acf λu hu=>by have:=(pairwise_cons.1 c.srt).1 u hu;omega];omega);cases M with
  | nil=>have:=h s.v;rw[g]at this;exact (c.nz s ψ (by simpa[cl] using this)).elim
  | cons t M=>
   have ht:cl (t::M) t.v=t.C:=(by simp only[cl,if_true];rw[Acf λu hu=>by have:=(pairwise_cons.1 b.srt).1 u hu;omega];omega);have f:s.v=t.v:=by
    rcases Int.lt_trichotomy s.v t.v with k|k|k
    .have h1:=h s.v;rw[g,Acf (l:=t::M) λu hu=>by
      rcases E8.1 hu with rfl|hu
      .omega
      .have:=(pairwise_cons.1 b.srt).1 u hu;omega]at h1
     exact (c.nz s ψ h1).elim
    .exact k
    .have h1:=h t.v;rw[ht,Acf (l:=s::L) λu hu=>by
      rcases E8.1 hu with rfl|hu
      .omega
      .have:=(pairwise_cons.1 c.srt).1 u hu;omega]at h1
     exact (b.nz t ψ h1.symm).elim
   have hc:s.C=t.C:=(by rw[<-g,<-ht,h,f]);have e:s=t:=(by cases s;cases t;simp only at f hc;rw[f,hc]);subst e;rw[ih (M:=M) ⟨(pairwise_cons.1 c.srt).2,λu hu=>c.nz u (by simp[hu])⟩ ⟨(pairwise_cons.1 b.srt).2,λu hu=>b.nz u (by simp[hu])⟩ λv=>by have:=h v;simp only[cl]at this;omega]
def NoF (x:Bs) (D:Nat) (m:Bd):Prop:=Gf x m/\m.F = []/\Dk m.A<=(D:Nat)
theorem NoF.mono {D D':Nat} (h:NoF x D m) (hd:D<=D'):NoF x D' m:=⟨h.1,h.2.1,by have:=h.2.2;omega⟩
theorem Gs.nil_of {c:List Grp} (h:Gs c A):A = []->c = []:=by cases h with| nil=>exact λ_=>rfl| cons b _ _ _ _=>exact λe=>absurd (append_eq_nil_iff.1 e).1 b
theorem IsE.one {a:Bi} (h:IsE [a] B):B.length<=1:=by
 obtain⟨gs,G,x,I,q,rfl⟩:=h;have E:G = [a]:=perm_singleton.1 x;rw[E]at q;generalize c:[a]=X at q;cases q with
 | nil=>cases c
 | @cons l N f g rest gs s hg J z D=>
  have L:g.length+rest.length=1:=(by have:=congrArg length c;simpa using this.symm);have y:g.length=1:=(by have:=length_pos_iff.2 s;have:rest.length≠1\/g.length=0:=ω;omega);have b:rest = []:=Fu.1 ω;subst b;rw[append_nil]at c;subst c;have u:=D.nil_of rfl;subst u
  .show (Iz [([],1)] l f (N+1)).length<=1;have key:∀n,(∀i j,i<n->j<n->f i≠0->f j≠0->i=j)->(Iz [(([],1):Ent)] l f n).length<=1/\((Iz [(([],1):Ent)] l f n).length=1->∃i,i<n/\f i≠0):=by
    intro n;induction n with
    | zero=>intro _;simp[Iz]
    | succ n ih=>
     intro h;obtain⟨i1,i2⟩:=ih λi j hi hj=>h i j ω ω;rw[Avj,E4];by_cases h0:f n=0
     .rw[Aw h0];refine⟨by simpa using i1,λe=>?_⟩;obtain⟨i,a1,a2⟩:=i2 (by simpa using e);exact⟨i,ω,a2⟩
     .rw[Au h0];have:(Iz [(([],1):Ent)] l f n).length≠1:=λe=>by obtain⟨i,a1,a2⟩:=i2 e;have:=h i n ω ω a2 h0;omega
      refine⟨by simp only[Dc,length_singleton];omega,λ_=>⟨n,ω,h0⟩⟩
   refine (key (N+1) ?_).1;rcases z with⟨_,h2⟩|⟨_,h2,_⟩
   .have e:∀k,k<N+1->f k=if k=N then 1 else 0:=by refine A66 λn _=>?_;rw[h2.2.2 n];have A:N=a.P.toNat:=(by have:=h2.1;simpa[Dp] using this);rw[Abr (k:=N) ω (λj hj=>by simp[hj])];simp[prb,A]
    intro i j hi hj h1 h2;rw[e i hi]at h1;rw[e j hj]at h2;split at h1
    .split at h2
     .omega
     .exact (h2 rfl).elim
    .exact (h1 rfl).elim
   .intro i j hi hj _ _;omega
noncomputable def eB (A:List Bi):List Ent:=open Classical in if h:∃B,IsE A B then Classical.choose h else []
theorem IP.up {c:Nat} {f g:Bd->Rat} (h:IP x n L f R) (j:n<=b) (k:L<=c) (e:∀m,f m=g m):IP x b c g R := ⟨h.cp,λm=>by rw[h.val,e],h.mo,Nat.le_trans h.len j,λt ht=>by obtain⟨z,i,z2⟩:=h.int t ht;exact⟨z,i,ω⟩⟩
def cs (K:Nat):Nat->Nat
 | 0=>0
 | j+1=>cs K j+(1+min j (K-j))
theorem A9y {α:Type} (f:α->Int) (l:List α) (h:∀j x,l[j]? = some x->Kx f l x j=true):l.Pairwise λa b=>f a<f b:=by
 have step:∀j x y,l[j]? = some x->l[j+1]? = some y->f x<f y:=by intro j x y hx hy;have:=h (j+1) y hy;unfold Kx at this;rw[Nat.add_sub_cancel,hx]at this;simpa using this
 have c:∀d j x y,l[j]? = some x->l[j+d+1]? = some y->f x<f y:=by intro d;induction d with| zero=>exact λj x y h1 h2=>step j x y h1 h2| succ d ih=>intro j x y h1 h2;have g:l[j+d+1]? = some (l[j+d+1]'(by have:=Eh h2;omega)):=B4 _;have a1:=ih j x _ h1 g;have a2:=step _ _ _ g h2;omega
 rw[pairwise_iff_getElem];intro i j hi hj k;obtain⟨d,hd⟩:∃d,j=i+d+1:=⟨j-i-1,ω⟩;subst hd;exact c d i _ _ (B4 hi) (B4 hj)
theorem A9z (b2:List (ByteArray×List Av)) (hc:Ky data vars res) (z:D0 data vars res b1) (m:Bd) (l:MSz m) (hp:Mr data vars res m=true) : ∃p:Int×List (ByteArray×Int),O4 m b1 b2 data vars res.G res.U res.R=some p/\(p.1=Bw data vars res m.F+Dk m.A\/(6<p.1/\6<Bw data vars res m.F+Dk m.A))/\D0 data vars res p.2:=by
 have hf:=l.nf;have ha:=l.na;unfold Mr at hp;rw[Dz,I5,I5]at hp;unfold O4;refine Ey (λ(v5,u,g)=>∃j:Nat,u=j/\j<=m.F.length/\D0 data vars res g/\0<=v5/\v5<=12/\(v5=Bw data vars res (m.F.take j)\/(6<v5/\6<Bw data vars res (m.F.take j)))) (λ(_,u,_)=>m.F.length-u.toNat) (λ(v5,g)=>D0 data vars res g/\0<=v5/\v5<=12/\(v5=Bw data vars res m.F\/(6<v5/\6<Bw data vars res m.F))) ⟨0,rfl,ω,z,ω,ω,.inl (by simp[Bw])⟩ ?_ ?_
 .rintro⟨v5,u,g⟩ ⟨j,rfl,hj,q,h0,h12,k⟩;rcases Cf j m.F.length with h|h
  .have hx:m.F[j]? = some m.F[j]:=B4 h;generalize m.F[j]=f at hx;have c:=Bq hx;have hd:=hp.1 f c;rw[D8]at hd;have A:=(Afy data vars res f).2;have es:Bw data vars res (m.F.take (j+1))=Bw data vars res (m.F.take j)+D3 data vars res f:=Ak0 _ hx;simp only[Ao (ω:(j:Int)<(m.F.length:Int)),Ak,Br rfl hx,Ad,C5 h ω];by_cases s:v5<=6
   .have x:(Em vars res f.v).isSome=true:=by
     unfold D3 at hd;cases ht:Em vars res f.v with
     | none=>rw[ht]at hd;have hd:(0:Int)<=-1:=hd;omega
     | some t=>rfl
    obtain⟨B,d1,d2⟩:=Aa7 b2 hc q f (l.fr f c).2 (l.fr f c).1 (l.fi f c) x;rw[Ao s];simp only[Ak,d1,Ad];have b:Aa (v5+D3 data vars res f)=v5+D3 data vars res f:=ξ;exact .inl ⟨_,rfl,⟨j+1,rfl,ω,d2,by simp only[b];omega,by simp only[b];omega,by simp only[b,es];omega⟩,ζ⟩
   .rw[As s];exact .inl ⟨_,rfl,⟨j+1,rfl,ω,q,h0,h12,by simp only[es];omega⟩,ζ⟩
  .have:j=m.F.length:=ω;subst this;rw[Dq]at k;exact .inr ⟨(v5,g),ψ,q,h0,h12,k⟩
 .rintro⟨v5,g⟩ ⟨q,h0,h12,k⟩;simp only;refine Ey (λ(v,i)=>∃j:Nat,i=j/\j<=m.A.length/\0<=v/\v<=13/\(v=Bw data vars res m.F+Dk (m.A.take j)\/(6<v/\6<Bw data vars res m.F+Dk (m.A.take j)))) (λ(_,i)=>m.A.length-i.toNat) (λv=>(v=Bw data vars res m.F+Dk m.A\/(6<v/\6<Bw data vars res m.F+Dk m.A))) ⟨0,rfl,ω,h0,ω,by simpa[Dk] using k⟩ ?_ ?_
  .rintro⟨v,i⟩ ⟨j,rfl,hj,g0,g13,gv⟩;rcases Cf j m.A.length with h|h
   .have hx:m.A[j]? = some m.A[j]:=B4 h;generalize m.A[j]=a at hx;have hd:=hp.2 a (Bq hx);rw[Dz,D8]at hd;have es:=Ak1 hx;simp only[Ao (ω:(j:Int)<(m.A.length:Int)),Ak,Br rfl hx,Ad,C5 h ω];by_cases s:v<=6
    .rw[Ao s];simp only[Ak];by_cases y:7<a.P
     .rw[Aw y];have b:Aa (v+7)=v+7:=ξ;exact .inl ⟨_,rfl,⟨j+1,rfl,ω,by simp only[b];omega,by simp only[b];omega,by simp only[b,es];omega⟩,ζ⟩
     .rw[Au y];have b:Aa (v+a.P)=v+a.P:=ξ;exact .inl ⟨_,rfl,⟨j+1,rfl,ω,by simp only[b];omega,by simp only[b];omega,by simp only[b,es];omega⟩,ζ⟩
    .rw[As s];exact .inl ⟨_,rfl,⟨j+1,rfl,ω,g0,g13,by simp only[es];omega⟩,ζ⟩
   .have:j=m.A.length:=ω;subst this;rw[Dq]at gv;exact .inr ⟨v,ψ,gv⟩
  .intro v k;exact⟨(v,g),rfl,k,q⟩
def Hz (x:Bs) (m:Bd):Int:=Bw x.D x.V x.E m.F+Dk m.A
structure Yb (x:Bs) (m:Bd):Prop where
 fac:∀f∈m.F,1<=D3 x.D x.V x.E f
 asc:m.F.Pairwise λa b=>a.v<b.v
 atm:∀a∈m.A,1<=a.P/\Ic a.L=true/\a.L.T.length≠0/\Ju x.V x.E a.L=true
 srt:m.A.Pairwise λa b=>G3 a.L b.L<0
 deg:Hz x m<=6
theorem Gf.f (h:Gf x m):Yb x m:=by
 have hc:=h.1;unfold Ix at hc;rw[Dz,Dz,D8]at hc;obtain⟨⟨h1,h2⟩,h3⟩:=hc;have g1:∀j f,m.F[j]? = some f->1<=D3 x.D x.V x.E f/\Kx (·.v) m.F f j=true:=λj f hj=>by have:=Jq h1 hj;unfold Ma at this;rw[Dz,D8]at this;exact this
 have g2:∀j a,m.A[j]? = some a->(1<=a.P/\Ic a.L=true/\a.L.T.length≠0/\Ju x.V x.E a.L=true)/\Pi m.A a j=true:=λj a hj=>by have:=Jq h2 hj;unfold Ki at this;simp only[Dz,D8,Bool.not_eq_true',beq_eq_false_iff_ne,ne_eq]at this;exact⟨⟨this.1.1.1.1,this.1.1.1.2,this.1.1.2,this.1.2⟩,this.2⟩
 refine⟨λf hf=>?_,A9y _ _ λj f hj=>(g1 j f hj).2,λa ha=>?_,?_,h3⟩
 .obtain⟨j,hj⟩:=Hu hf;exact (g1 j f hj).1
 .obtain⟨j,hj⟩:=Hu ha;exact (g2 j a hj).1
 .have step:∀j x y,m.A[j]? = some x->m.A[j+1]? = some y->G3 x.L y.L<0:=(by intro j x y hx hy;have:=(g2 (j+1) y hy).2;unfold Pi at this;rw[Nat.add_sub_cancel,hx]at this;simpa using this);have b:∀d j x y,m.A[j]? = some x->m.A[j+d+1]? = some y->G3 x.L y.L<0:=(by intro d;induction d with| zero=>exact λj x y h1 h2=>step j x y h1 h2| succ d ih=>intro j x y h1 h2;have c:m.A[j+d+1]? = some (m.A[j+d+1]'(by have:=Eh h2;omega)):=B4 _;exact Agx.trs _ _ _ (ih j x _ h1 c) (step _ _ _ c h2));rw[pairwise_iff_getElem];intro i j hi hj g;obtain⟨d,hd⟩:∃d,j=i+d+1:=⟨j-i-1,ω⟩;subst hd;exact b d i _ _ (B4 hi) (B4 hj)
theorem Yb.fsum0 (h:Yb x m):0<=Bw x.D x.V x.E m.F:=by
 have key:∀l:List Bf,(∀f∈l,1<=D3 x.D x.V x.E f)->0<=Bw x.D x.V x.E l:=λl=>by induction l with| nil=>intro _;simp[Bw]| cons f l ih=>intro b;have h1:=b f ψ;have h2:=ih λg hg=>b g (by simp[hg]);unfold Bw at *;simp only[map_cons,sum_cons];omega
 exact key _ h.fac
theorem A90 {l:List Bi} (h:∀a∈l,1<=a.P):Dk l=(Dp l:Nat)/\l.length<=Dp l:=by induction l with| nil=>exact⟨rfl,Nat.le_refl _⟩| cons a l ih=>obtain⟨e,c⟩:=ih λb hb=>h b (by simp[hb]);have f:=h a ψ;unfold Dk at *;simp only[map_cons,sum_cons,Dp,Ed];omega
theorem Yb.as (h:Yb x m):Dk m.A=(Dp m.A:Nat)/\m.A.length<=Dp m.A:=A90 λa ha=>(h.atm a ha).1
theorem A91 (h:Yb x m):Mr x.D x.V x.E m=true:=by unfold Mr;rw[Dz,I5,I5];refine⟨λf hf=>decide_eq_true (by have:=h.fac f hf;omega),λa ha=>?_⟩;obtain⟨h1,_,_,b⟩:=h.atm a ha;rw[b,Ao ω];rfl
theorem A92 (b2:List (ByteArray×List Av)) (hc:Ky x.D x.V x.E) (c:D0 x.D x.V x.E b1) (h:Gf x m) : ∃b,O4 m b1 b2 x.D x.V x.E.G x.E.U x.E.R=some (Hz x m,b)/\D0 x.D x.V x.E b:=by obtain⟨⟨d,b⟩,h1,h2,h3⟩:=A9z b2 hc c m h.2 (A91 h.f);have:=h.f.deg;unfold Hz at *;dsimp only at h2 h3;have e:d=Bw x.D x.V x.E m.F+Dk m.A:=ω;subst e;exact⟨b,h1,h3⟩
theorem A93 (h:Gf x m):0<=Hz x m:=by have h1:=h.f.fsum0;have h2:=h.f.as;unfold Hz;omega
theorem Awh (b2:List (ByteArray×List Av)) (hc:Ky x.D x.V x.E) (k:D0 x.D x.V x.E b1) (q:List Aj) (E:q.length<=1000000) (h:∀u∈q,Gf x u.M) : ∃G b,V9 q b1 b2 x.D x.V x.E.G x.E.U x.E.R=some (G,b)/\D0 x.D x.V x.E b/\0<=G/\G<=6/\(∀u∈q,Hz x u.M<=G)/\(G=0\/∃u∈q,Hz x u.M=G):=by
 unfold V9;obtain⟨e,D,G,b,rfl,B⟩:=J2 (step:=(λ(v4,v5,l)=> bif v5<(q.length:Int) then ((Ag q v5).bind λy=> (O4 y.M l b2 x.D x.V x.E.G x.E.U x.E.R).bind λv9=> some (.inl ((if v9.1>v4 then v9.1 else v4),(Aa (v5+1)),v9.2))) else (some (.inr (v4,l))):Int×Int×List (ByteArray×Int)->Option ((Int×Int×List (ByteArray×Int))⊕(Int×List (ByteArray×Int))))) (λs=>∃(j:Nat) (G:Int) (b:List (ByteArray×Int)),s=(G,(j:Int),b)/\j<=q.length/\D0 x.D x.V x.E b/\0<=G/\G<=6/\(∀u∈q.take j,Hz x u.M<=G)/\(G=0\/∃u∈q,Hz x u.M=G)) (λs=>q.length-s.2.1.toNat) (λe=>∃G b,e=(G,b)/\D0 x.D x.V x.E b/\0<=G/\G<=6/\(∀u∈q,Hz x u.M<=G)/\(G=0\/∃u∈q,Hz x u.M=G)) (by
   rintro _ ⟨j,G,b,rfl,hj,k,h0,A,g,hex⟩;dsimp only;rcases Cf j q.length with h'|h'
   .left;have hx:q[j]? = some q[j]:=B4 h';generalize q[j]=u at hx;have i:=Bq hx;have hu:=h u i;obtain⟨c,c1,c2⟩:=A92 b2 hc k hu;have z:=hu.f.deg;refine⟨(if Hz x u.M>G then Hz x u.M else G,((j+1:Nat):Int),c),?_,⟨j+1,_,c,rfl,ω,c2,by split <;> omega,by split <;> omega,λw hw=>?_,by
     split
     .exact .inr ⟨u,i,rfl⟩
     .exact hex⟩,ζ⟩
    .rw[Ao ω,Ak,Br rfl hx,Ad,c1,Ad,C5 h' ω]
    .rw[Db hx]at hw;rcases Ef.1 hw with hw|hw
     .have:=g w hw;split <;> omega
     .rw[E3]at hw;subst hw;split <;> omega
   .right;have:j=q.length:=ω;subst this;rw[Dq]at g;exact⟨(G,b),by rw[As ω,Am],G,b,rfl,k,h0,A,g,hex⟩)
  (0,0,b1) ⟨0,0,b1,rfl,ω,k,ω,ω,λu hu=>by simp at hu,.inl rfl⟩;exact⟨G,b,bnd D rfl,B⟩
def Gw (v:Bz->Nat):List Bi->Nat
 | []=>1
 | a::l=>bc (v a.L) a.P.toNat*Gw v l
theorem Acg (v:Bz->Nat) (l m:List Bi):Gw v (l++m)=Gw v l*Gw v m:=by induction l with| nil=>simp[Gw]| cons a l ih=>simp only[Eu,Gw,ih,Nat.mul_assoc]
theorem Awi (v:Bz->Nat) {l m:List Bi} (h:l.Perm m):Gw v l=Gw v m:=by induction h with| nil=>rfl| cons a _ ih=>simp only[Gw,ih]| swap a b l=>simp only[Gw];rw[<-Nat.mul_assoc,<-Nat.mul_assoc,Nat.mul_comm (bc (v b.L) _)]| trans _ _ h1 h2=>exact h1.trans h2
theorem Ams {v:Bz->Nat} {l:Bz}:∀{g:List Bi},(∀a∈g,a.L=l)->Gw v g=prb (v l) g
 | [],_=>rfl
 | a::g,h=>by simp only[Gw,prb];rw[h a ψ,Ams λb hb=>h b (by simp[hb])]
def Jj (v:Bz->Nat):List Ent->Nat
 | []=>0
 | b::bs=>b.2*Gw v b.1+Jj v bs
theorem A94 (v:Bz->Nat) (B C:List Ent):Jj v (B++C)=Jj v B+Jj v C:=by induction B with| nil=>simp[Jj]| cons b B ih=>simp only[Eu,Jj,ih,Nat.add_assoc]
theorem A95 (v:Bz->Nat) (l:Bz) (k c:Nat) (B:List Ent):Jj v (B.map λb=>(b.1++atO l k,b.2*c))=Jj v B*(c*bc (v l) k):=by
 have ha:Gw v (atO l k)=bc (v l) k:=by
  unfold atO;by_cases h:k=0
  .subst h;rw[Aw rfl,Jw];rfl
  .rw[Au h];simp[Gw]
 induction B with| nil=>simp[Jj]| cons b B ih=>simp only[map_cons,Jj,ih,Acg,ha];rw[Nat.add_mul];congr 1;rw[Nat.mul_assoc,Nat.mul_assoc,<-Nat.mul_assoc c,Nat.mul_comm c,Nat.mul_assoc]
theorem Awj (v:Bz->Nat) (B:List Ent) (l:Bz) (f:Nat->Nat):∀n,Jj v (Iz B l f n)=Jj v B*sm n λk=>f k*bc (v l) k
 | 0=>by simp[Iz,Jj,sm]
 | n+1=>by
  rw[Avj,A94,Awj v B l f n];show _=Jj v B*(sm n (λk=>f k*bc (v l) k)+f n*bc (v l) n);rw[Nat.mul_add];congr 1;by_cases h:f n=0
  .rw[Aw h,h];simp[Jj]
  .rw[Au h,A95]
def Ko (v:Bz->Nat):Prop:=∀l:Bz,l.T.length=0->v l=l.Q.toNat
theorem Gs.val (c:Ko v):∀{b:List Grp} {A:List Bi},Gs b A->∀B,Jj v (Nm B b)=Jj v B*Gw v A:=by
 intro b A h;induction h with
 | nil=>intro B;simp[Nm,Gw]
 | @cons l N f g rest b i hg k j q ih=>
  intro B;show Jj v (Nm (Iz B l f (N+1)) b)=_;rw[ih,Awj,Acg,Ams hg,<-Nat.mul_assoc];congr 2;rcases j with⟨_,_,_,h3⟩|⟨h1,h2,h3⟩
  .exact h3 (v l)
  .subst h2;rw[c l h1];simp[sm,Jw,h3]
theorem IsE.val (f:Ko v) (h:IsE A B):Jj v B=Gw v A:=by obtain⟨gs,i,c,g,b,rfl⟩:=h;rw[b.val f,<-Awi v c];simp[Jj,Gw]
def eW (c:Rat) (B:List Ent):List (Rat×Bd):=B.map λb=>(c*(b.2:Rat),⟨[],b.1⟩)
theorem A96 (b:Gf x m) {L:List Bi} (h:Ace x.V x.E L) (c:Bw x.D x.V x.E m.F+Dk L<=6):Gf x ⟨m.F,L⟩:=by have h0:=b.f.fsum0;obtain⟨g1,g2⟩:=A9v h ω;have hc:=b.1;unfold Ix at hc g1;rw[Dz,Dz]at hc g1;refine⟨?_,⟨b.2.nf,g2.na,b.2.fi,b.2.fr,g2.al⟩⟩;unfold Ix;rw[Dz,Dz];exact⟨⟨hc.1.1,g1.1.2⟩,decide_eq_true c⟩
noncomputable def Ahm (x:Bs) (t:Aj) (q:List Aj):(Int×List (ByteArray×Int)×List (ByteArray×List Av)×List (ByteArray×Int)×List Aj)->Option ((Int×List (ByteArray×Int)×List (ByteArray×List Av)×List (ByteArray×Int)×List Aj)⊕((List Aj×Int)⊕(Int×List (ByteArray×Int)×List (ByteArray×List Av)×List (ByteArray×Int)×List Aj))):=λ(c,j,i,h,g)=> bif c<(q.length:Int) then ((Ag q c).bind λf=> (Hm t.C f.C).bind λv127=> (P6 t.M f.M).bind λk=> (Rl v127 k j i x.D x.V x.E.G x.E.U x.E.R).bind λb=> bif (b.2.1 != (0:Int)) then (some (.inr (.inl ([],b.2.1)))) else ((Lg b.1 h g).bind λv130=> some (.inl ((Aa (c+1)),b.2.2.1,b.2.2.2,v130.1,v130.2)))) else (some (.inr (.inr (c,j,i,h,g))))
def ls (g:Int->Int):List Ek->Int
 | []=>0
 | t::l=>t.C*g t.v+ls g l
structure PX (x:Bs) (n k:Nat) (R:List Aj):Prop where
 cp:CP R
 mo:∀t∈R,Gf x t.M
 rb:∀t∈R,RB k t.C
 len:R.length<=n
theorem PX.can (h:PX x n k R) (b:n<=1000) (hk:k<=1048576):Ir x R := Ir.of h.cp h.mo (λt ht=>(h.rb t ht).mono hk) (Nat.le_trans h.len b)
theorem PX.up {c:Nat} (h:PX x n k R) (f:n<=b) (hk:k<=c):PX x b c R:=⟨h.cp,h.mo,λt ht=>(h.rb t ht).mono hk,Nat.le_trans h.len f⟩
theorem Awk (hc:CP p) (h:∀t∈p,RB k t.C) (hk:3<=k) (m:Bd):∃a,RB k a/\rq a=cf p m:=by
 by_cases b:∃t∈p,Ei t.M m=0
 .obtain⟨t,ht,e⟩:=b;exact⟨t.C,h t ht,by rw[<-Age hc ht,Nk.1 e]⟩
 .obtain⟨y,i,f,g,c⟩:=A7z 0 ω ω;exact⟨y,f.mono hk,by rw[c,Agd λt ht e=>b ⟨t,ht,e⟩];rfl⟩
theorem A97 (h:CSz x) (hf:Ih x) {m:Nat} (hp:PX x n k p) (hq:PX x m l q) (y:n+m<=1000) (h3:3<=k) (u:3<=l) (hk:k<=1048576) (s:l<=1048576) : ∃R,N6 x p q=some (R,0)/\PX x (n+m) (k+l+3) R/\∀a,cf R a=cf p a+cf q a:=by have j:=hp.len;have i:=hq.len;obtain⟨R,g,f⟩:=A7i h hf (hp.can ω hk) (hq.can ω s) ω;refine⟨R,g,⟨f.cp,λt ht=>(f.tb t ht).1,λt ht=>?_,by have:=f.len;omega⟩,f.val⟩;obtain⟨a,a1,a2⟩:=Awk hp.cp hp.rb h3 t.M;obtain⟨b,b1,b2⟩:=Awk hq.cp hq.rb u t.M;obtain⟨c,c1,_,c2,c3,c4⟩:=Af9 a1 b1 ω ω;have e:t.C=c:=Af8 (f.cp.coe t ht).1 c3 (by rw[<-Age f.cp ht,f.val,c4,a2,b2]);rw[e];exact c2
theorem A98:P1 (λa b:Bf=>a.v-b.v):=⟨λ_ h=>ω,λ_ _ _ h1 h2=>ω,λ_ _ _ h1 h2 h3=>ω⟩
theorem A99 (c:∀f∈F,-1<=f.v/\f.v<=1000000000) (g:F.length<20):∃R,Wj F=some R/\R.Perm F/\R.Pairwise (λa b=>a.v<=b.v):=by obtain⟨R,h1,h2,h3⟩:=Avh (cmp:=Wk) A98 F (λx hx y hy=>by have:=c x hx;have:=c y hy;unfold Wk;have w:Aa (x.v-y.v)=x.v-y.v:=ξ;rw[w]) g;refine⟨R,?_,h2,h3.imp λ{a b} h=>ω⟩;unfold Wj;have e:Ad0 (F.length:Int) F=Agw Wk (F.length:Int) F:=rfl;rw[e,h1,Ad,Ms h2.length_eq.symm];rfl
theorem Amt {l m:List Bf} (h:l.Perm m):Bw data vars res l=Bw data vars res m:=by induction h with| nil=>rfl| cons a _ ih=>simp only[Bw,map_cons,sum_cons]at ih ⊢;omega| swap a b l=>simp only[Bw,map_cons,sum_cons];omega| trans _ _ h1 h2=>exact h1.trans h2
theorem Awl {l m:List Nat} (h:l.Perm m):l.sum=m.sum:=by induction h with| nil=>rfl| cons a _ ih=>simp only[sum_cons,ih]| swap a b l=>simp only[sum_cons];omega| trans _ _ h1 h2=>exact h1.trans h2
theorem Nq.perm {l m:List Bf} (hp:l.Perm m) (h:Nq data vars res m):Nq data vars res l:=by refine⟨λf hf=>h.fac f (hp.mem_iff.1 hf),?_,by rw[Amt hp];exact h.sum⟩;rw[Awl (hp.map λf=>Bo f.I)];exact h.siz
structure Vi (data:List Al) (vars:List Af) (res:Af) (c:Rat) (F:List Bf) (A:List Bi) (K:Nat) (out:List Aj):Prop where
 ex:∃Fs FE S gs,Fs.Perm F/\Q6 data vars res Fs FE/\S.Perm A/\Abw S/\Gs gs S/\Fq K out (Q5 (FE.map (Kn c)) gs)
 len:out.length<=10 ^ (Bw data vars res F).toNat*2 ^ Dp A
theorem Baa (hz:DSz data) (hv:Hx data) (hx:Ky data vars res) (M:∀v t,Em vars res v=some t->G4 data t=true) {c:A7} (hc:RB K c) (hK:K<20000000000) (h0:rq c≠0) (E:Nq data vars res F) (B:Atk A) (hs:Bw data vars res F+(Dp A:Nat)<=6) {b2:List (ByteArray×List Av)} (m1:D0 data vars res b1) (m2:PMg data vars res b2) : ∃out e q k,Rl c ⟨F,A⟩ b1 b2 data vars res.G res.U res.R=some (out,e,q,k)/\D0 data vars res q/\PMg data vars res k/\((e=9/\out = []/\Q7 F)\/(e=0/\Vi data vars res (rq c) F A (K+3636) out)):=by
 have a7:=Mx (data:=data) (vars:=vars) (res:=res) (l:=F) λf hf=>(E.fac f hf).2.2;have a6:=E.sum;have hT:∀b∈A,b.L.T.length<1099511627776:=λb hb=>by have:=(Ag1 (B.lin b hb)).1;omega
 have U:=B.len;have R:=B.sum;obtain⟨S,s1,j,Y⟩:=A7u A hT ω;have g:Atk S:=⟨λa ha=>B.deg a (j.mem_iff.1 ha),λa ha=>B.lin a (j.mem_iff.1 ha),by rw[Al9 j];exact R,by rw[j.length_eq];exact U⟩;obtain⟨G,f1,f2,f3⟩:=A99 (F:=F) (λf hf=>by obtain⟨t,d,h1,_⟩:=Ahi (E.fac f hf).2.2;have:=Asu vars res f.v;rw[h1]at this;have:=of_decide_eq_true this.symm;have:=hx.nv;omega) ω;have x:=E.perm f2;have s:Sr (rq c)≠0:=by
  unfold Sr;split
  .decide
  .split
   .decide
   .rename_i h1 h2;exact (h0 (by grind)).elim
 have N:Wl A=some ([],A):=by unfold Wl P3;rw[Dn ζ];rfl
 have h:Wi F=some ([],F):=by unfold Wi P3;rw[Dn ζ];rfl
 have i:=f2.length_eq;obtain⟨z,X,z2⟩:=A9s hz hv hx M (c:=rq c) G.length G [] [⟨c,⟨[],[]⟩⟩] [([],1)] K b1 b2 (Nat.le_refl _) f3 (λf hf=>by cases hf) x (.cons rfl (by show rq c=rq c*((1:Nat):Rat);grind) hc (by simp[Kn]) .nil) (Q6.nil _ _ _) (λp hp=>by simp only[E3]at hp;subst hp;simp) ω m1 m2;rcases z2 with⟨q,k,wt,rfl,L,J⟩|⟨ts,V,q,k,rfl,L,J,Z,I⟩
 .refine⟨[],9,q,k,?_,L,J,.inl ⟨rfl,rfl,wt.perm f2⟩⟩;unfold Rl;rw[(Agb hc ω).1,Ad,Cy s,Am,h,Ad];dsimp only;rw[f1,Ad,Ms i.symm,Ad];exact bnd X rfl
 .rw[nil_append]at I;have u:=I.len;rw[Amt f2]at u;have a1:0<=Bw data vars res F:=ω;have y:(V.map (Kn (rq c))).length*2 ^ Dp S<=10 ^ (Bw data vars res F).toNat*2 ^ Dp A:=(by rw[Dc,Al9 j];exact Nat.mul_le_mul_right _ u);have D:10 ^ (Bw data vars res F).toNat*2 ^ Dp A<=1000000:=(by have h1:2 ^ Dp A<=10 ^ Dp A:=Nat.pow_le_pow_left δ _;have h2:=Nat.mul_le_mul_left (10 ^ (Bw data vars res F).toNat) h1;rw[<-Nat.pow_add]at h2;exact Nat.le_trans h2 (Ahl ω));obtain⟨gs,out,g1,g2,g3,g4⟩:=A9k S.length S ts (V.map (Kn (rq c))) (K+202*G.length) 0 (Nat.le_refl _) Y g Z (λb hb=>by obtain⟨p,_,rfl⟩:=mem_map.1 hb;simp[Kn]) (by have:=g.len;omega) (by have:=g.len;omega) (Nat.le_trans y D);refine⟨out,0,q,k,?_,L,J,.inr ⟨rfl,⟨G,V,S,gs,f2,I,j,Y,g2,g3.mono (by have:=g.len;omega)⟩,Nat.le_trans g4 y⟩⟩;unfold Rl;rw[(Agb hc ω).1,Ad,Cy s,Am,h,Ad];dsimp only;rw[f1,Ad,Ms i.symm,Ad];refine bnd X ?_;dsimp only;rw[N,Ad];dsimp only;rw[s1,Ad,Ms j.length_eq.symm,Ad];exact bnd g1 rfl
def I0 (χ:Bf->Nat) (v:Bz->Nat):List Hf->Nat
 | []=>0
 | b::bs=>Gm (b.1.1.map χ)*(b.2.2*Gw v b.2.1)+I0 χ v bs
theorem Bab (χ:Bf->Nat) (v:Bz->Nat) (B C:List Hf):I0 χ v (B++C)=I0 χ v B+I0 χ v C:=by induction B with| nil=>simp[I0]| cons b B ih=>simp only[Eu,I0,ih,Nat.add_assoc]
theorem Bac (χ:Bf->Nat) (v:Bz->Nat) (l:Bz) (k c:Nat) (B:List Hf):I0 χ v (B.map (Sx l k c))=I0 χ v B*(c*bc (v l) k):=by
 have ha:Gw v (atO l k)=bc (v l) k:=by
  unfold atO;by_cases h:k=0
  .subst h;rw[Aw rfl,Jw];rfl
  .rw[Au h];simp[Gw]
 induction B with
 | nil=>simp[I0]
 | cons b B ih=>
  simp only[map_cons,I0,ih,Sx,Acg,ha];rw[Nat.add_mul];congr 1
  ac_rfl
theorem Awm (χ:Bf->Nat) (v:Bz->Nat) (B:List Hf) (l:Bz) (f:Nat->Nat):∀n,I0 χ v (Km B l f n)=I0 χ v B*sm n λk=>f k*bc (v l) k
 | 0=>by simp[Km,I0,sm]
 | n+1=>by
  rw[Ahh,Bab,Awm χ v B l f n];show _=I0 χ v B*(sm n (λk=>f k*bc (v l) k)+f n*bc (v l) n);rw[Nat.mul_add];congr 1;by_cases h:f n=0
  .rw[Aw h,h];simp[I0]
  .rw[Au h,Bac]
theorem Gs.valG (c:Ko v):∀{b:List Grp} {A:List Bi},Gs b A->∀B,I0 χ v (Q5 B b)=I0 χ v B*Gw v A:=by
 intro b A h;induction h with
 | nil=>intro B;simp[Q5,Gw]
 | @cons l N f g rest b i hg k j q ih=>
  intro B;show I0 χ v (Q5 (Km B l f (N+1)) b)=_;rw[ih,Awm,Acg,Ams hg,<-Nat.mul_assoc];congr 2;rcases j with⟨_,_,_,h3⟩|⟨h1,h2,h3⟩
  .exact h3 (v l)
  .subst h2;rw[c l h1];simp[sm,Jw,h3]
theorem Awn (χ:Bf->Nat) (v:Bz->Nat) (c:Rat):∀b:List No,I0 χ v (b.map (Kn c))=pv (λF=>Gm (F.map χ)) b
 | []=>rfl
 | p::b=>by rw[map_cons,I0,Awn χ v c b,pv];show Gm (p.1.map χ)*(p.2*1)+_=_;rw[Nat.mul_one,Nat.mul_comm]
def Du (χ:Bf->Nat) (v:Bz->Nat):List Aj->Rat
 | []=>0
 | t::p=>rq t.C*((Gm (t.M.F.map χ)*Gw v t.M.A:Nat):Rat)+Du χ v p
theorem Yc (χ:Bf->Nat) (v:Bz->Nat):∀p q:List Aj,Du χ v (p++q)=Du χ v p+Du χ v q
 | [],q=>by simp only[nil_append,Du];grind
 | t::p,q=>by simp only[Eu,Du,Yc χ v p q];grind
theorem Fq.polX {c:Rat} {bs:List Hf} (h:Fq K ts bs) (hc:∀b∈bs,b.1.2=c):Go.Ab.Du χ v ts=c*(I0 χ v bs:Rat):=by induction h with| nil=>simp only[Go.Ab.Du,I0];grind| @cons t b ts bs a1 a2 a3 a4 _ ih=>have hb:=hc b ψ;simp only[Go.Ab.Du,I0,ih λd hd=>hc d (by simp[hd]),a1,a2,hb,Rat.natCast_add,Rat.natCast_mul];grind
theorem Bad {l m:List Nat} (h:l.Perm m):Gm l=Gm m:=by induction h with| nil=>rfl| cons a _ ih=>simp only[Gm,ih]| swap a b l=>simp only[Gm];ac_rfl| trans _ _ h1 h2=>exact h1.trans h2
theorem Vi.val {c:Rat} {f:List Aj} (h:Vi data vars res c F A K f) (i:Pp data vars res χ F) (j:Ko v):Du χ v f=c*((Gm (F.map χ)*Gw v A:Nat):Rat):=by obtain⟨u,x,S,gs,h1,h2,h3,q,l,k⟩:=h.ex;rw[k.polX (c:=c) λb hb=>by obtain⟨s,b1,b2,_⟩:=Amp gs hb;obtain⟨p,_,rfl⟩:=mem_map.1 b1;rw[b2];rfl];rw[l.valG j,Awn,h2.val χ λg hg=>i g (h1.mem_iff.1 hg),Awi v h3,Bad (h1.map χ)]
theorem Bae {l:Bz} {f:Nat->Nat} {b:Ent} (hb:b∈Iz B l f n):∃c∈B,∀a∈b.1,a∈c.1\/a.L=l:=by
 unfold Iz at hb;rw[mem_flatMap]at hb;obtain⟨k,_,hk⟩:=hb;split at hk
 .cases hk
 .obtain⟨d,hd,rfl⟩:=mem_map.1 hk;refine⟨d,hd,λa ha=>?_⟩;rcases Ef.1 ha with ha|ha
  .exact .inl ha
  .unfold atO at ha;split at ha
   .cases ha
   .simp only[E3]at ha;right;rw[ha]
theorem Baf {j:List Grp} (h:Gs j A):∀(B:List Ent) (b:Ent),b∈Nm B j->∃q∈B,∀a∈b.1,a∈q.1\/∃c∈A,a.L=c.L:=by
 induction h with
 | nil=>intro B b hb;exact⟨b,hb,λa ha=>.inl ha⟩
 | @cons l N f g rest j k hg s u x ih=>
  intro B b hb;obtain⟨b1,c1,c2⟩:=ih _ b (show b∈Nm (Iz B l f (N+1)) j from hb);obtain⟨q,d1,d2⟩:=Bae c1;obtain⟨a0,i⟩:∃a,a∈g:=(by cases g with| nil=>exact (k rfl).elim| cons a _=>exact⟨a,ψ⟩);refine⟨q,d1,λa ha=>?_⟩;rcases c2 a ha with h|⟨c,h1,h2⟩
  .rcases d2 a h with h|h
   .exact .inl h
   .exact .inr ⟨a0,by simp[i],by rw[h,hg a0 i]⟩
  .exact .inr ⟨c,by simp[h1],h2⟩
theorem Vi.mono {c:Rat} {i:List Aj} (h:Vi data vars res c F A K i) (B:∀a∈A,Ic a.L=true/\Ju vars res a.L=true):∀t∈i,RB K t.C/\(∃n:Nat,rq t.C=c*(n:Rat))/\(∀f∈t.M.F,Fh f.v/\iR f.I/\Bo f.I<=(F.map λf=>Bo f.I).sum/\1<=D3 data vars res f)/\t.M.F.Pairwise (λa b=>a.v<b.v)/\Bw data vars res t.M.F<=Bw data vars res F/\Ace vars res t.M.A/\Dk t.M.A<=(Dp A:Nat)/\(∀f∈t.M.F,∃g∈F,g.v=f.v)/\∀a∈t.M.A,∃c∈A,a.L=c.L:=by
 obtain⟨R,U,S,gs,h1,h2,h3,M,l,k⟩:=h.ex;intro t ht;obtain⟨b,b1,b2,L,J⟩:=k.mem ht;obtain⟨N,c1,c2,c3⟩:=Amp gs b1;obtain⟨p,j,rfl⟩:=mem_map.1 c1;obtain⟨g1,g2⟩:=A9u (vars:=vars) (res:=res) l (λa ha=>B a (h3.mem_iff.1 ha)) [(Kn c p).2] 0 (λd hd=>by simp only[E3]at hd;subst hd;exact⟨⟨Pairwise.nil,λ_ h=>by cases h⟩,by simp[Dk,Kn],λ_ h=>by cases h⟩) b.2 c3;rw[Al9 h3]at g2;have G:b.1.1=p.1:=by rw[c2];rfl
 have E:b.1.2=c:=by rw[c2];rfl
 rw[b2];dsimp only;rw[G];refine⟨J,⟨b.2.2,by rw[L,E]⟩,λf hf=>?_,h2.asc p j,by have:=h2.sum p j;rw[Amt h1]at this;exact this,g1,ω,λf hf=>?_,λa ha=>?_⟩
 .obtain⟨z,y,x,u,_⟩:=h2.fac p j f hf;exact⟨z,y,by rw[<-Awl (h1.map λf=>Bo f.I)];exact x,u⟩
 .obtain⟨_,_,_,_,g,s,q⟩:=h2.fac p j f hf;exact⟨g,h1.mem_iff.1 s,q⟩
 .obtain⟨d,d1,d2⟩:=Baf l _ _ c3;simp only[E3]at d1;subst d1;rcases d2 a ha with h|⟨I,k,D⟩
  .cases h
  .exact⟨I,h3.mem_iff.1 k,D⟩
theorem Bag {c:A7} (ha:RB K a) (hc:RB k c) (h:rq a=rq c*(n:Rat)) (h0:rq c≠0):Bp n<=K+k+2:=by
 have j:=ha.nv;have hd:=hc.dv;have e:rq c*(n:Rat)=mkRat (sg (sv c) (nv c)*(n:Int)) (dv c):=by unfold rq;rw[show ((n:Nat):Rat)=mkRat (n:Int) 1 from (Agz (n:Int)).symm,Rat.mkRat_mul_mkRat,Nat.mul_one]
 rw[e]at h;unfold rq at h;rw[Rat.mkRat_eq_iff (Ie a) (Ie c)]at h;have b:nv c≠0:=λi=>h0 ((A59 c).2 i);have g:=congrArg Int.natAbs h;have f:∀(s:Bool) (m:Nat),(sg s m).natAbs=m:=λs m=>by unfold sg;split <;> omega
 rw[Int.natAbs_mul,Int.natAbs_mul,Int.natAbs_mul,f,f,Int.natAbs_natCast,Int.natAbs_natCast,Int.natAbs_natCast]at g;have h1:n<=nv a*dv c:=by rw[g];have d0:=Nat.pos_of_ne_zero (Ie a);have c0:=Nat.pos_of_ne_zero b;have h2:n<=nv c*n:=Nat.le_mul_of_pos_left _ c0;exact Nat.le_trans h2 (Nat.le_mul_of_pos_right _ d0)
 have h2:=L7 h1;have h3:=Lo (nv a) (dv c);omega
theorem Bah {x c:A7} {j:Nat} (hx:K1 x) (ha:RB j a) (hc:RB k c) (b:Bp n<=L) (g:1<=L) (h:rq x=rq a+rq c*(n:Rat)) (hj:j<10000000000) (hk:k<10000000000) (f:L<10000000000):RB (j+k+L+5) x:=by obtain⟨m,m1,m2,m3,m4⟩:=Aga hc (Abp b g) ω ω;obtain⟨d,d1,_,d3,d4,d5⟩:=Af9 ha m2 ω ω;have:x=d:=Af8 hx d4 (by rw[h,d5,m4,Aby]);rw[this];exact d3.mono ω
def Tm (k0:Nat) (c:A7) (N B:Nat) (t:Aj):Prop:=RB B t.C/\∃(a:A7) (n:Nat),RB k0 a/\rq t.C=rq a+rq c*(n:Rat)/\n<=N
theorem Bai (hP:∀m,P m->CMo m) {c:A7} (hc:RB k c) (a6:rq c≠0) (l ts:List Aj) (y:Col k0 P ts) (hl:∀t∈l,RB K t.C/\P t.M/\∃n:Nat,rq t.C=rq c*(n:Rat)) (ac:k0<=2000000000) (hK:K<=2000000000) (hk:k<=2000000000) (ab:l.length<=1000000) (hn:ts.length<=1099511627776) : ∃f,Lg l (Fb ts) ts=some (Fb f,f)/\Col (max k0 K+k+(K+k+10)) P f/\f.length<=ts.length+l.length/\∀m,cf f m=cf ts m+cf l m:=by
 have J:∀t∈l,∀n:Nat,rq t.C=rq c*(n:Rat)->n<1000000000 ^ (K+k+2):=λt ht n h=>by have h1:=Bag (hl t ht).1 hc h a6;exact Nat.lt_of_lt_of_le (Oj n) (Nat.pow_le_pow_right δ h1)
 have a7:∀N,N<=1000000*1000000000 ^ (K+k+2)->Bp N<=K+k+3:=λN h=>by refine Ku (Nat.lt_of_le_of_lt h ?_);rw[show K+k+3=(K+k+2)+1 by omega,Nat.pow_succ];have key:∀X:Nat,0<X->1000000*X<X*1000000000:=λX h=>ω;exact key (1000000000 ^ (K+k+2)) (Nat.pow_pos (show 0<1000000000 by decide))
 have hB:∀(N:Nat) (x a:A7),N<=1000000*1000000000 ^ (K+k+2)->K1 x->RB (max k0 K) a->rq x=rq a+rq c*(N:Rat)->RB (max k0 K+k+(K+k+10)) x:=λN x a h1 h2 h3 h4=>by have h5:=Bah h2 h3 hc (a7 N h1) ω h4 ω ω ω;exact h5.mono ω
 unfold Lg;refine Xj (A:=List Aj) (λf=>(Fb f,f)) ?_;refine Ey (λs=>∃(j:Nat) (u:List Aj),s=((j:Int),Fb u,u)/\j<=l.length/\Dst u/\(∀t∈u,P t.M)/\(∀t∈u,Tm (max k0 K) c (j*1000000000 ^ (K+k+2)) (max k0 K+k+(K+k+10)) t)/\u.length<=ts.length+j/\∀m,cf u m=cf ts m+cf (l.take j) m) (λs=>l.length-s.1.toNat) (λz=>∃u,z=(Fb u,u)/\Col (max k0 K+k+(K+k+10)) P u/\u.length<=ts.length+l.length/\∀m,cf u m=cf ts m+cf l m) ⟨0,ts,rfl,ω,y.dst,y.mo,λt ht=>⟨(y.tb t ht).mono ω,t.C,0,(y.tb t ht).mono ω,by rw[show ((0:Nat):Rat)=0 from rfl];grind,ω⟩,ω,λm=>by simp only[take_zero,cf];grind⟩ ?_ ?_
 .rintro _ ⟨j,u,rfl,hj,hu,B,M,Z,L⟩;rcases Cf j l.length with h|h
  .have hx:l[j]? = some l[j]:=B4 h;generalize l[j]=x at hx;obtain⟨hb,hm,n,I⟩:=hl x (Bq hx);have aa:=J x (Bq hx) n I;have ae:(j+1)*1000000000 ^ (K+k+2)=j*1000000000 ^ (K+k+2)+1000000000 ^ (K+k+2):=(by rw[Nat.add_mul,Nat.one_mul]);have ad:(j+1)*1000000000 ^ (K+k+2)<=1000000*1000000000 ^ (K+k+2):=Nat.mul_le_mul_right _ ω;simp only[Ao (ω:(j:Int)<(l.length:Int)),Ak,Br rfl hx,Ad,Auh (hP _ hm),C5 h ω];left;by_cases hex:∃t∈u,t.M=x.M
   .obtain⟨t,ht,he⟩:=hex;obtain⟨i,hi⟩:=Hu ht;obtain⟨g1,g2⟩:=Aul hu hi;rw[he]at g1 g2;obtain⟨tb,a,Y,G,R,a8⟩:=M t ht;obtain⟨E,c1,_,c3,c4,c5⟩:=Af9 tb hb ω ω;have D:rq E=rq a+rq c*((Y+n:Nat):Rat):=(by rw[c5,R,I,Rat.natCast_add];grind);have a1:=hB (Y+n) E a ω c4 G D;refine⟨((j+1:Nat),Fb (u.set i ⟨E,t.M⟩),u.set i ⟨E,t.M⟩),?_,⟨j+1,u.set i ⟨E,t.M⟩,rfl,ω,hu.set hi rfl,?_,?_,by rw[length_set];omega,λm=>?_⟩,ζ⟩
    .simp only[g1,g2,Ak,Ad,Br rfl hi,c1,Ho rfl,Auj (u:=⟨E,t.M⟩) hi rfl]
    .intro w hw;rcases mem_or_eq_of_mem_set hw with hw|rfl
     .exact B w hw
     .exact B t ht
    .intro w hw;rcases mem_or_eq_of_mem_set hw with hw|rfl
     .obtain⟨V,b,q,U,S,q4⟩:=M w hw;exact⟨V,b,q,U,S,ω⟩
     .exact⟨a1,a,Y+n,G,D,ω⟩
    .rw[Al0 (u:=⟨E,t.M⟩) hi rfl m,L m,Db hx,Qy,Qz];simp only[c5,he,cf];split <;> grind
   .have g:=Auk (m:=x.M) (ts:=u) λt ht e=>hex ⟨t,ht,e⟩;refine⟨((j+1:Nat),Fb (u++[x]),u++[x]),?_,⟨j+1,u++[x],rfl,ω,?_,?_,?_,ζ,λm=>?_⟩,ζ⟩
    .simp only[g,Am,Ad];rw[Dn ζ,Ad,Ago _ _ _ g,Aui]
    .refine pairwise_append.2 ⟨hu,pairwise_singleton _ _,λa ha b hb=>?_⟩;simp only[E3]at hb;subst hb;exact λe=>hex ⟨a,ha,e⟩
    .intro w hw;rcases Ef.1 hw with hw|hw
     .exact B w hw
     .simp only[E3]at hw;subst hw;exact hm
    .intro w hw;rcases Ef.1 hw with hw|hw
     .obtain⟨V,b,q,U,S,q4⟩:=M w hw;exact⟨V,b,q,U,S,ω⟩
     .simp only[E3]at hw;subst hw;exact⟨hb.mono ω,w.C,0,hb.mono ω,by rw[show ((0:Nat):Rat)=0 from rfl];grind,ω⟩
    .rw[Qy,L m,Db hx,Qy];grind
  .have:j=l.length:=ω;subst this;rw[Dq]at L;simp only[As (ω:¬(l.length:Int)<(l.length:Int)),Am];exact .inr ⟨_,rfl,u,rfl,⟨hu,λt ht=>(M t ht).1,B⟩,Z,L⟩
 .rintro _ ⟨u,rfl,h1,h2,h3⟩;exact⟨_,rfl,u,rfl,h1,h2,h3⟩
def lim (R:List Aj):List Aj×Int:=if 1000<R.length then ([],9) else (R,0)
theorem Ahn (h:R.length<=1000):lim R=(R,0):=Au ω
theorem Amu (h:1000<R.length):lim R=([],9):=Aw h
theorem Awo (s:∀m,P m->CMo m) (o:List (ByteArray×Int)) (ts:List Aj) (h:Col k P ts) (hk:k<34359738000) (D:ts.length<=4000000000) : ∃R,Ly o ts=some (lim R)/\CP R/\(∀m,cf R m=cf ts m)/\∀t∈R,P t.M/\RB (k+1) t.C:=by
 have A:(ts.filter nzT).length<=ts.length:=length_filter_le _ _;have g:∀{X:Option (List Aj×Int)},(bif (((ts.filter nzT).length:Nat):Int)>(1000:Int) then (some ([],9)) else ((O3 (ts.filter nzT)).bind λf=> (G0 (ts.filter nzT).length f).bind λv20=> (Wg f).bind λv21=> some (v21,0)))=X->Ly o ts=X:=λ{X} B=>by
  unfold Ly;refine bnd (a:=ts.filter nzT) ?_ B;rw[<-Option.bind_fun_some (An _ _)];refine F2 ts (λj=>((j:Int),(ts.take j).filter nzT)) rfl ω ?_ ?_
  .intro j x hj hx h1 h2 h3;have hb:=h.tb x (Bq hx);have q:((ts.take j).filter nzT).length<=ts.length:=Nat.le_trans (length_filter_le _ _) (by rw[length_take];omega);simp only[h1,h2,h3,Ak,Ad,(Agb hb hk).1,Aus];rw[Al2 hx];by_cases l:rq x.C=0
   .have:nzT x=false:=(by simp[nzT,l]);rw[As (by simpa using l),this];simp
   .have:nzT x=true:=(by simp[nzT,l]);rw[Ao l,this];simp only[Ak];rw[Dn ζ];simp
  .intro h1;exact⟨ts.filter nzT,by simp only[h1,Am,Dq],rfl⟩
 obtain⟨S,z,c,y⟩:=Au9 (ts.filter nzT) (Pairwise.filter _ h.dst) (λt ht=>(s _ (h.mo t (mem_filter.1 ht).1)).sz);have b:∀t∈S,t∈ts/\rq t.C≠0:=by intro t ht;have:=mem_filter.1 (c.mem_iff.1 ht);exact⟨this.1,by simpa[nzT] using this.2⟩
 refine⟨S.map clT,g ?_,⟨?_,?_⟩,?_,?_⟩
 .by_cases i:1000<(ts.filter nzT).length
  .rw[Ao ω,Ak,Amu (by rw[Dc,c.length_eq];exact i)]
  .rw[As ω,Am,z,Ad,Ms c.length_eq.symm,Ad,
    Auo (k:=k) S hk (λt ht=>⟨h.tb t (b t ht).1,(s _ (h.mo t (b t ht).1)).sz⟩) (by rw[c.length_eq];omega),Ahn (by rw[Dc,c.length_eq];omega)];rfl
 .rw[pairwise_map];exact y
 .intro t ht;obtain⟨u,hu,rfl⟩:=mem_map.1 ht;refine⟨U8 _ _ _ (Ie _),?_⟩;show rq (Ci _ _ _)≠0;rw[Sq _ _ _ (Ie _)];exact (b u hu).2
 .intro m;rw[Aup,Auq c,Aur]
 .intro t ht;obtain⟨u,hu,rfl⟩:=mem_map.1 ht;exact⟨h.mo u (b u hu).1,Ath (h.tb u (b u hu).1)⟩
def mX (χ:Bf->Nat) (v:Bz->Nat) (m:Bd):Nat:=Gm (m.F.map χ)*Gw v m.A
theorem Baj (χ:Bf->Nat) (v:Bz->Nat) (p:List Aj):Kk (mX χ v) (p.map wT)=Du χ v p:=by induction p with| nil=>rfl| cons t p ih=>simp only[map_cons,Kk,Du,ih,wT];rfl
theorem Bak (χ:Bf->Nat) (v:Bz->Nat) (p:List Aj):Kk (mX χ v) (p.map nT) = - Du χ v p:=by induction p with| nil=>show (0:Rat) = - 0;grind| cons t p ih=>simp only[map_cons,Kk,Du,ih,nT];show-rq t.C*((Gm (t.M.F.map χ)*Gw v t.M.A:Nat):Rat)+_=_;grind
theorem Awp (h:∀m,cf q m<=cf p m):Du χ v q<=Du χ v p:=by have:=A71 (mX χ v) _ (p.map wT++q.map nT) (Nat.le_refl _) (λm=>by rw[A74,A72,A73];have:=h m;grind);rw[A75,Baj,Bak]at this;grind
theorem Aho (h:∀m,cf q m=cf p m):Du χ v q=Du χ v p := Rat.le_antisymm (Awp λm=>by rw[h m];exact Rat.le_refl) (Awp λm=>by rw[h m];exact Rat.le_refl)
theorem Bal (h1:∀f∈F,Fh f.v/\iR f.I/\Bo f.I<=1048576/\1<=D3 x.D x.V x.E f) (h2:F.Pairwise λa b=>a.v<b.v) (h3:Bw x.D x.V x.E F<=6):Gf x ⟨F,[]⟩:=by
 have g:=Mx (data:=x.D) (vars:=x.V) (res:=x.E) (l:=F) λf hf=>(h1 f hf).2.2.2;refine⟨?_,⟨by show F.length<=_;omega,ψ,λf hf=>(h1 f hf).2.2.1,λf hf=>⟨(h1 f hf).2.1,(h1 f hf).1⟩,λa ha=>by cases ha⟩⟩;unfold Ix;have h:F.zipIdx.all (λq=>Ma x.D x.V x.E F q.1 q.2)=true:=by rw[I5];rintro⟨a,j⟩ hq;have hj:F[j]? = some a:=mk_mem_zipIdx_iff_getElem?.1 hq;have hd:=(h1 a (Bq hj)).2.2.2;show Ma x.D x.V x.E F a j=true;unfold Ma;have hp:Kx (·.v) F a j=true:=(by unfold Kx;cases j with| zero=>rfl| succ j=>have g:=Eh hj;have hy:F[j]? = some F[j]:=B4 ω;have c:=pairwise_iff_getElem.1 h2 j (j+1) ω g ω;have e:F[j+1]=a:=(by have:=B4 g;rw[hj]at this;exact (Ew this).symm);rw[e]at c;simp only[Nat.add_sub_cancel,hy,Bool.or_eq_true];exact .inr (decide_eq_true c));rw[hp,Ao hd];rfl
 show (F.zipIdx.all (λq=>Ma x.D x.V x.E F q.1 q.2)&&([]:List Bi).zipIdx.all _&&decide (Bw x.D x.V x.E F+Dk []<=6))=true;rw[h];have:Dk []=0:=rfl;rw[this,Ao ω];rfl
def Yd (x:Bs) (Z:Nat) (m:Bd):Prop:=Gf x m/\∀f∈m.F,Bo f.I<=Z
def Nr (x:Bs) (Z:Nat) (W:Int->Prop) (m:Bd):Prop:=Yd x Z m/\∀w∈Abu m,W w
theorem Sy {w:Int}:w∈Abu m↔(∃f∈m.F,f.v=w)\/∃a∈m.A,w∈a.L.T.map (·.v):=by unfold Abu Au3;rw[Ef,mem_map,mem_flatMap]
theorem Vi.canZ {Z:Nat} {c:Rat} {b:List Aj} (h:Vi x.D x.V x.E c F A K b) (j:∀w∈Abu ⟨F,A⟩,W w) (q:∀a∈A,Ic a.L=true/\Ju x.V x.E a.L=true) (D:Bw x.D x.V x.E F+(Dp A:Nat)<=6) (l:(F.map λf=>Bo f.I).sum<=Z) (k:Z<=400000):∀t∈b,RB K t.C/\Nr x Z W t.M/\∃n:Nat,rq t.C=c*(n:Rat):=by
 intro t ht;obtain⟨h1,h2,h3,z,G,y,E,u,s⟩:=h.mono q t ht;have i:=Bal (x:=x) (λf hf=>⟨(h3 f hf).1,(h3 f hf).2.1,by have:=(h3 f hf).2.2.1;omega,(h3 f hf).2.2.2⟩) z ω;have:=A96 i y (by show Bw x.D x.V x.E t.M.F+Dk t.M.A<=6;omega);refine⟨h1,⟨⟨this,λf hf=>Nat.le_trans (h3 f hf).2.2.1 l⟩,λw hw=>?_⟩,h2⟩;rcases Sy.1 hw with⟨f,f1,f2⟩|⟨a,a1,a2⟩
 .obtain⟨g,g1,g2⟩:=u f f1;exact j w (Sy.2 (.inl ⟨g,g1,by rw[g2,f2]⟩))
 .obtain⟨B,c1,c2⟩:=s a a1;exact j w (Sy.2 (.inr ⟨B,c1,by rw[<-c2];exact a2⟩))
structure TmZ (x:Bs) (k Z:Nat) (W:Int->Prop) (t:Aj):Prop where
 vr:∀w∈Abu t.M,W w
 mo:Yd x Z t.M
 rb:RB k t.C
 nz:rq t.C≠0
theorem Bam (hf:Ih x) {v:Int} {t:Af} (h:Em x.V x.E v=some t):G4 x.D t=true:=by
 unfold Em at h;split at h
 .cases h;exact hf.2.2.1
 .exact I5.1 hf.2.2.2 t (G9 h).2.2.2
theorem Awq:∀(l:List Bf) (Z:Nat),(∀f∈l,Bo f.I<=Z)->(l.map λf=>Bo f.I).sum<=l.length*Z
 | [],_,_=>ψ
 | f::l,Z,h=>by have h1:=h f ψ;have h2:=Awq l Z λg hg=>h g (by simp[hg]);rw[map_cons,sum_cons,Ed,Nat.add_mul];omega
def My (x:Bs) (χ:Bf->Nat) (p:List Aj):Prop:=∀t∈p,Pp x.D x.V x.E χ t.M.F
theorem kb1 (h:k+l<=1000000):k+l+2+3636<=2000000000:=ω
theorem kb2 (h:k+l<=1000000):k+l+2<=2000000000:=ω
theorem Ban {G:List Bf} (i:F.Pairwise λa b=>a.v<b.v) (c:G.Pairwise λa b=>a.v<b.v):¬Q7 (F++G):=by
 have one:∀{F:List Bf} (v:Int),(F.Pairwise λa b=>a.v<b.v)->(F.filter λf=>f.v==v).length<=1:=λ{F} v h=>by
  induction F with
  | nil=>simp
  | cons f F ih=>
   have h:=pairwise_cons.1 h;by_cases e:f.v=v
   .have:(F.filter λf=>f.v==v) = []:=filter_eq_nil_iff.2 λg hg=>by have:=h.1 g hg;simp;omega
    simp[filter_cons,e,this]
   .simpa[filter_cons,e] using ih h.2
 rintro⟨v,h⟩;have h1:=one v i;have h2:=one v c;rw[filter_append,E4]at h;omega
theorem Bao (hz:CSz x) (hf:Ih x) {Z:Nat} (hk:k+l<=1000000) (hZ:Z<=33333) (ht:TmZ x k Z W t) (hq:∀u∈q,TmZ x l Z W u) (hG:∀u∈q,Hz x t.M+Hz x u.M<=6) (ab:q.length<=1000) (ac:k+l+3638<=k0) (a6:k0+q.length*(3*(k+l)+3652)<=1000000000) (I:Col k0 (Nr x (6*Z) W) ts) (aa:ts.length<=4000000000) {V:List (ByteArray×Int)} {U:List (ByteArray×List Av)} (Y:D0 x.D x.V x.E V) (X:PMg x.D x.V x.E U) : ∃z,An (Ahm x t q) (0,V,U,Fb ts,ts)=some z/\(∃y i b,z = .inr ((q.length:Int),y,i,Fb b,b)/\D0 x.D x.V x.E y/\PMg x.D x.V x.E i/\Col (k0+q.length*(3*(k+l)+3652)) (Nr x (6*Z) W) b/\b.length<=ts.length+q.length*1000000/\∀χ v,Pp x.D x.V x.E χ t.M.F->My x χ q->Ko v->Du χ v b=Du χ v ts+rq t.C*(mX χ v t.M:Rat)*Du χ v q):=by
 have N:=hf.ctx hz;obtain⟨e,e1,e2⟩:=J2 (step:=Ahm x t q) (λs=>∃(j:Nat) (y:List (ByteArray×Int)) (i:List (ByteArray×List Av)) (b:List Aj),s=((j:Int),y,i,Fb b,b)/\j<=q.length/\D0 x.D x.V x.E y/\PMg x.D x.V x.E i/\Col (k0+j*(3*(k+l)+3652)) (Nr x (6*Z) W) b/\b.length<=ts.length+j*1000000/\∀χ v,Pp x.D x.V x.E χ t.M.F->My x χ q->Ko v->Du χ v b=Du χ v ts+rq t.C*(mX χ v t.M:Rat)*Du χ v (q.take j)) (λs=>q.length-s.1.toNat) (λz=>∃(y:List (ByteArray×Int)) (i:List (ByteArray×List Av)) (b:List Aj),z = .inr ((q.length:Int),y,i,Fb b,b)/\D0 x.D x.V x.E y/\PMg x.D x.V x.E i/\Col (k0+q.length*(3*(k+l)+3652)) (Nr x (6*Z) W) b/\b.length<=ts.length+q.length*1000000/\∀χ v,Pp x.D x.V x.E χ t.M.F->My x χ q->Ko v->Du χ v b=Du χ v ts+rq t.C*(mX χ v t.M:Rat)*Du χ v q) (by
   rintro _ ⟨j,y,i,b,rfl,hj,g1,g2,g3,g4,g5⟩;unfold Ahm;dsimp only;rcases Cf j q.length with h|h
   .have hx:q[j]? = some q[j]:=B4 h;generalize q[j]=u at hx;have E:=Bq hx;have hu:=hq u E;have M:=hG u E;obtain⟨c,c1,c2,_,c4⟩:=Aga ht.rb hu.rb ω ω;have R:rq c≠0:=by
     rw[c4];intro h0;rcases Rat.mul_eq_zero.1 h0 with h1|h1
     .exact ht.nz h1
     .exact hu.nz h1
    have D:=ht.mo.1.f;have B:=hu.mo.1.f;have am:=D.as;have au:=B.as;have f0:=D.fsum0;have f1:=B.fsum0;have l1:=Mx (data:=x.D) (vars:=x.V) (res:=x.E) (l:=t.M.F) D.fac;have l2:=Mx (data:=x.D) (vars:=x.V) (res:=x.E) (l:=u.M.F) B.fac;have af:Dp (t.M.A++u.M.A)=Dp t.M.A+Dp u.M.A:=Ss _ _;unfold Hz at M;have L:Bw x.D x.V x.E (t.M.F++u.M.F)+(Dp (t.M.A++u.M.A):Nat)<=6:=(by rw[Po];omega);have A:∀a∈t.M.A++u.M.A,1<=a.P/\Ic a.L=true/\a.L.T.length≠0/\Ju x.V x.E a.L=true:=λa ha=>by
     rcases Ef.1 ha with h|h
     .exact D.atm a h
     .exact B.atm a h
    have hA:Atk (t.M.A++u.M.A):=⟨λa ha=>by have:=(A a ha).1;omega,λa ha=>(A a ha).2.1,ω,by rw[E4];omega⟩;have J:((t.M.F++u.M.F).map λf=>Bo f.I).sum<=6*Z:=by
     refine Nat.le_trans (Awq (t.M.F++u.M.F) Z λf hf=>?_) (Nat.mul_le_mul_right _ (by rw[E4];omega));rcases Ef.1 hf with h|h
     .exact ht.mo.2 f h
     .exact hu.mo.2 f h
    have hF:Nq x.D x.V x.E (t.M.F++u.M.F):=by
     refine⟨λf hf=>?_,?_,by rw[Po];omega⟩
     .rcases Ef.1 hf with h|h
      .exact⟨(ht.mo.1.2.fr f h).2,(ht.mo.1.2.fr f h).1,D.fac f h⟩
      .exact⟨(hu.mo.1.2.fr f h).2,(hu.mo.1.2.fr f h).1,B.fac f h⟩
     .exact Nat.le_trans J ω
    have a7:P6 t.M u.M=some ⟨t.M.F++u.M.F,t.M.A++u.M.A⟩:=Ama _ _ ω ω;obtain⟨out,er,d1,d2,x1,x2,x3,x4⟩:=Baa hz.ds hf.2.1 N (λv t h=>Bam hf h) (K:=k+l+2) c2 ω R hF hA L g1 g2;rw[Ao ω,Ak,Br rfl hx,Ad,c1,Ad,a7,Ad,x1,Ad];dsimp only;rcases x4 with⟨_,_,hT⟩|⟨rfl,hE⟩
    .exact (Ban D.asc B.asc hT).elim
    .left;have a8:=hE.canZ (W:=W) (λw hw=>by
      rcases Sy.1 hw with⟨f,f1,f2⟩|⟨a,a1,a2⟩
      .rcases Ef.1 f1 with f1|f1
       .exact ht.vr w (Sy.2 (.inl ⟨f,f1,f2⟩))
       .exact hu.vr w (Sy.2 (.inl ⟨f,f1,f2⟩))
      .rcases Ef.1 a1 with a1|a1
       .exact ht.vr w (Sy.2 (.inr ⟨a,a1,a2⟩))
       .exact hu.vr w (Sy.2 (.inr ⟨a,a1,a2⟩))) (λa ha=>⟨(A a ha).2.1,(A a ha).2.2.2⟩) L J ω
     have S:out.length<=1000000:=(by refine Nat.le_trans hE.len ?_;have h1:2 ^ Dp (t.M.A++u.M.A)<=10 ^ Dp (t.M.A++u.M.A):=Nat.pow_le_pow_left δ _;have h2:=Nat.mul_le_mul_left (10 ^ (Bw x.D x.V x.E (t.M.F++u.M.F)).toNat) h1;rw[<-Nat.pow_add]at h2;exact Nat.le_trans h2 (Ahl ω));have ae:j*(3*(k+l)+3652)+(3*(k+l)+3652)<=q.length*(3*(k+l)+3652):=(by rw[<-Nat.succ_mul];exact Nat.mul_le_mul_right _ h);have ad:(j+1)*(3*(k+l)+3652)=j*(3*(k+l)+3652)+(3*(k+l)+3652):=Nat.succ_mul _ _;have q1:k0+j*(3*(k+l)+3652)<=2000000000:=Nat.le_trans (Nat.add_le_add_left (Nat.mul_le_mul_right _ hj) k0) (Nat.le_trans a6 δ);have q2:k+l+2+3636<=2000000000:=kb1 hk;have q3:k+l+2<=2000000000:=kb2 hk;have q4:b.length<=1099511627776:=ω;obtain⟨T,t1,t2,t3,t4⟩:=Bai (k0:=k0+j*(3*(k+l)+3652)) (K:=k+l+2+3636) (k:=k+l+2) (P:=Nr x (6*Z) W) (λm h=>h.1.1.cmo) c2 R out b g3 (λw hw=>a8 w hw) q1 q2 q3 S q4;refine⟨(((j+1:Nat):Int),d1,d2,Fb T,T),?_,⟨j+1,d1,d2,T,rfl,ω,x2,x3,⟨t2.dst,λw hw=>(t2.tb w hw).mono ω,t2.mo⟩,ω,λχ v h1 G h2=>?_⟩,ζ⟩
     .rw[Ea rfl,Am,t1,Ad,C5 h ω]
     .have e1:Du χ v T=Du χ v (b++out):=Aho λm=>by rw[t4,Qy]
      rw[e1,Yc,g5 χ v h1 G h2,hE.val (λg hg=>by
       rcases Ef.1 hg with hg|hg
       .exact h1 g hg
       .exact G u E g hg) h2,c4,Db hx,Yc]
      show _=_+_*(_+(rq u.C*((Gm (u.M.F.map χ)*Gw v u.M.A:Nat):Rat)+0));rw[map_append,Ahj,Acg];unfold mX;simp only[Rat.natCast_mul];grind
   .right;have:j=q.length:=ω;subst this;refine⟨_,by rw[As ω,Am],⟨y,i,b,rfl,g1,g2,g3,g4,λχ v h1 G h2=>by rw[g5 χ v h1 G h2,Dq]⟩⟩)
  (0,V,U,Fb ts,ts) ⟨0,V,U,ts,rfl,ω,Y,X,⟨I.dst,λw hw=>(I.tb w hw).mono ω,I.mo⟩,ω,λχ v h1 G h2=>by rw[take_zero];simp only[Du];grind⟩;exact⟨e,e1,e2⟩
noncomputable def Ahp (x:Bs) (p q:List Aj):(Int×List (ByteArray×Int)×List (ByteArray×List Av)×List (ByteArray×Int)×List Aj)->Option ((Int×List (ByteArray×Int)×List (ByteArray×List Av)×List (ByteArray×Int)×List Aj)⊕((List Aj×Int)⊕(List (ByteArray×Int)×List (ByteArray×List Av)×List (ByteArray×Int)×List Aj))):=λ(c,k,j,i,b)=>
 bif c<(p.length:Int) then (
 (Ag p c).bind λf=>
 (An (Ahm x f q) (0,k,j,i,b)).bind λz=>
 match z with
 | .inl (h,g)=>(
 some (.inr (.inl (h,g)))
 )
 | .inr (_,y,u,s,l)=>(
 some (.inl ((Aa (c+1)),y,u,s,l))
 )
 )
 else (
 some (.inr (.inr (k,j,i,b)))
 )
theorem Bap (X:CSz x) (hf:Ih x) {Z:Nat} (hk:k+l<=1000000) (hZ:Z<=33333) (hp:∀t∈p,TmZ x k Z W t) (hq:∀u∈q,TmZ x l Z W u) (hG:∀t∈p,∀u∈q,Hz x t.M+Hz x u.M<=6) (a1:p.length<=1000) (I:q.length<=1000) (J:p.length*q.length<=4000) (hB:k+l+3638+p.length*(q.length*(3*(k+l)+3652))<=1000000000) {B:List (ByteArray×Int)} {A:List (ByteArray×List Av)} (M:D0 x.D x.V x.E B) (L:PMg x.D x.V x.E A) : ∃f c b,An (Ahp x p q) (0,B,A,[],[])=some (.inr (f,c,Fb b,b))/\Col (k+l+3638+p.length*(q.length*(3*(k+l)+3652))) (Nr x (6*Z) W) b/\b.length<=4000000000/\∀χ v,My x χ p->My x χ q->Ko v->Du χ v b=Du χ v p*Du χ v q:=by
 have y:∀j,j<=p.length->j*(q.length*1000000)<=4000*1000000:=λj hj=>by rw[<-Nat.mul_assoc];exact Nat.mul_le_mul_right _ (Nat.le_trans (Nat.mul_le_mul_right _ hj) J)
 obtain⟨e,e1,f,c,b,rfl,e2,e3,e4⟩:=J2 (step:=Ahp x p q) (λs=>∃(j:Nat) (f:List (ByteArray×Int)) (c:List (ByteArray×List Av)) (b:List Aj),s=((j:Int),f,c,Fb b,b)/\j<=p.length/\D0 x.D x.V x.E f/\PMg x.D x.V x.E c/\Col (k+l+3638+j*(q.length*(3*(k+l)+3652))) (Nr x (6*Z) W) b/\b.length<=j*(q.length*1000000)/\∀χ v,My x χ p->My x χ q->Ko v->Du χ v b=Du χ v (p.take j)*Du χ v q) (λs=>p.length-s.1.toNat) (λz=>∃(f:List (ByteArray×Int)) (c:List (ByteArray×List Av)) (b:List Aj),z = .inr (f,c,Fb b,b)/\Col (k+l+3638+p.length*(q.length*(3*(k+l)+3652))) (Nr x (6*Z) W) b/\b.length<=p.length*(q.length*1000000)/\∀χ v,My x χ p->My x χ q->Ko v->Du χ v b=Du χ v p*Du χ v q) (by
   rintro _ ⟨j,f,c,b,rfl,hj,g1,g2,g3,g4,g5⟩;unfold Ahp;dsimp only;rcases Cf j p.length with h|h
   .have hx:p[j]? = some p[j]:=B4 h;generalize p[j]=t at hx;have g:=Bq hx;have G:(j+1)*(q.length*(3*(k+l)+3652))=j*(q.length*(3*(k+l)+3652))+q.length*(3*(k+l)+3652):=Nat.succ_mul _ _;have Y:(j+1)*(q.length*1000000)=j*(q.length*1000000)+q.length*1000000:=Nat.succ_mul _ _;have E:(j+1)*(q.length*(3*(k+l)+3652))<=p.length*(q.length*(3*(k+l)+3652)):=Nat.mul_le_mul_right _ h;have b3:=y j ω;have N:k+l+3638+j*(q.length*(3*(k+l)+3652))+q.length*(3*(k+l)+3652)<=1000000000:=(by rw[Nat.add_assoc,<-G];exact Nat.le_trans (Nat.add_le_add_left E _) hB);obtain⟨z,R,d1,d2,T,rfl,V,U,D,y4,S⟩:=Bao X hf hk hZ (hp t g) hq (hG t g) I (Nat.le_add_right _ _) N g3 (Nat.le_trans g4 b3) g1 g2;rw[Ao ω,Ak,Br rfl hx,Ad,R,Ad];left;refine⟨(((j+1:Nat):Int),d1,d2,Fb T,T),?_,⟨j+1,d1,d2,T,rfl,ω,V,U,⟨D.dst,λw hw=>(D.tb w hw).mono ω,D.mo⟩,ω,λχ v h1 i h2=>?_⟩,ζ⟩
    .dsimp only;rw[C5 h ω]
    .rw[S χ v (h1 t g) i h2,g5 χ v h1 i h2,Db hx,Yc];show _=(_+(rq t.C*((Gm (t.M.F.map χ)*Gw v t.M.A:Nat):Rat)+0))*_;unfold mX;grind
   .right;have:j=p.length:=ω;subst this;refine⟨_,by rw[As ω,Am],⟨f,c,b,rfl,g3,g4,λχ v h1 i h2=>by rw[g5 χ v h1 i h2,Dq]⟩⟩)
  (0,B,A,[],[]) ⟨0,B,A,[],rfl,ω,M,L,Col.nil _ _,ψ,λχ v h1 i h2=>by rw[take_zero];simp only[Du];grind⟩;refine⟨f,c,b,e1,e2,?_,e4⟩;exact Nat.le_trans e3 (y p.length (Nat.le_refl _))
def Ye (x:Bs) (p q:List Aj):Prop:=∃t∈p,∃u∈q,6<Hz x t.M+Hz x u.M
theorem Baq (M:CSz x) (hf:Ih x) {Z:Nat} (hk:k+l<=1000000) (hZ:Z<=33333) (hp:Ir x p) (hq:Ir x q) (i:∀t∈p,TmZ x k Z W t) (g:∀u∈q,TmZ x l Z W u) (U:p.length<=1000) (N:q.length<=1000) (S:p.length*q.length<=4000) (hB:k+l+3638+p.length*(q.length*(3*(k+l)+3652))<=1000000000) :
  (Ye x p q/\Jn x p q=some ([],13))\/(¬Ye x p q/\∃R,Jn x p q=some (lim R)/\CP R/\(∀t∈R,Nr x (6*Z) W t.M/\RB (k+l+3639+p.length*(q.length*(3*(k+l)+3652))) t.C)/\∀χ v,My x χ p->My x χ q->Ko v->Du χ v R=Du χ v p*Du χ v q):=by
 have f:=hf.ctx M
 obtain⟨b',hb,j⟩:=A7g M (ps:=[p,q]) (λr E=>by
  simp only[E8,not_mem_nil,or_false]at E
  rcases E with rfl|rfl
  .exact hp.sz
  .exact hq.sz) ψ ⟨hf,λr E=>by
  simp only[E8,not_mem_nil,or_false]at E
  rcases E with rfl|rfl
  .exact hp.can
  .exact hq.can⟩
 have fin:∀c:List (ByteArray×Int),D0 x.D x.V x.E c->(∀t∈p,∀u∈q,Hz x t.M+Hz x u.M<=6)->∃R,((An (Ahp x p q) (0,c,[],[],[])).bind λz=>
 match z with
 | .inl (A,y)=>(
 some (A,y)
 )
 | .inr (a7,a6,D,B)=>(
 (Ly D B).bind λb=>
 some (b.1,b.2)
 ))=some (lim R)/\CP R/\(∀t∈R,Nr x (6*Z) W t.M/\RB (k+l+3639+p.length*(q.length*(3*(k+l)+3652))) t.C)/\∀χ v,My x χ p->My x χ q->Ko v->Du χ v R=Du χ v p*Du χ v q:=by
  intro c hc L
  obtain⟨d1,d2,T,z1,y1,y2,y3⟩:=Bap M hf hk hZ i g L U N S hB hc (PMg.nil _ _ _)
  rw[z1,Ad]
  obtain⟨R,r1,r2,r3,r4⟩:=Awo (P:=Nr x (6*Z) W) (λm h=>h.1.1.cmo) (Fb T) T y1 ω y2
  exact⟨R,by dsimp only;rw[r1];rfl,r2,λt ht=>⟨(r4 t ht).1,(r4 t ht).2.mono ω⟩,λχ v h1 V h2=>by rw[<-y3 χ v h1 V h2];exact Aho r3⟩
 unfold Jn
 rw[hb]
 simp only[Ad,Eg,Am,O1]
 by_cases J:p.length=0
 .rw[As ω]
  simp only[Am,Ad]
  have:p = []:=Fu.1 J
  exact .inr ⟨λ⟨t,ht,_⟩=>(by rw[this]at ht;cases ht),fin b' j λt ht=>by rw[this]at ht;cases ht⟩
 .rw[Ao ω]
  simp only[Ak]
  by_cases I:q.length=0
  .rw[As ω]
   simp only[Am,Ad]
   have:q = []:=Fu.1 I
   exact .inr ⟨λ⟨_,_,u,hu,_⟩=>(by rw[this]at hu;cases hu),fin b' j λt ht u hu=>by rw[this]at hu;cases hu⟩
  .rw[Ao ω]
   simp only[Ak]
   obtain⟨G,c,g1,g2,g3,g4,g5,g6⟩:=Awh [] f j p ω λt ht=>(i t ht).mo.1
   obtain⟨G',c',a1,Y,aa,a8,s,X⟩:=Awh [] f g2 q ω λt ht=>(g t ht).mo.1
   have wG:Aa (G+G')=G+G':=by rw[Aa,B6] <;> omega
   rw[g1]
   simp only[Ad]
   rw[a1]
   simp only[Ad,wG]
   by_cases L:G+G' > 6
   .rw[Ao L]
    have hex:∀{r:List Aj} {G:Int},r.length≠0->(∀t∈r,Gf x t.M)->(∀t∈r,Hz x t.M<=G)->(G=0\/∃t∈r,Hz x t.M=G)->∃t∈r,Hz x t.M=G:=λ{r G} h0 hc h1 h2=>by
     rcases h2 with rfl|h2
     .cases r with
      | nil=>exact (h0 rfl).elim
      | cons t r=>
       have k1:=h1 t ψ
       have k2:=A93 (hc t ψ)
       exact⟨t,ψ,ω⟩
     .exact h2
    obtain⟨t,ht,e1⟩:=hex J (λt ht=>(i t ht).mo.1) g5 g6
    obtain⟨u,hu,e2⟩:=hex I (λt ht=>(g t ht).mo.1) s X
    exact .inl ⟨⟨t,ht,u,hu,ω⟩,rfl⟩
   .rw[As L]
    simp only[Am]
    refine .inr ⟨λ⟨t,ht,u,hu,h⟩=>?_,fin c' Y λt ht u hu=>?_⟩
    .have h1:=g5 t ht
     have h2:=s u hu
     omega
    .have h1:=g5 t ht
     have h2:=s u hu
     omega
theorem Amv {α β:Type} (f:α->β->Rat) (D:List (Rat×β)):∀L:List (Rat×α),lc (λp=>lc (λx=>f p x) D) L=lc (λx=>lc (λp=>f p x) L) D
 | []=>(X8 D).symm
 | q::L=>by have e:lc (λx=>lc (λp=>f p x) (q::L)) D=q.1*lc (λx=>f q.2 x) D+lc (λx=>lc (λp=>f p x) L) D:=(by clear Amv;induction D with| nil=>simp only[lc];grind| cons d D ih=>simp only[lc]at ih ⊢;grind);rw[e,<-Amv f D L];rfl
def pk {C:Type} (g:C->Nat):List C->Nat
 | []=>1
 | c::K=>g c*pk g K
theorem Amw {C:Type} {g h:C->Nat}:∀{K:List C},(∀c∈K,g c=h c)->pk g K=pk h K
 | [],_=>rfl
 | c::K,e=>by simp only[pk];rw[e c ψ,Amw λd hd=>e d (by simp[hd])]
theorem Awr {C:Type}:∀K:List C,pk (λ_=>1) K=1
 | []=>rfl
 | c::K=>by simp only[pk,Awr K]
theorem Aws {C:Type} {g h:C->Nat} {c:C}:∀{K:List C},K.Nodup->c∈K->g c=1->(∀d,d≠c->h d=g d)->pk h K=h c*pk g K
 | [],_,hc,_,_=>by cases hc
 | d::K,b,hc,h1,h2=>by
  have b:=List.nodup_cons.1 b;by_cases e:d=c
  .subst e;simp only[pk];rw[h1,Nat.one_mul,Amw λx hx=>h2 x λe=>b.1 (e ▸ hx)]
  .have hc:c∈K:=by
    rcases E8.1 hc with rfl|hc
    .exact (e rfl).elim
    .exact hc
   simp only[pk];rw[h2 d e,Aws b.2 hc h1 h2,Nat.mul_left_comm]
theorem Awt {C:Type}:∀l:List C,∃K:List C,K.Nodup/\∀c∈l,c∈K
 | []=>⟨[],List.nodup_nil,λ_ h=>by cases h⟩
 | c::l=>by
  obtain⟨K,h1,h2⟩:=Awt l;by_cases h:c∈K
  .refine⟨K,h1,λd hd=>?_⟩;rcases E8.1 hd with rfl|hd
   .exact h
   .exact h2 d hd
  .refine⟨c::K,List.nodup_cons.2 ⟨h,h1⟩,λd hd=>?_⟩;rcases E8.1 hd with rfl|hd
   .simp
   .simp[h2 d hd]
def Mc {C E P:Type} (val:C->P->E->Nat) (c:C) (p:P):Option E->Nat
 | none=>1
 | some e=>val c p e
open Classical in
theorem Bar {X C E P:Type} {val:C->P->E->Nat} {look:C->X->Option E} {T:C->Option E} {D:List (Rat×X)} (z:P):∀(K:List C) (w:X->Rat),K.Nodup -> (∀c∈K,∃L:List (Rat×P),∀x∈D,lc (λp=>(Mc val c p (look c x.2):Rat)) L=ind (look c x.2=T c)) -> (∀A:C->P,lc (λx=>w x*(pk (λc=>Mc val c (A c) (look c x)) K:Rat)) D=0)->lc (λx=>w x*ind (∀c∈K,look c x=T c)) D=0:=by
 intro K;induction K with
 | nil=>intro w _ _ h;rw[<-h λ_=>z];refine Ka λq _=>?_;rw[Is λc hc=>by cases hc];rfl
 | cons c K ih=>
  intro w hn hd h;have hn:=List.nodup_cons.1 hn;obtain⟨L,hL⟩:=hd c ψ;have key:=ih (λx=>w x*ind (look c x=T c)) hn.2 (λd hd'=>hd d (by simp[hd'])) λA=>by
   have e1:lc (λp=>lc (λx=>w x*((Mc val c p (look c x)*pk (λc=>Mc val c (A c) (look c x)) K:Nat):Rat)) D) L=0:=by
    rw[Ka (g:=λ_=>0) λp _=>?_,X8];have h1:=h λd=>if d=c then p.2 else A d
    rw[<-h1];refine Ka λx _=>?_;simp only[pk,Aw];have e3:pk (λd=>Mc val d (if d=c then p.2 else A d) (look d x.2)) K=pk (λd=>Mc val d (A d) (look d x.2)) K:=Amw λd hd'=>by have:¬d=c:=(by rintro rfl;exact hn.1 hd');rw[Au this]
    rw[e3]
   rw[Amv]at e1;rw[<-e1];refine Ka λx hx=>?_;rw[Ka (g:=λp=>(w x.2*(pk (λc=>Mc val c (A c) (look c x.2)) K:Rat))*(Mc val c p (look c x.2):Rat)) λp _=>by rw[Rat.natCast_mul];grind,Amm,hL x hx];grind
  rw[<-key];refine Ka λx _=>?_;have:ind (look c x.2=T c)*ind (∀d∈K,look d x.2=T d)=ind (∀d∈c::K,look d x.2=T d):=Ahf ψ;rw[<-this];grind
noncomputable def look {C E:Type} (c:C):List (C×E)->Option E
 | []=>none
 | q::l=>open Classical in if q.1=c then some q.2 else look c l
theorem Yf {C E:Type} {c:C} {e:E}:∀{l:List (C×E)},look c l=some e->(c,e)∈l
 | [],h=>by cases h
 | q::l,h=>by
  rw[look]at h;split at h
  .rename_i h1;cases h;cases h1;simp
  .exact mem_cons_of_mem _ (Yf h)
theorem Yg {C E:Type} {c:C}:∀{l:List (C×E)},(∀q∈l,q.1≠c)->look c l=none
 | [],_=>rfl
 | q::l,h=>by rw[look,Au (h q ψ)];exact Yg λr b=>h r (by simp[b])
def prq {C E P:Type} (val:C->P->E->Nat) (A:C->P):List (C×E)->Nat
 | []=>1
 | q::l=>val q.1 (A q.1) q.2*prq val A l
theorem Awu {C E P:Type} {val:C->P->E->Nat} {A:C->P} {K:List C} (i:K.Nodup):∀{l:List (C×E)},(∀q∈l,q.1∈K)->(l.Pairwise λa b=>a.1≠b.1)->prq val A l=pk (λc=>Mc val c (A c) (look c l)) K
 | [],_,_=>(Awr K).symm
 | q::l,h,hp=>by have hp:=pairwise_cons.1 hp;rw[Aws (g:=λc=>Mc val c (A c) (look c l)) i (h q ψ) (by rw[Yg λr f e=>hp.1 r f e.symm];rfl) λd hd=>by rw[look,Au λe=>hd e.symm],prq,Awu i (λr f=>h r (by simp[f])) hp.2];rw[look,Aw rfl];rfl
theorem Awv {R:C->C->Prop} (k:∀a b,R a b->¬R b a):∀{l m:List (C×E)},(l.Pairwise λa b=>R a.1 b.1)->(m.Pairwise λa b=>R a.1 b.1)->(∀c,look c l=look c m)->l=m:=by
 have irr:∀a b,R a b->a≠b:=λa b h e=>by subst e;exact k a a h h
 intro l;induction l with
 | nil=>intro m _ _ h;cases m with| nil=>rfl| cons r m=>have:=h r.1;rw[look,look,Aw rfl]at this;cases this
 | cons q l ih=>
  intro m y x h;cases m with
  | nil=>have:=h q.1;rw[look,look,Aw rfl]at this;cases this
  | cons r m=>
   have i:=pairwise_cons.1 y;have g:=pairwise_cons.1 x;have h1:=h q.1;rw[look,Aw rfl]at h1;have h2:=h r.1;have u:look r.1 (r::m)=some r.2:=(by rw[look,Aw rfl]);rw[u]at h2;have e:q=r:=by
    rcases E8.1 (Yf h1.symm) with e|e
    .exact e
    .rcases E8.1 (Yf h2) with f|f
     .exact f.symm
     .exact (k _ _ (g.1 _ e) (i.1 _ f)).elim
   subst e;congr 1;refine ih i.2 g.2 λc=>?_;by_cases hc:q.1=c
   .subst hc;rw[Yg λs j e=>irr _ _ (i.1 s j) e.symm,Yg λs j e=>irr _ _ (g.1 s j) e.symm]
   .have:=h c;rwa [look,look,Au hc,Au hc]at this
theorem Aww {X P:Type} {val:C->P->E->Nat} {Ok:C->E->Prop} {z:P} (B:∀c e,Ok c e->val c z e=0) (I:∀c i,Ok c i->∃L:List (Rat×P),∀e,Ok c e->lc (λp=>(val c p e:Rat)) L=ind (e=i)) {ent:X->List (C×E)} {x0:X} {D:List (Rat×X)} (w:X->Rat) (h0:∀q∈ent x0,Ok q.1 q.2) (s:∀x∈D,(∀q∈ent x.2,Ok q.1 q.2)/\(ent x.2).Pairwise λa b=>a.1≠b.1) (h:∀A:C->P,lc (λx=>w x*(prq val A (ent x):Rat)) D=0):lc (λx=>w x*ind (∀c,look c (ent x)=look c (ent x0))) D=0:=by
 obtain⟨K,y,u⟩:=Awt ((ent x0).map (·.1)++D.flatMap λx=>(ent x.2).map (·.1));have l:∀q∈ent x0,q.1∈K:=λq hq=>u _ (Ef.2 (.inl (mem_map.2 ⟨q,hq,rfl⟩)));have g:∀x∈D,∀q∈ent x.2,q.1∈K:=λx hx q hq=>u _ (Ef.2 (.inr (mem_flatMap.2 ⟨x,hx,mem_map.2 ⟨q,hq,rfl⟩⟩)));have key:=Bar (val:=val) (look:=λc x=>look c (ent x)) (T:=λc=>look c (ent x0)) (D:=D) z K w y (λc _=>by
  cases ht:look c (ent x0) with
  | none=>
   refine⟨[(1,z)],λx hx=>?_⟩;cases f:look c (ent x.2) with
   | none=>rw[Is rfl];simp only[lc,Mc];show (1:Rat)*((1:Nat):Rat)+0=1;rw[show ((1:Nat):Rat)=1 from rfl];grind
   | some e=>rw[Ij ψ];simp only[lc,Mc];rw[B c e ((s x hx).1 _ (Yf f))];show (1:Rat)*((0:Nat):Rat)+0=0;rw[show ((0:Nat):Rat)=0 from rfl];grind
  | some i=>
   obtain⟨L,G⟩:=I c i (h0 _ (Yf ht));refine⟨L++[(- lc (λ_=>1) L,z)],λx hx=>?_⟩;rw[Ahd];cases f:look c (ent x.2) with
   | none=>rw[Ij ψ];simp only[lc,Mc];show lc (λ_=>((1:Nat):Rat)) L+(- lc (λ_=>1) L*((1:Nat):Rat)+0)=0;rw[show ((1:Nat):Rat)=1 from rfl];grind
   | some e=>
    have ok:=(s x hx).1 _ (Yf f);simp only[lc,Mc];rw[G e ok,B c e ok,show ((0:Nat):Rat)=0 from rfl];by_cases he:e=i
    .rw[Is he,Is (by rw[he])];grind
    .rw[Ij he,Ij λk=>he (Ew k)];grind) λA=>by rw[<-h A];exact Ka λx hx=>by rw[Awu y (g x hx) (s x hx).2]
 rw[<-key];refine Ka λx hx=>?_;congr 1;by_cases hc:∀c,look c (ent x.2)=look c (ent x0)
 .rw[Is hc,Is λc _=>hc c]
 .rw[Ij hc,Ij λk=>hc λc=>?_];by_cases j:c∈K
  .exact k c j
  .rw[Yg (c:=c) λq hq e=>j (e ▸ g x hx q hq),Yg (c:=c) λq hq e=>j (e ▸ l q hq)]
def Ot (m:Bd):List (Int×Ai):=m.F.map λf=>(f.v,f.I)
def Vj (m:Bd):List (Bz×Nat):=m.A.map λa=>(a.L,a.P.toNat)
def gF (x:Bs) (v:Int) (p:Gv) (i:Ai):Nat:=match Em x.V x.E v with|some t=>gv x.D i t p|none=>1
def gX (x:Bs) (A:Int->Gv) (f:Bf):Nat:=gF x f.v (A f.v) f.I
def cV (B:Bz->Nat) (l:Bz):Nat:=if l.T.length=0 then l.Q.toNat else B l
theorem Bas (B:Bz->Nat):Ko (cV B):=λl h=>by unfold cV;rw[Aw h]
theorem Bat (x:Bs) (A:Int->Gv) (P:List Bf):Pp x.D x.V x.E (gX x A) P:=λg _ t ht=>by
 have e:∀i,gX x A ⟨g.v,i⟩=gv x.D i t (A g.v):=λi=>by unfold gX gF;rw[ht]
 have hf:(λi=>gX x A ⟨g.v,i⟩)=λi=>gv x.D i t (A g.v):=funext e;exact⟨by rw[hf];exact A87 x.D t _,λi h0 _ _=>by rw[e];exact A89 x.D i t _ (Bo i) (Nat.le_refl _) h0⟩
theorem Bau (x:Bs) (A:Int->Gv) (m:Bd):Gm (m.F.map (gX x A))=prq (gF x) A (Ot m):=by unfold Ot;generalize m.F=F;induction F with| nil=>rfl| cons f F ih=>simp only[map_cons,Gm,prq,ih];rfl
theorem Bav {B:Bz->Nat} (h:∀a∈m.A,a.L.T.length≠0):Gw (cV B) m.A=prq (λ_ n d=>bc n d) B (Vj m):=by unfold Vj;revert h;generalize m.A=L;intro h;induction L with| nil=>rfl| cons a L ih=>simp only[map_cons,Gw,prq,ih λb hb=>h b (by simp[hb])];unfold cV;rw[Au (h a ψ)]
theorem Amx (χ:Bf->Nat) (v:Bz->Nat):∀p:List Aj,Du χ v p=lc (λm=>(mX χ v m:Rat)) (p.map λt=>(rq t.C,t.M))
 | []=>rfl
 | t::p=>by rw[Du,Amx χ v p];rfl
theorem Amy (m:Bd):∀p:List Aj,cf p m=lc (λn=>ind (n=m)) (p.map λt=>(rq t.C,t.M))
 | []=>rfl
 | t::p=>by
  rw[Qz,Amy m p,map_cons,lc];by_cases h:t.M=m
  .rw[Aw h,Is h];grind
  .rw[Au h,Ij h];grind
theorem Baw {D:List (Rat×Bd)} (u:∀q∈D,Gf x q.2) (h:∀χ v,(∀P,Pp x.D x.V x.E χ P)->Ko v->lc (λm=>(mX χ v m:Rat)) D=0) (g:Gf x m):lc (λn=>ind (n=m)) D=0:=by
 have okF:∀{m:Bd},Gf x m->∀q∈Ot m,∃t d,Em x.V x.E q.1=some t/\C3 x.D q.2 t=some d/\1<=d:=λ{m} g q hq=>by obtain⟨f,hf,rfl⟩:=mem_map.1 hq;obtain⟨t,d,h1,h2,h3,_⟩:=Ahi (g.f.fac f hf);exact⟨t,d,h1,h2,h3⟩
 have y:∀{m:Bd},Gf x m->∀q∈Vj m,1<=q.2:=λ{m} g q hq=>by obtain⟨a,ha,rfl⟩:=mem_map.1 hq;have:=(g.f.atm a ha).1;show 1<=a.P.toNat;omega
 have j:∀{m:Bd},Gf x m->(Ot m).Pairwise λa b=>a.1<b.1:=λ{m} g=>pairwise_map.2 g.f.asc;have s:∀{m:Bd},Gf x m->(Vj m).Pairwise λa b=>G3 a.1 b.1<0:=λ{m} g=>pairwise_map.2 g.f.srt;have asym:∀a b:Bz,G3 a b<0->¬G3 b a<0:=λa b h=>by rw[Lv.anti a b trivial trivial];omega
 have S:∀B:Bz->Nat,lc (λn=>(Gw (cV B) n.A:Rat)*ind (∀c,look c (Ot n)=look c (Ot m))) D=0:=λB=>by
  refine Aww (val:=gF x) (Ok:=λv i=>∃t d,Em x.V x.E v=some t/\C3 x.D i t=some d/\1<=d) (z:=noV) ?_ ?_ (ent:=Ot) (x0:=m) (λn=>(Gw (cV B) n.A:Rat)) (okF g) (λq hq=>⟨okF (u q hq),(j (u q hq)).imp λ{a b} h=>ω⟩) λA=>?_
  .rintro c e ⟨t,d,h1,h2,h3⟩;unfold gF;rw[h1];show gv x.D e t noV=0;rw[(A88 x.D (Bo e)).1 e t d (Nat.le_refl _) h2,Au ω]
  .rintro c G ⟨t,d,h1,h2,h3⟩;obtain⟨L,J⟩:=A9d x.D (Bo G) t G d (Nat.le_refl _) h2;refine⟨L,?_⟩;rintro e ⟨t',d',E,M,X⟩;rw[h1]at E;cases E;rw[<-J e d' M];refine Ka λp _=>?_;unfold gF;rw[h1]
  .have:=h (gX x A) (cV B) (Bat x A) (Bas B);rw[<-this];refine Ka λq _=>?_;unfold mX;rw[Bau,Rat.natCast_mul];grind
 have N:lc (λn=>ind (∀c,look c (Ot n)=look c (Ot m))*ind (∀c,look c (Vj n)=look c (Vj m))) D=0:=by
  refine Aww (val:=λ(_:Bz) n d=>bc n d) (Ok:=λ_ d=>1<=d) (z:=0) ?_ ?_ (ent:=Vj) (x0:=m) (λn=>ind (∀c,look c (Ot n)=look c (Ot m))) (y g) (λq hq=>⟨y (u q hq),(s (u q hq)).imp λ{a b} h e=>by rw[e,(Lv.zero b.1 b.1 trivial trivial).2 rfl]at h;omega⟩) λB=>?_
  .intro c e he;cases e with| zero=>omega| succ e=>rfl
  .intro c G _;obtain⟨L,J⟩:=Amn G;exact⟨L,λe _=>J e⟩
  .rw[<-S B];refine Ka λq hq=>?_;rw[Bav λa ha=>((u q hq).f.atm a ha).2.2.1];grind
 rw[<-N];refine Ka λq hq=>?_;have hq':=u q hq;refine (Ahf ?_).symm;constructor
 .intro e;rw[e];exact⟨λ_=>rfl,λ_=>rfl⟩
 .rintro⟨Z,Y⟩;have f1:=Awv (R:=λa b:Int=>a<b) (λa b h=>ω) (j hq') (j g) Z;have f2:=Awv (R:=λa b:Bz=>G3 a b<0) asym (s hq') (s g) Y;have g1:q.2.F=m.F:=List.map_inj_right (f:=λf:Bf=>(f.v,f.I)) (λa b h=>by cases a;cases b;simp only[Prod.mk.injEq]at h;rw[h.1,h.2]) |>.1 f1
  have g2:q.2.A=m.A:=by
   have key:∀l k:List Bi,(∀a∈l,1<=a.P)->(∀a∈k,1<=a.P)->l.map (λa=>(a.L,a.P.toNat))=k.map (λa=>(a.L,a.P.toNat))->l=k:=by
    intro l;induction l with
    | nil=>intro k _ _ h;cases k with
     | nil=>rfl
     | cons b k=>cases h
    | cons a l ih=>intro k h1 h2 h;cases k with
     | nil=>cases h
     | cons b k=>
      simp only[map_cons,List.cons.injEq,Prod.mk.injEq]at h
      have V:=h1 a ψ
      have U:=h2 b ψ
      rw[ih k (λc hc=>h1 c (by simp[hc])) (λc hc=>h2 c (by simp[hc])) h.2]
      congr 1
      cases a;cases b
      simp only at h V U ⊢
      rw[h.1.1]
      congr 1
      omega
   exact key _ _ (λa ha=>(hq'.f.atm a ha).1) (λa ha=>(g.f.atm a ha).1) f2
  cases I:q.2 with| mk F A=>rw[I]at g1 g2;simp only at g1 g2;rw[g1,g2]
theorem Amz {α:Type} (f:α->Rat):∀l:List (Rat×α),lc f (l.map λp=>(- p.1,p.2)) = - lc f l
 | []=>by simp only[map_nil,lc];grind
 | p::l=>by simp only[map_cons,lc,Amz f l];grind
theorem Ahq (hp:CP p) (hq:CP q) (mp:∀t∈p,Gf x t.M) (b:∀t∈q,Gf x t.M) (h:∀χ v,(∀P,Pp x.D x.V x.E χ P)->Ko v->Du χ v p=Du χ v q):p=q:=by
 refine hp.ext hq λm=>?_
 by_cases c:Gf x m
 .have key:=Baw (x:=x) (D:=p.map (λt=>(rq t.C,t.M))++(q.map λt=>(rq t.C,t.M)).map λe=>(- e.1,e.2)) (λe he=>by
   rcases Ef.1 he with he|he
   .obtain⟨t,ht,rfl⟩:=mem_map.1 he
    exact mp t ht
   .obtain⟨d,hd,rfl⟩:=mem_map.1 he
    obtain⟨t,ht,rfl⟩:=mem_map.1 hd
    exact b t ht) (λχ v h1 h2=>by
   rw[Ahd,Amz,<-Amx,<-Amx,h χ v h1 h2];grind) c
  rw[Ahd,Amz,<-Amy,<-Amy]at key
  grind
 .have:∀{r:List Aj},(∀t∈r,Gf x t.M)->cf r m=0:=λ{r} f=>Agd λt ht e=>c (Nk.1 e ▸ f t ht)
  rw[this mp,this b]
theorem Bax:∀(k:Nat) (i:Ai) (a:Int),Bo i<=k->k<1099511627776->-1099511627776<=a->a<=1099511627776->∃r,Ty k i a=some r/\(r.1=true->r.2=a-Bo i/\0<=r.2)/\r.2<=a/\-1<=r.2+1099511627776:=by
 intro k;induction k with
 | zero=>intro i a h;have:=Eb i;omega
 | succ k ih=>
  intro i a h hk h1 h2;have E:=Eb i;have G:=L9 i.K;have w:Aa (a-1)=a-1:=ξ;rw[Ty,w];by_cases h0:a-1<0
  .rw[Ao h0];exact⟨_,rfl,nofun,by show a-1<=a;omega,by show -1<=a-1+1099511627776;omega⟩
  .rw[As h0,Am];have D:∀j,B7 (i.K.take j)<=B7 i.K:=λj=>by have:=U2 (i.K.take j) (i.K.drop j);rw[take_append_drop]at this;omega
   refine Ey (λs=>∃j:Nat,s.1=j/\j<=i.K.length/\s.2=a-1-B7 (i.K.take j)/\0<=s.2) (λs=>i.K.length-s.1.toNat) (λz=>(∃c,z = .inl (false,c)/\c<=a/\-1<=c+1099511627776)\/(∃c,z = .inr c/\c=a-1-B7 i.K/\0<=c)) ⟨0,rfl,ω,by simp[B7],by show 0<=a-1;omega⟩ ?_ ?_
   .rintro⟨_,b⟩ ⟨j,rfl,hj,hb,f⟩;dsimp only at hb f;rcases Cf j i.K.length with h'|h'
    .have hx:i.K[j]? = some i.K[j]:=B4 h';generalize i.K[j]=x at hx;have J:=Jt (Bq hx);obtain⟨⟨y,z⟩,B,A,u,q⟩:=ih x b ω ω ω ω;have I:B7 (i.K.take (j+1))=B7 (i.K.take j)+Bo x:=(by rw[Db hx,U2];simp[B7]);simp only[Ao (ω:(j:Int)<(i.K.length:Int)),Ak,Br rfl hx,Ad,B,C5 h' ω];cases y with| false=>exact .inr ⟨_,rfl,.inl ⟨z,rfl,by dsimp only at u;omega,q⟩⟩| true=>obtain⟨l,g⟩:=A rfl;exact .inl ⟨_,rfl,⟨j+1,rfl,ω,by dsimp only at l ⊢;rw[I];omega,g⟩,by simp only[Int.toNat_natCast];omega⟩
    .have:j=i.K.length:=ω;subst this;rw[Dq]at hb;exact .inr ⟨.inr b,ψ,.inr ⟨b,rfl,hb,f⟩⟩
   .rintro z (⟨c,rfl,c1,c2⟩|⟨c,rfl,c1,c2⟩)
    .exact⟨_,rfl,nofun,c1,c2⟩
    .exact⟨_,rfl,λ_=>⟨by dsimp only;omega,c2⟩,by dsimp only;omega,by dsimp only;omega⟩
theorem Bay (i:Ai) (h:Bo i<=1048576):∃b,Zk i=some b/\(b=true->Bo i<=40):=by unfold Zk;obtain⟨r,h1,h2,_⟩:=Bax 4000000 i 40 ω ω ω ω;exact⟨r.1,by rw[h1];rfl,λc=>by have:=h2 c;omega⟩
theorem Baz (m:Bd) (i:MSz m):∃b,Y8 m=some b/\(b=true->∀f∈m.F,Bo f.I<=40):=by
 unfold Y8;by_cases h1:(m.F.length:Int)>8
 .rw[Ao h1];exact⟨false,rfl,λh=>by cases h⟩
 .rw[As h1];by_cases h2:(m.A.length:Int)>8
  .rw[Ao h2];exact⟨false,rfl,λh=>by cases h⟩
  .rw[As h2];simp only[Am,Ad];refine Ey (λv=>∃j:Nat,v=j/\j<=m.F.length/\∀f∈m.F.take j,Bo f.I<=40) (λv=>m.F.length-v.toNat) (λz=>z = .inl false\/(z = .inr ()/\∀f∈m.F,Bo f.I<=40)) ⟨0,rfl,ω,ψ⟩ ?_ ?_
   .rintro v ⟨j,rfl,hj,c⟩;rcases Cf j m.F.length with h'|h'
    .have hx:m.F[j]? = some m.F[j]:=B4 h';generalize m.F[j]=x at hx;obtain⟨b,hb,g⟩:=Bay x.I (i.fi x (Bq hx));simp only[Ao (ω:(j:Int)<(m.F.length:Int)),Ak,Br rfl hx,Ad,hb,C5 h' ω];cases b with
     | false=>exact .inr ⟨_,rfl,.inl rfl⟩
     | true=>
      refine .inl ⟨_,rfl,⟨j+1,rfl,ω,λf hf=>?_⟩,by simp only[Int.toNat_natCast];omega⟩;rw[Db hx]at hf;rcases Ef.1 hf with hf|hf
      .exact c f hf
      .rw[E3]at hf;subst hf;exact g rfl
    .have:j=m.F.length:=ω;subst this;rw[Dq]at c;exact .inr ⟨.inr (),ψ,.inr ⟨rfl,c⟩⟩
   .rintro z (rfl|⟨rfl,c⟩)
    .exact⟨false,rfl,λh=>by cases h⟩
    .dsimp only;refine Ey (λv=>∃j:Nat,v=j/\j<=m.A.length) (λv=>m.A.length-v.toNat) (λ_=>True) ⟨0,rfl,ω⟩ ?_ ?_
     .rintro v ⟨j,rfl,hj⟩;rcases Cf j m.A.length with h'|h'
      .have hx:m.A[j]? = some m.A[j]:=B4 h';generalize m.A[j]=x at hx;simp only[Ao (ω:(j:Int)<(m.A.length:Int)),Ak,Br rfl hx,Ad,Adv,C5 h' ω];cases decide ((x.L.T.length:Int)<=70) with| true=>exact .inl ⟨_,rfl,⟨j+1,rfl,ω⟩,by simp only[Int.toNat_natCast];omega⟩| false=>exact .inr ⟨_,rfl,trivial⟩
      .have:j=m.A.length:=ω;subst this;exact .inr ⟨.inr (),ψ,trivial⟩
     .rintro (z|z) _
      .exact⟨_,rfl,λ_=>c⟩
      .exact⟨_,rfl,λ_=>c⟩
def Sz (t:Aj):Prop:=t.C.U.length<=8/\t.C.B.length<=8/\∀f∈t.M.F,Bo f.I<=40
theorem Ba0 (a:A7):∃b,Y9 a=some b/\(b=true->a.U.length<=8/\a.B.length<=8):=by
 unfold Y9;by_cases h:(a.U.length:Int)<=8
 .rw[Ao h];exact⟨_,rfl,λh2=>by rw[D8]at h2;omega⟩
 .rw[As h];exact⟨_,rfl,λh2=>by cases h2⟩
theorem Ba1 (p:List Aj) (s:p.length<=1048576) (hp:∀t∈p,TSz t):∃b,Y3 p 10=some b/\(b=true->p.length<=10/\∀t∈p,Sz t):=by
 unfold Y3;refine Ey (λv=>∃j:Nat,v=j/\j<=p.length/\j<=11/\∀t∈p.take j,Sz t) (λv=>p.length-v.toNat) (λz=>z = .inl false\/(z = .inr ()/\(p.length<=10->∀t∈p,Sz t))) ⟨0,rfl,ω,ω,ψ⟩ ?_ ?_
 .rintro v ⟨j,rfl,hj,i,f⟩;rcases Cf j p.length with h'|h'
  .by_cases q:j<=10
   .have hx:p[j]? = some p[j]:=B4 h';generalize p[j]=x at hx;obtain⟨b,hb,l⟩:=Baz x.M (hp x (Bq hx)).mo;simp only[Ao (ω:(j:Int)<(p.length:Int)),Ao (ω:(j:Int)<=10),Ak,Br rfl hx,Ad,hb,C5 h' ω];cases b with
    | false=>exact .inr ⟨_,rfl,.inl rfl⟩
    | true=>
     simp only[Eg,Am];obtain⟨c,hc,g⟩:=Ba0 x.C;rw[hc,Ad];cases c with
     | false=>exact .inr ⟨_,rfl,.inl rfl⟩
     | true=>
      refine .inl ⟨_,rfl,⟨j+1,rfl,ω,ω,λt ht=>?_⟩,by simp only[Int.toNat_natCast];omega⟩;rw[Db hx]at ht;rcases Ef.1 ht with ht|ht
      .exact f t ht
      .rw[E3]at ht;subst ht;exact⟨(g rfl).1,(g rfl).2,l rfl⟩
   .refine .inr ⟨.inr (),?_,.inr ⟨rfl,λh=>ω⟩⟩;simp only[Ao (ω:(j:Int)<(p.length:Int)),As (ω:¬(j:Int)<=10),Ak,Am,Ad]
  .have:j=p.length:=ω;subst this;rw[Dq]at f;exact .inr ⟨.inr (),ψ,.inr ⟨rfl,λ_=>f⟩⟩
 .rintro z (rfl|⟨rfl,k⟩)
  .exact⟨false,rfl,λh=>by cases h⟩
  .refine⟨decide ((p.length:Int)<=10),rfl,λh=>?_⟩;rw[D8]at h;exact⟨ω,k ω⟩
theorem Ba2 (x:Bs) (k:CSz x) (ps:List (List Aj)) (s:ps.length<=1048576) (hp:∀p∈ps,p.length<=1048576/\∀t∈p,TSz t) : ∃b,Y1 x ps=some b/\(b=true->∀p∈ps,p.length<=10/\∀t∈p,Sz t):=by
 unfold Y1;refine Ey (λv=>∃j:Nat,v=j/\j<=ps.length/\∀p∈ps.take j,p.length<=10/\∀t∈p,Sz t) (λv=>ps.length-v.toNat) (λz=>z = .inl false\/(z = .inr ()/\∀p∈ps,p.length<=10/\∀t∈p,Sz t)) ⟨0,rfl,ω,ψ⟩ ?_ ?_
 .rintro v ⟨j,rfl,hj,c⟩;rcases Cf j ps.length with h'|h'
  .have hx:ps[j]? = some ps[j]:=B4 h';generalize ps[j]=p at hx;obtain⟨i,g⟩:=hp p (Bq hx);obtain⟨b,hb,l⟩:=Ba1 p i g;simp only[Ao (ω:(j:Int)<(ps.length:Int)),Ak,Br rfl hx,Ad,hb,C5 h' ω];cases b with
   | false=>exact .inr ⟨_,rfl,.inl rfl⟩
   | true=>
    refine .inl ⟨_,rfl,⟨j+1,rfl,ω,λq hq=>?_⟩,by simp only[Int.toNat_natCast];omega⟩;rw[Db hx]at hq;rcases Ef.1 hq with hq|hq
    .exact c q hq
    .rw[E3]at hq;subst hq;exact l rfl
  .have:j=ps.length:=ω;subst this;rw[Dq]at c;exact .inr ⟨.inr (),ψ,.inr ⟨rfl,c⟩⟩
 .rintro z (rfl|⟨rfl,f⟩)
  .exact⟨false,rfl,λh=>by cases h⟩
  .obtain⟨b,hb⟩:=A7b x k;exact⟨b,by dsimp only;rw[hb];rfl,λ_=>f⟩
structure GP (x:Bs) (n k Z:Nat) (p:List Aj):Prop where
 cp:CP p
 mo:∀t∈p,Gf x t.M
 sz:∀t∈p,∀f∈t.M.F,Bo f.I<=Z
 rb:∀t∈p,RB k t.C
 len:p.length<=n
theorem GP.nil (x:Bs) (n k Z:Nat):GP x n k Z []:=⟨CP.nil,λ_ h=>(by cases h),λ_ h=>(by cases h),λ_ h=>(by cases h),Nat.zero_le _⟩
theorem GP.can {Z:Nat} (h:GP x n k Z p) (b:n<=1000) (hk:k<=1048576):Ir x p:=Ir.of h.cp h.mo (λt ht=>(h.rb t ht).mono hk) (by have:=h.len;omega)
theorem GP.tm {Z:Nat} (h:GP x n k Z p):∀t∈p,TmZ x k Z (λ_=>True) t:=λt ht=>⟨λ_ _=>trivial,⟨h.mo t ht,h.sz t ht⟩,h.rb t ht,(h.cp.coe t ht).2⟩
theorem GP.same {Z:Nat} (h:GP x n k Z p) (b:n<=1048576) (hk:k<=34359738000):Lx p p=some true:=Ava p (by have:=h.len;omega) λt ht=>⟨(h.mo t ht).2,(h.rb t ht).mono hk⟩
abbrev MA (x:Bs) (χ:Bf->Nat):Prop:=∀P,Pp x.D x.V x.E χ P
theorem Ach (i:CSz x) (hf:Ih x) {m Z:Nat} (hp:GP x n k Z p) (hq:GP x m l Z q) (y:n<=1000) (z:m<=1000) (u:n*m<=4000) (hk:k+l<=1000000) (A:Z<=33333) (B:k+l+3638+n*(m*(3*(k+l)+3652))<=1000000000) : (Ye x p q/\Jn x p q=some ([],13))\/(¬Ye x p q/\∃R,Jn x p q=some (lim R)/\GP x R.length (k+l+3639+n*(m*(3*(k+l)+3652))) (6*Z) R/\∀χ v,MA x χ->Ko v->Du χ v R=Du χ v p*Du χ v q):=by
 have h1:p.length*(q.length*(3*(k+l)+3652))<=n*(m*(3*(k+l)+3652)):=Nat.mul_le_mul hp.len (Nat.mul_le_mul_right _ hq.len);have h2:p.length*q.length<=n*m:=Nat.mul_le_mul hp.len hq.len;have s:=hp.len;have j:=hq.len;rcases Baq i hf (W:=λ_=>True) hk A (hp.can y ω) (hq.can z ω) hp.tm hq.tm ω ω ω ω with h|⟨h0,R,g,f,b,c⟩
 .exact .inl h
 .exact .inr ⟨h0,R,g,⟨f,λt ht=>(b t ht).1.1.1,λt ht=>(b t ht).1.1.2,λt ht=>(b t ht).2.mono ω,Nat.le_refl _⟩,λχ v h1 h2=>c χ v (λt _=>h1 _) (λt _=>h1 _) h2⟩
theorem Yh (i:CSz x) (hf:Ih x) {m Z:Nat} (hp:GP x n k Z p) (hq:GP x m l Z q) (j:n<=1000) (s:m<=1000) (f:n*m<=4000) (hk:k+l<=1000000) (y:Z<=33333) (z:k+l+3638+n*(m*(3*(k+l)+3652))<=1000000000) : ∃C e,Jn x p q=some (C,e)/\GP x 1000 (k+l+3639+n*(m*(3*(k+l)+3652))) (6*Z) C/\(e=0->∀χ v,MA x χ->Ko v->Du χ v C=Du χ v p*Du χ v q):=by
 rcases Ach i hf hp hq j s f hk y z with⟨_,h⟩|⟨_,R,c,b,g⟩
 .exact⟨[],13,h,GP.nil _ _ _ _,λh=>absurd h δ⟩
 .by_cases u:1000<R.length
  .rw[Amu u]at c;exact⟨[],9,c,GP.nil _ _ _ _,λh=>absurd h δ⟩
  .rw[Ahn ω]at c;exact⟨R,0,c,⟨b.cp,b.mo,b.sz,b.rb,ω⟩,λ_=>g⟩
theorem Ba3 (c:CSz x) (hf:Ih x) (hp:GP x 4 8 40 p) (hq:GP x 4 8 40 q):Jn x q p=Jn x p q:=by
 have i:Ye x p q↔Ye x q p:=⟨λ⟨t,ht,u,hu,h⟩=>⟨u,hu,t,ht,ω⟩,λ⟨t,ht,u,hu,h⟩=>⟨u,hu,t,ht,ω⟩⟩;rcases Ach c hf hp hq δ δ δ δ δ δ with⟨h1,h2⟩|⟨h1,R,s,g,l⟩
 .rcases Ach c hf hq hp δ δ δ δ δ δ with⟨_,y⟩|⟨b,_⟩
  .rw[h2,y]
  .exact (b (i.1 h1)).elim
 .rcases Ach c hf hq hp δ δ δ δ δ δ with⟨b,_⟩|⟨_,S,k,f,j⟩
  .exact (h1 (i.2 b)).elim
  .have:R=S:=Ahq g.cp f.cp g.mo f.mo λχ v h1 h2=>by rw[l χ v h1 h2,j χ v h1 h2];grind
   rw[s,k,this]
theorem Ba4 (x:Bs):Gf x ⟨[],[]⟩:=⟨by show (true&&true&&decide ((0:Int)+0<=6))=true;decide,⟨ψ,ψ,λ_ h=>(by cases h),λ_ h=>(by cases h),λ_ h=>(by cases h)⟩⟩
theorem Ba5 (x:Bs):GP x 1 8 40 [⟨cR 1,⟨[],[]⟩⟩]:=by
 have h:∀t∈[(⟨cR 1,⟨[],[]⟩⟩:Aj)],t=⟨cR 1,⟨[],[]⟩⟩:=λt ht=>by simpa using ht
 refine⟨⟨pairwise_singleton _ _,λt ht=>?_⟩,λt ht=>?_,λt ht f hf=>?_,λt ht=>?_,Nat.le_refl _⟩
 .rw[h t ht];exact⟨A70 1,by show rq (cR 1)≠0;rw[Aby];decide⟩
 .rw[h t ht];exact Ba4 x
 .rw[h t ht]at hf;cases hf
 .rw[h t ht];have e:RB 3 (cR 1):=(Abp (k:=1) (by rw[Sl];decide) δ).mono δ;exact e.mono δ
theorem Ba6 (i:CSz x) (hf:Ih x) (hp:GP x 4 8 40 p):Jn x p [⟨cR 1,⟨[],[]⟩⟩]=some (p,0):=by
 rcases Ach i hf hp (Ba5 x) δ δ δ δ δ δ with⟨⟨t,ht,u,hu,h⟩,_⟩|⟨_,R,g,b,c⟩
 .have hu:u=⟨cR 1,⟨[],[]⟩⟩:=(by simpa using hu);have:=(hp.mo t ht).f.deg;rw[hu]at h;have e:Hz x ⟨[],[]⟩=0:=rfl;have h:6<Hz x t.M+Hz x ⟨[],[]⟩:=h;omega
 .have e:R=p:=Ahq b.cp hp.cp b.mo hp.mo λχ v h1 h2=>by rw[c χ v h1 h2];show _*(rq (cR 1)*((1*1:Nat):Rat)+0)=_;rw[Aby,show ((1*1:Nat):Rat)=1 from rfl];first|grind | (rw[show ((1:Nat):Rat)=1 from rfl];grind)
  rw[g,e,Ahn (by have:=hp.len;omega)]
theorem Ba7 (D:CSz x) (hf:Ih x) {Z:Nat} (hp:GP x 1000 k Z p) (hq:GP x 1000 k Z q) (hk:k<=1000000) : ∃C e,N6 x p q=some (C,e)/\GP x 1000 (2000*(k+3)+k+1) Z C/\(e=0->∀a,cf C a=cf p a+cf q a):=by
 obtain⟨G,hb⟩:=Auu D hf (hp.can δ ω) (hq.can δ ω);have f:=hp.len;have c:=hq.len;have b1:p.length*(k+3)<=1000*(k+3):=Nat.mul_le_mul_right _ f;have b2:q.length*(k+3)<=1000*(k+3):=Nat.mul_le_mul_right _ c;unfold N6;rw[hb];simp only[Ad,Eg,Am,O1];have g:∀{p:List Aj},GP x 1000 k Z p->∀t∈p,RB k t.C/\Yd x Z t.M:=λ{p} h t ht=>⟨h.rb t ht,h.mo t ht,h.sz t ht⟩;obtain⟨u,y,s,l,j⟩:=Agp (k0:=k) (k:=k) (P:=Yd x Z) (λm h=>h.1.cmo) p [] (Col.nil _ _) (g hp) (Nat.le_refl _) ω ζ;simp at l;obtain⟨v,i,v2,v3,v4⟩:=Agp (k:=k) (P:=Yd x Z) (λm h=>h.1.cmo) q u s (g hq) ω ω ω;obtain⟨R,B,A,z,b⟩:=Awo (P:=Yd x Z) (λm h=>h.1.cmo) (Fb v) v v2 ω ω;rw[show Lg p [] []=some (Fb u,u) from y,Ad,i,Ad,B,Ad];by_cases E:1000<R.length
 .rw[Amu E];exact⟨[],9,rfl,GP.nil _ _ _ _,λh=>absurd h δ⟩
 .rw[Ahn ω];exact⟨R,0,rfl,⟨A,λt ht=>(b t ht).1.1,λt ht=>(b t ht).1.2,λt ht=>(b t ht).2.mono ω,ω⟩,λ_ a=>by rw[z,v4,j];simp only[cf];grind⟩
theorem Ba8:(V7 1).bind Y2=some [⟨cR 1,⟨[],[]⟩⟩]:=κ
theorem Ba9 (h:TSz t) (b:Sz t):RB 8 t.C:=⟨h.co.num,h.co.den,b.1,b.2.1⟩
theorem GP.of (c:Ih x/\Kz x.D x.V x.E p=true) (hp:∀t∈p,TSz t) (b:∀t∈p,Sz t) (f:p.length<=4):GP x 4 8 40 p:=by have hc:Ir x p:=⟨c.2,hp⟩;exact⟨hc.cp,hc.mo,λt ht=>(b t ht).2.2,λt ht=>Ba9 (hp t ht) (b t ht),f⟩
theorem Awx (B:CSz x) (hf:Ih x) (hp:GP x 4 8 40 p) (hq:GP x 4 8 40 q):∃R,N6 x p q=some (R,0)/\GP x 8 19 40 R/\∀a,cf R a=cf p a+cf q a:=by
 obtain⟨R,A,c,j⟩:=A97 B hf (n:=4) (m:=4) (k:=8) (l:=8) (p:=p) (q:=q) ⟨hp.cp,hp.mo,hp.rb,hp.len⟩ ⟨hq.cp,hq.mo,hq.rb,hq.len⟩ δ δ δ δ δ;refine⟨R,A,⟨c.cp,c.mo,λt ht f hf=>?_,c.rb,c.len⟩,j⟩;have i:cf R t.M≠0:=by rw[Age c.cp ht];exact (c.cp.coe t ht).2
 rw[j]at i;have b:∀{p:List Aj},GP x 4 8 40 p->cf p t.M≠0->Bo f.I<=40:=λ{p} g h=>by
  by_cases s:∃u∈p,u.M=t.M
  .obtain⟨u,z,y⟩:=s;exact g.sz u z f (by rw[y];exact hf)
  .exact (h (Agd λu hu e=>s ⟨u,hu,Nk.1 e⟩)).elim
 by_cases h0:cf p t.M=0
 .exact b hq λh3=>i (by rw[h0,h3];grind)
 .exact b hp h0
theorem Bba {r:List Aj} {Y:OB} (b1 b2 f:Bool) (h1:Mh x p=some b1) (h2:Mh x q=some b2) (h3:Mh x r=some f) (i:b1=true->b2=true->f=true->p.length<=4->q.length<=4->r.length<=4->Y=some true) : ((Mh x p).bind λv3=> bif (!v3) then (some true) else ((Mh x q).bind λv4=> bif (!v4) then (some true) else ((Mh x r).bind λv5=> bif (!v5) then (some true) else (bif (p.length:Int)>(4:Int) then (some true) else (bif (q.length:Int)>(4:Int) then (some true) else (some (decide ((r.length:Int)>(4:Int))))))))).bind (λh=>bif h then some true else Y)=some true:=by
 rw[h1,h2,h3];cases b1 with
 | false=>rfl
 | true=>
  cases b2 with
  | false=>rfl
  | true=>
   cases f with
   | false=>rfl
   | true=>
    simp only[Ad,Eg,Am];by_cases b:(p.length:Int)>4
    .rw[Ao b];rfl
    .by_cases c:(q.length:Int)>4
     .rw[As b,Ao c];rfl
     .by_cases g:(r.length:Int)>4
      .rw[As b,As c,Ao g];rfl
      .rw[As b,As c,As g];exact i rfl rfl rfl ω ω ω
theorem Bbb (x:Bs) (p q r:List Aj) (i:CSz x) (pl:p.length<=1048576) (hp:∀t∈p,TSz t) (ql:q.length<=1048576) (hq:∀t∈q,TSz t) (rl:r.length<=1048576) (M:∀t∈r,TSz t):Ads x p q r=some true:=by
 unfold Ads;obtain⟨b,b1,b2⟩:=Ba2 x i [p,q,r] ψ (λs Z=>by
  simp only[E8,not_mem_nil,or_false]at Z;rcases Z with rfl|rfl|rfl
  .exact⟨pl,hp⟩
  .exact⟨ql,hq⟩
  .exact⟨rl,M⟩);obtain⟨v1,w1,c1⟩:=Alg x i p hp;obtain⟨v2,w2,c2⟩:=Alg x i q hq;obtain⟨v3,w3,c3⟩:=Alg x i r M;rw[b1,Ad];cases b with
 | false=>rfl
 | true=>
  have b2:=b2 rfl;simp only[Eg,Am];refine Bba v1 v2 v3 w1 w2 w3 λe1 e2 e3 l1 l2 l3=>?_;have hf:Ih x:=(c1.1 e1).1;have P:=GP.of (c1.1 e1) hp (b2 p ψ).2 l1;have Q:=GP.of (c2.1 e2) hq (b2 q ψ).2 l2;have R:=GP.of (c3.1 e3) M (b2 r ψ).2 l3;obtain⟨a,a1,a2,a3⟩:=Awx i hf P Q;obtain⟨a',V,U,S⟩:=Awx i hf Q P;have ha:a'=a:=U.cp.ext a2.cp λm=>by rw[a3,S];grind
  subst ha;obtain⟨c,e,m1,m2,m3⟩:=Yh i hf P Q δ δ δ δ δ δ;obtain⟨t,B,t1,t2,t3⟩:=Yh i hf Q R δ δ δ δ δ δ;obtain⟨y,ey,y1,y2,y3⟩:=Yh i hf P R δ δ δ δ δ δ;obtain⟨w,ew,I,A,G⟩:=Yh i hf a2 ⟨R.cp,R.mo,R.sz,R.rb,R.len⟩ δ δ δ δ δ δ;have R':GP x 4 8 (6*40) r:=⟨R.cp,R.mo,λt ht f hf=>by have:=R.sz t ht f hf;omega,R.rb,R.len⟩;have P':GP x 4 8 (6*40) p:=⟨P.cp,P.mo,λt ht f hf=>by have:=P.sz t ht f hf;omega,P.rb,P.len⟩;obtain⟨s,es,s1,Y,s3⟩:=Yh i hf m2 R' δ δ δ δ δ δ;obtain⟨v,ev,u1,L,u3⟩:=Yh i hf P' t2 δ δ δ δ δ δ;obtain⟨z,ez,z1,z2,z3⟩:=Ba7 i hf y2 t2 δ;have j:∀{X:Type} {J:List Aj->Option X},((V7 1).bind λv7=>(Y2 v7).bind J)=J [⟨cR 1,⟨[],[]⟩⟩]:=λ{X J}=>by rw[<-Option.bind_assoc,Ba8];rfl
  rw[j,a1,Ad,V,Ad,Ba3 i hf P Q,m1,Ad,Ba6 i hf P];simp only[Ad,bne_self_eq_false,Am,a2.same δ δ,m2.same δ δ,P.same δ δ,Eg,s1,t1,u1,I,y1,z1];have E:e=0->es=0->B=0->ev=0->Lx s v=some true:=λh1 h2 h3 N=>by
   have:s=v:=Ahq Y.cp L.cp Y.mo L.mo λχ g l k=>by rw[s3 h2 χ g l k,u3 N χ g l k,m3 h1 χ g l k,t3 h3 χ g l k];grind
   rw[this];exact L.same δ δ
  have D:ew=0->ey=0->B=0->ez=0->Lx w z=some true:=λh1 h2 h3 N=>by
   have:w=z:=Ahq A.cp z2.cp A.mo z2.mo λχ g l k=>by have f1:Du χ g a'=Du χ g p+Du χ g q:=(by rw[<-Yc];exact Aho λm=>by rw[Qy,a3]);have f2:Du χ g z=Du χ g y+Du χ g t:=(by rw[<-Yc];exact Aho λm=>by rw[Qy,z3 N]);rw[G h1 χ g l k,f1,f2,y3 h2 χ g l k,t3 h3 χ g l k];grind
   rw[this];exact z2.same δ δ
  have u:∀n:Int,n=0\/(n==0)=false:=λn=>by
   by_cases h:n=0
   .exact .inl h
   .exact .inr (Cy h)
  have first:((bif (e==(0:Int)) then (bif (es==(0:Int)) then (bif (B==(0:Int)) then (bif (ev==(0:Int)) then ((Lx s v).bind λv26=> some (!v26)) else (some false)) else (some false)) else (some false)) else (some false)):OB)=some false:=by
   rcases u e with rfl|h
   .rcases u es with rfl|h
    .rcases u B with rfl|h
     .rcases u ev with rfl|h
      .rw[E rfl rfl rfl rfl];rfl
      .rw[h];rfl
     .rw[h];rfl
    .rw[h];rfl
   .rw[h];rfl
  erw[first];simp only[Ad,Am,beq_self_eq_true,Ak,A67];rcases u ew with rfl|h
  .rcases u ey with rfl|h
   .rcases u B with rfl|h
    .rcases u ez with rfl|h
     .rw[D rfl rfl rfl rfl];rfl
     .rw[h];rfl
    .rw[h];rfl
   .rw[h];rfl
  .rw[h];rfl
end Go.Ab
