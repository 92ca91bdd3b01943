/- Plain laws. -/
import Derived.Test.YtbpbaimlddncnaaGreatDoorPcPl4
import Derived.Test.YtbpbaimlddncnaaGreatDoorPcPl3
open List
namespace Go.Ab
open Go
variable {res:Ag} {t:B0} {a:Bc} {χ:Bg->Nat} {m:Br} {P:Br->Prop} {v:Bz->Nat} {x:Cu} {g:List (ByteArray×Int)} {vars:List Ag} {R p ts:List Aj} {data:List Am} {l r:List B0} {A:List Bc} {F:List Bg} {B:List Ent} {K L b j k k0 n:Nat} {α β:Type}
theorem Ajt (a b:B0):M3 a b=some (Ff a.v b.v):=by unfold M3;rw[N6];rfl
theorem Ob {a b:Int}:Ff a b<0↔a<b:=by unfold Ff;split <;> (try split) <;> omega
theorem Asq:Mx (λa b:B0=>Ff a.v b.v) := ⟨λx h=>by have:=Ob.1 h;omega,λx y z d e=>by have:=Ob.1 d;have:=Ob.1 e;exact Ob.2 ω,λx y z d e h=>by have:=Ob.1 h;have:=mt Ob.2 d;have:=mt Ob.2 e;omega⟩
theorem A49 (c:List B0) (g:c.length<=12):∃R,Rw c=some R/\R.Perm c/\R.Pairwise (λa b=>a.v<=b.v):=by
 obtain⟨R,i,d,o⟩:=Ai2 (cmp:=M3) Asq c (λx _ y _=>Ajt x y) ω;obtain⟨v,f⟩:=Aiz (n:=c.length) ω;refine⟨R,?_,d,o.imp λ{a b} h=>?_⟩
 .unfold Rw;rw[Nat.ble_eq_true_of_le g,Al];unfold Agy;rw[f,Ad];have hp:Xq 0 (c.length:Int) v c=some R:=(by unfold Xq;have e:Abh 0 (c.length:Int) c=Vs M3 0 (c.length:Int) c:=rfl;have w:Ac ((c.length:Int)-0)=(c.length:Int):=ξ;refine bnd (a:=R) (Fm ?_) rfl;rw[w,Aq ω,Al,e,i,Ad,J7 d.length_eq.symm];rfl);rw[hp,Ad,J7 d.length_eq.symm];rfl
 .have:=mt Ob.2 h;omega
def cl:List B0->Int->Int
 | [],_=>0
 | t::l,v=>(if t.v=v then t.C else 0)+cl l v
theorem Aee (l m:List B0) (v:Int):cl (l++m) v=cl l v+cl m v:=by induction l with| nil=>simp[cl]| cons t l ih=>simp only[Eh,cl,ih];omega
theorem A5a {m:List B0} (h:l.Perm m) (v:Int):cl l v=cl m v:=by induction h with| nil=>rfl| cons t _ ih=>simp only[cl,ih]| swap a b l=>simp only[cl];omega| trans _ _ d e=>exact d.trans e
theorem Tk {v:Int} (h:∀t∈l,t.v≠v):cl l v=0:=by induction l with| nil=>rfl| cons t l ih=>simp only[cl];rw[Ay (h t ψ),ih λu d=>h u (by simp[d])];rfl
structure Oc (L:List B0):Prop where
 srt:L.Pairwise λa b=>a.v<b.v
 nz:∀t∈L,t.C≠0
theorem Oc.ext:∀{L M:List B0},Oc L->Oc M->(∀v,cl L v=cl M v)->L=M:=by
 intro L;induction L with
 | nil=>intro M _ b h;cases M with| nil=>rfl| cons t M=>have:=h t.v;simp only[cl,if_true]at this;rw[Tk λu d=>by have:=(pairwise_cons.1 b.srt).1 u d;omega]at this;exact (b.nz t ψ ω).elim
 | cons s L ih=>
  intro M c b h;have hs:cl (s::L) s.v=s.C:=(by simp only[cl,if_true];rw[Tk λu d=>by have:=(pairwise_cons.1 c.srt).1 u d;omega];omega);cases M with
  | nil=>have:=h s.v;rw[hs]at this;exact (c.nz s ψ (by simpa[cl] using this)).elim
  | cons t M=>
   have i:cl (t::M) t.v=t.C:=(by simp only[cl,if_true];rw[Tk λu d=>by have:=(pairwise_cons.1 b.srt).1 u d;omega];omega);have f:s.v=t.v:=by
    rcases Int.lt_trichotomy s.v t.v with k|k|k
    .have h1:=h s.v;rw[hs,Tk (l:=t::M) λu d=>by
      rcases Fp.1 d with rfl|d
      .omega
      .have:=(pairwise_cons.1 b.srt).1 u d;omega]at h1
     exact (c.nz s ψ h1).elim
    .exact k
    .have h1:=h t.v;rw[i,Tk (l:=s::L) λu d=>by
      rcases Fp.1 d with rfl|d
      .omega
      .have:=(pairwise_cons.1 c.srt).1 u d;omega]at h1
     exact (b.nz t ψ h1.symm).elim
   have hc:s.C=t.C:=(by rw[<-hs,<-i,h,f]);have e:s=t:=(by cases s;cases t;simp only at f hc;rw[f,hc]);subst e;rw[ih (M:=M) ⟨(pairwise_cons.1 c.srt).2,λu d=>c.nz u (by simp[d])⟩ ⟨(pairwise_cons.1 b.srt).2,λu d=>b.nz u (by simp[d])⟩ λv=>by have:=h v;simp only[cl]at this;omega]
noncomputable def Aef (r:List B0) (f:Int):Int×Int->Option ((Int×Int)⊕(Int×Int)):=λ(d,e)=> (show OB from bif d<(r.length:Int) then ((Ah r d).bind λh=> some (h.v==f)) else (some false)).bind λc=>
 bif c then ((Ah r d).bind λb=> some (.inl ((Ac (d+1)),(Ac (e+b.C))))) else (some (.inr (d,e)))
def LBd (l:List B0):Prop:=∀t∈l,-1099511627776<=t.C/\t.C<=1099511627776
theorem A5b (h:LBd l) (v:Int) : -(l.length*1099511627776:Int)<=cl l v/\cl l v<=(l.length*1099511627776:Int):=by induction l with| nil=>simp[cl]| cons t l ih=>have e:=h t ψ;have i:=ih λu d=>h u (by simp[d]);simp only[cl,D9];split <;> omega
theorem A5c (J:r[k]? = some t) (G:r.length<=1000) (hb:LBd r) :
  ∃n:Nat,An (Aef r t.v) ((k:Int),0)=some ((n:Int),cl ((r.take n).drop k) t.v)/\k<n/\n<=r.length/\(∀u∈(r.take n).drop k,u.v=t.v)/\∀u,r[n]? = some u->u.v≠t.v:=by
 have x:=Ez J
 obtain⟨e,E,n,D,B⟩:=I9 (step:=Aef r t.v) (λs=>∃n:Nat,s=((n:Int),cl ((r.take n).drop k) t.v)/\k<=n/\n<=r.length/\∀u∈(r.take n).drop k,u.v=t.v) (λs=>r.length-s.1.toNat)
  (λe=>∃n:Nat,e=((n:Int),cl ((r.take n).drop k) t.v)/\k<n/\n<=r.length/\(∀u∈(r.take n).drop k,u.v=t.v)/\∀u,r[n]? = some u->u.v≠t.v) (by
  rintro _ ⟨j,rfl,y,g,c⟩
  unfold Aef
  rcases Cb j r.length with h|h
  .have w:r[j]? = some r[j]:=B3 h
   have i:=getElem_mem h
   generalize r[j]=b at w i
   have A:=hb b i
   have z:=A5b (l:=(r.take j).drop k) (λu H=>hb u (mem_of_mem_take (mem_of_mem_drop H))) t.v
   have q:((r.take j).drop k).length<=1000:=by simp;omega
   have N:Ac (cl ((r.take j).drop k) t.v+b.C)=cl ((r.take j).drop k) t.v+b.C:=by
    have I:(((r.take j).drop k).length:Int)*1099511627776<=1000*1099511627776:=Int.mul_le_mul_of_nonneg_right ω δ
    rw[Ac,B8] <;> omega
   have f:(r.take (j+1)).drop k=(r.take j).drop k++[b]:=by
    rw[Dd w,List.drop_append_of_le_length ζ]
   simp only[Aq (ω:(j:Int)<(r.length:Int)),Al,Bu rfl w,Ad,C3 h ω,N]
   by_cases C:b.v=t.v
   .left
    rw[Gb C]
    refine⟨_,rfl,⟨j+1,?_,ω,ω,λd o=>?_⟩,ζ⟩
    .rw[f,Aee]
     simp[cl,C]
    .rw[f]at o
     rcases D7.1 o with o|o
     .exact c d o
     .simp only[D0]at o
      rw[o];exact C
   .right
    rw[Dc C]
    refine⟨_,rfl,j,rfl,?_,g,c,λd o=>by rw[w]at o;cases o;exact C⟩
    rcases Cb k j with M|M
    .exact M
    .have:j=k:=ω
     subst this
     rw[J]at w;cases w
     exact (C rfl).elim
  .right
   refine⟨_,by simp only[Aw (ω:¬(j:Int)<(r.length:Int)),Ao,Ad],j,rfl,ω,g,c,λd o=>?_⟩
   have:=Ez o
   omega) ((k:Int),0) ⟨k,by simp[cl],ω,ω,λu H=>by simp at H⟩
 exact⟨n,by rw[<-D];exact E,B⟩
noncomputable def Aeg (r:List B0):Int×List B0->Option ((Int×List B0)⊕List B0):=λ(d,b)=> bif d<((r.length:Nat):Int) then ((Ah r d).bind λe=> (An (Aef r e.v) (d,0)).bind λ(h,i)=> bif (i != (0:Int)) then ((B4 16 b [(B0.mk e.v i)]).bind λc=> some (.inl (h,c))) else (some (.inl (h,b)))) else (some (.inr b))
theorem A5d (U:r.Pairwise λa b=>a.v<=b.v) (J:r.length<=1000) (hb:LBd r):∃L,An (Aeg r) (0,[])=some L/\Oc L/\(∀v,cl L v=cl r v)/\L.length<=r.length:=by
 obtain⟨L,R,N⟩:=I9 (step:=Aeg r) (λs=>∃(k:Nat) (L:List B0),s=((k:Int),L)/\k<=r.length/\Oc L/\L.length<=k/\(∀v,cl L v=cl (r.take k) v)/\∀t∈L,∀u∈r.drop k,t.v<u.v) (λs=>r.length-s.1.toNat)
  (λL=>Oc L/\(∀v,cl L v=cl r v)/\L.length<=r.length) (by
  rintro _ ⟨k,L,rfl,W,y,M,g,S⟩
  unfold Aeg
  rcases Cb k r.length with h|h
  .left
   have C:r[k]? = some r[k]:=B3 h
   generalize r[k]=t at C
   obtain⟨n,I,G,D,V,E⟩:=A5c C J hb
   have c:r.take n=r.take k++(r.take n).drop k:=by
    have h:=(take_append_drop k (r.take n)).symm
    rwa [take_take,Nat.min_eq_left ω]at h
   have x:∀v,v≠t.v->cl ((r.take n).drop k) v=0:=λv g=>Tk λu o e=>g (by rw[<-e,V u o])
   have j:∀u∈r.drop n,u∈r.drop k:=λu o=>by
    have:r.drop n=(r.drop k).drop (n-k):=by rw[drop_drop];congr 1;omega
    rw[this]at o
    exact mem_of_mem_drop o
   have A:t∈r.drop k:=by rw[J3 C];simp
   have f:∀u∈r.drop n,t.v<u.v:=by
    intro u o
    rcases Cb n r.length with T|T
    .have H:r[n]? = some r[n]:=B3 T
     generalize r[n]=w at H
     have X:=E w H
     have hp:=pairwise_append.1 (by rw[take_append_drop];exact U:(r.take n++r.drop n).Pairwise λa b=>a.v<=b.v)
     have B:t∈r.take n:=by
      rw[c]
      have:(r.take n).drop k=t::(r.take n).drop (k+1):=J3 (by rw[getElem?_take_of_lt G];exact C)
      rw[this];simp
     have z:w∈r.drop n:=by rw[J3 H];simp
     have a1:=hp.2.2 t B w z
     have i:=hp.2.1
     rw[J3 H]at i o
     rcases Fp.1 o with rfl|o
     .omega
     .have:=(pairwise_cons.1 i).1 u o;omega
    .rw[drop_eq_nil_of_le T]at o;cases o
   simp only[Aq (ω:(k:Int)<(r.length:Int)),Al,Bu rfl C,Ad,I]
   by_cases Q:cl ((r.take n).drop k) t.v=0
   .refine⟨((n:Int),L),?_,⟨n,L,rfl,D,y,ω,λv=>?_,λa d u o=>S a d u (j u o)⟩,ζ⟩
    .rw[Q];rfl
    .have q:cl (r.take n) v=cl (r.take k) v+cl ((r.take n).drop k) v:=(congrArg (λl=>cl l v) c).trans (Aee _ _ _)
     rw[q,g]
     by_cases e:v=t.v
     .rw[e,Q];omega
     .rw[x v e];omega
   .refine⟨((n:Int),L++[⟨t.v,cl ((r.take n).drop k) t.v⟩]),?_,⟨n,_,rfl,D,⟨?_,?_⟩,ζ,λv=>?_,λa d u o=>?_⟩,ζ⟩
    .rw[Gc Q,Al,Dn ζ];rfl
    .refine pairwise_append.2 ⟨y.srt,pairwise_singleton _ _,λa d b hb=>?_⟩
     simp only[D0]at hb
     subst hb
     exact S a d t A
    .intro a d
     rcases D7.1 d with d|d
     .exact y.nz a d
     .simp only[D0]at d
      subst d;exact Q
    .have q:cl (r.take n) v=cl (r.take k) v+cl ((r.take n).drop k) v:=(congrArg (λl=>cl l v) c).trans (Aee _ _ _)
     rw[q,Aee,g]
     simp only[cl]
     by_cases e:t.v=v
     .rw[A7 e,<-e];omega
     .rw[Ay e,x v λh=>e h.symm];omega
    .rcases D7.1 d with d|d
     .exact S a d u (j u o)
     .simp only[D0]at d
      subst d;exact f u o
  .right
   have:k=r.length:=ω
   subst this
   rw[Dq]at g
   exact⟨L,by simp only[Aw (ω:¬(r.length:Int)<(r.length:Int)),Ao],y,g,M⟩) (0,[]) ⟨0,[],rfl,ω,⟨Pairwise.nil,λ_ h=>by cases h⟩,ψ,λv=>by simp[cl],λ_ h=>by cases h⟩
 exact⟨L,R,N⟩
def Aju (c:Int) (L:List B0):Bz×Int:=if G4 ⟨c,L⟩=true then (⟨c,L⟩,0) else (⟨0,[]⟩,9)
def NoF (x:Cu) (D:Nat) (m:Br):Prop:=I4 x m/\m.F = []/\Dr m.A<=(D:Nat)
theorem NoF.mono {D D':Nat} (h:NoF x D m) (hd:D<=D'):NoF x D' m:=⟨h.1,h.2.1,by have:=h.2.2;omega⟩
theorem Gs.nil_of {c:List Grp} (h:Gs c A):A = []->c = []:=by cases h with| nil=>exact λ_=>rfl| cons b _ _ _ _=>exact λe=>absurd (append_eq_nil_iff.1 e).1 b
theorem IsE.one (h:IsE [a] B):B.length<=1:=by
 obtain⟨gs,G,x,I,q,rfl⟩:=h;have E:G = [a]:=perm_singleton.1 x;rw[E]at q;generalize c:[a]=X at q;cases q with
 | nil=>cases c
 | @cons l N f g rest gs s Q J z D=>
  have L:g.length+rest.length=1:=(by have:=congrArg length c;simpa using this.symm);have y:g.length=1:=(by have:=length_pos_iff.2 s;have:rest.length≠1\/g.length=0:=ω;omega);have b:rest = []:=Gm.1 ω;subst b;rw[append_nil]at c;subst c;have u:=D.nil_of rfl;subst u
  .show (H4 [([],1)] l f (N+1)).length<=1;have o:∀n,(∀i j,i<n->j<n->f i≠0->f j≠0->i=j)->(H4 [(([],1):Ent)] l f n).length<=1/\((H4 [(([],1):Ent)] l f n).length=1->∃i,i<n/\f i≠0):=by
    intro n;induction n with
    | zero=>intro _;simp[H4]
    | succ n ih=>
     intro h;obtain⟨H,C⟩:=ih λi j hi d=>h i j ω ω;rw[Art,Eu];by_cases h0:f n=0
     .rw[A7 h0];refine⟨by simpa using H,λe=>?_⟩;obtain⟨i,M,w⟩:=C (by simpa using e);exact⟨i,ω,w⟩
     .rw[Ay h0];have:(H4 [(([],1):Ent)] l f n).length≠1:=λe=>by obtain⟨i,M,w⟩:=C e;have:=h i n ω ω w h0;omega
      refine⟨by simp only[C4,length_singleton];omega,λ_=>⟨n,ω,h0⟩⟩
   refine (o (N+1) ?_).1;rcases z with⟨_,h2⟩|⟨_,h2,_⟩
   .have e:∀k,k<N+1->f k=if k=N then 1 else 0:=by refine A2y λn _=>?_;rw[h2.2.2 n];have A:N=a.P.toNat:=(by have:=h2.1;simpa[Dp] using this);rw[Za (k:=N) ω (λj d=>by simp[d])];simp[prb,A]
    intro i j hi d h1 h2;rw[e i hi]at h1;rw[e j d]at h2;split at h1
    .split at h2
     .omega
     .exact (h2 rfl).elim
    .exact (h1 rfl).elim
   .intro i j hi d _ _;omega
noncomputable def eB (A:List Bc):List Ent:=open Classical in if h:∃B,IsE A B then Classical.choose h else []
theorem IP.up {c:Nat} {f g:Br->Rat} (h:IP x n L f R) (j:n<=b) (k:L<=c) (e:∀m,f m=g m):IP x b c g R := ⟨h.cp,λm=>by rw[h.val,e],h.mo,Nat.le_trans h.len j,λt d=>by obtain⟨z,i,o⟩:=h.int t d;exact⟨z,i,ω⟩⟩
def cs (K:Nat):Nat->Nat
 | 0=>0
 | j+1=>cs K j+(1+min j (K-j))
theorem Oc.cl {L:List B0} (h:Oc L) (i:t∈L):Ab.cl L t.v=t.C:=by
 induction L with
 | nil=>cases i
 | cons s L ih=>
  simp only[Ab.cl];rcases Fp.1 i with rfl|d
  .rw[A7 rfl,Tk λu e=>by have:=(pairwise_cons.1 h.srt).1 u e;omega];omega
  .have:=(pairwise_cons.1 h.srt).1 t d;rw[Ay ω,ih ⟨(pairwise_cons.1 h.srt).2,λu e=>h.nz u (by simp[e])⟩ d];omega
theorem A5e (f:α->Int) (l:List α) (h:∀j x,l[j]? = some x->Me f l x j=true):l.Pairwise λa b=>f a<f b:=by
 have step:∀j x y,l[j]? = some x->l[j+1]? = some y->f x<f y:=by intro j x y q s;have:=h (j+1) y s;unfold Me at this;rw[Nat.add_sub_cancel,q]at this;simpa using this
 have c:∀d j x y,l[j]? = some x->l[j+d+1]? = some y->f x<f y:=by intro d;induction d with| zero=>exact λj x y o e=>step j x y o e| succ d ih=>intro j x y o e;have g:l[j+d+1]? = some (l[j+d+1]'(by have:=Ez e;omega)):=B3 _;have D:=ih j x _ o g;have E:=step _ _ _ g e;omega
 rw[pairwise_iff_getElem];intro i j u w k;obtain⟨d,C⟩:∃d,j=i+d+1:=⟨j-i-1,ω⟩;subst C;exact c d i _ _ (B3 u) (B3 w)
def A5f (x:Cu) (m:Br):Int:=Ch x.D x.V x.E m.F+Dr m.A
structure Ajv (x:Cu) (m:Br):Prop where
 fac:∀f∈m.F,1<=D8 x.D x.V x.E f
 asc:m.F.Pairwise λa b=>a.v<b.v
 atm:∀a∈m.A,1<=a.P/\G4 a.L=true/\a.L.T.length≠0/\I1 x.V x.E a.L=true
 srt:m.A.Pairwise λa b=>Hk a.L b.L<0
 deg:A5f x m<=6
theorem I4.f (h:I4 x m):Ajv x m:=by
 have hc:=h.1;unfold Jo at hc;rw[D3,D3,D4]at hc;obtain⟨⟨h1,h2⟩,h3⟩:=hc;have o:∀j f,m.F[j]? = some f->1<=D8 x.D x.V x.E f/\Me (·.v) m.F f j=true:=λj f e=>by have:=K1 h1 e;unfold Pc at this;rw[D3,D4]at this;exact this
 have q:∀j a,m.A[j]? = some a->(1<=a.P/\G4 a.L=true/\a.L.T.length≠0/\I1 x.V x.E a.L=true)/\Pb m.A a j=true:=λj a e=>by have:=K1 h2 e;unfold Pd at this;simp only[D3,D4,Bool.not_eq_true',beq_eq_false_iff_ne,ne_eq]at this;exact⟨⟨this.1.1.1.1,this.1.1.1.2,this.1.1.2,this.1.2⟩,this.2⟩
 refine⟨λf hf=>?_,A5e _ _ λj f e=>(o j f e).2,λa ha=>?_,?_,h3⟩
 .obtain⟨j,e⟩:=Ik hf;exact (o j f e).1
 .obtain⟨j,e⟩:=Ik ha;exact (q j a e).1
 .have step:∀j x y,m.A[j]? = some x->m.A[j+1]? = some y->Hk x.L y.L<0:=(by intro j x y hx hy;have:=(q (j+1) y hy).2;unfold Pb at this;rw[Nat.add_sub_cancel,hx]at this;simpa using this);have b:∀d j x y,m.A[j]? = some x->m.A[j+d+1]? = some y->Hk x.L y.L<0:=(by intro d;induction d with| zero=>exact λj x y h1 h2=>step j x y h1 h2| succ d ih=>intro j x y h1 h2;have c:m.A[j+d+1]? = some (m.A[j+d+1]'(by have:=Ez h2;omega)):=B3 _;exact Adq.trs _ _ _ (ih j x _ h1 c) (step _ _ _ c h2));rw[pairwise_iff_getElem];intro i j hi e g;obtain⟨d,hd⟩:∃d,j=i+d+1:=⟨j-i-1,ω⟩;subst hd;exact b d i _ _ (B3 hi) (B3 e)
theorem Ajv.fsum0 (h:Ajv x m):0<=Ch x.D x.V x.E m.F:=by
 have d:∀l:List Bg,(∀f∈l,1<=D8 x.D x.V x.E f)->0<=Ch x.D x.V x.E l:=λl=>by induction l with| nil=>intro _;simp[Ch]| cons f l ih=>intro b;have h1:=b f ψ;have h2:=ih λg e=>b g (by simp[e]);unfold Ch at *;simp only[map_cons,sum_cons];omega
 exact d _ h.fac
def Hc (v:Bz->Nat):List Bc->Nat
 | []=>1
 | a::l=>bc (v a.L) a.P.toNat*Hc v l
theorem Aeh (v:Bz->Nat) (l m:List Bc):Hc v (l++m)=Hc v l*Hc v m:=by induction l with| nil=>simp[Hc]| cons a l ih=>simp only[Eh,Hc,ih,Nat.mul_assoc]
theorem Asr (v:Bz->Nat) {l m:List Bc} (h:l.Perm m):Hc v l=Hc v m:=by induction h with| nil=>rfl| cons a _ ih=>simp only[Hc,ih]| swap a b l=>simp only[Hc];rw[<-Nat.mul_assoc,<-Nat.mul_assoc,Nat.mul_comm (bc (v b.L) _)]| trans _ _ d e=>exact d.trans e
theorem Ajw {v:Bz->Nat} {l:Bz}:∀{g:List Bc},(∀a∈g,a.L=l)->Hc v g=prb (v l) g
 | [],_=>rfl
 | a::g,h=>by simp only[Hc,prb];rw[h a ψ,Ajw λb d=>h b (by simp[d])]
def Ix (v:Bz->Nat):List Ent->Nat
 | []=>0
 | b::bs=>b.2*Hc v b.1+Ix v bs
theorem A5g (v:Bz->Nat) (B C:List Ent):Ix v (B++C)=Ix v B+Ix v C:=by induction B with| nil=>simp[Ix]| cons b B ih=>simp only[Eh,Ix,ih,Nat.add_assoc]
theorem A5h (v:Bz->Nat) (l:Bz) (k c:Nat) (B:List Ent):Ix v (B.map λb=>(b.1++atO l k,b.2*c))=Ix v B*(c*bc (v l) k):=by
 have d:Hc v (atO l k)=bc (v l) k:=by
  unfold atO;by_cases h:k=0
  .subst h;rw[A7 rfl,Jq];rfl
  .rw[Ay h];simp[Hc]
 induction B with| nil=>simp[Ix]| cons b B ih=>simp only[map_cons,Ix,ih,Aeh,d];rw[Nat.add_mul];congr 1;rw[Nat.mul_assoc,Nat.mul_assoc,<-Nat.mul_assoc c,Nat.mul_comm c,Nat.mul_assoc]
theorem Ass (v:Bz->Nat) (B:List Ent) (l:Bz) (f:Nat->Nat):∀n,Ix v (H4 B l f n)=Ix v B*sm n λk=>f k*bc (v l) k
 | 0=>by simp[H4,Ix,sm]
 | n+1=>by
  rw[Art,A5g,Ass v B l f n];show _=Ix v B*(sm n (λk=>f k*bc (v l) k)+f n*bc (v l) n);rw[Nat.mul_add];congr 1;by_cases h:f n=0
  .rw[A7 h,h];simp[Ix]
  .rw[Ay h,A5h]
def Aei (v:Bz->Nat):Prop:=∀l:Bz,l.T.length=0->v l=l.Q.toNat
theorem Gs.val (c:Aei v):∀{b:List Grp} {A:List Bc},Gs b A->∀B,Ix v (Mh B b)=Ix v B*Hc v A:=by
 intro b A h;induction h with
 | nil=>intro B;simp[Mh,Hc]
 | @cons l N f g rest b i d k j q ih=>
  intro B;show Ix v (Mh (H4 B l f (N+1)) b)=_;rw[ih,Ass,Aeh,Ajw d,<-Nat.mul_assoc];congr 2;rcases j with⟨_,_,_,h3⟩|⟨h1,h2,h3⟩
  .exact h3 (v l)
  .subst h2;rw[c l h1];simp[sm,Jq,h3]
theorem IsE.val (f:Aei v) (h:IsE A B):Ix v B=Hc v A:=by obtain⟨gs,i,c,g,b,rfl⟩:=h;rw[b.val f,<-Asr v c];simp[Ix,Hc]
def eW (c:Rat) (B:List Ent):List (Rat×Br):=B.map λb=>(c*(b.2:Rat),⟨[],b.1⟩)
theorem A5i (b:I4 x m) {L:List Bc} (h:Zs x.V x.E L) (o:Ch x.D x.V x.E m.F+Dr L<=6):I4 x ⟨m.F,L⟩:=by have q:=b.f.fsum0;obtain⟨d,i⟩:=A46 h ω;have e:=b.1;unfold Jo at e d;rw[D3,D3]at e d;refine⟨?_,⟨b.2.nf,i.na,b.2.fi,b.2.fr,i.al⟩⟩;unfold Jo;rw[D3,D3];exact⟨⟨e.1.1,d.1.2⟩,decide_eq_true o⟩
def ls (g:Int->Int):List B0->Int
 | []=>0
 | t::l=>t.C*g t.v+ls g l
structure PX (x:Cu) (n k:Nat) (R:List Aj):Prop where
 cp:CP R
 mo:∀t∈R,I4 x t.M
 rb:∀t∈R,RB k t.C
 len:R.length<=n
theorem PX.can (h:PX x n k R) (b:n<=1000) (hk:k<=1048576):Jp x R := Jp.of h.cp h.mo (λt d=>(h.rb t d).mono hk) (Nat.le_trans h.len b)
theorem PX.up {c:Nat} (h:PX x n k R) (f:n<=b) (hk:k<=c):PX x b c R:=⟨h.cp,h.mo,λt d=>(h.rb t d).mono hk,Nat.le_trans h.len f⟩
theorem A5j (o:CP p) (h:∀t∈p,RB k t.C) (q:3<=k) (m:Br):∃a,RB k a/\rq a=cf p m:=by
 by_cases b:∃t∈p,Ea t.M m=0
 .obtain⟨t,d,e⟩:=b;exact⟨t.C,h t d,by rw[<-Aii o d,N8.1 e]⟩
 .obtain⟨y,i,f,g,c⟩:=A3q 0 ω ω;exact⟨y,f.mono q,by rw[c,Ap9 λt d e=>b ⟨t,d,e⟩];rfl⟩
theorem A5k (h:CSz x) (o:Ia x) {r:A3} (hp:PX x n k p) (f:RB j r) (l:n<=1000) (q:3<=k) (s:k<=1048576) (u:j<=1048576) : ∃R,T7 x p r=some (R,0)/\PX x n (j+k+2) R/\∀a,cf R a=rq r*cf p a:=by have i:=hp.len;obtain⟨R,g,b⟩:=A29 h o (hp.can ω s) (f.mono u) ω;refine⟨R,g,⟨b.cp,λt d=>(b.tb t d).1,λt d=>?_,by have:=b.len;omega⟩,b.val⟩;obtain⟨a,w,y⟩:=A5j hp.cp hp.rb q t.M;obtain⟨c,G,C,D,E⟩:=Yy f w ω ω;have e:t.C=c:=Ac6 (b.cp.coe t d).1 D (by rw[<-Aii b.cp d,b.val,E,y]);rw[e];exact C
theorem A5l:Mx (λa b:Bg=>a.v-b.v):=⟨λ_ h=>ω,λ_ _ _ d e=>ω,λ_ _ _ d e i=>ω⟩
theorem A5m (c:∀f∈F,-1<=f.v/\f.v<=1000000000) (g:F.length<20):∃R,W5 F=some R/\R.Perm F/\R.Pairwise (λa b=>a.v<=b.v):=by obtain⟨R,i,d,o⟩:=Arq (cmp:=Ud) A5l F (λx q y s=>by have:=c x q;have:=c y s;unfold Ud;have w:Ac (x.v-y.v)=x.v-y.v:=ξ;rw[w]) g;refine⟨R,?_,d,o.imp λ{a b} h=>ω⟩;unfold W5;have e:Aa2 (F.length:Int) F=Adp Ud (F.length:Int) F:=rfl;rw[e,i,Ad,J7 d.length_eq.symm];rfl
theorem Ajx {l m:List Bg} (h:l.Perm m):Ch data vars res l=Ch data vars res m:=by induction h with| nil=>rfl| cons a _ ih=>simp only[Ch,map_cons,sum_cons]at ih ⊢;omega| swap a b l=>simp only[Ch,map_cons,sum_cons];omega| trans _ _ d e=>exact d.trans e
theorem Ast {l m:List Nat} (h:l.Perm m):l.sum=m.sum:=by induction h with| nil=>rfl| cons a _ ih=>simp only[sum_cons,ih]| swap a b l=>simp only[sum_cons];omega| trans _ _ d e=>exact d.trans e
theorem FGz.perm {l m:List Bg} (hp:l.Perm m) (h:FGz data vars res m):FGz data vars res l:=by refine⟨λf hf=>h.fac f (hp.mem_iff.1 hf),?_,by rw[Ajx hp];exact h.sum,by rw[hp.length_eq];exact h.len⟩;rw[Ast (hp.map λf=>Bt f.I)];exact h.siz
structure Tl (data:List Am) (vars:List Ag) (res:Ag) (c:Rat) (F:List Bg) (A:List Bc) (K:Nat) (out:List Aj):Prop where
 ex:∃Fs FE S gs,Fs.Perm F/\Po data vars res Fs FE/\S.Perm A/\Zg S/\Gs gs S/\E3 K out (Pm (FE.map (Jv c)) gs)
 len:∃n,n*n<=10 ^ ((Ch data vars res F).toNat+F.length)/\out.length<=n*2 ^ Dp A
theorem A5n (hz:DSz data) (hv:Hy data) (W:Lp data vars res) (U:∀v t,E6 vars res v=some t->Gg data t=true) {c:A3} (H:RB K c) (hK:K<20000000000) (h0:rq c≠0) (z:FGz data vars res F) (D:Atk A) (hs:Ch data vars res F+(Dp A:Nat)<=6) : (Q3 F/\∀e o,Dm data vars res e->PMg data vars res o->∃i h,Lf c ⟨F,A⟩ e o data vars res.G res.U res.R=some ([],9,i,h)/\Dm data vars res i/\PMg data vars res h) \/ ∃out,Tl data vars res (rq c) F A (K+202*F.length+2424) out/\∀e o,Dm data vars res e->PMg data vars res o->∃i h,Lf c ⟨F,A⟩ e o data vars res.G res.U res.R=some (out,0,i,h)/\Dm data vars res i/\PMg data vars res h:=by
 have a7:=z.len;have a1:0<=Ch data vars res F:=Pn λf w=>(z.fac f w).2.2;have a6:=z.sum;have hT:∀b∈A,b.L.T.length<1099511627776:=λb Q=>by have:=(Adu (D.lin b Q)).1;omega
 have Y:=D.len;have X:=D.sum;obtain⟨S,s1,q,Z⟩:=A3l A hT ω;have j:Atk S:=⟨λa T=>D.deg a (q.mem_iff.1 T),λa T=>D.lin a (q.mem_iff.1 T),by rw[Aja q];exact X,by rw[q.length_eq];exact Y⟩;obtain⟨G,f1,f2,f3⟩:=A5m (F:=F) (λf w=>by obtain⟨t,d,C,_⟩:=Ajq (z.fac f w).2.2;have:=Ao7 vars res f.v;rw[C]at this;have:=of_decide_eq_true this.symm;have:=W.nv;omega) ω;have y:=z.perm f2;have x:S9 (rq c)≠0:=by
  unfold S9;split
  .decide
  .split
   .decide
   .rename_i C h2;exact (h0 (by grind)).elim
 have V:W6 A=some ([],A):=by unfold W6 L0;rw[Dn ζ];rfl
 have k:W4 F=some ([],F):=by unfold W4 L0;rw[Dn ζ];rfl
 have g:=f2.length_eq;rcases A43 hz hv W U (c:=rq c) G.length G [] [⟨c,⟨[],[]⟩⟩] [([],1)] K (Nat.le_refl _) f3 (λf w=>by cases w) y (.cons rfl (by show rq c=rq c*((1:Nat):Rat);grind) H (by simp[Jv]) .nil) (Po.nil _ _ _) (λp hp=>by simp only[D0]at hp;subst hp;simp) ω with⟨wt,l⟩|⟨ts,u,w3,I,l⟩
 .refine .inl ⟨wt.perm f2,λe o N M=>?_⟩;obtain⟨i,h,l,L,J⟩:=l e o N M;refine⟨i,h,?_,L,J⟩;unfold Lf;rw[(Yz H ω).1,Ad,Dc x,Ao,k,Ad];dsimp only;rw[f1,Ad,J7 g.symm,Ad];exact bnd l rfl
 .rw[nil_append]at I;have s:=I.len;rw[Ajx f2,g]at s;have R:=Aed s ω;have B:(u.map (Jv (rq c))).length*2 ^ Dp S<=u.length*2 ^ Dp A:=(by rw[C4,Aja q];exact Nat.le_refl _);have E:u.length*2 ^ Dp A<=1000000000:=(by have C:2 ^ Dp A<=2 ^ 6:=Nat.pow_le_pow_right δ ω;have h2:=Nat.mul_le_mul R C;omega);obtain⟨gs,out,g1,g2,g3,g4⟩:=A4v S.length S ts (u.map (Jv (rq c))) (K+202*G.length) 0 (Nat.le_refl _) Z j w3 (λb Q=>by obtain⟨p,_,rfl⟩:=mem_map.1 Q;simp[Jv]) (by have:=j.len;omega) (by have:=j.len;omega) (Nat.le_trans B E);refine .inr ⟨out,⟨⟨G,u,S,gs,f2,I,q,Z,g2,g3.mono (by have:=j.len;omega)⟩,u.length,s,Nat.le_trans g4 B⟩,λe o N M=>?_⟩;obtain⟨i,h,l,L,J⟩:=l e o N M;refine⟨i,h,?_,L,J⟩;unfold Lf;rw[(Yz H ω).1,Ad,Dc x,Ao,k,Ad];dsimp only;rw[f1,Ad,J7 g.symm,Ad];refine bnd l ?_;dsimp only;rw[V,Ad];dsimp only;rw[s1,Ad,J7 q.length_eq.symm,Ad];exact bnd g1 rfl
def H5 (χ:Bg->Nat) (v:Bz->Nat):List Gj->Nat
 | []=>0
 | b::bs=>Gy (b.1.1.map χ)*(b.2.2*Hc v b.2.1)+H5 χ v bs
theorem A5o (χ:Bg->Nat) (v:Bz->Nat) (B C:List Gj):H5 χ v (B++C)=H5 χ v B+H5 χ v C:=by induction B with| nil=>simp[H5]| cons b B ih=>simp only[Eh,H5,ih,Nat.add_assoc]
theorem A5p (χ:Bg->Nat) (v:Bz->Nat) (l:Bz) (k c:Nat) (B:List Gj):H5 χ v (B.map (Q2 l k c))=H5 χ v B*(c*bc (v l) k):=by
 have d:Hc v (atO l k)=bc (v l) k:=by
  unfold atO;by_cases h:k=0
  .subst h;rw[A7 rfl,Jq];rfl
  .rw[Ay h];simp[Hc]
 induction B with
 | nil=>simp[H5]
 | cons b B ih=>
  simp only[map_cons,H5,ih,Q2,Aeh,d];rw[Nat.add_mul];congr 1
  ac_rfl
theorem Asu (χ:Bg->Nat) (v:Bz->Nat) (B:List Gj) (l:Bz) (f:Nat->Nat):∀n,H5 χ v (Ju B l f n)=H5 χ v B*sm n λk=>f k*bc (v l) k
 | 0=>by simp[Ju,H5,sm]
 | n+1=>by
  rw[Aeb,A5o,Asu χ v B l f n];show _=H5 χ v B*(sm n (λk=>f k*bc (v l) k)+f n*bc (v l) n);rw[Nat.mul_add];congr 1;by_cases h:f n=0
  .rw[A7 h,h];simp[H5]
  .rw[Ay h,A5p]
theorem Gs.valG (c:Aei v):∀{b:List Grp} {A:List Bc},Gs b A->∀B,H5 χ v (Pm B b)=H5 χ v B*Hc v A:=by
 intro b A h;induction h with
 | nil=>intro B;simp[Pm,Hc]
 | @cons l N f g rest b i d k j q ih=>
  intro B;show H5 χ v (Pm (Ju B l f (N+1)) b)=_;rw[ih,Asu,Aeh,Ajw d,<-Nat.mul_assoc];congr 2;rcases j with⟨_,_,_,h3⟩|⟨h1,h2,h3⟩
  .exact h3 (v l)
  .subst h2;rw[c l h1];simp[sm,Jq,h3]
theorem Asv (χ:Bg->Nat) (v:Bz->Nat) (c:Rat):∀b:List Mi,H5 χ v (b.map (Jv c))=pv (λF=>Gy (F.map χ)) b
 | []=>rfl
 | p::b=>by rw[map_cons,H5,Asv χ v c b,pv];show Gy (p.1.map χ)*(p.2*1)+_=_;rw[Nat.mul_one,Nat.mul_comm]
def Zt (χ:Bg->Nat) (v:Bz->Nat):List Aj->Rat
 | []=>0
 | t::p=>rq t.C*((Gy (t.M.F.map χ)*Hc v t.M.A:Nat):Rat)+Zt χ v p
theorem E3.polX {c:Rat} {bs:List Gj} (h:E3 K ts bs) (hc:∀b∈bs,b.1.2=c):Go.Ab.Zt χ v ts=c*(H5 χ v bs:Rat):=by induction h with| nil=>simp only[Go.Ab.Zt,H5];grind| @cons t b ts bs e i o q _ ih=>have hb:=hc b ψ;simp only[Go.Ab.Zt,H5,ih λd hd=>hc d (by simp[hd]),e,i,hb,Rat.natCast_add,Rat.natCast_mul];grind
theorem A5q {l m:List Nat} (h:l.Perm m):Gy l=Gy m:=by induction h with| nil=>rfl| cons a _ ih=>simp only[Gy,ih]| swap a b l=>simp only[Gy];ac_rfl| trans _ _ d e=>exact d.trans e
theorem Tl.val {c:Rat} {f:List Aj} (h:Tl data vars res c F A K f) (i:Asn data vars res χ F) (j:Aei v):Zt χ v f=c*((Gy (F.map χ)*Hc v A:Nat):Rat):=by obtain⟨u,x,S,gs,h1,h2,h3,q,l,k⟩:=h.ex;rw[k.polX (c:=c) λb hb=>by obtain⟨s,d,e,_⟩:=Ajo gs hb;obtain⟨p,_,rfl⟩:=mem_map.1 d;rw[e];rfl];rw[l.valG j,Asv,h2.val χ λg o=>i g (h1.mem_iff.1 o),Asr v h3,A5q (h1.map χ)]
theorem A5r {l:Bz} {f:Nat->Nat} {b:Ent} (hb:b∈H4 B l f n):∃c∈B,∀a∈b.1,a∈c.1\/a.L=l:=by
 unfold H4 at hb;rw[mem_flatMap]at hb;obtain⟨k,_,h⟩:=hb;split at h
 .cases h
 .obtain⟨d,i,rfl⟩:=mem_map.1 h;refine⟨d,i,λa e=>?_⟩;rcases D7.1 e with e|e
  .exact .inl e
  .unfold atO at e;split at e
   .cases e
   .simp only[D0]at e;right;rw[e]
theorem A5s {j:List Grp} (h:Gs j A):∀(B:List Ent) (b:Ent),b∈Mh B j->∃q∈B,∀a∈b.1,a∈q.1\/∃c∈A,a.L=c.L:=by
 induction h with
 | nil=>intro B b d;exact⟨b,d,λa e=>.inl e⟩
 | @cons l N f g o j k y s u x ih=>
  intro B b d;obtain⟨H,C,D⟩:=ih _ b (show b∈Mh (H4 B l f (N+1)) j from d);obtain⟨q,d1,d2⟩:=A5r C;obtain⟨w,i⟩:∃a,a∈g:=(by cases g with| nil=>exact (k rfl).elim| cons a _=>exact⟨a,ψ⟩);refine⟨q,d1,λa e=>?_⟩;rcases D a e with h|⟨c,E,G⟩
  .rcases d2 a h with h|h
   .exact .inl h
   .exact .inr ⟨w,by simp[i],by rw[h,y w i]⟩
  .exact .inr ⟨c,by simp[E],G⟩
theorem Tl.mono {c:Rat} {i:List Aj} (h:Tl data vars res c F A K i) (B:∀a∈A,G4 a.L=true/\I1 vars res a.L=true):∀t∈i,RB K t.C/\(∃n:Nat,rq t.C=c*(n:Rat))/\(∀f∈t.M.F,El f.v/\iR f.I/\Bt f.I<=(F.map λf=>Bt f.I).sum/\1<=D8 data vars res f)/\t.M.F.Pairwise (λa b=>a.v<b.v)/\Ch data vars res t.M.F<=Ch data vars res F/\Zs vars res t.M.A/\Dr t.M.A<=(Dp A:Nat)/\(∀f∈t.M.F,∃g∈F,g.v=f.v)/\∀a∈t.M.A,∃c∈A,a.L=c.L:=by
 obtain⟨R,U,S,gs,h1,h2,h3,M,l,k⟩:=h.ex;intro t e;obtain⟨b,o,w,L,J⟩:=k.mem e;obtain⟨N,c1,c2,c3⟩:=Ajo gs o;obtain⟨p,j,rfl⟩:=mem_map.1 c1;obtain⟨C,H⟩:=A45 (vars:=vars) (res:=res) l (λa ha=>B a (h3.mem_iff.1 ha)) [(Jv c p).2] 0 (λd hd=>by simp only[D0]at hd;subst hd;exact⟨⟨Pairwise.nil,λ_ h=>by cases h⟩,by simp[Dr,Jv],λ_ h=>by cases h⟩) b.2 c3;rw[Aja h3]at H;have G:b.1.1=p.1:=by rw[c2];rfl
 have E:b.1.2=c:=by rw[c2];rfl
 rw[w];dsimp only;rw[G];refine⟨J,⟨b.2.2,by rw[L,E]⟩,λf hf=>?_,h2.asc p j,by have:=h2.sum p j;rw[Ajx h1]at this;exact this,C,ω,λf hf=>?_,λa ha=>?_⟩
 .obtain⟨z,y,x,u,_⟩:=h2.fac p j f hf;exact⟨z,y,by rw[<-Ast (h1.map λf=>Bt f.I)];exact x,u⟩
 .obtain⟨_,_,_,_,g,s,q⟩:=h2.fac p j f hf;exact⟨g,h1.mem_iff.1 s,q⟩
 .obtain⟨d,d1,d2⟩:=A5s l _ _ c3;simp only[D0]at d1;subst d1;rcases d2 a ha with h|⟨I,k,D⟩
  .cases h
  .exact⟨I,h3.mem_iff.1 k,D⟩
theorem A5t {a c:A3} (o:RB K a) (q:RB k c) (h:rq a=rq c*(n:Rat)) (h0:rq c≠0):Bl n<=K+k+2:=by
 have j:=o.nv;have y:=q.dv;have e:rq c*(n:Rat)=mkRat (sg (sv c) (nv c)*(n:Int)) (dv c):=by unfold rq;rw[show ((n:Nat):Rat)=mkRat (n:Int) 1 from (Zi (n:Int)).symm,Rat.mkRat_mul_mkRat,Nat.mul_one]
 rw[e]at h;unfold rq at h;rw[Rat.mkRat_eq_iff (Hz a) (Hz c)]at h;have b:nv c≠0:=λi=>h0 ((A1z c).2 i);have g:=congrArg Int.natAbs h;have f:∀(s:Bool) (m:Nat),(sg s m).natAbs=m:=λs m=>by unfold sg;split <;> omega
 rw[Int.natAbs_mul,Int.natAbs_mul,Int.natAbs_mul,f,f,Int.natAbs_natCast,Int.natAbs_natCast,Int.natAbs_natCast]at g;have u:n<=nv a*dv c:=by rw[g];have d0:=Nat.pos_of_ne_zero (Hz a);have w:=Nat.pos_of_ne_zero b;have d:n<=nv c*n:=Nat.le_mul_of_pos_left _ w;exact Nat.le_trans d (Nat.le_mul_of_pos_right _ d0)
 have d:=Kz u;have C:=Km (nv a) (dv c);omega
theorem A5u {x a c:A3} (e:J5 x) (i:RB j a) (o:RB k c) (b:Bl n<=L) (g:1<=L) (h:rq x=rq a+rq c*(n:Rat)) (u:j<10000000000) (w:k<10000000000) (f:L<10000000000):RB (j+k+L+5) x:=by obtain⟨m,y,q,C,s⟩:=Yy o (Y9 b g) ω ω;obtain⟨d,d1,_,d3,d4,d5⟩:=Aid i q ω ω;have:x=d:=Ac6 e d4 (by rw[h,d5,s,Ads]);rw[this];exact d3.mono ω
def Tm (k0:Nat) (c:A3) (N B:Nat) (t:Aj):Prop:=RB B t.C/\∃(a:A3) (n:Nat),RB k0 a/\rq t.C=rq a+rq c*(n:Rat)/\n<=N
theorem A5v (hP:∀m,P m->CMo m) {c:A3} (hc:RB k c) (a6:rq c≠0) (l ts:List Aj) (y:Col k0 P ts) (hl:∀t∈l,RB K t.C/\P t.M/\∃n:Nat,rq t.C=rq c*(n:Rat)) (ac:k0<=2000000000) (hK:K<=2000000000) (hk:k<=2000000000) (ab:l.length<=1000000) (hn:ts.length<=1099511627776) : ∃f,Lg l (plc ts) ts=some (plc f,f)/\Col (max k0 K+k+(K+k+10)) P f/\f.length<=ts.length+l.length/\∀m,cf f m=cf ts m+cf l m:=by
 have J:∀t∈l,∀n:Nat,rq t.C=rq c*(n:Rat)->n<1000000000 ^ (K+k+2):=λt o n h=>by have T:=A5t (hl t o).1 hc h a6;exact Nat.lt_of_lt_of_le (M9 n) (Nat.pow_le_pow_right δ T)
 have a7:∀N,N<=1000000*1000000000 ^ (K+k+2)->Bl N<=K+k+3:=λN h=>by refine J0 (Nat.lt_of_le_of_lt h ?_);rw[show K+k+3=(K+k+2)+1 by omega,Nat.pow_succ];have a0:∀X:Nat,0<X->1000000*X<X*1000000000:=λX h=>ω;exact a0 (1000000000 ^ (K+k+2)) (Nat.pow_pos (show 0<1000000000 by decide))
 have hB:∀(N:Nat) (x a:A3),N<=1000000*1000000000 ^ (K+k+2)->J5 x->RB (max k0 K) a->rq x=rq a+rq c*(N:Rat)->RB (max k0 K+k+(K+k+10)) x:=λN x a T h2 h3 h4=>by have h5:=A5u h2 h3 hc (a7 N T) ω h4 ω ω ω;exact h5.mono ω
 unfold Lg;refine U7 (A:=List Aj) (λf=>(plc f,f)) ?_;refine Ev (λs=>∃(j:Nat) (u:List Aj),s=((j:Int),plc u,u)/\j<=l.length/\Dst u/\(∀t∈u,P t.M)/\(∀t∈u,Tm (max k0 K) c (j*1000000000 ^ (K+k+2)) (max k0 K+k+(K+k+10)) t)/\u.length<=ts.length+j/\∀m,cf u m=cf ts m+cf (l.take j) m) (λs=>l.length-s.1.toNat) (λz=>∃u,z=(plc u,u)/\Col (max k0 K+k+(K+k+10)) P u/\u.length<=ts.length+l.length/\∀m,cf u m=cf ts m+cf l m) ⟨0,ts,rfl,ω,y.dst,y.mo,λt o=>⟨(y.tb t o).mono ω,t.C,0,(y.tb t o).mono ω,by rw[show ((0:Nat):Rat)=0 from rfl];grind,ω⟩,ω,λm=>by simp only[take_zero,cf];grind⟩ ?_ ?_
 .rintro _ ⟨j,u,rfl,hj,hu,B,M,Z,L⟩;rcases Cb j l.length with h|h
  .have H:l[j]? = some l[j]:=B3 h;generalize l[j]=x at H;obtain⟨Q,hm,n,I⟩:=hl x (B6 H);have aa:=J x (B6 H) n I;have ae:(j+1)*1000000000 ^ (K+k+2)=j*1000000000 ^ (K+k+2)+1000000000 ^ (K+k+2):=(by rw[Nat.add_mul,Nat.one_mul]);have ad:(j+1)*1000000000 ^ (K+k+2)<=1000000*1000000000 ^ (K+k+2):=Nat.mul_le_mul_right _ ω;simp only[Aq (ω:(j:Int)<(l.length:Int)),Al,Bu rfl H,Ad,Aqt (hP _ hm),C3 h ω];left;by_cases C:∃t∈u,t.M=x.M
   .obtain⟨t,o,he⟩:=C;obtain⟨i,W⟩:=Ik o;obtain⟨g1,g2⟩:=Aqx hu W;rw[he]at g1 g2;obtain⟨tb,a,Y,G,R,a8⟩:=M t o;obtain⟨E,c1,_,c3,c4,c5⟩:=Aid tb Q ω ω;have D:rq E=rq a+rq c*((Y+n:Nat):Rat):=(by rw[c5,R,I,Rat.natCast_add];grind);have a1:=hB (Y+n) E a ω c4 G D;refine⟨((j+1:Nat),plc (u.set i ⟨E,t.M⟩),u.set i ⟨E,t.M⟩),?_,⟨j+1,u.set i ⟨E,t.M⟩,rfl,ω,hu.set W rfl,?_,?_,by rw[length_set];omega,λm=>?_⟩,ζ⟩
    .simp only[g1,g2,Al,Ad,Bu rfl W,c1,Gv rfl,Aqv (u:=⟨E,t.M⟩) W rfl]
    .intro w d;rcases mem_or_eq_of_mem_set d with d|rfl
     .exact B w d
     .exact B t o
    .intro w d;rcases mem_or_eq_of_mem_set d with d|rfl
     .obtain⟨V,b,q,U,S,q4⟩:=M w d;exact⟨V,b,q,U,S,ω⟩
     .exact⟨a1,a,Y+n,G,D,ω⟩
    .rw[Aix (u:=⟨E,t.M⟩) W rfl m,L m,Dd H,Qy,Vq];simp only[c5,he,cf];split <;> grind
   .have g:=Aqw (m:=x.M) (ts:=u) λt o e=>C ⟨t,o,e⟩;refine⟨((j+1:Nat),plc (u++[x]),u++[x]),?_,⟨j+1,u++[x],rfl,ω,?_,?_,?_,ζ,λm=>?_⟩,ζ⟩
    .simp only[g,Ao,Ad];rw[Dn ζ,Ad,Adh _ _ _ g,Aqu]
    .refine pairwise_append.2 ⟨hu,pairwise_singleton _ _,λa ha b Q=>?_⟩;simp only[D0]at Q;subst Q;exact λe=>C ⟨a,ha,e⟩
    .intro w d;rcases D7.1 d with d|d
     .exact B w d
     .simp only[D0]at d;subst d;exact hm
    .intro w d;rcases D7.1 d with d|d
     .obtain⟨V,b,q,U,S,q4⟩:=M w d;exact⟨V,b,q,U,S,ω⟩
     .simp only[D0]at d;subst d;exact⟨Q.mono ω,w.C,0,Q.mono ω,by rw[show ((0:Nat):Rat)=0 from rfl];grind,ω⟩
    .rw[Qy,L m,Dd H,Qy];grind
  .have:j=l.length:=ω;subst this;rw[Dq]at L;simp only[Aw (ω:¬(l.length:Int)<(l.length:Int)),Ao];exact .inr ⟨_,rfl,u,rfl,⟨hu,λt o=>(M t o).1,B⟩,Z,L⟩
 .rintro _ ⟨u,rfl,T,h2,h3⟩;exact⟨_,rfl,u,rfl,T,h2,h3⟩
def lim (R:List Aj):List Aj×Int:=if 1000<R.length then ([],9) else (R,0)
theorem Ajy (h:R.length<=1000):lim R=(R,0):=Ay ω
theorem Asw (h:1000<R.length):lim R=([],9):=A7 h
theorem A5w (s:∀m,P m->CMo m) (o:List (ByteArray×Int)) (ts:List Aj) (h:Col k P ts) (E:k<34359738000) (D:ts.length<=4000000000) : ∃R,My o ts=some (lim R)/\CP R/\(∀m,cf R m=cf ts m)/\∀t∈R,P t.M/\RB (k+1) t.C:=by
 have A:(ts.filter nzT).length<=ts.length:=length_filter_le _ _;have g:∀{X:Option (List Aj×Int)},(bif (((ts.filter nzT).length:Nat):Int)>(1000:Int) then (some ([],9)) else ((Nr (ts.filter nzT)).bind λf=> (Fv (ts.filter nzT).length f).bind λH=> (Ug f).bind λw=> some (w,0)))=X->My o ts=X:=λ{X} B=>by
  unfold My;refine bnd (a:=ts.filter nzT) ?_ B;rw[<-Option.bind_fun_some (An _ _)];refine F7 ts (λj=>((j:Int),(ts.take j).filter nzT)) rfl ω ?_ ?_
  .intro j x N G C I J;have M:=h.tb x (B6 G);have q:((ts.take j).filter nzT).length<=ts.length:=Nat.le_trans (length_filter_le _ _) (by rw[length_take];omega);simp only[C,I,J,Al,Ad,(Yz M E).1,Aq3];rw[Ai0 G];by_cases l:rq x.C=0
   .have:nzT x=false:=(by simp[nzT,l]);rw[Aw (by simpa using l),this];simp
   .have:nzT x=true:=(by simp[nzT,l]);rw[Aq l,this];simp only[Al];rw[Dn ζ];simp
  .intro C;exact⟨ts.filter nzT,by simp only[C,Ao,Dq],rfl⟩
 obtain⟨S,z,c,y⟩:=Ari (ts.filter nzT) (Pairwise.filter _ h.dst) λt d=>(s _ (h.mo t (mem_filter.1 d).1)).sz;have b:∀t∈S,t∈ts/\rq t.C≠0:=by intro t d;have:=mem_filter.1 (c.mem_iff.1 d);exact⟨this.1,by simpa[nzT] using this.2⟩
 refine⟨S.map clT,g ?_,⟨?_,?_⟩,?_,?_⟩
 .by_cases i:1000<(ts.filter nzT).length
  .rw[Aq ω,Al,Asw (by rw[C4,c.length_eq];exact i)]
  .rw[Aw ω,Ao,z,Ad,J7 c.length_eq.symm,Ad,
    Aqz (k:=k) S E (λt d=>⟨h.tb t (b t d).1,(s _ (h.mo t (b t d).1)).sz⟩) (by rw[c.length_eq];omega),Ajy (by rw[C4,c.length_eq];omega)];rfl
 .rw[pairwise_map];exact y
 .intro t d;obtain⟨u,e,rfl⟩:=mem_map.1 d;refine⟨S8 _ _ _ (Hz _),?_⟩;show rq (Cn _ _ _)≠0;rw[Pg _ _ _ (Hz _)];exact (b u e).2
 .intro m;rw[Aq0,Aq1 c,Aq2]
 .intro t d;obtain⟨u,e,rfl⟩:=mem_map.1 d;exact⟨h.mo u (b u e).1,Apu (h.tb u (b u e).1)⟩
theorem A5x (i:∀f∈F,El f.v/\iR f.I/\Bt f.I<=1048576/\1<=D8 x.D x.V x.E f) (s:F.Pairwise λa b=>a.v<b.v) (D:Ch x.D x.V x.E F<=6):I4 x ⟨F,[]⟩:=by
 have g:=Ajp (data:=x.D) (vars:=x.V) (res:=x.E) (l:=F) λf d=>(i f d).2.2.2;refine⟨?_,⟨by show F.length<=_;omega,ψ,λf d=>(i f d).2.2.1,λf d=>⟨(i f d).2.1,(i f d).1⟩,λa u=>by cases u⟩⟩;unfold Jo;have h:F.zipIdx.all (λq=>Pc x.D x.V x.E F q.1 q.2)=true:=by rw[H9];rintro⟨a,j⟩ w;have o:F[j]? = some a:=mk_mem_zipIdx_iff_getElem?.1 w;have y:=(i a (B6 o)).2.2.2;show Pc x.D x.V x.E F a j=true;unfold Pc;have hp:Me (·.v) F a j=true:=(by unfold Me;cases j with| zero=>rfl| succ j=>have g:=Ez o;have C:F[j]? = some F[j]:=B3 ω;have c:=pairwise_iff_getElem.1 s j (j+1) ω g ω;have e:F[j+1]=a:=(by have:=B3 g;rw[o]at this;exact (Fa this).symm);rw[e]at c;simp only[Nat.add_sub_cancel,C,Bool.or_eq_true];exact .inr (decide_eq_true c));rw[hp,Aq y];rfl
 show (F.zipIdx.all (λq=>Pc x.D x.V x.E F q.1 q.2)&&([]:List Bc).zipIdx.all _&&decide (Ch x.D x.V x.E F+Dr []<=6))=true;rw[h];have:Dr []=0:=rfl;rw[this,Aq ω];rfl
def K8 (x:Cu) (Z:Nat) (m:Br):Prop:=I4 x m/\∀f∈m.F,Bt f.I<=Z
def A5y (x:Cu) (Z:Nat) (W:Int->Prop) (m:Br):Prop:=K8 x Z m/\∀w∈Adm m,W w
theorem Ajz {w:Int}:w∈Adm m↔(∃f∈m.F,f.v=w)\/∃a∈m.A,w∈a.L.T.map (·.v):=by unfold Adm Arc;rw[D7,mem_map,mem_flatMap]
theorem Tl.canZ {Z:Nat} {c:Rat} {b:List Aj} {W:Int->Prop} (h:Tl x.D x.V x.E c F A K b) (j:∀w∈Adm ⟨F,A⟩,W w) (q:∀a∈A,G4 a.L=true/\I1 x.V x.E a.L=true) (hs:Ch x.D x.V x.E F+(Dp A:Nat)<=6) (l:(F.map λf=>Bt f.I).sum<=Z) (k:Z<=400000):∀t∈b,RB K t.C/\A5y x Z W t.M/\∃n:Nat,rq t.C=c*(n:Rat):=by
 intro t d;obtain⟨h1,h2,h3,z,E,y,D,u,s⟩:=h.mono q t d;have i:=A5x (x:=x) (λf hf=>⟨(h3 f hf).1,(h3 f hf).2.1,by have:=(h3 f hf).2.2.1;omega,(h3 f hf).2.2.2⟩) z ω;have:=A5i i y (by show Ch x.D x.V x.E t.M.F+Dr t.M.A<=6;omega);refine⟨h1,⟨⟨this,λf hf=>Nat.le_trans (h3 f hf).2.2.1 l⟩,λw e=>?_⟩,h2⟩;rcases Ajz.1 e with⟨f,f1,f2⟩|⟨a,o,C⟩
 .obtain⟨g,G,H⟩:=u f f1;exact j w (Ajz.2 (.inl ⟨g,G,by rw[H,f2]⟩))
 .obtain⟨B,c1,c2⟩:=s a o;exact j w (Ajz.2 (.inr ⟨B,c1,by rw[<-c2];exact C⟩))
theorem A5z (d:Ia x) {v:Int} {t:Ag} (h:E6 x.V x.E v=some t):Gg x.D t=true:=by
 unfold E6 at h;split at h
 .cases h;exact d.2.2.1
 .exact H9.1 d.2.2.2 t (Iv h).2.2.2
theorem Asx:∀(l:List Bg) (Z:Nat),(∀f∈l,Bt f.I<=Z)->(l.map λf=>Bt f.I).sum<=l.length*Z
 | [],_,_=>ψ
 | f::l,Z,h=>by have e:=h f ψ;have i:=Asx l Z λg d=>h g (by simp[d]);rw[map_cons,sum_cons,D9,Nat.add_mul];omega
theorem A50:∀(k:Nat) (i:Ai) (a:Int),Bt i<=k->k<1099511627776->-1099511627776<=a->a<=1099511627776->∃r,R0 k i a=some r/\(r.1=true->r.2=a-Bt i/\0<=r.2)/\r.2<=a/\-1<=r.2+1099511627776:=by
 intro k;induction k with
 | zero=>intro i a h;have:=Fe i;omega
 | succ k ih=>
  intro i a h N Q S;have E:=Fe i;have G:=O7 i.K;have w:Ac (a-1)=a-1:=ξ;rw[R0,w];by_cases H:a-1<0
  .rw[Aq H];exact⟨_,rfl,nofun,by show a-1<=a;omega,by show -1<=a-1+1099511627776;omega⟩
  .rw[Aw H,Ao];have D:∀j,B5 (i.K.take j)<=B5 i.K:=λj=>by have:=S3 (i.K.take j) (i.K.drop j);rw[take_append_drop]at this;omega
   refine Ev (λs=>∃j:Nat,s.1=j/\j<=i.K.length/\s.2=a-1-B5 (i.K.take j)/\0<=s.2) (λs=>i.K.length-s.1.toNat) (λz=>(∃c,z = .inl (false,c)/\c<=a/\-1<=c+1099511627776)\/(∃c,z = .inr c/\c=a-1-B5 i.K/\0<=c)) ⟨0,rfl,ω,by simp[B5],by show 0<=a-1;omega⟩ ?_ ?_
   .rintro⟨_,b⟩ ⟨j,rfl,T,e,f⟩;dsimp only at e f;rcases Cb j i.K.length with o|o
    .have d:i.K[j]? = some i.K[j]:=B3 o;generalize i.K[j]=x at d;have J:=K6 (B6 d);obtain⟨⟨y,z⟩,B,A,u,q⟩:=ih x b ω ω ω ω;have I:B5 (i.K.take (j+1))=B5 (i.K.take j)+Bt x:=(by rw[Dd d,S3];simp[B5]);simp only[Aq (ω:(j:Int)<(i.K.length:Int)),Al,Bu rfl d,Ad,B,C3 o ω];cases y with| false=>exact .inr ⟨_,rfl,.inl ⟨z,rfl,by dsimp only at u;omega,q⟩⟩| true=>obtain⟨l,g⟩:=A rfl;exact .inl ⟨_,rfl,⟨j+1,rfl,ω,by dsimp only at l ⊢;rw[I];omega,g⟩,by simp only[Int.toNat_natCast];omega⟩
    .have:j=i.K.length:=ω;subst this;rw[Dq]at e;exact .inr ⟨.inr b,ψ,.inr ⟨b,rfl,e,f⟩⟩
   .rintro z (⟨c,rfl,M,C⟩|⟨c,rfl,M,C⟩)
    .exact⟨_,rfl,nofun,M,C⟩
    .exact⟨_,rfl,λ_=>⟨by dsimp only;omega,C⟩,by dsimp only;omega,by dsimp only;omega⟩
theorem A51 (i:Ai) (h:Bt i<=1048576):∃b,Xb i=some b/\(b=true->Bt i<=40):=by unfold Xb;obtain⟨r,d,e,_⟩:=A50 4000000 i 40 ω ω ω ω;exact⟨r.1,by rw[d];rfl,λc=>by have:=e c;omega⟩
theorem A52 (m:Br) (i:MSz m):∃b,Wy m=some b/\(b=true->(∀f∈m.F,Bt f.I<=40)/\m.F.length<=8/\m.A.length<=8):=by
 unfold Wy;by_cases q:(m.F.length:Int)>8
 .rw[Aq q];exact⟨false,rfl,λh=>by cases h⟩
 .rw[Aw q];by_cases s:(m.A.length:Int)>8
  .rw[Aq s];exact⟨false,rfl,λh=>by cases h⟩
  .rw[Aw s];simp only[Ao,Ad];refine Ev (λv=>∃j:Nat,v=j/\j<=m.F.length/\∀f∈m.F.take j,Bt f.I<=40) (λv=>m.F.length-v.toNat) (λz=>z = .inl false\/(z = .inr ()/\∀f∈m.F,Bt f.I<=40)) ⟨0,rfl,ω,ψ⟩ ?_ ?_
   .rintro v ⟨j,rfl,u,c⟩;rcases Cb j m.F.length with d|d
    .have e:m.F[j]? = some m.F[j]:=B3 d;generalize m.F[j]=x at e;obtain⟨b,w,g⟩:=A51 x.I (i.fi x (B6 e));simp only[Aq (ω:(j:Int)<(m.F.length:Int)),Al,Bu rfl e,Ad,w,C3 d ω];cases b with
     | false=>exact .inr ⟨_,rfl,.inl rfl⟩
     | true=>
      refine .inl ⟨_,rfl,⟨j+1,rfl,ω,λf o=>?_⟩,by simp only[Int.toNat_natCast];omega⟩;rw[Dd e]at o;rcases D7.1 o with o|o
      .exact c f o
      .rw[D0]at o;subst o;exact g rfl
    .have:j=m.F.length:=ω;subst this;rw[Dq]at c;exact .inr ⟨.inr (),ψ,.inr ⟨rfl,c⟩⟩
   .rintro z (rfl|⟨rfl,c⟩)
    .exact⟨false,rfl,λh=>by cases h⟩
    .dsimp only;refine Ev (λv=>∃j:Nat,v=j/\j<=m.A.length) (λv=>m.A.length-v.toNat) (λ_=>True) ⟨0,rfl,ω⟩ ?_ ?_
     .rintro v ⟨j,rfl,u⟩;rcases Cb j m.A.length with d|d
      .have e:m.A[j]? = some m.A[j]:=B3 d;generalize m.A[j]=x at e;simp only[Aq (ω:(j:Int)<(m.A.length:Int)),Al,Bu rfl e,Ad,Aa0,C3 d ω];cases decide ((x.L.T.length:Int)<=70) with| true=>exact .inl ⟨_,rfl,⟨j+1,rfl,ω⟩,by simp only[Int.toNat_natCast];omega⟩| false=>exact .inr ⟨_,rfl,trivial⟩
      .have:j=m.A.length:=ω;subst this;exact .inr ⟨.inr (),ψ,trivial⟩
     .rintro (z|z) _
      .exact⟨_,rfl,λ_=>⟨c,ω,ω⟩⟩
      .exact⟨_,rfl,λ_=>⟨c,ω,ω⟩⟩
def A53 (t:Aj):Prop:=t.C.U.length<=8/\t.C.B.length<=8/\∀f∈t.M.F,Bt f.I<=40
def Od (t:Aj):Prop:=A53 t/\t.M.F.length<=8/\t.M.A.length<=8
theorem A54 (a:A3):∃b,Wz a=some b/\(b=true->a.U.length<=8/\a.B.length<=8):=by
 unfold Wz;by_cases h:(a.U.length:Int)<=8
 .rw[Aq h];exact⟨_,rfl,λd=>by rw[D4]at d;omega⟩
 .rw[Aw h];exact⟨_,rfl,λd=>by cases d⟩
theorem A55 (p:List Aj) (q:p.length<=1048576) (hp:∀t∈p,TSz t):∃b,Wu p 10=some b/\(b=true->p.length<=10/\∀t∈p,Od t):=by
 unfold Wu;refine Ev (λv=>∃j:Nat,v=j/\j<=p.length/\j<=11/\∀t∈p.take j,Od t) (λv=>p.length-v.toNat) (λz=>z = .inl false\/(z = .inr ()/\(p.length<=10->∀t∈p,Od t))) ⟨0,rfl,ω,ω,ψ⟩ ?_ ?_
 .rintro v ⟨j,rfl,y,i,f⟩;rcases Cb j p.length with o|o
  .by_cases l:j<=10
   .have e:p[j]? = some p[j]:=B3 o;generalize p[j]=x at e;obtain⟨b,u,s⟩:=A52 x.M (hp x (B6 e)).mo;simp only[Aq (ω:(j:Int)<(p.length:Int)),Aq (ω:(j:Int)<=10),Al,Bu rfl e,Ad,u,C3 o ω];cases b with
    | false=>exact .inr ⟨_,rfl,.inl rfl⟩
    | true=>
     simp only[bnt,Ao];obtain⟨c,w,g⟩:=A54 x.C;rw[w,Ad];cases c with
     | false=>exact .inr ⟨_,rfl,.inl rfl⟩
     | true=>
      refine .inl ⟨_,rfl,⟨j+1,rfl,ω,ω,λt d=>?_⟩,by simp only[Int.toNat_natCast];omega⟩;rw[Dd e]at d;rcases D7.1 d with d|d
      .exact f t d
      .rw[D0]at d;subst d;exact⟨⟨(g rfl).1,(g rfl).2,(s rfl).1⟩,(s rfl).2⟩
   .refine .inr ⟨.inr (),?_,.inr ⟨rfl,λh=>ω⟩⟩;simp only[Aq (ω:(j:Int)<(p.length:Int)),Aw (ω:¬(j:Int)<=10),Al,Ao,Ad]
  .have:j=p.length:=ω;subst this;rw[Dq]at f;exact .inr ⟨.inr (),ψ,.inr ⟨rfl,λ_=>f⟩⟩
 .rintro z (rfl|⟨rfl,k⟩)
  .exact⟨false,rfl,λh=>by cases h⟩
  .refine⟨decide ((p.length:Int)<=10),rfl,λh=>?_⟩;rw[D4]at h;exact⟨ω,k ω⟩
theorem A56 (x:Cu) (k:CSz x) (ps:List (List Aj)) (l:ps.length<=1048576) (hp:∀p∈ps,p.length<=1048576/\∀t∈p,TSz t) : ∃b,Ws x ps=some b/\(b=true->∀p∈ps,p.length<=10/\∀t∈p,Od t):=by
 unfold Ws;refine Ev (λv=>∃j:Nat,v=j/\j<=ps.length/\∀p∈ps.take j,p.length<=10/\∀t∈p,Od t) (λv=>ps.length-v.toNat) (λz=>z = .inl false\/(z = .inr ()/\∀p∈ps,p.length<=10/\∀t∈p,Od t)) ⟨0,rfl,ω,ψ⟩ ?_ ?_
 .rintro v ⟨j,rfl,w,c⟩;rcases Cb j ps.length with o|o
  .have e:ps[j]? = some ps[j]:=B3 o;generalize ps[j]=p at e;obtain⟨i,g⟩:=hp p (B6 e);obtain⟨b,s,u⟩:=A55 p i g;simp only[Aq (ω:(j:Int)<(ps.length:Int)),Al,Bu rfl e,Ad,s,C3 o ω];cases b with
   | false=>exact .inr ⟨_,rfl,.inl rfl⟩
   | true=>
    refine .inl ⟨_,rfl,⟨j+1,rfl,ω,λq d=>?_⟩,by simp only[Int.toNat_natCast];omega⟩;rw[Dd e]at d;rcases D7.1 d with d|d
    .exact c q d
    .rw[D0]at d;subst d;exact u rfl
  .have:j=ps.length:=ω;subst this;rw[Dq]at c;exact .inr ⟨.inr (),ψ,.inr ⟨rfl,c⟩⟩
 .rintro z (rfl|⟨rfl,f⟩)
  .exact⟨false,rfl,λh=>by cases h⟩
  .obtain⟨b,s⟩:=A22 x k;exact⟨b,by dsimp only;rw[s];rfl,λ_=>f⟩
theorem A57 (ts:List B0) {k:List B0->Option β} {r:β} (h:∀R,R.Perm ts->R.Pairwise (λa b=>a.v<=b.v)->k R=some r):(Rl.mk Rw M3 ts).bind k=some r:=by
 unfold Rl.bind;dsimp only;cases q:Nat.ble ts.length 12 with
 | true=>obtain⟨R,s,d,u⟩:=A49 ts (Nat.le_of_ble_eq_true q);rw[Al,s,Ad];exact h R d u
 | false=>
  rw[Ao];have i:(ts.mergeSort λa b=>decide (a.v<=b.v)).Pairwise λa b=>a.v<=b.v:=(by have:=pairwise_mergeSort (le:=λa b:B0=>decide (a.v<=b.v)) (λa b c s d=>by simp only[D4]at *;omega) (λa b=>by simp only[Bool.or_eq_true,D4];omega) ts;exact this.imp λh=>by simpa using h);refine Aw6 (o:=ts.mergeSort λa b=>decide (a.v<=b.v)) ⟨_,Asq,λx _ y _=>Ajt x y,mergeSort_perm _ _,i.imp λ{a b} h d=>?_⟩ λo g=>?_
  .have:=Ob.1 d;omega
  .obtain⟨cf,w,f,hp,C⟩:=g;refine h o hp (C.imp_of_mem λ{a b} D q h=>?_);have e:=(f b (hp.mem_iff.1 q) a (hp.mem_iff.1 D)).symm.trans (Ajt b a);rw[Fa e]at h;have:=mt Ob.2 h;omega
theorem A58 (c:Int) (ts:List B0) (x:ts.length<=1000) (hb:LBd ts):∃L,W3 c ts=some (Aju c L)/\Oc L/\∀v,cl L v=cl ts v:=by
 have d:∀R:List B0,R.Perm ts->R.Pairwise (λa b=>a.v<=b.v)->∃L,An (Aeg R) (0,[])=some L/\Oc L/\∀v,cl L v=cl ts v:=λR o w=>by obtain⟨L,j,i,g,_⟩:=A5d w (by rw[o.length_eq];omega) λt y=>hb t (o.mem_iff.1 y);exact⟨L,j,i,λv=>by rw[g,A5a o]⟩
 have u:(ts.mergeSort λa b=>decide (a.v<=b.v)).Pairwise λa b=>a.v<=b.v:=by have:=pairwise_mergeSort (le:=λa b:B0=>decide (a.v<=b.v)) (λa b c o w=>by simp only[D4]at *;omega) (λa b=>by simp only[Bool.or_eq_true,D4];omega) ts;exact this.imp λh=>by simpa using h
 obtain⟨L,_,q,l⟩:=d _ (mergeSort_perm _ _) u;refine⟨L,?_,q,l⟩;unfold W3;have k:Xd ts=some ([],ts):=by unfold Xd L0;rw[Dn ζ];rfl
 rw[k,Ad];dsimp only;refine A57 ts λR f s=>?_;obtain⟨M,j,i,g⟩:=d R f s;have e:M=L:=i.ext q λv=>by rw[g,l]
 subst e;rw[J7 f.length_eq.symm,Ad,<-f.length_eq];refine bnd j ?_;rw[Ahz,Ad];unfold Aju;cases G4 ⟨c,M⟩ <;> rfl
theorem A59 (j:CSz x) (d:Ia x) {c:A3} (I:RB 8 c) (b:FGz x.D x.V x.E F) (l:Atk A) (N:∀a∈A,I1 x.V x.E a.L=true) (J:Ch x.D x.V x.E F+(Dp A:Nat)<=6) (y:(F.map λf=>Bt f.I).sum<=320) : ∃out e,(∀C D,Dm x.D x.V x.E C->PMg x.D x.V x.E D->∃i g,Lf c ⟨F,A⟩ C D x.D x.V x.E.G x.E.U x.E.R=some (out,e,i,g)/\Dm x.D x.V x.E i/\PMg x.D x.V x.E g)/\(e=0\/e=9)/\(∀u∈out,rq c≠0/\RB 4060 u.C/\K8 x 320 u.M/\∃n:Nat,rq u.C=rq c*(n:Rat))/\out.length<=1000000000:=by
 by_cases G:rq c=0
 .refine⟨[],0,λC D o E=>⟨C,D,?_,o,E⟩,.inl rfl,(λu w=>by cases w),ψ⟩;unfold Lf;rw[(Yz I ω).1,Ad,G];rfl
 .rcases A5n j.ds d.2.1 (d.ctx j) (λv t h=>A5z d h) I ω G b l J with⟨_,h⟩|⟨out,k,h⟩
  .exact⟨[],9,h,.inr rfl,(λu w=>by cases w),ψ⟩
  .refine⟨out,0,h,.inl rfl,λu w=>?_,?_⟩
   .obtain⟨o,E,H⟩:=k.canZ (W:=λ_=>True) (λ_ _=>trivial) (λa M=>⟨l.lin a M,N a M⟩) J y ω u w;have q:=b.len;exact⟨G,o.mono ω,E.1,H⟩
   .obtain⟨n,o,E⟩:=k.len;have q:=b.len;have s:0<=Ch x.D x.V x.E F:=Pn λf d=>(b.fac f d).2.2;have H:=Aed o ω;have z:2 ^ Dp A<=2 ^ 6:=Nat.pow_le_pow_right δ ω;have B:=Nat.mul_le_mul H z;omega
theorem A6a {c:A3} (s:RB 8 c) {f:List Aj} (i:∀u∈f,rq c≠0/\RB 4060 u.C/\K8 x 320 u.M/\∃n:Nat,rq u.C=rq c*(n:Rat)) (q:f.length<=1000) (g:Col k0 (K8 x 320) ts) (D:4060<=k0) (y:k0<=2000000000) (j:ts.length<=1000000) : ∃b,Lg f (plc ts) ts=some (plc b,b)/\Col (k0+5000) (K8 x 320) b/\b.length<=ts.length+1000/\∀m,cf b m=cf ts m+cf f m:=by
 have e:∀d:A3,RB 8 d->rq d≠0->(∀u∈f,RB 4060 u.C/\K8 x 320 u.M/\∃n:Nat,rq u.C=rq d*(n:Rat))->∃b,Lg f (plc ts) ts=some (plc b,b)/\Col (k0+5000) (K8 x 320) b/\b.length<=ts.length+1000/\∀m,cf b m=cf ts m+cf f m:=λd d1 d2 d3=>by obtain⟨T,t1,t2,t3,t4⟩:=A5v (P:=K8 x 320) (K:=4060) (λm h=>h.1.cmo) d1 d2 f ts g d3 y δ δ ω ω;exact⟨T,t1,⟨t2.dst,λw o=>(t2.tb w o).mono ω,t2.mo⟩,ω,t4⟩
 cases f with
 | nil=>exact e (cR 1) ((Y9 (k:=1) (by rw[Nc];decide) δ).mono δ) (by rw[Ads];decide) λu C=>by cases C
 | cons u l=>exact e c s (i u ψ).1 λw o=>(i w o).2
noncomputable def K9 (f:Aj->List Aj) (m:Br):List Aj->Rat
 | []=>0
 | t::p=>cf (f t) m+K9 f m p
theorem Zu (f:Aj->List Aj) (m:Br):∀p q:List Aj,K9 f m (p++q)=K9 f m p+K9 f m q
 | [],q=>by simp only[nil_append,K9];grind
 | t::p,q=>by simp only[Eh,K9,Zu f m p q];grind
theorem A6b {v:Int} (h:cl l v≠0):∃u∈l,u.v=v:=by
 induction l with
 | nil=>exact (h rfl).elim
 | cons t l ih=>
  by_cases e:t.v=v
  .exact⟨t,ψ,e⟩
  .simp only[cl,Ay e,Int.zero_add]at h;obtain⟨u,d,i⟩:=ih h;exact⟨u,by simp[d],i⟩
theorem A6c (v:Int):∃b,P5 v=some b:=by
 unfold P5;by_cases h:v>=-1
 .rw[Aq h];exact⟨_,rfl⟩
 .rw[Aw h];exact⟨_,rfl⟩
theorem Asy (n:Int):∃b,Uc n=some b/\(b=false->-1099511627776<=n/\n<=1099511627776):=by
 unfold Uc;by_cases h:n < -1099511627776
 .rw[Aq h];exact⟨_,rfl,λh=>by cases h⟩
 .rw[Aw h];exact⟨_,rfl,λd=>by rw[decide_eq_false_iff_not]at d;omega⟩
theorem Asz (l:Bz) (k:l.T.length<=1048576):∃r:Bz×Int,P4 l=some r/\(r.2=0->G4 r.1=true/\∀t∈r.1.T,∃u∈l.T,u.v=t.v):=by
 unfold P4;refine Ev (λv=>∃j:Nat,v=j/\j<=l.T.length) (λv=>l.T.length-v.toNat) (λz=>z = .inl (⟨0,[]⟩,8)\/z = .inr ()) ⟨0,rfl,ω⟩ ?_ ?_
 .rintro v ⟨j,rfl,y⟩;rcases Cb j l.T.length with o|o
  .have s:l.T[j]? = some l.T[j]:=B3 o;generalize l.T[j]=x at s;obtain⟨b,q⟩:=A6c x.v;simp only[Aq (ω:(j:Int)<(l.T.length:Int)),Al,Bu rfl s,Ad,q,C3 o ω];cases b with| false=>exact .inr ⟨_,rfl,.inl rfl⟩| true=>exact .inl ⟨_,rfl,⟨j+1,rfl,ω⟩,by simp only[Int.toNat_natCast];omega⟩
  .have:j=l.T.length:=ω;subst this;exact .inr ⟨.inr (),ψ,.inr rfl⟩
 .rintro z (rfl|rfl)
  .exact⟨_,rfl,λh=>absurd h δ⟩
  .dsimp only;have w:∃r:Bz×Int,some ((⟨0,[]⟩:Bz),(9:Int))=some r/\(r.2=0->G4 r.1=true/\∀t∈r.1.T,∃u∈l.T,u.v=t.v):=⟨_,rfl,λh=>absurd h δ⟩;by_cases c:(l.T.length:Int)>64
   .rw[Aq c,Al,Ad,Al];exact w
   .rw[Aw c,Ao];obtain⟨b,C,_⟩:=Asy l.Q;rw[C,Ad,Ad];cases b with
    | true=>exact w
    | false=>
     rw[Ao];refine Ev (λv=>∃j:Nat,v=j/\j<=l.T.length/\LBd (l.T.take j)) (λv=>l.T.length-v.toNat) (λz=>z = .inl (⟨0,[]⟩,9)\/(z = .inr ()/\LBd l.T)) ⟨0,rfl,ω,λt d=>by simp at d⟩ ?_ ?_
     .rintro v ⟨j,rfl,y,q⟩;rcases Cb j l.T.length with o|o
      .have s:l.T[j]? = some l.T[j]:=B3 o;generalize l.T[j]=x at s;obtain⟨b,D,E⟩:=Asy x.C;simp only[Aq (ω:(j:Int)<(l.T.length:Int)),Al,Bu rfl s,Ad,D,C3 o ω];cases b with
       | true=>exact .inr ⟨_,rfl,.inl rfl⟩
       | false=>
        refine .inl ⟨_,rfl,⟨j+1,rfl,ω,λt d=>?_⟩,by simp only[Int.toNat_natCast];omega⟩;rw[Dd s]at d;rcases D7.1 d with d|d
        .exact q t d
        .rw[D0]at d;rw[d];exact E rfl
      .have:j=l.T.length:=ω;subst this;rw[Dq]at q;exact .inr ⟨.inr (),ψ,.inr ⟨rfl,q⟩⟩
     .rintro z (rfl|⟨rfl,q⟩)
      .exact⟨_,rfl,λh=>absurd h δ⟩
      .dsimp only;obtain⟨L,i,f,g⟩:=A58 l.Q l.T ω q;rw[i,Ad];refine⟨_,rfl,λh=>?_⟩;unfold Aju at h ⊢;by_cases e:G4 ⟨l.Q,L⟩=true
       .rw[A7 e];refine⟨e,λt d=>A6b ?_⟩;rw[<-g,f.cl d];exact f.nz t d
       .rw[Ay e]at h;exact absurd h δ
noncomputable def lcs:List Bc->Option (List Bc)
 | []=>some []
 | a::l=>match P4 a.L with
  | some (m,e)=>if e=0 then (lcs l).map λr=>⟨m,a.P⟩::r else none
  | none=>none
theorem As0 {l:List Bc} {r:Bz×Int} (h:P4 a.L=some r):lcs (a::l)=if r.2=0 then (lcs l).map λq=>⟨r.1,a.P⟩::q else none:=by simp only[lcs,h]
theorem As1:∀{A B:List Bc},(∀a∈A,a.L.T.length<=1048576)->lcs A=some B->B.length=A.length/\Dp B=Dp A/\∀b∈B,G4 b.L=true/\∃a∈A,b.P=a.P/\∀t∈b.L.T,∃u∈a.L.T,u.v=t.v
 | [],B,_,h=>by cases h;exact⟨rfl,rfl,λb d=>by cases d⟩
 | a::A,B,f,h=>by
  obtain⟨r,i,g⟩:=Asz a.L (f a ψ);rw[As0 i]at h;by_cases e:r.2=0
  .rw[A7 e]at h;obtain⟨C,o,rfl⟩:=Option.map_eq_some_iff.1 h;obtain⟨s,q,l⟩:=As1 (λa w=>f a (by simp[w])) o;obtain⟨k,j⟩:=g e;refine⟨by simp[s],by simp only[Dp,q],λb d=>?_⟩;rcases Fp.1 d with rfl|d
   .exact⟨k,a,ψ,rfl,j⟩
   .obtain⟨y,c,D,E⟩:=l b d;exact⟨y,c,by simp[D],E⟩
  .rw[Ay e]at h;cases h
noncomputable def Aej (A:List Bc):Int×List Bc->Option ((Int×List Bc)⊕((List Aj×Int)⊕(Int×List Bc))):=λ(b,g)=> bif b<(A.length:Int) then ((Ah A b).bind λf=> (P4 f.L).bind λc=> bif (c.2 != (0:Int)) then (some (.inr (.inl ([],9)))) else ((B4 40 g [(Bc.mk c.1 f.P)]).bind λh=> some (.inl ((Ac (b+1)),h)))) else (some (.inr (.inr (b,g))))
theorem A6d (g:∀a∈A,a.L.T.length<=1048576) (l:A.length<=1000) :
  ∃z,An (Aej A) (0,[])=some z/\((z = .inl ([],9)/\lcs A=none)\/∃B,z = .inr ((A.length:Int),B)/\lcs A=some B):=by
 obtain⟨e,k,i⟩:=I9 (step:=Aej A) (λs=>∃(j:Nat) (B:List Bc),s=((j:Int),B)/\j<=A.length/\B.length=j/\lcs A=(lcs (A.drop j)).map (B ++ ·)) (λs=>A.length-s.1.toNat)
  (λz=>(z = .inl ([],9)/\lcs A=none)\/∃B,z = .inr ((A.length:Int),B)/\lcs A=some B) (by
  rintro _ ⟨j,B,rfl,u,f,d⟩
  unfold Aej
  dsimp only
  rcases Cb j A.length with h|h
  .have o:A[j]? = some A[j]:=B3 h
   have b:A.drop j=A[j]::A.drop (j+1):=(List.getElem_cons_drop ..).symm
   rw[b]at d
   generalize A[j]=a at o d
   obtain⟨r,c,_⟩:=Asz a.L (g a (B6 o))
   rw[As0 c]at d
   rw[Aq ω,Al,Bu rfl o,Ad,c,Ad]
   by_cases e:r.2=0
   .left
    rw[A7 e]at d
    rw[Hw e,Ao,Dn (by rw[length_singleton];omega),Ad,C3 h ω]
    refine⟨_,rfl,⟨j+1,B++[⟨r.1,a.P⟩],rfl,ω,by simp[f],?_⟩,ζ⟩
    rw[d,Option.map_map]
    congr 1
    funext q
    simp
   .right
    rw[Ay e]at d
    rw[Gc e,Al]
    exact⟨_,rfl,.inl ⟨rfl,d⟩⟩
  .right
   have:j=A.length:=ω
   subst this
   rw[drop_length]at d
   rw[Aw ω,Ao]
   exact⟨_,rfl,.inr ⟨B,rfl,by rw[d];simp[lcs]⟩⟩) (0,[]) ⟨0,[],rfl,ω,rfl,ψ⟩
 exact⟨e,k,i⟩
noncomputable def trO (x:Cu) (t:Aj):Option (List Aj):=(lcs t.M.A).bind λB=>match Lf t.C ⟨t.M.F,B⟩ [] [] x.D x.V x.E.G x.E.U x.E.R with
 | some (out,e,_)=>if e=0/\out.length<=1000 then some out else none
 | none=>none
structure Tg (x:Cu) (t:Aj):Prop where
 sz:TSz t
 sh:Od t
 pr:I2 x.D x.V x.E t.M=true
 dg:Ch x.D x.V x.E t.M.F+Dr t.M.A<=6
theorem A6e {l:List Bc} (h:∀a∈l,0<=a.P):Dr l=(Dp l:Nat):=by induction l with| nil=>rfl| cons a l ih=>have i:=h a ψ;have d:=ih λb e=>h b (by simp[e]);have c:Dr (a::l)=a.P+Dr l:=(by unfold Dr;simp);rw[c,d];simp only[Dp];omega
theorem Tg.exp (J:CSz x) (hf:Ia x) {t:Aj} (h:Tg x t) {B:List Bc} (y:lcs t.M.A=some B) :
  ∃out e,(∀d o,Dm x.D x.V x.E d->PMg x.D x.V x.E o->∃k j,Lf t.C ⟨t.M.F,B⟩ d o x.D x.V x.E.G x.E.U x.E.R=some (out,e,k,j)/\Dm x.D x.V x.E k/\PMg x.D x.V x.E j)/\(∀u∈out,rq t.C≠0/\RB 4060 u.C/\K8 x 320 u.M/\∃n:Nat,rq u.C=rq t.C*(n:Rat))/\out.length<=1000000000/\trO x t=if e=0/\out.length<=1000 then some out else none:=by
 have s:=h.sz.mo
 obtain⟨⟨I,G,E⟩,H,R⟩:=h.sh
 have hp:=h.pr
 unfold I2 at hp
 rw[D3,H9,H9]at hp
 have i:∀f∈t.M.F,0<=D8 x.D x.V x.E f:=λf hf=>of_decide_eq_true (hp.1 f hf)
 have g:∀a∈t.M.A,0<=a.P/\I1 x.V x.E a.L=true:=λa ha=>by
  have:=hp.2 a ha
  rw[D3,D4]at this
  exact this
 obtain⟨U,S,l⟩:=As1 s.al y
 have L:=Pn i
 have hd:=h.dg
 rw[A6e λa ha=>(g a ha).1]at hd
 have q:(t.M.F.map λf=>Bt f.I).sum<=320:=Nat.le_trans (Asx t.M.F 40 E) ω
 obtain⟨out,e,C,W,Q,T⟩:=A59 J hf (c:=t.C) (F:=t.M.F) (A:=B) ⟨h.sz.co.num,h.sz.co.den,I,G⟩ ⟨λf hf=>⟨(s.fr f hf).2,(s.fr f hf).1,i f hf⟩,ω,ω,H⟩ ⟨λb hb=>by
   obtain⟨_,a,d,o,_⟩:=l b hb
   rw[o];exact (g a d).1,λb hb=>(l b hb).1,ω,ω⟩ (λb hb=>by
   obtain⟨_,a,d,_,N⟩:=l b hb
   have hi:=(g a d).2
   unfold I1 at hi ⊢
   rw[H9]at hi ⊢
   intro w V
   obtain⟨u,D,z⟩:=N w V
   have:=hi u D
   unfold Yr at this ⊢
   rw[<-z];exact this) ω q
 refine⟨out,e,C,Q,T,?_⟩
 obtain⟨k,j,M,_⟩:=C [] [] (λp hp=>by cases hp) (PMg.nil _ _ _)
 unfold trO
 rw[y,Ad,M]
noncomputable def Aj0 (x:Cu) (p:List Aj):Int×List (ByteArray×Int)×List (ByteArray×List Ar)×List (ByteArray×Int)×List Aj->Option ((Int×List (ByteArray×Int)×List (ByteArray×List Ar)×List (ByteArray×Int)×List Aj)⊕((List Aj×Int)⊕(List (ByteArray×Int)×List (ByteArray×List Ar)×List (ByteArray×Int)×List Aj))):=λ(h,k,g,f,c)=>
 bif h<(p.length:Int) then (
 (Ah p h).bind λb=>
 (An (Aej b.M.A) (0,[])).bind λz=>
 match z with
 | .inl (j,i)=>(
 some (.inr (.inl (j,i)))
 )
 | .inr (q,l)=>(
 (Lf b.C (Br.mk b.M.F l) k g x.D x.V x.E.G x.E.U x.E.R).bind λd=>
 bif (d.2.1 != (0:Int)) then (
 some (.inr (.inl ([],9)))
 )
 else (
 bif (d.1.length:Int)>(1000:Int) then (
 some (.inr (.inl ([],9)))
 )
 else (
 (Lg d.1 f c).bind λe=>
 some (.inl ((Ac (h+1)),d.2.2.1,d.2.2.2,e.1,e.2))
 )
 )
 )
 )
 else (
 some (.inr (.inr (k,g,f,c)))
 )
theorem A6f (G:CSz x) (hf:Ia x) (hp:∀t∈p,Tg x t) (S:p.length<=20) {i:List (ByteArray×Int)} (I:Dm x.D x.V x.E i) :
  ∃z,An (Aj0 x p) (0,i,[],[],[])=some z/\((z = .inl ([],9)/\∃t∈p,trO x t=none)\/∃f c T,z = .inr (f,c,plc T,T)/\(∀t∈p,(trO x t).isSome)/\Col 110000 (K8 x 320) T/\T.length<=20000/\∀m,cf T m=K9 (λt=>(trO x t).getD []) m p):=by
 obtain⟨e,N,M⟩:=I9 (step:=Aj0 x p) (λs=>∃(j:Nat) (H:List (ByteArray×Int)) (Q:List (ByteArray×List Ar)) (T:List Aj),s=((j:Int),H,Q,plc T,T)/\j<=p.length/\Dm x.D x.V x.E H/\PMg x.D x.V x.E Q/\(∀t∈p.take j,(trO x t).isSome)/\Col (4060+j*5000) (K8 x 320) T/\T.length<=j*1000/\∀m,cf T m=K9 (λt=>(trO x t).getD []) m (p.take j)) (λs=>p.length-s.1.toNat)
  (λz=>(z = .inl ([],9)/\∃t∈p,trO x t=none)\/∃f c T,z = .inr (f,c,plc T,T)/\(∀t∈p,(trO x t).isSome)/\Col 110000 (K8 x 320) T/\T.length<=20000/\∀m,cf T m=K9 (λt=>(trO x t).getD []) m p) (by
  rintro _ ⟨j,H,Q,T,rfl,hj,g1,g2,g3,W,g5,g6⟩
  unfold Aj0
  dsimp only
  rcases Cb j p.length with h|h
  .have V:p[j]? = some p[j]:=B3 h
   generalize p[j]=t at V
   have b:=B6 V
   have d:=hp t b
   rw[Aq ω,Al,Bu rfl V,Ad]
   obtain⟨z,q,z2⟩:=A6d d.sz.mo.al (by have:=d.sh.2.2;omega)
   rw[q,Ad]
   rcases z2 with⟨rfl,g⟩|⟨B,rfl,J⟩
   .exact .inr ⟨_,rfl,.inl ⟨rfl,t,b,by unfold trO;rw[g];rfl⟩⟩
   .dsimp only
    obtain⟨out,L,a1,a2,a3,o⟩:=d.exp G hf J
    obtain⟨d1,d2,A,y,u⟩:=a1 H Q g1 g2
    rw[A,Ad]
    dsimp only
    by_cases X:L=0
    .rw[Hw X,Ao]
     by_cases g:out.length<=1000
     .rw[Aw ω,Ao]
      rw[A7 ⟨X,g⟩]at o
      obtain⟨U,E,l,R,D⟩:=A6a (x:=x) ⟨d.sz.co.num,d.sz.co.den,d.sh.1.1,d.sh.1.2.1⟩ a2 g W ω ω ω
      left
      rw[E,Ad,C3 h ω]
      refine⟨_,rfl,⟨j+1,d1,d2,U,rfl,ω,y,u,λs C=>?_,⟨l.dst,λw hw=>(l.tb w hw).mono ω,l.mo⟩,ω,λm=>?_⟩,ζ⟩
      .rw[Dd V]at C
       rcases D7.1 C with C|C
       .exact g3 s C
       .rw[D0]at C
        rw[C,o];rfl
      .rw[D,g6,Dd V,Zu]
       simp only[K9,o,Option.getD_some]
       grind
     .rw[Aq ω,Al]
      rw[Ay λk=>g k.2]at o
      exact .inr ⟨_,rfl,.inl ⟨rfl,t,b,o⟩⟩
    .rw[Gc X,Al]
     rw[Ay λk=>X k.1]at o
     exact .inr ⟨_,rfl,.inl ⟨rfl,t,b,o⟩⟩
  .right
   have:j=p.length:=ω
   subst this
   rw[Dq]at g3 g6
   rw[Aw ω,Ao]
   exact⟨_,rfl,.inr ⟨H,Q,T,rfl,g3,⟨W.dst,λw hw=>(W.tb w hw).mono ω,W.mo⟩,ω,g6⟩⟩)
  (0,i,[],[],[]) ⟨0,i,[],[],rfl,ω,I,PMg.nil _ _ _,ψ,Col.nil _ _,ψ,λm=>by simp[cf,K9]⟩
 exact⟨e,N,M⟩
def Gd (x:Cu) (t:Aj):Prop:=I2 x.D x.V x.E t.M=true/\Ch x.D x.V x.E t.M.F+Dr t.M.A<=6/\(trO x t).isSome
noncomputable def Aek (x:Cu) (b2:List (ByteArray×List Ar)) (p:List Aj):Int×List (ByteArray×Int)->Option ((Int×List (ByteArray×Int))⊕((List Aj×Int)⊕List (ByteArray×Int))):=λ(d,c)=> bif d<(p.length:Int) then ((Ah p d).bind λf=> (Rn f.M c b2 x.D x.V x.E.G x.E.U x.E.R).bind λb=> bif (!b.1) then (some (.inr (.inl ([],1)))) else (some (.inl ((Ac (d+1)),b.2)))) else (some (.inr (.inr c)))
theorem A6g (C:Lp x.D x.V x.E) (b2:List (ByteArray×List Ar)) (hp:∀t∈p,TSz t) (B:p.length<=1000) (q:Dm x.D x.V x.E g) : ∃z,An (Aek x b2 p) (0,g)=some z/\((z = .inl ([],1)/\∃t∈p,I2 x.D x.V x.E t.M≠true)\/∃o,z = .inr o/\Dm x.D x.V x.E o/\∀t∈p,I2 x.D x.V x.E t.M=true):=by
 obtain⟨l,k,i⟩:=I9 (step:=Aek x b2 p) (λs=>∃(j:Nat) (o:List (ByteArray×Int)),s=((j:Int),o)/\j<=p.length/\Dm x.D x.V x.E o/\∀t∈p.take j,I2 x.D x.V x.E t.M=true) (λs=>p.length-s.1.toNat) (λz=>(z = .inl ([],1)/\∃t∈p,I2 x.D x.V x.E t.M≠true)\/∃o,z = .inr o/\Dm x.D x.V x.E o/\∀t∈p,I2 x.D x.V x.E t.M=true) (by
  rintro _ ⟨j,o,rfl,D,f,b⟩;unfold Aek;dsimp only;rcases Cb j p.length with h|h
  .have e:p[j]? = some p[j]:=B3 h;generalize p[j]=t at e;have c:=B6 e;obtain⟨A,y,u⟩:=Apa (b2:=b2) C f t.M (hp t c).mo;rw[Aq ω,Al,Bu rfl e,Ad,y,Ad];dsimp only;cases w:I2 x.D x.V x.E t.M with
   | false=>exact .inr ⟨_,rfl,.inl ⟨rfl,t,c,by rw[w];decide⟩⟩
   | true=>
    refine .inl ⟨_,rfl,⟨j+1,A,by rw[C3 h ω],ω,u,λs d=>?_⟩,by rw[C3 h ω];simp;omega⟩;rw[Dd e]at d;rcases D7.1 d with d|d
    .exact b s d
    .rw[D0]at d;rw[d];exact w
  .have:j=p.length:=ω;subst this;rw[Dq]at b;rw[Aw ω,Ao];exact .inr ⟨_,rfl,.inr ⟨o,rfl,f,b⟩⟩) (0,g) ⟨0,g,rfl,ω,q,ψ⟩
 exact⟨l,k,i⟩
noncomputable def Ael (x:Cu) (b2:List (ByteArray×List Ar)) (p:List Aj):Int×List (ByteArray×Int)->Option ((Int×List (ByteArray×Int))⊕((List Aj×Int)⊕List (ByteArray×Int))):=λ(d,c)=> bif d<(p.length:Int) then ((Ah p d).bind λe=> (Ro e.M c b2 x.D x.V x.E.G x.E.U x.E.R).bind λb=> bif b.1>(6:Int) then (some (.inr (.inl ([],13)))) else (some (.inl ((Ac (d+1)),b.2)))) else (some (.inr (.inr c)))
theorem A6h (E:Lp x.D x.V x.E) (b2:List (ByteArray×List Ar)) (hp:∀t∈p,TSz t) (i:∀t∈p,I2 x.D x.V x.E t.M=true) (D:p.length<=1000) (u:Dm x.D x.V x.E g) : ∃z,An (Ael x b2 p) (0,g)=some z/\((z = .inl ([],13)/\∃t∈p,¬Ch x.D x.V x.E t.M.F+Dr t.M.A<=6)\/∃o,z = .inr o/\Dm x.D x.V x.E o/\∀t∈p,Ch x.D x.V x.E t.M.F+Dr t.M.A<=6):=by
 obtain⟨q,l,k⟩:=I9 (step:=Ael x b2 p) (λs=>∃(j:Nat) (o:List (ByteArray×Int)),s=((j:Int),o)/\j<=p.length/\Dm x.D x.V x.E o/\∀t∈p.take j,Ch x.D x.V x.E t.M.F+Dr t.M.A<=6) (λs=>p.length-s.1.toNat) (λz=>(z = .inl ([],13)/\∃t∈p,¬Ch x.D x.V x.E t.M.F+Dr t.M.A<=6)\/∃o,z = .inr o/\Dm x.D x.V x.E o/\∀t∈p,Ch x.D x.V x.E t.M.F+Dr t.M.A<=6) (by
  rintro _ ⟨j,o,rfl,G,f,c⟩;unfold Ael;dsimp only;rcases Cb j p.length with h|h
  .have w:p[j]? = some p[j]:=B3 h;generalize p[j]=t at w;have b:=B6 w;obtain⟨d,B,y,A⟩:=Apb (b2:=b2) E f t.M (hp t b).mo (i t b);rw[Aq ω,Al,Bu rfl w,Ad,B,Ad,y];by_cases C:Ch x.D x.V x.E t.M.F+Dr t.M.A<=6
   .rw[decide_eq_true C];refine .inl ⟨_,rfl,⟨j+1,d.2,by rw[C3 h ω],ω,A,λs e=>?_⟩,by rw[C3 h ω];simp;omega⟩;rw[Dd w]at e;rcases D7.1 e with e|e
    .exact c s e
    .rw[D0]at e;rw[e];exact C
   .rw[decide_eq_false C];exact .inr ⟨_,rfl,.inl ⟨rfl,t,b,C⟩⟩
  .have:j=p.length:=ω;subst this;rw[Dq]at c;rw[Aw ω,Ao];exact .inr ⟨_,rfl,.inr ⟨o,rfl,f,c⟩⟩) (0,g) ⟨0,g,rfl,ω,u,ψ⟩;exact⟨q,l,k⟩
theorem Aj1 {a:Option α} {z:α} (h:a=some z) (k:α->Option β):a.bind k=k z:=by rw[h];rfl
theorem Aem (j:CSz x) (hp:∀t∈p,TSz t/\Od t) (D:p.length<=20) : (¬(Ia x/\∀t∈p,Gd x t)/\∃e,e≠0/\P3 x p=some ([],e))\/((Ia x/\∀t∈p,Gd x t)/\∃R,P3 x p=some (lim R)/\CP R/\(∀t∈R,K8 x 320 t.M/\RB 110001 t.C)/\∀m,cf R m=K9 (λt=>(trO x t).getD []) m p):=by
 unfold P3;by_cases w:Ia x
 .obtain⟨I,H,B⟩:=Arj j (ps:=[]) (λr g=>by cases g) ψ ⟨w,λr g=>by cases g⟩;have c:=w.ctx j;rw[H];simp only[Ad,bnt,Ao];obtain⟨z,b,C⟩:=A6g c [] (λt d=>(hp t d).1) ω B;unfold Aek at b;rw[b,Ad];rcases C with⟨rfl,t,t1,t2⟩|⟨o,rfl,l,f⟩
  .exact .inl ⟨λh=>t2 (h.2 t t1).1,1,δ,rfl⟩
  .dsimp only;obtain⟨z,b,C⟩:=A6h c [] (λt d=>(hp t d).1) f ω l;unfold Ael at b;rw[b,Ad];rcases C with⟨rfl,t,t1,t2⟩|⟨o,rfl,k,i⟩
   .exact .inl ⟨λh=>t2 (h.2 t t1).2.1,13,δ,rfl⟩
   .dsimp only;rw[Aw ω,Ao];simp only[Rp,Ad];obtain⟨z,b,C⟩:=A6f j w (λt d=>⟨(hp t d).1,(hp t d).2,f t d,i t d⟩) D k;rcases C with⟨rfl,t,t1,t2⟩|⟨d1,d2,T,rfl,J,E,G,A⟩
    .exact .inl ⟨λh=>(by have:=(h.2 t t1).2.2;rw[t2]at this;cases this),9,δ,Aj1 b _⟩
    .obtain⟨R,y,u,s,q⟩:=A5w (P:=K8 x 320) (λm h=>h.1.cmo) (plc T) T E ω ω;exact .inr ⟨⟨w,λt d=>⟨f t d,i t d,J t d⟩⟩,R,(Aj1 b _).trans (Aj1 y _),u,q,λm=>by rw[s,A]⟩
 .rw[A27 j (ps:=[]) (λr g=>by cases g) ψ λh=>w h.1];exact .inl ⟨λh=>w h.1,1,δ,rfl⟩
theorem A6i (x:Cu) (p:List Aj) (c:Int) (j:CSz x) (pl:p.length<=1048576) (hp:∀t∈p,TSz t):Aaz x p c=some true:=by
 unfold Aaz;obtain⟨b,b1,b2⟩:=A56 x j [p] ψ (λs H=>by rw[D0]at H;subst H;exact⟨pl,hp⟩);rw[b1,Ad];cases b with
 | false=>rfl
 | true=>
  obtain⟨l1,M⟩:=b2 rfl p ψ;simp only[bnt,Ao];by_cases Q:c<0
  .rw[Aq Q];rfl
  by_cases h2:c>(p.length:Int)
  .rw[Aw Q,Aq h2];rfl
  rw[Aw Q,Aw h2];obtain⟨k,rfl⟩:∃k:Nat,c=k:=⟨c.toNat,ω⟩;have hk:k<=p.length:=ω;have H:Ei p (k:Int) (p.length:Int)=some (p.drop k):=(by unfold Ei;rw[A7 ⟨ω,ω,ω⟩];simp);obtain⟨q,h⟩:∃q,q=p.drop k++p.take k:=⟨_,rfl⟩;have W:∀t,t∈q↔t∈p:=λt=>by rw[h,D7,or_comm,<-D7,take_append_drop]
  have a6:q.length=p.length:=(by rw[h];simp;omega);have z:∀f m,K9 f m q=K9 f m p:=λf m=>by rw[h,Zu,Rat.add_comm,<-Zu,take_append_drop]
  have a1:B4 104 [] (p.drop k)=some (p.drop k):=Dn ζ;have a2:B4 104 (p.drop k) (p.take k)=some q:=(by rw[h];exact Dn ζ);have a3:B4 104 [] p=some p:=Dn ζ;have a4:B4 104 p q=some (p++q):=Dn ω;simp only[Ao,Ad,H,a1,Sv rfl hk,a2,a3,a4];have u:∀t∈p,TSz t/\Od t:=λt d=>⟨hp t d,M t d⟩;have l:∀t∈q,TSz t/\Od t:=λt d=>u t ((W t).1 d);rcases Aem j u ω with⟨n,e,e0,o⟩|⟨g,R,o,cp,w,J⟩
  .rcases Aem j l ω with⟨_,e',B,C⟩|⟨A,_⟩
   .simp only[o,C,Ad,Gc e0,Gc B,Al,Ai4]
   .exact (n ⟨A.1,λt d=>A.2 t ((W t).2 d)⟩).elim
  .have A:∀t∈q,Gd x t:=λt d=>g.2 t ((W t).1 d);rcases Aem j l ω with⟨n,_⟩|⟨_,i,C,I,N,E⟩
   .exact (n ⟨g.1,A⟩).elim
   .have:i=R:=I.ext cp λm=>by rw[E,J,z]
    subst this;rcases Aem j (p:=p++q) (λt d=>(D7.1 d).elim (u t) (l t)) (by rw[Eu];omega) with⟨n,_⟩|⟨_,T,c3,G,_,D⟩
    .exact (n ⟨g.1,λt d=>(D7.1 d).elim (g.2 t) (A t)⟩).elim
    .by_cases hl:1000<i.length
     .rw[Asw hl]at o C;simp only[o,C,Ad,Gc (show (9:Int)≠0 by decide),Al,Ai4]
     .rw[Ajy ω]at o C;obtain⟨r,_,X,V,_,U⟩:=A3r 2 δ δ;obtain⟨S,Z,y,Y⟩:=A5k j g.1 (n:=1000) (k:=110001) (p:=i) ⟨cp,λt d=>(w t d).1.1,λt d=>(w t d).2,ω⟩ V δ δ δ δ;have:T=S:=G.ext y.cp λm=>by rw[D,Zu,z,Y,U,J];grind
      subst this;rw[Ajy y.len]at c3;have hc:Jp x i:=Jp.of cp (λt d=>(w t d).1.1) (λt d=>(w t d).2.mono δ) ω;obtain⟨v,L,v2⟩:=A1j x j i hc.sz;have hv:v=true:=v2.2 ⟨g.1,hc.can⟩;subst hv;have k1:Om i i=some true:=Ai5 i ω λt d=>⟨(w t d).1.1.2,(w t d).2.mono δ⟩;have k2:Om T T=some true:=Ai5 T (by have:=y.len;omega) λt d=>⟨(y.mo t d).2,(y.rb t d).mono δ⟩;simp only[o,C,c3,X,Z,k1,k2,L,Ad,bne_self_eq_false,Ao,beq_self_eq_true,Al,Ai4]
end Go.Ab
