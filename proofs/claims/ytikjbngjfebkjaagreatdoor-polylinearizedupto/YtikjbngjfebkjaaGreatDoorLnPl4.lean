/- Plain laws. -/
import Derived.Test.YtikjbngjfebkjaaGreatDoorLnPl3
open List
namespace Go.Ab
open Go
variable {m:A7} {t:Af} {e i:Ai} {y:Ao} {res:Az} {x:Ck} {ts:List Af} {es:List Ai} {data:List Aj} {p:List Ao} {A B l:List Bh} {K N a b d j k n:Nat} {R α β:Type} {J:Int×Bool×List Int×List Int->Option R} {r:R} {Q:R->Prop} {g:α->Nat}
theorem Anp {α:Type}:∀(l:List α) (r:List Bool) (s:Nat) (n:Nat) (p:Int) (L:Nat->Option α),l.length=r.length->(∀j,L (s+j)=l[j]?) -> (((r.zipIdx s).filter λq=>!q.1).map λq=>(q.2:Int))[n]? = some p->∃(m:Nat) (a:α),p=m/\L m=some a/\(J7 l r)[n]? = some a
 | [],[],s,n,p,L,_,_,h=>by simp at h
 | a::l,b::r,s,n,p,L,i,g,h=>by
  have c:l.length=r.length:=(by simpa using i);have f:∀j,L (s+1+j)=l[j]?:=λj=>by rw[show s+1+j=s+(j+1) by omega,g];rfl
  cases b with
  | true=>simp only[zipIdx_cons,filter_cons,Fz]at h;obtain⟨m,x,o,u,v⟩:=Anp l r (s+1) n p L c f (by simpa using h);exact⟨m,x,o,u,by simpa[J7] using v⟩
  | false=>simp only[zipIdx_cons,filter_cons,Bool.not_false,if_true,map_cons]at h;cases n with| zero=>simp only[getElem?_cons_zero,Option.some.injEq]at h;exact⟨s,a,h.symm,by have:=g 0;simpa using this,by simp[J7]⟩| succ n=>simp only[getElem?_cons_succ]at h;obtain⟨m,x,o,u,v⟩:=Anp l r (s+1) n p L c f h;exact⟨m,x,o,u,by simpa[J7] using v⟩
 | [],_::_,_,_,_,_,h,_,_=>by simp at h
 | _::_,[],_,_,_,_,h,_,_=>by simp at h
theorem Bac {l:List α} {r:List Bool} (b:l.length=r.length) {p:Int} (h:(Jb r)[n]? = some p):∃(m:Nat) (a:α),p=m/\l[m]? = some a/\(J7 l r)[n]? = some a := Anp l r 0 n p (λj=>l[j]?) b (λj=>ψ) (by unfold Jb at h;exact h)
theorem Anq (o:Bs a<=K) (hb:Bs b<=K) (c:1<=K) (h:K<60000000000):E6 (cR a) (cR b)=some (cR (a*b)):=by obtain⟨q,s,u⟩:=Tc a;obtain⟨v,w,f⟩:=Tc b;rw[X8 _ _ K K (O0 o c) (O0 hb c) ω ω,q,s,u,v,w,f];simp[cR]
def Sm (a:Nat):Prop:=a<=5000 ^ 6
theorem Sm.lg (h:Sm a):Bs a<=3:=Kk (Nat.lt_of_le_of_lt h δ)
theorem Sm.of (h:a<=5000 ^ d) (hd:d<=6):Sm a:=Nat.le_trans h (Nat.pow_le_pow_right δ hd)
theorem Adc (data:List Aj):∀(is:List Ai) (ts:List Af) (d j:Nat),C4 data is ts=some d->∃e,C4 data (is.take j) (ts.take j)=some e/\e<=d
 | [],[],d,j,_=>⟨0,by simp[C4],ω⟩
 | i::is,t::ts,d,0,_=>⟨0,by simp[C4],ω⟩
 | i::is,t::ts,d,j+1,h=>by
  rw[Nx]at h;cases o:Dj data i t with
  | none=>rw[o]at h;cases h
  | some a=>rw[o,Ad]at h;cases q:C4 data is ts with| none=>rw[q]at h;cases h| some b=>rw[q]at h;have h:a+b=d:=Eu h;obtain⟨e,c,f⟩:=Adc data is ts b j q;refine⟨a+e,?_,ω⟩;rw[take_succ_cons,take_succ_cons,Nx,o,Ad,c];rfl
 | [],_::_,_,_,h=>by simp only[C4]at h;cases h
 | _::_,[],_,_,h=>by simp only[C4]at h;cases h
theorem Bad {is:List Ai} {b:List Az} (h:C4 data is ts=some d) (s:d<=6) (o:∀w∈b,C1 w<=5000) (j:Nat):Sm (bvs data (is.take j) (ts.take j) (b.take j)):=by obtain⟨e,c,f⟩:=Adc data is ts d j h;exact Sm.of ((Yr data 5000 δ _).2 _ _ _ e (Nat.le_refl _) c λw q=>o w (mem_of_mem_take q)) ω
theorem Bae (C:Szv data) (F:t.G=5) {x:Az} (v:Hi data x t=true) (z:x.U=e.U) (b:G2 data t e.U=some ts) : (M8 data t e).types=ts/\(Jb (Eb data t.U e.U)).length=ts.length/\ts.length<=6/\(∀a∈ts,B0 a<=200) /\ ∀(j:Nat) (s:Int),(Jb (Eb data t.U e.U))[j]? = some s->∃(m:Nat) (a:Af) (w:Az),s=m/\ts[j]? = some a/\x.K[m]? = some w/\(J7 x.K (Eb data t.U e.U))[j]? = some w/\Hi data w a=true/\C1 w<=C1 x:=by
 have D:=b;unfold G2 at b;cases o:Jp data t e.U with
 | none=>rw[o]at b;cases b
 | some fl=>
  rw[o]at b;have b:Gf fl (Eb data t.U e.U)=ts:=Eu b;have g:=Xz o;have c:Ib data x.K fl=true:=(by rw[Ta,Ar ω,Ar ω,Ar ω,Ar ω,Au F]at v;rw[z,o]at v;simp only[Cv]at v;exact v.2);have u:x.K.length=fl.length:=by
   by_cases I:x.K.length=fl.length
   .exact I
   .rw[Acu data _ _ I]at c;cases c
  have J:fl.length<=6:=(by obtain⟨M,y,_,A,_,H,E,_⟩:=Pv o;obtain⟨L,_⟩:=C M (Hg A).2.2.2 y (Hg H).2.2.2;rw[E];simpa using L);have S:=X0 fl (Eb data t.U e.U);have h:=A9m fl (Eb data t.U e.U) g.symm;have R:=Mj x;refine⟨by unfold M8;simp only[o,b],by rw[h,b],by rw[<-b];omega,(Agu D).1,λj s k=>?_⟩;obtain⟨m,a,rfl,G,q⟩:=A9l g.symm k;obtain⟨N,w,U,f,B⟩:=Bac (l:=x.K) ω k;obtain rfl:m=N:=ω;rw[b]at q;refine⟨m,a,w,rfl,q,f,B,?_,?_⟩
  .rw[Acv data _ _ u]at c;exact Gt.1 c (w,a) (Bz (i:=m) (by rw[getElem?_zip_eq_some];exact⟨f,G⟩))
  .have:=M5 (Bz f);omega
theorem Baf (hz:Szv data) (hk:t.G=5) (l:List Ai) (hp:∀e∈l,∃ts,G2 data t e.U=some ts/\C4 data e.K ts=some (pdg data t e)) (bi:l.length+pds data t l<=6) (k:Nat) (b7:∀e∈l,∀(i':Ai) (t':Af) (w:Az) (d:Nat),i'∈e.K->Dj data i' t'=some d->d<=6->B0 t'<=200->Hi data w t'=true->C1 w<=5000->Oi k data t' i' w=some (cR (bv data i' t' w))) (x:Az) (hx:Hi data x t=true) (bb:C1 x<=5000) (f:Nat->Nat) (hf:∀q,q<=l.length->f q<=5000 ^ (q+pds data t (l.take q))) (b5:∀q,q<=l.length->P9 (bws data l t) x f q<=5000 ^ (q+pds data t (l.take q))) {J:Int×List Ao->Option R} (hJ:J (0,Js l.length (P9 (bws data l t) x f))=some r) : (Am (S:=(Int×List Ao)) (E:=(Int×List Ao)) (λ(c,u)=> bif c>(0:Int) then ((Ag (l.map (M8 data t)) (Ac (c-1))).bind λz=> (show OB from bif (z.con != x.U) then some true else ((Ag u (Ac (c-1))).bind λaf=> (I1 af).bind λae=> some (ae==(0:Int)))).bind λad=> bif ad then some (.inl ((Ac (c-1)),u)) else ((Ag u (Ac (c-1))).bind λI=> (Am (S:=(Int×Bool×List Int×List Int)) (E:=(Int×Bool×List Int×List Int)) (λ(y,X,v,C)=> bif y<(z.places.length:Int) then ((Ag z.places y).bind λF=> (Ag z.types y).bind λH=> (Ag z.kids y).bind λac=> (Ag x.K F).bind λab=> (Oi k data H ac ab).bind λP=> (E6 (Ao.mk X v C) P).bind λo=> some (.inl ((Ac (y+1)),o.N,o.U,o.B))) else some (.inr (y,X,v,C))) (0,I.N,I.U,I.B)).bind λ(a3,aa,T,a8)=> (Ag u c).bind λG=> (Jj G (Ao.mk aa T a8)).bind λa7=> (Ag u c).bind λb9=> some (.inl ((Ac (c-1)),(Ct u c a7)))))
   else some (.inr (c,u))) ((l.length:Int),Js l.length f)).bind J=some r:=by
 generalize hg:P9 (bws data l t) x f=g at hJ b5;have sm:∀q,q<=l.length->q+pds data t (l.take q)<=6:=λq hq=>by have:=Bab data t l q;omega
 refine Jn l.length (λi=>(((l.length-i:Nat):Int),Js l.length λp=>if l.length-i<p then g p else f p)) ?_ ?_ ?_
 .simp only[Nat.sub_zero,Int.ofNat_eq_natCast];congr 1;exact Anf (λp hp=>by rw[Ar ω])
 .intro i hi;obtain⟨q,hq⟩:∃q:Nat,l.length-i=q+1:=⟨l.length-i-1,ω⟩;have a0:l.length-(i+1)=q:=ω;have U:q+1<=l.length:=ω;have W:l[q]? = some l[q]:=Bq ω;generalize l[q]=e at W;have ap:=Bz W;have w1:Ac (((q+1:Nat):Int)-1)=((q:Nat):Int):=(by rw[show (((q+1:Nat):Int)-1)=(q:Int) by omega,Ac,B4] <;> omega);have b6:Ag (l.map (M8 data t)) (q:Int)=some (M8 data t e):=Br rfl (by rw[getElem?_map,W];rfl);have a1:g (q+1)=f (q+1)+f q*wOf data t e x:=(by rw[<-hg];simp only[P9,Ah6,W,Option.map_some]);simp only[hq,a0,As (ω:((q+1:Nat):Int)>0),Ak,w1,b6,Ad];have ao:Ag (Js l.length λp=>if q+1<p then g p else f p) (q:Int)=some (cR (f q)):=(by rw[Br rfl (Td _ ω),Ar ω]);have b4:Ag (Js l.length λp=>if q+1<p then g p else f p) ((q+1:Nat):Int)=some (cR (f (q+1))):=(by rw[Br rfl (Td _ ω),Ar ω]);have L:g (q+1)=f (q+1)->Js l.length (λp=>if q+1<p then g p else f p)=Js l.length (λp=>if q<p then g p else f p):=λY=>Anf (λp hp=>by
   by_cases e2:q+1<p
   .rw[Au e2,Au ω]
   .rw[Ar e2];by_cases e3:q<p
    .rw[Au e3,show p=q+1 by omega,Y]
    .rw[Ar e3]);show ((bif (e.U != x.U) then some true else _).bind _)=_;by_cases B:x.U=e.U
  .rw[G1 B.symm];have sq:=Sm.of (hf q ω) (sm q ω);have aq:=Sm.of (hf (q+1) U) (sm (q+1) U);simp only[Ap,ao,Ad,A9k sq.lg δ δ];by_cases a6:f q=0
   .rw[Au a6];simp only[beq_self_eq_true,Ak];rw[L (by rw[a1,a6,Nat.zero_mul,Nat.add_zero])]
   .rw[Ar a6];have b8:((1:Int)==0)=false:=rfl;simp only[b8,Ap,ao,Ad];obtain⟨ts,ah,ag⟩:=hp e ap;obtain⟨ay,ai,ba,az,ak⟩:=Bae hz hk hx B ah;have b0:(M8 data t e).places=Jb (Eb data t.U e.U):=rfl;have b3:(M8 data t e).kids=e.K:=rfl;rw[ay,b0,b3];obtain⟨i1,i2⟩:=Yk data _ _ _ ag;have bh:q+1+pds data t (l.take q)+pdg data t e<=6:=(by have:=sm (q+1) U;rw[Anm W]at this;omega);generalize Z:J7 x.K (Eb data t.U e.U)=D at ak;have ar:∀w∈D,C1 w<=5000:=λw hw=>by rw[<-Z]at hw;have:=M5 (Ano hw);have:=Mj x;omega
    have M:∀j,Sm (f q*bvs data (e.K.take j) (ts.take j) (D.take j)):=λj=>by obtain⟨e',Y,e2⟩:=Adc data e.K ts _ j ag;have h1:=(Yr data 5000 δ _).2 _ _ (D.take j) e' (Nat.le_refl _) Y λw hx=>ar w (mem_of_mem_take hx);have h2:=Nat.mul_le_mul (hf q ω) h1;rw[<-Nat.pow_add]at h2;exact Sm.of h2 ω
    have av:wOf data t e x=bvs data e.K ts D:=(by unfold wOf;rw[Au B,Z];unfold J8;rw[ah]);refine Gd (Jb (Eb data t.U e.U)) (λj=>((j:Int),(cR (f q*bvs data (e.K.take j) (ts.take j) (D.take j))).N,(cR (f q*bvs data (e.K.take j) (ts.take j) (D.take j))).U,(cR (f q*bvs data (e.K.take j) (ts.take j) (D.take j))).B)) ?_ ω ?_ ?_
    .simp only[take_zero,Tf,Nat.mul_one];rfl
    .intro j pl hj aj h1 h2 h3;obtain⟨mm,a,w,rfl,V,hw,au,ax,be⟩:=ak j pl aj;have N:e.K[j]? = some (e.K[j]' ω):=Bq _;generalize e.K[j]'_=i' at N;obtain⟨d,d1,d2⟩:=i2 j i' a N V;have hb:=Sm.of ((Yr data 5000 δ _).1 i' a w d (Nat.le_refl _) d1 ω) ω;simp only[h1,h2,h3,Ak,Ad,Br rfl V,Br rfl N,Br rfl hw];rw[b7 e ap i' a w d (Bz N) d1 ω (az a (Bz V)) ax ω,Ad];show (E6 (cR (f q*bvs data (e.K.take j) (ts.take j) (D.take j))) (cR (bv data i' a w))).bind _=_;rw[Anq (M j).lg hb.lg δ δ,Ank data _ _ _ j i' a w N V au,Nat.mul_assoc];rfl
    .intro h1;refine⟨_,by simp only[h1];rfl,?_⟩;have A:=M (Jb (Eb data t.U e.U)).length;have bf:D.length=ts.length:=by
      have:∀(l:List Az) (r:List Bool),l.length=r.length->(J7 l r).length=(Jb r).length:=by
       intro l r hl;unfold J7 Jb;rw[C5,C5];have a2:∀(l:List Az) (r:List Bool) (s:Nat),l.length=r.length->((r.zipIdx s).filter λq=>!q.1).length=((l.zip r).filter λp=>!p.2).length:=by
        intro l;induction l with
        | nil=>intro r s h;have:r = []:=Fr.1 h.symm;subst this;rfl
        | cons a l ih=>intro r s h;cases r with| nil=>simp at h| cons b r=>have:=ih r (s+1) (by simpa using h);cases b <;> simp[this]
       exact (a2 l r 0 hl).symm
      obtain⟨_,_,_,_,am,_⟩:=Ahm hk hx;rw[<-Z,this _ _ (by rw[<-am,B]),ai]
     rw[ai]at A ⊢;have Y:e.K.take ts.length=e.K:=Ii ω;have e2:D.take ts.length=D:=Ii ω;rw[Y,e2,Db]at A ⊢;show ((Ag _ _).bind λG=>(Jj G (cR (f q*bvs data e.K ts D))).bind _)=_;rw[b4];simp only[Ad];rw[A9j (aq.lg) A.lg δ δ];simp only[Ad,w1];congr 3;refine Awb U ?_ ?_
     .rw[Au ω,a1,av]
     .intro p hp bg;by_cases Y:q+1<p
      .rw[Au ω,Au Y]
      .rw[Ar ω,Ar Y]
  .rw[F7 λe=>B e.symm];simp only[Ad,Ak];rw[L (by rw[a1,show wOf data t e x=0 by unfold wOf;rw[Ar B],Nat.mul_zero,Nat.add_zero])]
 .refine⟨(0,Js l.length g),?_,hJ⟩;simp only[Nat.sub_self];have:Js l.length (λp=>if 0<p then g p else f p)=Js l.length g:=Anf (λp hp=>by
   by_cases e:0<p
   .rw[Au e]
   .have:p=0:=ω;subst this;rw[Ar e,<-hg];rfl);rw[this];rfl
theorem Bag (P:Szv data) (J:M1 data) (V:∀x∈data,x.O.length<=8) (T:t.G=5) (ht:B0 t<=200) (l:List Ai) (hp:∀e∈l,∃ts,G2 data t e.U=some ts/\C4 data e.K ts=some (pdg data t e)) (D:l.length+pds data t l<=6) (v:Az) (hv:C1 v<=5000) (L:Hi data v t=true) (k:Nat) (I:∀e∈l,∀(i':Ai) (t':Af) (w:Az) (d:Nat),i'∈e.K->Dj data i' t'=some d->d<=6->B0 t'<=200->Hi data w t'=true->C1 w<=5000->Oi k data t' i' w=some (cR (bv data i' t' w))) : Xb (k+1) data t l v=some (cR (dpS (bws data l t) (Iy data t.U v) l.length)):=by
 have U:=Amq data t.U v;rw[Xb];refine Gd l (λj=>((j:Int),(l.take j).map (M8 data t))) ψ ω ?_ ?_
 .intro j e hj s o W h3;obtain⟨ts,b,_⟩:=hp e (Bz s);unfold G2 at b;cases F:Jp data t e.U with| none=>rw[F]at b;cases b| some fl=>have B:=Xz F;have h:fl.length<=6:=(by obtain⟨N,y,_,z,_,hy,E,_⟩:=Pv F;obtain⟨M,_⟩:=P N (Hg z).2.2.2 y (Hg hy).2.2.2;rw[E];simpa using M);simp only[o,W,h3,Ak,Ad,Acg P t ht,Xy data t.U e.U J,F,okL];refine A9n fl (Eb data t.U e.U) B h ?_;show (B6 80 _ [_]).bind _=_;rw[Dl ζ,Ad,Cz s,map_append];congr 4;show [_] = [M8 data t e];unfold M8;rw[F]
 .intro o;refine⟨l.map (M8 data t),by simp only[o];rw[Db];rfl,?_⟩;have Y:Ac ((((l.map (M8 data t)).length:Nat):Int)+1)=((l.length+1:Nat):Int):=(by rw[C5,Ac,B4] <;> omega);rw[Y,Ld (n:=l.length+1) (c:=l.length+1) rfl rfl ω ω ω,Ad];refine A9o (l.length+1) ω ?_;have G:Ag (replicate (l.length+1) (cR 0)) 0=some (cR 0):=Br (n:=0) rfl (by rw[getElem?_replicate,Au ω]);rw[Ml,Ad,G,Ad,A74 J V T v hv L,Ad];have X:Ct (replicate (l.length+1) (cR 0)) 0 (cR 1)=Js l.length (dpS (bws data l t) []):=by
   have:replicate (l.length+1) (cR 0)=Js l.length (λ_=>0):=by
    apply ext_getElem?;intro i;rcases Cf i (l.length+1) with H|H
    .rw[Td _ ω,getElem?_replicate,Au H]
    .rw[Lt (by simpa using H),Lt (by rw[Vu];exact H)]
   rw[this];refine Awb (q:=0) ω rfl ?_;intro p _ hp;show (if p=0 then 1 else 0)=0;rw[Ar hp]
  rw[X];have f:∀x∈Iy data t.U v,∀q w,(bws data l t)[q]? = some w->5000 ^ pds data t (l.take q)*w x<=5000 ^ pds data t (l.take (q+1)):=by
   intro x C q wt hq;rw[Ah6]at hq;obtain⟨e,s,rfl⟩:=Option.map_eq_some_iff.1 hq;obtain⟨ts,b,A⟩:=hp e (Bz s);have S:=Anl data t.U v x C;rw[Anm s,Nat.pow_add];refine Nat.mul_le_mul_left _ ?_;unfold wOf;split
   .rw[show J8 data t e.U=ts by unfold J8;rw[b]];refine (Yr data 5000 δ _).2 e.K ts _ _ (Nat.le_refl _) A λy hy=>?_;have R:=M5 (Ano hy);have:=Mj x;omega
   .exact Nat.zero_le _
  have u:∀j q,dpS (bws data l t) ((Iy data t.U v).take j) q<=5000 ^ (q+pds data t (l.take q)):=λj q=>
   Awv _ 5000 δ (λq=>pds data t (l.take q)) _ (λx C=>f x (mem_of_mem_take C)) (by rw[length_take];omega) q
  refine Gd (Iy data t.U v) (λj=>((j:Int),Js l.length (dpS (bws data l t) ((Iy data t.U v).take j)))) rfl ω ?_ ?_
  .intro j x hj C o W h3;have a0:=Awa T _ v (Nat.le_refl _) L x (Bz C);have g:P9 (bws data l t) x (dpS (bws data l t) ((Iy data t.U v).take j))=dpS (bws data l t) ((Iy data t.U v).take (j+1)):=(by rw[Cz C,Awt]);simp only[o,W,h3,Ak,Ad];rw[show (((l.map (M8 data t)).length:Nat):Int)=(l.length:Int) by rw[C5]];refine Baf P T l hp D k I x a0.1 ω _ (λq _=>u j q) (λq _=>by rw[g];exact u (j+1) q) ?_;rw[g]
  .intro o;refine⟨_,by simp only[o];rw[Db];rfl,?_⟩;rw[Br (n:=l.length) ψ (Td _ (Nat.le_refl _))];rfl
theorem Bah (W:Szv data) (R:M1 data) (h8:∀x∈data,x.O.length<=8):∀(n:Nat) (i:Ai) (t:Af) (w:Az) (k d:Nat),Bw i<=n->2*n<=k->n<1099511627776->Dj data i t=some d->d<=6->B0 t<=200->Hi data w t=true->C1 w<=5000->Oi k data t i w=some (cR (bv data i t w)):=by
 intro n;induction n with
 | zero=>intro i t w k d h;have:=Ey i;omega
 | succ n ih=>
  intro i t w k d hi hk hn o D ht l hw;obtain⟨k,rfl⟩:∃I,k=I+2:=⟨k-2,ω⟩;have V:=Ey i;have J:=Mj w;rw[Oi,Ml,Q9];simp only[Ad];rw[Mi]at o;rw[Ta]at l;by_cases f:t.G=6
  .rw[Ef f,Au f];rw[Au f]at o;rw[Ar ω,Ar ω,Ar ω,Au f]at l;simp only[Cv]at l;have c:=l.2;have o:C4 data i.K t.R=some d:=by
    by_cases e:i.U=0
    .rw[Au e]at o;exact o
    .rw[Ar e]at o;cases o
   obtain⟨i1,i2⟩:=Yk data _ _ _ o;have z:w.K.length=t.R.length:=by
    by_cases G:w.K.length=t.R.length
    .exact G
    .rw[Acu data _ _ G]at c;cases c
   have M:=J2 t;have N:=Lw t.R;have y:∀x∈w.K,C1 x<=5000:=λx hx=>by have:=M5 hx;omega
   have hS:=Bad o D y;rw[Ak];refine Gd t.R (λj=>((j:Int),(cR (bvs data (i.K.take j) (t.R.take j) (w.K.take j))).N,(cR (bvs data (i.K.take j) (t.R.take j) (w.K.take j))).U,(cR (bvs data (i.K.take j) (t.R.take j) (w.K.take j))).B)) (by simp only[take_zero,Tf];rfl) ω ?_ ?_
   .intro j a hj C F H T;have b:i.K[j]? = some (i.K[j]' ω):=Bq _;generalize i.K[j]'_=i' at b;have v:w.K[j]? = some (w.K[j]' ω):=Bq _;generalize w.K[j]'_=u at v;obtain⟨e,d1,d2⟩:=i2 j i' a b C;have L:=M5 (Bz v);have X:=Km (Bz b);have Z:=Kl (Bz C);have B:Hi data u a=true:=(by rw[Acv data _ _ z]at c;exact Gt.1 c (u,a) (Bz (i:=j) (by rw[getElem?_zip_eq_some];exact⟨v,C⟩)));have hb:=Sm.of ((Yr data 5000 δ _).1 i' a u e (Nat.le_refl _) d1 ω) ω;simp only[F,H,T,Ak,Ad,Br rfl b,Br rfl v];rw[ih i' a u (k+1) e ω ω ω d1 ω ω B ω,Ad];show (E6 (cR (bvs data (i.K.take j) (t.R.take j) (w.K.take j))) (cR (bv data i' a u))).bind _=_;rw[Anq (hS j).lg hb.lg δ δ,Ank data _ _ _ j i' a u b C v];rfl
   .intro F;refine⟨_,by simp only[F];rfl,?_⟩;have e1:i.K.take t.R.length=i.K:=Ii ω;have e2:w.K.take t.R.length=w.K:=Ii ω;rw[e1,e2,Db]
  .rw[Ar f]at o ⊢;rw[Cu f,Ap];by_cases q:t.G=7
   .rw[Ef q,Ak,Au q];rw[Au q]at o;have U:=Vo w.K;by_cases e:0<=i.U/\i.U<=6/\i.K.length=0
    .obtain⟨m,S⟩:∃m:Nat,i.U=m:=⟨i.U.toNat,ω⟩;rw[S];first|rw[Av9 _ _ ω ω,Ad] | rw[Av8 _ _ ω ω,Ad]
     rw[Int.toNat_natCast]
    .rw[Ar e]at o;cases o
   .rw[Ar q]at o ⊢;rw[Cu q,Ap];by_cases g:t.G=5
    .rw[Ef g,Ak,Au g];rw[Au g]at o;have o:F1 data i.K t=some d:=by
      by_cases e:i.U=0
      .rw[Au e]at o;exact o
      .rw[Ar e]at o;cases o
     obtain⟨F,H⟩:=Adb data _ _ _ o;rw[<-Ta]at l;rw[Bag W R h8 g ht i.K H ω w hw l k (λe Y i' t' u d' b E s P v A=>by have T:=Km b;have h4:=Ey e;have h5:=Km Y;exact ih i' t' u k d' ω ω ω E s P v A),Ad]
    .rw[Cu g,Ap,Ar g]
def Fh:Nat:=1000000000 ^ 100
structure Np (x:Ao) (a:Nat):Prop where
 rb:RB 200 x
 s:sv x=false
 n:nv x=a
 d:dv x=1
theorem Anr (h:a<Fh):Bs a<=100:=Kk h
theorem Np.cR (h:Bs a<=200):Np (cR a) a:=⟨O0 h δ,(Tc a).1,(Tc a).2.1,(Tc a).2.2⟩
theorem Np.c (h:a<Fh):Np (Ab.cR a) a:=Np.cR (by have:=Anr h;omega)
theorem Np.z:Np ⟨false,[],[]⟩ 0:=⟨A78 200,by unfold sv;simp,by unfold nv;simp[Al],by unfold dv;simp[Al]⟩
theorem Np.add {x:Ao} (hx:Np x a) (hy:Np y b):Jj x y=some (Ab.cR (a+b)):=by rw[Ahf _ _ 200 200 hx.rb hy.rb ω ω,hx.s,hx.n,hx.d,hy.s,hy.n,hy.d];simp[L0,Kn,Ab.cR]
theorem Np.mul {x:Ao} (hx:Np x a) (hy:Np y b):E6 x y=some (Ab.cR (a*b)):=by rw[X8 _ _ 200 200 hx.rb hy.rb ω ω,hx.s,hx.n,hx.d,hy.s,hy.n,hy.d];simp[Ab.cR]
theorem Np.sign {x:Ao} (hx:Np x a):I1 x=some (if a=0 then 0 else 1):=by rw[Ahe _ 200 hx.rb ω,hx.s,hx.n];simp[Lh]
theorem Np.can {x:Ao} (hx:Np x a):Kg x=some (Ab.cR a):=by rw[Ahd _ 200 hx.rb ω,hx.s,hx.n,hx.d];rfl
def Ls (n:Nat) (f:Nat->Nat):List Ao:=(range n).map λk=>cR (f k)
theorem Na (n:Nat) (f:Nat->Nat):(Ls n f).length=n:=by simp[Ls]
theorem Nb (f:Nat->Nat) (h:k<n):(Ls n f)[k]? = some (cR (f k)):=by simp[Ls,h]
theorem Add {l:List Ao} {f:Nat->Nat} (b:l.length=n) (h:∀k,k<n->l[k]? = some (cR (f k))):l=Ls n f:=by
 apply ext_getElem?;intro k;rcases Cf k n with o|o
 .rw[h k o,Nb f o]
 .rw[Lt ω,Lt (by rw[Na];omega)]
theorem Ah8 {step:Int×List α->Option ((Int×List α)⊕List α)} {J:List α->Option R} {i:Nat} (o:List α) (g:Nat->α) (E:i<=n) (q:o.length=n) (l:∀(j:Nat) (o':List α),i<=j->j<n->o'.length=n->step ((j:Int),o')=some (.inl (((j+1:Nat):Int),o'.set j (g j)))) (y:∀o',o'.length=n->step ((n:Int),o')=some (.inr o')) (z:∀o',o'.length=n->(∀k,k<i->o'[k]? = o[k]?)->(∀k,i<=k->k<n->o'[k]? = some (g k))->J o'=some r):(Am step ((i:Int),o)).bind J=some r:=by
 obtain⟨e,A,f⟩:=Kf (step:=step) (λs=>∃(j:Nat) (o':List α),s=((j:Int),o')/\i<=j/\j<=n/\o'.length=n/\(∀k,k<i->o'[k]? = o[k]?)/\∀k,i<=k->k<j->o'[k]? = some (g k)) (λs=>n-s.1.toNat)
  (λo'=>o'.length=n/\(∀k,k<i->o'[k]? = o[k]?)/\∀k,i<=k->k<n->o'[k]? = some (g k)) (by
  rintro _ ⟨j,o',rfl,c,x,v,w,C⟩
  rcases Cf j n with h|h
  .refine .inl ⟨_,l j o' c h v,⟨j+1,o'.set j (g j),rfl,ω,ω,by simp[v],λk F=>?_,λk b u=>?_⟩,ζ⟩
   .rw[getElem?_set_ne ω];exact w k F
   .rcases Cf k j with D|D
    .rw[getElem?_set_ne ω];exact C k b D
    .have:k=j:=ω
     subst this
     rw[getElem?_set_self ω]
  .have:j=n:=ω
   subst this
   exact .inr ⟨o',y o' v,v,w,C⟩) ((i:Int),o) ⟨i,o,rfl,ω,E,q,λ_ _=>rfl,λk v w=>ω⟩
 rw[A,Ad]
 exact z e f.1 f.2.1 f.2.2
theorem Bai (n:Nat) (b:n<=1000):Abo (n:Int)=some (Ls n λ_=>0):=by
 unfold Abo;rw[Ld rfl rfl (Nat.le_refl _) ω ω,Ad];refine Ah8 (i:=0) (n:=n) _ (λ_=>cR 0) ω ψ ?_ ?_ ?_
 .intro j o _ s q;have u:o[j]? = some o[j]:=Bq ω;simp only[length_replicate,As (ω:(j:Int)<(n:Int)),Ak,Ah1,Ad,Br rfl u,C6 s ω,He (n:=j) rfl]
 .intro o h;simp only[length_replicate,Aw (ω:¬(n:Int)<(n:Int)),Ap]
 .intro o v _ q;rw[Add v (f:=λ_=>0) λk w=>q k ω w]
theorem Awx (n k:Nat) (b:n<1000000000) (o:k<=64):Af6 (n:Int) (k:Int)=some (cR (bc n k)):=by
 have h:Ut (n:Int) (k:Int)=some (cR (bc n k)):=by rw[Auw n k b o,Yj,show Cg false (fct k*bc n k) (fct k)=Cg false (fct k*bc n k) (fct k*1) by rw[Nat.mul_one],S8 _ _ _ _ (Yd k)];rfl
 exact h
theorem Awy (h:n<=40):bc n k<Fh:=by refine Nat.lt_of_le_of_lt (Ac6 n k) ?_;exact Nat.lt_of_le_of_lt (Nat.pow_le_pow_right δ h) δ
theorem Awz (a b:Nat) (E:a<=16) (hb:b<=16):Uz (a:Int) (b:Int)=some (Ls (a+b+1) (Rc a b)):=by
 unfold Uz;have q:Ac ((a:Int)+(b:Int))=((a+b:Nat):Int):=by rw[Ac,B4] <;> omega
 have l:Ac (((a+b:Nat):Int)+1)=((a+b+1:Nat):Int):=by rw[Ac,B4] <;> omega
 have e:(if (b:Int)>(a:Int) then (b:Int) else (a:Int))=((max a b:Nat):Int):=by split <;> omega
 rw[q,l,Bai _ ω,Ad,e];refine Ah8 (i:=max a b) (n:=a+b+1) _ (λk=>cR (Rc a b k)) ω (by simp[Na]) ?_ ?_ ?_
 .intro j o v u w;have D:o[j]? = some o[j]:=Bq ω;have g:Ac ((j:Int)-(b:Int))=((j-b:Nat):Int):=ξ;have s:Rc a b j=bc j a*bc a (j-b):=(by unfold Rc;rw[Au ω]);simp only[As (ω:(j:Int)<=((a+b:Nat):Int)),Ak,Awx j a ω ω,g,Awx a (j-b) ω ω,Ad,(Np.c (Awy (ω:j<=40))).mul (Np.c (Awy (k:=j-b) (ω:a<=40))),Br rfl D,C6 u ω,He (n:=j) rfl,s]
 .intro o h;simp only[Aw (ω:¬((a+b+1:Nat):Int)<=((a+b:Nat):Int)),Ap]
 .intro o v u w;rw[Add v (f:=Rc a b) λk C=>?_];rcases Cf k (max a b) with h|h
  .rw[u k h,Nb _ C];have:Rc a b k=0:=by
    rcases (ω:k<a\/k<b) with h|h
    .exact A90 h
    .unfold Rc;rw[Ar ω]
   rw[this]
  .exact w k h C
theorem Baj {m:Nat} {f g:Nat->Nat} {c:Nat} (B:m<=1000) (A:n<=1000) (C:∀k,k<m->f k<Fh) (hg:∀k,k<n->g k<Fh) (v:c<Fh) : Uy (Ls m f) (Ls n g) (cR c)=some (Ls (max m n) λk=>(if k<m then f k else 0)+(if k<n then g k else 0)*c):=by
 unfold Uy;rw[Na,Na];have e:(if (n:Int)>(m:Int) then (n:Int) else (m:Int))=((max m n:Nat):Int):=by split <;> omega
 rw[e,Ld rfl rfl (Nat.le_refl _) ω ω,Ad];refine Ah8 (i:=0) (n:=max m n) _ (λk=>cR ((if k<m then f k else 0)+(if k<n then g k else 0)*c)) ω ψ ?_ ?_ ?_
 .intro j o _ D w;have E:o[j]? = some o[j]:=Bq ω;obtain⟨x,u,s⟩:∃x:Ao,(bif decide ((j:Int)<(m:Int)) then ((Ag (Ls m f) (j:Int)).bind λb=>some (b.N,b.U,b.B)) else some (false,[],[]))=some (x.N,x.U,x.B)/\Np x (if j<m then f j else 0):=by
   by_cases h:j<m
   .rw[As ω,Ak,Br rfl (Nb f h),Au h];exact⟨_,rfl,Np.c (C j h)⟩
   .rw[Aw ω,Ap,Ar h];exact⟨⟨false,[],[]⟩,rfl,Np.z⟩
  obtain⟨y,q,l⟩:∃x:Ao,(bif decide ((j:Int)<(n:Int)) then ((Ag (Ls n g) (j:Int)).bind λb=>some (b.N,b.U,b.B)) else some (false,[],[]))=some (x.N,x.U,x.B)/\Np x (if j<n then g j else 0)/\(if j<n then g j else 0)<Fh:=by
   by_cases h:j<n
   .rw[As ω,Ak,Br rfl (Nb g h),Au h];exact⟨_,rfl,Np.c (hg j h),hg j h⟩
   .rw[Aw ω,Ap,Ar h];exact⟨⟨false,[],[]⟩,rfl,Np.z,δ⟩
  have F:Bs ((if j<n then g j else 0)*c)<=200:=(by have:=H5 (if j<n then g j else 0) c;have:=Anr l.2;have:=Anr v;omega);have G:Abc x y (cR c)=some (cR ((if j<m then f j else 0)+(if j<n then g j else 0)*c)):=(by unfold Abc;rw[(Np.c v).mul l.1,Ad,Nat.mul_comm c,s.add (Np.cR F)];rfl);simp only[length_replicate,As (ω:(j:Int)<((max m n:Nat):Int)),Ak]
  erw[u,Ad,q,Ad];dsimp only;rw[G,Ad,Br rfl E,Ad,C6 D ω,He (n:=j) rfl]
 .intro o h;simp only[length_replicate,Aw (ω:¬((max m n:Nat):Int)<((max m n:Nat):Int)),Ap]
 .intro o H _ w;rw[Add H (f:=λk=>(if k<m then f k else 0)+(if k<n then g k else 0)*c) λk I=>w k ω I]
theorem Ans {f:Nat->Nat} (u:n<1000) (s:p.length=n+1) (hp:∀k,k<n+1->∃x,p[k]? = some x/\Np x (f k)) (b:f n≠0):Pn p=some (Ls (n+1) f):=by
 unfold Pn;obtain⟨x,q,l⟩:=hp n ω;have w:Ac (((n+1:Nat):Int)-1)=(n:Int):=by rw[Ac,B4] <;> omega
 refine bnd (a:=((n+1:Nat):Int)) (Ga ?_) ?_
 .rw[s];simp only[As (ω:((n+1:Nat):Int)>0),Ak,w,Br rfl q,Ad,l.sign,Ar b];rfl
 .rw[Ld rfl rfl (Nat.le_refl _) ω ω,Ad];refine Ah8 (i:=0) (n:=n+1) _ (λk=>cR (f k)) ω ψ ?_ ?_ ?_
  .intro j o _ v C;have D:o[j]? = some o[j]:=Bq ω;obtain⟨y,g,c⟩:=hp j v;simp only[length_replicate,As (ω:(j:Int)<((n+1:Nat):Int)),Ak,Br rfl g,c.can,Ad,Br rfl D,C6 v ω,He (n:=j) rfl]
  .intro o h;simp only[length_replicate,Aw (ω:¬((n+1:Nat):Int)<((n+1:Nat):Int)),Ap]
  .intro o E _ C;rw[Add E (f:=f) λk F=>C k ω F]
def Ik (n d:Nat) (f:Nat->Nat) (k:Nat):Nat:=sm n λa=>f a*Rc a d k
theorem Aw0 (a d:Nat):0<Rc a d (a+d):=by
 unfold Rc;rw[Au ω,show a+d-d=a by omega,Vy];have:0<bc (a+d) a:=by
  have h:∀d,0<bc (a+d) a:=by
   intro d;induction d with
   | zero=>rw[Nat.add_zero,Vy];decide
   | succ d ih=>cases a with| zero=>rw[J6];decide| succ a=>rw[show a+1+(d+1)=(a+1+d)+1 by omega,Yp];omega
  exact h d
 omega
theorem Bak {f:Nat->Nat} {q:List Ao} (Y:n+d<=12) (hp:p=Ls (n+1) f) (i:f n≠0) (hq:q.length=d+1) (M:∀k,k<d+1->∃x,q[k]? = some x/\Np x (if k=d then 1 else 0)) (hf:∀k,k<n+1->f k<Fh) (U:∀a k,a<=n+1->Ik a d f k<Fh):Aa1 p q=some (Ls (n+d+1) (Ik (n+1) d f),true):=by
 unfold Aa1
 have l:p.length=n+1:=by rw[hp,Na]
 rw[l,hq,Aw ω,Aw ω]
 simp only[Ap,Ad]
 have c1:Pn p=some (Ls (n+1) f):=Ans ω l (λk o=>⟨_,by rw[hp];exact Nb f o,Np.c (hf k o)⟩) i
 have c2:Pn q=some (Ls (d+1) λk=>if k=d then 1 else 0):=Ans ω hq M ψ
 have w:Ac (((n+1:Nat):Int)+((d+1:Nat):Int))=((n+d+2:Nat):Int):=by rw[Ac,B4] <;> omega
 rw[c1,Ad,c2,Ad,Na,Na,Cu ω,Cu ω]
 simp only[Ap,Ad]
 rw[w,Aw ω,Ap]
 obtain⟨r,X,V⟩:=Ej (J:=λA=>(Pn A).bind λz=>some (z,true)) (Q:=λr=>r=(Ls (n+d+1) (Ik (n+1) d f),true)) (step:=λ(x:List Ao×Int)=>match x with
  | (H,C)=>
   bif C<((n+1:Nat):Int) then (
   (Ag (Ls (n+1) f) C).bind λI=>
   (Am (S:=(List Ao×Int)) (E:=(List Ao×Int)) (λ(g,v)=>
   bif v<((d+1:Nat):Int) then (
   (Ag (Ls (d+1) λk=>if k=d then 1 else 0) v).bind λG=>
   (E6 I G).bind λP=>
   (I1 P).bind λD=>
   bif (D==(0:Int)) then (
   some (.inl (g,(Ac (v+1))))
   )
   else (
   (Uz C v).bind λB=>
   (Uy g B P).bind λa0=>
   some (.inl (a0,(Ac (v+1))))
   )
   )
   else (
   some (.inr (g,v))
   )
    ) (H,0)).bind λ(a1,a2)=>
   some (.inl (a1,(Ac (C+1))))
   )
   else (
   some (.inr H)
   )) (s:=([],0))
  (λs=>∃(a L:Nat) (h:Nat->Nat),s=(Ls L h,(a:Int))/\a<=n+1/\L<=a+d/\(∀k,(if k<L then h k else 0)=Ik a d f k)/\(a=n+1->L=n+d+1)) (λs=>n+1-s.2.toNat)
  (λe=>e=Ls (n+d+1) (Ik (n+1) d f)) ⟨0,0,λ_=>0,rfl,ω,ω,λk=>by simp[Ik,sm],ω⟩ (by
  rintro _ ⟨a,L,h,rfl,ha,Z,W,y⟩
  rcases Cf a (n+1) with F|F
  .left
   have hz:Np (cR 0) 0:=Np.c δ
   have b:∀k,Ik (a+1) d f k=Ik a d f k+f a*Rc a d k:=λk=>rfl
   have hh:∀k,k<L->h k<Fh:=λk o=>by
    have:=W k
    rw[Au o]at this
    rw[this];exact U a k ω
   by_cases h0:f a=0
   .refine⟨(Ls L h,((a+1:Nat):Int)),?_,⟨a+1,L,h,rfl,ω,ω,λk=>by rw[b,h0,W];simp,λe=>?_⟩,ζ⟩
    .simp only[As (ω:(a:Int)<((n+1:Nat):Int)),Ak,Br rfl (Nb f F),Ad,h0]
     refine Jn (d+1) (λj=>(Ls L h,(j:Int))) rfl ?_ ⟨(Ls L h,((d+1:Nat):Int)),?_,?_⟩
     .intro j T
      have hy:Np (cR (if j=d then 1 else 0)) (if j=d then 1 else 0):=Np.c (by split <;> decide)
      simp only[As (ω:(j:Int)<((d+1:Nat):Int)),Ak,Br rfl (Nb _ T),Ad,hz.mul hy,Nat.zero_mul,hz.sign,if_true,C6 T ω]
      rfl
     .simp only[Aw (ω:¬((d+1:Nat):Int)<((d+1:Nat):Int)),Ap]
     .rw[C6 F ω]
    .have:a=n:=ω
     subst this;exact (i h0).elim
   .have u:=Np.c (hf a F)
    have N:Uy (Ls L h) (Ls (a+d+1) (Rc a d)) (cR (f a))=some (Ls (a+d+1) λk=>(if k<L then h k else 0)+(if k<a+d+1 then Rc a d k else 0)*f a):=by
     rw[Baj ω ω hh (λk o=>?_) (hf a F),show max L (a+d+1)=a+d+1 by omega]
     unfold Rc
     split
     .refine Nat.lt_of_le_of_lt (Nat.mul_le_mul (Ac6 k a) (Ac6 a (k-d))) ?_
      rw[<-Nat.pow_add]
      exact Nat.lt_of_le_of_lt (Nat.pow_le_pow_right δ (ω:k+a<=40)) δ
     .decide
    refine⟨(Ls (a+d+1) λk=>(if k<L then h k else 0)+(if k<a+d+1 then Rc a d k else 0)*f a,((a+1:Nat):Int)),?_,⟨a+1,a+d+1,_,rfl,ω,ω,λk=>?_,λe=>ω⟩,ζ⟩
    .simp only[As (ω:(a:Int)<((n+1:Nat):Int)),Ak,Br rfl (Nb f F),Ad]
     refine Jn (d+1) (λj=>if j<=d then (Ls L h,(j:Int)) else (Ls (a+d+1) λk=>(if k<L then h k else 0)+(if k<a+d+1 then Rc a d k else 0)*f a,(j:Int))) ψ ?_ ⟨((Ls (a+d+1) λk=>(if k<L then h k else 0)+(if k<a+d+1 then Rc a d k else 0)*f a),((d+1:Nat):Int)),?_,?_⟩
     .intro j T
      have hy:Np (cR (if j=d then 1 else 0)) (if j=d then 1 else 0):=Np.c (by split <;> decide)
      rw[Au ω]
      simp only[As (ω:(j:Int)<((d+1:Nat):Int)),Ak,Br rfl (Nb _ T),Ad,u.mul hy,C6 T ω]
      rcases Cf j d with h2|h2
      .rw[Ar (ω:¬j=d),Nat.mul_zero,hz.sign,Ad,Au (ω:j+1<=d)]
       rfl
      .have:j=d:=ω
       subst this
       rw[Au rfl,Nat.mul_one,u.sign,Ad,Ar h0,Awz a j ω ω,Ad,N,Ar ω]
       rfl
     .rw[Ar ω]
      simp only[Aw (ω:¬((d+1:Nat):Int)<((d+1:Nat):Int)),Ap]
     .rw[C6 F ω]
    .rw[b,<-W]
     by_cases o:k<a+d+1
     .rw[Au o,Au o,Nat.mul_comm (Rc a d k)]
     .rw[Ar o,Ar ω,Awh ω];simp
  .have:a=n+1:=ω
   subst this
   right
   have R:=y rfl
   refine⟨Ls L h,?_,?_⟩
   .simp only[Aw (ω:¬((n+1:Nat):Int)<((n+1:Nat):Int)),Ap]
   .subst R
    refine Add (Na _ _) λk o=>?_
    have:=W k
    rw[Au o]at this
    rw[Nb _ o,this]) (by
  rintro _ rfl
  refine⟨_,bnd (Ans (n:=n+d) (f:=Ik (n+1) d f) ω (Na _ _) (λk o=>⟨_,Nb _ o,Np.c (U _ _ ω)⟩) ?_) rfl,rfl⟩
  have e:Ik (n+1) d f (n+d)=Ik n d f (n+d)+f n*Rc n d (n+d):=rfl
  have:=Nat.mul_pos (Nat.pos_of_ne_zero i) (Aw0 n d)
  omega)
 rw[<-V]
 exact X
theorem Bal (d x N:Nat) (f:Nat->Nat):∀M,(∀a,a<M->a+d<N)->sm N (λk=>Ik M d f k*bc x k)=sm M (λa=>f a*bc x a)*bc x d:=by
 intro M;induction M with
 | zero=>intro _;rw[Vx (λk _=>by simp[Ik,sm])];simp[sm]
 | succ M ih=>
  intro h;have e:∀k,Ik (M+1) d f k*bc x k=Ik M d f k*bc x k+f M*(Rc M d k*bc x k):=λk=>by show (Ik M d f k+f M*Rc M d k)*bc x k=_;rw[Nat.add_mul,Nat.mul_assoc]
  rw[Yn λk _=>e k,Vv,ih λa o=>h a ω,Awf,Yq x M d N (h M ω)];show _=(sm M (λa=>f a*bc x a)+f M*bc x M)*bc x d;rw[Nat.add_mul,Nat.mul_assoc (f M)]
theorem Bam (d:Nat) (f:Nat->Nat) (k:Nat):∀{m n:Nat},m<=n->Ik m d f k<=Ik n d f k:=by
 intro m n h;induction n with
 | zero=>have:m=0:=ω;subst this;exact Nat.le_refl _
 | succ n ih=>
  rcases Cf m (n+1) with o|o
  .have:=ih ω;have e:Ik (n+1) d f k=Ik n d f k+f n*Rc n d k:=rfl;omega
  .have:m=n+1:=ω;subst this;exact Nat.le_refl _
def prb (x:Nat):List Bh->Nat
 | []=>1
 | a::l=>bc x a.P.toNat*prb x l
def Dn:List Bh->Nat
 | []=>0
 | a::l=>a.P.toNat+Dn l
theorem Aw1 (x:Nat) (l m:List Bh):prb x (l++m)=prb x l*prb x m:=by induction l with| nil=>simp[prb]| cons a l ih=>simp only[D4,prb,ih,Nat.mul_assoc]
theorem Tg (l m:List Bh):Dn (l++m)=Dn l+Dn m:=by induction l with| nil=>simp[Dn]| cons a l ih=>simp only[D4,Dn,ih,Nat.add_assoc]
theorem Ant {m:List Bh} (h:l.Perm m):Dn l=Dn m:=by induction h with| nil=>rfl| cons a _ ih=>simp only[Dn,ih]| swap a b l=>simp only[Dn];omega| trans _ _ o q=>exact o.trans q
theorem Ban (x d:Nat):bc x d<=(x+1) ^ d:=Nat.le_trans (Ah7 x d) (Nat.pow_le_pow_left ω d)
theorem Aw2 (x:Nat):∀l:List Bh,prb x l<=(x+1) ^ Dn l
 | []=>by simp[prb,Dn]
 | a::l=>by simp only[prb,Dn,Nat.pow_add];exact Nat.mul_le_mul (Ban x _) (Aw2 x l)
theorem Ys {x:Nat} (o:x<=1048576) (h:Dn l<=12):prb x l<Fh:=by refine Nat.lt_of_le_of_lt (Aw2 x l) ?_;refine Nat.lt_of_le_of_lt (Nat.pow_le_pow_left (ω:x+1<=1048577) _) ?_;exact Nat.lt_of_le_of_lt (Nat.pow_le_pow_right δ h) δ
def PwN (l:List Bh) (N:Nat) (f:Nat->Nat):Prop:=N=Dn l/\f N≠0/\∀x,sm (N+1) (λk=>f k*bc x k)=prb x l
theorem PwN.le {f:Nat->Nat} (h:PwN l N f) (hk:k<N+1):f k<=prb k l:=by
 have h1:=h.2.2 k;have h2:f k*bc k k<=sm (N+1) (λj=>f j*bc k j):=by
  have:∀n,k<n->f k*bc k k<=sm n (λj=>f j*bc k j):=by
   intro n;induction n with
   | zero=>intro h;omega
   | succ n ih=>
    intro h;show _<=sm n _+f n*bc k n;rcases Cf k n with h'|h'
    .have:=ih h';omega
    .have:k=n:=ω;subst this;omega
  exact this _ hk
 rw[Vy,Nat.mul_one]at h2;omega
theorem PwN.step {f:Nat->Nat} (h:PwN l N f) (a:Bh):PwN (l++[a]) (N+a.P.toNat) (Ik (N+1) a.P.toNat f):=by
 refine⟨by rw[Tg,h.1];simp[Dn],?_,λx=>?_⟩
 .have e:Ik (N+1) a.P.toNat f (N+a.P.toNat)=Ik N a.P.toNat f (N+a.P.toNat)+f N*Rc N a.P.toNat (N+a.P.toNat):=rfl;have:=Nat.mul_pos (Nat.pos_of_ne_zero h.2.1) (Aw0 N a.P.toNat);omega
 .rw[Bal _ x _ f (N+1) λb ha=>ω,h.2.2 x,Aw1];simp[prb]
theorem Bao (l:List Bh) (x:l≠[]) (ht:∀a∈l,a.L.T.length≠0) (C:∀a∈l,0<=a.P) (M:Dn l<=12) (R:l.length<=1000) : ∃N f,Pj l=some (Ls (N+1) f)/\PwN l N f:=by
 have F:Af9 l=false:=by cases l with| nil=>exact (x rfl).elim| cons a L=>have:=ht a ψ;show (a.L.T.length==0)=false;simpa using this
 have H:∃N f,Af8 l=some (Ls (N+1) f)/\PwN l N f:=by
  unfold Af8;rw[Ml,Ad]
  suffices h:∃r,_/\∃N f,r=Ls (N+1) f/\PwN l N f by obtain⟨r,G,N,f,E,D⟩:=h;exact⟨N,f,by rw[<-E];exact G,D⟩
  refine Ej (λs=>∃(i N:Nat) (f:Nat->Nat),s=(Ls (N+1) f,(i:Int))/\i<=l.length/\PwN (l.take i) N f) (λs=>l.length-s.2.toNat) (λe=>∃N f,e=Ls (N+1) f/\PwN l N f) ⟨0,0,λ_=>1,rfl,ω,by simp[PwN,Dn,prb,sm,J6]⟩ ?_ ?_
  .rintro _ ⟨i,N,f,rfl,X,g⟩;rcases Cf i l.length with h|h
   .left;have v:l[i]? = some l[i]:=Bq h;have b:=getElem_mem h;generalize l[i]=a at v b;have S:=ht a b;have J:=C a b;have B:Dn l=Dn (l.take i)+(a.P.toNat+Dn (l.drop (i+1))):=(by have:=Tg (l.take i) (l.drop i);rw[take_append_drop]at this;rw[this,Jv v];rfl);have U:=g.1;have w:Ac (a.P+1)=((a.P.toNat+1:Nat):Int):=ξ;have P:Ag (replicate (a.P.toNat+1) (⟨false,[],[]⟩:Ao)) a.P=some ⟨false,[],[]⟩:=Br (n:=a.P.toNat) ω ψ;have u:=g.step a;have T:∀A k,A<=N+1->Ik A a.P.toNat f k<Fh:=by
     intro A k y;refine Nat.lt_of_le_of_lt (Bam _ f k y) ?_;rcases Cf k (N+a.P.toNat+1) with o|o
     .refine Nat.lt_of_le_of_lt (u.le o) (Ys ω ?_);rw[Tg];simp only[Dn];omega
     .have:Ik (N+1) a.P.toNat f k=0:=Vx λj hj=>by rw[Awh ω];rfl
      rw[this];decide
    have I:=Bak (n:=N) (d:=a.P.toNat) (f:=f) (p:=Ls (N+1) f) (q:=Ct (replicate (a.P.toNat+1) ⟨false,[],[]⟩) a.P (cR 1)) ω rfl g.2.1 (by rw[He (n:=a.P.toNat) ω];simp) (λk o=>by
     rw[He (n:=a.P.toNat) ω];by_cases e:k=a.P.toNat
     .subst e;rw[Au rfl];exact⟨_,getElem?_set_self ψ,Np.c δ⟩
     .rw[Ar e,getElem?_set_ne ω];exact⟨⟨false,[],[]⟩,by simp[o],Np.z⟩) (λk o=>Nat.lt_of_le_of_lt (g.le o) (Ys ω ω)) T
    refine⟨(Ls (N+a.P.toNat+1) (Ik (N+1) a.P.toNat f),((i+1:Nat):Int)),?_,⟨i+1,_,_,rfl,ω,by rw[Cz v];exact u⟩,ζ⟩;simp only[As (ω:(i:Int)<(l.length:Int)),Ak,Br rfl v,Ad,Cu (ω:¬(a.L.T.length:Int)=0),Ap,w,Ld rfl rfl (Nat.le_refl _) (ω:56*(a.P.toNat+1)<=281474976710656) ω,Ml,P,I,C6 h ω]
   .have:i=l.length:=ω;subst this;rw[Db]at g;right;exact⟨_,by simp only[Aw (ω:¬(l.length:Int)<(l.length:Int)),Ap],_,_,rfl,g⟩
  .rintro _ ⟨N,f,rfl,h⟩;exact⟨_,rfl,N,f,rfl,h⟩
 obtain⟨N,f,V,W⟩:=H;refine⟨N,f,?_,W⟩;unfold Pj;rw[F,Ap];exact V
theorem Bap {c:Int} {d:Int} (o:c<=1048576) (q:0<=d) (b:d<=64):Xq c d=some (cR (bc c.toNat d.toNat),true):=by
 have h:=Av9 c.toNat d.toNat ω ω;have e:((d.toNat:Nat):Int)=d:=ω;rw[e]at h;rw[<-h];unfold Xq;have f:(if c>(0:Int) then c else 0)=(if ((c.toNat:Nat):Int)>(0:Int) then ((c.toNat:Nat):Int) else 0):=by split <;> split <;> omega
 rw[f]
theorem Baq (l:List Bh) {c:Int} (F:c<=1048576) (ht:∀a∈l,a.L.T.length=0/\a.L.Q=c) (H:∀a∈l,0<=a.P) (G:Dn l<=12) (I:l.length<=1000) :
  Pj l=some [cR (prb c.toNat l)]:=by
 have M:Af7 l=some [cR (prb c.toNat l)]:=by
  unfold Af7
  rw[Ml,Ad]
  obtain⟨r,B,A⟩:∃r,_/\r = [cR (prb c.toNat l)]:=Ej (λs=>∃i:Nat,s=((i:Int),[cR (prb c.toNat (l.take i))])/\i<=l.length) (λs=>l.length-s.1.toNat) (λe=>e = [cR (prb c.toNat l)]) (J:=λo=>some o)
   (step:=λ(x:Int×List Ao)=>match x with
    | (g,f)=>
     bif g<(l.length:Int) then (
     (Ag l g).bind λb=>
     bif ((b.L.T.length:Int)==(0:Int)) then (
     (Xq b.L.Q b.P).bind λk=>
     (Ag f 0).bind λw=>
     (E6 w k.1).bind λC=>
     (Ag f 0).bind λP=>
     some (.inl ((Ac (g+1)),(Ct f 0 C)))
     )
     else (
     (Gw 56 (Ac (b.P+1)) (Ac (b.P+1)) ((Ao.mk false [] []):Ao)).bind λq=>
     (Ei 1).bind λS=>
     (Ag q b.P).bind λT=>
     none
     )
     )
     else (
     some (.inr f)
     )) (s:=(0,[cR 1]))
   ⟨0,rfl,ω⟩ (by
   rintro _ ⟨i,rfl,W⟩
   rcases Cf i l.length with h|h
   .left
    have v:l[i]? = some l[i]:=Bq h
    have j:=getElem_mem h
    generalize l[i]=a at v j
    obtain⟨L,D⟩:=ht a j
    have y:=H a j
    have e:Dn l=Dn (l.take i)+(a.P.toNat+Dn (l.drop (i+1))):=by
     have:=Tg (l.take i) (l.drop i)
     rw[take_append_drop]at this
     rw[this,Jv v];rfl
    have U:prb c.toNat (l.take i)<Fh:=Ys ω ω
    have z:bc c.toNat a.P.toNat<Fh:=by
     have:=Ys (x:=c.toNat) (l:=[a]) ω (by simp only[Dn];omega)
     simpa[prb] using this
    have u:Ag [cR (prb c.toNat (l.take i))] 0=some (cR (prb c.toNat (l.take i))):=rfl
    refine⟨_,?_,⟨i+1,rfl,ω⟩,ζ⟩
    simp only[As (ω:(i:Int)<(l.length:Int)),Ak,Br rfl v,Ad,Ef (ω:(a.L.T.length:Int)=0),D,Bap F y (ω:a.P<=64),u,(Np.c U).mul (Np.c z),C6 h ω]
    rw[Cz v,Aw1]
    simp[prb,Ct]
   .have:i=l.length:=ω
    subst this
    right
    exact⟨[cR (prb c.toNat (take l.length l))],by simp only[Aw (ω:¬(l.length:Int)<(l.length:Int)),Ap],by rw[Db]⟩) (by
   rintro _ rfl
   exact⟨_,rfl,rfl⟩)
  rw[<-A]
  exact B
 have V:Af9 l=true:=by
  cases l with
  | nil=>rfl
  | cons a E=>
   have:=(ht a ψ).1
   show (a.L.T.length==0)=true
   simpa using this
 unfold Pj
 rw[V,Ak,M]
noncomputable def Ah9 (cmp:α->α->Option Int) (a0:Int) (f:List α):Option (List α) := (Am (S:=(Int×Int×(List α))) (E:=(Int×Int×(List α))) (λ(s,o,h)=> bif o<=a0 then ((Ym cmp s o h).bind λg=> (F6 f.length g).bind λk=> some (.inl (o,(Ac (o+20)),g))) else (some (.inr (s,o,h)))) (0,20,f)).bind λ(u,v,c)=> (Ym cmp u a0 c).bind λq=> (F6 f.length q).bind λw=> (Am (S:=(Int×Int×Int)) (E:=Unit) (λ(b,j,i)=> bif b<a0 then ((Am (S:=Unit) (E:=Unit) (λ_=> bif (Ac (2*b))<=a0 then (none) else (some (.inr ()))) ()).bind λ_=> bif (Ac (0+b))<a0 then (none) else (some (.inl ((Ac (b*2)),0,(Ac (2*b)))))) else (some (.inr ()))) (20,u,v)).bind λ_=> some q
theorem Aw3 {cmp:α->α->Option Int} {c:α->α->Int} (L:Oe c) (f:List α) (g:∀x∈f,∀y∈f,cmp x y=some (c x y)) (h:f.length<20) : ∃R,Ah9 cmp (f.length:Int) f=some R/\R.Perm f/\R.Pairwise (λa b=>¬c b a<0):=by
 obtain⟨R,q,o,s⟩:=Ani L f g ω;refine⟨R,?_,o,s⟩;unfold Ah9;refine bnd (a:=(0,20,f)) (Ga ?_) ?_
 .simp only[Aw (ω:¬(20:Int)<=(f.length:Int)),Ap]
 .dsimp only;rw[q,Ad,Lj o.length_eq.symm,Ad];refine bnd (a:=()) (Ga ?_) rfl;simp only[Aw (ω:¬(20:Int)<(f.length:Int)),Ap]
theorem Aia:Oe Ir where
 irr x:=by rw[(M7.zero x x trivial trivial).2 rfl];omega
 trs x y z o h:=M7.trans x y z trivial trivial trivial o h
 ntr x y z o h q:=by
  rcases Int.lt_trichotomy (Ir x y) 0 with k|k|k
  .exact o k
  .have:=(M7.zero x y trivial trivial).1 k
   subst this;exact h q
  .have b:Ir y x<0:=by rw[M7.anti x y trivial trivial];omega
   exact h (M7.trans y x z trivial trivial trivial b q)
theorem Bar:Oe (λa b:Bh=>Ir a.L b.L):=⟨λ_=>Aia.irr _,λ_ _ _=>Aia.trs _ _ _,λ_ _ _=>Aia.ntr _ _ _⟩
def Ade (l:List Bh):Prop:=l.Pairwise λa b=>¬Ir b.L a.L<0
theorem Bas (b:List Bh) (ht:∀a∈b,a.L.T.length<1099511627776) (c:b.length<20):∃R,Aah b=some R/\R.Perm b/\Ade R:=by obtain⟨R,o,h,q⟩:=Aw3 (cmp:=W6) Bar b (λx s y _=>by unfold W6;rw[Ag6 x.L y.L (ht x s)];rfl) c;refine⟨R,?_,h,q⟩;unfold Aah;have e:Afn (b.length:Int) b=Ah9 W6 (b.length:Int) b:=rfl;rw[e,o,Ad,Lj h.length_eq.symm];rfl
theorem Aib (n:Nat) (h:n<=1000000):Nj (α:=α) (n:Int)=some []:=by unfold Nj;rw[As ω,As ω];rfl
theorem Bat (a b:List Bh) (h:a.length+b.length<=1000000):Afe [a,b]=some (a++b) := Anj (B:=40) δ (gr:=Afl) (λn h=>Aib n h) a b h
theorem Bau (a b:List Bi) (h:a.length+b.length<=1000000):Afd [a,b]=some (a++b) := Anj (B:=40) δ (gr:=Afk) (λn h=>Aib n h) a b h
theorem Aic (m n:A7) (h:m.F.length+n.F.length<=1000000) (o:m.A.length+n.A.length<=1000000):Oh m n=some ⟨m.F++n.F,m.A++n.A⟩:=by unfold Oh;rw[Bau _ _ h,Ad,Bat _ _ o];rfl
def atO (l:Bg) (k:Nat):List Bh:=if k=0 then [] else [⟨l,k⟩]
theorem Bav (l:Bg) (k:Nat):W7 l (k:Int)=some (atO l k):=by
 unfold W7 atO;by_cases h:k=0
 .rw[Ef ω,Au h];rfl
 .rw[Cu ω,Ar h];rfl
theorem Aw4 (l:Bg) (k:Nat):(atO l k).length<=1:=by unfold atO;split <;> simp
abbrev FS:={F:List Bi // F.length<=1000}
theorem Baw {t:An} {x:Ao} {F:FS} (b:t.M=⟨F.1,A⟩) (f:A.length+B.length<=1000000) (g:K<30000000000) (h:RB K t.C) (o:RB 200 x) : ∃u,Ok t x ⟨[],B⟩=some u/\u.M=⟨F.1,A++B⟩/\rq u.C=rq t.C*rq x/\RB (K+202) u.C:=by obtain⟨c,q,s,_,v⟩:=Tb h o ω ω;refine⟨⟨c,⟨F.1,A++B⟩⟩,?_,rfl,v,s⟩;unfold Ok;have:=F.2;rw[q,Ad,b,Aic _ _ ζ f,append_nil];rfl
abbrev Ent:=List Bh×Nat
inductive L2 (F:FS) (c:Rat) (K:Nat):List An->List Ent->Prop
 | nil:L2 F c K [] []
 | cons {t:An} {b:Ent} {ts:List An} {bs:List Ent}:t.M=⟨F.1,b.1⟩->rq t.C=c*(b.2:Rat)->RB K t.C->L2 F c K ts bs->L2 F c K (t::ts) (b::bs)
theorem L2.len {F:FS} {c:Rat} {ts:List An} {bs:List Ent} (h:L2 F c K ts bs):ts.length=bs.length:=by induction h with| nil=>rfl| cons _ _ _ _ ih=>simp[ih]
theorem L2.app {F:FS} {c:Rat} {ts f:List An} {bs cs:List Ent} (h:L2 F c K ts bs) (h':L2 F c K f cs):L2 F c K (ts++f) (bs++cs):=by induction h with| nil=>exact h'| cons a b d _ ih=>exact .cons a b d ih
theorem L2.mono {F:FS} {c:Rat} {f:Nat} {ts:List An} {bs:List Ent} (h:L2 F c K ts bs) (hk:K<=f):L2 F c f ts bs:=by induction h with| nil=>exact .nil| cons a b d _ ih=>exact .cons a b (d.mono hk) ih
theorem L2.get {F:FS} {c:Rat} {ts:List An} {bs:List Ent} (h:L2 F c K ts bs):∀{j:Nat} {t:An},ts[j]? = some t->∃b,bs[j]? = some b/\t.M=⟨F.1,b.1⟩/\rq t.C=c*(b.2:Rat)/\RB K t.C:=by
 induction h with
 | nil=>intro j t h;simp at h
 | @cons t b ts bs q s v _ ih=>intro j u o;cases j with| zero=>simp only[getElem?_cons_zero,Option.some.injEq]at o;subst o;exact⟨b,rfl,q,s,v⟩| succ j=>simp only[getElem?_cons_succ]at o;simpa using ih o
def fs0:FS:=⟨[],δ⟩
abbrev Rep (c:Rat) (K:Nat):List An->List Ent->Prop:=L2 fs0 c K
def I5 (B:List Ent) (l:Bg) (f:Nat->Nat) (n:Nat):List Ent:=(range n).flatMap λk=>if f k=0 then [] else B.map λb=>(b.1++atO l k,b.2*f k)
theorem Aw5 (B:List Ent) (l:Bg) (f:Nat->Nat) (n:Nat):I5 B l f (n+1)=I5 B l f n++(if f n=0 then [] else B.map λb=>(b.1++atO l n,b.2*f n)):=by unfold I5;rw[range_succ,flatMap_append];simp
noncomputable def Adf (h:List An) (l:Bg) (k:Int) (x:Ao):Int×List An->Option ((Int×List An)⊕(Int×List An)):=λ(b,c)=> bif b<(h.length:Int) then ((Ag h b).bind λg=> (W7 l k).bind λo=> (Ok g x (A7.mk [] o)).bind λf=> (B6 104 c [f]).bind λi=> some (.inl ((Ac (b+1)),i))) else (some (.inr (b,c)))
theorem Bax (a b:Ao) (j k:Nat) (s:RB j a) (hb:RB k b) (w:j<68719476736) (C:k<68719476736) : Uj a b=some (Cg (L0 (sv a) (nv a) (dv a) (!sv b) (nv b) (dv b)) (Kn (sv a) (nv a) (dv a) (!sv b) (nv b) (dv b)) (dv a*dv b)):=by
 unfold Uj W3;have u:=s.nv;have v:=s.dv;have D:=hb.nv;have E:=hb.dv;have q:=H5 (nv a) (dv b);have l:=H5 (nv b) (dv a);have i:=H5 (dv a) (dv b);have h:=Ab5 (nv a*dv b) (nv b*dv a);have g:=Ja (Nat.sub_le (nv a*dv b) (nv b*dv a));have f:=Ja (Nat.sub_le (nv b*dv a) (nv a*dv b));rw[S7 b k hb ω,Ad,S7 a j s ω,Ad];dsimp only;rw[S5 _ _ ω ω,Ad,S5 _ _ ω ω,Ad,S5 _ _ ω ω,Ad];by_cases c:sv a = !sv b
 .have e:(sv a == !sv b)=true:=(by rw[c];exact beq_self_eq_true _);rw[e,Ak,Auh _ _ ω ω,Ad,Ad,P6 _ _ _ ω ω,L0,Kn,Au c,Au c];rfl
 .have e:(sv a == !sv b)=false:=(by cases u:sv a <;> cases v:sv b <;> simp_all);rw[e,Ap,S4 _ _ ω ω,Ad,L0,Kn,Ar c,Ar c];by_cases o:nv b*dv a<=nv a*dv b
  .rw[As (show Fk (nv a*dv b) (nv b*dv a)>=0 by rw[Fk,Ar ω];split <;> decide),Ak,Ag9 _ _ ω o,Ad,Ad,P6 _ _ _ ω ω,Au o,Au o];rfl
  .rw[Aw (show ¬Fk (nv a*dv b) (nv b*dv a)>=0 by rw[Fk,Au ω];decide),Ap,Ag9 _ _ ω ω,Ad,Ad,P6 _ _ _ ω ω,Ar o,Ar o];rfl
theorem Bay (s:Bool) (n:Nat):sg (!s) n = - sg s n:=by unfold sg;cases s <;> simp
theorem Baz {a b:Ao} (o:RB j a) (hb:RB k b) (u:j<34359738000) (v:k<34359738000):∃c,Uj a b=some c/\RB (j+k+3) c/\G9 c/\rq c=rq a-rq b:=by
 have e:=Bax a b j k o hb ω ω;have s:dv a*dv b≠0:=Nat.mul_ne_zero (F2 a) (F2 b);have w:=o.nv;have C:=o.dv;have D:=hb.nv;have E:=hb.dv;have q:=H5 (nv a) (dv b);have l:=H5 (nv b) (dv a);have i:=H5 (dv a) (dv b);have h:=Ab5 (nv a*dv b) (nv b*dv a);have g:=Ja (Nat.sub_le (nv a*dv b) (nv b*dv a));have f:=Ja (Nat.sub_le (nv b*dv a) (nv a*dv b));refine⟨_,e,?_,P7 _ _ _ s,?_⟩
 .refine M4 _ _ _ _ ?_ ω ω;unfold Kn;split
  .omega
  .split <;> omega
 .rw[Nz _ _ _ s,Ava,Bay,rq,rq,show mkRat (sg (sv a) (nv a)) (dv a)-mkRat (sg (sv b) (nv b)) (dv b)=mkRat (sg (sv a) (nv a)) (dv a)+mkRat (-sg (sv b) (nv b)) (dv b) by rw[<-Rat.neg_mkRat];grind,Rat.mkRat_add_mkRat _ _ (F2 a) (F2 b)]
theorem Adg (z:Int):mkRat z 1=(z:Rat):=by rw[Rat.mkRat_eq_div,show ((1:Nat):Rat)=1 from rfl];grind
theorem Aid (z:Int) (o : -9223372036854775808<=z) (q:z<=9223372036854775807):∃r,Ei z=some r/\RB 3 r/\G9 r/\rq r=(z:Rat):=by
 have b:Bs z.natAbs<=3:=Oy (n:=z.natAbs) ω;refine⟨_,X7 z o q,M4 _ _ _ _ b (by rw[Oz];decide) δ,P7 _ _ _ δ,?_⟩;rw[Nz _ _ _ δ,Adg];congr 1;unfold sg;by_cases h:z<0
 .rw[As h,Au rfl];omega
 .rw[Aw h,Ar δ];omega
theorem Anu (z:Int) (o : -9223372036854775808<=z) (q:z<=9223372036854775807):∃r,Ei z=some r/\Qj z=some r/\RB 3 r/\G9 r/\rq r=(z:Rat):=by
 have b:Bs z.natAbs<=3:=Oy (n:=z.natAbs) ω;refine⟨_,X7 z o q,A7k z o q,M4 _ _ _ _ b (by rw[Oz];decide) δ,P7 _ _ _ δ,?_⟩;rw[Nz _ _ _ δ,Adg];congr 1;unfold sg;by_cases h:z<0
 .rw[As h,Au rfl];omega
 .rw[Aw h,Ar δ];omega
theorem Ba0 (n:Nat) (c:n<1000000000):∃r,Ql 1 ((n+1:Nat):Int)=some r/\RB 3 r/\rq r=1 / ((n+1:Nat):Rat):=by have e:=Aun 1 ((n+1:Nat):Int) δ δ ω ω ω;have b:Bs ((n+1:Nat):Int).natAbs<=3:=Oy ω;refine⟨_,e,M4 _ _ _ _ (Oy δ) b δ,?_⟩;rw[Nz _ _ _ ω,Rat.mkRat_eq_div];rw[Aw (by decide:¬(1:Int)<0),Aw (ω:¬((n+1:Nat):Int)<0)];rfl
theorem Vz (n:Nat):rq (cR n)=(n:Rat):=by unfold cR;rw[Nz _ _ _ δ,Adg];rfl
theorem Aw6 (n:Nat):G9 (cR n):=P7 _ _ _ δ
theorem Ba1 (n j:Nat):(((j+1:Nat):Int))*(bc n (j+1):Int)=((n:Int)-j)*bc n j:=by
 have o:=Yj n (j+1);have q:=Yj n j;have s:=Yd j;rcases Cf n j with h|h
 .have g:=Ac5 h;have f:=Ac5 (show n<j+1 by omega);have b:=Yd (j+1);have u:bc n j=0:=by
   rw[g]at q;rcases Nat.mul_eq_zero.1 q.symm with h|h
   .exact (s h).elim
   .exact h
  have v:bc n (j+1)=0:=by
   rw[f]at o;rcases Nat.mul_eq_zero.1 o.symm with h|h
   .exact (b h).elim
   .exact h
  rw[u,v];simp
 .rw[Ia,q]at o;have w:fct j*(bc n j*(n-j))=fct j*((j+1)*bc n (j+1)):=(by rw[<-Nat.mul_assoc,o,fct];simp only[Nat.mul_assoc]);have C:=Nat.eq_of_mul_eq_mul_left (Nat.pos_of_ne_zero s) w;have c:((n:Int)-j)=((n-j:Nat):Int):=ω;rw[c,<-Int.natCast_mul,<-Int.natCast_mul,<-C,Nat.mul_comm]
theorem Ba2 (n j:Nat):(bc n j:Rat)*(((n:Rat)-(j:Rat))*(1 / ((j+1:Nat):Rat)))=(bc n (j+1):Rat):=by
 have h:=congrArg (λz:Int=>(z:Rat)) (Ba1 n j);simp only[Rat.intCast_mul,Rat.intCast_sub,Rat.intCast_natCast]at h;have b:((j+1:Nat):Rat)≠0:=by have:(0:Rat)<((j+1:Nat):Rat):=Rat.natCast_pos.2 ω;grind
 generalize ((j+1:Nat):Rat)=d at *;grind
theorem Anv (a:Ao):Ao.mk a.N a.U a.B=a:=by cases a;rfl
theorem Ba3 {a:Ao} {z:Int} (H:RB K a) (V:K<=100000000) (v:rq a=(z:Rat)) (k:Nat) (W:k<=64) : ∃c,Uc a (k:Int)=some c/\G9 c/\RB (3+k*(K+20)) c/\rq c=(bc z.toNat k:Rat):=by
 unfold Uc;rw[(Ahp H ω).1,Ad];obtain⟨b,n,U,S,R,N⟩:∃(b:Ao) (n:Nat),(bif decide (N0 (rq a)<(0:Int)) then ((Ei 0).bind λC=>some (C.N,C.U,C.B)) else some (a.N,a.U,a.B))=some (b.N,b.U,b.B)/\RB (K+3) b/\rq b=(n:Rat)/\n=z.toNat:=by
  by_cases h:z<0
  .have i:rq a<0:=(by rw[v];exact_mod_cast h);have:N0 (rq a)<0:=(by unfold N0;rw[Au i];decide);rw[As this,Ak,Ah1];exact⟨cR 0,0,rfl,(O0 (k:=1) (by rw[Ab4];decide) δ).mono ω,by rw[Vz],ω⟩
  .have i:¬rq a<0:=(by rw[v];intro T;exact h (by exact_mod_cast T));have:¬N0 (rq a)<0:=(by unfold N0;rw[Ar i];split <;> decide);rw[Aw this,Ap];refine⟨a,z.toNat,rfl,H.mono ω,?_,rfl⟩;rw[v];have:z=((z.toNat:Nat):Int):=ω;exact (congrArg (λy:Int=>(y:Rat)) this).trans (Rat.intCast_natCast _)
 erw[U];rw[Ad];dsimp only;rw[Ml,Ad,<-N];refine Ej (λs=>∃(j:Nat) (P:Ao),s=((j:Int),P.N,P.U,P.B)/\j<=k/\G9 P/\RB (3+j*(K+20)) P/\rq P=(bc n j:Rat)) (λs=>k-s.1.toNat) (λe=>∃P:Ao,e=(P.N,P.U,P.B)/\G9 P/\RB (3+k*(K+20)) P/\rq P=(bc n k:Rat)) ⟨0,cR 1,rfl,ω,Aw6 1,(O0 (k:=1) (by rw[Oz];decide) δ).mono ω,by rw[Vz,J6]⟩ ?_ ?_
 .rintro s ⟨j,P,rfl,X,F,g,o⟩;rcases Cf j k with h|h
  .obtain⟨r,E,D,_,B⟩:=Aid (j:Int) ω ω;obtain⟨d,d1,d2,d3,d4⟩:=Baz S D ω ω;obtain⟨w,x,u,l⟩:=Ba0 j ω;obtain⟨f,f1,f2,_,f3⟩:=Tb d2 u ω ω;have M:j*(K+20)<=64*(K+20):=Nat.mul_le_mul_right _ ω;obtain⟨q,L,J,I,G⟩:=Tb g f2 ω ω;have A:Ac ((j:Int)+1)=((j+1:Nat):Int):=C6 h ω;simp only[As (ω:(j:Int)<(k:Int)),Ak,E,Ad,A,x];rw[show (Uj (Ao.mk b.N b.U b.B) r)=some d from d1,Ad,f1,Ad,show (E6 (Ao.mk P.N P.U P.B) f)=some q from L,Ad];refine .inl ⟨_,rfl,⟨j+1,q,rfl,ω,I,J.mono (by rw[Nat.add_mul];omega),?_⟩,by simp only[Int.toNat_natCast];omega⟩;rw[G,o,f3,d4,l,R,B,Rat.intCast_natCast];exact Ba2 n j
  .have:j=k:=ω;subst this;exact .inr ⟨(P.N,P.U,P.B),by rw[Aw ω];rfl,P,rfl,F,g,o⟩
 .rintro e ⟨P,rfl,F,g,o⟩;exact⟨P,by rw[<-Anv P],F,g,o⟩
def K1 (val:Int->Az) (l:Bg):Int:=l.Q+(l.T.map λt=>t.C*(val t.v).U).sum
def D1:List Nat->Nat
 | []=>1
 | a::l=>a*D1 l
theorem Aw7:∀(l:List Nat) (a:Nat),D1 (l++[a])=D1 l*a
 | [],a=>by simp[D1]
 | b::l,a=>by rw[D4,D1,D1,Aw7 l a,Nat.mul_assoc]
theorem Aw8 {f:α->Nat} {l:List α} {x:α} (h:l[j]? = some x):D1 ((l.take (j+1)).map f)=D1 ((l.take j).map f)*f x:=by rw[Cz h,map_append];exact Aw7 _ _
def Kp (x:Ck) (val:Int->Az) (f:Bi):Nat:=match D3 x.V x.E f.v with|some t=>bv x.D f.I t (val f.v) | none=>0
def Ra (val:Int->Az) (a:Bh):Nat:=bc (K1 val a.L).toNat a.P.toNat
def Th (x:Ck) (val:Int->Az) (m:A7):Nat:=D1 (m.F.map (Kp x val))*D1 (m.A.map (Ra val))
def Mm (x:Ck) (val:Int->Az):List An->Rat
 | []=>0
 | t::p=>rq t.C*(Th x val t.M:Rat)+Mm x val p
theorem Aw9 (x:Ck) (val:Int->Az):∀p q:List An,Mm x val (p++q)=Mm x val p+Mm x val q
 | [],q=>by simp only[nil_append,Mm];grind
 | t::p,q=>by simp only[D4,Mm,Aw9 x val p q];grind
theorem Ba4 {val:Int->Az} (c:Int) {l:List Bt} {u:Bt} (h:l[j]? = some u):K1 val ⟨c,l.take (j+1)⟩=K1 val ⟨c,l.take j⟩+u.C*(val u.v).U:=by unfold K1;rw[Cz h];simp only[map_append,sum_append,map_cons,map_nil,sum_cons,sum_nil];omega
structure Anw (x:Ck) (env:List Az) (res:Az) (m:A7):Prop where
 fl:m.F.length<=6
 al:m.A.length<=6
 fac:∀f∈m.F,∃t,D3 x.V x.E f.v=some t/\Wv x.D t f.I (Du env res f.v)=some (cR (Kp x (Du env res) f),0)/\Kp x (Du env res) f<=5000 ^ 6
 atm:∀a∈m.A,1<=a.P/\a.P<=6/\-1048576<=a.L.Q/\a.L.Q<=1048576/\a.L.T.length<=16 /\
  ∀u∈a.L.T,-1048576<=u.C/\u.C<=1048576/\∃t,D3 x.V x.E u.v=some t/\-1099511627776<=(Du env res u.v).U/\(Du env res u.v).U<=1099511627776
theorem Ba5 {E:Type} {step:Int×Bool×List Int×List Int->Option ((Int×Bool×List Int×List Int)⊕E)} {J:E->Option R} (F:List Bi) (v:Bi->Nat) (i:Ao->E) (y:F.length<=6) (C:∀f∈F,v f<=5000 ^ 6) (l:∀(j:Nat) (f:Bi) (g c:Ao),F[j]? = some f->decide ((j:Int)<(F.length:Int))=true->Ag F (j:Int)=some f->Ac ((j:Int)+1)=((j+1:Nat):Int)->E6 g (cR (v f))=some c->step ((j:Int),g.N,g.U,g.B)=some (.inl (((j+1:Nat):Int),c.N,c.U,c.B))) (q:∀g:Ao,decide ((F.length:Int)<(F.length:Int))=false->step ((F.length:Int),g.N,g.U,g.B)=some (.inr (i g))) {a:Ao} (D:RB K a) (x:K<=20000000) (u:∀m,RB (K+30) m->(F = []->m=a)->(F≠[]->G9 m)->rq m=rq a*(D1 (F.map v):Rat)->∃r,J (i m)=some r/\Q r):∃r,(Am step (0,a.N,a.U,a.B)).bind J=some r/\Q r:=by
 refine Ej (λs=>∃(j:Nat) (g:Ao),s=((j:Int),g.N,g.U,g.B)/\j<=F.length/\RB (K+j*5) g/\(j=0->g=a)/\(0<j->G9 g)/\rq g=rq a*(D1 ((F.take j).map v):Rat)) (λs=>F.length-s.1.toNat) (λe=>∃g:Ao,e=i g/\RB (K+30) g/\(F = []->g=a)/\(F≠[]->G9 g)/\rq g=rq a*(D1 (F.map v):Rat)) ⟨0,a,rfl,ω,D.mono ω,λ_=>rfl,λh=>ω,by simp only[take_zero,map_nil,D1];show _=_*(1:Rat);grind⟩ ?_ ?_
 .rintro s ⟨j,g,rfl,W,w,G,k,b⟩;rcases Cf j F.length with h|h
  .have o:F[j]? = some F[j]:=Bq h;generalize F[j]=f at o;have H:Sm (v f):=C f (Bz o);obtain⟨c,I,L,M,P⟩:=Tb w (O0 H.lg δ) ω δ;rw[l j f g c o (As ω) (Br rfl o) (C6 h ω) I];refine .inl ⟨_,rfl,⟨j+1,c,rfl,ω,L.mono ω,λh=>ω,λ_=>M,?_⟩,by simp only[Int.toNat_natCast];omega⟩;rw[P,b,Vz,Aw8 o,Rat.natCast_mul];grind
  .have:j=F.length:=ω;subst this;rw[Db]at b;refine .inr ⟨i g,q g (Aw ω),g,rfl,w.mono ω,λh=>G (by rw[h];rfl),λh=>k (length_pos_iff.2 h),b⟩
 .rintro e ⟨g,rfl,S,T,U,V⟩;exact u g S T U V
theorem Ba6 {f:List Az} (B:f.length=x.V.length) {l:Bg} (Z:l.T.length<=16) (hc : -1048576<=l.Q/\l.Q<=1048576) (ht:∀u∈l.T,-1048576<=u.C/\u.C<=1048576/\∃t,D3 x.V x.E u.v=some t/\-1099511627776<=(Du f res u.v).U/\(Du f res u.v).U<=1099511627776) (G:∀g:Ao,RB 200 g->rq g=(K1 (Du f res) l:Rat)->∃r,J ((l.T.length:Int),g.N,g.U,g.B)=some r/\Q r) : ∃r,((Ei l.Q).bind λo=> (Am (S:=(Int×Bool×List Int×List Int)) (E:=(Int×Bool×List Int×List Int)) (λ(i,v,w,q)=> bif i<(l.T.length:Int) then ((Ag l.T i).bind λC=> (Ei C.C).bind λF=> (Pe C.v res f).bind λA=> (Ei A.U).bind λz=> (E6 F z).bind λH=> (Jj (Ao.mk v w q) H).bind λk=> some (.inl ((Ac (i+1)),k.N,k.U,k.B))) else some (.inr (i,v,w,q))) (0,o.N,o.U,o.B)).bind J)=some r/\Q r:=by
 obtain⟨a,W,a2,a3,a4⟩:=Aid l.Q ω ω;rw[W,Ad];refine Ej (λs=>∃(j:Nat) (g:Ao),s=((j:Int),g.N,g.U,g.B)/\j<=l.T.length/\RB (3+j*11) g/\rq g=(K1 (Du f res) ⟨l.Q,l.T.take j⟩:Rat)) (λs=>l.T.length-s.1.toNat) (λe=>∃g:Ao,e=((l.T.length:Int),g.N,g.U,g.B)/\RB 200 g/\rq g=(K1 (Du f res) l:Rat)) ⟨0,a,rfl,ω,a2.mono ω,by rw[a4];unfold K1;simp⟩ ?_ ?_
 .rintro s ⟨j,g,rfl,hj,T,y⟩;rcases Cf j l.T.length with h|h
  .have P:l.T[j]? = some l.T[j]:=Bq h;generalize l.T[j]=u at P;obtain⟨Y,X,t,D,V,U⟩:=ht u (Bz P);obtain⟨b,b1,b2,b3,N⟩:=Aid u.C ω ω;obtain⟨c,c1,c2,c3,c4⟩:=Aid (Du f res u.v).U ω ω;obtain⟨d,d1,d2,d3,d4⟩:=Tb b2 c2 δ δ;obtain⟨e,M,_,L,e3,I⟩:=Acx T d2 ω δ;simp only[As (ω:(j:Int)<(l.T.length:Int)),Ak,Br rfl P,Ad,b1,Ang B res D,c1,d1,C6 h ω];rw[show (Jj (Ao.mk g.N g.U g.B) d)=some e from M,Ad];refine .inl ⟨_,rfl,⟨j+1,e,rfl,ω,L.mono ω,?_⟩,by simp only[Int.toNat_natCast];omega⟩;rw[I,y,d4,N,c4,Ba4 _ P,Rat.intCast_add,Rat.intCast_mul]
  .have:j=l.T.length:=ω;subst this;rw[Db]at y;exact .inr ⟨((l.T.length:Int),g.N,g.U,g.B),by simp only[Aw (ω:¬(l.T.length:Int)<(l.T.length:Int)),Ap],g,rfl,T.mono ω,y⟩
 .rintro e ⟨g,rfl,h1,h2⟩;exact G g h1 h2
theorem Ba7 {b:List Az} (N:b.length=x.V.length) (V:Anw x b res m) {a:Ao} (ha:RB K a) (hK:K<=20000000) (hJ:∀g:Ao,RB (K+12000) g->(m.A = []->g=a)->(m.A≠[]->G9 g)->rq g=rq a*(D1 (m.A.map (Ra (Du b res))):Rat)->∃r,J ((m.A.length:Int),g.N,g.U,g.B)=some r/\Q r) : ∃r,(Am (S:=(Int×Bool×List Int×List Int)) (E:=(Int×Bool×List Int×List Int)) (λ(k,A,z,y)=> bif k<(m.A.length:Int) then ((Ag m.A k).bind λi=> (Ei i.L.Q).bind λo=> (Am (S:=(Int×Bool×List Int×List Int)) (E:=(Int×Bool×List Int×List Int)) (λ(f,w,C,u)=> bif f<(i.L.T.length:Int) then ((Ag i.L.T f).bind λF=> (Ei F.C).bind λH=> (Pe F.v res b).bind λM=> (Ei M.U).bind λL=> (E6 H L).bind λP=> (Jj (Ao.mk w C u) P).bind λl=> some (.inl ((Ac (f+1)),l.N,l.U,l.B))) else some (.inr (f,w,C,u))) (0,o.N,o.U,o.B)).bind λ(a0,I,G,T)=> (Uc (Ao.mk I G T) i.P).bind λD=> (E6 (Ao.mk A z y) D).bind λv=> some (.inl ((Ac (k+1)),v.N,v.U,v.B))) else some (.inr (k,A,z,y))) (0,a.N,a.U,a.B)).bind J=some r/\Q r:=by
 refine Ej (λs=>∃(j:Nat) (g:Ao),s=((j:Int),g.N,g.U,g.B)/\j<=m.A.length/\RB (K+j*2000) g/\(j=0->g=a)/\(0<j->G9 g)/\rq g=rq a*(D1 ((m.A.take j).map (Ra (Du b res))):Rat)) (λs=>m.A.length-s.1.toNat) (λe=>∃g:Ao,e=((m.A.length:Int),g.N,g.U,g.B)/\RB (K+12000) g/\(m.A = []->g=a)/\(m.A≠[]->G9 g)/\rq g=rq a*(D1 (m.A.map (Ra (Du b res))):Rat)) ⟨0,a,rfl,ω,ha.mono ω,λ_=>rfl,λh=>ω,by simp only[take_zero,map_nil,D1];show _=_*(1:Rat);grind⟩ ?_ ?_
 .rintro s ⟨j,g,rfl,hj,hg,h0,U,B⟩;have a1:=V.al;rcases Cf j m.A.length with h|h
  .have W:m.A[j]? = some m.A[j]:=Bq h;generalize m.A[j]=t at W;obtain⟨t1,t2,t3,t4,t5,t6⟩:=V.atm t (Bz W);left;refine Xu ?_;simp only[As (ω:(j:Int)<(m.A.length:Int)),Ak,Br rfl W,Ad,C6 h ω];refine Ba6 N t5 ⟨t3,t4⟩ t6 λn n1 n2=>?_;obtain⟨d,hd⟩:∃d:Nat,t.P=d:=⟨t.P.toNat,ω⟩;obtain⟨c,c1,c2,c3,c4⟩:=Ba3 n1 δ n2 d ω;obtain⟨q,q1,Z,Y,X⟩:=Tb hg (c3.mono (show 3+d*(200+20)<=1900 by omega)) ω δ;refine⟨.inl (((j+1:Nat):Int),q.N,q.U,q.B),?_,_,rfl,⟨j+1,q,rfl,ω,Z.mono ω,λh=>ω,λ_=>Y,?_⟩,by simp only[Int.toNat_natCast];omega⟩
   .show (Uc n t.P).bind _=_;rw[hd,c1,Ad];show (E6 g c).bind _=_;rw[q1];rfl
   .have:Ra (Du b res) t=bc (K1 (Du b res) t.L).toNat d:=(by unfold Ra;rw[hd,Int.toNat_natCast]);rw[X,B,c4,Aw8 W,Rat.natCast_mul,this];grind
  .have:j=m.A.length:=ω;subst this;rw[Db]at B;refine .inr ⟨((m.A.length:Int),g.N,g.U,g.B),by simp only[Aw (ω:¬(m.A.length:Int)<(m.A.length:Int)),Ap],g,rfl,hg.mono ω,λh=>h0 (by rw[h];rfl),λh=>U (length_pos_iff.2 h),B⟩
 .rintro e ⟨g,rfl,h1,h2,h3,h4⟩;exact hJ g h1 h2 h3 h4
theorem Ba8 (x:Ck) (q:CSz x) (o:Ij x) (i:Ai) (t:Af) (hg:G4 x.D t=true) (u:Bw i<=1048576) (w:Az) (h:M6 x.D w t=true) (s:Dj x.D i t=some d) (c:d<=6) : Wv x.D t i w=some (cR (bv x.D i t w),0)/\bv x.D i t w<=5000 ^ 6:=by have g:=hg;simp only[G4,Cv,Dk]at g;have f:=h;unfold M6 at f;simp only[Cv,Dk]at f;obtain⟨⟨_,j⟩,k⟩:=f;have d1:=Ahn q.ds o.2.1 t hg i u;obtain⟨b,v,l⟩:=Au6 q.ds w t ω ω;have C:b=true:=l.2 ⟨o.2.1,h⟩;subst C;refine⟨?_,Nat.le_trans ((Yr x.D 5000 δ _).1 i t w d (Nat.le_refl _) s j) (Nat.pow_le_pow_right δ c)⟩;unfold Wv W2;rw[d1,s,Q3 c,Ad,Ad,As ω,v];simp only[Ad,Fz,Ap];rw[Bah o.2.1.szv q.ds.sz.short o.2.1.cons8 (Bw i) i t w 4000000 d (Nat.le_refl _) ω ω s c ω k j];rfl
theorem Ba9 (o:Ij x) {v:Int} (h:D3 x.V x.E v=some t):G4 x.D t=true:=by
 unfold D3 at h;by_cases e:v = -1
 .rw[Au e]at h;cases h;exact o.2.2.1
 .rw[Ar e]at h;exact Gt.1 o.2.2.2 t (Hg h).2.2.2
theorem Bba (h:Jy x m):∀v∈Jz m,∃t,D3 x.V x.E v=some t:=by
 intro v o;unfold Jz M9 at o;rcases En.1 o with o|o
 .obtain⟨f,s,rfl⟩:=mem_map.1 o;exact (Aho h.1).1 f s
 .obtain⟨a,w,o⟩:=mem_flatMap.1 o;obtain⟨u,C,rfl⟩:=mem_map.1 o;have b:=h.1;unfold Jw at b;simp only[Cv]at b;obtain⟨j,D⟩:=Hu w;have:=Jo b.1.2 D;simp only[Ny,Cv,Dk]at this;have q:=Gt.1 this.1.2 u C;unfold P4 at q;cases E:D3 x.V x.E u.v with| none=>rw[E]at q;cases q| some t=>exact⟨t,rfl⟩
theorem Bbb (W:CSz x) (V:Ij x) {c:List Az} (h:Jy x m) (s:∀v∈Jz m,Jd x c res v=true):Anw x c res m:=by
 have hc:=h.cmo;have A:=h.1;have z:=Anc h.1 h.2;have q:=Aho h.1;unfold Jw at A;simp only[Cv]at A;have G:∀f∈m.F,Jd x c res f.v=true:=λf g=>s _ (by unfold Jz;exact En.2 (.inl (mem_map.2 ⟨f,g,rfl⟩)));refine⟨q.2,?_,λf g=>?_,λa C=>?_⟩
 .obtain⟨_,_,F,_⟩:=z;first|exact F|omega
 .obtain⟨t,o⟩:=q.1 f g;obtain⟨j,H⟩:=Hu g;have k:=Jo A.1.1 H;simp only[P5,Cv,Dk]at k;have w:=k.1;unfold Eg at w;rw[o]at w;have w:1<=Ju (Dj x.D f.I t):=w;have U:M6 x.D (Du c res f.v) t=true:=(by have:=G f g;unfold Jd at this;rw[o]at this;exact this);rcases Al4 (Dj x.D f.I t) with⟨P,_⟩|⟨d,P,F,_⟩
  .rw[P]at w;omega
  .obtain⟨X,g2⟩:=Ba8 x W V f.I t (Ba9 V o) (h.2.fi f g) _ U P F;have E:Kp x (Du c res) f=bv x.D f.I t (Du c res f.v):=(by unfold Kp;rw[o]);rw[E];exact⟨t,o,X,g2⟩
 .obtain⟨j,H⟩:=Hu C;have k:=Jo A.1.2 H;simp only[Ny,Cv,Dk]at k;obtain⟨⟨⟨⟨S,B⟩,_⟩,R⟩,_⟩:=k;have N:a.P<=6:=(by obtain⟨_,_,_,h4⟩:=z;exact (h4 a C).2.2.2);unfold D0 at B;simp only[Cv,Dk]at B;obtain⟨⟨M,L,J⟩,I⟩:=B;refine⟨S,N,M,L,J,λu T=>?_⟩;obtain⟨i,hi⟩:=Hu T;have y:=Jo I hi;simp only[P3,Cv,Dk]at y;obtain⟨⟨_,_,_,c1,c2⟩,_⟩:=y;have l:=Gt.1 R u T;unfold P4 at l;have b:Jd x c res u.v=true:=s _ (by unfold Jz M9;exact En.2 (.inr (mem_flatMap.2 ⟨a,C,mem_map.2 ⟨u,T,rfl⟩⟩)));cases o:D3 x.V x.E u.v with| none=>rw[o]at l;cases l| some t=>rw[o]at l;have D:t.G=1:=eq_of_beq l;unfold Jd at b;rw[o]at b;have b:M6 x.D (Du c res u.v) t=true:=b;unfold M6 at b;rw[Ta,Au D]at b;simp only[Cv,Dk]at b;exact⟨c1,c2,t,rfl,b.2.1.1.2,b.2.1.2⟩
theorem Bbc (o:CSz x) (q:Ij x) (w:Az) (t:Af) (u:C1 w<=1048576) (ht:B0 t<=200):R4 x.D w t=some (M6 x.D w t):=by obtain⟨b,s,c⟩:=Au6 o.ds w t ω ω;rw[s];congr 1;rw[Bool.eq_iff_iff,c];exact⟨λh=>h.2,λh=>⟨q.2.1,h⟩⟩
theorem Bbd (x:Ck) (C:CSz x) (D:Ij x) (b:List Az) (res:Az) (l:b.length=x.V.length) (k:∀v∈b,C1 v<=1048576) (f:C1 res<=1048576) (V:List Int) (s:V.length<=1000000) (i:∀v∈V,∃t,D3 x.V x.E v=some t) (b1:List (ByteArray×Int)) (b2:List (ByteArray×List Ax)) : Am (S:=Int) (E:=((Ao×Int)⊕Unit)) (λo=> bif o<(V.length:Int) then ((Ag V o).bind λc=> (Pe c res b).bind λg=> (Ln c b1 b2 x.D x.V x.E.G x.E.U x.E.R).bind λu=> (R4 x.D g u).bind λw=> bif (!w) then some (.inr (.inl ((Ao.mk false [] []),11))) else some (.inl (Ac (o+1)))) else some (.inr (.inr ()))) 0=some (bif V.all (Jd x b res) then .inr () else .inl (⟨false,[],[]⟩,11)):=by
 rw[<-Option.bind_fun_some (Am _ _)];refine Ab6 V (Jd x b res) (λj=>(j:Int)) rfl ω ?_ ?_
 .intro j v F G H I;obtain⟨t,ht⟩:=i v (Bz F);have q:=(D.ctx C).sz v t ht;have L:Jd x b res v=M6 x.D (Du b res v) t:=(by unfold Jd;rw[ht]);simp only[G,H,I,Ak,Ad,Ang l res ht,Ack (ht:=ht),Bbc C D (Du b res v) t (A9t k f v) ω,L];cases M6 x.D (Du b res v) t with| true=>exact⟨λ_=>rfl,λh=>by cases h⟩| false=>exact⟨nofun,λ_=>⟨_,rfl,rfl⟩⟩
 .intro h;exact⟨.inr (),by simp only[h];rfl,rfl⟩
theorem Bbe {p:List An} (hp:∀t∈p,Jy x t.M) (D:p.length<=1000):(Hy p).length<=102000:=by
 have o:∀q:List An,(∀t∈q,Jy x t.M)->(Hy q).length<=102*q.length:=by
  intro q;induction q with
  | nil=>intro _;simp[Hy]
  | cons t q ih=>intro h;have H:=ih λu v=>h u (by simp[v]);have w:=h t ψ;have f:=w.1;have z:=(Aho f).2;have s:=Anc w.1 w.2;have B:t.M.A.length<=6:=(by obtain⟨_,_,C,_⟩:=s;first|exact C|omega);unfold Jw at f;simp only[Cv]at f;have b:∀a∈t.M.A,a.L.T.length<=16:=(by intro a E;obtain⟨j,F⟩:=Hu E;have c:=Jo f.1.2 F;simp only[Ny,Cv,Dk]at c;have i:=c.1.1.1.2;unfold D0 at i;simp only[Cv,Dk]at i;exact i.1.2.2);have G:∀A:List Bh,(∀a∈A,a.L.T.length<=16)->(M9 A).length<=16*A.length:=(by intro A;induction A with| nil=>intro _;simp[M9]| cons a A k=>intro g;have I:=k λu v=>g u (by simp[v]);have L:=g a ψ;unfold M9 at *;simp only[flatMap_cons,Ew,C5,D2];omega);have C:=G t.M.A b;have y:Hy (t::q)=Jz t.M++Hy q:=(by simp[Hy]);have l:(Jz t.M).length=t.M.F.length+(M9 t.M.A).length:=(by unfold Jz;simp);rw[y,Ew,D2,l];omega
 have:=o p hp;omega
structure V1 (x:Ck) (p:List An) (env:List Az) (res:Az) (u:Ao):Prop where
 can:G9 u
 rb:RB 2000000000 u
 val:rq u=Mm x (Du env res) p
theorem Bbf (x:Ck) (F:CSz x) (p:List An) (hp:∀t∈p,TSz t) (b:List Az) (res:Az) (a1:∀v∈b,C1 v<=1048576) (G:C1 res<=1048576) : ∃r,Ry x p b res=some r/\((¬(Ij x/\Jr x.D x.V x.E p=true)/\r=(⟨false,[],[]⟩,1))\/((Ij x/\Jr x.D x.V x.E p=true) /\ ((b.length≠x.V.length/\r=(⟨false,[],[]⟩,5))\/(b.length=x.V.length/\((¬(∀v∈Hy p,Jd x b res v=true)/\r=(⟨false,[],[]⟩,11))\/((∀v∈Hy p,Jd x b res v=true)/\∃u,r=(u,0)/\V1 x p b res u)))))):=by
 by_cases o:Ij x/\Jr x.D x.V x.E p=true
 .have hf:=o.1;have L:J5 x p:=⟨o.2,hp⟩;obtain⟨b',hb,_⟩:=Aws F (ps:=[p]) (λq w=>by simp only[D5]at w;subst w;exact hp) ψ ⟨o.1,λq w=>by simp only[D5]at w;subst w;exact o.2⟩;have hl:=(Acy.1 o.2).1;have a7:=Bbe L.mo hl;have a6:∀t∈p,t.M.A.length<=1000000:=λt ht=>by obtain⟨_,_,h3,_⟩:=(L.mo t ht).cmo;omega
  obtain⟨V,v1,v2,v3,P⟩:=A94 p ω a6 ω;unfold Ry;rw[hb];simp only[Ad,Fz,Ap];by_cases l:b.length=x.V.length
  .rw[G1 ω,Ap,v1,Ad];have R:∀v∈V,∃t,D3 x.V x.E v=some t:=λv N=>by have:=(P v).1 N;unfold Hy at this;obtain⟨t,ht,D⟩:=mem_flatMap.1 this;exact Bba (L.mo t ht) v D
   rw[Bbd x F hf b res l a1 G V v3 R b' [],Ad];cases y:V.all (Jd x b res) with
   | false=>refine⟨_,rfl,.inr ⟨o,.inr ⟨l,.inl ⟨λh=>?_,rfl⟩⟩⟩⟩;rw[all_eq_false]at y;obtain⟨v,T,W⟩:=y;exact W (h v ((P v).1 T))
   | true=>
    have A:∀v∈Hy p,Jd x b res v=true:=λv h=>Gt.1 y v ((P v).2 h);have S:∀t∈p,Anw x b res t.M:=λt ht=>Bbb F hf (L.mo t ht) λv h=>A v (mem_flatMap.2 ⟨t,ht,h⟩);have C:∀{X:Option (Ao×Int)},(∃r,X=some r/\∃u,r=(u,0)/\V1 x p b res u)->∃r,X=some r/\((¬(Ij x/\Jr x.D x.V x.E p=true)/\r=(⟨false,[],[]⟩,1))\/((Ij x/\Jr x.D x.V x.E p=true) /\
      ((b.length≠x.V.length/\r=(⟨false,[],[]⟩,5))\/(b.length=x.V.length/\((¬(∀v∈Hy p,Jd x b res v=true)/\r=(⟨false,[],[]⟩,11))\/((∀v∈Hy p,Jd x b res v=true)/\∃u,r=(u,0)/\V1 x p b res u)))))):=by rintro X ⟨r,T,W⟩;exact⟨r,T,.inr ⟨o,.inr ⟨l,.inr ⟨A,W⟩⟩⟩⟩
    refine C ?_;simp only[Ak,Ah1,Ad];refine Ej (λs=>∃(j:Nat) (g:Ao),s=((j:Int),g.N,g.U,g.B)/\j<=p.length/\RB (1+j*1070000) g/\G9 g/\rq g=Mm x (Du b res) (p.take j)) (λs=>p.length-s.1.toNat) (λz=>∃g:Ao,z = .inr (g.N,g.U,g.B)/\V1 x p b res g) ⟨0,cR 0,rfl,ω,(O0 (k:=1) (by rw[Ab4];decide) δ).mono ω,Aw6 0,by rw[Vz];rfl⟩ ?_ ?_
    .rintro s ⟨j,g,rfl,hj,hg,U,B⟩;rcases Cf j p.length with h|h
     .have H:p[j]? = some p[j]:=Bq h;generalize p[j]=t at H;have E:=Bz H;have D:=S t E;left;refine Xu ?_;simp only[As (ω:(j:Int)<(p.length:Int)),Ak,Br rfl H,Ad,C6 h ω];refine Ba5 t.M.F (Kp x (Du b res)) (λc=>.inr ((t.M.F.length:Int),c.N,c.U,c.B)) D.fl (λf Y=>by obtain⟨_,_,_,h⟩:=D.fac f Y;exact h) ?_ ?_ (hp t E).co δ λm1 r1 _ _ q1=>?_
      .intro i f c c' Z M k2 k3 I;obtain⟨ty,t1,t2,_⟩:=D.fac f (Bz Z);simp only[M,k2,k3,Ak,Ad,Ack (ht:=t1),Ang l res t1,t2,bne_self_eq_false,Ap];show (E6 c (cR (Kp x (Du b res) f))).bind _=_;rw[I];rfl
      .intro c M;simp only[M,Ap]
      .dsimp only;refine Ba7 l D r1 δ λm2 r2 _ _ q2=>?_;obtain⟨c,c1,_,c2,c3,c4⟩:=Acx hg r2 ω δ;refine⟨.inl (((j+1:Nat):Int),c.N,c.U,c.B),?_,_,rfl,⟨j+1,c,rfl,ω,c2.mono ω,c3,?_⟩,by simp only[Int.toNat_natCast];omega⟩
       .show (Jj g m2).bind _=_;rw[c1];rfl
       .rw[c4,B,q2,q1,Cz H,Aw9];show _=_+(rq t.C*(Th x (Du b res) t.M:Rat)+0);unfold Th;rw[Rat.natCast_mul];grind
     .have:j=p.length:=ω;subst this;rw[Db]at B;exact .inr ⟨.inr (g.N,g.U,g.B),by simp only[Aw (ω:¬(p.length:Int)<(p.length:Int)),Ap],g,rfl,U,hg.mono ω,B⟩
    .rintro z ⟨g,rfl,hE⟩;exact⟨(g,0),by rw[<-Anv g],g,rfl,hE⟩
  .rw[F7 ω,Ak];exact⟨_,rfl,.inr ⟨o,.inl ⟨l,rfl⟩⟩⟩
 .have J:¬(Ij x/\∀r∈[p],Jr x.D x.V x.E r=true):=λh=>o ⟨h.1,h.2 p ψ⟩;have he:=Awr F (ps:=[p]) (λr hr=>by simp only[D5]at hr;subst hr;exact hp) ψ J;refine⟨_,?_,.inl ⟨o,rfl⟩⟩;unfold Ry;rw[he];rfl
open Classical in
noncomputable def cfW:List (Rat×A7)->A7->Rat
 | [],_=>0
 | t::l,m=>(if t.2=m then t.1 else 0)+cfW l m
def K4 (v:A7->Nat):List (Rat×A7)->Rat
 | []=>0
 | t::l=>t.1*(v t.2:Rat)+K4 v l
open Classical in
noncomputable def Ti (l:List (Rat×A7)) (m:A7):List (Rat×A7):=l.filter λt=>decide (t.2≠m)
open Classical in
theorem Axa (v:A7->Nat) (m:A7):∀l:List (Rat×A7),K4 v l=cfW l m*(v m:Rat)+K4 v (Ti l m)
 | []=>by simp only[K4,cfW,Ti,filter_nil];grind
 | t::l=>by
  have ih:=Axa v m l;unfold Ti at *;simp only[K4,cfW];by_cases e:t.2=m
  .rw[Au e,filter_cons_of_neg (by simp[e]),ih,e];grind
  .rw[Ar e,filter_cons_of_pos (by simp[e])];simp only[K4];rw[ih];grind
open Classical in
theorem Axb (m:A7):∀(l:List (Rat×A7)) (q:A7),cfW (Ti l m) q=if q=m then 0 else cfW l q
 | [],q=>by simp[Ti,cfW]
 | t::l,q=>by
  have ih:=Axb m l q;unfold Ti at *;by_cases e:t.2=m
  .rw[filter_cons_of_neg (by simp[e]),ih];by_cases o:q=m
   .rw[Au o,Au o]
   .rw[Ar o,Ar o];simp only[cfW];rw[Ar (by rw[e];exact λh=>o h.symm)];grind
  .rw[filter_cons_of_pos (by simp[e])];simp only[cfW];rw[ih];by_cases o:q=m
   .rw[Au o,Au o,Ar (by rw[o];exact e)];grind
   .rw[Ar o,Ar o]
open Classical in
theorem Bbg (v:A7->Nat):∀(n:Nat) (l:List (Rat×A7)),l.length<=n->(∀m,0<=cfW l m)->0<=K4 v l:=by
 intro n;induction n with
 | zero=>intro l o _;have:l = []:=Fr.1 ω;subst this;exact Rat.le_refl
 | succ n ih=>
  intro l o h;cases l with
  | nil=>exact Rat.le_refl
  | cons t l=>
   rw[Axa v t.2 (t::l)];have q:0<=K4 v (Ti (t::l) t.2):=by
    refine ih _ ?_ λm=>?_
    .unfold Ti;rw[filter_cons_of_neg ψ];have:=length_filter_le (λu:Rat×A7=>decide (u.2≠t.2)) l;simp only[D2]at o;omega
    .rw[Axb];split
     .exact Rat.le_refl
     .exact h m
   have s:=Rat.mul_nonneg (h t.2) (Rat.natCast_nonneg (a:=v t.2));grind
def wT (t:An):Rat×A7:=(rq t.C,t.M)
def nT (t:An):Rat×A7:=(- rq t.C,t.M)
theorem Bbh (p:List An) (m:A7):cfW (p.map wT) m=cf p m:=by induction p with| nil=>rfl| cons t p ih=>simp only[map_cons,cfW,ih,Vt,wT]
theorem Bbi (p:List An) (m:A7):cfW (p.map nT) m = - cf p m:=by induction p with| nil=>show (0:Rat) = - 0;grind| cons t p ih=>simp only[map_cons,cfW,ih,Vt,nT];split <;> grind
theorem Bbj (l k:List (Rat×A7)) (m:A7):cfW (l++k) m=cfW l m+cfW k m:=by induction l with| nil=>simp only[nil_append,cfW];grind| cons t l ih=>simp only[D4,cfW,ih];grind
theorem Bbk (v:A7->Nat) (l k:List (Rat×A7)):K4 v (l++k)=K4 v l+K4 v k:=by induction l with| nil=>simp only[nil_append,K4];grind| cons t l ih=>simp only[D4,K4,ih];grind
theorem Bbl:∀(k:Nat) (v:Az),C1 v<=k->k<1099511627776->∃r,Ua k v=some r/\True:=by
 intro k;induction k with
 | zero=>intro v h _;have:=Yg v;omega
 | succ k ih=>
  intro v h q;have u:=Mj v;have g:=Vo v.K;rw[Ua];refine Ej (λs=>∃j:Nat,s.2=j/\j<=v.K.length) (λs=>v.K.length-s.2.toNat) (λ_=>True) ⟨0,rfl,ω⟩ ?_ λe _=>⟨e,rfl,trivial⟩;rintro⟨c,_⟩ ⟨j,rfl,w⟩;rcases Cf j v.K.length with o|o
  .have f:=M5 (getElem_mem o);obtain⟨r,b,_⟩:=ih v.K[j] ω ω;simp only[As (ω:(j:Int)<(v.K.length:Int)),Ak,Ev rfl o,Ad,b,C6 o ω];exact .inl ⟨_,rfl,⟨j+1,rfl,ω⟩,ζ⟩
  .simp only[Aw (ω:¬(j:Int)<(v.K.length:Int)),Ap];exact .inr ⟨_,rfl,trivial⟩
noncomputable def Aie (g:List An) (l:Bg) (p:List Ao):Int×List An->Option ((Int×List An)⊕(Int×List An)):=λ(o,b)=> bif o<(p.length:Int) then ((Ag p o).bind λq=> (I1 q).bind λc=> bif (c==(0:Int)) then (some (.inl ((Ac (o+1)),b))) else ((Am (Adf g l o q) (0,b)).bind λ(h,f)=> some (.inl ((Ac (o+1)),f)))) else (some (.inr (o,b)))
def Pw (l:Bg) (N:Nat) (f:Nat->Nat) (g:List Bh):Prop:=(l.T.length≠0/\PwN g N f)\/(l.T.length=0/\N=0/\f 0=prb l.Q.toNat g)
abbrev Grp:=Bg×Nat×(Nat->Nat)
inductive Gs:List Grp->List Bh->Prop
 | nil:Gs [] []
 | cons {l:Bg} {N:Nat} {f:Nat->Nat} {g rest:List Bh} {gs:List Grp}:g≠[]->(∀a∈g,a.L=l)->(∀a∈rest,Ir l a.L<0)->Pw l N f g->Gs gs rest->Gs ((l,N,f)::gs) (g++rest)
def N2 (B:List Ent):List Grp->List Ent
 | []=>B
 | q::h=>N2 (I5 B q.1 q.2.2 (q.2.1+1)) h
structure Atk (A:List Bh):Prop where
 deg:∀a∈A,0<=a.P
 lin:∀a∈A,D0 a.L=true
 sum:Dn A<=12
 len:A.length<=12
theorem V2 {a:Bg} (h:D0 a=true):a.T.length<=16/\-1048576<=a.Q/\a.Q<=1048576:=by unfold D0 at h;simp only[Cv,Dk]at h;exact⟨h.1.2.2,h.1.1,h.1.2.1⟩
theorem Atk.sub (h:Atk (A++B)):Atk A/\Atk B:=by have h1:=h.sum;have h2:=h.len;rw[Tg]at h1;rw[Ew]at h2;exact⟨⟨λa ha=>h.deg a (by simp[ha]),λa ha=>h.lin a (by simp[ha]),ω,ω⟩,⟨λa ha=>h.deg a (by simp[ha]),λa ha=>h.lin a (by simp[ha]),ω,ω⟩⟩
theorem Bbm {l:Bg} {g:List Bh} (o:Atk g) (b:g≠[]) (hg:∀a∈g,a.L=l):∃N f,Pj g=some (Ls (N+1) f)/\Pw l N f g/\N<=Dn g/\∀k,k<N+1->f k<Fh:=by
 have q:=o.len;have j:=o.sum;obtain⟨a,s⟩:∃a,a∈g:=by cases g with| nil=>exact (b rfl).elim| cons a _=>exact⟨a,ψ⟩
 have c:=o.lin a s;rw[hg a s]at c;have w:=(V2 c).2.2;by_cases h:l.T.length=0
 .have v:=Baq g w (λa s=>by rw[hg a s];exact⟨h,rfl⟩) o.deg o.sum ω;exact⟨0,λ_=>prb l.Q.toNat g,v,.inr ⟨h,rfl,rfl⟩,ω,λk _=>Ys ω j⟩
 .obtain⟨N,f,v,u⟩:=Bao g b (λa s=>by rw[hg a s];exact h) o.deg o.sum ω;refine⟨N,f,v,.inl ⟨h,u⟩,by rw[u.1];exact Nat.le_refl _,λk i=>Nat.lt_of_le_of_lt (u.le i) (Ys ?_ j)⟩;have:=u.1;omega
noncomputable def Aif (r:List Bh) (l:Bg):Int->Option (Int⊕Int):=λb=> bif b<(r.length:Int) then ((Ag r b).bind λh=> (Ol h.L l).bind λc=> bif (c==(0:Int)) then (some (.inl (Ac (b+1)))) else (some (.inr b))) else (some (.inr b))
theorem Bbn {r:List Bh} {a:Bh} (h0:r[0]? = some a) (ht:∀b∈r,b.L.T.length<1099511627776) (u:r.length<=1000) :
  ∃n:Nat,Am (Aif r a.L) 1=some (n:Int)/\1<=n/\n<=r.length/\(∀b∈r.take n,b.L=a.L)/\∀b,r[n]? = some b->b.L≠a.L:=by
 have v:=Ek h0
 obtain⟨e,q,n,l,k⟩:=Kf (step:=Aif r a.L) (λs=>∃n:Nat,s=(n:Int)/\1<=n/\n<=r.length/\∀b∈r.take n,b.L=a.L) (λs=>r.length-s.toNat)
  (λe=>∃n:Nat,e=(n:Int)/\1<=n/\n<=r.length/\(∀b∈r.take n,b.L=a.L)/\∀b,r[n]? = some b->b.L≠a.L) (by
  rintro _ ⟨j,rfl,g,f,c⟩
  unfold Aif
  rcases Cf j r.length with h|h
  .have w:r[j]? = some r[j]:=Bq h
   have i:=getElem_mem h
   generalize r[j]=b at w i
   simp only[As (ω:(j:Int)<(r.length:Int)),Ak,Br rfl w,Ad,Ag6 _ _ (ht b i),C6 h ω]
   by_cases C:b.L=a.L
   .left
    rw[Ef ((M7.zero _ _ trivial trivial).2 C)]
    refine⟨_,rfl,⟨j+1,rfl,ω,ω,λd o=>?_⟩,ω⟩
    rw[Cz w]at o
    rcases En.1 o with o|o
    .exact c d o
    .simp only[D5]at o
     rw[o];exact C
   .right
    rw[Cu λh=>C ((M7.zero _ _ trivial trivial).1 h)]
    exact⟨_,rfl,j,rfl,g,f,c,λd o=>by rw[w]at o;cases o;exact C⟩
  .right
   refine⟨_,by simp only[Aw (ω:¬(j:Int)<(r.length:Int)),Ap],j,rfl,g,f,c,λd o=>?_⟩
   have:=Ek o
   omega) 1 ⟨1,rfl,ω,ω,λb D=>by
    cases r with
    | nil=>simp at v
    | cons x r=>simp at D h0;rw[D,h0]⟩
 exact⟨n,by rw[<-l];exact q,k⟩
noncomputable def Adh:(List An×List Bh)->Option ((List An×List Bh)⊕List An):=λ(g,b)=> bif (b.length:Int)>(0:Int) then ((Ag b 0).bind λf=> (Am (Aif b f.L) 1).bind λc=> (F5 b 0 c).bind λi=> (Pj i).bind λh=> (Am (Aie g f.L h) (0,[])).bind λ(k,j)=> (F5 b c b.length).bind λo=> some (.inl (j,o))) else (some (.inr g))
theorem Bbo (n:Nat):n+1<=2 ^ n:=by induction n with| zero=>decide| succ n ih=>rw[Nat.pow_succ];omega
theorem Bbp {B:List Ent} {l:Bg} {f:Nat->Nat} {M:Nat} (c:∀b∈B,b.1.length<=M):∀b∈I5 B l f n,b.1.length<=M+1:=by
 intro b o;unfold I5 at o;rw[mem_flatMap]at o;obtain⟨k,_,h⟩:=o;split at h
 .cases h
 .rw[mem_map]at h;obtain⟨d,q,rfl⟩:=h;have:=c d q;have:=Aw4 l k;simp only[Ew];omega
theorem Yt (k:t.G=6) (h:Dj data i t=some d):C4 data i.K t.R=some d:=by
 rw[Mi,Au k]at h;by_cases e:i.U=0
 .rw[Au e]at h;exact h
 .rw[Ar e]at h;cases h
theorem Aig (k:t.G=7) (h:Dj data i t=some d):(0<=i.U/\i.U<=6/\i.K.length=0)/\i.U.toNat=d:=by
 rw[Mi,Ar ω,Au k]at h;by_cases e:0<=i.U/\i.U<=6/\i.K.length=0
 .rw[Au e]at h;exact⟨e,Eu h⟩
 .rw[Ar e]at h;cases h
theorem Yu (k:t.G=5) (h:Dj data i t=some d):F1 data i.K t=some d:=by
 rw[Mi,Ar ω,Ar ω,Au k]at h;by_cases e:i.U=0
 .rw[Au e]at h;exact h
 .rw[Ar e]at h;cases h
def pv {α:Type} (f:α->Nat):List (α×Nat)->Nat
 | []=>0
 | p::l=>p.2*f p.1+pv f l
theorem Kq (f:α->Nat) (l m:List (α×Nat)):pv f (l++m)=pv f l+pv f m:=by induction l with| nil=>simp[pv]| cons p l ih=>simp only[D4,pv,ih];omega
theorem Yv (f:α->Nat) (g:β->α) (l:List (β×Nat)):pv f (l.map λp=>(g p.1,p.2))=pv (λx=>f (g x)) l:=by induction l with| nil=>rfl| cons p l ih=>simp only[map_cons,pv,ih]
theorem Rb {f:α->Nat} {l:List (α×Nat)} (h:∀p∈l,f p.1=g p.1):pv f l=pv g l:=by induction l with| nil=>rfl| cons p l ih=>simp only[pv,h p ψ,ih λq o=>h q (by simp[o])]
theorem O1 (c:Nat) (f:α->Nat) (l:List (α×Nat)):pv (λx=>c*f x) l=c*pv f l:=by induction l with| nil=>rfl| cons p l ih=>simp only[pv,ih,Nat.mul_add];rw[Nat.mul_left_comm]
theorem Adi (f:β->Nat) (g:α×Nat->List (β×Nat)) (h:α->Nat) (l:List (α×Nat)) (hg:∀p∈l,pv f (g p)=p.2*h p.1):pv f (l.flatMap g)=pv h l:=by induction l with| nil=>rfl| cons p l ih=>rw[flatMap_cons,Kq,hg p ψ,ih λq o=>hg q (by simp[o]),pv]
theorem Bbq {f:α->Nat} {l:List (α×Nat)} (h:∀p∈l,f p.1<=g p.1):pv f l<=pv g l:=by induction l with| nil=>exact Nat.le_refl _| cons p l ih=>have s:=Nat.mul_le_mul_left p.2 (h p ψ);have u:=ih λq o=>h q (by simp[o]);simp only[pv];omega
def Fi (h:Ai) (c:Nat) (l:List (List Ai×Nat)):List (List Ai×Nat):=l.map λr=>(h::r.1,c*r.2)
def Fc (b:Af->Ai->Ai->List (Ai×Nat)):List Af->List Ai->List Ai->List (List Ai×Nat)
 | t::ts,i::is,j::c=>(b t i j).flatMap λw=>Fi w.1 w.2 (Fc b ts is c)
 | _,_,_=>[([],1)]
def Axc (row:Ai->Ai->List (Ai×Nat)) (a:Ai) (l:List Ai) (M:List Ai->List (List Ai×Nat)):List Ai->List (List Ai×Nat)
 | []=>[(a::l,1)]
 | b::m=>Fi a 1 (M (b::m))++(Fi b 1 (Axc row a l M m)++(row a b).flatMap λw=>Fi w.1 w.2 (M m))
def Kr (row:Ai->Ai->List (Ai×Nat)):List Ai->List Ai->List (List Ai×Nat)
 | []=>λm=>[(m,1)]
 | a::l=>Axc row a l (Kr row l)
theorem Adj (row:Ai->Ai->List (Ai×Nat)) (m:List Ai):Kr row [] m = [(m,1)]:=rfl
theorem Aih (row:Ai->Ai->List (Ai×Nat)) (a:Ai) (l:List Ai):Kr row (a::l) [] = [(a::l,1)]:=rfl
theorem Adk (row:Ai->Ai->List (Ai×Nat)) (a b:Ai) (l m:List Ai):Kr row (a::l) (b::m)=Fi a 1 (Kr row l (b::m))++(Fi b 1 (Kr row (a::l) m)++(row a b).flatMap λw=>Fi w.1 w.2 (Kr row l m)):=rfl
def J9 (data:List Aj) (t:Af) (rows:List Af->List Ai->List Ai->List (List Ai×Nat)) (a b:Ai):List (Ai×Nat) := if a.U=b.U then (rows (J8 data t a.U) a.K b.K).map λr=>(⟨a.U,r.1⟩,r.2) else []
def Yw (a b:Nat):List (Ai×Nat):=((range (a+b+1)).filter λk=>Rc a b k != 0).map λ(k:Nat)=>(⟨(k:Int),[]⟩,Rc a b k)
def Ed (data:List Aj):Nat->Af->Ai->Ai->List (Ai×Nat)
 | 0,_,_,_=>[]
 | k+1,t,i,j=> if t.G=6 then (Fc (Ed data k) t.R i.K j.K).map λr=>(⟨0,r.1⟩,r.2) else if t.G=7 then Yw i.U.toNat j.U.toNat else if t.G=5 then (Kr (J9 data t (Fc (Ed data k))) i.K j.K).map λr=>(⟨0,r.1⟩,r.2) else [(⟨0,[]⟩,1)]
def eS {α:Type}:List (α->Nat)->List α->Nat
 | [],_=>1
 | _::_,[]=>0
 | w::b,x::xs=>eS (w::b) xs+w x*eS b xs
theorem V3 (xs:List α):eS [] xs=1:=by cases xs <;> rfl
theorem Aii {α:Type} (w:α->Nat) (x:α):∀(l:List α) (b:List (α->Nat)),eS (b++[w]) (l++[x])=eS (b++[w]) l+eS b l*w x
 | [],[]=>by simp[eS]
 | [],v::o=>by cases o <;> simp[eS]
 | y::l,[]=>by have h:=Aii w x l [];simp only[nil_append,D4,eS,V3]at h ⊢;omega
 | y::l,v::o=>by have q:=Aii w x l (v::o);have s:=Aii w x l o;simp only[D4,eS]at q ⊢;rw[q,s];simp only[Nat.mul_add,Nat.add_mul,Nat.mul_assoc];omega
theorem Axd (b:List (α->Nat)):∀(n:Nat) (l:List α) (q:Nat),l.length=n->q<=b.length->dpS b l q=eS (b.take q) l:=by
 intro n;induction n with
 | zero=>
  intro l q g o;have:l = []:=Fr.1 g;subst this;cases q with
  | zero=>rfl
  | succ q=>cases b with| nil=>simp at o| cons w b=>rfl
 | succ n ih=>
  intro l q g o;rcases eq_nil_or_concat l with h|⟨c,x,h⟩
  .subst h;simp at g
  .rw[concat_eq_append]at h;subst h;rw[Awt];have f:c.length=n:=(by simpa using g);cases q with
   | zero=>rw[take_zero,V3];show dpS b c 0=1;rw[ih c 0 f ω,take_zero,V3]
   | succ q=>
    have s:b[q]? = some b[q]:=Bq _;show dpS b c (q+1)+dpS b c q*(match b[q]? with|some w=>w x|none=>0)=_
    rw[ih c (q+1) f o,ih c q f ω,s,Cz s,Aii]
theorem Anx (b:Ai->β->Nat) (h:Ai) (c:Nat) (L:List (List Ai×Nat)):pv (λr=>eS (r.map b) []) (Fi h c L)=0:=by induction L with| nil=>rfl| cons r L ih=>show _*eS (b h::r.1.map b) []+pv (λr=>eS (r.map b) []) (Fi h c L)=0;rw[ih];rfl
theorem Anz (b:Ai->β->Nat) (h:Ai) (c:Nat) (x:β) (xs:List β) (L:List (List Ai×Nat)) : pv (λr=>eS (r.map b) (x::xs)) (Fi h c L)=pv (λr=>eS (r.map b) xs) (Fi h c L)+c*b h x*pv (λr=>eS (r.map b) xs) L:=by induction L with| nil=>rfl| cons r L ih=>show c*r.2*eS (b h::r.1.map b) (x::xs)+pv (λr=>eS (r.map b) (x::xs)) (Fi h c L)=(c*r.2*eS (b h::r.1.map b) xs+pv (λr=>eS (r.map b) xs) (Fi h c L))+c*b h x*(r.2*eS (r.1.map b) xs+pv (λr=>eS (r.map b) xs) L);rw[ih,eS];simp only[Nat.mul_add];have:c*r.2*(b h x*eS (r.1.map b) xs)=c*b h x*(r.2*eS (r.1.map b) xs):=(by ac_rfl);omega
theorem Axe {β:Type} (b:Ai->β->Nat) (x:β) (xs:List β) (L:List (List Ai×Nat)):∀R:List (Ai×Nat), pv (λr=>eS (r.map b) (x::xs)) (R.flatMap λw=>Fi w.1 w.2 L)=pv (λr=>eS (r.map b) xs) (R.flatMap λw=>Fi w.1 w.2 L)+pv (λe=>b e x) R*pv (λr=>eS (r.map b) xs) L
 | []=>by simp[pv]
 | w::R=>by rw[flatMap_cons,Kq,Kq,Anz,Axe b x xs L R];simp only[pv,Nat.add_mul];omega
theorem Bbr {row:Ai->Ai->List (Ai×Nat)} {c:Ai->β->Nat} {P Q:Ai->Prop}:∀(xs:List β),(∀x∈xs,∀a,P a->∀b,Q b->pv (λe=>c e x) (row a b)=c a x*c b x)->∀(l m:List Ai),(∀a∈l,P a)->(∀b∈m,Q b) -> pv (λr=>eS (r.map c) xs) (Kr row l m)=eS (l.map c) xs*eS (m.map c) xs:=by
 have one:∀(xs:List β) (m:List Ai),pv (λr:List Ai=>eS (r.map c) xs) [(m,1)]=eS (m.map c) xs:=λxs m=>by show 1*eS (m.map c) xs+0=_;omega
 intro xs;induction xs with
 | nil=>
  intro _ l;cases l with
  | nil=>intro m _ _;rw[Adj,one,map_nil,V3,Nat.one_mul]
  | cons a l=>
   intro m z s;show _=0*_;rw[Nat.zero_mul];cases m with
   | nil=>rw[Aih,one];rfl
   | cons b m=>
    rw[Adk,Kq,Kq,Anx,Anx];rw[Adi (h:=λ_=>0) (hg:=λp _=>by rw[Anx,Nat.mul_zero])];have:∀L:List (Ai×Nat),pv (λ_=>0) L=0:=λL=>by induction L with| nil=>rfl| cons p L ih=>simp only[pv,ih];omega
    rw[this]
 | cons x xs ih=>
  intro f l;have ih:=ih λy o=>f y (by simp[o]);cases l with
  | nil=>intro m _ _;rw[Adj,one,map_nil,V3,Nat.one_mul]
  | cons a l=>intro m;cases m with| nil=>intro _ _;rw[Aih,one,map_nil,V3,Nat.mul_one]| cons b m=>intro z s;have u:∀a∈l,P a:=λy o=>z y (by simp[o]);have q:∀b∈m,Q b:=λy o=>s y (by simp[o]);have v:=ih (a::l) (b::m) z s;rw[Adk,Kq,Kq]at v;rw[Adk,Kq,Kq,Anz,Anz,Axe,f x ψ a (z a ψ) b (s b ψ),ih l (b::m) u s,ih (a::l) m z q,ih l m u q];simp only[map_cons,eS]at v ⊢;generalize eS (c a::l.map c) xs=A at *;generalize eS (c b::m.map c) xs=B at *;generalize eS (l.map c) xs=k at *;generalize eS (m.map c) xs=j at *;generalize c a x=i at *;generalize c b x=g at *;have D:(A+i*k)*(B+g*j)=A*B+i*(k*B)+g*(A*j)+i*g*(k*j):=(by simp only[Nat.add_mul,Nat.mul_add];have I:A*(g*j)=g*(A*j):=(by ac_rfl);have G:i*k*B=i*(k*B):=(by ac_rfl);have E:i*k*(g*j)=i*g*(k*j):=(by ac_rfl);omega);rw[D,<-v];simp only[Nat.one_mul];omega
theorem Adl (f:List Ai->Nat) (h:Ai) (c:Nat) (L:List (List Ai×Nat)):pv f (Fi h c L)=c*pv (λr=>f (h::r)) L:=by induction L with| nil=>rfl| cons r L ih=>show c*r.2*f (h::r.1)+pv f (Fi h c L)=c*(r.2*f (h::r.1)+pv (λr=>f (h::r)) L);rw[ih,Nat.mul_add,Nat.mul_assoc]
theorem Bbs (L:List (α×Nat)):pv (λ_=>0) L=0:=by induction L with| nil=>rfl| cons p L ih=>simp only[pv,ih];omega
theorem Axf {g:Af->Ai->Ai->List (Ai×Nat)} (u:∀t i j w a b,Bw i<=k->Dj data i t=some a->Dj data j t=some b->Hi data w t=true->pv (λx=>bv data x t w) (g t i j)=bv data i t w*bv data j t w) : ∀(ts:List Af) (is f:List Ai) (c:List Az) (q l:Nat),Ci is<=k->C4 data is ts=some q->C4 data f ts=some l->Ib data c ts=true->pv (λr=>bvs data r ts c) (Fc g ts is f)=bvs data is ts c*bvs data f ts c:=by
 intro ts;induction ts with
 | nil=>
  intro is f c q l _ o v C;cases is with
  | cons i is=>simp only[C4]at o;cases o
  | nil=>cases f with| cons j f=>simp only[C4]at v;cases v| nil=>simp only[Fc,pv,Tf]
 | cons t ts ih=>
  intro is f c q l s o v C;cases is with
  | nil=>simp only[C4]at o;cases o
  | cons i is=>
   cases f with
   | nil=>simp only[C4]at v;cases v
   | cons j f=>
    cases c with
    | nil=>simp only[Ib]at C;cases C
    | cons w c=>
     simp only[Ib,Cv]at C;simp only[Ci]at s;rw[Nx]at o v;cases D:Dj data i t with
     | none=>rw[D]at o;cases o
     | some a=>
      cases F:C4 data is ts with
      | none=>rw[D,F]at o;cases o
      | some B=>
       cases E:Dj data j t with
       | none=>rw[E]at v;cases v
       | some b=>
        cases G:C4 data f ts with
        | none=>rw[E,G]at v;cases v
        | some A=>
         have z:=u t i j w a b ω D E C.1;have y:=ih is f c B A ω F G C.2;show pv (λr=>bvs data r (t::ts) (w::c)) ((g t i j).flatMap λw=>Fi w.1 w.2 (Fc g ts is f))=_;rw[Adi (h:=λx=>pv (λr=>bvs data r ts c) (Fc g ts is f)*bv data x t w) (hg:=λp _=>by rw[Adl];have:(λr=>bvs data (p.1::r) (t::ts) (w::c))=λr=>bv data p.1 t w*bvs data r ts c:=(by funext r;rw[Te]);rw[this,O1,Nat.mul_comm (bv data p.1 t w)]),O1,z,y,Te,Te]
         ac_rfl
theorem Axg (data:List Aj):∀(c:List Az) (l:List Af) (r:List Bool),Ib data c l=true->Ib data (J7 c r) (Gf l r)=true
 | [],[],r,_=>by simp[J7,Gf,Ib]
 | w::c,t::l,[],_=>by simp[J7,Gf,Ib]
 | w::c,t::l,b::r,h=>by simp only[Ib,Cv]at h;have ih:=Axg data c l r h.2;unfold J7 Gf at ih ⊢;cases b with| true=>simpa using ih| false=>simp only[zip_cons_cons,filter_cons,Bool.not_false,if_true,map_cons,Ib,h.1,Bool.true_and];exact ih
 | [],_::_,_,h=>by simp only[Ib]at h;cases h
 | _::_,[],_,h=>by simp only[Ib]at h;cases h
theorem Bbt (q:t.G=5) {x:Az} (h:Hi data x t=true):Ib data (J7 x.K (Eb data t.U x.U)) (J8 data t x.U)=true:=by rw[Ta,Ar ω,Ar ω,Ar ω,Ar ω,Au q]at h;cases o:Jp data t x.U with| none=>rw[o]at h;simp at h| some l=>rw[o]at h;simp only[Cv]at h;have e:J8 data t x.U=Gf l (Eb data t.U x.U):=(by unfold J8 G2;rw[o];rfl);rw[e];exact Axg data _ _ _ h.2
theorem An0 (data:List Aj) (t:Af):∀es:List Ai,bws data es t=es.map (wOf data t)
 | []=>by simp only[bws,map_nil]
 | ⟨n,b⟩::es=>by simp only[bws,An0 data t es,map_cons];rfl
theorem Bbu (a b n:Nat):pv (λx:Ai=>bc n x.U.toNat) (Yw a b)=bc n a*bc n b:=by
 rw[<-Yq n a b (a+b+1) ω];unfold Yw;generalize a+b+1=N;induction N with
 | zero=>rfl
 | succ N ih=>
  rw[range_succ,filter_append,map_append,Kq,ih,sm];congr 1;by_cases h:Rc a b N=0
  .simp[h,pv]
  .simp[h,pv]
theorem Bbv:∀(k:Nat) (t:Af) (i j:Ai) (w:Az) (B A:Nat),Bw i<=k->Dj data i t=some B->Dj data j t=some A->Hi data w t=true->pv (λx=>bv data x t w) (Ed data k t i j)=bv data i t w*bv data j t w:=by
 intro k;induction k with
 | zero=>intro t i j w B A h;have:=Ey i;omega
 | succ k ih=>
  intro t i j w B A N v C z;have V:=Ey i;rw[Q9 data i,Q9 data j,Ed];by_cases c:t.G=6
  .rw[Au c,Au c,Au c,Yv];have v:=Yt c v;have C:=Yt c C;rw[Ta,Ar ω,Ar ω,Ar ω,Au c]at z;simp only[Cv]at z;rw[<-Axf (k:=k) (λt i j w a b H S T U=>ih t i j w a b H S T U) t.R i.K j.K w.K B A ω v C z.2];exact Rb λp _=>by rw[Q9,Au c]
  .rw[Ar c,Ar c,Ar c];by_cases s:t.G=7
   .rw[Au s,Au s,Au s,<-Bbu];exact Rb λp _=>by rw[Q9,Ar c,Au s]
   .rw[Ar s,Ar s,Ar s];by_cases f:t.G=5
    .have v:=Yu f v;have C:=Yu f C;obtain⟨_,M⟩:=Adb data _ _ _ v;obtain⟨_,L⟩:=Adb data _ _ _ C;have y:∀l:List Ai,dpS (bws data l t) (Iy data t.U w) l.length=eS (l.map (wOf data t)) (Iy data t.U w):=λl=>by rw[Axd _ _ _ _ rfl (by rw[An0,C5];exact Nat.le_refl _),An0,Ii (by rw[C5];exact Nat.le_refl _)]
     rw[Au f,Au f,Au f,Yv,y,y];rw[<-Bbr (P:=λa=>Bw a<=k/\∃ts,G2 data t a.U=some ts/\C4 data a.K ts=some (pdg data t a)) (Q:=λb=>∃ts,G2 data t b.U=some ts/\C4 data b.K ts=some (pdg data t b)) (row:=J9 data t (Fc (Ed data k))) (Iy data t.U w) (λx hx a F b hb=>?_) i.K j.K (λa F=>⟨by have:=Km F;omega,M a F⟩) L]
     .exact Rb λp _=>by rw[Q9,Ar c,Ar s,Au f];exact y p.1
     .obtain⟨D,_⟩:=Awa f _ w (Nat.le_refl _) z x hx;obtain⟨J,ts,W,a2⟩:=F;obtain⟨G,X,b2⟩:=hb;have I:=Ey a;unfold J9;by_cases e:a.U=b.U
      .rw[Au e,Yv];by_cases o:x.U=a.U
       .have u:J8 data t a.U=ts:=(by unfold J8;rw[W]);have E:G=ts:=(by rw[<-e,W]at X;exact (Eu X).symm);subst E;have hp:=Bbt f D;rw[o,u]at hp;have hv:=Axf (k:=k) (λt i j w a b H S T U=>ih t i j w a b H S T U) G a.K b.K (J7 x.K (Eb data t.U a.U)) _ _ ω a2 b2 hp;unfold wOf;rw[Au o,Au ω,u,<-e,u,<-hv];exact Rb λp _=>by rw[Au o];rw[u]
       .have V:∀r:List Ai,wOf data t ⟨a.U,r⟩ x=0:=λr=>by unfold wOf;rw[Ar o]
        have q:wOf data t a x=0:=(by unfold wOf;rw[Ar o]);rw[q,Nat.zero_mul,Rb (g:=λ_=>0) λp _=>V p.1,Bbs]
      .rw[Ar e];show 0=_;by_cases o:x.U=a.U
       .have q:wOf data t b x=0:=(by unfold wOf;rw[Ar ω]);rw[q,Nat.mul_zero]
       .have q:wOf data t a x=0:=(by unfold wOf;rw[Ar o]);rw[q,Nat.zero_mul]
    .rw[Ar f,Ar f,Ar f];show 1*bv data ⟨0,[]⟩ t w+0=1*1;rw[Q9,Ar c,Ar s,Ar f]
theorem Adm:∀(a b N:Nat),sm N (Rc a b)<=3 ^ (a+b)
 | 0,b,N=>by
  have o:1<=3 ^ (0+b):=Nat.pow_pos δ;by_cases h:b<N
  .rw[Ac8 (k:=b) h λj q=>by rw[Ac9,Ar q],Ac9,Au rfl];exact o
  .rw[Vx λk s=>by rw[Ac9,Ar ω]];omega
 | a+1,0,N=>by
  have o:1<=3 ^ (a+1+0):=Nat.pow_pos δ;by_cases h:a+1<N
  .rw[Ac8 (k:=a+1) h λj q=>by rw[Ada,Ar q],Ada,Au rfl];exact o
  .rw[Vx λk s=>by rw[Ada,Ar ω]];omega
 | a+1,b+1,0=>Nat.zero_le _
 | a+1,b+1,N+1=>by rw[Ah3,Awj,Yn λk _=>Awi a b k];have e:sm N (λk=>Rc a (b+1) k+Rc (a+1) b k+Rc a b k)=sm N (Rc a (b+1))+sm N (Rc (a+1) b)+sm N (Rc a b):=(by rw[Vv λk=>Rc a (b+1) k+Rc (a+1) b k,Vv]);have o:=Adm a (b+1) N;have u:=Adm (a+1) b N;have v:=Adm a b N;have g:a+(b+1)=a+b+1:=ω;have f:a+1+b=a+b+1:=ω;have c:a+1+(b+1)=a+b+2:=ω;rw[g]at o;rw[f]at u;rw[e,c];have l:3 ^ (a+b+1)=3 ^ (a+b)*3:=Nat.pow_succ ..;have i:3 ^ (a+b+2)=3 ^ (a+b+1)*3:=Nat.pow_succ ..;omega
theorem Bbw (a b:Nat):pv (λ_=>1) (Yw a b)<=3 ^ (a+b):=by
 have h:=Adm a b (a+b+1);refine Nat.le_trans (Nat.le_of_eq ?_) h;unfold Yw;generalize a+b+1=N;induction N with
 | zero=>rfl
 | succ N ih=>
  rw[range_succ,filter_append,map_append,Kq,ih,sm];congr 1;by_cases h:Rc a b N=0
  .simp[h,pv]
  .simp[h,pv]
structure Gp (data:List Aj) (t:Af) (D S:Nat) (p:Ai×Nat):Prop where
 pos:1<=p.2
 deg:∃d,Dj data p.1 t=some d/\d<=D
 siz:Bw p.1<=S
 num:iR p.1
structure Gr (data:List Aj) (ts:List Af) (D S:Nat) (p:List Ai×Nat):Prop where
 pos:1<=p.2
 deg:∃d,C4 data p.1 ts=some d/\d<=D
 siz:Ci p.1<=S
 num:Ff p.1
structure Ge (data:List Aj) (t:Af) (D S:Nat) (p:List Ai×Nat):Prop where
 pos:1<=p.2
 deg:∃d,F1 data p.1 t=some d/\d<=D
 siz:Ci p.1<=S
 num:Ff p.1
def Adn (data:List Aj) (k:Nat) (b:Af->Ai->Ai->List (Ai×Nat)):Prop:=∀(t:Af) (i j:Ai) (f c:Nat),Bw i<=k->Dj data i t=some f->Dj data j t=some c->f+c<=6->iR i->iR j -> (∀p∈b t i j,Gp data t (f+c) (Bw i+Bw j) p)/\pv (λ_=>1) (b t i j)<=3 ^ (f+c)
theorem Aij {h:Ai} {c:Nat} {L:List (List Ai×Nat)} {p:List Ai×Nat} (hp:p∈Fi h c L):∃r∈L,p=(h::r.1,c*r.2):=by obtain⟨r,o,q⟩:=mem_map.1 hp;exact⟨r,o,q.symm⟩
theorem Aik {c:Af->Ai->Ai->List (Ai×Nat)} (A:Adn data k c) : ∀(ts:List Af) (is f:List Ai) (l g:Nat),Ci is<=k->C4 data is ts=some l->C4 data f ts=some g->l+g<=6->Ff is->Ff f -> (∀p∈Fc c ts is f,Gr data ts (l+g) (Ci is+Ci f) p)/\pv (λ_=>1) (Fc c ts is f)<=3 ^ (l+g):=by
 intro ts;induction ts with
 | nil=>
  intro is f l g _ o v _ _ _;cases is with
  | cons i is=>simp only[C4]at o;cases o
  | nil=>
   cases f with
   | cons j f=>simp only[C4]at v;cases v
   | nil=>
    refine⟨λp hp=>?_,?_⟩
    .simp only[Fc,D5]at hp;subst hp;exact⟨Nat.le_refl _,⟨0,by simp only[C4],ω⟩,by simp[Ci],by simp[Ff]⟩
    .show 1*1+0<=_;exact Nat.pow_pos δ
 | cons t ts ih=>
  intro is f l g y o v J s q;cases is with
  | nil=>simp only[C4]at o;cases o
  | cons i is=>
   cases f with
   | nil=>simp only[C4]at v;cases v
   | cons j f=>
    simp only[Ci]at y;simp only[Ff]at s q;rw[Nx]at o v;cases C:Dj data i t with
    | none=>rw[C]at o;cases o
    | some a=>
     cases M:C4 data is ts with
     | none=>rw[C,M]at o;cases o
     | some x=>
      cases F:Dj data j t with
      | none=>rw[F]at v;cases v
      | some b=>
       cases P:C4 data f ts with
       | none=>rw[F,P]at v;cases v
       | some u=>
        rw[C,M]at o;rw[F,P]at v;have o:a+x=l:=Eu o;have v:b+u=g:=Eu v;obtain⟨D,B⟩:=A t i j a b ω C F ω s.1 q.1;obtain⟨f1,f2⟩:=ih is f x u ω M P ω s.2 q.2;refine⟨λp hp=>?_,?_⟩
        .obtain⟨w,S,hp⟩:=mem_flatMap.1 (show p∈(c t i j).flatMap λw=>Fi w.1 w.2 (Fc c ts is f) from hp);obtain⟨r,z,rfl⟩:=Aij hp;have H:=D w S;have L:=f1 r z;obtain⟨d,d1,d2⟩:=H.deg;obtain⟨E,d3,d4⟩:=L.deg;refine⟨Nat.mul_pos H.pos L.pos,⟨d+E,by rw[Nx,d1,Ad,d3];rfl,ω⟩,?_,?_⟩
         .have I:=H.siz;have G:=L.siz;simp only[Ci];omega
         .simp only[Ff];exact⟨H.num,L.num⟩
        .show pv (λ_=>1) ((c t i j).flatMap λw=>Fi w.1 w.2 (Fc c ts is f))<=_;rw[Adi (h:=λ_=>pv (λ_=>1) (Fc c ts is f)*1) (hg:=λp _=>by rw[Adl,Nat.mul_one]),O1];have:=Nat.mul_le_mul f2 B;rw[<-Nat.pow_add,show x+u+(a+b)=l+g by omega]at this;exact this
theorem Ail (h:F1 data (e::es) t=some d):∃ts a b,G2 data t e.U=some ts/\C4 data e.K ts=some a/\F1 data es t=some b/\d=1+a+b:=by
 rw[Vh]at h;cases q:G2 data t e.U with
 | none=>rw[q]at h;cases h
 | some ts=>
  rw[q,Ad]at h;cases o:C4 data e.K ts with
  | none=>rw[o]at h;cases h
  | some a=>rw[o,Ad]at h;cases s:F1 data es t with| none=>rw[s]at h;cases h| some b=>rw[s]at h;exact⟨ts,a,b,rfl,o,rfl,(Eu h).symm⟩
theorem An1 (h:G2 data t e.U=some ts) (o:C4 data e.K ts=some a) (q:F1 data es t=some b):F1 data (e::es) t=some (1+a+b):=by rw[Vh,h,Ad,o,Ad,q];rfl
theorem Bbx {c:Af->Ai->Ai->List (Ai×Nat)} (z:Adn data k c) {a b:Ai} {i:List Af} {h f:Nat} (x:Ci a.K<=k) (a1:G2 data t a.U=some ts) (B:C4 data a.K ts=some h) (b1:G2 data t b.U=some i) (b2:C4 data b.K i=some f) (A:h+f<=6) (j:iR a) (u:iR b) : (∀p∈J9 data t (Fc c) a b,1<=p.2/\(∃d,C4 data p.1.K ts=some d/\d<=h+f)/\p.1.U=a.U/\Bw p.1+1<=Bw a+Bw b/\iR p.1)/\pv (λ_=>1) (J9 data t (Fc c) a b)<=3 ^ (h+f):=by
 unfold J9;by_cases e:a.U=b.U
 .have q:J8 data t a.U=ts:=(by unfold J8;rw[a1]);have l:i=ts:=(by rw[<-e,a1]at b1;exact (Eu b1).symm);subst l;rw[Py]at j u;obtain⟨f1,f2⟩:=Aik z i a.K b.K h f x B b2 A j.2 u.2;rw[Au e,q];refine⟨λp hp=>?_,by rw[Yv];exact f2⟩;obtain⟨r,y,rfl⟩:=mem_map.1 hp;have g:=f1 r y;have s:=g.siz;have E:=Ey a;have D:=Ey b;refine⟨g.pos,g.deg,rfl,?_,?_⟩
  .rw[Ey];show 1+Ci r.1+1<=_;omega
  .rw[Py];exact⟨j.1,g.num⟩
 .rw[Ar e];exact⟨λp hp=>(by cases hp),Nat.zero_le _⟩
theorem Axh {u:Af->Ai->Ai->List (Ai×Nat)} (hm:Adn data k u) (t:Af) : ∀(l m:List Ai) (z y:Nat),Ci l<=k+1->(∀e∈l,Ci e.K<=k)->F1 data l t=some z->F1 data m t=some y->z+y<=6->Ff l->Ff m -> (∀p∈Kr (J9 data t (Fc u)) l m,Ge data t (z+y) (Ci l+Ci m) p)/\pv (λ_=>1) (Kr (J9 data t (Fc u)) l m)<=3 ^ (z+y):=by
 have x:∀(l m:List Ai) (D S:Nat),(∃d,F1 data l t=some d/\d<=D)->Ci l<=S->Ff l->(∀p∈[(l,1)],Ge data t D S p)/\pv (λ_=>1) [(l,1)]<=3 ^ D:=λl m D S v C h3=>by
  refine⟨λp hp=>?_,?_⟩
  .simp only[D5]at hp;subst hp;exact⟨Nat.le_refl _,v,C,h3⟩
  .show 1*1+0<=_;exact Nat.pow_pos δ
 intro l;induction l with
 | nil=>intro m z y _ _ _ C _ _ G;rw[Adj];exact x m m _ _ ⟨y,C,ω⟩ ω G
 | cons a l A=>
  intro m;induction m with
  | nil=>intro z y _ _ v _ _ I _;rw[Aih];exact x _ [] _ _ ⟨z,v,ω⟩ ω I
  | cons b m J=>
   intro z y hs F v C h6 I G;obtain⟨ts,q,o,H,P,T,rfl⟩:=Ail v;obtain⟨us,j,c,W,b2,L,rfl⟩:=Ail C;have i:=I;have f:=G;simp only[Ff]at i f;have za:Ci (a::l)=Bw a+Ci l:=(by simp only[Ci]);have zb:Ci (b::m)=Bw b+Ci m:=(by simp only[Ci]);have E:∀e∈l,Ci e.K<=k:=λe he=>F e (by simp[he]);obtain⟨R,x2⟩:=A (b::m) o (1+j+c) ω E T C ω i.2 G;obtain⟨N,y2⟩:=J (1+q+o) c hs F v L ω I f.2;obtain⟨M,z2⟩:=A m o c ω E T L ω i.2 f.2;obtain⟨V,U⟩:=Bbx hm (t:=t) (F a ψ) H P W b2 ω i.1 f.1;rw[Adk];refine⟨λp hp=>?_,?_⟩
   .rcases En.1 hp with hp|hp
    .obtain⟨r,B,rfl⟩:=Aij hp;have g:=R r B;obtain⟨d,d1,d2⟩:=g.deg;have s:=g.siz;refine⟨by have:=g.pos;show 1<=1*r.2;omega,⟨_,An1 H P d1,ω⟩,?_,?_⟩
     .simp only[Ci]at s ⊢;omega
     .simp only[Ff];exact⟨i.1,g.num⟩
    .rcases En.1 hp with hp|hp
     .obtain⟨r,B,rfl⟩:=Aij hp;have g:=N r B;obtain⟨d,d1,d2⟩:=g.deg;have s:=g.siz;refine⟨by have:=g.pos;show 1<=1*r.2;omega,⟨_,An1 W b2 d1,ω⟩,?_,?_⟩
      .simp only[Ci]at s ⊢;omega
      .simp only[Ff];exact⟨f.1,g.num⟩
     .obtain⟨w,hw,hp⟩:=mem_flatMap.1 hp;obtain⟨r,B,rfl⟩:=Aij hp;obtain⟨Y,⟨d',v2,v3⟩,v4,v5,X⟩:=V w hw;have g:=M r B;obtain⟨d,d1,d2⟩:=g.deg;have s:=g.siz;refine⟨Nat.mul_pos Y g.pos,⟨_,An1 (by rw[v4];exact H) v2 d1,ω⟩,?_,?_⟩
      .simp only[Ci]at s ⊢;omega
      .simp only[Ff];exact⟨X,g.num⟩
   .rw[Kq,Kq,Adl,Adl];rw[Adi (h:=λ_=>pv (λ_=>1) (Kr (J9 data t (Fc u)) l m)*1) (hg:=λp _=>by rw[Adl,Nat.mul_one]),O1];have Z:=Nat.mul_le_mul z2 U;rw[<-Nat.pow_add]at Z;have p1:3 ^ (o+(1+j+c))<=3 ^ (1+q+o+(j+c)):=Nat.pow_le_pow_right δ ω;have p2:3 ^ (1+q+o+c)<=3 ^ (1+q+o+(j+c)):=Nat.pow_le_pow_right δ ω;have p3:3 ^ (o+c+(q+j))<=3 ^ (1+q+o+(j+c)):=Nat.pow_le_pow_right δ ω;have p4:3 ^ (1+q+o+(1+j+c))=3 ^ (1+q+o+(j+c))*3:=(by rw[show 1+q+o+(1+j+c)=(1+q+o+(j+c))+1 by omega,Nat.pow_succ]);omega
theorem Re (data:List Aj):∀k,Adn data k (Ed data k):=by
 intro k;induction k with
 | zero=>intro t i j x u h;have:=Ey i;omega
 | succ k ih=>
  intro t i j x u L o v A D B;have w:=Ey i;have G:=Ey j;have f:=D;have c:=B;rw[Py]at f c;rw[Ed];by_cases b:t.G=6
  .rw[Au b,Yv];have o:=Yt b o;have v:=Yt b v;obtain⟨f1,f2⟩:=Aik ih t.R i.K j.K x u ω o v A f.2 c.2;refine⟨λp hp=>?_,f2⟩;obtain⟨r,z,rfl⟩:=mem_map.1 hp;have g:=f1 r z;obtain⟨d,d1,d2⟩:=g.deg;refine⟨g.pos,⟨d,by rw[Mi,Au b,Au rfl];exact d1,d2⟩,?_,?_⟩
   .have s:=g.siz;rw[Ey];show 1+Ci r.1<=_;omega
   .rw[Py];exact⟨by show Ee 0;unfold Ee;omega,g.num⟩
  .rw[Ar b];by_cases l:t.G=7
   .rw[Au l,(Aig l o).2,(Aig l v).2];refine⟨λp hp=>?_,Bbw x u⟩;obtain⟨n,I,rfl⟩:=mem_map.1 hp;obtain⟨E,y⟩:=mem_filter.1 I;rw[mem_range]at E;have y:Rc x u n≠0:=(by simpa using y);refine⟨Nat.pos_of_ne_zero y,⟨n,by rw[Mi,Ar b,Au l,Au ⟨by show (0:Int)<=n;omega,by show (n:Int)<=6;omega,rfl⟩];rfl,ω⟩,?_,?_⟩
    .rw[Ey];show 1+Ci []<=_;simp only[Ci];omega
    .rw[Py];exact⟨by show Ee (n:Int);unfold Ee;omega,by show Ff [];simp only[Ff]⟩
   .rw[Ar l];by_cases q:t.G=5
    .rw[Au q,Yv];have o:=Yu q o;have v:=Yu q v;obtain⟨f1,f2⟩:=Axh ih t i.K j.K x u ω (λe J=>by have:=Km J;have:=Ey e;omega) o v A f.2 c.2;refine⟨λp hp=>?_,f2⟩;obtain⟨r,z,rfl⟩:=mem_map.1 hp;have g:=f1 r z;obtain⟨d,d1,d2⟩:=g.deg;refine⟨g.pos,⟨d,by rw[Mi,Ar b,Ar l,Au q,Au rfl];exact d1,d2⟩,?_,?_⟩
     .have s:=g.siz;rw[Ey];show 1+Ci r.1<=_;omega
     .rw[Py];exact⟨by show Ee 0;unfold Ee;omega,g.num⟩
    .rw[Ar q];refine⟨λp hp=>?_,?_⟩
     .simp only[D5]at hp;subst hp;refine⟨Nat.le_refl _,⟨0,by rw[Mi,Ar b,Ar l,Ar q,Au ⟨rfl,rfl⟩],ω⟩,?_,?_⟩
      .rw[Ey];show 1+Ci []<=_;simp only[Ci];omega
      .rw[Py];exact⟨by show Ee 0;unfold Ee;omega,by show Ff [];simp only[Ff]⟩
     .show 1*1+0<=_;exact Nat.pow_pos δ
theorem Nc {l:List (α×Nat)} (h:∀p∈l,1<=p.2):l.length<=pv (λ_=>1) l:=by induction l with| nil=>exact Nat.le_refl _| cons p l ih=>have s:=h p ψ;have u:=ih λq o=>h q (by simp[o]);simp only[D2,pv];omega
theorem Qa {l:List (α×Nat)} {p:α×Nat} (h:p∈l):p.2<=pv (λ_=>1) l:=by
 induction l with
 | nil=>cases h
 | cons q l ih=>
  simp only[pv];rcases Gl.1 h with rfl|h
  .omega
  .have:=ih h;omega
end Go.Ab
