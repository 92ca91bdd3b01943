/- Plain laws: what the plain functions answer. -/
import Derived.Test.YtkcnpnalkpmhaaaGreatDoorPhPl3
open List
namespace Go.Ab
open Go
variable {t:Af} {e i:Ai} {y:Ao} {res:Az} {m:Bj} {x:Cd} {ts:List Af} {es:List Ai} {p q:List Aj} {data:List Ak} {A B l:List Bi} {K N a b d j k n:Nat} {R α β:Type} {J:Int×Bool×List Int×List Int->Option R} {r:R} {Q:R->Prop} {g:α->Nat}
theorem Amn {α:Type}:∀(l:List α) (r:List Bool) (s:Nat) (n:Nat) (p:Int) (L:Nat->Option α),l.length=r.length->(∀j,L (s+j)=l[j]?) -> (((r.zipIdx s).filter λq=>!q.1).map λq=>(q.2:Int))[n]? = some p->∃(m:Nat) (a:α),p=m/\L m=some a/\(J2 l r)[n]? = some a
 | [],[],s,n,p,L,_,_,h=>by simp at h
 | a::l,b::r,s,n,p,L,i,g,h=>by
  have c:l.length=r.length:=(by simpa using i);have f:∀j,L (s+1+j)=l[j]?:=λj=>by rw[show s+1+j=s+(j+1) by omega,g];rfl
  cases b with
  | true=>simp only[zipIdx_cons,filter_cons,bnt]at h;obtain⟨m,x,h1,h2,h3⟩:=Amn l r (s+1) n p L c f (by simpa using h);exact⟨m,x,h1,h2,by simpa[J2] using h3⟩
  | false=>simp only[zipIdx_cons,filter_cons,Bool.not_false,if_true,map_cons]at h;cases n with| zero=>simp only[getElem?_cons_zero,Option.some.injEq]at h;exact⟨s,a,h.symm,by have:=g 0;simpa using this,by simp[J2]⟩| succ n=>simp only[getElem?_cons_succ]at h;obtain⟨m,x,h1,h2,h3⟩:=Amn l r (s+1) n p L c f h;exact⟨m,x,h1,h2,by simpa[J2] using h3⟩
 | [],_::_,_,_,_,_,h,_,_=>by simp at h
 | _::_,[],_,_,_,_,h,_,_=>by simp at h
theorem A8z {l:List α} {r:List Bool} (b:l.length=r.length) {p:Int} (h:(I5 r)[n]? = some p):∃(m:Nat) (a:α),p=m/\l[m]? = some a/\(J2 l r)[n]? = some a := Amn l r 0 n p (λj=>l[j]?) b (λj=>ψ) (by unfold I5 at h;exact h)
theorem Amo (ha:Bp a<=K) (hb:Bp b<=K) (c:1<=K) (h:K<60000000000):Ec (cR a) (cR b)=some (cR (a*b)):=by obtain⟨a1,a2,a3⟩:=Tg a;obtain⟨b1,b2,f⟩:=Tg b;rw[X4 _ _ K K (O2 ha c) (O2 hb c) ω ω,a1,a2,a3,b1,b2,f];simp[cR]
def Sm (a:Nat):Prop:=a<=5000 ^ 6
theorem Sm.lg (h:Sm a):Bp a<=3:=Kq (Nat.lt_of_le_of_lt h δ)
theorem Sm.of (h:a<=5000 ^ d) (hd:d<=6):Sm a:=Nat.le_trans h (Nat.pow_le_pow_right δ hd)
theorem Acf (data:List Ak):∀(is:List Ai) (ts:List Af) (d j:Nat),Cy data is ts=some d->∃e,Cy data (is.take j) (ts.take j)=some e/\e<=d
 | [],[],d,j,_=>⟨0,by simp[Cy],ω⟩
 | i::is,t::ts,d,0,_=>⟨0,by simp[Cy],ω⟩
 | i::is,t::ts,d,j+1,h=>by
  rw[N1]at h;cases h1:Dj data i t with
  | none=>rw[h1]at h;cases h
  | some a=>rw[h1,Ad]at h;cases h2:Cy data is ts with| none=>rw[h2]at h;cases h| some b=>rw[h2]at h;have h:a+b=d:=Eo h;obtain⟨e,c,f⟩:=Acf data is ts b j h2;refine⟨a+e,?_,ω⟩;rw[take_succ_cons,take_succ_cons,N1,h1,Ad,c];rfl
 | [],_::_,_,_,h=>by simp only[Cy]at h;cases h
 | _::_,[],_,_,h=>by simp only[Cy]at h;cases h
theorem A80 {is:List Ai} {b:List Az} (h:Cy data is ts=some d) (hd:d<=6) (hw:∀w∈b,Di w<=5000) (j:Nat):Sm (bvs data (is.take j) (ts.take j) (b.take j)):=by obtain⟨e,c,f⟩:=Acf data is ts d j h;exact Sm.of ((Yk data 5000 δ _).2 _ _ _ e (Nat.le_refl _) c λw hx=>hw w (mem_of_mem_take hx)) ω
theorem A81 (R:Szv data) (hk:t.G=5) {x:Az} (hx:Ha data x t=true) (z:x.U=e.U) (b:Gy data t e.U=some ts) : (M4 data t e).types=ts/\(I5 (D3 data t.U e.U)).length=ts.length/\ts.length<=6/\(∀a∈ts,Bz a<=200) /\ ∀(j:Nat) (s:Int),(I5 (D3 data t.U e.U))[j]? = some s->∃(m:Nat) (a:Af) (w:Az),s=m/\ts[j]? = some a/\x.K[m]? = some w/\(J2 x.K (D3 data t.U e.U))[j]? = some w/\Ha data w a=true/\Di w<=Di x:=by
 have D:=b;unfold Gy at b;cases hf:Jh data t e.U with
 | none=>rw[hf]at b;cases b
 | some fl=>
  rw[hf]at b;have b:F7 fl (D3 data t.U e.U)=ts:=Eo b;have g:=Xw hf;have c:Ic data x.K fl=true:=(by rw[Td,Ar ω,Ar ω,Ar ω,Ar ω,Au hk]at hx;rw[z,hf]at hx;simp only[C3]at hx;exact hx.2);have u:x.K.length=fl.length:=by
   by_cases I:x.K.length=fl.length
   .exact I
   .rw[Abu data _ _ I]at c;cases c
  have J:fl.length<=6:=(by obtain⟨M,y,_,A,_,hy,E,_⟩:=Pz hf;obtain⟨L,_⟩:=R M (Hf A).2.2.2 y (Hf hy).2.2.2;rw[E];simpa using L);have U:=Xx fl (D3 data t.U e.U);have h:=A75 fl (D3 data t.U e.U) g.symm;have S:=Me x;refine⟨by unfold M4;simp only[hf,b],by rw[h,b],by rw[<-b];omega,(Afx D).1,λj s k=>?_⟩;obtain⟨m,a,rfl,G,q⟩:=A74 g.symm k;obtain⟨N,w,V,f,B⟩:=A8z (l:=x.K) ω k;obtain rfl:m=N:=ω;rw[b]at q;refine⟨m,a,w,rfl,q,f,B,?_,?_⟩
  .rw[Abv data _ _ u]at c;exact G5.1 c (w,a) (Bv (i:=m) (by rw[getElem?_zip_eq_some];exact⟨f,G⟩))
  .have:=M0 (Bv f);omega
theorem A82 (hz:Szv data) (hk:t.G=5) (l:List Ai) (hp:∀e∈l,∃ts,Gy data t e.U=some ts/\Cy data e.K ts=some (pdg data t e)) (bi:l.length+pds data t l<=6) (k:Nat) (b7:∀e∈l,∀(i':Ai) (t':Af) (w:Az) (d:Nat),i'∈e.K->Dj data i' t'=some d->d<=6->Bz t'<=200->Ha data w t'=true->Di w<=5000->Oo k data t' i' w=some (cR (bv data i' t' w))) (x:Az) (hx:Ha data x t=true) (bb:Di x<=5000) (f:Nat->Nat) (hf:∀q,q<=l.length->f q<=5000 ^ (q+pds data t (l.take q))) (b5:∀q,q<=l.length->P8 (bws data l t) x f q<=5000 ^ (q+pds data t (l.take q))) {J:Int×List Ao->Option R} (hJ:J (0,Jj l.length (P8 (bws data l t) x f))=some r) : (An (S:=(Int×List Ao)) (E:=(Int×List Ao)) (λ(c,u)=> bif c>(0:Int) then ((Ag (l.map (M4 data t)) (Ac (c-1))).bind λz=> (show OB from bif (z.con != x.U) then some true else ((Ag u (Ac (c-1))).bind λaf=> (Ik af).bind λae=> some (ae==(0:Int)))).bind λad=> bif ad then some (.inl ((Ac (c-1)),u)) else ((Ag u (Ac (c-1))).bind λI=> (An (S:=(Int×Bool×List Int×List Int)) (E:=(Int×Bool×List Int×List Int)) (λ(y,X,v226,v227)=> bif y<(z.places.length:Int) then ((Ag z.places y).bind λv228=> (Ag z.types y).bind λv229=> (Ag z.kids y).bind λac=> (Ag x.K v228).bind λab=> (Oo k data v229 ac ab).bind λv232=> (Ec (Ao.mk X v226 v227) v232).bind λv233=> some (.inl ((Ac (y+1)),v233.N,v233.U,v233.B))) else some (.inr (y,X,v226,v227))) (0,I.N,I.U,I.B)).bind λ(v234,aa,v236,a8)=> (Ag u c).bind λG=> (Iy G (Ao.mk aa v236 a8)).bind λa7=> (Ag u c).bind λb9=> some (.inl ((Ac (c-1)),(C2 u c a7)))))
   else some (.inr (c,u))) ((l.length:Int),Jj l.length f)).bind J=some r:=by
 generalize hg:P8 (bws data l t) x f=g at hJ b5;have sm:∀q,q<=l.length->q+pds data t (l.take q)<=6:=λq hq=>by have:=A8y data t l q;omega
 refine K4 l.length (λi=>(((l.length-i:Nat):Int),Jj l.length (λp=>if l.length-i<p then g p else f p))) ?_ ?_ ?_
 .simp only[Nat.sub_zero,Int.ofNat_eq_natCast];congr 1;exact Amf (λp hp=>by rw[Ar ω])
 .intro i hi;obtain⟨q,hq⟩:∃q:Nat,l.length-i=q+1:=⟨l.length-i-1,ω⟩;have hq':l.length-(i+1)=q:=ω;have U:q+1<=l.length:=ω;have he:l[q]? = some l[q]:=Bt ω;generalize l[q]=e at he;have ap:=Bv he;have w1:Ac (((q+1:Nat):Int)-1)=((q:Nat):Int):=(by rw[show (((q+1:Nat):Int)-1)=(q:Int) by omega,Ac,Cj] <;> omega);have b6:Ag (l.map (M4 data t)) (q:Int)=some (M4 data t e):=Bu rfl (by rw[getElem?_map,he];rfl);have a1:g (q+1)=f (q+1)+f q*wOf data t e x:=(by rw[<-hg];simp only[P8,Ahb,he,Option.map_some]);simp only[hq,hq',As (ω:((q+1:Nat):Int)>0),Am,w1,b6,Ad];have ao:Ag (Jj l.length (λp=>if q+1<p then g p else f p)) (q:Int)=some (cR (f q)):=(by rw[Bu rfl (Th _ ω),Ar ω]);have b4:Ag (Jj l.length (λp=>if q+1<p then g p else f p)) ((q+1:Nat):Int)=some (cR (f (q+1))):=(by rw[Bu rfl (Th _ ω),Ar ω]);have L:g (q+1)=f (q+1)->Jj l.length (λp=>if q+1<p then g p else f p)=Jj l.length (λp=>if q<p then g p else f p):=λY=>Amf (λp hp=>by
   by_cases e2:q+1<p
   .rw[Au e2,Au ω]
   .rw[Ar e2];by_cases e3:q<p
    .rw[Au e3,show p=q+1 by omega,Y]
    .rw[Ar e3]);show ((bif (e.U != x.U) then some true else _).bind _)=_;by_cases B:x.U=e.U
  .rw[H9 B.symm];have sq:=Sm.of (hf q ω) (sm q ω);have aq:=Sm.of (hf (q+1) U) (sm (q+1) U);simp only[Aq,ao,Ad,A73 sq.lg δ δ];by_cases a6:f q=0
   .rw[Au a6];simp only[beq_self_eq_true,Am];rw[L (by rw[a1,a6,Nat.zero_mul,Nat.add_zero])]
   .rw[Ar a6];have b8:((1:Int)==0)=false:=rfl;simp only[b8,Aq,ao,Ad];obtain⟨ts,ah,ag⟩:=hp e ap;obtain⟨ay,ai,ba,az,ak⟩:=A81 hz hk hx B ah;have b0:(M4 data t e).places=I5 (D3 data t.U e.U):=rfl;have b3:(M4 data t e).kids=e.K:=rfl;rw[ay,b0,b3];obtain⟨i1,i2⟩:=Ye data _ _ _ ag;have bh:q+1+pds data t (l.take q)+pdg data t e<=6:=(by have:=sm (q+1) U;rw[Aml he]at this;omega);generalize Z:J2 x.K (D3 data t.U e.U)=D at ak;have ar:∀w∈D,Di w<=5000:=λw hw=>by rw[<-Z]at hw;have:=M0 (Amm hw);have:=Me x;omega
    have M:∀j,Sm (f q*bvs data (e.K.take j) (ts.take j) (D.take j)):=λj=>by obtain⟨e',Y,e2⟩:=Acf data e.K ts _ j ag;have h1:=(Yk data 5000 δ _).2 _ _ (D.take j) e' (Nat.le_refl _) Y λw hx=>ar w (mem_of_mem_take hx);have h2:=Nat.mul_le_mul (hf q ω) h1;rw[<-Nat.pow_add]at h2;exact Sm.of h2 ω
    have av:wOf data t e x=bvs data e.K ts D:=(by unfold wOf;rw[Au B,Z];unfold J3;rw[ah]);refine F3 (I5 (D3 data t.U e.U)) (λj=>((j:Int),(cR (f q*bvs data (e.K.take j) (ts.take j) (D.take j))).N,(cR (f q*bvs data (e.K.take j) (ts.take j) (D.take j))).U,(cR (f q*bvs data (e.K.take j) (ts.take j) (D.take j))).B)) ?_ ω ?_ ?_
    .simp only[take_zero,Tj,Nat.mul_one];rfl
    .intro j pl hj aj h1 h2 h3;obtain⟨mm,a,w,rfl,V,hw,au,ax,be⟩:=ak j pl aj;have N:e.K[j]? = some (e.K[j]' ω):=Bt _;generalize e.K[j]'_=i' at N;obtain⟨d,d1,d2⟩:=i2 j i' a N V;have hb:=Sm.of ((Yk data 5000 δ _).1 i' a w d (Nat.le_refl _) d1 ω) ω;simp only[h1,h2,h3,Am,Ad,Bu rfl V,Bu rfl N,Bu rfl hw];rw[b7 e ap i' a w d (Bv N) d1 ω (az a (Bv V)) ax ω,Ad];show (Ec (cR (f q*bvs data (e.K.take j) (ts.take j) (D.take j))) (cR (bv data i' a w))).bind _=_;rw[Amo (M j).lg hb.lg δ δ,Amj data _ _ _ j i' a w N V au,Nat.mul_assoc];rfl
    .intro h1;refine⟨_,by simp only[h1];rfl,?_⟩;have A:=M (I5 (D3 data t.U e.U)).length;have bf:D.length=ts.length:=by
      have:∀(l:List Az) (r:List Bool),l.length=r.length->(J2 l r).length=(I5 r).length:=by
       intro l r hl;unfold J2 I5;rw[C6,C6];have key:∀(l:List Az) (r:List Bool) (s:Nat),l.length=r.length->((r.zipIdx s).filter λq=>!q.1).length=((l.zip r).filter λp=>!p.2).length:=by
        intro l;induction l with
        | nil=>intro r s h;have:r = []:=Fu.1 h.symm;subst this;rfl
        | cons a l ih=>intro r s h;cases r with| nil=>simp at h| cons b r=>have:=ih r (s+1) (by simpa using h);cases b <;> simp[this]
       exact (key l r 0 hl).symm
      obtain⟨_,_,_,_,am,_⟩:=Ags hk hx;rw[<-Z,this _ _ (by rw[<-am,B]),ai]
     rw[ai]at A ⊢;have Y:e.K.take ts.length=e.K:=Ih ω;have e2:D.take ts.length=D:=Ih ω;rw[Y,e2,Db]at A ⊢;show ((Ag _ _).bind λG=>(Iy G (cR (f q*bvs data e.K ts D))).bind _)=_;rw[b4];simp only[Ad];rw[A72 (aq.lg) A.lg δ δ];simp only[Ad,w1];congr 3;refine Avr U ?_ ?_
     .rw[Au ω,a1,av]
     .intro p hp bg;by_cases Y:q+1<p
      .rw[Au ω,Au Y]
      .rw[Ar ω,Ar Y]
  .rw[Gx (λe=>B e.symm)];simp only[Ad,Am];rw[L (by rw[a1,show wOf data t e x=0 by unfold wOf;rw[Ar B],Nat.mul_zero,Nat.add_zero])]
 .refine⟨(0,Jj l.length g),?_,hJ⟩;simp only[Nat.sub_self];have:Jj l.length (λp=>if 0<p then g p else f p)=Jj l.length g:=Amf (λp hp=>by
   by_cases e:0<p
   .rw[Au e]
   .have:p=0:=ω;subst this;rw[Ar e,<-hg];rfl);rw[this];rfl
theorem A83 (z:Szv data) (L:Mv data) (X:∀x∈data,x.O.length<=8) (hk:t.G=5) (ht:Bz t<=200) (l:List Ai) (hp:∀e∈l,∃ts,Gy data t e.U=some ts/\Cy data e.K ts=some (pdg data t e)) (E:l.length+pds data t l<=6) (v:Az) (hv:Di v<=5000) (M:Ha data v t=true) (k:Nat) (J:∀e∈l,∀(i':Ai) (t':Af) (w:Az) (d:Nat),i'∈e.K->Dj data i' t'=some d->d<=6->Bz t'<=200->Ha data w t'=true->Di w<=5000->Oo k data t' i' w=some (cR (bv data i' t' w))) : W5 (k+1) data t l v=some (cR (dpS (bws data l t) (Iu data t.U v) l.length)):=by
 have V:=Alq data t.U v;rw[W5];refine F3 l (λj=>((j:Int),(l.take j).map (M4 data t))) ψ ω ?_ ?_
 .intro j e hj s h1 h2 h3;obtain⟨ts,b,_⟩:=hp e (Bv s);unfold Gy at b;cases hf:Jh data t e.U with| none=>rw[hf]at b;cases b| some fl=>have D:=Xw hf;have h:fl.length<=6:=(by obtain⟨R,y,_,A,_,hy,G,_⟩:=Pz hf;obtain⟨N,_⟩:=z R (Hf A).2.2.2 y (Hf hy).2.2.2;rw[G];simpa using N);simp only[h1,h2,h3,Am,Ad,Abh z t ht,Xv data t.U e.U L,hf,okL];refine A76 fl (D3 data t.U e.U) D h ?_;show (Cg 80 _ [_]).bind _=_;rw[Ds ζ,Ad,Da s,map_append];congr 4;show [_] = [M4 data t e];unfold M4;rw[hf]
 .intro h1;refine⟨l.map (M4 data t),by simp only[h1];rw[Db];rfl,?_⟩;have Z:Ac ((((l.map (M4 data t)).length:Nat):Int)+1)=((l.length+1:Nat):Int):=(by rw[C6,Ac,Cj] <;> omega);rw[Z,K2 (n:=l.length+1) (c:=l.length+1) rfl rfl ω ω ω,Ad];refine A77 (l.length+1) ω ?_;have I:Ag (replicate (l.length+1) (cR 0)) 0=some (cR 0):=Bu (n:=0) rfl (by rw[getElem?_replicate,Au ω]);rw[Mg,Ad,I,Ad,A6y L X hk v hv M,Ad];have Y:C2 (replicate (l.length+1) (cR 0)) 0 (cR 1)=Jj l.length (dpS (bws data l t) []):=by
   have:replicate (l.length+1) (cR 0)=Jj l.length (λ_=>0):=by
    apply ext_getElem?;intro i;rcases Ch i (l.length+1) with hi|hi
    .rw[Th _ ω,getElem?_replicate,Au hi]
    .rw[Lp (by simpa using hi),Lp (by rw[Vr];exact hi)]
   rw[this];refine Avr (q:=0) ω rfl ?_;intro p _ hp;show (if p=0 then 1 else 0)=0;rw[Ar hp]
  rw[Y];have f:∀x∈Iu data t.U v,∀q w,(bws data l t)[q]? = some w->5000 ^ pds data t (l.take q)*w x<=5000 ^ pds data t (l.take (q+1)):=by
   intro x hx q wt hq;rw[Ahb]at hq;obtain⟨e,s,rfl⟩:=Option.map_eq_some_iff.1 hq;obtain⟨ts,b,B⟩:=hp e (Bv s);have U:=Amk data t.U v x hx;rw[Aml s,Nat.pow_add];refine Nat.mul_le_mul_left _ ?_;unfold wOf;split
   .rw[show J3 data t e.U=ts by unfold J3;rw[b]];refine (Yk data 5000 δ _).2 e.K ts _ _ (Nat.le_refl _) B λy hy=>?_;have S:=M0 (Amm hy);have:=Me x;omega
   .exact Nat.zero_le _
  have u:∀j q,dpS (bws data l t) ((Iu data t.U v).take j) q<=5000 ^ (q+pds data t (l.take q)):=λj q=>
   Awb _ 5000 δ (λq=>pds data t (l.take q)) _ (λx hx=>f x (mem_of_mem_take hx)) (by rw[length_take];omega) q
  refine F3 (Iu data t.U v) (λj=>((j:Int),Jj l.length (dpS (bws data l t) ((Iu data t.U v).take j)))) rfl ω ?_ ?_
  .intro j x hj hx h1 h2 h3;have hxm:=Avq hk _ v (Nat.le_refl _) M x (Bv hx);have g:P8 (bws data l t) x (dpS (bws data l t) ((Iu data t.U v).take j))=dpS (bws data l t) ((Iu data t.U v).take (j+1)):=(by rw[Da hx,Av9]);simp only[h1,h2,h3,Am,Ad];rw[show (((l.map (M4 data t)).length:Nat):Int)=(l.length:Int) by rw[C6]];refine A82 z hk l hp E k J x hxm.1 ω _ (λq _=>u j q) (λq _=>by rw[g];exact u (j+1) q) ?_;rw[g]
  .intro h1;refine⟨_,by simp only[h1];rw[Db];rfl,?_⟩;rw[Bu (n:=l.length) ψ (Th _ (Nat.le_refl _))];rfl
theorem A84 (L:Szv data) (U:Mv data) (h8:∀x∈data,x.O.length<=8):∀(n:Nat) (i:Ai) (t:Af) (w:Az) (k d:Nat),Ca i<=n->2*n<=k->n<1099511627776->Dj data i t=some d->d<=6->Bz t<=200->Ha data w t=true->Di w<=5000->Oo k data t i w=some (cR (bv data i t w)):=by
 intro n;induction n with
 | zero=>intro i t w k d h;have:=Ep i;omega
 | succ n ih=>
  intro i t w k d hi hk hn hd E ht l hw;obtain⟨k,rfl⟩:∃J,k=J+2:=⟨k-2,ω⟩;have Y:=Ep i;have M:=Me w;rw[Oo,Mg,Rh];simp only[Ad];rw[Mw]at hd;rw[Td]at l;by_cases f:t.G=6
  .rw[Ew f,Au f];rw[Au f]at hd;rw[Ar ω,Ar ω,Ar ω,Au f]at l;simp only[C3]at l;have c:=l.2;have hd:Cy data i.K t.R=some d:=by
    by_cases e:i.U=0
    .rw[Au e]at hd;exact hd
    .rw[Ar e]at hd;cases hd
   obtain⟨i1,i2⟩:=Ye data _ _ _ hd;have z:w.K.length=t.R.length:=by
    by_cases I:w.K.length=t.R.length
    .exact I
    .rw[Abu data _ _ I]at c;cases c
   have R:=Jx t;have S:=Lr t.R;have y:∀x∈w.K,Di x<=5000:=λx hx=>by have:=M0 hx;omega
   have hS:=A80 hd E y;rw[Am];refine F3 t.R (λj=>((j:Int),(cR (bvs data (i.K.take j) (t.R.take j) (w.K.take j))).N,(cR (bvs data (i.K.take j) (t.R.take j) (w.K.take j))).U,(cR (bvs data (i.K.take j) (t.R.take j) (w.K.take j))).B)) (by simp only[take_zero,Tj];rfl) ω ?_ ?_
   .intro j a hj ha h1 h2 h3;have b:i.K[j]? = some (i.K[j]' ω):=Bt _;generalize i.K[j]'_=i' at b;have hu:w.K[j]? = some (w.K[j]' ω):=Bt _;generalize w.K[j]'_=u at hu;obtain⟨e,d1,d2⟩:=i2 j i' a b ha;have N:=M0 (Bv hu);have Z:=Kc (Bv b);have a1:=Kb (Bv ha);have B:Ha data u a=true:=(by rw[Abv data _ _ z]at c;exact G5.1 c (u,a) (Bv (i:=j) (by rw[getElem?_zip_eq_some];exact⟨hu,ha⟩)));have hb:=Sm.of ((Yk data 5000 δ _).1 i' a u e (Nat.le_refl _) d1 ω) ω;simp only[h1,h2,h3,Am,Ad,Bu rfl b,Bu rfl hu];rw[ih i' a u (k+1) e ω ω ω d1 ω ω B ω,Ad];show (Ec (cR (bvs data (i.K.take j) (t.R.take j) (w.K.take j))) (cR (bv data i' a u))).bind _=_;rw[Amo (hS j).lg hb.lg δ δ,Amj data _ _ _ j i' a u b ha hu];rfl
   .intro h1;refine⟨_,by simp only[h1];rfl,?_⟩;have e1:i.K.take t.R.length=i.K:=Ih ω;have e2:w.K.take t.R.length=w.K:=Ih ω;rw[e1,e2,Db]
  .rw[Ar f]at hd ⊢;rw[C7 f,Aq];by_cases q:t.G=7
   .rw[Ew q,Am,Au q];rw[Au q]at hd;have X:=Vm w.K;by_cases e:0<=i.U/\i.U<=6/\i.K.length=0
    .obtain⟨m,V⟩:∃m:Nat,i.U=m:=⟨i.U.toNat,ω⟩;rw[V];first|rw[Avp _ _ ω ω,Ad] | rw[Avo _ _ ω ω,Ad]
     rw[Int.toNat_natCast]
    .rw[Ar e]at hd;cases hd
   .rw[Ar q]at hd ⊢;rw[C7 q,Aq];by_cases g:t.G=5
    .rw[Ew g,Am,Au g];rw[Au g]at hd;have hd:Fv data i.K t=some d:=by
      by_cases e:i.U=0
      .rw[Au e]at hd;exact hd
      .rw[Ar e]at hd;cases hd
     obtain⟨h1,h2⟩:=Ace data _ _ _ hd;rw[<-Td]at l;rw[A83 L U h8 g ht i.K h2 ω w hw l k (λe he i' t' u d' b G s D hu A=>by have h3:=Kc b;have h4:=Ep e;have h5:=Kc he;exact ih i' t' u k d' ω ω ω G s D hu A),Ad]
    .rw[C7 g,Aq,Ar g]
def Fa:Nat:=1000000000 ^ 100
structure Np (x:Ao) (a:Nat):Prop where
 rb:RB 200 x
 s:sv x=false
 n:nv x=a
 d:dv x=1
theorem Amp (h:a<Fa):Bp a<=100:=Kq h
theorem Np.cR (h:Bp a<=200):Np (cR a) a:=⟨O2 h δ,(Tg a).1,(Tg a).2.1,(Tg a).2.2⟩
theorem Np.c (h:a<Fa):Np (Ab.cR a) a:=Np.cR (by have:=Amp h;omega)
theorem Np.z:Np ⟨false,[],[]⟩ 0:=⟨A62 200,by unfold sv;simp,by unfold nv;simp[Al],by unfold dv;simp[Al]⟩
theorem Np.add {x:Ao} (hx:Np x a) (hy:Np y b):Iy x y=some (Ab.cR (a+b)):=by rw[Agh _ _ 200 200 hx.rb hy.rb ω ω,hx.s,hx.n,hx.d,hy.s,hy.n,hy.d];simp[Lv,Kd,Ab.cR]
theorem Np.mul {x:Ao} (hx:Np x a) (hy:Np y b):Ec x y=some (Ab.cR (a*b)):=by rw[X4 _ _ 200 200 hx.rb hy.rb ω ω,hx.s,hx.n,hx.d,hy.s,hy.n,hy.d];simp[Ab.cR]
theorem Np.sign {x:Ao} (hx:Np x a):Ik x=some (if a=0 then 0 else 1):=by rw[Agg _ 200 hx.rb ω,hx.s,hx.n];simp[K7]
theorem Np.can {x:Ao} (hx:Np x a):Ko x=some (Ab.cR a):=by rw[Alk _ 200 hx.rb ω,hx.s,hx.n,hx.d];rfl
def Ls (n:Nat) (f:Nat->Nat):List Ao:=(range n).map λk=>cR (f k)
theorem M6 (n:Nat) (f:Nat->Nat):(Ls n f).length=n:=by simp[Ls]
theorem M7 (f:Nat->Nat) (h:k<n):(Ls n f)[k]? = some (cR (f k)):=by simp[Ls,h]
theorem Acg {l:List Ao} {f:Nat->Nat} (b:l.length=n) (h:∀k,k<n->l[k]? = some (cR (f k))):l=Ls n f:=by
 apply ext_getElem?;intro k;rcases Ch k n with hk|hk
 .rw[h k hk,M7 f hk]
 .rw[Lp ω,Lp (by rw[M6];omega)]
theorem Ahd {step:Int×List α->Option ((Int×List α)⊕List α)} {J:List α->Option R} {i:Nat} (o:List α) (g:Nat->α) (hi:i<=n) (q:o.length=n) (l:∀(j:Nat) (o':List α),i<=j->j<n->o'.length=n->step ((j:Int),o')=some (.inl (((j+1:Nat):Int),o'.set j (g j)))) (y:∀o',o'.length=n->step ((n:Int),o')=some (.inr o')) (z:∀o',o'.length=n->(∀k,k<i->o'[k]? = o[k]?)->(∀k,i<=k->k<n->o'[k]? = some (g k))->J o'=some r):(An step ((i:Int),o)).bind J=some r:=by
 obtain⟨e,A,f⟩:=Li (step:=step) (λs=>∃(j:Nat) (o':List α),s=((j:Int),o')/\i<=j/\j<=n/\o'.length=n/\(∀k,k<i->o'[k]? = o[k]?)/\∀k,i<=k->k<j->o'[k]? = some (g k)) (λs=>n-s.1.toNat)
  (λo'=>o'.length=n/\(∀k,k<i->o'[k]? = o[k]?)/\∀k,i<=k->k<n->o'[k]? = some (g k)) (by
  rintro _ ⟨j,o',rfl,c,x,h1,h2,h3⟩
  rcases Ch j n with h|h
  .refine .inl ⟨_,l j o' c h h1,⟨j+1,o'.set j (g j),rfl,ω,ω,by simp[h1],λk hk=>?_,λk b u=>?_⟩,ζ⟩
   .rw[getElem?_set_ne ω];exact h2 k hk
   .rcases Ch k j with h'|h'
    .rw[getElem?_set_ne ω];exact h3 k b h'
    .have:k=j:=ω
     subst this
     rw[getElem?_set_self ω]
  .have:j=n:=ω
   subst this
   exact .inr ⟨o',y o' h1,h1,h2,h3⟩) ((i:Int),o) ⟨i,o,rfl,ω,hi,q,λ_ _=>rfl,λk h1 h2=>ω⟩
 rw[A,Ad]
 exact z e f.1 f.2.1 f.2.2
theorem A85 (n:Nat) (b:n<=1000):Aan (n:Int)=some (Ls n λ_=>0):=by
 unfold Aan;rw[K2 rfl rfl (Nat.le_refl _) ω ω,Ad];refine Ahd (i:=0) (n:=n) _ (λ_=>cR 0) ω ψ ?_ ?_ ?_
 .intro j o' _ h2 h3;have hx:o'[j]? = some o'[j]:=Bt ω;simp only[length_replicate,As (ω:(j:Int)<(n:Int)),Am,Ag7,Ad,Bu rfl hx,C9 h2 ω,He (n:=j) rfl]
 .intro o' h;simp only[length_replicate,Ay (ω:¬(n:Int)<(n:Int)),Aq]
 .intro o' h1 _ h3;rw[Acg h1 (f:=λ_=>0) λk hk=>h3 k ω hk]
theorem Awd (n k:Nat) (b:n<1000000000) (hk:k<=64):Ae9 (n:Int) (k:Int)=some (cR (bc n k)):=by
 have h:Us (n:Int) (k:Int)=some (cR (bc n k)):=by rw[At3 n k b hk,Yd,show Cb false (fct k*bc n k) (fct k)=Cb false (fct k*bc n k) (fct k*1) by rw[Nat.mul_one],Tb _ _ _ _ (X7 k)];rfl
 exact h
theorem Awe (h:n<=40):bc n k<Fa:=by refine Nat.lt_of_le_of_lt (Ab7 n k) ?_;exact Nat.lt_of_le_of_lt (Nat.pow_le_pow_right δ h) δ
theorem Awf (a b:Nat) (ha:a<=16) (hb:b<=16):Uy (a:Int) (b:Int)=some (Ls (a+b+1) (Rc a b)):=by
 unfold Uy;have q:Ac ((a:Int)+(b:Int))=((a+b:Nat):Int):=by rw[Ac,Cj] <;> omega
 have l:Ac (((a+b:Nat):Int)+1)=((a+b+1:Nat):Int):=by rw[Ac,Cj] <;> omega
 have e:(if (b:Int)>(a:Int) then (b:Int) else (a:Int))=((max a b:Nat):Int):=by split <;> omega
 rw[q,l,A85 _ ω,Ad,e];refine Ahd (i:=max a b) (n:=a+b+1) _ (λk=>cR (Rc a b k)) ω (by simp[M6]) ?_ ?_ ?_
 .intro j o' h1 h2 h3;have hx:o'[j]? = some o'[j]:=Bt ω;have g:Ac ((j:Int)-(b:Int))=((j-b:Nat):Int):=ξ;have s:Rc a b j=bc j a*bc a (j-b):=(by unfold Rc;rw[Au ω]);simp only[As (ω:(j:Int)<=((a+b:Nat):Int)),Am,Awd j a ω ω,g,Awd a (j-b) ω ω,Ad,(Np.c (Awe (ω:j<=40))).mul (Np.c (Awe (k:=j-b) (ω:a<=40))),Bu rfl hx,C9 h2 ω,He (n:=j) rfl,s]
 .intro o' h;simp only[Ay (ω:¬((a+b+1:Nat):Int)<=((a+b:Nat):Int)),Aq]
 .intro o' h1 h2 h3;rw[Acg h1 (f:=Rc a b) λk hk=>?_];rcases Ch k (max a b) with h|h
  .rw[h2 k h,M7 _ hk];have:Rc a b k=0:=by
    rcases (ω:k<a\/k<b) with h|h
    .exact A8m h
    .unfold Rc;rw[Ar ω]
   rw[this]
  .exact h3 k h hk
theorem A86 {m:Nat} {f g:Nat->Nat} {c:Nat} (B:m<=1000) (A:n<=1000) (hf:∀k,k<m->f k<Fa) (hg:∀k,k<n->g k<Fa) (hc:c<Fa) : Ux (Ls m f) (Ls n g) (cR c)=some (Ls (max m n) λk=>(if k<m then f k else 0)+(if k<n then g k else 0)*c):=by
 unfold Ux;rw[M6,M6];have e:(if (n:Int)>(m:Int) then (n:Int) else (m:Int))=((max m n:Nat):Int):=by split <;> omega
 rw[e,K2 rfl rfl (Nat.le_refl _) ω ω,Ad];refine Ahd (i:=0) (n:=max m n) _ (λk=>cR ((if k<m then f k else 0)+(if k<n then g k else 0)*c)) ω ψ ?_ ?_ ?_
 .intro j o' _ h2 h3;have hx:o'[j]? = some o'[j]:=Bt ω;obtain⟨x,u,s⟩:∃x:Ao,(bif decide ((j:Int)<(m:Int)) then ((Ag (Ls m f) (j:Int)).bind λb=>some (b.N,b.U,b.B)) else some (false,[],[]))=some (x.N,x.U,x.B)/\Np x (if j<m then f j else 0):=by
   by_cases h:j<m
   .rw[As ω,Am,Bu rfl (M7 f h),Au h];exact⟨_,rfl,Np.c (hf j h)⟩
   .rw[Ay ω,Aq,Ar h];exact⟨⟨false,[],[]⟩,rfl,Np.z⟩
  obtain⟨y,q,l⟩:∃x:Ao,(bif decide ((j:Int)<(n:Int)) then ((Ag (Ls n g) (j:Int)).bind λb=>some (b.N,b.U,b.B)) else some (false,[],[]))=some (x.N,x.U,x.B)/\Np x (if j<n then g j else 0)/\(if j<n then g j else 0)<Fa:=by
   by_cases h:j<n
   .rw[As ω,Am,Bu rfl (M7 g h),Au h];exact⟨_,rfl,Np.c (hg j h),hg j h⟩
   .rw[Ay ω,Aq,Ar h];exact⟨⟨false,[],[]⟩,rfl,Np.z,δ⟩
  have hq:Bp ((if j<n then g j else 0)*c)<=200:=(by have:=Hx (if j<n then g j else 0) c;have:=Amp l.2;have:=Amp hc;omega);have hb:Aag x y (cR c)=some (cR ((if j<m then f j else 0)+(if j<n then g j else 0)*c)):=(by unfold Aag;rw[(Np.c hc).mul l.1,Ad,Nat.mul_comm c,s.add (Np.cR hq)];rfl);simp only[length_replicate,As (ω:(j:Int)<((max m n:Nat):Int)),Am]
  erw[u,Ad,q,Ad];dsimp only;rw[hb,Ad,Bu rfl hx,Ad,C9 h2 ω,He (n:=j) rfl]
 .intro o' h;simp only[length_replicate,Ay (ω:¬((max m n:Nat):Int)<((max m n:Nat):Int)),Aq]
 .intro o' h1 _ h3;rw[Acg h1 (f:=λk=>(if k<m then f k else 0)+(if k<n then g k else 0)*c) λk hk=>h3 k ω hk]
theorem Amq {p:List Ao} {f:Nat->Nat} (u:n<1000) (s:p.length=n+1) (hp:∀k,k<n+1->∃x,p[k]? = some x/\Np x (f k)) (b:f n≠0):Pp p=some (Ls (n+1) f):=by
 unfold Pp;obtain⟨x,q,l⟩:=hp n ω;have w:Ac (((n+1:Nat):Int)-1)=(n:Int):=by rw[Ac,Cj] <;> omega
 refine bnd (a:=((n+1:Nat):Int)) (Gn ?_) ?_
 .rw[s];simp only[As (ω:((n+1:Nat):Int)>0),Am,w,Bu rfl q,Ad,l.sign,Ar b];rfl
 .rw[K2 rfl rfl (Nat.le_refl _) ω ω,Ad];refine Ahd (i:=0) (n:=n+1) _ (λk=>cR (f k)) ω ψ ?_ ?_ ?_
  .intro j o' _ h2 h3;have hx:o'[j]? = some o'[j]:=Bt ω;obtain⟨y,g,c⟩:=hp j h2;simp only[length_replicate,As (ω:(j:Int)<((n+1:Nat):Int)),Am,Bu rfl g,c.can,Ad,Bu rfl hx,C9 h2 ω,He (n:=j) rfl]
  .intro o' h;simp only[length_replicate,Ay (ω:¬((n+1:Nat):Int)<((n+1:Nat):Int)),Aq]
  .intro o' h1 _ h3;rw[Acg h1 (f:=f) λk hk=>h3 k ω hk]
def Ij (n d:Nat) (f:Nat->Nat) (k:Nat):Nat:=sm n λa=>f a*Rc a d k
theorem Awg (a d:Nat):0<Rc a d (a+d):=by
 unfold Rc;rw[Au ω,show a+d-d=a by omega,Vu];have:0<bc (a+d) a:=by
  have h:∀d,0<bc (a+d) a:=by
   intro d;induction d with
   | zero=>rw[Nat.add_zero,Vu];decide
   | succ d ih=>cases a with| zero=>rw[J0];decide| succ a=>rw[show a+1+(d+1)=(a+1+d)+1 by omega,Yi];omega
  exact h d
 omega
theorem A87 {f:Nat->Nat} {p q:List Ao} (Z:n+d<=12) (hp:p=Ls (n+1) f) (i:f n≠0) (hq:q.length=d+1) (N:∀k,k<d+1->∃x,q[k]? = some x/\Np x (if k=d then 1 else 0)) (hf:∀k,k<n+1->f k<Fa) (V:∀a k,a<=n+1->Ij a d f k<Fa):Z4 p q=some (Ls (n+d+1) (Ij (n+1) d f),true):=by
 unfold Z4
 have l:p.length=n+1:=by rw[hp,M6]
 rw[l,hq,Ay ω,Ay ω]
 simp only[Aq,Ad]
 have c1:Pp p=some (Ls (n+1) f):=Amq ω l (λk hk=>⟨_,by rw[hp];exact M7 f hk,Np.c (hf k hk)⟩) i
 have c2:Pp q=some (Ls (d+1) λk=>if k=d then 1 else 0):=Amq ω hq N ψ
 have w:Ac (((n+1:Nat):Int)+((d+1:Nat):Int))=((n+d+2:Nat):Int):=by rw[Ac,Cj] <;> omega
 rw[c1,Ad,c2,Ad,M6,M6,C7 ω,C7 ω]
 simp only[Aq,Ad]
 rw[w,Ay ω,Aq]
 obtain⟨r,Y,X⟩:=Ee (J:=λA=>(Pp A).bind λz=>some (z,true)) (Q:=λr=>r=(Ls (n+d+1) (Ij (n+1) d f),true)) (step:=λ(x:List Ao×Int)=>match x with
  | (v25,v26)=>
   bif v26<((n+1:Nat):Int) then (
   (Ag (Ls (n+1) f) v26).bind λI=>
   (An (S:=(List Ao×Int)) (E:=(List Ao×Int)) (λ(g,v37)=>
   bif v37<((d+1:Nat):Int) then (
   (Ag (Ls (d+1) λk=>if k=d then 1 else 0) v37).bind λG=>
   (Ec I G).bind λv40=>
   (Ik v40).bind λD=>
   bif (D==(0:Int)) then (
   some (.inl (g,(Ac (v37+1))))
   )
   else (
   (Uy v26 v37).bind λB=>
   (Ux g B v40).bind λv44=>
   some (.inl (v44,(Ac (v37+1))))
   )
   )
   else (
   some (.inr (g,v37))
   )
    ) (v25,0)).bind λ(v45,v46)=>
   some (.inl (v45,(Ac (v26+1))))
   )
   else (
   some (.inr v25)
   )) (s:=([],0))
  (λs=>∃(a L:Nat) (h:Nat->Nat),s=(Ls L h,(a:Int))/\a<=n+1/\L<=a+d/\(∀k,(if k<L then h k else 0)=Ij a d f k)/\(a=n+1->L=n+d+1)) (λs=>n+1-s.2.toNat)
  (λe=>e=Ls (n+d+1) (Ij (n+1) d f)) ⟨0,0,λ_=>0,rfl,ω,ω,λk=>by simp[Ij,sm],ω⟩ (by
  rintro _ ⟨a,L,h,rfl,ha,hL,hv,y⟩
  rcases Ch a (n+1) with h1|h1
  .left
   have M:Np (cR 0) 0:=Np.c δ
   have b:∀k,Ij (a+1) d f k=Ij a d f k+f a*Rc a d k:=λk=>rfl
   have hh:∀k,k<L->h k<Fa:=λk hk=>by
    have:=hv k
    rw[Au hk]at this
    rw[this];exact V a k ω
   by_cases h0:f a=0
   .refine⟨(Ls L h,((a+1:Nat):Int)),?_,⟨a+1,L,h,rfl,ω,ω,λk=>by rw[b,h0,hv];simp,λe=>?_⟩,ζ⟩
    .simp only[As (ω:(a:Int)<((n+1:Nat):Int)),Am,Bu rfl (M7 f h1),Ad,h0]
     refine K4 (d+1) (λj=>(Ls L h,(j:Int))) rfl ?_ ⟨(Ls L h,((d+1:Nat):Int)),?_,?_⟩
     .intro j hj
      have hy:Np (cR (if j=d then 1 else 0)) (if j=d then 1 else 0):=Np.c (by split <;> decide)
      simp only[As (ω:(j:Int)<((d+1:Nat):Int)),Am,Bu rfl (M7 _ hj),Ad,M.mul hy,Nat.zero_mul,M.sign,if_true,C9 hj ω]
      rfl
     .simp only[Ay (ω:¬((d+1:Nat):Int)<((d+1:Nat):Int)),Aq]
     .rw[C9 h1 ω]
    .have:a=n:=ω
     subst this;exact (i h0).elim
   .have u:=Np.c (hf a h1)
    have R:Ux (Ls L h) (Ls (a+d+1) (Rc a d)) (cR (f a))=some (Ls (a+d+1) λk=>(if k<L then h k else 0)+(if k<a+d+1 then Rc a d k else 0)*f a):=by
     rw[A86 ω ω hh (λk hk=>?_) (hf a h1),show max L (a+d+1)=a+d+1 by omega]
     unfold Rc
     split
     .refine Nat.lt_of_le_of_lt (Nat.mul_le_mul (Ab7 k a) (Ab7 a (k-d))) ?_
      rw[<-Nat.pow_add]
      exact Nat.lt_of_le_of_lt (Nat.pow_le_pow_right δ (ω:k+a<=40)) δ
     .decide
    refine⟨(Ls (a+d+1) λk=>(if k<L then h k else 0)+(if k<a+d+1 then Rc a d k else 0)*f a,((a+1:Nat):Int)),?_,⟨a+1,a+d+1,_,rfl,ω,ω,λk=>?_,λe=>ω⟩,ζ⟩
    .simp only[As (ω:(a:Int)<((n+1:Nat):Int)),Am,Bu rfl (M7 f h1),Ad]
     refine K4 (d+1) (λj=>if j<=d then (Ls L h,(j:Int)) else (Ls (a+d+1) λk=>(if k<L then h k else 0)+(if k<a+d+1 then Rc a d k else 0)*f a,(j:Int))) ψ ?_ ⟨((Ls (a+d+1) λk=>(if k<L then h k else 0)+(if k<a+d+1 then Rc a d k else 0)*f a),((d+1:Nat):Int)),?_,?_⟩
     .intro j hj
      have hy:Np (cR (if j=d then 1 else 0)) (if j=d then 1 else 0):=Np.c (by split <;> decide)
      rw[Au ω]
      simp only[As (ω:(j:Int)<((d+1:Nat):Int)),Am,Bu rfl (M7 _ hj),Ad,u.mul hy,C9 hj ω]
      rcases Ch j d with h2|h2
      .rw[Ar (ω:¬j=d),Nat.mul_zero,M.sign,Ad,Au (ω:j+1<=d)]
       rfl
      .have:j=d:=ω
       subst this
       rw[Au rfl,Nat.mul_one,u.sign,Ad,Ar h0,Awf a j ω ω,Ad,R,Ar ω]
       rfl
     .rw[Ar ω]
      simp only[Ay (ω:¬((d+1:Nat):Int)<((d+1:Nat):Int)),Aq]
     .rw[C9 h1 ω]
    .rw[b,<-hv]
     by_cases hk:k<a+d+1
     .rw[Au hk,Au hk,Nat.mul_comm (Rc a d k)]
     .rw[Ar hk,Ar ω,Avw ω];simp
  .have:a=n+1:=ω
   subst this
   right
   have U:=y rfl
   refine⟨Ls L h,?_,?_⟩
   .simp only[Ay (ω:¬((n+1:Nat):Int)<((n+1:Nat):Int)),Aq]
   .subst U
    refine Acg (M6 _ _) λk hk=>?_
    have:=hv k
    rw[Au hk]at this
    rw[M7 _ hk,this]) (by
  rintro _ rfl
  refine⟨_,bnd (Amq (n:=n+d) (f:=Ij (n+1) d f) ω (M6 _ _) (λk hk=>⟨_,M7 _ hk,Np.c (V _ _ ω)⟩) ?_) rfl,rfl⟩
  have e:Ij (n+1) d f (n+d)=Ij n d f (n+d)+f n*Rc n d (n+d):=rfl
  have:=Nat.mul_pos (Nat.pos_of_ne_zero i) (Awg n d)
  omega)
 rw[<-X]
 exact Y
theorem A88 (d x N:Nat) (f:Nat->Nat):∀M,(∀a,a<M->a+d<N)->sm N (λk=>Ij M d f k*bc x k)=sm M (λa=>f a*bc x a)*bc x d:=by
 intro M;induction M with
 | zero=>intro _;rw[Vt (λk _=>by simp[Ij,sm])];simp[sm]
 | succ M ih=>
  intro h;have e:∀k,Ij (M+1) d f k*bc x k=Ij M d f k*bc x k+f M*(Rc M d k*bc x k):=λk=>by show (Ij M d f k+f M*Rc M d k)*bc x k=_;rw[Nat.add_mul,Nat.mul_assoc]
  rw[Yg (λk _=>e k),Vs,ih (λa ha=>h a ω),Avu,Yj x M d N (h M ω)];show _=(sm M (λa=>f a*bc x a)+f M*bc x M)*bc x d;rw[Nat.add_mul,Nat.mul_assoc (f M)]
theorem A89 (d:Nat) (f:Nat->Nat) (k:Nat):∀{m n:Nat},m<=n->Ij m d f k<=Ij n d f k:=by
 intro m n h;induction n with
 | zero=>have:m=0:=ω;subst this;exact Nat.le_refl _
 | succ n ih=>
  rcases Ch m (n+1) with h'|h'
  .have:=ih ω;have e:Ij (n+1) d f k=Ij n d f k+f n*Rc n d k:=rfl;omega
  .have:m=n+1:=ω;subst this;exact Nat.le_refl _
def prb (x:Nat):List Bi->Nat
 | []=>1
 | a::l=>bc x a.P.toNat*prb x l
def Dm:List Bi->Nat
 | []=>0
 | a::l=>a.P.toNat+Dm l
theorem Awh (x:Nat) (l m:List Bi):prb x (l++m)=prb x l*prb x m:=by induction l with| nil=>simp[prb]| cons a l ih=>simp only[Ed,prb,ih,Nat.mul_assoc]
theorem Tk (l m:List Bi):Dm (l++m)=Dm l+Dm m:=by induction l with| nil=>simp[Dm]| cons a l ih=>simp only[Ed,Dm,ih,Nat.add_assoc]
theorem Amr {m:List Bi} (h:l.Perm m):Dm l=Dm m:=by induction h with| nil=>rfl| cons a _ ih=>simp only[Dm,ih]| swap a b l=>simp only[Dm];omega| trans _ _ h1 h2=>exact h1.trans h2
theorem A9a (x d:Nat):bc x d<=(x+1) ^ d:=Nat.le_trans (Ahc x d) (Nat.pow_le_pow_left ω d)
theorem Awi (x:Nat):∀l:List Bi,prb x l<=(x+1) ^ Dm l
 | []=>by simp[prb,Dm]
 | a::l=>by simp only[prb,Dm,Nat.pow_add];exact Nat.mul_le_mul (A9a x _) (Awi x l)
theorem Yl {x:Nat} (hx:x<=1048576) (hd:Dm l<=12):prb x l<Fa:=by refine Nat.lt_of_le_of_lt (Awi x l) ?_;refine Nat.lt_of_le_of_lt (Nat.pow_le_pow_left (ω:x+1<=1048577) _) ?_;exact Nat.lt_of_le_of_lt (Nat.pow_le_pow_right δ hd) δ
def PwN (l:List Bi) (N:Nat) (f:Nat->Nat):Prop:=N=Dm l/\f N≠0/\∀x,sm (N+1) (λk=>f k*bc x k)=prb x l
theorem PwN.le {f:Nat->Nat} (h:PwN l N f) (hk:k<N+1):f k<=prb k l:=by
 have h1:=h.2.2 k;have h2:f k*bc k k<=sm (N+1) (λj=>f j*bc k j):=by
  have:∀n,k<n->f k*bc k k<=sm n (λj=>f j*bc k j):=by
   intro n;induction n with
   | zero=>intro h;omega
   | succ n ih=>
    intro h;show _<=sm n _+f n*bc k n;rcases Ch k n with h'|h'
    .have:=ih h';omega
    .have:k=n:=ω;subst this;omega
  exact this _ hk
 rw[Vu,Nat.mul_one]at h2;omega
theorem PwN.step {f:Nat->Nat} (h:PwN l N f) (a:Bi):PwN (l++[a]) (N+a.P.toNat) (Ij (N+1) a.P.toNat f):=by
 refine⟨by rw[Tk,h.1];simp[Dm],?_,λx=>?_⟩
 .have e:Ij (N+1) a.P.toNat f (N+a.P.toNat)=Ij N a.P.toNat f (N+a.P.toNat)+f N*Rc N a.P.toNat (N+a.P.toNat):=rfl;have:=Nat.mul_pos (Nat.pos_of_ne_zero h.2.1) (Awg N a.P.toNat);omega
 .rw[A88 _ x _ f (N+1) (λb ha=>ω),h.2.2 x,Awh];simp[prb]
theorem A9b (l:List Bi) (x:l≠[]) (ht:∀a∈l,a.L.T.length≠0) (hd:∀a∈l,0<=a.P) (R:Dm l<=12) (S:l.length<=1000) : ∃N f,Oq l=some (Ls (N+1) f)/\PwN l N f:=by
 have h0:Afc l=false:=by cases l with| nil=>exact (x rfl).elim| cons a M=>have:=ht a ψ;show (a.L.T.length==0)=false;simpa using this
 have h1:∃N f,Afb l=some (Ls (N+1) f)/\PwN l N f:=by
  unfold Afb;rw[Mg,Ad]
  suffices h:∃r,_/\∃N f,r=Ls (N+1) f/\PwN l N f by obtain⟨r,G,N,f,E,D⟩:=h;exact⟨N,f,by rw[<-E];exact G,D⟩
  refine Ee (λs=>∃(i N:Nat) (f:Nat->Nat),s=(Ls (N+1) f,(i:Int))/\i<=l.length/\PwN (l.take i) N f) (λs=>l.length-s.2.toNat) (λe=>∃N f,e=Ls (N+1) f/\PwN l N f) ⟨0,0,λ_=>1,rfl,ω,by simp[PwN,Dm,prb,sm,J0]⟩ ?_ ?_
  .rintro _ ⟨i,N,f,rfl,hi,g⟩;rcases Ch i l.length with h|h
   .left;have hx:l[i]? = some l[i]:=Bt h;have b:=getElem_mem h;generalize l[i]=a at hx b;have U:=ht a b;have L:=hd a b;have B:Dm l=Dm (l.take i)+(a.P.toNat+Dm (l.drop (i+1))):=(by have:=Tk (l.take i) (l.drop i);rw[take_append_drop]at this;rw[this,N2 hx];rfl);have V:=g.1;have w:Ac (a.P+1)=((a.P.toNat+1:Nat):Int):=ξ;have I:Ag (replicate (a.P.toNat+1) (⟨false,[],[]⟩:Ao)) a.P=some ⟨false,[],[]⟩:=Bu (n:=a.P.toNat) ω ψ;have u:=g.step a;have hb:∀A k,A<=N+1->Ij A a.P.toNat f k<Fa:=by
     intro A k y;refine Nat.lt_of_le_of_lt (A89 _ f k y) ?_;rcases Ch k (N+a.P.toNat+1) with hk|hk
     .refine Nat.lt_of_le_of_lt (u.le hk) (Yl ω ?_);rw[Tk];simp only[Dm];omega
     .have:Ij (N+1) a.P.toNat f k=0:=Vt λj hj=>by rw[Avw ω];rfl
      rw[this];decide
    have J:=A87 (n:=N) (d:=a.P.toNat) (f:=f) (p:=Ls (N+1) f) (q:=C2 (replicate (a.P.toNat+1) ⟨false,[],[]⟩) a.P (cR 1)) ω rfl g.2.1 (by rw[He (n:=a.P.toNat) ω];simp) (λk hk=>by
     rw[He (n:=a.P.toNat) ω];by_cases e:k=a.P.toNat
     .subst e;rw[Au rfl];exact⟨_,getElem?_set_self ψ,Np.c δ⟩
     .rw[Ar e,getElem?_set_ne ω];exact⟨⟨false,[],[]⟩,by simp[hk],Np.z⟩) (λk hk=>Nat.lt_of_le_of_lt (g.le hk) (Yl ω ω)) hb
    refine⟨(Ls (N+a.P.toNat+1) (Ij (N+1) a.P.toNat f),((i+1:Nat):Int)),?_,⟨i+1,_,_,rfl,ω,by rw[Da hx];exact u⟩,ζ⟩;simp only[As (ω:(i:Int)<(l.length:Int)),Am,Bu rfl hx,Ad,C7 (ω:¬(a.L.T.length:Int)=0),Aq,w,K2 rfl rfl (Nat.le_refl _) (ω:56*(a.P.toNat+1)<=281474976710656) ω,Mg,I,J,C9 h ω]
   .have:i=l.length:=ω;subst this;rw[Db]at g;right;exact⟨_,by simp only[Ay (ω:¬(l.length:Int)<(l.length:Int)),Aq],_,_,rfl,g⟩
  .rintro _ ⟨N,f,rfl,h⟩;exact⟨_,rfl,N,f,rfl,h⟩
 obtain⟨N,f,h2,h3⟩:=h1;refine⟨N,f,?_,h3⟩;unfold Oq;rw[h0,Aq];exact h2
theorem A9c {c:Int} {d:Int} (hc:c<=1048576) (hd:0<=d) (b:d<=64):Xm c d=some (cR (bc c.toNat d.toNat),true):=by
 have h:=Avp c.toNat d.toNat ω ω;have e:((d.toNat:Nat):Int)=d:=ω;rw[e]at h;rw[<-h];unfold Xm;have f:(if c>(0:Int) then c else 0)=(if ((c.toNat:Nat):Int)>(0:Int) then ((c.toNat:Nat):Int) else 0):=by split <;> split <;> omega
 rw[f]
theorem A9d (l:List Bi) {c:Int} (hc:c<=1048576) (ht:∀a∈l,a.L.T.length=0/\a.L.Q=c) (hd:∀a∈l,0<=a.P) (G:Dm l<=12) (I:l.length<=1000) :
  Oq l=some [cR (prb c.toNat l)]:=by
 have h1:Afa l=some [cR (prb c.toNat l)]:=by
  unfold Afa
  rw[Mg,Ad]
  obtain⟨r,B,A⟩:∃r,_/\r = [cR (prb c.toNat l)]:=Ee (λs=>∃i:Nat,s=((i:Int),[cR (prb c.toNat (l.take i))])/\i<=l.length) (λs=>l.length-s.1.toNat) (λe=>e = [cR (prb c.toNat l)]) (J:=λo=>some o)
   (step:=λ(x:Int×List Ao)=>match x with
    | (g,f)=>
     bif g<(l.length:Int) then (
     (Ag l g).bind λb=>
     bif ((b.L.T.length:Int)==(0:Int)) then (
     (Xm b.L.Q b.P).bind λk=>
     (Ag f 0).bind λv20=>
     (Ec v20 k.1).bind λv21=>
     (Ag f 0).bind λv22=>
     some (.inl ((Ac (g+1)),(C2 f 0 v21)))
     )
     else (
     (Gq 56 (Ac (b.P+1)) (Ac (b.P+1)) ((Ao.mk false [] []):Ao)).bind λq=>
     (D0 1).bind λv25=>
     (Ag q b.P).bind λv26=>
     none
     )
     )
     else (
     some (.inr f)
     )) (s:=(0,[cR 1]))
   ⟨0,rfl,ω⟩ (by
   rintro _ ⟨i,rfl,hi⟩
   rcases Ch i l.length with h|h
   .left
    have hx:l[i]? = some l[i]:=Bt h
    have j:=getElem_mem h
    generalize l[i]=a at hx j
    obtain⟨L,D⟩:=ht a j
    have y:=hd a j
    have e:Dm l=Dm (l.take i)+(a.P.toNat+Dm (l.drop (i+1))):=by
     have:=Tk (l.take i) (l.drop i)
     rw[take_append_drop]at this
     rw[this,N2 hx];rfl
    have hb:prb c.toNat (l.take i)<Fa:=Yl ω ω
    have z:bc c.toNat a.P.toNat<Fa:=by
     have:=Yl (x:=c.toNat) (l:=[a]) ω (by simp only[Dm];omega)
     simpa[prb] using this
    have u:Ag [cR (prb c.toNat (l.take i))] 0=some (cR (prb c.toNat (l.take i))):=rfl
    refine⟨_,?_,⟨i+1,rfl,ω⟩,ζ⟩
    simp only[As (ω:(i:Int)<(l.length:Int)),Am,Bu rfl hx,Ad,Ew (ω:(a.L.T.length:Int)=0),D,A9c hc y (ω:a.P<=64),u,(Np.c hb).mul (Np.c z),C9 h ω]
    rw[Da hx,Awh]
    simp[prb,C2]
   .have:i=l.length:=ω
    subst this
    right
    exact⟨[cR (prb c.toNat (take l.length l))],by simp only[Ay (ω:¬(l.length:Int)<(l.length:Int)),Aq],by rw[Db]⟩) (by
   rintro _ rfl
   exact⟨_,rfl,rfl⟩)
  rw[<-A]
  exact B
 have h0:Afc l=true:=by
  cases l with
  | nil=>rfl
  | cons a E=>
   have:=(ht a ψ).1
   show (a.L.T.length==0)=true
   simpa using this
 unfold Oq
 rw[h0,Am,h1]
noncomputable def Ahe (cmp:α->α->Option Int) (a0:Int) (f:List α):Option (List α) := (An (S:=(Int×Int×(List α))) (E:=(Int×Int×(List α))) (λ(v3,v4,h)=> bif v4<=a0 then ((Ab9 cmp v3 v4 h).bind λg=> (Gf f.length g).bind λk=> some (.inl (v4,(Ac (v4+20)),g))) else (some (.inr (v3,v4,h)))) (0,20,f)).bind λ(v8,v9,c)=> (Ab9 cmp v8 a0 c).bind λv11=> (Gf f.length v11).bind λv12=> (An (S:=(Int×Int×Int)) (E:=Unit) (λ(b,j,i)=> bif b<a0 then ((An (S:=Unit) (E:=Unit) (λ_=> bif (Ac (2*b))<=a0 then (none) else (some (.inr ()))) ()).bind λ_=> bif (Ac (0+b))<a0 then (none) else (some (.inl ((Ac (b*2)),0,(Ac (2*b)))))) else (some (.inr ()))) (20,v8,v9)).bind λ_=> some v11
theorem Awj {cmp:α->α->Option Int} {c:α->α->Int} (L:Qi c) (f:List α) (g:∀x∈f,∀y∈f,cmp x y=some (c x y)) (h:f.length<20) : ∃R,Ahe cmp (f.length:Int) f=some R/\R.Perm f/\R.Pairwise (λa b=>¬c b a<0):=by
 obtain⟨R,h1,h2,h3⟩:=Avt L f g ω;refine⟨R,?_,h2,h3⟩;unfold Ahe;refine bnd (a:=(0,20,f)) (Gn ?_) ?_
 .simp only[Ay (ω:¬(20:Int)<=(f.length:Int)),Aq]
 .dsimp only;rw[h1,Ad,M3 h2.length_eq.symm,Ad];refine bnd (a:=()) (Gn ?_) rfl;simp only[Ay (ω:¬(20:Int)<(f.length:Int)),Aq]
theorem Ahf:Qi Im where
 irr x:=by rw[(M2.zero x x trivial trivial).2 rfl];omega
 trs x y z h1 h2:=M2.trans x y z trivial trivial trivial h1 h2
 ntr x y z h1 h2 h3:=by
  rcases Int.lt_trichotomy (Im x y) 0 with k|k|k
  .exact h1 k
  .have:=(M2.zero x y trivial trivial).1 k
   subst this;exact h2 h3
  .have b:Im y x<0:=by rw[M2.anti x y trivial trivial];omega
   exact h2 (M2.trans y x z trivial trivial trivial b h3)
theorem A9e:Qi (λa b:Bi=>Im a.L b.L):=⟨λ_=>Ahf.irr _,λ_ _ _=>Ahf.trs _ _ _,λ_ _ _=>Ahf.ntr _ _ _⟩
def Ach (l:List Bi):Prop:=l.Pairwise λa b=>¬Im b.L a.L<0
theorem A9f (b:List Bi) (ht:∀a∈b,a.L.T.length<1099511627776) (c:b.length<20):∃R,W0 b=some R/\R.Perm b/\Ach R:=by obtain⟨R,h1,h2,h3⟩:=Awj (cmp:=W1) A9e b (λx hx y _=>by unfold W1;rw[Af9 x.L y.L (ht x hx)];rfl) c;refine⟨R,?_,h2,h3⟩;unfold W0;have e:Aen (b.length:Int) b=Ahe W1 (b.length:Int) b:=rfl;rw[e,h1,Ad,M3 h2.length_eq.symm];rfl
theorem Ahg (n:Nat) (h:n<=1000000):Nk (α:=α) (n:Int)=some []:=by unfold Nk;rw[As ω,As ω];rfl
theorem A9g (a b:List Bi) (h:a.length+b.length<=1000000):Aeg [a,b]=some (a++b) := Amh (B:=40) δ (gr:=Aeq) (λn h=>Ahg n h) a b h
theorem A9h (a b:List Bh) (h:a.length+b.length<=1000000):Aef [a,b]=some (a++b) := Amh (B:=40) δ (gr:=Aep) (λn h=>Ahg n h) a b h
theorem Ams (m n:Bj) (h1:m.F.length+n.F.length<=1000000) (h2:m.A.length+n.A.length<=1000000):Qo m n=some ⟨m.F++n.F,m.A++n.A⟩:=by unfold Qo;rw[A9h _ _ h1,Ad,A9g _ _ h2];rfl
def atO (l:Co) (k:Nat):List Bi:=if k=0 then [] else [⟨l,k⟩]
theorem A9i (l:Co) (k:Nat):Uh l (k:Int)=some (atO l k):=by
 unfold Uh atO;by_cases h:k=0
 .rw[Ew ω,Au h];rfl
 .rw[C7 ω,Ar h];rfl
theorem Awk (l:Co) (k:Nat):(atO l k).length<=1:=by unfold atO;split <;> simp
abbrev FS:={F:List Bh // F.length<=1000}
theorem A9j {t:Aj} {x:Ao} {F:FS} (b:t.M=⟨F.1,A⟩) (f:A.length+B.length<=1000000) (g:K<30000000000) (h1:RB K t.C) (h2:RB 200 x) : ∃u,Mp t x ⟨[],B⟩=some u/\u.M=⟨F.1,A++B⟩/\rq u.C=rq t.C*rq x/\RB (K+202) u.C:=by obtain⟨c,c1,c2,_,c4⟩:=Rf h1 h2 ω ω;refine⟨⟨c,⟨F.1,A++B⟩⟩,?_,rfl,c4,c2⟩;unfold Mp;have:=F.2;rw[c1,Ad,b,Ams _ _ ζ f,append_nil];rfl
abbrev Ent:=List Bi×Nat
inductive Lw (F:FS) (c:Rat) (K:Nat):List Aj->List Ent->Prop
 | nil:Lw F c K [] []
 | cons {t:Aj} {b:Ent} {ts:List Aj} {bs:List Ent}:t.M=⟨F.1,b.1⟩->rq t.C=c*(b.2:Rat)->RB K t.C->Lw F c K ts bs->Lw F c K (t::ts) (b::bs)
theorem Lw.len {F:FS} {c:Rat} {ts:List Aj} {bs:List Ent} (h:Lw F c K ts bs):ts.length=bs.length:=by induction h with| nil=>rfl| cons _ _ _ _ ih=>simp[ih]
theorem Lw.app {F:FS} {c:Rat} {ts f:List Aj} {bs cs:List Ent} (h:Lw F c K ts bs) (h':Lw F c K f cs):Lw F c K (ts++f) (bs++cs):=by induction h with| nil=>exact h'| cons a b d _ ih=>exact .cons a b d ih
theorem Lw.mono {F:FS} {c:Rat} {f:Nat} {ts:List Aj} {bs:List Ent} (h:Lw F c K ts bs) (hk:K<=f):Lw F c f ts bs:=by induction h with| nil=>exact .nil| cons a b d _ ih=>exact .cons a b (d.mono hk) ih
theorem Lw.get {F:FS} {c:Rat} {ts:List Aj} {bs:List Ent} (h:Lw F c K ts bs):∀{j:Nat} {t:Aj},ts[j]? = some t->∃b,bs[j]? = some b/\t.M=⟨F.1,b.1⟩/\rq t.C=c*(b.2:Rat)/\RB K t.C:=by
 induction h with
 | nil=>intro j t h;simp at h
 | @cons t b ts bs a1 a2 a3 _ ih=>intro j u hj;cases j with| zero=>simp only[getElem?_cons_zero,Option.some.injEq]at hj;subst hj;exact⟨b,rfl,a1,a2,a3⟩| succ j=>simp only[getElem?_cons_succ]at hj;simpa using ih hj
def fs0:FS:=⟨[],δ⟩
abbrev Rep (c:Rat) (K:Nat):List Aj->List Ent->Prop:=Lw fs0 c K
def I1 (B:List Ent) (l:Co) (f:Nat->Nat) (n:Nat):List Ent:=(range n).flatMap λk=>if f k=0 then [] else B.map λb=>(b.1++atO l k,b.2*f k)
theorem Awl (B:List Ent) (l:Co) (f:Nat->Nat) (n:Nat):I1 B l f (n+1)=I1 B l f n++(if f n=0 then [] else B.map λb=>(b.1++atO l n,b.2*f n)):=by unfold I1;rw[range_succ,flatMap_append];simp
noncomputable def Aci (h:List Aj) (l:Co) (k:Int) (x:Ao):Int×List Aj->Option ((Int×List Aj)⊕(Int×List Aj)):=λ(b,c)=> bif b<(h.length:Int) then ((Ag h b).bind λg=> (Uh l k).bind λv194=> (Mp g x (Bj.mk [] v194)).bind λf=> (Cg 104 c [f]).bind λi=> some (.inl ((Ac (b+1)),i))) else (some (.inr (b,c)))
theorem A9k (a b:Ao) (j k:Nat) (ha:RB j a) (hb:RB k b) (hj:j<68719476736) (hk:k<68719476736) : Uf a b=some (Cb (Lv (sv a) (nv a) (dv a) (!sv b) (nv b) (dv b)) (Kd (sv a) (nv a) (dv a) (!sv b) (nv b) (dv b)) (dv a*dv b)):=by
 unfold Uf Wu;have h1:=ha.nv;have h2:=ha.dv;have h3:=hb.nv;have s:=hb.dv;have q:=Hx (nv a) (dv b);have l:=Hx (nv b) (dv a);have i:=Hx (dv a) (dv b);have h:=Aa7 (nv a*dv b) (nv b*dv a);have g:=I4 (Nat.sub_le (nv a*dv b) (nv b*dv a));have f:=I4 (Nat.sub_le (nv b*dv a) (nv a*dv b));rw[Ta b k hb ω,Ad,Ta a j ha ω,Ad];dsimp only;rw[S7 _ _ ω ω,Ad,S7 _ _ ω ω,Ad,S7 _ _ ω ω,Ad];by_cases c:sv a = !sv b
 .have e:(sv a == !sv b)=true:=(by rw[c];exact beq_self_eq_true _);rw[e,Am,Atn _ _ ω ω,Ad,Ad,P6 _ _ _ ω ω,Lv,Kd,Au c,Au c];rfl
 .have e:(sv a == !sv b)=false:=(by cases h1:sv a <;> cases h2:sv b <;> simp_all);rw[e,Aq,Vj _ _ ω ω,Ad,Lv,Kd,Ar c,Ar c];by_cases hc:nv b*dv a<=nv a*dv b
  .rw[As (show F8 (nv a*dv b) (nv b*dv a)>=0 by rw[F8,Ar ω];split <;> decide),Am,Agc _ _ ω hc,Ad,Ad,P6 _ _ _ ω ω,Au hc,Au hc];rfl
  .rw[Ay (show ¬F8 (nv a*dv b) (nv b*dv a)>=0 by rw[F8,Au ω];decide),Aq,Agc _ _ ω ω,Ad,Ad,P6 _ _ _ ω ω,Ar hc,Ar hc];rfl
theorem A9l (s:Bool) (n:Nat):sg (!s) n = - sg s n:=by unfold sg;cases s <;> simp
theorem A9m {a b:Ao} (ha:RB j a) (hb:RB k b) (hj:j<34359738000) (hk:k<34359738000):∃c,Uf a b=some c/\RB (j+k+3) c/\Hu c/\rq c=rq a-rq b:=by
 have e:=A9k a b j k ha hb ω ω;have hd:dv a*dv b≠0:=Nat.mul_ne_zero (F4 a) (F4 b);have h1:=ha.nv;have h2:=ha.dv;have h3:=hb.nv;have s:=hb.dv;have q:=Hx (nv a) (dv b);have l:=Hx (nv b) (dv a);have i:=Hx (dv a) (dv b);have h:=Aa7 (nv a*dv b) (nv b*dv a);have g:=I4 (Nat.sub_le (nv a*dv b) (nv b*dv a));have f:=I4 (Nat.sub_le (nv b*dv a) (nv a*dv b));refine⟨_,e,?_,Re _ _ _ hd,?_⟩
 .refine N5 _ _ _ _ ?_ ω ω;unfold Kd;split
  .omega
  .split <;> omega
 .rw[O1 _ _ _ hd,Auh,A9l,rq,rq,show mkRat (sg (sv a) (nv a)) (dv a)-mkRat (sg (sv b) (nv b)) (dv b)=mkRat (sg (sv a) (nv a)) (dv a)+mkRat (-sg (sv b) (nv b)) (dv b) by rw[<-Rat.neg_mkRat];grind,Rat.mkRat_add_mkRat _ _ (F4 a) (F4 b)]
theorem Ahh (z:Int):mkRat z 1=(z:Rat):=by rw[Rat.mkRat_eq_div,show ((1:Nat):Rat)=1 from rfl];grind
theorem Acj (z:Int) (h1 : -9223372036854775808<=z) (h2:z<=9223372036854775807):∃r,D0 z=some r/\RB 3 r/\Hu r/\rq r=(z:Rat):=by
 have b:Bp z.natAbs<=3:=Rb (n:=z.natAbs) ω;refine⟨_,Abp z h1 h2,N5 _ _ _ _ b (by rw[S9];decide) δ,Re _ _ _ δ,?_⟩;rw[O1 _ _ _ δ,Ahh];congr 1;unfold sg;by_cases h:z<0
 .rw[As h,Au rfl];omega
 .rw[Ay h,Ar δ];omega
theorem A9n (n:Nat) (c:n<1000000000):∃r,Qq 1 ((n+1:Nat):Int)=some r/\RB 3 r/\rq r=1 / ((n+1:Nat):Rat):=by have e:=Att 1 ((n+1:Nat):Int) δ δ ω ω ω;have b:Bp ((n+1:Nat):Int).natAbs<=3:=Rb ω;refine⟨_,e,N5 _ _ _ _ (Rb δ) b δ,?_⟩;rw[O1 _ _ _ ω,Rat.mkRat_eq_div];rw[Ay (by decide:¬(1:Int)<0),Ay (ω:¬((n+1:Nat):Int)<0)];rfl
theorem Vv (n:Nat):rq (cR n)=(n:Rat):=by unfold cR;rw[O1 _ _ _ δ,Ahh];rfl
theorem Awm (n:Nat):Hu (cR n):=Re _ _ _ δ
theorem A9o (n j:Nat):(((j+1:Nat):Int))*(bc n (j+1):Int)=((n:Int)-j)*bc n j:=by
 have h1:=Yd n (j+1);have h2:=Yd n j;have hf:=X7 j;rcases Ch n j with h|h
 .have i:=Ab6 h;have g:=Ab6 (show n<j+1 by omega);have b:=X7 (j+1);have b1:bc n j=0:=by
   rw[i]at h2;rcases Nat.mul_eq_zero.1 h2.symm with h|h
   .exact (hf h).elim
   .exact h
  have b2:bc n (j+1)=0:=by
   rw[g]at h1;rcases Nat.mul_eq_zero.1 h1.symm with h|h
   .exact (b h).elim
   .exact h
  rw[b1,b2];simp
 .rw[Ib,h2]at h1;have h3:fct j*(bc n j*(n-j))=fct j*((j+1)*bc n (j+1)):=(by rw[<-Nat.mul_assoc,h1,fct];simp only[Nat.mul_assoc]);have f:=Nat.eq_of_mul_eq_mul_left (Nat.pos_of_ne_zero hf) h3;have c:((n:Int)-j)=((n-j:Nat):Int):=ω;rw[c,<-Int.natCast_mul,<-Int.natCast_mul,<-f,Nat.mul_comm]
theorem A9p (n j:Nat):(bc n j:Rat)*(((n:Rat)-(j:Rat))*(1 / ((j+1:Nat):Rat)))=(bc n (j+1):Rat):=by
 have h:=congrArg (λz:Int=>(z:Rat)) (A9o n j);simp only[Rat.intCast_mul,Rat.intCast_sub,Rat.intCast_natCast]at h;have b:((j+1:Nat):Rat)≠0:=by have:(0:Rat)<((j+1:Nat):Rat):=Rat.natCast_pos.2 ω;grind
 generalize ((j+1:Nat):Rat)=d at *;grind
theorem Awn (a:Ao):Ao.mk a.N a.U a.B=a:=by cases a;rfl
theorem A9q {a:Ao} {z:Int} (ha:RB K a) (X:K<=100000000) (i:rq a=(z:Rat)) (k:Nat) (hk:k<=64) : ∃c,R7 a (k:Int)=some c/\Hu c/\RB (3+k*(K+20)) c/\rq c=(bc z.toNat k:Rat):=by
 unfold R7;rw[(Aby ha ω).1,Ad];obtain⟨b,n,V,U,S,R⟩:∃(b:Ao) (n:Nat),(bif decide (N6 (rq a)<(0:Int)) then ((D0 0).bind λv4=>some (v4.N,v4.U,v4.B)) else some (a.N,a.U,a.B))=some (b.N,b.U,b.B)/\RB (K+3) b/\rq b=(n:Rat)/\n=z.toNat:=by
  by_cases h:z<0
  .have l:rq a<0:=(by rw[i];exact_mod_cast h);have:N6 (rq a)<0:=(by unfold N6;rw[Au l];decide);rw[As this,Am,Ag7];exact⟨cR 0,0,rfl,(O2 (k:=1) (by rw[Aa6];decide) δ).mono ω,by rw[Vv],ω⟩
  .have l:¬rq a<0:=(by rw[i];intro h2;exact h (by exact_mod_cast h2));have:¬N6 (rq a)<0:=(by unfold N6;rw[Ar l];split <;> decide);rw[Ay this,Aq];refine⟨a,z.toNat,rfl,ha.mono ω,?_,rfl⟩;rw[i];have:z=((z.toNat:Nat):Int):=ω;exact (congrArg (λy:Int=>(y:Rat)) this).trans (Rat.intCast_natCast _)
 erw[V];rw[Ad];dsimp only;rw[Mg,Ad,<-R];refine Ee (λs=>∃(j:Nat) (P:Ao),s=((j:Int),P.N,P.U,P.B)/\j<=k/\Hu P/\RB (3+j*(K+20)) P/\rq P=(bc n j:Rat)) (λs=>k-s.1.toNat) (λe=>∃P:Ao,e=(P.N,P.U,P.B)/\Hu P/\RB (3+k*(K+20)) P/\rq P=(bc n k:Rat)) ⟨0,cR 1,rfl,ω,Awm 1,(O2 (k:=1) (by rw[S9];decide) δ).mono ω,by rw[Vv,J0]⟩ ?_ ?_
 .rintro s ⟨j,P,rfl,hj,hc,g,hv⟩;rcases Ch j k with h|h
  .obtain⟨r,G,E,_,D⟩:=Acj (j:Int) ω ω;obtain⟨d,d1,d2,d3,d4⟩:=A9m U E ω ω;obtain⟨w,A,x,u⟩:=A9n j ω;obtain⟨f,f1,f2,_,f3⟩:=Rf d2 x ω ω;have N:j*(K+20)<=64*(K+20):=Nat.mul_le_mul_right _ ω;obtain⟨q,M,L,J,I⟩:=Rf g f2 ω ω;have B:Ac ((j:Int)+1)=((j+1:Nat):Int):=C9 h ω;simp only[As (ω:(j:Int)<(k:Int)),Am,G,Ad,B,A];rw[show (Uf (Ao.mk b.N b.U b.B) r)=some d from d1,Ad,f1,Ad,show (Ec (Ao.mk P.N P.U P.B) f)=some q from M,Ad];refine .inl ⟨_,rfl,⟨j+1,q,rfl,ω,J,L.mono (by rw[Nat.add_mul];omega),?_⟩,by simp only[Int.toNat_natCast];omega⟩;rw[I,hv,f3,d4,u,S,D,Rat.intCast_natCast];exact A9p n j
  .have:j=k:=ω;subst this;exact .inr ⟨(P.N,P.U,P.B),by rw[Ay ω];rfl,P,rfl,hc,g,hv⟩
 .rintro e ⟨P,rfl,hc,g,hv⟩;exact⟨P,by rw[<-Awn P],hc,g,hv⟩
def O3 (val:Int->Az) (l:Co):Int:=l.Q+(l.T.map λt=>t.C*(val t.v).U).sum
def D6:List Nat->Nat
 | []=>1
 | a::l=>a*D6 l
theorem Awo:∀(l:List Nat) (a:Nat),D6 (l++[a])=D6 l*a
 | [],a=>by simp[D6]
 | b::l,a=>by rw[Ed,D6,D6,Awo l a,Nat.mul_assoc]
theorem Awp {f:α->Nat} {l:List α} {x:α} (h:l[j]? = some x):D6 ((l.take (j+1)).map f)=D6 ((l.take j).map f)*f x:=by rw[Da h,map_append];exact Awo _ _
def Lx (x:Cd) (val:Int->Az) (f:Bh):Nat:=match D4 x.V x.E f.v with|some t=>bv x.D f.I t (val f.v) | none=>0
def Ri (val:Int->Az) (a:Bi):Nat:=bc (O3 val a.L).toNat a.P.toNat
def O4 (x:Cd) (val:Int->Az) (m:Bj):Nat:=D6 (m.F.map (Lx x val))*D6 (m.A.map (Ri val))
def Kf (x:Cd) (val:Int->Az):List Aj->Rat
 | []=>0
 | t::p=>rq t.C*(O4 x val t.M:Rat)+Kf x val p
theorem Amt (x:Cd) (val:Int->Az):∀p q:List Aj,Kf x val (p++q)=Kf x val p+Kf x val q
 | [],q=>by simp only[nil_append,Kf];grind
 | t::p,q=>by simp only[Ed,Kf,Amt x val p q];grind
theorem A9r {val:Int->Az} (c:Int) {l:List En} {u:En} (h:l[j]? = some u):O3 val ⟨c,l.take (j+1)⟩=O3 val ⟨c,l.take j⟩+u.C*(val u.v).U:=by unfold O3;rw[Da h];simp only[map_append,sum_append,map_cons,map_nil,sum_cons,sum_nil];omega
structure Amu (x:Cd) (env:List Az) (res:Az) (m:Bj):Prop where
 fl:m.F.length<=6
 al:m.A.length<=6
 fac:∀f∈m.F,∃t,D4 x.V x.E f.v=some t/\Uc x.D t f.I (Fw env res f.v)=some (cR (Lx x (Fw env res) f),0)/\Lx x (Fw env res) f<=5000 ^ 6
 atm:∀a∈m.A,1<=a.P/\a.P<=6/\-1048576<=a.L.Q/\a.L.Q<=1048576/\a.L.T.length<=16 /\
  ∀u∈a.L.T,-1048576<=u.C/\u.C<=1048576/\∃t,D4 x.V x.E u.v=some t/\-1099511627776<=(Fw env res u.v).U/\(Fw env res u.v).U<=1099511627776
theorem A9s {E:Type} {step:Int×Bool×List Int×List Int->Option ((Int×Bool×List Int×List Int)⊕E)} {J:E->Option R} (F:List Bh) (v:Bh->Nat) (i:Ao->E) (z:F.length<=6) (hv:∀f∈F,v f<=5000 ^ 6) (l:∀(j:Nat) (f:Bh) (g c:Ao),F[j]? = some f->decide ((j:Int)<(F.length:Int))=true->Ag F (j:Int)=some f->Ac ((j:Int)+1)=((j+1:Nat):Int)->Ec g (cR (v f))=some c->step ((j:Int),g.N,g.U,g.B)=some (.inl (((j+1:Nat):Int),c.N,c.U,c.B))) (q:∀g:Ao,decide ((F.length:Int)<(F.length:Int))=false->step ((F.length:Int),g.N,g.U,g.B)=some (.inr (i g))) {a:Ao} (ha:RB K a) (y:K<=20000000) (u:∀m,RB (K+30) m->(F = []->m=a)->(F≠[]->Hu m)->rq m=rq a*(D6 (F.map v):Rat)->∃r,J (i m)=some r/\Q r):∃r,(An step (0,a.N,a.U,a.B)).bind J=some r/\Q r:=by
 refine Ee (λs=>∃(j:Nat) (g:Ao),s=((j:Int),g.N,g.U,g.B)/\j<=F.length/\RB (K+j*5) g/\(j=0->g=a)/\(0<j->Hu g)/\rq g=rq a*(D6 ((F.take j).map v):Rat)) (λs=>F.length-s.1.toNat) (λe=>∃g:Ao,e=i g/\RB (K+30) g/\(F = []->g=a)/\(F≠[]->Hu g)/\rq g=rq a*(D6 (F.map v):Rat)) ⟨0,a,rfl,ω,ha.mono ω,λ_=>rfl,λh=>ω,by simp only[take_zero,map_nil,D6];show _=_*(1:Rat);grind⟩ ?_ ?_
 .rintro s ⟨j,g,rfl,hj,hg,h0,k,b⟩;rcases Ch j F.length with h|h
  .have hx:F[j]? = some F[j]:=Bt h;generalize F[j]=f at hx;have hb:Sm (v f):=hv f (Bv hx);obtain⟨c,c1,c2,c3,c4⟩:=Rf hg (O2 hb.lg δ) ω δ;rw[l j f g c hx (As ω) (Bu rfl hx) (C9 h ω) c1];refine .inl ⟨_,rfl,⟨j+1,c,rfl,ω,c2.mono ω,λh=>ω,λ_=>c3,?_⟩,by simp only[Int.toNat_natCast];omega⟩;rw[c4,b,Vv,Awp hx,Rat.natCast_mul];grind
  .have:j=F.length:=ω;subst this;rw[Db]at b;refine .inr ⟨i g,q g (Ay ω),g,rfl,hg.mono ω,λh=>h0 (by rw[h];rfl),λh=>k (length_pos_iff.2 h),b⟩
 .rintro e ⟨g,rfl,h1,h2,h3,x⟩;exact u g h1 h2 h3 x
theorem A9t {f:List Az} (B:f.length=x.V.length) {l:Co} (Z:l.T.length<=16) (hc : -1048576<=l.Q/\l.Q<=1048576) (ht:∀u∈l.T,-1048576<=u.C/\u.C<=1048576/\∃t,D4 x.V x.E u.v=some t/\-1099511627776<=(Fw f res u.v).U/\(Fw f res u.v).U<=1099511627776) (G:∀g:Ao,RB 200 g->rq g=(O3 (Fw f res) l:Rat)->∃r,J ((l.T.length:Int),g.N,g.U,g.B)=some r/\Q r) : ∃r,((D0 l.Q).bind λv183=> (An (S:=(Int×Bool×List Int×List Int)) (E:=(Int×Bool×List Int×List Int)) (λ(i,v193,v194,q)=> bif i<(l.T.length:Int) then ((Ag l.T i).bind λv196=> (D0 v196.C).bind λv198=> (Mo v196.v res f).bind λA=> (D0 A.U).bind λz=> (Ec v198 z).bind λv201=> (Iy (Ao.mk v193 v194 q) v201).bind λk=> some (.inl ((Ac (i+1)),k.N,k.U,k.B))) else some (.inr (i,v193,v194,q))) (0,v183.N,v183.U,v183.B)).bind J)=some r/\Q r:=by
 obtain⟨a,a1,a2,a3,a4⟩:=Acj l.Q ω ω;rw[a1,Ad];refine Ee (λs=>∃(j:Nat) (g:Ao),s=((j:Int),g.N,g.U,g.B)/\j<=l.T.length/\RB (3+j*11) g/\rq g=(O3 (Fw f res) ⟨l.Q,l.T.take j⟩:Rat)) (λs=>l.T.length-s.1.toNat) (λe=>∃g:Ao,e=((l.T.length:Int),g.N,g.U,g.B)/\RB 200 g/\rq g=(O3 (Fw f res) l:Rat)) ⟨0,a,rfl,ω,a2.mono ω,by rw[a4];unfold O3;simp⟩ ?_ ?_
 .rintro s ⟨j,g,rfl,hj,hg,y⟩;rcases Ch j l.T.length with h|h
  .have hx:l.T[j]? = some l.T[j]:=Bt h;generalize l.T[j]=u at hx;obtain⟨Y,X,t,D,V,U⟩:=ht u (Bv hx);obtain⟨b,b1,b2,b3,N⟩:=Acj u.C ω ω;obtain⟨c,c1,c2,c3,c4⟩:=Acj (Fw f res u.v).U ω ω;obtain⟨d,d1,d2,d3,d4⟩:=Rf b2 c2 δ δ;obtain⟨e,M,_,L,e3,I⟩:=Vo hg d2 ω δ;simp only[As (ω:(j:Int)<(l.T.length:Int)),Am,Bu rfl hx,Ad,b1,Amg B res D,c1,d1,C9 h ω];rw[show (Iy (Ao.mk g.N g.U g.B) d)=some e from M,Ad];refine .inl ⟨_,rfl,⟨j+1,e,rfl,ω,L.mono ω,?_⟩,by simp only[Int.toNat_natCast];omega⟩;rw[I,y,d4,N,c4,A9r _ hx,Rat.intCast_add,Rat.intCast_mul]
  .have:j=l.T.length:=ω;subst this;rw[Db]at y;exact .inr ⟨((l.T.length:Int),g.N,g.U,g.B),by simp only[Ay (ω:¬(l.T.length:Int)<(l.T.length:Int)),Aq],g,rfl,hg.mono ω,y⟩
 .rintro e ⟨g,rfl,h1,h2⟩;exact G g h1 h2
theorem A9u {b:List Az} (N:b.length=x.V.length) (V:Amu x b res m) {a:Ao} (ha:RB K a) (hK:K<=20000000) (hJ:∀g:Ao,RB (K+12000) g->(m.A = []->g=a)->(m.A≠[]->Hu g)->rq g=rq a*(D6 (m.A.map (Ri (Fw b res))):Rat)->∃r,J ((m.A.length:Int),g.N,g.U,g.B)=some r/\Q r) : ∃r,(An (S:=(Int×Bool×List Int×List Int)) (E:=(Int×Bool×List Int×List Int)) (λ(k,A,z,y)=> bif k<(m.A.length:Int) then ((Ag m.A k).bind λi=> (D0 i.L.Q).bind λv183=> (An (S:=(Int×Bool×List Int×List Int)) (E:=(Int×Bool×List Int×List Int)) (λ(f,v193,v194,u)=> bif f<(i.L.T.length:Int) then ((Ag i.L.T f).bind λv196=> (D0 v196.C).bind λv198=> (Mo v196.v res b).bind λM=> (D0 M.U).bind λL=> (Ec v198 L).bind λv201=> (Iy (Ao.mk v193 v194 u) v201).bind λl=> some (.inl ((Ac (f+1)),l.N,l.U,l.B))) else some (.inr (f,v193,v194,u))) (0,v183.N,v183.U,v183.B)).bind λ(v203,I,G,v206)=> (R7 (Ao.mk I G v206) i.P).bind λD=> (Ec (Ao.mk A z y) D).bind λv208=> some (.inl ((Ac (k+1)),v208.N,v208.U,v208.B))) else some (.inr (k,A,z,y))) (0,a.N,a.U,a.B)).bind J=some r/\Q r:=by
 refine Ee (λs=>∃(j:Nat) (g:Ao),s=((j:Int),g.N,g.U,g.B)/\j<=m.A.length/\RB (K+j*2000) g/\(j=0->g=a)/\(0<j->Hu g)/\rq g=rq a*(D6 ((m.A.take j).map (Ri (Fw b res))):Rat)) (λs=>m.A.length-s.1.toNat) (λe=>∃g:Ao,e=((m.A.length:Int),g.N,g.U,g.B)/\RB (K+12000) g/\(m.A = []->g=a)/\(m.A≠[]->Hu g)/\rq g=rq a*(D6 (m.A.map (Ri (Fw b res))):Rat)) ⟨0,a,rfl,ω,ha.mono ω,λ_=>rfl,λh=>ω,by simp only[take_zero,map_nil,D6];show _=_*(1:Rat);grind⟩ ?_ ?_
 .rintro s ⟨j,g,rfl,hj,hg,h0,U,B⟩;have a1:=V.al;rcases Ch j m.A.length with h|h
  .have hx:m.A[j]? = some m.A[j]:=Bt h;generalize m.A[j]=t at hx;obtain⟨t1,t2,t3,t4,t5,t6⟩:=V.atm t (Bv hx);left;refine Xr ?_;simp only[As (ω:(j:Int)<(m.A.length:Int)),Am,Bu rfl hx,Ad,C9 h ω];refine A9t N t5 ⟨t3,t4⟩ t6 λn n1 n2=>?_;obtain⟨d,hd⟩:∃d:Nat,t.P=d:=⟨t.P.toNat,ω⟩;obtain⟨c,c1,c2,c3,c4⟩:=A9q n1 δ n2 d ω;obtain⟨q,q1,Z,Y,X⟩:=Rf hg (c3.mono (show 3+d*(200+20)<=1900 by omega)) ω δ;refine⟨.inl (((j+1:Nat):Int),q.N,q.U,q.B),?_,_,rfl,⟨j+1,q,rfl,ω,Z.mono ω,λh=>ω,λ_=>Y,?_⟩,by simp only[Int.toNat_natCast];omega⟩
   .show (R7 n t.P).bind _=_;rw[hd,c1,Ad];show (Ec g c).bind _=_;rw[q1];rfl
   .have:Ri (Fw b res) t=bc (O3 (Fw b res) t.L).toNat d:=(by unfold Ri;rw[hd,Int.toNat_natCast]);rw[X,B,c4,Awp hx,Rat.natCast_mul,this];grind
  .have:j=m.A.length:=ω;subst this;rw[Db]at B;refine .inr ⟨((m.A.length:Int),g.N,g.U,g.B),by simp only[Ay (ω:¬(m.A.length:Int)<(m.A.length:Int)),Aq],g,rfl,hg.mono ω,λh=>h0 (by rw[h];rfl),λh=>U (length_pos_iff.2 h),B⟩
 .rintro e ⟨g,rfl,h1,h2,h3,h4⟩;exact hJ g h1 h2 h3 h4
theorem A9v (x:Cd) (g:CSz x) (hf:G6 x) (i:Ai) (t:Af) (hg:G1 x.D t=true) (hi:Ca i<=1048576) (w:Az) (j:M1 x.D w t=true) (hd:Dj x.D i t=some d) (c:d<=6) : Uc x.D t i w=some (cR (bv x.D i t w),0)/\bv x.D i t w<=5000 ^ 6:=by have h:=hg;simp only[G1,C3,Dt]at h;have f:=j;unfold M1 at f;simp only[C3,Dt]at f;obtain⟨⟨_,k⟩,l⟩:=f;have d1:=Agt g.ds hf.2.1 t hg i hi;obtain⟨b,b1,q⟩:=Aud g.ds w t ω ω;have hb:b=true:=q.2 ⟨hf.2.1,j⟩;subst hb;refine⟨?_,Nat.le_trans ((Yk x.D 5000 δ _).1 i t w d (Nat.le_refl _) hd k) (Nat.pow_le_pow_right δ c)⟩;unfold Uc Wt;rw[d1,hd,Q6 c,Ad,Ad,As ω,b1];simp only[Ad,bnt,Aq];rw[A84 hf.2.1.szv g.ds.sz.short hf.2.1.cons8 (Ca i) i t w 4000000 d (Nat.le_refl _) ω ω hd c ω l k];rfl
theorem A9w (hf:G6 x) {v:Int} (h:D4 x.V x.E v=some t):G1 x.D t=true:=by
 unfold D4 at h;by_cases e:v = -1
 .rw[Au e]at h;cases h;exact hf.2.2.1
 .rw[Ar e]at h;exact G5.1 hf.2.2.2 t (Hf h).2.2.2
theorem A9x (h:Ii x m):∀v∈J1 m,∃t,D4 x.V x.E v=some t:=by
 intro v hv;unfold J1 M5 at hv;rcases Ei.1 hv with hv|hv
 .obtain⟨f,hf,rfl⟩:=mem_map.1 hv;exact (Agu h.1).1 f hf
 .obtain⟨a,ha,hv⟩:=mem_flatMap.1 hv;obtain⟨u,hu,rfl⟩:=mem_map.1 hv;have b:=h.1;unfold Jp at b;simp only[C3]at b;obtain⟨j,hj⟩:=Ht ha;have:=Jg b.1.2 hj;simp only[N4,C3,Dt]at this;have hi:=G5.1 this.1.2 u hu;unfold X2 at hi;cases ht:D4 x.V x.E u.v with| none=>rw[ht]at hi;cases hi| some t=>exact⟨t,rfl⟩
theorem A9y (U:CSz x) (hf:G6 x) {c:List Az} (h:Ii x m) (s:∀v∈J1 m,Jk x c res v=true):Amu x c res m:=by
 have hc:=h.cmo;have A:=h.1;have z:=Amd h.1 h.2;have q:=Agu h.1;unfold Jp at A;simp only[C3]at A;have G:∀f∈m.F,Jk x c res f.v=true:=λf g=>s _ (by unfold J1;exact Ei.2 (.inl (mem_map.2 ⟨f,g,rfl⟩)));refine⟨q.2,?_,λf g=>?_,λa ha=>?_⟩
 .obtain⟨_,_,h3,_⟩:=z;first|exact h3|omega
 .obtain⟨t,ht⟩:=q.1 f g;obtain⟨j,hj⟩:=Ht g;have k:=Jg A.1.1 hj;simp only[P5,C3,Dt]at k;have h1:=k.1;unfold Eh at h1;rw[ht]at h1;have h1:1<=Jo (Dj x.D f.I t):=h1;have V:M1 x.D (Fw c res f.v) t=true:=(by have:=G f g;unfold Jk at this;rw[ht]at this;exact this);rcases Ak6 (Dj x.D f.I t) with⟨h2,_⟩|⟨d,h2,h3,_⟩
  .rw[h2]at h1;omega
  .obtain⟨g1,g2⟩:=A9v x U hf f.I t (A9w hf ht) (h.2.fi f g) _ V h2 h3;have E:Lx x (Fw c res) f=bv x.D f.I t (Fw c res f.v):=(by unfold Lx;rw[ht]);rw[E];exact⟨t,ht,g1,g2⟩
 .obtain⟨j,hj⟩:=Ht ha;have k:=Jg A.1.2 hj;simp only[N4,C3,Dt]at k;obtain⟨⟨⟨⟨S,B⟩,_⟩,R⟩,_⟩:=k;have N:a.P<=6:=(by obtain⟨_,_,_,X⟩:=z;exact (X a ha).2.2.2);unfold Ip at B;simp only[C3,Dt]at B;obtain⟨⟨M,L,J⟩,I⟩:=B;refine⟨S,N,M,L,J,λu hu=>?_⟩;obtain⟨i,hi⟩:=Ht hu;have y:=Jg I hi;simp only[Abl,C3,Dt]at y;obtain⟨⟨_,_,_,c1,c2⟩,_⟩:=y;have l:=G5.1 R u hu;unfold X2 at l;have b:Jk x c res u.v=true:=s _ (by unfold J1 M5;exact Ei.2 (.inr (mem_flatMap.2 ⟨a,ha,mem_map.2 ⟨u,hu,rfl⟩⟩)));cases ht:D4 x.V x.E u.v with| none=>rw[ht]at l;cases l| some t=>rw[ht]at l;have D:t.G=1:=eq_of_beq l;unfold Jk at b;rw[ht]at b;have b:M1 x.D (Fw c res u.v) t=true:=b;unfold M1 at b;rw[Td,Au D]at b;simp only[C3,Dt]at b;exact⟨c1,c2,t,rfl,b.2.1.1.2,b.2.1.2⟩
theorem A9z (c:CSz x) (hf:G6 x) (w:Az) (t:Af) (hw:Di w<=1048576) (ht:Bz t<=200):Ql x.D w t=some (M1 x.D w t):=by obtain⟨b,b1,f⟩:=Aud c.ds w t ω ω;rw[b1];congr 1;rw[Bool.eq_iff_iff,f];exact⟨λh=>h.2,λh=>⟨hf.2.1,h⟩⟩
theorem A90 (x:Cd) (q:CSz x) (hf:G6 x) (b:List Az) (res:Az) (l:b.length=x.V.length) (k:∀v∈b,Di v<=1048576) (f:Di res<=1048576) (V:List Int) (u:V.length<=1000000) (i:∀v∈V,∃t,D4 x.V x.E v=some t) (b1:List (ByteArray×Int)) (b2:List (ByteArray×List Av)) : An (S:=Int) (E:=((Ao×Int)⊕Unit)) (λv17=> bif v17<(V.length:Int) then ((Ag V v17).bind λc=> (Mo c res b).bind λg=> (L2 c b1 b2 x.D x.V x.E.G x.E.U x.E.R).bind λv20=> (Ql x.D g v20).bind λv21=> bif (!v21) then some (.inr (.inl ((Ao.mk false [] []),11))) else some (.inl (Ac (v17+1)))) else some (.inr (.inr ()))) 0=some (bif V.all (Jk x b res) then .inr () else .inl (⟨false,[],[]⟩,11)):=by
 rw[<-Option.bind_fun_some (An _ _)];refine Aa9 V (Jk x b res) (λj=>(j:Int)) rfl ω ?_ ?_
 .intro j v hv h1 h2 h3;obtain⟨t,ht⟩:=i v (Bv hv);have s:=(hf.ctx q).sz v t ht;have hb:Jk x b res v=M1 x.D (Fw b res v) t:=(by unfold Jk;rw[ht]);simp only[h1,h2,h3,Am,Ad,Amg l res ht,Aga (ht:=ht),A9z q hf (Fw b res v) t (A8f k f v) ω,hb];cases M1 x.D (Fw b res v) t with| true=>exact⟨λ_=>rfl,λh=>by cases h⟩| false=>exact⟨nofun,λ_=>⟨_,rfl,rfl⟩⟩
 .intro h;exact⟨.inr (),by simp only[h];rfl,rfl⟩
theorem A91 (hp:∀t∈p,Ii x t.M) (D:p.length<=1000):(Gk p).length<=102000:=by
 have key:∀q:List Aj,(∀t∈q,Ii x t.M)->(Gk q).length<=102*q.length:=by
  intro q;induction q with
  | nil=>intro _;simp[Gk]
  | cons t q ih=>intro h;have h1:=ih (λu hu=>h u (by simp[hu]));have hc:=h t ψ;have f:=hc.1;have z:=(Agu f).2;have s:=Amd hc.1 hc.2;have B:t.M.A.length<=6:=(by obtain⟨_,_,h3,_⟩:=s;first|exact h3|omega);unfold Jp at f;simp only[C3]at f;have b:∀a∈t.M.A,a.L.T.length<=16:=(by intro a ha;obtain⟨j,hj⟩:=Ht ha;have c:=Jg f.1.2 hj;simp only[N4,C3,Dt]at c;have i:=c.1.1.1.2;unfold Ip at i;simp only[C3,Dt]at i;exact i.1.2.2);have h2:∀A:List Bi,(∀a∈A,a.L.T.length<=16)->(M5 A).length<=16*A.length:=(by intro A;induction A with| nil=>intro _;simp[M5]| cons a A k=>intro g;have g1:=k (λu hu=>g u (by simp[hu]));have g2:=g a ψ;unfold M5 at *;simp only[flatMap_cons,E5,C6,D8];omega);have h3:=h2 t.M.A b;have y:Gk (t::q)=J1 t.M++Gk q:=(by simp[Gk]);have l:(J1 t.M).length=t.M.F.length+(M5 t.M.A).length:=(by unfold J1;simp);rw[y,E5,D8,l];omega
 have:=key p hp;omega
structure Ym (x:Cd) (p:List Aj) (env:List Az) (res:Az) (u:Ao):Prop where
 can:Hu u
 rb:RB 2000000000 u
 val:rq u=Kf x (Fw env res) p
theorem Awq (x:Cd) (L:CSz x) (p:List Aj) (hp:∀t∈p,TSz t) (b:List Az) (res:Az) (a6:∀v∈b,Di v<=1048576) (G:Di res<=1048576) : ∃r,Nl x p b res=some r/\((¬(G6 x/\Hy x.D x.V x.E p=true)/\r=(⟨false,[],[]⟩,1))\/((G6 x/\Hy x.D x.V x.E p=true) /\ ((b.length≠x.V.length/\r=(⟨false,[],[]⟩,5))\/(b.length=x.V.length/\((¬(∀v∈Gk p,Jk x b res v=true)/\r=(⟨false,[],[]⟩,11))\/((∀v∈Gk p,Jk x b res v=true)/\∃u,r=(u,0)/\Ym x p b res u)))))):=by
 by_cases hv:G6 x/\Hy x.D x.V x.E p=true
 .have hf:=hv.1;have M:Ho x p:=⟨hv.2,hp⟩;obtain⟨b',hb,_⟩:=Av8 L (ps:=[p]) (λq hq=>by simp only[Et]at hq;subst hq;exact hp) ψ ⟨hv.1,λq hq=>by simp only[Et]at hq;subst hq;exact hv.2⟩;have hl:=(Abz.1 hv.2).1;have a8:=A91 M.mo hl;have a7:∀t∈p,t.M.A.length<=1000000:=λt ht=>by obtain⟨_,_,h3,_⟩:=(M.mo t ht).cmo;omega
  obtain⟨V,v1,v2,v3,v4⟩:=A8r p ω a7 ω;unfold Nl;rw[hb];simp only[Ad,bnt,Aq];by_cases l:b.length=x.V.length
  .rw[H9 ω,Aq,v1,Ad];have S:∀v∈V,∃t,D4 x.V x.E v=some t:=λv R=>by have:=(v4 v).1 R;unfold Gk at this;obtain⟨t,ht,D⟩:=mem_flatMap.1 this;exact A9x (M.mo t ht) v D
   rw[A90 x L hf b res l a6 G V v3 S b' [],Ad];cases y:V.all (Jk x b res) with
   | false=>refine⟨_,rfl,.inr ⟨hv,.inr ⟨l,.inl ⟨λh=>?_,rfl⟩⟩⟩⟩;rw[all_eq_false]at y;obtain⟨v,h1,h2⟩:=y;exact h2 (h v ((v4 v).1 h1))
   | true=>
    have A:∀v∈Gk p,Jk x b res v=true:=λv h=>G5.1 y v ((v4 v).2 h);have U:∀t∈p,Amu x b res t.M:=λt ht=>A9y L hf (M.mo t ht) λv h=>A v (mem_flatMap.2 ⟨t,ht,h⟩);have wrap:∀{X:Option (Ao×Int)},(∃r,X=some r/\∃u,r=(u,0)/\Ym x p b res u)->∃r,X=some r/\((¬(G6 x/\Hy x.D x.V x.E p=true)/\r=(⟨false,[],[]⟩,1))\/((G6 x/\Hy x.D x.V x.E p=true) /\
      ((b.length≠x.V.length/\r=(⟨false,[],[]⟩,5))\/(b.length=x.V.length/\((¬(∀v∈Gk p,Jk x b res v=true)/\r=(⟨false,[],[]⟩,11))\/((∀v∈Gk p,Jk x b res v=true)/\∃u,r=(u,0)/\Ym x p b res u)))))):=by rintro X ⟨r,h1,h2⟩;exact⟨r,h1,.inr ⟨hv,.inr ⟨l,.inr ⟨A,h2⟩⟩⟩⟩
    refine wrap ?_;simp only[Am,Ag7,Ad];refine Ee (λs=>∃(j:Nat) (g:Ao),s=((j:Int),g.N,g.U,g.B)/\j<=p.length/\RB (1+j*1070000) g/\Hu g/\rq g=Kf x (Fw b res) (p.take j)) (λs=>p.length-s.1.toNat) (λz=>∃g:Ao,z = .inr (g.N,g.U,g.B)/\Ym x p b res g) ⟨0,cR 0,rfl,ω,(O2 (k:=1) (by rw[Aa6];decide) δ).mono ω,Awm 0,by rw[Vv];rfl⟩ ?_ ?_
    .rintro s ⟨j,g,rfl,hj,hg,Y,B⟩;rcases Ch j p.length with h|h
     .have hx:p[j]? = some p[j]:=Bt h;generalize p[j]=t at hx;have E:=Bv hx;have D:=U t E;left;refine Xr ?_;simp only[As (ω:(j:Int)<(p.length:Int)),Am,Bu rfl hx,Ad,C9 h ω];refine A9s t.M.F (Lx x (Fw b res)) (λc=>.inr ((t.M.F.length:Int),c.N,c.U,c.B)) D.fl (λf Z=>by obtain⟨_,_,_,h⟩:=D.fac f Z;exact h) ?_ ?_ (hp t E).co δ λm1 r1 _ _ q1=>?_
      .intro i f c c' a1 N k2 k3 I;obtain⟨ty,t1,t2,_⟩:=D.fac f (Bv a1);simp only[N,k2,k3,Am,Ad,Aga (ht:=t1),Amg l res t1,t2,bne_self_eq_false,Aq];show (Ec c (cR (Lx x (Fw b res) f))).bind _=_;rw[I];rfl
      .intro c N;simp only[N,Aq]
      .dsimp only;refine A9u l D r1 δ λm2 r2 _ _ q2=>?_;obtain⟨c,c1,_,c2,c3,c4⟩:=Vo hg r2 ω δ;refine⟨.inl (((j+1:Nat):Int),c.N,c.U,c.B),?_,_,rfl,⟨j+1,c,rfl,ω,c2.mono ω,c3,?_⟩,by simp only[Int.toNat_natCast];omega⟩
       .show (Iy g m2).bind _=_;rw[c1];rfl
       .rw[c4,B,q2,q1,Da hx,Amt];show _=_+(rq t.C*(O4 x (Fw b res) t.M:Rat)+0);unfold O4;rw[Rat.natCast_mul];grind
     .have:j=p.length:=ω;subst this;rw[Db]at B;exact .inr ⟨.inr (g.N,g.U,g.B),by simp only[Ay (ω:¬(p.length:Int)<(p.length:Int)),Aq],g,rfl,Y,hg.mono ω,B⟩
    .rintro z ⟨g,rfl,hE⟩;exact⟨(g,0),by rw[<-Awn g],g,rfl,hE⟩
  .rw[Gx ω,Am];exact⟨_,rfl,.inr ⟨hv,.inl ⟨l,rfl⟩⟩⟩
 .have J:¬(G6 x/\∀r∈[p],Hy x.D x.V x.E r=true):=λh=>hv ⟨h.1,h.2 p ψ⟩;have he:=Ami L (ps:=[p]) (λr hr=>by simp only[Et]at hr;subst hr;exact hp) ψ J;refine⟨_,?_,.inl ⟨hv,rfl⟩⟩;unfold Nl;rw[he];rfl
open Classical in
noncomputable def cfW:List (Rat×Bj)->Bj->Rat
 | [],_=>0
 | t::l,m=>(if t.2=m then t.1 else 0)+cfW l m
def Jl (v:Bj->Nat):List (Rat×Bj)->Rat
 | []=>0
 | t::l=>t.1*(v t.2:Rat)+Jl v l
open Classical in
noncomputable def Tl (l:List (Rat×Bj)) (m:Bj):List (Rat×Bj):=l.filter λt=>decide (t.2≠m)
open Classical in
theorem Awr (v:Bj->Nat) (m:Bj):∀l:List (Rat×Bj),Jl v l=cfW l m*(v m:Rat)+Jl v (Tl l m)
 | []=>by simp only[Jl,cfW,Tl,filter_nil];grind
 | t::l=>by
  have ih:=Awr v m l;unfold Tl at *;simp only[Jl,cfW];by_cases e:t.2=m
  .rw[Au e,filter_cons_of_neg (by simp[e]),ih,e];grind
  .rw[Ar e,filter_cons_of_pos (by simp[e])];simp only[Jl];rw[ih];grind
open Classical in
theorem Aws (m:Bj):∀(l:List (Rat×Bj)) (m':Bj),cfW (Tl l m) m'=if m'=m then 0 else cfW l m'
 | [],m'=>by simp[Tl,cfW]
 | t::l,m'=>by
  have ih:=Aws m l m';unfold Tl at *;by_cases e:t.2=m
  .rw[filter_cons_of_neg (by simp[e]),ih];by_cases e2:m'=m
   .rw[Au e2,Au e2]
   .rw[Ar e2,Ar e2];simp only[cfW];rw[Ar (by rw[e];exact λh=>e2 h.symm)];grind
  .rw[filter_cons_of_pos (by simp[e])];simp only[cfW];rw[ih];by_cases e2:m'=m
   .rw[Au e2,Au e2,Ar (by rw[e2];exact e)];grind
   .rw[Ar e2,Ar e2]
open Classical in
theorem Awt (v:Bj->Nat):∀(n:Nat) (l:List (Rat×Bj)),l.length<=n->(∀m,0<=cfW l m)->0<=Jl v l:=by
 intro n;induction n with
 | zero=>intro l hl _;have:l = []:=Fu.1 ω;subst this;exact Rat.le_refl
 | succ n ih=>
  intro l hl h;cases l with
  | nil=>exact Rat.le_refl
  | cons t l=>
   rw[Awr v t.2 (t::l)];have h1:0<=Jl v (Tl (t::l) t.2):=by
    refine ih _ ?_ λm=>?_
    .unfold Tl;rw[filter_cons_of_neg ψ];have:=length_filter_le (λu:Rat×Bj=>decide (u.2≠t.2)) l;simp only[D8]at hl;omega
    .rw[Aws];split
     .exact Rat.le_refl
     .exact h m
   have h2:=Rat.mul_nonneg (h t.2) (Rat.natCast_nonneg (a:=v t.2));grind
def wT (t:Aj):Rat×Bj:=(rq t.C,t.M)
def nT (t:Aj):Rat×Bj:=(- rq t.C,t.M)
theorem Awu (p:List Aj) (m:Bj):cfW (p.map wT) m=cf p m:=by induction p with| nil=>rfl| cons t p ih=>simp only[map_cons,cfW,ih,Tf,wT]
theorem Awv (p:List Aj) (m:Bj):cfW (p.map nT) m = - cf p m:=by induction p with| nil=>show (0:Rat) = - 0;grind| cons t p ih=>simp only[map_cons,cfW,ih,Tf,nT];split <;> grind
theorem Aww (l k:List (Rat×Bj)) (m:Bj):cfW (l++k) m=cfW l m+cfW k m:=by induction l with| nil=>simp only[nil_append,cfW];grind| cons t l ih=>simp only[Ed,cfW,ih];grind
theorem Awx (v:Bj->Nat) (l k:List (Rat×Bj)):Jl v (l++k)=Jl v l+Jl v k:=by induction l with| nil=>simp only[nil_append,Jl];grind| cons t l ih=>simp only[Ed,Jl,ih];grind
theorem A92 (x:Cd) (val:Int->Az) (p:List Aj):Jl (O4 x val) (p.map wT)=Kf x val p:=by induction p with| nil=>rfl| cons t p ih=>simp only[map_cons,Jl,Kf,ih,wT]
theorem A93 (x:Cd) (val:Int->Az) (p:List Aj):Jl (O4 x val) (p.map nT) = - Kf x val p:=by induction p with| nil=>show (0:Rat) = - 0;grind| cons t p ih=>simp only[map_cons,Jl,Kf,ih,nT];grind
theorem Awy {val:Int->Az} (h:∀m,cf q m<=cf p m):Kf x val q<=Kf x val p:=by have:=Awt (O4 x val) _ (p.map wT++q.map nT) (Nat.le_refl _) (λm=>by rw[Aww,Awu,Awv];have:=h m;grind);rw[Awx,A92,A93]at this;grind
theorem A94 {val:Int->Az} (h:∀m,cf q m=cf p m):Kf x val q=Kf x val p := Rat.le_antisymm (Awy λm=>by rw[h m];exact Rat.le_refl) (Awy λm=>by rw[h m];exact Rat.le_refl)
theorem Awz:∀(k:Nat) (t:Az) (a:Int),Di t<=k->k<1099511627776->∃r,Sc k t a=some r/\True:=by
 intro k;induction k with
 | zero=>intro i a h;have:=Me i;omega
 | succ k ih=>
  intro i a h hk;have f:=Me i;have g:=Vm i.K;rw[Sc];refine Py ⟨_,rfl,trivial⟩ ?_;refine Ee (λ(v,_)=>∃j:Nat,v=j/\j<=i.K.length) (λ(v,_)=>i.K.length-v.toNat) (λ_=>True) ⟨0,rfl,ω⟩ ?_ ?_
  .rintro⟨v,b⟩ ⟨j,rfl,hj⟩;rcases Ch j i.K.length with h'|h'
   .have hx:i.K[j]? = some i.K[j]:=Bt h';generalize i.K[j]=x at hx;have l:=M0 (Bv hx);obtain⟨⟨y,z⟩,c,_⟩:=ih x b ω ω;simp only[As (ω:(j:Int)<(i.K.length:Int)),Am,Bu rfl hx,Ad,c,C9 h' ω];cases y with| false=>exact .inr ⟨_,rfl,trivial⟩| true=>exact .inl ⟨_,rfl,⟨j+1,rfl,ω⟩,by simp only[Int.toNat_natCast];omega⟩
   .have:j=i.K.length:=ω;subst this;exact .inr ⟨.inr b,ψ,trivial⟩
  .rintro (⟨x,y⟩|e) _
   .exact⟨_,rfl,trivial⟩
   .exact⟨_,rfl,trivial⟩
theorem A95 (l:List Az) (n:Int) (g:l.length<=1048576) (h:∀t∈l,Di t<=1048576):∃b,Zg l n=some b/\True:=by
 unfold Zg;refine Ee (λs=>∃j:Nat,s.1=j/\j<=l.length) (λs=>l.length-s.1.toNat) (λ_=>True) ⟨0,rfl,ω⟩ ?_ ?_
 .rintro⟨_,w⟩ ⟨j,rfl,hj⟩;rcases Ch j l.length with h'|h'
  .have hx:l[j]? = some l[j]:=Bt h';generalize l[j]=x at hx;obtain⟨⟨c,f⟩,hb,_⟩:=Awz 4000000 x w (by have:=h x (Bv hx);omega) ω;simp only[As (ω:(j:Int)<(l.length:Int)),Am,Bu rfl hx,Ad,hb,C9 h' ω];cases decide ((j:Int)<=n) with
   | false=>exact .inr ⟨_,rfl,trivial⟩
   | true=>cases c with| false=>exact .inr ⟨_,rfl,trivial⟩| true=>exact .inl ⟨_,rfl,⟨j+1,rfl,ω⟩,by simp only[Int.toNat_natCast];omega⟩
  .simp only[Ay (ω:¬(j:Int)<(l.length:Int)),Aq];exact .inr ⟨_,rfl,trivial⟩
 .rintro (r|r) _
  .exact⟨_,rfl,trivial⟩
  .exact⟨_,rfl,trivial⟩
theorem A96:∀(k:Nat) (v:Az),Di v<=k->k<1099511627776->∃r,Ub k v=some r/\True:=by
 intro k;induction k with
 | zero=>intro v h _;have:=Ya v;omega
 | succ k ih=>
  intro v h hk;have hv:=Me v;have g:=Vm v.K;rw[Ub];refine Ee (λs=>∃j:Nat,s.2=j/\j<=v.K.length) (λs=>v.K.length-s.2.toNat) (λ_=>True) ⟨0,rfl,ω⟩ ?_ (λe _=>⟨e,rfl,trivial⟩);rintro⟨c,_⟩ ⟨j,rfl,hj⟩;rcases Ch j v.K.length with h'|h'
  .have f:=M0 (getElem_mem h');obtain⟨r,b,_⟩:=ih v.K[j] ω ω;simp only[As (ω:(j:Int)<(v.K.length:Int)),Am,Ek rfl h',Ad,b,C9 h' ω];exact .inl ⟨_,rfl,⟨j+1,rfl,ω⟩,ζ⟩
  .simp only[Ay (ω:¬(j:Int)<(v.K.length:Int)),Aq];exact .inr ⟨_,rfl,trivial⟩
theorem A97 (c:List Az) (res:Az) (g:c.length<=1048576) (f:∀v∈c,Di v<=1048576) (h:Di res<=1048576):∃b,Zd c res=some b:=by
 unfold Zd;obtain⟨a,ha,_⟩:=A95 c 40 g f;obtain⟨r,i,_⟩:=Awz 4000000 res 400 ω ω;obtain⟨n,j,_⟩:=A96 4000000 res ω ω;have hb:Zh res=some r.1:=by unfold Zh;rw[i];rfl
 rw[ha,hb,j];cases a with| false=>exact⟨_,rfl⟩| true=>cases r.1 <;> exact⟨_,rfl⟩
noncomputable def Ahi (g:List Aj) (l:Co) (p:List Ao):Int×List Aj->Option ((Int×List Aj)⊕(Int×List Aj)):=λ(v173,b)=> bif v173<(p.length:Int) then ((Ag p v173).bind λv175=> (Ik v175).bind λc=> bif (c==(0:Int)) then (some (.inl ((Ac (v173+1)),b))) else ((An (Aci g l v173 v175) (0,b)).bind λ(h,f)=> some (.inl ((Ac (v173+1)),f)))) else (some (.inr (v173,b)))
def Pw (l:Co) (N:Nat) (f:Nat->Nat) (g:List Bi):Prop:=(l.T.length≠0/\PwN g N f)\/(l.T.length=0/\N=0/\f 0=prb l.Q.toNat g)
abbrev Grp:=Co×Nat×(Nat->Nat)
inductive Gs:List Grp->List Bi->Prop
 | nil:Gs [] []
 | cons {l:Co} {N:Nat} {f:Nat->Nat} {g rest:List Bi} {gs:List Grp}:g≠[]->(∀a∈g,a.L=l)->(∀a∈rest,Im l a.L<0)->Pw l N f g->Gs gs rest->Gs ((l,N,f)::gs) (g++rest)
def N8 (B:List Ent):List Grp->List Ent
 | []=>B
 | q::gs=>N8 (I1 B q.1 q.2.2 (q.2.1+1)) gs
structure Atk (A:List Bi):Prop where
 deg:∀a∈A,0<=a.P
 lin:∀a∈A,Ip a.L=true
 sum:Dm A<=12
 len:A.length<=12
theorem Ahj {a:Co} (h:Ip a=true):a.T.length<=16/\-1048576<=a.Q/\a.Q<=1048576:=by unfold Ip at h;simp only[C3,Dt]at h;exact⟨h.1.2.2,h.1.1,h.1.2.1⟩
theorem Atk.sub (h:Atk (A++B)):Atk A/\Atk B:=by have h1:=h.sum;have h2:=h.len;rw[Tk]at h1;rw[E5]at h2;exact⟨⟨λa ha=>h.deg a (by simp[ha]),λa ha=>h.lin a (by simp[ha]),ω,ω⟩,⟨λa ha=>h.deg a (by simp[ha]),λa ha=>h.lin a (by simp[ha]),ω,ω⟩⟩
theorem A98 {l:Co} {g:List Bi} (hk:Atk g) (b:g≠[]) (hg:∀a∈g,a.L=l):∃N f,Oq g=some (Ls (N+1) f)/\Pw l N f g/\N<=Dm g/\∀k,k<N+1->f k<Fa:=by
 have q:=hk.len;have j:=hk.sum;obtain⟨a,ha⟩:∃a,a∈g:=by cases g with| nil=>exact (b rfl).elim| cons a _=>exact⟨a,ψ⟩
 have c:=hk.lin a ha;rw[hg a ha]at c;have hc:=(Ahj c).2.2;by_cases h:l.T.length=0
 .have h1:=A9d g hc (λa ha=>by rw[hg a ha];exact⟨h,rfl⟩) hk.deg hk.sum ω;exact⟨0,λ_=>prb l.Q.toNat g,h1,.inr ⟨h,rfl,rfl⟩,ω,λk _=>Yl ω j⟩
 .obtain⟨N,f,h1,h2⟩:=A9b g b (λa ha=>by rw[hg a ha];exact h) hk.deg hk.sum ω;refine⟨N,f,h1,.inl ⟨h,h2⟩,by rw[h2.1];exact Nat.le_refl _,λk i=>Nat.lt_of_le_of_lt (h2.le i) (Yl ?_ j)⟩;have:=h2.1;omega
noncomputable def Ahk (r:List Bi) (l:Co):Int->Option (Int⊕Int):=λb=> bif b<(r.length:Int) then ((Ag r b).bind λv117=> (Nq v117.L l).bind λc=> bif (c==(0:Int)) then (some (.inl (Ac (b+1)))) else (some (.inr b))) else (some (.inr b))
theorem A99 {r:List Bi} {a:Bi} (h0:r[0]? = some a) (ht:∀b∈r,b.L.T.length<1099511627776) (u:r.length<=1000) :
  ∃n:Nat,An (Ahk r a.L) 1=some (n:Int)/\1<=n/\n<=r.length/\(∀b∈r.take n,b.L=a.L)/\∀b,r[n]? = some b->b.L≠a.L:=by
 have hpos:=Eg h0
 obtain⟨e,q,n,l,k⟩:=Li (step:=Ahk r a.L) (λs=>∃n:Nat,s=(n:Int)/\1<=n/\n<=r.length/\∀b∈r.take n,b.L=a.L) (λs=>r.length-s.toNat)
  (λe=>∃n:Nat,e=(n:Int)/\1<=n/\n<=r.length/\(∀b∈r.take n,b.L=a.L)/\∀b,r[n]? = some b->b.L≠a.L) (by
  rintro _ ⟨j,rfl,g,f,c⟩
  unfold Ahk
  rcases Ch j r.length with h|h
  .have hx:r[j]? = some r[j]:=Bt h
   have i:=getElem_mem h
   generalize r[j]=b at hx i
   simp only[As (ω:(j:Int)<(r.length:Int)),Am,Bu rfl hx,Ad,Af9 _ _ (ht b i),C9 h ω]
   by_cases hc:b.L=a.L
   .left
    rw[Ew ((M2.zero _ _ trivial trivial).2 hc)]
    refine⟨_,rfl,⟨j+1,rfl,ω,ω,λd hd=>?_⟩,ω⟩
    rw[Da hx]at hd
    rcases Ei.1 hd with hd|hd
    .exact c d hd
    .simp only[Et]at hd
     rw[hd];exact hc
   .right
    rw[C7 (λh=>hc ((M2.zero _ _ trivial trivial).1 h))]
    exact⟨_,rfl,j,rfl,g,f,c,λd hd=>by rw[hx]at hd;cases hd;exact hc⟩
  .right
   refine⟨_,by simp only[Ay (ω:¬(j:Int)<(r.length:Int)),Aq],j,rfl,g,f,c,λd hd=>?_⟩
   have:=Eg hd
   omega) 1 ⟨1,rfl,ω,ω,λb hb=>by
    cases r with
    | nil=>simp at hpos
    | cons x r=>simp at hb h0;rw[hb,h0]⟩
 exact⟨n,by rw[<-l];exact q,k⟩
noncomputable def Ack:(List Aj×List Bi)->Option ((List Aj×List Bi)⊕List Aj):=λ(g,b)=> bif (b.length:Int)>(0:Int) then ((Ag b 0).bind λf=> (An (Ahk b f.L) 1).bind λc=> (E2 b 0 c).bind λi=> (Oq i).bind λh=> (An (Ahi g f.L h) (0,[])).bind λ(k,j)=> (E2 b c b.length).bind λv201=> some (.inl (j,v201))) else (some (.inr g))
theorem Baa (n:Nat):n+1<=2 ^ n:=by induction n with| zero=>decide| succ n ih=>rw[Nat.pow_succ];omega
theorem Bab {B:List Ent} {l:Co} {f:Nat->Nat} {M:Nat} (c:∀b∈B,b.1.length<=M):∀b∈I1 B l f n,b.1.length<=M+1:=by
 intro b hb;unfold I1 at hb;rw[mem_flatMap]at hb;obtain⟨k,_,hk⟩:=hb;split at hk
 .cases hk
 .rw[mem_map]at hk;obtain⟨d,hd,rfl⟩:=hk;have:=c d hd;have:=Awk l k;simp only[E5];omega
theorem Yn (k:t.G=6) (h:Dj data i t=some d):Cy data i.K t.R=some d:=by
 rw[Mw,Au k]at h;by_cases e:i.U=0
 .rw[Au e]at h;exact h
 .rw[Ar e]at h;cases h
theorem Ahl (k:t.G=7) (h:Dj data i t=some d):(0<=i.U/\i.U<=6/\i.K.length=0)/\i.U.toNat=d:=by
 rw[Mw,Ar ω,Au k]at h;by_cases e:0<=i.U/\i.U<=6/\i.K.length=0
 .rw[Au e]at h;exact⟨e,Eo h⟩
 .rw[Ar e]at h;cases h
theorem Yo (k:t.G=5) (h:Dj data i t=some d):Fv data i.K t=some d:=by
 rw[Mw,Ar ω,Ar ω,Au k]at h;by_cases e:i.U=0
 .rw[Au e]at h;exact h
 .rw[Ar e]at h;cases h
def pv {α:Type} (f:α->Nat):List (α×Nat)->Nat
 | []=>0
 | p::l=>p.2*f p.1+pv f l
theorem Kg (f:α->Nat) (l m:List (α×Nat)):pv f (l++m)=pv f l+pv f m:=by induction l with| nil=>simp[pv]| cons p l ih=>simp only[Ed,pv,ih];omega
theorem Yp (f:α->Nat) (g:β->α) (l:List (β×Nat)):pv f (l.map λp=>(g p.1,p.2))=pv (λx=>f (g x)) l:=by induction l with| nil=>rfl| cons p l ih=>simp only[map_cons,pv,ih]
theorem Rj {f:α->Nat} {l:List (α×Nat)} (h:∀p∈l,f p.1=g p.1):pv f l=pv g l:=by induction l with| nil=>rfl| cons p l ih=>simp only[pv,h p ψ,ih λq hq=>h q (by simp[hq])]
theorem O5 (c:Nat) (f:α->Nat) (l:List (α×Nat)):pv (λx=>c*f x) l=c*pv f l:=by induction l with| nil=>rfl| cons p l ih=>simp only[pv,ih,Nat.mul_add];rw[Nat.mul_left_comm]
theorem Acl (f:β->Nat) (g:α×Nat->List (β×Nat)) (h:α->Nat) (l:List (α×Nat)) (hg:∀p∈l,pv f (g p)=p.2*h p.1):pv f (l.flatMap g)=pv h l:=by induction l with| nil=>rfl| cons p l ih=>rw[flatMap_cons,Kg,hg p ψ,ih λq hq=>hg q (by simp[hq]),pv]
theorem Bac {f:α->Nat} {l:List (α×Nat)} (h:∀p∈l,f p.1<=g p.1):pv f l<=pv g l:=by induction l with| nil=>exact Nat.le_refl _| cons p l ih=>have h1:=Nat.mul_le_mul_left p.2 (h p ψ);have h2:=ih λq hq=>h q (by simp[hq]);simp only[pv];omega
def Fb (h:Ai) (c:Nat) (l:List (List Ai×Nat)):List (List Ai×Nat):=l.map λr=>(h::r.1,c*r.2)
def Ez (b:Af->Ai->Ai->List (Ai×Nat)):List Af->List Ai->List Ai->List (List Ai×Nat)
 | t::ts,i::is,j::c=>(b t i j).flatMap λw=>Fb w.1 w.2 (Ez b ts is c)
 | _,_,_=>[([],1)]
def Aw0 (row:Ai->Ai->List (Ai×Nat)) (a:Ai) (l:List Ai) (M:List Ai->List (List Ai×Nat)):List Ai->List (List Ai×Nat)
 | []=>[(a::l,1)]
 | b::m=>Fb a 1 (M (b::m))++(Fb b 1 (Aw0 row a l M m)++(row a b).flatMap λw=>Fb w.1 w.2 (M m))
def Kh (row:Ai->Ai->List (Ai×Nat)):List Ai->List Ai->List (List Ai×Nat)
 | []=>λm=>[(m,1)]
 | a::l=>Aw0 row a l (Kh row l)
theorem Acm (row:Ai->Ai->List (Ai×Nat)) (m:List Ai):Kh row [] m = [(m,1)]:=rfl
theorem Ahm (row:Ai->Ai->List (Ai×Nat)) (a:Ai) (l:List Ai):Kh row (a::l) [] = [(a::l,1)]:=rfl
theorem Acn (row:Ai->Ai->List (Ai×Nat)) (a b:Ai) (l m:List Ai):Kh row (a::l) (b::m)=Fb a 1 (Kh row l (b::m))++(Fb b 1 (Kh row (a::l) m)++(row a b).flatMap λw=>Fb w.1 w.2 (Kh row l m)):=rfl
def J4 (data:List Ak) (t:Af) (rows:List Af->List Ai->List Ai->List (List Ai×Nat)) (a b:Ai):List (Ai×Nat) := if a.U=b.U then (rows (J3 data t a.U) a.K b.K).map λr=>(⟨a.U,r.1⟩,r.2) else []
def Yq (a b:Nat):List (Ai×Nat):=((range (a+b+1)).filter λk=>Rc a b k != 0).map λ(k:Nat)=>(⟨(k:Int),[]⟩,Rc a b k)
def D5 (data:List Ak):Nat->Af->Ai->Ai->List (Ai×Nat)
 | 0,_,_,_=>[]
 | k+1,t,i,j=> if t.G=6 then (Ez (D5 data k) t.R i.K j.K).map λr=>(⟨0,r.1⟩,r.2) else if t.G=7 then Yq i.U.toNat j.U.toNat else if t.G=5 then (Kh (J4 data t (Ez (D5 data k))) i.K j.K).map λr=>(⟨0,r.1⟩,r.2) else [(⟨0,[]⟩,1)]
def eS {α:Type}:List (α->Nat)->List α->Nat
 | [],_=>1
 | _::_,[]=>0
 | w::b,x::xs=>eS (w::b) xs+w x*eS b xs
theorem Vx (xs:List α):eS [] xs=1:=by cases xs <;> rfl
theorem Ahn {α:Type} (w:α->Nat) (x:α):∀(l:List α) (b:List (α->Nat)),eS (b++[w]) (l++[x])=eS (b++[w]) l+eS b l*w x
 | [],[]=>by simp[eS]
 | [],v::vs=>by cases vs <;> simp[eS]
 | y::l,[]=>by have h:=Ahn w x l [];simp only[nil_append,Ed,eS,Vx]at h ⊢;omega
 | y::l,v::vs=>by have h1:=Ahn w x l (v::vs);have h2:=Ahn w x l vs;simp only[Ed,eS]at h1 ⊢;rw[h1,h2];simp only[Nat.mul_add,Nat.add_mul,Nat.mul_assoc];omega
theorem Aw1 (b:List (α->Nat)):∀(n:Nat) (l:List α) (q:Nat),l.length=n->q<=b.length->dpS b l q=eS (b.take q) l:=by
 intro n;induction n with
 | zero=>
  intro l q g hq;have:l = []:=Fu.1 g;subst this;cases q with
  | zero=>rfl
  | succ q=>cases b with| nil=>simp at hq| cons w b=>rfl
 | succ n ih=>
  intro l q g hq;rcases eq_nil_or_concat l with h|⟨c,x,h⟩
  .subst h;simp at g
  .rw[concat_eq_append]at h;subst h;rw[Av9];have f:c.length=n:=(by simpa using g);cases q with
   | zero=>rw[take_zero,Vx];show dpS b c 0=1;rw[ih c 0 f ω,take_zero,Vx]
   | succ q=>
    have hw:b[q]? = some b[q]:=Bt _;show dpS b c (q+1)+dpS b c q*(match b[q]? with|some w=>w x|none=>0)=_
    rw[ih c (q+1) f hq,ih c q f ω,hw,Da hw,Ahn]
theorem Amv (b:Ai->Az->Nat) (h:Ai) (c:Nat) (L:List (List Ai×Nat)):pv (λr=>eS (r.map b) []) (Fb h c L)=0:=by induction L with| nil=>rfl| cons r L ih=>show _*eS (b h::r.1.map b) []+pv (λr=>eS (r.map b) []) (Fb h c L)=0;rw[ih];rfl
theorem Amw (b:Ai->Az->Nat) (h:Ai) (c:Nat) (x:Az) (xs:List Az) (L:List (List Ai×Nat)) : pv (λr=>eS (r.map b) (x::xs)) (Fb h c L)=pv (λr=>eS (r.map b) xs) (Fb h c L)+c*b h x*pv (λr=>eS (r.map b) xs) L:=by induction L with| nil=>rfl| cons r L ih=>show c*r.2*eS (b h::r.1.map b) (x::xs)+pv (λr=>eS (r.map b) (x::xs)) (Fb h c L)=(c*r.2*eS (b h::r.1.map b) xs+pv (λr=>eS (r.map b) xs) (Fb h c L))+c*b h x*(r.2*eS (r.1.map b) xs+pv (λr=>eS (r.map b) xs) L);rw[ih,eS];simp only[Nat.mul_add];have:c*r.2*(b h x*eS (r.1.map b) xs)=c*b h x*(r.2*eS (r.1.map b) xs):=(by ac_rfl);omega
theorem Aw2 (b:Ai->Az->Nat) (x:Az) (xs:List Az) (L:List (List Ai×Nat)):∀R:List (Ai×Nat), pv (λr=>eS (r.map b) (x::xs)) (R.flatMap λw=>Fb w.1 w.2 L)=pv (λr=>eS (r.map b) xs) (R.flatMap λw=>Fb w.1 w.2 L)+pv (λe=>b e x) R*pv (λr=>eS (r.map b) xs) L
 | []=>by simp[pv]
 | w::R=>by rw[flatMap_cons,Kg,Kg,Amw,Aw2 b x xs L R];simp only[pv,Nat.add_mul];omega
theorem Bad {row:Ai->Ai->List (Ai×Nat)} {c:Ai->Az->Nat} {P Q:Ai->Prop}:∀(xs:List Az),(∀x∈xs,∀a,P a->∀b,Q b->pv (λe=>c e x) (row a b)=c a x*c b x)->∀(l m:List Ai),(∀a∈l,P a)->(∀b∈m,Q b) -> pv (λr=>eS (r.map c) xs) (Kh row l m)=eS (l.map c) xs*eS (m.map c) xs:=by
 have one:∀(xs:List Az) (m:List Ai),pv (λr:List Ai=>eS (r.map c) xs) [(m,1)]=eS (m.map c) xs:=λxs m=>by show 1*eS (m.map c) xs+0=_;omega
 intro xs;induction xs with
 | nil=>
  intro _ l;cases l with
  | nil=>intro m _ _;rw[Acm,one,map_nil,Vx,Nat.one_mul]
  | cons a l=>
   intro m z s;show _=0*_;rw[Nat.zero_mul];cases m with
   | nil=>rw[Ahm,one];rfl
   | cons b m=>
    rw[Acn,Kg,Kg,Amv,Amv];rw[Acl (h:=λ_=>0) (hg:=λp _=>by rw[Amv,Nat.mul_zero])];have:∀L:List (Ai×Nat),pv (λ_=>0) L=0:=λL=>by induction L with| nil=>rfl| cons p L ih=>simp only[pv,ih];omega
    rw[this]
 | cons x xs ih=>
  intro f l;have ih:=ih λy hy=>f y (by simp[hy]);cases l with
  | nil=>intro m _ _;rw[Acm,one,map_nil,Vx,Nat.one_mul]
  | cons a l=>intro m;cases m with| nil=>intro _ _;rw[Ahm,one,map_nil,Vx,Nat.mul_one]| cons b m=>intro z s;have u:∀a∈l,P a:=λy hy=>z y (by simp[hy]);have q:∀b∈m,Q b:=λy hy=>s y (by simp[hy]);have h0:=ih (a::l) (b::m) z s;rw[Acn,Kg,Kg]at h0;rw[Acn,Kg,Kg,Amw,Amw,Aw2,f x ψ a (z a ψ) b (s b ψ),ih l (b::m) u s,ih (a::l) m z q,ih l m u q];simp only[map_cons,eS]at h0 ⊢;generalize eS (c a::l.map c) xs=A at *;generalize eS (c b::m.map c) xs=B at *;generalize eS (l.map c) xs=k at *;generalize eS (m.map c) xs=j at *;generalize c a x=i at *;generalize c b x=g at *;have D:(A+i*k)*(B+g*j)=A*B+i*(k*B)+g*(A*j)+i*g*(k*j):=(by simp only[Nat.add_mul,Nat.mul_add];have I:A*(g*j)=g*(A*j):=(by ac_rfl);have G:i*k*B=i*(k*B):=(by ac_rfl);have E:i*k*(g*j)=i*g*(k*j):=(by ac_rfl);omega);rw[D,<-h0];simp only[Nat.one_mul];omega
theorem Aco (f:List Ai->Nat) (h:Ai) (c:Nat) (L:List (List Ai×Nat)):pv f (Fb h c L)=c*pv (λr=>f (h::r)) L:=by induction L with| nil=>rfl| cons r L ih=>show c*r.2*f (h::r.1)+pv f (Fb h c L)=c*(r.2*f (h::r.1)+pv (λr=>f (h::r)) L);rw[ih,Nat.mul_add,Nat.mul_assoc]
theorem Bae (L:List (α×Nat)):pv (λ_=>0) L=0:=by induction L with| nil=>rfl| cons p L ih=>simp only[pv,ih];omega
theorem Aw3 {g:Af->Ai->Ai->List (Ai×Nat)} (u:∀t i j w a b,Ca i<=k->Dj data i t=some a->Dj data j t=some b->Ha data w t=true->pv (λx=>bv data x t w) (g t i j)=bv data i t w*bv data j t w) : ∀(ts:List Af) (is f:List Ai) (c:List Az) (q l:Nat),Ck is<=k->Cy data is ts=some q->Cy data f ts=some l->Ic data c ts=true->pv (λr=>bvs data r ts c) (Ez g ts is f)=bvs data is ts c*bvs data f ts c:=by
 intro ts;induction ts with
 | nil=>
  intro is f c q l _ h1 h2 h3;cases is with
  | cons i is=>simp only[Cy]at h1;cases h1
  | nil=>cases f with| cons j f=>simp only[Cy]at h2;cases h2| nil=>simp only[Ez,pv,Tj]
 | cons t ts ih=>
  intro is f c q l s h1 h2 h3;cases is with
  | nil=>simp only[Cy]at h1;cases h1
  | cons i is=>
   cases f with
   | nil=>simp only[Cy]at h2;cases h2
   | cons j f=>
    cases c with
    | nil=>simp only[Ic]at h3;cases h3
    | cons w c=>
     simp only[Ic,C3]at h3;simp only[Ck]at s;rw[N1]at h1 h2;cases a1:Dj data i t with
     | none=>rw[a1]at h1;cases h1
     | some a=>
      cases a2:Cy data is ts with
      | none=>rw[a1,a2]at h1;cases h1
      | some B=>
       cases b1:Dj data j t with
       | none=>rw[b1]at h2;cases h2
       | some b=>
        cases b2:Cy data f ts with
        | none=>rw[b1,b2]at h2;cases h2
        | some A=>
         have z:=u t i j w a b ω a1 b1 h3.1;have y:=ih is f c B A ω a2 b2 h3.2;show pv (λr=>bvs data r (t::ts) (w::c)) ((g t i j).flatMap λw=>Fb w.1 w.2 (Ez g ts is f))=_;rw[Acl (h:=λx=>pv (λr=>bvs data r ts c) (Ez g ts is f)*bv data x t w) (hg:=λp _=>by rw[Aco];have:(λr=>bvs data (p.1::r) (t::ts) (w::c))=λr=>bv data p.1 t w*bvs data r ts c:=(by funext r;rw[Ti]);rw[this,O5,Nat.mul_comm (bv data p.1 t w)]),O5,z,y,Ti,Ti]
         ac_rfl
theorem Aw4 (data:List Ak):∀(c:List Az) (l:List Af) (r:List Bool),Ic data c l=true->Ic data (J2 c r) (F7 l r)=true
 | [],[],r,_=>by simp[J2,F7,Ic]
 | w::c,t::l,[],_=>by simp[J2,F7,Ic]
 | w::c,t::l,b::r,h=>by simp only[Ic,C3]at h;have ih:=Aw4 data c l r h.2;unfold J2 F7 at ih ⊢;cases b with| true=>simpa using ih| false=>simp only[zip_cons_cons,filter_cons,Bool.not_false,if_true,map_cons,Ic,h.1,Bool.true_and];exact ih
 | [],_::_,_,h=>by simp only[Ic]at h;cases h
 | _::_,[],_,h=>by simp only[Ic]at h;cases h
theorem Baf (hk:t.G=5) {x:Az} (h:Ha data x t=true):Ic data (J2 x.K (D3 data t.U x.U)) (J3 data t x.U)=true:=by rw[Td,Ar ω,Ar ω,Ar ω,Ar ω,Au hk]at h;cases hf:Jh data t x.U with| none=>rw[hf]at h;simp at h| some l=>rw[hf]at h;simp only[C3]at h;have e:J3 data t x.U=F7 l (D3 data t.U x.U):=(by unfold J3 Gy;rw[hf];rfl);rw[e];exact Aw4 data _ _ _ h.2
theorem Amx (data:List Ak) (t:Af):∀es:List Ai,bws data es t=es.map (wOf data t)
 | []=>by simp only[bws,map_nil]
 | ⟨n,b⟩::es=>by simp only[bws,Amx data t es,map_cons];rfl
theorem Bag (a b n:Nat):pv (λx:Ai=>bc n x.U.toNat) (Yq a b)=bc n a*bc n b:=by
 rw[<-Yj n a b (a+b+1) ω];unfold Yq;generalize a+b+1=N;induction N with
 | zero=>rfl
 | succ N ih=>
  rw[range_succ,filter_append,map_append,Kg,ih,sm];congr 1;by_cases h:Rc a b N=0
  .simp[h,pv]
  .simp[h,pv]
theorem Bah:∀(k:Nat) (t:Af) (i j:Ai) (w:Az) (B A:Nat),Ca i<=k->Dj data i t=some B->Dj data j t=some A->Ha data w t=true->pv (λx=>bv data x t w) (D5 data k t i j)=bv data i t w*bv data j t w:=by
 intro k;induction k with
 | zero=>intro t i j w B A h;have:=Ep i;omega
 | succ k ih=>
  intro t i j w B A S hi hj z;have J:=Ep i;rw[Rh data i,Rh data j,D5];by_cases c:t.G=6
  .rw[Au c,Au c,Au c,Yp];have hi:=Yn c hi;have hj:=Yn c hj;rw[Td,Ar ω,Ar ω,Ar ω,Au c]at z;simp only[C3]at z;rw[<-Aw3 (k:=k) (λt i j w a b h1 h2 h3 G=>ih t i j w a b h1 h2 h3 G) t.R i.K j.K w.K B A ω hi hj z.2];exact Rj λp _=>by rw[Rh,Au c]
  .rw[Ar c,Ar c,Ar c];by_cases s:t.G=7
   .rw[Au s,Au s,Au s,<-Bag];exact Rj λp _=>by rw[Rh,Ar c,Au s]
   .rw[Ar s,Ar s,Ar s];by_cases f:t.G=5
    .have hi:=Yo f hi;have hj:=Yo f hj;obtain⟨_,R⟩:=Ace data _ _ _ hi;obtain⟨_,N⟩:=Ace data _ _ _ hj;have y:∀l:List Ai,dpS (bws data l t) (Iu data t.U w) l.length=eS (l.map (wOf data t)) (Iu data t.U w):=λl=>by rw[Aw1 _ _ _ _ rfl (by rw[Amx,C6];exact Nat.le_refl _),Amx,Ih (by rw[C6];exact Nat.le_refl _)]
     rw[Au f,Au f,Au f,Yp,y,y];rw[<-Bad (P:=λa=>Ca a<=k/\∃ts,Gy data t a.U=some ts/\Cy data a.K ts=some (pdg data t a)) (Q:=λb=>∃ts,Gy data t b.U=some ts/\Cy data b.K ts=some (pdg data t b)) (row:=J4 data t (Ez (D5 data k))) (Iu data t.U w) (λx hx a ha b hb=>?_) i.K j.K (λa ha=>⟨by have:=Kc ha;omega,R a ha⟩) N]
     .exact Rj λp _=>by rw[Rh,Ar c,Ar s,Au f];exact y p.1
     .obtain⟨D,_⟩:=Avq f _ w (Nat.le_refl _) z x hx;obtain⟨M,ts,a1,a2⟩:=ha;obtain⟨I,b1,b2⟩:=hb;have L:=Ep a;unfold J4;by_cases e:a.U=b.U
      .rw[Au e,Yp];by_cases ex:x.U=a.U
       .have u:J3 data t a.U=ts:=(by unfold J3;rw[a1]);have E:I=ts:=(by rw[<-e,a1]at b1;exact (Eo b1).symm);subst E;have hp:=Baf f D;rw[ex,u]at hp;have hv:=Aw3 (k:=k) (λt i j w a b h1 h2 h3 G=>ih t i j w a b h1 h2 h3 G) I a.K b.K (J2 x.K (D3 data t.U a.U)) _ _ ω a2 b2 hp;unfold wOf;rw[Au ex,Au ω,u,<-e,u,<-hv];exact Rj λp _=>by rw[Au ex];rw[u]
       .have J:∀r:List Ai,wOf data t ⟨a.U,r⟩ x=0:=λr=>by unfold wOf;rw[Ar ex]
        have q:wOf data t a x=0:=(by unfold wOf;rw[Ar ex]);rw[q,Nat.zero_mul,Rj (g:=λ_=>0) λp _=>J p.1,Bae]
      .rw[Ar e];show 0=_;by_cases ex:x.U=a.U
       .have q:wOf data t b x=0:=(by unfold wOf;rw[Ar ω]);rw[q,Nat.mul_zero]
       .have q:wOf data t a x=0:=(by unfold wOf;rw[Ar ex]);rw[q,Nat.zero_mul]
    .rw[Ar f,Ar f,Ar f];show 1*bv data ⟨0,[]⟩ t w+0=1*1;rw[Rh,Ar c,Ar s,Ar f]
theorem Acp:∀(a b N:Nat),sm N (Rc a b)<=3 ^ (a+b)
 | 0,b,N=>by
  have h1:1<=3 ^ (0+b):=Nat.pow_pos δ;by_cases h:b<N
  .rw[Aca (k:=b) h λj hj=>by rw[Acb,Ar hj],Acb,Au rfl];exact h1
  .rw[Vt λk hk=>by rw[Acb,Ar ω]];omega
 | a+1,0,N=>by
  have h1:1<=3 ^ (a+1+0):=Nat.pow_pos δ;by_cases h:a+1<N
  .rw[Aca (k:=a+1) h λj hj=>by rw[Acd,Ar hj],Acd,Au rfl];exact h1
  .rw[Vt λk hk=>by rw[Acd,Ar ω]];omega
 | a+1,b+1,0=>Nat.zero_le _
 | a+1,b+1,N+1=>by rw[Ag9,Avy,Yg λk _=>Avx a b k];have e:sm N (λk=>Rc a (b+1) k+Rc (a+1) b k+Rc a b k)=sm N (Rc a (b+1))+sm N (Rc (a+1) b)+sm N (Rc a b):=(by rw[Vs (λk=>Rc a (b+1) k+Rc (a+1) b k),Vs]);have h1:=Acp a (b+1) N;have h2:=Acp (a+1) b N;have h3:=Acp a b N;have g:a+(b+1)=a+b+1:=ω;have f:a+1+b=a+b+1:=ω;have c:a+1+(b+1)=a+b+2:=ω;rw[g]at h1;rw[f]at h2;rw[e,c];have l:3 ^ (a+b+1)=3 ^ (a+b)*3:=Nat.pow_succ ..;have i:3 ^ (a+b+2)=3 ^ (a+b+1)*3:=Nat.pow_succ ..;omega
theorem Bai (a b:Nat):pv (λ_=>1) (Yq a b)<=3 ^ (a+b):=by
 have h:=Acp a b (a+b+1);refine Nat.le_trans (Nat.le_of_eq ?_) h;unfold Yq;generalize a+b+1=N;induction N with
 | zero=>rfl
 | succ N ih=>
  rw[range_succ,filter_append,map_append,Kg,ih,sm];congr 1;by_cases h:Rc a b N=0
  .simp[h,pv]
  .simp[h,pv]
structure Gp (data:List Ak) (t:Af) (D S:Nat) (p:Ai×Nat):Prop where
 pos:1<=p.2
 deg:∃d,Dj data p.1 t=some d/\d<=D
 siz:Ca p.1<=S
 num:iR p.1
structure Gr (data:List Ak) (ts:List Af) (D S:Nat) (p:List Ai×Nat):Prop where
 pos:1<=p.2
 deg:∃d,Cy data p.1 ts=some d/\d<=D
 siz:Ck p.1<=S
 num:E8 p.1
structure Ge (data:List Ak) (t:Af) (D S:Nat) (p:List Ai×Nat):Prop where
 pos:1<=p.2
 deg:∃d,Fv data p.1 t=some d/\d<=D
 siz:Ck p.1<=S
 num:E8 p.1
def Acq (data:List Ak) (k:Nat) (b:Af->Ai->Ai->List (Ai×Nat)):Prop:=∀(t:Af) (i j:Ai) (f c:Nat),Ca i<=k->Dj data i t=some f->Dj data j t=some c->f+c<=6->iR i->iR j -> (∀p∈b t i j,Gp data t (f+c) (Ca i+Ca j) p)/\pv (λ_=>1) (b t i j)<=3 ^ (f+c)
theorem Aho {h:Ai} {c:Nat} {L:List (List Ai×Nat)} {p:List Ai×Nat} (hp:p∈Fb h c L):∃r∈L,p=(h::r.1,c*r.2):=by obtain⟨r,h1,h2⟩:=mem_map.1 hp;exact⟨r,h1,h2.symm⟩
theorem Ahp {c:Af->Ai->Ai->List (Ai×Nat)} (A:Acq data k c) : ∀(ts:List Af) (is f:List Ai) (l g:Nat),Ck is<=k->Cy data is ts=some l->Cy data f ts=some g->l+g<=6->E8 is->E8 f -> (∀p∈Ez c ts is f,Gr data ts (l+g) (Ck is+Ck f) p)/\pv (λ_=>1) (Ez c ts is f)<=3 ^ (l+g):=by
 intro ts;induction ts with
 | nil=>
  intro is f l g _ h1 h2 _ _ _;cases is with
  | cons i is=>simp only[Cy]at h1;cases h1
  | nil=>
   cases f with
   | cons j f=>simp only[Cy]at h2;cases h2
   | nil=>
    refine⟨λp hp=>?_,?_⟩
    .simp only[Ez,Et]at hp;subst hp;exact⟨Nat.le_refl _,⟨0,by simp only[Cy],ω⟩,by simp[Ck],by simp[E8]⟩
    .show 1*1+0<=_;exact Nat.pow_pos δ
 | cons t ts ih=>
  intro is f l g y h1 h2 J s q;cases is with
  | nil=>simp only[Cy]at h1;cases h1
  | cons i is=>
   cases f with
   | nil=>simp only[Cy]at h2;cases h2
   | cons j f=>
    simp only[Ck]at y;simp only[E8]at s q;rw[N1]at h1 h2;cases a1:Dj data i t with
    | none=>rw[a1]at h1;cases h1
    | some a=>
     cases a2:Cy data is ts with
     | none=>rw[a1,a2]at h1;cases h1
     | some x=>
      cases b1:Dj data j t with
      | none=>rw[b1]at h2;cases h2
      | some b=>
       cases b2:Cy data f ts with
       | none=>rw[b1,b2]at h2;cases h2
       | some u=>
        rw[a1,a2]at h1;rw[b1,b2]at h2;have h1:a+x=l:=Eo h1;have h2:b+u=g:=Eo h2;obtain⟨D,B⟩:=A t i j a b ω a1 b1 ω s.1 q.1;obtain⟨f1,f2⟩:=ih is f x u ω a2 b2 ω s.2 q.2;refine⟨λp hp=>?_,?_⟩
        .obtain⟨w,hw,hp⟩:=mem_flatMap.1 (show p∈(c t i j).flatMap λw=>Fb w.1 w.2 (Ez c ts is f) from hp);obtain⟨r,z,rfl⟩:=Aho hp;have g1:=D w hw;have g2:=f1 r z;obtain⟨d,d1,d2⟩:=g1.deg;obtain⟨E,d3,d4⟩:=g2.deg;refine⟨Nat.mul_pos g1.pos g2.pos,⟨d+E,by rw[N1,d1,Ad,d3];rfl,ω⟩,?_,?_⟩
         .have I:=g1.siz;have G:=g2.siz;simp only[Ck];omega
         .simp only[E8];exact⟨g1.num,g2.num⟩
        .show pv (λ_=>1) ((c t i j).flatMap λw=>Fb w.1 w.2 (Ez c ts is f))<=_;rw[Acl (h:=λ_=>pv (λ_=>1) (Ez c ts is f)*1) (hg:=λp _=>by rw[Aco,Nat.mul_one]),O5];have:=Nat.mul_le_mul f2 B;rw[<-Nat.pow_add,show x+u+(a+b)=l+g by omega]at this;exact this
theorem Ahq (h:Fv data (e::es) t=some d):∃ts a b,Gy data t e.U=some ts/\Cy data e.K ts=some a/\Fv data es t=some b/\d=1+a+b:=by
 rw[Ve]at h;cases h1:Gy data t e.U with
 | none=>rw[h1]at h;cases h
 | some ts=>
  rw[h1,Ad]at h;cases h2:Cy data e.K ts with
  | none=>rw[h2]at h;cases h
  | some a=>rw[h2,Ad]at h;cases h3:Fv data es t with| none=>rw[h3]at h;cases h| some b=>rw[h3]at h;exact⟨ts,a,b,rfl,h2,rfl,(Eo h).symm⟩
theorem Amy (h1:Gy data t e.U=some ts) (h2:Cy data e.K ts=some a) (h3:Fv data es t=some b):Fv data (e::es) t=some (1+a+b):=by rw[Ve,h1,Ad,h2,Ad,h3];rfl
theorem Baj {c:Af->Ai->Ai->List (Ai×Nat)} (z:Acq data k c) {a b:Ai} {i:List Af} {h f:Nat} (x:Ck a.K<=k) (a1:Gy data t a.U=some ts) (B:Cy data a.K ts=some h) (b1:Gy data t b.U=some i) (b2:Cy data b.K i=some f) (A:h+f<=6) (j:iR a) (u:iR b) : (∀p∈J4 data t (Ez c) a b,1<=p.2/\(∃d,Cy data p.1.K ts=some d/\d<=h+f)/\p.1.U=a.U/\Ca p.1+1<=Ca a+Ca b/\iR p.1)/\pv (λ_=>1) (J4 data t (Ez c) a b)<=3 ^ (h+f):=by
 unfold J4;by_cases e:a.U=b.U
 .have q:J3 data t a.U=ts:=(by unfold J3;rw[a1]);have l:i=ts:=(by rw[<-e,a1]at b1;exact (Eo b1).symm);subst l;rw[P3]at j u;obtain⟨f1,f2⟩:=Ahp z i a.K b.K h f x B b2 A j.2 u.2;rw[Au e,q];refine⟨λp hp=>?_,by rw[Yp];exact f2⟩;obtain⟨r,y,rfl⟩:=mem_map.1 hp;have g:=f1 r y;have s:=g.siz;have E:=Ep a;have D:=Ep b;refine⟨g.pos,g.deg,rfl,?_,?_⟩
  .rw[Ep];show 1+Ck r.1+1<=_;omega
  .rw[P3];exact⟨j.1,g.num⟩
 .rw[Ar e];exact⟨λp hp=>(by cases hp),Nat.zero_le _⟩
theorem Aw5 {u:Af->Ai->Ai->List (Ai×Nat)} (hm:Acq data k u) (t:Af) : ∀(l m:List Ai) (z y:Nat),Ck l<=k+1->(∀e∈l,Ck e.K<=k)->Fv data l t=some z->Fv data m t=some y->z+y<=6->E8 l->E8 m -> (∀p∈Kh (J4 data t (Ez u)) l m,Ge data t (z+y) (Ck l+Ck m) p)/\pv (λ_=>1) (Kh (J4 data t (Ez u)) l m)<=3 ^ (z+y):=by
 have x:∀(l m:List Ai) (D S:Nat),(∃d,Fv data l t=some d/\d<=D)->Ck l<=S->E8 l->(∀p∈[(l,1)],Ge data t D S p)/\pv (λ_=>1) [(l,1)]<=3 ^ D:=λl m D S h1 h2 h3=>by
  refine⟨λp hp=>?_,?_⟩
  .simp only[Et]at hp;subst hp;exact⟨Nat.le_refl _,h1,h2,h3⟩
  .show 1*1+0<=_;exact Nat.pow_pos δ
 intro l;induction l with
 | nil=>intro m z y _ _ _ h2 _ _ G;rw[Acm];exact x m m _ _ ⟨y,h2,ω⟩ ω G
 | cons a l A=>
  intro m;induction m with
  | nil=>intro z y _ _ h1 _ _ I _;rw[Ahm];exact x _ [] _ _ ⟨z,h1,ω⟩ ω I
  | cons b m J=>
   intro z y hs hk h1 h2 h6 I G;obtain⟨ts,q,dl,a1,a2,a3,rfl⟩:=Ahq h1;obtain⟨us,j,c,b1,b2,L,rfl⟩:=Ahq h2;have i:=I;have f:=G;simp only[E8]at i f;have za:Ck (a::l)=Ca a+Ck l:=(by simp only[Ck]);have zb:Ck (b::m)=Ca b+Ck m:=(by simp only[Ck]);have E:∀e∈l,Ck e.K<=k:=λe he=>hk e (by simp[he]);obtain⟨R,x2⟩:=A (b::m) dl (1+j+c) ω E a3 h2 ω i.2 G;obtain⟨N,y2⟩:=J (1+q+dl) c hs hk h1 L ω I f.2;obtain⟨M,z2⟩:=A m dl c ω E a3 L ω i.2 f.2;obtain⟨V,U⟩:=Baj hm (t:=t) (hk a ψ) a1 a2 b1 b2 ω i.1 f.1;rw[Acn];refine⟨λp hp=>?_,?_⟩
   .rcases Ei.1 hp with hp|hp
    .obtain⟨r,B,rfl⟩:=Aho hp;have g:=R r B;obtain⟨d,d1,d2⟩:=g.deg;have s:=g.siz;refine⟨by have:=g.pos;show 1<=1*r.2;omega,⟨_,Amy a1 a2 d1,ω⟩,?_,?_⟩
     .simp only[Ck]at s ⊢;omega
     .simp only[E8];exact⟨i.1,g.num⟩
    .rcases Ei.1 hp with hp|hp
     .obtain⟨r,B,rfl⟩:=Aho hp;have g:=N r B;obtain⟨d,d1,d2⟩:=g.deg;have s:=g.siz;refine⟨by have:=g.pos;show 1<=1*r.2;omega,⟨_,Amy b1 b2 d1,ω⟩,?_,?_⟩
      .simp only[Ck]at s ⊢;omega
      .simp only[E8];exact⟨f.1,g.num⟩
     .obtain⟨w,hw,hp⟩:=mem_flatMap.1 hp;obtain⟨r,B,rfl⟩:=Aho hp;obtain⟨Y,⟨d',v2,v3⟩,v4,v5,X⟩:=V w hw;have g:=M r B;obtain⟨d,d1,d2⟩:=g.deg;have s:=g.siz;refine⟨Nat.mul_pos Y g.pos,⟨_,Amy (by rw[v4];exact a1) v2 d1,ω⟩,?_,?_⟩
      .simp only[Ck]at s ⊢;omega
      .simp only[E8];exact⟨X,g.num⟩
   .rw[Kg,Kg,Aco,Aco];rw[Acl (h:=λ_=>pv (λ_=>1) (Kh (J4 data t (Ez u)) l m)*1) (hg:=λp _=>by rw[Aco,Nat.mul_one]),O5];have Z:=Nat.mul_le_mul z2 U;rw[<-Nat.pow_add]at Z;have p1:3 ^ (dl+(1+j+c))<=3 ^ (1+q+dl+(j+c)):=Nat.pow_le_pow_right δ ω;have p2:3 ^ (1+q+dl+c)<=3 ^ (1+q+dl+(j+c)):=Nat.pow_le_pow_right δ ω;have p3:3 ^ (dl+c+(q+j))<=3 ^ (1+q+dl+(j+c)):=Nat.pow_le_pow_right δ ω;have p4:3 ^ (1+q+dl+(1+j+c))=3 ^ (1+q+dl+(j+c))*3:=(by rw[show 1+q+dl+(1+j+c)=(1+q+dl+(j+c))+1 by omega,Nat.pow_succ]);omega
theorem Rk (data:List Ak):∀k,Acq data k (D5 data k):=by
 intro k;induction k with
 | zero=>intro t i j x u h;have:=Ep i;omega
 | succ k ih=>
  intro t i j x u M hi hj A D B;have L:=Ep i;have G:=Ep j;have f:=D;have c:=B;rw[P3]at f c;rw[D5];by_cases b:t.G=6
  .rw[Au b,Yp];have hi:=Yn b hi;have hj:=Yn b hj;obtain⟨f1,f2⟩:=Ahp ih t.R i.K j.K x u ω hi hj A f.2 c.2;refine⟨λp hp=>?_,f2⟩;obtain⟨r,z,rfl⟩:=mem_map.1 hp;have g:=f1 r z;obtain⟨d,d1,d2⟩:=g.deg;refine⟨g.pos,⟨d,by rw[Mw,Au b,Au rfl];exact d1,d2⟩,?_,?_⟩
   .have s:=g.siz;rw[Ep];show 1+Ck r.1<=_;omega
   .rw[P3];exact⟨by show Ff 0;unfold Ff;omega,g.num⟩
  .rw[Ar b];by_cases l:t.G=7
   .rw[Au l,(Ahl l hi).2,(Ahl l hj).2];refine⟨λp hp=>?_,Bai x u⟩;obtain⟨n,I,rfl⟩:=mem_map.1 hp;obtain⟨E,y⟩:=mem_filter.1 I;rw[mem_range]at E;have y:Rc x u n≠0:=(by simpa using y);refine⟨Nat.pos_of_ne_zero y,⟨n,by rw[Mw,Ar b,Au l,Au ⟨by show (0:Int)<=n;omega,by show (n:Int)<=6;omega,rfl⟩];rfl,ω⟩,?_,?_⟩
    .rw[Ep];show 1+Ck []<=_;simp only[Ck];omega
    .rw[P3];exact⟨by show Ff (n:Int);unfold Ff;omega,by show E8 [];simp only[E8]⟩
   .rw[Ar l];by_cases q:t.G=5
    .rw[Au q,Yp];have hi:=Yo q hi;have hj:=Yo q hj;obtain⟨f1,f2⟩:=Aw5 ih t i.K j.K x u ω (λe J=>by have:=Kc J;have:=Ep e;omega) hi hj A f.2 c.2;refine⟨λp hp=>?_,f2⟩;obtain⟨r,z,rfl⟩:=mem_map.1 hp;have g:=f1 r z;obtain⟨d,d1,d2⟩:=g.deg;refine⟨g.pos,⟨d,by rw[Mw,Ar b,Ar l,Au q,Au rfl];exact d1,d2⟩,?_,?_⟩
     .have s:=g.siz;rw[Ep];show 1+Ck r.1<=_;omega
     .rw[P3];exact⟨by show Ff 0;unfold Ff;omega,g.num⟩
    .rw[Ar q];refine⟨λp hp=>?_,?_⟩
     .simp only[Et]at hp;subst hp;refine⟨Nat.le_refl _,⟨0,by rw[Mw,Ar b,Ar l,Ar q,Au ⟨rfl,rfl⟩],ω⟩,?_,?_⟩
      .rw[Ep];show 1+Ck []<=_;simp only[Ck];omega
      .rw[P3];exact⟨by show Ff 0;unfold Ff;omega,by show E8 [];simp only[E8]⟩
     .show 1*1+0<=_;exact Nat.pow_pos δ
theorem P9 {l:List (α×Nat)} (h:∀p∈l,1<=p.2):l.length<=pv (λ_=>1) l:=by induction l with| nil=>exact Nat.le_refl _| cons p l ih=>have h1:=h p ψ;have h2:=ih λq hq=>h q (by simp[hq]);simp only[D8,pv];omega
theorem Qa {l:List (α×Nat)} {p:α×Nat} (h:p∈l):p.2<=pv (λ_=>1) l:=by
 induction l with
 | nil=>cases h
 | cons q l ih=>
  simp only[pv];rcases F1.1 h with rfl|h
  .omega
  .have:=ih h;omega
end Go.Ab
