/- Plain laws: what the plain functions answer. -/
import Derived.Test.YthhfdmfhkfdfkaaGreatDoorPePl4
namespace Go.Ab
open Go
theorem A1i {l:De} (b:Hg l=true):∀t∈l.Terms,-1048576<=t.Coef/\t.Coef<=1048576:=by intro t ht;obtain ⟨j,hj⟩:=List.getElem?_of_mem ht;unfold Hg at b;rw [Ca,List.all_eq_true] at b;have:=b.2 (t,j) (List.mk_mem_zipIdx_iff_getElem?.2 hj);unfold Pa at this;rw [Ca,decide_eq_true_eq] at this;exact this.1.2.2.2
theorem A1j {α:Type} (f:α->Int):∀(l:List α),(∀j x,l[j]? = some x->Jw f l x j=true)->l.Pairwise λa b=>f a<f b:=by
 intro l h;rw [List.pairwise_iff_getElem];have step:∀i (hi:i+1<l.length),f l[i]<f l[i+1]:=λi hi=>by have:=h (i+1) _ (Be hi);unfold Jw at this;rw [show i+1-1=i by omega,Be (by omega:i<l.length)] at this;simpa using this
 intro i j hi hj c;induction j with
 | zero=>omega
 | succ j ih=>
  have h1:=step j hj;rcases Nat.lt_or_ge i j with h2 | h2
  .have:=ih ω h2; omega
  .have:i=j:=ω;subst this; exact h1
theorem A1k {l:De} (c:Hg l=true):l.Terms.Pairwise λa b=>a.Var<b.Var:=by refine A1j (·.Var) l.Terms λj x hx=>?_;unfold Hg at c;rw [Ca,List.all_eq_true] at c;have:=c.2 (x,j) (List.mk_mem_zipIdx_iff_getElem?.2 hx);unfold Pa at this;rw [Ca] at this;exact this.2
theorem A1l {l:De} (x:Hg l=true) (g:Int->Int) (hg:∀t∈l.Terms,-1099511627776<=g t.Var/\g t.Var<=1099511627776) :
  ∃r,Vq l (l.Terms.map (·.Var)) (l.Terms.map λt=>g t.Var)=some r/\r.2=0/\RB 200 r.1/\rq r.1=((l.Const+(l.Terms.map λt=>t.Coef*g t.Var).sum:Int):Rat):=by
 have U:l.Terms.length<=16:=by
  unfold Hg at x
  rw [Ca,decide_eq_true_eq] at x
  exact x.1.2.2
 have V : -1048576<=l.Const/\l.Const<=1048576:=by
  unfold Hg at x
  rw [Ca,decide_eq_true_eq] at x
  exact ⟨x.1.1,x.1.2.1⟩
 have N:=A1i x
 have G:=A1k x
 have hd:∀(i k:Nat) (a b:Dv),l.Terms[i]? = some a->l.Terms[k]? = some b->k<i->b.Var<a.Var:=λi k a b ha hb hk=>by
  obtain ⟨h1,rfl⟩:=List.getElem?_eq_some_iff.1 ha
  obtain ⟨h2,rfl⟩:=List.getElem?_eq_some_iff.1 hb
  exact List.pairwise_iff_getElem.1 G k i h2 h1 hk
 have hv:∀(j:Nat) (a:Dv),l.Terms[j]? = some a->(l.Terms.map (·.Var))[j]? = some a.Var:=λj a ha=>by rw [List.getElem?_map,ha]; rfl
 unfold Vq
 rw [Aoc,x]
 simp only [Ad,D3,cond_false,List.length_map,bne_self_eq_false]
 have key:∀{R:Type} {J:(Ai×Int)⊕Unit->Option R} {Q:R->Prop},(∃r,J (.inr ())=some r/\Q r)->∃r,(Al (S:=Int) (E:=((Ai×Int)⊕Unit)) (λv4=>
   bif v4<(l.Terms.length:Int) then (
   (Al (S:=Int) (E:=((Ai×Int)⊕Int)) (λy=>
   bif y<v4 then (
   (Ae (l.Terms.map (·.Var)) v4).bind λv8=>
   (Ae (l.Terms.map (·.Var)) y).bind λv9=>
   bif (v8==v9) then (
   some (.inr (.inl ((Ai.mk false [] []),4)))
   )
   else (
   some (.inl (Aa (y+1)))
   )
   )
   else (
   some (.inr (.inr y))
   )
    ) 0).bind λz=>
   match z with
   | .inl (D,B)=>(
   some (.inr (.inl (D,B)))
   )
   | .inr _=>(
   some (.inl (Aa (v4+1)))
   )
   )
   else (
   some (.inr (.inr ()))
   )
    ) 0).bind J=some r/\Q r:=λ⟨r,h1,h2⟩=>by
  refine ⟨r,Ke l.Terms.length (λj=>(j:Int)) rfl (λj hj=>?_) ⟨.inr (),by rw [Aq ω]; rfl,h1⟩,h2⟩
  have hx:l.Terms[j]? = some l.Terms[j]:=Be hj
  rw [An ω,cond_true]
  refine Ke j (λk=>(k:Int)) rfl (λk hk=>?_) ⟨.inr (j:Int),by rw [Aq ω]; rfl,by dsimp only; rw [Co hj ω]⟩
  have hy:l.Terms[k]? = some l.Terms[k]:=Be ω
  have:=hd j k _ _ hx hy hk
  rw [An ω,cond_true,Bi rfl (hv j _ hx),Ad,Bi rfl (hv k _ hy),Ad,Bz ω,cond_false,Co hk ω]
 refine key ?_
 obtain ⟨c,_,c1,c2,_,c3⟩:=Ui l.Const ω ω
 dsimp only
 rw [c1,Ad]
 refine C6 (λs=>∃(j:Nat) (P:Ai),s=((j:Int),P.Neg,P.Num,P.Den)/\j<=l.Terms.length/\RB (3+11*j) P/\rq P=((l.Const+((l.Terms.take j).map λt=>t.Coef*g t.Var).sum:Int):Rat)) (λs=>l.Terms.length-s.1.toNat)
  (λe=>∃P:Ai,e = .inr (P.Neg,P.Num,P.Den)/\RB 200 P/\rq P=((l.Const+(l.Terms.map λt=>t.Coef*g t.Var).sum:Int):Rat)) ⟨0,c,rfl,ω,c2.mono ω,by rw [c3]; simp⟩ ?_ ?_
 .rintro s ⟨j,P,rfl,hj,A,hq⟩
  rcases Nat.lt_or_ge j l.Terms.length with h | h
  .have hx:l.Terms[j]? = some l.Terms[j]:=Be h
   have I:=List.getElem_mem h
   generalize hT:l.Terms[j]=t at hx I
   have ht:=N t I
   have hgt:=hg t I
   have L:∀{R:Type} (J:Int×Int->Option R),(Al (S:=(Int×Int)) (E:=(Int×Int)) (λ(v37,f)=>
     bif f<(l.Terms.length:Int) then (
     (Ae (l.Terms.map (·.Var)) f).bind λv39=>
     bif (v39==t.Var) then (
     some (.inl (f,(Aa (f+1))))
     )
     else (
     some (.inl (v37,(Aa (f+1))))
     )
     )
     else (
     some (.inr (v37,f))
     )
      ) ((-1),0)).bind J=J ((j:Int),(l.Terms.length:Int)):=λJ=>by
    have e:=Ke (step:=(λ((v37,f):Int×Int)=>
     bif f<(l.Terms.length:Int) then (
     (Ae (l.Terms.map (·.Var)) f).bind λv39=>
     bif (v39==t.Var) then (
     some (.inl (f,(Aa (f+1))))
     )
     else (
     some (.inl (v37,(Aa (f+1))))
     )
     )
     else (
     some (.inr (v37,f))
     ):Int×Int->Option ((Int×Int)⊕(Int×Int)))) (s0:=((-1),0)) (J:=some) (r:=((j:Int),(l.Terms.length:Int))) l.Terms.length (λk=>((if j<k then (j:Int) else -1),(k:Int))) ψ ?_ ?_
    .rw [Option.bind_fun_some] at e
     rw [e]; rfl
    .intro k h3
     have hy:l.Terms[k]? = some l.Terms[k]:=Be h3
     generalize l.Terms[k]=u at hy
     simp only [An (by omega:(k:Int)<(l.Terms.length:Int)),cond_true,Bi rfl (hv k _ hy),Ad,Co h3 ω]
     rcases Nat.lt_trichotomy k j with h4 | h4 | h4
     .have:=hd j k _ _ hx hy h4
      rw [Bz ω,cond_false,if_neg ω,if_neg ω]
     .subst h4
      rw [hx] at hy
      obtain rfl:=Option.some.inj hy
      rw [beq_self_eq_true,cond_true,if_pos ω]
     .have:=hd k j _ _ hy hx h4
      rw [Bz ω,cond_false,if_pos ω,if_pos ω]
    .exact ⟨((j:Int),(l.Terms.length:Int)),by simp only [Aq (by omega:¬(l.Terms.length:Int)<(l.Terms.length:Int)),cond_false,if_pos h],rfl⟩
   obtain ⟨a,_,a1,a2,_,a3⟩:=Ui t.Coef ω ω
   obtain ⟨b,_,b1,b2,_,b3⟩:=Ui (g t.Var) ω ω
   obtain ⟨m,_,m1,m2,_,m3⟩:=Uc a2 b2 ω ω
   obtain ⟨q,_,Z,Y,_,X⟩:=Ub A m2 ω ω
   have M:(l.Terms.map λt=>g t.Var)[j]? = some (g t.Var):=by rw [List.getElem?_map,hx]; rfl
   left
   simp only [An (by omega:(j:Int)<(l.Terms.length:Int)),cond_true,Bi rfl hx,Ad,L,Aq (by omega:¬(j:Int)<0),cond_false,a1,Bi rfl M,b1,m1,Co h ω]
   rw [show (I7 (Ai.mk P.Neg P.Num P.Den) m)=some q from Z,Ad]
   refine ⟨_,rfl,⟨j+1,q,rfl,ω,Y.mono ω,?_⟩,by simp only [Int.toNat_natCast]; omega⟩
   rw [X,hq,m3,a3,b3,Cu hx,List.map_append,List.sum_append]
   simp only [List.map_cons,List.map_nil,List.sum_cons,List.sum_nil,Int.add_zero,Rat.intCast_add,Rat.intCast_mul]
   grind
  .have:j=l.Terms.length:=ω
   subst this
   rw [List.take_length] at hq
   exact .inr ⟨.inr (P.Neg,P.Num,P.Den),by dsimp only; rw [Aq ω]; rfl,P,rfl,A.mono ω,hq⟩
 .rintro e ⟨P,rfl,A,hq⟩
  exact ⟨(P,0),by rw [<-Uk P],rfl,A,hq⟩
end Go.Ab
namespace Go.Ab
open Go
theorem Ap4 {a b:Nat} (ha:Ba a<=3) (hb:Ba b<=3):Hn (cR a) (cR b)=some (cR (a*b)):=by have h:=Ag9 ha hb δ δ;obtain ⟨c,f,g,_⟩:=Uc (H3 (k:=3) ha δ) (H3 (k:=3) hb δ) δ δ;rw [h] at f;cases f;exact g
theorem A1m {a b:Nat} (ha:Ba a<=3) (hb:Ba b<=3):I7 (cR a) (cR b)=some (cR (a+b)):=by have h:=Apc ha hb δ δ;obtain ⟨c,f,g,_⟩:=Ub (H3 (k:=3) ha δ) (H3 (k:=3) hb δ) δ δ;rw [h] at f;cases f;exact g
theorem Ap5 {data:List Ao} (k:Nat) (c:List A3) (b:List Ag) (f:List Ar) (hi:c.length=b.length) (hw:b.length<=f.length) (u:b.length<=100000) (s:∀j,Sm (D9 data (c.take j) (b.take j) (f.take j))) (hb:∀(j:Nat) i t w,c[j]? = some i->b[j]? = some t->f[j]? = some w->Sm (bv data i t w)) (q:∀(j:Nat) i t w,c[j]? = some i->b[j]? = some t->f[j]? = some w->My k data t i w=some (cR (bv data i t w))) : M3 (k+1) data b c f=some (cR (D9 data c b (f.take b.length))):=by
 rw [M3];have l:F5 1=some (cR 1):=O6 1 δ δ;rw [l,Ad];refine Fg b (λj=>((j:Int),(cR (D9 data (c.take j) (b.take j) (f.take j))).Neg,(cR (D9 data (c.take j) (b.take j) (f.take j))).Num,(cR (D9 data (c.take j) (b.take j) (f.take j))).Den)) ?_ ω ?_ ?_
 .simp only [List.take_zero,Ug]; rfl
 .intro j t hj ht h1 h2 h3;have h:c[j]? = some (c[j]' ω):=Be _;generalize c[j]'_=i at h;have g:f[j]? = some (f[j]' ω):=Be _;generalize f[j]'_=w at g;simp only [h1,h2,h3,cond_true,Ad,Bi rfl h,Bi rfl g,q j i t w h ht g];show (Hn (cR (D9 data (c.take j) (b.take j) (f.take j))) (cR (bv data i t w))).bind _=_;rw [Ap4 (s j).lg (hb j i t w h ht g).lg,Ab7 data _ _ _ j i t w h ht g]; rfl
 .intro h1;refine ⟨_,by simp only [h1]; rfl,?_⟩;rw [List.take_length,List.take_of_length_le (by omega:c.length<=b.length)]
end Go.Ab
namespace Go.Ab
open Go
theorem A1n {α:Type} {l:List α} {r:List Bool} (c:l.length=r.length):(Hs l r).length=(Ed r).length:=by
 unfold Hs Ed;rw [List.length_map,List.length_map];have key:∀(l:List α) (r:List Bool) (s:Nat),l.length=r.length->((r.zipIdx s).filter λq=>!q.1).length=((l.zip r).filter λp=>!p.2).length:=by
  intro l;induction l with
  | nil=>intro r s h; have:r = []:=List.length_eq_zero_iff.1 h.symm; subst this; rfl
  | cons a l ih=>intro r s h;cases r with| nil=>simp at h| cons b r=>have:=ih r (s+1) (by simpa using h);cases b <;> simp [this]
 exact (key l r 0 c).symm
theorem A1o {data:List Ao} {t:Ag} (hz:Szv data) (hs:Hf data) (hk:t.Kind=5) (ht:A6 t<=200) (l:List A3) (hp:∀e∈l,∃y,Fz data t e.Num=some y/\C2 data e.Kids y=some (pdg data t e)) (bb:l.length+pds data t l<=6) (k:Nat)
  (az:∀e∈l,∀(i':A3) (t':Ag) (w:Ar) (d:Nat),i'∈e.Kids->Ee data i' t'=some d->d<=6->A6 t'<=200->D8 data w t'=true->B1 w<=5000->My k data t' i' w=some (cR (bv data i' t' w)))
  (x:Ar) (hx:D8 data x t=true) (b5:B1 x<=5000) (f:Nat->Nat) (hf:∀q,q<=l.length->f q<=5000 ^ (q+pds data t (l.take q))) {R:Type} {J:Int×List Ai->Option R} {r:R}
  (hJ:J (0,Fa l.length (Jj (bws data l t) x f))=some r) :
  (Al (S:=(Int×(List Ai))) (E:=(Int×(List Ai))) (λ(b,c)=>
  bif b>(0:Int) then (
  (Ae l (Aa (b-1))).bind λu=>
  bif (u.Num != x.Num) then (
  some (.inl ((Aa (b-1)),c))
  )
  else (
  (Oi data t u.Num).bind λa8=>
  (Tb data t u.Num).bind λI=>
  (Al (S:=(Int×(List Ar))) (E:=(Int×(List Ar))) (λ(s,L)=>
  bif s<(I.1.length:Int) then (
  (Ae I.1 s).bind λa7=>
  (Ae x.Kids a7).bind λa6=>
  (Bx 40 L [a6]).bind λab=>
  some (.inl ((Aa (s+1)),ab))
  )
  else (
  some (.inr (s,L))
  )
   ) (0,[])).bind λ(b3,aa)=>
  (Ae c b).bind λv130=>
  (Ae c (Aa (b-1))).bind λv131=>
  (M3 (k+1) data a8.1 u.Kids aa).bind λa1=>
  (Hn v131 a1).bind λZ=>
  (I7 v130 Z).bind λY=>
  (Ae c b).bind λb0=>
  some (.inl ((Aa (b-1)),(Cf c b Y)))
  )
  )
  else (
  some (.inr (b,c))
  )
   ) ((l.length:Int),Fa l.length f)).bind J=some r:=by
 generalize hg:Jj (bws data l t) x f=g at hJ
 have sm:∀q,q<=l.length->q+pds data t (l.take q)<=6:=λq hq=>by have:=Apr data t l q; omega
 refine Ke l.length (λi=>(((l.length-i:Nat):Int),Fa l.length (λp=>if l.length-i<p then g p else f p))) ?_ ?_ ?_
 .simp only [Nat.sub_zero]
  congr 1
  exact Uf (λp hp=>by rw [if_neg ω])
 .intro i hi
  obtain ⟨q,hq⟩:∃q:Nat,l.length-i=q+1:=⟨l.length-i-1,ω⟩
  have hq':l.length-(i+1)=q:=ω
  have D:q+1<=l.length:=ω
  have he:l[q]? = some l[q]:=Be ω
  generalize l[q]=e at he
  have ai:=Bg he
  have w1:Aa (((q+1:Nat):Int)-1)=((q:Nat):Int):=by rw [show (((q+1:Nat):Int)-1)=(q:Int) by omega,Aa,B4] <;> omega
  have ag:g (q+1)=f (q+1)+f q*wOf data t e x:=by
   rw [<-hg]
   simp only [Jj,Uh,he,Option.map_some]
  simp only [hq,hq',An (by omega:((q+1:Nat):Int)>0),cond_true,w1,Bi rfl he,Ad]
  have ax:Ae (Fa l.length (λp=>if q+1<p then g p else f p)) (q:Int)=some (cR (f q)):=by
   rw [Bi rfl (Ko _ ω),if_neg ω]
  have av:Ae (Fa l.length (λp=>if q+1<p then g p else f p)) ((q+1:Nat):Int)=some (cR (f (q+1))):=by
   rw [Bi rfl (Ko _ ω),if_neg ω]
  by_cases z:x.Num=e.Num
  .rw [Cp z.symm]
   have sq:=Sm.of (hf q ω) (sm q ω)
   have ak:=Sm.of (hf (q+1) D) (sm (q+1) D)
   obtain ⟨y,B,N⟩:=hp e ai
   have U:=B
   unfold Fz at U
   cases ah:Gg data t e.Num with
   | none=>rw [ah] at U; cases U
   | some fl=>
    obtain ⟨b8,V,b4,ap,X⟩:=Aps hz hk hx z B
    obtain ⟨i1,i2⟩:=X4 data _ _ _ N
    have aq:Tb data t e.Num=some (Ed (Cx data t.Num e.Num),O9 (Cx data t.Num e.Num)):=by
     unfold Tb
     rw [Anm hz hs t ht e.Num ah]; rfl
    simp only [cond_false,Xp hz hs t ht,B,okL,aq,Ad]
    have ba:q+1+pds data t (l.take q)+pdg data t e<=6:=by
     have:=sm (q+1) D
     rw [X5 he] at this; omega
    obtain ⟨_,_,_,_,af,_⟩:=Rt hk hx
    have am:(Hs x.Kids (Cx data t.Num e.Num)).length=y.length:=by rw [A1n (by rw [<-af,z]),V]
    have M:∀w∈Hs x.Kids (Cx data t.Num e.Num),B1 w<=5000:=λw hw=>by
     have:=Gr (X6 hw)
     have:=G6 x
     omega
    have ac:wOf data t e x=D9 data e.Kids y (Hs x.Kids (Cx data t.Num e.Num)):=by
     unfold wOf
     rw [if_pos z]
     unfold Kp
     rw [B]
    generalize Hs x.Kids (Cx data t.Num e.Num)=A at X am M ac
    have aj:D9 data e.Kids y A<=5000 ^ pdg data t e:=(Lo data 5000 δ _).2 _ _ _ _ (Nat.le_refl _) N M
    have ay:Sm (D9 data e.Kids y A):=Sm.of aj ω
    have au:Sm (f q*D9 data e.Kids y A):=by
     have h2:=Nat.mul_le_mul (hf q ω) aj
     rw [<-Nat.pow_add] at h2
     exact Sm.of h2 ω
    have ar:M3 (k+1) data y e.Kids A=some (cR (D9 data e.Kids y A)):=by
     have ad:∀(j:Nat) (a:Ag) (w:Ar),y[j]? = some a->A[j]? = some w->D8 data w a=true/\A6 a<=200/\B1 w<=5000:=by
      intro j a w ha hw
      have hj:j<(Ed (Cx data t.Num e.Num)).length:=by rw [V]; exact Dr ha
      obtain ⟨m,a',w',_,h1,_,h3,h4,h5⟩:=X j _ (Be hj)
      rw [ha] at h1
      rw [hw] at h3
      cases h1; cases h3
      exact ⟨h4,ap a (Bg ha),ω⟩
     have h:=Ap5 (data:=data) k e.Kids y A i1 ω ω (λj=>Ahb N ω M j) (λj i' a w G ha hw=>by
      obtain ⟨d,d1,d2⟩:=i2 j i' a G ha
      obtain ⟨p1,p2,p3⟩:=ad j a w ha hw
      exact Sm.of ((Lo data 5000 δ _).1 i' a w d (Nat.le_refl _) d1 ω) ω) (λj i' a w G ha hw=>by
      obtain ⟨d,d1,d2⟩:=i2 j i' a G ha
      obtain ⟨p1,p2,p3⟩:=ad j a w ha hw
      exact az e ai i' a w d (Bg G) d1 ω p2 p1 p3)
     rw [List.take_of_length_le (by omega:A.length<=y.length)] at h
     exact h
    refine Fg (Ed (Cx data t.Num e.Num)) (λj=>((j:Int),A.take j)) rfl ω ?_ ?_
    .intro j pl hj ae h1 h2 h3
     obtain ⟨mm,a,w,rfl,bd,hw,ao,b7,b6⟩:=X j pl ae
     simp only [h1,h2,h3,cond_true,Ad,Bi rfl hw]
     rw [Di (by simp; omega),Ad,Cu ao]
    .intro h1
     refine ⟨_,by simp only [h1]; rfl,?_⟩
     rw [V,List.take_of_length_le (by omega:A.length<=y.length)]
     simp only [ax,av,Ad,ar]
     rw [Ap4 sq.lg ay.lg,Ad,A1m ak.lg au.lg,Ad]
     congr 3
     refine Ag3 D ?_ ?_
     .rw [if_pos ω,ag,ac]
     .intro p hp b9
      by_cases e1:q+1<p
      .rw [if_pos ω,if_pos e1]
      .rw [if_neg ω,if_neg e1]
  .rw [Cs (λe=>z e.symm),cond_true]
   have e1:g (q+1)=f (q+1):=by rw [ag,show wOf data t e x=0 by unfold wOf; rw [if_neg z],Nat.mul_zero,Nat.add_zero]
   have:Fa l.length (λp=>if q+1<p then g p else f p)=Fa l.length (λp=>if q<p then g p else f p):=Uf (λp hp=>by
    by_cases e2:q+1<p
    .rw [if_pos e2,if_pos ω]
    .rw [if_neg e2]
     by_cases e3:q<p
     .rw [if_pos e3,show p=q+1 by omega,e1]
     .rw [if_neg e3])
   rw [this]
 .refine ⟨(0,Fa l.length g),?_,hJ⟩
  simp only [Nat.sub_self]
  have:Fa l.length (λp=>if 0<p then g p else f p)=Fa l.length g:=Uf (λp hp=>by
   by_cases e:0<p
   .rw [if_pos e]
   .have:p=0:=ω
    subst this; rw [if_neg e,<-hg]; rfl)
  rw [this]; rfl
theorem A1p (m:Nat) (k:m<=100) {R:Type} {J:List Ai->Option R} {r:R} (h:J (cR 1::List.replicate m (cR 0))=some r) : (Al (S:=(Int×(List Ai))) (E:=(List Ai)) (λ(b,c)=> bif b<(((List.replicate (m+1) (Ai.mk false [] [])).length:Nat):Int) then ((F5 0).bind λf=> (Ae c b).bind λv17=> some (.inl ((Aa (b+1)),(Cf c b f)))) else (some (.inr c))) (1,(Cf (List.replicate (m+1) (Ai.mk false [] [])) 0 (cR 1)))).bind J=some r:=by
 have g:F5 0=some (cR 0):=O6 0 δ δ;refine Ke m (λj=>(((j+1:Nat):Int),cR 1::(List.replicate j (cR 0)++List.replicate (m-j) (Ai.mk false [] [])))) ?_ ?_ ?_
 .rw [List.replicate_succ]; rfl
 .intro j hj;have i:List.replicate (m-j) (Ai.mk false [] [])=Ai.mk false [] []::List.replicate (m-(j+1)) (Ai.mk false [] []):=(by rw [show m-j=(m-(j+1))+1 by omega]; rfl);have w:Aa (((j+1:Nat):Int)+1)=((j+1+1:Nat):Int):=Co (n:=200) ω ω;simp only [List.length_replicate,An (by omega:((j+1:Nat):Int)<((m+1:Nat):Int)),cond_true,g,Ad,i,w];have e2:cR 1::(List.replicate j (cR 0)++Ai.mk false [] []::List.replicate (m-(j+1)) (Ai.mk false [] []))=(cR 1::List.replicate j (cR 0))++Ai.mk false [] []::List.replicate (m-(j+1)) (Ai.mk false [] []):=rfl;rw [e2,T2 (cR 1::List.replicate j (cR 0)) _ _ _ (j+1) rfl ψ,Ad,T1 _ _ _ _ _ (j+1) rfl ψ];rw [List.replicate_succ']; simp
 .refine ⟨cR 1::List.replicate m (cR 0),?_,h⟩;simp only [List.length_replicate,Aq (by omega:¬((m+1:Nat):Int)<((m+1:Nat):Int)),cond_false];simp
theorem A1q {data:List Ao} (hz:Szv data) (hs:Hf data):∀(n:Nat) (i:A3) (t:Ag) (w:Ar) (k d:Nat),C1 i<=n->2*n<=k->n<1099511627776->Ee data i t=some d->d<=6->A6 t<=200->D8 data w t=true->B1 w<=5000->My k data t i w=some (cR (bv data i t w)):=by
 intro n
 induction n with
 | zero=>intro i t w k d h; have:=E5 i; omega
 | succ n ih=>
  intro i t w k d hi hk hn hd a7 ht I hw
  obtain ⟨k,rfl⟩:∃k',k=k' + 2:=⟨k-2,ω⟩
  have ah:=E5 i
  have ac:=G6 w
  have s:F5 1=some (cR 1):=O6 1 δ δ
  rw [My,Ag5]
  rw [Rm] at hd
  have G:=I
  rw [Pg] at I
  by_cases B:t.Kind=6
  .rw [Ct B,if_pos B]
   rw [if_pos B] at hd
   rw [if_neg ω,if_neg ω,if_neg ω,if_pos B] at I
   simp only [Ca] at I
   have b:=I.2
   have hd:C2 data i.Kids t.Args=some d:=by
    by_cases e:i.Num=0
    .rw [if_pos e] at hd; exact hd
    .rw [if_neg e] at hd; cases hd
   obtain ⟨i1,i2⟩:=X4 data _ _ _ hd
   have M:w.Kids.length=t.Args.length:=by
    by_cases hl:w.Kids.length=t.Args.length
    .exact hl
    .rw [Ph data _ _ hl] at b; cases b
   have ad:=Ga t
   have ae:=Hq t.Args
   have L:∀x∈w.Kids,B1 x<=5000:=λx hx=>by have:=Gr hx; omega
   rw [cond_true]
   have h:=Ap5 (data:=data) k i.Kids t.Args w.Kids i1 ω ω (λj=>Ahb hd a7 L j) (λj i' a u f ha hu=>by
    obtain ⟨e,d1,d2⟩:=i2 j i' a f ha
    have S:=Gr (Bg hu)
    exact Sm.of ((Lo data 5000 δ _).1 i' a u e (Nat.le_refl _) d1 ω) ω) (λj i' a u f ha hu=>by
    obtain ⟨e,d1,d2⟩:=i2 j i' a f ha
    have S:=Gr (Bg hu)
    have ai:=Hy (Bg f)
    have aj:=Gf (Bg ha)
    have U:D8 data u a=true:=by
     rw [Rr data _ _ M] at b
     exact List.all_eq_true.1 b (u,a) (Bg (i:=j) (by rw [List.getElem?_zip_eq_some]; exact ⟨hu,ha⟩))
    exact ih i' a u k e ω ω ω d1 ω ω U ω)
   rw [h,List.take_of_length_le (by omega:w.Kids.length<=t.Args.length)]; rfl
  .rw [if_neg B] at hd ⊢
   rw [Bz B,cond_false]
   by_cases D:t.Kind=7
   .rw [Ct D,cond_true,if_pos D]
    rw [if_pos D] at hd
    have ag:=Kl w.Kids
    by_cases e:0<=i.Num/\i.Num<=6/\i.Kids.length=0
    .obtain ⟨m,hm⟩:∃m:Nat,i.Num=m:=⟨i.Num.toNat,ω⟩
     rw [hm]
     obtain ⟨r,_,r1,r2,_,r3⟩:=Ui (w.Kids.length:Int) ω ω
     obtain ⟨c,c1,c2,c3,c4⟩:=Ap3 r2 ω r3 m ω
     rw [Ap1,r1,Ad,c1,Ad,Int.toNat_natCast]
     rw [Ags c2 (Uj _) (c4.trans (Mm _).symm),Int.toNat_natCast]
    .rw [if_neg e] at hd; cases hd
   .rw [if_neg D] at hd ⊢
    rw [Bz D,cond_false]
    by_cases g:t.Kind=5
    .rw [Ct g,cond_true,if_pos g]
     rw [if_pos g] at hd
     have hd:Fq data i.Kids t=some d:=by
      by_cases e:i.Num=0
      .rw [if_pos e] at hd; exact hd
      .rw [if_neg e] at hd; cases hd
     obtain ⟨h1,hp⟩:=Ab9 data _ _ _ hd
     generalize hl:i.Kids=l at *
     have af:=Abz data t.Num w
     have e1:Aa (((l.length:Nat):Int)+1)=((l.length+1:Nat):Int):=by rw [Aa,B4] <;> omega
     rw [e1,Js (n:=l.length+1) (c:=l.length+1) rfl rfl ω ω ω,Ad,s,Ad]
     have a1:Ae (List.replicate (l.length+1) (Ai.mk false [] [])) 0=some (Ai.mk false [] []):=Bi (n:=0) rfl (by rw [List.getElem?_replicate,if_pos ω])
     rw [a1,Ad]
     refine A1p l.length ω ?_
     have N:Wf data w t.Num=some (Fs data t.Num w):=by
      unfold Wf
      rw [Azf hs g w hw G]; rfl
     rw [N,Ad]
     have e2:cR 1::List.replicate l.length (cR 0)=Fa l.length (dpS (bws data l t) []):=by
      apply List.ext_getElem?
      intro q
      rcases Nat.lt_or_ge q (l.length+1) with hq | hq
      .rw [Ko _ ω]
       cases q with
       | zero=>rfl
       | succ q=>
        rw [List.getElem?_cons_succ,List.getElem?_replicate,if_pos ω]
        show _=some (cR (if q+1=0 then 1 else 0))
        rw [if_neg ω]
      .rw [List.getElem?_eq_none (by simpa using hq),List.getElem?_eq_none (by rw [Pj]; exact hq)]
     rw [e2]
     have z:∀x∈Fs data t.Num w,∀q u,(bws data l t)[q]? = some u->5000 ^ pds data t (l.take q)*u x<=5000 ^ pds data t (l.take (q+1)):=by
      intro x hx q wt hq
      rw [Uh] at hq
      obtain ⟨e,J,rfl⟩:=Option.map_eq_some_iff.1 hq
      obtain ⟨ts,X,V⟩:=hp e (Bg J)
      have ab:=Ab8 data t.Num w x hx
      rw [X5 J,Nat.pow_add]
      refine Nat.mul_le_mul_left _ ?_
      unfold wOf
      split
      .rw [show Kp data t e.Num=ts by unfold Kp; rw [X]]
       refine (Lo data 5000 δ _).2 e.Kids ts _ _ (Nat.le_refl _) V λy hy=>?_
       have aa:=Gr (X6 hy)
       have:=G6 x
       omega
      .exact Nat.zero_le _
     have a6:∀j q,dpS (bws data l t) ((Fs data t.Num w).take j) q<=5000 ^ (q+pds data t (l.take q)):=λj q=>
      Ag7 _ 5000 δ (λq=>pds data t (l.take q)) _ (λx hx=>z x (List.mem_of_mem_take hx)) (by rw [List.length_take]; omega) q
     refine Fg (Fs data t.Num w) (λj=>((j:Int),Fa l.length (dpS (bws data l t) ((Fs data t.Num w).take j)))) rfl ω ?_ ?_
     .intro j x hj hx A h2 h3
      have hxm:=Ape g _ w (Nat.le_refl _) G x (Bg hx)
      have Z:Jj (bws data l t) x (dpS (bws data l t) ((Fs data t.Num w).take j))=dpS (bws data l t) ((Fs data t.Num w).take (j+1)):=by rw [Cu hx,Apo]
      simp only [A,h2,h3,cond_true,Ad]
      refine A1o hz hs g ht l hp ω k (λe J i' t' u d' f a8 E Y hu R=>by
       have h3:=Hy f
       have h4:=E5 e
       have h5:=Hy J
       exact ih i' t' u k d' ω ω ω a8 E Y hu R) x hxm.1 ω _ (λq _=>a6 j q) ?_
      rw [Z]
     .intro A
      refine ⟨_,by simp only [A]; rw [List.take_length]; rfl,?_⟩
      rw [Bi (n:=l.length) ψ (Ko _ (Nat.le_refl _))]; rfl
    .rw [Bz g,cond_false,if_neg g,s]; rfl
end Go.Ab
namespace Go.Ab
open Go
theorem Ahf {x:B8} {b:List Ar} (c:b.length=x.Vars.length) (res:Ar) {v:Int} {t:Ag} (ht:Dl x.Vars x.Res v=some t):N1 b res v=some (C3 b res v):=by
 unfold N1 C3;unfold Dl at ht;by_cases h:v = -1
 .subst h;rw [Amf ω]; rfl
 .rw [if_neg h] at ht;obtain ⟨a1,a2,_⟩:=Ec ht;have hi:Ae b v=some (b[v.toNat]' ω):=Bi (n:=v.toNat) ω (Be _);rw [Bz h,hi]; rfl
structure Ahg (x:B8) (env:List Ar) (res:Ar) (m:Bw):Prop where
 fl:m.Factors.length<=6
 al:m.Atoms.length<=6
 fac:∀f∈m.Factors,∃t,Dl x.Vars x.Res f.Var=some t/\Vp x.Data t f.Index (C3 env res f.Var)=some (cR (I1 x (C3 env res) f))/\I1 x (C3 env res) f<=5000 ^ 6
 atm:∀a∈m.Atoms,1<=a.Deg/\a.Deg<=6/\Hg a.Lin=true/\a.Lin.Terms.length<=16 /\
  ∀u∈a.Lin.Terms,∃t,Dl x.Vars x.Res u.Var=some t/\-1099511627776<=(C3 env res u.Var).Num/\(C3 env res u.Var).Num<=1099511627776
theorem A1r {x:B8} (B:CSz x) (s:Fr x) {b:List Ar} {res:Ar} {m:Bw} (h:Ln x m) (i:∀v∈Hh m,F1 x b res v=true):Ahg x b res m:=by
 have A:=Apy B s h i;have l:=h.1;have k:=Xy h.1;unfold Gw at l;simp only [Ca] at l;have E:∀f∈m.Factors,F1 x b res f.Var=true:=λf c=>i _ (by unfold Hh; exact List.mem_append.2 (.inl (List.mem_map.2 ⟨f,c,rfl⟩)));refine ⟨A.fl,A.al,λf c=>?_,λa ha=>?_⟩
 .obtain ⟨t,ht⟩:=k.1 f c;obtain ⟨j,hj⟩:=List.getElem?_of_mem c;have g:=Ge l.1.1 hj;simp only [Lm,Ca,decide_eq_true_eq] at g;have h1:=g.1;unfold Ez at h1;rw [ht] at h1;have h1:1<=Gb (Ee x.Data f.Index t):=h1;have z:Hz x.Data (C3 b res f.Var) t=true:=(by have:=E f c;unfold F1 at this;rw [ht] at this; exact this);rcases Xr (Ee x.Data f.Index t) with ⟨h2,_⟩ | ⟨d,h2,h3,_⟩
  .rw [h2] at h1; omega
  .have M:=Apw s ht;simp only [F0,Ca,decide_eq_true_eq] at M;unfold Hz at z;simp only [Ca,decide_eq_true_eq] at z;obtain ⟨⟨_,D⟩,y⟩:=z;have hi:=h.2.fi f c;have q:I1 x (C3 b res) f=bv x.Data f.Index t (C3 b res f.Var):=(by unfold I1; rw [ht]);rw [q];refine ⟨t,ht,?_,Nat.le_trans ((Lo x.Data 5000 δ _).1 f.Index t _ d (Nat.le_refl _) h2 D) (Nat.pow_le_pow_right δ h3)⟩;unfold Vp;rw [A1q s.2.1.szv B.ds.sz.short (C1 f.Index) f.Index t (C3 b res f.Var) 4000000 d (Nat.le_refl _) ω ω h2 h3 ω y D]; rfl
 .obtain ⟨j,hj⟩:=List.getElem?_of_mem ha;have g:=Ge l.1.2 hj;simp only [Ip,Ca,decide_eq_true_eq] at g;obtain ⟨L,J,_,_,I,G⟩:=A.atm a ha;exact ⟨L,J,g.1.1.1.2,I,λu hu=>(G u hu).2.2⟩
theorem A1s {x:B8} {b:List Ar} {res:Ar} (B:b.length=x.Vars.length) {m:Bw} (D:Ahg x b res m):∃g,Vf x m b res=some g/\RB 13000 g/\Ef g/\rq g=(Ul x (C3 b res) m:Rat):=by
 have z:F5 1=some (cR 1):=O6 1 δ δ;have Z:=D.fl;have a6:=D.al;unfold Vf;rw [z,Ad];refine C6 (λs=>∃(j:Nat) (g:Ai),s=((j:Int),g.Neg,g.Num,g.Den)/\j<=m.Factors.length/\RB (1+j*5) g/\Ef g/\rq g=(Gs ((m.Factors.take j).map (I1 x (C3 b res))):Rat)) (λs=>m.Factors.length-s.1.toNat) (λe=>∃g:Ai,e=(g.Neg,g.Num,g.Den)/\RB 100 g/\Ef g/\rq g=(Gs (m.Factors.map (I1 x (C3 b res))):Rat)) ⟨0,cR 1,rfl,ω,H3 (k:=1) (by rw [Kg]; decide) δ,Uj 1,by rw [Mm]; rfl⟩ ?_ ?_
 .rintro s ⟨j,g,rfl,hj,A,y,l⟩;rcases Nat.lt_or_ge j m.Factors.length with h | h
  .have hx:m.Factors[j]? = some m.Factors[j]:=Be h;generalize m.Factors[j]=f at hx;obtain ⟨t,t1,t2,t3⟩:=D.fac f (Bg hx);have hb:Sm (I1 x (C3 b res) f):=t3;obtain ⟨c,_,L,M,J,I⟩:=Uc A (H3 hb.lg δ) ω δ;left;simp only [An (by omega:(j:Int)<(m.Factors.length:Int)),cond_true,Bi rfl hx,Ad,Abv,t1,Ahf B res t1,t2,Co h ω];rw [show (Hn (Ai.mk g.Neg g.Num g.Den) (cR (I1 x (C3 b res) f)))=some c from L,Ad];refine ⟨_,rfl,⟨j+1,c,rfl,ω,M.mono ω,J,?_⟩,by simp only [Int.toNat_natCast]; omega⟩;rw [I,l,Mm,Acb hx,Rat.natCast_mul]
  .have:j=m.Factors.length:=ω;subst this;rw [List.take_length] at l;exact .inr ⟨(g.Neg,g.Num,g.Den),by dsimp only; rw [Aq ω]; rfl,g,rfl,A.mono ω,y,l⟩
 .rintro e ⟨a,rfl,ha,G,E⟩;dsimp only;refine C6 (λs=>∃(j:Nat) (g:Ai),s=((j:Int),g.Neg,g.Num,g.Den)/\j<=m.Atoms.length/\RB (100+j*2000) g/\Ef g/\rq g=rq a*(Gs ((m.Atoms.take j).map (Mn (C3 b res))):Rat)) (λs=>m.Atoms.length-s.1.toNat) (λe=>∃g:Ai,e=(g.Neg,g.Num,g.Den)/\RB 13000 g/\Ef g/\rq g=rq a*(Gs (m.Atoms.map (Mn (C3 b res))):Rat)) ⟨0,a,rfl,ω,ha.mono ω,G,by simp only [List.take_zero,List.map_nil,Gs]; show _=_*(1:Rat); grind⟩ ?_ ?_
  .rintro s ⟨j,g,rfl,hj,A,y,l⟩;rcases Nat.lt_or_ge j m.Atoms.length with h | h
   .have hx:m.Atoms[j]? = some m.Atoms[j]:=Be h;generalize m.Atoms[j]=t at hx;obtain ⟨t1,t2,t3,t4,t5⟩:=D.atm t (Bg hx);left;refine M4 ?_;simp only [An (by omega:(j:Int)<(m.Atoms.length:Int)),cond_true,Bi rfl hx,Ad,Co h ω];obtain ⟨n,Y,n2,X,n4⟩:=A1l t3 (λv=>(C3 b res v).Num) (λu hu=>by obtain ⟨_,_,a1,a2⟩:=t5 u hu;exact ⟨a1,a2⟩);obtain ⟨d,hd⟩:∃d:Nat,t.Deg=d:=⟨t.Deg.toNat,ω⟩;have n4:rq n.1=((Lp (C3 b res) t.Lin:Int):Rat):=n4;obtain ⟨c,L,M,J,I⟩:=Ap3 X δ n4 d ω;obtain ⟨q,_,V,U,S,R⟩:=Uc A (J.mono (show 3+d*(200+23)<=1900 by omega)) ω δ;refine ⟨.inl (((j+1:Nat):Int),q.Neg,q.Num,q.Den),?_,_,rfl,⟨j+1,q,rfl,ω,U.mono ω,S,?_⟩,by simp only [Int.toNat_natCast]; omega⟩
    .refine Fg t.Lin.Terms (λi=>((i:Int),(t.Lin.Terms.take i).map (·.Var),(t.Lin.Terms.take i).map λu=>(C3 b res u.Var).Num)) rfl ω ?_ ?_
     .intro i u hi hu h1 h2 h3;obtain ⟨ty,N,_⟩:=t5 u (Bg hu);simp only [h1,h2,h3,cond_true,Ad,Ahf B res N];rw [Di (by simp; omega),Ad,Di (by simp; omega),Cu hu]; simp
     .intro h1;refine ⟨_,by simp only [h1]; rfl,?_⟩;rw [List.take_length];dsimp only;rw [Y,Ad,hd,L,Ad];show (Hn g c).bind _=_;rw [V]; rfl
    .have:Mn (C3 b res) t=bc (Lp (C3 b res) t.Lin).toNat d:=(by unfold Mn; rw [hd,Int.toNat_natCast]);rw [R,l,I,Acb hx,Rat.natCast_mul,this]; grind
   .have:j=m.Atoms.length:=ω;subst this;rw [List.take_length] at l;exact .inr ⟨(g.Neg,g.Num,g.Den),by dsimp only; rw [Aq ω]; rfl,g,rfl,A.mono ω,y,l⟩
  .rintro e ⟨g,rfl,h1,h2,h3⟩;exact ⟨g,by rw [<-Uk g],h1,h2,by rw [h3,E]; unfold Ul; rw [Rat.natCast_mul]⟩
theorem A1t {x:B8} (c:CSz x) (f:Fr x) (w:Ar) (t:Ag) (hw:B1 w<=1048576) (ht:A6 t<=200):Qa x.Data w t=some (Hz x.Data w t):=by obtain ⟨b,b1,g⟩:=Azc c.ds w t ω ω;rw [b1];congr 1;rw [Bool.eq_iff_iff,g];exact ⟨λh=>h.2,λh=>⟨f.2.1,h⟩⟩
theorem A1u (x:B8) (M:CSz x) (p:List A5) (hp:∀t∈p,TSz t) (f:List Ar) (res:Ar) (ab:∀v∈f,B1 v<=1048576) (I:B1 res<=1048576) : ∃r,U8 x p f res=some r/\((¬(Fr x/\F9 x.Data x.Vars x.Res p=true)/\r=(⟨false,[],[]⟩,1))\/((Fr x/\F9 x.Data x.Vars x.Res p=true) /\ ((f.length≠x.Vars.length/\r=(⟨false,[],[]⟩,5))\/(f.length=x.Vars.length/\((¬(∀v∈Dq p,F1 x f res v=true)/\r=(⟨false,[],[]⟩,11))\/((∀v∈Dq p,F1 x f res v=true)/\∃u,r=(u,0)/\Pk x p f res u)))))):=by
 obtain ⟨b,hb,J⟩:=Ay6 x M p hp;unfold U8;rw [hb,Ad];by_cases hv:Fr x/\F9 x.Data x.Vars x.Res p=true
 .have hf:=hv.1;obtain rfl:b=true:=J.2 hv;have N:Kn x p:=⟨hv.2,hp⟩;have hl:=(Ue.1 hv.2).1;have ac:=Apz N.mo hl;have L:∀t∈p,t.Mono.Atoms.length<=100000:=λt ht=>by obtain ⟨_,_,h3,_⟩:=(N.mo t ht).cmo;omega
  obtain ⟨W,_,U,w3,R⟩:=Aph p ω (λt ht=>by have:=L t ht; omega) ω;obtain ⟨V,v1,v2,v4⟩:=A0p p ω L ω;obtain rfl:V=W:=Apk V W v2 U λy=>(v4 y).trans (R y).symm;simp only [D3,cond_false];by_cases i:f.length=x.Vars.length
  .rw [Cp ω,cond_false,v1,Ad];have a7:∀v∈V,∃t,Dl x.Vars x.Res v=some t:=λv a6=>by have:=(v4 v).1 a6;unfold Dq at this;obtain ⟨t,ht,hm⟩:=List.mem_flatMap.1 this;exact Apx (N.mo t ht) v hm
   have B:Al (S:=Int) (E:=((Ai×Int)⊕Unit)) (λv11=>
     bif v11<(V.length:Int) then ((Ae V v11).bind λv12=> (Lx x v12).bind λa1=> (N1 f res v12).bind λZ=> (Qa x.Data Z a1.1).bind λY=> bif (!Y) then (some (.inr (.inl ((Ai.mk false [] []),11)))) else (some (.inl (Aa (v11+1))))) else (some (.inr (.inr ())))) 0=some (bif V.all (F1 x f res) then .inr () else .inl (⟨false,[],[]⟩,11)):=by
    rw [<-Option.bind_fun_some (Al _ _)];refine Ld V (F1 x f res) (λj=>(j:Int)) rfl ω ?_ ?_
    .intro j v hv h1 h2 h3;obtain ⟨t,ht⟩:=a7 v (Bg hv);have ad:=(hf.ctx M).sz v t ht;have hb:F1 x f res v=Hz x.Data (C3 f res v) t:=(by unfold F1; rw [ht]);simp only [h1,h2,h3,cond_true,Ad,Abv,ht,Ahf i res ht,A1t M hf (C3 f res v) t (Apf ab I v) ω,hb];cases Hz x.Data (C3 f res v) t with| true=>exact ⟨λ_=>rfl,λh=>by cases h⟩| false=>exact ⟨(λh=>by cases h),λ_=>⟨_,rfl,rfl⟩⟩
    .intro h;exact ⟨.inr (),by simp only [h]; rfl,rfl⟩
   rw [B,Ad];cases l:V.all (F1 x f res) with
   | false=>refine ⟨_,rfl,.inr ⟨hv,.inr ⟨i,.inl ⟨λh=>?_,rfl⟩⟩⟩⟩;rw [List.all_eq_false] at l;obtain ⟨v,h1,h2⟩:=l;exact h2 (h v ((v4 v).1 h1))
   | true=>
    have q:∀v∈Dq p,F1 x f res v=true:=λv h=>List.all_eq_true.1 l v ((v4 v).2 h);have a8:∀t∈p,Ahg x f res t.Mono:=λt ht=>A1r M hf (N.mo t ht) λv h=>q v (List.mem_flatMap.2 ⟨t,ht,h⟩);have wrap:∀{X:Option (Ai×Int)},(∃r,X=some r/\∃u,r=(u,0)/\Pk x p f res u)->∃r,X=some r/\((¬(Fr x/\F9 x.Data x.Vars x.Res p=true)/\r=(⟨false,[],[]⟩,1))\/((Fr x/\F9 x.Data x.Vars x.Res p=true) /\
      ((f.length≠x.Vars.length/\r=(⟨false,[],[]⟩,5))\/(f.length=x.Vars.length/\((¬(∀v∈Dq p,F1 x f res v=true)/\r=(⟨false,[],[]⟩,11))\/((∀v∈Dq p,F1 x f res v=true)/\∃u,r=(u,0)/\Pk x p f res u)))))):=by rintro X ⟨r,h1,h2⟩;exact ⟨r,h1,.inr ⟨hv,.inr ⟨i,.inr ⟨q,h2⟩⟩⟩⟩
    refine wrap ?_;have A:F5 0=some (cR 0):=O6 0 δ δ;simp only [cond_true,A,Ad];refine C6 (λs=>∃(j:Nat) (g:Ai),s=((j:Int),g.Neg,g.Num,g.Den)/\j<=p.length/\RB (1+j*1070000) g/\Ef g/\rq g=Ni x (C3 f res) (p.take j)) (λs=>p.length-s.1.toNat) (λz=>∃g:Ai,z=(g.Neg,g.Num,g.Den)/\Pk x p f res g) ⟨0,cR 0,rfl,ω,(H3 (k:=1) (by rw [Re]; decide) δ).mono ω,Uj 0,by rw [Mm]; rfl⟩ ?_ ?_
    .rintro s ⟨j,g,rfl,hj,hg,aa,D⟩;rcases Nat.lt_or_ge j p.length with h | h
     .have hx:p[j]? = some p[j]:=Be h;generalize p[j]=t at hx;have G:=Bg hx;obtain ⟨w,w1,U,_,R⟩:=A1s i (a8 t G);obtain ⟨m,_,m1,m2,_,m4⟩:=Uc (hp t G).co U δ δ;obtain ⟨c,_,c1,c2,c3,c4⟩:=Ub hg m2 ω δ;left;simp only [An (by omega:(j:Int)<(p.length:Int)),cond_true,Bi rfl hx,Ad,w1,m1,Co h ω];rw [show (I7 (Ai.mk g.Neg g.Num g.Den) m)=some c from c1,Ad];refine ⟨_,rfl,⟨j+1,c,rfl,ω,c2.mono ω,c3,?_⟩,by simp only [Int.toNat_natCast]; omega⟩;rw [c4,D,m4,R,Cu hx,Ahd];show _=_+(rq t.Coef*(Ul x (C3 f res) t.Mono:Rat)+0);grind
     .have:j=p.length:=ω;subst this;rw [List.take_length] at D;exact .inr ⟨(g.Neg,g.Num,g.Den),by simp only [Aq (by omega:¬(p.length:Int)<(p.length:Int)),cond_false],g,rfl,aa,hg.mono ω,D⟩
    .rintro z ⟨g,rfl,hE⟩;exact ⟨(g,0),by rw [<-Uk g],g,rfl,hE⟩
  .rw [Cs ω,cond_true];exact ⟨_,rfl,.inr ⟨hv,.inl ⟨i,rfl⟩⟩⟩
 .have:b=false:=(by cases b with| false=>rfl| true=>exact absurd (J.1 rfl) hv);subst this;exact ⟨_,rfl,.inl ⟨hv,rfl⟩⟩
theorem A1v (x:B8) (p:List A5) (f:List Ar) (res:Ar) (z:CSz x) (L:p.length<=1048576) (hp:∀t∈p,TSz t) (D:f.length<=1048576) (h:∀v∈f,B1 v<=1048576) (g:B1 res<=1048576):Zl x p f res=some true:=by
  unfold Zl;obtain ⟨b,b1,b2⟩:=A0t x z [p] ψ (λr E=>by simp only [List.mem_singleton] at E;subst E;exact ⟨L,hp⟩);obtain ⟨c,M⟩:=A1g f res D h g;rw [b1,Ad,M];cases b with
  | false=>rfl
  | true=>
    cases c with
    | false=>rfl
    | true=>
      obtain ⟨i,h1,J⟩:=A1c x z p hp f res h g;obtain ⟨G,h2,I⟩:=A1u x z p hp f res h g;have B:Nz ⟨false,[],[]⟩ ⟨false,[],[]⟩=some true:=Apj _ ψ ψ;have fin:i=G/\Nz i.1 i.1=some true:=by
        rcases J with ⟨k,rfl⟩ | ⟨k,⟨y,rfl⟩ | ⟨y,⟨s,rfl⟩ | ⟨s,u,rfl,hu⟩⟩⟩ <;> rcases I with ⟨l,rfl⟩ | ⟨l,⟨q,rfl⟩ | ⟨q,⟨j,rfl⟩ | ⟨j,w,rfl,hw⟩⟩⟩ <;> first
          | exact absurd k l
          | exact absurd l k
          | exact absurd y q
          | exact absurd q y
          | exact absurd s j
          | exact absurd j s
          | exact ⟨rfl,B⟩
          | (have e:u=w:=Ags hu.can hw.can (hu.val.trans hw.val.symm)
             subst e
             exact ⟨rfl,Apj u (by have:=hu.rb.nl; omega) (by have:=hu.rb.dl; omega)⟩)
      obtain ⟨rfl,A⟩:=fin;simp only [D3,cond_false,Ad,h1,h2,beq_self_eq_true,cond_true,A,A0h]
end Go.Ab
