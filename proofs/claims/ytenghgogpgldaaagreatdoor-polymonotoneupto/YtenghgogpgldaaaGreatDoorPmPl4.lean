/- Plain laws: what the plain functions answer. -/
import Derived.Test.YtenghgogpgldaaaGreatDoorPmPl3
namespace Go.Ab
open Go
theorem Ayn (a b:Ao) (j k:Nat) (ha:RB j a) (hb:RB k b) (hj:j<68719476736) (hk:k<68719476736) :
  Ov a b=some (Bf (Iz (sv a) (nv a) (dv a) (!sv b) (nv b) (dv b)) (Hj (sv a) (nv a) (dv a) (!sv b) (nv b) (dv b)) (dv a*dv b)):=by
 unfold Ov Qy
 have h1:=ha.nv
 have h2:=ha.dv
 have h3:=hb.nv
 have s:=hb.dv
 have q:=Fs (nv a) (dv b)
 have l:=Fs (nv b) (dv a)
 have i:=Fs (dv a) (dv b)
 have h:=U2 (nv a*dv b) (nv b*dv a)
 have g:=Gb (Nat.sub_le (nv a*dv b) (nv b*dv a))
 have f:=Gb (Nat.sub_le (nv b*dv a) (nv a*dv b))
 rw [Np b k hb (by omega),Ad,Np a j ha (by omega),Ad]
 dsimp only
 rw [Nn _ _ (by omega) (by omega),Ad,Nn _ _ (by omega) (by omega),Ad,Nn _ _ (by omega) (by omega),Ad]
 by_cases c:sv a = !sv b
 .have e:(sv a == !sv b)=true:=by rw [c]; exact beq_self_eq_true _
  rw [e,cond_true,Ajz _ _ (by omega) (by omega),Ad,Ad,Lh _ _ _ (by omega) (by omega),Iz,Hj,if_pos c,if_pos c]; rfl
 .have e:(sv a == !sv b)=false:=by
   cases h1:sv a <;> cases h2:sv b <;> simp_all
  rw [e,cond_false,Pj _ _ (by omega) (by omega),Ad,Iz,Hj,if_neg c,if_neg c]
  by_cases hc:nv b*dv a<=nv a*dv b
  .rw [Ap (show Dr (nv a*dv b) (nv b*dv a)>=0 by rw [Dr,if_neg (by omega)]; split <;> decide),cond_true,Y0 _ _ (by omega) hc,Ad,Ad,Lh _ _ _ (by omega) (by omega),if_pos hc,if_pos hc]; rfl
  .rw [A1 (show ¬Dr (nv a*dv b) (nv b*dv a)>=0 by rw [Dr,if_pos (by omega)]; decide),cond_false,Y0 _ _ (by omega) (by omega),Ad,Ad,Lh _ _ _ (by omega) (by omega),if_neg hc,if_neg hc]; rfl
theorem Ana (s:Bool) (n:Nat):sg (!s) n = - sg s n:=by
 unfold sg; cases s <;> simp
theorem Ayo {a b:Ao} {j k:Nat} (ha:RB j a) (hb:RB k b) (hj:j<34359738000) (hk:k<34359738000):∃c,Ov a b=some c/\RB (j+k+3) c/\Fh c/\rq c=rq a-rq b:=by
 have e:=Ayn a b j k ha hb (by omega) (by omega)
 have hd:dv a*dv b≠0:=Nat.mul_ne_zero (D6 a) (D6 b)
 have h1:=ha.nv
 have h2:=ha.dv
 have h3:=hb.nv
 have s:=hb.dv
 have q:=Fs (nv a) (dv b)
 have l:=Fs (nv b) (dv a)
 have i:=Fs (dv a) (dv b)
 have h:=U2 (nv a*dv b) (nv b*dv a)
 have g:=Gb (Nat.sub_le (nv a*dv b) (nv b*dv a))
 have f:=Gb (Nat.sub_le (nv b*dv a) (nv a*dv b))
 refine ⟨_,e,?_,Sa _ _ _ hd,?_⟩
 .refine J5 _ _ _ _ ?_ (by omega) (by omega)
  unfold Hj
  split
  .omega
  .split <;> omega
 .rw [Lm _ _ _ hd,Alx,Ana,rq,rq,show mkRat (sg (sv a) (nv a)) (dv a)-mkRat (sg (sv b) (nv b)) (dv b)=mkRat (sg (sv a) (nv a)) (dv a)+mkRat (-sg (sv b) (nv b)) (dv b) by rw [<-Rat.neg_mkRat]; grind,Rat.mkRat_add_mkRat _ _ (D6 a) (D6 b)]
theorem Anb (z:Int):mkRat z 1=(z:Rat):=by
 rw [Rat.mkRat_eq_div,show ((1:Nat):Rat)=1 from rfl]; grind
theorem Z8 (z:Int) (h1 : -9223372036854775808<=z) (h2:z<=9223372036854775807):∃r,De z=some r/\Qu z=some r/\RB 3 r/\Fh r/\rq r=(z:Rat):=by
 have b:A9 z.natAbs<=3:=Lg (n:=z.natAbs) (by omega)
 refine ⟨_,Rs z h1 h2,At5 z h1 h2,J5 _ _ _ _ b (by rw [L2]; decide) (by decide),Sa _ _ _ (by decide),?_⟩
 rw [Lm _ _ _ (by decide),Anb]
 congr 1
 unfold sg
 by_cases h:z<0
 .rw [Ap h,if_pos rfl]; omega
 .rw [A1 h,if_neg (by decide)]; omega
theorem Ayp (n:Nat) (c:n<1000000000):∃r,M3 1 ((n+1:Nat):Int)=some r/\RB 3 r/\rq r=1 / ((n+1:Nat):Rat):=by
 have e:=Aj5 1 ((n+1:Nat):Int) (by decide) (by decide) (by omega) (by omega) (by omega)
 have b:A9 ((n+1:Nat):Int).natAbs<=3:=Lg (by omega)
 refine ⟨_,e,J5 _ _ _ _ (Lg (by decide)) b (by decide),?_⟩
 rw [Lm _ _ _ (by omega),Rat.mkRat_eq_div]
 rw [A1 (by decide:¬(1:Int)<0),A1 (by omega:¬((n+1:Nat):Int)<0)]
 rfl
theorem Z9 (n:Nat):rq (cR n)=(n:Rat):=by
 unfold cR
 rw [Lm _ _ _ (by decide),Anb]; rfl
theorem Anc (n:Nat):Fh (cR n):=Sa _ _ _ (by decide)
theorem Ayq (n j:Nat):(((j+1:Nat):Int))*(bc n (j+1):Int)=((n:Int)-j)*bc n j:=by
 have h1:=V3 n (j+1)
 have h2:=V3 n j
 have c:=U9 j
 rcases Nat.lt_or_ge n j with h | h
 .have k:=V2 h
  have i:=V2 (show n<j+1 by omega)
  have b:=U9 (j+1)
  have b1:bc n j=0:=by
   rw [k] at h2
   rcases Nat.mul_eq_zero.1 h2.symm with h | h
   .exact (c h).elim
   .exact h
  have b2:bc n (j+1)=0:=by
   rw [i] at h1
   rcases Nat.mul_eq_zero.1 h1.symm with h | h
   .exact (b h).elim
   .exact h
  rw [b1,b2]; simp
 .rw [E6,h2] at h1
  have h3:fct j*(bc n j*(n-j))=fct j*((j+1)*bc n (j+1)):=by
   rw [<-Nat.mul_assoc,h1,fct]; simp only [Nat.mul_assoc]
  have g:=Nat.eq_of_mul_eq_mul_left (Nat.pos_of_ne_zero c) h3
  have f:((n:Int)-j)=((n-j:Nat):Int):=by omega
  rw [f,<-Int.natCast_mul,<-Int.natCast_mul,<-g,Nat.mul_comm]
theorem Ayr (n j:Nat):(bc n j:Rat)*(((n:Rat)-(j:Rat))*(1 / ((j+1:Nat):Rat)))=(bc n (j+1):Rat):=by
 have h:=congrArg (fun z:Int=>(z:Rat)) (Ayq n j)
 simp only [Rat.intCast_mul,Rat.intCast_sub,Rat.intCast_natCast] at h
 have b:((j+1:Nat):Rat)≠0:=by
  have:(0:Rat)<((j+1:Nat):Rat):=Rat.natCast_pos.2 (by omega)
  grind
 generalize ((j+1:Nat):Rat)=d at *
 grind
theorem Ane (a:Ao):Ao.mk a.Neg a.Num a.Den=a:=by cases a; rfl
theorem Ays {a:Ao} {K:Nat} {z:Int} (ha:RB K a) (X:K<=100000000) (i:rq a=(z:Rat)) (k:Nat) (hk:k<=64) :
  ∃c,Mx a (k:Int)=some c/\Fh c/\RB (3+k*(K+20)) c/\rq c=(bc z.toNat k:Rat):=by
 unfold Mx
 rw [(Zw ha (by omega)).1,Ad]
 obtain ⟨b,n,V,U,S,R⟩:∃(b:Ao) (n:Nat),(bif decide (I2 (rq a)<(0:Int)) then ((De 0).bind fun v4=>some (v4.Neg,v4.Num,v4.Den)) else some (a.Neg,a.Num,a.Den))=some (b.Neg,b.Num,b.Den)/\RB (K+3) b/\rq b=(n:Rat)/\n=z.toNat:=by
  by_cases h:z<0
  .have l:rq a<0:=by rw [i]; exact_mod_cast h
   have:I2 (rq a)<0:=by unfold I2; rw [if_pos l]; decide
   rw [Ap this,cond_true,Aev]
   exact ⟨cR 0,0,rfl,(Md (k:=1) (by rw [U1]; decide) (by decide)).mono (by omega),by rw [Z9],by omega⟩
  .have l:¬rq a<0:=by
    rw [i]; intro h2; exact h (by exact_mod_cast h2)
   have:¬I2 (rq a)<0:=by unfold I2; rw [if_neg l]; split <;> decide
   rw [A1 this,cond_false]
   refine ⟨a,z.toNat,rfl,ha.mono (by omega),?_,rfl⟩
   rw [i]
   have:z=((z.toNat:Nat):Int):=by omega
   exact (congrArg (fun y:Int=>(y:Rat)) this).trans (Rat.intCast_natCast _)
 erw [V]
 rw [Ad]
 dsimp only
 rw [Aew,Ad,<-R]
 refine Db (fun s=>∃(j:Nat) (P:Ao),s=((j:Int),P.Neg,P.Num,P.Den)/\j<=k/\Fh P/\RB (3+j*(K+20)) P/\rq P=(bc n j:Rat)) (fun s=>k-s.1.toNat)
  (fun e=>∃P:Ao,e=(P.Neg,P.Num,P.Den)/\Fh P/\RB (3+k*(K+20)) P/\rq P=(bc n k:Rat)) ⟨0,cR 1,rfl,by omega,Anc 1,(Md (k:=1) (by rw [L2]; decide) (by decide)).mono (by omega),by rw [Z9,Aeu]⟩ ?_ ?_
 .rintro s ⟨j,P,rfl,hj,hc,g,hv⟩
  rcases Nat.lt_or_ge j k with h | h
  .obtain ⟨r,G,_,E,_,D⟩:=Z8 (j:Int) (by omega) (by omega)
   obtain ⟨d,d1,d2,d3,d4⟩:=Ayo U E (by omega) (by omega)
   obtain ⟨w,A,x,u⟩:=Ayp j (by omega)
   obtain ⟨f,f1,_,f2,_,f3⟩:=Sb d2 x (by omega) (by omega)
   have N:j*(K+20)<=64*(K+20):=Nat.mul_le_mul_right _ (by omega)
   obtain ⟨q,M,_,L,J,I⟩:=Sb g f2 (by omega) (by omega)
   have B:Ac ((j:Int)+1)=((j+1:Nat):Int):=C2 h (by omega)
   simp only [Ap (by omega:(j:Int)<(k:Int)),cond_true,G,Ad,B,A]
   rw [show (Ov (Ao.mk b.Neg b.Num b.Den) r)=some d from d1,Ad,f1,Ad,show (Eh (Ao.mk P.Neg P.Num P.Den) f)=some q from M,Ad]
   refine .inl ⟨_,rfl,⟨j+1,q,rfl,by omega,J,L.mono (by rw [Nat.add_mul]; omega),?_⟩,by simp only [Int.toNat_natCast]; omega⟩
   rw [I,hv,f3,d4,u,S,D,Rat.intCast_natCast]
   exact Ayr n j
  .have:j=k:=by omega
   subst this
   exact .inr ⟨(P.Neg,P.Num,P.Den),by rw [A1 (by omega)]; rfl,P,rfl,hc,g,hv⟩
 .rintro e ⟨P,rfl,hc,g,hv⟩
  exact ⟨P,by rw [<-Ane P],hc,g,hv⟩
def Mf (val:Int->Ay) (l:Da):Int:=l.Const+(l.Terms.map fun t=>t.Coef*(val t.Var).Num).sum
end Go.Ab
namespace Go.Ab
open Go
def G9:List Nat->Nat
 | []=>1
 | a::l=>a*G9 l
theorem Anf:∀(l:List Nat) (a:Nat),G9 (l++[a])=G9 l*a
 | [],a=>by simp [G9]
 | b::l,a=>by rw [List.cons_append,G9,G9,Anf l a,Nat.mul_assoc]
theorem Ang {α:Type} {f:α->Nat} {l:List α} {j:Nat} {x:α} (h:l[j]? = some x):G9 ((l.take (j+1)).map f)=G9 ((l.take j).map f)*f x:=by
 rw [C7 h,List.map_append]; exact Anf _ _
def P1 (x:Cf) (val:Int->Ay) (f:Cj):Nat:=match tyX x.Vars x.Res f.Var with | some t=>bv x.Data f.Index t (val f.Var) | none=>0
def Sh (val:Int->Ay) (a:B8):Nat:=bc (Mf val a.Lin).toNat a.Deg.toNat
def P3 (x:Cf) (val:Int->Ay) (m:Ba):Nat:=G9 (m.Factors.map (P1 x val))*G9 (m.Atoms.map (Sh val))
def Im (x:Cf) (val:Int->Ay):List Aq->Rat
 | []=>0
 | t::p=>rq t.Coef*(P3 x val t.Mono:Rat)+Im x val p
theorem Anh (x:Cf) (val:Int->Ay):∀p q:List Aq,Im x val (p++q)=Im x val p+Im x val q
 | [],q=>by simp only [List.nil_append,Im]; grind
 | t::p,q=>by simp only [List.cons_append,Im,Anh x val p q]; grind
theorem Ayt {val:Int->Ay} (c:Int) {l:List C1} {j:Nat} {u:C1} (h:l[j]? = some u):Mf val ⟨c,l.take (j+1)⟩=Mf val ⟨c,l.take j⟩+u.Coef*(val u.Var).Num:=by
 unfold Mf
 rw [C7 h]
 simp only [List.map_append,List.sum_append,List.map_cons,List.map_nil,List.sum_cons,List.sum_nil]; omega
structure Ae9 (x:Cf) (env:List Ay) (res:Ay) (m:Ba):Prop where
 fl:m.Factors.length<=6
 al:m.Atoms.length<=6
 fac:∀f∈m.Factors,∃t,tyX x.Vars x.Res f.Var=some t/\On x.Data t f.Index (D9 env res f.Var)=some (cR (P1 x (D9 env res) f),0)/\P1 x (D9 env res) f<=5000 ^ 6
 atm:∀a∈m.Atoms,1<=a.Deg/\a.Deg<=6/\-1048576<=a.Lin.Const/\a.Lin.Const<=1048576/\a.Lin.Terms.length<=16 /\
  ∀u∈a.Lin.Terms,-1048576<=u.Coef/\u.Coef<=1048576/\∃t,tyX x.Vars x.Res u.Var=some t/\-1099511627776<=(D9 env res u.Var).Num/\(D9 env res u.Var).Num<=1099511627776
theorem Ayu {E R:Type} {step:Int×Bool×List Int×List Int->Option ((Int×Bool×List Int×List Int)⊕E)} {J:E->Option R} (F:List Cj) (v:Cj->Nat) (i:Ao->E) (I:F.length<=6) (hv:∀f∈F,v f<=5000 ^ 6)
  (q:∀(j:Nat) (f:Cj) (g c:Ao),F[j]? = some f->decide ((j:Int)<(F.length:Int))=true->Af F (j:Int)=some f->Ac ((j:Int)+1)=((j+1:Nat):Int)->Eh g (cR (v f))=some c->step ((j:Int),g.Neg,g.Num,g.Den)=some (.inl (((j+1:Nat):Int),c.Neg,c.Num,c.Den)))
  (u:∀g:Ao,decide ((F.length:Int)<(F.length:Int))=false->step ((F.length:Int),g.Neg,g.Num,g.Den)=some (.inr (i g))) {a:Ao} {K:Nat} (ha:RB K a) (G:K<=20000000) {Q:R->Prop}
  (x:∀m,RB (K+30) m->(F = []->m=a)->(F≠[]->Fh m)->rq m=rq a*(G9 (F.map v):Rat)->∃r,J (i m)=some r/\Q r):∃r,(Aj step (0,a.Neg,a.Num,a.Den)).bind J=some r/\Q r:=by
 refine Db (fun s=>∃(j:Nat) (g:Ao),s=((j:Int),g.Neg,g.Num,g.Den)/\j<=F.length/\RB (K+j*5) g/\(j=0->g=a)/\(0<j->Fh g)/\rq g=rq a*(G9 ((F.take j).map v):Rat)) (fun s=>F.length-s.1.toNat)
  (fun e=>∃g:Ao,e=i g/\RB (K+30) g/\(F = []->g=a)/\(F≠[]->Fh g)/\rq g=rq a*(G9 (F.map v):Rat)) ⟨0,a,rfl,by omega,ha.mono (by omega),fun _=>rfl,fun h=>by omega,by simp only [List.take_zero,List.map_nil,G9]; show _=_*(1:Rat); grind⟩ ?_ ?_
 .rintro s ⟨j,g,rfl,hj,l,h0,k,b⟩
  rcases Nat.lt_or_ge j F.length with h | h
  .have hx:F[j]? = some F[j]:=Bw h
   generalize F[j]=f at hx
   have hb:Sm (v f):=hv f (Bs hx)
   obtain ⟨c,D,_,B,A,z⟩:=Sb l (Md hb.lg (by decide)) (by omega) (by decide)
   rw [q j f g c hx (Ap (by omega)) (B1 rfl hx) (C2 h (by omega)) D]
   refine .inl ⟨_,rfl,⟨j+1,c,rfl,by omega,B.mono (by omega),fun h=>by omega,fun _=>A,?_⟩,by simp only [Int.toNat_natCast]; omega⟩
   rw [z,b,Z9,Ang hx,Rat.natCast_mul]; grind
  .have:j=F.length:=by omega
   subst this
   rw [List.take_length] at b
   refine .inr ⟨i g,u g (A1 (by omega)),g,rfl,l.mono (by omega),fun h=>h0 (by rw [h]; rfl),fun h=>k (List.length_pos_iff.2 h),b⟩
 .rintro e ⟨g,rfl,h1,h2,h3,y⟩
  exact x g h1 h2 h3 y
theorem Ayv {x:Cf} {f:List Ay} {res:Ay} (B:f.length=x.Vars.length) {l:Da} (hl:l.Terms.length<=16) (hc : -1048576<=l.Const/\l.Const<=1048576)
  (ht:∀u∈l.Terms,-1048576<=u.Coef/\u.Coef<=1048576/\∃t,tyX x.Vars x.Res u.Var=some t/\-1099511627776<=(D9 f res u.Var).Num/\(D9 f res u.Var).Num<=1099511627776) {R:Type} {J:Int×Bool×List Int×List Int->Option R} {Q:R->Prop}
  (I:∀g:Ao,RB 200 g->rq g=(Mf (D9 f res) l:Rat)->∃r,J ((l.Terms.length:Int),g.Neg,g.Num,g.Den)=some r/\Q r) :
  ∃r,((De l.Const).bind fun v183=>
   (Aj (S:=(Int×Bool×(List Int)×(List Int))) (E:=(Int×Bool×(List Int)×(List Int))) (fun (i,v193,v194,q)=>
   bif (decide (i<(l.Terms.length:Int))) then (
   (Af l.Terms i).bind fun v196=>
   (De v196.Coef).bind fun v198=>
   (Ja v196.Var res f).bind fun A=>
   (De A.Num).bind fun z=>
   (Eh v198 z).bind fun v201=>
   (Gr (Ao.mk v193 v194 q) v201).bind fun k=>
   some (.inl ((Ac (i+1)),k.Neg,k.Num,k.Den)))
   else some (.inr (i,v193,v194,q))) (0,v183.Neg,v183.Num,v183.Den)).bind J)=some r/\Q r:=by
 obtain ⟨a,a1,_,a2,a3,a4⟩:=Z8 l.Const (by omega) (by omega)
 rw [a1,Ad]
 refine Db (fun s=>∃(j:Nat) (g:Ao),s=((j:Int),g.Neg,g.Num,g.Den)/\j<=l.Terms.length/\RB (3+j*11) g/\rq g=(Mf (D9 f res) ⟨l.Const,l.Terms.take j⟩:Rat)) (fun s=>l.Terms.length-s.1.toNat)
  (fun e=>∃g:Ao,e=((l.Terms.length:Int),g.Neg,g.Num,g.Den)/\RB 200 g/\rq g=(Mf (D9 f res) l:Rat)) ⟨0,a,rfl,by omega,a2.mono (by omega),by rw [a4]; unfold Mf; simp⟩ ?_ ?_
 .rintro s ⟨j,g,rfl,hj,D,y⟩
  rcases Nat.lt_or_ge j l.Terms.length with h | h
  .have hx:l.Terms[j]? = some l.Terms[j]:=Bw h
   generalize l.Terms[j]=u at hx
   obtain ⟨u1,u2,t,G,u4,Z⟩:=ht u (Bs hx)
   obtain ⟨b,b1,_,b2,b3,Y⟩:=Z8 u.Coef (by omega) (by omega)
   obtain ⟨c,X,_,V,c3,U⟩:=Z8 (D9 f res u.Var).Num (by omega) (by omega)
   obtain ⟨d,d1,_,d2,d3,d4⟩:=Sb b2 V (by decide) (by decide)
   obtain ⟨e,N,_,M,e3,L⟩:=Zv D d2 (by omega) (by decide)
   simp only [Ap (by omega:(j:Int)<(l.Terms.length:Int)),cond_true,B1 rfl hx,Ad,b1,Ae0 B res G,X,d1,C2 h (by omega)]
   rw [show (Gr (Ao.mk g.Neg g.Num g.Den) d)=some e from N,Ad]
   refine .inl ⟨_,rfl,⟨j+1,e,rfl,by omega,M.mono (by omega),?_⟩,by simp only [Int.toNat_natCast]; omega⟩
   rw [L,y,d4,Y,U,Ayt _ hx,Rat.intCast_add,Rat.intCast_mul]
  .have:j=l.Terms.length:=by omega
   subst this
   rw [List.take_length] at y
   exact .inr ⟨((l.Terms.length:Int),g.Neg,g.Num,g.Den),by simp only [A1 (by omega:¬(l.Terms.length:Int)<(l.Terms.length:Int)),cond_false],g,rfl,D.mono (by omega),y⟩
 .rintro e ⟨g,rfl,h1,h2⟩
  exact I g h1 h2
end Go.Ab
namespace Go.Ab
open Go
theorem Ayw {x:Cf} {b:List Ay} {res:Ay} (N:b.length=x.Vars.length) {m:Ba} (V:Ae9 x b res m) {a:Ao} {K:Nat} (ha:RB K a) (hK:K<=20000000) {R:Type} {J:Int×Bool×List Int×List Int->Option R} {Q:R->Prop}
  (hJ:∀g:Ao,RB (K+12000) g->(m.Atoms = []->g=a)->(m.Atoms≠[]->Fh g)->rq g=rq a*(G9 (m.Atoms.map (Sh (D9 b res))):Rat)->∃r,J ((m.Atoms.length:Int),g.Neg,g.Num,g.Den)=some r/\Q r) :
  ∃r,(Aj (S:=(Int×Bool×(List Int)×(List Int))) (E:=(Int×Bool×(List Int)×(List Int))) (fun (k,A,z,y)=>
   bif (decide (k<(m.Atoms.length:Int))) then (
   (Af m.Atoms k).bind fun i=>
   (De i.Lin.Const).bind fun v183=>
   (Aj (S:=(Int×Bool×(List Int)×(List Int))) (E:=(Int×Bool×(List Int)×(List Int))) (fun (f,v193,v194,u)=>
   bif (decide (f<(i.Lin.Terms.length:Int))) then (
   (Af i.Lin.Terms f).bind fun v196=>
   (De v196.Coef).bind fun v198=>
   (Ja v196.Var res b).bind fun M=>
   (De M.Num).bind fun L=>
   (Eh v198 L).bind fun v201=>
   (Gr (Ao.mk v193 v194 u) v201).bind fun l=>
   some (.inl ((Ac (f+1)),l.Neg,l.Num,l.Den)))
   else some (.inr (f,v193,v194,u))) (0,v183.Neg,v183.Num,v183.Den)).bind fun (v203,I,G,v206)=>
   (Mx (Ao.mk I G v206) i.Deg).bind fun D=>
   (Eh (Ao.mk A z y) D).bind fun v208=>
   some (.inl ((Ac (k+1)),v208.Neg,v208.Num,v208.Den)))
   else some (.inr (k,A,z,y))) (0,a.Neg,a.Num,a.Den)).bind J=some r/\Q r:=by
 refine Db (fun s=>∃(j:Nat) (g:Ao),s=((j:Int),g.Neg,g.Num,g.Den)/\j<=m.Atoms.length/\RB (K+j*2000) g/\(j=0->g=a)/\(0<j->Fh g)/\rq g=rq a*(G9 ((m.Atoms.take j).map (Sh (D9 b res))):Rat)) (fun s=>m.Atoms.length-s.1.toNat)
  (fun e=>∃g:Ao,e=((m.Atoms.length:Int),g.Neg,g.Num,g.Den)/\RB (K+12000) g/\(m.Atoms = []->g=a)/\(m.Atoms≠[]->Fh g)/\rq g=rq a*(G9 (m.Atoms.map (Sh (D9 b res))):Rat)) ⟨0,a,rfl,by omega,ha.mono (by omega),fun _=>rfl,fun h=>by omega,by simp only [List.take_zero,List.map_nil,G9]; show _=_*(1:Rat); grind⟩ ?_ ?_
 .rintro s ⟨j,g,rfl,hj,X,h0,U,B⟩
  have a1:=V.al
  rcases Nat.lt_or_ge j m.Atoms.length with h | h
  .have hx:m.Atoms[j]? = some m.Atoms[j]:=Bw h
   generalize m.Atoms[j]=t at hx
   obtain ⟨t1,t2,t3,t4,t5,t6⟩:=V.atm t (Bs hx)
   left
   refine Rq ?_
   simp only [Ap (by omega:(j:Int)<(m.Atoms.length:Int)),cond_true,B1 rfl hx,Ad,C2 h (by omega)]
   refine Ayv N t5 ⟨t3,t4⟩ t6 fun n n1 n2=>?_
   obtain ⟨d,hd⟩:∃d:Nat,t.Deg=d:=⟨t.Deg.toNat,by omega⟩
   obtain ⟨c,c1,c2,c3,c4⟩:=Ays n1 (by decide) n2 d (by omega)
   obtain ⟨q,q1,_,q2,Z,Y⟩:=Sb X (c3.mono (show 3+d*(200+20)<=1900 by omega)) (by omega) (by decide)
   refine ⟨.inl (((j+1:Nat):Int),q.Neg,q.Num,q.Den),?_,_,rfl,⟨j+1,q,rfl,by omega,q2.mono (by omega),fun h=>by omega,fun _=>Z,?_⟩,by simp only [Int.toNat_natCast]; omega⟩
   .show (Mx n t.Deg).bind _=_
    rw [hd,c1,Ad]
    show (Eh g c).bind _=_
    rw [q1]; rfl
   .have:Sh (D9 b res) t=bc (Mf (D9 b res) t.Lin).toNat d:=by unfold Sh; rw [hd,Int.toNat_natCast]
    rw [Y,B,c4,Ang hx,Rat.natCast_mul,this]; grind
  .have:j=m.Atoms.length:=by omega
   subst this
   rw [List.take_length] at B
   refine .inr ⟨((m.Atoms.length:Int),g.Neg,g.Num,g.Den),by simp only [A1 (by omega:¬(m.Atoms.length:Int)<(m.Atoms.length:Int)),cond_false],g,rfl,X.mono (by omega),fun h=>h0 (by rw [h]; rfl),fun h=>U (List.length_pos_iff.2 h),B⟩
 .rintro e ⟨g,rfl,h1,h2,h3,h4⟩
  exact hJ g h1 h2 h3 h4
theorem Ayx (x:Cf) (h:CSz x) (g:Ft x) (i:A5) (t:Ag) (k:G5 x.Data t=true) (hi:Cr i<=1048576) (w:Ay) (l:Kt x.Data w t=true) {d:Nat} (hd:Et x.Data i t=some d) (c:d<=6) :
  On x.Data t i w=some (cR (bv x.Data i t w),0)/\bv x.Data i t w<=5000 ^ 6:=by
 have j:=k
 simp only [G5,Cl,decide_eq_true_eq] at j
 have f:=l
 unfold Kt at f
 simp only [Cl,decide_eq_true_eq] at f
 obtain ⟨⟨_,q⟩,s⟩:=f
 have d1:=Awe h.ds g.2.1 t k i hi
 obtain ⟨b,b1,u⟩:=Alt h.ds w t (by omega) (by omega)
 have hb:b=true:=u.2 ⟨g.2.1,l⟩
 subst hb
 refine ⟨?_,Nat.le_trans ((Sg x.Data 5000 (by decide) _).1 i t w d (Nat.le_refl _) hd q) (Nat.pow_le_pow_right (by decide) c)⟩
 unfold On Xw
 rw [d1,hd,Zl c,Ad,Ad,Ap (by omega),b1]
 simp only [Ad,bnt,cond_false]
 rw [Aym g.2.1.szv h.ds.sz.short g.2.1.cons8 (Cr i) i t w 4000000 d (Nat.le_refl _) (by omega) (by omega) hd c (by omega) s q]; rfl
theorem Ayy {x:Cf} (b:Ft x) {v:Int} {t:Ag} (h:tyX x.Vars x.Res v=some t):G5 x.Data t=true:=by
 unfold tyX at h
 by_cases e:v = -1
 .rw [if_pos e] at h; cases h; exact b.2.2.1
 .rw [if_neg e] at h
  exact List.all_eq_true.1 b.2.2.2 t (Ff h).2.2.2
theorem Ayz {x:Cf} {m:Ba} (h:J6 x m):∀v∈Jk m,∃t,tyX x.Vars x.Res v=some t:=by
 intro v hv
 unfold Jk J7 at hv
 rcases List.mem_append.1 hv with hv | hv
 .obtain ⟨f,c,rfl⟩:=List.mem_map.1 hv
  exact (Zu h.1).1 f c
 .obtain ⟨a,ha,hv⟩:=List.mem_flatMap.1 hv
  obtain ⟨u,hu,rfl⟩:=List.mem_map.1 hv
  have b:=h.1
  unfold Ij at b
  simp only [Cl] at b
  obtain ⟨j,hj⟩:=List.getElem?_of_mem ha
  have:=Gu b.1.2 hj
  simp only [Pq,Cl,decide_eq_true_eq] at this
  have hi:=List.all_eq_true.1 this.1.2 u hu
  unfold R5 at hi
  cases ht:tyX x.Vars x.Res u.Var with
  | none=>rw [ht] at hi; cases hi
  | some t=>exact ⟨t,rfl⟩
theorem Ay0 {x:Cf} (V:CSz x) (G:Ft x) {c:List Ay} {res:Ay} {m:Ba} (h:J6 x m) (s:∀v∈Jk m,Il x c res v=true):Ae9 x c res m:=by
 have hc:=h.cmo
 have A:=h.1
 have z:=Aet h.1 h.2
 have q:=Zu h.1
 unfold Ij at A
 simp only [Cl] at A
 have I:∀f∈m.Factors,Il x c res f.Var=true:=fun f g=>s _ (by unfold Jk; exact List.mem_append.2 (.inl (List.mem_map.2 ⟨f,g,rfl⟩)))
 refine ⟨q.2,?_,fun f g=>?_,fun a ha=>?_⟩
 .obtain ⟨_,_,h3,_⟩:=z
  first | exact h3 | omega
 .obtain ⟨t,ht⟩:=q.1 f g
  obtain ⟨j,hj⟩:=List.getElem?_of_mem g
  have k:=Gu A.1.1 hj
  simp only [Vq,Cl,decide_eq_true_eq] at k
  have h1:=k.1
  unfold Fg at h1
  rw [ht] at h1
  have h1:1<=Hx (Et x.Data f.Index t):=h1
  have X:Kt x.Data (D9 c res f.Var) t=true:=by
   have:=I f g
   unfold Il at this
   rw [ht] at this; exact this
  rcases Akw (Et x.Data f.Index t) with ⟨h2,_⟩ | ⟨d,h2,h3,_⟩
  .rw [h2] at h1; omega
  .obtain ⟨g1,g2⟩:=Ayx x V G f.Index t (Ayy G ht) (h.2.fi f g) _ X h2 h3
   have E:P1 x (D9 c res) f=bv x.Data f.Index t (D9 c res f.Var):=by unfold P1; rw [ht]
   rw [E]
   exact ⟨t,ht,g1,g2⟩
 .obtain ⟨j,hj⟩:=List.getElem?_of_mem ha
  have k:=Gu A.1.2 hj
  simp only [Pq,Cl,decide_eq_true_eq] at k
  obtain ⟨⟨⟨⟨U,B⟩,_⟩,S⟩,_⟩:=k
  have R:a.Deg<=6:=by
   obtain ⟨_,_,_,Y⟩:=z
   exact (Y a ha).2.2.2
  unfold Ii at B
  simp only [Cl,decide_eq_true_eq] at B
  obtain ⟨⟨N,M,L⟩,J⟩:=B
  refine ⟨U,R,N,M,L,fun u hu=>?_⟩
  obtain ⟨i,hi⟩:=List.getElem?_of_mem hu
  have y:=Gu J hi
  simp only [Vo,Cl,decide_eq_true_eq] at y
  obtain ⟨⟨_,_,_,c1,Z⟩,_⟩:=y
  have l:=List.all_eq_true.1 S u hu
  unfold R5 at l
  have b:Il x c res u.Var=true:=s _ (by
   unfold Jk J7
   exact List.mem_append.2 (.inr (List.mem_flatMap.2 ⟨a,ha,List.mem_map.2 ⟨u,hu,rfl⟩⟩)))
  cases ht:tyX x.Vars x.Res u.Var with
  | none=>rw [ht] at l; cases l
  | some t=>
   rw [ht] at l
   have D:t.Kind=1:=eq_of_beq l
   unfold Il at b
   rw [ht] at b
   have b:Kt x.Data (D9 c res u.Var) t=true:=b
   unfold Kt at b
   rw [R9,if_pos D] at b
   simp only [Cl,decide_eq_true_eq] at b
   exact ⟨c1,Z,t,rfl,b.2.1.1.2,b.2.1.2⟩
end Go.Ab
namespace Go.Ab
open Go
theorem Ay1 {x:Cf} (c:CSz x) (f:Ft x) (w:Ay) (t:Ag) (hw:Ce w<=1048576) (ht:Bg t<=200):Ls x.Data w t=some (Kt x.Data w t):=by
 obtain ⟨b,b1,g⟩:=Alt c.ds w t (by omega) (by omega)
 rw [b1]
 congr 1
 rw [Bool.eq_iff_iff,g]
 exact ⟨fun h=>h.2,fun h=>⟨f.2.1,h⟩⟩
theorem Ay2 (x:Cf) (q:CSz x) (s:Ft x) (b:List Ay) (res:Ay) (l:b.length=x.Vars.length) (k:∀v∈b,Ce v<=1048576) (f:Ce res<=1048576) (V:List Int) (y:V.length<=1000000) (i:∀v∈V,∃t,tyX x.Vars x.Res v=some t)
  (b1:List (ByteArray×Int)) (b2:List (ByteArray×List Df)) :
  Aj (S:=Int) (E:=((Ao×Int)⊕Unit)) (fun v17=>
   bif (decide (v17<(V.length:Int))) then (
   (Af V v17).bind fun c=>
   (Ja c res b).bind fun g=>
   (Kj c b1 b2 x.Data x.Vars x.Res.Kind x.Res.Num x.Res.Args).bind fun v20=>
   (Ls x.Data g v20).bind fun v21=>
   bif (!v21) then some (.inr (.inl ((Ao.mk false [] []),11)))
   else some (.inl (Ac (v17+1))))
   else some (.inr (.inr ()))) 0=some (bif V.all (Il x b res) then .inr () else .inl (⟨false,[],[]⟩,11)):=by
 rw [<-Option.bind_fun_some (Aj _ _)]
 refine U4 V (Il x b res) (fun j=>(j:Int)) rfl (by omega) ?_ ?_
 .intro j v hv h1 h2 h3
  obtain ⟨t,ht⟩:=i v (Bs hv)
  have u:=(s.ctx q).sz v t ht
  have hb:Il x b res v=Kt x.Data (D9 b res v) t:=by unfold Il; rw [ht]
  simp only [h1,h2,h3,cond_true,Ad,Ae0 l res ht,Ad8 (ht:=ht),Ay1 q s (D9 b res v) t (Axw k f v) (by omega),hb]
  cases Kt x.Data (D9 b res v) t with
  | true=>exact ⟨fun _=>rfl,fun h=>by cases h⟩
  | false=>exact ⟨(fun h=>by cases h),fun _=>⟨_,rfl,rfl⟩⟩
 .intro h
  exact ⟨.inr (),by simp only [h]; rfl,rfl⟩
theorem Ay3 {x:Cf} {p:List Aq} (hp:∀t∈p,J6 x t.Mono) (D:p.length<=1000):(Fk p).length<=102000:=by
 have key:∀q:List Aq,(∀t∈q,J6 x t.Mono)->(Fk q).length<=102*q.length:=by
  intro q
  induction q with
  | nil=>intro _; simp [Fk]
  | cons t q ih=>
   intro h
   have h1:=ih (fun u hu=>h u (by simp [hu]))
   have hc:=h t (by simp)
   have f:=hc.1
   have z:=(Zu f).2
   have s:=Aet hc.1 hc.2
   have B:t.Mono.Atoms.length<=6:=by
    obtain ⟨_,_,h3,_⟩:=s
    first | exact h3 | omega
   unfold Ij at f
   simp only [Cl] at f
   have b:∀a∈t.Mono.Atoms,a.Lin.Terms.length<=16:=by
    intro a ha
    obtain ⟨j,hj⟩:=List.getElem?_of_mem ha
    have c:=Gu f.1.2 hj
    simp only [Pq,Cl,decide_eq_true_eq] at c
    have i:=c.1.1.1.2
    unfold Ii at i
    simp only [Cl,decide_eq_true_eq] at i
    exact i.1.2.2
   have h2:∀A:List B8,(∀a∈A,a.Lin.Terms.length<=16)->(J7 A).length<=16*A.length:=by
    intro A
    induction A with
    | nil=>intro _; simp [J7]
    | cons a A k=>
     intro g
     have g1:=k (fun u hu=>g u (by simp [hu]))
     have g2:=g a (by simp)
     unfold J7 at *
     simp only [List.flatMap_cons,List.length_append,List.length_map,List.length_cons]; omega
   have h3:=h2 t.Mono.Atoms b
   have y:Fk (t::q)=Jk t.Mono++Fk q:=by simp [Fk]
   have l:(Jk t.Mono).length=t.Mono.Factors.length+(J7 t.Mono.Atoms).length:=by unfold Jk; simp
   rw [y,List.length_append,List.length_cons,l]; omega
 have:=key p hp
 omega
structure Si (x:Cf) (p:List Aq) (env:List Ay) (res:Ay) (u:Ao):Prop where
 can:Fh u
 rb:RB 2000000000 u
 val:rq u=Im x (D9 env res) p
theorem Ani (x:Cf) (L:CSz x) (p:List Aq) (hp:∀t∈p,TSz t) (b:List Ay) (res:Ay) (a6:∀v∈b,Ce v<=1048576) (G:Ce res<=1048576) :
  ∃r,Ok x p b res=some r/\((¬(Ft x/\Gd x.Data x.Vars x.Res p=true)/\r=(⟨false,[],[]⟩,1))\/((Ft x/\Gd x.Data x.Vars x.Res p=true) /\
   ((b.length≠x.Vars.length/\r=(⟨false,[],[]⟩,5))\/(b.length=x.Vars.length/\((¬(∀v∈Fk p,Il x b res v=true)/\r=(⟨false,[],[]⟩,11))\/((∀v∈Fk p,Il x b res v=true)/\∃u,r=(u,0)/\Si x p b res u)))))):=by
 by_cases hv:Ft x/\Gd x.Data x.Vars x.Res p=true
 .have hf:=hv.1
  have M:G8 x p:=⟨hv.2,hp⟩
  obtain ⟨b',hb,_⟩:=Aye L (ps:=[p]) (fun q hq=>by simp only [List.mem_singleton] at hq; subst hq; exact hp) (by simp) ⟨hv.1,fun q hq=>by simp only [List.mem_singleton] at hq; subst hq; exact hv.2⟩
  have hl:=(Pw.1 hv.2).1
  have a8:=Ay3 M.mo hl
  have a7:∀t∈p,t.Mono.Atoms.length<=1000000:=fun t ht=>by
   obtain ⟨_,_,h3,_⟩:=(M.mo t ht).cmo
   omega
  obtain ⟨V,v1,v2,v3,v4⟩:=Axz p (by omega) a7 (by omega)
  unfold Ok
  rw [hb]
  simp only [Ad,bnt,cond_false]
  by_cases l:b.length=x.Vars.length
  .rw [Fd (by omega),cond_false,v1,Ad]
   have S:∀v∈V,∃t,tyX x.Vars x.Res v=some t:=fun v R=>by
    have:=(v4 v).1 R
    unfold Fk at this
    obtain ⟨t,ht,D⟩:=List.mem_flatMap.1 this
    exact Ayz (M.mo t ht) v D
   rw [Ay2 x L hf b res l a6 G V v3 S b' [],Ad]
   cases y:V.all (Il x b res) with
   | false=>
    refine ⟨_,rfl,.inr ⟨hv,.inr ⟨l,.inl ⟨fun h=>?_,rfl⟩⟩⟩⟩
    rw [List.all_eq_false] at y
    obtain ⟨v,h1,h2⟩:=y
    exact h2 (h v ((v4 v).1 h1))
   | true=>
    have A:∀v∈Fk p,Il x b res v=true:=fun v h=>List.all_eq_true.1 y v ((v4 v).2 h)
    have U:∀t∈p,Ae9 x b res t.Mono:=fun t ht=>Ay0 L hf (M.mo t ht) fun v h=>A v (List.mem_flatMap.2 ⟨t,ht,h⟩)
    have wrap:∀{X:Option (Ao×Int)},(∃r,X=some r/\∃u,r=(u,0)/\Si x p b res u)->∃r,X=some r/\((¬(Ft x/\Gd x.Data x.Vars x.Res p=true)/\r=(⟨false,[],[]⟩,1))\/((Ft x/\Gd x.Data x.Vars x.Res p=true) /\
      ((b.length≠x.Vars.length/\r=(⟨false,[],[]⟩,5))\/(b.length=x.Vars.length/\((¬(∀v∈Fk p,Il x b res v=true)/\r=(⟨false,[],[]⟩,11))\/((∀v∈Fk p,Il x b res v=true)/\∃u,r=(u,0)/\Si x p b res u)))))):=by
     rintro X ⟨r,h1,h2⟩
     exact ⟨r,h1,.inr ⟨hv,.inr ⟨l,.inr ⟨A,h2⟩⟩⟩⟩
    refine wrap ?_
    simp only [cond_true,Aev,Ad]
    refine Db (fun s=>∃(j:Nat) (g:Ao),s=((j:Int),g.Neg,g.Num,g.Den)/\j<=p.length/\RB (1+j*1070000) g/\Fh g/\rq g=Im x (D9 b res) (p.take j)) (fun s=>p.length-s.1.toNat)
     (fun z=>∃g:Ao,z = .inr (g.Neg,g.Num,g.Den)/\Si x p b res g) ⟨0,cR 0,rfl,by omega,(Md (k:=1) (by rw [U1]; decide) (by decide)).mono (by omega),Anc 0,by rw [Z9]; rfl⟩ ?_ ?_
    .rintro s ⟨j,g,rfl,hj,hg,Y,B⟩
     rcases Nat.lt_or_ge j p.length with h | h
     .have hx:p[j]? = some p[j]:=Bw h
      generalize p[j]=t at hx
      have E:=Bs hx
      have D:=U t E
      left
      refine Rq ?_
      simp only [Ap (by omega:(j:Int)<(p.length:Int)),cond_true,B1 rfl hx,Ad,C2 h (by omega)]
      refine Ayu t.Mono.Factors (P1 x (D9 b res)) (fun c=>.inr ((t.Mono.Factors.length:Int),c.Neg,c.Num,c.Den)) D.fl (fun f Z=>by obtain ⟨_,_,_,h⟩:=D.fac f Z; exact h) ?_ ?_ (hp t E).co (by decide) fun m1 r1 _ _ q1=>?_
      .intro i f c c' a1 N k2 k3 I
       obtain ⟨ty,t1,t2,_⟩:=D.fac f (Bs a1)
       simp only [N,k2,k3,cond_true,Ad,Ad8 (ht:=t1),Ae0 l res t1,t2,bne_self_eq_false,cond_false]
       show (Eh c (cR (P1 x (D9 b res) f))).bind _=_
       rw [I]; rfl
      .intro c N
       simp only [N,cond_false]
      .dsimp only
       refine Ayw l D r1 (by decide) fun m2 r2 _ _ q2=>?_
       obtain ⟨c,c1,_,c2,c3,c4⟩:=Zv hg r2 (by omega) (by decide)
       refine ⟨.inl (((j+1:Nat):Int),c.Neg,c.Num,c.Den),?_,_,rfl,⟨j+1,c,rfl,by omega,c2.mono (by omega),c3,?_⟩,by simp only [Int.toNat_natCast]; omega⟩
       .show (Gr g m2).bind _=_
        rw [c1]; rfl
       .rw [c4,B,q2,q1,C7 hx,Anh]
        show _=_+(rq t.Coef*(P3 x (D9 b res) t.Mono:Rat)+0)
        unfold P3
        rw [Rat.natCast_mul]; grind
     .have:j=p.length:=by omega
      subst this
      rw [List.take_length] at B
      exact .inr ⟨.inr (g.Neg,g.Num,g.Den),by simp only [A1 (by omega:¬(p.length:Int)<(p.length:Int)),cond_false],g,rfl,Y,hg.mono (by omega),B⟩
    .rintro z ⟨g,rfl,hE⟩
     exact ⟨(g,0),by rw [<-Ane g],g,rfl,hE⟩
  .rw [Ec (by omega),cond_true]
   exact ⟨_,rfl,.inr ⟨hv,.inl ⟨l,rfl⟩⟩⟩
 .have J:¬(Ft x/\∀r∈[p],Gd x.Data x.Vars x.Res r=true):=fun h=>hv ⟨h.1,h.2 p (by simp)⟩
  have he:=Ayd L (ps:=[p]) (fun r hr=>by simp only [List.mem_singleton] at hr; subst hr; exact hp) (by simp) J
  refine ⟨_,?_,.inl ⟨hv,rfl⟩⟩
  unfold Ok
  rw [he]; rfl
end Go.Ab
namespace Go.Ab
open Go
open Classical in
noncomputable def cfW:List (Rat×Ba)->Ba->Rat
 | [],_=>0
 | t::l,m=>(if t.2=m then t.1 else 0)+cfW l m
def Ho (v:Ba->Nat):List (Rat×Ba)->Rat
 | []=>0
 | t::l=>t.1*(v t.2:Rat)+Ho v l
open Classical in
noncomputable def N0 (l:List (Rat×Ba)) (m:Ba):List (Rat×Ba):=l.filter fun t=>decide (t.2≠m)
open Classical in
theorem Anj (v:Ba->Nat) (m:Ba):∀l:List (Rat×Ba),Ho v l=cfW l m*(v m:Rat)+Ho v (N0 l m)
 | []=>by simp only [Ho,cfW,N0,List.filter_nil]; grind
 | t::l=>by
  have ih:=Anj v m l
  unfold N0 at *
  simp only [Ho,cfW]
  by_cases e:t.2=m
  .rw [if_pos e,List.filter_cons_of_neg (by simp [e]),ih,e]; grind
  .rw [if_neg e,List.filter_cons_of_pos (by simp [e])]
   simp only [Ho]
   rw [ih]; grind
open Classical in
theorem Ank (m:Ba):∀(l:List (Rat×Ba)) (m':Ba),cfW (N0 l m) m'=if m'=m then 0 else cfW l m'
 | [],m'=>by simp [N0,cfW]
 | t::l,m'=>by
  have ih:=Ank m l m'
  unfold N0 at *
  by_cases e:t.2=m
  .rw [List.filter_cons_of_neg (by simp [e]),ih]
   by_cases e2:m'=m
   .rw [if_pos e2,if_pos e2]
   .rw [if_neg e2,if_neg e2]
    simp only [cfW]
    rw [if_neg (by rw [e]; exact fun h=>e2 h.symm)]; grind
  .rw [List.filter_cons_of_pos (by simp [e])]
   simp only [cfW]
   rw [ih]
   by_cases e2:m'=m
   .rw [if_pos e2,if_pos e2,if_neg (by rw [e2]; exact e)]; grind
   .rw [if_neg e2,if_neg e2]
open Classical in
theorem Anl (v:Ba->Nat):∀(n:Nat) (l:List (Rat×Ba)),l.length<=n->(∀m,0<=cfW l m)->0<=Ho v l:=by
 intro n
 induction n with
 | zero=>
  intro l hl _
  have:l = []:=List.length_eq_zero_iff.1 (by omega)
  subst this
  exact Rat.le_refl
 | succ n ih=>
  intro l hl h
  cases l with
  | nil=>exact Rat.le_refl
  | cons t l=>
   rw [Anj v t.2 (t::l)]
   have h1:0<=Ho v (N0 (t::l) t.2):=by
    refine ih _ ?_ fun m=>?_
    .unfold N0
     rw [List.filter_cons_of_neg (by simp)]
     have:=List.length_filter_le (fun u:Rat×Ba=>decide (u.2≠t.2)) l
     simp only [List.length_cons] at hl; omega
    .rw [Ank]
     split
     .exact Rat.le_refl
     .exact h m
   have h2:=Rat.mul_nonneg (h t.2) (Rat.natCast_nonneg (a:=v t.2))
   grind
def wT (t:Aq):Rat×Ba:=(rq t.Coef,t.Mono)
def nT (t:Aq):Rat×Ba:=(- rq t.Coef,t.Mono)
theorem Anm (p:List Aq) (m:Ba):cfW (p.map wT) m=cf p m:=by
 induction p with
 | nil=>rfl
 | cons t p ih=>simp only [List.map_cons,cfW,ih,Mc,wT]
theorem Ay4 (p:List Aq) (m:Ba):cfW (p.map nT) m = - cf p m:=by
 induction p with
 | nil=>show (0:Rat) = - 0; grind
 | cons t p ih=>
  simp only [List.map_cons,cfW,ih,Mc,nT]
  split <;> grind
theorem Ay5 (l k:List (Rat×Ba)) (m:Ba):cfW (l++k) m=cfW l m+cfW k m:=by
 induction l with
 | nil=>simp only [List.nil_append,cfW]; grind
 | cons t l ih=>simp only [List.cons_append,cfW,ih]; grind
theorem Ay6 (v:Ba->Nat) (l k:List (Rat×Ba)):Ho v (l++k)=Ho v l+Ho v k:=by
 induction l with
 | nil=>simp only [List.nil_append,Ho]; grind
 | cons t l ih=>simp only [List.cons_append,Ho,ih]; grind
theorem Ano (x:Cf) (val:Int->Ay) (p:List Aq):Ho (P3 x val) (p.map wT)=Im x val p:=by
 induction p with
 | nil=>rfl
 | cons t p ih=>simp only [List.map_cons,Ho,Im,ih,wT]
theorem Ay7 (x:Cf) (val:Int->Ay) (p:List Aq):Ho (P3 x val) (p.map nT) = - Im x val p:=by
 induction p with
 | nil=>show (0:Rat) = - 0; grind
 | cons t p ih=>simp only [List.map_cons,Ho,Im,ih,nT]; grind
theorem Ay8 {x:Cf} {val:Int->Ay} {p q:List Aq} (h:∀m,cf q m<=cf p m):Im x val q<=Im x val p:=by
 have:=Anl (P3 x val) _ (p.map wT++q.map nT) (Nat.le_refl _) (fun m=>by
  rw [Ay5,Anm,Ay4]
  have:=h m
  grind)
 rw [Ay6,Ano,Ay7] at this
 grind
theorem Ay9 {x:Cf} {val:Int->Ay} {p:List Aq} (h:∀m,0<=cf p m):0<=Im x val p:=by
 have:=Anl (P3 x val) _ (p.map wT) (Nat.le_refl _) (fun m=>by rw [Anm]; exact h m)
 rwa [Ano] at this
theorem Aza {a b:Ao} {j k:Nat} (ha:RB j a) (hb:RB k b) (hj:j<34359737000) (hk:k<34359737000):∃c,Tl a b=some c/\RB (j+k+4) c/\Fh c/\rq c=rq a-rq b:=by
 have e:=At4 b k hb (by omega)
 have f:RB (k+1) (Bf (!sv b) (nv b) (dv b)):=J5 _ _ _ _ hb.nv hb.dv (by omega)
 obtain ⟨c,_,l,i,h,g⟩:=Zv ha f (by omega) (by omega)
 refine ⟨c,?_,i.mono (by omega),h,?_⟩
 .unfold Tl
  rw [e,Ad,l]; rfl
 .rw [g,Lm _ _ _ (D6 _),Ana,show rq b=mkRat (sg (sv b) (nv b)) (dv b) from rfl,<-Rat.neg_mkRat]; grind
theorem Azb {a b:Ao} {j k:Nat} (ha:RB j a) (hb:RB k b) (hj:j<17179868000) (hk:k<17179868000):Td a b=some (I2 (rq a-rq b)):=by
 obtain ⟨c,h,g,i,f⟩:=Aza ha hb (by omega) (by omega)
 unfold Td
 rw [h,Ad,(Zw g (by omega)).2,f]; rfl
theorem Anp:∀(k:Nat) (t:Ay) (a:Int),Ce t<=k->k<1099511627776->∃r,M1 k t a=some r/\True:=by
 intro k
 induction k with
 | zero=>intro i a h; have:=I1 i; omega
 | succ k ih=>
  intro i a h hk
  have f:=I1 i
  have g:=Pt i.Kids
  rw [M1]
  refine Lj ⟨_,rfl,trivial⟩ ?_
  refine Db (fun (v,_)=>∃j:Nat,v=j/\j<=i.Kids.length) (fun (v,_)=>i.Kids.length-v.toNat) (fun _=>True) ⟨0,rfl,by omega⟩ ?_ ?_
  .rintro ⟨v,b⟩ ⟨j,rfl,hj⟩
   rcases Nat.lt_or_ge j i.Kids.length with h' | h'
   .have hx:i.Kids[j]? = some i.Kids[j]:=Bw h'
    generalize i.Kids[j]=x at hx
    have l:=Ji (Bs hx)
    obtain ⟨⟨y,z⟩,c,_⟩:=ih x b (by omega) (by omega)
    simp only [Ap (by omega:(j:Int)<(i.Kids.length:Int)),cond_true,B1 rfl hx,Ad,c,C2 h' (by omega)]
    cases y with
    | false=>exact .inr ⟨_,rfl,trivial⟩
    | true=>exact .inl ⟨_,rfl,⟨j+1,rfl,by omega⟩,by simp only [Int.toNat_natCast]; omega⟩
   .have:j=i.Kids.length:=by omega
    subst this
    exact .inr ⟨.inr b,by simp,trivial⟩
  .rintro (⟨x,y⟩ | e) _
   .exact ⟨_,rfl,trivial⟩
   .exact ⟨_,rfl,trivial⟩
theorem Azc (l:List Ay) (n:Int) (g:l.length<=1048576) (h:∀t∈l,Ce t<=1048576):∃b,Tj l n=some b/\True:=by
 unfold Tj
 refine Db (fun s=>∃j:Nat,s.1=j/\j<=l.length) (fun s=>l.length-s.1.toNat) (fun _=>True) ⟨0,rfl,by omega⟩ ?_ ?_
 .rintro ⟨_,w⟩ ⟨j,rfl,hj⟩
  rcases Nat.lt_or_ge j l.length with h' | h'
  .have hx:l[j]? = some l[j]:=Bw h'
   generalize l[j]=x at hx
   obtain ⟨⟨c,f⟩,hb,_⟩:=Anp 4000000 x w (by have:=h x (Bs hx); omega) (by omega)
   simp only [Ap (by omega:(j:Int)<(l.length:Int)),cond_true,B1 rfl hx,Ad,hb,C2 h' (by omega)]
   cases decide ((j:Int)<=n) with
   | false=>exact .inr ⟨_,rfl,trivial⟩
   | true=>
    cases c with
    | false=>exact .inr ⟨_,rfl,trivial⟩
    | true=>exact .inl ⟨_,rfl,⟨j+1,rfl,by omega⟩,by simp only [Int.toNat_natCast]; omega⟩
  .simp only [A1 (by omega:¬(j:Int)<(l.length:Int)),cond_false]
   exact .inr ⟨_,rfl,trivial⟩
 .rintro (r | r) _
  .exact ⟨_,rfl,trivial⟩
  .exact ⟨_,rfl,trivial⟩
theorem Azd:∀(k:Nat) (v:Ay),Ce v<=k->k<1099511627776->∃r,Om k v=some r/\True:=by
 intro k
 induction k with
 | zero=>intro v h _; have:=R8 v; omega
 | succ k ih=>
  intro v h hk
  have hv:=I1 v
  have g:=Pt v.Kids
  rw [Om]
  refine Db (fun s=>∃j:Nat,s.2=j/\j<=v.Kids.length) (fun s=>v.Kids.length-s.2.toNat) (fun _=>True) ⟨0,rfl,by omega⟩ ?_ (fun e _=>⟨e,rfl,trivial⟩)
  rintro ⟨c,_⟩ ⟨j,rfl,hj⟩
  rcases Nat.lt_or_ge j v.Kids.length with h' | h'
  .have f:=Ji (List.getElem_mem h')
   obtain ⟨r,b,_⟩:=ih v.Kids[j] (by omega) (by omega)
   simp only [Ap (by omega:(j:Int)<(v.Kids.length:Int)),cond_true,Cz rfl h',Ad,b,C2 h' (by omega)]
   exact .inl ⟨_,rfl,⟨j+1,rfl,by omega⟩,by simp; omega⟩
  .simp only [A1 (by omega:¬(j:Int)<(v.Kids.length:Int)),cond_false]
   exact .inr ⟨_,rfl,trivial⟩
theorem Aze (c:List Ay) (res:Ay) (g:c.length<=1048576) (f:∀v∈c,Ce v<=1048576) (h:Ce res<=1048576):∃b,Tc c res=some b:=by
 unfold Tc
 obtain ⟨a,ha,_⟩:=Azc c 40 g f
 obtain ⟨r,i,_⟩:=Anp 4000000 res 400 (by omega) (by omega)
 obtain ⟨n,j,_⟩:=Azd 4000000 res (by omega) (by omega)
 have hb:Tk res=some r.1:=by unfold Tk; rw [i]; rfl
 rw [ha,hb,j]
 cases a with
 | false=>exact ⟨_,rfl⟩
 | true=>cases r.1 <;> exact ⟨_,rfl⟩
theorem Anq {q:Rat} (h:0<=q):0<=I2 q:=by
 unfold I2
 rw [if_neg (Rat.not_lt.2 h)]
 split <;> decide
theorem Azf (x:Cf) (p q:List Aq) (f:List Ay) (res:Ay) (l:CSz x) (Y:p.length<=1048576) (hp:∀t∈p,TSz t) (D:q.length<=1048576) (hq:∀t∈q,TSz t) (E:f.length<=1048576) (h:∀v∈f,Ce v<=1048576) (g:Ce res<=1048576):Xj x p q f res=some true:=by
 unfold Xj
 obtain ⟨b,b1,b2⟩:=Ax8 x l [p,q] (by simp) (fun r L=>by
  simp only [List.mem_cons,List.not_mem_nil,or_false] at L
  rcases L with rfl | rfl
  .exact ⟨Y,hp⟩
  .exact ⟨D,hq⟩)
 obtain ⟨c,c1⟩:=Aze f res E h g
 rw [b1,Ad,c1]
 cases b with
 | false=>rfl
 | true=>
  cases c with
  | false=>rfl
  | true=>
   have V:=(b2 rfl p (by simp)).1
   have U:=(b2 rfl q (by simp)).1
   obtain ⟨I,h1,R⟩:=Ani x l p hp f res h g
   obtain ⟨G,h2,N⟩:=Ani x l q hq f res h g
   simp only [bnt,cond_false,Ad,h1,h2,Axx]
   have z:I.2≠0\/(Ft x/\Gd x.Data x.Vars x.Res p=true)/\∃u,I=(u,0)/\Si x p f res u:=by
    rcases R with ⟨_,rfl⟩ | ⟨hv,⟨_,rfl⟩ | ⟨_,⟨_,rfl⟩ | ⟨_,u,rfl,hu⟩⟩⟩
    .exact .inl (by decide)
    .exact .inl (by decide)
    .exact .inl (by decide)
    .exact .inr ⟨hv,u,rfl,hu⟩
   have y:G.2≠0\/(Ft x/\Gd x.Data x.Vars x.Res q=true)/\∃u,G=(u,0)/\Si x q f res u:=by
    rcases N with ⟨_,rfl⟩ | ⟨hv,⟨_,rfl⟩ | ⟨_,⟨_,rfl⟩ | ⟨_,u,rfl,hu⟩⟩⟩
    .exact .inl (by decide)
    .exact .inl (by decide)
    .exact .inl (by decide)
    .exact .inr ⟨hv,u,rfl,hu⟩
   rcases z with J | ⟨i,u,rfl,hu⟩
   .rw [Co J,Ec J]; rfl
   .have M:G8 x p:=⟨i.2,hp⟩
    have B:=Amv (k:=1048576) p (fun t ht=>(hp t ht).co) (by decide) (by omega)
    have first:((bif ((0:Int)==0) then (Oj p).bind fun s=>(bif s then (Mv u).bind fun v11=>some (decide (v11<(0:Int))) else some false) else some false):Option Bool)=some false:=by
     rw [beq_self_eq_true,cond_true,B,Ad]
     cases j:p.all fun t=>decide (0<=rq t.Coef) with
     | false=>rfl
     | true=>
      have hc:=(Amw M.cp.dst).1 j
      have h0:0<=rq u:=by rw [hu.val]; exact Ay9 hc
      have:=Anq h0
      rw [cond_true,(Zw hu.rb (by decide)).2,Ad,A1 (by omega)]
    erw [first]
    simp only [Ad,cond_false,bne_self_eq_false]
    rcases y with S | ⟨A,w,rfl,hw⟩
    .rw [Ec S]; rfl
    .have Z:G8 x q:=⟨A.2,hq⟩
     obtain ⟨d,d1,d2⟩:=Axg l i.1 M Z
     simp only [bne_self_eq_false,cond_false,d1,Ad]
     cases d with
     | false=>rfl
     | true=>
      have X:=Ay8 (x:=x) (val:=D9 f res) (d2.1 rfl)
      have h0:0<=rq u-rq w:=by rw [hu.val,hw.val]; grind
      have:=Anq h0
      simp only [bnt,cond_false,Azb hu.rb hw.rb (by decide) (by decide),Ad]
      rw [Ap (by omega)]; rfl
end Go.Ab
