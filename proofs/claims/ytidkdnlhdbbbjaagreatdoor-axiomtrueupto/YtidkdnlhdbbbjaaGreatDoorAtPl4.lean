/- Plain laws: what the plain functions answer. -/
import Derived.Test.YtidkdnlhdbbbjaaGreatDoorAtPl3
namespace Go.Ab
open Go
theorem A2y (a b:Ak) (j k:Nat) (ha:RB j a) (hb:RB k b) (hj:j<68719476736) (hk:k<68719476736) :
  Qk a b=some (Bq (Jk (sv a) (nv a) (dv a) (!sv b) (nv b) (dv b)) (Ie (sv a) (nv a) (dv a) (!sv b) (nv b) (dv b)) (dv a*dv b)):=by
 unfold Qk Ta
 have h1:=ha.nv
 have h2:=ha.dv
 have h3:=hb.nv
 have s:=hb.dv
 have q:=Gz (nv a) (dv b)
 have l:=Gz (nv b) (dv a)
 have i:=Gz (dv a) (dv b)
 have h:=T8 (nv a*dv b) (nv b*dv a)
 have g:=G4 (Nat.sub_le (nv a*dv b) (nv b*dv a))
 have f:=G4 (Nat.sub_le (nv b*dv a) (nv a*dv b))
 rw [O8 b k hb (by omega),Ad,O8 a j ha (by omega),Ad]
 dsimp only
 rw [O6 _ _ (by omega) (by omega),Ad,O6 _ _ (by omega) (by omega),Ad,O6 _ _ (by omega) (by omega),Ad]
 by_cases c:sv a = !sv b
 .have e:(sv a == !sv b)=true:=by rw [c]; exact beq_self_eq_true _
  rw [e,cond_true,Am2 _ _ (by omega) (by omega),Ad,Ad,Mw _ _ _ (by omega) (by omega),Jk,Ie,if_pos c,if_pos c]; rfl
 .have e:(sv a == !sv b)=false:=by
   cases h1:sv a <;> cases h2:sv b <;> simp_all
  rw [e,cond_false,Rn _ _ (by omega) (by omega),Ad,Jk,Ie,if_neg c,if_neg c]
  by_cases hc:nv b*dv a<=nv a*dv b
  .rw [Am (show Eg (nv a*dv b) (nv b*dv a)>=0 by rw [Eg,if_neg (by omega)]; split <;> decide),cond_true,Abh _ _ (by omega) hc,Ad,Ad,Mw _ _ _ (by omega) (by omega),if_pos hc,if_pos hc]; rfl
  .rw [Ar (show ¬Eg (nv a*dv b) (nv b*dv a)>=0 by rw [Eg,if_pos (by omega)]; decide),cond_false,Abh _ _ (by omega) (by omega),Ad,Ad,Mw _ _ _ (by omega) (by omega),if_neg hc,if_neg hc]; rfl
theorem A2z (s:Bool) (n:Nat):sg (!s) n = - sg s n:=by
 unfold sg; cases s <;> simp
theorem A20 {a b:Ak} {j k:Nat} (ha:RB j a) (hb:RB k b) (hj:j<34359738000) (hk:k<34359738000):∃c,Qk a b=some c/\RB (j+k+3) c/\Fx c/\rq c=rq a-rq b:=by
 have e:=A2y a b j k ha hb (by omega) (by omega)
 have hd:dv a*dv b≠0:=Nat.mul_ne_zero (E7 a) (E7 b)
 have h1:=ha.nv
 have h2:=ha.dv
 have h3:=hb.nv
 have s:=hb.dv
 have q:=Gz (nv a) (dv b)
 have l:=Gz (nv b) (dv a)
 have i:=Gz (dv a) (dv b)
 have h:=T8 (nv a*dv b) (nv b*dv a)
 have g:=G4 (Nat.sub_le (nv a*dv b) (nv b*dv a))
 have f:=G4 (Nat.sub_le (nv b*dv a) (nv a*dv b))
 refine ⟨_,e,?_,Ph _ _ _ hd,?_⟩
 .refine K9 _ _ _ _ ?_ (by omega) (by omega)
  unfold Ie
  split
  .omega
  .split <;> omega
 .rw [Lc _ _ _ hd,Ao9,A2z,rq,rq,show mkRat (sg (sv a) (nv a)) (dv a)-mkRat (sg (sv b) (nv b)) (dv b)=mkRat (sg (sv a) (nv a)) (dv a)+mkRat (-sg (sv b) (nv b)) (dv b) by rw [<-Rat.neg_mkRat]; grind,Rat.mkRat_add_mkRat _ _ (E7 a) (E7 b)]
theorem Ahy (z:Int):mkRat z 1=(z:Rat):=by
 rw [Rat.mkRat_eq_div,show ((1:Nat):Rat)=1 from rfl]; grind
theorem Acw (z:Int) (h1 : -9223372036854775808<=z) (h2:z<=9223372036854775807):∃r,Dn z=some r/\RB 3 r/\Fx r/\rq r=(z:Rat):=by
 have b:Bd z.natAbs<=3:=No (n:=z.natAbs) (by omega)
 refine ⟨_,Ub z h1 h2,K9 _ _ _ _ b (by rw [L1]; decide) (by decide),Ph _ _ _ (by decide),?_⟩
 rw [Lc _ _ _ (by decide),Ahy]
 congr 1
 unfold sg
 by_cases h:z<0
 .rw [Am h,if_pos rfl]; omega
 .rw [Ar h,if_neg (by decide)]; omega
theorem A21 (n:Nat) (c:n<1000000000):∃r,Nf 1 ((n+1:Nat):Int)=some r/\RB 3 r/\rq r=1 / ((n+1:Nat):Rat):=by
 have e:=Am8 1 ((n+1:Nat):Int) (by decide) (by decide) (by omega) (by omega) (by omega)
 have b:Bd ((n+1:Nat):Int).natAbs<=3:=No (by omega)
 refine ⟨_,e,K9 _ _ _ _ (No (by decide)) b (by decide),?_⟩
 rw [Lc _ _ _ (by omega),Rat.mkRat_eq_div]
 rw [Ar (by decide:¬(1:Int)<0),Ar (by omega:¬((n+1:Nat):Int)<0)]
 rfl
theorem Pm (n:Nat):rq (cR n)=(n:Rat):=by
 unfold cR
 rw [Lc _ _ _ (by decide),Ahy]; rfl
theorem Aql (n:Nat):Fx (cR n):=Ph _ _ _ (by decide)
theorem A22 (n j:Nat):(((j+1:Nat):Int))*(bc n (j+1):Int)=((n:Int)-j)*bc n j:=by
 have h1:=Uv n (j+1)
 have h2:=Uv n j
 have c:=Ud j
 rcases Nat.lt_or_ge n j with h | h
 .have k:=X8 h
  have i:=X8 (show n<j+1 by omega)
  have b:=Ud (j+1)
  have b1:bc n j=0:=by
   rw [k] at h2
   rcases Nat.mul_eq_zero.1 h2.symm with h | h
   .exact (c h).elim
   .exact h
  have b2:bc n (j+1)=0:=by
   rw [i] at h1
   rcases Nat.mul_eq_zero.1 h1.symm with h | h
   .exact (b h).elim
   .exact h
  rw [b1,b2]; simp
 .rw [F1,h2] at h1
  have h3:fct j*(bc n j*(n-j))=fct j*((j+1)*bc n (j+1)):=by
   rw [<-Nat.mul_assoc,h1,fct]; simp only [Nat.mul_assoc]
  have g:=Nat.eq_of_mul_eq_mul_left (Nat.pos_of_ne_zero c) h3
  have f:((n:Int)-j)=((n-j:Nat):Int):=by omega
  rw [f,<-Int.natCast_mul,<-Int.natCast_mul,<-g,Nat.mul_comm]
theorem A23 (n j:Nat):(bc n j:Rat)*(((n:Rat)-(j:Rat))*(1 / ((j+1:Nat):Rat)))=(bc n (j+1):Rat):=by
 have h:=congrArg (fun z:Int=>(z:Rat)) (A22 n j)
 simp only [Rat.intCast_mul,Rat.intCast_sub,Rat.intCast_natCast] at h
 have b:((j+1:Nat):Rat)≠0:=by
  have:(0:Rat)<((j+1:Nat):Rat):=Rat.natCast_pos.2 (by omega)
  grind
 generalize ((j+1:Nat):Rat)=d at *
 grind
theorem Aqm (a:Ak):Ak.mk a.Neg a.Num a.Den=a:=by cases a; rfl
theorem A24 {a:Ak} {K:Nat} {z:Int} (ha:RB K a) (X:K<=100000000) (i:rq a=(z:Rat)) (k:Nat) (hk:k<=64) :
  ∃c,Of a (k:Int)=some c/\Fx c/\RB (3+k*(K+20)) c/\rq c=(bc z.toNat k:Rat):=by
 unfold Of
 rw [(X0 ha (by omega)).1,Ad]
 obtain ⟨b,n,V,U,S,R⟩:∃(b:Ak) (n:Nat),(bif decide (Jp (rq a)<(0:Int)) then ((Dn 0).bind fun v4=>some (v4.Neg,v4.Num,v4.Den)) else some (a.Neg,a.Num,a.Den))=some (b.Neg,b.Num,b.Den)/\RB (K+3) b/\rq b=(n:Rat)/\n=z.toNat:=by
  by_cases h:z<0
  .have l:rq a<0:=by rw [i]; exact_mod_cast h
   have:Jp (rq a)<0:=by unfold Jp; rw [if_pos l]; decide
   rw [Am this,cond_true,Acq]
   exact ⟨cR 0,0,rfl,(Kn (k:=1) (by rw [T7]; decide) (by decide)).mono (by omega),by rw [Pm],by omega⟩
  .have l:¬rq a<0:=by
    rw [i]; intro h2; exact h (by exact_mod_cast h2)
   have:¬Jp (rq a)<0:=by unfold Jp; rw [if_neg l]; split <;> decide
   rw [Ar this,cond_false]
   refine ⟨a,z.toNat,rfl,ha.mono (by omega),?_,rfl⟩
   rw [i]
   have:z=((z.toNat:Nat):Int):=by omega
   exact (congrArg (fun y:Int=>(y:Rat)) this).trans (Rat.intCast_natCast _)
 erw [V]
 rw [Ad]
 dsimp only
 rw [Pk,Ad,<-R]
 refine Ef (fun s=>∃(j:Nat) (P:Ak),s=((j:Int),P.Neg,P.Num,P.Den)/\j<=k/\Fx P/\RB (3+j*(K+20)) P/\rq P=(bc n j:Rat)) (fun s=>k-s.1.toNat)
  (fun e=>∃P:Ak,e=(P.Neg,P.Num,P.Den)/\Fx P/\RB (3+k*(K+20)) P/\rq P=(bc n k:Rat)) ⟨0,cR 1,rfl,by omega,Aql 1,(Kn (k:=1) (by rw [L1]; decide) (by decide)).mono (by omega),by rw [Pm,F8]⟩ ?_ ?_
 .rintro s ⟨j,P,rfl,hj,hc,g,hv⟩
  rcases Nat.lt_or_ge j k with h | h
  .obtain ⟨r,G,E,_,D⟩:=Acw (j:Int) (by omega) (by omega)
   obtain ⟨d,d1,d2,d3,d4⟩:=A20 U E (by omega) (by omega)
   obtain ⟨w,A,x,u⟩:=A21 j (by omega)
   obtain ⟨f,f1,f2,_,f3⟩:=Pi d2 x (by omega) (by omega)
   have N:j*(K+20)<=64*(K+20):=Nat.mul_le_mul_right _ (by omega)
   obtain ⟨q,M,L,J,I⟩:=Pi g f2 (by omega) (by omega)
   have B:Ac ((j:Int)+1)=((j+1:Nat):Int):=C8 h (by omega)
   simp only [Am (by omega:(j:Int)<(k:Int)),cond_true,G,Ad,B,A]
   rw [show (Qk (Ak.mk b.Neg b.Num b.Den) r)=some d from d1,Ad,f1,Ad,show (Eb (Ak.mk P.Neg P.Num P.Den) f)=some q from M,Ad]
   refine .inl ⟨_,rfl,⟨j+1,q,rfl,by omega,J,L.mono (by rw [Nat.add_mul]; omega),?_⟩,by simp only [Int.toNat_natCast]; omega⟩
   rw [I,hv,f3,d4,u,S,D,Rat.intCast_natCast]
   exact A23 n j
  .have:j=k:=by omega
   subst this
   exact .inr ⟨(P.Neg,P.Num,P.Den),by rw [Ar (by omega)]; rfl,P,rfl,hc,g,hv⟩
 .rintro e ⟨P,rfl,hc,g,hv⟩
  exact ⟨P,by rw [<-Aqm P],hc,g,hv⟩
def E2 (val:Int->Ay) (l:Be):Int:=l.Const+(l.Terms.map fun t=>t.Coef*(val t.Var).Num).sum
end Go.Ab
namespace Go.Ab
open Go
def Hq:List Nat->Nat
 | []=>1
 | a::l=>a*Hq l
theorem Aqn:∀(l:List Nat) (a:Nat),Hq (l++[a])=Hq l*a
 | [],a=>by simp [Hq]
 | b::l,a=>by rw [List.cons_append,Hq,Hq,Aqn l a,Nat.mul_assoc]
theorem Aqo {α:Type} {f:α->Nat} {l:List α} {j:Nat} {x:α} (h:l[j]? = some x):Hq ((l.take (j+1)).map f)=Hq ((l.take j).map f)*f x:=by
 rw [C5 h,List.map_append]; exact Aqn _ _
def R5 (x:Bo) (val:Int->Ay) (f:Cg):Nat:=match D2 x.Vars x.Res f.Var with | some t=>bv x.Data f.Index t (val f.Var) | none=>0
def Nx (val:Int->Ay) (a:Ba):Nat:=bc (E2 val a.Lin).toNat a.Deg.toNat
def Kr (x:Bo) (val:Int->Ay) (m:A8):Nat:=Hq (m.Factors.map (R5 x val))*Hq (m.Atoms.map (Nx val))
def Hk (x:Bo) (val:Int->Ay):List Aj->Rat
 | []=>0
 | t::p=>rq t.Coef*(Kr x val t.Mono:Rat)+Hk x val p
theorem Aqp (x:Bo) (val:Int->Ay):∀p q:List Aj,Hk x val (p++q)=Hk x val p+Hk x val q
 | [],q=>by simp only [List.nil_append,Hk]; grind
 | t::p,q=>by simp only [List.cons_append,Hk,Aqp x val p q]; grind
theorem A25 {val:Int->Ay} (c:Int) {l:List Bb} {j:Nat} {u:Bb} (h:l[j]? = some u):E2 val ⟨c,l.take (j+1)⟩=E2 val ⟨c,l.take j⟩+u.Coef*(val u.Var).Num:=by
 unfold E2
 rw [C5 h]
 simp only [List.map_append,List.sum_append,List.map_cons,List.map_nil,List.sum_cons,List.sum_nil]; omega
structure Ahz (x:Bo) (env:List Ay) (res:Ay) (m:A8):Prop where
 fl:m.Factors.length<=6
 al:m.Atoms.length<=6
 fac:∀f∈m.Factors,∃t,D2 x.Vars x.Res f.Var=some t/\Qg x.Data t f.Index (Dk env res f.Var)=some (cR (R5 x (Dk env res) f),0)/\R5 x (Dk env res) f<=5000 ^ 6
 atm:∀a∈m.Atoms,1<=a.Deg/\a.Deg<=6/\-1048576<=a.Lin.Const/\a.Lin.Const<=1048576/\a.Lin.Terms.length<=16 /\
  ∀u∈a.Lin.Terms,-1048576<=u.Coef/\u.Coef<=1048576/\∃t,D2 x.Vars x.Res u.Var=some t/\-1099511627776<=(Dk env res u.Var).Num/\(Dk env res u.Var).Num<=1099511627776
theorem A26 {E R:Type} {step:Int×Bool×List Int×List Int->Option ((Int×Bool×List Int×List Int)⊕E)} {J:E->Option R} (F:List Cg) (v:Cg->Nat) (i:Ak->E) (I:F.length<=6) (hv:∀f∈F,v f<=5000 ^ 6)
  (q:∀(j:Nat) (f:Cg) (g c:Ak),F[j]? = some f->decide ((j:Int)<(F.length:Int))=true->Ag F (j:Int)=some f->Ac ((j:Int)+1)=((j+1:Nat):Int)->Eb g (cR (v f))=some c->step ((j:Int),g.Neg,g.Num,g.Den)=some (.inl (((j+1:Nat):Int),c.Neg,c.Num,c.Den)))
  (u:∀g:Ak,decide ((F.length:Int)<(F.length:Int))=false->step ((F.length:Int),g.Neg,g.Num,g.Den)=some (.inr (i g))) {a:Ak} {K:Nat} (ha:RB K a) (G:K<=20000000) {Q:R->Prop}
  (x:∀m,RB (K+30) m->(F = []->m=a)->(F≠[]->Fx m)->rq m=rq a*(Hq (F.map v):Rat)->∃r,J (i m)=some r/\Q r):∃r,(Al step (0,a.Neg,a.Num,a.Den)).bind J=some r/\Q r:=by
 refine Ef (fun s=>∃(j:Nat) (g:Ak),s=((j:Int),g.Neg,g.Num,g.Den)/\j<=F.length/\RB (K+j*5) g/\(j=0->g=a)/\(0<j->Fx g)/\rq g=rq a*(Hq ((F.take j).map v):Rat)) (fun s=>F.length-s.1.toNat)
  (fun e=>∃g:Ak,e=i g/\RB (K+30) g/\(F = []->g=a)/\(F≠[]->Fx g)/\rq g=rq a*(Hq (F.map v):Rat)) ⟨0,a,rfl,by omega,ha.mono (by omega),fun _=>rfl,fun h=>by omega,by simp only [List.take_zero,List.map_nil,Hq]; show _=_*(1:Rat); grind⟩ ?_ ?_
 .rintro s ⟨j,g,rfl,hj,l,h0,k,b⟩
  rcases Nat.lt_or_ge j F.length with h | h
  .have hx:F[j]? = some F[j]:=B0 h
   generalize F[j]=f at hx
   have hb:Sm (v f):=hv f (B7 hx)
   obtain ⟨c,D,B,A,z⟩:=Pi l (Kn hb.lg (by decide)) (by omega) (by decide)
   rw [q j f g c hx (Am (by omega)) (Bw rfl hx) (C8 h (by omega)) D]
   refine .inl ⟨_,rfl,⟨j+1,c,rfl,by omega,B.mono (by omega),fun h=>by omega,fun _=>A,?_⟩,by simp only [Int.toNat_natCast]; omega⟩
   rw [z,b,Pm,Aqo hx,Rat.natCast_mul]; grind
  .have:j=F.length:=by omega
   subst this
   rw [List.take_length] at b
   refine .inr ⟨i g,u g (Ar (by omega)),g,rfl,l.mono (by omega),fun h=>h0 (by rw [h]; rfl),fun h=>k (List.length_pos_iff.2 h),b⟩
 .rintro e ⟨g,rfl,h1,h2,h3,y⟩
  exact x g h1 h2 h3 y
theorem A27 {x:Bo} {f:List Ay} {res:Ay} (B:f.length=x.Vars.length) {l:Be} (hl:l.Terms.length<=16) (hc : -1048576<=l.Const/\l.Const<=1048576)
  (ht:∀u∈l.Terms,-1048576<=u.Coef/\u.Coef<=1048576/\∃t,D2 x.Vars x.Res u.Var=some t/\-1099511627776<=(Dk f res u.Var).Num/\(Dk f res u.Var).Num<=1099511627776) {R:Type} {J:Int×Bool×List Int×List Int->Option R} {Q:R->Prop}
  (I:∀g:Ak,RB 200 g->rq g=(E2 (Dk f res) l:Rat)->∃r,J ((l.Terms.length:Int),g.Neg,g.Num,g.Den)=some r/\Q r) :
  ∃r,((Dn l.Const).bind fun v183=>
   (Al (S:=(Int×Bool×(List Int)×(List Int))) (E:=(Int×Bool×(List Int)×(List Int))) (fun (i,v193,v194,q)=>
   bif (decide (i<(l.Terms.length:Int))) then (
   (Ag l.Terms i).bind fun v196=>
   (Dn v196.Coef).bind fun v198=>
   (Kb v196.Var res f).bind fun A=>
   (Dn A.Num).bind fun z=>
   (Eb v198 z).bind fun v201=>
   (Hc (Ak.mk v193 v194 q) v201).bind fun k=>
   some (.inl ((Ac (i+1)),k.Neg,k.Num,k.Den)))
   else some (.inr (i,v193,v194,q))) (0,v183.Neg,v183.Num,v183.Den)).bind J)=some r/\Q r:=by
 obtain ⟨a,a1,a2,a3,a4⟩:=Acw l.Const (by omega) (by omega)
 rw [a1,Ad]
 refine Ef (fun s=>∃(j:Nat) (g:Ak),s=((j:Int),g.Neg,g.Num,g.Den)/\j<=l.Terms.length/\RB (3+j*11) g/\rq g=(E2 (Dk f res) ⟨l.Const,l.Terms.take j⟩:Rat)) (fun s=>l.Terms.length-s.1.toNat)
  (fun e=>∃g:Ak,e=((l.Terms.length:Int),g.Neg,g.Num,g.Den)/\RB 200 g/\rq g=(E2 (Dk f res) l:Rat)) ⟨0,a,rfl,by omega,a2.mono (by omega),by rw [a4]; unfold E2; simp⟩ ?_ ?_
 .rintro s ⟨j,g,rfl,hj,D,y⟩
  rcases Nat.lt_or_ge j l.Terms.length with h | h
  .have hx:l.Terms[j]? = some l.Terms[j]:=B0 h
   generalize l.Terms[j]=u at hx
   obtain ⟨u1,u2,t,G,u4,Z⟩:=ht u (B7 hx)
   obtain ⟨b,b1,b2,b3,Y⟩:=Acw u.Coef (by omega) (by omega)
   obtain ⟨c,X,V,c3,U⟩:=Acw (Dk f res u.Var).Num (by omega) (by omega)
   obtain ⟨d,d1,d2,d3,d4⟩:=Pi b2 V (by decide) (by decide)
   obtain ⟨e,N,_,M,e3,L⟩:=Ag0 D d2 (by omega) (by decide)
   simp only [Am (by omega:(j:Int)<(l.Terms.length:Int)),cond_true,Bw rfl hx,Ad,b1,Aho B res G,X,d1,C8 h (by omega)]
   rw [show (Hc (Ak.mk g.Neg g.Num g.Den) d)=some e from N,Ad]
   refine .inl ⟨_,rfl,⟨j+1,e,rfl,by omega,M.mono (by omega),?_⟩,by simp only [Int.toNat_natCast]; omega⟩
   rw [L,y,d4,Y,U,A25 _ hx,Rat.intCast_add,Rat.intCast_mul]
  .have:j=l.Terms.length:=by omega
   subst this
   rw [List.take_length] at y
   exact .inr ⟨((l.Terms.length:Int),g.Neg,g.Num,g.Den),by simp only [Ar (by omega:¬(l.Terms.length:Int)<(l.Terms.length:Int)),cond_false],g,rfl,D.mono (by omega),y⟩
 .rintro e ⟨g,rfl,h1,h2⟩
  exact I g h1 h2
end Go.Ab
namespace Go.Ab
open Go
theorem A28 {x:Bo} {b:List Ay} {res:Ay} (N:b.length=x.Vars.length) {m:A8} (V:Ahz x b res m) {a:Ak} {K:Nat} (ha:RB K a) (hK:K<=20000000) {R:Type} {J:Int×Bool×List Int×List Int->Option R} {Q:R->Prop}
  (hJ:∀g:Ak,RB (K+12000) g->(m.Atoms = []->g=a)->(m.Atoms≠[]->Fx g)->rq g=rq a*(Hq (m.Atoms.map (Nx (Dk b res))):Rat)->∃r,J ((m.Atoms.length:Int),g.Neg,g.Num,g.Den)=some r/\Q r) :
  ∃r,(Al (S:=(Int×Bool×(List Int)×(List Int))) (E:=(Int×Bool×(List Int)×(List Int))) (fun (k,A,z,y)=>
   bif (decide (k<(m.Atoms.length:Int))) then (
   (Ag m.Atoms k).bind fun i=>
   (Dn i.Lin.Const).bind fun v183=>
   (Al (S:=(Int×Bool×(List Int)×(List Int))) (E:=(Int×Bool×(List Int)×(List Int))) (fun (f,v193,v194,u)=>
   bif (decide (f<(i.Lin.Terms.length:Int))) then (
   (Ag i.Lin.Terms f).bind fun v196=>
   (Dn v196.Coef).bind fun v198=>
   (Kb v196.Var res b).bind fun M=>
   (Dn M.Num).bind fun L=>
   (Eb v198 L).bind fun v201=>
   (Hc (Ak.mk v193 v194 u) v201).bind fun l=>
   some (.inl ((Ac (f+1)),l.Neg,l.Num,l.Den)))
   else some (.inr (f,v193,v194,u))) (0,v183.Neg,v183.Num,v183.Den)).bind fun (v203,I,G,v206)=>
   (Of (Ak.mk I G v206) i.Deg).bind fun D=>
   (Eb (Ak.mk A z y) D).bind fun v208=>
   some (.inl ((Ac (k+1)),v208.Neg,v208.Num,v208.Den)))
   else some (.inr (k,A,z,y))) (0,a.Neg,a.Num,a.Den)).bind J=some r/\Q r:=by
 refine Ef (fun s=>∃(j:Nat) (g:Ak),s=((j:Int),g.Neg,g.Num,g.Den)/\j<=m.Atoms.length/\RB (K+j*2000) g/\(j=0->g=a)/\(0<j->Fx g)/\rq g=rq a*(Hq ((m.Atoms.take j).map (Nx (Dk b res))):Rat)) (fun s=>m.Atoms.length-s.1.toNat)
  (fun e=>∃g:Ak,e=((m.Atoms.length:Int),g.Neg,g.Num,g.Den)/\RB (K+12000) g/\(m.Atoms = []->g=a)/\(m.Atoms≠[]->Fx g)/\rq g=rq a*(Hq (m.Atoms.map (Nx (Dk b res))):Rat)) ⟨0,a,rfl,by omega,ha.mono (by omega),fun _=>rfl,fun h=>by omega,by simp only [List.take_zero,List.map_nil,Hq]; show _=_*(1:Rat); grind⟩ ?_ ?_
 .rintro s ⟨j,g,rfl,hj,X,h0,U,B⟩
  have a1:=V.al
  rcases Nat.lt_or_ge j m.Atoms.length with h | h
  .have hx:m.Atoms[j]? = some m.Atoms[j]:=B0 h
   generalize m.Atoms[j]=t at hx
   obtain ⟨t1,t2,t3,t4,t5,t6⟩:=V.atm t (B7 hx)
   left
   refine T6 ?_
   simp only [Am (by omega:(j:Int)<(m.Atoms.length:Int)),cond_true,Bw rfl hx,Ad,C8 h (by omega)]
   refine A27 N t5 ⟨t3,t4⟩ t6 fun n n1 n2=>?_
   obtain ⟨d,hd⟩:∃d:Nat,t.Deg=d:=⟨t.Deg.toNat,by omega⟩
   obtain ⟨c,c1,c2,c3,c4⟩:=A24 n1 (by decide) n2 d (by omega)
   obtain ⟨q,q1,q2,Z,Y⟩:=Pi X (c3.mono (show 3+d*(200+20)<=1900 by omega)) (by omega) (by decide)
   refine ⟨.inl (((j+1:Nat):Int),q.Neg,q.Num,q.Den),?_,_,rfl,⟨j+1,q,rfl,by omega,q2.mono (by omega),fun h=>by omega,fun _=>Z,?_⟩,by simp only [Int.toNat_natCast]; omega⟩
   .show (Of n t.Deg).bind _=_
    rw [hd,c1,Ad]
    show (Eb g c).bind _=_
    rw [q1]; rfl
   .have:Nx (Dk b res) t=bc (E2 (Dk b res) t.Lin).toNat d:=by unfold Nx; rw [hd,Int.toNat_natCast]
    rw [Y,B,c4,Aqo hx,Rat.natCast_mul,this]; grind
  .have:j=m.Atoms.length:=by omega
   subst this
   rw [List.take_length] at B
   refine .inr ⟨((m.Atoms.length:Int),g.Neg,g.Num,g.Den),by simp only [Ar (by omega:¬(m.Atoms.length:Int)<(m.Atoms.length:Int)),cond_false],g,rfl,X.mono (by omega),fun h=>h0 (by rw [h]; rfl),fun h=>U (List.length_pos_iff.2 h),B⟩
 .rintro e ⟨g,rfl,h1,h2,h3,h4⟩
  exact hJ g h1 h2 h3 h4
theorem A29 (x:Bo) (h:CSz x) (g:D9 x) (i:Bc) (t:Ah) (k:Gg x.Data t=true) (hi:Di i<=1048576) (w:Ay) (l:Kl x.Data w t=true) {d:Nat} (hd:Fh x.Data i t=some d) (c:d<=6) :
  Qg x.Data t i w=some (cR (bv x.Data i t w),0)/\bv x.Data i t w<=5000 ^ 6:=by
 have j:=k
 simp only [Gg,Cu,decide_eq_true_eq] at j
 have f:=l
 unfold Kl at f
 simp only [Cu,decide_eq_true_eq] at f
 obtain ⟨⟨_,q⟩,s⟩:=f
 have d1:=A0q h.ds g.2.1 t k i hi
 obtain ⟨b,b1,u⟩:=Ao4 h.ds w t (by omega) (by omega)
 have hb:b=true:=u.2 ⟨g.2.1,l⟩
 subst hb
 refine ⟨?_,Nat.le_trans ((Uw x.Data 5000 (by decide) _).1 i t w d (Nat.le_refl _) hd q) (Nat.pow_le_pow_right (by decide) c)⟩
 unfold Qg Z9
 rw [d1,hd,Ab4 c,Ad,Ad,Am (by omega),b1]
 simp only [Ad,Dt,cond_false]
 rw [A2x g.2.1.szv h.ds.sz.short g.2.1.cons8 (Di i) i t w 4000000 d (Nat.le_refl _) (by omega) (by omega) hd c (by omega) s q]; rfl
theorem A3a {x:Bo} (b:D9 x) {v:Int} {t:Ah} (h:D2 x.Vars x.Res v=some t):Gg x.Data t=true:=by
 unfold D2 at h
 by_cases e:v = -1
 .rw [if_pos e] at h; cases h; exact b.2.2.1
 .rw [if_neg e] at h
  exact List.all_eq_true.1 b.2.2.2 t (F5 h).2.2.2
theorem Aqq {x:Bo} {m:A8} (h:G2 x m):∀v∈Kp m,∃t,D2 x.Vars x.Res v=some t:=by
 intro v hv
 unfold Kp Ld at hv
 rcases List.mem_append.1 hv with hv | hv
 .obtain ⟨f,c,rfl⟩:=List.mem_map.1 hv
  exact (Acf h.1).1 f c
 .obtain ⟨a,ha,hv⟩:=List.mem_flatMap.1 hv
  obtain ⟨u,hu,rfl⟩:=List.mem_map.1 hv
  have b:=h.1
  unfold Iw at b
  simp only [Cu] at b
  obtain ⟨j,hj⟩:=List.getElem?_of_mem ha
  have:=Hx b.1.2 hj
  simp only [Lb,Cu,decide_eq_true_eq] at this
  have hi:=List.all_eq_true.1 this.1.2 u hu
  unfold Jn at hi
  cases ht:D2 x.Vars x.Res u.Var with
  | none=>rw [ht] at hi; cases hi
  | some t=>exact ⟨t,rfl⟩
theorem A3b {x:Bo} (V:CSz x) (G:D9 x) {c:List Ay} {res:Ay} {m:A8} (h:G2 x m) (s:∀v∈Kp m,Iy x c res v=true):Ahz x c res m:=by
 have hc:=h.cmo
 have A:=h.1
 have z:=Ahk h.1 h.2
 have q:=Acf h.1
 unfold Iw at A
 simp only [Cu] at A
 have I:∀f∈m.Factors,Iy x c res f.Var=true:=fun f g=>s _ (by unfold Kp; exact List.mem_append.2 (.inl (List.mem_map.2 ⟨f,g,rfl⟩)))
 refine ⟨q.2,?_,fun f g=>?_,fun a ha=>?_⟩
 .obtain ⟨_,_,h3,_⟩:=z
  first | exact h3 | omega
 .obtain ⟨t,ht⟩:=q.1 f g
  obtain ⟨j,hj⟩:=List.getElem?_of_mem g
  have k:=Hx A.1.1 hj
  simp only [Xs,Cu,decide_eq_true_eq] at k
  have h1:=k.1
  unfold F7 at h1
  rw [ht] at h1
  have h1:1<=I6 (Fh x.Data f.Index t):=h1
  have X:Kl x.Data (Dk c res f.Var) t=true:=by
   have:=I f g
   unfold Iy at this
   rw [ht] at this; exact this
  rcases An7 (Fh x.Data f.Index t) with ⟨h2,_⟩ | ⟨d,h2,h3,_⟩
  .rw [h2] at h1; omega
  .obtain ⟨g1,g2⟩:=A29 x V G f.Index t (A3a G ht) (h.2.fi f g) _ X h2 h3
   have E:R5 x (Dk c res) f=bv x.Data f.Index t (Dk c res f.Var):=by unfold R5; rw [ht]
   rw [E]
   exact ⟨t,ht,g1,g2⟩
 .obtain ⟨j,hj⟩:=List.getElem?_of_mem ha
  have k:=Hx A.1.2 hj
  simp only [Lb,Cu,decide_eq_true_eq] at k
  obtain ⟨⟨⟨⟨U,B⟩,_⟩,S⟩,_⟩:=k
  have R:a.Deg<=6:=by
   obtain ⟨_,_,_,Y⟩:=z
   exact (Y a ha).2.2.2
  unfold Cz at B
  simp only [Cu,decide_eq_true_eq] at B
  obtain ⟨⟨N,M,L⟩,J⟩:=B
  refine ⟨U,R,N,M,L,fun u hu=>?_⟩
  obtain ⟨i,hi⟩:=List.getElem?_of_mem hu
  have y:=Hx J hi
  simp only [Uk,Cu,decide_eq_true_eq] at y
  obtain ⟨⟨_,_,_,c1,Z⟩,_⟩:=y
  have l:=List.all_eq_true.1 S u hu
  unfold Jn at l
  have b:Iy x c res u.Var=true:=s _ (by
   unfold Kp Ld
   exact List.mem_append.2 (.inr (List.mem_flatMap.2 ⟨a,ha,List.mem_map.2 ⟨u,hu,rfl⟩⟩)))
  cases ht:D2 x.Vars x.Res u.Var with
  | none=>rw [ht] at l; cases l
  | some t=>
   rw [ht] at l
   have D:t.Kind=1:=eq_of_beq l
   unfold Iy at b
   rw [ht] at b
   have b:Kl x.Data (Dk c res u.Var) t=true:=b
   unfold Kl at b
   rw [Uo,if_pos D] at b
   simp only [Cu,decide_eq_true_eq] at b
   exact ⟨c1,Z,t,rfl,b.2.1.1.2,b.2.1.2⟩
end Go.Ab
namespace Go.Ab
open Go
theorem A3c {x:Bo} (c:CSz x) (f:D9 x) (w:Ay) (t:Ah) (hw:C6 w<=1048576) (ht:Bx t<=200):Na x.Data w t=some (Kl x.Data w t):=by
 obtain ⟨b,b1,g⟩:=Ao4 c.ds w t (by omega) (by omega)
 rw [b1]
 congr 1
 rw [Bool.eq_iff_iff,g]
 exact ⟨fun h=>h.2,fun h=>⟨f.2.1,h⟩⟩
theorem A3d (x:Bo) (q:CSz x) (s:D9 x) (b:List Ay) (res:Ay) (l:b.length=x.Vars.length) (k:∀v∈b,C6 v<=1048576) (f:C6 res<=1048576) (V:List Int) (y:V.length<=1000000) (i:∀v∈V,∃t,D2 x.Vars x.Res v=some t)
  (b1:List (ByteArray×Int)) (b2:List (ByteArray×List Dl)) :
  Al (S:=Int) (E:=((Ak×Int)⊕Unit)) (fun v17=>
   bif (decide (v17<(V.length:Int))) then (
   (Ag V v17).bind fun c=>
   (Kb c res b).bind fun g=>
   (Lr c b1 b2 x.Data x.Vars x.Res.Kind x.Res.Num x.Res.Args).bind fun v20=>
   (Na x.Data g v20).bind fun v21=>
   bif (!v21) then some (.inr (.inl ((Ak.mk false [] []),11)))
   else some (.inl (Ac (v17+1))))
   else some (.inr (.inr ()))) 0=some (bif V.all (Iy x b res) then .inr () else .inl (⟨false,[],[]⟩,11)):=by
 rw [<-Option.bind_fun_some (Al _ _)]
 refine W9 V (Iy x b res) (fun j=>(j:Int)) rfl (by omega) ?_ ?_
 .intro j v hv h1 h2 h3
  obtain ⟨t,ht⟩:=i v (B7 hv)
  have u:=(s.ctx q).sz v t ht
  have hb:Iy x b res v=Kl x.Data (Dk b res v) t:=by unfold Iy; rw [ht]
  simp only [h1,h2,h3,cond_true,Ad,Aho l res ht,Agt (ht:=ht),A3c q s (Dk b res v) t (A2j k f v) (by omega),hb]
  cases Kl x.Data (Dk b res v) t with
  | true=>exact ⟨fun _=>rfl,fun h=>by cases h⟩
  | false=>exact ⟨(fun h=>by cases h),fun _=>⟨_,rfl,rfl⟩⟩
 .intro h
  exact ⟨.inr (),by simp only [h]; rfl,rfl⟩
theorem A3e {x:Bo} {p:List Aj} (hp:∀t∈p,G2 x t.Mono) (D:p.length<=1000):(F9 p).length<=102000:=by
 have key:∀q:List Aj,(∀t∈q,G2 x t.Mono)->(F9 q).length<=102*q.length:=by
  intro q
  induction q with
  | nil=>intro _; simp [F9]
  | cons t q ih=>
   intro h
   have h1:=ih (fun u hu=>h u (by simp [hu]))
   have hc:=h t (by simp)
   have f:=hc.1
   have z:=(Acf f).2
   have s:=Ahk hc.1 hc.2
   have B:t.Mono.Atoms.length<=6:=by
    obtain ⟨_,_,h3,_⟩:=s
    first | exact h3 | omega
   unfold Iw at f
   simp only [Cu] at f
   have b:∀a∈t.Mono.Atoms,a.Lin.Terms.length<=16:=by
    intro a ha
    obtain ⟨j,hj⟩:=List.getElem?_of_mem ha
    have c:=Hx f.1.2 hj
    simp only [Lb,Cu,decide_eq_true_eq] at c
    have i:=c.1.1.1.2
    unfold Cz at i
    simp only [Cu,decide_eq_true_eq] at i
    exact i.1.2.2
   have h2:∀A:List Ba,(∀a∈A,a.Lin.Terms.length<=16)->(Ld A).length<=16*A.length:=by
    intro A
    induction A with
    | nil=>intro _; simp [Ld]
    | cons a A k=>
     intro g
     have g1:=k (fun u hu=>g u (by simp [hu]))
     have g2:=g a (by simp)
     unfold Ld at *
     simp only [List.flatMap_cons,List.length_append,List.length_map,List.length_cons]; omega
   have h3:=h2 t.Mono.Atoms b
   have y:F9 (t::q)=Kp t.Mono++F9 q:=by simp [F9]
   have l:(Kp t.Mono).length=t.Mono.Factors.length+(Ld t.Mono.Atoms).length:=by unfold Kp; simp
   rw [y,List.length_append,List.length_cons,l]; omega
 have:=key p hp
 omega
structure Acx (x:Bo) (p:List Aj) (env:List Ay) (res:Ay) (u:Ak):Prop where
 can:Fx u
 rb:RB 2000000000 u
 val:rq u=Hk x (Dk env res) p
theorem A3f (x:Bo) (L:CSz x) (p:List Aj) (hp:∀t∈p,TSz t) (b:List Ay) (res:Ay) (a6:∀v∈b,C6 v<=1048576) (G:C6 res<=1048576) :
  ∃r,Qf x p b res=some r/\((¬(D9 x/\Hh x.Data x.Vars x.Res p=true)/\r=(⟨false,[],[]⟩,1))\/((D9 x/\Hh x.Data x.Vars x.Res p=true) /\
   ((b.length≠x.Vars.length/\r=(⟨false,[],[]⟩,5))\/(b.length=x.Vars.length/\((¬(∀v∈F9 p,Iy x b res v=true)/\r=(⟨false,[],[]⟩,11))\/((∀v∈F9 p,Iy x b res v=true)/\∃u,r=(u,0)/\Acx x p b res u)))))):=by
 by_cases hv:D9 x/\Hh x.Data x.Vars x.Res p=true
 .have hf:=hv.1
  have M:Ho x p:=⟨hv.2,hp⟩
  obtain ⟨b',hb,_⟩:=Ahq L (ps:=[p]) (fun q hq=>by simp only [List.mem_singleton] at hq; subst hq; exact hp) (by simp) ⟨hv.1,fun q hq=>by simp only [List.mem_singleton] at hq; subst hq; exact hv.2⟩
  have hl:=(X1.1 hv.2).1
  have a8:=A3e M.mo hl
  have a7:∀t∈p,t.Mono.Atoms.length<=1000000:=fun t ht=>by
   obtain ⟨_,_,h3,_⟩:=(M.mo t ht).cmo
   omega
  obtain ⟨V,v1,v2,v3,v4⟩:=A2l p (by omega) a7 (by omega)
  unfold Qf
  rw [hb]
  simp only [Ad,Dt,cond_false]
  by_cases l:b.length=x.Vars.length
  .rw [Fp (by omega),cond_false,v1,Ad]
   have S:∀v∈V,∃t,D2 x.Vars x.Res v=some t:=fun v R=>by
    have:=(v4 v).1 R
    unfold F9 at this
    obtain ⟨t,ht,D⟩:=List.mem_flatMap.1 this
    exact Aqq (M.mo t ht) v D
   rw [A3d x L hf b res l a6 G V v3 S b' [],Ad]
   cases y:V.all (Iy x b res) with
   | false=>
    refine ⟨_,rfl,.inr ⟨hv,.inr ⟨l,.inl ⟨fun h=>?_,rfl⟩⟩⟩⟩
    rw [List.all_eq_false] at y
    obtain ⟨v,h1,h2⟩:=y
    exact h2 (h v ((v4 v).1 h1))
   | true=>
    have A:∀v∈F9 p,Iy x b res v=true:=fun v h=>List.all_eq_true.1 y v ((v4 v).2 h)
    have U:∀t∈p,Ahz x b res t.Mono:=fun t ht=>A3b L hf (M.mo t ht) fun v h=>A v (List.mem_flatMap.2 ⟨t,ht,h⟩)
    have wrap:∀{X:Option (Ak×Int)},(∃r,X=some r/\∃u,r=(u,0)/\Acx x p b res u)->∃r,X=some r/\((¬(D9 x/\Hh x.Data x.Vars x.Res p=true)/\r=(⟨false,[],[]⟩,1))\/((D9 x/\Hh x.Data x.Vars x.Res p=true) /\
      ((b.length≠x.Vars.length/\r=(⟨false,[],[]⟩,5))\/(b.length=x.Vars.length/\((¬(∀v∈F9 p,Iy x b res v=true)/\r=(⟨false,[],[]⟩,11))\/((∀v∈F9 p,Iy x b res v=true)/\∃u,r=(u,0)/\Acx x p b res u)))))):=by
     rintro X ⟨r,h1,h2⟩
     exact ⟨r,h1,.inr ⟨hv,.inr ⟨l,.inr ⟨A,h2⟩⟩⟩⟩
    refine wrap ?_
    simp only [cond_true,Acq,Ad]
    refine Ef (fun s=>∃(j:Nat) (g:Ak),s=((j:Int),g.Neg,g.Num,g.Den)/\j<=p.length/\RB (1+j*1070000) g/\Fx g/\rq g=Hk x (Dk b res) (p.take j)) (fun s=>p.length-s.1.toNat)
     (fun z=>∃g:Ak,z = .inr (g.Neg,g.Num,g.Den)/\Acx x p b res g) ⟨0,cR 0,rfl,by omega,(Kn (k:=1) (by rw [T7]; decide) (by decide)).mono (by omega),Aql 0,by rw [Pm]; rfl⟩ ?_ ?_
    .rintro s ⟨j,g,rfl,hj,hg,Y,B⟩
     rcases Nat.lt_or_ge j p.length with h | h
     .have hx:p[j]? = some p[j]:=B0 h
      generalize p[j]=t at hx
      have E:=B7 hx
      have D:=U t E
      left
      refine T6 ?_
      simp only [Am (by omega:(j:Int)<(p.length:Int)),cond_true,Bw rfl hx,Ad,C8 h (by omega)]
      refine A26 t.Mono.Factors (R5 x (Dk b res)) (fun c=>.inr ((t.Mono.Factors.length:Int),c.Neg,c.Num,c.Den)) D.fl (fun f Z=>by obtain ⟨_,_,_,h⟩:=D.fac f Z; exact h) ?_ ?_ (hp t E).co (by decide) fun m1 r1 _ _ q1=>?_
      .intro i f c c' a1 N k2 k3 I
       obtain ⟨ty,t1,t2,_⟩:=D.fac f (B7 a1)
       simp only [N,k2,k3,cond_true,Ad,Agt (ht:=t1),Aho l res t1,t2,bne_self_eq_false,cond_false]
       show (Eb c (cR (R5 x (Dk b res) f))).bind _=_
       rw [I]; rfl
      .intro c N
       simp only [N,cond_false]
      .dsimp only
       refine A28 l D r1 (by decide) fun m2 r2 _ _ q2=>?_
       obtain ⟨c,c1,_,c2,c3,c4⟩:=Ag0 hg r2 (by omega) (by decide)
       refine ⟨.inl (((j+1:Nat):Int),c.Neg,c.Num,c.Den),?_,_,rfl,⟨j+1,c,rfl,by omega,c2.mono (by omega),c3,?_⟩,by simp only [Int.toNat_natCast]; omega⟩
       .show (Hc g m2).bind _=_
        rw [c1]; rfl
       .rw [c4,B,q2,q1,C5 hx,Aqp]
        show _=_+(rq t.Coef*(Kr x (Dk b res) t.Mono:Rat)+0)
        unfold Kr
        rw [Rat.natCast_mul]; grind
     .have:j=p.length:=by omega
      subst this
      rw [List.take_length] at B
      exact .inr ⟨.inr (g.Neg,g.Num,g.Den),by simp only [Ar (by omega:¬(p.length:Int)<(p.length:Int)),cond_false],g,rfl,Y,hg.mono (by omega),B⟩
    .rintro z ⟨g,rfl,hE⟩
     exact ⟨(g,0),by rw [<-Aqm g],g,rfl,hE⟩
  .rw [Em (by omega),cond_true]
   exact ⟨_,rfl,.inr ⟨hv,.inl ⟨l,rfl⟩⟩⟩
 .have J:¬(D9 x/\∀r∈[p],Hh x.Data x.Vars x.Res r=true):=fun h=>hv ⟨h.1,h.2 p (by simp)⟩
  have he:=A2n L (ps:=[p]) (fun r hr=>by simp only [List.mem_singleton] at hr; subst hr; exact hp) (by simp) J
  refine ⟨_,?_,.inl ⟨hv,rfl⟩⟩
  unfold Qf
  rw [he]; rfl
end Go.Ab
namespace Go.Ab
open Go
open Classical in
noncomputable def cfW:List (Rat×A8)->A8->Rat
 | [],_=>0
 | t::l,m=>(if t.2=m then t.1 else 0)+cfW l m
def Fi (v:A8->Nat):List (Rat×A8)->Rat
 | []=>0
 | t::l=>t.1*(v t.2:Rat)+Fi v l
open Classical in
noncomputable def Pn (l:List (Rat×A8)) (m:A8):List (Rat×A8):=l.filter fun t=>decide (t.2≠m)
open Classical in
theorem Aqr (v:A8->Nat) (m:A8):∀l:List (Rat×A8),Fi v l=cfW l m*(v m:Rat)+Fi v (Pn l m)
 | []=>by simp only [Fi,cfW,Pn,List.filter_nil]; grind
 | t::l=>by
  have ih:=Aqr v m l
  unfold Pn at *
  simp only [Fi,cfW]
  by_cases e:t.2=m
  .rw [if_pos e,List.filter_cons_of_neg (by simp [e]),ih,e]; grind
  .rw [if_neg e,List.filter_cons_of_pos (by simp [e])]
   simp only [Fi]
   rw [ih]; grind
open Classical in
theorem Aqs (m:A8):∀(l:List (Rat×A8)) (m':A8),cfW (Pn l m) m'=if m'=m then 0 else cfW l m'
 | [],m'=>by simp [Pn,cfW]
 | t::l,m'=>by
  have ih:=Aqs m l m'
  unfold Pn at *
  by_cases e:t.2=m
  .rw [List.filter_cons_of_neg (by simp [e]),ih]
   by_cases e2:m'=m
   .rw [if_pos e2,if_pos e2]
   .rw [if_neg e2,if_neg e2]
    simp only [cfW]
    rw [if_neg (by rw [e]; exact fun h=>e2 h.symm)]; grind
  .rw [List.filter_cons_of_pos (by simp [e])]
   simp only [cfW]
   rw [ih]
   by_cases e2:m'=m
   .rw [if_pos e2,if_pos e2,if_neg (by rw [e2]; exact e)]; grind
   .rw [if_neg e2,if_neg e2]
open Classical in
theorem Aqt (v:A8->Nat):∀(n:Nat) (l:List (Rat×A8)),l.length<=n->(∀m,0<=cfW l m)->0<=Fi v l:=by
 intro n
 induction n with
 | zero=>
  intro l hl _
  have:l = []:=List.length_eq_zero_iff.1 (by omega)
  subst this
  exact Rat.le_refl
 | succ n ih=>
  intro l hl h
  cases l with
  | nil=>exact Rat.le_refl
  | cons t l=>
   rw [Aqr v t.2 (t::l)]
   have h1:0<=Fi v (Pn (t::l) t.2):=by
    refine ih _ ?_ fun m=>?_
    .unfold Pn
     rw [List.filter_cons_of_neg (by simp)]
     have:=List.length_filter_le (fun u:Rat×A8=>decide (u.2≠t.2)) l
     simp only [List.length_cons] at hl; omega
    .rw [Aqs]
     split
     .exact Rat.le_refl
     .exact h m
   have h2:=Rat.mul_nonneg (h t.2) (Rat.natCast_nonneg (a:=v t.2))
   grind
def wT (t:Aj):Rat×A8:=(rq t.Coef,t.Mono)
theorem A3g (p:List Aj) (m:A8):cfW (p.map wT) m=cf p m:=by
 induction p with
 | nil=>rfl
 | cons t p ih=>simp only [List.map_cons,cfW,ih,Uu,wT]
theorem Acy (l k:List (Rat×A8)) (m:A8):cfW (l++k) m=cfW l m+cfW k m:=by
 induction l with
 | nil=>simp only [List.nil_append,cfW]; grind
 | cons t l ih=>simp only [List.cons_append,cfW,ih]; grind
theorem Ah0 (v:A8->Nat) (l k:List (Rat×A8)):Fi v (l++k)=Fi v l+Fi v k:=by
 induction l with
 | nil=>simp only [List.nil_append,Fi]; grind
 | cons t l ih=>simp only [List.cons_append,Fi,ih]; grind
theorem A3h (x:Bo) (val:Int->Ay) (p:List Aj):Fi (Kr x val) (p.map wT)=Hk x val p:=by
 induction p with
 | nil=>rfl
 | cons t p ih=>simp only [List.map_cons,Fi,Hk,ih,wT]
end Go.Ab
namespace Go.Ab
open Go
def sm:Nat->(Nat->Nat)->Nat
 | 0,_=>0
 | n+1,f=>sm n f+f n
theorem Ux {f g:Nat->Nat}:∀{n:Nat},(∀k,k<n->f k=g k)->sm n f=sm n g
 | 0,_=>rfl
 | n+1,h=>by rw [sm,sm,Ux (n:=n) fun k hk=>h k (by omega),h n (by omega)]
theorem Uy (f g:Nat->Nat):∀n,sm n (fun k=>f k+g k)=sm n f+sm n g
 | 0=>rfl
 | n+1=>by simp only [sm,Uy f g n]; omega
theorem Aqu (c:Nat) (f:Nat->Nat):∀n,sm n (fun k=>c*f k)=c*sm n f
 | 0=>rfl
 | n+1=>by simp only [sm,Aqu c f n,Nat.mul_add]
theorem Yc {f:Nat->Nat}:∀{n:Nat},(∀k,k<n->f k=0)->sm n f=0
 | 0,_=>rfl
 | n+1,h=>by rw [sm,Yc (n:=n) fun k hk=>h k (by omega),h n (by omega)]
theorem Yd (f:Nat->Nat):∀n,sm (n+1) f=f 0+sm n (fun k=>f (k+1))
 | 0=>by simp [sm]
 | n+1=>by rw [sm,Yd f n,sm]; omega
theorem Aqv {f:Nat->Nat} {n:Nat}:∀{m:Nat},n<=m->(∀k,n<=k->f k=0)->sm m f=sm n f
 | 0,h,_=>by rw [show n=0 by omega]
 | m+1,h,b=>by
  by_cases e:n=m+1
  .rw [e]
  .rw [sm,Aqv (m:=m) (by omega) b,b m (by omega),Nat.add_zero]
theorem Acz {f:Nat->Nat} {n k:Nat} (hk:k<n) (b:∀j,j≠k->f j=0):sm n f=f k:=by
 induction n with
 | zero=>omega
 | succ n ih=>
  rw [sm]
  by_cases e:k=n
  .subst e
   rw [Yc fun j hj=>b j (by omega),Nat.zero_add]
  .rw [ih (by omega),b n (by omega),Nat.add_zero]
theorem R6:∀n,bc n n=1
 | 0=>rfl
 | n+1=>by
  rw [bc,R6 n]
  have:bc n (n+1)=0:=by have:=bc_big2 n (n+1) (by omega); exact this
  omega
where bc_big2:∀n k,n<k->bc n k=0
 | n,0,h=>absurd h (by omega)
 | 0,k+1,_=>rfl
 | n+1,k+1,h=>by rw [bc,bc_big2 n k (by omega),bc_big2 n (k+1) (by omega)]
theorem R7 {n k:Nat} (h:n<k):bc n k=0:=R6.bc_big2 n k h
theorem Ny (n k:Nat):bc (n+1) (k+1)=bc n k+bc n (k+1):=by rw [bc]
def Rc (a b k:Nat):Nat:=if b<=k then bc k a*bc a (k-b) else 0
theorem Aqw {a b k:Nat} (h:a+b<k):Rc a b k=0:=by
 unfold Rc
 rw [if_pos (by omega),R7 (show a<k-b by omega),Nat.mul_zero]
theorem A3i {a b k:Nat} (h:k<a):Rc a b k=0:=by
 unfold Rc
 split
 .rw [R7 h,Nat.zero_mul]
 .rfl
theorem Aqx (b k:Nat):Rc 0 b k=if k=b then 1 else 0:=by
 unfold Rc
 by_cases h:k=b
 .subst h; rw [if_pos (Nat.le_refl _),if_pos rfl,Nat.sub_self,F8,F8]
 .rw [if_neg h]
  split
  .rw [R7 (show 0<k-b by omega),Nat.mul_zero]
  .rfl
theorem Aqy (a k:Nat):Rc a 0 k=if k=a then 1 else 0:=by
 unfold Rc
 rw [if_pos (Nat.zero_le _),Nat.sub_zero]
 by_cases h:k=a
 .subst h; rw [if_pos rfl,R6]
 .rw [if_neg h]
  rcases Nat.lt_or_ge k a with h2 | h2
  .rw [R7 h2,Nat.zero_mul]
  .rw [R7 (show a<k by omega),Nat.mul_zero]
theorem A3j (a b k:Nat):Rc (a+1) (b+1) (k+1)=Rc a (b+1) k+Rc (a+1) b k+Rc a b k:=by
 unfold Rc
 by_cases h:b<=k
 .rw [if_pos (by omega),if_pos h,if_pos h,show k+1-(b+1)=k-b by omega,Ny]
  by_cases h2:b+1<=k
  .rw [if_pos h2]
   obtain ⟨j,hj⟩:∃j,k-b=j+1:=⟨k-b-1,by omega⟩
   rw [hj,show k-(b+1)=j by omega,Ny]
   simp only [Nat.add_mul,Nat.mul_add]; omega
  .rw [if_neg h2,show k-b=0 by omega,F8,F8]; omega
 .rw [if_neg (by omega),if_neg h,if_neg h,if_neg (by omega)]
theorem A3k (a b:Nat):Rc (a+1) (b+1) 0=0:=by
 unfold Rc; rw [if_neg (by omega)]
theorem A3l (f:Nat->Nat) (n N:Nat):sm (N+1) (fun k=>f k*bc (n+1) k)=sm (N+1) (fun k=>f k*bc n k)+sm N (fun k=>f (k+1)*bc n k):=by
 rw [Yd,Yd (fun k=>f k*bc n k),F8,F8]
 have:sm N (fun k=>f (k+1)*bc (n+1) (k+1))=sm N (fun k=>f (k+1)*bc n (k+1))+sm N (fun k=>f (k+1)*bc n k):=by
  rw [<-Uy]
  exact Ux fun k _=>by rw [Ny,Nat.mul_add]; omega
 rw [this]; omega
theorem Ye:∀(n a b N:Nat),a+b<N->sm N (fun k=>Rc a b k*bc n k)=bc n a*bc n b
 | n,0,b,N,h=>by
  rw [F8,Nat.one_mul,Acz (k:=b) (by omega) fun j hj=>by rw [Aqx,if_neg hj,Nat.zero_mul],Aqx,if_pos rfl,Nat.one_mul]
 | n,a+1,0,N,h=>by
  rw [F8,Nat.mul_one,Acz (k:=a+1) (by omega) fun j hj=>by rw [Aqy,if_neg hj,Nat.zero_mul],Aqy,if_pos rfl,Nat.one_mul]
 | 0,a+1,b+1,N,h=>by
  rw [show bc 0 (a+1)=0 from rfl,Nat.zero_mul]
  refine Yc fun k _=>?_
  cases k with
  | zero=>rw [A3k,Nat.zero_mul]
  | succ k=>rw [show bc 0 (k+1)=0 from rfl,Nat.mul_zero]
 | n+1,a+1,b+1,N,h=>by
  obtain ⟨N,rfl⟩:∃M,N=M+1:=⟨N-1,by omega⟩
  rw [A3l,Ye n (a+1) (b+1) (N+1) h]
  have h1:=Ye n a (b+1) N (by omega)
  have h2:=Ye n (a+1) b N (by omega)
  have h3:=Ye n a b N (by omega)
  have c:sm N (fun k=>Rc (a+1) (b+1) (k+1)*bc n k)=sm N (fun k=>Rc a (b+1) k*bc n k)+sm N (fun k=>Rc (a+1) b k*bc n k)+sm N (fun k=>Rc a b k*bc n k):=by
   rw [<-Uy,<-Uy]
   exact Ux fun k _=>by rw [A3j,Nat.add_mul,Nat.add_mul]
  rw [c,h1,h2,h3,Ny,Ny,Nat.add_mul,Nat.mul_add,Nat.mul_add]; omega
theorem Aqz {f g:Nat->Nat} {N:Nat} (h:∀n,n<N->sm N (fun k=>f k*bc n k)=sm N (fun k=>g k*bc n k)):∀k,k<N->f k=g k:=by
 intro k
 induction k using Nat.strongRecOn with
 | ind k ih=>
  intro hk
  have cut:∀F:Nat->Nat,sm N (fun j=>F j*bc k j)=sm k (fun j=>F j*bc k j)+F k:=by
   intro F
   have e:sm N (fun j=>F j*bc k j)=sm (k+1) (fun j=>F j*bc k j):=Aqv (by omega) fun j hj=>by rw [R7 (by omega),Nat.mul_zero]
   rw [e,sm,R6,Nat.mul_one]
  have:=h k hk
  rw [cut f,cut g,Ux (f:=fun j=>f j*bc k j) (g:=fun j=>g j*bc k j) fun j hj=>by rw [ih j hj (by omega)]] at this
  omega
theorem Ah1:∀(m n K:Nat),bc (m+n) K=sm (K+1) (fun j=>bc m j*bc n (K-j))
 | 0,n,K=>by
  rw [Nat.zero_add,Acz (k:=0) (by omega) fun j hj=>by rw [R7 (by omega),Nat.zero_mul],F8,Nat.one_mul,Nat.sub_zero]
 | m+1,n,0=>by rw [F8,sm,sm,F8,F8]
 | m+1,n,K+1=>by
  rw [show m+1+n=(m+n)+1 by omega,Ny,Ah1 m n K,Ah1 m n (K+1),Yd _ (K+1),Yd _ (K+1),F8,F8]
  have:sm (K+1) (fun k=>bc (m+1) (k+1)*bc n (K+1-(k+1)))=sm (K+1) (fun j=>bc m j*bc n (K-j))+sm (K+1) (fun k=>bc m (k+1)*bc n (K+1-(k+1))):=by
   rw [<-Uy]
   exact Ux fun k _=>by rw [Ny,Nat.add_mul,show K+1-(k+1)=K-k by omega]
  rw [this]; omega
end Go.Ab
namespace Go.Ab
open Go
noncomputable def Uz {α:Type} (cmp:α->α->Option Int) (a0:Int):Int×List α->Option ((Int×List α)⊕(Int×List α)):=fun (v31,b)=>
 (show Option Bool from
 bif (decide (v31>a0)) then (
 (Ag b v31).bind fun v33=>
 (Ag b (Ac (v31-1))).bind fun g=>
 (cmp v33 g).bind fun v35=>
 some (decide (v35<(0:Int))))
 else some false).bind fun f=>
 bif f then (
 (Ag b (Ac (v31-1))).bind fun v37=>
 (Ag b v31).bind fun c=>
 (Ag b v31).bind fun v39=>
 (Ag (Ca b v31 v37) (Ac (v31-1))).bind fun v40=>
 some (.inl ((Ac (v31-1)),(Ca (Ca b v31 v37) (Ac (v31-1)) c))))
 else some (.inr (v31,b))
noncomputable def Yf {α:Type} (cmp:α->α->Option Int) (a0 a1:Int) (g:List α):Option (List α) :=
 (Al (S:=(Int×(List α))) (E:=(List α)) (fun (v21,b)=>
 bif (decide (v21<a1)) then (
 (Al (Uz cmp a0) (v21,b)).bind fun (v41,f)=>
 some (.inl ((Ac (v21+1)),f))
 )
 else (
 some (.inr b)
 )
  ) ((Ac (a0+1)),g)).bind fun c=>
 some c
theorem A3m {α:Type} (A R:List α) (x y:α):((A++y::x::R).set (A.length+1) y).set A.length x=A++x::y::R:=by
 induction A with
 | nil=>rfl
 | cons a A ih=>simp only [List.cons_append,List.length_cons,List.set_cons_succ,ih]
theorem Ah2 {α:Type} (A R:List α) (x:α):(A++x::R)[A.length]? = some x:=by simp
theorem A3n {α:Type} (A R:List α) (x y:α):(A++y::x::R)[A.length+1]? = some x:=by
 induction A with
 | nil=>rfl
 | cons a A ih=>simp
theorem A3o {α:Type} (cmp:α->α->Option Int) (y:α) (R:List α):Uz cmp 0 (0,y::R)=some (.inr (0,y::R)):=by
 unfold Uz
 simp only [Ar (by omega:¬(0:Int)>0),cond_false,Ad]
theorem A3p {α:Type} {cmp:α->α->Option Int} {c:α->α->Int} {N:Nat} (i:N<=1099511627776) (A R:List α) (u y:α) (b:cmp u y=some (c u y)) (f:(A++y::u::R).length<=N):Uz cmp 0 (((A.length+1:Nat):Int),A++y::u::R) =
  if c u y<0 then some (.inl ((A.length:Int),A++u::y::R)) else some (.inr (((A.length+1:Nat):Int),A++y::u::R)):=by
 have h:A.length+1<N:=by simp at f; omega
 have g:Ac (((A.length+1:Nat):Int)-1)=(A.length:Int):=by rw [Ac,Bs] <;> omega
 unfold Uz
 simp only [Am (by omega:((A.length+1:Nat):Int)>0),cond_true,g,Bw (n:=A.length+1) rfl (A3n A R u y),Bw (n:=A.length) rfl (Ah2 A (u::R) y),Ad,b]
 by_cases hc:c u y<0
 .rw [Am hc,if_pos hc]
  simp only [cond_true]
  rw [Ff (n:=A.length+1) rfl,Ff (n:=A.length) rfl,A3m]
  have:Ag ((A++y::u::R).set (A.length+1) y) (A.length:Int)=some y:=by
   refine Bw rfl ?_
   rw [List.getElem?_set_ne (by omega)]; exact Ah2 A (u::R) y
  rw [this]; rfl
 .rw [Ar hc,if_neg hc]; rfl
theorem A3q {α:Type} {cmp:α->α->Option Int} {c:α->α->Int} {N:Nat} (s:N<=1099511627776) :
  ∀(n:Nat) (A R:List α) (x:α),A.length=n->(∀t∈A,cmp x t=some (c x t))->(A++x::R).length<=N ->
   ∃f i,Al (Uz cmp 0) ((A.length:Int),A++x::R)=some ((f.length:Int),f++x::(i++R))/\A=f++i/\(∀a∈i,c x a<0)/\∀k y,f=k++[y]->¬c x y<0:=by
 intro n
 induction n with
 | zero=>
  intro A R x g _ _
  have:A = []:=List.length_eq_zero_iff.1 g
  subst this
  exact ⟨[],[],Ee (A3o cmp x R),rfl,(fun _ h=>by cases h),(fun k y h=>by simp at h)⟩
 | succ n ih=>
  intro A R x g l b
  obtain ⟨B,y,rfl⟩:∃B y,A=B++[y]:=by
   rcases List.eq_nil_or_concat A with h | ⟨B,y,h⟩
   .rw [h] at g; cases g
   .exact ⟨B,y,by simpa using h⟩
  have u:B.length=n:=by simpa using g
  have E:(B++[y])++x::R=B++y::x::R:=by simp
  have el:(((B++[y]).length:Nat):Int)=((B.length+1:Nat):Int):=by simp
  rw [E] at b ⊢
  rw [el]
  have j:=A3p (cmp:=cmp) (c:=c) s B R x y (l y (by simp)) b
  by_cases hc:c x y<0
  .rw [if_pos hc] at j
   obtain ⟨f,i,h1,h2,h3,D⟩:=ih B (y::R) x u (fun t ht=>l t (by simp [ht])) (by simpa using b)
   refine ⟨f,i++[y],?_,by rw [h2]; simp,?_,D⟩
   .rw [Je j,h1]; simp
   .intro a ha
    rcases List.mem_append.1 ha with ha | ha
    .exact h3 a ha
    .simp only [List.mem_singleton] at ha
     subst ha; exact hc
  .rw [if_neg hc] at j
   refine ⟨B++[y],[],?_,by simp,(fun _ h=>by cases h),?_⟩
   .rw [Ee j]; simp
   .intro k z q
    have:=List.append_inj' q rfl
    have e:y=z:=by simpa using this.2
    subst e; exact hc
theorem A3r {α:Type} {c:α->α->Int} (L:Oc c) {f j:List α} {x:α} (s:(f++j).Pairwise (fun a b=>¬c b a<0)) (h2:∀a∈j,c x a<0) (h1:∀g y,f=g++[y]->¬c x y<0):(f++x::j).Pairwise (fun a b=>¬c b a<0):=by
 obtain ⟨i,l,k⟩:=List.pairwise_append.1 s
 have hx:∀a∈f,¬c x a<0:=by
  intro a ha
  rcases List.eq_nil_or_concat f with h | ⟨g,y,h⟩
  .rw [h] at ha; cases ha
  .have h:f=g++[y]:=by simpa using h
   have q:=h1 g y h
   rw [h] at ha i
   rcases List.mem_append.1 ha with ha | ha
   .exact L.ntr x y a q ((List.pairwise_append.1 i).2.2 a ha y (by simp))
   .simp only [List.mem_singleton] at ha
    subst ha; exact q
 refine List.pairwise_append.2 ⟨i,List.pairwise_cons.2 ⟨fun a ha h=>L.irr x (L.trs x a x (h2 a ha) h),l⟩,fun a ha b hb=>?_⟩
 rcases List.mem_cons.1 hb with rfl | hb
 .exact hx a ha
 .exact k a ha b hb
theorem Aq0 {α:Type} {cmp:α->α->Option Int} {c:α->α->Int} (L:Oc c) (f:List α) (A:∀x∈f,∀y∈f,cmp x y=some (c x y)) (J:f.length<=1099511627776) :
  ∃R,Yf cmp 0 (f.length:Int) f=some R/\R.Perm f/\R.Pairwise (fun a b=>¬c b a<0):=by
 unfold Yf
 cases f with
 | nil=>
  refine ⟨[],?_,List.Perm.refl _,List.Pairwise.nil⟩
  refine Hn 0 (fun _=>((1:Int),([]:List α))) (by simp [Ac,Bs]) (fun j hj=>by omega) ⟨[],?_,rfl⟩
  simp
 | cons z0 B=>
 generalize k:z0::B=f at *
 have hpos:1<=f.length:=by rw [<-k]; simp
 refine Ef (fun s=>∃(i:Nat) (S:List α),s=((i:Int),S++f.drop i)/\1<=i/\i<=f.length/\S.length=i/\S.Perm (f.take i)/\S.Pairwise (fun a b=>¬c b a<0)) (fun s=>f.length-s.1.toNat)
  (fun R=>R.Perm f/\R.Pairwise (fun a b=>¬c b a<0)) ⟨1,[z0],by rw [<-k]; simp [Ac,Bs],by omega,hpos,rfl,by rw [<-k]; simp,List.pairwise_singleton _ _⟩ ?_ ?_
 .rintro _ ⟨i,S,rfl,G,hi,E,g,l⟩
  rcases Nat.lt_or_ge i f.length with h | h
  .have hx:f[i]? = some f[i]:=B0 h
   have hxm:f[i]∈f:=List.getElem_mem h
   generalize f[i]=x at hx hxm
   have D:f.drop i=x::f.drop (i+1):=Iu hx
   have z:(S++x::f.drop (i+1)).length=f.length:=by simp; omega
   simp only [Am (by omega:(i:Int)<(f.length:Int)),cond_true,C8 h (by omega)]
   rw [D]
   left
   obtain ⟨u,q,h1,h2,h3,I⟩:=A3q (cmp:=cmp) (c:=c) (N:=f.length) (by omega) S.length S (f.drop (i+1)) x rfl (fun t ht=>A x hxm t (List.mem_of_mem_take (g.mem_iff.1 ht))) (by rw [z]; exact Nat.le_refl _)
   rw [E] at h1
   have hp:(u++x::q).Perm (f.take (i+1)):=by
    rw [C5 hx]
    have:(u++x::q).Perm ((u++q)++[x]):=by
     rw [List.append_assoc]
     exact List.Perm.append_left u (List.perm_append_singleton x q).symm
    exact this.trans (by rw [<-h2]; exact g.append_right [x])
   refine ⟨(((i+1:Nat):Int),(u++x::q)++f.drop (i+1)),bnd h1 (by simp),⟨i+1,u++x::q,rfl,by omega,by omega,?_,hp,?_⟩,by simp; omega⟩
   .rw [hp.length_eq,List.length_take]; omega
   .rw [h2] at l
    exact A3r L l h3 I
  .have:i=f.length:=by omega
   subst this
   rw [List.take_length] at g
   simp only [Ar (by omega:¬(f.length:Int)<(f.length:Int)),cond_false,List.drop_length,List.append_nil]
   exact .inr ⟨S,rfl,g,l⟩
 .rintro R ⟨h1,h2⟩
  exact ⟨R,rfl,h1,h2⟩
noncomputable def Aq1 {α:Type} (B:Nat) (gr:Int->Option (List α)) (a0:List (List α)):Option (List α) :=
 (Al (S:=(Int×Int)) (E:=Int) (fun (v2,v3)=>
 bif (decide (v3<(a0.length:Int))) then (
 (Ag a0 v3).bind fun v4=>
 bif (decide ((Ac (v2+(v4.length:Int)))<(0:Int))) then (
 none
 )
 else (
 some (.inl ((Ac (v2+(v4.length:Int))),(Ac (v3+1))))
 )
 )
 else (
 some (.inr v2)
 )
  ) (0,0)).bind fun v5=>
 (gr v5).bind fun i=>
 (Al (S:=(Int×(List α))) (E:=(List α)) (fun (b,c)=>
 bif (decide (b<(a0.length:Int))) then (
 (Ag a0 b).bind fun f=>
 (B9 B c f).bind fun h=>
 some (.inl ((Ac (b+1)),h))
 )
 else (
 some (.inr c)
 )
  ) (0,i)).bind fun g=>
 some g
theorem Ah3 {α:Type} {B:Nat} (g:B<=1024) {gr:Int->Option (List α)} (l:∀n:Nat,n<=1000000->gr (n:Int)=some []) (a b:List α) (h:a.length+b.length<=1000000):Aq1 B gr [a,b]=some (a++b):=by
 have m1:a.length*B<=1000000*1024:=Nat.mul_le_mul (by omega) g
 have m2:(a.length+b.length)*B<=1000000*1024:=Nat.mul_le_mul h g
 have f:Ac 1=1:=by rw [Ac,Bs] <;> omega
 have c:Ac 2=2:=by rw [Ac,Bs] <;> omega
 have k:Ac (a.length:Int)=(a.length:Int):=by rw [Ac,Bs] <;> omega
 have i:Ac ((a.length:Int)+(b.length:Int))=((a.length:Int)+(b.length:Int)):=by rw [Ac,Bs] <;> omega
 have i0:Ag [a,b] 0=some a:=rfl
 have i1:Ag [a,b] 1=some b:=rfl
 have s:B9 B [] a=some a:=by rw [Dh (by simp; omega)]; rfl
 have q:B9 B a b=some (a++b):=Dh (by omega)
 unfold Aq1
 refine Hn 2 (fun j=>if j=0 then (0,0) else if j=1 then ((a.length:Int),1) else (((a.length+b.length:Nat):Int),2)) rfl ?_ ⟨((a.length+b.length:Nat):Int),?_,?_⟩
 .intro j hj
  rcases (by omega:j=0\/j=1) with rfl | rfl
  .have:¬((a.length:Int)<0):=by omega
   simp [i0,k,f,this]
  .have:¬((a.length:Int)+(b.length:Int)<0):=by omega
   simp [i1,i,c,this]
 .simp
 .rw [l _ h,Ad]
  refine Hn 2 (fun j=>if j=0 then (0,[]) else if j=1 then (1,a) else (2,a++b)) rfl ?_ ⟨a++b,?_,rfl⟩
  .intro j hj
   rcases (by omega:j=0\/j=1) with rfl | rfl
   .simp [i0,f,s]
   .simp [i1,c,q]
  .simp
end Go.Ab
namespace Go.Ab
open Go
def Big:Nat:=1000000000 ^ 100
structure Np (x:Ak) (a:Nat):Prop where
 rb:RB 200 x
 s:sv x=false
 n:nv x=a
 d:dv x=1
theorem Ah4 {a:Nat} (h:a<Big):Bd a<=100:=Ji h
theorem Np.cR {a:Nat} (h:Bd a<=200):Np (cR a) a:=⟨Kn h (by decide),(Pj a).1,(Pj a).2.1,(Pj a).2.2⟩
theorem Np.c {a:Nat} (h:a<Big):Np (Ab.cR a) a:=Np.cR (by have:=Ah4 h; omega)
theorem Np.z:Np ⟨false,[],[]⟩ 0:=⟨A0s 200,by unfold sv; simp,by unfold nv; simp [Ai],by unfold dv; simp [Ai]⟩
theorem Np.add {x y:Ak} {a b:Nat} (hx:Np x a) (hy:Np y b):Hc x y=some (Ab.cR (a+b)):=by
 rw [Abn _ _ 200 200 hx.rb hy.rb (by omega) (by omega),hx.s,hx.n,hx.d,hy.s,hy.n,hy.d]
 simp [Jk,Ie,Ab.cR]
theorem Np.mul {x y:Ak} {a b:Nat} (hx:Np x a) (hy:Np y b):Eb x y=some (Ab.cR (a*b)):=by
 rw [Abm _ _ 200 200 hx.rb hy.rb (by omega) (by omega),hx.s,hx.n,hx.d,hy.s,hy.n,hy.d]
 simp [Ab.cR]
theorem Np.sign {x:Ak} {a:Nat} (hx:Np x a):He x=some (if a=0 then 0 else 1):=by
 rw [Abl _ 200 hx.rb (by omega),hx.s,hx.n]
 simp [Ic]
theorem Np.can {x:Ak} {a:Nat} (hx:Np x a):Nh x=some (Ab.cR a):=by
 rw [Af2 _ 200 hx.rb (by omega),hx.s,hx.n,hx.d]; rfl
def Ls (n:Nat) (f:Nat->Nat):List Ak:=(List.range n).map fun k=>cR (f k)
theorem M1 (n:Nat) (f:Nat->Nat):(Ls n f).length=n:=by simp [Ls]
theorem Lf {n k:Nat} (f:Nat->Nat) (h:k<n):(Ls n f)[k]? = some (cR (f k)):=by simp [Ls,h]
theorem Yg {n:Nat} {l:List Ak} {f:Nat->Nat} (b:l.length=n) (h:∀k,k<n->l[k]? = some (cR (f k))):l=Ls n f:=by
 apply List.ext_getElem?
 intro k
 rcases Nat.lt_or_ge k n with hk | hk
 .rw [h k hk,Lf f hk]
 .rw [List.getElem?_eq_none (by omega),List.getElem?_eq_none (by rw [M1]; omega)]
theorem Ac0 {α R:Type} {step:Int×List α->Option ((Int×List α)⊕List α)} {J:List α->Option R} {r:R} {i n:Nat} (o:List α) (g:Nat->α) (hi:i<=n) (q:o.length=n)
  (l:∀(j:Nat) (o':List α),i<=j->j<n->o'.length=n->step ((j:Int),o')=some (.inl (((j+1:Nat):Int),o'.set j (g j))))
  (y:∀o',o'.length=n->step ((n:Int),o')=some (.inr o'))
  (z:∀o',o'.length=n->(∀k,k<i->o'[k]? = o[k]?)->(∀k,i<=k->k<n->o'[k]? = some (g k))->J o'=some r):(Al step ((i:Int),o)).bind J=some r:=by
 obtain ⟨e,A,f⟩:=M5 (step:=step) (fun s=>∃(j:Nat) (o':List α),s=((j:Int),o')/\i<=j/\j<=n/\o'.length=n/\(∀k,k<i->o'[k]? = o[k]?)/\∀k,i<=k->k<j->o'[k]? = some (g k)) (fun s=>n-s.1.toNat)
  (fun o'=>o'.length=n/\(∀k,k<i->o'[k]? = o[k]?)/\∀k,i<=k->k<n->o'[k]? = some (g k)) (by
  rintro _ ⟨j,o',rfl,c,x,h1,h2,h3⟩
  rcases Nat.lt_or_ge j n with h | h
  .refine .inl ⟨_,l j o' c h h1,⟨j+1,o'.set j (g j),rfl,by omega,by omega,by simp [h1],fun k hk=>?_,fun k b u=>?_⟩,by simp; omega⟩
   .rw [List.getElem?_set_ne (by omega)]; exact h2 k hk
   .rcases Nat.lt_or_ge k j with h' | h'
    .rw [List.getElem?_set_ne (by omega)]; exact h3 k b h'
    .have:k=j:=by omega
     subst this
     rw [List.getElem?_set_self (by omega)]
  .have:j=n:=by omega
   subst this
   exact .inr ⟨o',y o' h1,h1,h2,h3⟩) ((i:Int),o) ⟨i,o,rfl,by omega,hi,q,fun _ _=>rfl,fun k h1 h2=>by omega⟩
 rw [A,Ad]
 exact z e f.1 f.2.1 f.2.2
theorem A3s (n:Nat) (b:n<=1000):W2 (n:Int)=some (Ls n fun _=>0):=by
 unfold W2
 rw [I4 rfl rfl (Nat.le_refl _) (by omega) (by omega),Ad]
 refine Ac0 (i:=0) (n:=n) _ (fun _=>cR 0) (by omega) (by simp) ?_ ?_ ?_
 .intro j o' _ h2 h3
  have hx:o'[j]? = some o'[j]:=B0 (by omega)
  simp only [List.length_replicate,Am (by omega:(j:Int)<(n:Int)),cond_true,Acq,Ad,Bw rfl hx,C8 h2 (by omega),Ff (n:=j) rfl]
 .intro o' h
  simp only [List.length_replicate,Ar (by omega:¬(n:Int)<(n:Int)),cond_false]
 .intro o' h1 _ h3
  rw [Yg h1 (f:=fun _=>0) fun k hk=>h3 k (by omega) hk]
theorem Aq2 (n k:Nat) (b:n<1000000000) (hk:k<=64):Aa0 (n:Int) (k:Int)=some (cR (bc n k)):=by
 have h:Q3 (n:Int) (k:Int)=some (cR (bc n k)):=by
  rw [Anj n k b hk,Uv,show Bq false (fct k*bc n k) (fct k)=Bq false (fct k*bc n k) (fct k*1) by rw [Nat.mul_one],Ro _ _ _ _ (Ud k)]
  rfl
 exact h
theorem Aq3 {n k:Nat} (h:n<=40):bc n k<Big:=by
 refine Nat.lt_of_le_of_lt (X9 n k) ?_
 exact Nat.lt_of_le_of_lt (Nat.pow_le_pow_right (by decide) h) (by decide)
theorem A3t (a b:Nat) (ha:a<=16) (hb:b<=16):Tw (a:Int) (b:Int)=some (Ls (a+b+1) (Rc a b)):=by
 unfold Tw
 have q:Ac ((a:Int)+(b:Int))=((a+b:Nat):Int):=by rw [Ac,Bs] <;> omega
 have l:Ac (((a+b:Nat):Int)+1)=((a+b+1:Nat):Int):=by rw [Ac,Bs] <;> omega
 have e:(if (b:Int)>(a:Int) then (b:Int) else (a:Int))=((max a b:Nat):Int):=by split <;> omega
 rw [q,l,A3s _ (by omega),Ad,e]
 refine Ac0 (i:=max a b) (n:=a+b+1) _ (fun k=>cR (Rc a b k)) (by omega) (by simp [M1]) ?_ ?_ ?_
 .intro j o' h1 h2 h3
  have hx:o'[j]? = some o'[j]:=B0 (by omega)
  have g:Ac ((j:Int)-(b:Int))=((j-b:Nat):Int):=by rw [Ac,Bs] <;> omega
  have s:Rc a b j=bc j a*bc a (j-b):=by unfold Rc; rw [if_pos (by omega)]
  simp only [Am (by omega:(j:Int)<=((a+b:Nat):Int)),cond_true,Aq2 j a (by omega) (by omega),g,Aq2 a (j-b) (by omega) (by omega),Ad,(Np.c (Aq3 (by omega:j<=40))).mul (Np.c (Aq3 (k:=j-b) (by omega:a<=40))),Bw rfl hx,C8 h2 (by omega),Ff (n:=j) rfl,s]
 .intro o' h
  simp only [Ar (by omega:¬((a+b+1:Nat):Int)<=((a+b:Nat):Int)),cond_false]
 .intro o' h1 h2 h3
  rw [Yg h1 (f:=Rc a b) fun k hk=>?_]
  rcases Nat.lt_or_ge k (max a b) with h | h
  .rw [h2 k h,Lf _ hk]
   have:Rc a b k=0:=by
    rcases (by omega:k<a\/k<b) with h | h
    .exact A3i h
    .unfold Rc; rw [if_neg (by omega)]
   rw [this]
  .exact h3 k h hk
end Go.Ab
namespace Go.Ab
open Go
theorem A3u {m n:Nat} {f g:Nat->Nat} {c:Nat} (E:m<=1000) (D:n<=1000) (B:∀k,k<m->f k<Big) (q:∀k,k<n->g k<Big) (hc:c<Big) :
  Re (Ls m f) (Ls n g) (cR c)=some (Ls (max m n) fun k=>(if k<m then f k else 0)+(if k<n then g k else 0)*c):=by
 unfold Re
 rw [M1,M1]
 have e:(if (n:Int)>(m:Int) then (n:Int) else (m:Int))=((max m n:Nat):Int):=by split <;> omega
 rw [e,I4 rfl rfl (Nat.le_refl _) (by omega) (by omega),Ad]
 refine Ac0 (i:=0) (n:=max m n) _ (fun k=>cR ((if k<m then f k else 0)+(if k<n then g k else 0)*c)) (by omega) (by simp) ?_ ?_ ?_
 .intro j o' _ h2 h3
  have hx:o'[j]? = some o'[j]:=B0 (by omega)
  obtain ⟨x,A,u⟩:∃x:Ak,(bif decide ((j:Int)<(m:Int)) then ((Ag (Ls m f) (j:Int)).bind fun b=>some (b.Neg,b.Num,b.Den)) else some (false,[],[]))=some (x.Neg,x.Num,x.Den)/\Np x (if j<m then f j else 0):=by
   by_cases h:j<m
   .rw [Am (by omega),cond_true,Bw rfl (Lf f h),if_pos h]
    exact ⟨_,rfl,Np.c (B j h)⟩
   .rw [Ar (by omega),cond_false,if_neg h]
    exact ⟨⟨false,[],[]⟩,rfl,Np.z⟩
  obtain ⟨y,s,l⟩:∃x:Ak,(bif decide ((j:Int)<(n:Int)) then ((Ag (Ls n g) (j:Int)).bind fun b=>some (b.Neg,b.Num,b.Den)) else some (false,[],[]))=some (x.Neg,x.Num,x.Den)/\Np x (if j<n then g j else 0)/\(if j<n then g j else 0)<Big:=by
   by_cases h:j<n
   .rw [Am (by omega),cond_true,Bw rfl (Lf g h),if_pos h]
    exact ⟨_,rfl,Np.c (q j h),q j h⟩
   .rw [Ar (by omega),cond_false,if_neg h]
    exact ⟨⟨false,[],[]⟩,rfl,Np.z,by decide⟩
  have hq:Bd ((if j<n then g j else 0)*c)<=200:=by
   have:=Gz (if j<n then g j else 0) c
   have:=Ah4 l.2
   have:=Ah4 hc
   omega
  have hb:Wx x y (cR c)=some (cR ((if j<m then f j else 0)+(if j<n then g j else 0)*c)):=by
   unfold Wx
   rw [(Np.c hc).mul l.1,Ad,Nat.mul_comm c,u.add (Np.cR hq)]; rfl
  simp only [List.length_replicate,Am (by omega:(j:Int)<((max m n:Nat):Int)),cond_true]
  erw [A,Ad,s,Ad]
  dsimp only
  rw [hb,Ad,Bw rfl hx,Ad,C8 h2 (by omega),Ff (n:=j) rfl]
 .intro o' h
  simp only [List.length_replicate,Ar (by omega:¬((max m n:Nat):Int)<((max m n:Nat):Int)),cond_false]
 .intro o' h1 _ h3
  rw [Yg h1 (f:=fun k=>(if k<m then f k else 0)+(if k<n then g k else 0)*c) fun k hk=>h3 k (by omega) hk]
theorem Ah5 {p:List Ak} {n:Nat} {f:Nat->Nat} (u:n<1000) (s:p.length=n+1) (hp:∀k,k<n+1->∃x,p[k]? = some x/\Np x (f k)) (b:f n≠0):Mr p=some (Ls (n+1) f):=by
 unfold Mr
 obtain ⟨x,q,l⟩:=hp n (by omega)
 have w:Ac (((n+1:Nat):Int)-1)=(n:Int):=by rw [Ac,Bs] <;> omega
 refine bnd (a:=((n+1:Nat):Int)) (Ee ?_) ?_
 .rw [s]
  simp only [Am (by omega:((n+1:Nat):Int)>0),cond_true,w,Bw rfl q,Ad,l.sign,if_neg b]
  rfl
 .rw [I4 rfl rfl (Nat.le_refl _) (by omega) (by omega),Ad]
  refine Ac0 (i:=0) (n:=n+1) _ (fun k=>cR (f k)) (by omega) (by simp) ?_ ?_ ?_
  .intro j o' _ h2 h3
   have hx:o'[j]? = some o'[j]:=B0 (by omega)
   obtain ⟨y,g,c⟩:=hp j h2
   simp only [List.length_replicate,Am (by omega:(j:Int)<((n+1:Nat):Int)),cond_true,Bw rfl g,c.can,Ad,Bw rfl hx,C8 h2 (by omega),Ff (n:=j) rfl]
  .intro o' h
   simp only [List.length_replicate,Ar (by omega:¬((n+1:Nat):Int)<((n+1:Nat):Int)),cond_false]
  .intro o' h1 _ h3
   rw [Yg h1 (f:=f) fun k hk=>h3 k (by omega) hk]
def Ga (n d:Nat) (f:Nat->Nat) (k:Nat):Nat:=sm n fun a=>f a*Rc a d k
theorem Aq4 (a d:Nat):0<Rc a d (a+d):=by
 unfold Rc
 rw [if_pos (by omega),show a+d-d=a by omega,R6]
 have:0<bc (a+d) a:=by
  have h:∀d,0<bc (a+d) a:=by
   intro d
   induction d with
   | zero=>rw [Nat.add_zero,R6]; decide
   | succ d ih=>
    cases a with
    | zero=>rw [F8]; decide
    | succ a=>rw [show a+1+(d+1)=(a+1+d)+1 by omega,Ny]; omega
  exact h d
 omega
theorem A3v {n d:Nat} {f:Nat->Nat} {p q:List Ak} (a1:n+d<=12) (hp:p=Ls (n+1) f) (i:f n≠0) (hq:q.length=d+1) (N:∀k,k<d+1->∃x,q[k]? = some x/\Np x (if k=d then 1 else 0))
  (R:∀k,k<n+1->f k<Big) (X:∀a k,a<=n+1->Ga a d f k<Big):Wt p q=some (Ls (n+d+1) (Ga (n+1) d f),true):=by
 unfold Wt
 have l:p.length=n+1:=by rw [hp,M1]
 rw [l,hq,Ar (by omega),Ar (by omega)]
 simp only [cond_false,Ad]
 have c1:Mr p=some (Ls (n+1) f):=Ah5 (by omega) l (fun k hk=>⟨_,by rw [hp]; exact Lf f hk,Np.c (R k hk)⟩) i
 have c2:Mr q=some (Ls (d+1) fun k=>if k=d then 1 else 0):=Ah5 (by omega) hq N (by simp)
 have w:Ac (((n+1:Nat):Int)+((d+1:Nat):Int))=((n+d+2:Nat):Int):=by rw [Ac,Bs] <;> omega
 rw [c1,Ad,c2,Ad,M1,M1,Cp (by omega),Cp (by omega)]
 simp only [cond_false,Ad]
 rw [w,Ar (by omega),cond_false]
 obtain ⟨r,Z,Y⟩:=Ef (J:=fun A=>(Mr A).bind fun z=>some (z,true)) (Q:=fun r=>r=(Ls (n+d+1) (Ga (n+1) d f),true)) (step:=fun (x:List Ak×Int)=>match x with
  | (v25,v26)=>
   bif (decide (v26<((n+1:Nat):Int))) then (
   (Ag (Ls (n+1) f) v26).bind fun I=>
   (Al (S:=((List Ak)×Int)) (E:=((List Ak)×Int)) (fun (g,v37)=>
   bif (decide (v37<((d+1:Nat):Int))) then (
   (Ag (Ls (d+1) fun k=>if k=d then 1 else 0) v37).bind fun G=>
   (Eb I G).bind fun v40=>
   (He v40).bind fun D=>
   bif (D==(0:Int)) then (
   some (.inl (g,(Ac (v37+1))))
   )
   else (
   (Tw v26 v37).bind fun B=>
   (Re g B v40).bind fun v44=>
   some (.inl (v44,(Ac (v37+1))))
   )
   )
   else (
   some (.inr (g,v37))
   )
    ) (v25,0)).bind fun (v45,v46)=>
   some (.inl (v45,(Ac (v26+1))))
   )
   else (
   some (.inr v25)
   )) (s:=([],0))
  (fun s=>∃(a L:Nat) (h:Nat->Nat),s=(Ls L h,(a:Int))/\a<=n+1/\L<=a+d/\(∀k,(if k<L then h k else 0)=Ga a d f k)/\(a=n+1->L=n+d+1)) (fun s=>n+1-s.2.toNat)
  (fun e=>e=Ls (n+d+1) (Ga (n+1) d f)) ⟨0,0,fun _=>0,rfl,by omega,by omega,fun k=>by simp [Ga,sm],by omega⟩ (by
  rintro _ ⟨a,L,h,rfl,ha,hL,hv,y⟩
  rcases Nat.lt_or_ge a (n+1) with h1 | h1
  .left
   have M:Np (cR 0) 0:=Np.c (by decide)
   have b:∀k,Ga (a+1) d f k=Ga a d f k+f a*Rc a d k:=fun k=>rfl
   have hh:∀k,k<L->h k<Big:=fun k hk=>by
    have:=hv k
    rw [if_pos hk] at this
    rw [this]; exact X a k (by omega)
   by_cases h0:f a=0
   .refine ⟨(Ls L h,((a+1:Nat):Int)),?_,⟨a+1,L,h,rfl,by omega,by omega,fun k=>by rw [b,h0,hv]; simp,fun e=>?_⟩,by simp; omega⟩
    .simp only [Am (by omega:(a:Int)<((n+1:Nat):Int)),cond_true,Bw rfl (Lf f h1),Ad,h0]
     refine Hn (d+1) (fun j=>(Ls L h,(j:Int))) rfl ?_ ⟨(Ls L h,((d+1:Nat):Int)),?_,?_⟩
     .intro j hj
      have hy:Np (cR (if j=d then 1 else 0)) (if j=d then 1 else 0):=Np.c (by split <;> decide)
      simp only [Am (by omega:(j:Int)<((d+1:Nat):Int)),cond_true,Bw rfl (Lf _ hj),Ad,M.mul hy,Nat.zero_mul,M.sign,if_true,C8 hj (by omega)]
      rfl
     .simp only [Ar (by omega:¬((d+1:Nat):Int)<((d+1:Nat):Int)),cond_false]
     .rw [C8 h1 (by omega)]
    .have:a=n:=by omega
     subst this; exact (i h0).elim
   .have u:=Np.c (R a h1)
    have U:Re (Ls L h) (Ls (a+d+1) (Rc a d)) (cR (f a))=some (Ls (a+d+1) fun k=>(if k<L then h k else 0)+(if k<a+d+1 then Rc a d k else 0)*f a):=by
     rw [A3u (by omega) (by omega) hh (fun k hk=>?_) (R a h1),show max L (a+d+1)=a+d+1 by omega]
     unfold Rc
     split
     .refine Nat.lt_of_le_of_lt (Nat.mul_le_mul (X9 k a) (X9 a (k-d))) ?_
      rw [<-Nat.pow_add]
      exact Nat.lt_of_le_of_lt (Nat.pow_le_pow_right (by decide) (by omega:k+a<=40)) (by decide)
     .decide
    refine ⟨(Ls (a+d+1) fun k=>(if k<L then h k else 0)+(if k<a+d+1 then Rc a d k else 0)*f a,((a+1:Nat):Int)),?_,⟨a+1,a+d+1,_,rfl,by omega,by omega,fun k=>?_,fun e=>by omega⟩,by simp; omega⟩
    .simp only [Am (by omega:(a:Int)<((n+1:Nat):Int)),cond_true,Bw rfl (Lf f h1),Ad]
     refine Hn (d+1) (fun j=>if j<=d then (Ls L h,(j:Int)) else (Ls (a+d+1) fun k=>(if k<L then h k else 0)+(if k<a+d+1 then Rc a d k else 0)*f a,(j:Int))) (by simp) ?_ ⟨((Ls (a+d+1) fun k=>(if k<L then h k else 0)+(if k<a+d+1 then Rc a d k else 0)*f a),((d+1:Nat):Int)),?_,?_⟩
     .intro j hj
      have hy:Np (cR (if j=d then 1 else 0)) (if j=d then 1 else 0):=Np.c (by split <;> decide)
      rw [if_pos (by omega)]
      simp only [Am (by omega:(j:Int)<((d+1:Nat):Int)),cond_true,Bw rfl (Lf _ hj),Ad,u.mul hy,C8 hj (by omega)]
      rcases Nat.lt_or_ge j d with h2 | h2
      .rw [if_neg (by omega:¬j=d),Nat.mul_zero,M.sign,Ad,if_pos (by omega:j+1<=d)]
       rfl
      .have:j=d:=by omega
       subst this
       rw [if_pos rfl,Nat.mul_one,u.sign,Ad,if_neg h0,A3t a j (by omega) (by omega),Ad,U,if_neg (by omega)]
       rfl
     .rw [if_neg (by omega)]
      simp only [Ar (by omega:¬((d+1:Nat):Int)<((d+1:Nat):Int)),cond_false]
     .rw [C8 h1 (by omega)]
    .rw [b,<-hv]
     by_cases hk:k<a+d+1
     .rw [if_pos hk,if_pos hk,Nat.mul_comm (Rc a d k)]
     .rw [if_neg hk,if_neg (by omega),Aqw (by omega)]; simp
  .have:a=n+1:=by omega
   subst this
   right
   have V:=y rfl
   refine ⟨Ls L h,?_,?_⟩
   .simp only [Ar (by omega:¬((n+1:Nat):Int)<((n+1:Nat):Int)),cond_false]
   .subst V
    refine Yg (M1 _ _) fun k hk=>?_
    have:=hv k
    rw [if_pos hk] at this
    rw [Lf _ hk,this]) (by
  rintro _ rfl
  refine ⟨_,bnd (Ah5 (n:=n+d) (f:=Ga (n+1) d f) (by omega) (M1 _ _) (fun k hk=>⟨_,Lf _ hk,Np.c (X _ _ (by omega))⟩) ?_) rfl,rfl⟩
  have e:Ga (n+1) d f (n+d)=Ga n d f (n+d)+f n*Rc n d (n+d):=rfl
  have:=Nat.mul_pos (Nat.pos_of_ne_zero i) (Aq4 n d)
  omega)
 rw [<-Y]
 exact Z
end Go.Ab
namespace Go.Ab
open Go
theorem A3w (d x N:Nat) (f:Nat->Nat):∀M,(∀a,a<M->a+d<N)->sm N (fun k=>Ga M d f k*bc x k)=sm M (fun a=>f a*bc x a)*bc x d:=by
 intro M
 induction M with
 | zero=>intro _; rw [Yc (fun k _=>by simp [Ga,sm])]; simp [sm]
 | succ M ih=>
  intro h
  have e:∀k,Ga (M+1) d f k*bc x k=Ga M d f k*bc x k+f M*(Rc M d k*bc x k):=fun k=>by
   show (Ga M d f k+f M*Rc M d k)*bc x k=_
   rw [Nat.add_mul,Nat.mul_assoc]
  rw [Ux (fun k _=>e k),Uy,ih (fun a ha=>h a (by omega)),Aqu,Ye x M d N (h M (by omega))]
  show _=(sm M (fun a=>f a*bc x a)+f M*bc x M)*bc x d
  rw [Nat.add_mul,Nat.mul_assoc (f M)]
theorem A3x (d:Nat) (f:Nat->Nat) (k:Nat):∀{m n:Nat},m<=n->Ga m d f k<=Ga n d f k:=by
 intro m n h
 induction n with
 | zero=>
  have:m=0:=by omega
  subst this; exact Nat.le_refl _
 | succ n ih=>
  rcases Nat.lt_or_ge m (n+1) with h' | h'
  .have:=ih (by omega)
   have e:Ga (n+1) d f k=Ga n d f k+f n*Rc n d k:=rfl
   omega
  .have:m=n+1:=by omega
   subst this; exact Nat.le_refl _
def prb (x:Nat):List Ba->Nat
 | []=>1
 | a::l=>bc x a.Deg.toNat*prb x l
def Cx:List Ba->Nat
 | []=>0
 | a::l=>a.Deg.toNat+Cx l
theorem Aq5 (x:Nat) (l m:List Ba):prb x (l++m)=prb x l*prb x m:=by
 induction l with
 | nil=>simp [prb]
 | cons a l ih=>simp only [List.cons_append,prb,ih,Nat.mul_assoc]
theorem M2 (l m:List Ba):Cx (l++m)=Cx l+Cx m:=by
 induction l with
 | nil=>simp [Cx]
 | cons a l ih=>simp only [List.cons_append,Cx,ih,Nat.add_assoc]
theorem Aq6 (x:Nat) {l m:List Ba} (h:l.Perm m):prb x l=prb x m:=by
 induction h with
 | nil=>rfl
 | cons a _ ih=>simp only [prb,ih]
 | swap a b l=>simp only [prb]; rw [<-Nat.mul_assoc,<-Nat.mul_assoc,Nat.mul_comm (bc x b.Deg.toNat)]
 | trans _ _ h1 h2=>exact h1.trans h2
theorem Yh {l m:List Ba} (h:l.Perm m):Cx l=Cx m:=by
 induction h with
 | nil=>rfl
 | cons a _ ih=>simp only [Cx,ih]
 | swap a b l=>simp only [Cx]; omega
 | trans _ _ h1 h2=>exact h1.trans h2
theorem A3y (x d:Nat):bc x d<=(x+1) ^ d:=Nat.le_trans (Acv x d) (Nat.pow_le_pow_left (by omega) d)
theorem Aq7 (x:Nat):∀l:List Ba,prb x l<=(x+1) ^ Cx l
 | []=>by simp [prb,Cx]
 | a::l=>by
  simp only [prb,Cx,Nat.pow_add]
  exact Nat.mul_le_mul (A3y x _) (Aq7 x l)
theorem U1 {x:Nat} {l:List Ba} (hx:x<=1048576) (hd:Cx l<=12):prb x l<Big:=by
 refine Nat.lt_of_le_of_lt (Aq7 x l) ?_
 refine Nat.lt_of_le_of_lt (Nat.pow_le_pow_left (by omega:x+1<=1048577) _) ?_
 exact Nat.lt_of_le_of_lt (Nat.pow_le_pow_right (by decide) hd) (by decide)
def PwN (l:List Ba) (N:Nat) (f:Nat->Nat):Prop:=N=Cx l/\f N≠0/\∀x,sm (N+1) (fun k=>f k*bc x k)=prb x l
theorem PwN.le {l:List Ba} {N:Nat} {f:Nat->Nat} (h:PwN l N f) {k:Nat} (hk:k<N+1):f k<=prb k l:=by
 have h1:=h.2.2 k
 have h2:f k*bc k k<=sm (N+1) (fun j=>f j*bc k j):=by
  have:∀n,k<n->f k*bc k k<=sm n (fun j=>f j*bc k j):=by
   intro n
   induction n with
   | zero=>intro h; omega
   | succ n ih=>
    intro h
    show _<=sm n _+f n*bc k n
    rcases Nat.lt_or_ge k n with h' | h'
    .have:=ih h'; omega
    .have:k=n:=by omega
     subst this; omega
  exact this _ hk
 rw [R6,Nat.mul_one] at h2
 omega
theorem PwN.uniq {l m:List Ba} {N M:Nat} {f g:Nat->Nat} (h:PwN l N f) (h':PwN m M g) (hp:l.Perm m):N=M/\∀k,k<N+1->f k=g k:=by
 have e:N=M:=by rw [h.1,h'.1,Yh hp]
 subst e
 exact ⟨rfl,Aqz fun n _=>by rw [h.2.2 n,h'.2.2 n,Aq6 n hp]⟩
theorem PwN.step {l:List Ba} {N:Nat} {f:Nat->Nat} (h:PwN l N f) (a:Ba):PwN (l++[a]) (N+a.Deg.toNat) (Ga (N+1) a.Deg.toNat f):=by
 refine ⟨by rw [M2,h.1]; simp [Cx],?_,fun x=>?_⟩
 .have e:Ga (N+1) a.Deg.toNat f (N+a.Deg.toNat)=Ga N a.Deg.toNat f (N+a.Deg.toNat)+f N*Rc N a.Deg.toNat (N+a.Deg.toNat):=rfl
  have:=Nat.mul_pos (Nat.pos_of_ne_zero h.2.1) (Aq4 N a.Deg.toNat)
  omega
 .rw [A3w _ x _ f (N+1) (fun b ha=>by omega),h.2.2 x,Aq5]
  simp [prb]
theorem A3z (l:List Ba) (x:l≠[]) (ht:∀a∈l,a.Lin.Terms.length≠0) (hd:∀a∈l,0<=a.Deg) (M:Cx l<=12) (R:l.length<=1000) :
  ∃N f,Lw l=some (Ls (N+1) f)/\PwN l N f:=by
 have h0:Aa3 l=false:=by
  cases l with
  | nil=>exact (x rfl).elim
  | cons a L=>
   have:=ht a (by simp)
   show (a.Lin.Terms.length==0)=false
   simpa using this
 have h1:∃N f,Aa2 l=some (Ls (N+1) f)/\PwN l N f:=by
  unfold Aa2
  rw [Pk,Ad]
  suffices h:∃r,_/\∃N f,r=Ls (N+1) f/\PwN l N f by
   obtain ⟨r,E,N,f,D,B⟩:=h
   exact ⟨N,f,by rw [<-D]; exact E,B⟩
  refine Ef (fun s=>∃(i N:Nat) (f:Nat->Nat),s=(Ls (N+1) f,(i:Int))/\i<=l.length/\PwN (l.take i) N f) (fun s=>l.length-s.2.toNat) (fun e=>∃N f,e=Ls (N+1) f/\PwN l N f)
   ⟨0,0,fun _=>1,rfl,by omega,by simp [PwN,Cx,prb,sm,F8]⟩ ?_ ?_
  .rintro _ ⟨i,N,f,rfl,hi,g⟩
   rcases Nat.lt_or_ge i l.length with h | h
   .left
    have hx:l[i]? = some l[i]:=B0 h
    have b:=List.getElem_mem h
    generalize l[i]=a at hx b
    have S:=ht a b
    have J:=hd a b
    have A:Cx l=Cx (l.take i)+(a.Deg.toNat+Cx (l.drop (i+1))):=by
     have:=M2 (l.take i) (l.drop i)
     rw [List.take_append_drop] at this
     rw [this,Iu hx]; rfl
    have U:=g.1
    have w:Ac (a.Deg+1)=((a.Deg.toNat+1:Nat):Int):=by rw [Ac,Bs] <;> omega
    have G:Ag (List.replicate (a.Deg.toNat+1) (⟨false,[],[]⟩:Ak)) a.Deg=some ⟨false,[],[]⟩:=Bw (n:=a.Deg.toNat) (by omega) (by simp)
    have u:=g.step a
    have hb:∀y k,y<=N+1->Ga y a.Deg.toNat f k<Big:=by
     intro y k ha'
     refine Nat.lt_of_le_of_lt (A3x _ f k ha') ?_
     rcases Nat.lt_or_ge k (N+a.Deg.toNat+1) with hk | hk
     .refine Nat.lt_of_le_of_lt (u.le hk) (U1 (by omega) ?_)
      rw [M2]; simp only [Cx]; omega
     .have:Ga (N+1) a.Deg.toNat f k=0:=Yc fun j hj=>by rw [Aqw (by omega)]; rfl
      rw [this]; decide
    have I:=A3v (n:=N) (d:=a.Deg.toNat) (f:=f) (p:=Ls (N+1) f) (q:=Ca (List.replicate (a.Deg.toNat+1) ⟨false,[],[]⟩) a.Deg (cR 1)) (by omega) rfl g.2.1 (by rw [Ff (n:=a.Deg.toNat) (by omega)]; simp) (fun k hk=>by
     rw [Ff (n:=a.Deg.toNat) (by omega)]
     by_cases e:k=a.Deg.toNat
     .subst e
      rw [if_pos rfl]
      exact ⟨_,List.getElem?_set_self (by simp),Np.c (by decide)⟩
     .rw [if_neg e,List.getElem?_set_ne (by omega)]
      exact ⟨⟨false,[],[]⟩,by simp [hk],Np.z⟩) (fun k hk=>Nat.lt_of_le_of_lt (g.le hk) (U1 (by omega) (by omega))) hb
    refine ⟨(Ls (N+a.Deg.toNat+1) (Ga (N+1) a.Deg.toNat f),((i+1:Nat):Int)),?_,⟨i+1,_,_,rfl,by omega,by rw [C5 hx]; exact u⟩,by simp; omega⟩
    simp only [Am (by omega:(i:Int)<(l.length:Int)),cond_true,Bw rfl hx,Ad,Cp (by omega:¬(a.Lin.Terms.length:Int)=0),cond_false,w,I4 rfl rfl (Nat.le_refl _) (by omega:56*(a.Deg.toNat+1)<=281474976710656) (by omega),Pk,G,I,C8 h (by omega)]
   .have:i=l.length:=by omega
    subst this
    rw [List.take_length] at g
    right
    exact ⟨_,by simp only [Ar (by omega:¬(l.length:Int)<(l.length:Int)),cond_false],_,_,rfl,g⟩
  .rintro _ ⟨N,f,rfl,h⟩
   exact ⟨_,rfl,N,f,rfl,h⟩
 obtain ⟨N,f,h2,h3⟩:=h1
 refine ⟨N,f,?_,h3⟩
 unfold Lw
 rw [h0,cond_false]
 exact h2
theorem A30 {c:Int} {d:Int} (hc:c<=1048576) (hd:0<=d) (b:d<=64):T3 c d=some (cR (bc c.toNat d.toNat),true):=by
 have h:=Aqa c.toNat d.toNat (by omega) (by omega)
 have e:((d.toNat:Nat):Int)=d:=by omega
 rw [e] at h
 rw [<-h]
 unfold T3
 have f:(if c>(0:Int) then c else 0)=(if ((c.toNat:Nat):Int)>(0:Int) then ((c.toNat:Nat):Int) else 0):=by split <;> split <;> omega
 rw [f]
theorem A31 (l:List Ba) {c:Int} (hc:c<=1048576) (ht:∀a∈l,a.Lin.Terms.length=0/\a.Lin.Const=c) (hd:∀a∈l,0<=a.Deg) (G:Cx l<=12) (I:l.length<=1000) :
  Lw l=some [cR (prb c.toNat l)]:=by
 have h1:Aa1 l=some [cR (prb c.toNat l)]:=by
  unfold Aa1
  rw [Pk,Ad]
  obtain ⟨r,B,A⟩:∃r,_/\r = [cR (prb c.toNat l)]:=Ef (fun s=>∃i:Nat,s=((i:Int),[cR (prb c.toNat (l.take i))])/\i<=l.length) (fun s=>l.length-s.1.toNat) (fun e=>e = [cR (prb c.toNat l)]) (J:=fun o=>some o)
   (step:=fun (x:Int×List Ak)=>match x with
    | (g,f)=>
     bif (decide (g<(l.length:Int))) then (
     (Ag l g).bind fun b=>
     bif ((b.Lin.Terms.length:Int)==(0:Int)) then (
     (T3 b.Lin.Const b.Deg).bind fun k=>
     (Ag f 0).bind fun v20=>
     (Eb v20 k.1).bind fun v21=>
     (Ag f 0).bind fun v22=>
     some (.inl ((Ac (g+1)),(Ca f 0 v21)))
     )
     else (
     (Eu 56 (Ac (b.Deg+1)) (Ac (b.Deg+1)) ((Ak.mk false [] []):Ak)).bind fun q=>
     (Dn 1).bind fun v25=>
     (Ag q b.Deg).bind fun v26=>
     none
     )
     )
     else (
     some (.inr f)
     )) (s:=(0,[cR 1]))
   ⟨0,rfl,by omega⟩ (by
   rintro _ ⟨i,rfl,hi⟩
   rcases Nat.lt_or_ge i l.length with h | h
   .left
    have hx:l[i]? = some l[i]:=B0 h
    have j:=List.getElem_mem h
    generalize l[i]=a at hx j
    obtain ⟨L,D⟩:=ht a j
    have y:=hd a j
    have e:Cx l=Cx (l.take i)+(a.Deg.toNat+Cx (l.drop (i+1))):=by
     have:=M2 (l.take i) (l.drop i)
     rw [List.take_append_drop] at this
     rw [this,Iu hx]; rfl
    have hb:prb c.toNat (l.take i)<Big:=U1 (by omega) (by omega)
    have z:bc c.toNat a.Deg.toNat<Big:=by
     have:=U1 (x:=c.toNat) (l:=[a]) (by omega) (by simp only [Cx]; omega)
     simpa [prb] using this
    have u:Ag [cR (prb c.toNat (l.take i))] 0=some (cR (prb c.toNat (l.take i))):=rfl
    refine ⟨_,?_,⟨i+1,rfl,by omega⟩,by simp; omega⟩
    simp only [Am (by omega:(i:Int)<(l.length:Int)),cond_true,Bw rfl hx,Ad,Dj (by omega:(a.Lin.Terms.length:Int)=0),D,A30 hc y (by omega:a.Deg<=64),u,(Np.c hb).mul (Np.c z),C8 h (by omega)]
    rw [C5 hx,Aq5]
    simp [prb,Ca]
   .have:i=l.length:=by omega
    subst this
    right
    exact ⟨[cR (prb c.toNat (List.take l.length l))],by simp only [Ar (by omega:¬(l.length:Int)<(l.length:Int)),cond_false],by rw [List.take_length]⟩) (by
   rintro _ rfl
   exact ⟨_,rfl,rfl⟩)
  rw [<-A]
  exact B
 have h0:Aa3 l=true:=by
  cases l with
  | nil=>rfl
  | cons a E=>
   have:=(ht a (by simp)).1
   show (a.Lin.Terms.length==0)=true
   simpa using this
 unfold Lw
 rw [h0,cond_true,h1]
end Go.Ab
namespace Go.Ab
open Go
noncomputable def Ac1 {α:Type} (cmp:α->α->Option Int) (a0:Int) (f:List α):Option (List α) :=
 (Al (S:=(Int×Int×(List α))) (E:=(Int×Int×(List α))) (fun (v3,v4,h)=>
 bif (decide (v4<=a0)) then (
 (Yf cmp v3 v4 h).bind fun g=>
 (Fb f.length g).bind fun k=>
 some (.inl (v4,(Ac (v4+20)),g))
 )
 else (
 some (.inr (v3,v4,h))
 )
  ) (0,20,f)).bind fun (v8,v9,c)=>
 (Yf cmp v8 a0 c).bind fun v11=>
 (Fb f.length v11).bind fun v12=>
 (Al (S:=(Int×Int×Int)) (E:=Unit) (fun (b,j,i)=>
 bif (decide (b<a0)) then (
 (Al (S:=Unit) (E:=Unit) (fun _=>
 bif (decide ((Ac (2*b))<=a0)) then (
 none
 )
 else (
 some (.inr ())
 )
  ) ()).bind fun _=>
 bif (decide ((Ac (0+b))<a0)) then (
 none
 )
 else (
 some (.inl ((Ac (b*2)),0,(Ac (2*b))))
 )
 )
 else (
 some (.inr ())
 )
  ) (20,v8,v9)).bind fun _=>
 some v11
theorem Aq8 {α:Type} {cmp:α->α->Option Int} {c:α->α->Int} (L:Oc c) (f:List α) (g:∀x∈f,∀y∈f,cmp x y=some (c x y)) (h:f.length<20) :
  ∃R,Ac1 cmp (f.length:Int) f=some R/\R.Perm f/\R.Pairwise (fun a b=>¬c b a<0):=by
 obtain ⟨R,h1,h2,h3⟩:=Aq0 L f g (by omega)
 refine ⟨R,?_,h2,h3⟩
 unfold Ac1
 refine bnd (a:=(0,20,f)) (Ee ?_) ?_
 .simp only [Ar (by omega:¬(20:Int)<=(f.length:Int)),cond_false]
 .dsimp only
  rw [h1,Ad,Nv h2.length_eq.symm,Ad]
  refine bnd (a:=()) (Ee ?_) rfl
  simp only [Ar (by omega:¬(20:Int)<(f.length:Int)),cond_false]
theorem Yi:Oc Gq where
 irr x:=by rw [(Ix.zero x x trivial trivial).2 rfl]; omega
 trs x y z h1 h2:=Ix.trans x y z trivial trivial trivial h1 h2
 ntr x y z h1 h2 h3:=by
  rcases Int.lt_trichotomy (Gq x y) 0 with k | k | k
  .exact h1 k
  .have:=(Ix.zero x y trivial trivial).1 k
   subst this; exact h2 h3
  .have b:Gq y x<0:=by rw [Ix.anti x y trivial trivial]; omega
   exact h2 (Ix.trans y x z trivial trivial trivial b h3)
theorem A32:Oc (fun a b:Ba=>Gq a.Lin b.Lin):=⟨fun _=>Yi.irr _,fun _ _ _=>Yi.trs _ _ _,fun _ _ _=>Yi.ntr _ _ _⟩
def Ac2 (l:List Ba):Prop:=l.Pairwise fun a b=>¬Gq b.Lin a.Lin<0
theorem A33 (b:List Ba) (ht:∀a∈b,a.Lin.Terms.length<1099511627776) (c:b.length<20):∃R,Tp b=some R/\R.Perm b/\Ac2 R:=by
 obtain ⟨R,h1,h2,h3⟩:=Aq8 (cmp:=Tq) A32 b (fun x hx y _=>by
  unfold Tq
  rw [Acb x.Lin y.Lin (ht x hx)]; rfl) c
 refine ⟨R,?_,h2,h3⟩
 unfold Tp
 have e:Aar (b.length:Int) b=Ac1 Tq (b.length:Int) b:=rfl
 rw [e,h1,Ad,Nv h2.length_eq.symm]; rfl
theorem A34:Tn []=some []:=by
 obtain ⟨R,h1,h2,h3⟩:=Aq8 (cmp:=Wr) (c:=fun _ _=>0) ⟨fun _=>by omega,fun _ _ _ h=>by omega,fun _ _ _ _ _=>by omega⟩ ([]:List Cg) (fun x hx=>by cases hx) (by simp)
 have b:R = []:=List.Perm.eq_nil h2
 subst b
 unfold Tn
 have e:Aaq ((([]:List Cg).length:Nat):Int) []=Ac1 Wr ((([]:List Cg).length:Nat):Int) []:=rfl
 rw [e,h1]; rfl
theorem Ah6 {α:Type} (n:Nat) (h:n<=1000000):Mj (α:=α) (n:Int)=some []:=by
 unfold Mj
 rw [Am (by omega),Am (by omega)]; rfl
theorem A35 (a b:List Ba) (h:a.length+b.length<=1000000):Aam [a,b]=some (a++b) :=
 Ah3 (B:=40) (by decide) (gr:=Aat) (fun n h=>Ah6 n h) a b h
theorem A36 (a b:List Cg) (h:a.length+b.length<=1000000):Aal [a,b]=some (a++b) :=
 Ah3 (B:=40) (by decide) (gr:=Aas) (fun n h=>Ah6 n h) a b h
theorem Aq9 (m n:A8) (h1:m.Factors.length+n.Factors.length<=1000000) (h2:m.Atoms.length+n.Atoms.length<=1000000):Ol m n=some ⟨m.Factors++n.Factors,m.Atoms++n.Atoms⟩:=by
 unfold Ol
 rw [A36 _ _ h1,Ad,A35 _ _ h2]; rfl
def atO (l:Be) (k:Nat):List Ba:=if k=0 then [] else [⟨l,k⟩]
theorem A37 (l:Be) (k:Nat):Q6 l (k:Int)=some (atO l k):=by
 unfold Q6 atO
 by_cases h:k=0
 .rw [Dj (by omega),if_pos h]; rfl
 .rw [Cp (by omega),if_neg h]; rfl
theorem Ara (l:Be) (k:Nat):(atO l k).length<=1:=by unfold atO; split <;> simp
theorem A38 {t:Aj} {x:Ak} {K:Nat} {A B:List Ba} (b:t.Mono=⟨[],A⟩) (f:A.length+B.length<=1000000) (j:K<30000000000) (h1:RB K t.Coef) (h2:RB 200 x) :
  ∃u,Q5 t x ⟨[],B⟩=some u/\u.Mono=⟨[],A++B⟩/\rq u.Coef=rq t.Coef*rq x/\RB (K+202) u.Coef:=by
 obtain ⟨c,i,h,_,g⟩:=Pi h1 h2 (by omega) (by omega)
 refine ⟨⟨c,⟨[],A++B⟩⟩,?_,rfl,g,h⟩
 unfold Q5
 rw [i,Ad,b,Aq9 _ _ (by simp) f]; rfl
abbrev Ds:=List Ba×Nat
inductive Rep (c:Rat) (K:Nat):List Aj->List Ds->Prop
 | nil:Rep c K [] []
 | cons {t:Aj} {b:Ds} {ts:List Aj} {bs:List Ds}:t.Mono=⟨[],b.1⟩->rq t.Coef=c*(b.2:Rat)->RB K t.Coef->Rep c K ts bs->Rep c K (t::ts) (b::bs)
theorem Rep.len {c:Rat} {K:Nat} {ts:List Aj} {bs:List Ds} (h:Rep c K ts bs):ts.length=bs.length:=by
 induction h with
 | nil=>rfl
 | cons _ _ _ _ ih=>simp [ih]
theorem Rep.app {c:Rat} {K:Nat} {ts f:List Aj} {bs cs:List Ds} (h:Rep c K ts bs) (h':Rep c K f cs):Rep c K (ts++f) (bs++cs):=by
 induction h with
 | nil=>exact h'
 | cons a b d _ ih=>exact .cons a b d ih
theorem Rep.mono {c:Rat} {K f:Nat} {ts:List Aj} {bs:List Ds} (h:Rep c K ts bs) (hk:K<=f):Rep c f ts bs:=by
 induction h with
 | nil=>exact .nil
 | cons a b d _ ih=>exact .cons a b (d.mono hk) ih
theorem Rep.get {c:Rat} {K:Nat} {ts:List Aj} {bs:List Ds} (h:Rep c K ts bs):∀{j:Nat} {t:Aj},ts[j]? = some t->∃b,bs[j]? = some b/\t.Mono=⟨[],b.1⟩/\rq t.Coef=c*(b.2:Rat)/\RB K t.Coef:=by
 induction h with
 | nil=>intro j t h; simp at h
 | @cons t b ts bs a1 a2 a3 _ ih=>
  intro j u hj
  cases j with
  | zero=>
   simp only [List.getElem?_cons_zero,Option.some.injEq] at hj
   subst hj
   exact ⟨b,rfl,a1,a2,a3⟩
  | succ j=>
   simp only [List.getElem?_cons_succ] at hj
   simpa using ih hj
def Fs (B:List Ds) (l:Be) (f:Nat->Nat) (n:Nat):List Ds:=(List.range n).flatMap fun k=>if f k=0 then [] else B.map fun b=>(b.1++atO l k,b.2*f k)
theorem Po (B:List Ds) (l:Be) (f:Nat->Nat) (n:Nat):Fs B l f (n+1)=Fs B l f n++(if f n=0 then [] else B.map fun b=>(b.1++atO l n,b.2*f n)):=by
 unfold Fs
 rw [List.range_succ,List.flatMap_append]; simp
theorem Arb (B:List Ds) (l:Be) (f:Nat->Nat) (n:Nat):(Fs B l f n).length<=n*B.length:=by
 induction n with
 | zero=>simp [Fs]
 | succ n ih=>
  rw [Po,List.length_append,Nat.add_mul,Nat.one_mul]
  have:(if f n=0 then ([]:List Ds) else B.map fun b=>(b.1++atO l n,b.2*f n)).length<=B.length:=by split <;> simp
  omega
noncomputable def Yj (h:List Aj) (l:Be) (k:Int) (x:Ak):Int×List Aj->Option ((Int×List Aj)⊕(Int×List Aj)):=fun (b,c)=>
 bif (decide (b<(h.length:Int))) then (
 (Ag h b).bind fun g=>
 (Q6 l k).bind fun v194=>
 (Q5 g x (A8.mk [] v194)).bind fun f=>
 (B9 104 c [f]).bind fun i=>
 some (.inl ((Ac (b+1)),i))
 )
 else (
 some (.inr (b,c))
 )
theorem A39 {c:Rat} {K M:Nat} {g o:List Aj} {B:List Ds} {l:Be} {k f:Nat} {x:Ak} (z:Rep c K g B) (hx:rq x=(f:Rat)) (q:RB 200 x) (S:K<30000000000) (R:∀b∈B,b.1.length<=M) (N:M<=1000) (hl:o.length+g.length<=1000000000) :
  ∃T,Al (Yj g l (k:Int) x) (0,o)=some ((g.length:Int),o++T)/\Rep c (K+202) T (B.map fun b=>(b.1++atO l k,b.2*f)):=by
 obtain ⟨e,X,T,V,U⟩:=M5 (step:=Yj g l (k:Int) x) (fun s=>∃(j:Nat) (T:List Aj),s=((j:Int),o++T)/\j<=g.length/\T.length=j/\Rep c (K+202) T ((B.take j).map fun b=>(b.1++atO l k,b.2*f))) (fun s=>g.length-s.1.toNat)
  (fun e=>∃T,e=((g.length:Int),o++T)/\Rep c (K+202) T (B.map fun b=>(b.1++atO l k,b.2*f))) (by
  rintro _ ⟨j,T,rfl,hj,L,y⟩
  rcases Nat.lt_or_ge j g.length with h | h
  .left
   have i:g[j]? = some g[j]:=B0 h
   generalize g[j]=t at i
   obtain ⟨b,b1,b2,Z,Y⟩:=z.get i
   have J:=R b (B7 b1)
   have:=Ara l k
   obtain ⟨u,I,G,E,D⟩:=A38 (A:=b.1) (B:=atO l k) b2 (by omega) S Y q
   refine ⟨_,?_,⟨j+1,T++[u],rfl,by omega,by simp [L],?_⟩,by simp; omega⟩
   .unfold Yj
    simp only [Am (by omega:(j:Int)<(g.length:Int)),cond_true,Bw rfl i,Ad,A37,I,C8 h (by omega)]
    rw [Dh (by simp; omega),Ad,List.append_assoc]
   .rw [C5 b1,List.map_append]
    refine y.app (.cons G ?_ D .nil)
    rw [E,Z,hx]
    show _=c*((b.2*f:Nat):Rat)
    rw [Rat.natCast_mul]; grind
  .have:j=g.length:=by omega
   subst this
   right
   refine ⟨_,by unfold Yj; simp only [Ar (by omega:¬(g.length:Int)<(g.length:Int)),cond_false],T,rfl,?_⟩
   rw [List.take_of_length_le (by rw [z.len]; exact Nat.le_refl _)] at y
   exact y) (0,o) ⟨0,[],by simp,by omega,rfl,.nil⟩
 exact ⟨T,by rw [<-V]; exact X,U⟩
end Go.Ab
namespace Go.Ab
open Go
noncomputable def Ac3 (g:List Aj) (l:Be) (p:List Ak):Int×List Aj->Option ((Int×List Aj)⊕(Int×List Aj)):=fun (v173,b)=>
 bif (decide (v173<(p.length:Int))) then (
 (Ag p v173).bind fun v175=>
 (He v175).bind fun c=>
 bif (c==(0:Int)) then (
 some (.inl ((Ac (v173+1)),b))
 )
 else (
 (Al (Yj g l v173 v175) (0,b)).bind fun (h,f)=>
 some (.inl ((Ac (v173+1)),f))
 )
 )
 else (
 some (.inr (v173,b))
 )
theorem A4a {c:Rat} {K M n:Nat} {g:List Aj} {B:List Ds} {l:Be} {f:Nat->Nat} (z:Rep c K g B) (I:∀k,k<n->f k<Big) (N:K<30000000000) (L:∀b∈B,b.1.length<=M) (y:M<=1000) (Y:n<=1000) (Z:g.length<=1000000) :
  ∃T,Al (Ac3 g l (Ls n f)) (0,[])=some ((n:Int),T)/\Rep c (K+202) T (Fs B l f n):=by
 obtain ⟨e,X,T,V,S⟩:=M5 (step:=Ac3 g l (Ls n f)) (fun s=>∃(j:Nat) (T:List Aj),s=((j:Int),T)/\j<=n/\Rep c (K+202) T (Fs B l f j)) (fun s=>n-s.1.toNat)
  (fun e=>∃T,e=((n:Int),T)/\Rep c (K+202) T (Fs B l f n)) (by
  rintro _ ⟨j,T,rfl,hj,q⟩
  unfold Ac3
  rw [M1]
  rcases Nat.lt_or_ge j n with h | h
  .left
   have D:=Arb B l f j
   have J:=q.len
   have R:=z.len
   have A:j*B.length<=1000*1000000:=Nat.mul_le_mul (by omega) (by omega)
   have x:j*B.length+B.length<=1000*B.length:=by
    have:(j+1)*B.length<=1000*B.length:=Nat.mul_le_mul_right _ (by omega)
    rw [Nat.add_mul] at this; omega
   have i:=I j h
   simp only [Am (by omega:(j:Int)<(n:Int)),cond_true,Bw rfl (Lf f h),Ad,(Np.c i).sign,C8 h (by omega)]
   by_cases h0:f j=0
   .refine ⟨_,by rw [if_pos h0]; rfl,⟨j+1,T,rfl,by omega,?_⟩,by simp; omega⟩
    rw [Po,if_pos h0,List.append_nil]; exact q
   .have u:RB 200 (cR (f j)):=(Np.c i).rb
    obtain ⟨U,G,E⟩:=A39 (o:=T) (l:=l) (k:=j) (f:=f j) z (Pm (f j)) u N L y (by omega)
    refine ⟨_,by rw [if_neg h0,G]; rfl,⟨j+1,T++U,rfl,by omega,?_⟩,by simp; omega⟩
    rw [Po,if_neg h0]
    exact q.app E
  .have:j=n:=by omega
   subst this
   right
   exact ⟨_,by simp only [Ar (by omega:¬(j:Int)<(j:Int)),cond_false],T,rfl,q⟩) (0,[]) ⟨0,[],rfl,by omega,.nil⟩
 exact ⟨T,by rw [<-V]; exact X,S⟩
def Pw (l:Be) (N:Nat) (f:Nat->Nat) (g:List Ba):Prop:=(l.Terms.length≠0/\PwN g N f)\/(l.Terms.length=0/\N=0/\f 0=prb l.Const.toNat g)
abbrev Grp:=Be×Nat×(Nat->Nat)
inductive Gs:List Grp->List Ba->Prop
 | nil:Gs [] []
 | cons {l:Be} {N:Nat} {f:Nat->Nat} {g rest:List Ba} {gs:List Grp}:g≠[]->(∀a∈g,a.Lin=l)->(∀a∈rest,Gq l a.Lin<0)->Pw l N f g->Gs gs rest->Gs ((l,N,f)::gs) (g++rest)
def Ks (B:List Ds):List Grp->List Ds
 | []=>B
 | q::gs=>Ks (Fs B q.1 q.2.2 (q.2.1+1)) gs
structure Atk (A:List Ba):Prop where
 deg:∀a∈A,0<=a.Deg
 lin:∀a∈A,Cz a.Lin=true
 sum:Cx A<=12
 len:A.length<=12
theorem Mb {a:Be} (h:Cz a=true):a.Terms.length<=16/\-1048576<=a.Const/\a.Const<=1048576:=by
 unfold Cz at h
 simp only [Cu,decide_eq_true_eq] at h
 exact ⟨h.1.2.2,h.1.1,h.1.2.1⟩
theorem Atk.sub {A B:List Ba} (h:Atk (A++B)):Atk A/\Atk B:=by
 have h1:=h.sum
 have h2:=h.len
 rw [M2] at h1
 rw [List.length_append] at h2
 exact ⟨⟨fun a ha=>h.deg a (by simp [ha]),fun a ha=>h.lin a (by simp [ha]),by omega,by omega⟩,⟨fun a ha=>h.deg a (by simp [ha]),fun a ha=>h.lin a (by simp [ha]),by omega,by omega⟩⟩
theorem A4b {l:Be} {g:List Ba} (hk:Atk g) (b:g≠[]) (j:∀a∈g,a.Lin=l):∃N f,Lw g=some (Ls (N+1) f)/\Pw l N f g/\N<=Cx g/\∀k,k<N+1->f k<Big:=by
 have s:=hk.len
 have q:=hk.sum
 obtain ⟨a,ha⟩:∃a,a∈g:=by
  cases g with
  | nil=>exact (b rfl).elim
  | cons a _=>exact ⟨a,by simp⟩
 have c:=hk.lin a ha
 rw [j a ha] at c
 have hc:=(Mb c).2.2
 by_cases h:l.Terms.length=0
 .have h1:=A31 g hc (fun a ha=>by rw [j a ha]; exact ⟨h,rfl⟩) hk.deg hk.sum (by omega)
  exact ⟨0,fun _=>prb l.Const.toNat g,h1,.inr ⟨h,rfl,rfl⟩,by omega,fun k _=>U1 (by omega) q⟩
 .obtain ⟨N,f,h1,h2⟩:=A3z g b (fun a ha=>by rw [j a ha]; exact h) hk.deg hk.sum (by omega)
  refine ⟨N,f,h1,.inl ⟨h,h2⟩,by rw [h2.1]; exact Nat.le_refl _,fun k i=>Nat.lt_of_le_of_lt (h2.le i) (U1 ?_ q)⟩
  have:=h2.1
  omega
noncomputable def Ac4 (r:List Ba) (l:Be):Int->Option (Int⊕Int):=fun b=>
 bif (decide (b<(r.length:Int))) then (
 (Ag r b).bind fun v117=>
 (K6 v117.Lin l).bind fun c=>
 bif (c==(0:Int)) then (
 some (.inl (Ac (b+1)))
 )
 else (
 some (.inr b)
 )
 )
 else (
 some (.inr b)
 )
theorem A4c {r:List Ba} {a:Ba} (h0:r[0]? = some a) (ht:∀b∈r,b.Lin.Terms.length<1099511627776) (u:r.length<=1000) :
  ∃n:Nat,Al (Ac4 r a.Lin) 1=some (n:Int)/\1<=n/\n<=r.length/\(∀b∈r.take n,b.Lin=a.Lin)/\∀b,r[n]? = some b->b.Lin≠a.Lin:=by
 have hpos:=Eo h0
 obtain ⟨e,q,n,l,k⟩:=M5 (step:=Ac4 r a.Lin) (fun s=>∃n:Nat,s=(n:Int)/\1<=n/\n<=r.length/\∀b∈r.take n,b.Lin=a.Lin) (fun s=>r.length-s.toNat)
  (fun e=>∃n:Nat,e=(n:Int)/\1<=n/\n<=r.length/\(∀b∈r.take n,b.Lin=a.Lin)/\∀b,r[n]? = some b->b.Lin≠a.Lin) (by
  rintro _ ⟨j,rfl,g,f,c⟩
  unfold Ac4
  rcases Nat.lt_or_ge j r.length with h | h
  .have hx:r[j]? = some r[j]:=B0 h
   have i:=List.getElem_mem h
   generalize r[j]=b at hx i
   simp only [Am (by omega:(j:Int)<(r.length:Int)),cond_true,Bw rfl hx,Ad,Acb _ _ (ht b i),C8 h (by omega)]
   by_cases hc:b.Lin=a.Lin
   .left
    rw [Dj ((Ix.zero _ _ trivial trivial).2 hc)]
    refine ⟨_,rfl,⟨j+1,rfl,by omega,by omega,fun d hd=>?_⟩,by omega⟩
    rw [C5 hx] at hd
    rcases List.mem_append.1 hd with hd | hd
    .exact c d hd
    .simp only [List.mem_singleton] at hd
     rw [hd]; exact hc
   .right
    rw [Cp (fun h=>hc ((Ix.zero _ _ trivial trivial).1 h))]
    exact ⟨_,rfl,j,rfl,g,f,c,fun d hd=>by rw [hx] at hd; cases hd; exact hc⟩
  .right
   refine ⟨_,by simp only [Ar (by omega:¬(j:Int)<(r.length:Int)),cond_false],j,rfl,g,f,c,fun d hd=>?_⟩
   have:=Eo hd
   omega) 1 ⟨1,rfl,by omega,by omega,fun b hb=>by
    cases r with
    | nil=>simp at hpos
    | cons x r=>simp at hb h0; rw [hb,h0]⟩
 exact ⟨n,by rw [<-l]; exact q,k⟩
noncomputable def Yk:(List Aj×List Ba)->Option ((List Aj×List Ba)⊕List Aj):=fun (g,b)=>
 bif (decide ((b.length:Int)>(0:Int))) then (
 (Ag b 0).bind fun f=>
 (Al (Ac4 b f.Lin) 1).bind fun c=>
 (G3 b 0 c).bind fun i=>
 (Lw i).bind fun h=>
 (Al (Ac3 g f.Lin h) (0,[])).bind fun (k,j)=>
 (G3 b c b.length).bind fun v201=>
 some (.inl (j,v201))
 )
 else (
 some (.inr g)
 )
theorem A4d (n:Nat):n+1<=2 ^ n:=by
 induction n with
 | zero=>decide
 | succ n ih=>rw [Nat.pow_succ]; omega
theorem A4e {B:List Ds} {l:Be} {f:Nat->Nat} {n M:Nat} (c:∀b∈B,b.1.length<=M):∀b∈Fs B l f n,b.1.length<=M+1:=by
 intro b hb
 unfold Fs at hb
 rw [List.mem_flatMap] at hb
 obtain ⟨k,_,hk⟩:=hb
 split at hk
 .cases hk
 .rw [List.mem_map] at hk
  obtain ⟨d,hd,rfl⟩:=hk
  have:=c d hd
  have:=Ara l k
  simp only [List.length_append]; omega
theorem A4f {c:Rat}:∀(n:Nat) (rest:List Ba) (j:List Aj) (B:List Ds) (K M:Nat),rest.length<=n->Ac2 rest->Atk rest->Rep c K j B->(∀b∈B,b.1.length<=M)->M+rest.length<=1000->K+202*rest.length<30000000000->B.length*2 ^ Cx rest<=1000000 ->
  ∃gs i,Al Yk (j,rest)=some i/\Gs gs rest/\Rep c (K+202*rest.length) i (Ks B gs)/\i.length<=B.length*2 ^ Cx rest:=by
 intro n
 induction n with
 | zero=>
  intro rest j B K M hn _ _ A _ _ _ _
  have:rest = []:=List.length_eq_zero_iff.1 (by omega)
  subst this
  exact ⟨[],j,Ee (by unfold Yk; simp),.nil,by simpa [Ks] using A,by rw [A.len]; simp [Cx]⟩
 | succ n ih=>
  intro rest j B K M hn hS R A hM ae hK E
  cases g:rest with
  | nil=>
   exact ⟨[],j,Ee (by unfold Yk; simp),.nil,by simpa [Ks] using A.mono (by omega),by rw [A.len]; simp [Cx]⟩
  | cons a r'=>
   rw [<-g]
   have h0:rest[0]? = some a:=by rw [g]; rfl
   have ab:0<rest.length:=Eo h0
   have hT:∀b∈rest,b.Lin.Terms.length<1099511627776:=fun b hb=>by have:=(Mb (R.lin b hb)).1; omega
   have af:=R.len
   obtain ⟨m,m1,m2,m3,m4,m5⟩:=A4c h0 hT (by omega)
   have u:rest=rest.take m++rest.drop m:=(List.take_append_drop m rest).symm
   have L:=(u ▸ R:Atk (rest.take m++rest.drop m)).sub
   have y:rest.take m≠[]:=by
    intro h
    have:=congrArg List.length h
    rw [List.length_take] at this
    simp only [List.length_nil] at this
    omega
   obtain ⟨N,f,p1,p2,p3,p4⟩:=A4b L.1 y m4
   have Z:Cx rest=Cx (rest.take m)+Cx (rest.drop m):=by rw [<-M2,List.take_append_drop]
   have ac:=R.sum
   have U:2 ^ Cx rest=2 ^ Cx (rest.take m)*2 ^ Cx (rest.drop m):=by rw [Z,Nat.pow_add]
   have aa:B.length<=1000000:=Nat.le_trans (Nat.le_mul_of_pos_right _ (Nat.pow_pos (by decide))) E
   obtain ⟨T,t1,t2⟩:=A4a (l:=a.Lin) (n:=N+1) A p4 (by omega) hM (by omega) (by omega) (by rw [A.len]; exact aa)
   have z:Yk (j,rest)=some (.inl (T,rest.drop m)):=by
    have Y:Ag rest 0=some a:=Bw (n:=0) rfl h0
    have S:G3 rest (m:Int) (rest.length:Int)=some (rest.drop m):=by
     unfold G3
     simp [List.drop_take]
     omega
    unfold Yk
    simp only [Am (by omega:(rest.length:Int)>0),cond_true,Y,Ad,m1,Abb rfl m3,p1,t1,S]
   have ad:(rest.drop m).length+m=rest.length:=by rw [List.length_drop]; omega
   have a8:=Arb B a.Lin f (N+1)
   have J:(N+1)*B.length<=B.length*2 ^ Cx (rest.take m):=by
    rw [Nat.mul_comm]
    refine Nat.mul_le_mul_left _ (Nat.le_trans (A4d N) (Nat.pow_le_pow_right (by decide) p3))
   have x:(Fs B a.Lin f (N+1)).length*2 ^ Cx (rest.drop m)<=B.length*2 ^ Cx rest:=by
    rw [U,<-Nat.mul_assoc]
    exact Nat.mul_le_mul_right _ (Nat.le_trans a8 J)
   obtain ⟨gs,i,g1,g2,g3,g4⟩:=ih (rest.drop m) T (Fs B a.Lin f (N+1)) (K+202) (M+1) (by omega) (List.Pairwise.sublist (List.drop_sublist m rest) hS) L.2 t2 (A4e hM) (by omega) (by omega) (Nat.le_trans x E)
   refine ⟨(a.Lin,N,f)::gs,i,by rw [Je z,g1],?_,g3.mono (by omega),Nat.le_trans g4 x⟩
   have X:∀b∈rest.drop m,Gq a.Lin b.Lin<0:=by
    intro b hb
    cases hd:rest.drop m with
    | nil=>rw [hd] at hb; cases hb
    | cons d D=>
     have q:rest[m]? = some d:=by
      have:=congrArg (fun l=>l[0]?) hd
      simpa using this
     have a6:=m5 d q
     have a7:¬Gq d.Lin a.Lin<0:=by
      have I:=hS
      rw [g] at I
      have a1:d∈r':=by
       have:=B7 q
       have V:m=(m-1)+1:=by omega
       rw [g,V,List.getElem?_cons_succ] at q
       exact B7 q
      exact (List.pairwise_cons.1 I).1 d a1
     have s:Gq a.Lin d.Lin<0:=by
      rcases Int.lt_trichotomy (Gq d.Lin a.Lin) 0 with k | k | k
      .exact (a7 k).elim
      .exact (a6 ((Ix.zero _ _ trivial trivial).1 k)).elim
      .rw [Ix.anti d.Lin a.Lin trivial trivial]; omega
     rw [hd] at hb
     rcases List.mem_cons.1 hb with rfl | hb
     .exact s
     .have G:Ac2 (rest.drop m):=List.Pairwise.sublist (List.drop_sublist m rest) hS
      rw [hd] at G
      have h3:=(List.pairwise_cons.1 G).1 b hb
      rcases Int.lt_trichotomy (Gq b.Lin d.Lin) 0 with k | k | k
      .exact (h3 k).elim
      .rw [(Ix.zero _ _ trivial trivial).1 k]; exact s
      .exact Ix.trans a.Lin d.Lin b.Lin trivial trivial trivial s (by rw [Ix.anti b.Lin d.Lin trivial trivial]; omega)
   have:=Gs.cons y m4 X p2 g2
   rwa [List.take_append_drop] at this
end Go.Ab
namespace Go.Ab
open Go
theorem Arc {B:List Ds} {l:Be} {f g:Nat->Nat}:∀{n:Nat},(∀k,k<n->f k=g k)->Fs B l f n=Fs B l g n
 | 0,_=>rfl
 | n+1,h=>by rw [Po,Po,Arc fun k hk=>h k (by omega),h n (by omega)]
theorem Pw.uniq {l:Be} {N M:Nat} {f g:Nat->Nat} {A b:List Ba} (h:Pw l N f A) (h':Pw l M g b) (hp:A.Perm b):N=M/\∀k,k<N+1->f k=g k:=by
 rcases h with ⟨a1,a2⟩ | ⟨a1,a2,a3⟩
 .rcases h' with ⟨_,b2⟩ | ⟨b1,_,_⟩
  .exact a2.uniq b2 hp
  .exact (a1 b1).elim
 .rcases h' with ⟨b1,_⟩ | ⟨_,b2,c⟩
  .exact (b1 a1).elim
  .refine ⟨by omega,fun k hk=>?_⟩
   have:k=0:=by omega
   subst this
   rw [a3,c,Aq6 _ hp]
theorem Ah7 (l:Be):¬Gq l l<0:=Yi.irr l
theorem A4g {α:Type} {p:α->Bool} {g r c b:List α} (h:(g++r).Perm (c++b)) (h1:∀a∈g,p a=true) (h2:∀a∈r,p a=false) (h3:∀a∈c,p a=true) (j:∀a∈b,p a=false):g.Perm c/\r.Perm b:=by
 have s:(g++r).filter p=g:=by
  rw [List.filter_append,List.filter_eq_self.2 h1,List.filter_eq_nil_iff.2 (fun a ha=>by rw [h2 a ha]; decide),List.append_nil]
 have q:(c++b).filter p=c:=by
  rw [List.filter_append,List.filter_eq_self.2 h3,List.filter_eq_nil_iff.2 (fun a ha=>by rw [j a ha]; decide),List.append_nil]
 have l:(g++r).filter (fun a=>!p a)=r:=by
  have i:g.filter (fun a=>!p a) = []:=List.filter_eq_nil_iff.2 (fun a ha=>by rw [h1 a ha]; decide)
  have f:r.filter (fun a=>!p a)=r:=List.filter_eq_self.2 (fun a ha=>by rw [h2 a ha]; rfl)
  rw [List.filter_append,i,f,List.nil_append]
 have k:(c++b).filter (fun a=>!p a)=b:=by
  have i:c.filter (fun a=>!p a) = []:=List.filter_eq_nil_iff.2 (fun a ha=>by rw [h3 a ha]; decide)
  have f:b.filter (fun a=>!p a)=b:=List.filter_eq_self.2 (fun a ha=>by rw [j a ha]; rfl)
  rw [List.filter_append,i,f,List.nil_append]
 refine ⟨?_,?_⟩
 .rw [<-s,<-q]; exact h.filter p
 .rw [<-l,<-k]; exact h.filter _
theorem Gs.det:∀{u:List Grp} {A:List Ba},Gs u A->∀{c:List Grp} {y:List Ba},Gs c y->A.Perm y->∀B,Ks B u=Ks B c:=by
 intro u A h
 induction h with
 | nil=>
  intro c y h' hp B
  cases h' with
  | nil=>rfl
  | cons i _ _ _ _=>exact (i (List.append_eq_nil_iff.1 hp.symm.eq_nil).1).elim
 | @cons l N f g rest u i x I M V ih=>
  intro c y h' hp B
  cases h' with
  | nil=>exact (i (List.append_eq_nil_iff.1 hp.eq_nil).1).elim
  | @cons J X R E k c s j q z D=>
   have L:l=J:=by
    obtain ⟨a,ha⟩:∃a,a∈g:=by
     cases g with
     | nil=>exact (i rfl).elim
     | cons a _=>exact ⟨a,by simp⟩
    obtain ⟨b,hb⟩:∃b,b∈E:=by
     cases E with
     | nil=>exact (s rfl).elim
     | cons a _=>exact ⟨a,by simp⟩
    have ha':a∈E++k:=hp.mem_iff.1 (by simp [ha])
    have hb':b∈g++rest:=hp.mem_iff.2 (by simp [hb])
    rcases List.mem_append.1 ha' with ha' | ha'
    .rw [<-x a ha,j a ha']
    .rcases List.mem_append.1 hb' with hb' | hb'
     .rw [<-x b hb',j b hb]
     .have h1:=q a ha'
      have h2:=I b hb'
      rw [x a ha] at h1
      rw [j b hb] at h2
      exact (Ah7 l (Yi.trs _ _ _ h2 h1)).elim
   subst L
   have G:=A4g (p:=fun a:Ba=>decide (Gq a.Lin l=0)) hp (fun a ha=>by rw [x a ha]; exact decide_eq_true ((Ix.zero l l trivial trivial).2 rfl))
    (fun a ha=>decide_eq_false fun h=>by have h1:=I a ha; rw [(Ix.zero _ _ trivial trivial).1 h] at h1; exact Ah7 l h1)
    (fun a ha=>by rw [j a ha]; exact decide_eq_true ((Ix.zero l l trivial trivial).2 rfl))
    (fun a ha=>decide_eq_false fun h=>by have h1:=q a ha; rw [(Ix.zero _ _ trivial trivial).1 h] at h1; exact Ah7 l h1)
   obtain ⟨U,S⟩:=M.uniq z G.1
   subst U
   show Ks (Fs B l f (N+1)) u=Ks (Fs B l R (N+1)) c
   rw [Arc S]
   exact ih D G.2 _
def IsE (A:List Ba) (B:List Ds):Prop:=∃gs b,b.Perm A/\Ac2 b/\Gs gs b/\B=Ks [([],1)] gs
theorem IsE.det {A c:List Ba} {B b:List Ds} (h:IsE A B) (h':IsE c b) (hp:A.Perm c):B=b:=by
 obtain ⟨gs,C,j,_,i,rfl⟩:=h
 obtain ⟨k,l,g,_,f,rfl⟩:=h'
 exact i.det f (j.trans (hp.trans g.symm)) _
theorem Ac5 {c:Ak} {K:Nat} {A:List Ba} (hc:RB K c) (I:K<20000000000) (h0:rq c≠0) (i:Atk A) (b1:List (ByteArray×Int)) (b2:List (ByteArray×List Dl)) (data:List Ap) (vars:List Ah) (D z:Int) (y:List Ah) :
  ∃out B,Tj c ⟨[],A⟩ b1 b2 data vars D z y=some (out,0)/\IsE A B/\Rep (rq c) (K+2424) out B/\out.length<=2 ^ Cx A:=by
 have E:∀b∈A,b.Lin.Terms.length<1099511627776:=fun b hb=>by have:=(Mb (i.lin b hb)).1; omega
 have s:=i.len
 have q:=i.sum
 obtain ⟨S,x,g,u⟩:=A33 A E (by omega)
 have f:Atk S:=⟨fun a ha=>i.deg a (g.mem_iff.1 ha),fun a ha=>i.lin a (g.mem_iff.1 ha),by rw [Yh g]; exact q,by rw [g.length_eq]; exact s⟩
 have hp:2 ^ Cx S<=4096:=Nat.le_trans (Nat.pow_le_pow_right (by decide) f.sum) (by decide)
 obtain ⟨gs,out,g1,g2,g3,g4⟩:=A4f (c:=rq c) S.length S [⟨c,⟨[],[]⟩⟩] [([],1)] K 0 (Nat.le_refl _) u f (.cons rfl (by simp) hc .nil) (fun b hb=>by simp only [List.mem_singleton] at hb; subst hb; simp) (by have:=f.len; omega) (by have:=f.len; omega) (by simp only [List.length_singleton,Nat.one_mul]; omega)
 have G:=f.len
 refine ⟨out,_,?_,⟨gs,S,g,u,g2,rfl⟩,g3.mono (by omega),by rw [<-Yh g]; simpa using g4⟩
 unfold Tj
 have j:Jp (rq c)≠0:=by
  unfold Jp
  split
  .decide
  .split
   .decide
   .rename_i h1 h2
    exact (h0 (by grind)).elim
 rw [(X0 hc (by omega)).1,Ad,Cp j,cond_false]
 have l:To A=some ([],A):=by
  unfold To M8
  rw [Dh (by simp; omega)]; rfl
 have h:Wq []=some ([],[]):=rfl
 rw [h,Ad]
 dsimp only
 rw [A34,Ad]
 have k:Fb (α:=Cg) ([]:List Cg).length []=some ():=rfl
 rw [k,Ad]
 refine bnd (a:=()) (Ee (by simp)) ?_
 rw [l,Ad]
 dsimp only
 rw [x,Ad,Nv g.length_eq.symm,Ad]
 exact bnd g1 rfl
end Go.Ab
namespace Go.Ab
open Go
def Ah8 (vars:List Ah) (res:Ah) (L:List Ba):Prop:=L.Pairwise (fun a b=>Gq a.Lin b.Lin<0)/\∀a∈L,1<=a.Deg/\Cz a.Lin=true/\a.Lin.Terms.length≠0/\Dm vars res a.Lin=true
theorem Ac6 (l m:List Ba):Cv (l++m)=Cv l+Cv m:=by unfold Cv; simp [List.sum_append]
theorem Ard {vars:List Ah} {res:Ah}:∀{u:List Grp} {rest:List Ba},Gs u rest->(∀a∈rest,Cz a.Lin=true/\Dm vars res a.Lin=true) ->
  ∀(B:List Ds) (S:Int),(∀b∈B,Ah8 vars res b.1/\Cv b.1<=S/\∀a∈b.1,∀r∈rest,Gq a.Lin r.Lin<0)->∀b∈Ks B u,Ah8 vars res b.1/\Cv b.1<=S+(Cx rest:Nat):=by
 intro u rest h
 induction h with
 | nil=>intro _ B S z b hb; have:=z b hb; exact ⟨this.1,by have:=this.2.1; omega⟩
 | @cons l N f g rest u x I E J R ih=>
  intro A B S z
  obtain ⟨a0,j⟩:∃a,a∈g:=by
   cases g with
   | nil=>exact (x rfl).elim
   | cons a _=>exact ⟨a,by simp⟩
  have s:=I a0 j
  have q:=A a0 (by simp [j])
  rw [s] at q
  have L:∀k,k<N+1->k≠0->l.Terms.length≠0/\k<=Cx g:=by
   intro k hk G
   rcases J with ⟨h1,h2⟩ | ⟨_,h2,_⟩
   .exact ⟨h1,by rw [<-h2.1]; omega⟩
   .omega
  intro b hb
  have:=ih (fun a ha=>A a (by simp [ha])) (Fs B l f (N+1)) (S+(Cx g:Nat)) (by
   intro b hb
   unfold Fs at hb
   rw [List.mem_flatMap] at hb
   obtain ⟨k,i,hk⟩:=hb
   have i:=List.mem_range.1 i
   split at hk
   .cases hk
   .rw [List.mem_map] at hk
    obtain ⟨d,hd,rfl⟩:=hk
    obtain ⟨d1,d2,d3⟩:=z d hd
    have y:∀a∈d.1,Gq a.Lin l<0:=fun a ha=>by have:=d3 a ha a0 (by simp [j]); rwa [s] at this
    unfold atO
    by_cases h0:k=0
    .rw [if_pos h0,List.append_nil]
     exact ⟨d1,by show Cv d.1<=S+((Cx g:Nat):Int); omega,fun a ha r c=>d3 a ha r (by simp [c])⟩
    .rw [if_neg h0]
     obtain ⟨D,M⟩:=L k i h0
     refine ⟨⟨List.pairwise_append.2 ⟨d1.1,List.pairwise_singleton _ _,fun a ha b hb=>?_⟩,fun a ha=>?_⟩,?_,fun a ha r c=>?_⟩
     .simp only [List.mem_singleton] at hb
      subst hb; exact y a ha
     .rcases List.mem_append.1 ha with ha | ha
      .exact d1.2 a ha
      .simp only [List.mem_singleton] at ha
       subst ha
       exact ⟨by show (1:Int)<=(k:Int); omega,q.1,D,q.2⟩
     .show Cv (d.1++[⟨l,k⟩])<=_
      rw [Ac6]
      have:Cv [(⟨l,(k:Int)⟩:Ba)]=(k:Int):=by simp [Cv]
      omega
     .rcases List.mem_append.1 ha with ha | ha
      .exact d3 a ha r (by simp [c])
      .simp only [List.mem_singleton] at ha
       subst ha
       exact E r c) b hb
  refine ⟨this.1,?_⟩
  rw [M2]
  have:=this.2
  omega
theorem A4h {x:Bo} {L:List Ba} (h:Ah8 x.Vars x.Res L) (s:Cv L<=6):G2 x ⟨[],L⟩:=by
 have i:(L.length:Int)<=Cv L:=by
  have key:∀l:List Ba,(∀a∈l,1<=a.Deg)->(l.length:Int)<=Cv l:=by
   intro l
   induction l with
   | nil=>intro _; simp [Cv]
   | cons f fs ih=>
    intro c
    have h1:=c f (by simp)
    have h2:=ih (fun g u=>c g (by simp [u]))
    unfold Cv at *
    simp only [List.map_cons,List.sum_cons,List.length_cons]; omega
  exact key _ fun a ha=>(h.2 a ha).1
 constructor
 .unfold Iw
  have k:L.zipIdx.all (fun q=>Lb x.Vars x.Res L q.1 q.2)=true:=by
   rw [List.all_eq_true]
   rintro ⟨a,j⟩ hq
   have hj:L[j]? = some a:=List.mk_mem_zipIdx_iff_getElem?.1 hq
   obtain ⟨h1,h2,h3,y⟩:=h.2 a (B7 hj)
   show Lb x.Vars x.Res L a j=true
   unfold Lb
   have hp:Rv L a j=true:=by
    unfold Rv
    cases j with
    | zero=>rfl
    | succ j=>
     have c:=Eo hj
     have hy:L[j]? = some L[j]:=B0 (by omega)
     have b:=List.pairwise_iff_getElem.1 h.1 j (j+1) (by omega) c (by omega)
     have e:L[j+1]=a:=by
      have:=B0 c
      rw [hj] at this; exact (Option.some.inj this).symm
     rw [e] at b
     simp only [Nat.add_sub_cancel,hy,Bool.or_eq_true]
     exact .inr (decide_eq_true b)
   rw [hp,Am h1,h2,y]
   simp only [Bool.true_and,Bool.and_true,Bool.not_eq_true',beq_eq_false_iff_ne,ne_eq]
   exact h3
  show (([]:List Cg).zipIdx.all _&&L.zipIdx.all (fun q=>Lb x.Vars x.Res L q.1 q.2)&&decide (Gr x.Data x.Vars x.Res []+Cv L<=6))=true
  rw [k]
  have:Gr x.Data x.Vars x.Res []=0:=rfl
  rw [this]
  simp
  exact s
 .exact ⟨by simp,by show L.length<=1048576; omega,(fun _ h=>by cases h),(fun _ h=>by cases h),fun a ha=>by have:=(Mb (h.2 a ha).2.1).1; omega⟩
def ec:List Ds->A8->Nat
 | [],_=>0
 | b::bs,m=>(if C9 ⟨[],b.1⟩ m=0 then b.2 else 0)+ec bs m
theorem Rep.cf {c:Rat} {K:Nat} {ts:List Aj} {bs:List Ds} (h:Rep c K ts bs) (m:A8):Ab.cf ts m=c*(ec bs m:Rat):=by
 induction h with
 | nil=>simp only [Ab.cf,ec]; grind
 | @cons t b ts bs a1 a2 a3 _ ih=>
  simp only [Ab.cf,ec,ih,a1]
  rw [Rat.natCast_add]
  split
  .rw [a2]; grind
  .grind
theorem Rep.mem {c:Rat} {K:Nat} {ts:List Aj} {bs:List Ds} (h:Rep c K ts bs) {t:Aj} (ht:t∈ts):∃b∈bs,t.Mono=⟨[],b.1⟩/\rq t.Coef=c*(b.2:Rat)/\RB K t.Coef:=by
 obtain ⟨j,hj⟩:=List.getElem?_of_mem ht
 obtain ⟨b,b1,b2⟩:=h.get hj
 exact ⟨b,B7 b1,b2⟩
def Yl (L:Nat) (p:List Aj):Prop:=∀t∈p,∃z:Int,rq t.Coef=(z:Rat)/\Bd z.natAbs<=L
theorem Are {a:Ak} {z:Int} (ha:Fx a) (h:rq a=(z:Rat)):a=Bq (decide (z<0)) z.natAbs 1:=by
 refine Ao8 ha (Ph _ _ _ (by decide)) ?_
 rw [h,Lc _ _ _ (by decide),Ahy]
 congr 1
 unfold sg
 by_cases h:z<0
 .rw [Am h,if_pos rfl]; omega
 .rw [Ar h,if_neg (by decide)]; omega
theorem Ah9 {a:Ak} {z:Int} {L:Nat} (ha:Fx a) (h:rq a=(z:Rat)) (b:Bd z.natAbs<=L):RB (L+1) a:=by
 rw [Are ha h]
 exact K9 _ _ _ _ (by omega) (by rw [L1]; omega) (by omega)
theorem Arf {a:Ak} {z:Int} {k:Nat} (ha:Fx a) (h:rq a=(z:Rat)) (c:RB k a):Bd z.natAbs<=k+1:=by
 have h1:=c.nv
 rw [Are ha h] at h1
 obtain ⟨b,i,g,f⟩:=Xd (decide (z<0)) z.natAbs 1 (by decide)
 rw [b] at h1
 simpa using h1
theorem Arg {p:List Aj} {L:Nat} (h:Yl L p) (hc:CP p) (m:A8):∃z:Int,cf p m=(z:Rat)/\Bd z.natAbs<=L:=by
 by_cases b:∃t∈p,C9 t.Mono m=0
 .obtain ⟨t,ht,e⟩:=b
  obtain ⟨z,c,z2⟩:=h t ht
  refine ⟨z,?_,z2⟩
  rw [<-c,<-Acg hc ht,Km.1 e]
 .exact ⟨0,by rw [Aph fun t ht e=>b ⟨t,ht,e⟩]; rfl,by simp [T7]⟩
theorem Yl.of {p:List Aj} {L:Nat} (hc:CP p) (h:∀m,∃z:Int,cf p m=(z:Rat)/\Bd z.natAbs<=L):Yl L p:=fun t ht=>by
 obtain ⟨z,b,z2⟩:=h t.Mono
 exact ⟨z,by rw [<-Acg hc ht]; exact b,z2⟩
structure IP (x:Bo) (n L:Nat) (f:A8->Rat) (R:List Aj):Prop where
 cp:CP R
 val:∀m,cf R m=f m
 mo:∀t∈R,G2 x t.Mono
 len:R.length<=n
 int:Yl L R
theorem IP.can {x:Bo} {n L:Nat} {f:A8->Rat} {R:List Aj} (h:IP x n L f R) (c:n<=1000) (g:L<=1000000):Ho x R :=
 Ho.of h.cp h.mo (fun t ht=>by
  obtain ⟨z,b,z2⟩:=h.int t ht
  exact (Ah9 (h.cp.coe t ht).1 b z2).mono (by omega)) (by have:=h.len; omega)
theorem IP.ext {x y:Bo} {n L b L':Nat} {f g:A8->Rat} {R S:List Aj} (h:IP x n L f R) (h':IP y b L' g S) (e:∀m,f m=g m):R=S:=CP.ext h.cp h'.cp fun m=>by rw [h.val,h'.val,e]
theorem A4i (y z:Int) {L M:Nat} (hy:Bd y.natAbs<=L) (b:Bd z.natAbs<=L) (h:L+1<=M):Bd (y+z).natAbs<=M:=by
 have h1:=T8 y.natAbs z.natAbs
 have h2:Bd (y+z).natAbs<=Bd (y.natAbs+z.natAbs):=G4 (by omega)
 omega
theorem Arh {x:Bo} (l:CSz x) (A:D9 x) {n m L:Nat} {f g:A8->Rat} {p q:List Aj} (hp:IP x n L f p) (hq:IP x m L g q) (B:n+m<=1000) (c:L<=1000000) :
  ∃R,Og x p q=some (R,0)/\IP x (n+m) (L+1) (fun a=>f a-g a) R:=by
 have u:=hp.len
 have s:=hq.len
 obtain ⟨R,k,b⟩:=A2p l A (hp.can (by omega) c) (hq.can (by omega) c) (by omega)
 refine ⟨R,k,b.cp,fun a=>by rw [b.val,hp.val,hq.val],fun t ht=>(b.tb t ht).1,by have:=b.len; omega,Yl.of b.cp fun a=>?_⟩
 obtain ⟨y,j,i⟩:=Arg hp.int hp.cp a
 obtain ⟨z,h,z2⟩:=Arg hq.int hq.cp a
 refine ⟨y + -z,?_,A4i y (-z) i (by rw [Int.natAbs_neg]; exact z2) (Nat.le_refl _)⟩
 rw [b.val,j,h,Rat.intCast_add,Rat.intCast_neg,Rat.sub_eq_add_neg]
end Go.Ab
namespace Go.Ab
open Go
theorem A4j (a b:Bb):Nk a b=some (Eh a.Var b.Var):=by
 unfold Nk
 rw [Mz]; rfl
theorem Pp {a b:Int}:Eh a b<0↔a<b:=by unfold Eh; split <;> (try split) <;> omega
theorem A4k:Oc (fun a b:Bb=>Eh a.Var b.Var) :=
 ⟨fun x h=>by have:=Pp.1 h; omega,fun x y z h1 h2=>by have:=Pp.1 h1; have:=Pp.1 h2; exact Pp.2 (by omega),fun x y z h1 h2 h=>by
  have:=Pp.1 h
  have:=mt Pp.2 h1
  have:=mt Pp.2 h2
  omega⟩
theorem A4l (c:List Bb) (f:c.length<=12):∃R,Tc c=some R/\R.Perm c/\R.Pairwise (fun a b=>a.Var<=b.Var):=by
 obtain ⟨R,h1,h2,h3⟩:=Aq0 (cmp:=Nk) A4k c (fun x _ y _=>A4j x y) (by omega)
 obtain ⟨v,hv⟩:=Ap6 (n:=c.length) (by omega)
 refine ⟨R,?_,h2,h3.imp fun {a b} h=>?_⟩
 .unfold Tc
  rw [Nat.ble_eq_true_of_le f,cond_true]
  unfold Aff
  rw [hv,Ad]
  have hp:Wk 0 (c.length:Int) v c=some R:=by
   unfold Wk
   have e:Aap 0 (c.length:Int) c=Yf Nk 0 (c.length:Int) c:=rfl
   have w:Ac ((c.length:Int)-0)=(c.length:Int):=by rw [Ac,Bs] <;> omega
   refine bnd (a:=R) (Ee ?_) rfl
   rw [w,Am (by omega),cond_true,e,h1,Ad,Nv h2.length_eq.symm]; rfl
  rw [hp,Ad,Nv h2.length_eq.symm]; rfl
 .have:=mt Pp.2 h
  omega
def cl:List Bb->Int->Int
 | [],_=>0
 | t::l,v=>(if t.Var=v then t.Coef else 0)+cl l v
theorem Pq (l m:List Bb) (v:Int):cl (l++m) v=cl l v+cl m v:=by
 induction l with
 | nil=>simp [cl]
 | cons t l ih=>simp only [List.cons_append,cl,ih]; omega
theorem A4m {l m:List Bb} (h:l.Perm m) (v:Int):cl l v=cl m v:=by
 induction h with
 | nil=>rfl
 | cons t _ ih=>simp only [cl,ih]
 | swap a b l=>simp only [cl]; omega
 | trans _ _ h1 h2=>exact h1.trans h2
theorem Ps {l:List Bb} {v:Int} (h:∀t∈l,t.Var≠v):cl l v=0:=by
 induction l with
 | nil=>rfl
 | cons t l ih=>simp only [cl]; rw [if_neg (h t (by simp)),ih fun u hu=>h u (by simp [hu])]; rfl
structure Jq (L:List Bb):Prop where
 srt:L.Pairwise fun a b=>a.Var<b.Var
 nz:∀t∈L,t.Coef≠0
theorem Jq.ext:∀{L M:List Bb},Jq L->Jq M->(∀v,cl L v=cl M v)->L=M:=by
 intro L
 induction L with
 | nil=>
  intro M _ b h
  cases M with
  | nil=>rfl
  | cons t M=>
   have:=h t.Var
   simp only [cl,if_true] at this
   rw [Ps fun u hu=>by have:=(List.pairwise_cons.1 b.srt).1 u hu; omega] at this
   exact (b.nz t (by simp) (by omega)).elim
 | cons s L ih=>
  intro M c b h
  have f:cl (s::L) s.Var=s.Coef:=by
   simp only [cl,if_true]
   rw [Ps fun u hu=>by have:=(List.pairwise_cons.1 c.srt).1 u hu; omega]; omega
  cases M with
  | nil=>
   have:=h s.Var
   rw [f] at this
   exact (c.nz s (by simp) (by simpa [cl] using this)).elim
  | cons t M=>
   have ht:cl (t::M) t.Var=t.Coef:=by
    simp only [cl,if_true]
    rw [Ps fun u hu=>by have:=(List.pairwise_cons.1 b.srt).1 u hu; omega]; omega
   have hv:s.Var=t.Var:=by
    rcases Int.lt_trichotomy s.Var t.Var with k | k | k
    .have h1:=h s.Var
     rw [f,Ps (l:=t::M) fun u hu=>by
      rcases List.mem_cons.1 hu with rfl | hu
      .omega
      .have:=(List.pairwise_cons.1 b.srt).1 u hu; omega] at h1
     exact (c.nz s (by simp) h1).elim
    .exact k
    .have h1:=h t.Var
     rw [ht,Ps (l:=s::L) fun u hu=>by
      rcases List.mem_cons.1 hu with rfl | hu
      .omega
      .have:=(List.pairwise_cons.1 c.srt).1 u hu; omega] at h1
     exact (b.nz t (by simp) h1.symm).elim
   have hc:s.Coef=t.Coef:=by rw [<-f,<-ht,h,hv]
   have e:s=t:=by cases s; cases t; simp only at hv hc; rw [hv,hc]
   subst e
   rw [ih (M:=M) ⟨(List.pairwise_cons.1 c.srt).2,fun u hu=>c.nz u (by simp [hu])⟩ ⟨(List.pairwise_cons.1 b.srt).2,fun u hu=>b.nz u (by simp [hu])⟩ fun v=>by
    have:=h v
    simp only [cl] at this; omega]
noncomputable def Ac7 (r:List Bb) (f:Int):Int×Int->Option ((Int×Int)⊕(Int×Int)):=fun (v44,v45)=>
 (show Option Bool from
 bif (decide (v44<(r.length:Int))) then (
 (Ag r v44).bind fun v46=>
 some (v46.Var==f)
 )
 else (
 some false
 )
 ).bind fun c=>
 bif c then (
 (Ag r v44).bind fun b=>
 some (.inl ((Ac (v44+1)),(Ac (v45+b.Coef))))
 )
 else (
 some (.inr (v44,v45))
 )
def LBd (l:List Bb):Prop:=∀t∈l,-1099511627776<=t.Coef/\t.Coef<=1099511627776
theorem A4n {l:List Bb} (h:LBd l) (v:Int) : -(l.length*1099511627776:Int)<=cl l v/\cl l v<=(l.length*1099511627776:Int):=by
 induction l with
 | nil=>simp [cl]
 | cons t l ih=>
  have h1:=h t (by simp)
  have h2:=ih fun u hu=>h u (by simp [hu])
  simp only [cl,List.length_cons]
  split <;> omega
theorem A4o {r:List Bb} {k:Nat} {t:Bb} (hk:r[k]? = some t) (G:r.length<=1000) (hb:LBd r) :
  ∃n:Nat,Al (Ac7 r t.Var) ((k:Int),0)=some ((n:Int),cl ((r.take n).drop k) t.Var)/\k<n/\n<=r.length/\(∀u∈(r.take n).drop k,u.Var=t.Var)/\∀u,r[n]? = some u->u.Var≠t.Var:=by
 have x:=Eo hk
 obtain ⟨e,E,n,D,B⟩:=M5 (step:=Ac7 r t.Var) (fun s=>∃n:Nat,s=((n:Int),cl ((r.take n).drop k) t.Var)/\k<=n/\n<=r.length/\∀u∈(r.take n).drop k,u.Var=t.Var) (fun s=>r.length-s.1.toNat)
  (fun e=>∃n:Nat,e=((n:Int),cl ((r.take n).drop k) t.Var)/\k<n/\n<=r.length/\(∀u∈(r.take n).drop k,u.Var=t.Var)/\∀u,r[n]? = some u->u.Var≠t.Var) (by
  rintro _ ⟨j,rfl,y,g,c⟩
  unfold Ac7
  rcases Nat.lt_or_ge j r.length with h | h
  .have hx:r[j]? = some r[j]:=B0 h
   have i:=List.getElem_mem h
   generalize r[j]=b at hx i
   have A:=hb b i
   have z:=A4n (l:=(r.take j).drop k) (fun u hu=>hb u (List.mem_of_mem_take (List.mem_of_mem_drop hu))) t.Var
   have q:((r.take j).drop k).length<=1000:=by simp; omega
   have hw:Ac (cl ((r.take j).drop k) t.Var+b.Coef)=cl ((r.take j).drop k) t.Var+b.Coef:=by
    have I:(((r.take j).drop k).length:Int)*1099511627776<=1000*1099511627776:=Int.mul_le_mul_of_nonneg_right (by omega) (by decide)
    rw [Ac,Bs] <;> omega
   have f:(r.take (j+1)).drop k=(r.take j).drop k++[b]:=by
    rw [C5 hx,List.drop_append_of_le_length (by simp; omega)]
   simp only [Am (by omega:(j:Int)<(r.length:Int)),cond_true,Bw rfl hx,Ad,C8 h (by omega),hw]
   by_cases hc:b.Var=t.Var
   .left
    rw [Dj hc]
    refine ⟨_,rfl,⟨j+1,?_,by omega,by omega,fun d hd=>?_⟩,by simp; omega⟩
    .rw [f,Pq]
     simp [cl,hc]
    .rw [f] at hd
     rcases List.mem_append.1 hd with hd | hd
     .exact c d hd
     .simp only [List.mem_singleton] at hd
      rw [hd]; exact hc
   .right
    rw [Cp hc]
    refine ⟨_,rfl,j,rfl,?_,g,c,fun d hd=>by rw [hx] at hd; cases hd; exact hc⟩
    rcases Nat.lt_or_ge k j with h' | h'
    .exact h'
    .have:j=k:=by omega
     subst this
     rw [hk] at hx; cases hx
     exact (hc rfl).elim
  .right
   refine ⟨_,by simp only [Ar (by omega:¬(j:Int)<(r.length:Int)),cond_false,Ad],j,rfl,by omega,g,c,fun d hd=>?_⟩
   have:=Eo hd
   omega) ((k:Int),0) ⟨k,by simp [cl],by omega,by omega,fun u hu=>by simp at hu⟩
 exact ⟨n,by rw [<-D]; exact E,B⟩
noncomputable def Aia (r:List Bb):Int×List Bb->Option ((Int×List Bb)⊕List Bb):=fun (v37,b)=>
 bif (decide (v37<((r.length:Nat):Int))) then (
 (Ag r v37).bind fun v39=>
 (Al (Ac7 r v39.Var) (v37,0)).bind fun (v49,v50)=>
 bif (v50 != (0:Int)) then (
 (B9 16 b [(Bb.mk v39.Var v50)]).bind fun c=>
 some (.inl (v49,c))
 )
 else (
 some (.inl (v49,b))
 )
 )
 else (
 some (.inr b)
 )
theorem A4p {r:List Bb} (I:r.Pairwise fun a b=>a.Var<=b.Var) (J:r.length<=1000) (hb:LBd r):∃L,Al (Aia r) (0,[])=some L/\Jq L/\(∀v,cl L v=cl r v)/\L.length<=r.length:=by
 obtain ⟨L,R,N⟩:=M5 (step:=Aia r) (fun s=>∃(k:Nat) (L:List Bb),s=((k:Int),L)/\k<=r.length/\Jq L/\L.length<=k/\(∀v,cl L v=cl (r.take k) v)/\∀t∈L,∀u∈r.drop k,t.Var<u.Var) (fun s=>r.length-s.1.toNat)
  (fun L=>Jq L/\(∀v,cl L v=cl r v)/\L.length<=r.length) (by
  rintro _ ⟨k,L,rfl,hk,x,M,hv,hd⟩
  unfold Aia
  rcases Nat.lt_or_ge k r.length with h | h
  .left
   have hx:r[k]? = some r[k]:=B0 h
   generalize r[k]=t at hx
   obtain ⟨n,G,E,B,n4,D⟩:=A4o hx J hb
   have c:r.take n=r.take k++(r.take n).drop k:=by
    have h:=(List.take_append_drop k (r.take n)).symm
    rwa [List.take_take,Nat.min_eq_left (by omega)] at h
   have j:∀v,v≠t.Var->cl ((r.take n).drop k) v=0:=fun v hv=>Ps fun u hu e=>hv (by rw [<-e,n4 u hu])
   have i:∀u∈r.drop n,u∈r.drop k:=fun u hu=>by
    have:r.drop n=(r.drop k).drop (n-k):=by rw [List.drop_drop]; congr 1; omega
    rw [this] at hu
    exact List.mem_of_mem_drop hu
   have z:t∈r.drop k:=by rw [Iu hx]; simp
   have f:∀u∈r.drop n,t.Var<u.Var:=by
    intro u hu
    rcases Nat.lt_or_ge n r.length with h' | h'
    .have hy:r[n]? = some r[n]:=B0 h'
     generalize r[n]=w at hy
     have hw:=D w hy
     have hp:=List.pairwise_append.1 (by rw [List.take_append_drop]; exact I:(r.take n++r.drop n).Pairwise fun a b=>a.Var<=b.Var)
     have A:t∈r.take n:=by
      rw [c]
      have:(r.take n).drop k=t::(r.take n).drop (k+1):=Iu (by rw [List.getElem?_take_of_lt E]; exact hx)
      rw [this]; simp
     have y:w∈r.drop n:=by rw [Iu hy]; simp
     have a1:=hp.2.2 t A w y
     have g:=hp.2.1
     rw [Iu hy] at g hu
     rcases List.mem_cons.1 hu with rfl | hu
     .omega
     .have:=(List.pairwise_cons.1 g).1 u hu; omega
    .rw [List.drop_eq_nil_of_le h'] at hu; cases hu
   simp only [Am (by omega:(k:Int)<(r.length:Int)),cond_true,Bw rfl hx,Ad,G]
   by_cases h0:cl ((r.take n).drop k) t.Var=0
   .refine ⟨((n:Int),L),?_,⟨n,L,rfl,B,x,by omega,fun v=>?_,fun a ha u hu=>hd a ha u (i u hu)⟩,by simp; omega⟩
    .rw [h0]; rfl
    .have q:cl (r.take n) v=cl (r.take k) v+cl ((r.take n).drop k) v:=(congrArg (fun l=>cl l v) c).trans (Pq _ _ _)
     rw [q,hv]
     by_cases e:v=t.Var
     .rw [e,h0]; omega
     .rw [j v e]; omega
   .refine ⟨((n:Int),L++[⟨t.Var,cl ((r.take n).drop k) t.Var⟩]),?_,⟨n,_,rfl,B,⟨?_,?_⟩,by simp; omega,fun v=>?_,fun a ha u hu=>?_⟩,by simp; omega⟩
    .rw [Em h0,cond_true,Dh (by simp; omega)]; rfl
    .refine List.pairwise_append.2 ⟨x.srt,List.pairwise_singleton _ _,fun a ha b hb=>?_⟩
     simp only [List.mem_singleton] at hb
     subst hb
     exact hd a ha t z
    .intro a ha
     rcases List.mem_append.1 ha with ha | ha
     .exact x.nz a ha
     .simp only [List.mem_singleton] at ha
      subst ha; exact h0
    .have q:cl (r.take n) v=cl (r.take k) v+cl ((r.take n).drop k) v:=(congrArg (fun l=>cl l v) c).trans (Pq _ _ _)
     rw [q,Pq,hv]
     simp only [cl]
     by_cases e:t.Var=v
     .rw [if_pos e,<-e]; omega
     .rw [if_neg e,j v (fun h=>e h.symm)]; omega
    .rcases List.mem_append.1 ha with ha | ha
     .exact hd a ha u (i u hu)
     .simp only [List.mem_singleton] at ha
      subst ha; exact f u hu
  .right
   have:k=r.length:=by omega
   subst this
   rw [List.take_length] at hv
   exact ⟨L,by simp only [Ar (by omega:¬(r.length:Int)<(r.length:Int)),cond_false],x,hv,M⟩) (0,[]) ⟨0,[],rfl,by omega,⟨List.Pairwise.nil,fun _ h=>by cases h⟩,by simp,fun v=>by simp [cl],fun _ h=>by cases h⟩
 exact ⟨L,R,N⟩
def R8 (c:Int) (L:List Bb):Be×Int:=if Cz ⟨c,L⟩=true then (⟨c,L⟩,0) else (⟨0,[]⟩,9)
theorem Ari (c:Int) (ts:List Bb) (l:ts.length<=12) (hb:LBd ts):∃L,S7 c ts=some (R8 c L)/\Jq L/\∀v,cl L v=cl ts v:=by
 obtain ⟨R,h,b,g⟩:=A4l ts l
 obtain ⟨L,k,j,i,q⟩:=A4p g (by rw [b.length_eq]; omega) (fun t ht=>hb t (b.mem_iff.1 ht))
 refine ⟨L,?_,j,fun v=>by rw [i,A4m b]⟩
 unfold S7
 have f:Rk ts=some ([],ts):=by
  unfold Rk M8
  rw [Dh (by simp; omega)]; rfl
 rw [f,Ad]
 dsimp only
 rw [h,Ad,Nv b.length_eq.symm,Ad,<-b.length_eq]
 refine bnd k ?_
 rw [L7,Ad]
 unfold R8
 cases Cz ⟨c,L⟩ <;> rfl
end Go.Ab
namespace Go.Ab
open Go
theorem Aib {x:Bo} {k:Nat} {ts:List Aj} (h:Col k (G2 x) ts) (hk:k<34359738000) (q:ts.length<=1000) (hi:∀m,∃z:Int,cf ts m=(z:Rat)):∃R,Ka (plc ts) ts=some (R,0)/\IP x ts.length (k+2) (cf ts) R:=by
 obtain ⟨R,j,b,f,c,i⟩:=Ahi (P:=G2 x) (fun m h=>h.cmo) (plc ts) ts h (by omega) q (fun g _ h2 h3=>Ahp g h2 h3)
 refine ⟨R,j,b,f,fun t ht=>(c t ht).1,i,fun t ht=>?_⟩
 obtain ⟨z,l⟩:=hi t.Mono
 have e:rq t.Coef=(z:Rat):=by rw [<-Acg b ht,f,l]
 exact ⟨z,e,Arf (b.coe t ht).1 e (c t ht).2⟩
theorem IsE.good {x:Bo} {A:List Ba} {B:List Ds} (h:IsE A B) (g:Atk A) (hi:∀a∈A,Dm x.Vars x.Res a.Lin=true) (j:Cx A<=6):∀b∈B,G2 x ⟨[],b.1⟩:=by
 obtain ⟨gs,k,c,i,f,rfl⟩:=h
 intro b hb
 obtain ⟨h1,h2⟩:=Ard (vars:=x.Vars) (res:=x.Res) f (fun a ha=>⟨g.lin a (c.mem_iff.1 ha),hi a (c.mem_iff.1 ha)⟩) [([],1)] 0 (fun b hb=>by
  simp only [List.mem_singleton] at hb
  subst hb
  exact ⟨⟨List.Pairwise.nil,fun _ h=>by cases h⟩,by simp [Cv],fun _ h=>by cases h⟩) b hb
 refine A4h h1 ?_
 rw [Yh c] at h2
 omega
theorem Arj {B:List Ds} {m:A8}:∃z:Int,(1:Rat)*(ec B m:Rat)=(z:Rat):=⟨(ec B m:Int),by rw [Rat.intCast_natCast]; grind⟩
theorem A4q {x:Bo} {A:List Ba} (D:Atk A) (y:Cx A<=6) (hi:∀a∈A,Dm x.Vars x.Res a.Lin=true) (b1:List (ByteArray×Int)) (b2:List (ByteArray×List Dl)) (u s:Int) (q:List Ah) :
  ∃R B,Qm ⟨[],A⟩ b1 b2 x.Data x.Vars u s q=some (R,0)/\IsE A B/\IP x 64 200000 (fun m=>(ec B m:Rat)) R:=by
 have f:rq (cR 1)=1:=by rw [Pm]; rfl
 obtain ⟨out,B,U,G,E,S⟩:=Ac5 (c:=cR 1) (K:=3) (A:=A) ((Kn (k:=1) (by rw [L1]; decide) (by decide)).mono (by decide)) (by decide) (by rw [f]; decide) D b1 b2 x.Data x.Vars u s q
 have M:out.length<=64:=Nat.le_trans S (Nat.le_trans (Nat.pow_le_pow_right (by decide) y) (by decide))
 have N:=G.good D hi y
 obtain ⟨v,J,v2,v3,v4⟩:=X6 (k0:=2427) (k:=2427) (P:=G2 x) (fun m h=>h.cmo) out [] (Col.nil _ _) (fun t ht=>by
  obtain ⟨b,hb,l,_,j⟩:=E.mem ht
  exact ⟨j,by rw [l]; exact N b hb⟩) (Nat.le_refl _) (by omega) (by simp; omega)
 simp at v3
 have i:∀m,cf v m=1*(ec B m:Rat):=fun m=>by rw [v4,E.cf,f]; simp only [cf]; grind
 obtain ⟨R,L,g⟩:=Aib (x:=x) v2 (by omega) (by omega) (fun m=>by rw [i]; exact Arj)
 refine ⟨R,B,?_,G,g.cp,fun m=>by rw [g.val,i]; grind,g.mo,by have:=g.len; omega,fun t ht=>by
  obtain ⟨z,I,z2⟩:=g.int t ht
  exact ⟨z,I,by omega⟩⟩
 unfold Qm
 rw [Pk,Ad,U,Ad]
 simp only [bne_self_eq_false,cond_false,J9,Ad]
 rw [show Jv out [] []=some (plc v,v) from J,Ad,L]; rfl
theorem Aic {l:Be} {k:Int} (b:Cz l=true) (h0:0<=k) (c:k<=6):Atk [⟨l,k⟩]/\Cx [(⟨l,k⟩:Ba)]<=6:=by
 have hd:Cx [(⟨l,k⟩:Ba)]=k.toNat:=by simp [Cx]
 exact ⟨⟨fun a ha=>by simp only [List.mem_singleton] at ha; subst ha; exact h0,fun a ha=>by simp only [List.mem_singleton] at ha; subst ha; exact b,by omega,by simp⟩,by omega⟩
theorem Ark {x:Bo} (i:CSz x) (j:D9 x) {l:Be} {k:Int} (b:Cz l=true) (h0:0<=k) (q:k<=6) (hi:Dm x.Vars x.Res l=true) :
  ∃R B,Kc x l k=some (R,0)/\IsE [⟨l,k⟩] B/\IP x 64 200000 (fun m=>(ec B m:Rat)) R:=by
 obtain ⟨c,hb,_⟩:=Ahq i (ps:=[]) (fun p hp=>by cases hp) (by simp) ⟨j,fun p hp=>by cases hp⟩
 obtain ⟨a1,a2⟩:=Aic b h0 q
 obtain ⟨R,B,h,g,f⟩:=A4q (x:=x) a1 a2 (fun a ha=>by simp only [List.mem_singleton] at ha; subst ha; exact hi) c [] x.Res.Kind x.Res.Num x.Res.Args
 refine ⟨R,B,?_,g,f⟩
 unfold Kc
 rw [hb]
 simp only [Ad,Dt,cond_false,L7,b,Ar (by omega:¬k<0),Ar (by omega:¬k>6)]
 rw [Agu c [] x.Data x.Vars x.Res l (by have:=(Mb b).1; omega),Ad,hi]
 simp only [Dt,cond_false,h,Ad]
theorem Ac8 (x:Bo) (l:Be) (i:l.Terms.length<=1048576) (hv:x.Vars.length<=1048576):S0 x l=some (Dm x.Vars x.Res l):=by
 unfold S0
 have f:Dm x.Vars x.Res l=l.Terms.zipIdx.all (fun q=>Jn x.Vars x.Res q.1):=by
  unfold Dm
  rw [Bool.eq_iff_iff,List.all_eq_true,List.all_eq_true]
  constructor
  .rintro h ⟨a,j⟩ hq
   exact h a (B7 (List.mk_mem_zipIdx_iff_getElem?.1 hq))
  .intro h a ha
   obtain ⟨j,hj⟩:=List.getElem?_of_mem ha
   exact h (a,j) (List.mk_mem_zipIdx_iff_getElem?.2 hj)
 rw [f]
 refine (T9 l.Terms (fun q=>Jn x.Vars x.Res q.1) (fun j=>(j:Int)) rfl (by omega) (rt:=true) (rf:=false) ?_ ?_).trans (by rw [Xa])
 .intro j t ht _ h1 h2 h3
  simp only [h1,h2,h3,cond_true,Ad]
  by_cases e:t.Var = -1
  .rw [Dj e,cond_true]
   have:Jn x.Vars x.Res t=(x.Res.Kind==1):=by unfold Jn D2; rw [if_pos e]
   rw [this]
   by_cases hk:x.Res.Kind=1
   .rw [Fp hk,Dj hk]
    exact ⟨fun _=>rfl,fun h=>by cases h⟩
   .rw [Em hk,Cp hk]
    exact ⟨(fun h=>by cases h),fun _=>⟨.inl false,rfl,rfl⟩⟩
  .rw [Cp e,cond_false]
   have b:Jn x.Vars x.Res t=(match Ag x.Vars t.Var with | some u=>u.Kind==1 | none=>false):=by unfold Jn D2; rw [if_neg e]; cases Ag x.Vars t.Var <;> rfl
   rw [b]
   by_cases c:t.Var<0
   .rw [Am c,Afp (.inl c)]
    exact ⟨(fun h=>by cases h),fun _=>⟨.inl false,rfl,rfl⟩⟩
   .rw [Ar c,cond_false]
    by_cases g:(x.Vars.length:Int)<=t.Var
    .rw [Am (by omega),Afp (.inr g)]
     exact ⟨(fun h=>by cases h),fun _=>⟨.inl false,rfl,rfl⟩⟩
    .rw [Ar (by omega),cond_false]
     have hx:x.Vars[t.Var.toNat]? = some x.Vars[t.Var.toNat]:=B0 (by omega)
     generalize x.Vars[t.Var.toNat]'(by omega)=u at hx
     rw [Bw (n:=t.Var.toNat) (by omega) hx]
     simp only [Ad]
     by_cases hk:u.Kind=1
     .rw [Fp hk,Dj hk]
      exact ⟨fun _=>rfl,fun h=>by cases h⟩
     .rw [Em hk,Cp hk]
      exact ⟨(fun h=>by cases h),fun _=>⟨.inl false,rfl,rfl⟩⟩
 .intro h _
  exact ⟨.inr (),by simp only [h]; rfl,rfl⟩
end Go.Ab
