/- Plain laws: what the plain functions answer. -/
import Derived.Test.YtkafffjlpedijaaGreatDoorWtPl3
namespace Go.Ab
open Go
theorem A77 (a b:Aj) (j k:Nat) (ha:RB j a) (hb:RB k b) (hj:j<68719476736) (hk:k<68719476736) : Ns a b=some (B1 (K1 (sv a) (nv a) (dv a) (!sv b) (nv b) (dv b)) (Jq (sv a) (nv a) (dv a) (!sv b) (nv b) (dv b)) (dv a*dv b)):=by
 unfold Ns Vt;have h1:=ha.nv;have h2:=ha.dv;have h3:=hb.nv;have s:=hb.dv;have q:=Hi (nv a) (dv b);have l:=Hi (nv b) (dv a);have i:=Hi (dv a) (dv b);have h:=Wx (nv a*dv b) (nv b*dv a);have g:=Ia (Nat.sub_le (nv a*dv b) (nv b*dv a));have f:=Ia (Nat.sub_le (nv b*dv a) (nv a*dv b));rw[R4 b k hb ω,Ad,R4 a j ha ω,Ad];dsimp only;rw[R0 _ _ ω ω,Ad,R0 _ _ ω ω,Ad,R0 _ _ ω ω,Ad];by_cases c:sv a = !sv b
 .have e:(sv a == !sv b)=true:=(by rw[c];exact beq_self_eq_true _);rw[e,Ak,Aqy _ _ ω ω,Ad,Ad,Oz _ _ _ ω ω,K1,Jq,Ay c,Ay c];rfl
 .have e:(sv a == !sv b)=false:=(by cases h1:sv a <;> cases h2:sv b <;> simp_all);rw[e,Am,Uj _ _ ω ω,Ad,K1,Jq,Av c,Av c];by_cases hc:nv b*dv a<=nv a*dv b
  .rw[Ap (show Fk (nv a*dv b) (nv b*dv a)>=0 by rw[Fk,Av ω];split <;> decide),Ak,Aes _ _ ω hc,Ad,Ad,Oz _ _ _ ω ω,Ay hc,Ay hc];rfl
  .rw[Ax (show ¬Fk (nv a*dv b) (nv b*dv a)>=0 by rw[Fk,Ay ω];decide),Am,Aes _ _ ω ω,Ad,Ad,Oz _ _ _ ω ω,Av hc,Av hc];rfl
theorem Aul (s:Bool) (n:Nat):sg (!s) n = - sg s n:=by unfold sg;cases s <;> simp
theorem Ala {a b:Aj} {j k:Nat} (ha:RB j a) (hb:RB k b) (hj:j<34359738000) (hk:k<34359738000):∃c,Ns a b=some c/\RB (j+k+3) c/\Gk c/\rq c=rq a-rq b:=by
 have e:=A77 a b j k ha hb ω ω;have hd:dv a*dv b≠0:=Nat.mul_ne_zero (Ft a) (Ft b);have h1:=ha.nv;have h2:=ha.dv;have h3:=hb.nv;have s:=hb.dv;have q:=Hi (nv a) (dv b);have l:=Hi (nv b) (dv a);have i:=Hi (dv a) (dv b);have h:=Wx (nv a*dv b) (nv b*dv a);have g:=Ia (Nat.sub_le (nv a*dv b) (nv b*dv a));have f:=Ia (Nat.sub_le (nv b*dv a) (nv a*dv b));refine⟨_,e,?_,P8 _ _ _ hd,?_⟩
 .refine K2 _ _ _ _ ?_ ω ω;unfold Jq;split
  .omega
  .split <;> omega
 .rw[Mh _ _ _ hd,As3,Aul,rq,rq,show mkRat (sg (sv a) (nv a)) (dv a)-mkRat (sg (sv b) (nv b)) (dv b)=mkRat (sg (sv a) (nv a)) (dv a)+mkRat (-sg (sv b) (nv b)) (dv b) by rw[<-Rat.neg_mkRat];grind,Rat.mkRat_add_mkRat _ _ (Ft a) (Ft b)]
theorem Abh (z:Int):mkRat z 1=(z:Rat):=by rw[Rat.mkRat_eq_div,show ((1:Nat):Rat)=1 from rfl];grind
theorem Uv (z:Int) (h1 : -9223372036854775808<=z) (h2:z<=9223372036854775807):∃r,Dj z=some r/\RB 3 r/\Gk r/\rq r=(z:Rat):=by
 have b:Bl z.natAbs<=3:=N2 (n:=z.natAbs) ω;refine⟨_,Uk z h1 h2,K2 _ _ _ _ b (by rw[K0];decide) δ,P8 _ _ _ δ,?_⟩;rw[Mh _ _ _ δ,Abh];congr 1;unfold sg;by_cases h:z<0
 .rw[Ap h,Ay rfl];omega
 .rw[Ax h,Av δ];omega
theorem Af7 (z:Int) (h1 : -9223372036854775808<=z) (h2:z<=9223372036854775807):∃r,Dj z=some r/\Mt z=some r/\RB 3 r/\Gk r/\rq r=(z:Rat):=by
 have b:Bl z.natAbs<=3:=N2 (n:=z.natAbs) ω;refine⟨_,Uk z h1 h2,A3y z h1 h2,K2 _ _ _ _ b (by rw[K0];decide) δ,P8 _ _ _ δ,?_⟩;rw[Mh _ _ _ δ,Abh];congr 1;unfold sg;by_cases h:z<0
 .rw[Ap h,Ay rfl];omega
 .rw[Ax h,Av δ];omega
theorem A78 (n:Nat) (c:n<1000000000):∃r,Pk 1 ((n+1:Nat):Int)=some r/\RB 3 r/\rq r=1 / ((n+1:Nat):Rat):=by have e:=Aq4 1 ((n+1:Nat):Int) δ δ ω ω ω;have b:Bl ((n+1:Nat):Int).natAbs<=3:=N2 ω;refine⟨_,e,K2 _ _ _ _ (N2 δ) b δ,?_⟩;rw[Mh _ _ _ ω,Rat.mkRat_eq_div];rw[Ax (by decide:¬(1:Int)<0),Ax (ω:¬((n+1:Nat):Int)<0)];rfl
theorem Qb (n:Nat):rq (cR n)=(n:Rat):=by unfold cR;rw[Mh _ _ _ δ,Abh];rfl
theorem Alb (n:Nat):Gk (cR n):=P8 _ _ _ δ
theorem A79 (n j:Nat):(((j+1:Nat):Int))*(bc n (j+1):Int)=((n:Int)-j)*bc n j:=by
 have h1:=Xn n (j+1);have h2:=Xn n j;have c:=W6 j;rcases Cg n j with h|h
 .have k:=Abd h;have i:=Abd (show n<j+1 by omega);have b:=W6 (j+1);have b1:bc n j=0:=by
   rw[k]at h2;rcases Nat.mul_eq_zero.1 h2.symm with h|h
   .exact (c h).elim
   .exact h
  have b2:bc n (j+1)=0:=by
   rw[i]at h1;rcases Nat.mul_eq_zero.1 h1.symm with h|h
   .exact (b h).elim
   .exact h
  rw[b1,b2];simp
 .rw[Hj,h2]at h1;have h3:fct j*(bc n j*(n-j))=fct j*((j+1)*bc n (j+1)):=(by rw[<-Nat.mul_assoc,h1,fct];simp only[Nat.mul_assoc]);have g:=Nat.eq_of_mul_eq_mul_left (Nat.pos_of_ne_zero c) h3;have f:((n:Int)-j)=((n-j:Nat):Int):=ω;rw[f,<-Int.natCast_mul,<-Int.natCast_mul,<-g,Nat.mul_comm]
theorem A8a (n j:Nat):(bc n j:Rat)*(((n:Rat)-(j:Rat))*(1 / ((j+1:Nat):Rat)))=(bc n (j+1):Rat):=by
 have h:=congrArg (λz:Int=>(z:Rat)) (A79 n j);simp only[Rat.intCast_mul,Rat.intCast_sub,Rat.intCast_natCast]at h;have b:((j+1:Nat):Rat)≠0:=by have:(0:Rat)<((j+1:Nat):Rat):=Rat.natCast_pos.2 ω;grind
 generalize ((j+1:Nat):Rat)=d at *;grind
theorem Aum (a:Aj):Aj.mk a.N a.U a.B=a:=by cases a;rfl
theorem A8b {a:Aj} {K:Nat} {z:Int} (ha:RB K a) (V:K<=100000000) (i:rq a=(z:Rat)) (k:Nat) (hk:k<=64) : ∃c,Q6 a (k:Int)=some c/\Gk c/\RB (3+k*(K+20)) c/\rq c=(bc z.toNat k:Rat):=by
 unfold Q6;rw[(M9 ha ω).1,Ad];obtain⟨b,n,U,S,R,e4⟩:∃(b:Aj) (n:Nat),(bif decide (G2 (rq a)<(0:Int)) then ((Dj 0).bind λv4=>some (v4.N,v4.U,v4.B)) else some (a.N,a.U,a.B))=some (b.N,b.U,b.B)/\RB (K+3) b/\rq b=(n:Rat)/\n=z.toNat:=by
  by_cases h:z<0
  .have l:rq a<0:=(by rw[i];exact_mod_cast h);have:G2 (rq a)<0:=(by unfold G2;rw[Ay l];decide);rw[Ap this,Ak,Af1];exact⟨cR 0,0,rfl,(Lq (k:=1) (by rw[Ui];decide) δ).mono ω,by rw[Qb],ω⟩
  .have l:¬rq a<0:=(by rw[i];intro h2;exact h (by exact_mod_cast h2));have:¬G2 (rq a)<0:=(by unfold G2;rw[Av l];split <;> decide);rw[Ax this,Am];refine⟨a,z.toNat,rfl,ha.mono ω,?_,rfl⟩;rw[i];have:z=((z.toNat:Nat):Int):=ω;exact (congrArg (λy:Int=>(y:Rat)) this).trans (Rat.intCast_natCast _)
 erw[U];rw[Ad];dsimp only;rw[P9,Ad,<-e4];refine Ej (λs=>∃(j:Nat) (P:Aj),s=((j:Int),P.N,P.U,P.B)/\j<=k/\Gk P/\RB (3+j*(K+20)) P/\rq P=(bc n j:Rat)) (λs=>k-s.1.toNat) (λe=>∃P:Aj,e=(P.N,P.U,P.B)/\Gk P/\RB (3+k*(K+20)) P/\rq P=(bc n k:Rat)) ⟨0,cR 1,rfl,ω,Alb 1,(Lq (k:=1) (by rw[K0];decide) δ).mono ω,by rw[Qb,H6]⟩ ?_ ?_
 .rintro s ⟨j,P,rfl,hj,hc,g,hv⟩;rcases Cg j k with h|h
  .obtain⟨r,G,E,_,D⟩:=Uv (j:Int) ω ω;obtain⟨d,d1,d2,d3,d4⟩:=Ala S E ω ω;obtain⟨w,A,x,u⟩:=A78 j ω;obtain⟨f,f1,f2,_,f3⟩:=M8 d2 x ω ω;have N:j*(K+20)<=64*(K+20):=Nat.mul_le_mul_right _ ω;obtain⟨q,M,L,J,I⟩:=M8 g f2 ω ω;have B:Ac ((j:Int)+1)=((j+1:Nat):Int):=C9 h ω;simp only[Ap (ω:(j:Int)<(k:Int)),Ak,G,Ad,B,A];rw[show (Ns (Aj.mk b.N b.U b.B) r)=some d from d1,Ad,f1,Ad,show (Ea (Aj.mk P.N P.U P.B) f)=some q from M,Ad];refine .inl ⟨_,rfl,⟨j+1,q,rfl,ω,J,L.mono (by rw[Nat.add_mul];omega),?_⟩,by simp only[Int.toNat_natCast];omega⟩;rw[I,hv,f3,d4,u,R,D,Rat.intCast_natCast];exact A8a n j
  .have:j=k:=ω;subst this;exact .inr ⟨(P.N,P.U,P.B),by rw[Ax ω];rfl,P,rfl,hc,g,hv⟩
 .rintro e ⟨P,rfl,hc,g,hv⟩;exact⟨P,by rw[<-Aum P],hc,g,hv⟩
def D4 (val:Int->A3) (l:As):Int:=l.Q+(l.T.map λt=>t.C*(val t.v).U).sum
def Ie:List Nat->Nat
 | []=>1
 | a::l=>a*Ie l
theorem Aun:∀(l:List Nat) (a:Nat),Ie (l++[a])=Ie l*a
 | [],a=>by simp[Ie]
 | b::l,a=>by rw[Du,Ie,Ie,Aun l a,Nat.mul_assoc]
theorem Auo {α:Type} {f:α->Nat} {l:List α} {j:Nat} {x:α} (h:l[j]? = some x):Ie ((l.take (j+1)).map f)=Ie ((l.take j).map f)*f x:=by rw[Dc h,List.map_append];exact Aun _ _
def O7 (x:Bh) (val:Int->A3) (f:Ca):Nat:=match Ec x.V x.E f.v with|some t=>bv x.D f.I t (val f.v) | none=>0
def Qc (val:Int->A3) (a:Be):Nat:=bc (D4 val a.L).toNat a.P.toNat
def Gr (x:Bh) (val:Int->A3) (m:A7):Nat:=Ie (m.F.map (O7 x val))*Ie (m.A.map (Qc val))
def Dx (x:Bh) (val:Int->A3):List Ai->Rat
 | []=>0
 | t::p=>rq t.C*(Gr x val t.M:Rat)+Dx x val p
theorem Af8 (x:Bh) (val:Int->A3):∀p q:List Ai,Dx x val (p++q)=Dx x val p+Dx x val q
 | [],q=>by simp only[List.nil_append,Dx];grind
 | t::p,q=>by simp only[Du,Dx,Af8 x val p q];grind
theorem Aup {val:Int->A3} (c:Int) {l:List Bk} {j:Nat} {u:Bk} (h:l[j]? = some u):D4 val ⟨c,l.take (j+1)⟩=D4 val ⟨c,l.take j⟩+u.C*(val u.v).U:=by unfold D4;rw[Dc h];simp only[List.map_append,List.sum_append,List.map_cons,List.map_nil,List.sum_cons,List.sum_nil];omega
structure Alc (x:Bh) (env:List A3) (res:A3) (m:A7):Prop where
 fl:m.F.length<=6
 al:m.A.length<=6
 fac:∀f∈m.F,∃t,Ec x.V x.E f.v=some t/\Tg x.D t f.I (Ed env res f.v)=some (cR (O7 x (Ed env res) f),0)/\O7 x (Ed env res) f<=5000 ^ 6
 atm:∀a∈m.A,1<=a.P/\a.P<=6/\-1048576<=a.L.Q/\a.L.Q<=1048576/\a.L.T.length<=16 /\
  ∀u∈a.L.T,-1048576<=u.C/\u.C<=1048576/\∃t,Ec x.V x.E u.v=some t/\-1099511627776<=(Ed env res u.v).U/\(Ed env res u.v).U<=1099511627776
theorem A8c {E R:Type} {step:Int×Bool×List Int×List Int->Option ((Int×Bool×List Int×List Int)⊕E)} {J:E->Option R} (F:List Ca) (v:Ca->Nat) (i:Aj->E) (G:F.length<=6) (hv:∀f∈F,v f<=5000 ^ 6) (l:∀(j:Nat) (f:Ca) (g c:Aj),F[j]? = some f->decide ((j:Int)<(F.length:Int))=true->Af F (j:Int)=some f->Ac ((j:Int)+1)=((j+1:Nat):Int)->Ea g (cR (v f))=some c->step ((j:Int),g.N,g.U,g.B)=some (.inl (((j+1:Nat):Int),c.N,c.U,c.B))) (q:∀g:Aj,decide ((F.length:Int)<(F.length:Int))=false->step ((F.length:Int),g.N,g.U,g.B)=some (.inr (i g))) {a:Aj} {K:Nat} (ha:RB K a) (D:K<=20000000) {Q:R->Prop} (u:∀m,RB (K+30) m->(F = []->m=a)->(F≠[]->Gk m)->rq m=rq a*(Ie (F.map v):Rat)->∃r,J (i m)=some r/\Q r):∃r,(An step (0,a.N,a.U,a.B)).bind J=some r/\Q r:=by
 refine Ej (λs=>∃(j:Nat) (g:Aj),s=((j:Int),g.N,g.U,g.B)/\j<=F.length/\RB (K+j*5) g/\(j=0->g=a)/\(0<j->Gk g)/\rq g=rq a*(Ie ((F.take j).map v):Rat)) (λs=>F.length-s.1.toNat) (λe=>∃g:Aj,e=i g/\RB (K+30) g/\(F = []->g=a)/\(F≠[]->Gk g)/\rq g=rq a*(Ie (F.map v):Rat)) ⟨0,a,rfl,ω,ha.mono ω,λ_=>rfl,λh=>ω,by simp only[List.take_zero,List.map_nil,Ie];show _=_*(1:Rat);grind⟩ ?_ ?_
 .rintro s ⟨j,g,rfl,hj,hg,h0,k,b⟩;rcases Cg j F.length with h|h
  .have hx:F[j]? = some F[j]:=Bx h;generalize F[j]=f at hx;have hb:Sm (v f):=hv f (Cf hx);obtain⟨c,B,A,z,y⟩:=M8 hg (Lq hb.lg δ) ω δ;rw[l j f g c hx (Ap ω) (Bv rfl hx) (C9 h ω) B];refine .inl ⟨_,rfl,⟨j+1,c,rfl,ω,A.mono ω,λh=>ω,λ_=>z,?_⟩,by simp only[Int.toNat_natCast];omega⟩;rw[y,b,Qb,Auo hx,Rat.natCast_mul];grind
  .have:j=F.length:=ω;subst this;rw[Dh]at b;refine .inr ⟨i g,q g (Ax ω),g,rfl,hg.mono ω,λh=>h0 (by rw[h];rfl),λh=>k (List.length_pos_iff.2 h),b⟩
 .rintro e ⟨g,rfl,h1,h2,h3,x⟩;exact u g h1 h2 h3 x
theorem A8d {x:Bh} {env:List A3} {res:A3} (A:env.length=x.V.length) {l:As} (hl:l.T.length<=16) (hc : -1048576<=l.Q/\l.Q<=1048576) (ht:∀u∈l.T,-1048576<=u.C/\u.C<=1048576/\∃t,Ec x.V x.E u.v=some t/\-1099511627776<=(Ed env res u.v).U/\(Ed env res u.v).U<=1099511627776) {R:Type} {J:Int×Bool×List Int×List Int->Option R} {Q:R->Prop} (D:∀g:Aj,RB 200 g->rq g=(D4 (Ed env res) l:Rat)->∃r,J ((l.T.length:Int),g.N,g.U,g.B)=some r/\Q r) : ∃r,((Dj l.Q).bind λv183=> (An (S:=(Int×Bool×(List Int)×(List Int))) (E:=(Int×Bool×(List Int)×(List Int))) (λ(f,v193,v194,k)=> bif f<(l.T.length:Int) then ((Af l.T f).bind λv196=> (Dj v196.C).bind λv198=> (L3 v196.v res env).bind λz=> (Dj z.U).bind λy=> (Ea v198 y).bind λv201=> (It (Aj.mk v193 v194 k) v201).bind λi=> some (.inl ((Ac (f+1)),i.N,i.U,i.B))) else some (.inr (f,v193,v194,k))) (0,v183.N,v183.U,v183.B)).bind J)=some r/\Q r:=by
 obtain⟨a,a1,a2,a3,a4⟩:=Uv l.Q ω ω;rw[a1,Ad];refine Ej (λs=>∃(j:Nat) (g:Aj),s=((j:Int),g.N,g.U,g.B)/\j<=l.T.length/\RB (3+j*11) g/\rq g=(D4 (Ed env res) ⟨l.Q,l.T.take j⟩:Rat)) (λs=>l.T.length-s.1.toNat) (λe=>∃g:Aj,e=((l.T.length:Int),g.N,g.U,g.B)/\RB 200 g/\rq g=(D4 (Ed env res) l:Rat)) ⟨0,a,rfl,ω,a2.mono ω,by rw[a4];unfold D4;simp⟩ ?_ ?_
 .rintro s ⟨j,g,rfl,hj,hg,q⟩;rcases Cg j l.T.length with h|h
  .have hx:l.T[j]? = some l.T[j]:=Bx h;generalize l.T[j]=u at hx;obtain⟨Z,Y,t,B,X,V⟩:=ht u (Cf hx);obtain⟨b,b1,b2,b3,U⟩:=Uv u.C ω ω;obtain⟨c,N,M,c3,L⟩:=Uv (Ed env res u.v).U ω ω;obtain⟨d,d1,d2,d3,d4⟩:=M8 b2 M δ δ;obtain⟨e,I,_,G,e3,e4⟩:=Aa6 hg d2 ω δ;simp only[Ap (ω:(j:Int)<(l.T.length:Int)),Ak,Bv rfl hx,Ad,b1,Akz A res B,N,d1,C9 h ω];rw[show (It (Aj.mk g.N g.U g.B) d)=some e from I,Ad];refine .inl ⟨_,rfl,⟨j+1,e,rfl,ω,G.mono ω,?_⟩,by simp only[Int.toNat_natCast];omega⟩;rw[e4,q,d4,U,L,Aup _ hx,Rat.intCast_add,Rat.intCast_mul]
  .have:j=l.T.length:=ω;subst this;rw[Dh]at q;exact .inr ⟨((l.T.length:Int),g.N,g.U,g.B),by simp only[Ax (ω:¬(l.T.length:Int)<(l.T.length:Int)),Am],g,rfl,hg.mono ω,q⟩
 .rintro e ⟨g,rfl,h1,h2⟩;exact D g h1 h2
theorem A8e {x:Bh} {env:List A3} {res:A3} (M:env.length=x.V.length) {m:A7} (hm:Alc x env res m) {a:Aj} {K:Nat} (ha:RB K a) (hK:K<=20000000) {R:Type} {J:Int×Bool×List Int×List Int->Option R} {Q:R->Prop} (hJ:∀g:Aj,RB (K+12000) g->(m.A = []->g=a)->(m.A≠[]->Gk g)->rq g=rq a*(Ie (m.A.map (Qc (Ed env res))):Rat)->∃r,J ((m.A.length:Int),g.N,g.U,g.B)=some r/\Q r) : ∃r,(An (S:=(Int×Bool×(List Int)×(List Int))) (E:=(Int×Bool×(List Int)×(List Int))) (λ(i,z,y,u)=> bif i<(m.A.length:Int) then ((Af m.A i).bind λf=> (Dj f.L.Q).bind λv183=> (An (S:=(Int×Bool×(List Int)×(List Int))) (E:=(Int×Bool×(List Int)×(List Int))) (λ(b,v193,v194,l)=> bif b<(f.L.T.length:Int) then ((Af f.L.T b).bind λv196=> (Dj v196.C).bind λv198=> (L3 v196.v res env).bind λL=> (Dj L.U).bind λI=> (Ea v198 I).bind λv201=> (It (Aj.mk v193 v194 l) v201).bind λk=> some (.inl ((Ac (b+1)),k.N,k.U,k.B))) else some (.inr (b,v193,v194,l))) (0,v183.N,v183.U,v183.B)).bind λ(v203,G,D,v206)=> (Q6 (Aj.mk G D v206) f.P).bind λB=> (Ea (Aj.mk z y u) B).bind λv208=> some (.inl ((Ac (i+1)),v208.N,v208.U,v208.B))) else some (.inr (i,z,y,u))) (0,a.N,a.U,a.B)).bind J=some r/\Q r:=by
 refine Ej (λs=>∃(j:Nat) (g:Aj),s=((j:Int),g.N,g.U,g.B)/\j<=m.A.length/\RB (K+j*2000) g/\(j=0->g=a)/\(0<j->Gk g)/\rq g=rq a*(Ie ((m.A.take j).map (Qc (Ed env res))):Rat)) (λs=>m.A.length-s.1.toNat) (λe=>∃g:Aj,e=((m.A.length:Int),g.N,g.U,g.B)/\RB (K+12000) g/\(m.A = []->g=a)/\(m.A≠[]->Gk g)/\rq g=rq a*(Ie (m.A.map (Qc (Ed env res))):Rat)) ⟨0,a,rfl,ω,ha.mono ω,λ_=>rfl,λh=>ω,by simp only[List.take_zero,List.map_nil,Ie];show _=_*(1:Rat);grind⟩ ?_ ?_
 .rintro s ⟨j,g,rfl,hj,hg,h0,N,A⟩;have a1:=hm.al;rcases Cg j m.A.length with h|h
  .have hx:m.A[j]? = some m.A[j]:=Bx h;generalize m.A[j]=t at hx;obtain⟨t1,t2,t3,t4,t5,t6⟩:=hm.atm t (Cf hx);left;refine Ww ?_;simp only[Ap (ω:(j:Int)<(m.A.length:Int)),Ak,Bv rfl hx,Ad,C9 h ω];refine A8d M t5 ⟨t3,t4⟩ t6 λn n1 Z=>?_;obtain⟨d,hd⟩:∃d:Nat,t.P=d:=⟨t.P.toNat,ω⟩;obtain⟨c,c1,c2,c3,c4⟩:=A8b n1 δ Z d ω;obtain⟨q,Y,X,V,U⟩:=M8 hg (c3.mono (show 3+d*(200+20)<=1900 by omega)) ω δ;refine⟨.inl (((j+1:Nat):Int),q.N,q.U,q.B),?_,_,rfl,⟨j+1,q,rfl,ω,X.mono ω,λh=>ω,λ_=>V,?_⟩,by simp only[Int.toNat_natCast];omega⟩
   .show (Q6 n t.P).bind _=_;rw[hd,c1,Ad];show (Ea g c).bind _=_;rw[Y];rfl
   .have:Qc (Ed env res) t=bc (D4 (Ed env res) t.L).toNat d:=(by unfold Qc;rw[hd,Int.toNat_natCast]);rw[U,A,c4,Auo hx,Rat.natCast_mul,this];grind
  .have:j=m.A.length:=ω;subst this;rw[Dh]at A;refine .inr ⟨((m.A.length:Int),g.N,g.U,g.B),by simp only[Ax (ω:¬(m.A.length:Int)<(m.A.length:Int)),Am],g,rfl,hg.mono ω,λh=>h0 (by rw[h];rfl),λh=>N (List.length_pos_iff.2 h),A⟩
 .rintro e ⟨g,rfl,h1,h2,h3,h4⟩;exact hJ g h1 h2 h3 h4
theorem A8f (x:Bh) (h:CSz x) (g:En x) (i:Bj) (t:Ah) (hg:Ii x.D t=true) (hi:Dl i<=1048576) (w:A3) (k:N7 x.D w t=true) {d:Nat} (hd:G1 x.D i t=some d) (c:d<=6) : Tg x.D t i w=some (cR (bv x.D i t w),0)/\bv x.D i t w<=5000 ^ 6:=by have j:=hg;simp only[Ii,Ck,C8]at j;have f:=k;unfold N7 at f;simp only[Ck,C8]at f;obtain⟨⟨_,l⟩,q⟩:=f;have d1:=A5y h.ds g.2.1 t hg i hi;obtain⟨b,b1,s⟩:=Asy h.ds w t ω ω;have hb:b=true:=s.2 ⟨g.2.1,k⟩;subst hb;refine⟨?_,Nat.le_trans ((Xo x.D 5000 δ _).1 i t w d (Nat.le_refl _) hd l) (Nat.pow_le_pow_right δ c)⟩;unfold Tg Adg;rw[d1,hd,Afe c,Ad,Ad,Ap ω,b1];simp only[Ad,Dz,Am];rw[A76 g.2.1.szv h.ds.sz.short g.2.1.cons8 (Dl i) i t w 4000000 d (Nat.le_refl _) ω ω hd c ω q l];rfl
theorem A8g {x:Bh} (b:En x) {v:Int} {t:Ah} (h:Ec x.V x.E v=some t):Ii x.D t=true:=by
 unfold Ec at h;by_cases e:v = -1
 .rw[Ay e]at h;cases h;exact b.2.2.1
 .rw[Av e]at h;exact D2.1 b.2.2.2 t (Hq h).2.2.2
theorem A8h {x:Bh} {m:A7} (h:E5 x m):∀v∈Mk m,∃t,Ec x.V x.E v=some t:=by
 intro v hv;unfold Mk Nb at hv;rcases D7.1 hv with hv|hv
 .obtain⟨f,b,rfl⟩:=List.mem_map.1 hv;exact (Afp h.1).1 f b
 .obtain⟨a,ha,hv⟩:=List.mem_flatMap.1 hv;obtain⟨u,hu,rfl⟩:=List.mem_map.1 hv;have hm:=h.1;unfold I6 at hm;simp only[Ck]at hm;obtain⟨j,hj⟩:=Gz ha;have:=Iz hm.1.2 hj;simp only[Mg,Ck,C8]at this;have hi:=D2.1 this.1.2 u hu;unfold K6 at hi;cases ht:Ec x.V x.E u.v with| none=>rw[ht]at hi;cases hi| some t=>exact⟨t,rfl⟩
theorem A8i {x:Bh} (S:CSz x) (D:En x) {env:List A3} {res:A3} {m:A7} (h:E5 x m) (q:∀v∈Mk m,K8 x env res v=true):Alc x env res m:=by
 have hc:=h.cmo;have hm:=h.1;have y:=Akv h.1 h.2;have l:=Afp h.1;unfold I6 at hm;simp only[Ck]at hm;have E:∀f∈m.F,K8 x env res f.v=true:=λf c=>q _ (by unfold Mk;exact D7.2 (.inl (List.mem_map.2 ⟨f,c,rfl⟩)));refine⟨l.2,?_,λf c=>?_,λa ha=>?_⟩
 .obtain⟨_,_,h3,_⟩:=y;first|exact h3|omega
 .obtain⟨t,ht⟩:=l.1 f c;obtain⟨j,hj⟩:=Gz c;have g:=Iz hm.1.1 hj;simp only[Xd,Ck,C8]at g;have h1:=g.1;unfold F5 at h1;rw[ht]at h1;have h1:1<=Kd (G1 x.D f.I t):=h1;have U:N7 x.D (Ed env res f.v) t=true:=(by have:=E f c;unfold K8 at this;rw[ht]at this;exact this);rcases Arw (G1 x.D f.I t) with⟨h2,_⟩|⟨d,h2,h3,_⟩
  .rw[h2]at h1;omega
  .obtain⟨g1,g2⟩:=A8f x S D f.I t (A8g D ht) (h.2.fi f c) _ U h2 h3;have B:O7 x (Ed env res) f=bv x.D f.I t (Ed env res f.v):=(by unfold O7;rw[ht]);rw[B];exact⟨t,ht,g1,g2⟩
 .obtain⟨j,hj⟩:=Gz ha;have g:=Iz hm.1.2 hj;simp only[Mg,Ck,C8]at g;obtain⟨⟨⟨⟨R,z⟩,_⟩,N⟩,_⟩:=g;have M:a.P<=6:=(by obtain⟨_,_,_,V⟩:=y;exact (V a ha).2.2.2);unfold Cd at z;simp only[Ck,C8]at z;obtain⟨⟨L,J,I⟩,G⟩:=z;refine⟨R,M,L,J,I,λu hu=>?_⟩;obtain⟨i,hi⟩:=Gz hu;have s:=Iz G hi;simp only[Sc,Ck,C8]at s;obtain⟨⟨_,_,_,Y,X⟩,_⟩:=s;have k:=D2.1 N u hu;unfold K6 at k;have b:K8 x env res u.v=true:=q _ (by unfold Mk Nb;exact D7.2 (.inr (List.mem_flatMap.2 ⟨a,ha,List.mem_map.2 ⟨u,hu,rfl⟩⟩)));cases ht:Ec x.V x.E u.v with| none=>rw[ht]at k;cases k| some t=>rw[ht]at k;have A:t.G=1:=eq_of_beq k;unfold K8 at b;rw[ht]at b;have b:N7 x.D (Ed env res u.v) t=true:=b;unfold N7 at b;rw[Xi,Ay A]at b;simp only[Ck,C8]at b;exact⟨Y,X,t,rfl,b.2.1.1.2,b.2.1.2⟩
theorem A8j {x:Bh} (c:CSz x) (f:En x) (w:A3) (t:Ah) (hw:Da w<=1048576) (ht:B5 t<=200):Pg x.D w t=some (N7 x.D w t):=by obtain⟨b,b1,g⟩:=Asy c.ds w t ω ω;rw[b1];congr 1;rw[Bool.eq_iff_iff,g];exact⟨λh=>h.2,λh=>⟨f.2.1,h⟩⟩
theorem A8k (x:Bh) (l:CSz x) (q:En x) (env:List A3) (res:A3) (k:env.length=x.V.length) (i:∀v∈env,Da v<=1048576) (c:Da res<=1048576) (V:List Int) (u:V.length<=1000000) (g:∀v∈V,∃t,Ec x.V x.E v=some t) (b1:List (ByteArray×Int)) (b2:List (ByteArray×List Ch)) : An (S:=Int) (E:=((Aj×Int)⊕Unit)) (λv17=> bif v17<(V.length:Int) then ((Af V v17).bind λb=> (L3 b res env).bind λf=> (Lf b b1 b2 x.D x.V x.E.G x.E.U x.E.R).bind λv20=> (Pg x.D f v20).bind λv21=> bif (!v21) then some (.inr (.inl ((Aj.mk false [] []),11))) else some (.inl (Ac (v17+1)))) else some (.inr (.inr ()))) 0=some (bif V.all (K8 x env res) then .inr () else .inl (⟨false,[],[]⟩,11)):=by
 rw[<-Option.bind_fun_some (An _ _)];refine Ky V (K8 x env res) (λj=>(j:Int)) rfl ω ?_ ?_
 .intro j v hv h1 h2 h3;obtain⟨t,ht⟩:=g v (Cf hv);have s:=(q.ctx l).sz v t ht;have hb:K8 x env res v=N7 x.D (Ed env res v) t:=(by unfold K8;rw[ht]);simp only[h1,h2,h3,Ak,Ad,Akz k res ht,Afm (ht:=ht),A8j l q (Ed env res v) t (A7t i c v) ω,hb];cases N7 x.D (Ed env res v) t with| true=>exact⟨λ_=>rfl,λh=>by cases h⟩| false=>exact⟨nofun,λ_=>⟨_,rfl,rfl⟩⟩
 .intro h;exact⟨.inr (),by simp only[h];rfl,rfl⟩
theorem A8l {x:Bh} {p:List Ai} (hp:∀t∈p,E5 x t.M) (B:p.length<=1000):(Ht p).length<=102000:=by
 have key:∀q:List Ai,(∀t∈q,E5 x t.M)->(Ht q).length<=102*q.length:=by
  intro q;induction q with
  | nil=>intro _;simp[Ht]
  | cons t q ih=>intro h;have h1:=ih (λu hu=>h u (by simp[hu]));have hc:=h t ψ;have hm:=hc.1;have y:=(Afp hm).2;have l:=Akv hc.1 hc.2;have z:t.M.A.length<=6:=(by obtain⟨_,_,h3,_⟩:=l;first|exact h3|omega);unfold I6 at hm;simp only[Ck]at hm;have b:∀a∈t.M.A,a.L.T.length<=16:=(by intro a ha;obtain⟨j,hj⟩:=Gz ha;have c:=Iz hm.1.2 hj;simp only[Mg,Ck,C8]at c;have f:=c.1.1.1.2;unfold Cd at f;simp only[Ck,C8]at f;exact f.1.2.2);have h2:∀A:List Be,(∀a∈A,a.L.T.length<=16)->(Nb A).length<=16*A.length:=(by intro A;induction A with| nil=>intro _;simp[Nb]| cons a A i=>intro g;have g1:=i (λu hu=>g u (by simp[hu]));have g2:=g a ψ;unfold Nb at *;simp only[List.flatMap_cons,Fb,Ix,Ei];omega);have h3:=h2 t.M.A b;have s:Ht (t::q)=Mk t.M++Ht q:=(by simp[Ht]);have k:(Mk t.M).length=t.M.F.length+(Nb t.M.A).length:=(by unfold Mk;simp);rw[s,Fb,Ei,k];omega
 have:=key p hp;omega
structure Xp (x:Bh) (p:List Ai) (env:List A3) (res:A3) (u:Aj):Prop where
 can:Gk u
 rb:RB 2000000000 u
 val:rq u=Dx x (Ed env res) p
theorem Auq (x:Bh) (I:CSz x) (p:List Ai) (hp:∀t∈p,TSz t) (env:List A3) (res:A3) (Z:∀v∈env,Da v<=1048576) (D:Da res<=1048576) : ∃r,Td x p env res=some r/\((¬(En x/\H3 x.D x.V x.E p=true)/\r=(⟨false,[],[]⟩,1))\/((En x/\H3 x.D x.V x.E p=true) /\ ((env.length≠x.V.length/\r=(⟨false,[],[]⟩,5))\/(env.length=x.V.length/\((¬(∀v∈Ht p,K8 x env res v=true)/\r=(⟨false,[],[]⟩,11))\/((∀v∈Ht p,K8 x env res v=true)/\∃u,r=(u,0)/\Xp x p env res u)))))):=by
 by_cases hv:En x/\H3 x.D x.V x.E p=true
 .have hf:=hv.1;have J:H5 x p:=⟨hv.2,hp⟩;obtain⟨b',hb,_⟩:=Af3 I (ps:=[p]) (λq hq=>by simp only[Dw]at hq;subst hq;exact hp) ψ ⟨hv.1,λq hq=>by simp only[Dw]at hq;subst hq;exact hv.2⟩;have hl:=(Xl.1 hv.2).1;have a6:=A8l J.mo hl;have a1:∀t∈p,t.M.A.length<=1000000:=λt ht=>by obtain⟨_,_,h3,_⟩:=(J.mo t ht).cmo;omega
  obtain⟨V,v1,v2,v3,v4⟩:=A7v p ω a1 ω;unfold Td;rw[hb];simp only[Ad,Dz,Am];by_cases b:env.length=x.V.length
  .rw[Fc ω,Am,v1,Ad];have N:∀v∈V,∃t,Ec x.V x.E v=some t:=λv M=>by have:=(v4 v).1 M;unfold Ht at this;obtain⟨t,ht,hm⟩:=List.mem_flatMap.1 this;exact A8h (J.mo t ht) v hm
   rw[A8k x I hf env res b Z D V v3 N b' [],Ad];cases l:V.all (K8 x env res) with
   | false=>refine⟨_,rfl,.inr ⟨hv,.inr ⟨b,.inl ⟨λh=>?_,rfl⟩⟩⟩⟩;rw[List.all_eq_false]at l;obtain⟨v,h1,h2⟩:=l;exact h2 (h v ((v4 v).1 h1))
   | true=>
    have y:∀v∈Ht p,K8 x env res v=true:=λv h=>D2.1 l v ((v4 v).2 h);have R:∀t∈p,Alc x env res t.M:=λt ht=>A8i I hf (J.mo t ht) λv h=>y v (List.mem_flatMap.2 ⟨t,ht,h⟩);have wrap:∀{X:Option (Aj×Int)},(∃r,X=some r/\∃u,r=(u,0)/\Xp x p env res u)->∃r,X=some r/\((¬(En x/\H3 x.D x.V x.E p=true)/\r=(⟨false,[],[]⟩,1))\/((En x/\H3 x.D x.V x.E p=true) /\
      ((env.length≠x.V.length/\r=(⟨false,[],[]⟩,5))\/(env.length=x.V.length/\((¬(∀v∈Ht p,K8 x env res v=true)/\r=(⟨false,[],[]⟩,11))\/((∀v∈Ht p,K8 x env res v=true)/\∃u,r=(u,0)/\Xp x p env res u)))))):=by rintro X ⟨r,h1,h2⟩;exact⟨r,h1,.inr ⟨hv,.inr ⟨b,.inr ⟨y,h2⟩⟩⟩⟩
    refine wrap ?_;simp only[Ak,Af1,Ad];refine Ej (λs=>∃(j:Nat) (g:Aj),s=((j:Int),g.N,g.U,g.B)/\j<=p.length/\RB (1+j*1070000) g/\Gk g/\rq g=Dx x (Ed env res) (p.take j)) (λs=>p.length-s.1.toNat) (λz=>∃g:Aj,z = .inr (g.N,g.U,g.B)/\Xp x p env res g) ⟨0,cR 0,rfl,ω,(Lq (k:=1) (by rw[Ui];decide) δ).mono ω,Alb 0,by rw[Qb];rfl⟩ ?_ ?_
    .rintro s ⟨j,g,rfl,hj,hg,S,A⟩;rcases Cg j p.length with h|h
     .have hx:p[j]? = some p[j]:=Bx h;generalize p[j]=t at hx;have B:=Cf hx;have hm:=R t B;left;refine Ww ?_;simp only[Ap (ω:(j:Int)<(p.length:Int)),Ak,Bv rfl hx,Ad,C9 h ω];refine A8c t.M.F (O7 x (Ed env res)) (λc=>.inr ((t.M.F.length:Int),c.N,c.U,c.B)) hm.fl (λf U=>by obtain⟨_,_,_,h⟩:=hm.fac f U;exact h) ?_ ?_ (hp t B).co δ λm1 r1 _ _ q1=>?_
      .intro i f c c' Y L k2 k3 E;obtain⟨ty,t1,t2,_⟩:=hm.fac f (Cf Y);simp only[L,k2,k3,Ak,Ad,Afm (ht:=t1),Akz b res t1,t2,bne_self_eq_false,Am];show (Ea c (cR (O7 x (Ed env res) f))).bind _=_;rw[E];rfl
      .intro c L;simp only[L,Am]
      .dsimp only;refine A8e b hm r1 δ λm2 r2 _ _ q2=>?_;obtain⟨c,c1,_,c2,c3,c4⟩:=Aa6 hg r2 ω δ;refine⟨.inl (((j+1:Nat):Int),c.N,c.U,c.B),?_,_,rfl,⟨j+1,c,rfl,ω,c2.mono ω,c3,?_⟩,by simp only[Int.toNat_natCast];omega⟩
       .show (It g m2).bind _=_;rw[c1];rfl
       .rw[c4,A,q2,q1,Dc hx,Af8];show _=_+(rq t.C*(Gr x (Ed env res) t.M:Rat)+0);unfold Gr;rw[Rat.natCast_mul];grind
     .have:j=p.length:=ω;subst this;rw[Dh]at A;exact .inr ⟨.inr (g.N,g.U,g.B),by simp only[Ax (ω:¬(p.length:Int)<(p.length:Int)),Am],g,rfl,S,hg.mono ω,A⟩
    .rintro z ⟨g,rfl,hE⟩;exact⟨(g,0),by rw[<-Aum g],g,rfl,hE⟩
  .rw[Ek ω,Ak];exact⟨_,rfl,.inr ⟨hv,.inl ⟨b,rfl⟩⟩⟩
 .have G:¬(En x/\∀r∈[p],H3 x.D x.V x.E r=true):=λh=>hv ⟨h.1,h.2 p ψ⟩;have he:=A7x I (ps:=[p]) (λr hr=>by simp only[Dw]at hr;subst hr;exact hp) ψ G;refine⟨_,?_,.inl ⟨hv,rfl⟩⟩;unfold Td;rw[he];rfl
open Classical in
noncomputable def cfW:List (Rat×A7)->A7->Rat
 | [],_=>0
 | t::l,m=>(if t.2=m then t.1 else 0)+cfW l m
def Fu (v:A7->Nat):List (Rat×A7)->Rat
 | []=>0
 | t::l=>t.1*(v t.2:Rat)+Fu v l
open Classical in
noncomputable def Sh (l:List (Rat×A7)) (m:A7):List (Rat×A7):=l.filter λt=>decide (t.2≠m)
open Classical in
theorem Aur (v:A7->Nat) (m:A7):∀l:List (Rat×A7),Fu v l=cfW l m*(v m:Rat)+Fu v (Sh l m)
 | []=>by simp only[Fu,cfW,Sh,List.filter_nil];grind
 | t::l=>by
  have ih:=Aur v m l;unfold Sh at *;simp only[Fu,cfW];by_cases e:t.2=m
  .rw[Ay e,List.filter_cons_of_neg (by simp[e]),ih,e];grind
  .rw[Av e,List.filter_cons_of_pos (by simp[e])];simp only[Fu];rw[ih];grind
open Classical in
theorem Aus (m:A7):∀(l:List (Rat×A7)) (m':A7),cfW (Sh l m) m'=if m'=m then 0 else cfW l m'
 | [],m'=>by simp[Sh,cfW]
 | t::l,m'=>by
  have ih:=Aus m l m';unfold Sh at *;by_cases e:t.2=m
  .rw[List.filter_cons_of_neg (by simp[e]),ih];by_cases e2:m'=m
   .rw[Ay e2,Ay e2]
   .rw[Av e2,Av e2];simp only[cfW];rw[Av (by rw[e];exact λh=>e2 h.symm)];grind
  .rw[List.filter_cons_of_pos (by simp[e])];simp only[cfW];rw[ih];by_cases e2:m'=m
   .rw[Ay e2,Ay e2,Av (by rw[e2];exact e)];grind
   .rw[Av e2,Av e2]
open Classical in
theorem Af9 (v:A7->Nat):∀(n:Nat) (l:List (Rat×A7)),l.length<=n->(∀m,0<=cfW l m)->0<=Fu v l:=by
 intro n;induction n with
 | zero=>intro l hl _;have:l = []:=Fa.1 ω;subst this;exact Rat.le_refl
 | succ n ih=>
  intro l hl h;cases l with
  | nil=>exact Rat.le_refl
  | cons t l=>
   rw[Aur v t.2 (t::l)];have h1:0<=Fu v (Sh (t::l) t.2):=by
    refine ih _ ?_ λm=>?_
    .unfold Sh;rw[List.filter_cons_of_neg ψ];have:=List.length_filter_le (λu:Rat×A7=>decide (u.2≠t.2)) l;simp only[Ei]at hl;omega
    .rw[Aus];split
     .exact Rat.le_refl
     .exact h m
   have h2:=Rat.mul_nonneg (h t.2) (Rat.natCast_nonneg (a:=v t.2));grind
def wT (t:Ai):Rat×A7:=(rq t.C,t.M)
def nT (t:Ai):Rat×A7:=(- rq t.C,t.M)
theorem Ald (p:List Ai) (m:A7):cfW (p.map wT) m=cf p m:=by induction p with| nil=>rfl| cons t p ih=>simp only[List.map_cons,cfW,ih,O5,wT]
theorem Aut (p:List Ai) (m:A7):cfW (p.map nT) m = - cf p m:=by induction p with| nil=>show (0:Rat) = - 0;grind| cons t p ih=>simp only[List.map_cons,cfW,ih,O5,nT];split <;> grind
theorem Si (l k:List (Rat×A7)) (m:A7):cfW (l++k) m=cfW l m+cfW k m:=by induction l with| nil=>simp only[List.nil_append,cfW];grind| cons t l ih=>simp only[Du,cfW,ih];grind
theorem Uw (v:A7->Nat) (l k:List (Rat×A7)):Fu v (l++k)=Fu v l+Fu v k:=by induction l with| nil=>simp only[List.nil_append,Fu];grind| cons t l ih=>simp only[Du,Fu,ih];grind
theorem Ale (x:Bh) (val:Int->A3) (p:List Ai):Fu (Gr x val) (p.map wT)=Dx x val p:=by induction p with| nil=>rfl| cons t p ih=>simp only[List.map_cons,Fu,Dx,ih,wT]
theorem Auu (x:Bh) (val:Int->A3) (p:List Ai):Fu (Gr x val) (p.map nT) = - Dx x val p:=by induction p with| nil=>show (0:Rat) = - 0;grind| cons t p ih=>simp only[List.map_cons,Fu,Dx,ih,nT];grind
theorem Auv {x:Bh} {val:Int->A3} {p q:List Ai} (h:∀m,cf q m<=cf p m):Dx x val q<=Dx x val p:=by have:=Af9 (Gr x val) _ (p.map wT++q.map nT) (Nat.le_refl _) (λm=>by rw[Si,Ald,Aut];have:=h m;grind);rw[Uw,Ale,Auu]at this;grind
theorem A8m {x:Bh} {val:Int->A3} {p q:List Ai} (h:∀m,cf q m=cf p m):Dx x val q=Dx x val p := Rat.le_antisymm (Auv λm=>by rw[h m];exact Rat.le_refl) (Auv λm=>by rw[h m];exact Rat.le_refl)
theorem A8n {a b:Aj} {j k:Nat} (ha:RB j a) (hb:RB k b) (hj:j<34359737000) (hk:k<34359737000):∃c,Yr a b=some c/\RB (j+k+4) c/\Gk c/\rq c=rq a-rq b:=by
 have e:=A3x b k hb ω;have f:RB (k+1) (B1 (!sv b) (nv b) (dv b)):=K2 _ _ _ _ hb.nv hb.dv ω;obtain⟨c,_,l,i,h,g⟩:=Aa6 ha f ω ω;refine⟨c,?_,i.mono ω,h,?_⟩
 .unfold Yr;rw[e,Ad,l];rfl
 .rw[g,Mh _ _ _ (Ft _),Aul,show rq b=mkRat (sg (sv b) (nv b)) (dv b) from rfl,<-Rat.neg_mkRat];grind
theorem A8o {a b:Aj} {j k:Nat} (ha:RB j a) (hb:RB k b) (hj:j<17179868000) (hk:k<17179868000):Yn a b=some (G2 (rq a-rq b)):=by obtain⟨c,h,g,i,f⟩:=A8n ha hb ω ω;unfold Yn;rw[h,Ad,(M9 g ω).2,f];rfl
theorem A8p {q:Rat} (h:0<=q):0<=G2 q:=by unfold G2;rw[Av (Rat.not_lt.2 h)];split <;> decide
def sm:Nat->(Nat->Nat)->Nat
 | 0,_=>0
 | n+1,f=>sm n f+f n
theorem Xq {f g:Nat->Nat}:∀{n:Nat},(∀k,k<n->f k=g k)->sm n f=sm n g
 | 0,_=>rfl
 | n+1,h=>by rw[sm,sm,Xq (n:=n) λk hk=>h k ω,h n ω]
theorem Xr (f g:Nat->Nat):∀n,sm n (λk=>f k+g k)=sm n f+sm n g
 | 0=>rfl
 | n+1=>by simp only[sm,Xr f g n];omega
theorem Auw (c:Nat) (f:Nat->Nat):∀n,sm n (λk=>c*f k)=c*sm n f
 | 0=>rfl
 | n+1=>by simp only[sm,Auw c f n,Nat.mul_add]
theorem Abi {f:Nat->Nat}:∀{n:Nat},(∀k,k<n->f k=0)->sm n f=0
 | 0,_=>rfl
 | n+1,h=>by rw[sm,Abi (n:=n) λk hk=>h k ω,h n ω]
theorem Abj (f:Nat->Nat):∀n,sm (n+1) f=f 0+sm n (λk=>f (k+1))
 | 0=>by simp[sm]
 | n+1=>by rw[sm,Abj f n,sm];omega
theorem Aux {f:Nat->Nat} {n:Nat}:∀{m:Nat},n<=m->(∀k,n<=k->f k=0)->sm m f=sm n f
 | 0,h,_=>by rw[show n=0 by omega]
 | m+1,h,b=>by
  by_cases e:n=m+1
  .rw[e]
  .rw[sm,Aux (m:=m) ω b,b m ω,Nat.add_zero]
theorem Aga {f:Nat->Nat} {n k:Nat} (hk:k<n) (b:∀j,j≠k->f j=0):sm n f=f k:=by
 induction n with
 | zero=>omega
 | succ n ih=>
  rw[sm];by_cases e:k=n
  .subst e;rw[Abi λj hj=>b j ω,Nat.zero_add]
  .rw[ih ω,b n ω,Nat.add_zero]
theorem Ux:∀n,bc n n=1
 | 0=>rfl
 | n+1=>by
  rw[bc,Ux n]
  have:bc n (n+1)=0:=by have:=bc_big2 n (n+1) ω;exact this
  omega
where bc_big2:∀n k,n<k->bc n k=0
 | n,0,h=>absurd h ω
 | 0,k+1,_=>rfl
 | n+1,k+1,h=>by rw[bc,bc_big2 n k ω,bc_big2 n (k+1) ω]
theorem Uy {n k:Nat} (h:n<k):bc n k=0:=Ux.bc_big2 n k h
theorem Qd (n k:Nat):bc (n+1) (k+1)=bc n k+bc n (k+1):=by rw[bc]
def Rc (a b k:Nat):Nat:=if b<=k then bc k a*bc a (k-b) else 0
theorem Auy {a b k:Nat} (h:a+b<k):Rc a b k=0:=by unfold Rc;rw[Ay ω,Uy (show a<k-b by omega),Nat.mul_zero]
theorem A8q {a b k:Nat} (h:k<a):Rc a b k=0:=by
 unfold Rc;split
 .rw[Uy h,Nat.zero_mul]
 .rfl
theorem Auz (b k:Nat):Rc 0 b k=if k=b then 1 else 0:=by
 unfold Rc;by_cases h:k=b
 .subst h;rw[Ay (Nat.le_refl _),Ay rfl,Nat.sub_self,H6,H6]
 .rw[Av h];split
  .rw[Uy (show 0<k-b by omega),Nat.mul_zero]
  .rfl
theorem Au0 (a k:Nat):Rc a 0 k=if k=a then 1 else 0:=by
 unfold Rc;rw[Ay (Nat.zero_le _),Nat.sub_zero];by_cases h:k=a
 .subst h;rw[Ay rfl,Ux]
 .rw[Av h];rcases Cg k a with h2|h2
  .rw[Uy h2,Nat.zero_mul]
  .rw[Uy (show a<k by omega),Nat.mul_zero]
theorem A8r (a b k:Nat):Rc (a+1) (b+1) (k+1)=Rc a (b+1) k+Rc (a+1) b k+Rc a b k:=by
 unfold Rc;by_cases h:b<=k
 .rw[Ay ω,Ay h,Ay h,show k+1-(b+1)=k-b by omega,Qd];by_cases h2:b+1<=k
  .rw[Ay h2];obtain⟨j,hj⟩:∃j,k-b=j+1:=⟨k-b-1,ω⟩;rw[hj,show k-(b+1)=j by omega,Qd];simp only[Nat.add_mul,Nat.mul_add];omega
  .rw[Av h2,show k-b=0 by omega,H6,H6];omega
 .rw[Av ω,Av h,Av h,Av ω]
theorem A8s (a b:Nat):Rc (a+1) (b+1) 0=0:=by unfold Rc;rw[Av ω]
theorem A8t (f:Nat->Nat) (n N:Nat):sm (N+1) (λk=>f k*bc (n+1) k)=sm (N+1) (λk=>f k*bc n k)+sm N (λk=>f (k+1)*bc n k):=by
 rw[Abj,Abj (λk=>f k*bc n k),H6,H6];have:sm N (λk=>f (k+1)*bc (n+1) (k+1))=sm N (λk=>f (k+1)*bc n (k+1))+sm N (λk=>f (k+1)*bc n k):=by rw[<-Xr];exact Xq λk _=>by rw[Qd,Nat.mul_add];omega
 rw[this];omega
theorem Abk:∀(n a b N:Nat),a+b<N->sm N (λk=>Rc a b k*bc n k)=bc n a*bc n b
 | n,0,b,N,h=>by rw[H6,Nat.one_mul,Aga (k:=b) ω λj hj=>by rw[Auz,Av hj,Nat.zero_mul],Auz,Ay rfl,Nat.one_mul]
 | n,a+1,0,N,h=>by rw[H6,Nat.mul_one,Aga (k:=a+1) ω λj hj=>by rw[Au0,Av hj,Nat.zero_mul],Au0,Ay rfl,Nat.one_mul]
 | 0,a+1,b+1,N,h=>by rw[show bc 0 (a+1)=0 from rfl,Nat.zero_mul];refine Abi λk _=>?_;cases k with| zero=>rw[A8s,Nat.zero_mul]| succ k=>rw[show bc 0 (k+1)=0 from rfl,Nat.mul_zero]
 | n+1,a+1,b+1,N,h=>by obtain⟨N,rfl⟩:∃M,N=M+1:=⟨N-1,ω⟩;rw[A8t,Abk n (a+1) (b+1) (N+1) h];have h1:=Abk n a (b+1) N ω;have h2:=Abk n (a+1) b N ω;have h3:=Abk n a b N ω;have c:sm N (λk=>Rc (a+1) (b+1) (k+1)*bc n k)=sm N (λk=>Rc a (b+1) k*bc n k)+sm N (λk=>Rc (a+1) b k*bc n k)+sm N (λk=>Rc a b k*bc n k):=(by rw[<-Xr,<-Xr];exact Xq λk _=>by rw[A8r,Nat.add_mul,Nat.add_mul]);rw[c,h1,h2,h3,Qd,Qd,Nat.add_mul,Nat.mul_add,Nat.mul_add];omega
theorem Au1 {f g:Nat->Nat} {N:Nat} (h:∀n,n<N->sm N (λk=>f k*bc n k)=sm N (λk=>g k*bc n k)):∀k,k<N->f k=g k:=by
 intro k;induction k using Nat.strongRecOn with
 | ind k ih=>
  intro hk;have cut:∀F:Nat->Nat,sm N (λj=>F j*bc k j)=sm k (λj=>F j*bc k j)+F k:=by
   intro F;have e:sm N (λj=>F j*bc k j)=sm (k+1) (λj=>F j*bc k j):=Aux ω λj hj=>by rw[Uy ω,Nat.mul_zero]
   rw[e,sm,Ux,Nat.mul_one]
  have:=h k hk;rw[cut f,cut g,Xq (f:=λj=>f j*bc k j) (g:=λj=>g j*bc k j) λj hj=>by rw[ih j hj ω]]at this;omega
theorem Alf:∀(m n K:Nat),bc (m+n) K=sm (K+1) (λj=>bc m j*bc n (K-j))
 | 0,n,K=>by rw[Nat.zero_add,Aga (k:=0) ω λj hj=>by rw[Uy ω,Nat.zero_mul],H6,Nat.one_mul,Nat.sub_zero]
 | m+1,n,0=>by rw[H6,sm,sm,H6,H6]
 | m+1,n,K+1=>by rw[show m+1+n=(m+n)+1 by omega,Qd,Alf m n K,Alf m n (K+1),Abj _ (K+1),Abj _ (K+1),H6,H6];have:sm (K+1) (λk=>bc (m+1) (k+1)*bc n (K+1-(k+1)))=sm (K+1) (λj=>bc m j*bc n (K-j))+sm (K+1) (λk=>bc m (k+1)*bc n (K+1-(k+1))):=(by rw[<-Xr];exact Xq λk _=>by rw[Qd,Nat.add_mul,show K+1-(k+1)=K-k by omega]);rw[this];omega
noncomputable def Xs {α:Type} (cmp:α->α->Option Int) (a0:Int):Int×List α->Option ((Int×List α)⊕(Int×List α)):=λ(v31,b)=> (show OB from bif v31>a0 then ((Af b v31).bind λv33=> (Af b (Ac (v31-1))).bind λg=> (cmp v33 g).bind λv35=> some (decide (v35<(0:Int)))) else some false).bind λf=>
 bif f then ((Af b (Ac (v31-1))).bind λv37=> (Af b v31).bind λc=> (Af b v31).bind λv39=> (Af (Cu b v31 v37) (Ac (v31-1))).bind λv40=> some (.inl ((Ac (v31-1)),(Cu (Cu b v31 v37) (Ac (v31-1)) c)))) else some (.inr (v31,b))
noncomputable def Abl {α:Type} (cmp:α->α->Option Int) (a0 a1:Int) (g:List α):Option (List α) := (An (S:=(Int×(List α))) (E:=(List α)) (λ(v21,b)=> bif v21<a1 then ((An (Xs cmp a0) (v21,b)).bind λ(v41,f)=> some (.inl ((Ac (v21+1)),f))) else (some (.inr b))) ((Ac (a0+1)),g)).bind λc=> some c
theorem A8u {α:Type} (A R:List α) (x y:α):((A++y::x::R).set (A.length+1) y).set A.length x=A++x::y::R:=by induction A with| nil=>rfl| cons a A ih=>simp only[Du,Ei,List.set_cons_succ,ih]
theorem Alg {α:Type} (A R:List α) (x:α):(A++x::R)[A.length]? = some x:=ψ
theorem A8v {α:Type} (A R:List α) (x y:α):(A++y::x::R)[A.length+1]? = some x:=by induction A with| nil=>rfl| cons a A ih=>simp
theorem A8w {α:Type} (cmp:α->α->Option Int) (y:α) (R:List α):Xs cmp 0 (0,y::R)=some (.inr (0,y::R)):=by unfold Xs;simp only[Ax (ω:¬(0:Int)>0),Am,Ad]
theorem A8x {α:Type} {cmp:α->α->Option Int} {c:α->α->Int} {N:Nat} (i:N<=1099511627776) (A R:List α) (u y:α) (b:cmp u y=some (c u y)) (f:(A++y::u::R).length<=N):Xs cmp 0 (((A.length+1:Nat):Int),A++y::u::R) = if c u y<0 then some (.inl ((A.length:Int),A++u::y::R)) else some (.inr (((A.length+1:Nat):Int),A++y::u::R)):=by
 have h:A.length+1<N:=by simp at f;omega
 have g:Ac (((A.length+1:Nat):Int)-1)=(A.length:Int):=by rw[Ac,B3] <;> omega
 unfold Xs;simp only[Ap (ω:((A.length+1:Nat):Int)>0),Ak,g,Bv (n:=A.length+1) rfl (A8v A R u y),Bv (n:=A.length) rfl (Alg A (u::R) y),Ad,b];by_cases hc:c u y<0
 .rw[Ap hc,Ay hc];simp only[Ak];rw[G0 (n:=A.length+1) rfl,G0 (n:=A.length) rfl,A8u];have:Af ((A++y::u::R).set (A.length+1) y) (A.length:Int)=some y:=(by refine Bv rfl ?_;rw[List.getElem?_set_ne ω];exact Alg A (u::R) y);rw[this];rfl
 .rw[Ax hc,Av hc];rfl
theorem A8y {α:Type} {cmp:α->α->Option Int} {c:α->α->Int} {N:Nat} (q:N<=1099511627776) : ∀(n:Nat) (A R:List α) (x:α),A.length=n->(∀t∈A,cmp x t=some (c x t))->(A++x::R).length<=N -> ∃f i,An (Xs cmp 0) ((A.length:Int),A++x::R)=some ((f.length:Int),f++x::(i++R))/\A=f++i/\(∀a∈i,c x a<0)/\∀k y,f=k++[y]->¬c x y<0:=by
 intro n;induction n with
 | zero=>intro A R x g _ _;have:A = []:=Fa.1 g;subst this;exact⟨[],[],D5 (A8w cmp x R),rfl,nofun,(λk y h=>by simp at h)⟩
 | succ n ih=>
  intro A R x g hm b;obtain⟨B,y,rfl⟩:∃B y,A=B++[y]:=by
   rcases List.eq_nil_or_concat A with h|⟨B,y,h⟩
   .rw[h]at g;cases g
   .exact⟨B,y,by simpa using h⟩
  have s:B.length=n:=(by simpa using g);have D:(B++[y])++x::R=B++y::x::R:=ψ;have el:(((B++[y]).length:Nat):Int)=((B.length+1:Nat):Int):=ψ;rw[D]at b ⊢;rw[el];have j:=A8x (cmp:=cmp) (c:=c) q B R x y (hm y ψ) b;by_cases hc:c x y<0
  .rw[Ay hc]at j;obtain⟨f,i,h1,h2,h3,u⟩:=ih B (y::R) x s (λt ht=>hm t (by simp[ht])) (by simpa using b);refine⟨f,i++[y],?_,by rw[h2];simp,?_,u⟩
   .rw[Ir j,h1];simp
   .intro a ha;rcases D7.1 ha with ha|ha
    .exact h3 a ha
    .simp only[Dw]at ha;subst ha;exact hc
  .rw[Av hc]at j;refine⟨B++[y],[],?_,ψ,nofun,?_⟩
   .rw[D5 j];simp
   .intro k z l;have:=List.append_inj' l rfl;have e:y=z:=(by simpa using this.2);subst e;exact hc
theorem A8z {α:Type} {c:α->α->Int} (L:Pd c) {f j:List α} {x:α} (s:(f++j).Pairwise (λa b=>¬c b a<0)) (h2:∀a∈j,c x a<0) (h1:∀g y,f=g++[y]->¬c x y<0):(f++x::j).Pairwise (λa b=>¬c b a<0):=by
 obtain⟨i,l,k⟩:=List.pairwise_append.1 s;have hx:∀a∈f,¬c x a<0:=by
  intro a ha;rcases List.eq_nil_or_concat f with h|⟨g,y,h⟩
  .rw[h]at ha;cases ha
  .have h:f=g++[y]:=(by simpa using h);have q:=h1 g y h;rw[h]at ha i;rcases D7.1 ha with ha|ha
   .exact L.ntr x y a q ((List.pairwise_append.1 i).2.2 a ha y ψ)
   .simp only[Dw]at ha;subst ha;exact q
 refine List.pairwise_append.2 ⟨i,List.pairwise_cons.2 ⟨λa ha h=>L.irr x (L.trs x a x (h2 a ha) h),l⟩,λa ha b hb=>?_⟩;rcases Fx.1 hb with rfl|hb
 .exact hx a ha
 .exact k a ha b hb
theorem Au2 {α:Type} {cmp:α->α->Option Int} {c:α->α->Int} (L:Pd c) (f:List α) (A:∀x∈f,∀y∈f,cmp x y=some (c x y)) (J:f.length<=1099511627776) : ∃R,Abl cmp 0 (f.length:Int) f=some R/\R.Perm f/\R.Pairwise (λa b=>¬c b a<0):=by
 unfold Abl;cases f with
 | nil=>refine⟨[],?_,List.Perm.refl _,List.Pairwise.nil⟩;refine Iy 0 (λ_=>((1:Int),([]:List α))) (by simp[Ac,B3]) (λj hj=>ω) ⟨[],?_,rfl⟩;simp
 | cons z0 B=>
 generalize k:z0::B=f at *;have hpos:1<=f.length:=by rw[<-k];simp
 refine Ej (λs=>∃(i:Nat) (S:List α),s=((i:Int),S++f.drop i)/\1<=i/\i<=f.length/\S.length=i/\S.Perm (f.take i)/\S.Pairwise (λa b=>¬c b a<0)) (λs=>f.length-s.1.toNat) (λR=>R.Perm f/\R.Pairwise (λa b=>¬c b a<0)) ⟨1,[z0],by rw[<-k];simp[Ac,B3],ω,hpos,rfl,by rw[<-k];simp,List.pairwise_singleton _ _⟩ ?_ ?_
 .rintro _ ⟨i,S,rfl,G,hi,E,g,l⟩;rcases Cg i f.length with h|h
  .have hx:f[i]? = some f[i]:=Bx h;have hxm:f[i]∈f:=List.getElem_mem h;generalize f[i]=x at hx hxm;have D:f.drop i=x::f.drop (i+1):=Js hx;have z:(S++x::f.drop (i+1)).length=f.length:=ζ;simp only[Ap (ω:(i:Int)<(f.length:Int)),Ak,C9 h ω];rw[D];left;obtain⟨u,q,h1,h2,h3,I⟩:=A8y (cmp:=cmp) (c:=c) (N:=f.length) ω S.length S (f.drop (i+1)) x rfl (λt ht=>A x hxm t (List.mem_of_mem_take (g.mem_iff.1 ht))) (by rw[z];exact Nat.le_refl _);rw[E]at h1;have hp:(u++x::q).Perm (f.take (i+1)):=(by rw[Dc hx];have:(u++x::q).Perm ((u++q)++[x]):=(by rw[List.append_assoc];exact List.Perm.append_left u (List.perm_append_singleton x q).symm);exact this.trans (by rw[<-h2];exact g.append_right [x]));refine⟨(((i+1:Nat):Int),(u++x::q)++f.drop (i+1)),bnd h1 ψ,⟨i+1,u++x::q,rfl,ω,ω,?_,hp,?_⟩,ζ⟩
   .rw[hp.length_eq,List.length_take];omega
   .rw[h2]at l;exact A8z L l h3 I
  .have:i=f.length:=ω;subst this;rw[Dh]at g;simp only[Ax (ω:¬(f.length:Int)<(f.length:Int)),Am,List.drop_length,List.append_nil];exact .inr ⟨S,rfl,g,l⟩
 .rintro R ⟨h1,h2⟩;exact⟨R,rfl,h1,h2⟩
noncomputable def Au3 {α:Type} (B:Nat) (gr:Int->Option (List α)) (a0:List (List α)):Option (List α) := (An (S:=(Int×Int)) (E:=Int) (λ(v2,v3)=> bif v3<(a0.length:Int) then ((Af a0 v3).bind λv4=> bif (Ac (v2+(v4.length:Int)))<(0:Int) then (none) else (some (.inl ((Ac (v2+(v4.length:Int))),(Ac (v3+1)))))) else (some (.inr v2))) (0,0)).bind λv5=> (gr v5).bind λi=> (An (S:=(Int×(List α))) (E:=(List α)) (λ(b,c)=> bif b<(a0.length:Int) then ((Af a0 b).bind λf=> (Cj B c f).bind λh=> some (.inl ((Ac (b+1)),h))) else (some (.inr c))) (0,i)).bind λg=> some g
theorem Alh {α:Type} {B:Nat} (g:B<=1024) {gr:Int->Option (List α)} (hg:∀n:Nat,n<=1000000->gr (n:Int)=some []) (a b:List α) (h:a.length+b.length<=1000000):Au3 B gr [a,b]=some (a++b):=by
 have m1:a.length*B<=1000000*1024:=Nat.mul_le_mul ω g;have m2:(a.length+b.length)*B<=1000000*1024:=Nat.mul_le_mul h g;have f:Ac 1=1:=by rw[Ac,B3] <;> omega
 have c:Ac 2=2:=by rw[Ac,B3] <;> omega
 have k:Ac (a.length:Int)=(a.length:Int):=by rw[Ac,B3] <;> omega
 have i:Ac ((a.length:Int)+(b.length:Int))=((a.length:Int)+(b.length:Int)):=by rw[Ac,B3] <;> omega
 have i0:Af [a,b] 0=some a:=rfl;have i1:Af [a,b] 1=some b:=rfl;have q:Cj B [] a=some a:=by rw[Dm ζ];rfl
 have l:Cj B a b=some (a++b):=Dm ω;unfold Au3;refine Iy 2 (λj=>if j=0 then (0,0) else if j=1 then ((a.length:Int),1) else (((a.length+b.length:Nat):Int),2)) rfl ?_ ⟨((a.length+b.length:Nat):Int),?_,?_⟩
 .intro j hj;rcases (ω:j=0\/j=1) with rfl|rfl
  .have:¬((a.length:Int)<0):=ω;simp[i0,k,f,this]
  .have:¬((a.length:Int)+(b.length:Int)<0):=ω;simp[i1,i,c,this]
 .simp
 .rw[hg _ h,Ad];refine Iy 2 (λj=>if j=0 then (0,[]) else if j=1 then (1,a) else (2,a++b)) rfl ?_ ⟨a++b,?_,rfl⟩
  .intro j hj;rcases (ω:j=0\/j=1) with rfl|rfl
   .simp[i0,f,q]
   .simp[i1,c,l]
  .simp
def Big:Nat:=1000000000 ^ 100
structure Np (x:Aj) (a:Nat):Prop where
 rb:RB 200 x
 s:sv x=false
 n:nv x=a
 d:dv x=1
theorem Ali {a:Nat} (h:a<Big):Bl a<=100:=Kx h
theorem Np.cR {a:Nat} (h:Bl a<=200):Np (cR a) a:=⟨Lq h δ,(Sf a).1,(Sf a).2.1,(Sf a).2.2⟩
theorem Np.c {a:Nat} (h:a<Big):Np (Ab.cR a) a:=Np.cR (by have:=Ali h;omega)
theorem Np.z:Np ⟨false,[],[]⟩ 0:=⟨A51 200,by unfold sv;simp,by unfold nv;simp[Al],by unfold dv;simp[Al]⟩
theorem Np.add {x y:Aj} {a b:Nat} (hx:Np x a) (hy:Np y b):It x y=some (Ab.cR (a+b)):=by rw[Aex _ _ 200 200 hx.rb hy.rb ω ω,hx.s,hx.n,hx.d,hy.s,hy.n,hy.d];simp[K1,Jq,Ab.cR]
theorem Np.mul {x y:Aj} {a b:Nat} (hx:Np x a) (hy:Np y b):Ea x y=some (Ab.cR (a*b)):=by rw[W1 _ _ 200 200 hx.rb hy.rb ω ω,hx.s,hx.n,hx.d,hy.s,hy.n,hy.d];simp[Ab.cR]
theorem Np.sign {x:Aj} {a:Nat} (hx:Np x a):G5 x=some (if a=0 then 0 else 1):=by rw[Aew _ 200 hx.rb ω,hx.s,hx.n];simp[Jp]
theorem Np.can {x:Aj} {a:Nat} (hx:Np x a):Po x=some (Ab.cR a):=by rw[Ajk _ 200 hx.rb ω,hx.s,hx.n,hx.d];rfl
def Ls (n:Nat) (f:Nat->Nat):List Aj:=(List.range n).map λk=>cR (f k)
theorem O8 (n:Nat) (f:Nat->Nat):(Ls n f).length=n:=by simp[Ls]
theorem Nc {n k:Nat} (f:Nat->Nat) (h:k<n):(Ls n f)[k]? = some (cR (f k)):=by simp[Ls,h]
theorem Abm {n:Nat} {l:List Aj} {f:Nat->Nat} (b:l.length=n) (h:∀k,k<n->l[k]? = some (cR (f k))):l=Ls n f:=by
 apply List.ext_getElem?;intro k;rcases Cg k n with hk|hk
 .rw[h k hk,Nc f hk]
 .rw[Kv ω,Kv (by rw[O8];omega)]
theorem Agb {α R:Type} {step:Int×List α->Option ((Int×List α)⊕List α)} {J:List α->Option R} {r:R} {i n:Nat} (o:List α) (g:Nat->α) (hi:i<=n) (q:o.length=n)
  (l:∀(j:Nat) (o':List α),i<=j->j<n->o'.length=n->step ((j:Int),o')=some (.inl (((j+1:Nat):Int),o'.set j (g j))))
  (y:∀o',o'.length=n->step ((n:Int),o')=some (.inr o'))
  (z:∀o',o'.length=n->(∀k,k<i->o'[k]? = o[k]?)->(∀k,i<=k->k<n->o'[k]? = some (g k))->J o'=some r):(An step ((i:Int),o)).bind J=some r:=by
 obtain⟨e,A,f⟩:=Lb (step:=step) (λs=>∃(j:Nat) (o':List α),s=((j:Int),o')/\i<=j/\j<=n/\o'.length=n/\(∀k,k<i->o'[k]? = o[k]?)/\∀k,i<=k->k<j->o'[k]? = some (g k)) (λs=>n-s.1.toNat)
  (λo'=>o'.length=n/\(∀k,k<i->o'[k]? = o[k]?)/\∀k,i<=k->k<n->o'[k]? = some (g k)) (by
  rintro _ ⟨j,o',rfl,c,x,h1,h2,h3⟩
  rcases Cg j n with h|h
  .refine .inl ⟨_,l j o' c h h1,⟨j+1,o'.set j (g j),rfl,ω,ω,by simp[h1],λk hk=>?_,λk b u=>?_⟩,ζ⟩
   .rw[List.getElem?_set_ne ω];exact h2 k hk
   .rcases Cg k j with h'|h'
    .rw[List.getElem?_set_ne ω];exact h3 k b h'
    .have:k=j:=ω
     subst this
     rw[List.getElem?_set_self ω]
  .have:j=n:=ω
   subst this
   exact .inr ⟨o',y o' h1,h1,h2,h3⟩) ((i:Int),o) ⟨i,o,rfl,ω,hi,q,λ_ _=>rfl,λk h1 h2=>ω⟩
 rw[A,Ad]
 exact z e f.1 f.2.1 f.2.2
theorem A80 (n:Nat) (b:n<=1000):Aab (n:Int)=some (Ls n λ_=>0):=by
 unfold Aab;rw[Ka rfl rfl (Nat.le_refl _) ω ω,Ad];refine Agb (i:=0) (n:=n) _ (λ_=>cR 0) ω ψ ?_ ?_ ?_
 .intro j o' _ h2 h3;have hx:o'[j]? = some o'[j]:=Bx ω;simp only[List.length_replicate,Ap (ω:(j:Int)<(n:Int)),Ak,Af1,Ad,Bv rfl hx,C9 h2 ω,G0 (n:=j) rfl]
 .intro o' h;simp only[List.length_replicate,Ax (ω:¬(n:Int)<(n:Int)),Am]
 .intro o' h1 _ h3;rw[Abm h1 (f:=λ_=>0) λk hk=>h3 k ω hk]
theorem Au4 (n k:Nat) (b:n<1000000000) (hk:k<=64):Ad9 (n:Int) (k:Int)=some (cR (bc n k)):=by
 have h:Tu (n:Int) (k:Int)=some (cR (bc n k)):=by rw[Ara n k b hk,Xn,show B1 false (fct k*bc n k) (fct k)=B1 false (fct k*bc n k) (fct k*1) by rw[Nat.mul_one],R5 _ _ _ _ (W6 k)];rfl
 exact h
theorem Au5 {n k:Nat} (h:n<=40):bc n k<Big:=by refine Nat.lt_of_le_of_lt (Abe n k) ?_;exact Nat.lt_of_le_of_lt (Nat.pow_le_pow_right δ h) δ
theorem A81 (a b:Nat) (ha:a<=16) (hb:b<=16):Wm (a:Int) (b:Int)=some (Ls (a+b+1) (Rc a b)):=by
 unfold Wm;have q:Ac ((a:Int)+(b:Int))=((a+b:Nat):Int):=by rw[Ac,B3] <;> omega
 have l:Ac (((a+b:Nat):Int)+1)=((a+b+1:Nat):Int):=by rw[Ac,B3] <;> omega
 have e:(if (b:Int)>(a:Int) then (b:Int) else (a:Int))=((max a b:Nat):Int):=by split <;> omega
 rw[q,l,A80 _ ω,Ad,e];refine Agb (i:=max a b) (n:=a+b+1) _ (λk=>cR (Rc a b k)) ω (by simp[O8]) ?_ ?_ ?_
 .intro j o' h1 h2 h3;have hx:o'[j]? = some o'[j]:=Bx ω;have g:Ac ((j:Int)-(b:Int))=((j-b:Nat):Int):=ξ;have s:Rc a b j=bc j a*bc a (j-b):=(by unfold Rc;rw[Ay ω]);simp only[Ap (ω:(j:Int)<=((a+b:Nat):Int)),Ak,Au4 j a ω ω,g,Au4 a (j-b) ω ω,Ad,(Np.c (Au5 (ω:j<=40))).mul (Np.c (Au5 (k:=j-b) (ω:a<=40))),Bv rfl hx,C9 h2 ω,G0 (n:=j) rfl,s]
 .intro o' h;simp only[Ax (ω:¬((a+b+1:Nat):Int)<=((a+b:Nat):Int)),Am]
 .intro o' h1 h2 h3;rw[Abm h1 (f:=Rc a b) λk hk=>?_];rcases Cg k (max a b) with h|h
  .rw[h2 k h,Nc _ hk];have:Rc a b k=0:=by
    rcases (ω:k<a\/k<b) with h|h
    .exact A8q h
    .unfold Rc;rw[Av ω]
   rw[this]
  .exact h3 k h hk
theorem A82 {m n:Nat} {f g:Nat->Nat} {c:Nat} (hm:m<=1000) (B:n<=1000) (A:∀k,k<m->f k<Big) (hg:∀k,k<n->g k<Big) (hc:c<Big) : Ua (Ls m f) (Ls n g) (cR c)=some (Ls (max m n) λk=>(if k<m then f k else 0)+(if k<n then g k else 0)*c):=by
 unfold Ua;rw[O8,O8];have e:(if (n:Int)>(m:Int) then (n:Int) else (m:Int))=((max m n:Nat):Int):=by split <;> omega
 rw[e,Ka rfl rfl (Nat.le_refl _) ω ω,Ad];refine Agb (i:=0) (n:=max m n) _ (λk=>cR ((if k<m then f k else 0)+(if k<n then g k else 0)*c)) ω ψ ?_ ?_ ?_
 .intro j o' _ h2 h3;have hx:o'[j]? = some o'[j]:=Bx ω;obtain⟨x,u,s⟩:∃x:Aj,(bif decide ((j:Int)<(m:Int)) then ((Af (Ls m f) (j:Int)).bind λb=>some (b.N,b.U,b.B)) else some (false,[],[]))=some (x.N,x.U,x.B)/\Np x (if j<m then f j else 0):=by
   by_cases h:j<m
   .rw[Ap ω,Ak,Bv rfl (Nc f h),Ay h];exact⟨_,rfl,Np.c (A j h)⟩
   .rw[Ax ω,Am,Av h];exact⟨⟨false,[],[]⟩,rfl,Np.z⟩
  obtain⟨y,q,l⟩:∃x:Aj,(bif decide ((j:Int)<(n:Int)) then ((Af (Ls n g) (j:Int)).bind λb=>some (b.N,b.U,b.B)) else some (false,[],[]))=some (x.N,x.U,x.B)/\Np x (if j<n then g j else 0)/\(if j<n then g j else 0)<Big:=by
   by_cases h:j<n
   .rw[Ap ω,Ak,Bv rfl (Nc g h),Ay h];exact⟨_,rfl,Np.c (hg j h),hg j h⟩
   .rw[Ax ω,Am,Av h];exact⟨⟨false,[],[]⟩,rfl,Np.z,δ⟩
  have hq:Bl ((if j<n then g j else 0)*c)<=200:=(by have:=Hi (if j<n then g j else 0) c;have:=Ali l.2;have:=Ali hc;omega);have hb:Z6 x y (cR c)=some (cR ((if j<m then f j else 0)+(if j<n then g j else 0)*c)):=(by unfold Z6;rw[(Np.c hc).mul l.1,Ad,Nat.mul_comm c,s.add (Np.cR hq)];rfl);simp only[List.length_replicate,Ap (ω:(j:Int)<((max m n:Nat):Int)),Ak]
  erw[u,Ad,q,Ad];dsimp only;rw[hb,Ad,Bv rfl hx,Ad,C9 h2 ω,G0 (n:=j) rfl]
 .intro o' h;simp only[List.length_replicate,Ax (ω:¬((max m n:Nat):Int)<((max m n:Nat):Int)),Am]
 .intro o' h1 _ h3;rw[Abm h1 (f:=λk=>(if k<m then f k else 0)+(if k<n then g k else 0)*c) λk hk=>h3 k ω hk]
theorem Alj {p:List Aj} {n:Nat} {f:Nat->Nat} (u:n<1000) (s:p.length=n+1) (hp:∀k,k<n+1->∃x,p[k]? = some x/\Np x (f k)) (b:f n≠0):Ot p=some (Ls (n+1) f):=by
 unfold Ot;obtain⟨x,q,l⟩:=hp n ω;have w:Ac (((n+1:Nat):Int)-1)=(n:Int):=by rw[Ac,B3] <;> omega
 refine bnd (a:=((n+1:Nat):Int)) (D5 ?_) ?_
 .rw[s];simp only[Ap (ω:((n+1:Nat):Int)>0),Ak,w,Bv rfl q,Ad,l.sign,Av b];rfl
 .rw[Ka rfl rfl (Nat.le_refl _) ω ω,Ad];refine Agb (i:=0) (n:=n+1) _ (λk=>cR (f k)) ω ψ ?_ ?_ ?_
  .intro j o' _ h2 h3;have hx:o'[j]? = some o'[j]:=Bx ω;obtain⟨y,g,c⟩:=hp j h2;simp only[List.length_replicate,Ap (ω:(j:Int)<((n+1:Nat):Int)),Ak,Bv rfl g,c.can,Ad,Bv rfl hx,C9 h2 ω,G0 (n:=j) rfl]
  .intro o' h;simp only[List.length_replicate,Ax (ω:¬((n+1:Nat):Int)<((n+1:Nat):Int)),Am]
  .intro o' h1 _ h3;rw[Abm h1 (f:=f) λk hk=>h3 k ω hk]
def Hr (n d:Nat) (f:Nat->Nat) (k:Nat):Nat:=sm n λa=>f a*Rc a d k
theorem Au6 (a d:Nat):0<Rc a d (a+d):=by
 unfold Rc;rw[Ay ω,show a+d-d=a by omega,Ux];have:0<bc (a+d) a:=by
  have h:∀d,0<bc (a+d) a:=by
   intro d;induction d with
   | zero=>rw[Nat.add_zero,Ux];decide
   | succ d ih=>cases a with| zero=>rw[H6];decide| succ a=>rw[show a+1+(d+1)=(a+1+d)+1 by omega,Qd];omega
  exact h d
 omega
theorem A83 {n d:Nat} {f:Nat->Nat} {p q:List Aj} (a1:n+d<=12) (hp:p=Ls (n+1) f) (i:f n≠0) (hq:q.length=d+1) (N:∀k,k<d+1->∃x,q[k]? = some x/\Np x (if k=d then 1 else 0))
  (R:∀k,k<n+1->f k<Big) (X:∀a k,a<=n+1->Hr a d f k<Big):Z1 p q=some (Ls (n+d+1) (Hr (n+1) d f),true):=by
 unfold Z1
 have l:p.length=n+1:=by rw[hp,O8]
 rw[l,hq,Ax ω,Ax ω]
 simp only[Am,Ad]
 have c1:Ot p=some (Ls (n+1) f):=Alj ω l (λk hk=>⟨_,by rw[hp];exact Nc f hk,Np.c (R k hk)⟩) i
 have c2:Ot q=some (Ls (d+1) λk=>if k=d then 1 else 0):=Alj ω hq N ψ
 have w:Ac (((n+1:Nat):Int)+((d+1:Nat):Int))=((n+d+2:Nat):Int):=by rw[Ac,B3] <;> omega
 rw[c1,Ad,c2,Ad,O8,O8,Cn ω,Cn ω]
 simp only[Am,Ad]
 rw[w,Ax ω,Am]
 obtain⟨r,Z,Y⟩:=Ej (J:=λA=>(Ot A).bind λz=>some (z,true)) (Q:=λr=>r=(Ls (n+d+1) (Hr (n+1) d f),true)) (step:=λ(x:List Aj×Int)=>match x with
  | (v25,v26)=>
   bif v26<((n+1:Nat):Int) then (
   (Af (Ls (n+1) f) v26).bind λI=>
   (An (S:=((List Aj)×Int)) (E:=((List Aj)×Int)) (λ(g,v37)=>
   bif v37<((d+1:Nat):Int) then (
   (Af (Ls (d+1) λk=>if k=d then 1 else 0) v37).bind λG=>
   (Ea I G).bind λv40=>
   (G5 v40).bind λD=>
   bif (D==(0:Int)) then (
   some (.inl (g,(Ac (v37+1))))
   )
   else (
   (Wm v26 v37).bind λB=>
   (Ua g B v40).bind λv44=>
   some (.inl (v44,(Ac (v37+1))))
   )
   )
   else (
   some (.inr (g,v37))
   )
    ) (v25,0)).bind λ(v45,v46)=>
   some (.inl (v45,(Ac (v26+1))))
   )
   else (
   some (.inr v25)
   )) (s:=([],0))
  (λs=>∃(a L:Nat) (h:Nat->Nat),s=(Ls L h,(a:Int))/\a<=n+1/\L<=a+d/\(∀k,(if k<L then h k else 0)=Hr a d f k)/\(a=n+1->L=n+d+1)) (λs=>n+1-s.2.toNat)
  (λe=>e=Ls (n+d+1) (Hr (n+1) d f)) ⟨0,0,λ_=>0,rfl,ω,ω,λk=>by simp[Hr,sm],ω⟩ (by
  rintro _ ⟨a,L,h,rfl,ha,hL,hv,y⟩
  rcases Cg a (n+1) with h1|h1
  .left
   have M:Np (cR 0) 0:=Np.c δ
   have b:∀k,Hr (a+1) d f k=Hr a d f k+f a*Rc a d k:=λk=>rfl
   have hh:∀k,k<L->h k<Big:=λk hk=>by
    have:=hv k
    rw[Ay hk]at this
    rw[this];exact X a k ω
   by_cases h0:f a=0
   .refine⟨(Ls L h,((a+1:Nat):Int)),?_,⟨a+1,L,h,rfl,ω,ω,λk=>by rw[b,h0,hv];simp,λe=>?_⟩,ζ⟩
    .simp only[Ap (ω:(a:Int)<((n+1:Nat):Int)),Ak,Bv rfl (Nc f h1),Ad,h0]
     refine Iy (d+1) (λj=>(Ls L h,(j:Int))) rfl ?_ ⟨(Ls L h,((d+1:Nat):Int)),?_,?_⟩
     .intro j hj
      have hy:Np (cR (if j=d then 1 else 0)) (if j=d then 1 else 0):=Np.c (by split <;> decide)
      simp only[Ap (ω:(j:Int)<((d+1:Nat):Int)),Ak,Bv rfl (Nc _ hj),Ad,M.mul hy,Nat.zero_mul,M.sign,if_true,C9 hj ω]
      rfl
     .simp only[Ax (ω:¬((d+1:Nat):Int)<((d+1:Nat):Int)),Am]
     .rw[C9 h1 ω]
    .have:a=n:=ω
     subst this;exact (i h0).elim
   .have u:=Np.c (R a h1)
    have U:Ua (Ls L h) (Ls (a+d+1) (Rc a d)) (cR (f a))=some (Ls (a+d+1) λk=>(if k<L then h k else 0)+(if k<a+d+1 then Rc a d k else 0)*f a):=by
     rw[A82 ω ω hh (λk hk=>?_) (R a h1),show max L (a+d+1)=a+d+1 by omega]
     unfold Rc
     split
     .refine Nat.lt_of_le_of_lt (Nat.mul_le_mul (Abe k a) (Abe a (k-d))) ?_
      rw[<-Nat.pow_add]
      exact Nat.lt_of_le_of_lt (Nat.pow_le_pow_right δ (ω:k+a<=40)) δ
     .decide
    refine⟨(Ls (a+d+1) λk=>(if k<L then h k else 0)+(if k<a+d+1 then Rc a d k else 0)*f a,((a+1:Nat):Int)),?_,⟨a+1,a+d+1,_,rfl,ω,ω,λk=>?_,λe=>ω⟩,ζ⟩
    .simp only[Ap (ω:(a:Int)<((n+1:Nat):Int)),Ak,Bv rfl (Nc f h1),Ad]
     refine Iy (d+1) (λj=>if j<=d then (Ls L h,(j:Int)) else (Ls (a+d+1) λk=>(if k<L then h k else 0)+(if k<a+d+1 then Rc a d k else 0)*f a,(j:Int))) ψ ?_ ⟨((Ls (a+d+1) λk=>(if k<L then h k else 0)+(if k<a+d+1 then Rc a d k else 0)*f a),((d+1:Nat):Int)),?_,?_⟩
     .intro j hj
      have hy:Np (cR (if j=d then 1 else 0)) (if j=d then 1 else 0):=Np.c (by split <;> decide)
      rw[Ay ω]
      simp only[Ap (ω:(j:Int)<((d+1:Nat):Int)),Ak,Bv rfl (Nc _ hj),Ad,u.mul hy,C9 hj ω]
      rcases Cg j d with h2|h2
      .rw[Av (ω:¬j=d),Nat.mul_zero,M.sign,Ad,Ay (ω:j+1<=d)]
       rfl
      .have:j=d:=ω
       subst this
       rw[Ay rfl,Nat.mul_one,u.sign,Ad,Av h0,A81 a j ω ω,Ad,U,Av ω]
       rfl
     .rw[Av ω]
      simp only[Ax (ω:¬((d+1:Nat):Int)<((d+1:Nat):Int)),Am]
     .rw[C9 h1 ω]
    .rw[b,<-hv]
     by_cases hk:k<a+d+1
     .rw[Ay hk,Ay hk,Nat.mul_comm (Rc a d k)]
     .rw[Av hk,Av ω,Auy ω];simp
  .have:a=n+1:=ω
   subst this
   right
   have V:=y rfl
   refine⟨Ls L h,?_,?_⟩
   .simp only[Ax (ω:¬((n+1:Nat):Int)<((n+1:Nat):Int)),Am]
   .subst V
    refine Abm (O8 _ _) λk hk=>?_
    have:=hv k
    rw[Ay hk]at this
    rw[Nc _ hk,this]) (by
  rintro _ rfl
  refine⟨_,bnd (Alj (n:=n+d) (f:=Hr (n+1) d f) ω (O8 _ _) (λk hk=>⟨_,Nc _ hk,Np.c (X _ _ ω)⟩) ?_) rfl,rfl⟩
  have e:Hr (n+1) d f (n+d)=Hr n d f (n+d)+f n*Rc n d (n+d):=rfl
  have:=Nat.mul_pos (Nat.pos_of_ne_zero i) (Au6 n d)
  omega)
 rw[<-Y]
 exact Z
theorem A84 (d x N:Nat) (f:Nat->Nat):∀M,(∀a,a<M->a+d<N)->sm N (λk=>Hr M d f k*bc x k)=sm M (λa=>f a*bc x a)*bc x d:=by
 intro M;induction M with
 | zero=>intro _;rw[Abi (λk _=>by simp[Hr,sm])];simp[sm]
 | succ M ih=>
  intro h;have e:∀k,Hr (M+1) d f k*bc x k=Hr M d f k*bc x k+f M*(Rc M d k*bc x k):=λk=>by show (Hr M d f k+f M*Rc M d k)*bc x k=_;rw[Nat.add_mul,Nat.mul_assoc]
  rw[Xq (λk _=>e k),Xr,ih (λa ha=>h a ω),Auw,Abk x M d N (h M ω)];show _=(sm M (λa=>f a*bc x a)+f M*bc x M)*bc x d;rw[Nat.add_mul,Nat.mul_assoc (f M)]
theorem A85 (d:Nat) (f:Nat->Nat) (k:Nat):∀{m n:Nat},m<=n->Hr m d f k<=Hr n d f k:=by
 intro m n h;induction n with
 | zero=>have:m=0:=ω;subst this;exact Nat.le_refl _
 | succ n ih=>
  rcases Cg m (n+1) with h'|h'
  .have:=ih ω;have e:Hr (n+1) d f k=Hr n d f k+f n*Rc n d k:=rfl;omega
  .have:m=n+1:=ω;subst this;exact Nat.le_refl _
def prb (x:Nat):List Be->Nat
 | []=>1
 | a::l=>bc x a.P.toNat*prb x l
def Cr:List Be->Nat
 | []=>0
 | a::l=>a.P.toNat+Cr l
theorem Au7 (x:Nat) (l m:List Be):prb x (l++m)=prb x l*prb x m:=by induction l with| nil=>simp[prb]| cons a l ih=>simp only[Du,prb,ih,Nat.mul_assoc]
theorem Nd (l m:List Be):Cr (l++m)=Cr l+Cr m:=by induction l with| nil=>simp[Cr]| cons a l ih=>simp only[Du,Cr,ih,Nat.add_assoc]
theorem Au8 (x:Nat) {l m:List Be} (h:l.Perm m):prb x l=prb x m:=by induction h with| nil=>rfl| cons a _ ih=>simp only[prb,ih]| swap a b l=>simp only[prb];rw[<-Nat.mul_assoc,<-Nat.mul_assoc,Nat.mul_comm (bc x b.P.toNat)]| trans _ _ h1 h2=>exact h1.trans h2
theorem Qf {l m:List Be} (h:l.Perm m):Cr l=Cr m:=by induction h with| nil=>rfl| cons a _ ih=>simp only[Cr,ih]| swap a b l=>simp only[Cr];omega| trans _ _ h1 h2=>exact h1.trans h2
theorem A86 (x d:Nat):bc x d<=(x+1) ^ d:=Nat.le_trans (Af6 x d) (Nat.pow_le_pow_left ω d)
theorem Au9 (x:Nat):∀l:List Be,prb x l<=(x+1) ^ Cr l
 | []=>by simp[prb,Cr]
 | a::l=>by simp only[prb,Cr,Nat.pow_add];exact Nat.mul_le_mul (A86 x _) (Au9 x l)
theorem Xt {x:Nat} {l:List Be} (hx:x<=1048576) (hd:Cr l<=12):prb x l<Big:=by refine Nat.lt_of_le_of_lt (Au9 x l) ?_;refine Nat.lt_of_le_of_lt (Nat.pow_le_pow_left (ω:x+1<=1048577) _) ?_;exact Nat.lt_of_le_of_lt (Nat.pow_le_pow_right δ hd) δ
def PwN (l:List Be) (N:Nat) (f:Nat->Nat):Prop:=N=Cr l/\f N≠0/\∀x,sm (N+1) (λk=>f k*bc x k)=prb x l
theorem PwN.le {l:List Be} {N:Nat} {f:Nat->Nat} (h:PwN l N f) {k:Nat} (hk:k<N+1):f k<=prb k l:=by
 have h1:=h.2.2 k;have h2:f k*bc k k<=sm (N+1) (λj=>f j*bc k j):=by
  have:∀n,k<n->f k*bc k k<=sm n (λj=>f j*bc k j):=by
   intro n;induction n with
   | zero=>intro h;omega
   | succ n ih=>
    intro h;show _<=sm n _+f n*bc k n;rcases Cg k n with h'|h'
    .have:=ih h';omega
    .have:k=n:=ω;subst this;omega
  exact this _ hk
 rw[Ux,Nat.mul_one]at h2;omega
theorem PwN.uniq {l m:List Be} {N M:Nat} {f g:Nat->Nat} (h:PwN l N f) (h':PwN m M g) (hp:l.Perm m):N=M/\∀k,k<N+1->f k=g k:=by
 have e:N=M:=by rw[h.1,h'.1,Qf hp]
 subst e;exact⟨rfl,Au1 λn _=>by rw[h.2.2 n,h'.2.2 n,Au8 n hp]⟩
theorem PwN.step {l:List Be} {N:Nat} {f:Nat->Nat} (h:PwN l N f) (a:Be):PwN (l++[a]) (N+a.P.toNat) (Hr (N+1) a.P.toNat f):=by
 refine⟨by rw[Nd,h.1];simp[Cr],?_,λx=>?_⟩
 .have e:Hr (N+1) a.P.toNat f (N+a.P.toNat)=Hr N a.P.toNat f (N+a.P.toNat)+f N*Rc N a.P.toNat (N+a.P.toNat):=rfl;have:=Nat.mul_pos (Nat.pos_of_ne_zero h.2.1) (Au6 N a.P.toNat);omega
 .rw[A84 _ x _ f (N+1) (λb ha=>ω),h.2.2 x,Au7];simp[prb]
theorem A87 (l:List Be) (x:l≠[]) (ht:∀a∈l,a.L.T.length≠0) (hd:∀a∈l,0<=a.P) (L:Cr l<=12) (M:l.length<=1000) : ∃N f,Nw l=some (Ls (N+1) f)/\PwN l N f:=by
 have h0:Aec l=false:=by cases l with| nil=>exact (x rfl).elim| cons a J=>have:=ht a ψ;show (a.L.T.length==0)=false;simpa using this
 have h1:∃N f,Aeb l=some (Ls (N+1) f)/\PwN l N f:=by
  unfold Aeb;rw[P9,Ad]
  suffices h:∃r,_/\∃N f,r=Ls (N+1) f/\PwN l N f by obtain⟨r,E,N,f,D,B⟩:=h;exact⟨N,f,by rw[<-D];exact E,B⟩
  refine Ej (λs=>∃(i N:Nat) (f:Nat->Nat),s=(Ls (N+1) f,(i:Int))/\i<=l.length/\PwN (l.take i) N f) (λs=>l.length-s.2.toNat) (λe=>∃N f,e=Ls (N+1) f/\PwN l N f) ⟨0,0,λ_=>1,rfl,ω,by simp[PwN,Cr,prb,sm,H6]⟩ ?_ ?_
  .rintro _ ⟨i,N,f,rfl,hi,g⟩;rcases Cg i l.length with h|h
   .left;have hx:l[i]? = some l[i]:=Bx h;have b:=List.getElem_mem h;generalize l[i]=a at hx b;have R:=ht a b;have I:=hd a b;have A:Cr l=Cr (l.take i)+(a.P.toNat+Cr (l.drop (i+1))):=(by have:=Nd (l.take i) (l.drop i);rw[List.take_append_drop]at this;rw[this,Js hx];rfl);have S:=g.1;have w:Ac (a.P+1)=((a.P.toNat+1:Nat):Int):=ξ;have G:Af (List.replicate (a.P.toNat+1) (⟨false,[],[]⟩:Aj)) a.P=some ⟨false,[],[]⟩:=Bv (n:=a.P.toNat) ω ψ;have u:=g.step a;have hb:∀y k,y<=N+1->Hr y a.P.toNat f k<Big:=by
     intro y k ha';refine Nat.lt_of_le_of_lt (A85 _ f k ha') ?_;rcases Cg k (N+a.P.toNat+1) with hk|hk
     .refine Nat.lt_of_le_of_lt (u.le hk) (Xt ω ?_);rw[Nd];simp only[Cr];omega
     .have:Hr (N+1) a.P.toNat f k=0:=Abi λj hj=>by rw[Auy ω];rfl
      rw[this];decide
    have hm:=A83 (n:=N) (d:=a.P.toNat) (f:=f) (p:=Ls (N+1) f) (q:=Cu (List.replicate (a.P.toNat+1) ⟨false,[],[]⟩) a.P (cR 1)) ω rfl g.2.1 (by rw[G0 (n:=a.P.toNat) ω];simp) (λk hk=>by
     rw[G0 (n:=a.P.toNat) ω];by_cases e:k=a.P.toNat
     .subst e;rw[Ay rfl];exact⟨_,List.getElem?_set_self ψ,Np.c δ⟩
     .rw[Av e,List.getElem?_set_ne ω];exact⟨⟨false,[],[]⟩,by simp[hk],Np.z⟩) (λk hk=>Nat.lt_of_le_of_lt (g.le hk) (Xt ω ω)) hb
    refine⟨(Ls (N+a.P.toNat+1) (Hr (N+1) a.P.toNat f),((i+1:Nat):Int)),?_,⟨i+1,_,_,rfl,ω,by rw[Dc hx];exact u⟩,ζ⟩;simp only[Ap (ω:(i:Int)<(l.length:Int)),Ak,Bv rfl hx,Ad,Cn (ω:¬(a.L.T.length:Int)=0),Am,w,Ka rfl rfl (Nat.le_refl _) (ω:56*(a.P.toNat+1)<=281474976710656) ω,P9,G,hm,C9 h ω]
   .have:i=l.length:=ω;subst this;rw[Dh]at g;right;exact⟨_,by simp only[Ax (ω:¬(l.length:Int)<(l.length:Int)),Am],_,_,rfl,g⟩
  .rintro _ ⟨N,f,rfl,h⟩;exact⟨_,rfl,N,f,rfl,h⟩
 obtain⟨N,f,h2,h3⟩:=h1;refine⟨N,f,?_,h3⟩;unfold Nw;rw[h0,Am];exact h2
theorem A88 {c:Int} {d:Int} (hc:c<=1048576) (hd:0<=d) (b:d<=64):Wt c d=some (cR (bc c.toNat d.toNat),true):=by
 have h:=At6 c.toNat d.toNat ω ω;have e:((d.toNat:Nat):Int)=d:=ω;rw[e]at h;rw[<-h];unfold Wt;have f:(if c>(0:Int) then c else 0)=(if ((c.toNat:Nat):Int)>(0:Int) then ((c.toNat:Nat):Int) else 0):=by split <;> split <;> omega
 rw[f]
theorem A89 (l:List Be) {c:Int} (hc:c<=1048576) (ht:∀a∈l,a.L.T.length=0/\a.L.Q=c) (hd:∀a∈l,0<=a.P) (G:Cr l<=12) (I:l.length<=1000) :
  Nw l=some [cR (prb c.toNat l)]:=by
 have h1:Aea l=some [cR (prb c.toNat l)]:=by
  unfold Aea
  rw[P9,Ad]
  obtain⟨r,B,A⟩:∃r,_/\r = [cR (prb c.toNat l)]:=Ej (λs=>∃i:Nat,s=((i:Int),[cR (prb c.toNat (l.take i))])/\i<=l.length) (λs=>l.length-s.1.toNat) (λe=>e = [cR (prb c.toNat l)]) (J:=λo=>some o)
   (step:=λ(x:Int×List Aj)=>match x with
    | (g,f)=>
     bif g<(l.length:Int) then (
     (Af l g).bind λb=>
     bif ((b.L.T.length:Int)==(0:Int)) then (
     (Wt b.L.Q b.P).bind λk=>
     (Af f 0).bind λv20=>
     (Ea v20 k.1).bind λv21=>
     (Af f 0).bind λv22=>
     some (.inl ((Ac (g+1)),(Cu f 0 v21)))
     )
     else (
     (F4 56 (Ac (b.P+1)) (Ac (b.P+1)) ((Aj.mk false [] []):Aj)).bind λq=>
     (Dj 1).bind λv25=>
     (Af q b.P).bind λv26=>
     none
     )
     )
     else (
     some (.inr f)
     )) (s:=(0,[cR 1]))
   ⟨0,rfl,ω⟩ (by
   rintro _ ⟨i,rfl,hi⟩
   rcases Cg i l.length with h|h
   .left
    have hx:l[i]? = some l[i]:=Bx h
    have j:=List.getElem_mem h
    generalize l[i]=a at hx j
    obtain⟨L,D⟩:=ht a j
    have y:=hd a j
    have e:Cr l=Cr (l.take i)+(a.P.toNat+Cr (l.drop (i+1))):=by
     have:=Nd (l.take i) (l.drop i)
     rw[List.take_append_drop]at this
     rw[this,Js hx];rfl
    have hb:prb c.toNat (l.take i)<Big:=Xt ω ω
    have z:bc c.toNat a.P.toNat<Big:=by
     have:=Xt (x:=c.toNat) (l:=[a]) ω (by simp only[Cr];omega)
     simpa[prb] using this
    have u:Af [cR (prb c.toNat (l.take i))] 0=some (cR (prb c.toNat (l.take i))):=rfl
    refine⟨_,?_,⟨i+1,rfl,ω⟩,ζ⟩
    simp only[Ap (ω:(i:Int)<(l.length:Int)),Ak,Bv rfl hx,Ad,Dk (ω:(a.L.T.length:Int)=0),D,A88 hc y (ω:a.P<=64),u,(Np.c hb).mul (Np.c z),C9 h ω]
    rw[Dc hx,Au7]
    simp[prb,Cu]
   .have:i=l.length:=ω
    subst this
    right
    exact⟨[cR (prb c.toNat (List.take l.length l))],by simp only[Ax (ω:¬(l.length:Int)<(l.length:Int)),Am],by rw[Dh]⟩) (by
   rintro _ rfl
   exact⟨_,rfl,rfl⟩)
  rw[<-A]
  exact B
 have h0:Aec l=true:=by
  cases l with
  | nil=>rfl
  | cons a E=>
   have:=(ht a ψ).1
   show (a.L.T.length==0)=true
   simpa using this
 unfold Nw
 rw[h0,Ak,h1]
noncomputable def Abn {α:Type} (cmp:α->α->Option Int) (a0:Int) (f:List α):Option (List α) := (An (S:=(Int×Int×(List α))) (E:=(Int×Int×(List α))) (λ(v3,v4,h)=> bif v4<=a0 then ((Abl cmp v3 v4 h).bind λg=> (Ge f.length g).bind λk=> some (.inl (v4,(Ac (v4+20)),g))) else (some (.inr (v3,v4,h)))) (0,20,f)).bind λ(v8,v9,c)=> (Abl cmp v8 a0 c).bind λv11=> (Ge f.length v11).bind λv12=> (An (S:=(Int×Int×Int)) (E:=Unit) (λ(b,j,i)=> bif b<a0 then ((An (S:=Unit) (E:=Unit) (λ_=> bif (Ac (2*b))<=a0 then (none) else (some (.inr ()))) ()).bind λ_=> bif (Ac (0+b))<a0 then (none) else (some (.inl ((Ac (b*2)),0,(Ac (2*b)))))) else (some (.inr ()))) (20,v8,v9)).bind λ_=> some v11
theorem Alk {α:Type} {cmp:α->α->Option Int} {c:α->α->Int} (L:Pd c) (f:List α) (g:∀x∈f,∀y∈f,cmp x y=some (c x y)) (h:f.length<20) : ∃R,Abn cmp (f.length:Int) f=some R/\R.Perm f/\R.Pairwise (λa b=>¬c b a<0):=by
 obtain⟨R,h1,h2,h3⟩:=Au2 L f g ω;refine⟨R,?_,h2,h3⟩;unfold Abn;refine bnd (a:=(0,20,f)) (D5 ?_) ?_
 .simp only[Ax (ω:¬(20:Int)<=(f.length:Int)),Am]
 .dsimp only;rw[h1,Ad,Na h2.length_eq.symm,Ad];refine bnd (a:=()) (D5 ?_) rfl;simp only[Ax (ω:¬(20:Int)<(f.length:Int)),Am]
theorem Uz:Pd F0 where
 irr x:=by rw[(I7.zero x x trivial trivial).2 rfl];omega
 trs x y z h1 h2:=I7.trans x y z trivial trivial trivial h1 h2
 ntr x y z h1 h2 h3:=by
  rcases Int.lt_trichotomy (F0 x y) 0 with k|k|k
  .exact h1 k
  .have:=(I7.zero x y trivial trivial).1 k
   subst this;exact h2 h3
  .have b:F0 y x<0:=by rw[I7.anti x y trivial trivial];omega
   exact h2 (I7.trans y x z trivial trivial trivial b h3)
theorem A9a:Pd (λa b:Be=>F0 a.L b.L):=⟨λ_=>Uz.irr _,λ_ _ _=>Uz.trs _ _ _,λ_ _ _=>Uz.ntr _ _ _⟩
def Agc (l:List Be):Prop:=l.Pairwise λa b=>¬F0 b.L a.L<0
theorem Ava (b:List Be) (ht:∀a∈b,a.L.T.length<1099511627776) (c:b.length<20):∃R,We b=some R/\R.Perm b/\Agc R:=by obtain⟨R,h1,h2,h3⟩:=Alk (cmp:=Wf) A9a b (λx hx y _=>by unfold Wf;rw[Afl x.L y.L (ht x hx)];rfl) c;refine⟨R,?_,h2,h3⟩;unfold We;have e:Adv (b.length:Int) b=Abn Wf (b.length:Int) b:=rfl;rw[e,h1,Ad,Na h2.length_eq.symm];rfl
theorem A9b:Rm []=some []:=by obtain⟨R,h1,h2,h3⟩:=Alk (cmp:=Rn) (c:=λ_ _=>0) ⟨λ_=>ω,λ_ _ _ h=>ω,λ_ _ _ _ _=>ω⟩ ([]:List Ca) (λx hx=>by cases hx) ψ;have b:R = []:=List.Perm.eq_nil h2;subst b;unfold Rm;have e:Zz ((([]:List Ca).length:Nat):Int) []=Abn Rn ((([]:List Ca).length:Nat):Int) []:=rfl;rw[e,h1];rfl
theorem All {α:Type} (n:Nat) (h:n<=1000000):Og (α:=α) (n:Int)=some []:=by unfold Og;rw[Ap ω,Ap ω];rfl
theorem A9c (a b:List Be) (h:a.length+b.length<=1000000):Adr [a,b]=some (a++b) := Alh (B:=40) δ (gr:=Adx) (λn h=>All n h) a b h
theorem A9d (a b:List Ca) (h:a.length+b.length<=1000000):Adq [a,b]=some (a++b) := Alh (B:=40) δ (gr:=Adw) (λn h=>All n h) a b h
theorem Agd (m n:A7) (h1:m.F.length+n.F.length<=1000000) (h2:m.A.length+n.A.length<=1000000):Oo m n=some ⟨m.F++n.F,m.A++n.A⟩:=by unfold Oo;rw[A9d _ _ h1,Ad,A9c _ _ h2];rfl
def atO (l:As) (k:Nat):List Be:=if k=0 then [] else [⟨l,k⟩]
theorem A9e (l:As) (k:Nat):Tx l (k:Int)=some (atO l k):=by
 unfold Tx atO;by_cases h:k=0
 .rw[Dk ω,Ay h];rfl
 .rw[Cn ω,Av h];rfl
theorem Avb (l:As) (k:Nat):(atO l k).length<=1:=by unfold atO;split <;> simp
abbrev FS:={F:List Ca // F.length<=1000}
theorem A9f {t:Ai} {x:Aj} {K:Nat} {A B:List Be} {F:FS} (hm:t.M=⟨F.1,A⟩) (b:A.length+B.length<=1000000) (i:K<30000000000) (h1:RB K t.C) (h2:RB 200 x) : ∃u,Li t x ⟨[],B⟩=some u/\u.M=⟨F.1,A++B⟩/\rq u.C=rq t.C*rq x/\RB (K+202) u.C:=by obtain⟨c,h,g,_,f⟩:=M8 h1 h2 ω ω;refine⟨⟨c,⟨F.1,A++B⟩⟩,?_,rfl,f,g⟩;unfold Li;have:=F.2;rw[h,Ad,hm,Agd _ _ ζ b,List.append_nil];rfl
abbrev Dp:=List Be×Nat
inductive G3 (F:FS) (c:Rat) (K:Nat):List Ai->List Dp->Prop
 | nil:G3 F c K [] []
 | cons {t:Ai} {b:Dp} {ts:List Ai} {bs:List Dp}:t.M=⟨F.1,b.1⟩->rq t.C=c*(b.2:Rat)->RB K t.C->G3 F c K ts bs->G3 F c K (t::ts) (b::bs)
theorem G3.len {F:FS} {c:Rat} {K:Nat} {ts:List Ai} {bs:List Dp} (h:G3 F c K ts bs):ts.length=bs.length:=by induction h with| nil=>rfl| cons _ _ _ _ ih=>simp[ih]
theorem G3.app {F:FS} {c:Rat} {K:Nat} {ts f:List Ai} {bs cs:List Dp} (h:G3 F c K ts bs) (h':G3 F c K f cs):G3 F c K (ts++f) (bs++cs):=by induction h with| nil=>exact h'| cons a b d _ ih=>exact .cons a b d ih
theorem G3.mono {F:FS} {c:Rat} {K f:Nat} {ts:List Ai} {bs:List Dp} (h:G3 F c K ts bs) (hk:K<=f):G3 F c f ts bs:=by induction h with| nil=>exact .nil| cons a b d _ ih=>exact .cons a b (d.mono hk) ih
theorem G3.get {F:FS} {c:Rat} {K:Nat} {ts:List Ai} {bs:List Dp} (h:G3 F c K ts bs):∀{j:Nat} {t:Ai},ts[j]? = some t->∃b,bs[j]? = some b/\t.M=⟨F.1,b.1⟩/\rq t.C=c*(b.2:Rat)/\RB K t.C:=by
 induction h with
 | nil=>intro j t h;simp at h
 | @cons t b ts bs a1 a2 a3 _ ih=>intro j u hj;cases j with| zero=>simp only[List.getElem?_cons_zero,Option.some.injEq]at hj;subst hj;exact⟨b,rfl,a1,a2,a3⟩| succ j=>simp only[List.getElem?_cons_succ]at hj;simpa using ih hj
def fs0:FS:=⟨[],δ⟩
abbrev Rep (c:Rat) (K:Nat):List Ai->List Dp->Prop:=G3 fs0 c K
def Fp (B:List Dp) (l:As) (f:Nat->Nat) (n:Nat):List Dp:=(List.range n).flatMap λk=>if f k=0 then [] else B.map λb=>(b.1++atO l k,b.2*f k)
theorem Sj (B:List Dp) (l:As) (f:Nat->Nat) (n:Nat):Fp B l f (n+1)=Fp B l f n++(if f n=0 then [] else B.map λb=>(b.1++atO l n,b.2*f n)):=by unfold Fp;rw[List.range_succ,List.flatMap_append];simp
theorem Age (B:List Dp) (l:As) (f:Nat->Nat) (n:Nat):(Fp B l f n).length<=n*B.length:=by induction n with| zero=>simp[Fp]| succ n ih=>rw[Sj,Fb,Nat.add_mul,Nat.one_mul];have:(if f n=0 then ([]:List Dp) else B.map λb=>(b.1++atO l n,b.2*f n)).length<=B.length:=(by split <;> simp);omega
noncomputable def Abo (h:List Ai) (l:As) (k:Int) (x:Aj):Int×List Ai->Option ((Int×List Ai)⊕(Int×List Ai)):=λ(b,c)=> bif b<(h.length:Int) then ((Af h b).bind λg=> (Tx l k).bind λv194=> (Li g x (A7.mk [] v194)).bind λf=> (Cj 104 c [f]).bind λi=> some (.inl ((Ac (b+1)),i))) else (some (.inr (b,c)))
theorem A9g {F:FS} {c:Rat} {K M:Nat} {g o:List Ai} {B:List Dp} {l:As} {k f:Nat} {x:Aj} (z:G3 F c K g B) (hx:rq x=(f:Rat)) (q:RB 200 x) (S:K<30000000000) (R:∀b∈B,b.1.length<=M) (N:M<=1000) (hl:o.length+g.length<=1000000000) :
  ∃T,An (Abo g l (k:Int) x) (0,o)=some ((g.length:Int),o++T)/\G3 F c (K+202) T (B.map λb=>(b.1++atO l k,b.2*f)):=by
 obtain⟨e,X,T,V,U⟩:=Lb (step:=Abo g l (k:Int) x) (λs=>∃(j:Nat) (T:List Ai),s=((j:Int),o++T)/\j<=g.length/\T.length=j/\G3 F c (K+202) T ((B.take j).map λb=>(b.1++atO l k,b.2*f))) (λs=>g.length-s.1.toNat)
  (λe=>∃T,e=((g.length:Int),o++T)/\G3 F c (K+202) T (B.map λb=>(b.1++atO l k,b.2*f))) (by
  rintro _ ⟨j,T,rfl,hj,L,y⟩
  rcases Cg j g.length with h|h
  .left
   have i:g[j]? = some g[j]:=Bx h
   generalize g[j]=t at i
   obtain⟨b,b1,b2,Z,Y⟩:=z.get i
   have J:=R b (Cf b1)
   have:=Avb l k
   obtain⟨u,I,G,E,D⟩:=A9f (A:=b.1) (B:=atO l k) b2 ω S Y q
   refine⟨_,?_,⟨j+1,T++[u],rfl,ω,by simp[L],?_⟩,ζ⟩
   .unfold Abo
    simp only[Ap (ω:(j:Int)<(g.length:Int)),Ak,Bv rfl i,Ad,A9e,I,C9 h ω]
    rw[Dm ζ,Ad,List.append_assoc]
   .rw[Dc b1,List.map_append]
    refine y.app (.cons G ?_ D .nil)
    rw[E,Z,hx]
    show _=c*((b.2*f:Nat):Rat)
    rw[Rat.natCast_mul];grind
  .have:j=g.length:=ω
   subst this
   right
   refine⟨_,by unfold Abo;simp only[Ax (ω:¬(g.length:Int)<(g.length:Int)),Am],T,rfl,?_⟩
   rw[Iw (by rw[z.len];exact Nat.le_refl _)]at y
   exact y) (0,o) ⟨0,[],ψ,ω,rfl,.nil⟩
 exact⟨T,by rw[<-V];exact X,U⟩
noncomputable def Agf (g:List Ai) (l:As) (p:List Aj):Int×List Ai->Option ((Int×List Ai)⊕(Int×List Ai)):=λ(v173,b)=> bif v173<(p.length:Int) then ((Af p v173).bind λv175=> (G5 v175).bind λc=> bif (c==(0:Int)) then (some (.inl ((Ac (v173+1)),b))) else ((An (Abo g l v173 v175) (0,b)).bind λ(h,f)=> some (.inl ((Ac (v173+1)),f)))) else (some (.inr (v173,b)))
theorem A9h {F:FS} {c:Rat} {K M n:Nat} {g:List Ai} {B:List Dp} {l:As} {f:Nat->Nat} (z:G3 F c K g B) (I:∀k,k<n->f k<Big) (N:K<30000000000) (L:∀b∈B,b.1.length<=M) (y:M<=1000) (Y:n<=1000) (Z:g.length<=1000000) :
  ∃T,An (Agf g l (Ls n f)) (0,[])=some ((n:Int),T)/\G3 F c (K+202) T (Fp B l f n):=by
 obtain⟨e,X,T,V,S⟩:=Lb (step:=Agf g l (Ls n f)) (λs=>∃(j:Nat) (T:List Ai),s=((j:Int),T)/\j<=n/\G3 F c (K+202) T (Fp B l f j)) (λs=>n-s.1.toNat)
  (λe=>∃T,e=((n:Int),T)/\G3 F c (K+202) T (Fp B l f n)) (by
  rintro _ ⟨j,T,rfl,hj,q⟩
  unfold Agf
  rw[O8]
  rcases Cg j n with h|h
  .left
   have D:=Age B l f j
   have J:=q.len
   have R:=z.len
   have A:j*B.length<=1000*1000000:=Nat.mul_le_mul ω ω
   have x:j*B.length+B.length<=1000*B.length:=by
    have:(j+1)*B.length<=1000*B.length:=Nat.mul_le_mul_right _ ω
    rw[Nat.add_mul]at this;omega
   have i:=I j h
   simp only[Ap (ω:(j:Int)<(n:Int)),Ak,Bv rfl (Nc f h),Ad,(Np.c i).sign,C9 h ω]
   by_cases h0:f j=0
   .refine⟨_,by rw[Ay h0];rfl,⟨j+1,T,rfl,ω,?_⟩,ζ⟩
    rw[Sj,Ay h0,List.append_nil];exact q
   .have u:RB 200 (cR (f j)):=(Np.c i).rb
    obtain⟨U,G,E⟩:=A9g (o:=T) (l:=l) (k:=j) (f:=f j) z (Qb (f j)) u N L y ω
    refine⟨_,by rw[Av h0,G];rfl,⟨j+1,T++U,rfl,ω,?_⟩,ζ⟩
    rw[Sj,Av h0]
    exact q.app E
  .have:j=n:=ω
   subst this
   right
   exact⟨_,by simp only[Ax (ω:¬(j:Int)<(j:Int)),Am],T,rfl,q⟩) (0,[]) ⟨0,[],rfl,ω,.nil⟩
 exact⟨T,by rw[<-V];exact X,S⟩
def Pw (l:As) (N:Nat) (f:Nat->Nat) (g:List Be):Prop:=(l.T.length≠0/\PwN g N f)\/(l.T.length=0/\N=0/\f 0=prb l.Q.toNat g)
abbrev Grp:=As×Nat×(Nat->Nat)
inductive Gs:List Grp->List Be->Prop
 | nil:Gs [] []
 | cons {l:As} {N:Nat} {f:Nat->Nat} {g rest:List Be} {gs:List Grp}:g≠[]->(∀a∈g,a.L=l)->(∀a∈rest,F0 l a.L<0)->Pw l N f g->Gs gs rest->Gs ((l,N,f)::gs) (g++rest)
def I8 (B:List Dp):List Grp->List Dp
 | []=>B
 | q::gs=>I8 (Fp B q.1 q.2.2 (q.2.1+1)) gs
structure Atk (A:List Be):Prop where
 deg:∀a∈A,0<=a.P
 lin:∀a∈A,Cd a.L=true
 sum:Cr A<=12
 len:A.length<=12
theorem Lr {a:As} (h:Cd a=true):a.T.length<=16/\-1048576<=a.Q/\a.Q<=1048576:=by unfold Cd at h;simp only[Ck,C8]at h;exact⟨h.1.2.2,h.1.1,h.1.2.1⟩
theorem Atk.sub {A B:List Be} (h:Atk (A++B)):Atk A/\Atk B:=by have h1:=h.sum;have h2:=h.len;rw[Nd]at h1;rw[Fb]at h2;exact⟨⟨λa ha=>h.deg a (by simp[ha]),λa ha=>h.lin a (by simp[ha]),ω,ω⟩,⟨λa ha=>h.deg a (by simp[ha]),λa ha=>h.lin a (by simp[ha]),ω,ω⟩⟩
theorem A9i {l:As} {g:List Be} (hk:Atk g) (b:g≠[]) (hg:∀a∈g,a.L=l):∃N f,Nw g=some (Ls (N+1) f)/\Pw l N f g/\N<=Cr g/\∀k,k<N+1->f k<Big:=by
 have q:=hk.len;have j:=hk.sum;obtain⟨a,ha⟩:∃a,a∈g:=by cases g with| nil=>exact (b rfl).elim| cons a _=>exact⟨a,ψ⟩
 have c:=hk.lin a ha;rw[hg a ha]at c;have hc:=(Lr c).2.2;by_cases h:l.T.length=0
 .have h1:=A89 g hc (λa ha=>by rw[hg a ha];exact⟨h,rfl⟩) hk.deg hk.sum ω;exact⟨0,λ_=>prb l.Q.toNat g,h1,.inr ⟨h,rfl,rfl⟩,ω,λk _=>Xt ω j⟩
 .obtain⟨N,f,h1,h2⟩:=A87 g b (λa ha=>by rw[hg a ha];exact h) hk.deg hk.sum ω;refine⟨N,f,h1,.inl ⟨h,h2⟩,by rw[h2.1];exact Nat.le_refl _,λk i=>Nat.lt_of_le_of_lt (h2.le i) (Xt ?_ j)⟩;have:=h2.1;omega
noncomputable def Agg (r:List Be) (l:As):Int->Option (Int⊕Int):=λb=> bif b<(r.length:Int) then ((Af r b).bind λv117=> (M0 v117.L l).bind λc=> bif (c==(0:Int)) then (some (.inl (Ac (b+1)))) else (some (.inr b))) else (some (.inr b))
theorem A9j {r:List Be} {a:Be} (h0:r[0]? = some a) (ht:∀b∈r,b.L.T.length<1099511627776) (q:r.length<=1000) :
  ∃n:Nat,An (Agg r a.L) 1=some (n:Int)/\1<=n/\n<=r.length/\(∀b∈r.take n,b.L=a.L)/\∀b,r[n]? = some b->b.L≠a.L:=by
 have hpos:=E4 h0
 obtain⟨e,l,n,k,i⟩:=Lb (step:=Agg r a.L) (λs=>∃n:Nat,s=(n:Int)/\1<=n/\n<=r.length/\∀b∈r.take n,b.L=a.L) (λs=>r.length-s.toNat)
  (λe=>∃n:Nat,e=(n:Int)/\1<=n/\n<=r.length/\(∀b∈r.take n,b.L=a.L)/\∀b,r[n]? = some b->b.L≠a.L) (by
  rintro _ ⟨j,rfl,g,f,c⟩
  unfold Agg
  rcases Cg j r.length with h|h
  .have hx:r[j]? = some r[j]:=Bx h
   have hm:=List.getElem_mem h
   generalize r[j]=b at hx hm
   simp only[Ap (ω:(j:Int)<(r.length:Int)),Ak,Bv rfl hx,Ad,Afl _ _ (ht b hm),C9 h ω]
   by_cases hc:b.L=a.L
   .left
    rw[Dk ((I7.zero _ _ trivial trivial).2 hc)]
    refine⟨_,rfl,⟨j+1,rfl,ω,ω,λd hd=>?_⟩,ω⟩
    rw[Dc hx]at hd
    rcases D7.1 hd with hd|hd
    .exact c d hd
    .simp only[Dw]at hd
     rw[hd];exact hc
   .right
    rw[Cn (λh=>hc ((I7.zero _ _ trivial trivial).1 h))]
    exact⟨_,rfl,j,rfl,g,f,c,λd hd=>by rw[hx]at hd;cases hd;exact hc⟩
  .right
   refine⟨_,by simp only[Ax (ω:¬(j:Int)<(r.length:Int)),Am],j,rfl,g,f,c,λd hd=>?_⟩
   have:=E4 hd
   omega) 1 ⟨1,rfl,ω,ω,λb hb=>by
    cases r with
    | nil=>simp at hpos
    | cons x r=>simp at hb h0;rw[hb,h0]⟩
 exact⟨n,by rw[<-k];exact l,i⟩
noncomputable def Abp:(List Ai×List Be)->Option ((List Ai×List Be)⊕List Ai):=λ(g,b)=> bif (b.length:Int)>(0:Int) then ((Af b 0).bind λf=> (An (Agg b f.L) 1).bind λc=> (F7 b 0 c).bind λi=> (Nw i).bind λh=> (An (Agf g f.L h) (0,[])).bind λ(k,j)=> (F7 b c b.length).bind λv201=> some (.inl (j,v201))) else (some (.inr g))
theorem A9k (n:Nat):n+1<=2 ^ n:=by induction n with| zero=>decide| succ n ih=>rw[Nat.pow_succ];omega
theorem Avc {B:List Dp} {l:As} {f:Nat->Nat} {n M:Nat} (c:∀b∈B,b.1.length<=M):∀b∈Fp B l f n,b.1.length<=M+1:=by
 intro b hb;unfold Fp at hb;rw[List.mem_flatMap]at hb;obtain⟨k,_,hk⟩:=hb;split at hk
 .cases hk
 .rw[List.mem_map]at hk;obtain⟨d,hd,rfl⟩:=hk;have:=c d hd;have:=Avb l k;simp only[Fb];omega
theorem Avd {F:FS} {c:Rat}:∀(n:Nat) (rest:List Be) (j:List Ai) (B:List Dp) (K M:Nat),rest.length<=n->Agc rest->Atk rest->G3 F c K j B->(∀b∈B,b.1.length<=M)->M+rest.length<=1000->K+202*rest.length<30000000000->B.length*2 ^ Cr rest<=1000000 -> ∃gs i,An Abp (j,rest)=some i/\Gs gs rest/\G3 F c (K+202*rest.length) i (I8 B gs)/\i.length<=B.length*2 ^ Cr rest:=by
 intro n;induction n with
 | zero=>intro rest j B K M hn _ _ A _ _ _ _;have:rest = []:=Fa.1 ω;subst this;exact⟨[],j,D5 (by unfold Abp;simp),.nil,by simpa[I8] using A,by rw[A.len];simp[Cr]⟩
 | succ n ih=>
  intro rest j B K M hn hS R A hM ae hK E;cases g:rest with
  | nil=>exact⟨[],j,D5 (by unfold Abp;simp),.nil,by simpa[I8] using A.mono ω,by rw[A.len];simp[Cr]⟩
  | cons a r'=>
   rw[<-g];have h0:rest[0]? = some a:=(by rw[g];rfl);have ab:0<rest.length:=E4 h0;have hT:∀b∈rest,b.L.T.length<1099511627776:=λb hb=>by have:=(Lr (R.lin b hb)).1;omega
   have af:=R.len;obtain⟨m,m1,m2,m3,m4,m5⟩:=A9j h0 hT ω;have u:rest=rest.take m++rest.drop m:=(List.take_append_drop m rest).symm;have L:=(u ▸ R:Atk (rest.take m++rest.drop m)).sub;have y:rest.take m≠[]:=(by intro h;have:=congrArg List.length h;rw[List.length_take]at this;simp only[List.length_nil]at this;omega);obtain⟨N,f,p1,p2,p3,p4⟩:=A9i L.1 y m4;have Z:Cr rest=Cr (rest.take m)+Cr (rest.drop m):=(by rw[<-Nd,List.take_append_drop]);have ac:=R.sum;have U:2 ^ Cr rest=2 ^ Cr (rest.take m)*2 ^ Cr (rest.drop m):=(by rw[Z,Nat.pow_add]);have aa:B.length<=1000000:=Nat.le_trans (Nat.le_mul_of_pos_right _ (Nat.pow_pos δ)) E;obtain⟨T,t1,t2⟩:=A9h (l:=a.L) (n:=N+1) A p4 ω hM ω ω (by rw[A.len];exact aa);have z:Abp (j,rest)=some (.inl (T,rest.drop m)):=(by have Y:Af rest 0=some a:=Bv (n:=0) rfl h0;have S:F7 rest (m:Int) (rest.length:Int)=some (rest.drop m):=(by unfold F7;simp[List.drop_take];omega);unfold Abp;simp only[Ap (ω:(rest.length:Int)>0),Ak,Y,Ad,m1,Ael rfl m3,p1,t1,S]);have ad:(rest.drop m).length+m=rest.length:=(by rw[List.length_drop];omega);have a8:=Age B a.L f (N+1);have J:(N+1)*B.length<=B.length*2 ^ Cr (rest.take m):=(by rw[Nat.mul_comm];refine Nat.mul_le_mul_left _ (Nat.le_trans (A9k N) (Nat.pow_le_pow_right δ p3)));have x:(Fp B a.L f (N+1)).length*2 ^ Cr (rest.drop m)<=B.length*2 ^ Cr rest:=(by rw[U,<-Nat.mul_assoc];exact Nat.mul_le_mul_right _ (Nat.le_trans a8 J));obtain⟨gs,i,g1,g2,g3,g4⟩:=ih (rest.drop m) T (Fp B a.L f (N+1)) (K+202) (M+1) ω (List.Pairwise.sublist (List.drop_sublist m rest) hS) L.2 t2 (Avc hM) ω ω (Nat.le_trans x E);refine⟨(a.L,N,f)::gs,i,by rw[Ir z,g1],?_,g3.mono ω,Nat.le_trans g4 x⟩;have X:∀b∈rest.drop m,F0 a.L b.L<0:=by
    intro b hb;cases hd:rest.drop m with
    | nil=>rw[hd]at hb;cases hb
    | cons d D=>
     have q:rest[m]? = some d:=(by have:=congrArg (λl=>l[0]?) hd;simpa using this);have a6:=m5 d q;have a7:¬F0 d.L a.L<0:=(by have I:=hS;rw[g]at I;have a1:d∈r':=(by have:=Cf q;have V:m=(m-1)+1:=ω;rw[g,V,List.getElem?_cons_succ]at q;exact Cf q);exact (List.pairwise_cons.1 I).1 d a1);have s:F0 a.L d.L<0:=by
      rcases Int.lt_trichotomy (F0 d.L a.L) 0 with k|k|k
      .exact (a7 k).elim
      .exact (a6 ((I7.zero _ _ trivial trivial).1 k)).elim
      .rw[I7.anti d.L a.L trivial trivial];omega
     rw[hd]at hb;rcases Fx.1 hb with rfl|hb
     .exact s
     .have G:Agc (rest.drop m):=List.Pairwise.sublist (List.drop_sublist m rest) hS;rw[hd]at G;have h3:=(List.pairwise_cons.1 G).1 b hb;rcases Int.lt_trichotomy (F0 b.L d.L) 0 with k|k|k
      .exact (h3 k).elim
      .rw[(I7.zero _ _ trivial trivial).1 k];exact s
      .exact I7.trans a.L d.L b.L trivial trivial trivial s (by rw[I7.anti b.L d.L trivial trivial];omega)
   have:=Gs.cons y m4 X p2 g2;rwa [List.take_append_drop]at this
theorem Ave {B:List Dp} {l:As} {f g:Nat->Nat}:∀{n:Nat},(∀k,k<n->f k=g k)->Fp B l f n=Fp B l g n
 | 0,_=>rfl
 | n+1,h=>by rw[Sj,Sj,Ave λk hk=>h k ω,h n ω]
theorem Pw.uniq {l:As} {N M:Nat} {f g:Nat->Nat} {A b:List Be} (h:Pw l N f A) (h':Pw l M g b) (hp:A.Perm b):N=M/\∀k,k<N+1->f k=g k:=by
 rcases h with⟨a1,a2⟩|⟨a1,a2,a3⟩
 .rcases h' with⟨_,b2⟩|⟨b1,_,_⟩
  .exact a2.uniq b2 hp
  .exact (a1 b1).elim
 .rcases h' with⟨b1,_⟩|⟨_,b2,c⟩
  .exact (b1 a1).elim
  .refine⟨ω,λk hk=>?_⟩;have:k=0:=ω;subst this;rw[a3,c,Au8 _ hp]
theorem Alm (l:As):¬F0 l l<0:=Uz.irr l
theorem A9l {α:Type} {p:α->Bool} {g r c b:List α} (h:(g++r).Perm (c++b)) (h1:∀a∈g,p a=true) (h2:∀a∈r,p a=false) (h3:∀a∈c,p a=true) (j:∀a∈b,p a=false):g.Perm c/\r.Perm b:=by
 have q:(g++r).filter p=g:=by rw[List.filter_append,List.filter_eq_self.2 h1,List.filter_eq_nil_iff.2 (λa ha=>by rw[h2 a ha];decide),List.append_nil]
 have l:(c++b).filter p=c:=by rw[List.filter_append,List.filter_eq_self.2 h3,List.filter_eq_nil_iff.2 (λa ha=>by rw[j a ha];decide),List.append_nil]
 have k:(g++r).filter (λa=>!p a)=r:=by have i:g.filter (λa=>!p a) = []:=List.filter_eq_nil_iff.2 (λa ha=>by rw[h1 a ha];decide);have f:r.filter (λa=>!p a)=r:=List.filter_eq_self.2 (λa ha=>by rw[h2 a ha];rfl);rw[List.filter_append,i,f,List.nil_append]
 have e4:(c++b).filter (λa=>!p a)=b:=by have i:c.filter (λa=>!p a) = []:=List.filter_eq_nil_iff.2 (λa ha=>by rw[h3 a ha];decide);have f:b.filter (λa=>!p a)=b:=List.filter_eq_self.2 (λa ha=>by rw[j a ha];rfl);rw[List.filter_append,i,f,List.nil_append]
 refine⟨?_,?_⟩
 .rw[<-q,<-l];exact h.filter p
 .rw[<-k,<-e4];exact h.filter _
theorem Gs.det:∀{u:List Grp} {A:List Be},Gs u A->∀{c:List Grp} {x:List Be},Gs c x->A.Perm x->∀B,I8 B u=I8 B c:=by
 intro u A h;induction h with
 | nil=>intro c x h' hp B;cases h' with| nil=>rfl| cons i _ _ _ _=>exact (i (List.append_eq_nil_iff.1 hp.symm.eq_nil).1).elim
 | @cons l N f g rest u i hg G L U ih=>
  intro c x h' hp B;cases h' with
  | nil=>exact (i (List.append_eq_nil_iff.1 hp.eq_nil).1).elim
  | @cons I V M D k c s j q y z=>
   have J:l=I:=by
    obtain⟨a,ha⟩:∃a,a∈g:=(by cases g with| nil=>exact (i rfl).elim| cons a _=>exact⟨a,ψ⟩);obtain⟨b,hb⟩:∃b,b∈D:=(by cases D with| nil=>exact (s rfl).elim| cons a _=>exact⟨a,ψ⟩);have ha':a∈D++k:=hp.mem_iff.1 (by simp[ha]);have hb':b∈g++rest:=hp.mem_iff.2 (by simp[hb]);rcases D7.1 ha' with ha'|ha'
    .rw[<-hg a ha,j a ha']
    .rcases D7.1 hb' with hb'|hb'
     .rw[<-hg b hb',j b hb]
     .have h1:=q a ha';have h2:=G b hb';rw[hg a ha]at h1;rw[j b hb]at h2;exact (Alm l (Uz.trs _ _ _ h2 h1)).elim
   subst J;have E:=A9l (p:=λa:Be=>decide (F0 a.L l=0)) hp (λa ha=>by rw[hg a ha];exact decide_eq_true ((I7.zero l l trivial trivial).2 rfl))
    (λa ha=>decide_eq_false λh=>by have h1:=G a ha;rw[(I7.zero _ _ trivial trivial).1 h]at h1;exact Alm l h1)
    (λa ha=>by rw[j a ha];exact decide_eq_true ((I7.zero l l trivial trivial).2 rfl)) (λa ha=>decide_eq_false λh=>by have h1:=q a ha;rw[(I7.zero _ _ trivial trivial).1 h]at h1;exact Alm l h1);obtain⟨S,R⟩:=L.uniq y E.1;subst S;show I8 (Fp B l f (N+1)) u=I8 (Fp B l M (N+1)) c;rw[Ave R];exact ih z E.2 _
def IsE (A:List Be) (B:List Dp):Prop:=∃gs b,b.Perm A/\Agc b/\Gs gs b/\B=I8 [([],1)] gs
theorem IsE.det {A c:List Be} {B b:List Dp} (h:IsE A B) (h':IsE c b) (hp:A.Perm c):B=b:=by obtain⟨gs,C,j,_,i,rfl⟩:=h;obtain⟨k,l,g,_,f,rfl⟩:=h';exact i.det f (j.trans (hp.trans g.symm)) _
theorem A9m {α:Type} (k:α->Int):∀{F R:List α},R.Perm F->R.Pairwise (λa b=>k a<=k b)->F.Pairwise (λa b=>k a<k b)->R=F:=by
 intro F;induction F with
 | nil=>intro R h _ _;exact h.eq_nil
 | cons f F ih=>
  intro R h c g;cases R with
  | nil=>exact (List.cons_ne_nil _ _ h.symm.eq_nil).elim
  | cons r R=>
   have e:r=f:=by
    rcases Fx.1 (h.mem_iff.1 (by simp:r∈r::R)) with h1|h1
    .exact h1
    .have h2:=(List.pairwise_cons.1 g).1 r h1;rcases Fx.1 (h.mem_iff.2 (by simp:f∈f::F)) with h3|h3
     .exact h3.symm
     .have:=(List.pairwise_cons.1 c).1 f h3;omega
   subst e;rw[ih h.cons_inv (List.pairwise_cons.1 c).2 (List.pairwise_cons.1 g).2]
structure FOk (data:List Aw) (vars:List Ah) (res:Ah) (F:List Ca):Prop where
 asc:F.Pairwise λa b=>a.v<b.v
 one:∀f∈F,(I64 f.v/\iR f.I/\Dl f.I<=1048576)/\(Ec vars res f.v).isSome=true/\1<=F5 data vars res f
 len:F.length<=6
 vr:∀f∈F,-1<=f.v/\f.v<=1000000000
theorem A9n:Pd (λa b:Ca=>a.v-b.v):=⟨λ_ h=>ω,λ_ _ _ h1 h2=>ω,λ_ _ _ h1 h2 h3=>ω⟩
theorem A9o {data:List Aw} {vars:List Ah} {res:Ah} {F:List Ca} (h:FOk data vars res F):Rm F=some F:=by have f:=h.len;obtain⟨R,h1,h2,h3⟩:=Alk (cmp:=Rn) A9n F (λx hx y hy=>by have:=h.vr x hx;have:=h.vr y hy;unfold Rn;have w:Ac (x.v-y.v)=x.v-y.v:=ξ;rw[w]) ω;have c:R=F:=A9m (·.v) h2 (h3.imp λ{a b} h=>ω) h.asc;subst c;unfold Rm;have e:Zz (R.length:Int) R=Abn Rn (R.length:Int) R:=rfl;rw[e,h1,Ad,Na rfl];rfl
def Sk (b:List (ByteArray×List Ch)):Prop:=∀p∈b,∃f:Ca,p.1=I1 f.v f.I/\p.2 = [⟨f.I,cR 1⟩]
theorem A9p {data:List Aw} {vars:List Ah} {res:Ah} {f:Ca} (h1:I64 f.v/\iR f.I/\Dl f.I<=1048576) (h2:(Ec vars res f.v).isSome=true) {b1:List (ByteArray×Int)} {b2:List (ByteArray×List Ch)} (hm:Sk b2) : ∃q,Wd [f] b1 b2 data vars res.G res.U res.R=some ([⟨f.I,cR 1⟩],0,q)/\Sk q:=by
 obtain⟨t,ht⟩:=Option.isSome_iff_exists.1 h2;have u:=Af0 h1.2.2 ⟨h1.2.1,h1.1⟩;have i0:Af [f] 0=some f:=rfl;have j:Jm (I1 f.v f.I) []=some (((Gd f).length:Int),Gd f):=by have:=Ut (b:=[]) (By.fac f) ζ;rw[List.nil_append]at this;exact this
 have s:Ac (0+1)=1:=by rw[Ac,B3] <;> omega
 have l:Nat.beq (I1 f.v f.I).size 0=false:=by rw[A6m,Aa9];rfl
 have c:F7 [f] 1 ([f].length:Int)=some []:=rfl;have h:Sk (Gc b2 (I1 f.v f.I) [⟨f.I,cR 1⟩]):=λp hp=>by
  rcases Aj9 _ _ _ p hp with hp|rfl
  .exact hm p hp
  .exact⟨f,rfl,rfl⟩
 have k:Lf f.v b1 b2 data vars res.G res.U res.R=some t:=Afm b1 b2 data vars res ht;unfold Wd;rw[show decide ((0:Int)<([f].length:Int))=true from rfl,Ak,i0,Ad,Aj8 _ _ h1.1 h1.2.1 h1.2.2,Ad,j,Ad,s];cases hh:Fs b2 (I1 f.v f.I) with
 | true=>have hg:Is b2 (I1 f.v f.I) [] = [⟨f.I,cR 1⟩]:=(by unfold Is;unfold Fs at hh;cases i:b2.find? λp=>I1 f.v f.I==p.1 with| none=>rw[List.find?_eq_none]at i;obtain⟨p,hp,e⟩:=List.any_eq_true.1 hh;exact (i p hp e).elim| some p=>obtain⟨g,g1,g2⟩:=hm p (List.mem_of_find?_eq_some i);have e:=List.find?_some i;have e:I1 f.v f.I=p.1:=(R8 _ _).1 e;rw[g1]at e;obtain⟨_,x⟩:=Ar8 e;show p.2=_;rw[g2,x]);refine⟨b2,?_,hm⟩;refine bnd (a:=Gd f) (D5 rfl) ?_;rw[Se (By.fac f),Ad];have hb:bs (Gd f)=I1 f.v f.I:=rfl;rw[hb,hh,Ak,hg];rfl
 | false=>refine⟨_,?_,h⟩;refine bnd (a:=Gd f) (D5 rfl) ?_;rw[Se (By.fac f),Ad];have hb:bs (Gd f)=I1 f.v f.I:=rfl;rw[hb,hh,Am,Ad];dsimp only;rw[Am,Ad,k,Ad,Ad,P9,Ad,c,Ad];refine bnd (a:=()) (D5 rfl) ?_;unfold Ai0;rw[l,Am,Ad]
theorem A9q {t:Ai} {P:List Ca} {f:Ca} {K:Nat} (hm:t.M=⟨P,[]⟩) (j:P.length<=1000) (l:K<30000000000) (h1:RB K t.C) : ∃u,Li t (cR 1) ⟨[f],[]⟩=some u/\u.M=⟨P++[f],[]⟩/\rq u.C=rq t.C/\RB (K+5) u.C:=by
 obtain⟨c,i,h,_,g⟩:=M8 (b:=cR 1) (k:=3) h1 ((Lq (k:=1) (by rw[K0];decide) δ).mono δ) ω δ;refine⟨⟨c,⟨P++[f],[]⟩⟩,?_,rfl,?_,h⟩
 .unfold Li;rw[i,Ad,hm,Agd _ _ ζ ψ];rfl
 .rw[g,Qb,show ((1:Nat):Rat)=1 from rfl];grind
noncomputable def Aln (data:List Aw) (vars:List Ah) (N M:Int) (L:List Ah):(List Ai×List Ca×List (ByteArray×Int)×List (ByteArray×List Ch))->Option ((List Ai×List Ca×List (ByteArray×Int)×List (ByteArray×List Ch))⊕((List Ai×Int×List (ByteArray×Int)×List (ByteArray×List Ch))⊕(List Ai×List (ByteArray×Int)×List (ByteArray×List Ch)))):=λ(v105,c,i,x)=> bif (c.length:Int)>(0:Int) then ((Af c 0).bind λv109=> (An (S:=Int) (E:=Int) (λf=> bif f<(c.length:Int) then ((Af c f).bind λA=> bif (A.v==v109.v) then (some (.inl (Ac (f+1)))) else (some (.inr f))) else (some (.inr f))) 1).bind λk=> (F7 c 0 k).bind λz=> (Wd z i x data vars N M L).bind λb=> bif (b.2.1 != (0:Int)) then (some (.inr (.inl ([],b.2.1,i,b.2.2)))) else ((An (S:=(Int×(List (ByteArray×Int))×(List Ai))) (E:=(Int×(List (ByteArray×Int))×(List Ai))) (λ(h,u,s)=> bif h<(v105.length:Int) then ((Af v105 h).bind λv175=> (An (S:=(Int×(List (ByteArray×Int))×(List Ai))) (E:=(Int×(List (ByteArray×Int))×(List Ai))) (λ(g,q,l)=> bif g<(b.1.length:Int) then ((Af b.1 g).bind λv193=> (Ro v109.v v193.I q b.2.2 data vars N M L).bind λj=> (Li v175 v193.C (A7.mk j.1 [])).bind λv196=> (Cj 104 l [v196]).bind λJ=> some (.inl ((Ac (g+1)),j.2,J))) else (some (.inr (g,q,l)))) (0,u,s)).bind λ(v198,I,G)=> some (.inl ((Ac (h+1)),I,G))) else (some (.inr (h,u,s)))) (0,i,[])).bind λ(v201,D,B)=> (F7 c k c.length).bind λy=> some (.inl (B,y,D,b.2.2)))) else (some (.inr (.inr (v105,i,x))))
theorem A9r {c:Aj} {K:Nat} {data:List Aw} {vars:List Ah} {res:Ah} {F:List Ca} {A:List Be} (hx:O3 data vars res) (hc:RB K c) (hK:K<20000000000) (h0:rq c≠0) (hF:FOk data vars res F) (hA:Atk A) {b1:List (ByteArray×Int)} {b2:List (ByteArray×List Ch)} (m1:Ef data vars res b1) (m2:Sk b2) : ∃out B q k,Pt c ⟨F,A⟩ b1 b2 data vars res.G res.U res.R=some (out,0,q,k)/\IsE A B/\G3 ⟨F,by have:=hF.len;omega⟩ (rq c) (K+2454) out B/\out.length<=2 ^ Cr A/\Ef data vars res q/\Sk k/\(F = []->q=b1/\k=b2):=by
 have ao:=hF.len;have hT:∀b∈A,b.L.T.length<1099511627776:=λb hb=>by have:=(Lr (hA.lin b hb)).1;omega
 have aj:=hA.len;have ai:=hA.sum;obtain⟨S,s1,U,s3⟩:=Ava A hT ω;have J:Atk S:=⟨λa ha=>hA.deg a (U.mem_iff.1 ha),λa ha=>hA.lin a (U.mem_iff.1 ha),by rw[Qf U];exact ai,by rw[U.length_eq];exact aj⟩;have hp:2 ^ Cr S<=4096:=Nat.le_trans (Nat.pow_le_pow_right δ J.sum) δ;have ad:G2 (rq c)≠0:=by
  unfold G2;split
  .decide
  .split
   .decide
   .rename_i h1 h2;exact (h0 (by grind)).elim
 have ah:Rp A=some ([],A):=by unfold Rp Ld;rw[Dm ζ];rfl
 have ab:Tw F=some ([],F):=by unfold Tw Ld;rw[Dm ζ];rfl
 unfold Pt;rw[(M9 hc ω).1,Ad,Cn ad,Am,ab,Ad];dsimp only;rw[A9o hF,Ad,Na rfl,Ad];obtain⟨e,e1,e2⟩:=Lb (step:=Aln data vars res.G res.U res.R) (λs=>∃(j:Nat) (t:Ai),j<=F.length/\s.1 = [t]/\s.2.1=F.drop j/\t.M=⟨F.take j,[]⟩/\rq t.C=rq c/\RB (K+5*j) t.C/\Ef data vars res s.2.2.1/\Sk s.2.2.2/\(F = []->s.2.2.1=b1/\s.2.2.2=b2)) (λs=>s.2.1.length) (λe=>∃t q k,e = .inr ([t],q,k)/\t.M=⟨F,[]⟩/\rq t.C=rq c/\RB (K+30) t.C/\Ef data vars res q/\Sk k/\(F = []->q=b1/\k=b2)) (by
    rintro⟨o,r,c1,c2⟩ ⟨j,t,hj,e1,e2,e3,e4,e5,e6,e7,e8⟩;dsimp only at e1 e2 e6 e7 e8 ⊢;subst e1 e2;rcases Cg j F.length with h|h
    .left;have V:F[j]? = some F[j]:=Bx h;have R:=List.getElem_mem h;generalize F[j]=f at V R;obtain⟨k1,k2,k3⟩:=hF.one f R;have hd:=Js V;have ag:(F.drop j).length=F.length-j:=List.length_drop;have i0:Af (F.drop j) 0=some f:=Bv (n:=0) rfl (by rw[hd];rfl);unfold Aln;dsimp only;rw[Ap ω,Ak,i0,Ad];have Y:An (S:=Int) (E:=Int) (λy=>
       bif y<((F.drop j).length:Int) then ((Af (F.drop j) y).bind λa1=> bif (a1.v==f.v) then (some (.inl (Ac (y+1)))) else (some (.inr y))) else (some (.inr y))) 1=some 1:=by
      refine D5 ?_;rcases Cg 1 (F.drop j).length with h'|h'
      .have ac:(F.drop j)[1]? = some ((F.drop j)[1]):=Bx h';have ak:f.v<((F.drop j)[1]).v:=(by have hp:=(List.pairwise_iff_getElem.1 (hF.asc.sublist (List.drop_sublist j F))) 0 1 ω h' δ;have e0:(F.drop j)[0]=f:=(by have:=Bx (l:=F.drop j) (i:=0) ω;rw[show (F.drop j)[0]? = some f by rw[hd];rfl]at this;exact (Fj this).symm);rw[e0]at hp;exact hp);have i1:Af (F.drop j) 1=some ((F.drop j)[1]):=Bv (n:=1) rfl ac;rw[Ap ω,Ak,i1,Ad,Cn ω,Am]
      .rw[Ax ω,Am]
     rw[Y,Ad];have a8:F7 (F.drop j) 0 1=some [f]:=(by rw[hd];unfold F7;rw[Ay (by simp only[Ei];omega)];rfl);have X:F7 (F.drop j) 1 ((F.drop j).length:Int)=some (F.drop (j+1)):=(by have e:F7 (F.drop j) 1 ((F.drop j).length:Int)=some ((F.drop j).drop 1):=(by generalize F.drop j=L at ag;unfold F7;rw[Ay ω];simp);rw[e,List.drop_drop]);obtain⟨b',p1,p2⟩:=A9p (b1:=c1) k1 k2 e7 (data:=data);obtain⟨u,u1,u2,u3,u4⟩:=A9q (f:=f) e3 (by rw[List.length_take];omega) ω e5;obtain⟨Z,q1,q2⟩:=Aa0 (b2:=b') hx e6 f k1.1 k1.2.1 k1.2.2 k2;have af:Ro f.v f.I c1 b' data vars res.G res.U res.R=some ([f],Z):=(by unfold Ro;rw[q1,Ad];dsimp only;rw[Cn ω,Am]);have w1:Ac (0+1)=1:=ξ;rw[a8,Ad,p1,Ad];dsimp only;rw[Fc rfl,Am];have ae:An (S:=(Int×(List (ByteArray×Int))×(List Ai))) (E:=(Int×(List (ByteArray×Int))×(List Ai))) (λ(g,D,z)=>
       bif g<(([⟨f.I,cR 1⟩]:List Ch).length:Int) then ((Af ([⟨f.I,cR 1⟩]:List Ch) g).bind λv193=> (Ro f.v v193.I D b' data vars res.G res.U res.R).bind λx=> (Li t v193.C (A7.mk x.1 [])).bind λv196=> (Cj 104 z [v196]).bind λI=> some (.inl ((Ac (g+1)),x.2,I))) else (some (.inr (g,D,z)))) (0,c1,[])=some (1,Z,[u]):=by refine (Ir (s':=(1,Z,[u])) ?_).trans (D5 rfl);dsimp only;rw[Ap ψ,Ak,show Af ([⟨f.I,cR 1⟩]:List Ch) 0=some ⟨f.I,cR 1⟩ from rfl,Ad];dsimp only;rw[af,Ad];dsimp only;rw[u1,Ad,Dm ψ,Ad,w1];rfl
     have aa:An (S:=(Int×(List (ByteArray×Int))×(List Ai))) (E:=(Int×(List (ByteArray×Int))×(List Ai))) (λ(G,N,M)=>
       bif G<([t].length:Int) then ((Af [t] G).bind λv175=> (An (S:=(Int×(List (ByteArray×Int))×(List Ai))) (E:=(Int×(List (ByteArray×Int))×(List Ai))) (λ(g,D,z)=> bif g<(([⟨f.I,cR 1⟩]:List Ch).length:Int) then ((Af ([⟨f.I,cR 1⟩]:List Ch) g).bind λv193=> (Ro f.v v193.I D b' data vars res.G res.U res.R).bind λx=> (Li v175 v193.C (A7.mk x.1 [])).bind λv196=> (Cj 104 z [v196]).bind λI=> some (.inl ((Ac (g+1)),x.2,I))) else (some (.inr (g,D,z)))) (0,N,M)).bind λ(v198,a7,a6)=> some (.inl ((Ac (G+1)),a7,a6))) else (some (.inr (G,N,M)))) (0,c1,[])=some (1,Z,[u]):=by refine (Ir (s':=(1,Z,[u])) ?_).trans (D5 rfl);dsimp only;rw[Ap ψ,Ak,show Af [t] 0=some t from rfl,Ad];exact bnd ae (by rw[w1])
     refine⟨([u],F.drop (j+1),Z,b'),bnd aa ?_,⟨j+1,u,ω,rfl,rfl,by rw[u2,Dc V],by rw[u3,e4],u4.mono ω,q2,p2,λe=>?_⟩,?_⟩
     .dsimp only;rw[X,Ad]
     .rw[e]at h;simp at h
     .dsimp only;rw[List.length_drop,List.length_drop];omega
    .right;have:j=F.length:=ω;subst this;unfold Aln;dsimp only;rw[List.drop_length,Ax ψ,Am];exact⟨_,rfl,t,c1,c2,rfl,by rw[e3,Dh],e4,e5.mono ω,e6,e7,e8⟩)
   ([⟨c,⟨[],[]⟩⟩],F,b1,b2) ⟨0,⟨c,⟨[],[]⟩⟩,ω,rfl,rfl,rfl,rfl,hc.mono ω,m1,m2,λ_=>⟨rfl,rfl⟩⟩;obtain⟨t,q,k,rfl,t1,t2,t3,t4,t5,t6⟩:=e2;obtain⟨gs,out,g1,g2,g3,g4⟩:=Avd (F:=⟨F,ω⟩) (c:=rq c) S.length S [t] [([],1)] (K+30) 0 (Nat.le_refl _) s3 J (.cons t1 (by rw[t2];simp) t3 .nil) (λb hb=>by simp only[Dw]at hb;subst hb;simp) (by have:=J.len;omega) (by have:=J.len;omega) (by simp only[List.length_singleton,Nat.one_mul];omega);have am:=J.len;refine⟨out,_,q,k,bnd e1 ?_,⟨gs,S,U,s3,g2,rfl⟩,g3.mono ω,by rw[<-Qf U];simpa using g4,t4,t5,t6⟩;dsimp only;rw[ah,Ad];dsimp only;rw[s1,Ad,Na U.length_eq.symm,Ad];exact bnd g1 rfl
theorem Alo {c:Aj} {K:Nat} {A:List Be} (hc:RB K c) (I:K<20000000000) (h0:rq c≠0) (i:Atk A) (b1:List (ByteArray×Int)) (b2:List (ByteArray×List Ch)) (data:List Aw) (vars:List Ah) (D z:Int) (y:List Ah) : ∃out B,Pt c ⟨[],A⟩ b1 b2 data vars D z y=some (out,0,b1,b2)/\IsE A B/\Rep (rq c) (K+2424) out B/\out.length<=2 ^ Cr A:=by
 have E:∀b∈A,b.L.T.length<1099511627776:=λb hb=>by have:=(Lr (i.lin b hb)).1;omega
 have s:=i.len;have q:=i.sum;obtain⟨S,x,g,u⟩:=Ava A E ω;have f:Atk S:=⟨λa ha=>i.deg a (g.mem_iff.1 ha),λa ha=>i.lin a (g.mem_iff.1 ha),by rw[Qf g];exact q,by rw[g.length_eq];exact s⟩;have hp:2 ^ Cr S<=4096:=Nat.le_trans (Nat.pow_le_pow_right δ f.sum) δ;obtain⟨gs,out,g1,g2,g3,g4⟩:=Avd (F:=fs0) (c:=rq c) S.length S [⟨c,⟨[],[]⟩⟩] [([],1)] K 0 (Nat.le_refl _) u f (.cons rfl ψ hc .nil) (λb hb=>by simp only[Dw]at hb;subst hb;simp) (by have:=f.len;omega) (by have:=f.len;omega) (by simp only[List.length_singleton,Nat.one_mul];omega);have G:=f.len;refine⟨out,_,?_,⟨gs,S,g,u,g2,rfl⟩,g3.mono ω,by rw[<-Qf g];simpa using g4⟩;unfold Pt;have j:G2 (rq c)≠0:=by
  unfold G2;split
  .decide
  .split
   .decide
   .rename_i h1 h2;exact (h0 (by grind)).elim
 rw[(M9 hc ω).1,Ad,Cn j,Am];have l:Rp A=some ([],A):=by unfold Rp Ld;rw[Dm ζ];rfl
 have h:Tw []=some ([],[]):=rfl;rw[h,Ad];dsimp only;rw[A9b,Ad];have k:Ge (α:=Ca) ([]:List Ca).length []=some ():=rfl;rw[k,Ad];refine bnd (a:=.inr ([⟨c,⟨[],[]⟩⟩],b1,b2)) (D5 ψ) ?_;dsimp only;rw[l,Ad];dsimp only;rw[x,Ad,Na g.length_eq.symm,Ad];exact bnd g1 rfl
def Abq (vars:List Ah) (res:Ah) (L:List Be):Prop:=L.Pairwise (λa b=>F0 a.L b.L<0)/\∀a∈L,1<=a.P/\Cd a.L=true/\a.L.T.length≠0/\D9 vars res a.L=true
theorem Agh (l m:List Be):Cv (l++m)=Cv l+Cv m:=by unfold Cv;simp[List.sum_append]
theorem Alp {vars:List Ah} {res:Ah}:∀{u:List Grp} {rest:List Be},Gs u rest->(∀a∈rest,Cd a.L=true/\D9 vars res a.L=true) -> ∀(B:List Dp) (S:Int),(∀b∈B,Abq vars res b.1/\Cv b.1<=S/\∀a∈b.1,∀r∈rest,F0 a.L r.L<0)->∀b∈I8 B u,Abq vars res b.1/\Cv b.1<=S+(Cr rest:Nat):=by
 intro u rest h;induction h with
 | nil=>intro _ B S z b hb;have:=z b hb;exact⟨this.1,by have:=this.2.1;omega⟩
 | @cons l N f g rest u x hg E I M ih=>
  intro A B S z;obtain⟨a0,j⟩:∃a,a∈g:=(by cases g with| nil=>exact (x rfl).elim| cons a _=>exact⟨a,ψ⟩);have s:=hg a0 j;have q:=A a0 (by simp[j]);rw[s]at q;have J:∀k,k<N+1->k≠0->l.T.length≠0/\k<=Cr g:=by
   intro k hk G;rcases I with⟨h1,h2⟩|⟨_,h2,_⟩
   .exact⟨h1,by rw[<-h2.1];omega⟩
   .omega
  intro b hb;have:=ih (λa ha=>A a (by simp[ha])) (Fp B l f (N+1)) (S+(Cr g:Nat)) (by
   intro b hb;unfold Fp at hb;rw[List.mem_flatMap]at hb;obtain⟨k,i,hk⟩:=hb;have i:=List.mem_range.1 i;split at hk
   .cases hk
   .rw[List.mem_map]at hk;obtain⟨d,hd,rfl⟩:=hk;obtain⟨d1,d2,d3⟩:=z d hd;have y:∀a∈d.1,F0 a.L l<0:=λa ha=>by have:=d3 a ha a0 (by simp[j]);rwa [s]at this
    unfold atO;by_cases h0:k=0
    .rw[Ay h0,List.append_nil];exact⟨d1,by show Cv d.1<=S+((Cr g:Nat):Int);omega,λa ha r c=>d3 a ha r (by simp[c])⟩
    .rw[Av h0];obtain⟨D,L⟩:=J k i h0;refine⟨⟨List.pairwise_append.2 ⟨d1.1,List.pairwise_singleton _ _,λa ha b hb=>?_⟩,λa ha=>?_⟩,?_,λa ha r c=>?_⟩
     .simp only[Dw]at hb;subst hb;exact y a ha
     .rcases D7.1 ha with ha|ha
      .exact d1.2 a ha
      .simp only[Dw]at ha;subst ha;exact⟨by show (1:Int)<=(k:Int);omega,q.1,D,q.2⟩
     .show Cv (d.1++[⟨l,k⟩])<=_;rw[Agh];have:Cv [(⟨l,(k:Int)⟩:Be)]=(k:Int):=(by simp[Cv]);omega
     .rcases D7.1 ha with ha|ha
      .exact d3 a ha r (by simp[c])
      .simp only[Dw]at ha;subst ha;exact E r c) b hb
  refine⟨this.1,?_⟩;rw[Nd];have:=this.2;omega
theorem Avf {x:Bh} {L:List Be} (h:Abq x.V x.E L) (s:Cv L<=6):E5 x ⟨[],L⟩:=by
 have i:(L.length:Int)<=Cv L:=by have key:∀l:List Be,(∀a∈l,1<=a.P)->(l.length:Int)<=Cv l:=(by intro l;induction l with| nil=>intro _;simp[Cv]| cons f fs ih=>intro c;have h1:=c f ψ;have h2:=ih (λg hg=>c g (by simp[hg]));unfold Cv at *;simp only[List.map_cons,List.sum_cons,Ei];omega);exact key _ λa ha=>(h.2 a ha).1
 constructor
 .unfold I6;have k:L.zipIdx.all (λq=>Mg x.V x.E L q.1 q.2)=true:=(by rw[D2];rintro⟨a,j⟩ hq;have hj:L[j]? = some a:=List.mk_mem_zipIdx_iff_getElem?.1 hq;obtain⟨h1,h2,h3,u⟩:=h.2 a (Cf hj);show Mg x.V x.E L a j=true;unfold Mg;have hp:P7 L a j=true:=(by unfold P7;cases j with| zero=>rfl| succ j=>have c:=E4 hj;have hy:L[j]? = some L[j]:=Bx ω;have b:=List.pairwise_iff_getElem.1 h.1 j (j+1) ω c ω;have e:L[j+1]=a:=(by have:=Bx c;rw[hj]at this;exact (Fj this).symm);rw[e]at b;simp only[Nat.add_sub_cancel,hy,Bool.or_eq_true];exact .inr (decide_eq_true b));rw[hp,Ap h1,h2,u];simp only[Bool.true_and,Bool.and_true,Bool.not_eq_true',beq_eq_false_iff_ne,ne_eq];exact h3);show (([]:List Ca).zipIdx.all _&&L.zipIdx.all (λq=>Mg x.V x.E L q.1 q.2)&&decide (Em x.D x.V x.E []+Cv L<=6))=true;rw[k];have:Em x.D x.V x.E []=0:=rfl;rw[this];simp;exact s
 .exact⟨ψ,by show L.length<=1048576;omega,nofun,nofun,λa ha=>by have:=(Lr (h.2 a ha).2.1).1;omega⟩
def ec:List Dp->A7->Nat
 | [],_=>0
 | b::bs,m=>(if D8 ⟨[],b.1⟩ m=0 then b.2 else 0)+ec bs m
theorem Rep.cf {c:Rat} {K:Nat} {ts:List Ai} {bs:List Dp} (h:Rep c K ts bs) (m:A7):Ab.cf ts m=c*(ec bs m:Rat):=by
 induction h with
 | nil=>simp only[Ab.cf,ec];grind
 | @cons t b ts bs a1 a2 a3 _ ih=>
  have a1:t.M=⟨[],b.1⟩:=a1;simp only[Ab.cf,ec,ih,a1];rw[Rat.natCast_add];split
  .rw[a2];grind
  .grind
theorem Rep.mem {c:Rat} {K:Nat} {ts:List Ai} {bs:List Dp} (h:Rep c K ts bs) {t:Ai} (ht:t∈ts):∃b∈bs,t.M=⟨[],b.1⟩/\rq t.C=c*(b.2:Rat)/\RB K t.C:=by obtain⟨j,hj⟩:=Gz ht;obtain⟨b,b1,b2⟩:=h.get hj;exact⟨b,Cf b1,b2⟩
def Abr (L:Nat) (p:List Ai):Prop:=∀t∈p,∃z:Int,rq t.C=(z:Rat)/\Bl z.natAbs<=L
theorem Avg {a:Aj} {z:Int} (ha:Gk a) (h:rq a=(z:Rat)):a=B1 (decide (z<0)) z.natAbs 1:=by
 refine Ake ha (P8 _ _ _ δ) ?_;rw[h,Mh _ _ _ δ,Abh];congr 1;unfold sg;by_cases h:z<0
 .rw[Ap h,Ay rfl];omega
 .rw[Ax h,Av δ];omega
theorem Abs {a:Aj} {z:Int} {L:Nat} (ha:Gk a) (h:rq a=(z:Rat)) (b:Bl z.natAbs<=L):RB (L+1) a:=by rw[Avg ha h];exact K2 _ _ _ _ ω (by rw[K0];omega) ω
theorem Avh {a:Aj} {z:Int} {k:Nat} (ha:Gk a) (h:rq a=(z:Rat)) (c:RB k a):Bl z.natAbs<=k+1:=by have h1:=c.nv;rw[Avg ha h]at h1;obtain⟨b,i,g,f⟩:=Aaj (decide (z<0)) z.natAbs 1 δ;rw[b]at h1;simpa using h1
theorem Avi {p:List Ai} {L:Nat} (h:Abr L p) (hc:CP p) (m:A7):∃z:Int,cf p m=(z:Rat)/\Bl z.natAbs<=L:=by
 by_cases hm:∃t∈p,D8 t.M m=0
 .obtain⟨t,ht,e⟩:=hm;obtain⟨z,b,z2⟩:=h t ht;refine⟨z,?_,z2⟩;rw[<-b,<-O4 hc ht,Mi.1 e]
 .exact⟨0,by rw[Afr λt ht e=>hm ⟨t,ht,e⟩];rfl,by simp[Ui]⟩
theorem Abr.of {p:List Ai} {L:Nat} (hc:CP p) (h:∀m,∃z:Int,cf p m=(z:Rat)/\Bl z.natAbs<=L):Abr L p:=λt ht=>by obtain⟨z,b,z2⟩:=h t.M;exact⟨z,by rw[<-O4 hc ht];exact b,z2⟩
structure IP (x:Bh) (n L:Nat) (f:A7->Rat) (R:List Ai):Prop where
 cp:CP R
 val:∀m,cf R m=f m
 mo:∀t∈R,E5 x t.M
 len:R.length<=n
 int:Abr L R
theorem IP.can {x:Bh} {n L:Nat} {f:A7->Rat} {R:List Ai} (h:IP x n L f R) (c:n<=1000) (g:L<=1000000):H5 x R := H5.of h.cp h.mo (λt ht=>by obtain⟨z,b,z2⟩:=h.int t ht;exact (Abs (h.cp.coe t ht).1 b z2).mono ω) (by have:=h.len;omega)
theorem Avj (y z:Int) {L M:Nat} (hy:Bl y.natAbs<=L) (b:Bl z.natAbs<=L) (h:L+1<=M):Bl (y+z).natAbs<=M:=by have h1:=Wx y.natAbs z.natAbs;have h2:Bl (y+z).natAbs<=Bl (y.natAbs+z.natAbs):=Ia ω;omega
theorem Avk {x:Bh} (l:CSz x) (A:En x) {n m L:Nat} {f g:A7->Rat} {p q:List Ai} (hp:IP x n L f p) (hq:IP x m L g q) (B:n+m<=1000) (c:L<=1000000) : ∃R,Mx x p q=some (R,0)/\IP x (n+m) (L+1) (λa=>f a-g a) R:=by have u:=hp.len;have s:=hq.len;obtain⟨R,k,b⟩:=Auf l A (hp.can ω c) (hq.can ω c) ω;refine⟨R,k,b.cp,λa=>by rw[b.val,hp.val,hq.val],λt ht=>(b.tb t ht).1,by have:=b.len;omega,Abr.of b.cp λa=>?_⟩;obtain⟨y,j,i⟩:=Avi hp.int hp.cp a;obtain⟨z,h,z2⟩:=Avi hq.int hq.cp a;refine⟨y + -z,?_,Avj y (-z) i (by rw[Int.natAbs_neg];exact z2) (Nat.le_refl _)⟩;rw[b.val,j,h,Rat.intCast_add,Rat.intCast_neg,Rat.sub_eq_add_neg]
end Go.Ab
