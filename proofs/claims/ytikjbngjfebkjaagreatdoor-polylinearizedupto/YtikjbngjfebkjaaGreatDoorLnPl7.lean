/- Plain laws. -/
import Derived.Test.YtikjbngjfebkjaaGreatDoorLnPl6
open List
namespace Go.Ab
open Go
variable {res:Az} {l:Bg} {k:Nat}
theorem Bfa (b:D0 l=true):∀t∈l.T,-1048576<=t.C/\t.C<=1048576:=by intro t a;obtain⟨j,d⟩:=Hu a;unfold D0 at b;rw[Cv,Gt]at b;have:=b.2 (t,j) (mk_mem_zipIdx_iff_getElem?.2 d);unfold P3 at this;rw[Cv,Dk]at this;exact this.1.2.2.2
theorem Bfb {α:Type} (f:α->Int):∀(l:List α),(∀j x,l[j]? = some x->Ly f l x j=true)->l.Pairwise λa b=>f a<f b:=by
 intro l h;rw[pairwise_iff_getElem];have step:∀i (d:i+1<l.length),f l[i]<f l[i+1]:=λi d=>by have:=h (i+1) _ (Bq d);unfold Ly at this;rw[show i+1-1=i by omega,Bq (ω:i<l.length)]at this;simpa using this
 intro i j d g c;induction j with
 | zero=>omega
 | succ j ih=>
  have m:=step j g;rcases Cf i j with e|e
  .have:=ih ω e;omega
  .have:i=j:=ω;subst this;exact m
theorem Bfc (c:D0 l=true):l.T.Pairwise λa b=>a.v<b.v:=by refine Bfb (·.v) l.T λj x d=>?_;unfold D0 at c;rw[Cv,Gt]at c;have:=c.2 (x,j) (mk_mem_zipIdx_iff_getElem?.2 d);unfold P3 at this;rw[Cv]at this;exact this.2
theorem Bfd (x:D0 l=true) (g:Int->Int) (hg:∀t∈l.T,-9223372036854775808<=g t.v/\g t.v<=9223372036854775807) :
  ∃r,Zu l (l.T.map (·.v)) (l.T.map λt=>g t.v)=some r/\r.2=0/\RB 200 r.1/\rq r.1=((l.Q+(l.T.map λt=>t.C*g t.v).sum:Int):Rat):=by
 have U:l.T.length<=16:=by
  unfold D0 at x
  rw[Cv,Dk]at x
  exact x.1.2.2
 have V : -1048576<=l.Q/\l.Q<=1048576:=by
  unfold D0 at x
  rw[Cv,Dk]at x
  exact⟨x.1.1,x.1.2.1⟩
 have N:=Bfa x
 have G:=Bfc x
 have H:∀(i k:Nat) (a b:Bt),l.T[i]? = some a->l.T[k]? = some b->k<i->b.v<a.v:=λi k a b K hb C=>by
  obtain⟨T,rfl⟩:=List.getElem?_eq_some_iff.1 K
  obtain⟨W,rfl⟩:=List.getElem?_eq_some_iff.1 hb
  exact pairwise_iff_getElem.1 G k i W T C
 have hv:∀(j:Nat) (a:Bt),l.T[j]? = some a->(l.T.map (·.v))[j]? = some a.v:=λj a K=>by rw[getElem?_map,K];rfl
 unfold Zu
 rw[A6h,x]
 simp only[Ad,Fz,Ap,C5,bne_self_eq_false]
 have a0:∀{R:Type} {J:(Ao×Int)⊕Unit->Option R} {Q:R->Prop},(∃r,J (.inr ())=some r/\Q r)->∃r,(Am (S:=Int) (E:=((Ao×Int)⊕Unit)) (λF=>
   bif F<(l.T.length:Int) then (
   (Am (S:=Int) (E:=((Ao×Int)⊕Int)) (λy=>
   bif y<F then (
   (Ag (l.T.map (·.v)) F).bind λv8=>
   (Ag (l.T.map (·.v)) y).bind λv9=>
   bif (v8==v9) then (
   some (.inr (.inl ((Ao.mk false [] []),4)))
   )
   else (
   some (.inl (Ac (y+1)))
   )
   )
   else (
   some (.inr (.inr y))
   )
    ) 0).bind λz=>
   match z with
   | .inl (D,B)=>(
   some (.inr (.inl (D,B)))
   )
   | .inr _=>(
   some (.inl (Ac (F+1)))
   )
   )
   else (
   some (.inr (.inr ()))
   )
    ) 0).bind J=some r/\Q r:=λ⟨r,T,W⟩=>by
  refine⟨r,Jn l.T.length (λj=>(j:Int)) rfl (λj hj=>?_) ⟨.inr (),by rw[Aw ω];rfl,T⟩,W⟩
  have n:l.T[j]? = some l.T[j]:=Bq hj
  rw[As ω,Ak]
  refine Jn j (λk=>(k:Int)) rfl (λk C=>?_) ⟨.inr (j:Int),by rw[Aw ω];rfl,by dsimp only;rw[C6 hj ω]⟩
  have o:l.T[k]? = some l.T[k]:=Bq ω
  have:=H j k _ _ n o C
  rw[As ω,Ak,Br rfl (hv j _ n),Ad,Br rfl (hv k _ o),Ad,Cu ω,Ap,C6 C ω]
 refine a0 ?_
 obtain⟨c,_,c1,c2,_,c3⟩:=Anu l.Q ω ω
 dsimp only
 rw[c1,Ad]
 refine Ej (λs=>∃(j:Nat) (P:Ao),s=((j:Int),P.N,P.U,P.B)/\j<=l.T.length/\RB (3+11*j) P/\rq P=((l.Q+((l.T.take j).map λt=>t.C*g t.v).sum:Int):Rat)) (λs=>l.T.length-s.1.toNat)
  (λe=>∃P:Ao,e = .inr (P.N,P.U,P.B)/\RB 200 P/\rq P=((l.Q+(l.T.map λt=>t.C*g t.v).sum:Int):Rat)) ⟨0,c,rfl,ω,c2.mono ω,by rw[c3];simp⟩ ?_ ?_
 .rintro s ⟨j,P,rfl,hj,A,v⟩
  rcases Cf j l.T.length with h|h
  .have n:l.T[j]? = some l.T[j]:=Bq h
   have I:=getElem_mem h
   generalize hT:l.T[j]=t at n I
   have ht:=N t I
   have a4:=hg t I
   have L:∀{R:Type} (J:Int×Int->Option R),(Am (S:=(Int×Int)) (E:=(Int×Int)) (λ(d,f)=>
     bif f<(l.T.length:Int) then (
     (Ag (l.T.map (·.v)) f).bind λp=>
     bif (p==t.v) then (
     some (.inl (f,(Ac (f+1))))
     )
     else (
     some (.inl (d,(Ac (f+1))))
     )
     )
     else (
     some (.inr (d,f))
     )
      ) ((-1),0)).bind J=J ((j:Int),(l.T.length:Int)):=λJ=>by
    have e:=Jn (step:=(λ((d,f):Int×Int)=>
     bif f<(l.T.length:Int) then (
     (Ag (l.T.map (·.v)) f).bind λp=>
     bif (p==t.v) then (
     some (.inl (f,(Ac (f+1))))
     )
     else (
     some (.inl (d,(Ac (f+1))))
     )
     )
     else (
     some (.inr (d,f))
     ):Int×Int->Option ((Int×Int)⊕(Int×Int)))) (s0:=((-1:Int),(0:Int))) (J:=some) (r:=((j:Int),(l.T.length:Int))) l.T.length (λk=>((if j<k then (j:Int) else -1),(k:Int))) ψ ?_ ?_
    .rw[Option.bind_fun_some]at e
     rw[e];rfl
    .intro k h3
     have o:l.T[k]? = some l.T[k]:=Bq h3
     generalize l.T[k]=u at o
     simp only[As (ω:(k:Int)<(l.T.length:Int)),Ak,Br rfl (hv k _ o),Ad,C6 h3 ω]
     rcases Nat.lt_trichotomy k j with w|w|w
     .have:=H j k _ _ n o w
      rw[Cu ω,Ap,Ar ω,Ar ω]
     .subst w
      rw[n]at o
      obtain rfl:=Eu o
      rw[beq_self_eq_true,Ak,Au ω]
     .have:=H k j _ _ o n w
      rw[Cu ω,Ap,Au ω,Au ω]
    .exact⟨((j:Int),(l.T.length:Int)),by simp only[Aw (ω:¬(l.T.length:Int)<(l.T.length:Int)),Ap,Au h],rfl⟩
   obtain⟨a,_,a1,a2,_,a3⟩:=Anu t.C ω ω
   obtain⟨b,_,b1,b2,_,b3⟩:=Anu (g t.v) ω ω
   obtain⟨m,_,m1,m2,_,m3⟩:=A79 a2 b2 ω ω
   obtain⟨q,_,Z,Y,_,X⟩:=Acx A m2 ω ω
   have M:(l.T.map λt=>g t.v)[j]? = some (g t.v):=by rw[getElem?_map,n];rfl
   left
   simp only[As (ω:(j:Int)<(l.T.length:Int)),Ak,Br rfl n,Ad,L,Aw (ω:¬(j:Int)<0),Ap,a1,Br rfl M,b1,m1,C6 h ω]
   rw[show (R3 (Ao.mk P.N P.U P.B) m)=some q from Z,Ad]
   refine⟨_,rfl,⟨j+1,q,rfl,ω,Y.mono ω,?_⟩,by simp only[Int.toNat_natCast];omega⟩
   rw[X,v,m3,a3,b3,Cz n,map_append,sum_append]
   simp only[map_cons,map_nil,sum_cons,sum_nil,Int.add_zero,Rat.intCast_add,Rat.intCast_mul]
   grind
  .have:j=l.T.length:=ω
   subst this
   rw[Db]at v
   exact .inr ⟨.inr (P.N,P.U,P.B),by dsimp only;rw[Aw ω];rfl,P,rfl,A.mono ω,v⟩
 .rintro e ⟨P,rfl,A,v⟩
  exact⟨(P,0),by rw[<-Anv P],rfl,A,v⟩
theorem Ay2 {l:List Int} (h:Cj l) (i:Nat):0<=Al (l.drop i)/\Al (l.drop i)<=Al l:=by
 have a:=H8 (h.drop i).u32;have b:=H8 (h.take i).u32;refine⟨a,?_⟩;have e:Al l=Al (l.take i)+1000000000 ^ (l.take i).length*Al (l.drop i):=by rw[<-Alp,take_append_drop]
 have d:=Int.mul_le_mul_of_nonneg_right (show (1:Int)<=1000000000 ^ (l.take i).length by have:=Lu (l.take i).length;omega) a;omega
theorem Bfe {c:Ao} (g:G9 c) (h:RB k c) (j:k<=1099511627):Z3 c=some (decide (c.B = [1])):=by
 have e:Nl c=some c:=by rw[Yb c k h ω];exact congrArg some g.symm
 unfold Z3;rw[e,Ad];generalize c.B=D
 match D with
 | []=>rfl
 | [a]=>
  show (Ag [a] 0).bind (λi=>some (i==(1:Int)))=_;rw[show Ag [a] 0=some a from rfl,Ad];by_cases d:a=1
  .subst d;rfl
  .rw[Cu d,decide_eq_false (by simpa using d)]
 | a::b::D=>rw[Cu (by simp only[D2];omega),decide_eq_false ψ];rfl
theorem Bff (m n:Nat):(m<n/\Fk m n = -1)\/(m=n/\Fk m n=0)\/(n<m/\Fk m n=1):=by
 unfold Fk;split
 .exact .inl ⟨by assumption,rfl⟩
 .split
  .exact .inr (.inr ⟨by assumption,rfl⟩)
  .exact .inr (.inl ⟨ω,rfl⟩)
theorem Bfg {a:Ao} (h:RB k a) (hk:k<=1000000):∃r,Zv a=some r/\(r.2=true->rq a=(r.1:Rat)):=by
 obtain⟨c,_,V,C,W,X⟩:=A8d h ω;have R:=Acq (sv c) (nv c) (dv c) (F2 c);rw[<-show c=Cg (sv c) (nv c) (dv c) from C]at R;obtain⟨f1,f2,f3⟩:=R;unfold Zv;rw[V,Ad,Bfe C X ω,Ad];by_cases F:c.B = [1]
 .have z:dv c=1:=(by have H:Al (Ah (dv c))=1:=(by rw[<-f2,F];rfl);rw[Gc]at H;omega);have T:rq a=((sg (sv c) (nv c):Int):Rat):=(by rw[<-W];unfold rq;rw[z,Rat.mkRat_one]);rw[As F];simp only[Fz,Ap];by_cases D:(c.U.length:Int)>3
  .rw[As D];exact⟨_,rfl,λh=>by cases h⟩
  .rw[Aw D];simp only[Ad,Ap,Acn,Aco];rw[show (9223372036854775808:Int)=((9223372036854775808:Nat):Int) from rfl,Q8 _ δ,Ad,f1];have y:Bs (nv c)<=3:=(by unfold Bs;rw[<-f1];omega);have f:=S4 (nv c) 9223372036854775808 ω (by have:=Kk (n:=9223372036854775808) (k:=3) δ;omega);rw[f,Ad];have low:=F0 (nv c);have hv:=Gc (nv c);rcases Bff (nv c) 9223372036854775808 with o|o|⟨H,o⟩
   rotate_left 2
   .rw[o];exact⟨_,rfl,λh=>by cases h⟩
   all_goals
    have H:nv c<=9223372036854775808:=ω
    rw[Aw (by rw[o.2];decide)]
    have p:∀{J:Int->Option (Int×Bool)} {Q:Int×Bool->Prop},(∃r,J (nv c:Int)=some r/\Q r)->∃r,(Am (S:=(Int×Int)) (E:=Int) (λ(t,m)=>
      bif m>=(0:Int) then ((Ag (Ah (nv c)) m).bind λx=> some (.inl ((Ba ((Ba (t*1000000000))+(Ba x))),(Ac (m-1))))) else (some (.inr t))) (0,(Ac (((Ah (nv c)).length:Int)-1)))).bind J=some r/\Q r:=by
     intro J Q M;have I:(Ah (nv c)).length<=3:=y;refine Ej (λs=>∃j:Nat,s.2=(j:Int)-1/\j<=(Ah (nv c)).length/\s.1=Al ((Ah (nv c)).drop j)) (λs=>(s.2+1).toNat) (λe=>e=(nv c:Int)) ⟨(Ah (nv c)).length,by rw[Ac,B4] <;> omega,ω,by rw[drop_length];rfl⟩ ?_ ?_
     .rintro⟨v,_⟩ ⟨j,rfl,hj,w⟩;dsimp only at w ⊢;cases j with
      | zero=>right;rw[Aw ω,Ap];exact⟨_,rfl,by rw[w,drop_zero,hv]⟩
      | succ i=>
       left;have K:(Ah (nv c))[i]? = some (Ah (nv c))[i]:=Bq ω;have B:=low.get (i:=i) ω;generalize (Ah (nv c))[i]=d at K B;have A:=Jv K;have e:Al ((Ah (nv c)).drop i)=d+1000000000*v:=(by rw[A,Al,w]);obtain⟨b1,b2⟩:=Ay2 low i;obtain⟨N,_⟩:=Ay2 low (i+1);rw[<-w]at N;have L:d+1000000000*v<=9223372036854775808:=(by rw[<-e];omega);have u:Ba (v*1000000000)=v*1000000000:=Dr ω ω;have q:Ba d=d:=Dr ω ω;have l:Ba (v*1000000000+d)=v*1000000000+d:=Dr ω ω;rw[As ω,Ak,Br (n:=i) ω K,Ad,u,q,l];refine⟨_,rfl,⟨i,?_,ω,by dsimp only;rw[e];omega⟩,?_⟩
       .dsimp only;rw[Ac,B4] <;> omega
       .dsimp only;have:Ac (((i+1:Nat):Int)-1-1)=(i:Int)-1:=ξ;rw[this];omega
     .rintro e rfl;exact M
    rw[Ap]
    cases g:c.N with
    | false=>
     have b:sv c=false:=by rw[<-f3];exact g
     simp only[Bool.not_false,Ak,f,o.2,Ad]
     first|exact⟨_,rfl,λh=>by cases h⟩ | (refine p ⟨_,rfl,λ_=>?_⟩;rw[T,b];rw[show Ac (nv c:Int)=nv c by (rw[Ac,B4] <;> omega)];rfl)
    | true=>
     have b:sv c=true:=by rw[<-f3];exact g
     simp only[Fz,Ap,Ad]
     have U:0<nv c:=by
      rcases Nat.eq_zero_or_pos (nv c) with P|P
      .have:=C;unfold G9 at this;rw[this,P]at g;cases g
      .exact P
     refine p ⟨_,rfl,λ_=>?_⟩
     rw[T,b]
     have u:Ba ((nv c:Int)-1)=nv c-1:=Dr ω ω
     have q:Ac ((nv c:Int)-1)=nv c-1:=by rw[Ac,B4] <;> omega
     have l:Ac (0-((nv c:Int)-1))=0-((nv c:Int)-1):=by rw[Ac,B4] <;> omega
     have G:Ac (0-((nv c:Int)-1)-1)=0-((nv c:Int)-1)-1:=by rw[Ac,B4] <;> omega
     rw[u,q,l,G]
     show ((-(nv c:Int):Int):Rat)=_
     congr 1
     omega
 .rw[Aw F];exact⟨_,rfl,λh=>by cases h⟩
theorem Bfh {x:Ck} {p q:List An} {f c:List Az} {b:Az} {u w:Ao} (a:V1 x p f res u) (d:V1 x q c b w) (h:Mm x (Du f res) p=Mm x (Du c b) q):T9 u w=some true:=by have:u=w:=Ams a.can d.can (by rw[a.val,d.val,h]);subst this;have:=a.rb;exact A95 u (by have:=this.nl;omega) (by have:=this.dl;omega)
theorem Bfi {b:List Az} (a:∀w∈b,Ee w.U) (d:Ee res.U) (u:Int):Ee (Du b res u).U:=by unfold Du;cases h:Ag b u with| none=>exact d| some w=>exact a w (Hg h).2.2.2
theorem Bfj (l:Bg) (D:l.T.length<=100) (c:List Az) (res:Az) : ∃z,Am (S:=(Int×List Int×List Int)) (E:=(Bool⊕(List Int×List Int))) (λ(d,k,i)=> bif d<(l.T.length:Int) then ((Ag l.T d).bind λg=> (T8 c res g.v).bind λf=> (show OB from bif (!f.2) then (some true) else (some (f.1.G != (3:Int)))).bind λq=> bif q then ((Pc).bind λp=> some (.inr (.inl p))) else ((B6 8 k [g.v]).bind λx=> (B6 8 i [f.1.U]).bind λu=> some (.inl ((Ac (d+1)),x,u)))) else (some (.inr (.inr (k,i))))) (0,[],[])=some z/\(z = .inl true\/z = .inr (l.T.map (·.v),l.T.map λt=>(Du c res t.v).U)):=by
 refine Kf (S:=Int×List Int×List Int) (E:=Bool⊕(List Int×List Int)) (λs=>∃j:Nat,s.1=(j:Int)/\j<=l.T.length/\s.2.1=(l.T.take j).map (·.v)/\s.2.2=(l.T.take j).map λt=>(Du c res t.v).U) (λs=>l.T.length-s.1.toNat) (λz=>z = .inl true\/z = .inr (l.T.map (·.v),l.T.map λt=>(Du c res t.v).U)) ?_ (0,[],[]) ⟨0,rfl,ω,rfl,rfl⟩;rintro⟨_,B,A⟩ ⟨j,rfl,w,e,m⟩;dsimp only at e m ⊢;rcases Cf j l.T.length with h|h
 .have n:l.T[j]? = some l.T[j]:=Bq h;generalize l.T[j]=t at n;obtain⟨a,b,o,y⟩:=Ayz c res t.v;rw[As ω,Ak,Br rfl n,Ad,o,Ad,C6 h ω];cases b with
  | false=>right;simp only[Bool.not_false,Ak,Ad,Ah4];exact⟨_,rfl,.inl rfl⟩
  | true=>
   obtain⟨v,_⟩:=y rfl;simp only[Fz,Ap,Ad];by_cases r:a.G=3
   .left;rw[G1 r,Ap,Dl (by rw[e];simp;omega),Ad,Dl (by rw[m];simp;omega),Ad];refine⟨_,rfl,⟨j+1,rfl,ω,?_,?_⟩,by simp only[Int.toNat_natCast];omega⟩
    .dsimp only;rw[e,Cz n,map_append];rfl
    .dsimp only;rw[m,v,Cz n,map_append];rfl
   .right;rw[F7 r,Ak,Ah4];exact⟨_,rfl,.inl rfl⟩
 .right;have:j=l.T.length:=ω;subst this;rw[Db]at e m;exact⟨_,by rw[Aw ω,Ap],.inr (by rw[e,m])⟩
theorem Bfk (x:Ck) (p:List An) (v:Int) (l:Bg) (f:List Az) (res:Az) (C:CSz x) (K:p.length<=1048576) (hp:∀t∈p,TSz t) (I:l.T.length<=1048576) (k:f.length<=1048576) (i:∀v∈f,C1 v<=1048576) (M:∀w∈f,Ee w.U) (g:C1 res<=1048576) (E:Ee res.U):Ae7 x p v l f res=some true:=by
 unfold Ae7;obtain⟨b,P,H⟩:=Bee x C [p] ψ (λr Y=>by rw[D5]at Y;subst Y;exact⟨K,hp⟩);obtain⟨c,Q,c2⟩:=Ber f res k i g;obtain⟨d,d1⟩:∃d,Wu l=some d:=⟨_,rfl⟩;rw[P,Ad,Q,d1];cases b with
 | false=>rfl
 | true=>
 cases d with
 | false=>rfl
 | true=>
 cases c with
 | false=>rfl
 | true=>
 have G:Ay1 x p:=⟨(H rfl p ψ).1,hp,(H rfl p ψ).2⟩;simp only[Fz,Ap,Ad];by_cases J:f.length=x.V.length
 .rw[G1 ω,Ap];obtain⟨R,e,T,W⟩:=Be8 C G v I;rw[T,Ad];simp only[Ah4];by_cases N:e=0
  .rw[G1 N,Ap];obtain⟨hf,hP,⟨t,F,hk⟩,h,L,U⟩:=W N;obtain⟨z,V,z2⟩:=Bfj l (by have:=(V2 h).1;omega) f res;simp only[Ah4]at V;rw[V,Ad];rcases z2 with rfl|rfl
   .rfl
   .obtain⟨q,q1,q2,q3,q4⟩:=Bfd h (λu=>(Du f res u).U) λt _=>Bfi M E t.v;obtain⟨⟨m,n⟩,m1,m2⟩:=Bfg q3 δ;obtain⟨a,o,o1,o2⟩:=Ayz f res v;dsimp only;rw[q1,Ad,m1,Ad,o1,Ad];cases o with
    | false=>rfl
    | true=>
     simp only[Fz,Ap];rw[G1 q2,Ap];cases n with
     | false=>rfl
     | true=>
      have hm:m=K1 (Du f res) l:=(by have:=(m2 rfl).symm.trans q4;exact Rat.intCast_inj.1 this);simp only[Fz,Ad,Ap];obtain⟨Z,X,w1,S⟩:=Bes f res v ⟨3,m,[]⟩ k (o2 rfl).2;have j:=S.mem 1048576 (by simp[C1,Ec]) i g;rw[w1,Ad];obtain⟨u1,h1,A⟩:=Ay0 C (p:=R) (λt F=>⟨(U.tm t F).2.mono δ,(U.tm t F).1.1.1.2⟩) i g;obtain⟨u2,h2,y⟩:=Ay0 C hp j.1 j.2;rw[h1,Ad,h2,Ad];rcases A with A|⟨_,_,_,_,y1,rfl,D⟩
      .rw[F7 A];rfl
      .rcases y with y|⟨_,_,_,s,y2,rfl,B⟩
       .rw[F7 y];rfl
       .rw[hm]at S;have hs:=Bfh D B (Be9 hP F hk h S J s U);dsimp only;rw[hs];rfl
  .rw[F7 N];rfl
 .rw[F7 ω];rfl
end Go.Ab
