/- Plain laws. -/
import Derived.Test.YtbpbaimlddncnaaGreatDoorPcPl2
open List
namespace Go.Ab
open Go
variable {r y:A3} {t:Ag} {e i:Ai} {x:Cu} {ps:List (List Aj)} {es:List Ai} {R p ts:List Aj} {data:List Am} {A B l:List Bc} {K N a b d j k m n:Nat} {g:Nat->Nat} {α β:Type} {cmp:α->α->Option Int}
theorem Aiy (t u:Aj) (h:MSz t.M):Oq t u=some (Ea t.M u.M):=by unfold Oq;rw[Ao4 _ _ h];rfl
theorem A2a (A R:List α) (x y:α):((A++y::x::R).set (A.length+1) y).set A.length x=A++x::y::R:=by induction A with| nil=>rfl| cons a A ih=>simp only[Eh,D9,set_cons_succ,ih]
theorem Aqy (A R:List α) (x:α):(A++x::R)[A.length]? = some x:=by simp
theorem A2b (A R:List α) (x y:α):(A++y::x::R)[A.length+1]? = some x:=by induction A with| nil=>rfl| cons a A ih=>simp
theorem A2c {step:Int×List Aj->Option ((Int×List Aj)⊕(Int×List Aj))} (N:Nat) (E:N<4611686018427387904) (b:∀(x:Aj) (R:List Aj),step (0,x::R)=some (.inr (0,x::R))) (k:∀(A R:List Aj) (x y:Aj),(∀t∈A++y::x::R,MSz t.M)->(A++y::x::R).length<=N->step (((A.length+1:Nat):Int),A++y::x::R) = if Ea x.M y.M<0 then some (.inl ((A.length:Int),A++x::y::R)) else some (.inr (((A.length+1:Nat):Int),A++y::x::R))) : ∀(n:Nat) (A R:List Aj) (x:Aj),A.length=n->(∀t∈A++x::R,MSz t.M)->(A++x::R).length<=N -> ∃f i,An step ((A.length:Int),A++x::R)=some ((f.length:Int),f++x::(i++R))/\A=f++i/\(∀a∈i,ltT x a)/\∀l y,f=l++[y]->¬ltT x y:=by
 intro n;induction n with
 | zero=>intro A R x g _ _;have:A = []:=Gm.1 g;subst this;exact⟨[],[],Fm (b x R),rfl,nofun,(λl y h=>by simp at h)⟩
 | succ n ih=>
  intro A R x g j c;obtain⟨B,y,rfl⟩:∃B y,A=B++[y]:=by
   rcases eq_nil_or_concat A with h|⟨B,y,h⟩
   .rw[h]at g;cases g
   .exact⟨B,y,by simpa using h⟩
  have s:B.length=n:=(by simpa using g);have D:(B++[y])++x::R=B++y::x::R:=ψ;have el:(((B++[y]).length:Nat):Int)=((B.length+1:Nat):Int):=ψ;rw[D]at j c ⊢;rw[el];have v:=k B R x y j c;by_cases w:Ea x.M y.M<0
  .rw[A7 w]at v;obtain⟨f,i,F,G,H,u⟩:=ih B (y::R) x s (by intro t C;refine j t ?_;simp only[D7,Fp]at C ⊢;rcases C with h|h|h|h <;> simp[h]) (by simpa using c);refine⟨f,i++[y],?_,by rw[G];simp,?_,u⟩
   .rw[Kd v,F];simp
   .intro a o;rcases D7.1 o with o|o
    .exact H a o
    .simp only[D0]at o;subst o;exact w
  .rw[Ay w]at v;refine⟨B++[y],[],?_,ψ,nofun,?_⟩
   .rw[Fm v];simp
   .intro l z q;have:=append_inj' q rfl;have e:y=z:=(by simpa using this.2);subst e;exact w
theorem A2d {a b c:Aj} (h:ltT a b) (o:ltT b c):ltT a c:=Vo h o
theorem A2e {c j:List Aj} {x:Aj} (w:(c++j).Pairwise ltT) (C:∀a∈j,ltT x a) (D:∀g y,c=g++[y]->¬ltT x y) (E:∀a∈c,a.M≠x.M):(c++x::j).Pairwise ltT:=by
 obtain⟨i,s,l⟩:=pairwise_append.1 w;have F:∀a∈c,ltT a x:=by
  intro a o;rcases eq_nil_or_concat c with h|⟨g,y,h⟩
  .rw[h]at o;cases o
  .have h:c=g++[y]:=(by simpa using h);have f:ltT y x:=by
    have q:=D g y h;have u:=E y (by rw[h];simp);unfold ltT at *;rcases Int.lt_trichotomy (Ea x.M y.M) 0 with k|k|k
    .exact (q k).elim
    .exact (u (N8.1 k).symm).elim
    .exact Aig.1 k
   rw[h]at o i;rcases D7.1 o with o|o
   .exact A2d ((pairwise_append.1 i).2.2 a o y ψ) f
   .simp only[D0]at o;subst o;exact f
 refine pairwise_append.2 ⟨i,pairwise_cons.2 ⟨C,s⟩,λa o b v=>?_⟩;rcases Fp.1 v with rfl|v
 .exact F a o
 .exact l a o b v
noncomputable def Y6:Int×List Aj->Option ((Int×List Aj)⊕(Int×List Aj)):=λ(h,b)=> (show OB from bif h>(0:Int) then ((Ah b h).bind λq=> (Ah b (Ac (h-1))).bind λg=> (Oq q g).bind λs=> some (decide (s<(0:Int)))) else some false).bind λf=>
 bif f then ((Ah b (Ac (h-1))).bind λo=> (Ah b h).bind λc=> (Ah b h).bind λu=> (Ah (C2 b h o) (Ac (h-1))).bind λv=> some (.inl ((Ac (h-1)),(C2 (C2 b h o) (Ac (h-1)) c)))) else some (.inr (h,b))
theorem A2f (y:Aj) (R:List Aj):Y6 (0,y::R)=some (.inr (0,y::R)):=by unfold Y6;simp only[Aw (ω:¬(0:Int)>0),Ao,Ad]
theorem A2g (h:N<=1099511627776) (A R:List Aj) (u y:Aj) (b:∀t∈A++y::u::R,MSz t.M) (c:(A++y::u::R).length<=N):Y6 (((A.length+1:Nat):Int),A++y::u::R) = if Ea u.M y.M<0 then some (.inl ((A.length:Int),A++u::y::R)) else some (.inr (((A.length+1:Nat):Int),A++y::u::R)):=by
 have g:A.length+1<N:=by simp at c;omega
 have f:Ac (((A.length+1:Nat):Int)-1)=(A.length:Int):=by rw[Ac,B8] <;> omega
 unfold Y6;simp only[Aq (ω:((A.length+1:Nat):Int)>0),Al,f,Bu (n:=A.length+1) rfl (A2b A R u y),Bu (n:=A.length) rfl (Aqy A (u::R) y),Ad,Aiy u y (b u ψ)];by_cases o:Ea u.M y.M<0
 .rw[Aq o,A7 o];simp only[Al];rw[Gv (n:=A.length+1) rfl,Gv (n:=A.length) rfl,A2a];have:Ah ((A++y::u::R).set (A.length+1) y) (A.length:Int)=some y:=(by refine Bu rfl ?_;rw[getElem?_set_ne ω];exact Aqy A (u::R) y);rw[this];rfl
 .rw[Aw o,Ay o];rfl
theorem A2h (b:List Aj) (P:Dst b) (I:∀t∈b,MSz t.M) (M:b.length<=1099511627776) : ∃R,Xv 0 (b.length:Int) b=some R/\R.Perm b/\R.Pairwise ltT:=by
 unfold Xv;cases b with
 | nil=>refine⟨[],?_,Perm.refl _,Pairwise.nil⟩;refine Jl 0 (λ_=>((1:Int),([]:List Aj))) (by simp[Ac,B8]) (λj U=>ω) ⟨[],?_,rfl⟩;simp
 | cons H A=>
 generalize f:H::A=b at *;have v:1<=b.length:=by rw[<-f];simp
 refine Ev (λs=>∃(i:Nat) (S:List Aj),s=((i:Int),S++b.drop i)/\1<=i/\i<=b.length/\S.length=i/\S.Perm (b.take i)/\S.Pairwise ltT) (λs=>b.length-s.1.toNat) (λR=>R.Perm b/\R.Pairwise ltT) ⟨1,[H],by rw[<-f];simp[Ac,B8],ω,v,rfl,by rw[<-f];simp,pairwise_singleton _ _⟩ ?_ ?_
 .rintro _ ⟨i,S,rfl,J,V,G,c,k⟩;rcases Cb i b.length with h|h
  .have F:b[i]? = some b[i]:=B3 h;generalize b[i]=x at F;have g:b.drop i=x::b.drop (i+1):=J3 F;have z:(S++x::b.drop (i+1)).length=b.length:=ζ;have y:∀t∈S++x::b.drop (i+1),t∈b:=by
    intro t o;rcases D7.1 o with o|o
    .exact mem_of_mem_take (c.mem_iff.1 o)
    .rw[<-g]at o;exact mem_of_mem_drop o
   simp only[Aq (ω:(i:Int)<(b.length:Int)),Al,C3 h ω];rw[g];left;obtain⟨q,l,C,w,Q,L⟩:=A2c (step:=Y6) b.length ω A2f (A2g ω) S.length S (b.drop (i+1)) x rfl (λt o=>I t (y t o)) (by rw[z];exact Nat.le_refl _);rw[G]at C;have hp:(q++x::l).Perm (b.take (i+1)):=(by rw[Dd F];have:(q++x::l).Perm ((q++l)++[x]):=(by rw[append_assoc];exact Perm.append_left q (perm_append_singleton x l).symm);exact this.trans (by rw[<-w];exact c.append_right [x]));refine⟨(((i+1:Nat):Int),(q++x::l)++b.drop (i+1)),bnd C ψ,⟨i+1,q++x::l,rfl,ω,ω,?_,hp,?_⟩,ζ⟩
   .rw[hp.length_eq,length_take];omega
   .rw[w]at k;refine A2e k Q L λa T=>?_;have E:a∈b.take i:=c.mem_iff.1 (by rw[w];simp[T]);have B:x∈b.drop i:=(by rw[g];simp);have D:(b.take i++b.drop i).Pairwise λt u=>t.M≠u.M:=(by rw[take_append_drop];exact P);exact (pairwise_append.1 D).2.2 a E x B
  .have:i=b.length:=ω;subst this;rw[Dq]at c;simp only[Aw (ω:¬(b.length:Int)<(b.length:Int)),Ao,drop_length,append_nil];exact .inr ⟨S,rfl,c,k⟩
 .rintro R ⟨C,w⟩;exact⟨R,rfl,C,w⟩
theorem J7 {l:List α} (h:n=l.length):Fv n l=some ():=by unfold Fv;rw[A7 h]
theorem A2i {s:ByteArray} {i:Int} (h0:0<=i) (h:i.toNat<s.size):∃c,Jh s i=some c:=by unfold Jh;rw[A7 h0];exact⟨_,getElem?_pos s i.toNat h⟩
set_option maxRecDepth 20000 in
theorem Aiz {n:Nat} (h:n<256):∃v,Rx (Az (n:Int))=some v:=by
 unfold Rx Abf;rw[Az,Dl ω ω,Aw ω];simp only[Ao,Ad];rw[Aw ω];simp only[Ao,Ad];rw[Aw ω];simp only[Ao,Ad];have b:wu8 (n:Int)=(n:Int):=by rw[wu8];unfold IntKind.wrap;simp[IntKind.bits,IntKind.signed];omega
 rw[b];generalize f:ByteArray.mk _=T;have o:T.size=256:=by rw[<-f];rfl
 obtain⟨c,q⟩:=A2i (s:=T) (i:=(n:Int)) ω (by rw[o];simpa using h);rw[q];exact⟨_,rfl⟩
theorem A2j (b:List Aj) (o:Dst b) (g:∀t∈b,MSz t.M) (f:b.length<=12):∃R,Nr b=some R/\R.Perm b/\R.Pairwise ltT:=by
 obtain⟨R,q,h,s⟩:=A2h b o g ω;obtain⟨v,c⟩:=Aiz (n:=b.length) ω;refine⟨R,?_,h,s⟩;unfold Nr;rw[Nat.ble_eq_true_of_le f,Al];unfold Agx;rw[c,Ad];have hp:Xj 0 (b.length:Int) v b=some R:=by unfold Xj;refine bnd (a:=R) (Fm ?_) rfl;have w:Ac ((b.length:Int)-0)=(b.length:Int):=ξ;simp only[w,Aq (ω:(b.length:Int)<=12),Al,q,Ad,J7 h.length_eq.symm]
 rw[hp,Ad,J7 h.length_eq.symm];rfl
def clT (t:Aj):Aj:=⟨Cn (sv t.C) (nv t.C) (dv t.C),t.M⟩
theorem Aqz (p:List Aj) (w:k<34359738000) (hp:∀t∈p,RB k t.C/\MSz t.M) (b:p.length<=1048576):Ug p=some (p.map clT):=by
 unfold Ug;refine F7 p (λj=>((j:Int),(p.take j).map clT)) rfl ω ?_ ?_
 .intro j x C h o q s;obtain⟨u,v⟩:=hp x (B6 h);simp only[o,q,s,Al,Ad,Ah4 x.C k u ω,A1y x.M v];rw[Dn ζ,Ad,Dd h];simp[clT]
 .intro o;exact⟨p.map clT,ψ,rfl⟩
theorem Aq0 (p:List Aj) (m:Br):cf (p.map clT) m=cf p m:=by induction p with| nil=>rfl| cons t p ih=>simp only[map_cons,cf,ih,clT];rw[Pg _ _ _ (Hz _)];rfl
theorem Aq1 {q:List Aj} (h:p.Perm q) (m:Br):cf p m=cf q m:=by induction h with| nil=>rfl| cons x _ ih=>simp only[cf,ih]| swap x y l=>simp only[cf];grind| trans _ _ o s=>rw[o,s]
def nzT (t:Aj):Bool:=decide (rq t.C≠0)
theorem Aq2 (p:List Aj) (m:Br):cf (p.filter nzT) m=cf p m:=by
 induction p with
 | nil=>rfl
 | cons t p ih=>
  by_cases h:rq t.C=0
  .rw[filter_cons_of_neg (by simp[nzT,h]),ih];simp only[cf,h];grind
  .rw[filter_cons_of_pos (by simp[nzT,h])];simp only[cf,ih]
theorem Aq3 (x:Rat):(S9 x != (0:Int))=decide (x≠0):=by
 unfold S9;by_cases h:x<0
 .rw[A7 h];have:x≠0:=(by intro e;subst e;exact absurd h δ);simp[this]
 .rw[Ay h];by_cases o:0<x
  .rw[A7 o];have:x≠0:=(by intro e;subst e;exact absurd o δ);simp[this]
  .rw[Ay o];have:x=0:=Rat.le_antisymm (Rat.not_lt.1 o) (Rat.not_lt.1 h);simp[this]
theorem Ai0 {f:α->Bool} {l:List α} {x:α} (h:l[j]? = some x):(l.take (j+1)).filter f=(l.take j).filter f++(if f x then [x] else []):=by rw[Dd h,filter_append];congr 1;cases k:f x <;> simp[filter,k]
theorem A2k {P:Br->Prop} (q:∀m,P m->CMo m) (o:List (ByteArray×Int)) (ts:List Aj) (h:Col k P ts) (D:k<34359738000) (z:ts.length<=1000) (F:∀c:List Aj,c.length<=ts.length->Dst c->(∀t∈c,MSz t.M)->∃R,Nr c=some R/\R.Perm c/\R.Pairwise ltT) : ∃R,My o ts=some (R,0)/\CP R/\(∀m,cf R m=cf ts m)/\(∀t∈R,P t.M/\RB (k+1) t.C)/\R.length<=ts.length:=by
 unfold My;have g:(ts.filter nzT).length<=ts.length:=length_filter_le _ _;obtain⟨S,y,f,s⟩:=F (ts.filter nzT) g (Pairwise.filter _ h.dst) λt v=>(q _ (h.mo t (mem_filter.1 v).1)).sz;have b:∀t∈S,t∈ts/\rq t.C≠0:=by intro t v;have:=mem_filter.1 (f.mem_iff.1 v);exact⟨this.1,by simpa[nzT] using this.2⟩
 refine⟨S.map clT,?_,⟨?_,?_⟩,?_,?_,?_⟩
 .refine F7 ts (λj=>((j:Int),(ts.take j).filter nzT)) rfl ω ?_ ?_
  .intro j x J E C G H;have I:=h.tb x (B6 E);have l:((ts.take j).filter nzT).length<=ts.length:=Nat.le_trans (length_filter_le _ _) (by rw[length_take];omega);simp only[C,G,H,Al,Ad,(Yz I D).1,Aq3];rw[Ai0 E];by_cases i:rq x.C=0
   .have:nzT x=false:=(by simp[nzT,i]);rw[Aw (by simpa using i),this];simp
   .have:nzT x=true:=(by simp[nzT,i]);rw[Aq i,this];simp only[Al];rw[Dn ζ];simp
  .intro C;refine⟨ts.filter nzT,by simp only[C,Ao,Dq],?_⟩;rw[Aw ω];simp only[Ao];rw[y,Ad,J7 f.length_eq.symm,Ad, Aqz (k:=k) S D (λt v=>⟨h.tb t (b t v).1,(q _ (h.mo t (b t v).1)).sz⟩) (by rw[f.length_eq];omega)];rfl
 .rw[pairwise_map];exact s
 .intro t v;obtain⟨u,w,rfl⟩:=mem_map.1 v;refine⟨S8 _ _ _ (Hz _),?_⟩;show rq (Cn _ _ _)≠0;rw[Pg _ _ _ (Hz _)];exact (b u w).2
 .intro m;rw[Aq0,Aq1 f,Aq2]
 .intro t v;obtain⟨u,w,rfl⟩:=mem_map.1 v;exact⟨h.mo u (b u w).1,Apu (h.tb u (b u w).1)⟩
 .rw[C4,f.length_eq];exact g
theorem Aq4 (x:Cu) (g:CSz x) (ps:List (List Aj)) (B:∀p∈ps,∀t∈p,TSz t) (M:ps.length<=1048576) : ∃r,L3 x ps=some r/\(((Ia x/\∀p∈ps,Ko x.D x.V x.E p=true)/\∃A,r = .inl (true,x,A,[],x.D,x.V,x.E.G,x.E.U,x.E.R)/\Dm x.D x.V x.E A) \/ ((¬(Ia x/\∀p∈ps,Ko x.D x.V x.E p=true))/\r = .inr false)):=by
 obtain⟨b,Q,F⟩:=Acf g.ds;have L:=g.nv;have J:=g.rs;unfold L3;rw[Q,Sx x.D x.E 0 ω];by_cases l:x.V.length<=3000
 .rw[Aw ω];simp only[Ao,Ad];cases b with
  | false=>exact⟨_,rfl,.inr ⟨λh=>(by have:=F.2 h.1.2.1;cases this),rfl⟩⟩
  | true=>
   have I:=F.1 rfl;simp only[bnt,Ao];cases E:(G8 x.D 0 x.E&&decide (Bw x.E<=200)) with
   | false=>exact⟨_,rfl,.inr ⟨λh=>(by have:=h.1.2.2.1;rw[show Gg x.D x.E=false from E]at this;cases this),rfl⟩⟩
   | true=>
    simp only[bnt,Ao,Ad];refine Ev (λi=>∃j:Nat,i=j/\j<=x.V.length/\(x.V.take j).all (Gg x.D)=true) (λi=>x.V.length-i.toNat) (λz=>match z with|.inl r=>r=false/\¬Ia x | .inr _=>Ia x) ⟨0,rfl,ω,ψ⟩ ?_ ?_
    .rintro i ⟨j,rfl,S,c⟩;rcases Cb j x.V.length with h|h
     .have v:x.V[j]? = some x.V[j]:=B3 h;generalize x.V[j]=t at v;have:=g.vs t (B6 v);simp only[Aq (ω:(j:Int)<(x.V.length:Int)),Al,Bu rfl v,Ad,Sx x.D t 0 ω,C3 h ω];rw[show (G8 x.D 0 t&&decide (Bw t<=200))=Gg x.D t from rfl];cases H:Gg x.D t with| true=>exact .inl ⟨_,rfl,⟨j+1,rfl,ω,by rw[Dd v,all_append,c];simp[H]⟩,ζ⟩| false=>refine .inr ⟨.inl false,rfl,rfl,λD=>?_⟩;have:=H9.1 D.2.2.2 t (B6 v);rw[H]at this;cases this
     .have:j=x.V.length:=ω;subst this;rw[Dq]at c;exact .inr ⟨.inr (),ψ,l,I,E,c⟩
    .rintro (r|u) f
     .obtain⟨rfl,f⟩:=f;exact⟨_,rfl,.inr ⟨λh=>f h.1,rfl⟩⟩
     .have P:Ia x:=f;simp only;refine Ev (λs=>∃(j:Nat) (o:List (ByteArray×Int)),s=((j:Int),o)/\j<=ps.length/\Dm x.D x.V x.E o/\∀p∈ps.take j,Ko x.D x.V x.E p=true) (λs=>ps.length-s.1.toNat) (λz=>match z with|.inl r=>r=false/\¬(∀p∈ps,Ko x.D x.V x.E p=true) | .inr o=>Dm x.D x.V x.E o/\∀p∈ps,Ko x.D x.V x.E p=true) ⟨0,[],rfl,ω,(λq h=>by cases h),(λq h=>by simp at h)⟩ ?_ ?_
      .rintro _ ⟨j,o,rfl,S,G,c⟩;rcases Cb j ps.length with h|h
       .have v:ps[j]? = some ps[j]:=B3 h;generalize ps[j]=p at v;have k:=B6 v;obtain⟨A,T,U⟩:=Ap0 (P.ctx g) [] G p (B p k);simp only[Aq (ω:(j:Int)<(ps.length:Int)),Al,Bu rfl v,Ad,T,C3 h ω];cases y:Ko x.D x.V x.E p with
        | true=>
         refine .inl ⟨_,rfl,⟨j+1,A,rfl,ω,U,λq w=>?_⟩,ζ⟩;rw[Dd v]at w;rcases D7.1 w with w|w
         .exact c q w
         .simp only[D0]at w;subst w;exact y
        | false=>refine .inr ⟨.inl false,rfl,rfl,λD=>?_⟩;have:=D p k;rw[y]at this;cases this
       .have:j=ps.length:=ω;subst this;rw[Dq]at c;exact .inr ⟨.inr o,ψ,G,c⟩
      .rintro (r|o) C
       .obtain⟨rfl,C⟩:=C;exact⟨_,rfl,.inr ⟨λh=>C h.2,rfl⟩⟩
       .exact⟨_,rfl,.inl ⟨⟨P,C.2⟩,o,rfl,C.1⟩⟩
 .rw[Aq ω];exact⟨_,rfl,.inr ⟨λh=>l h.1.1,rfl⟩⟩
theorem A2l {vars:List Ag} {res:Ag} {m:Br} (h:Jo data vars res m=true) (k:MSz m):CMo m:=by
 have q:=(A1l h).2;unfold Jo at h;simp only[D3,D4]at h;obtain⟨⟨v,w⟩,E⟩:=h;have b:∀f∈m.F,0<=D8 data vars res f:=by intro f q;obtain⟨j,s⟩:=Ik q;have:=K1 v s;simp only[Pc,D3,D4]at this;omega
 have o:∀a∈m.A,1<=a.P/\G4 a.L=true/\a.L.T≠[]:=by intro a o;obtain⟨j,s⟩:=Ik o;have:=K1 w s;simp only[Pd,D3,D4]at this;refine⟨this.1.1.1.1,this.1.1.1.2,λe=>?_⟩;have i:=this.1.1.2;rw[e]at i;simp at i
 obtain⟨F,G,C⟩:=Apc m.A λa h=>by have:=(o a h).1;omega
 have f1:=A0g m.F b;have H:(m.A.length:Int)<=Dr m.A:=by have u:∀l:List Bc,(∀a∈l,1<=a.P)->(l.length:Int)<=Dr l:=(by intro l;induction l with| nil=>intro _;simp[Dr]| cons f I ih=>intro c;have v:=c f ψ;have w:=ih λg D=>c g (by simp[D]);unfold Dr at *;simp only[map_cons,sum_cons,D9];omega);exact u _ λa h=>(o a h).1
 exact⟨k,q,ω,λa h=>⟨(o a h).2.1,(o a h).2.2,(o a h).1,by have:=C a h;omega⟩⟩
def I4 (x:Cu) (m:Br):Prop:=Jo x.D x.V x.E m=true/\MSz m
theorem I4.cmo {m:Br} (h:I4 x m):CMo m:=A2l h.1 h.2
structure Jp (x:Cu) (p:List Aj):Prop where
 can:Ko x.D x.V x.E p=true
 sz:∀t∈p,TSz t
theorem Jp.cp (h:Jp x p):CP p:=(Ac8.1 h.can).2.1
theorem Jp.mo (h:Jp x p):∀t∈p,I4 x t.M:=λt o=>⟨(Ac8.1 h.can).2.2 t o,(h.sz t o).mo⟩
theorem Jp.of (hc:CP p) (b:∀t∈p,I4 x t.M) (c:∀t∈p,RB 1048576 t.C) (f:p.length<=1000):Jp x p := ⟨Ac8.2 ⟨f,hc,λt h=>(b t h).1⟩,λt h=>⟨c t h,(b t h).2⟩⟩
theorem Jp.tb (h:Jp x p):∀t∈p,RB 1048576 t.C/\I4 x t.M:=λt o=>⟨(h.sz t o).co,h.mo t o⟩
theorem A2m (q:List Aj) (y:RB j r) (D:∀t∈q,RB k t.C) (E:j<34359738000) (F:k<34359738000) (z:q.length<=1048576) : ∃x,Ww q r=some x/\x.length=q.length/\(∀m,cf x m=cf q m*rq r)/\∀t∈x,RB (k+j+2) t.C/\∃u∈q,u.M=t.M:=by
 unfold Ww;refine Ev (λs=>∃(i:Nat) (o:List Aj),s=((i:Int),o)/\i<=q.length/\o.length=i/\(∀m,cf o m=cf (q.take i) m*rq r)/\∀t∈o,RB (k+j+2) t.C/\∃u∈q,u.M=t.M) (λs=>q.length-s.1.toNat) (λo=>o.length=q.length/\(∀m,cf o m=cf q m*rq r)/\∀t∈o,RB (k+j+2) t.C/\∃u∈q,u.M=t.M) ⟨0,[],rfl,ω,rfl,(λm=>by simp only[take_zero,cf];grind),λ_ h=>by cases h⟩ ?_ ?_
 .rintro _ ⟨i,o,rfl,P,l,b,g⟩;rcases Cb i q.length with h|h
  .have C:q[i]? = some q[i]:=B3 h;generalize q[i]=t at C;have f:=B6 C;obtain⟨c,G,H,Q,I⟩:=Yy (D t f) y F E;simp only[Aq (ω:(i:Int)<(q.length:Int)),Al,Bu rfl C,Ad,G,C3 h ω];rw[Dn ζ];refine .inl ⟨_,rfl,⟨i+1,o++[⟨c,t.M⟩],rfl,ω,by simp[l],λm=>?_,λw v=>?_⟩,ζ⟩
   .rw[Qy,b,Dd C,Qy];simp only[cf,I];split <;> grind
   .rcases D7.1 v with v|v
    .exact g w v
    .simp only[D0]at v;subst v;exact⟨H,t,f,rfl⟩
  .have:i=q.length:=ω;subst this;rw[Dq]at b;simp only[Aw (ω:¬(q.length:Int)<(q.length:Int)),Ao];exact .inr ⟨_,rfl,l,b,g⟩
 .rintro o ⟨J,L,M⟩;exact⟨_,rfl,J,L,M⟩
def bc:Nat->Nat->Nat
 | _,0=>1
 | 0,_+1=>0
 | n+1,k+1=>bc n k+bc n (k+1)
theorem Jq (n:Nat):bc n 0=1:=by cases n <;> rfl
theorem Ai1:∀{n k:Nat},n<k->Ha n k=0
 | n,0,h=>absurd h ω
 | n,k+1,h=>by
  rw[Ha];by_cases e:n<k
  .rw[Ai1 e,Nat.zero_mul]
  .rw[show n-k=0 by omega,Nat.mul_zero]
theorem Aq5 (n:Nat):∀k,Ha (n+1) (k+1)=(n+1)*Ha n k
 | 0=>by simp[Ha]
 | k+1=>by rw[Ha,Aq5 n k,Ha,show n+1-(k+1)=n-k by omega,Nat.mul_assoc]
theorem Adi:∀n k,Ha n k=fct k*bc n k
 | n,0=>by rw[Jq];rfl
 | 0,k+1=>by rw[Ai1 ω];simp[bc]
 | n+1,k+1=>by
  have h:=Adi n (k+1);have o:=Adi n k;rw[Aq5,bc,Nat.mul_add,<-h,fct,Ha,Nat.mul_right_comm,<-o];by_cases e:k<=n
  .rw[<-Nat.mul_add,Nat.mul_comm,show k+1+(n-k)=n+1 by omega]
  .rw[Ai1 ω];simp
theorem Y7:∀n k,bc n k<=2 ^ n
 | n,0=>by rw[Jq];exact Nat.one_le_two_pow
 | 0,k+1=>by simp[bc]
 | n+1,k+1=>by have h:=Y7 n (k+1);have o:=Y7 n k;rw[bc,Nat.pow_succ];omega
def cR (n:Nat):A3:=Cn false n 1
theorem Y8 (n:Nat):sv (cR n)=false/\nv (cR n)=n/\dv (cR n)=1:=by
 obtain⟨g,f,c,b⟩:=Apn false n 1 δ;refine⟨?_,?_,?_⟩
 .by_cases h:n=0
  .exact b h
  .exact c h
 .unfold cR;rw[g];simp
 .unfold cR;rw[f];simp
theorem Y9 (h:Bl n<=k) (o:1<=k):RB k (cR n):=N7 _ _ _ _ h (by rw[Nc];exact o) o
theorem A2n:F6 0=some (cR 0):=Vg 0 δ δ
theorem Nd:F6 1=some (cR 1):=Vg 1 δ δ
theorem A2o (n k:Nat) (b:n<1000000000) (h:k<=64):Ou (n:Int) (k:Int)=some (cR (bc n k),true):=by
 unfold Ou;have e:(if (n:Int)>0 then (n:Int) else 0)=(n:Int):=by split <;> omega
 simp only[Aw (ω:¬(k:Int)<0),Ao,Aw (ω:¬(k:Int)>64),Ad,e,Apx n k b h];rw[Adi,show Cn false (fct k*bc n k) (fct k)=Cn false (fct k*bc n k) (fct k*1) by rw[Nat.mul_one],Vi _ _ _ _ (Ac5 k)];rfl
theorem A2p (n k:Nat) (b:n<1000000000) (h:k<=64):Ou (n:Int) (k:Int)=some (cR (bc n k),true):=A2o n k b h
theorem Adj (data:List Am):∀(is:List Ai) (ts:List Ag) (d:Nat),Di data is ts=some d->is.length=ts.length/\∀(j:Nat) (i:Ai) (t:Ag),is[j]? = some i->ts[j]? = some t->∃e,D2 data i t=some e/\e<=d
 | [],[],d,_=>⟨rfl,λj i t h=>by simp at h⟩
 | i::is,t::ts,d,h=>by
  rw[O8]at h;cases o:D2 data i t with
  | none=>rw[o]at h;cases h
  | some a=>
   rw[o,Ad]at h;cases q:Di data is ts with
   | none=>rw[q]at h;cases h
   | some b=>rw[q]at h;have h:a+b=d:=Fa h;obtain⟨v,w⟩:=Adj data is ts b q;refine⟨by simp[v],λj c t' s u=>?_⟩;cases j with| zero=>cases s;cases u;exact⟨a,o,ω⟩| succ j=>obtain⟨e,f,g⟩:=w j c t' s u;exact⟨e,f,ω⟩
 | [],_::_,_,h=>by simp only[Di]at h;cases h
 | _::_,[],_,h=>by simp only[Di]at h;cases h
structure Asc (b:List Int) (n:Nat) (l:List Int):Prop where
 up:l.Pairwise (· < ·)
 mem:∀y,y∈l↔y∈b.take n
theorem Asc.same {b:List Int} {q:Nat} {l:List Int} {x:Int} (h:Asc b (q+1) l) (hp:b[q]? = some x) (hx:b[q+1]? = some x):Asc b (q+2) l:=by
 refine⟨h.up,λy=>?_⟩;rw[Dd hx,D7,h.mem y];constructor
 .exact .inl
 .rintro (h1|h1)
  .exact h1
  .rw[D0]at h1;subst h1;rw[Dd hp];simp
noncomputable def Vr (cmp:α->α->Option Int) (a0:Int):Int×List α->Option ((Int×List α)⊕(Int×List α)):=λ(h,b)=> (show OB from bif h>a0 then ((Ah b h).bind λq=> (Ah b (Ac (h-1))).bind λg=> (cmp q g).bind λs=> some (decide (s<(0:Int)))) else some false).bind λf=>
 bif f then ((Ah b (Ac (h-1))).bind λo=> (Ah b h).bind λc=> (Ah b h).bind λu=> (Ah (C2 b h o) (Ac (h-1))).bind λv=> some (.inl ((Ac (h-1)),(C2 (C2 b h o) (Ac (h-1)) c)))) else some (.inr (h,b))
noncomputable def Vs (cmp:α->α->Option Int) (a0 a1:Int) (g:List α):Option (List α) := (An (S:=(Int×(List α))) (E:=(List α)) (λ(h,b)=> bif h<a1 then ((An (Vr cmp a0) (h,b)).bind λ(o,f)=> some (.inl ((Ac (h+1)),f))) else (some (.inr b))) ((Ac (a0+1)),g)).bind λc=> some c
theorem A2q (A R:List α) (x y:α):((A++y::x::R).set (A.length+1) y).set A.length x=A++x::y::R:=by induction A with| nil=>rfl| cons a A ih=>simp only[Eh,D9,set_cons_succ,ih]
theorem Aq6 (A R:List α) (x:α):(A++x::R)[A.length]? = some x:=by simp
theorem A2r (A R:List α) (x y:α):(A++y::x::R)[A.length+1]? = some x:=by induction A with| nil=>rfl| cons a A ih=>simp
theorem A2s (cmp:α->α->Option Int) (y:α) (R:List α):Vr cmp 0 (0,y::R)=some (.inr (0,y::R)):=by unfold Vr;simp only[Aw (ω:¬(0:Int)>0),Ao,Ad]
theorem A2t {c:α->α->Int} (i:N<=1099511627776) (A R:List α) (u y:α) (b:cmp u y=some (c u y)) (f:(A++y::u::R).length<=N):Vr cmp 0 (((A.length+1:Nat):Int),A++y::u::R) = if c u y<0 then some (.inl ((A.length:Int),A++u::y::R)) else some (.inr (((A.length+1:Nat):Int),A++y::u::R)):=by
 have h:A.length+1<N:=by simp at f;omega
 have g:Ac (((A.length+1:Nat):Int)-1)=(A.length:Int):=by rw[Ac,B8] <;> omega
 unfold Vr;simp only[Aq (ω:((A.length+1:Nat):Int)>0),Al,g,Bu (n:=A.length+1) rfl (A2r A R u y),Bu (n:=A.length) rfl (Aq6 A (u::R) y),Ad,b];by_cases o:c u y<0
 .rw[Aq o,A7 o];simp only[Al];rw[Gv (n:=A.length+1) rfl,Gv (n:=A.length) rfl,A2q];have:Ah ((A++y::u::R).set (A.length+1) y) (A.length:Int)=some y:=(by refine Bu rfl ?_;rw[getElem?_set_ne ω];exact Aq6 A (u::R) y);rw[this];rfl
 .rw[Aw o,Ay o];rfl
theorem A2u {c:α->α->Int} (q:N<=1099511627776) : ∀(n:Nat) (A R:List α) (x:α),A.length=n->(∀t∈A,cmp x t=some (c x t))->(A++x::R).length<=N -> ∃f i,An (Vr cmp 0) ((A.length:Int),A++x::R)=some ((f.length:Int),f++x::(i++R))/\A=f++i/\(∀a∈i,c x a<0)/\∀j y,f=j++[y]->¬c x y<0:=by
 intro n;induction n with
 | zero=>intro A R x g _ _;have:A = []:=Gm.1 g;subst this;exact⟨[],[],Fm (A2s cmp x R),rfl,nofun,(λj y h=>by simp at h)⟩
 | succ n ih=>
  intro A R x g k b;obtain⟨B,y,rfl⟩:∃B y,A=B++[y]:=by
   rcases eq_nil_or_concat A with h|⟨B,y,h⟩
   .rw[h]at g;cases g
   .exact⟨B,y,by simpa using h⟩
  have s:B.length=n:=(by simpa using g);have D:(B++[y])++x::R=B++y::x::R:=ψ;have el:(((B++[y]).length:Nat):Int)=((B.length+1:Nat):Int):=ψ;rw[D]at b ⊢;rw[el];have v:=A2t (cmp:=cmp) (c:=c) q B R x y (k y ψ) b;by_cases w:c x y<0
  .rw[A7 w]at v;obtain⟨f,i,C,E,F,u⟩:=ih B (y::R) x s (λt G=>k t (by simp[G])) (by simpa using b);refine⟨f,i++[y],?_,by rw[E];simp,?_,u⟩
   .rw[Kd v,C];simp
   .intro a o;rcases D7.1 o with o|o
    .exact F a o
    .simp only[D0]at o;subst o;exact w
  .rw[Ay w]at v;refine⟨B++[y],[],?_,ψ,nofun,?_⟩
   .rw[Fm v];simp
   .intro j z l;have:=append_inj' l rfl;have e:y=z:=(by simpa using this.2);subst e;exact w
theorem A2v {c:α->α->Int} (L:Mx c) {f j:List α} {x:α} (u:(f++j).Pairwise λa b=>¬c b a<0) (v:∀a∈j,c x a<0) (w:∀g y,f=g++[y]->¬c x y<0):(f++x::j).Pairwise (λa b=>¬c b a<0):=by
 obtain⟨i,l,k⟩:=pairwise_append.1 u;have C:∀a∈f,¬c x a<0:=by
  intro a o;rcases eq_nil_or_concat f with h|⟨g,y,h⟩
  .rw[h]at o;cases o
  .have h:f=g++[y]:=(by simpa using h);have q:=w g y h;rw[h]at o i;rcases D7.1 o with o|o
   .exact L.ntr x y a q ((pairwise_append.1 i).2.2 a o y ψ)
   .simp only[D0]at o;subst o;exact q
 refine pairwise_append.2 ⟨i,pairwise_cons.2 ⟨λa o h=>L.irr x (L.trs x a x (v a o) h),l⟩,λa o b s=>?_⟩;rcases Fp.1 s with rfl|s
 .exact C a o
 .exact k a o b s
theorem Ai2 {c:α->α->Int} (L:Mx c) (f:List α) (A:∀x∈f,∀y∈f,cmp x y=some (c x y)) (J:f.length<=1099511627776) : ∃R,Vs cmp 0 (f.length:Int) f=some R/\R.Perm f/\R.Pairwise (λa b=>¬c b a<0):=by
 unfold Vs;cases f with
 | nil=>refine⟨[],?_,Perm.refl _,Pairwise.nil⟩;refine Jl 0 (λ_=>((1:Int),([]:List α))) (by simp[Ac,B8]) (λj Q=>ω) ⟨[],?_,rfl⟩;simp
 | cons H B=>
 generalize k:H::B=f at *;have o:1<=f.length:=by rw[<-k];simp
 refine Ev (λs=>∃(i:Nat) (S:List α),s=((i:Int),S++f.drop i)/\1<=i/\i<=f.length/\S.length=i/\S.Perm (f.take i)/\S.Pairwise λa b=>¬c b a<0) (λs=>f.length-s.1.toNat) (λR=>R.Perm f/\R.Pairwise λa b=>¬c b a<0) ⟨1,[H],by rw[<-k];simp[Ac,B8],ω,o,rfl,by rw[<-k];simp,pairwise_singleton _ _⟩ ?_ ?_
 .rintro _ ⟨i,S,rfl,G,T,E,g,l⟩;rcases Cb i f.length with h|h
  .have F:f[i]? = some f[i]:=B3 h;have v:f[i]∈f:=getElem_mem h;generalize f[i]=x at F v;have D:f.drop i=x::f.drop (i+1):=J3 F;have z:(S++x::f.drop (i+1)).length=f.length:=ζ;simp only[Aq (ω:(i:Int)<(f.length:Int)),Al,C3 h ω];rw[D];left;obtain⟨u,q,w,C,M,I⟩:=A2u (cmp:=cmp) (c:=c) (N:=f.length) ω S.length S (f.drop (i+1)) x rfl (λt P=>A x v t (mem_of_mem_take (g.mem_iff.1 P))) (by rw[z];exact Nat.le_refl _);rw[E]at w;have hp:(u++x::q).Perm (f.take (i+1)):=(by rw[Dd F];have:(u++x::q).Perm ((u++q)++[x]):=(by rw[append_assoc];exact Perm.append_left u (perm_append_singleton x q).symm);exact this.trans (by rw[<-C];exact g.append_right [x]));refine⟨(((i+1:Nat):Int),(u++x::q)++f.drop (i+1)),bnd w ψ,⟨i+1,u++x::q,rfl,ω,ω,?_,hp,?_⟩,ζ⟩
   .rw[hp.length_eq,length_take];omega
   .rw[C]at l;exact A2v L l M I
  .have:i=f.length:=ω;subst this;rw[Dq]at g;simp only[Aw (ω:¬(f.length:Int)<(f.length:Int)),Ao,drop_length,append_nil];exact .inr ⟨S,rfl,g,l⟩
 .rintro R ⟨w,C⟩;exact⟨R,rfl,w,C⟩
noncomputable def Adk (B:Nat) (gr:Int->Option (List α)) (a0:List (List α)):Option (List α) := (An (S:=(Int×Int)) (E:=Int) (λ(o,q)=> bif q<(a0.length:Int) then ((Ah a0 q).bind λs=> bif (Ac (o+(s.length:Int)))<(0:Int) then (none) else (some (.inl ((Ac (o+(s.length:Int))),(Ac (q+1)))))) else (some (.inr o))) (0,0)).bind λu=> (gr u).bind λi=> (An (S:=(Int×(List α))) (E:=(List α)) (λ(b,c)=> bif b<(a0.length:Int) then ((Ah a0 b).bind λf=> (B4 B c f).bind λh=> some (.inl ((Ac (b+1)),h))) else (some (.inr c))) (0,i)).bind λg=> some g
theorem Ai3 {B:Nat} (g:B<=1024) {gr:Int->Option (List α)} (hg:∀n:Nat,n<=1000000->gr (n:Int)=some []) (a b:List α) (h:a.length+b.length<=1000000):Adk B gr [a,b]=some (a++b):=by
 have v:a.length*B<=1000000*1024:=Nat.mul_le_mul ω g;have w:(a.length+b.length)*B<=1000000*1024:=Nat.mul_le_mul h g;have f:Ac 1=1:=by rw[Ac,B8] <;> omega
 have c:Ac 2=2:=by rw[Ac,B8] <;> omega
 have k:Ac (a.length:Int)=(a.length:Int):=by rw[Ac,B8] <;> omega
 have i:Ac ((a.length:Int)+(b.length:Int))=((a.length:Int)+(b.length:Int)):=by rw[Ac,B8] <;> omega
 have o:Ah [a,b] 0=some a:=rfl;have s:Ah [a,b] 1=some b:=rfl;have q:B4 B [] a=some a:=by rw[Dn ζ];rfl
 have l:B4 B a b=some (a++b):=Dn ω;unfold Adk;refine Jl 2 (λj=>if j=0 then (0,0) else if j=1 then ((a.length:Int),1) else (((a.length+b.length:Nat):Int),2)) rfl ?_ ⟨((a.length+b.length:Nat):Int),?_,?_⟩
 .intro j u;rcases (ω:j=0\/j=1) with rfl|rfl
  .have:¬((a.length:Int)<0):=ω;simp[o,k,f,this]
  .have:¬((a.length:Int)+(b.length:Int)<0):=ω;simp[s,i,c,this]
 .simp
 .rw[hg _ h,Ad];refine Jl 2 (λj=>if j=0 then (0,[]) else if j=1 then (1,a) else (2,a++b)) rfl ?_ ⟨a++b,?_,rfl⟩
  .intro j u;rcases (ω:j=0\/j=1) with rfl|rfl
   .simp[o,f,q]
   .simp[s,c,l]
  .simp
def sm:Nat->(Nat->Nat)->Nat
 | 0,_=>0
 | n+1,f=>sm n f+f n
theorem Vt {f g:Nat->Nat}:∀{n:Nat},(∀k,k<n->f k=g k)->sm n f=sm n g
 | 0,_=>rfl
 | n+1,h=>by rw[sm,sm,Vt (n:=n) λk o=>h k ω,h n ω]
theorem Td (f g:Nat->Nat):∀n,sm n (λk=>f k+g k)=sm n f+sm n g
 | 0=>rfl
 | n+1=>by simp only[sm,Td f g n];omega
theorem Aq7 (c:Nat) (f:Nat->Nat):∀n,sm n (λk=>c*f k)=c*sm n f
 | 0=>rfl
 | n+1=>by simp only[sm,Aq7 c f n,Nat.mul_add]
theorem Te {f:Nat->Nat}:∀{n:Nat},(∀k,k<n->f k=0)->sm n f=0
 | 0,_=>rfl
 | n+1,h=>by rw[sm,Te (n:=n) λk o=>h k ω,h n ω]
theorem Adl (f:Nat->Nat):∀n,sm (n+1) f=f 0+sm n (λk=>f (k+1))
 | 0=>by simp[sm]
 | n+1=>by rw[sm,Adl f n,sm];omega
theorem Aq8 {f:Nat->Nat} {n:Nat}:∀{m:Nat},n<=m->(∀k,n<=k->f k=0)->sm m f=sm n f
 | 0,h,_=>by rw[show n=0 by omega]
 | m+1,h,o=>by
  by_cases e:n=m+1
  .rw[e]
  .rw[sm,Aq8 (m:=m) ω o,o m ω,Nat.add_zero]
theorem Za {f:Nat->Nat} (o:k<n) (h:∀j,j≠k->f j=0):sm n f=f k:=by
 induction n with
 | zero=>omega
 | succ n ih=>
  rw[sm];by_cases e:k=n
  .subst e;rw[Te λj q=>h j ω,Nat.zero_add]
  .rw[ih ω,h n ω,Nat.add_zero]
theorem Tf:∀n,bc n n=1
 | 0=>rfl
 | n+1=>by
  rw[bc,Tf n]
  have:bc n (n+1)=0:=by have:=bc_big2 n (n+1) ω;exact this
  omega
where bc_big2:∀n k,n<k->bc n k=0
 | n,0,h=>absurd h ω
 | 0,k+1,_=>rfl
 | n+1,k+1,h=>by rw[bc,bc_big2 n k ω,bc_big2 n (k+1) ω]
theorem Vu (h:n<k):bc n k=0:=Tf.bc_big2 n k h
theorem Vv (n k:Nat):bc (n+1) (k+1)=bc n k+bc n (k+1):=by rw[bc]
def Rc (a b k:Nat):Nat:=if b<=k then bc k a*bc a (k-b) else 0
theorem Aq9 (h:a+b<k):Rc a b k=0:=by unfold Rc;rw[A7 ω,Vu (show a<k-b by omega),Nat.mul_zero]
theorem A2w (h:k<a):Rc a b k=0:=by
 unfold Rc;split
 .rw[Vu h,Nat.zero_mul]
 .rfl
theorem Zb (b k:Nat):Rc 0 b k=if k=b then 1 else 0:=by
 unfold Rc;by_cases h:k=b
 .subst h;rw[A7 (Nat.le_refl _),A7 rfl,Nat.sub_self,Jq,Jq]
 .rw[Ay h];split
  .rw[Vu (show 0<k-b by omega),Nat.mul_zero]
  .rfl
theorem Zc (a k:Nat):Rc a 0 k=if k=a then 1 else 0:=by
 unfold Rc;rw[A7 (Nat.zero_le _),Nat.sub_zero];by_cases h:k=a
 .subst h;rw[A7 rfl,Tf]
 .rw[Ay h];rcases Cb k a with o|o
  .rw[Vu o,Nat.zero_mul]
  .rw[Vu (show a<k by omega),Nat.mul_zero]
theorem Ara (a b k:Nat):Rc (a+1) (b+1) (k+1)=Rc a (b+1) k+Rc (a+1) b k+Rc a b k:=by
 unfold Rc;by_cases h:b<=k
 .rw[A7 ω,A7 h,A7 h,show k+1-(b+1)=k-b by omega,Vv];by_cases o:b+1<=k
  .rw[A7 o];obtain⟨j,q⟩:∃j,k-b=j+1:=⟨k-b-1,ω⟩;rw[q,show k-(b+1)=j by omega,Vv];simp only[Nat.add_mul,Nat.mul_add];omega
  .rw[Ay o,show k-b=0 by omega,Jq,Jq];omega
 .rw[Ay ω,Ay h,Ay h,Ay ω]
theorem Arb (a b:Nat):Rc (a+1) (b+1) 0=0:=by unfold Rc;rw[Ay ω]
theorem A2x (f:Nat->Nat) (n N:Nat):sm (N+1) (λk=>f k*bc (n+1) k)=sm (N+1) (λk=>f k*bc n k)+sm N (λk=>f (k+1)*bc n k):=by
 rw[Adl,Adl λk=>f k*bc n k,Jq,Jq];have:sm N (λk=>f (k+1)*bc (n+1) (k+1))=sm N (λk=>f (k+1)*bc n (k+1))+sm N (λk=>f (k+1)*bc n k):=by rw[<-Td];exact Vt λk _=>by rw[Vv,Nat.mul_add];omega
 rw[this];omega
theorem Zd:∀(n a b N:Nat),a+b<N->sm N (λk=>Rc a b k*bc n k)=bc n a*bc n b
 | n,0,b,N,h=>by rw[Jq,Nat.one_mul,Za (k:=b) ω λj o=>by rw[Zb,Ay o,Nat.zero_mul],Zb,A7 rfl,Nat.one_mul]
 | n,a+1,0,N,h=>by rw[Jq,Nat.mul_one,Za (k:=a+1) ω λj o=>by rw[Zc,Ay o,Nat.zero_mul],Zc,A7 rfl,Nat.one_mul]
 | 0,a+1,b+1,N,h=>by rw[show bc 0 (a+1)=0 from rfl,Nat.zero_mul];refine Te λk _=>?_;cases k with| zero=>rw[Arb,Nat.zero_mul]| succ k=>rw[show bc 0 (k+1)=0 from rfl,Nat.mul_zero]
 | n+1,a+1,b+1,N,h=>by obtain⟨N,rfl⟩:∃M,N=M+1:=⟨N-1,ω⟩;rw[A2x,Zd n (a+1) (b+1) (N+1) h];have q:=Zd n a (b+1) N ω;have s:=Zd n (a+1) b N ω;have u:=Zd n a b N ω;have c:sm N (λk=>Rc (a+1) (b+1) (k+1)*bc n k)=sm N (λk=>Rc a (b+1) k*bc n k)+sm N (λk=>Rc (a+1) b k*bc n k)+sm N (λk=>Rc a b k*bc n k):=(by rw[<-Td,<-Td];exact Vt λk _=>by rw[Ara,Nat.add_mul,Nat.add_mul]);rw[c,q,s,u,Vv,Vv,Nat.add_mul,Nat.mul_add,Nat.mul_add];omega
theorem A2y {f:Nat->Nat} (h:∀n,n<N->sm N (λk=>f k*bc n k)=sm N λk=>g k*bc n k):∀k,k<N->f k=g k:=by
 intro k;induction k using Nat.strongRecOn with
 | ind k ih=>
  intro s;have o:∀F:Nat->Nat,sm N (λj=>F j*bc k j)=sm k (λj=>F j*bc k j)+F k:=by
   intro F;have e:sm N (λj=>F j*bc k j)=sm (k+1) (λj=>F j*bc k j):=Aq8 ω λj q=>by rw[Vu ω,Nat.mul_zero]
   rw[e,sm,Tf,Nat.mul_one]
  have:=h k s;rw[o f,o g,Vt (f:=λj=>f j*bc k j) (g:=λj=>g j*bc k j) λj q=>by rw[ih j q ω]]at this;omega
theorem Ai4:Wt=some true:=by kernel_rfl
def Arc (l:List Bc):List Int:=l.flatMap λa=>a.L.T.map (·.v)
def Adm (m:Br):List Int:=m.F.map (·.v)++Arc m.A
theorem Ard (l:List Int) (b:l.length<=1099511627776):Uh l l=some true:=by
 unfold Uh;rw[Hw rfl,Ao];refine F7 l (λj=>(j:Int)) rfl ω ?_ ?_
 .intro j x u v o q s;simp only[o,q,s,Al,Ad,bne_self_eq_false,Ao]
 .intro h;exact⟨.inr (),by simp only[h];rfl,rfl⟩
theorem A2z (a:A3) (h:a.U.length<=1099511627776) (o:a.B.length<=1099511627776):T9 a a=some true:=by unfold T9;rw[beq_self_eq_true,Al,Ard _ h,Ad,Al,Ard _ o,Ad]
structure PSt (K:Nat) (n:Nat) (b:List Aj):Prop where
 le:n<=b.length
 cp:CP (b.take n)
 tm:∀t∈b.take n,RB K t.C/\MSz t.M
theorem PSt.mono {c:Nat} {b:List Aj} (h:PSt K n b) (f:K<=c):PSt c n b:=⟨h.le,h.cp,λt o=>⟨((h.tm t o).1).mono f,(h.tm t o).2⟩⟩
theorem Are:∀(k:Nat) (t:Ag) (a:Int),Bw t<=k->k<1099511627776->∃r,P7 k t a=some r/\True:=by
 intro k;induction k with
 | zero=>intro i a h;have:=Jm i;omega
 | succ k ih=>
  intro i a h s;have f:=Jm i;have g:=K2 i.R;rw[P7];refine O5 ⟨_,rfl,trivial⟩ ?_;refine Ev (λ(v,_)=>∃j:Nat,v=j/\j<=i.R.length) (λ(v,_)=>i.R.length-v.toNat) (λ_=>True) ⟨0,rfl,ω⟩ ?_ ?_
  .rintro⟨v,b⟩ ⟨j,rfl,u⟩;rcases Cb j i.R.length with o|o
   .have q:i.R[j]? = some i.R[j]:=B3 o;generalize i.R[j]=x at q;have l:=J1 (B6 q);obtain⟨⟨y,z⟩,c,_⟩:=ih x b ω ω;simp only[Aq (ω:(j:Int)<(i.R.length:Int)),Al,Bu rfl q,Ad,c,C3 o ω];cases y with| false=>exact .inr ⟨_,rfl,trivial⟩| true=>exact .inl ⟨_,rfl,⟨j+1,rfl,ω⟩,by simp only[Int.toNat_natCast];omega⟩
   .have:j=i.R.length:=ω;subst this;exact .inr ⟨.inr b,ψ,trivial⟩
  .rintro (⟨x,y⟩|e) _
   .exact⟨_,rfl,trivial⟩
   .exact⟨_,rfl,trivial⟩
theorem Arf (t:Ag) (h:Bw t<=1048576):∃b,Ua t=some b:=by unfold Ua;obtain⟨r,o,_⟩:=Are 4000000 t 250 ω ω;exact⟨_,by rw[o];rfl⟩
theorem A20 (l:List Ag) (n:Int) (c:l.length<=1048576) (h:∀t∈l,Bw t<=1048576):∃b,W1 l n=some b/\True:=by
 unfold W1;refine Ev (λv=>∃j:Nat,v=j/\j<=l.length) (λv=>l.length-v.toNat) (λ_=>True) ⟨0,rfl,ω⟩ ?_ ?_
 .rintro v ⟨j,rfl,u⟩;rcases Cb j l.length with o|o
  .have q:l[j]? = some l[j]:=B3 o;generalize l[j]=x at q;obtain⟨b,s⟩:=Arf x (h x (B6 q));simp only[Aq (ω:(j:Int)<(l.length:Int)),Al,Bu rfl q,Ad,s,C3 o ω];cases decide ((j:Int)<=n) with
   | false=>exact .inr ⟨_,rfl,trivial⟩
   | true=>cases b with| false=>exact .inr ⟨_,rfl,trivial⟩| true=>exact .inl ⟨_,rfl,⟨j+1,rfl,ω⟩,by simp only[Int.toNat_natCast];omega⟩
  .simp only[Aw (ω:¬(j:Int)<(l.length:Int)),Ao];exact .inr ⟨_,rfl,trivial⟩
 .rintro (r|r) _
  .exact⟨_,rfl,trivial⟩
  .exact⟨_,rfl,trivial⟩
theorem A21 (l:List Am) (f:DSz l):∃b,W0 l=some b/\True:=by
 unfold W0;have A:=f.len;refine O5 ⟨_,rfl,trivial⟩ ?_;refine Ev (λv=>∃j:Nat,v=j/\j<=l.length) (λv=>l.length-v.toNat) (λ_=>True) ⟨0,rfl,ω⟩ ?_ ?_
 .rintro v ⟨j,rfl,L⟩;rcases Cb j l.length with F|F
  .have G:l[j]? = some l[j]:=B3 F;generalize l[j]=x at G;obtain⟨M,J⟩:=f.sz x (B6 G);simp only[Aq (ω:(j:Int)<(l.length:Int)),Al,Bu rfl G,Ad,C3 F ω];have o:∃q,(bif decide ((x.S.size:Int)>40) then some true else some (decide ((x.O.length:Int)>10)))=some q:=(by cases decide ((x.S.size:Int)>40) <;> exact⟨_,rfl⟩);obtain⟨q,o⟩:=o
   erw[o];simp only[Ad];cases q with
   | true=>exact .inr ⟨_,rfl,trivial⟩
   | false=>
    simp only[Ao];have C:∀(W:Option (Int⊕(Bool⊕Unit))),(∃r,W=some r/\(r = .inl ((j+1:Nat):Int)\/∃e,r = .inr e))->(∃D,W=some (Sum.inl D)/\(∃j:Nat,D=(j:Int)/\j<=l.length)/\l.length-D.toNat<l.length-((j:Int)).toNat)\/∃e,W=some (Sum.inr e)/\True:=by
     rintro W ⟨r,rfl,rfl|⟨e,rfl⟩⟩
     .exact .inl ⟨_,rfl,⟨j+1,rfl,ω⟩,by simp only[Int.toNat_natCast];omega⟩
     .exact .inr ⟨_,rfl,trivial⟩
    refine C _ ?_;refine Ev (λv=>∃j:Nat,v=j/\j<=x.O.length) (λv=>x.O.length-v.toNat) (λ_=>True) ⟨0,rfl,ω⟩ ?_ ?_
    .rintro v ⟨i,rfl,P⟩;rcases Cb i x.O.length with E|E
     .have H:x.O[i]? = some x.O[i]:=B3 E;generalize x.O[i]=y at H;have d1:=J y (B6 H);have d2:=K2 y.R;simp only[Aq (ω:(i:Int)<(x.O.length:Int)),Al,Bu rfl H,Ad,C3 E ω];have o:∃q,(bif decide ((y.S.size:Int)>40) then some true else some (decide ((y.R.length:Int)>8)))=some q:=(by cases decide ((y.S.size:Int)>40) <;> exact⟨_,rfl⟩);obtain⟨q,o⟩:=o
      erw[o];simp only[Ad];cases q with
      | true=>exact .inr ⟨_,rfl,trivial⟩
      | false=>
       simp only[Ao];have C:∀(W:Option (Int⊕(Bool⊕Int))),(∃r,W=some r/\(r = .inl ((i+1:Nat):Int)\/∃e,r = .inr e))->(∃D,W=some (Sum.inl D)/\(∃j:Nat,D=(j:Int)/\j<=x.O.length)/\x.O.length-D.toNat<x.O.length-((i:Int)).toNat)\/∃e,W=some (Sum.inr e)/\True:=by
        rintro W ⟨r,rfl,rfl|⟨e,rfl⟩⟩
        .exact .inl ⟨_,rfl,⟨i+1,rfl,ω⟩,by simp only[Int.toNat_natCast];omega⟩
        .exact .inr ⟨_,rfl,trivial⟩
       refine C _ ?_;refine Ev (λs=>∃j:Nat,s.1=j/\j<=y.R.length) (λs=>y.R.length-s.1.toNat) (λ_=>True) ⟨0,rfl,ω⟩ ?_ ?_
       .rintro⟨_,w⟩ ⟨u,rfl,Q⟩;rcases Cb u y.R.length with I|I
        .have c:y.R[u]? = some y.R[u]:=B3 I;generalize y.R[u]=t at c;have z:=J1 (B6 c);obtain⟨⟨g,k⟩,h,_⟩:=Are 4000000 t w ω ω;simp only[Aq (ω:(u:Int)<(y.R.length:Int)),Al,Bu rfl c,Ad,h,C3 I ω];cases g with| false=>exact .inr ⟨_,rfl,trivial⟩| true=>exact .inl ⟨_,rfl,⟨u+1,rfl,ω⟩,by simp only[Int.toNat_natCast];omega⟩
        .simp only[Aw (ω:¬(u:Int)<(y.R.length:Int)),Ao];exact .inr ⟨_,rfl,trivial⟩
       .rintro (r|r) _
        .exact⟨_,rfl,.inr ⟨_,rfl⟩⟩
        .exact⟨_,rfl,.inl rfl⟩
     .simp only[Aw (ω:¬(i:Int)<(x.O.length:Int)),Ao];exact .inr ⟨_,rfl,trivial⟩
    .rintro (r|r) _
     .exact⟨_,rfl,.inr ⟨_,rfl⟩⟩
     .exact⟨_,rfl,.inl rfl⟩
  .simp only[Aw (ω:¬(j:Int)<(l.length:Int)),Ao];exact .inr ⟨_,rfl,trivial⟩
 .rintro (r|r) _
  .exact⟨_,rfl,trivial⟩
  .exact⟨_,rfl,trivial⟩
theorem A22 (x:Cu) (f:CSz x):∃b,Wv x=some b:=by unfold Wv;obtain⟨a,h,_⟩:=A21 x.D f.ds;obtain⟨b,o,_⟩:=A20 x.V 40 f.nv f.vs;obtain⟨c,q⟩:=Arf x.E f.rs;rw[h,o,q];cases a <;> cases b <;> exact⟨_,rfl⟩
theorem CP.dst (h:CP p):Dst p:=h.srt.imp λ{a b} c e=>by unfold ltT at c;rw[N8.2 e]at c;omega
theorem Arg:Mx (λt u:Aj=>Ea t.M u.M) where
 irr x:=by
  show ¬Ea x.M x.M<0
  rw[Ap8];omega
 trs x y z o h:=Vo o h
 ntr x y z o h:=by
  show ¬Ea x.M z.M<0
  have o:¬Ea x.M y.M<0:=o
  have h:¬Ea y.M z.M<0:=h
  intro q
  rcases Int.lt_trichotomy (Ea x.M y.M) 0 with k|k|k
  .exact o k
  .rw[N8.1 k]at q;exact h q
  .exact h (Vo (Aig.1 k) q)
def Adn (b:List Aj):List Aj:=b.mergeSort λt u=>decide (Ea t.M u.M<=0)
theorem Arh (b:List Aj):(Adn b).Perm b:=mergeSort_perm _ _
theorem A23 (f:List Aj) (s:Dst f):(Adn f).Pairwise ltT:=by
 have o:=pairwise_mergeSort (le:=λt u:Aj=>decide (Ea t.M u.M<=0)) (λa b c o q=>by
  simp only[D4]at *
  have:=Arg.ntr c b a (by show ¬Ea _ _<0;rw[Vn];omega) (by show ¬Ea _ _<0;rw[Vn];omega)
  have this:¬Ea c.M a.M<0:=this
  rw[Vn]at this;omega) (λa b=>by
  simp only[Bool.or_eq_true,D4]
  rw[Vn a.M b.M];omega) f
 have q:(Adn f).Pairwise λt u=>t.M≠u.M:=((Arh f).pairwise_iff λ{x y} h=>h.symm).2 s
 refine (o.and q).imp λ{t u} h=>?_
 have a:=of_decide_eq_true h.1
 have b:Ea t.M u.M≠0:=λe=>h.2 (N8.1 e)
 unfold ltT;omega
theorem Ari (b:List Aj) (o:Dst b) (f:∀t∈b,MSz t.M):∃R,Nr b=some R/\R.Perm b/\R.Pairwise ltT:=by
 rcases Cb 12 b.length with h|h
 .have e:Nat.ble b.length 12=false:=(by cases k:Nat.ble b.length 12 with| false=>rfl| true=>have:=Nat.le_of_ble_eq_true k;omega);unfold Nr;rw[e,Ao];obtain⟨r,g,i,s,v,hp,w⟩:=Al9 (cmp:=Oq) (l:=b) (r:=Adn b) ⟨_,Arg,λx C y _=>Aiy x y (f x C),Arh b,A23 b o⟩;refine⟨r,g,hp,?_⟩;refine (Pairwise.imp_of_mem (S:=ltT) (λ{t u} q D h=>?_) w);have c:=v t (hp.mem_iff.1 q) u (hp.mem_iff.1 D);rw[Aiy t u (f t (hp.mem_iff.1 q))]at c;have c:=Fa c;unfold ltT;rw[c];exact h
 .exact A2j b o f h
theorem A24:∀(k:Nat),k<1099511627776->(∀i:Ai,2*Bt i<=k->Rv k i i=some true)/\(∀l:List Ai,2*B5 l+1<=k->Un k l l=some true):=by
 intro k;induction k with
 | zero=>exact λ_=>⟨λi h=>(by have:=Fe i;omega),λl h=>ω⟩
 | succ k ih=>
  intro v;have ih:=ih ω;refine⟨λi h=>?_,λl h=>?_⟩
  .have:=Fe i;rw[Rv,beq_self_eq_true,Al,ih.2 i.K ω];rfl
  .have b:=O7 l;rw[Un,bne_self_eq_false,Ao];refine F7 l (λj=>(j:Int)) rfl ω ?_ ?_
   .intro j x w o q s u;have:=K6 (B6 o);simp only[q,s,u,Al,Ad,ih.1 x ω,bnt,Ao]
   .intro h;exact⟨.inr (),by simp only[h];rfl,rfl⟩
theorem A25 (l:Bz) (h:l.T.length<=1048576):Xa l l=some true:=by
 unfold Xa;rw[bne_self_eq_false,bne_self_eq_false];simp only[Ao,Ad];refine F7 l.T (λj=>(j:Int)) rfl ω ?_ ?_
 .intro j x u v o q s;simp only[o,q,s,Al,Ad,beq_self_eq_true,Bool.and_true,bnt,Ao]
 .intro h;exact⟨.inr (),by simp only[h];rfl,rfl⟩
theorem A26 (m:Br) (h:MSz m):Wx m m=some true:=by
 have c:=h.nf;have b:=h.na;unfold Wx;rw[bne_self_eq_false,bne_self_eq_false];simp only[Ao,Ad];refine F7 m.F (λj=>(j:Int)) rfl ω ?_ ?_
 .intro j x v q o s u;have:=h.fi x (B6 q);simp only[o,s,u,Al,Ad,bne_self_eq_false,(A24 4000000 ω).1 x.I ω,bnt,Ao]
 .intro o;refine⟨.inr (),by simp only[o];rfl,?_⟩;dsimp only;refine F7 m.A (λj=>(j:Int)) rfl ω ?_ ?_
  .intro j x v q o s u;have:=h.al x (B6 q);simp only[o,s,u,Al,Ad,bne_self_eq_false,A25 x.L ω,bnt,Ao]
  .intro o;exact⟨.inr (),by simp only[o];rfl,rfl⟩
theorem Ai5 (p:List Aj) (b:p.length<=1048576) (h:∀t∈p,MSz t.M/\RB 34359738000 t.C):Om p p=some true:=by
 unfold Om;rw[bne_self_eq_false];simp only[Ao];refine F7 p (λj=>(j:Int)) rfl ω ?_ ?_
 .intro j x C s o u v;obtain⟨w,q⟩:=h x (B6 s);simp only[o,u,v,Al,Ad,A2z x.C (by have:=q.nl;omega) (by have:=q.dl;omega),A26 x.M w,bnt,Ao]
 .intro o;exact⟨.inr (),by simp only[o];rfl,rfl⟩
theorem A27 (g:CSz x) (b:∀p∈ps,∀t∈p,TSz t) (i:ps.length<=1048576) (h:¬(Ia x/\∀p∈ps,Ko x.D x.V x.E p=true)):L3 x ps=some (.inr false):=by
 obtain⟨r,f,c⟩:=Aq4 x g ps b i;rcases c with⟨o,_⟩|⟨_,rfl⟩
 .exact (h o).elim
 .exact f
theorem Arj (i:CSz x) (c:∀p∈ps,∀t∈p,TSz t) (k:ps.length<=1048576) (h:Ia x/\∀p∈ps,Ko x.D x.V x.E p=true):∃b,L3 x ps=some (.inl (true,x,b,[],x.D,x.V,x.E.G,x.E.U,x.E.R))/\Dm x.D x.V x.E b:=by
 obtain⟨r,g,f⟩:=Aq4 x i ps c k;rcases f with⟨_,b,e,j⟩|⟨o,_⟩
 .exact⟨b,by rw[g,e],j⟩
 .exact (o h).elim
structure PR (x:Cu) (n:Nat) (f:Br->Rat) (R:List Aj):Prop where
 cp:CP R
 val:∀m,cf R m=f m
 tb:∀t∈R,I4 x t.M/\RB 8589934592 t.C
 len:R.length<=n
theorem A28 (h:Col k (I4 x) ts) (u:k<8589934592) (l:ts.length<=1000):∃R,My (plc ts) ts=some (R,0)/\PR x ts.length (cf ts) R:=by obtain⟨R,j,i,g,b,f⟩:=A2k (P:=I4 x) (λm h=>h.cmo) (plc ts) ts h ω l λc _ q s=>Ari c q s;exact⟨R,j,i,g,λt o=>⟨(b t o).1,(b t o).2.mono ω⟩,f⟩
theorem PR.of {f g:Br->Rat} (h:PR x n f R) (b:n<=m) (hf:∀a,f a=g a):PR x m g R := ⟨h.cp,λa=>by rw[h.val,hf],h.tb,Nat.le_trans h.len b⟩
theorem A29 (u:CSz x) (D:Ia x) (hp:Jp x p) (y:RB 1048576 r) (z:p.length<=1000) : ∃R,T7 x p r=some (R,0)/\PR x p.length (λm=>rq r*cf p m) R:=by obtain⟨A,E,_⟩:=Arj u (ps:=[p]) (λq o=>by simp only[D0]at o;subst o;exact hp.sz) ψ ⟨D,λq o=>by simp only[D0]at o;subst o;exact hp.can⟩;unfold T7;rw[E];simp only[Ad,bnt,Ao,Rp];obtain⟨f,s,c,l,b⟩:=A2m (k:=1048576) p y (λt C=>(hp.tb t C).1) ω ω ω;obtain⟨v,g,F,G,H⟩:=A19 (k0:=1048576+1048576+2) (k:=1048576+1048576+2) (P:=I4 x) (λm h=>h.cmo) f [] (Col.nil _ _) (λt C=>⟨(b t C).1,by obtain⟨w,I,e⟩:=(b t C).2;rw[<-e];exact (hp.tb w I).2⟩) ω (by rw[c];omega) ζ;simp at G;obtain⟨R,j,i⟩:=A28 F (by rw[c];omega) ω;rw[s,Ad,show Lg f [] []=some (plc v,v) from g,Ad,j,Ad];exact⟨R,rfl,i.of ω λm=>by rw[H,l];simp only[cf];grind⟩
theorem Jp.nil (x:Cu):Jp x []:=⟨Ac8.2 ⟨ψ,CP.nil,λt h=>by cases h⟩,λt h=>by cases h⟩
theorem PR.same {f:Br->Rat} {S:List Aj} (h:PR x n f R) (c:n<=1000) (b:CP S) (e:∀m,cf S m=f m):R=S/\Om R S=some true:=by
 have:R=S:=CP.ext h.cp b λm=>by rw[h.val,e]
 subst this;refine⟨rfl,Ai5 R (by have:=h.len;omega) λt o=>⟨(h.tb t o).1.2,(h.tb t o).2.mono ω⟩⟩
def Ze (data:List Am) (t:Ag) (c:Int):List Ag:=match Ht data t c with|some ts=>ts|none=>[]
theorem Ai6:∀n k,bc n k<=n ^ k
 | n,0=>by rw[Jq];exact Nat.le_refl _
 | 0,k+1=>by simp[bc]
 | n+1,k+1=>by have o:=Ai6 n k;have q:=Ai6 n (k+1);have h:n ^ k<=(n+1) ^ k:=Nat.pow_le_pow_left ω k;have b:n ^ (k+1)<=n*(n+1) ^ k:=(by rw[Nat.pow_succ,Nat.mul_comm];exact Nat.mul_le_mul_left _ h);rw[bc,Nat.pow_succ,Nat.mul_add,Nat.mul_one,Nat.mul_comm];omega
theorem A3a (o:Bl a<=K) (hb:Bl b<=K) (c:1<=K) (h:K<60000000000):G6 (cR a) (cR b)=some (cR (a*b)):=by obtain⟨q,s,u⟩:=Y8 a;obtain⟨v,w,f⟩:=Y8 b;rw[Ac0 _ _ K K (Y9 o c) (Y9 hb c) ω ω,q,s,u,v,w,f];simp[cR]
def Sm (a:Nat):Prop:=a<=5000 ^ 6
theorem Sm.of (h:a<=5000 ^ d) (hd:d<=6):Sm a:=Nat.le_trans h (Nat.pow_le_pow_right δ hd)
theorem Ai7 (data:List Am):∀(is:List Ai) (ts:List Ag) (d j:Nat),Di data is ts=some d->∃e,Di data (is.take j) (ts.take j)=some e/\e<=d
 | [],[],d,j,_=>⟨0,by simp[Di],ω⟩
 | i::is,t::ts,d,0,_=>⟨0,by simp[Di],ω⟩
 | i::is,t::ts,d,j+1,h=>by
  rw[O8]at h;cases o:D2 data i t with
  | none=>rw[o]at h;cases h
  | some a=>rw[o,Ad]at h;cases q:Di data is ts with| none=>rw[q]at h;cases h| some b=>rw[q]at h;have h:a+b=d:=Fa h;obtain⟨e,c,f⟩:=Ai7 data is ts b j q;refine⟨a+e,?_,ω⟩;rw[take_succ_cons,take_succ_cons,O8,o,Ad,c];rfl
 | [],_::_,_,_,h=>by simp only[Di]at h;cases h
 | _::_,[],_,_,h=>by simp only[Di]at h;cases h
def Eo:Nat:=1000000000 ^ 100
structure Np (x:A3) (a:Nat):Prop where
 rb:RB 200 x
 s:sv x=false
 n:nv x=a
 d:dv x=1
theorem Ai8 (h:a<Eo):Bl a<=100:=J0 h
theorem Np.cR (h:Bl a<=200):Np (cR a) a:=⟨Y9 h δ,(Y8 a).1,(Y8 a).2.1,(Y8 a).2.2⟩
theorem Np.c (h:a<Eo):Np (Ab.cR a) a:=Np.cR (by have:=Ai8 h;omega)
theorem Np.z:Np ⟨false,[],[]⟩ 0:=⟨A1n 200,by unfold sv;simp,by unfold nv;simp[Ak],by unfold dv;simp[Ak]⟩
theorem Np.add {x:A3} (hx:Np x a) (hy:Np y b):M0 x y=some (Ab.cR (a+b)):=by rw[Ah7 _ _ 200 200 hx.rb hy.rb ω ω,hx.s,hx.n,hx.d,hy.s,hy.n,hy.d];simp[Vh,Qx,Ab.cR]
theorem Np.mul {x:A3} (hx:Np x a) (hy:Np y b):G6 x y=some (Ab.cR (a*b)):=by rw[Ac0 _ _ 200 200 hx.rb hy.rb ω ω,hx.s,hx.n,hx.d,hy.s,hy.n,hy.d];simp[Ab.cR]
theorem Np.sign {x:A3} (hx:Np x a):Iy x=some (if a=0 then 0 else 1):=by rw[Ah5 _ 200 hx.rb ω,hx.s,hx.n];simp[Kn]
theorem Np.can {x:A3} (hx:Np x a):Ji x=some (Ab.cR a):=by rw[Ah4 _ 200 hx.rb ω,hx.s,hx.n,hx.d];rfl
def Ls (n:Nat) (f:Nat->Nat):List A3:=(range n).map λk=>cR (f k)
theorem Lr (n:Nat) (f:Nat->Nat):(Ls n f).length=n:=by simp[Ls]
theorem Lt (f:Nat->Nat) (h:k<n):(Ls n f)[k]? = some (cR (f k)):=by simp[Ls,h]
theorem Zf {l:List A3} {f:Nat->Nat} (b:l.length=n) (h:∀k,k<n->l[k]? = some (cR (f k))):l=Ls n f:=by
 apply ext_getElem?;intro k;rcases Cb k n with o|o
 .rw[h k o,Lt f o]
 .rw[Su ω,Su (by rw[Lr];omega)]
theorem Ado {R:Type} {step:Int×List α->Option ((Int×List α)⊕List α)} {J:List α->Option R} {r:R} {i:Nat} (o:List α) (g:Nat->α) (E:i<=n) (l:o.length=n) (F:∀(j:Nat) (o':List α),i<=j->j<n->o'.length=n->step ((j:Int),o')=some (.inl (((j+1:Nat):Int),o'.set j (g j)))) (x:∀o',o'.length=n->step ((n:Int),o')=some (.inr o')) (y:∀o',o'.length=n->(∀k,k<i->o'[k]? = o[k]?)->(∀k,i<=k->k<n->o'[k]? = some (g k))->J o'=some r):(An step ((i:Int),o)).bind J=some r:=by
 obtain⟨e,z,f⟩:=I9 (step:=step) (λs=>∃(j:Nat) (o':List α),s=((j:Int),o')/\i<=j/\j<=n/\o'.length=n/\(∀k,k<i->o'[k]? = o[k]?)/\∀k,i<=k->k<j->o'[k]? = some (g k)) (λs=>n-s.1.toNat)
  (λo'=>o'.length=n/\(∀k,k<i->o'[k]? = o[k]?)/\∀k,i<=k->k<n->o'[k]? = some (g k)) (by
  rintro _ ⟨j,o',rfl,c,u,v,w,C⟩
  rcases Cb j n with h|h
  .refine .inl ⟨_,F j o' c h v,⟨j+1,o'.set j (g j),rfl,ω,ω,by simp[v],λk G=>?_,λk b q=>?_⟩,ζ⟩
   .rw[getElem?_set_ne ω];exact w k G
   .rcases Cb k j with D|D
    .rw[getElem?_set_ne ω];exact C k b D
    .have:k=j:=ω
     subst this
     rw[getElem?_set_self ω]
  .have:j=n:=ω
   subst this
   exact .inr ⟨o',x o' v,v,w,C⟩) ((i:Int),o) ⟨i,o,rfl,ω,E,l,λ_ _=>rfl,λk v w=>ω⟩
 rw[z,Ad]
 exact y e f.1 f.2.1 f.2.2
theorem A3b (n:Nat) (b:n<=1000):X2 (n:Int)=some (Ls n λ_=>0):=by
 unfold X2;rw[Kk rfl rfl (Nat.le_refl _) ω ω,Ad];refine Ado (i:=0) (n:=n) _ (λ_=>cR 0) ω ψ ?_ ?_ ?_
 .intro j o _ s q;have u:o[j]? = some o[j]:=B3 ω;simp only[length_replicate,Aq (ω:(j:Int)<(n:Int)),Al,A2n,Ad,Bu rfl u,C3 s ω,Gv (n:=j) rfl]
 .intro o h;simp only[length_replicate,Aw (ω:¬(n:Int)<(n:Int)),Ao]
 .intro o v _ q;rw[Zf v (f:=λ_=>0) λk w=>q k ω w]
theorem Ark (n k:Nat) (b:n<1000000000) (o:k<=64):Abu (n:Int) (k:Int)=some (cR (bc n k)):=by
 have h:Uq (n:Int) (k:Int)=some (cR (bc n k)):=by rw[Apx n k b o,Adi,show Cn false (fct k*bc n k) (fct k)=Cn false (fct k*bc n k) (fct k*1) by rw[Nat.mul_one],Vi _ _ _ _ (Ac5 k)];rfl
 exact h
theorem Arl (h:n<=40):bc n k<Eo:=by refine Nat.lt_of_le_of_lt (Y7 n k) ?_;exact Nat.lt_of_le_of_lt (Nat.pow_le_pow_right δ h) δ
theorem Arm (a b:Nat) (E:a<=16) (hb:b<=16):Sa (a:Int) (b:Int)=some (Ls (a+b+1) (Rc a b)):=by
 unfold Sa;have q:Ac ((a:Int)+(b:Int))=((a+b:Nat):Int):=by rw[Ac,B8] <;> omega
 have l:Ac (((a+b:Nat):Int)+1)=((a+b+1:Nat):Int):=by rw[Ac,B8] <;> omega
 have e:(if (b:Int)>(a:Int) then (b:Int) else (a:Int))=((max a b:Nat):Int):=by split <;> omega
 rw[q,l,A3b _ ω,Ad,e];refine Ado (i:=max a b) (n:=a+b+1) _ (λk=>cR (Rc a b k)) ω (by simp[Lr]) ?_ ?_ ?_
 .intro j o v u w;have D:o[j]? = some o[j]:=B3 ω;have g:Ac ((j:Int)-(b:Int))=((j-b:Nat):Int):=ξ;have s:Rc a b j=bc j a*bc a (j-b):=(by unfold Rc;rw[A7 ω]);simp only[Aq (ω:(j:Int)<=((a+b:Nat):Int)),Al,Ark j a ω ω,g,Ark a (j-b) ω ω,Ad,(Np.c (Arl (ω:j<=40))).mul (Np.c (Arl (k:=j-b) (ω:a<=40))),Bu rfl D,C3 u ω,Gv (n:=j) rfl,s]
 .intro o h;simp only[Aw (ω:¬((a+b+1:Nat):Int)<=((a+b:Nat):Int)),Ao]
 .intro o v u w;rw[Zf v (f:=Rc a b) λk C=>?_];rcases Cb k (max a b) with h|h
  .rw[u k h,Lt _ C];have:Rc a b k=0:=by
    rcases (ω:k<a\/k<b) with h|h
    .exact A2w h
    .unfold Rc;rw[Ay ω]
   rw[this]
  .exact w k h C
theorem A3c {f:Nat->Nat} {c:Nat} (B:m<=1000) (A:n<=1000) (C:∀k,k<m->f k<Eo) (hg:∀k,k<n->g k<Eo) (v:c<Eo) : R9 (Ls m f) (Ls n g) (cR c)=some (Ls (max m n) λk=>(if k<m then f k else 0)+(if k<n then g k else 0)*c):=by
 unfold R9;rw[Lr,Lr];have e:(if (n:Int)>(m:Int) then (n:Int) else (m:Int))=((max m n:Nat):Int):=by split <;> omega
 rw[e,Kk rfl rfl (Nat.le_refl _) ω ω,Ad];refine Ado (i:=0) (n:=max m n) _ (λk=>cR ((if k<m then f k else 0)+(if k<n then g k else 0)*c)) ω ψ ?_ ?_ ?_
 .intro j o _ D w;have E:o[j]? = some o[j]:=B3 ω;obtain⟨x,u,s⟩:∃x:A3,(bif decide ((j:Int)<(m:Int)) then ((Ah (Ls m f) (j:Int)).bind λb=>some (b.N,b.U,b.B)) else some (false,[],[]))=some (x.N,x.U,x.B)/\Np x (if j<m then f j else 0):=by
   by_cases h:j<m
   .rw[Aq ω,Al,Bu rfl (Lt f h),A7 h];exact⟨_,rfl,Np.c (C j h)⟩
   .rw[Aw ω,Ao,Ay h];exact⟨⟨false,[],[]⟩,rfl,Np.z⟩
  obtain⟨y,q,l⟩:∃x:A3,(bif decide ((j:Int)<(n:Int)) then ((Ah (Ls n g) (j:Int)).bind λb=>some (b.N,b.U,b.B)) else some (false,[],[]))=some (x.N,x.U,x.B)/\Np x (if j<n then g j else 0)/\(if j<n then g j else 0)<Eo:=by
   by_cases h:j<n
   .rw[Aq ω,Al,Bu rfl (Lt g h),A7 h];exact⟨_,rfl,Np.c (hg j h),hg j h⟩
   .rw[Aw ω,Ao,Ay h];exact⟨⟨false,[],[]⟩,rfl,Np.z,δ⟩
  have F:Bl ((if j<n then g j else 0)*c)<=200:=(by have:=Km (if j<n then g j else 0) c;have:=Ai8 l.2;have:=Ai8 v;omega);have G:Xt x y (cR c)=some (cR ((if j<m then f j else 0)+(if j<n then g j else 0)*c)):=(by unfold Xt;rw[(Np.c v).mul l.1,Ad,Nat.mul_comm c,s.add (Np.cR F)];rfl);simp only[length_replicate,Aq (ω:(j:Int)<((max m n:Nat):Int)),Al]
  erw[u,Ad,q,Ad];dsimp only;rw[G,Ad,Bu rfl E,Ad,C3 D ω,Gv (n:=j) rfl]
 .intro o h;simp only[length_replicate,Aw (ω:¬((max m n:Nat):Int)<((max m n:Nat):Int)),Ao]
 .intro o H _ w;rw[Zf H (f:=λk=>(if k<m then f k else 0)+(if k<n then g k else 0)*c) λk I=>w k ω I]
theorem Ai9 {p:List A3} {f:Nat->Nat} (u:n<1000) (s:p.length=n+1) (hp:∀k,k<n+1->∃x,p[k]? = some x/\Np x (f k)) (b:f n≠0):Nw p=some (Ls (n+1) f):=by
 unfold Nw;obtain⟨x,q,l⟩:=hp n ω;have w:Ac (((n+1:Nat):Int)-1)=(n:Int):=by rw[Ac,B8] <;> omega
 refine bnd (a:=((n+1:Nat):Int)) (Fm ?_) ?_
 .rw[s];simp only[Aq (ω:((n+1:Nat):Int)>0),Al,w,Bu rfl q,Ad,l.sign,Ay b];rfl
 .rw[Kk rfl rfl (Nat.le_refl _) ω ω,Ad];refine Ado (i:=0) (n:=n+1) _ (λk=>cR (f k)) ω ψ ?_ ?_ ?_
  .intro j o _ v C;have D:o[j]? = some o[j]:=B3 ω;obtain⟨y,g,c⟩:=hp j v;simp only[length_replicate,Aq (ω:(j:Int)<((n+1:Nat):Int)),Al,Bu rfl g,c.can,Ad,Bu rfl D,C3 v ω,Gv (n:=j) rfl]
  .intro o h;simp only[length_replicate,Aw (ω:¬((n+1:Nat):Int)<((n+1:Nat):Int)),Ao]
  .intro o E _ C;rw[Zf E (f:=f) λk F=>C k ω F]
def Hb (n d:Nat) (f:Nat->Nat) (k:Nat):Nat:=sm n λa=>f a*Rc a d k
theorem Arn (a d:Nat):0<Rc a d (a+d):=by
 unfold Rc;rw[A7 ω,show a+d-d=a by omega,Tf];have:0<bc (a+d) a:=by
  have h:∀d,0<bc (a+d) a:=by
   intro d;induction d with
   | zero=>rw[Nat.add_zero,Tf];decide
   | succ d ih=>cases a with| zero=>rw[Jq];decide| succ a=>rw[show a+1+(d+1)=(a+1+d)+1 by omega,Vv];omega
  exact h d
 omega
theorem A3d {f:Nat->Nat} {p q:List A3} (a1:n+d<=12) (hp:p=Ls (n+1) f) (i:f n≠0) (hq:q.length=d+1) (R:∀k,k<d+1->∃x,q[k]? = some x/\Np x (if k=d then 1 else 0)) (hf:∀k,k<n+1->f k<Eo) (X:∀a k,a<=n+1->Hb a d f k<Eo):Xi p q=some (Ls (n+d+1) (Hb (n+1) d f),true):=by
 unfold Xi
 have l:p.length=n+1:=by rw[hp,Lr]
 rw[l,hq,Aw ω,Aw ω]
 simp only[Ao,Ad]
 have c1:Nw p=some (Ls (n+1) f):=Ai9 ω l (λk o=>⟨_,by rw[hp];exact Lt f o,Np.c (hf k o)⟩) i
 have c2:Nw q=some (Ls (d+1) λk=>if k=d then 1 else 0):=Ai9 ω hq R ψ
 have w:Ac (((n+1:Nat):Int)+((d+1:Nat):Int))=((n+d+2:Nat):Int):=by rw[Ac,B8] <;> omega
 rw[c1,Ad,c2,Ad,Lr,Lr,Dc ω,Dc ω]
 simp only[Ao,Ad]
 rw[w,Aw ω,Ao]
 obtain⟨r,Z,Y⟩:=Ev (J:=λB=>(Nw B).bind λA=>some (A,true)) (Q:=λr=>r=(Ls (n+d+1) (Hb (n+1) d f),true)) (step:=λ(x:List A3×Int)=>match x with
  | (H,C)=>
   bif C<((n+1:Nat):Int) then (
   (Ah (Ls (n+1) f) C).bind λM=>
   (An (S:=(List A3×Int)) (E:=(List A3×Int)) (λ(g,v)=>
   bif v<((d+1:Nat):Int) then (
   (Ah (Ls (d+1) λk=>if k=d then 1 else 0) v).bind λI=>
   (G6 M I).bind λP=>
   (Iy P).bind λG=>
   bif (G==(0:Int)) then (
   some (.inl (g,(Ac (v+1))))
   )
   else (
   (Sa C v).bind λD=>
   (R9 g D P).bind λa0=>
   some (.inl (a0,(Ac (v+1))))
   )
   )
   else (
   some (.inr (g,v))
   )
    ) (H,0)).bind λ(a2,a3)=>
   some (.inl (a2,(Ac (C+1))))
   )
   else (
   some (.inr H)
   )) (s:=([],0))
  (λs=>∃(a L:Nat) (h:Nat->Nat),s=(Ls L h,(a:Int))/\a<=n+1/\L<=a+d/\(∀k,(if k<L then h k else 0)=Hb a d f k)/\(a=n+1->L=n+d+1)) (λs=>n+1-s.2.toNat)
  (λe=>e=Ls (n+d+1) (Hb (n+1) d f)) ⟨0,0,λ_=>0,rfl,ω,ω,λk=>by simp[Hb,sm],ω⟩ (by
  rintro _ ⟨a,L,h,rfl,ha,hL,z,y⟩
  rcases Cb a (n+1) with F|F
  .left
   have N:Np (cR 0) 0:=Np.c δ
   have b:∀k,Hb (a+1) d f k=Hb a d f k+f a*Rc a d k:=λk=>rfl
   have hh:∀k,k<L->h k<Eo:=λk o=>by
    have:=z k
    rw[A7 o]at this
    rw[this];exact X a k ω
   by_cases W:f a=0
   .refine⟨(Ls L h,((a+1:Nat):Int)),?_,⟨a+1,L,h,rfl,ω,ω,λk=>by rw[b,W,z];simp,λe=>?_⟩,ζ⟩
    .simp only[Aq (ω:(a:Int)<((n+1:Nat):Int)),Al,Bu rfl (Lt f F),Ad,W]
     refine Jl (d+1) (λj=>(Ls L h,(j:Int))) rfl ?_ ⟨(Ls L h,((d+1:Nat):Int)),?_,?_⟩
     .intro j T
      have hy:Np (cR (if j=d then 1 else 0)) (if j=d then 1 else 0):=Np.c (by split <;> decide)
      simp only[Aq (ω:(j:Int)<((d+1:Nat):Int)),Al,Bu rfl (Lt _ T),Ad,N.mul hy,Nat.zero_mul,N.sign,if_true,C3 T ω]
      rfl
     .simp only[Aw (ω:¬((d+1:Nat):Int)<((d+1:Nat):Int)),Ao]
     .rw[C3 F ω]
    .have:a=n:=ω
     subst this;exact (i W).elim
   .have u:=Np.c (hf a F)
    have U:R9 (Ls L h) (Ls (a+d+1) (Rc a d)) (cR (f a))=some (Ls (a+d+1) λk=>(if k<L then h k else 0)+(if k<a+d+1 then Rc a d k else 0)*f a):=by
     rw[A3c ω ω hh (λk o=>?_) (hf a F),show max L (a+d+1)=a+d+1 by omega]
     unfold Rc
     split
     .refine Nat.lt_of_le_of_lt (Nat.mul_le_mul (Y7 k a) (Y7 a (k-d))) ?_
      rw[<-Nat.pow_add]
      exact Nat.lt_of_le_of_lt (Nat.pow_le_pow_right δ (ω:k+a<=40)) δ
     .decide
    refine⟨(Ls (a+d+1) λk=>(if k<L then h k else 0)+(if k<a+d+1 then Rc a d k else 0)*f a,((a+1:Nat):Int)),?_,⟨a+1,a+d+1,_,rfl,ω,ω,λk=>?_,λe=>ω⟩,ζ⟩
    .simp only[Aq (ω:(a:Int)<((n+1:Nat):Int)),Al,Bu rfl (Lt f F),Ad]
     refine Jl (d+1) (λj=>if j<=d then (Ls L h,(j:Int)) else (Ls (a+d+1) λk=>(if k<L then h k else 0)+(if k<a+d+1 then Rc a d k else 0)*f a,(j:Int))) ψ ?_ ⟨((Ls (a+d+1) λk=>(if k<L then h k else 0)+(if k<a+d+1 then Rc a d k else 0)*f a),((d+1:Nat):Int)),?_,?_⟩
     .intro j T
      have hy:Np (cR (if j=d then 1 else 0)) (if j=d then 1 else 0):=Np.c (by split <;> decide)
      rw[A7 ω]
      simp only[Aq (ω:(j:Int)<((d+1:Nat):Int)),Al,Bu rfl (Lt _ T),Ad,u.mul hy,C3 T ω]
      rcases Cb j d with h2|h2
      .rw[Ay (ω:¬j=d),Nat.mul_zero,N.sign,Ad,A7 (ω:j+1<=d)]
       rfl
      .have:j=d:=ω
       subst this
       rw[A7 rfl,Nat.mul_one,u.sign,Ad,Ay W,Arm a j ω ω,Ad,U,Ay ω]
       rfl
     .rw[Ay ω]
      simp only[Aw (ω:¬((d+1:Nat):Int)<((d+1:Nat):Int)),Ao]
     .rw[C3 F ω]
    .rw[b,<-z]
     by_cases o:k<a+d+1
     .rw[A7 o,A7 o,Nat.mul_comm (Rc a d k)]
     .rw[Ay o,Ay ω,Aq9 ω];simp
  .have:a=n+1:=ω
   subst this
   right
   have V:=y rfl
   refine⟨Ls L h,?_,?_⟩
   .simp only[Aw (ω:¬((n+1:Nat):Int)<((n+1:Nat):Int)),Ao]
   .subst V
    refine Zf (Lr _ _) λk o=>?_
    have:=z k
    rw[A7 o]at this
    rw[Lt _ o,this]) (by
  rintro _ rfl
  refine⟨_,bnd (Ai9 (n:=n+d) (f:=Hb (n+1) d f) ω (Lr _ _) (λk o=>⟨_,Lt _ o,Np.c (X _ _ ω)⟩) ?_) rfl,rfl⟩
  have e:Hb (n+1) d f (n+d)=Hb n d f (n+d)+f n*Rc n d (n+d):=rfl
  have:=Nat.mul_pos (Nat.pos_of_ne_zero i) (Arn n d)
  omega)
 rw[<-Y]
 exact Z
theorem A3e (d x N:Nat) (f:Nat->Nat):∀M,(∀a,a<M->a+d<N)->sm N (λk=>Hb M d f k*bc x k)=sm M (λa=>f a*bc x a)*bc x d:=by
 intro M;induction M with
 | zero=>intro _;rw[Te (λk _=>by simp[Hb,sm])];simp[sm]
 | succ M ih=>
  intro h;have e:∀k,Hb (M+1) d f k*bc x k=Hb M d f k*bc x k+f M*(Rc M d k*bc x k):=λk=>by show (Hb M d f k+f M*Rc M d k)*bc x k=_;rw[Nat.add_mul,Nat.mul_assoc]
  rw[Vt λk _=>e k,Td,ih λa o=>h a ω,Aq7,Zd x M d N (h M ω)];show _=(sm M (λa=>f a*bc x a)+f M*bc x M)*bc x d;rw[Nat.add_mul,Nat.mul_assoc (f M)]
theorem A3f (d:Nat) (f:Nat->Nat) (k:Nat):∀{m n:Nat},m<=n->Hb m d f k<=Hb n d f k:=by
 intro m n h;induction n with
 | zero=>have:m=0:=ω;subst this;exact Nat.le_refl _
 | succ n ih=>
  rcases Cb m (n+1) with o|o
  .have:=ih ω;have e:Hb (n+1) d f k=Hb n d f k+f n*Rc n d k:=rfl;omega
  .have:m=n+1:=ω;subst this;exact Nat.le_refl _
def prb (x:Nat):List Bc->Nat
 | []=>1
 | a::l=>bc x a.P.toNat*prb x l
def Dp:List Bc->Nat
 | []=>0
 | a::l=>a.P.toNat+Dp l
theorem Aro (x:Nat) (l m:List Bc):prb x (l++m)=prb x l*prb x m:=by induction l with| nil=>simp[prb]| cons a l ih=>simp only[Eh,prb,ih,Nat.mul_assoc]
theorem Th (l m:List Bc):Dp (l++m)=Dp l+Dp m:=by induction l with| nil=>simp[Dp]| cons a l ih=>simp only[Eh,Dp,ih,Nat.add_assoc]
theorem Aja {m:List Bc} (h:l.Perm m):Dp l=Dp m:=by induction h with| nil=>rfl| cons a _ ih=>simp only[Dp,ih]| swap a b l=>simp only[Dp];omega| trans _ _ o q=>exact o.trans q
theorem A3g (x d:Nat):bc x d<=(x+1) ^ d:=Nat.le_trans (Ai6 x d) (Nat.pow_le_pow_left ω d)
theorem Arp (x:Nat):∀l:List Bc,prb x l<=(x+1) ^ Dp l
 | []=>by simp[prb,Dp]
 | a::l=>by simp only[prb,Dp,Nat.pow_add];exact Nat.mul_le_mul (A3g x _) (Arp x l)
theorem Vx {x:Nat} (o:x<=1048576) (h:Dp l<=12):prb x l<Eo:=by refine Nat.lt_of_le_of_lt (Arp x l) ?_;refine Nat.lt_of_le_of_lt (Nat.pow_le_pow_left (ω:x+1<=1048577) _) ?_;exact Nat.lt_of_le_of_lt (Nat.pow_le_pow_right δ h) δ
def PwN (l:List Bc) (N:Nat) (f:Nat->Nat):Prop:=N=Dp l/\f N≠0/\∀x,sm (N+1) (λk=>f k*bc x k)=prb x l
theorem PwN.le {f:Nat->Nat} (h:PwN l N f) (hk:k<N+1):f k<=prb k l:=by
 have h1:=h.2.2 k;have h2:f k*bc k k<=sm (N+1) (λj=>f j*bc k j):=by
  have:∀n,k<n->f k*bc k k<=sm n (λj=>f j*bc k j):=by
   intro n;induction n with
   | zero=>intro h;omega
   | succ n ih=>
    intro h;show _<=sm n _+f n*bc k n;rcases Cb k n with h'|h'
    .have:=ih h';omega
    .have:k=n:=ω;subst this;omega
  exact this _ hk
 rw[Tf,Nat.mul_one]at h2;omega
theorem PwN.step {f:Nat->Nat} (h:PwN l N f) (a:Bc):PwN (l++[a]) (N+a.P.toNat) (Hb (N+1) a.P.toNat f):=by
 refine⟨by rw[Th,h.1];simp[Dp],?_,λx=>?_⟩
 .have e:Hb (N+1) a.P.toNat f (N+a.P.toNat)=Hb N a.P.toNat f (N+a.P.toNat)+f N*Rc N a.P.toNat (N+a.P.toNat):=rfl;have:=Nat.mul_pos (Nat.pos_of_ne_zero h.2.1) (Arn N a.P.toNat);omega
 .rw[A3e _ x _ f (N+1) λb ha=>ω,h.2.2 x,Aro];simp[prb]
theorem A3h (l:List Bc) (x:l≠[]) (C:∀a∈l,a.L.T.length≠0) (F:∀a∈l,0<=a.P) (W:Dp l<=12) (R:l.length<=1000) : ∃N f,Nq l=some (Ls (N+1) f)/\PwN l N f:=by
 have H:Abx l=false:=by cases l with| nil=>exact (x rfl).elim| cons a M=>have:=C a ψ;show (a.L.T.length==0)=false;simpa using this
 have P:∃N f,Abw l=some (Ls (N+1) f)/\PwN l N f:=by
  unfold Abw;rw[Nd,Ad]
  suffices h:∃r,_/\∃N f,r=Ls (N+1) f/\PwN l N f by obtain⟨r,G,N,f,E,D⟩:=h;exact⟨N,f,by rw[<-E];exact G,D⟩
  refine Ev (λs=>∃(i N:Nat) (f:Nat->Nat),s=(Ls (N+1) f,(i:Int))/\i<=l.length/\PwN (l.take i) N f) (λs=>l.length-s.2.toNat) (λe=>∃N f,e=Ls (N+1) f/\PwN l N f) ⟨0,0,λ_=>1,rfl,ω,by simp[PwN,Dp,prb,sm,Jq]⟩ ?_ ?_
  .rintro _ ⟨i,N,f,rfl,X,g⟩;rcases Cb i l.length with h|h
   .left;have v:l[i]? = some l[i]:=B3 h;have b:=getElem_mem h;generalize l[i]=a at v b;have S:=C a b;have L:=F a b;have B:Dp l=Dp (l.take i)+(a.P.toNat+Dp (l.drop (i+1))):=(by have:=Th (l.take i) (l.drop i);rw[take_append_drop]at this;rw[this,J3 v];rfl);have U:=g.1;have w:Ac (a.P+1)=((a.P.toNat+1:Nat):Int):=ξ;have I:Ah (replicate (a.P.toNat+1) (⟨false,[],[]⟩:A3)) a.P=some ⟨false,[],[]⟩:=Bu (n:=a.P.toNat) ω ψ;have u:=g.step a;have Q:∀A k,A<=N+1->Hb A a.P.toNat f k<Eo:=by
     intro A k y;refine Nat.lt_of_le_of_lt (A3f _ f k y) ?_;rcases Cb k (N+a.P.toNat+1) with o|o
     .refine Nat.lt_of_le_of_lt (u.le o) (Vx ω ?_);rw[Th];simp only[Dp];omega
     .have:Hb (N+1) a.P.toNat f k=0:=Te λj hj=>by rw[Aq9 ω];rfl
      rw[this];decide
    have J:=A3d (n:=N) (d:=a.P.toNat) (f:=f) (p:=Ls (N+1) f) (q:=C2 (replicate (a.P.toNat+1) ⟨false,[],[]⟩) a.P (cR 1)) ω rfl g.2.1 (by rw[Gv (n:=a.P.toNat) ω];simp) (λk o=>by
     rw[Gv (n:=a.P.toNat) ω];by_cases e:k=a.P.toNat
     .subst e;rw[A7 rfl];exact⟨_,getElem?_set_self ψ,Np.c δ⟩
     .rw[Ay e,getElem?_set_ne ω];exact⟨⟨false,[],[]⟩,by simp[o],Np.z⟩) (λk o=>Nat.lt_of_le_of_lt (g.le o) (Vx ω ω)) Q
    refine⟨(Ls (N+a.P.toNat+1) (Hb (N+1) a.P.toNat f),((i+1:Nat):Int)),?_,⟨i+1,_,_,rfl,ω,by rw[Dd v];exact u⟩,ζ⟩;simp only[Aq (ω:(i:Int)<(l.length:Int)),Al,Bu rfl v,Ad,Dc (ω:¬(a.L.T.length:Int)=0),Ao,w,Kk rfl rfl (Nat.le_refl _) (ω:56*(a.P.toNat+1)<=281474976710656) ω,Nd,I,J,C3 h ω]
   .have:i=l.length:=ω;subst this;rw[Dq]at g;right;exact⟨_,by simp only[Aw (ω:¬(l.length:Int)<(l.length:Int)),Ao],_,_,rfl,g⟩
  .rintro _ ⟨N,f,rfl,h⟩;exact⟨_,rfl,N,f,rfl,h⟩
 obtain⟨N,f,T,V⟩:=P;refine⟨N,f,?_,V⟩;unfold Nq;rw[H,Ao];exact T
theorem A3i {c:Int} {d:Int} (o:c<=1048576) (q:0<=d) (b:d<=64):Ou c d=some (cR (bc c.toNat d.toNat),true):=by
 have h:=A2p c.toNat d.toNat ω ω;have e:((d.toNat:Nat):Int)=d:=ω;rw[e]at h;rw[<-h];unfold Ou;have f:(if c>(0:Int) then c else 0)=(if ((c.toNat:Nat):Int)>(0:Int) then ((c.toNat:Nat):Int) else 0):=by split <;> split <;> omega
 rw[f]
theorem A3j (l:List Bc) {c:Int} (H:c<=1048576) (F:∀a∈l,a.L.T.length=0/\a.L.Q=c) (L:∀a∈l,0<=a.P) (V:Dp l<=12) (G:l.length<=1000) :
  Nq l=some [cR (prb c.toNat l)]:=by
 have M:Abv l=some [cR (prb c.toNat l)]:=by
  unfold Abv
  rw[Nd,Ad]
  obtain⟨r,B,A⟩:∃r,_/\r = [cR (prb c.toNat l)]:=Ev (λs=>∃i:Nat,s=((i:Int),[cR (prb c.toNat (l.take i))])/\i<=l.length) (λs=>l.length-s.1.toNat) (λe=>e = [cR (prb c.toNat l)]) (J:=λo=>some o)
   (step:=λ(x:Int×List A3)=>match x with
    | (g,f)=>
     bif g<(l.length:Int) then (
     (Ah l g).bind λb=>
     bif ((b.L.T.length:Int)==(0:Int)) then (
     (Ou b.L.Q b.P).bind λk=>
     (Ah f 0).bind λw=>
     (G6 w k.1).bind λC=>
     (Ah f 0).bind λP=>
     some (.inl ((Ac (g+1)),(C2 f 0 C)))
     )
     else (
     (F5 56 (Ac (b.P+1)) (Ac (b.P+1)) ((A3.mk false [] []):A3)).bind λq=>
     (F6 1).bind λQ=>
     (Ah q b.P).bind λS=>
     none
     )
     )
     else (
     some (.inr f)
     )) (s:=(0,[cR 1]))
   ⟨0,rfl,ω⟩ (by
   rintro _ ⟨i,rfl,W⟩
   rcases Cb i l.length with h|h
   .left
    have v:l[i]? = some l[i]:=B3 h
    have j:=getElem_mem h
    generalize l[i]=a at v j
    obtain⟨I,D⟩:=F a j
    have y:=L a j
    have e:Dp l=Dp (l.take i)+(a.P.toNat+Dp (l.drop (i+1))):=by
     have:=Th (l.take i) (l.drop i)
     rw[take_append_drop]at this
     rw[this,J3 v];rfl
    have T:prb c.toNat (l.take i)<Eo:=Vx ω ω
    have z:bc c.toNat a.P.toNat<Eo:=by
     have:=Vx (x:=c.toNat) (l:=[a]) ω (by simp only[Dp];omega)
     simpa[prb] using this
    have u:Ah [cR (prb c.toNat (l.take i))] 0=some (cR (prb c.toNat (l.take i))):=rfl
    refine⟨_,?_,⟨i+1,rfl,ω⟩,ζ⟩
    simp only[Aq (ω:(i:Int)<(l.length:Int)),Al,Bu rfl v,Ad,Gb (ω:(a.L.T.length:Int)=0),D,A3i H y (ω:a.P<=64),u,(Np.c T).mul (Np.c z),C3 h ω]
    rw[Dd v,Aro]
    simp[prb,C2]
   .have:i=l.length:=ω
    subst this
    right
    exact⟨[cR (prb c.toNat (take l.length l))],by simp only[Aw (ω:¬(l.length:Int)<(l.length:Int)),Ao],by rw[Dq]⟩) (by
   rintro _ rfl
   exact⟨_,rfl,rfl⟩)
  rw[<-A]
  exact B
 have U:Abx l=true:=by
  cases l with
  | nil=>rfl
  | cons a E=>
   have:=(F a ψ).1
   show (a.L.T.length==0)=true
   simpa using this
 unfold Nq
 rw[U,Al,M]
noncomputable def Adp (cmp:α->α->Option Int) (a0:Int) (g:List α):Option (List α) := (An (S:=(Int×Int×(List α))) (E:=(Int×Int×(List α))) (λ(q,o,i)=> bif o<=a0 then ((Vs cmp q o i).bind λh=> (Fv g.length h).bind λl=> some (.inl (o,(Ac (o+20)),h))) else (some (.inr (q,o,i)))) (0,20,g)).bind λ(s,u,f)=> (Vs cmp s a0 f).bind λc=> (Fv g.length c).bind λv=> (An (S:=(Int×Int×Int)) (E:=Unit) (λ(b,k,j)=> bif b<a0 then ((An (S:=Unit) (E:=Unit) (λ_=> bif (Ac (2*b))<=a0 then (none) else (some (.inr ()))) ()).bind λ_=> bif (Ac (0+b))<a0 then (none) else (some (.inl ((Ac (b*2)),0,(Ac (2*b)))))) else (some (.inr ()))) (20,s,u)).bind λ_=> some c
theorem Arq {c:α->α->Int} (L:Mx c) (f:List α) (g:∀x∈f,∀y∈f,cmp x y=some (c x y)) (h:f.length<20) : ∃R,Adp cmp (f.length:Int) f=some R/\R.Perm f/\R.Pairwise (λa b=>¬c b a<0):=by
 obtain⟨R,q,o,s⟩:=Ai2 L f g ω;refine⟨R,?_,o,s⟩;unfold Adp;refine bnd (a:=(0,20,f)) (Fm ?_) ?_
 .simp only[Aw (ω:¬(20:Int)<=(f.length:Int)),Ao]
 .dsimp only;rw[q,Ad,J7 o.length_eq.symm,Ad];refine bnd (a:=()) (Fm ?_) rfl;simp only[Aw (ω:¬(20:Int)<(f.length:Int)),Ao]
theorem Adq:Mx Hk where
 irr x:=by rw[(Lq.zero x x trivial trivial).2 rfl];omega
 trs x y z o h:=Lq.trans x y z trivial trivial trivial o h
 ntr x y z o h q:=by
  rcases Int.lt_trichotomy (Hk x y) 0 with k|k|k
  .exact o k
  .have:=(Lq.zero x y trivial trivial).1 k
   subst this;exact h q
  .have b:Hk y x<0:=by rw[Lq.anti x y trivial trivial];omega
   exact h (Lq.trans y x z trivial trivial trivial b q)
theorem A3k:Mx (λa b:Bc=>Hk a.L b.L):=⟨λ_=>Adq.irr _,λ_ _ _=>Adq.trs _ _ _,λ_ _ _=>Adq.ntr _ _ _⟩
def Zg (l:List Bc):Prop:=l.Pairwise λa b=>¬Hk b.L a.L<0
theorem A3l (b:List Bc) (o:∀a∈b,a.L.T.length<1099511627776) (c:b.length<20):∃R,W7 b=some R/\R.Perm b/\Zg R:=by obtain⟨R,q,h,s⟩:=Arq (cmp:=Ue) A3k b (λx u y _=>by unfold Ue;rw[Acu x.L y.L (o x u)];rfl) c;refine⟨R,?_,h,s⟩;unfold W7;have e:Aa3 (b.length:Int) b=Adp Ue (b.length:Int) b:=rfl;rw[e,q,Ad,J7 h.length_eq.symm];rfl
theorem Adr (n:Nat) (h:n<=1000000):L2 (α:=α) (n:Int)=some []:=by unfold L2;rw[Aq ω,Aq ω];rfl
theorem A3m (a b:List Bc) (h:a.length+b.length<=1000000):Abb [a,b]=some (a++b) := Ai3 (B:=40) δ (gr:=Abl) (λn h=>Adr n h) a b h
theorem A3n (a b:List Bg) (h:a.length+b.length<=1000000):Aba [a,b]=some (a++b) := Ai3 (B:=40) δ (gr:=Abk) (λn h=>Adr n h) a b h
theorem Arr (m n:Br) (h:m.F.length+n.F.length<=1000000) (o:m.A.length+n.A.length<=1000000):Xf m n=some ⟨m.F++n.F,m.A++n.A⟩:=by unfold Xf;rw[A3n _ _ h,Ad,A3m _ _ o];rfl
def atO (l:Bz) (k:Nat):List Bc:=if k=0 then [] else [⟨l,k⟩]
theorem A3o (l:Bz) (k:Nat):Uf l (k:Int)=some (atO l k):=by
 unfold Uf atO;by_cases h:k=0
 .rw[Gb ω,A7 h];rfl
 .rw[Dc ω,Ay h];rfl
theorem Ars (l:Bz) (k:Nat):(atO l k).length<=1:=by unfold atO;split <;> simp
abbrev FS:={F:List Bg // F.length<=1000}
theorem A3p {t:Aj} {x:A3} {F:FS} (b:t.M=⟨F.1,A⟩) (f:A.length+B.length<=1000000) (g:K<30000000000) (h:RB K t.C) (o:RB 200 x) : ∃u,Lh t x ⟨[],B⟩=some u/\u.M=⟨F.1,A++B⟩/\rq u.C=rq t.C*rq x/\RB (K+202) u.C:=by obtain⟨c,q,s,_,v⟩:=Yy h o ω ω;refine⟨⟨c,⟨F.1,A++B⟩⟩,?_,rfl,v,s⟩;unfold Lh;have:=F.2;rw[q,Ad,b,Arr _ _ ζ f,append_nil];rfl
abbrev Ent:=List Bc×Nat
inductive Kp (F:FS) (c:Rat) (K:Nat):List Aj->List Ent->Prop
 | nil:Kp F c K [] []
 | cons {t:Aj} {b:Ent} {ts:List Aj} {bs:List Ent}:t.M=⟨F.1,b.1⟩->rq t.C=c*(b.2:Rat)->RB K t.C->Kp F c K ts bs->Kp F c K (t::ts) (b::bs)
theorem Kp.len {F:FS} {c:Rat} {bs:List Ent} (h:Kp F c K ts bs):ts.length=bs.length:=by induction h with| nil=>rfl| cons _ _ _ _ ih=>simp[ih]
theorem Kp.app {F:FS} {c:Rat} {f:List Aj} {bs cs:List Ent} (h:Kp F c K ts bs) (h':Kp F c K f cs):Kp F c K (ts++f) (bs++cs):=by induction h with| nil=>exact h'| cons a b d _ ih=>exact .cons a b d ih
theorem Kp.mono {F:FS} {c:Rat} {f:Nat} {bs:List Ent} (h:Kp F c K ts bs) (hk:K<=f):Kp F c f ts bs:=by induction h with| nil=>exact .nil| cons a b d _ ih=>exact .cons a b (d.mono hk) ih
theorem Kp.get {F:FS} {c:Rat} {bs:List Ent} (h:Kp F c K ts bs):∀{j:Nat} {t:Aj},ts[j]? = some t->∃b,bs[j]? = some b/\t.M=⟨F.1,b.1⟩/\rq t.C=c*(b.2:Rat)/\RB K t.C:=by
 induction h with
 | nil=>intro j t h;simp at h
 | @cons t b ts bs q s v _ ih=>intro j u o;cases j with| zero=>simp only[getElem?_cons_zero,Option.some.injEq]at o;subst o;exact⟨b,rfl,q,s,v⟩| succ j=>simp only[getElem?_cons_succ]at o;simpa using ih o
def fs0:FS:=⟨[],δ⟩
abbrev Rep (c:Rat) (K:Nat):List Aj->List Ent->Prop:=Kp fs0 c K
def H4 (B:List Ent) (l:Bz) (f:Nat->Nat) (n:Nat):List Ent:=(range n).flatMap λk=>if f k=0 then [] else B.map λb=>(b.1++atO l k,b.2*f k)
theorem Art (B:List Ent) (l:Bz) (f:Nat->Nat) (n:Nat):H4 B l f (n+1)=H4 B l f n++(if f n=0 then [] else B.map λb=>(b.1++atO l n,b.2*f n)):=by unfold H4;rw[range_succ,flatMap_append];simp
noncomputable def Zh (h:List Aj) (l:Bz) (k:Int) (x:A3):Int×List Aj->Option ((Int×List Aj)⊕(Int×List Aj)):=λ(b,c)=> bif b<(h.length:Int) then ((Ah h b).bind λg=> (Uf l k).bind λo=> (Lh g x (Br.mk [] o)).bind λf=> (B4 104 c [f]).bind λi=> some (.inl ((Ac (b+1)),i))) else (some (.inr (b,c)))
theorem Zi (z:Int):mkRat z 1=(z:Rat):=by rw[Rat.mkRat_eq_div,show ((1:Nat):Rat)=1 from rfl];grind
theorem A3q (z:Int) (o : -9223372036854775808<=z) (q:z<=9223372036854775807):∃r,F6 z=some r/\RB 3 r/\J5 r/\rq r=(z:Rat):=by
 have b:Bl z.natAbs<=3:=Pe (n:=z.natAbs) ω;refine⟨_,Vg z o q,N7 _ _ _ _ b (by rw[Nc];decide) δ,S8 _ _ _ δ,?_⟩;rw[Pg _ _ _ δ,Zi];congr 1;unfold sg;by_cases h:z<0
 .rw[Aq h,A7 rfl];omega
 .rw[Aw h,Ay δ];omega
theorem A3r (z:Int) (o : -9223372036854775808<=z) (q:z<=9223372036854775807):∃r,F6 z=some r/\Rm z=some r/\RB 3 r/\J5 r/\rq r=(z:Rat):=by
 have b:Bl z.natAbs<=3:=Pe (n:=z.natAbs) ω;refine⟨_,Vg z o q,A09 z o q,N7 _ _ _ _ b (by rw[Nc];decide) δ,S8 _ _ _ δ,?_⟩;rw[Pg _ _ _ δ,Zi];congr 1;unfold sg;by_cases h:z<0
 .rw[Aq h,A7 rfl];omega
 .rw[Aw h,Ay δ];omega
theorem Ads (n:Nat):rq (cR n)=(n:Rat):=by unfold cR;rw[Pg _ _ _ δ,Zi];rfl
def Gy:List Nat->Nat
 | []=>1
 | a::l=>a*Gy l
noncomputable def Adt (g:List Aj) (l:Bz) (p:List A3):Int×List Aj->Option ((Int×List Aj)⊕(Int×List Aj)):=λ(o,b)=> bif o<(p.length:Int) then ((Ah p o).bind λq=> (Iy q).bind λc=> bif (c==(0:Int)) then (some (.inl ((Ac (o+1)),b))) else ((An (Zh g l o q) (0,b)).bind λ(h,f)=> some (.inl ((Ac (o+1)),f)))) else (some (.inr (o,b)))
def Pw (l:Bz) (N:Nat) (f:Nat->Nat) (g:List Bc):Prop:=(l.T.length≠0/\PwN g N f)\/(l.T.length=0/\N=0/\f 0=prb l.Q.toNat g)
abbrev Grp:=Bz×Nat×(Nat->Nat)
inductive Gs:List Grp->List Bc->Prop
 | nil:Gs [] []
 | cons {l:Bz} {N:Nat} {f:Nat->Nat} {g rest:List Bc} {gs:List Grp}:g≠[]->(∀a∈g,a.L=l)->(∀a∈rest,Hk l a.L<0)->Pw l N f g->Gs gs rest->Gs ((l,N,f)::gs) (g++rest)
def Mh (B:List Ent):List Grp->List Ent
 | []=>B
 | q::h=>Mh (H4 B q.1 q.2.2 (q.2.1+1)) h
structure Atk (A:List Bc):Prop where
 deg:∀a∈A,0<=a.P
 lin:∀a∈A,G4 a.L=true
 sum:Dp A<=12
 len:A.length<=12
theorem Adu {a:Bz} (h:G4 a=true):a.T.length<=16/\-1048576<=a.Q/\a.Q<=1048576:=by unfold G4 at h;simp only[D3,D4]at h;exact⟨h.1.2.2,h.1.1,h.1.2.1⟩
theorem Atk.sub (h:Atk (A++B)):Atk A/\Atk B:=by have h1:=h.sum;have h2:=h.len;rw[Th]at h1;rw[Eu]at h2;exact⟨⟨λa ha=>h.deg a (by simp[ha]),λa ha=>h.lin a (by simp[ha]),ω,ω⟩,⟨λa ha=>h.deg a (by simp[ha]),λa ha=>h.lin a (by simp[ha]),ω,ω⟩⟩
theorem A3s {l:Bz} {g:List Bc} (o:Atk g) (b:g≠[]) (hg:∀a∈g,a.L=l):∃N f,Nq g=some (Ls (N+1) f)/\Pw l N f g/\N<=Dp g/\∀k,k<N+1->f k<Eo:=by
 have j:=o.len;have v:=o.sum;obtain⟨a,q⟩:∃a,a∈g:=by cases g with| nil=>exact (b rfl).elim| cons a _=>exact⟨a,ψ⟩
 have c:=o.lin a q;rw[hg a q]at c;have w:=(Adu c).2.2;by_cases h:l.T.length=0
 .have u:=A3j g w (λa q=>by rw[hg a q];exact⟨h,rfl⟩) o.deg o.sum ω;exact⟨0,λ_=>prb l.Q.toNat g,u,.inr ⟨h,rfl,rfl⟩,ω,λk _=>Vx ω v⟩
 .obtain⟨N,f,u,s⟩:=A3h g b (λa q=>by rw[hg a q];exact h) o.deg o.sum ω;refine⟨N,f,u,.inl ⟨h,s⟩,by rw[s.1];exact Nat.le_refl _,λk i=>Nat.lt_of_le_of_lt (s.le i) (Vx ?_ v)⟩;have:=s.1;omega
noncomputable def Adv (r:List Bc) (l:Bz):Int->Option (Int⊕Int):=λb=> bif b<(r.length:Int) then ((Ah r b).bind λh=> (Mz h.L l).bind λc=> bif (c==(0:Int)) then (some (.inl (Ac (b+1)))) else (some (.inr b))) else (some (.inr b))
theorem A3t {r:List Bc} {a:Bc} (h0:r[0]? = some a) (E:∀b∈r,b.L.T.length<1099511627776) (u:r.length<=1000) :
  ∃n:Nat,An (Adv r a.L) 1=some (n:Int)/\1<=n/\n<=r.length/\(∀b∈r.take n,b.L=a.L)/\∀b,r[n]? = some b->b.L≠a.L:=by
 have v:=Ez h0
 obtain⟨e,q,n,l,k⟩:=I9 (step:=Adv r a.L) (λs=>∃n:Nat,s=(n:Int)/\1<=n/\n<=r.length/\∀b∈r.take n,b.L=a.L) (λs=>r.length-s.toNat)
  (λe=>∃n:Nat,e=(n:Int)/\1<=n/\n<=r.length/\(∀b∈r.take n,b.L=a.L)/\∀b,r[n]? = some b->b.L≠a.L) (by
  rintro _ ⟨j,rfl,g,f,c⟩
  unfold Adv
  rcases Cb j r.length with h|h
  .have w:r[j]? = some r[j]:=B3 h
   have i:=getElem_mem h
   generalize r[j]=b at w i
   simp only[Aq (ω:(j:Int)<(r.length:Int)),Al,Bu rfl w,Ad,Acu _ _ (E b i),C3 h ω]
   by_cases C:b.L=a.L
   .left
    rw[Gb ((Lq.zero _ _ trivial trivial).2 C)]
    refine⟨_,rfl,⟨j+1,rfl,ω,ω,λd o=>?_⟩,ω⟩
    rw[Dd w]at o
    rcases D7.1 o with o|o
    .exact c d o
    .simp only[D0]at o
     rw[o];exact C
   .right
    rw[Dc λh=>C ((Lq.zero _ _ trivial trivial).1 h)]
    exact⟨_,rfl,j,rfl,g,f,c,λd o=>by rw[w]at o;cases o;exact C⟩
  .right
   refine⟨_,by simp only[Aw (ω:¬(j:Int)<(r.length:Int)),Ao],j,rfl,g,f,c,λd o=>?_⟩
   have:=Ez o
   omega) 1 ⟨1,rfl,ω,ω,λb D=>by
    cases r with
    | nil=>simp at v
    | cons x r=>simp at D h0;rw[D,h0]⟩
 exact⟨n,by rw[<-l];exact q,k⟩
noncomputable def Zj:(List Aj×List Bc)->Option ((List Aj×List Bc)⊕List Aj):=λ(g,b)=> bif (b.length:Int)>(0:Int) then ((Ah b 0).bind λf=> (An (Adv b f.L) 1).bind λc=> (Ei b 0 c).bind λi=> (Nq i).bind λh=> (An (Adt g f.L h) (0,[])).bind λ(k,j)=> (Ei b c b.length).bind λo=> some (.inl (j,o))) else (some (.inr g))
theorem A3u (n:Nat):n+1<=2 ^ n:=by induction n with| zero=>decide| succ n ih=>rw[Nat.pow_succ];omega
theorem A3v {B:List Ent} {l:Bz} {f:Nat->Nat} {M:Nat} (c:∀b∈B,b.1.length<=M):∀b∈H4 B l f n,b.1.length<=M+1:=by
 intro b o;unfold H4 at o;rw[mem_flatMap]at o;obtain⟨k,_,h⟩:=o;split at h
 .cases h
 .rw[mem_map]at h;obtain⟨d,q,rfl⟩:=h;have:=c d q;have:=Ars l k;simp only[Eu];omega
theorem Adw (k:t.G=6) (h:D2 data i t=some d):Di data i.K t.R=some d:=by
 rw[N3,A7 k]at h;by_cases e:i.U=0
 .rw[A7 e]at h;exact h
 .rw[Ay e]at h;cases h
theorem Adx (k:t.G=7) (h:D2 data i t=some d):(0<=i.U/\i.U<=6/\i.K.length=0)/\i.U.toNat=d:=by
 rw[N3,Ay ω,A7 k]at h;by_cases e:0<=i.U/\i.U<=6/\i.K.length=0
 .rw[A7 e]at h;exact⟨e,Fa h⟩
 .rw[Ay e]at h;cases h
theorem Ady (k:t.G=5) (h:D2 data i t=some d):F0 data i.K t=some d:=by
 rw[N3,Ay ω,Ay ω,A7 k]at h;by_cases e:i.U=0
 .rw[A7 e]at h;exact h
 .rw[Ay e]at h;cases h
def pv {α:Type} (f:α->Nat):List (α×Nat)->Nat
 | []=>0
 | p::l=>p.2*f p.1+pv f l
theorem Ph (f:α->Nat) (l m:List (α×Nat)):pv f (l++m)=pv f l+pv f m:=by induction l with| nil=>simp[pv]| cons p l ih=>simp only[Eh,pv,ih];omega
theorem Ajb (f:α->Nat) (g:β->α) (l:List (β×Nat)):pv f (l.map λp=>(g p.1,p.2))=pv (λx=>f (g x)) l:=by induction l with| nil=>rfl| cons p l ih=>simp only[map_cons,pv,ih]
theorem Adz {f g:α->Nat} {l:List (α×Nat)} (h:∀p∈l,f p.1=g p.1):pv f l=pv g l:=by induction l with| nil=>rfl| cons p l ih=>simp only[pv,h p ψ,ih λq o=>h q (by simp[o])]
theorem Pi (c:Nat) (f:α->Nat) (l:List (α×Nat)):pv (λx=>c*f x) l=c*pv f l:=by induction l with| nil=>rfl| cons p l ih=>simp only[pv,ih,Nat.mul_add];rw[Nat.mul_left_comm]
theorem Ajc (f:β->Nat) (g:α×Nat->List (β×Nat)) (h:α->Nat) (l:List (α×Nat)) (hg:∀p∈l,pv f (g p)=p.2*h p.1):pv f (l.flatMap g)=pv h l:=by induction l with| nil=>rfl| cons p l ih=>rw[flatMap_cons,Ph,hg p ψ,ih λq o=>hg q (by simp[o]),pv]
theorem A3w {f g:α->Nat} {l:List (α×Nat)} (h:∀p∈l,f p.1<=g p.1):pv f l<=pv g l:=by induction l with| nil=>exact Nat.le_refl _| cons p l ih=>have s:=Nat.mul_le_mul_left p.2 (h p ψ);have u:=ih λq o=>h q (by simp[o]);simp only[pv];omega
def F2 (h:Ai) (c:Nat) (l:List (List Ai×Nat)):List (List Ai×Nat):=l.map λr=>(h::r.1,c*r.2)
def Fb (b:Ag->Ai->Ai->List (Ai×Nat)):List Ag->List Ai->List Ai->List (List Ai×Nat)
 | t::ts,i::is,j::c=>(b t i j).flatMap λw=>F2 w.1 w.2 (Fb b ts is c)
 | _,_,_=>[([],1)]
def Aru (c:Ai->Ai->List (Ai×Nat)) (a:Ai) (l:List Ai) (M:List Ai->List (List Ai×Nat)):List Ai->List (List Ai×Nat)
 | []=>[(a::l,1)]
 | b::m=>F2 a 1 (M (b::m))++(F2 b 1 (Aru c a l M m)++(c a b).flatMap λw=>F2 w.1 w.2 (M m))
def Jr (b:Ai->Ai->List (Ai×Nat)):List Ai->List Ai->List (List Ai×Nat)
 | []=>λm=>[(m,1)]
 | a::l=>Aru b a l (Jr b l)
theorem Ajd (b:Ai->Ai->List (Ai×Nat)) (m:List Ai):Jr b [] m = [(m,1)]:=rfl
theorem Arv (b:Ai->Ai->List (Ai×Nat)) (a:Ai) (l:List Ai):Jr b (a::l) [] = [(a::l,1)]:=rfl
theorem Arw (c:Ai->Ai->List (Ai×Nat)) (a b:Ai) (l m:List Ai):Jr c (a::l) (b::m)=F2 a 1 (Jr c l (b::m))++(F2 b 1 (Jr c (a::l) m)++(c a b).flatMap λw=>F2 w.1 w.2 (Jr c l m)):=rfl
def Js (data:List Am) (t:Ag) (rows:List Ag->List Ai->List Ai->List (List Ai×Nat)) (a b:Ai):List (Ai×Nat) := if a.U=b.U then (rows (Ze data t a.U) a.K b.K).map λr=>(⟨a.U,r.1⟩,r.2) else []
def Ad0 (a b:Nat):List (Ai×Nat):=((range (a+b+1)).filter λk=>Rc a b k != 0).map λ(k:Nat)=>(⟨(k:Int),[]⟩,Rc a b k)
def D1 (data:List Am):Nat->Ag->Ai->Ai->List (Ai×Nat)
 | 0,_,_,_=>[]
 | k+1,t,i,j=> if t.G=6 then (Fb (D1 data k) t.R i.K j.K).map λr=>(⟨0,r.1⟩,r.2) else if t.G=7 then Ad0 i.U.toNat j.U.toNat else if t.G=5 then (Jr (Js data t (Fb (D1 data k))) i.K j.K).map λr=>(⟨0,r.1⟩,r.2) else [(⟨0,[]⟩,1)]
theorem Ad1 (f:List Ai->Nat) (h:Ai) (c:Nat) (L:List (List Ai×Nat)):pv f (F2 h c L)=c*pv (λr=>f (h::r)) L:=by induction L with| nil=>rfl| cons r L ih=>show c*r.2*f (h::r.1)+pv f (F2 h c L)=c*(r.2*f (h::r.1)+pv (λr=>f (h::r)) L);rw[ih,Nat.mul_add,Nat.mul_assoc]
theorem Zk:∀(a b N:Nat),sm N (Rc a b)<=3 ^ (a+b)
 | 0,b,N=>by
  have o:1<=3 ^ (0+b):=Nat.pow_pos δ;by_cases h:b<N
  .rw[Za (k:=b) h λj q=>by rw[Zb,Ay q],Zb,A7 rfl];exact o
  .rw[Te λk s=>by rw[Zb,Ay ω]];omega
 | a+1,0,N=>by
  have o:1<=3 ^ (a+1+0):=Nat.pow_pos δ;by_cases h:a+1<N
  .rw[Za (k:=a+1) h λj q=>by rw[Zc,Ay q],Zc,A7 rfl];exact o
  .rw[Te λk s=>by rw[Zc,Ay ω]];omega
 | a+1,b+1,0=>Nat.zero_le _
 | a+1,b+1,N+1=>by rw[Adl,Arb,Vt λk _=>Ara a b k];have e:sm N (λk=>Rc a (b+1) k+Rc (a+1) b k+Rc a b k)=sm N (Rc a (b+1))+sm N (Rc (a+1) b)+sm N (Rc a b):=(by rw[Td λk=>Rc a (b+1) k+Rc (a+1) b k,Td]);have o:=Zk a (b+1) N;have u:=Zk (a+1) b N;have v:=Zk a b N;have g:a+(b+1)=a+b+1:=ω;have f:a+1+b=a+b+1:=ω;have c:a+1+(b+1)=a+b+2:=ω;rw[g]at o;rw[f]at u;rw[e,c];have l:3 ^ (a+b+1)=3 ^ (a+b)*3:=Nat.pow_succ ..;have i:3 ^ (a+b+2)=3 ^ (a+b+1)*3:=Nat.pow_succ ..;omega
theorem A3x (a b:Nat):pv (λ_=>1) (Ad0 a b)<=3 ^ (a+b):=by
 have h:=Zk a b (a+b+1);refine Nat.le_trans (Nat.le_of_eq ?_) h;unfold Ad0;generalize a+b+1=N;induction N with
 | zero=>rfl
 | succ N ih=>
  rw[range_succ,filter_append,map_append,Ph,ih,sm];congr 1;by_cases h:Rc a b N=0
  .simp[h,pv]
  .simp[h,pv]
structure Gp (data:List Am) (t:Ag) (D S:Nat) (p:Ai×Nat):Prop where
 pos:1<=p.2
 deg:∃d,D2 data p.1 t=some d/\d<=D
 siz:Bt p.1<=S
 num:iR p.1
structure Gr (data:List Am) (ts:List Ag) (D S:Nat) (p:List Ai×Nat):Prop where
 pos:1<=p.2
 deg:∃d,Di data p.1 ts=some d/\d<=D
 siz:B5 p.1<=S
 num:En p.1
structure Ge (data:List Am) (t:Ag) (D S:Nat) (p:List Ai×Nat):Prop where
 pos:1<=p.2
 deg:∃d,F0 data p.1 t=some d/\d<=D
 siz:B5 p.1<=S
 num:En p.1
def Zl (data:List Am) (k:Nat) (b:Ag->Ai->Ai->List (Ai×Nat)):Prop:=∀(t:Ag) (i j:Ai) (f c:Nat),Bt i<=k->D2 data i t=some f->D2 data j t=some c->f+c<=6->iR i->iR j -> (∀p∈b t i j,Gp data t (f+c) (Bt i+Bt j) p)/\pv (λ_=>1) (b t i j)<=3 ^ (f+c)
theorem Ad2 {h:Ai} {c:Nat} {L:List (List Ai×Nat)} {p:List Ai×Nat} (hp:p∈F2 h c L):∃r∈L,p=(h::r.1,c*r.2):=by obtain⟨r,o,q⟩:=mem_map.1 hp;exact⟨r,o,q.symm⟩
theorem Ad3 {c:Ag->Ai->Ai->List (Ai×Nat)} (z:Zl data k c) : ∀(ts:List Ag) (is f:List Ai) (l g:Nat),B5 is<=k->Di data is ts=some l->Di data f ts=some g->l+g<=6->En is->En f -> (∀p∈Fb c ts is f,Gr data ts (l+g) (B5 is+B5 f) p)/\pv (λ_=>1) (Fb c ts is f)<=3 ^ (l+g):=by
 intro ts;induction ts with
 | nil=>
  intro is f l g _ o v _ _ _;cases is with
  | cons i is=>simp only[Di]at o;cases o
  | nil=>
   cases f with
   | cons j f=>simp only[Di]at v;cases v
   | nil=>
    refine⟨λp hp=>?_,?_⟩
    .simp only[Fb,D0]at hp;subst hp;exact⟨Nat.le_refl _,⟨0,by simp only[Di],ω⟩,by simp[B5],by simp[En]⟩
    .show 1*1+0<=_;exact Nat.pow_pos δ
 | cons t ts ih=>
  intro is f l g P o v I s q;cases is with
  | nil=>simp only[Di]at o;cases o
  | cons i is=>
   cases f with
   | nil=>simp only[Di]at v;cases v
   | cons j f=>
    simp only[B5]at P;simp only[En]at s q;rw[O8]at o v;cases C:D2 data i t with
    | none=>rw[C]at o;cases o
    | some a=>
     cases L:Di data is ts with
     | none=>rw[C,L]at o;cases o
     | some x=>
      cases F:D2 data j t with
      | none=>rw[F]at v;cases v
      | some b=>
       cases M:Di data f ts with
       | none=>rw[F,M]at v;cases v
       | some u=>
        rw[C,L]at o;rw[F,M]at v;have o:a+x=l:=Fa o;have v:b+u=g:=Fa v;obtain⟨B,A⟩:=z t i j a b ω C F ω s.1 q.1;obtain⟨f1,f2⟩:=ih is f x u ω L M ω s.2 q.2;refine⟨λp hp=>?_,?_⟩
        .obtain⟨w,Q,hp⟩:=mem_flatMap.1 (show p∈(c t i j).flatMap λw=>F2 w.1 w.2 (Fb c ts is f) from hp);obtain⟨r,y,rfl⟩:=Ad2 hp;have H:=B w Q;have J:=f1 r y;obtain⟨d,d1,d2⟩:=H.deg;obtain⟨D,d3,d4⟩:=J.deg;refine⟨Nat.mul_pos H.pos J.pos,⟨d+D,by rw[O8,d1,Ad,d3];rfl,ω⟩,?_,?_⟩
         .have G:=H.siz;have E:=J.siz;simp only[B5];omega
         .simp only[En];exact⟨H.num,J.num⟩
        .show pv (λ_=>1) ((c t i j).flatMap λw=>F2 w.1 w.2 (Fb c ts is f))<=_;rw[Ajc (h:=λ_=>pv (λ_=>1) (Fb c ts is f)*1) (hg:=λp _=>by rw[Ad1,Nat.mul_one]),Pi];have:=Nat.mul_le_mul f2 A;rw[<-Nat.pow_add,show x+u+(a+b)=l+g by omega]at this;exact this
theorem Ad4 (h:F0 data (e::es) t=some d):∃ts a b,Ht data t e.U=some ts/\Di data e.K ts=some a/\F0 data es t=some b/\d=1+a+b:=by
 rw[U9]at h;cases q:Ht data t e.U with
 | none=>rw[q]at h;cases h
 | some ts=>
  rw[q,Ad]at h;cases o:Di data e.K ts with
  | none=>rw[o]at h;cases h
  | some a=>rw[o,Ad]at h;cases s:F0 data es t with| none=>rw[s]at h;cases h| some b=>rw[s]at h;exact⟨ts,a,b,rfl,o,rfl,(Fa h).symm⟩
theorem Aje {ts:List Ag} (h:Ht data t e.U=some ts) (o:Di data e.K ts=some a) (q:F0 data es t=some b):F0 data (e::es) t=some (1+a+b):=by rw[U9,h,Ad,o,Ad,q];rfl
theorem A3y {c:Ag->Ai->Ai->List (Ai×Nat)} (y:Zl data k c) {a b:Ai} {ts i:List Ag} {h f:Nat} (o:B5 a.K<=k) (a1:Ht data t a.U=some ts) (A:Di data a.K ts=some h) (b1:Ht data t b.U=some i) (b2:Di data b.K i=some f) (z:h+f<=6) (j:iR a) (u:iR b) : (∀p∈Js data t (Fb c) a b,1<=p.2/\(∃d,Di data p.1.K ts=some d/\d<=h+f)/\p.1.U=a.U/\Bt p.1+1<=Bt a+Bt b/\iR p.1)/\pv (λ_=>1) (Js data t (Fb c) a b)<=3 ^ (h+f):=by
 unfold Js;by_cases e:a.U=b.U
 .have q:Ze data t a.U=ts:=(by unfold Ze;rw[a1]);have l:i=ts:=(by rw[<-e,a1]at b1;exact (Fa b1).symm);subst l;rw[N4]at j u;obtain⟨f1,f2⟩:=Ad3 y i a.K b.K h f o A b2 z j.2 u.2;rw[A7 e,q];refine⟨λp hp=>?_,by rw[Ajb];exact f2⟩;obtain⟨r,x,rfl⟩:=mem_map.1 hp;have g:=f1 r x;have s:=g.siz;have D:=Fe a;have B:=Fe b;refine⟨g.pos,g.deg,rfl,?_,?_⟩
  .rw[Fe];show 1+B5 r.1+1<=_;omega
  .rw[N4];exact⟨j.1,g.num⟩
 .rw[Ay e];exact⟨λp hp=>(by cases hp),Nat.zero_le _⟩
theorem Arx {u:Ag->Ai->Ai->List (Ai×Nat)} (hm:Zl data k u) (t:Ag) : ∀(l m:List Ai) (z y:Nat),B5 l<=k+1->(∀e∈l,B5 e.K<=k)->F0 data l t=some z->F0 data m t=some y->z+y<=6->En l->En m -> (∀p∈Jr (Js data t (Fb u)) l m,Ge data t (z+y) (B5 l+B5 m) p)/\pv (λ_=>1) (Jr (Js data t (Fb u)) l m)<=3 ^ (z+y):=by
 have x:∀(l m:List Ai) (D S:Nat),(∃d,F0 data l t=some d/\d<=D)->B5 l<=S->En l->(∀p∈[(l,1)],Ge data t D S p)/\pv (λ_=>1) [(l,1)]<=3 ^ D:=λl m D S v C h3=>by
  refine⟨λp hp=>?_,?_⟩
  .simp only[D0]at hp;subst hp;exact⟨Nat.le_refl _,v,C,h3⟩
  .show 1*1+0<=_;exact Nat.pow_pos δ
 intro l;induction l with
 | nil=>intro m z y _ _ _ C _ _ G;rw[Ajd];exact x m m _ _ ⟨y,C,ω⟩ ω G
 | cons a l A=>
  intro m;induction m with
  | nil=>intro z y _ _ v _ _ I _;rw[Arv];exact x _ [] _ _ ⟨z,v,ω⟩ ω I
  | cons b m J=>
   intro z y hs F v C h6 I G;obtain⟨ts,q,o,H,P,Q,rfl⟩:=Ad4 v;obtain⟨us,j,c,T,W,L,rfl⟩:=Ad4 C;have i:=I;have f:=G;simp only[En]at i f;have za:B5 (a::l)=Bt a+B5 l:=(by simp only[B5]);have zb:B5 (b::m)=Bt b+B5 m:=(by simp only[B5]);have E:∀e∈l,B5 e.K<=k:=λe he=>F e (by simp[he]);obtain⟨R,x2⟩:=A (b::m) o (1+j+c) ω E Q C ω i.2 G;obtain⟨N,y2⟩:=J (1+q+o) c hs F v L ω I f.2;obtain⟨M,z2⟩:=A m o c ω E Q L ω i.2 f.2;obtain⟨V,U⟩:=A3y hm (t:=t) (F a ψ) H P T W ω i.1 f.1;rw[Arw];refine⟨λp hp=>?_,?_⟩
   .rcases D7.1 hp with hp|hp
    .obtain⟨r,B,rfl⟩:=Ad2 hp;have g:=R r B;obtain⟨d,d1,d2⟩:=g.deg;have s:=g.siz;refine⟨by have:=g.pos;show 1<=1*r.2;omega,⟨_,Aje H P d1,ω⟩,?_,?_⟩
     .simp only[B5]at s ⊢;omega
     .simp only[En];exact⟨i.1,g.num⟩
    .rcases D7.1 hp with hp|hp
     .obtain⟨r,B,rfl⟩:=Ad2 hp;have g:=N r B;obtain⟨d,d1,d2⟩:=g.deg;have s:=g.siz;refine⟨by have:=g.pos;show 1<=1*r.2;omega,⟨_,Aje T W d1,ω⟩,?_,?_⟩
      .simp only[B5]at s ⊢;omega
      .simp only[En];exact⟨f.1,g.num⟩
     .obtain⟨w,hw,hp⟩:=mem_flatMap.1 hp;obtain⟨r,B,rfl⟩:=Ad2 hp;obtain⟨Y,⟨d',v2,v3⟩,v4,v5,X⟩:=V w hw;have g:=M r B;obtain⟨d,d1,d2⟩:=g.deg;have s:=g.siz;refine⟨Nat.mul_pos Y g.pos,⟨_,Aje (by rw[v4];exact H) v2 d1,ω⟩,?_,?_⟩
      .simp only[B5]at s ⊢;omega
      .simp only[En];exact⟨X,g.num⟩
   .rw[Ph,Ph,Ad1,Ad1];rw[Ajc (h:=λ_=>pv (λ_=>1) (Jr (Js data t (Fb u)) l m)*1) (hg:=λp _=>by rw[Ad1,Nat.mul_one]),Pi];have Z:=Nat.mul_le_mul z2 U;rw[<-Nat.pow_add]at Z;have p1:3 ^ (o+(1+j+c))<=3 ^ (1+q+o+(j+c)):=Nat.pow_le_pow_right δ ω;have p2:3 ^ (1+q+o+c)<=3 ^ (1+q+o+(j+c)):=Nat.pow_le_pow_right δ ω;have p3:3 ^ (o+c+(q+j))<=3 ^ (1+q+o+(j+c)):=Nat.pow_le_pow_right δ ω;have p4:3 ^ (1+q+o+(1+j+c))=3 ^ (1+q+o+(j+c))*3:=(by rw[show 1+q+o+(1+j+c)=(1+q+o+(j+c))+1 by omega,Nat.pow_succ]);omega
theorem Pj (data:List Am):∀k,Zl data k (D1 data k):=by
 intro k;induction k with
 | zero=>intro t i j x u h;have:=Fe i;omega
 | succ k ih=>
  intro t i j x u w o v A D B;have L:=Fe i;have G:=Fe j;have f:=D;have c:=B;rw[N4]at f c;rw[D1];by_cases b:t.G=6
  .rw[A7 b,Ajb];have o:=Adw b o;have v:=Adw b v;obtain⟨f1,f2⟩:=Ad3 ih t.R i.K j.K x u ω o v A f.2 c.2;refine⟨λp hp=>?_,f2⟩;obtain⟨r,z,rfl⟩:=mem_map.1 hp;have g:=f1 r z;obtain⟨d,d1,d2⟩:=g.deg;refine⟨g.pos,⟨d,by rw[N3,A7 b,A7 rfl];exact d1,d2⟩,?_,?_⟩
   .have s:=g.siz;rw[Fe];show 1+B5 r.1<=_;omega
   .rw[N4];exact⟨by show El 0;unfold El;omega,g.num⟩
  .rw[Ay b];by_cases l:t.G=7
   .rw[A7 l,(Adx l o).2,(Adx l v).2];refine⟨λp hp=>?_,A3x x u⟩;obtain⟨n,I,rfl⟩:=mem_map.1 hp;obtain⟨E,y⟩:=mem_filter.1 I;rw[mem_range]at E;have y:Rc x u n≠0:=(by simpa using y);refine⟨Nat.pos_of_ne_zero y,⟨n,by rw[N3,Ay b,A7 l,A7 ⟨by show (0:Int)<=n;omega,by show (n:Int)<=6;omega,rfl⟩];rfl,ω⟩,?_,?_⟩
    .rw[Fe];show 1+B5 []<=_;simp only[B5];omega
    .rw[N4];exact⟨by show El (n:Int);unfold El;omega,by show En [];simp only[En]⟩
   .rw[Ay l];by_cases q:t.G=5
    .rw[A7 q,Ajb];have o:=Ady q o;have v:=Ady q v;obtain⟨f1,f2⟩:=Arx ih t i.K j.K x u ω (λe J=>by have:=K6 J;have:=Fe e;omega) o v A f.2 c.2;refine⟨λp hp=>?_,f2⟩;obtain⟨r,z,rfl⟩:=mem_map.1 hp;have g:=f1 r z;obtain⟨d,d1,d2⟩:=g.deg;refine⟨g.pos,⟨d,by rw[N3,Ay b,Ay l,A7 q,A7 rfl];exact d1,d2⟩,?_,?_⟩
     .have s:=g.siz;rw[Fe];show 1+B5 r.1<=_;omega
     .rw[N4];exact⟨by show El 0;unfold El;omega,g.num⟩
    .rw[Ay q];refine⟨λp hp=>?_,?_⟩
     .simp only[D0]at hp;subst hp;refine⟨Nat.le_refl _,⟨0,by rw[N3,Ay b,Ay l,Ay q,A7 ⟨rfl,rfl⟩],ω⟩,?_,?_⟩
      .rw[Fe];show 1+B5 []<=_;simp only[B5];omega
      .rw[N4];exact⟨by show El 0;unfold El;omega,by show En [];simp only[En]⟩
     .show 1*1+0<=_;exact Nat.pow_pos δ
theorem Lu {l:List (α×Nat)} (h:∀p∈l,1<=p.2):l.length<=pv (λ_=>1) l:=by induction l with| nil=>exact Nat.le_refl _| cons p l ih=>have s:=h p ψ;have u:=ih λq o=>h q (by simp[o]);simp only[D9,pv];omega
theorem Oa {l:List (α×Nat)} {p:α×Nat} (h:p∈l):p.2<=pv (λ_=>1) l:=by
 induction l with
 | nil=>cases h
 | cons q l ih=>
  simp only[pv];rcases Fp.1 h with rfl|h
  .omega
  .have:=ih h;omega
def A5 (p:Ai×Nat):Ar:=⟨p.1,cR p.2⟩
def toR (p:List Ai×Nat):Hr:=⟨p.1,cR p.2⟩
theorem Ary (h:a<=729) (hb:b<=729):G6 (cR a) (cR b)=some (cR (a*b)):=A3a (K:=3) (J0 ω) (J0 ω) δ δ
theorem Qz (h:d<=6):3 ^ d<=729:=Nat.le_trans (Nat.pow_le_pow_right δ h) δ
theorem Arz {α:Type} (h:Ai) (c:Nat) (f:α->List (List Ai×Nat)):∀L:List α,F2 h c (L.flatMap f)=L.flatMap λr=>F2 h c (f r)
 | []=>rfl
 | r::L=>by have ih:=Arz h c f L;unfold F2 at ih ⊢;rw[flatMap_cons,flatMap_cons,map_append,ih]
def I5 (W:List (Ai×Nat)) (r:List Ai×Nat):List (List Ai×Nat):=W.map λw=>(r.1++[w.1],r.2*w.2)
theorem Ar0 (b:Ag->Ai->Ai->List (Ai×Nat)) (t:Ag) (i j:Ai):∀(ts:List Ag) (is c:List Ai),is.length=ts.length->c.length=ts.length -> Fb b (ts++[t]) (is++[i]) (c++[j])=(Fb b ts is c).flatMap (I5 (b t i j))
 | [],[],[],_,_=>by show (b t i j).flatMap (λw=>F2 w.1 w.2 [([],1)])=I5 (b t i j) ([],1)++[];rw[append_nil];unfold I5;induction b t i j with| nil=>rfl| cons w W ih=>rw[flatMap_cons,ih];show [([w.1],w.2*1)]++_=_;rw[Nat.mul_one,map_cons,Nat.one_mul];rfl
 | t0::ts,o::is,f::c,q,s=>by show (b t0 o f).flatMap (λw=>F2 w.1 w.2 (Fb b (ts++[t]) (is++[i]) (c++[j])))=((b t0 o f).flatMap λw=>F2 w.1 w.2 (Fb b ts is c)).flatMap (I5 (b t i j));rw[Ar0 b t i j ts is c (by simpa using q) (by simpa using s),flatMap_assoc];congr 1;funext w;rw[Arz];unfold F2;rw[flatMap_map];congr 1;funext r;unfold I5;rw[map_map];congr 1;funext v;show (w.1::(r.1++[v.1]),w.2*(r.2*v.2))=(w.1::r.1++[v.1],w.2*r.2*v.2);rw[Nat.mul_assoc];rfl
 | [],_::_,_,h,_=>by simp at h
 | [],[],_::_,_,h=>by simp at h
 | _::_,[],_,h,_=>by simp at h
 | _::_,_::_,[],_,h=>by simp at h
theorem Ajf (f:α->List β) {l:List α} {x:α} (h:l[j]? = some x):(l.take (j+1)).flatMap f=(l.take j).flatMap f++f x:=by rw[Dd h,flatMap_append];simp
theorem Ad5 {α β:Type} (f:α->List β) (n:Nat):∀l:List α,(∀a∈l,(f a).length<=n)->(l.flatMap f).length<=l.length*n
 | [],_=>ψ
 | a::l,h=>by have q:=h a ψ;have s:=Ad5 f n l λb o=>h b (by simp[o]);rw[flatMap_cons,Eu,D9,Nat.add_mul];omega
theorem A3z (l:List Ai) (h:l.length<=1048576):Ut l=some ([],l):=by unfold Ut L0;rw[Dn ζ];rfl
theorem A30 {c:Ag->Ai->Ai->List (Ai×Nat)} (hg:Zl data k c) (X:∀t i j a b,Bt i<=k->D2 data i t=some a->D2 data j t=some b->a+b<=6->Bw t<=200->iR i->iR j->M4 K data t i j=some ((c t i j).map A5)) (ts:List Ag) (is f:List Ai) {S:Nat} (hk:B5 is<=k) (Q:Di data is ts=some S) (T:Di data f ts=some N) (h6:S+N<=6) (ht:∀t∈ts,Bw t<=200) (hl:ts.length<=100000) (V:En is) (U:En f) : Qd (K+1) data ts is f=some ((Fb c ts is f).map toR):=by
 obtain⟨l1,g1⟩:=Adj data _ _ _ Q;obtain⟨l2,g2⟩:=Adj data _ _ _ T;have u:∀j,(∀r∈Fb c (ts.take j) (is.take j) (f.take j),1<=r.2/\r.2<=729/\r.1.length<=100000)/\(Fb c (ts.take j) (is.take j) (f.take j)).length<=729:=λj=>by
  obtain⟨a,v,a2⟩:=Ai7 data is ts S j Q;obtain⟨b,C,b2⟩:=Ai7 data f ts N j T;have hs:B5 (is.take j)<=B5 is:=(by have:=S3 (is.take j) (is.drop j);rw[take_append_drop]at this;omega);have q1:En (is.take j):=(by have:=Aht (is.take j) (is.drop j);rw[take_append_drop]at this;exact (this.1 V).1);have q2:En (f.take j):=(by have:=Aht (f.take j) (f.drop j);rw[take_append_drop]at this;exact (this.1 U).1);obtain⟨s,Y⟩:=Ad3 hg (ts.take j) (is.take j) (f.take j) a b ω v C ω q1 q2;have E:=Qz (show a+b<=6 by omega);refine⟨λr z=>?_,?_⟩
  .have g:=s r z;have:=Oa z;obtain⟨d,d1,_⟩:=g.deg;have D:=(Adj data _ _ _ d1).1;rw[length_take]at D;exact⟨g.pos,ω,ω⟩
  .have:=Lu λp hp=>(s p hp).pos;omega
 rw[Qd,Nd,Ad];refine F7 ts (λj=>((Fb c (ts.take j) (is.take j) (f.take j)).map toR,(j:Int))) (by simp[Fb,toR]) ω ?_ ?_
 .intro j t hj F s Y e3;have o:is[j]? = some (is[j]' ω):=B3 _;generalize is[j]'_=i at o;have h:f[j]? = some (f[j]' ω):=B3 _;generalize f[j]'_=l at h;obtain⟨a,v,a2⟩:=g1 j i t o F;obtain⟨b,C,b2⟩:=g2 j l t h F;have a7:=K6 (B6 o);have P:=ht t (B6 F);have y:=Ahr V (B6 o);have x:=Ahr U (B6 h);obtain⟨w1,w2⟩:=hg t i l a b ω v C ω y x;have E:=Qz (show a+b<=6 by omega);have J:(c t i l).length<=729:=(by have:=Lu λp hp=>(w1 p hp).pos;omega);have L:∀w∈c t i l,w.2<=729:=λw H=>by have:=Oa H;omega
  obtain⟨x1,x2⟩:=u j;have M:Fb c (ts.take (j+1)) (is.take (j+1)) (f.take (j+1))=(Fb c (ts.take j) (is.take j) (f.take j)).flatMap (I5 (c t i l)):=(by rw[Dd F,Dd o,Dd h,Ar0 _ _ _ _ _ _ _ ζ ζ]);rw[M];have B:=X t i l a b ω v C ω P y x;generalize Fb c (ts.take j) (is.take j) (f.take j)=R at *;generalize c t i l=W at *;simp only[s,Y,Al,Ad];refine F7 (R.map toR) (λn=>((n:Int),((R.take n).flatMap (I5 W)).map toR)) ψ (by rw[C4];omega) ?_ ?_
  .intro n r' hn z f1 f2 f3;rw[getElem?_map]at z;obtain⟨r,hq,rfl⟩:=Option.map_eq_some_iff.1 z;obtain⟨y1,Z,y3⟩:=x1 r (B6 hq);have a6:((R.take n).flatMap (I5 W)).length<=729*729:=(by refine Nat.le_trans (Ad5 _ 729 _ λq _=>by unfold I5;rw[C4];exact J) (Nat.mul_le_mul_right _ ?_);rw[length_take];omega);simp only[f1,f2,f3,Al,Ad,Bu rfl o,Bu rfl h,B];refine F7 (W.map A5) (λm=>((m:Int),((R.take n).flatMap (I5 W)).map toR++((I5 (W.take m) r).map toR))) (by simp[I5]) (by rw[C4];omega) ?_ ?_
   .intro m w' X H G p2 p3;rw[getElem?_map]at H;obtain⟨w,A,rfl⟩:=Option.map_eq_some_iff.1 H;have I:=L w (B6 A);have a8:(I5 (W.take m) r).length<=729:=(by unfold I5;rw[C4,length_take];omega);have aa:(((R.take n).flatMap (I5 W)).map toR++(I5 (W.take m) r).map toR).length<=729*729+729:=(by rw[Eu,C4,C4];omega);simp only[G,p2,p3,Al,Ad];show (Ut r.1).bind _=_;rw[A3z _ ω,Ad,Dn ζ,Ad];show (G6 (cR r.2) (cR w.2)).bind _=_;rw[Ary Z I,Ad,Dn (by rw[length_singleton];omega),Ad];have:I5 (W.take (m+1)) r=I5 (W.take m) r++[(r.1++[w.1],r.2*w.2)]:=(by unfold I5;rw[Dd A,map_append];rfl);rw[this,map_append,append_assoc];rfl
   .intro G;refine⟨_,by simp only[G];rfl,?_⟩;rw[C4,Dq,Ajf _ hq,map_append]
  .intro f1;refine⟨_,by simp only[f1];rfl,?_⟩;rw[C4,Dq,e3]
 .intro s;refine⟨_,by simp only[s];rfl,?_⟩;rw[Iz ω,Iz ω,Iz ω]
end Go.Ab
