/- Plain laws. -/
import Derived.Test.YtdinnpegmcadbaaGreatDoorRnPl2
open List
namespace Go.Ab
open Go
variable {x:B9} {p:Int} {ps:List (List Aj)} {b l:List Int} {N a j k n q:Nat} {α:Type} {cmp:α->α->Option Int}
theorem A8h:Tp []=some []:=by kernel_rfl
theorem Aml (l:List Int):Tp l=some (l.mergeSort λx y=>decide (x<=y)):=by cases l with| nil=>rw[A8h];simp| cons a l=>rfl
theorem Amm (l:List Int):(l.mergeSort λx y=>decide (x<=y)).Pairwise (·<=·):=by have:=pairwise_mergeSort (le:=λx y:Int=>decide (x<=y)) (λa b c g i=>by simp only[Ds]at *;omega) (λa b=>by simp only[Bool.or_eq_true,Ds];omega) l;exact this.imp (λh=>by simpa using h)
structure Asc (b:List Int) (n:Nat) (l:List Int):Prop where
 up:l.Pairwise (· < ·)
 mem:∀y,y∈l↔y∈b.take n
theorem A8i (c:b.Pairwise (·<=·)) (hp:b[q]? = some p):∀y∈b.take (q+1),y<=p:=by
 intro y s;obtain⟨i,g⟩:=Hh s;rw[getElem?_take]at g;split at g
 .rename_i u;by_cases e:i=q
  .subst e;rw[g]at hp;cases hp;exact Int.le_refl _
  .have h:=Ec g;have o:=Ec hp;have:=(pairwise_iff_getElem.1 c) i q h o ω;rw[Bp h]at g;rw[Bp o]at hp;cases g;cases hp;exact this
 .cases g
theorem Asc.step (g:b.Pairwise (·<=·)) {x:Int} (h:Asc b (q+1) l) (hp:b[q]? = some p) (hx:b[q+1]? = some x) (j:x≠p):Asc b (q+2) (l++[x]):=by
 have f:=A8i g hp;have i:p<x:=by have h1:=Ec hp;have h2:=Ec hx;have:=(pairwise_iff_getElem.1 g) q (q+1) h1 h2 ω;rw[Bp h1]at hp;rw[Bp h2]at hx;cases hp;cases hx;omega
 refine⟨?_,λy=>?_⟩
 .rw[pairwise_append];refine⟨h.up,ψ,λa ha c hc=>?_⟩;rw[D4]at hc;subst hc;have:=f a ((h.mem a).1 ha);omega
 .rw[Cs hx,Ef,Ef,h.mem y]
theorem Asc.same {x:Int} (h:Asc b (q+1) l) (hp:b[q]? = some x) (hx:b[q+1]? = some x):Asc b (q+2) l:=by
 refine⟨h.up,λy=>?_⟩;rw[Cs hx,Ef,h.mem y];constructor
 .exact .inl
 .rintro (h1|h1)
  .exact h1
  .rw[D4]at h1;subst h1;rw[Cs hp];simp
theorem Ab5 {l:List α} {off:Nat} {i:Int} {x:α} (g:i=j) (o:j<n) (h:l[off+j]? = some x):Hy l off n i=some x:=by subst g;unfold Hy;rw[As ω];simpa using h
theorem A8j {X:Option (Nat×List Int)} {Q:Nat×List Int->Prop} (h:∃r,X=some r/\Q r):∃(m:Nat) (o:List Int),X=some (m,o)/\Q (m,o):=by obtain⟨⟨m,o⟩,g,i⟩:=h;exact⟨m,o,g,i⟩
theorem A8k {X:Option (Int⊕((Nat×List Int)⊕Unit))} {P:Nat->List Int->Prop} {b:Prop} (h:∃r,X=some r/\∃(m:Nat) (o:List Int),r = .inr (.inl (m,o))/\P m o) : ∃e,X=some (.inr e)/\((∃(m:Nat) (o:List Int),e = .inl (m,o)/\P m o)\/(e = .inr ()/\b)):=by obtain⟨_,g,m,o,rfl,i⟩:=h;exact⟨_,g,.inl ⟨m,o,rfl,i⟩⟩
theorem Amn (b:List Int) (R:b.Pairwise (·<=·)) (hl:b.length<=1099511627776):∃(m:Nat) (o:List Int),Rk b.length b=some (m,o)/\m<=o.length/\Asc b b.length (o.take m):=by
 unfold Rk;by_cases F:b.length<2
 .rw[Ar ω,Am];refine⟨b.length,b,rfl,Nat.le_refl _,?_,λy=>Iff.rfl⟩;rw[C1]
  match b,F with| [],_=>simp| [_],_=>simp
 .rw[A3 ω,Ap];refine A8j (Q:=λr:Nat×List Int=>r.1<=r.2.length/\Asc b b.length (r.2.take r.1)) ?_
  .refine Er (Q:=λr:Nat×List Int=>r.1<=r.2.length/\Asc b b.length (r.2.take r.1)) (λv=>∃j:Nat,v=((j+1:Nat):Int)/\j+1<=b.length/\Asc b (j+1) (b.take (j+1))) (λv=>b.length-v.toNat) (λe:((Nat×List Int)⊕Unit)=>(∃(m:Nat) (o:List Int),e = .inl (m,o)/\m<=o.length/\Asc b b.length (o.take m))\/(e = .inr ()/\Asc b b.length (b.take b.length))) ?_ ?_ ?_ (J:=λz:((Nat×List Int)⊕Unit)=>match z with|.inl (G,E)=>some (G,E) | .inr _=>some (b.length,b))
   .exact⟨0,rfl,ω,by
     refine⟨?_,λy=>Iff.rfl⟩
     match b,F with
     | a::_,_=>simp
     | [],h=>simp at h⟩
   .rintro v ⟨j,rfl,hj,N⟩;rcases Cf (j+1) b.length with h|h
    .have C:b[j+1]? = some b[j+1]:=Bp h;have hp:b[j]? = some b[j]:=Bp ω;generalize b[j+1]=x at C;generalize b[j]=p at hp;have X:Ac (((j+1:Nat):Int)-1)=((j:Nat):Int):=(by rw[show (((j+1:Nat):Int)-1)=(j:Int) by omega,Ac,Ci] <;> omega);simp only[Ar (ω:((j+1:Nat):Int)<(b.length:Int)),Am,Ab5 (l:=b) (off:=0) (n:=b.length) (i:=((j+1:Nat):Int)) rfl h (by rw[Nat.zero_add];exact C),X, Ab5 (l:=b) (off:=0) (n:=b.length) (i:=((j:Nat):Int)) rfl ω (by rw[Nat.zero_add];exact hp),Ad,C3 h ω];by_cases e:x=p
     .subst e;rw[Eh rfl,Am];have A:Re b.length ((j+1:Nat):Int) ((b.length:Nat):Int)=some (j+1,b.length):=(by unfold Re;rw[As ω];simp);rw[A,Ad];dsimp only;refine .inr ?_;refine A8k (Er (Q:=λz:(Int⊕((Nat×List Int)⊕Unit))=>∃(m:Nat) (o:List Int),z = .inr (.inl (m,o))/\m<=o.length/\Asc b b.length (o.take m)) (λz=>∃(w k:Nat) (o:List Int),z=((w:Int),(k:Int),o)/\o.length=b.length/\w<=j+k/\1<=k/\j+1+k<=b.length/\Asc b (j+1+k) (o.take w)/\∀i,w<=i->o[i]? = b[i]?) (λz=>b.length-(j+1)-z.2.1.toNat) (λz=>∃(w k:Nat) (o:List Int),z=((w:Int),(k:Int),o)/\o.length=b.length/\w<=b.length/\Asc b b.length (o.take w)) ?_ ?_ ?_)
      .refine⟨j+1,1,b,rfl,rfl,ω,ω,ω,?_,λ_ _=>rfl⟩;exact N.same hp C
      .rintro z ⟨w,k,o,rfl,D,hw,hk,Z,f,c⟩;rcases Cf (j+1+k) b.length with W|W
       .have H:b[j+1+k]? = some b[j+1+k]:=Bp W;have P:b[j+k]? = some b[j+k]:=Bp ω;generalize b[j+1+k]=y at H;generalize b[j+k]=q at P;have V:Ac ((k:Int)-1)=((k-1:Nat):Int):=(by rw[show ((k:Int)-1)=((k-1:Nat):Int) by omega,Ac,Ci] <;> omega);have U:Ac ((k:Int)+1)=((k+1:Nat):Int):=C3 (n:=b.length) ω ω;have S:Ac ((w:Int)+1)=((w+1:Nat):Int):=C3 (n:=b.length) ω ω;have i1:Hy o (0+(j+1)) (b.length-(j+1)) (k:Int)=some y:=Ab5 rfl ω (by rw[Nat.zero_add,c _ ω];exact H);have i2:Hy o (0+(j+1)) (b.length-(j+1)) ((k-1:Nat):Int)=some q:=Ab5 rfl ω (by rw[Nat.zero_add,c _ ω,show j+1+(k-1)=j+k by omega];exact P);have I:o[w]? = some (o[w]' ω):=Bp _;have i3:Hy o 0 b.length (w:Int)=some (o[w]' ω):=Ab5 rfl ω (by rw[Nat.zero_add];exact I);simp only[Ar (ω:(k:Int)<((b.length-(j+1):Nat):Int)),Am,i1,i2,i3,V,U,S,Ad];by_cases e:y=q
        .subst e;rw[G0 rfl,Ap];refine .inl ⟨_,rfl,⟨w,k+1,o,rfl,D,ω,ω,ω,?_,c⟩,by simp only[Int.toNat_natCast];omega⟩;have:=Asc.same (q:=j+k) (x:=y) (by rw[show j+k+1=j+1+k by omega];exact f) P (by rw[show j+k+1=j+1+k by omega];exact H);rw[show j+1+(k+1)=j+k+2 by omega];exact this
        .rw[F4 e,Am];have B:Cr o (((0:Nat):Int)+(w:Int)) y=o.set w y:=Ht (n:=w) ω y;have s:(o.set w y).take (w+1)=o.take w++[y]:=(by rw[Cs (x:=y) (by rw[getElem?_set,As rfl,As ω]),take_set_of_le (Nat.le_refl _)]);rw[B];refine .inl ⟨_,rfl,⟨w+1,k+1,o.set w y,rfl,by simpa using D,ω,ω,ω,?_,?_⟩,by simp only[Int.toNat_natCast];omega⟩
         .rw[s];have:=Asc.step R (q:=j+k) (x:=y) (p:=q) (by rw[show j+k+1=j+1+k by omega];exact f) P (by rw[show j+k+1=j+1+k by omega];exact H) e;rw[show j+1+(k+1)=j+k+2 by omega];exact this
         .intro i hi;rw[getElem?_set,Ao ω];exact c i ω
       .have L:j+1+k=b.length:=ω;refine .inr ⟨((w:Int),(k:Int),o),?_,w,k,o,rfl,D,ω,by rw[<-L];exact f⟩;simp only[A3 (ω:¬(k:Int)<((b.length-(j+1):Nat):Int)),Ap]
      .rintro z ⟨w,k,o,rfl,D,hw,f⟩;dsimp only;have g:V8 b.length (w:Int)=some w:=(by unfold V8;rw[As ω];simp);by_cases Y:w=0\/w<b.length
       .have u:Tg b.length (w:Int) ((b.length:Nat):Int)=some (.inl (w,b.length)):=(by unfold Tg;rw[As ω,As ω];simp);have M:Rf o (0+w) (b.length-w) (0:Int)=some (Gf o (0+w) (replicate (b.length-w) 0)):=(by unfold Rf;rw[As ω]);rw[u,Ad];dsimp only;rw[M,Ad,g,Ad];have s:(Gf o (0+w) (replicate (b.length-w) (0:Int))).take w=o.take w:=(by unfold Gf;rw[Nat.zero_add,append_assoc,take_append_of_le_length ζ,take_take,Nat.min_self]);refine⟨_,rfl,w,_,rfl,?_,?_⟩
        .unfold Gf;simp;omega
        .rw[s];exact f
       .have u:Tg b.length (w:Int) ((b.length:Nat):Int)=some (.inr ()):=(by unfold Tg;rw[As ω,Ao ω]);rw[u,Ad];dsimp only;rw[g,Ad];exact⟨_,rfl,w,o,rfl,ω,f⟩
     .rw[C8 e,Ap];refine .inl ⟨_,rfl,⟨j+1,rfl,ω,?_⟩,by simp only[Int.toNat_natCast];omega⟩;have:=Asc.step R N hp C e;rw[<-Cs C]at this;exact this
    .have:j+1=b.length:=ω;refine .inr ⟨.inr (),?_,.inr ⟨rfl,by rw[<-this];exact N⟩⟩;rw[A3 ω];rfl
   .rintro e (⟨m,o,rfl,T,F⟩|⟨rfl,T⟩)
    .exact⟨(m,o),rfl,T,F⟩
    .exact⟨(b.length,b),rfl,Nat.le_refl _,T⟩
def Dl (b:List Ay) (res:Ay) (v:Int):Ay:=match Ag b v with|some w=>w|none=>res
theorem Amo {b:List Ay} (c:b.length=x.V.length) (res:Ay) {v:Int} {t:Af} (ht:C9 x.V x.E v=some t):Ot v res b=some (Dl b res v):=by
 unfold Ot Dl;unfold C9 at ht;by_cases h:v = -1
 .subst h;rw[Aa9 ω];rfl
 .rw[Ao h]at ht;obtain⟨i,o,_⟩:=G3 ht;have g:Ag b v=some (b[v.toNat]' ω):=Bn (n:=v.toNat) ω (Bp _);rw[C8 h,g];rfl
theorem A8l {b:List Ay} {res:Ay} (h:∀v∈b,Co v<=N) (g:Co res<=N) (v:Int):Co (Dl b res v)<=N:=by unfold Dl;cases i:Ag b v with| none=>exact g| some w=>exact h w (G3 i).2.2.2
def I3 (x:B9) (b:List Ay) (res:Ay) (v:Int):Bool:=match C9 x.V x.E v with|some t=>Mo x.D (Dl b res v) t|none=>false
noncomputable def Xz (cmp:α->α->Option Int) (a0:Int):Int×List α->Option ((Int×List α)⊕(Int×List α)):=λ(h,b)=> (show OB from bif h>a0 then ((Ag b h).bind λo=> (Ag b (Ac (h-1))).bind λg=> (cmp o g).bind λs=> some (decide (s<(0:Int)))) else some false).bind λf=>
 bif f then ((Ag b (Ac (h-1))).bind λi=> (Ag b h).bind λc=> (Ag b h).bind λu=> (Ag (Cr b h i) (Ac (h-1))).bind λv=> some (.inl ((Ac (h-1)),(Cr (Cr b h i) (Ac (h-1)) c)))) else some (.inr (h,b))
noncomputable def X0 (cmp:α->α->Option Int) (a0 a1:Int) (g:List α):Option (List α) := (Ak (S:=(Int×(List α))) (E:=(List α)) (λ(h,b)=> bif h<a1 then ((Ak (Xz cmp a0) (h,b)).bind λ(i,f)=> some (.inl ((Ac (h+1)),f))) else (some (.inr b))) ((Ac (a0+1)),g)).bind λc=> some c
theorem A8m (A R:List α) (x y:α):((A++y::x::R).set (A.length+1) y).set A.length x=A++x::y::R:=by induction A with| nil=>rfl| cons a A ih=>simp only[D0,D1,set_cons_succ,ih]
theorem Amp (A R:List α) (x:α):(A++x::R)[A.length]? = some x:=by simp
theorem A8n (A R:List α) (x y:α):(A++y::x::R)[A.length+1]? = some x:=by induction A with| nil=>rfl| cons a A ih=>simp
theorem A8o (cmp:α->α->Option Int) (y:α) (R:List α):Xz cmp 0 (0,y::R)=some (.inr (0,y::R)):=by unfold Xz;simp only[A3 (ω:¬(0:Int)>0),Ap,Ad]
theorem A8p {c:α->α->Int} (i:N<=1099511627776) (A R:List α) (u y:α) (b:cmp u y=some (c u y)) (f:(A++y::u::R).length<=N):Xz cmp 0 (((A.length+1:Nat):Int),A++y::u::R) = if c u y<0 then some (.inl ((A.length:Int),A++u::y::R)) else some (.inr (((A.length+1:Nat):Int),A++y::u::R)):=by
 have h:A.length+1<N:=by simp at f;omega
 have g:Ac (((A.length+1:Nat):Int)-1)=(A.length:Int):=by rw[Ac,Ci] <;> omega
 unfold Xz;simp only[Ar (ω:((A.length+1:Nat):Int)>0),Am,g,Bn (n:=A.length+1) rfl (A8n A R u y),Bn (n:=A.length) rfl (Amp A (u::R) y),Ad,b];by_cases o:c u y<0
 .rw[Ar o,As o];simp only[Am];rw[Ht (n:=A.length+1) rfl,Ht (n:=A.length) rfl,A8m];have:Ag ((A++y::u::R).set (A.length+1) y) (A.length:Int)=some y:=(by refine Bn rfl ?_;rw[getElem?_set_ne ω];exact Amp A (u::R) y);rw[this];rfl
 .rw[A3 o,Ao o];rfl
theorem A8q {c:α->α->Int} (s:N<=1099511627776) : ∀(n:Nat) (A R:List α) (x:α),A.length=n->(∀t∈A,cmp x t=some (c x t))->(A++x::R).length<=N -> ∃f i,Ak (Xz cmp 0) ((A.length:Int),A++x::R)=some ((f.length:Int),f++x::(i++R))/\A=f++i/\(∀a∈i,c x a<0)/\∀k y,f=k++[y]->¬c x y<0:=by
 intro n;induction n with
 | zero=>intro A R x g _ _;have:A = []:=F3.1 g;subst this;exact⟨[],[],F0 (A8o cmp x R),rfl,nofun,(λk y h=>by simp at h)⟩
 | succ n ih=>
  intro A R x g l b;obtain⟨B,y,rfl⟩:∃B y,A=B++[y]:=by
   rcases eq_nil_or_concat A with h|⟨B,y,h⟩
   .rw[h]at g;cases g
   .exact⟨B,y,by simpa using h⟩
  have u:B.length=n:=(by simpa using g);have E:(B++[y])++x::R=B++y::x::R:=ψ;have el:(((B++[y]).length:Nat):Int)=((B.length+1:Nat):Int):=ψ;rw[E]at b ⊢;rw[el];have j:=A8p (cmp:=cmp) (c:=c) s B R x y (l y ψ) b;by_cases v:c x y<0
  .rw[As v]at j;obtain⟨f,i,w,C,F,D⟩:=ih B (y::R) x u (λt G=>l t (by simp[G])) (by simpa using b);refine⟨f,i++[y],?_,by rw[C];simp,?_,D⟩
   .rw[Lg j,w];simp
   .intro a o;rcases Ef.1 o with o|o
    .exact F a o
    .simp only[D4]at o;subst o;exact v
  .rw[Ao v]at j;refine⟨B++[y],[],?_,ψ,nofun,?_⟩
   .rw[F0 j];simp
   .intro k z q;have:=append_inj' q rfl;have e:y=z:=(by simpa using this.2);subst e;exact v
theorem A8r {c:α->α->Int} (L:Nu c) {f j:List α} {x:α} (s:(f++j).Pairwise λa b=>¬c b a<0) (v:∀a∈j,c x a<0) (w:∀g y,f=g++[y]->¬c x y<0):(f++x::j).Pairwise (λa b=>¬c b a<0):=by
 obtain⟨i,l,k⟩:=pairwise_append.1 s;have A:∀a∈f,¬c x a<0:=by
  intro a o;rcases eq_nil_or_concat f with h|⟨g,y,h⟩
  .rw[h]at o;cases o
  .have h:f=g++[y]:=(by simpa using h);have q:=w g y h;rw[h]at o i;rcases Ef.1 o with o|o
   .exact L.ntr x y a q ((pairwise_append.1 i).2.2 a o y ψ)
   .simp only[D4]at o;subst o;exact q
 refine pairwise_append.2 ⟨i,pairwise_cons.2 ⟨λa o h=>L.irr x (L.trs x a x (v a o) h),l⟩,λa o b u=>?_⟩;rcases Gc.1 u with rfl|u
 .exact A a o
 .exact k a o b u
theorem Amq {c:α->α->Int} (L:Nu c) (f:List α) (A:∀x∈f,∀y∈f,cmp x y=some (c x y)) (J:f.length<=1099511627776) : ∃R,X0 cmp 0 (f.length:Int) f=some R/\R.Perm f/\R.Pairwise (λa b=>¬c b a<0):=by
 unfold X0;cases f with
 | nil=>refine⟨[],?_,Perm.refl _,Pairwise.nil⟩;refine Kc 0 (λ_=>((1:Int),([]:List α))) (by simp[Ac,Ci]) (λj T=>ω) ⟨[],?_,rfl⟩;simp
 | cons H B=>
 generalize k:H::B=f at *;have o:1<=f.length:=by rw[<-k];simp
 refine Er (λs=>∃(i:Nat) (S:List α),s=((i:Int),S++f.drop i)/\1<=i/\i<=f.length/\S.length=i/\S.Perm (f.take i)/\S.Pairwise λa b=>¬c b a<0) (λs=>f.length-s.1.toNat) (λR=>R.Perm f/\R.Pairwise λa b=>¬c b a<0) ⟨1,[H],by rw[<-k];simp[Ac,Ci],ω,o,rfl,by rw[<-k];simp,pairwise_singleton _ _⟩ ?_ ?_
 .rintro _ ⟨i,S,rfl,G,U,E,g,l⟩;rcases Cf i f.length with h|h
  .have F:f[i]? = some f[i]:=Bp h;have v:f[i]∈f:=getElem_mem h;generalize f[i]=x at F v;have D:f.drop i=x::f.drop (i+1):=Jz F;have z:(S++x::f.drop (i+1)).length=f.length:=ζ;simp only[Ar (ω:(i:Int)<(f.length:Int)),Am,C3 h ω];rw[D];left;obtain⟨u,q,w,C,M,I⟩:=A8q (cmp:=cmp) (c:=c) (N:=f.length) ω S.length S (f.drop (i+1)) x rfl (λt P=>A x v t (mem_of_mem_take (g.mem_iff.1 P))) (by rw[z];exact Nat.le_refl _);rw[E]at w;have hp:(u++x::q).Perm (f.take (i+1)):=(by rw[Cs F];have:(u++x::q).Perm ((u++q)++[x]):=(by rw[append_assoc];exact Perm.append_left u (perm_append_singleton x q).symm);exact this.trans (by rw[<-C];exact g.append_right [x]));refine⟨(((i+1:Nat):Int),(u++x::q)++f.drop (i+1)),bnd w ψ,⟨i+1,u++x::q,rfl,ω,ω,?_,hp,?_⟩,ζ⟩
   .rw[hp.length_eq,length_take];omega
   .rw[C]at l;exact A8r L l M I
  .have:i=f.length:=ω;subst this;rw[C1]at g;simp only[A3 (ω:¬(f.length:Int)<(f.length:Int)),Ap,drop_length,append_nil];exact .inr ⟨S,rfl,g,l⟩
 .rintro R ⟨w,C⟩;exact⟨R,rfl,w,C⟩
noncomputable def Ag8 (B:Nat) (gr:Int->Option (List α)) (a0:List (List α)):Option (List α) := (Ak (S:=(Int×Int)) (E:=Int) (λ(o,s)=> bif s<(a0.length:Int) then ((Ag a0 s).bind λu=> bif (Ac (o+(u.length:Int)))<(0:Int) then (none) else (some (.inl ((Ac (o+(u.length:Int))),(Ac (s+1)))))) else (some (.inr o))) (0,0)).bind λv=> (gr v).bind λi=> (Ak (S:=(Int×(List α))) (E:=(List α)) (λ(b,c)=> bif b<(a0.length:Int) then ((Ag a0 b).bind λf=> (B8 B c f).bind λh=> some (.inl ((Ac (b+1)),h))) else (some (.inr c))) (0,i)).bind λg=> some g
theorem Ag9 {B:Nat} (g:B<=1024) {gr:Int->Option (List α)} (hg:∀n:Nat,n<=1000000->gr (n:Int)=some []) (a b:List α) (h:a.length+b.length<=1000000):Ag8 B gr [a,b]=some (a++b):=by
 have v:a.length*B<=1000000*1024:=Nat.mul_le_mul ω g;have w:(a.length+b.length)*B<=1000000*1024:=Nat.mul_le_mul h g;have f:Ac 1=1:=by rw[Ac,Ci] <;> omega
 have c:Ac 2=2:=by rw[Ac,Ci] <;> omega
 have k:Ac (a.length:Int)=(a.length:Int):=by rw[Ac,Ci] <;> omega
 have i:Ac ((a.length:Int)+(b.length:Int))=((a.length:Int)+(b.length:Int)):=by rw[Ac,Ci] <;> omega
 have o:Ag [a,b] 0=some a:=rfl;have s:Ag [a,b] 1=some b:=rfl;have q:B8 B [] a=some a:=by rw[Dy ζ];rfl
 have l:B8 B a b=some (a++b):=Dy ω;unfold Ag8;refine Kc 2 (λj=>if j=0 then (0,0) else if j=1 then ((a.length:Int),1) else (((a.length+b.length:Nat):Int),2)) rfl ?_ ⟨((a.length+b.length:Nat):Int),?_,?_⟩
 .intro j u;rcases (ω:j=0\/j=1) with rfl|rfl
  .have:¬((a.length:Int)<0):=ω;simp[o,k,f,this]
  .have:¬((a.length:Int)+(b.length:Int)<0):=ω;simp[s,i,c,this]
 .simp
 .rw[hg _ h,Ad];refine Kc 2 (λj=>if j=0 then (0,[]) else if j=1 then (1,a) else (2,a++b)) rfl ?_ ⟨a++b,?_,rfl⟩
  .intro j u;rcases (ω:j=0\/j=1) with rfl|rfl
   .simp[o,f,q]
   .simp[s,c,l]
  .simp
def sm:Nat->(Nat->Nat)->Nat
 | 0,_=>0
 | n+1,f=>sm n f+f n
theorem X1 {f g:Nat->Nat}:∀{n:Nat},(∀k,k<n->f k=g k)->sm n f=sm n g
 | 0,_=>rfl
 | n+1,h=>by rw[sm,sm,X1 (n:=n) λk i=>h k ω,h n ω]
theorem Vd (f g:Nat->Nat):∀n,sm n (λk=>f k+g k)=sm n f+sm n g
 | 0=>rfl
 | n+1=>by simp only[sm,Vd f g n];omega
theorem Avk (c:Nat) (f:Nat->Nat):∀n,sm n (λk=>c*f k)=c*sm n f
 | 0=>rfl
 | n+1=>by simp only[sm,Avk c f n,Nat.mul_add]
theorem Ve {f:Nat->Nat}:∀{n:Nat},(∀k,k<n->f k=0)->sm n f=0
 | 0,_=>rfl
 | n+1,h=>by rw[sm,Ve (n:=n) λk g=>h k ω,h n ω]
theorem Aha (f:Nat->Nat):∀n,sm (n+1) f=f 0+sm n (λk=>f (k+1))
 | 0=>by simp[sm]
 | n+1=>by rw[sm,Aha f n,sm];omega
theorem Avl {f:Nat->Nat} {n:Nat}:∀{m:Nat},n<=m->(∀k,n<=k->f k=0)->sm m f=sm n f
 | 0,h,_=>by rw[show n=0 by omega]
 | m+1,h,g=>by
  by_cases e:n=m+1
  .rw[e]
  .rw[sm,Avl (m:=m) ω g,g m ω,Nat.add_zero]
theorem Ab6 {f:Nat->Nat} (h:k<n) (g:∀j,j≠k->f j=0):sm n f=f k:=by
 induction n with
 | zero=>omega
 | succ n ih=>
  rw[sm];by_cases e:k=n
  .subst e;rw[Ve λj i=>g j ω,Nat.zero_add]
  .rw[ih ω,g n ω,Nat.add_zero]
theorem Vf:∀n,bc n n=1
 | 0=>rfl
 | n+1=>by
  rw[bc,Vf n]
  have:bc n (n+1)=0:=by have:=bc_big2 n (n+1) ω;exact this
  omega
where bc_big2:∀n k,n<k->bc n k=0
 | n,0,h=>absurd h ω
 | 0,k+1,_=>rfl
 | n+1,k+1,h=>by rw[bc,bc_big2 n k ω,bc_big2 n (k+1) ω]
theorem X2 (h:n<k):bc n k=0:=Vf.bc_big2 n k h
theorem X3 (n k:Nat):bc (n+1) (k+1)=bc n k+bc n (k+1):=by rw[bc]
def Rc (a b k:Nat):Nat:=if b<=k then bc k a*bc a (k-b) else 0
theorem Avm {b:Nat} (h:a+b<k):Rc a b k=0:=by unfold Rc;rw[As ω,X2 (show a<k-b by omega),Nat.mul_zero]
theorem A8s {b:Nat} (h:k<a):Rc a b k=0:=by
 unfold Rc;split
 .rw[X2 h,Nat.zero_mul]
 .rfl
theorem Ab7 (b k:Nat):Rc 0 b k=if k=b then 1 else 0:=by
 unfold Rc;by_cases h:k=b
 .subst h;rw[As (Nat.le_refl _),As rfl,Nat.sub_self,J1,J1]
 .rw[Ao h];split
  .rw[X2 (show 0<k-b by omega),Nat.mul_zero]
  .rfl
theorem Ab8 (a k:Nat):Rc a 0 k=if k=a then 1 else 0:=by
 unfold Rc;rw[As (Nat.zero_le _),Nat.sub_zero];by_cases h:k=a
 .subst h;rw[As rfl,Vf]
 .rw[Ao h];rcases Cf k a with g|g
  .rw[X2 g,Nat.zero_mul]
  .rw[X2 (show a<k by omega),Nat.mul_zero]
theorem Avn (a b k:Nat):Rc (a+1) (b+1) (k+1)=Rc a (b+1) k+Rc (a+1) b k+Rc a b k:=by
 unfold Rc;by_cases h:b<=k
 .rw[As ω,As h,As h,show k+1-(b+1)=k-b by omega,X3];by_cases g:b+1<=k
  .rw[As g];obtain⟨j,i⟩:∃j,k-b=j+1:=⟨k-b-1,ω⟩;rw[i,show k-(b+1)=j by omega,X3];simp only[Nat.add_mul,Nat.mul_add];omega
  .rw[Ao g,show k-b=0 by omega,J1,J1];omega
 .rw[Ao ω,Ao h,Ao h,Ao ω]
theorem Avo (a b:Nat):Rc (a+1) (b+1) 0=0:=by unfold Rc;rw[Ao ω]
theorem A8t (f:Nat->Nat) (n N:Nat):sm (N+1) (λk=>f k*bc (n+1) k)=sm (N+1) (λk=>f k*bc n k)+sm N (λk=>f (k+1)*bc n k):=by
 rw[Aha,Aha λk=>f k*bc n k,J1,J1];have:sm N (λk=>f (k+1)*bc (n+1) (k+1))=sm N (λk=>f (k+1)*bc n (k+1))+sm N (λk=>f (k+1)*bc n k):=by rw[<-Vd];exact X1 λk _=>by rw[X3,Nat.mul_add];omega
 rw[this];omega
theorem X4:∀(n a b N:Nat),a+b<N->sm N (λk=>Rc a b k*bc n k)=bc n a*bc n b
 | n,0,b,N,h=>by rw[J1,Nat.one_mul,Ab6 (k:=b) ω λj g=>by rw[Ab7,Ao g,Nat.zero_mul],Ab7,As rfl,Nat.one_mul]
 | n,a+1,0,N,h=>by rw[J1,Nat.mul_one,Ab6 (k:=a+1) ω λj g=>by rw[Ab8,Ao g,Nat.zero_mul],Ab8,As rfl,Nat.one_mul]
 | 0,a+1,b+1,N,h=>by rw[show bc 0 (a+1)=0 from rfl,Nat.zero_mul];refine Ve λk _=>?_;cases k with| zero=>rw[Avo,Nat.zero_mul]| succ k=>rw[show bc 0 (k+1)=0 from rfl,Nat.mul_zero]
 | n+1,a+1,b+1,N,h=>by obtain⟨N,rfl⟩:∃M,N=M+1:=⟨N-1,ω⟩;rw[A8t,X4 n (a+1) (b+1) (N+1) h];have i:=X4 n a (b+1) N ω;have o:=X4 n (a+1) b N ω;have s:=X4 n a b N ω;have c:sm N (λk=>Rc (a+1) (b+1) (k+1)*bc n k)=sm N (λk=>Rc a (b+1) k*bc n k)+sm N (λk=>Rc (a+1) b k*bc n k)+sm N (λk=>Rc a b k*bc n k):=(by rw[<-Vd,<-Vd];exact X1 λk _=>by rw[Avn,Nat.add_mul,Nat.add_mul]);rw[c,i,o,s,X3,X3,Nat.add_mul,Nat.mul_add,Nat.mul_add];omega
theorem A8u {f g:Nat->Nat} (h:∀n,n<N->sm N (λk=>f k*bc n k)=sm N λk=>g k*bc n k):∀k,k<N->f k=g k:=by
 intro k;induction k using Nat.strongRecOn with
 | ind k ih=>
  intro s;have i:∀F:Nat->Nat,sm N (λj=>F j*bc k j)=sm k (λj=>F j*bc k j)+F k:=by
   intro F;have e:sm N (λj=>F j*bc k j)=sm (k+1) (λj=>F j*bc k j):=Avl ω λj o=>by rw[X2 ω,Nat.mul_zero]
   rw[e,sm,Vf,Nat.mul_one]
  have:=h k s;rw[i f,i g,X1 (f:=λj=>f j*bc k j) (g:=λj=>g j*bc k j) λj o=>by rw[ih j o ω]]at this;omega
theorem A8v:Tl=some true:=by kernel_rfl
def Mr (l:List Bf):List Int:=l.flatMap λa=>a.L.T.map (·.v)
def Jv (m:A5):List Int:=m.F.map (·.v)++Mr m.A
def Hk (p:List Aj):List Int:=p.flatMap λt=>Jv t.M
theorem Avp (F:List α) (g:α->Int) (o:List Int) (h:o.length+F.length<=1000000) {R:Type} {J:Int×List Int->Option R} {r:R} (k:J ((F.length:Int),o++F.map g)=some r) : (Ak (S:=(Int×List Int)) (E:=(Int×List Int)) (λ(s,b)=> bif s<(F.length:Int) then ((Ag F s).bind λc=> (B8 8 b [g c]).bind λi=> some (.inl ((Ac (s+1)),i))) else some (.inr (s,b))) (0,o)).bind J=some r:=by
 refine F5 F (λj=>((j:Int),o++(F.take j).map g)) ψ ω ?_ ?_
 .intro j f B v u w A;simp only[u,w,A,Am,Ad];rw[Dy ζ,Cs v];simp
 .intro u;exact⟨_,by simp only[u];rfl,by rw[C1];exact k⟩
theorem A8w (f:α->List Int) (l:List α) (j:Nat):((l.take j).flatMap f).length<=(l.flatMap f).length:=by
 have:l.flatMap f=(l.take j).flatMap f++(l.drop j).flatMap f:=by rw[<-flatMap_append,take_append_drop]
 rw[this,Ep];omega
theorem Avq (f:α->List Int) {l:List α} {x:α} (h:l[j]? = some x):((l.take j).flatMap f).length+(f x).length<=(l.flatMap f).length:=by have:=A8w f l (j+1);rw[Cs h,flatMap_append]at this;simpa using this
theorem A8x (p:List Aj) (E:p.length<=1000000) (F:∀t∈p,t.M.A.length<=1000000) (hb:(Hk p).length<=1000000) : ∃V,Zd p=some V/\V.Pairwise (· < ·)/\V.length<=1000000/\∀y,y∈V↔y∈Hk p:=by
 obtain⟨m,o,G,H,v⟩:=Amn ((Hk p).mergeSort λx y=>decide (x<=y)) (Amm _) (by rw[length_mergeSort];omega);refine⟨o.take m,?_,v.up,?_,?_⟩
 .unfold Zd;refine F5 p (λj=>((j:Int),Hk (p.take j))) rfl ω ?_ ?_
  .intro j t P w C I L;have q:=Bv w;have B:=F t q;have c:(Hk (p.take j)).length+(Jv t.M).length<=1000000:=Nat.le_trans (Avq (λt:Aj=>Jv t.M) w) hb;unfold Jv at c;rw[Ep,C2]at c;simp only[C,I,L,Am,Ad];refine Avp t.M.F (λf=>f.v) (Hk (p.take j)) ω ?_;dsimp only;refine F5 t.M.A (λi=>((i:Int),Hk (p.take j)++t.M.F.map (λf=>f.v)++Mr (t.M.A.take i))) (by simp[Mr]) ω ?_ ?_
   .intro i a S g k z u;have A:(Mr (t.M.A.take i)).length+(a.L.T.map (·.v)).length<=(Mr t.M.A).length:=Avq (λa:Bf=>a.L.T.map λl:Bq=>l.v) g;rw[C2]at A;simp only[k,z,u,Am,Ad];refine Avp a.L.T (λl=>l.v) _ (by simp only[Ep,C2];omega) ?_;show some (Sum.inl (_,_))=_;rw[Cs g];unfold Mr;rw[flatMap_append];simp
   .intro k;refine⟨_,by simp only[k];rw[C1];rfl,?_⟩;show some (Sum.inl (_,_))=_;rw[Cs w];unfold Hk;rw[flatMap_append];simp[Jv]
  .intro C;refine⟨Hk p,by simp only[C];rw[C1];rfl,?_⟩;rw[Aml,Ad];unfold Ft;rw[As (by rw[length_mergeSort]),Ad];have:Rk (Hk p).length ((Hk p).mergeSort λx y=>decide (x<=y))=some (m,o):=(by rw[<-G,length_mergeSort]);rw[this,Ad];unfold Ad5;rw[As H];rfl
 .have D:((o.take m).length:Nat)<=(Hk p).length:=by
   have s:(o.take m).Nodup:=v.up.imp λh=>ω;have b:∀y∈o.take m,y∈Hk p:=λy M=>by have:=(v.mem y).1 M;rw[C1]at this;exact mem_mergeSort.1 this
   exact Nodup.length_le_of_subset s b
  omega
 .intro y;rw[v.mem y,C1,mem_mergeSort]
theorem Avr (l:List Int) (b:l.length<=1099511627776):Wf l l=some true:=by
 unfold Wf;rw[G0 rfl,Ap];refine F5 l (λj=>(j:Int)) rfl ω ?_ ?_
 .intro j x s u g i o;simp only[g,i,o,Am,Ad,bne_self_eq_false,Ap]
 .intro h;exact⟨.inr (),by simp only[h];rfl,rfl⟩
theorem A8y (a:Aq) (g:a.U.length<=1099511627776) (h:a.B.length<=1099511627776):Tn a a=some true:=by unfold Tn;rw[beq_self_eq_true,Am,Avr _ g,Ad,Am,Avr _ h,Ad]
structure PSt (K:Nat) (n:Nat) (b:List Aj):Prop where
 le:n<=b.length
 cp:CP (b.take n)
 tm:∀t∈b.take n,RB K t.C/\MSz t.M
theorem PSt.mono {K c:Nat} {b:List Aj} (h:PSt K n b) (f:K<=c):PSt c n b:=⟨h.le,h.cp,λt g=>⟨((h.tm t g).1).mono f,(h.tm t g).2⟩⟩
theorem Avs:∀(k:Nat) (t:Af) (a:Int),Bx t<=k->k<1099511627776->∃r,Rs k t a=some r/\True:=by
 intro k;induction k with
 | zero=>intro i a h;have:=Jf i;omega
 | succ k ih=>
  intro i a h u;have f:=Jf i;have g:=K7 i.R;rw[Rs];refine Qh ⟨_,rfl,trivial⟩ ?_;refine Er (λ(v,_)=>∃j:Nat,v=j/\j<=i.R.length) (λ(v,_)=>i.R.length-v.toNat) (λ_=>True) ⟨0,rfl,ω⟩ ?_ ?_
  .rintro⟨v,b⟩ ⟨j,rfl,w⟩;rcases Cf j i.R.length with o|o
   .have s:i.R[j]? = some i.R[j]:=Bp o;generalize i.R[j]=x at s;have l:=Jx (Bv s);obtain⟨⟨y,z⟩,c,_⟩:=ih x b ω ω;simp only[Ar (ω:(j:Int)<(i.R.length:Int)),Am,Bn rfl s,Ad,c,C3 o ω];cases y with| false=>exact .inr ⟨_,rfl,trivial⟩| true=>exact .inl ⟨_,rfl,⟨j+1,rfl,ω⟩,by simp only[Int.toNat_natCast];omega⟩
   .have:j=i.R.length:=ω;subst this;exact .inr ⟨.inr b,ψ,trivial⟩
  .rintro (⟨x,y⟩|e) _
   .exact⟨_,rfl,trivial⟩
   .exact⟨_,rfl,trivial⟩
theorem Avt (t:Af) (h:Bx t<=1048576):∃b,Wg t=some b:=by unfold Wg;obtain⟨r,g,_⟩:=Avs 4000000 t 250 ω ω;exact⟨_,by rw[g];rfl⟩
theorem A8z (l:List Af) (n:Int) (c:l.length<=1048576) (h:∀t∈l,Bx t<=1048576):∃b,Zh l n=some b/\True:=by
 unfold Zh;refine Er (λv=>∃j:Nat,v=j/\j<=l.length) (λv=>l.length-v.toNat) (λ_=>True) ⟨0,rfl,ω⟩ ?_ ?_
 .rintro v ⟨j,rfl,s⟩;rcases Cf j l.length with g|g
  .have i:l[j]? = some l[j]:=Bp g;generalize l[j]=x at i;obtain⟨b,o⟩:=Avt x (h x (Bv i));simp only[Ar (ω:(j:Int)<(l.length:Int)),Am,Bn rfl i,Ad,o,C3 g ω];cases decide ((j:Int)<=n) with
   | false=>exact .inr ⟨_,rfl,trivial⟩
   | true=>cases b with| false=>exact .inr ⟨_,rfl,trivial⟩| true=>exact .inl ⟨_,rfl,⟨j+1,rfl,ω⟩,by simp only[Int.toNat_natCast];omega⟩
  .simp only[A3 (ω:¬(j:Int)<(l.length:Int)),Ap];exact .inr ⟨_,rfl,trivial⟩
 .rintro (r|r) _
  .exact⟨_,rfl,trivial⟩
  .exact⟨_,rfl,trivial⟩
theorem A80 (l:List Ai) (f:DSz l):∃b,Zg l=some b/\True:=by
 unfold Zg;have A:=f.len;refine Qh ⟨_,rfl,trivial⟩ ?_;refine Er (λv=>∃j:Nat,v=j/\j<=l.length) (λv=>l.length-v.toNat) (λ_=>True) ⟨0,rfl,ω⟩ ?_ ?_
 .rintro v ⟨j,rfl,L⟩;rcases Cf j l.length with E|E
  .have F:l[j]? = some l[j]:=Bp E;generalize l[j]=x at F;obtain⟨M,I⟩:=f.sz x (Bv F);simp only[Ar (ω:(j:Int)<(l.length:Int)),Am,Bn rfl F,Ad,C3 E ω];have o:∃q,(bif decide ((x.S.size:Int)>40) then some true else some (decide ((x.O.length:Int)>10)))=some q:=(by cases decide ((x.S.size:Int)>40) <;> exact⟨_,rfl⟩);obtain⟨q,o⟩:=o
   erw[o];simp only[Ad];cases q with
   | true=>exact .inr ⟨_,rfl,trivial⟩
   | false=>
    simp only[Ap];have B:∀(W:Option (Int⊕(Bool⊕Unit))),(∃r,W=some r/\(r = .inl ((j+1:Nat):Int)\/∃e,r = .inr e))->(∃C,W=some (Sum.inl C)/\(∃j:Nat,C=(j:Int)/\j<=l.length)/\l.length-C.toNat<l.length-((j:Int)).toNat)\/∃e,W=some (Sum.inr e)/\True:=by
     rintro W ⟨r,rfl,rfl|⟨e,rfl⟩⟩
     .exact .inl ⟨_,rfl,⟨j+1,rfl,ω⟩,by simp only[Int.toNat_natCast];omega⟩
     .exact .inr ⟨_,rfl,trivial⟩
    refine B _ ?_;refine Er (λv=>∃j:Nat,v=j/\j<=x.O.length) (λv=>x.O.length-v.toNat) (λ_=>True) ⟨0,rfl,ω⟩ ?_ ?_
    .rintro v ⟨i,rfl,P⟩;rcases Cf i x.O.length with D|D
     .have G:x.O[i]? = some x.O[i]:=Bp D;generalize x.O[i]=y at G;have d1:=I y (Bv G);have d2:=K7 y.R;simp only[Ar (ω:(i:Int)<(x.O.length:Int)),Am,Bn rfl G,Ad,C3 D ω];have o:∃q,(bif decide ((y.S.size:Int)>40) then some true else some (decide ((y.R.length:Int)>8)))=some q:=(by cases decide ((y.S.size:Int)>40) <;> exact⟨_,rfl⟩);obtain⟨q,o⟩:=o
      erw[o];simp only[Ad];cases q with
      | true=>exact .inr ⟨_,rfl,trivial⟩
      | false=>
       simp only[Ap];have B:∀(W:Option (Int⊕(Bool⊕Int))),(∃r,W=some r/\(r = .inl ((i+1:Nat):Int)\/∃e,r = .inr e))->(∃C,W=some (Sum.inl C)/\(∃j:Nat,C=(j:Int)/\j<=x.O.length)/\x.O.length-C.toNat<x.O.length-((i:Int)).toNat)\/∃e,W=some (Sum.inr e)/\True:=by
        rintro W ⟨r,rfl,rfl|⟨e,rfl⟩⟩
        .exact .inl ⟨_,rfl,⟨i+1,rfl,ω⟩,by simp only[Int.toNat_natCast];omega⟩
        .exact .inr ⟨_,rfl,trivial⟩
       refine B _ ?_;refine Er (λs=>∃j:Nat,s.1=j/\j<=y.R.length) (λs=>y.R.length-s.1.toNat) (λ_=>True) ⟨0,rfl,ω⟩ ?_ ?_
       .rintro⟨_,w⟩ ⟨u,rfl,S⟩;rcases Cf u y.R.length with H|H
        .have c:y.R[u]? = some y.R[u]:=Bp H;generalize y.R[u]=t at c;have z:=Jx (Bv c);obtain⟨⟨g,k⟩,h,_⟩:=Avs 4000000 t w ω ω;simp only[Ar (ω:(u:Int)<(y.R.length:Int)),Am,Bn rfl c,Ad,h,C3 H ω];cases g with| false=>exact .inr ⟨_,rfl,trivial⟩| true=>exact .inl ⟨_,rfl,⟨u+1,rfl,ω⟩,by simp only[Int.toNat_natCast];omega⟩
        .simp only[A3 (ω:¬(u:Int)<(y.R.length:Int)),Ap];exact .inr ⟨_,rfl,trivial⟩
       .rintro (r|r) _
        .exact⟨_,rfl,.inr ⟨_,rfl⟩⟩
        .exact⟨_,rfl,.inl rfl⟩
     .simp only[A3 (ω:¬(i:Int)<(x.O.length:Int)),Ap];exact .inr ⟨_,rfl,trivial⟩
    .rintro (r|r) _
     .exact⟨_,rfl,.inr ⟨_,rfl⟩⟩
     .exact⟨_,rfl,.inl rfl⟩
  .simp only[A3 (ω:¬(j:Int)<(l.length:Int)),Ap];exact .inr ⟨_,rfl,trivial⟩
 .rintro (r|r) _
  .exact⟨_,rfl,trivial⟩
  .exact⟨_,rfl,trivial⟩
theorem A81 (x:B9) (f:CSz x):∃b,Y9 x=some b:=by unfold Y9;obtain⟨a,g,_⟩:=A80 x.D f.ds;obtain⟨b,h,_⟩:=A8z x.V 40 f.nv f.vs;obtain⟨c,i⟩:=Avt x.E f.rs;rw[g,h,i];cases a <;> cases b <;> exact⟨_,rfl⟩
theorem CP.dst {p:List Aj} (h:CP p):Dst p:=h.srt.imp λ{a b} c e=>by unfold ltT at c;rw[U8.2 e]at c;omega
theorem Avu:Nu (λt u:Aj=>Fd t.M u.M) where
 irr x:=by
  show ¬Fd x.M x.M<0
  rw[Auq];omega
 trs x y z h g:=Agx h g
 ntr x y z h g:=by
  show ¬Fd x.M z.M<0
  have h:¬Fd x.M y.M<0:=h
  have g:¬Fd y.M z.M<0:=g
  intro i
  rcases Int.lt_trichotomy (Fd x.M y.M) 0 with k|k|k
  .exact h k
  .rw[U8.1 k]at i;exact g i
  .exact g (Agx (Aur.1 k) i)
def Ahb (b:List Aj):List Aj:=b.mergeSort λt u=>decide (Fd t.M u.M<=0)
theorem Avv (b:List Aj):(Ahb b).Perm b:=mergeSort_perm _ _
theorem A82 (f:List Aj) (o:Dst f):(Ahb f).Pairwise ltT:=by
 have g:=pairwise_mergeSort (le:=λt u:Aj=>decide (Fd t.M u.M<=0)) (λa b c g i=>by
  simp only[Ds]at *
  have:=Avu.ntr c b a (by show ¬Fd _ _<0;rw[Xv];omega) (by show ¬Fd _ _<0;rw[Xv];omega)
  have this:¬Fd c.M a.M<0:=this
  rw[Xv]at this;omega) (λa b=>by
  simp only[Bool.or_eq_true,Ds]
  rw[Xv a.M b.M];omega) f
 have i:(Ahb f).Pairwise λt u=>t.M≠u.M:=((Avv f).pairwise_iff λ{x y} h=>h.symm).2 o
 refine (g.and i).imp λ{t u} h=>?_
 have a:=of_decide_eq_true h.1
 have b:Fd t.M u.M≠0:=λe=>h.2 (U8.1 e)
 unfold ltT;omega
theorem A83 (b:List Aj) (o:Dst b) (f:∀t∈b,MSz t.M):∃R,P1 b=some R/\R.Perm b/\R.Pairwise ltT:=by
 rcases Cf 12 b.length with h|h
 .have e:Nat.ble b.length 12=false:=(by cases k:Nat.ble b.length 12 with| false=>rfl| true=>have:=Nat.le_of_ble_eq_true k;omega);unfold P1;rw[e,Ap];obtain⟨r,g,j,v,w,hp,i⟩:=Ap7 (cmp:=P3) (l:=b) (r:=Ahb b) ⟨_,Avu,λx A y _=>Amg x y (f x A),Avv b,A82 b o⟩;refine⟨r,g,hp,?_⟩;refine (Pairwise.imp_of_mem (S:=ltT) (λ{t u} s B h=>?_) i);have c:=w t (hp.mem_iff.1 s) u (hp.mem_iff.1 B);rw[Amg t u (f t (hp.mem_iff.1 s))]at c;have c:=Fh c;unfold ltT;rw[c];exact h
 .exact A75 b o f h
theorem Avw (g:CSz x) (b:∀p∈ps,∀t∈p,TSz t) (i:ps.length<=1048576) (h:¬(Hn x/\∀p∈ps,Jk x.D x.V x.E p=true)):Nv x ps=some (.inr false):=by
 obtain⟨r,f,c⟩:=Ave x g ps b i;rcases c with⟨o,_⟩|⟨_,rfl⟩
 .exact (h o).elim
 .exact f
theorem Avx (i:CSz x) (c:∀p∈ps,∀t∈p,TSz t) (k:ps.length<=1048576) (h:Hn x/\∀p∈ps,Jk x.D x.V x.E p=true):∃b,Nv x ps=some (.inl (true,x,b,[],x.D,x.V,x.E.G,x.E.U,x.E.R))/\Ez x.D x.V x.E b:=by
 obtain⟨r,g,f⟩:=Ave x i ps c k;rcases f with⟨_,b,e,j⟩|⟨o,_⟩
 .exact⟨b,by rw[g,e],j⟩
 .exact (o h).elim
structure PR (x:B9) (n:Nat) (f:A5->Rat) (R:List Aj):Prop where
 cp:CP R
 val:∀m,cf R m=f m
 tb:∀t∈R,Ju x t.M/\RB 8589934592 t.C
 len:R.length<=n
theorem PR.of {m:Nat} {f g:A5->Rat} {R:List Aj} (h:PR x n f R) (b:n<=m) (hf:∀a,f a=g a):PR x m g R := ⟨h.cp,λa=>by rw[h.val,hf],h.tb,Nat.le_trans h.len b⟩
theorem Kf.nil (x:B9):Kf x []:=⟨Abw.2 ⟨ψ,CP.nil,λt g=>by cases g⟩,λt g=>by cases g⟩
def J2 (l:List α) (r:List Bool):List α:=((l.zip r).filter λp=>!p.2).map (·.1)
def J3 (data:List Ai) (t:Af) (c:Int):List Af:=match Gu data t c with|some ts=>ts|none=>[]
def Pm {α:Type} (b:List (α->Nat)) (x:α) (f:Nat->Nat):Nat->Nat
 | 0=>f 0
 | q+1=>f (q+1)+f q*(match b[q]? with|some w=>w x|none=>0)
def dpS (b:List (α->Nat)) (l:List α):Nat->Nat:=l.foldl (λf x=>Pm b x f) (λq=>if q=0 then 1 else 0)
theorem Avy (b:List (α->Nat)) (l:List α) (x:α):dpS b (l++[x])=Pm b x (dpS b l):=by unfold dpS;rw[foldl_append];rfl
mutual
def bv (data:List Ai):Ah->Af->Ay->Nat
 | ⟨n,g⟩,t,w=>if t.G=6 then bvs data g t.R w.K else if t.G=7 then bc w.K.length n.toNat else if t.G=5 then dpS (bws data g t) (Ip data t.U w) g.length else 1
def bvs (data:List Ai):List Ah->List Af->List Ay->Nat
 | i::is,t::ts,w::g=>bv data i t w*bvs data is ts g
 | [],_,_=>1
 | _::_,[],_=>1
 | _::_,_::_,[]=>1
def bws (data:List Ai):List Ah->Af->List (Ay->Nat)
 | [],_=>[]
 | ⟨n,g⟩::h,t=>(λx=>if x.U=n then bvs data g (J3 data t n) (J2 x.K (Ea data t.U n)) else 0)::bws data h t
end
theorem Qp (data:List Ai) (i:Ah) (t:Af) (w:Ay):bv data i t w=if t.G=6 then bvs data i.K t.R w.K else if t.G=7 then bc w.K.length i.U.toNat else if t.G=5 then dpS (bws data i.K t) (Ip data t.U w) i.K.length else 1:=by cases i;simp only[bv]
theorem Ss (data:List Ai) (i:Ah) (is:List Ah) (t:Af) (ts:List Af) (w:Ay) (b:List Ay):bvs data (i::is) (t::ts) (w::b)=bv data i t w*bvs data is ts b:=by simp only[bvs]
theorem Su (data:List Ai) (ts:List Af) (b:List Ay):bvs data [] ts b=1:=by simp only[bvs]
def wOf (data:List Ai) (t:Af) (e:Ah) (x:Ay):Nat:=if x.U=e.U then bvs data e.K (J3 data t e.U) (J2 x.K (Ea data t.U e.U)) else 0
theorem Ahc (data:List Ai) (t:Af):∀(es:List Ah) (q:Nat),(bws data es t)[q]? = (es[q]?).map (wOf data t)
 | [],q=>by simp[bws]
 | ⟨n,b⟩::es,0=>by simp only[bws,getElem?_cons_zero,Option.map_some];rfl
 | ⟨n,b⟩::es,q+1=>by simp only[bws,getElem?_cons_succ];exact Ahc data t es q
theorem Amr (data:List Ai):∀(is:List Ah) (ts:List Af) (b:List Ay) (j:Nat) (i:Ah) (t:Af) (w:Ay),is[j]? = some i->ts[j]? = some t->b[j]? = some w -> bvs data (is.take (j+1)) (ts.take (j+1)) (b.take (j+1))=bvs data (is.take j) (ts.take j) (b.take j)*bv data i t w
 | i' :: is,t' :: ts,u :: b,0,i,t,w,g,o,s=>by cases g;cases o;cases s;simp only[take_succ_cons,take_zero,Ss,Su,Nat.mul_one,Nat.one_mul]
 | i' :: is,t' :: ts,u :: b,j+1,i,t,w,g,o,s=>by have:=Amr data is ts b j i t w g o s;rw[take_succ_cons,take_succ_cons,take_succ_cons,take_succ_cons,take_succ_cons,take_succ_cons,Ss,Ss,this,Nat.mul_assoc]
 | [],_,_,_,_,_,_,h,_,_=>by simp at h
 | _::_,[],_,_,_,_,_,_,h,_=>by simp at h
 | _::_,_::_,[],_,_,_,_,_,_,h=>by simp at h
theorem Ahd:∀n k,bc n k<=n ^ k
 | n,0=>by rw[J1];exact Nat.le_refl _
 | 0,k+1=>by simp[bc]
 | n+1,k+1=>by have h:=Ahd n k;have i:=Ahd n (k+1);have g:n ^ k<=(n+1) ^ k:=Nat.pow_le_pow_left ω k;have b:n ^ (k+1)<=n*(n+1) ^ k:=(by rw[Nat.pow_succ,Nat.mul_comm];exact Nat.mul_le_mul_left _ g);rw[bc,Nat.pow_succ,Nat.mul_add,Nat.mul_one,Nat.mul_comm];omega
theorem Avz {α:Type} (b:List (α->Nat)) (B:Nat) (E:Nat->Nat):∀(l:List α) (n:Nat) (f:Nat->Nat),(∀q,f q<=n ^ q*B ^ E q)->(∀x∈l,∀q w,b[q]? = some w->B ^ E q*w x<=B ^ E (q+1))->∀q,(l.foldl (λf x=>Pm b x f) f) q<=(n+l.length) ^ q*B ^ E q
 | [],n,f,o,_,q=>o q
 | x::l,n,f,o,s,q=>by
  rw[foldl_cons];have:=Avz b B E l (n+1) (Pm b x f) (λq=>?_) (λy u=>s y (by simp[u])) q
  .rw[D1,show n+(l.length+1)=n+1+l.length by omega];exact this
  .cases q with
   | zero=>have:=o 0;simpa[Pm] using this
   | succ q=>
    have A:=o (q+1);have v:=o q;have C:f q*(match b[q]? with|some w=>w x|none=>0)<=n ^ q*B ^ E (q+1):=by cases h:b[q]? with| none=>simp| some w=>have j:=s x ψ q w h;refine Nat.le_trans (Nat.mul_le_mul_right _ v) ?_;rw[Nat.mul_assoc];exact Nat.mul_le_mul_left _ j
    have c:n ^ q<=(n+1) ^ q:=Nat.pow_le_pow_left ω q;have i:n ^ (q+1)+n ^ q<=(n+1) ^ (q+1):=(by rw[Nat.pow_succ,Nat.pow_succ,Nat.mul_add,Nat.mul_one];exact Nat.add_le_add (Nat.mul_le_mul_right _ c) c);have g:=Nat.mul_le_mul_right (B ^ E (q+1)) i;rw[Nat.add_mul]at g;show f (q+1)+_<=_;omega
theorem Av0 {α:Type} (b:List (α->Nat)) (B:Nat) (f:1<=B) (E:Nat->Nat) (l:List α) (g:∀x∈l,∀q w,b[q]? = some w->B ^ E q*w x<=B ^ E (q+1)) (c:l.length<=B) (q:Nat):dpS b l q<=B ^ (q+E q):=by
 have h:=Avz b B E l 0 (λq=>if q=0 then 1 else 0) (λq=>by cases q with| zero=>have:0<B ^ E 0:=Nat.pow_pos ω;simp;omega| succ q=>simp) g q
 refine Nat.le_trans h ?_;rw[Nat.zero_add,Nat.pow_add];exact Nat.mul_le_mul_right _ (Nat.pow_le_pow_left c q)
mutual
theorem Ams (data:List Ai) (d:Int):∀v,∀x∈Ip data d v,Co x<=Co v
 | ⟨k,n,g⟩=>λx i=>by
  have h:=Av1 data d g (Ea data d n)
  simp only[Ip,Gc]at i
  rcases i with rfl|i
  .exact Nat.le_refl _
  .have:=h x i
   simp only[Co];omega
theorem Av1 (data:List Ai) (d:Int):∀l r,∀x∈Iq data d l r,Co x<=Ed l
 | y::h,b::bs=>λx g=>by
  have i:=Ams data d y
  have o:=Av1 data d h bs
  simp only[Iq,Ef]at g
  simp only[Ed]
  rcases g with g|g
  .cases b with
   | false=>simp at g
   | true=>have:=i x (by simpa using g);omega
  .have:=o x g;omega
 | [],_=>λx g=>by simp[Iq]at g
 | _::_,[]=>λx g=>by simp[Iq]at g
end
variable {m:A5} {t:Af} {e:Ah} {x y:Aq} {res:Ay} {data:List Ai} {ts:List Aj} {p:List Aq} {b:List Ay} {l:List Bf} {r:List Bool} {K N a d j k n:Nat} {R α:Type} {J:Int×Bool×List Int×List Int->Option R} {Q:R->Prop}
def pdg (data:List Ai) (t:Af) (e:Ah):Nat:=match Cx data e.K (J3 data t e.U) with|some a=>a|none=>0
def pds (data:List Ai) (t:Af) (es:List Ah):Nat:=(es.map (pdg data t)).sum
theorem Ab9 (data:List Ai):∀(es:List Ah) (t:Af) (d:Nat),Fv data es t=some d->d=es.length+pds data t es/\∀e∈es,∃ts,Gu data t e.U=some ts/\Cx data e.K ts=some (pdg data t e)
 | [],t,d,h=>by simp only[Fv,Option.some.injEq]at h;subst h;exact⟨rfl,λe c=>by cases c⟩
 | e::es,t,d,h=>by
  rw[Uv]at h;cases g:Gu data t e.U with
  | none=>rw[g]at h;cases h
  | some ts=>
   rw[g,Ad]at h;cases i:Cx data e.K ts with
   | none=>rw[i]at h;cases h
   | some a=>
    rw[i,Ad]at h;cases o:Fv data es t with
    | none=>rw[o]at h;cases h
    | some b=>
     rw[o]at h;have h:1+a+b=d:=Fh h;obtain⟨v,u⟩:=Ab9 data es t b o;have hp:pdg data t e=a:=(by unfold pdg J3;rw[g];simp only[i]);refine⟨by unfold pds at *;simp only[map_cons,sum_cons,D1,hp];omega,λx s=>?_⟩;rcases Gc.1 s with rfl|s
     .exact⟨ts,g,by rw[hp];exact i⟩
     .exact u x s
theorem Amt {es:List Ah} {q:Nat} (h:es[q]? = some e):pds data t (es.take (q+1))=pds data t (es.take q)+pdg data t e:=by unfold pds;rw[Cs h];simp
theorem A84 (data:List Ai) (t:Af) (es:List Ah) (q:Nat):pds data t (es.take q)<=pds data t es:=by
 have:pds data t es=pds data t (es.take q)+pds data t (es.drop q):=by unfold pds;rw[<-sum_append,<-map_append,take_append_drop]
 omega
theorem Amu {l:List α} {x:α} (h:x∈J2 l r):x∈l:=by unfold J2 at h;obtain⟨p,hp,rfl⟩:=mem_map.1 h;exact (of_mem_zip (a:=p.1) (b:=p.2) (mem_filter.1 hp).1).1
theorem X5 (data:List Ai) (B:Nat) (S:1<=B):∀n:Nat,(∀(i:Ah) (t:Af) (w:Ay) (d:Nat),Bw i<=n->Dj data i t=some d->Co w<=B->bv data i t w<=B ^ d) /\ (∀(is:List Ah) (ts:List Af) (f:List Ay) (d:Nat),Cd is<=n->Cx data is ts=some d->(∀w∈f,Co w<=B)->bvs data is ts f<=B ^ d):=by
 intro n;induction n with
 | zero=>refine⟨λi t w d h=>by have:=Es i;omega,λis ts f d h _ _=>?_⟩;have:=Pd is;have:is = []:=F3.1 ω;subst this;rw[Su];exact Nat.pow_pos ω
 | succ n ih=>
  have c:∀d,1<=B ^ d:=λd=>Nat.pow_pos ω;have v:∀(i:Ah) (t:Af) (w:Ay) (d:Nat),Bw i<=n+1->Dj data i t=some d->Co w<=B->bv data i t w<=B ^ d:=by
   intro i t w d U o P;have M:=Es i;have I:=L0 w;have J:=U5 w.K;rw[Qp];rw[Mj]at o;by_cases z:t.G=6
   .rw[As z]at o ⊢;by_cases e:i.U=0
    .rw[As e]at o;exact ih.2 i.K t.R w.K d ω o λx T=>by have:=Mn T;omega
    .rw[Ao e]at o;cases o
   .rw[Ao z]at o ⊢;by_cases u:t.G=7
    .rw[As u]at o ⊢;by_cases e:0<=i.U/\i.U<=6/\i.K.length=0
     .rw[As e]at o;have o:=Fh o;rw[o];exact Nat.le_trans (Ahd _ _) (Nat.pow_le_pow_left ω d)
     .rw[Ao e]at o;cases o
    .rw[Ao u]at o ⊢;by_cases A:t.G=5
     .rw[As A]at o ⊢;have o:Fv data i.K t=some d:=by
       by_cases e:i.U=0
       .rw[As e]at o;exact o
       .rw[Ao e]at o;cases o
      obtain⟨C,F⟩:=Ab9 data _ _ _ o;have L:=Alw data t.U w;have:=Av0 (bws data i.K t) B S (λq=>pds data t (i.K.take q)) (Ip data t.U w) (λx T q wt V=>by
       rw[Ahc]at V;obtain⟨e,D,rfl⟩:=Option.map_eq_some_iff.1 V;have g:=Bv D;obtain⟨ts,l,k⟩:=F e g;have G:=Ams data t.U w x T;have N:=Kd g;have R:=Es e;rw[Amt D,Nat.pow_add];refine Nat.mul_le_mul_left _ ?_;unfold wOf;split
       .have s:J3 data t e.U=ts:=(by unfold J3;rw[l]);rw[s];refine ih.2 e.K ts _ _ ω k λy H=>?_;have H:=Amu H;have E:=Mn H;have:=L0 x;omega
       .omega) ω i.K.length
      rw[C1]at this;rw[C];exact this
     .rw[Ao A];exact c d
  refine⟨v,?_⟩;intro is;induction is with
  | nil=>intro ts f d _ _ _;rw[Su];exact c d
  | cons i is j=>
   intro ts f d U o P;cases ts with
   | nil=>rw[show bvs data (i::is) [] f=1 by simp only[bvs]];exact c d
   | cons t ts=>
    cases f with
    | nil=>rw[show bvs data (i::is) (t::ts) []=1 by simp only[bvs]];exact c d
    | cons w f=>
     simp only[Cd]at U;rw[Nb]at o;cases C:Dj data i t with
     | none=>rw[C]at o;cases o
     | some a=>rw[C,Ad]at o;cases F:Cx data is ts with| none=>rw[F]at o;cases o| some b=>rw[F]at o;have o:a+b=d:=Fh o;rw[Ss,<-o,Nat.pow_add];exact Nat.mul_le_mul (v i t w a ω C (P w ψ)) (j ts f b ω F λy H=>P y (by simp[H]))
theorem Amv {α:Type}:∀(l:List α) (r:List Bool) (s:Nat) (n:Nat) (p:Int) (L:Nat->Option α),l.length=r.length->(∀j,L (s+j)=l[j]?) -> (((r.zipIdx s).filter λq=>!q.1).map λq=>(q.2:Int))[n]? = some p->∃(m:Nat) (a:α),p=m/\L m=some a/\(J2 l r)[n]? = some a
 | [],[],s,n,p,L,_,_,h=>by simp at h
 | a::l,b::r,s,n,p,L,i,g,h=>by
  have c:l.length=r.length:=(by simpa using i);have f:∀j,L (s+1+j)=l[j]?:=λj=>by rw[show s+1+j=s+(j+1) by omega,g];rfl
  cases b with
  | true=>simp only[zipIdx_cons,filter_cons,bnt]at h;obtain⟨m,x,o,u,v⟩:=Amv l r (s+1) n p L c f (by simpa using h);exact⟨m,x,o,u,by simpa[J2] using v⟩
  | false=>simp only[zipIdx_cons,filter_cons,Bool.not_false,if_true,map_cons]at h;cases n with| zero=>simp only[getElem?_cons_zero,Option.some.injEq]at h;exact⟨s,a,h.symm,by have:=g 0;simpa using this,by simp[J2]⟩| succ n=>simp only[getElem?_cons_succ]at h;obtain⟨m,x,o,u,v⟩:=Amv l r (s+1) n p L c f h;exact⟨m,x,o,u,by simpa[J2] using v⟩
 | [],_::_,_,_,_,_,h,_,_=>by simp at h
 | _::_,[],_,_,_,_,h,_,_=>by simp at h
theorem A85 {l:List α} (b:l.length=r.length) {p:Int} (h:(I1 r)[n]? = some p):∃(m:Nat) (a:α),p=m/\l[m]? = some a/\(J2 l r)[n]? = some a := Amv l r 0 n p (λj=>l[j]?) b (λj=>ψ) (by unfold I1 at h;exact h)
theorem Amw {b:Nat} (g:Ck a<=K) (hb:Ck b<=K) (c:1<=K) (h:K<60000000000):Fa (cR a) (cR b)=some (cR (a*b)):=by obtain⟨i,o,s⟩:=Sq a;obtain⟨u,v,f⟩:=Sq b;rw[Agm _ _ K K (Od g c) (Od hb c) ω ω,i,o,s,u,v,f];simp[cR]
def Sm (a:Nat):Prop:=a<=5000 ^ 6
theorem Sm.lg (h:Sm a):Ck a<=3:=K6 (Nat.lt_of_le_of_lt h δ)
theorem Sm.of (h:a<=5000 ^ d) (hd:d<=6):Sm a:=Nat.le_trans h (Nat.pow_le_pow_right δ hd)
theorem Aca (data:List Ai):∀(is:List Ah) (ts:List Af) (d j:Nat),Cx data is ts=some d->∃e,Cx data (is.take j) (ts.take j)=some e/\e<=d
 | [],[],d,j,_=>⟨0,by simp[Cx],ω⟩
 | i::is,t::ts,d,0,_=>⟨0,by simp[Cx],ω⟩
 | i::is,t::ts,d,j+1,h=>by
  rw[Nb]at h;cases g:Dj data i t with
  | none=>rw[g]at h;cases h
  | some a=>rw[g,Ad]at h;cases o:Cx data is ts with| none=>rw[o]at h;cases h| some b=>rw[o]at h;have h:a+b=d:=Fh h;obtain⟨e,c,f⟩:=Aca data is ts b j o;refine⟨a+e,?_,ω⟩;rw[take_succ_cons,take_succ_cons,Nb,g,Ad,c];rfl
 | [],_::_,_,_,h=>by simp only[Cx]at h;cases h
 | _::_,[],_,_,h=>by simp only[Cx]at h;cases h
theorem A86 {is:List Ah} {ts:List Af} (h:Cx data is ts=some d) (o:d<=6) (g:∀w∈b,Co w<=5000) (j:Nat):Sm (bvs data (is.take j) (ts.take j) (b.take j)):=by obtain⟨e,c,f⟩:=Aca data is ts d j h;exact Sm.of ((X5 data 5000 δ _).2 _ _ _ e (Nat.le_refl _) c λw i=>g w (mem_of_mem_take i)) ω
theorem A87 (R:Szv data) (C:t.G=5) {x:Ay} {ts:List Af} (v:G5 data x t=true) (z:x.U=e.U) (b:Gu data t e.U=some ts) : (Mq data t e).types=ts/\(I1 (Ea data t.U e.U)).length=ts.length/\ts.length<=6/\(∀a∈ts,Bx a<=200) /\ ∀(j:Nat) (s:Int),(I1 (Ea data t.U e.U))[j]? = some s->∃(m:Nat) (a:Af) (w:Ay),s=m/\ts[j]? = some a/\x.K[m]? = some w/\(J2 x.K (Ea data t.U e.U))[j]? = some w/\G5 data w a=true/\Co w<=Co x:=by
 have D:=b;unfold Gu at b;cases o:Jg data t e.U with
 | none=>rw[o]at b;cases b
 | some fl=>
  rw[o]at b;have b:F6 fl (Ea data t.U e.U)=ts:=Fh b;have g:=Xi o;have c:Hw data x.K fl=true:=(by rw[So,Ao ω,Ao ω,Ao ω,Ao ω,As C]at v;rw[z,o]at v;simp only[Cz]at v;exact v.2);have u:x.K.length=fl.length:=by
   by_cases I:x.K.length=fl.length
   .exact I
   .rw[Abt data _ _ I]at c;cases c
  have J:fl.length<=6:=(by obtain⟨M,y,_,A,_,F,E,_⟩:=Pc o;obtain⟨L,_⟩:=R M (G3 A).2.2.2 y (G3 F).2.2.2;rw[E];simpa using L);have U:=Xj fl (Ea data t.U e.U);have h:=A8e fl (Ea data t.U e.U) g.symm;have S:=L0 x;refine⟨by unfold Mq;simp only[o,b],by rw[h,b],by rw[<-b];omega,(Af3 D).1,λj s k=>?_⟩;obtain⟨m,a,rfl,G,q⟩:=A8d g.symm k;obtain⟨N,w,V,f,B⟩:=A85 (l:=x.K) ω k;obtain rfl:m=N:=ω;rw[b]at q;refine⟨m,a,w,rfl,q,f,B,?_,?_⟩
  .rw[Abu data _ _ u]at c;exact Gt.1 c (w,a) (Bv (i:=m) (by rw[getElem?_zip_eq_some];exact⟨f,G⟩))
  .have:=Mn (Bv f);omega
theorem A88 (hz:Szv data) (hk:t.G=5) (l:List Ah) (hp:∀e∈l,∃ts,Gu data t e.U=some ts/\Cx data e.K ts=some (pdg data t e)) (bi:l.length+pds data t l<=6) (k:Nat) (b7:∀e∈l,∀(i':Ah) (t':Af) (w:Ay) (d:Nat),i'∈e.K->Dj data i' t'=some d->d<=6->Bx t'<=200->G5 data w t'=true->Co w<=5000->Ny k data t' i' w=some (cR (bv data i' t' w))) (x:Ay) (hx:G5 data x t=true) (bb:Co x<=5000) (f:Nat->Nat) (hf:∀q,q<=l.length->f q<=5000 ^ (q+pds data t (l.take q))) (b5:∀q,q<=l.length->Pm (bws data l t) x f q<=5000 ^ (q+pds data t (l.take q))) {J:Int×List Aq->Option R} {r:R} (hJ:J (0,Jl l.length (Pm (bws data l t) x f))=some r) : (Ak (S:=(Int×List Aq)) (E:=(Int×List Aq)) (λ(c,u)=> bif c>(0:Int) then ((Ag (l.map (Mq data t)) (Ac (c-1))).bind λz=> (show OB from bif (z.con != x.U) then some true else ((Ag u (Ac (c-1))).bind λaf=> (Is af).bind λae=> some (ae==(0:Int)))).bind λad=> bif ad then some (.inl ((Ac (c-1)),u)) else ((Ag u (Ac (c-1))).bind λI=> (Ak (S:=(Int×Bool×List Int×List Int)) (E:=(Int×Bool×List Int×List Int)) (λ(y,X,v,C)=> bif y<(z.places.length:Int) then ((Ag z.places y).bind λF=> (Ag z.types y).bind λH=> (Ag z.kids y).bind λac=> (Ag x.K F).bind λab=> (Ny k data H ac ab).bind λP=> (Fa (Aq.mk X v C) P).bind λo=> some (.inl ((Ac (y+1)),o.N,o.U,o.B))) else some (.inr (y,X,v,C))) (0,I.N,I.U,I.B)).bind λ(a3,aa,T,a8)=> (Ag u c).bind λG=> (Ja G (Aq.mk aa T a8)).bind λa7=> (Ag u c).bind λb9=> some (.inl ((Ac (c-1)),(Cr u c a7)))))
   else some (.inr (c,u))) ((l.length:Int),Jl l.length f)).bind J=some r:=by
 generalize hg:Pm (bws data l t) x f=g at hJ b5;have sm:∀q,q<=l.length->q+pds data t (l.take q)<=6:=λq hq=>by have:=A84 data t l q;omega
 refine Kc l.length (λi=>(((l.length-i:Nat):Int),Jl l.length λp=>if l.length-i<p then g p else f p)) ?_ ?_ ?_
 .simp only[Nat.sub_zero,Int.ofNat_eq_natCast];congr 1;exact Amk (λp hp=>by rw[Ao ω])
 .intro i hi;obtain⟨q,hq⟩:∃q:Nat,l.length-i=q+1:=⟨l.length-i-1,ω⟩;have a0:l.length-(i+1)=q:=ω;have U:q+1<=l.length:=ω;have W:l[q]? = some l[q]:=Bp ω;generalize l[q]=e at W;have ap:=Bv W;have w1:Ac (((q+1:Nat):Int)-1)=((q:Nat):Int):=(by rw[show (((q+1:Nat):Int)-1)=(q:Int) by omega,Ac,Ci] <;> omega);have b6:Ag (l.map (Mq data t)) (q:Int)=some (Mq data t e):=Bn rfl (by rw[getElem?_map,W];rfl);have a1:g (q+1)=f (q+1)+f q*wOf data t e x:=(by rw[<-hg];simp only[Pm,Ahc,W,Option.map_some]);simp only[hq,a0,Ar (ω:((q+1:Nat):Int)>0),Am,w1,b6,Ad];have ao:Ag (Jl l.length λp=>if q+1<p then g p else f p) (q:Int)=some (cR (f q)):=(by rw[Bn rfl (Sr _ ω),Ao ω]);have b4:Ag (Jl l.length λp=>if q+1<p then g p else f p) ((q+1:Nat):Int)=some (cR (f (q+1))):=(by rw[Bn rfl (Sr _ ω),Ao ω]);have L:g (q+1)=f (q+1)->Jl l.length (λp=>if q+1<p then g p else f p)=Jl l.length (λp=>if q<p then g p else f p):=λY=>Amk (λp hp=>by
   by_cases e2:q+1<p
   .rw[As e2,As ω]
   .rw[Ao e2];by_cases e3:q<p
    .rw[As e3,show p=q+1 by omega,Y]
    .rw[Ao e3]);show ((bif (e.U != x.U) then some true else _).bind _)=_;by_cases B:x.U=e.U
  .rw[G0 B.symm];have sq:=Sm.of (hf q ω) (sm q ω);have aq:=Sm.of (hf (q+1) U) (sm (q+1) U);simp only[Ap,ao,Ad,A8c sq.lg δ δ];by_cases a6:f q=0
   .rw[As a6];simp only[beq_self_eq_true,Am];rw[L (by rw[a1,a6,Nat.zero_mul,Nat.add_zero])]
   .rw[Ao a6];have b8:((1:Int)==0)=false:=rfl;simp only[b8,Ap,ao,Ad];obtain⟨ts,ah,ag⟩:=hp e ap;obtain⟨ay,ai,ba,az,ak⟩:=A87 hz hk hx B ah;have b0:(Mq data t e).places=I1 (Ea data t.U e.U):=rfl;have b3:(Mq data t e).kids=e.K:=rfl;rw[ay,b0,b3];obtain⟨i1,i2⟩:=Xy data _ _ _ ag;have bh:q+1+pds data t (l.take q)+pdg data t e<=6:=(by have:=sm (q+1) U;rw[Amt W]at this;omega);generalize Z:J2 x.K (Ea data t.U e.U)=D at ak;have ar:∀w∈D,Co w<=5000:=λw hw=>by rw[<-Z]at hw;have:=Mn (Amu hw);have:=L0 x;omega
    have M:∀j,Sm (f q*bvs data (e.K.take j) (ts.take j) (D.take j)):=λj=>by obtain⟨e',Y,e2⟩:=Aca data e.K ts _ j ag;have h1:=(X5 data 5000 δ _).2 _ _ (D.take j) e' (Nat.le_refl _) Y λw hx=>ar w (mem_of_mem_take hx);have h2:=Nat.mul_le_mul (hf q ω) h1;rw[<-Nat.pow_add]at h2;exact Sm.of h2 ω
    have av:wOf data t e x=bvs data e.K ts D:=(by unfold wOf;rw[As B,Z];unfold J3;rw[ah]);refine F5 (I1 (Ea data t.U e.U)) (λj=>((j:Int),(cR (f q*bvs data (e.K.take j) (ts.take j) (D.take j))).N,(cR (f q*bvs data (e.K.take j) (ts.take j) (D.take j))).U,(cR (f q*bvs data (e.K.take j) (ts.take j) (D.take j))).B)) ?_ ω ?_ ?_
    .simp only[take_zero,Su,Nat.mul_one];rfl
    .intro j pl hj aj h1 h2 h3;obtain⟨mm,a,w,rfl,V,hw,au,ax,be⟩:=ak j pl aj;have N:e.K[j]? = some (e.K[j]' ω):=Bp _;generalize e.K[j]'_=i' at N;obtain⟨d,d1,d2⟩:=i2 j i' a N V;have hb:=Sm.of ((X5 data 5000 δ _).1 i' a w d (Nat.le_refl _) d1 ω) ω;simp only[h1,h2,h3,Am,Ad,Bn rfl V,Bn rfl N,Bn rfl hw];rw[b7 e ap i' a w d (Bv N) d1 ω (az a (Bv V)) ax ω,Ad];show (Fa (cR (f q*bvs data (e.K.take j) (ts.take j) (D.take j))) (cR (bv data i' a w))).bind _=_;rw[Amw (M j).lg hb.lg δ δ,Amr data _ _ _ j i' a w N V au,Nat.mul_assoc];rfl
    .intro h1;refine⟨_,by simp only[h1];rfl,?_⟩;have A:=M (I1 (Ea data t.U e.U)).length;have bf:D.length=ts.length:=by
      have:∀(l:List Ay) (r:List Bool),l.length=r.length->(J2 l r).length=(I1 r).length:=by
       intro l r hl;unfold J2 I1;rw[C2,C2];have a2:∀(l:List Ay) (r:List Bool) (s:Nat),l.length=r.length->((r.zipIdx s).filter λq=>!q.1).length=((l.zip r).filter λp=>!p.2).length:=by
        intro l;induction l with
        | nil=>intro r s h;have:r = []:=F3.1 h.symm;subst this;rfl
        | cons a l ih=>intro r s h;cases r with| nil=>simp at h| cons b r=>have:=ih r (s+1) (by simpa using h);cases b <;> simp[this]
       exact (a2 l r 0 hl).symm
      obtain⟨_,_,_,_,am,_⟩:=Agr hk hx;rw[<-Z,this _ _ (by rw[<-am,B]),ai]
     rw[ai]at A ⊢;have Y:e.K.take ts.length=e.K:=Ik ω;have e2:D.take ts.length=D:=Ik ω;rw[Y,e2,C1]at A ⊢;show ((Ag _ _).bind λG=>(Ja G (cR (f q*bvs data e.K ts D))).bind _)=_;rw[b4];simp only[Ad];rw[A8b (aq.lg) A.lg δ δ];simp only[Ad,w1];congr 3;refine Avj U ?_ ?_
     .rw[As ω,a1,av]
     .intro p hp bg;by_cases Y:q+1<p
      .rw[As ω,As Y]
      .rw[Ao ω,Ao Y]
  .rw[F4 λe=>B e.symm];simp only[Ad,Am];rw[L (by rw[a1,show wOf data t e x=0 by unfold wOf;rw[Ao B],Nat.mul_zero,Nat.add_zero])]
 .refine⟨(0,Jl l.length g),?_,hJ⟩;simp only[Nat.sub_self];have:Jl l.length (λp=>if 0<p then g p else f p)=Jl l.length g:=Amk (λp hp=>by
   by_cases e:0<p
   .rw[As e]
   .have:p=0:=ω;subst this;rw[Ao e,<-hg];rfl);rw[this];rfl
theorem A89 (z:Szv data) (L:Mi data) (X:∀x∈data,x.O.length<=8) (P:t.G=5) (ht:Bx t<=200) (l:List Ah) (hp:∀e∈l,∃ts,Gu data t e.U=some ts/\Cx data e.K ts=some (pdg data t e)) (E:l.length+pds data t l<=6) (v:Ay) (hv:Co v<=5000) (M:G5 data v t=true) (k:Nat) (J:∀e∈l,∀(i':Ah) (t':Af) (w:Ay) (d:Nat),i'∈e.K->Dj data i' t'=some d->d<=6->Bx t'<=200->G5 data w t'=true->Co w<=5000->Ny k data t' i' w=some (cR (bv data i' t' w))) : Wt (k+1) data t l v=some (cR (dpS (bws data l t) (Ip data t.U v) l.length)):=by
 have V:=Alw data t.U v;rw[Wt];refine F5 l (λj=>((j:Int),(l.take j).map (Mq data t))) ψ ω ?_ ?_
 .intro j e hj s o T W;obtain⟨ts,b,_⟩:=hp e (Bv s);unfold Gu at b;cases F:Jg data t e.U with| none=>rw[F]at b;cases b| some fl=>have D:=Xi F;have h:fl.length<=6:=(by obtain⟨R,y,_,A,_,hy,G,_⟩:=Pc F;obtain⟨N,_⟩:=z R (G3 A).2.2.2 y (G3 hy).2.2.2;rw[G];simpa using N);simp only[o,T,W,Am,Ad,Abk z t ht,Xh data t.U e.U L,F,okL];refine A8f fl (Ea data t.U e.U) D h ?_;show (B8 80 _ [_]).bind _=_;rw[Dy ζ,Ad,Cs s,map_append];congr 4;show [_] = [Mq data t e];unfold Mq;rw[F]
 .intro o;refine⟨l.map (Mq data t),by simp only[o];rw[C1];rfl,?_⟩;have Z:Ac ((((l.map (Mq data t)).length:Nat):Int)+1)=((l.length+1:Nat):Int):=(by rw[C2,Ac,Ci] <;> omega);rw[Z,M9 (n:=l.length+1) (c:=l.length+1) rfl rfl ω ω ω,Ad];refine A8g (l.length+1) ω ?_;have I:Ag (replicate (l.length+1) (cR 0)) 0=some (cR 0):=Bn (n:=0) rfl (by rw[getElem?_replicate,As ω]);rw[L3,Ad,I,Ad,A6y L X P v hv M,Ad];have Y:Cr (replicate (l.length+1) (cR 0)) 0 (cR 1)=Jl l.length (dpS (bws data l t) []):=by
   have:replicate (l.length+1) (cR 0)=Jl l.length (λ_=>0):=by
    apply ext_getElem?;intro i;rcases Cf i (l.length+1) with H|H
    .rw[Sr _ ω,getElem?_replicate,As H]
    .rw[Ll (by simpa using H),Ll (by rw[Vc];exact H)]
   rw[this];refine Avj (q:=0) ω rfl ?_;intro p _ hp;show (if p=0 then 1 else 0)=0;rw[Ao hp]
  rw[Y];have f:∀x∈Ip data t.U v,∀q w,(bws data l t)[q]? = some w->5000 ^ pds data t (l.take q)*w x<=5000 ^ pds data t (l.take (q+1)):=by
   intro x C q wt hq;rw[Ahc]at hq;obtain⟨e,s,rfl⟩:=Option.map_eq_some_iff.1 hq;obtain⟨ts,b,B⟩:=hp e (Bv s);have U:=Ams data t.U v x C;rw[Amt s,Nat.pow_add];refine Nat.mul_le_mul_left _ ?_;unfold wOf;split
   .rw[show J3 data t e.U=ts by unfold J3;rw[b]];refine (X5 data 5000 δ _).2 e.K ts _ _ (Nat.le_refl _) B λy hy=>?_;have S:=Mn (Amu hy);have:=L0 x;omega
   .exact Nat.zero_le _
  have u:∀j q,dpS (bws data l t) ((Ip data t.U v).take j) q<=5000 ^ (q+pds data t (l.take q)):=λj q=>
   Av0 _ 5000 δ (λq=>pds data t (l.take q)) _ (λx C=>f x (mem_of_mem_take C)) (by rw[length_take];omega) q
  refine F5 (Ip data t.U v) (λj=>((j:Int),Jl l.length (dpS (bws data l t) ((Ip data t.U v).take j)))) rfl ω ?_ ?_
  .intro j x hj C o T W;have a0:=Avi P _ v (Nat.le_refl _) M x (Bv C);have g:Pm (bws data l t) x (dpS (bws data l t) ((Ip data t.U v).take j))=dpS (bws data l t) ((Ip data t.U v).take (j+1)):=(by rw[Cs C,Avy]);simp only[o,T,W,Am,Ad];rw[show (((l.map (Mq data t)).length:Nat):Int)=(l.length:Int) by rw[C2]];refine A88 z P l hp E k J x a0.1 ω _ (λq _=>u j q) (λq _=>by rw[g];exact u (j+1) q) ?_;rw[g]
  .intro o;refine⟨_,by simp only[o];rw[C1];rfl,?_⟩;rw[Bn (n:=l.length) ψ (Sr _ (Nat.le_refl _))];rfl
theorem A9a (J:Szv data) (S:Mi data) (W:∀x∈data,x.O.length<=8):∀(n:Nat) (i:Ah) (t:Af) (w:Ay) (k d:Nat),Bw i<=n->2*n<=k->n<1099511627776->Dj data i t=some d->d<=6->Bx t<=200->G5 data w t=true->Co w<=5000->Ny k data t i w=some (cR (bv data i t w)):=by
 intro n;induction n with
 | zero=>intro i t w k d h;have:=Es i;omega
 | succ n ih=>
  intro i t w k d hi hk hn o D ht l hw;obtain⟨k,rfl⟩:∃I,k=I+2:=⟨k-2,ω⟩;have X:=Es i;have L:=L0 w;rw[Ny,L3,Qp];simp only[Ad];rw[Mj]at o;rw[So]at l;by_cases f:t.G=6
  .rw[Eh f,As f];rw[As f]at o;rw[Ao ω,Ao ω,Ao ω,As f]at l;simp only[Cz]at l;have c:=l.2;have o:Cx data i.K t.R=some d:=by
    by_cases e:i.U=0
    .rw[As e]at o;exact o
    .rw[Ao e]at o;cases o
   obtain⟨i1,i2⟩:=Xy data _ _ _ o;have z:w.K.length=t.R.length:=by
    by_cases G:w.K.length=t.R.length
    .exact G
    .rw[Abt data _ _ G]at c;cases c
   have N:=Jf t;have R:=K7 t.R;have y:∀x∈w.K,Co x<=5000:=λx hx=>by have:=Mn hx;omega
   have hS:=A86 o D y;rw[Am];refine F5 t.R (λj=>((j:Int),(cR (bvs data (i.K.take j) (t.R.take j) (w.K.take j))).N,(cR (bvs data (i.K.take j) (t.R.take j) (w.K.take j))).U,(cR (bvs data (i.K.take j) (t.R.take j) (w.K.take j))).B)) (by simp only[take_zero,Su];rfl) ω ?_ ?_
   .intro j a hj C F H T;have b:i.K[j]? = some (i.K[j]' ω):=Bp _;generalize i.K[j]'_=i' at b;have v:w.K[j]? = some (w.K[j]' ω):=Bp _;generalize w.K[j]'_=u at v;obtain⟨e,d1,d2⟩:=i2 j i' a b C;have M:=Mn (Bv v);have Y:=Kd (Bv b);have a1:=Jx (Bv C);have B:G5 data u a=true:=(by rw[Abu data _ _ z]at c;exact Gt.1 c (u,a) (Bv (i:=j) (by rw[getElem?_zip_eq_some];exact⟨v,C⟩)));have hb:=Sm.of ((X5 data 5000 δ _).1 i' a u e (Nat.le_refl _) d1 ω) ω;simp only[F,H,T,Am,Ad,Bn rfl b,Bn rfl v];rw[ih i' a u (k+1) e ω ω ω d1 ω ω B ω,Ad];show (Fa (cR (bvs data (i.K.take j) (t.R.take j) (w.K.take j))) (cR (bv data i' a u))).bind _=_;rw[Amw (hS j).lg hb.lg δ δ,Amr data _ _ _ j i' a u b C v];rfl
   .intro F;refine⟨_,by simp only[F];rfl,?_⟩;have e1:i.K.take t.R.length=i.K:=Ik ω;have e2:w.K.take t.R.length=w.K:=Ik ω;rw[e1,e2,C1]
  .rw[Ao f]at o ⊢;rw[C8 f,Ap];by_cases q:t.G=7
   .rw[Eh q,Am,As q];rw[As q]at o;have V:=U5 w.K;by_cases e:0<=i.U/\i.U<=6/\i.K.length=0
    .obtain⟨m,U⟩:∃m:Nat,i.U=m:=⟨i.U.toNat,ω⟩;rw[U];first|rw[Avh _ _ ω ω,Ad] | rw[Avg _ _ ω ω,Ad]
     rw[Int.toNat_natCast]
    .rw[Ao e]at o;cases o
   .rw[Ao q]at o ⊢;rw[C8 q,Ap];by_cases g:t.G=5
    .rw[Eh g,Am,As g];rw[As g]at o;have o:Fv data i.K t=some d:=by
      by_cases e:i.U=0
      .rw[As e]at o;exact o
      .rw[Ao e]at o;cases o
     obtain⟨F,H⟩:=Ab9 data _ _ _ o;rw[<-So]at l;rw[A89 J S W g ht i.K H ω w hw l k (λe Z i' t' u d' b E s P v A=>by have T:=Kd b;have h4:=Es e;have h5:=Kd Z;exact ih i' t' u k d' ω ω ω E s P v A),Ad]
    .rw[C8 g,Ap,Ao g]
def Fe:Nat:=1000000000 ^ 100
structure Np (x:Aq) (a:Nat):Prop where
 rb:RB 200 x
 s:sv x=false
 n:nv x=a
 d:dv x=1
theorem Amx (h:a<Fe):Ck a<=100:=K6 h
theorem Np.cR (h:Ck a<=200):Np (cR a) a:=⟨Od h δ,(Sq a).1,(Sq a).2.1,(Sq a).2.2⟩
theorem Np.c (h:a<Fe):Np (Ab.cR a) a:=Np.cR (by have:=Amx h;omega)
theorem Np.z:Np ⟨false,[],[]⟩ 0:=⟨A61 200,by unfold sv;simp,by unfold nv;simp[Av],by unfold dv;simp[Av]⟩
theorem Np.add {b:Nat} (hx:Np x a) (hy:Np y b):Ja x y=some (Ab.cR (a+b)):=by rw[Agn _ _ 200 200 hx.rb hy.rb ω ω,hx.s,hx.n,hx.d,hy.s,hy.n,hy.d];simp[Pk,Mm,Ab.cR]
theorem Np.mul {b:Nat} (hx:Np x a) (hy:Np y b):Fa x y=some (Ab.cR (a*b)):=by rw[Agm _ _ 200 200 hx.rb hy.rb ω ω,hx.s,hx.n,hx.d,hy.s,hy.n,hy.d];simp[Ab.cR]
theorem Np.sign (hx:Np x a):Is x=some (if a=0 then 0 else 1):=by rw[Agl _ 200 hx.rb ω,hx.s,hx.n];simp[La]
theorem Np.can (hx:Np x a):Ko x=some (Ab.cR a):=by rw[Alt _ 200 hx.rb ω,hx.s,hx.n,hx.d];rfl
def Ls (n:Nat) (f:Nat->Nat):List Aq:=(range n).map λk=>cR (f k)
theorem Ms (n:Nat) (f:Nat->Nat):(Ls n f).length=n:=by simp[Ls]
theorem Mt (f:Nat->Nat) (h:k<n):(Ls n f)[k]? = some (cR (f k)):=by simp[Ls,h]
theorem Acb {l:List Aq} {f:Nat->Nat} (b:l.length=n) (h:∀k,k<n->l[k]? = some (cR (f k))):l=Ls n f:=by
 apply ext_getElem?;intro k;rcases Cf k n with g|g
 .rw[h k g,Mt f g]
 .rw[Ll ω,Ll (by rw[Ms];omega)]
theorem Ahe {step:Int×List α->Option ((Int×List α)⊕List α)} {J:List α->Option R} {r:R} {i:Nat} (o:List α) (g:Nat->α) (D:i<=n) (q:o.length=n) (l:∀(j:Nat) (o':List α),i<=j->j<n->o'.length=n->step ((j:Int),o')=some (.inl (((j+1:Nat):Int),o'.set j (g j)))) (y:∀o',o'.length=n->step ((n:Int),o')=some (.inr o')) (z:∀o',o'.length=n->(∀k,k<i->o'[k]? = o[k]?)->(∀k,i<=k->k<n->o'[k]? = some (g k))->J o'=some r):(Ak step ((i:Int),o)).bind J=some r:=by
 obtain⟨e,A,f⟩:=Jm (step:=step) (λs=>∃(j:Nat) (o':List α),s=((j:Int),o')/\i<=j/\j<=n/\o'.length=n/\(∀k,k<i->o'[k]? = o[k]?)/\∀k,i<=k->k<j->o'[k]? = some (g k)) (λs=>n-s.1.toNat)
  (λo'=>o'.length=n/\(∀k,k<i->o'[k]? = o[k]?)/\∀k,i<=k->k<n->o'[k]? = some (g k)) (by
  rintro _ ⟨j,o',rfl,c,x,v,w,B⟩
  rcases Cf j n with h|h
  .refine .inl ⟨_,l j o' c h v,⟨j+1,o'.set j (g j),rfl,ω,ω,by simp[v],λk E=>?_,λk b u=>?_⟩,ζ⟩
   .rw[getElem?_set_ne ω];exact w k E
   .rcases Cf k j with C|C
    .rw[getElem?_set_ne ω];exact B k b C
    .have:k=j:=ω
     subst this
     rw[getElem?_set_self ω]
  .have:j=n:=ω
   subst this
   exact .inr ⟨o',y o' v,v,w,B⟩) ((i:Int),o) ⟨i,o,rfl,ω,D,q,λ_ _=>rfl,λk v w=>ω⟩
 rw[A,Ad]
 exact z e f.1 f.2.1 f.2.2
theorem A9b (n:Nat) (b:n<=1000):Aat (n:Int)=some (Ls n λ_=>0):=by
 unfold Aat;rw[M9 rfl rfl (Nat.le_refl _) ω ω,Ad];refine Ahe (i:=0) (n:=n) _ (λ_=>cR 0) ω ψ ?_ ?_ ?_
 .intro j g _ s o;have u:g[j]? = some g[j]:=Bp ω;simp only[length_replicate,Ar (ω:(j:Int)<(n:Int)),Am,Ag7,Ad,Bn rfl u,C3 s ω,Ht (n:=j) rfl]
 .intro g h;simp only[length_replicate,A3 (ω:¬(n:Int)<(n:Int)),Ap]
 .intro g v _ o;rw[Acb v (f:=λ_=>0) λk w=>o k ω w]
theorem Av2 (n k:Nat) (b:n<1000000000) (g:k<=64):Afg (n:Int) (k:Int)=some (cR (bc n k)):=by
 have h:T9 (n:Int) (k:Int)=some (cR (bc n k)):=by rw[At5 n k b g,Xx,show C6 false (fct k*bc n k) (fct k)=C6 false (fct k*bc n k) (fct k*1) by rw[Nat.mul_one],Xq _ _ _ _ (Xr k)];rfl
 exact h
theorem Av3 (h:n<=40):bc n k<Fe:=by refine Nat.lt_of_le_of_lt (Ab4 n k) ?_;exact Nat.lt_of_le_of_lt (Nat.pow_le_pow_right δ h) δ
theorem Av4 (a b:Nat) (C:a<=16) (hb:b<=16):Ue (a:Int) (b:Int)=some (Ls (a+b+1) (Rc a b)):=by
 unfold Ue;have q:Ac ((a:Int)+(b:Int))=((a+b:Nat):Int):=by rw[Ac,Ci] <;> omega
 have l:Ac (((a+b:Nat):Int)+1)=((a+b+1:Nat):Int):=by rw[Ac,Ci] <;> omega
 have e:(if (b:Int)>(a:Int) then (b:Int) else (a:Int))=((max a b:Nat):Int):=by split <;> omega
 rw[q,l,A9b _ ω,Ad,e];refine Ahe (i:=max a b) (n:=a+b+1) _ (λk=>cR (Rc a b k)) ω (by simp[Ms]) ?_ ?_ ?_
 .intro j o v u w;have B:o[j]? = some o[j]:=Bp ω;have g:Ac ((j:Int)-(b:Int))=((j-b:Nat):Int):=ξ;have s:Rc a b j=bc j a*bc a (j-b):=(by unfold Rc;rw[As ω]);simp only[Ar (ω:(j:Int)<=((a+b:Nat):Int)),Am,Av2 j a ω ω,g,Av2 a (j-b) ω ω,Ad,(Np.c (Av3 (ω:j<=40))).mul (Np.c (Av3 (k:=j-b) (ω:a<=40))),Bn rfl B,C3 u ω,Ht (n:=j) rfl,s]
 .intro o h;simp only[A3 (ω:¬((a+b+1:Nat):Int)<=((a+b:Nat):Int)),Ap]
 .intro o v u w;rw[Acb v (f:=Rc a b) λk A=>?_];rcases Cf k (max a b) with h|h
  .rw[u k h,Mt _ A];have:Rc a b k=0:=by
    rcases (ω:k<a\/k<b) with h|h
    .exact A8s h
    .unfold Rc;rw[Ao ω]
   rw[this]
  .exact w k h A
theorem A9c {m:Nat} {f g:Nat->Nat} {c:Nat} (B:m<=1000) (A:n<=1000) (C:∀k,k<m->f k<Fe) (hg:∀k,k<n->g k<Fe) (v:c<Fe) : Ud (Ls m f) (Ls n g) (cR c)=some (Ls (max m n) λk=>(if k<m then f k else 0)+(if k<n then g k else 0)*c):=by
 unfold Ud;rw[Ms,Ms];have e:(if (n:Int)>(m:Int) then (n:Int) else (m:Int))=((max m n:Nat):Int):=by split <;> omega
 rw[e,M9 rfl rfl (Nat.le_refl _) ω ω,Ad];refine Ahe (i:=0) (n:=max m n) _ (λk=>cR ((if k<m then f k else 0)+(if k<n then g k else 0)*c)) ω ψ ?_ ?_ ?_
 .intro j o _ D w;have E:o[j]? = some o[j]:=Bp ω;obtain⟨x,u,s⟩:∃x:Aq,(bif decide ((j:Int)<(m:Int)) then ((Ag (Ls m f) (j:Int)).bind λb=>some (b.N,b.U,b.B)) else some (false,[],[]))=some (x.N,x.U,x.B)/\Np x (if j<m then f j else 0):=by
   by_cases h:j<m
   .rw[Ar ω,Am,Bn rfl (Mt f h),As h];exact⟨_,rfl,Np.c (C j h)⟩
   .rw[A3 ω,Ap,Ao h];exact⟨⟨false,[],[]⟩,rfl,Np.z⟩
  obtain⟨y,q,l⟩:∃x:Aq,(bif decide ((j:Int)<(n:Int)) then ((Ag (Ls n g) (j:Int)).bind λb=>some (b.N,b.U,b.B)) else some (false,[],[]))=some (x.N,x.U,x.B)/\Np x (if j<n then g j else 0)/\(if j<n then g j else 0)<Fe:=by
   by_cases h:j<n
   .rw[Ar ω,Am,Bn rfl (Mt g h),As h];exact⟨_,rfl,Np.c (hg j h),hg j h⟩
   .rw[A3 ω,Ap,Ao h];exact⟨⟨false,[],[]⟩,rfl,Np.z,δ⟩
  have F:Ck ((if j<n then g j else 0)*c)<=200:=(by have:=Jq (if j<n then g j else 0) c;have:=Amx l.2;have:=Amx v;omega);have G:Aah x y (cR c)=some (cR ((if j<m then f j else 0)+(if j<n then g j else 0)*c)):=(by unfold Aah;rw[(Np.c v).mul l.1,Ad,Nat.mul_comm c,s.add (Np.cR F)];rfl);simp only[length_replicate,Ar (ω:(j:Int)<((max m n:Nat):Int)),Am]
  erw[u,Ad,q,Ad];dsimp only;rw[G,Ad,Bn rfl E,Ad,C3 D ω,Ht (n:=j) rfl]
 .intro o h;simp only[length_replicate,A3 (ω:¬((max m n:Nat):Int)<((max m n:Nat):Int)),Ap]
 .intro o H _ w;rw[Acb H (f:=λk=>(if k<m then f k else 0)+(if k<n then g k else 0)*c) λk I=>w k ω I]
theorem Amy {f:Nat->Nat} (u:n<1000) (s:p.length=n+1) (hp:∀k,k<n+1->∃x,p[k]? = some x/\Np x (f k)) (b:f n≠0):O3 p=some (Ls (n+1) f):=by
 unfold O3;obtain⟨x,q,l⟩:=hp n ω;have w:Ac (((n+1:Nat):Int)-1)=(n:Int):=by rw[Ac,Ci] <;> omega
 refine bnd (a:=((n+1:Nat):Int)) (F0 ?_) ?_
 .rw[s];simp only[Ar (ω:((n+1:Nat):Int)>0),Am,w,Bn rfl q,Ad,l.sign,Ao b];rfl
 .rw[M9 rfl rfl (Nat.le_refl _) ω ω,Ad];refine Ahe (i:=0) (n:=n+1) _ (λk=>cR (f k)) ω ψ ?_ ?_ ?_
  .intro j o _ v A;have B:o[j]? = some o[j]:=Bp ω;obtain⟨y,g,c⟩:=hp j v;simp only[length_replicate,Ar (ω:(j:Int)<((n+1:Nat):Int)),Am,Bn rfl g,c.can,Ad,Bn rfl B,C3 v ω,Ht (n:=j) rfl]
  .intro o h;simp only[length_replicate,A3 (ω:¬((n+1:Nat):Int)<((n+1:Nat):Int)),Ap]
  .intro o C _ A;rw[Acb C (f:=f) λk D=>A k ω D]
def H5 (n d:Nat) (f:Nat->Nat) (k:Nat):Nat:=sm n λa=>f a*Rc a d k
theorem Av5 (a d:Nat):0<Rc a d (a+d):=by
 unfold Rc;rw[As ω,show a+d-d=a by omega,Vf];have:0<bc (a+d) a:=by
  have h:∀d,0<bc (a+d) a:=by
   intro d;induction d with
   | zero=>rw[Nat.add_zero,Vf];decide
   | succ d ih=>cases a with| zero=>rw[J1];decide| succ a=>rw[show a+1+(d+1)=(a+1+d)+1 by omega,X3];omega
  exact h d
 omega
theorem A9d {f:Nat->Nat} {q:List Aq} (Z:n+d<=12) (hp:p=Ls (n+1) f) (i:f n≠0) (hq:q.length=d+1) (N:∀k,k<d+1->∃x,q[k]? = some x/\Np x (if k=d then 1 else 0)) (hf:∀k,k<n+1->f k<Fe) (V:∀a k,a<=n+1->H5 a d f k<Fe):Z8 p q=some (Ls (n+d+1) (H5 (n+1) d f),true):=by
 unfold Z8
 have l:p.length=n+1:=by rw[hp,Ms]
 rw[l,hq,A3 ω,A3 ω]
 simp only[Ap,Ad]
 have c1:O3 p=some (Ls (n+1) f):=Amy ω l (λk o=>⟨_,by rw[hp];exact Mt f o,Np.c (hf k o)⟩) i
 have c2:O3 q=some (Ls (d+1) λk=>if k=d then 1 else 0):=Amy ω hq N ψ
 have w:Ac (((n+1:Nat):Int)+((d+1:Nat):Int))=((n+d+2:Nat):Int):=by rw[Ac,Ci] <;> omega
 rw[c1,Ad,c2,Ad,Ms,Ms,C8 ω,C8 ω]
 simp only[Ap,Ad]
 rw[w,A3 ω,Ap]
 obtain⟨r,Y,X⟩:=Er (J:=λA=>(O3 A).bind λz=>some (z,true)) (Q:=λr=>r=(Ls (n+d+1) (H5 (n+1) d f),true)) (step:=λ(x:List Aq×Int)=>match x with
  | (H,C)=>
   bif C<((n+1:Nat):Int) then (
   (Ag (Ls (n+1) f) C).bind λI=>
   (Ak (S:=(List Aq×Int)) (E:=(List Aq×Int)) (λ(g,v)=>
   bif v<((d+1:Nat):Int) then (
   (Ag (Ls (d+1) λk=>if k=d then 1 else 0) v).bind λG=>
   (Fa I G).bind λP=>
   (Is P).bind λD=>
   bif (D==(0:Int)) then (
   some (.inl (g,(Ac (v+1))))
   )
   else (
   (Ue C v).bind λB=>
   (Ud g B P).bind λa0=>
   some (.inl (a0,(Ac (v+1))))
   )
   )
   else (
   some (.inr (g,v))
   )
    ) (H,0)).bind λ(a1,a2)=>
   some (.inl (a1,(Ac (C+1))))
   )
   else (
   some (.inr H)
   )) (s:=([],0))
  (λs=>∃(a L:Nat) (h:Nat->Nat),s=(Ls L h,(a:Int))/\a<=n+1/\L<=a+d/\(∀k,(if k<L then h k else 0)=H5 a d f k)/\(a=n+1->L=n+d+1)) (λs=>n+1-s.2.toNat)
  (λe=>e=Ls (n+d+1) (H5 (n+1) d f)) ⟨0,0,λ_=>0,rfl,ω,ω,λk=>by simp[H5,sm],ω⟩ (by
  rintro _ ⟨a,L,h,rfl,ha,hL,W,y⟩
  rcases Cf a (n+1) with F|F
  .left
   have M:Np (cR 0) 0:=Np.c δ
   have b:∀k,H5 (a+1) d f k=H5 a d f k+f a*Rc a d k:=λk=>rfl
   have hh:∀k,k<L->h k<Fe:=λk o=>by
    have:=W k
    rw[As o]at this
    rw[this];exact V a k ω
   by_cases h0:f a=0
   .refine⟨(Ls L h,((a+1:Nat):Int)),?_,⟨a+1,L,h,rfl,ω,ω,λk=>by rw[b,h0,W];simp,λe=>?_⟩,ζ⟩
    .simp only[Ar (ω:(a:Int)<((n+1:Nat):Int)),Am,Bn rfl (Mt f F),Ad,h0]
     refine Kc (d+1) (λj=>(Ls L h,(j:Int))) rfl ?_ ⟨(Ls L h,((d+1:Nat):Int)),?_,?_⟩
     .intro j T
      have hy:Np (cR (if j=d then 1 else 0)) (if j=d then 1 else 0):=Np.c (by split <;> decide)
      simp only[Ar (ω:(j:Int)<((d+1:Nat):Int)),Am,Bn rfl (Mt _ T),Ad,M.mul hy,Nat.zero_mul,M.sign,if_true,C3 T ω]
      rfl
     .simp only[A3 (ω:¬((d+1:Nat):Int)<((d+1:Nat):Int)),Ap]
     .rw[C3 F ω]
    .have:a=n:=ω
     subst this;exact (i h0).elim
   .have u:=Np.c (hf a F)
    have R:Ud (Ls L h) (Ls (a+d+1) (Rc a d)) (cR (f a))=some (Ls (a+d+1) λk=>(if k<L then h k else 0)+(if k<a+d+1 then Rc a d k else 0)*f a):=by
     rw[A9c ω ω hh (λk o=>?_) (hf a F),show max L (a+d+1)=a+d+1 by omega]
     unfold Rc
     split
     .refine Nat.lt_of_le_of_lt (Nat.mul_le_mul (Ab4 k a) (Ab4 a (k-d))) ?_
      rw[<-Nat.pow_add]
      exact Nat.lt_of_le_of_lt (Nat.pow_le_pow_right δ (ω:k+a<=40)) δ
     .decide
    refine⟨(Ls (a+d+1) λk=>(if k<L then h k else 0)+(if k<a+d+1 then Rc a d k else 0)*f a,((a+1:Nat):Int)),?_,⟨a+1,a+d+1,_,rfl,ω,ω,λk=>?_,λe=>ω⟩,ζ⟩
    .simp only[Ar (ω:(a:Int)<((n+1:Nat):Int)),Am,Bn rfl (Mt f F),Ad]
     refine Kc (d+1) (λj=>if j<=d then (Ls L h,(j:Int)) else (Ls (a+d+1) λk=>(if k<L then h k else 0)+(if k<a+d+1 then Rc a d k else 0)*f a,(j:Int))) ψ ?_ ⟨((Ls (a+d+1) λk=>(if k<L then h k else 0)+(if k<a+d+1 then Rc a d k else 0)*f a),((d+1:Nat):Int)),?_,?_⟩
     .intro j T
      have hy:Np (cR (if j=d then 1 else 0)) (if j=d then 1 else 0):=Np.c (by split <;> decide)
      rw[As ω]
      simp only[Ar (ω:(j:Int)<((d+1:Nat):Int)),Am,Bn rfl (Mt _ T),Ad,u.mul hy,C3 T ω]
      rcases Cf j d with h2|h2
      .rw[Ao (ω:¬j=d),Nat.mul_zero,M.sign,Ad,As (ω:j+1<=d)]
       rfl
      .have:j=d:=ω
       subst this
       rw[As rfl,Nat.mul_one,u.sign,Ad,Ao h0,Av4 a j ω ω,Ad,R,Ao ω]
       rfl
     .rw[Ao ω]
      simp only[A3 (ω:¬((d+1:Nat):Int)<((d+1:Nat):Int)),Ap]
     .rw[C3 F ω]
    .rw[b,<-W]
     by_cases o:k<a+d+1
     .rw[As o,As o,Nat.mul_comm (Rc a d k)]
     .rw[Ao o,Ao ω,Avm ω];simp
  .have:a=n+1:=ω
   subst this
   right
   have U:=y rfl
   refine⟨Ls L h,?_,?_⟩
   .simp only[A3 (ω:¬((n+1:Nat):Int)<((n+1:Nat):Int)),Ap]
   .subst U
    refine Acb (Ms _ _) λk o=>?_
    have:=W k
    rw[As o]at this
    rw[Mt _ o,this]) (by
  rintro _ rfl
  refine⟨_,bnd (Amy (n:=n+d) (f:=H5 (n+1) d f) ω (Ms _ _) (λk o=>⟨_,Mt _ o,Np.c (V _ _ ω)⟩) ?_) rfl,rfl⟩
  have e:H5 (n+1) d f (n+d)=H5 n d f (n+d)+f n*Rc n d (n+d):=rfl
  have:=Nat.mul_pos (Nat.pos_of_ne_zero i) (Av5 n d)
  omega)
 rw[<-X]
 exact Y
theorem A9e (d x N:Nat) (f:Nat->Nat):∀M,(∀a,a<M->a+d<N)->sm N (λk=>H5 M d f k*bc x k)=sm M (λa=>f a*bc x a)*bc x d:=by
 intro M;induction M with
 | zero=>intro _;rw[Ve (λk _=>by simp[H5,sm])];simp[sm]
 | succ M ih=>
  intro h;have e:∀k,H5 (M+1) d f k*bc x k=H5 M d f k*bc x k+f M*(Rc M d k*bc x k):=λk=>by show (H5 M d f k+f M*Rc M d k)*bc x k=_;rw[Nat.add_mul,Nat.mul_assoc]
  rw[X1 λk _=>e k,Vd,ih λa g=>h a ω,Avk,X4 x M d N (h M ω)];show _=(sm M (λa=>f a*bc x a)+f M*bc x M)*bc x d;rw[Nat.add_mul,Nat.mul_assoc (f M)]
theorem A9f (d:Nat) (f:Nat->Nat) (k:Nat):∀{m n:Nat},m<=n->H5 m d f k<=H5 n d f k:=by
 intro m n h;induction n with
 | zero=>have:m=0:=ω;subst this;exact Nat.le_refl _
 | succ n ih=>
  rcases Cf m (n+1) with g|g
  .have:=ih ω;have e:H5 (n+1) d f k=H5 n d f k+f n*Rc n d k:=rfl;omega
  .have:m=n+1:=ω;subst this;exact Nat.le_refl _
def prb (x:Nat):List Bf->Nat
 | []=>1
 | a::l=>bc x a.P.toNat*prb x l
def Dn:List Bf->Nat
 | []=>0
 | a::l=>a.P.toNat+Dn l
theorem Av6 (x:Nat) (l m:List Bf):prb x (l++m)=prb x l*prb x m:=by induction l with| nil=>simp[prb]| cons a l ih=>simp only[D0,prb,ih,Nat.mul_assoc]
theorem Sv (l m:List Bf):Dn (l++m)=Dn l+Dn m:=by induction l with| nil=>simp[Dn]| cons a l ih=>simp only[D0,Dn,ih,Nat.add_assoc]
theorem Amz {m:List Bf} (h:l.Perm m):Dn l=Dn m:=by induction h with| nil=>rfl| cons a _ ih=>simp only[Dn,ih]| swap a b l=>simp only[Dn];omega| trans _ _ g i=>exact g.trans i
theorem A9g (x d:Nat):bc x d<=(x+1) ^ d:=Nat.le_trans (Ahd x d) (Nat.pow_le_pow_left ω d)
theorem Av7 (x:Nat):∀l:List Bf,prb x l<=(x+1) ^ Dn l
 | []=>by simp[prb,Dn]
 | a::l=>by simp only[prb,Dn,Nat.pow_add];exact Nat.mul_le_mul (A9g x _) (Av7 x l)
theorem X6 {x:Nat} (h:x<=1048576) (g:Dn l<=12):prb x l<Fe:=by refine Nat.lt_of_le_of_lt (Av7 x l) ?_;refine Nat.lt_of_le_of_lt (Nat.pow_le_pow_left (ω:x+1<=1048577) _) ?_;exact Nat.lt_of_le_of_lt (Nat.pow_le_pow_right δ g) δ
def PwN (l:List Bf) (N:Nat) (f:Nat->Nat):Prop:=N=Dn l/\f N≠0/\∀x,sm (N+1) (λk=>f k*bc x k)=prb x l
theorem PwN.le {f:Nat->Nat} (h:PwN l N f) (hk:k<N+1):f k<=prb k l:=by
 have h1:=h.2.2 k;have h2:f k*bc k k<=sm (N+1) (λj=>f j*bc k j):=by
  have:∀n,k<n->f k*bc k k<=sm n (λj=>f j*bc k j):=by
   intro n;induction n with
   | zero=>intro h;omega
   | succ n ih=>
    intro h;show _<=sm n _+f n*bc k n;rcases Cf k n with h'|h'
    .have:=ih h';omega
    .have:k=n:=ω;subst this;omega
  exact this _ hk
 rw[Vf,Nat.mul_one]at h2;omega
theorem PwN.step {f:Nat->Nat} (h:PwN l N f) (a:Bf):PwN (l++[a]) (N+a.P.toNat) (H5 (N+1) a.P.toNat f):=by
 refine⟨by rw[Sv,h.1];simp[Dn],?_,λx=>?_⟩
 .have e:H5 (N+1) a.P.toNat f (N+a.P.toNat)=H5 N a.P.toNat f (N+a.P.toNat)+f N*Rc N a.P.toNat (N+a.P.toNat):=rfl;have:=Nat.mul_pos (Nat.pos_of_ne_zero h.2.1) (Av5 N a.P.toNat);omega
 .rw[A9e _ x _ f (N+1) λb ha=>ω,h.2.2 x,Av6];simp[prb]
theorem A9h (l:List Bf) (x:l≠[]) (ht:∀a∈l,a.L.T.length≠0) (C:∀a∈l,0<=a.P) (R:Dn l<=12) (S:l.length<=1000) : ∃N f,Oy l=some (Ls (N+1) f)/\PwN l N f:=by
 have F:Afj l=false:=by cases l with| nil=>exact (x rfl).elim| cons a M=>have:=ht a ψ;show (a.L.T.length==0)=false;simpa using this
 have H:∃N f,Afi l=some (Ls (N+1) f)/\PwN l N f:=by
  unfold Afi;rw[L3,Ad]
  suffices h:∃r,_/\∃N f,r=Ls (N+1) f/\PwN l N f by obtain⟨r,G,N,f,E,D⟩:=h;exact⟨N,f,by rw[<-E];exact G,D⟩
  refine Er (λs=>∃(i N:Nat) (f:Nat->Nat),s=(Ls (N+1) f,(i:Int))/\i<=l.length/\PwN (l.take i) N f) (λs=>l.length-s.2.toNat) (λe=>∃N f,e=Ls (N+1) f/\PwN l N f) ⟨0,0,λ_=>1,rfl,ω,by simp[PwN,Dn,prb,sm,J1]⟩ ?_ ?_
  .rintro _ ⟨i,N,f,rfl,X,g⟩;rcases Cf i l.length with h|h
   .left;have v:l[i]? = some l[i]:=Bp h;have b:=getElem_mem h;generalize l[i]=a at v b;have U:=ht a b;have L:=C a b;have B:Dn l=Dn (l.take i)+(a.P.toNat+Dn (l.drop (i+1))):=(by have:=Sv (l.take i) (l.drop i);rw[take_append_drop]at this;rw[this,Jz v];rfl);have V:=g.1;have w:Ac (a.P+1)=((a.P.toNat+1:Nat):Int):=ξ;have I:Ag (replicate (a.P.toNat+1) (⟨false,[],[]⟩:Aq)) a.P=some ⟨false,[],[]⟩:=Bn (n:=a.P.toNat) ω ψ;have u:=g.step a;have P:∀A k,A<=N+1->H5 A a.P.toNat f k<Fe:=by
     intro A k y;refine Nat.lt_of_le_of_lt (A9f _ f k y) ?_;rcases Cf k (N+a.P.toNat+1) with o|o
     .refine Nat.lt_of_le_of_lt (u.le o) (X6 ω ?_);rw[Sv];simp only[Dn];omega
     .have:H5 (N+1) a.P.toNat f k=0:=Ve λj hj=>by rw[Avm ω];rfl
      rw[this];decide
    have J:=A9d (n:=N) (d:=a.P.toNat) (f:=f) (p:=Ls (N+1) f) (q:=Cr (replicate (a.P.toNat+1) ⟨false,[],[]⟩) a.P (cR 1)) ω rfl g.2.1 (by rw[Ht (n:=a.P.toNat) ω];simp) (λk o=>by
     rw[Ht (n:=a.P.toNat) ω];by_cases e:k=a.P.toNat
     .subst e;rw[As rfl];exact⟨_,getElem?_set_self ψ,Np.c δ⟩
     .rw[Ao e,getElem?_set_ne ω];exact⟨⟨false,[],[]⟩,by simp[o],Np.z⟩) (λk o=>Nat.lt_of_le_of_lt (g.le o) (X6 ω ω)) P
    refine⟨(Ls (N+a.P.toNat+1) (H5 (N+1) a.P.toNat f),((i+1:Nat):Int)),?_,⟨i+1,_,_,rfl,ω,by rw[Cs v];exact u⟩,ζ⟩;simp only[Ar (ω:(i:Int)<(l.length:Int)),Am,Bn rfl v,Ad,C8 (ω:¬(a.L.T.length:Int)=0),Ap,w,M9 rfl rfl (Nat.le_refl _) (ω:56*(a.P.toNat+1)<=281474976710656) ω,L3,I,J,C3 h ω]
   .have:i=l.length:=ω;subst this;rw[C1]at g;right;exact⟨_,by simp only[A3 (ω:¬(l.length:Int)<(l.length:Int)),Ap],_,_,rfl,g⟩
  .rintro _ ⟨N,f,rfl,h⟩;exact⟨_,rfl,N,f,rfl,h⟩
 obtain⟨N,f,T,W⟩:=H;refine⟨N,f,?_,W⟩;unfold Oy;rw[F,Ap];exact T
theorem A9i {c:Int} {d:Int} (g:c<=1048576) (i:0<=d) (b:d<=64):Xb c d=some (cR (bc c.toNat d.toNat),true):=by
 have h:=Avh c.toNat d.toNat ω ω;have e:((d.toNat:Nat):Int)=d:=ω;rw[e]at h;rw[<-h];unfold Xb;have f:(if c>(0:Int) then c else 0)=(if ((c.toNat:Nat):Int)>(0:Int) then ((c.toNat:Nat):Int) else 0):=by split <;> split <;> omega
 rw[f]
theorem A9j (l:List Bf) {c:Int} (F:c<=1048576) (ht:∀a∈l,a.L.T.length=0/\a.L.Q=c) (H:∀a∈l,0<=a.P) (G:Dn l<=12) (I:l.length<=1000) :
  Oy l=some [cR (prb c.toNat l)]:=by
 have M:Afh l=some [cR (prb c.toNat l)]:=by
  unfold Afh
  rw[L3,Ad]
  obtain⟨r,B,A⟩:∃r,_/\r = [cR (prb c.toNat l)]:=Er (λs=>∃i:Nat,s=((i:Int),[cR (prb c.toNat (l.take i))])/\i<=l.length) (λs=>l.length-s.1.toNat) (λe=>e = [cR (prb c.toNat l)]) (J:=λo=>some o)
   (step:=λ(x:Int×List Aq)=>match x with
    | (g,f)=>
     bif g<(l.length:Int) then (
     (Ag l g).bind λb=>
     bif ((b.L.T.length:Int)==(0:Int)) then (
     (Xb b.L.Q b.P).bind λk=>
     (Ag f 0).bind λw=>
     (Fa w k.1).bind λC=>
     (Ag f 0).bind λP=>
     some (.inl ((Ac (g+1)),(Cr f 0 C)))
     )
     else (
     (Gk 56 (Ac (b.P+1)) (Ac (b.P+1)) ((Aq.mk false [] []):Aq)).bind λq=>
     (Ej 1).bind λS=>
     (Ag q b.P).bind λT=>
     none
     )
     )
     else (
     some (.inr f)
     )) (s:=(0,[cR 1]))
   ⟨0,rfl,ω⟩ (by
   rintro _ ⟨i,rfl,W⟩
   rcases Cf i l.length with h|h
   .left
    have v:l[i]? = some l[i]:=Bp h
    have j:=getElem_mem h
    generalize l[i]=a at v j
    obtain⟨L,D⟩:=ht a j
    have y:=H a j
    have e:Dn l=Dn (l.take i)+(a.P.toNat+Dn (l.drop (i+1))):=by
     have:=Sv (l.take i) (l.drop i)
     rw[take_append_drop]at this
     rw[this,Jz v];rfl
    have U:prb c.toNat (l.take i)<Fe:=X6 ω ω
    have z:bc c.toNat a.P.toNat<Fe:=by
     have:=X6 (x:=c.toNat) (l:=[a]) ω (by simp only[Dn];omega)
     simpa[prb] using this
    have u:Ag [cR (prb c.toNat (l.take i))] 0=some (cR (prb c.toNat (l.take i))):=rfl
    refine⟨_,?_,⟨i+1,rfl,ω⟩,ζ⟩
    simp only[Ar (ω:(i:Int)<(l.length:Int)),Am,Bn rfl v,Ad,Eh (ω:(a.L.T.length:Int)=0),D,A9i F y (ω:a.P<=64),u,(Np.c U).mul (Np.c z),C3 h ω]
    rw[Cs v,Av6]
    simp[prb,Cr]
   .have:i=l.length:=ω
    subst this
    right
    exact⟨[cR (prb c.toNat (take l.length l))],by simp only[A3 (ω:¬(l.length:Int)<(l.length:Int)),Ap],by rw[C1]⟩) (by
   rintro _ rfl
   exact⟨_,rfl,rfl⟩)
  rw[<-A]
  exact B
 have V:Afj l=true:=by
  cases l with
  | nil=>rfl
  | cons a E=>
   have:=(ht a ψ).1
   show (a.L.T.length==0)=true
   simpa using this
 unfold Oy
 rw[V,Am,M]
noncomputable def Ahf (cmp:α->α->Option Int) (a0:Int) (f:List α):Option (List α) := (Ak (S:=(Int×Int×(List α))) (E:=(Int×Int×(List α))) (λ(u,o,h)=> bif o<=a0 then ((X0 cmp u o h).bind λg=> (Ft f.length g).bind λk=> some (.inl (o,(Ac (o+20)),g))) else (some (.inr (u,o,h)))) (0,20,f)).bind λ(v,w,c)=> (X0 cmp v a0 c).bind λs=> (Ft f.length s).bind λA=> (Ak (S:=(Int×Int×Int)) (E:=Unit) (λ(b,j,i)=> bif b<a0 then ((Ak (S:=Unit) (E:=Unit) (λ_=> bif (Ac (2*b))<=a0 then (none) else (some (.inr ()))) ()).bind λ_=> bif (Ac (0+b))<a0 then (none) else (some (.inl ((Ac (b*2)),0,(Ac (2*b)))))) else (some (.inr ()))) (20,v,w)).bind λ_=> some s
theorem Av8 {cmp:α->α->Option Int} {c:α->α->Int} (L:Nu c) (f:List α) (g:∀x∈f,∀y∈f,cmp x y=some (c x y)) (h:f.length<20) : ∃R,Ahf cmp (f.length:Int) f=some R/\R.Perm f/\R.Pairwise (λa b=>¬c b a<0):=by
 obtain⟨R,o,i,s⟩:=Amq L f g ω;refine⟨R,?_,i,s⟩;unfold Ahf;refine bnd (a:=(0,20,f)) (F0 ?_) ?_
 .simp only[A3 (ω:¬(20:Int)<=(f.length:Int)),Ap]
 .dsimp only;rw[o,Ad,Ku i.length_eq.symm,Ad];refine bnd (a:=()) (F0 ?_) rfl;simp only[A3 (ω:¬(20:Int)<(f.length:Int)),Ap]
theorem Ahg:Nu Ib where
 irr x:=by rw[(Mp.zero x x trivial trivial).2 rfl];omega
 trs x y z h g:=Mp.trans x y z trivial trivial trivial h g
 ntr x y z h g i:=by
  rcases Int.lt_trichotomy (Ib x y) 0 with k|k|k
  .exact h k
  .have:=(Mp.zero x y trivial trivial).1 k
   subst this;exact g i
  .have b:Ib y x<0:=by rw[Mp.anti x y trivial trivial];omega
   exact g (Mp.trans y x z trivial trivial trivial b i)
theorem A9k:Nu (λa b:Bf=>Ib a.L b.L):=⟨λ_=>Ahg.irr _,λ_ _ _=>Ahg.trs _ _ _,λ_ _ _=>Ahg.ntr _ _ _⟩
def Acd (l:List Bf):Prop:=l.Pairwise λa b=>¬Ib b.L a.L<0
theorem A9l (b:List Bf) (ht:∀a∈b,a.L.T.length<1099511627776) (c:b.length<20):∃R,Zp b=some R/\R.Perm b/\Acd R:=by obtain⟨R,h,g,i⟩:=Av8 (cmp:=Wn) A9k b (λx o y _=>by unfold Wn;rw[Agf x.L y.L (ht x o)];rfl) c;refine⟨R,?_,g,i⟩;unfold Zp;have e:Aev (b.length:Int) b=Ahf Wn (b.length:Int) b:=rfl;rw[e,h,Ad,Ku g.length_eq.symm];rfl
theorem Ace (n:Nat) (h:n<=1000000):Lv (α:=α) (n:Int)=some []:=by unfold Lv;rw[Ar ω,Ar ω];rfl
theorem A9m (a b:List Bf) (h:a.length+b.length<=1000000):Aek [a,b]=some (a++b) := Ag9 (B:=40) δ (gr:=Aet) (λn h=>Ace n h) a b h
theorem A9n (a b:List Be) (h:a.length+b.length<=1000000):Aej [a,b]=some (a++b) := Ag9 (B:=40) δ (gr:=Aes) (λn h=>Ace n h) a b h
theorem Ahh (m n:A5) (g:m.F.length+n.F.length<=1000000) (h:m.A.length+n.A.length<=1000000):Nw m n=some ⟨m.F++n.F,m.A++n.A⟩:=by unfold Nw;rw[A9n _ _ g,Ad,A9m _ _ h];rfl
def atO (l:Bg) (k:Nat):List Bf:=if k=0 then [] else [⟨l,k⟩]
theorem A9o (l:Bg) (k:Nat):Wo l (k:Int)=some (atO l k):=by
 unfold Wo atO;by_cases h:k=0
 .rw[Eh ω,As h];rfl
 .rw[C8 ω,Ao h];rfl
theorem Av9 (l:Bg) (k:Nat):(atO l k).length<=1:=by unfold atO;split <;> simp
abbrev FS:={F:List Be // F.length<=1000}
theorem A9p {t:Aj} {A B:List Bf} {F:FS} (b:t.M=⟨F.1,A⟩) (f:A.length+B.length<=1000000) (g:K<30000000000) (h:RB K t.C) (i:RB 200 x) : ∃u,N0 t x ⟨[],B⟩=some u/\u.M=⟨F.1,A++B⟩/\rq u.C=rq t.C*rq x/\RB (K+202) u.C:=by obtain⟨c,o,s,_,v⟩:=Sp h i ω ω;refine⟨⟨c,⟨F.1,A++B⟩⟩,?_,rfl,v,s⟩;unfold N0;have:=F.2;rw[o,Ad,b,Ahh _ _ ζ f,append_nil];rfl
abbrev Ent:=List Bf×Nat
inductive Ln (F:FS) (c:Rat) (K:Nat):List Aj->List Ent->Prop
 | nil:Ln F c K [] []
 | cons {t:Aj} {b:Ent} {ts:List Aj} {bs:List Ent}:t.M=⟨F.1,b.1⟩->rq t.C=c*(b.2:Rat)->RB K t.C->Ln F c K ts bs->Ln F c K (t::ts) (b::bs)
theorem Ln.len {F:FS} {c:Rat} {bs:List Ent} (h:Ln F c K ts bs):ts.length=bs.length:=by induction h with| nil=>rfl| cons _ _ _ _ ih=>simp[ih]
theorem Ln.app {F:FS} {c:Rat} {f:List Aj} {bs cs:List Ent} (h:Ln F c K ts bs) (h':Ln F c K f cs):Ln F c K (ts++f) (bs++cs):=by induction h with| nil=>exact h'| cons a b d _ ih=>exact .cons a b d ih
theorem Ln.mono {F:FS} {c:Rat} {f:Nat} {bs:List Ent} (h:Ln F c K ts bs) (hk:K<=f):Ln F c f ts bs:=by induction h with| nil=>exact .nil| cons a b d _ ih=>exact .cons a b (d.mono hk) ih
theorem Ln.get {F:FS} {c:Rat} {bs:List Ent} (h:Ln F c K ts bs):∀{j:Nat} {t:Aj},ts[j]? = some t->∃b,bs[j]? = some b/\t.M=⟨F.1,b.1⟩/\rq t.C=c*(b.2:Rat)/\RB K t.C:=by
 induction h with
 | nil=>intro j t h;simp at h
 | @cons t b ts bs i o s _ ih=>intro j u g;cases j with| zero=>simp only[getElem?_cons_zero,Option.some.injEq]at g;subst g;exact⟨b,rfl,i,o,s⟩| succ j=>simp only[getElem?_cons_succ]at g;simpa using ih g
def fs0:FS:=⟨[],δ⟩
abbrev Rep (c:Rat) (K:Nat):List Aj->List Ent->Prop:=Ln fs0 c K
def Iu (B:List Ent) (l:Bg) (f:Nat->Nat) (n:Nat):List Ent:=(range n).flatMap λk=>if f k=0 then [] else B.map λb=>(b.1++atO l k,b.2*f k)
theorem Awa (B:List Ent) (l:Bg) (f:Nat->Nat) (n:Nat):Iu B l f (n+1)=Iu B l f n++(if f n=0 then [] else B.map λb=>(b.1++atO l n,b.2*f n)):=by unfold Iu;rw[range_succ,flatMap_append];simp
noncomputable def Acf (h:List Aj) (l:Bg) (k:Int) (x:Aq):Int×List Aj->Option ((Int×List Aj)⊕(Int×List Aj)):=λ(b,c)=> bif b<(h.length:Int) then ((Ag h b).bind λg=> (Wo l k).bind λo=> (N0 g x (A5.mk [] o)).bind λf=> (B8 104 c [f]).bind λi=> some (.inl ((Ac (b+1)),i))) else (some (.inr (b,c)))
theorem A9q (a b:Aq) (j k:Nat) (u:RB j a) (hb:RB k b) (A:j<68719476736) (B:k<68719476736) : T0 a b=some (C6 (Pk (sv a) (nv a) (dv a) (!sv b) (nv b) (dv b)) (Mm (sv a) (nv a) (dv a) (!sv b) (nv b) (dv b)) (dv a*dv b)):=by
 unfold T0 Wk;have v:=u.nv;have w:=u.dv;have C:=hb.nv;have s:=hb.dv;have q:=Jq (nv a) (dv b);have l:=Jq (nv b) (dv a);have i:=Jq (dv a) (dv b);have h:=Afs (nv a*dv b) (nv b*dv a);have g:=Mh (Nat.sub_le (nv a*dv b) (nv b*dv a));have f:=Mh (Nat.sub_le (nv b*dv a) (nv a*dv b));rw[Sn b k hb ω,Ad,Sn a j u ω,Ad];dsimp only;rw[Sj _ _ ω ω,Ad,Sj _ _ ω ω,Ad,Sj _ _ ω ω,Ad];by_cases c:sv a = !sv b
 .have e:(sv a == !sv b)=true:=(by rw[c];exact beq_self_eq_true _);rw[e,Am,Atr _ _ ω ω,Ad,Ad,Pj _ _ _ ω ω,Pk,Mm,As c,As c];rfl
 .have e:(sv a == !sv b)=false:=(by cases v:sv a <;> cases w:sv b <;> simp_all);rw[e,Ap,Alp _ _ ω ω,Ad,Pk,Mm,Ao c,Ao c];by_cases o:nv b*dv a<=nv a*dv b
  .rw[Ar (show Jj (nv a*dv b) (nv b*dv a)>=0 by rw[Jj,Ao ω];split <;> decide),Am,Agi _ _ ω o,Ad,Ad,Pj _ _ _ ω ω,As o,As o];rfl
  .rw[A3 (show ¬Jj (nv a*dv b) (nv b*dv a)>=0 by rw[Jj,As ω];decide),Ap,Agi _ _ ω ω,Ad,Ad,Pj _ _ _ ω ω,Ao o,Ao o];rfl
theorem A9r (s:Bool) (n:Nat):sg (!s) n = - sg s n:=by unfold sg;cases s <;> simp
theorem A9s {a b:Aq} (o:RB j a) (hb:RB k b) (v:j<34359738000) (w:k<34359738000):∃c,T0 a b=some c/\RB (j+k+3) c/\Ho c/\rq c=rq a-rq b:=by
 have e:=A9q a b j k o hb ω ω;have u:dv a*dv b≠0:=Nat.mul_ne_zero (Ic a) (Ic b);have A:=o.nv;have B:=o.dv;have C:=hb.nv;have s:=hb.dv;have q:=Jq (nv a) (dv b);have l:=Jq (nv b) (dv a);have i:=Jq (dv a) (dv b);have h:=Afs (nv a*dv b) (nv b*dv a);have g:=Mh (Nat.sub_le (nv a*dv b) (nv b*dv a));have f:=Mh (Nat.sub_le (nv b*dv a) (nv a*dv b));refine⟨_,e,?_,U7 _ _ _ u,?_⟩
 .refine Oc _ _ _ _ ?_ ω ω;unfold Mm;split
  .omega
  .split <;> omega
 .rw[Qo _ _ _ u,Auj,A9r,rq,rq,show mkRat (sg (sv a) (nv a)) (dv a)-mkRat (sg (sv b) (nv b)) (dv b)=mkRat (sg (sv a) (nv a)) (dv a)+mkRat (-sg (sv b) (nv b)) (dv b) by rw[<-Rat.neg_mkRat];grind,Rat.mkRat_add_mkRat _ _ (Ic a) (Ic b)]
theorem Ahi (z:Int):mkRat z 1=(z:Rat):=by rw[Rat.mkRat_eq_div,show ((1:Nat):Rat)=1 from rfl];grind
theorem Ahj (z:Int) (g : -9223372036854775808<=z) (i:z<=9223372036854775807):∃r,Ej z=some r/\RB 3 r/\Ho r/\rq r=(z:Rat):=by
 have b:Ck z.natAbs<=3:=U3 (n:=z.natAbs) ω;refine⟨_,Abr z g i,Oc _ _ _ _ b (by rw[Sl];decide) δ,U7 _ _ _ δ,?_⟩;rw[Qo _ _ _ δ,Ahi];congr 1;unfold sg;by_cases h:z<0
 .rw[Ar h,As rfl];omega
 .rw[A3 h,Ao δ];omega
theorem A9t (n:Nat) (c:n<1000000000):∃r,Pz 1 ((n+1:Nat):Int)=some r/\RB 3 r/\rq r=1 / ((n+1:Nat):Rat):=by have e:=At0 1 ((n+1:Nat):Int) δ δ ω ω ω;have b:Ck ((n+1:Nat):Int).natAbs<=3:=U3 ω;refine⟨_,e,Oc _ _ _ _ (U3 δ) b δ,?_⟩;rw[Qo _ _ _ ω,Rat.mkRat_eq_div];rw[A3 (by decide:¬(1:Int)<0),A3 (ω:¬((n+1:Nat):Int)<0)];rfl
theorem Vg (n:Nat):rq (cR n)=(n:Rat):=by unfold cR;rw[Qo _ _ _ δ,Ahi];rfl
theorem Awb (n:Nat):Ho (cR n):=U7 _ _ _ δ
theorem A9u (n j:Nat):(((j+1:Nat):Int))*(bc n (j+1):Int)=((n:Int)-j)*bc n j:=by
 have o:=Xx n (j+1);have s:=Xx n j;have u:=Xr j;rcases Cf n j with h|h
 .have i:=Ab3 h;have g:=Ab3 (show n<j+1 by omega);have b:=Xr (j+1);have v:bc n j=0:=by
   rw[i]at s;rcases Nat.mul_eq_zero.1 s.symm with h|h
   .exact (u h).elim
   .exact h
  have w:bc n (j+1)=0:=by
   rw[g]at o;rcases Nat.mul_eq_zero.1 o.symm with h|h
   .exact (b h).elim
   .exact h
  rw[v,w];simp
 .rw[Hv,s]at o;have A:fct j*(bc n j*(n-j))=fct j*((j+1)*bc n (j+1)):=(by rw[<-Nat.mul_assoc,o,fct];simp only[Nat.mul_assoc]);have f:=Nat.eq_of_mul_eq_mul_left (Nat.pos_of_ne_zero u) A;have c:((n:Int)-j)=((n-j:Nat):Int):=ω;rw[c,<-Int.natCast_mul,<-Int.natCast_mul,<-f,Nat.mul_comm]
theorem A9v (n j:Nat):(bc n j:Rat)*(((n:Rat)-(j:Rat))*(1 / ((j+1:Nat):Rat)))=(bc n (j+1):Rat):=by
 have h:=congrArg (λz:Int=>(z:Rat)) (A9u n j);simp only[Rat.intCast_mul,Rat.intCast_sub,Rat.intCast_natCast]at h;have b:((j+1:Nat):Rat)≠0:=by have:(0:Rat)<((j+1:Nat):Rat):=Rat.natCast_pos.2 ω;grind
 generalize ((j+1:Nat):Rat)=d at *;grind
theorem Awc (a:Aq):Aq.mk a.N a.U a.B=a:=by cases a;rfl
theorem A9w {a:Aq} {z:Int} (F:RB K a) (X:K<=100000000) (i:rq a=(z:Rat)) (k:Nat) (T:k<=64) : ∃c,Ts a (k:Int)=some c/\Ho c/\RB (3+k*(K+20)) c/\rq c=(bc z.toNat k:Rat):=by
 unfold Ts;rw[(Agv F ω).1,Ad];obtain⟨b,n,V,U,S,R⟩:∃(b:Aq) (n:Nat),(bif decide (Nd (rq a)<(0:Int)) then ((Ej 0).bind λv=>some (v.N,v.U,v.B)) else some (a.N,a.U,a.B))=some (b.N,b.U,b.B)/\RB (K+3) b/\rq b=(n:Rat)/\n=z.toNat:=by
  by_cases h:z<0
  .have l:rq a<0:=(by rw[i];exact_mod_cast h);have:Nd (rq a)<0:=(by unfold Nd;rw[As l];decide);rw[Ar this,Am,Ag7];exact⟨cR 0,0,rfl,(Od (k:=1) (by rw[Aba];decide) δ).mono ω,by rw[Vg],ω⟩
  .have l:¬rq a<0:=(by rw[i];intro H;exact h (by exact_mod_cast H));have:¬Nd (rq a)<0:=(by unfold Nd;rw[Ao l];split <;> decide);rw[A3 this,Ap];refine⟨a,z.toNat,rfl,F.mono ω,?_,rfl⟩;rw[i];have:z=((z.toNat:Nat):Int):=ω;exact (congrArg (λy:Int=>(y:Rat)) this).trans (Rat.intCast_natCast _)
 erw[V];rw[Ad];dsimp only;rw[L3,Ad,<-R];refine Er (λs=>∃(j:Nat) (P:Aq),s=((j:Int),P.N,P.U,P.B)/\j<=k/\Ho P/\RB (3+j*(K+20)) P/\rq P=(bc n j:Rat)) (λs=>k-s.1.toNat) (λe=>∃P:Aq,e=(P.N,P.U,P.B)/\Ho P/\RB (3+k*(K+20)) P/\rq P=(bc n k:Rat)) ⟨0,cR 1,rfl,ω,Awb 1,(Od (k:=1) (by rw[Sl];decide) δ).mono ω,by rw[Vg,J1]⟩ ?_ ?_
 .rintro s ⟨j,P,rfl,W,C,g,o⟩;rcases Cf j k with h|h
  .obtain⟨r,G,E,_,D⟩:=Ahj (j:Int) ω ω;obtain⟨d,d1,d2,d3,d4⟩:=A9s U E ω ω;obtain⟨w,A,x,u⟩:=A9t j ω;obtain⟨f,f1,f2,_,f3⟩:=Sp d2 x ω ω;have N:j*(K+20)<=64*(K+20):=Nat.mul_le_mul_right _ ω;obtain⟨q,M,L,J,I⟩:=Sp g f2 ω ω;have B:Ac ((j:Int)+1)=((j+1:Nat):Int):=C3 h ω;simp only[Ar (ω:(j:Int)<(k:Int)),Am,G,Ad,B,A];rw[show (T0 (Aq.mk b.N b.U b.B) r)=some d from d1,Ad,f1,Ad,show (Fa (Aq.mk P.N P.U P.B) f)=some q from M,Ad];refine .inl ⟨_,rfl,⟨j+1,q,rfl,ω,J,L.mono (by rw[Nat.add_mul];omega),?_⟩,by simp only[Int.toNat_natCast];omega⟩;rw[I,o,f3,d4,u,S,D,Rat.intCast_natCast];exact A9v n j
  .have:j=k:=ω;subst this;exact .inr ⟨(P.N,P.U,P.B),by rw[A3 ω];rfl,P,rfl,C,g,o⟩
 .rintro e ⟨P,rfl,C,g,o⟩;exact⟨P,by rw[<-Awc P],C,g,o⟩
def Lo (val:Int->Ay) (l:Bg):Int:=l.Q+(l.T.map λt=>t.C*(val t.v).U).sum
def Dz:List Nat->Nat
 | []=>1
 | a::l=>a*Dz l
theorem Awd:∀(l:List Nat) (a:Nat),Dz (l++[a])=Dz l*a
 | [],a=>by simp[Dz]
 | b::l,a=>by rw[D0,Dz,Dz,Awd l a,Nat.mul_assoc]
theorem Awe {f:α->Nat} {l:List α} {x:α} (h:l[j]? = some x):Dz ((l.take (j+1)).map f)=Dz ((l.take j).map f)*f x:=by rw[Cs h,map_append];exact Awd _ _
def Lc (x:B9) (val:Int->Ay) (f:Be):Nat:=match C9 x.V x.E f.v with|some t=>bv x.D f.I t (val f.v) | none=>0
def Qq (val:Int->Ay) (a:Bf):Nat:=bc (Lo val a.L).toNat a.P.toNat
def Sw (x:B9) (val:Int->Ay) (m:A5):Nat:=Dz (m.F.map (Lc x val))*Dz (m.A.map (Qq val))
def L5 (x:B9) (val:Int->Ay):List Aj->Rat
 | []=>0
 | t::p=>rq t.C*(Sw x val t.M:Rat)+L5 x val p
theorem Awf (x:B9) (val:Int->Ay):∀p q:List Aj,L5 x val (p++q)=L5 x val p+L5 x val q
 | [],q=>by simp only[nil_append,L5];grind
 | t::p,q=>by simp only[D0,L5,Awf x val p q];grind
theorem A9x {val:Int->Ay} (c:Int) {l:List Bq} {u:Bq} (h:l[j]? = some u):Lo val ⟨c,l.take (j+1)⟩=Lo val ⟨c,l.take j⟩+u.C*(val u.v).U:=by unfold Lo;rw[Cs h];simp only[map_append,sum_append,map_cons,map_nil,sum_cons,sum_nil];omega
structure Am0 (x:B9) (env:List Ay) (res:Ay) (m:A5):Prop where
 fl:m.F.length<=6
 al:m.A.length<=6
 fac:∀f∈m.F,∃t,C9 x.V x.E f.v=some t/\We x.D t f.I (Dl env res f.v)=some (cR (Lc x (Dl env res) f),0)/\Lc x (Dl env res) f<=5000 ^ 6
 atm:∀a∈m.A,1<=a.P/\a.P<=6/\-1048576<=a.L.Q/\a.L.Q<=1048576/\a.L.T.length<=16 /\
  ∀u∈a.L.T,-1048576<=u.C/\u.C<=1048576/\∃t,C9 x.V x.E u.v=some t/\-1099511627776<=(Dl env res u.v).U/\(Dl env res u.v).U<=1099511627776
theorem A9y {E:Type} {step:Int×Bool×List Int×List Int->Option ((Int×Bool×List Int×List Int)⊕E)} {J:E->Option R} (F:List Be) (v:Be->Nat) (i:Aq->E) (z:F.length<=6) (A:∀f∈F,v f<=5000 ^ 6) (l:∀(j:Nat) (f:Be) (g c:Aq),F[j]? = some f->decide ((j:Int)<(F.length:Int))=true->Ag F (j:Int)=some f->Ac ((j:Int)+1)=((j+1:Nat):Int)->Fa g (cR (v f))=some c->step ((j:Int),g.N,g.U,g.B)=some (.inl (((j+1:Nat):Int),c.N,c.U,c.B))) (q:∀g:Aq,decide ((F.length:Int)<(F.length:Int))=false->step ((F.length:Int),g.N,g.U,g.B)=some (.inr (i g))) {a:Aq} (B:RB K a) (y:K<=20000000) (u:∀m,RB (K+30) m->(F = []->m=a)->(F≠[]->Ho m)->rq m=rq a*(Dz (F.map v):Rat)->∃r,J (i m)=some r/\Q r):∃r,(Ak step (0,a.N,a.U,a.B)).bind J=some r/\Q r:=by
 refine Er (λs=>∃(j:Nat) (g:Aq),s=((j:Int),g.N,g.U,g.B)/\j<=F.length/\RB (K+j*5) g/\(j=0->g=a)/\(0<j->Ho g)/\rq g=rq a*(Dz ((F.take j).map v):Rat)) (λs=>F.length-s.1.toNat) (λe=>∃g:Aq,e=i g/\RB (K+30) g/\(F = []->g=a)/\(F≠[]->Ho g)/\rq g=rq a*(Dz (F.map v):Rat)) ⟨0,a,rfl,ω,B.mono ω,λ_=>rfl,λh=>ω,by simp only[take_zero,map_nil,Dz];show _=_*(1:Rat);grind⟩ ?_ ?_
 .rintro s ⟨j,g,rfl,T,w,C,k,b⟩;rcases Cf j F.length with h|h
  .have o:F[j]? = some F[j]:=Bp h;generalize F[j]=f at o;have D:Sm (v f):=A f (Bv o);obtain⟨c,G,H,I,L⟩:=Sp w (Od D.lg δ) ω δ;rw[l j f g c o (Ar ω) (Bn rfl o) (C3 h ω) G];refine .inl ⟨_,rfl,⟨j+1,c,rfl,ω,H.mono ω,λh=>ω,λ_=>I,?_⟩,by simp only[Int.toNat_natCast];omega⟩;rw[L,b,Vg,Awe o,Rat.natCast_mul];grind
  .have:j=F.length:=ω;subst this;rw[C1]at b;refine .inr ⟨i g,q g (A3 ω),g,rfl,w.mono ω,λh=>C (by rw[h];rfl),λh=>k (length_pos_iff.2 h),b⟩
 .rintro e ⟨g,rfl,M,P,S,x⟩;exact u g M P S x
theorem A9z {x:B9} {f:List Ay} (B:f.length=x.V.length) {l:Bg} (Z:l.T.length<=16) (hc : -1048576<=l.Q/\l.Q<=1048576) (ht:∀u∈l.T,-1048576<=u.C/\u.C<=1048576/\∃t,C9 x.V x.E u.v=some t/\-1099511627776<=(Dl f res u.v).U/\(Dl f res u.v).U<=1099511627776) (G:∀g:Aq,RB 200 g->rq g=(Lo (Dl f res) l:Rat)->∃r,J ((l.T.length:Int),g.N,g.U,g.B)=some r/\Q r) : ∃r,((Ej l.Q).bind λo=> (Ak (S:=(Int×Bool×List Int×List Int)) (E:=(Int×Bool×List Int×List Int)) (λ(i,v,w,q)=> bif i<(l.T.length:Int) then ((Ag l.T i).bind λC=> (Ej C.C).bind λF=> (Ot C.v res f).bind λA=> (Ej A.U).bind λz=> (Fa F z).bind λH=> (Ja (Aq.mk v w q) H).bind λk=> some (.inl ((Ac (i+1)),k.N,k.U,k.B))) else some (.inr (i,v,w,q))) (0,o.N,o.U,o.B)).bind J)=some r/\Q r:=by
 obtain⟨a,W,a2,a3,a4⟩:=Ahj l.Q ω ω;rw[W,Ad];refine Er (λs=>∃(j:Nat) (g:Aq),s=((j:Int),g.N,g.U,g.B)/\j<=l.T.length/\RB (3+j*11) g/\rq g=(Lo (Dl f res) ⟨l.Q,l.T.take j⟩:Rat)) (λs=>l.T.length-s.1.toNat) (λe=>∃g:Aq,e=((l.T.length:Int),g.N,g.U,g.B)/\RB 200 g/\rq g=(Lo (Dl f res) l:Rat)) ⟨0,a,rfl,ω,a2.mono ω,by rw[a4];unfold Lo;simp⟩ ?_ ?_
 .rintro s ⟨j,g,rfl,hj,T,y⟩;rcases Cf j l.T.length with h|h
  .have P:l.T[j]? = some l.T[j]:=Bp h;generalize l.T[j]=u at P;obtain⟨Y,X,t,D,V,U⟩:=ht u (Bv P);obtain⟨b,b1,b2,b3,N⟩:=Ahj u.C ω ω;obtain⟨c,c1,c2,c3,c4⟩:=Ahj (Dl f res u.v).U ω ω;obtain⟨d,d1,d2,d3,d4⟩:=Sp b2 c2 δ δ;obtain⟨e,M,_,L,e3,I⟩:=Agu T d2 ω δ;simp only[Ar (ω:(j:Int)<(l.T.length:Int)),Am,Bn rfl P,Ad,b1,Amo B res D,c1,d1,C3 h ω];rw[show (Ja (Aq.mk g.N g.U g.B) d)=some e from M,Ad];refine .inl ⟨_,rfl,⟨j+1,e,rfl,ω,L.mono ω,?_⟩,by simp only[Int.toNat_natCast];omega⟩;rw[I,y,d4,N,c4,A9x _ P,Rat.intCast_add,Rat.intCast_mul]
  .have:j=l.T.length:=ω;subst this;rw[C1]at y;exact .inr ⟨((l.T.length:Int),g.N,g.U,g.B),by simp only[A3 (ω:¬(l.T.length:Int)<(l.T.length:Int)),Ap],g,rfl,T.mono ω,y⟩
 .rintro e ⟨g,rfl,h1,h2⟩;exact G g h1 h2
theorem A90 {x:B9} (N:b.length=x.V.length) (V:Am0 x b res m) {a:Aq} (ha:RB K a) (hK:K<=20000000) (hJ:∀g:Aq,RB (K+12000) g->(m.A = []->g=a)->(m.A≠[]->Ho g)->rq g=rq a*(Dz (m.A.map (Qq (Dl b res))):Rat)->∃r,J ((m.A.length:Int),g.N,g.U,g.B)=some r/\Q r) : ∃r,(Ak (S:=(Int×Bool×List Int×List Int)) (E:=(Int×Bool×List Int×List Int)) (λ(k,A,z,y)=> bif k<(m.A.length:Int) then ((Ag m.A k).bind λi=> (Ej i.L.Q).bind λo=> (Ak (S:=(Int×Bool×List Int×List Int)) (E:=(Int×Bool×List Int×List Int)) (λ(f,w,C,u)=> bif f<(i.L.T.length:Int) then ((Ag i.L.T f).bind λF=> (Ej F.C).bind λH=> (Ot F.v res b).bind λM=> (Ej M.U).bind λL=> (Fa H L).bind λP=> (Ja (Aq.mk w C u) P).bind λl=> some (.inl ((Ac (f+1)),l.N,l.U,l.B))) else some (.inr (f,w,C,u))) (0,o.N,o.U,o.B)).bind λ(a0,I,G,T)=> (Ts (Aq.mk I G T) i.P).bind λD=> (Fa (Aq.mk A z y) D).bind λv=> some (.inl ((Ac (k+1)),v.N,v.U,v.B))) else some (.inr (k,A,z,y))) (0,a.N,a.U,a.B)).bind J=some r/\Q r:=by
 refine Er (λs=>∃(j:Nat) (g:Aq),s=((j:Int),g.N,g.U,g.B)/\j<=m.A.length/\RB (K+j*2000) g/\(j=0->g=a)/\(0<j->Ho g)/\rq g=rq a*(Dz ((m.A.take j).map (Qq (Dl b res))):Rat)) (λs=>m.A.length-s.1.toNat) (λe=>∃g:Aq,e=((m.A.length:Int),g.N,g.U,g.B)/\RB (K+12000) g/\(m.A = []->g=a)/\(m.A≠[]->Ho g)/\rq g=rq a*(Dz (m.A.map (Qq (Dl b res))):Rat)) ⟨0,a,rfl,ω,ha.mono ω,λ_=>rfl,λh=>ω,by simp only[take_zero,map_nil,Dz];show _=_*(1:Rat);grind⟩ ?_ ?_
 .rintro s ⟨j,g,rfl,hj,hg,h0,U,B⟩;have a1:=V.al;rcases Cf j m.A.length with h|h
  .have W:m.A[j]? = some m.A[j]:=Bp h;generalize m.A[j]=t at W;obtain⟨t1,t2,t3,t4,t5,t6⟩:=V.atm t (Bv W);left;refine Afr ?_;simp only[Ar (ω:(j:Int)<(m.A.length:Int)),Am,Bn rfl W,Ad,C3 h ω];refine A9z N t5 ⟨t3,t4⟩ t6 λn n1 n2=>?_;obtain⟨d,hd⟩:∃d:Nat,t.P=d:=⟨t.P.toNat,ω⟩;obtain⟨c,c1,c2,c3,c4⟩:=A9w n1 δ n2 d ω;obtain⟨q,q1,Z,Y,X⟩:=Sp hg (c3.mono (show 3+d*(200+20)<=1900 by omega)) ω δ;refine⟨.inl (((j+1:Nat):Int),q.N,q.U,q.B),?_,_,rfl,⟨j+1,q,rfl,ω,Z.mono ω,λh=>ω,λ_=>Y,?_⟩,by simp only[Int.toNat_natCast];omega⟩
   .show (Ts n t.P).bind _=_;rw[hd,c1,Ad];show (Fa g c).bind _=_;rw[q1];rfl
   .have:Qq (Dl b res) t=bc (Lo (Dl b res) t.L).toNat d:=(by unfold Qq;rw[hd,Int.toNat_natCast]);rw[X,B,c4,Awe W,Rat.natCast_mul,this];grind
  .have:j=m.A.length:=ω;subst this;rw[C1]at B;refine .inr ⟨((m.A.length:Int),g.N,g.U,g.B),by simp only[A3 (ω:¬(m.A.length:Int)<(m.A.length:Int)),Ap],g,rfl,hg.mono ω,λh=>h0 (by rw[h];rfl),λh=>U (length_pos_iff.2 h),B⟩
 .rintro e ⟨g,rfl,h1,h2,h3,h4⟩;exact hJ g h1 h2 h3 h4
theorem A91 (x:B9) (g:CSz x) (o:Hn x) (i:Ah) (t:Af) (hg:Gw x.D t=true) (u:Bw i<=1048576) (w:Ay) (j:Mo x.D w t=true) (s:Dj x.D i t=some d) (c:d<=6) : We x.D t i w=some (cR (bv x.D i t w),0)/\bv x.D i t w<=5000 ^ 6:=by have h:=hg;simp only[Gw,Cz,Ds]at h;have f:=j;unfold Mo at f;simp only[Cz,Ds]at f;obtain⟨⟨_,k⟩,l⟩:=f;have d1:=Ags g.ds o.2.1 t hg i u;obtain⟨b,v,q⟩:=Auf g.ds w t ω ω;have A:b=true:=q.2 ⟨o.2.1,j⟩;subst A;refine⟨?_,Nat.le_trans ((X5 x.D 5000 δ _).1 i t w d (Nat.le_refl _) s k) (Nat.pow_le_pow_right δ c)⟩;unfold We Wj;rw[d1,s,Qi c,Ad,Ad,Ar ω,v];simp only[Ad,bnt,Ap];rw[A9a o.2.1.szv g.ds.sz.short o.2.1.cons8 (Bw i) i t w 4000000 d (Nat.le_refl _) ω ω s c ω l k];rfl
theorem A92 {x:B9} (g:Hn x) {v:Int} (h:C9 x.V x.E v=some t):Gw x.D t=true:=by
 unfold C9 at h;by_cases e:v = -1
 .rw[As e]at h;cases h;exact g.2.2.1
 .rw[Ao e]at h;exact Gt.1 g.2.2.2 t (G3 h).2.2.2
theorem A93 {x:B9} (h:Ju x m):∀v∈Jv m,∃t,C9 x.V x.E v=some t:=by
 intro v g;unfold Jv Mr at g;rcases Ef.1 g with g|g
 .obtain⟨f,o,rfl⟩:=mem_map.1 g;exact (Agt h.1).1 f o
 .obtain⟨a,s,g⟩:=mem_flatMap.1 g;obtain⟨u,w,rfl⟩:=mem_map.1 g;have b:=h.1;unfold Js at b;simp only[Cz]at b;obtain⟨j,A⟩:=Hh s;have:=Je b.1.2 A;simp only[Nc,Cz,Ds]at this;have i:=Gt.1 this.1.2 u w;unfold Ph at i;cases B:C9 x.V x.E u.v with| none=>rw[B]at i;cases i| some t=>exact⟨t,rfl⟩
theorem A94 {x:B9} (U:CSz x) (W:Hn x) {c:List Ay} (h:Ju x m) (s:∀v∈Jv m,I3 x c res v=true):Am0 x c res m:=by
 have hc:=h.cmo;have A:=h.1;have z:=Ami h.1 h.2;have q:=Agt h.1;unfold Js at A;simp only[Cz]at A;have G:∀f∈m.F,I3 x c res f.v=true:=λf g=>s _ (by unfold Jv;exact Ef.2 (.inl (mem_map.2 ⟨f,g,rfl⟩)));refine⟨q.2,?_,λf g=>?_,λa C=>?_⟩
 .obtain⟨_,_,F,_⟩:=z;first|exact F|omega
 .obtain⟨t,o⟩:=q.1 f g;obtain⟨j,H⟩:=Hh g;have k:=Je A.1.1 H;simp only[Pi,Cz,Ds]at k;have w:=k.1;unfold D3 at w;rw[o]at w;have w:1<=Jr (Dj x.D f.I t):=w;have V:Mo x.D (Dl c res f.v) t=true:=(by have:=G f g;unfold I3 at this;rw[o]at this;exact this);rcases Alf (Dj x.D f.I t) with⟨P,_⟩|⟨d,P,F,_⟩
  .rw[P]at w;omega
  .obtain⟨g1,g2⟩:=A91 x U W f.I t (A92 W o) (h.2.fi f g) _ V P F;have E:Lc x (Dl c res) f=bv x.D f.I t (Dl c res f.v):=(by unfold Lc;rw[o]);rw[E];exact⟨t,o,g1,g2⟩
 .obtain⟨j,H⟩:=Hh C;have k:=Je A.1.2 H;simp only[Nc,Cz,Ds]at k;obtain⟨⟨⟨⟨S,B⟩,_⟩,R⟩,_⟩:=k;have N:a.P<=6:=(by obtain⟨_,_,_,X⟩:=z;exact (X a C).2.2.2);unfold Ek at B;simp only[Cz,Ds]at B;obtain⟨⟨M,L,J⟩,I⟩:=B;refine⟨S,N,M,L,J,λu T=>?_⟩;obtain⟨i,hi⟩:=Hh T;have y:=Je I hi;simp only[U1,Cz,Ds]at y;obtain⟨⟨_,_,_,c1,c2⟩,_⟩:=y;have l:=Gt.1 R u T;unfold Ph at l;have b:I3 x c res u.v=true:=s _ (by unfold Jv Mr;exact Ef.2 (.inr (mem_flatMap.2 ⟨a,C,mem_map.2 ⟨u,T,rfl⟩⟩)));cases o:C9 x.V x.E u.v with| none=>rw[o]at l;cases l| some t=>rw[o]at l;have D:t.G=1:=eq_of_beq l;unfold I3 at b;rw[o]at b;have b:Mo x.D (Dl c res u.v) t=true:=b;unfold Mo at b;rw[So,As D]at b;simp only[Cz,Ds]at b;exact⟨c1,c2,t,rfl,b.2.1.1.2,b.2.1.2⟩
end Go.Ab
