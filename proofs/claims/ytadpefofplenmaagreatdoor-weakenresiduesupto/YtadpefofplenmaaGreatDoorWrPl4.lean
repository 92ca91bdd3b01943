/- Plain laws. -/
import Derived.Test.YtadpefofplenmaaGreatDoorWrPl3
open List
namespace Go.Ab
open Go
variable{x:A8}{t:Ae}{y:An}{A B l m:A2}{L p q:Ad}{b:Ag}{K M N a d j k n:Nat}{g:Nat->Nat}{R α:Type}{r:R}{cmp:α->α->A5}
theorem A97:Abi []=some []:=by kernel_rfl
theorem A98(l:Ag):Abi l=some (l.mergeSort λx y=>decide (x<=y)):=by cases l with|nil=>rw[A97];simp|cons a l=>rfl
theorem A99(l:Ag):(l.mergeSort λx y=>decide (x<=y)).Pairwise (·<=·):=by have:=pairwise_mergeSort (le:=λx y:Int=>decide (x<=y)) (λa b c e i=>by simp only[Eh]at *;omega) (λa b=>by simp only[Bool.or_eq_true,Eh];omega) l;exact this.imp (λh=>by simpa using h)
structure Asc(b:List Int)(n:Nat)(l:List Int):Prop where
 up:l.Pairwise (· < ·)
 mem:∀y,y∈l↔y∈b.take n
theorem Baa(c:b.Pairwise (·<=·)){q:Nat}{p:Int}(hp:b[q]?=some p):∀y∈b.take (q+1),y<=p:=by intro y u;obtain⟨i,h⟩:=Fo u;rw[getElem?_take]at h;split at h;rename_i f;by_cases e:i=q;subst e;rw[h]at hp;cases hp;exact Int.le_refl _;have o:=D8 h;have s:=D8 hp;have:=(pairwise_iff_getElem.1 c) i q o s ω;rw[Bn o]at h;rw[Bn s]at hp;cases h;cases hp;exact this;cases h
theorem Asc.step(g:b.Pairwise (·<=·)){q:Nat}{l:Ag}{p x:Int}(h:Asc b (q+1) l)(hp:b[q]?=some p)(hx:b[q+1]?=some x)(j:x≠p):Asc b (q+2) (l++[x]):=by have f:=Baa g hp;(have i:p<x:=by have h1:=D8 hp;have h2:=D8 hx;have:=(pairwise_iff_getElem.1 g) q (q+1) h1 h2 ω;rw[Bn h1]at hp;rw[Bn h2]at hx;cases hp;cases hx;omega);refine⟨?_,λy=>?_⟩;rw[pairwise_append];refine⟨h.up,ψ,λa ha c hc=>?_⟩;rw[De]at hc;subst hc;have:=f a ((h.mem a).1 ha);omega;rw[C4 hx,Ef,Ef,h.mem y]
theorem Asc.same{q:Nat}{l:Ag}{x:Int}(h:Asc b (q+1) l)(hp:b[q]?=some x)(hx:b[q+1]?=some x):Asc b (q+2) l:=by refine⟨h.up,λy=>?_⟩;rw[C4 hx,Ef,h.mem y];constructor;exact .inl;rintro(h1|h1);exact h1;rw[De]at h1;subst h1;rw[C4 hp];simp
theorem L0{l:Λ α}{off:Nat}{i:Int}{x:α}(hi:i=j)(e:j<n)(h:l[off+j]?=some x):Ew l off n i=some x:=by subst hi;unfold Ew;rw[Ar ω];simpa using h
theorem Bab{X:Ο (Nat×List Int)}{Q:Nat×List Int->Prop}(h:∃r,X=some r/\Q r):∃(m:Nat)(o:Ag),X=some (m,o)/\Q (m,o):=by obtain⟨⟨m,o⟩,e,i⟩:=h;exact⟨m,o,e,i⟩
theorem Bac{X:Ο (Int⊕((Nat×List Int)⊕Unit))}{P:Nat->Ag->Prop}{b:Prop}(h:∃r,X=some r/\∃(m:Nat)(o:Ag),r=.inr (.inl (m,o))/\P m o):∃e,X=some (.inr e)/\((∃(m:Nat)(o:Ag),e=.inl (m,o)/\P m o)\/(e=.inr ()/\b)):=by obtain⟨_,i,m,o,rfl,s⟩:=h;exact⟨_,i,.inl ⟨m,o,rfl,s⟩⟩
theorem Bad(b:Ag)(R:b.Pairwise (·<=·))(hl:b.length<=1099511627776):∃(m:Nat)(o:Ag),X3 b.length b=some (m,o)/\m<=o.length/\Asc b b.length (o.take m):=by
 unfold X3;by_cases F:b.length<2;rw[Al ω,Ak];refine⟨b.length,b,rfl,Nat.le_refl _,?_,λy=>Iff.rfl⟩;rw[Du];match b,F with|[],_=>simp|[_],_=>simp
 .rw[Am ω,Aj];refine Bab (Q:=λr:Nat×List Int=>r.1<=r.2.length/\Asc b b.length (r.2.take r.1)) ?_
  .refine Fz (Q:=λr:Nat×List Int=>r.1<=r.2.length/\Asc b b.length (r.2.take r.1)) (λv=>∃j:Nat,v=((j+1:Nat):Int)/\j+1<=b.length/\Asc b (j+1) (b.take (j+1))) (λv=>b.length-v.toNat) (λe:((Nat×List Int)⊕Unit)=>(∃(m:Nat)(o:Ag),e=.inl (m,o)/\m<=o.length/\Asc b b.length (o.take m))\/(e=.inr ()/\Asc b b.length (b.take b.length))) ?_ ?_ ?_ (J:=λz:((Nat×List Int)⊕Unit)=>match z with|.inl (G,E)=>some (G,E)|.inr _=>some (b.length,b))
   .exact⟨0,rfl,ω,by
     refine⟨?_,λy=>Iff.rfl⟩
     match b,F with
     |a::_,_=>simp
     |[],h=>simp at h⟩
   rintro v ⟨j,rfl,hj,N⟩;rcases Cb (j+1) b.length with h|h;have C:b[j+1]?=some b[j+1]:=Bn h;have hp:b[j]?=some b[j]:=Bn ω;generalize b[j+1]=x at C;generalize b[j]=p at hp;have X:Aa (((j+1:Nat):Int)-1)=((j:Nat):Int):=(by rw[show(((j+1:Nat):Int)-1)=(j:Int)by omega,Aa,Bm]<;>omega);simp only[Al (ω:((j+1:Nat):Int)<(b.length:Int)),Ak,L0 (l:=b) (off:=0) (n:=b.length) (i:=((j+1:Nat):Int)) rfl h (by rw[Nat.zero_add];exact C),X, L0 (l:=b) (off:=0) (n:=b.length) (i:=((j:Nat):Int)) rfl ω (by rw[Nat.zero_add];exact hp),Ac,Dd h ω];by_cases e:x=p;subst e;rw[Es rfl,Ak];have A:Hz b.length ((j+1:Nat):Int) ((b.length:Nat):Int)=some (j+1,b.length):=(by unfold Hz;rw[Ar ω];simp);rw[A,Ac];dsimp only;refine .inr ?_;refine Bac (Fz (Q:=λz:(Int⊕((Nat×List Int)⊕Unit))=>∃(m:Nat)(o:Ag),z=.inr (.inl (m,o))/\m<=o.length/\Asc b b.length (o.take m)) (λz=>∃(w k:Nat)(o:Ag),z=((w:Int),(k:Int),o)/\o.length=b.length/\w<=j+k/\1<=k/\j+1+k<=b.length/\Asc b (j+1+k) (o.take w)/\∀i,w<=i->o[i]?=b[i]?) (λz=>b.length-(j+1)-z.2.1.toNat) (λz=>∃(w k:Nat)(o:Ag),z=((w:Int),(k:Int),o)/\o.length=b.length/\w<=b.length/\Asc b b.length (o.take w)) ?_ ?_ ?_);refine⟨j+1,1,b,rfl,rfl,ω,ω,ω,?_,λ_ _=>rfl⟩;exact N.same hp C;rintro z ⟨w,k,o,rfl,D,hw,hk,Z,f,c⟩;rcases Cb (j+1+k) b.length with W|W;have H:b[j+1+k]?=some b[j+1+k]:=Bn W;have P:b[j+k]?=some b[j+k]:=Bn ω;generalize b[j+1+k]=y at H;generalize b[j+k]=q at P;have V:Aa ((k:Int)-1)=((k-1:Nat):Int):=(by rw[show((k:Int)-1)=((k-1:Nat):Int)by omega,Aa,Bm]<;>omega);have U:Aa ((k:Int)+1)=((k+1:Nat):Int):=Dd (n:=b.length) ω ω;have S:Aa ((w:Int)+1)=((w+1:Nat):Int):=Dd (n:=b.length) ω ω;have i1:Ew o (0+(j+1)) (b.length-(j+1)) (k:Int)=some y:=L0 rfl ω (by rw[Nat.zero_add,c _ ω];exact H);have i2:Ew o (0+(j+1)) (b.length-(j+1)) ((k-1:Nat):Int)=some q:=L0 rfl ω (by rw[Nat.zero_add,c _ ω,show j+1+(k-1)=j+k by omega];exact P);have I:o[w]?=some (o[w]' ω):=Bn _;have i3:Ew o 0 b.length (w:Int)=some (o[w]' ω):=L0 rfl ω (by rw[Nat.zero_add];exact I);simp only[Al (ω:(k:Int)<((b.length-(j+1):Nat):Int)),Ak,i1,i2,i3,V,U,S,Ac];by_cases e:y=q;subst e;rw[Dv rfl,Aj];refine .inl ⟨_,rfl,⟨w,k+1,o,rfl,D,ω,ω,ω,?_,c⟩,by simp only[Int.toNat_natCast];omega⟩;have:=Asc.same (q:=j+k) (x:=y) (by rw[show j+k+1=j+1+k by omega];exact f) P (by rw[show j+k+1=j+1+k by omega];exact H);rw[show j+1+(k+1)=j+k+2 by omega];exact this;rw[D5 e,Ak];have B:Cd o (((0:Nat):Int)+(w:Int)) y=o.set w y:=Ge (n:=w) ω y;have s:(o.set w y).take (w+1)=o.take w++[y]:=(by rw[C4 (x:=y) (by rw[getElem?_set,Ar rfl,Ar ω]),take_set_of_le (Nat.le_refl _)]);rw[B];refine .inl ⟨_,rfl,⟨w+1,k+1,o.set w y,rfl,by simpa using D,ω,ω,ω,?_,?_⟩,by simp only[Int.toNat_natCast];omega⟩;rw[s];have:=Asc.step R (q:=j+k) (x:=y) (p:=q) (by rw[show j+k+1=j+1+k by omega];exact f) P (by rw[show j+k+1=j+1+k by omega];exact H) e;rw[show j+1+(k+1)=j+k+2 by omega];exact this;intro i hi;rw[getElem?_set,Au ω];exact c i ω;have L:j+1+k=b.length:=ω;refine .inr ⟨((w:Int),(k:Int),o),?_,w,k,o,rfl,D,ω,by rw[<-L];exact f⟩;simp only[Am (ω:¬(k:Int)<((b.length-(j+1):Nat):Int)),Aj];rintro z ⟨w,k,o,rfl,D,hw,f⟩;dsimp only;have g:Nz b.length (w:Int)=some w:=(by unfold Nz;rw[Ar ω];simp);by_cases Y:w=0\/w<b.length;have u:H3 b.length (w:Int) ((b.length:Nat):Int)=some (.inl (w,b.length)):=(by unfold H3;rw[Ar ω,Ar ω];simp);have M:Sg o (0+w) (b.length-w) (0:Int)=some (D9 o (0+w) (replicate (b.length-w) 0)):=(by unfold Sg;rw[Ar ω]);rw[u,Ac];dsimp only;rw[M,Ac,g,Ac];have s:(D9 o (0+w) (replicate (b.length-w) (0:Int))).take w=o.take w:=(by unfold D9;rw[Nat.zero_add,append_assoc,take_append_of_le_length ζ,take_take,Nat.min_self]);refine⟨_,rfl,w,_,rfl,?_,?_⟩;unfold D9;simp;omega;rw[s];exact f;have u:H3 b.length (w:Int) ((b.length:Nat):Int)=some (.inr ()):=(by unfold H3;rw[Ar ω,Au ω]);rw[u,Ac];dsimp only;rw[g,Ac];exact⟨_,rfl,w,o,rfl,ω,f⟩;rw[Ck e,Aj];refine .inl ⟨_,rfl,⟨j+1,rfl,ω,?_⟩,by simp only[Int.toNat_natCast];omega⟩;have:=Asc.step R N hp C e;rw[<-C4 C]at this;exact this;have:j+1=b.length:=ω;refine .inr ⟨.inr (),?_,.inr ⟨rfl,by rw[<-this];exact N⟩⟩;rw[Am ω];rfl;rintro e (⟨m,o,rfl,T,F⟩|⟨rfl,T⟩);exact⟨(m,o),rfl,T,F⟩;exact⟨(b.length,b),rfl,Nat.le_refl _,T⟩
noncomputable def Zn(cmp:α->α->A5)(a0:Int):Int×List α->Ο ((Int×List α)⊕(Int×List α)):=λ(e,b)=>(show OB from bif e>a0 then((Af b e).bind λi=>(Af b (Aa (e-1))).bind λg=>(cmp i g).bind λo=>some (decide (o<(0:Int))))else some false).bind λf=>bif f then((Af b (Aa (e-1))).bind λh=>(Af b e).bind λc=>(Af b e).bind λs=>(Af (Cd b e h) (Aa (e-1))).bind λu=>some (.inl (Aa (e-1),Cd (Cd b e h) (Aa (e-1)) c)))else some (.inr (e,b))
noncomputable def Adv(cmp:α->α->A5)(a0 a1:Int)(g:Λ α):Ο (List α):=(Ao (S:=(Int×(List α))) (E:=(List α)) (λ(e,b)=>bif e<a1 then((Ao (Zn cmp a0) (e,b)).bind λ(h,f)=>some (.inl (Aa (e+1),f)))else(some (.inr b))) (Aa (a0+1),g)).bind λc=>some c
theorem Bae(A R:Λ α)(x y:α):((A++y::x::R).set (A.length+1) y).set A.length x=A++x::y::R:=by induction A with|nil=>rfl|cons a A ih=>simp only[Er,Fd,set_cons_succ,ih]
theorem Anv(A R:Λ α)(x:α):(A++x::R)[A.length]?=some x:=by simp
theorem Baf(A R:Λ α)(x y:α):(A++y::x::R)[A.length+1]?=some x:=by induction A with|nil=>rfl|cons a A ih=>simp
theorem Bag(cmp:α->α->A5)(y:α)(R:Λ α):Zn cmp 0 (0,y::R)=some (.inr (0,y::R)):=by unfold Zn;simp only[Am (ω:¬(0:Int)>0),Aj,Ac]
theorem Bah{c:α->α->Int}(i:N<=1099511627776)(A R:Λ α)(u y:α)(b:cmp u y=some (c u y))(f:(A++y::u::R).length<=N):Zn cmp 0 (((A.length+1:Nat):Int),A++y::u::R)=if c u y<0 then some (.inl ((A.length:Int),A++u::y::R))else some (.inr (((A.length+1:Nat):Int),A++y::u::R)):=by(have h:A.length+1<N:=by simp at f;omega);(have g:Aa (((A.length+1:Nat):Int)-1)=(A.length:Int):=by rw[Aa,Bm]<;>omega);unfold Zn;simp only[Al (ω:((A.length+1:Nat):Int)>0),Ak,g,B1 (n:=A.length+1) rfl (Baf A R u y),B1 (n:=A.length) rfl (Anv A (u::R) y),Ac,b];by_cases e:c u y<0;rw[Al e,Ar e];simp only[Ak];rw[Ge (n:=A.length+1) rfl,Ge (n:=A.length) rfl,Bae];have:Af ((A++y::u::R).set (A.length+1) y) (A.length:Int)=some y:=(by refine B1 rfl ?_;rw[getElem?_set_ne ω];exact Anv A (u::R) y);rw[this];rfl;rw[Am e,Au e];rfl
theorem Bai{c:α->α->Int}(q:N<=1099511627776):∀(n:Nat)(A R:Λ α)(x:α),A.length=n->(∀t∈A,cmp x t=some (c x t))->(A++x::R).length<=N->∃f i,Ao (Zn cmp 0) ((A.length:Int),A++x::R)=some ((f.length:Int),f++x::(i++R))/\A=f++i/\(∀a∈i,c x a<0)/\∀k y,f=k++[y]->¬c x y<0:=by intro n;induction n with|zero=>intro A R x g _ _;have:A=[]:=Fm.1 g;subst this;exact⟨[],[],Cr (Bag cmp x R),rfl,nofun,(λk y h=>by simp at h)⟩|succ n ih=>intro A R x g w b;(obtain⟨B,y,rfl⟩:∃B y,A=B++[y]:=by rcases eq_nil_or_concat A with h|⟨B,y,h⟩;rw[h]at g;cases g;exact⟨B,y,by simpa using h⟩);have s:B.length=n:=(by simpa using g);have D:(B++[y])++x::R=B++y::x::R:=ψ;have el:(((B++[y]).length:Nat):Int)=((B.length+1:Nat):Int):=ψ;rw[D]at b⊢;rw[el];have j:=Bah (cmp:=cmp) (c:=c) q B R x y (w y ψ) b;by_cases v:c x y<0;rw[Ar v]at j;obtain⟨f,i,C,E,F,u⟩:=ih B (y::R) x s (λt G=>w t (by simp[G])) (by simpa using b);refine⟨f,i++[y],?_,by rw[E];simp,?_,u⟩;rw[Fh j,C];simp;intro a o;rcases Ef.1 o with o|o;exact F a o;simp only[De]at o;subst o;exact v;rw[Au v]at j;refine⟨B++[y],[],?_,ψ,nofun,?_⟩;rw[Cr j];simp;intro k z l;have:=append_inj' l rfl;have e:y=z:=(by simpa using this.2);subst e;exact v
theorem Baj{c:α->α->Int}(L:Py c){f j:Λ α}{x:α}(s:(f++j).Pairwise λa b=>¬c b a<0)(u:∀a∈j,c x a<0)(v:∀g y,f=g++[y]->¬c x y<0):(f++x::j).Pairwise (λa b=>¬c b a<0):=by obtain⟨i,l,k⟩:=pairwise_append.1 s;(have w:∀a∈f,¬c x a<0:=by intro a e;rcases eq_nil_or_concat f with h|⟨g,y,h⟩;rw[h]at e;cases e;have h:f=g++[y]:=(by simpa using h);have q:=v g y h;rw[h]at e i;rcases Ef.1 e with e|e;exact L.ntr x y a q ((pairwise_append.1 i).2.2 a e y ψ);simp only[De]at e;subst e;exact q);refine pairwise_append.2 ⟨i,pairwise_cons.2 ⟨λa e h=>L.irr x (L.trs x a x (u a e) h),l⟩,λa e b o=>?_⟩;rcases Ed.1 o with rfl|o;exact w a e;exact k a e b o
theorem Awq{c:α->α->Int}(L:Py c)(f:Λ α)(A:∀x∈f,∀y∈f,cmp x y=some (c x y))(J:f.length<=1099511627776):∃R,Adv cmp 0 (f.length:Int) f=some R/\R.Perm f/\R.Pairwise (λa b=>¬c b a<0):=by
 unfold Adv;cases f with
 |nil=>refine⟨[],?_,Perm.refl _,Pairwise.nil⟩;refine Jt 0 (λ_=>((1:Int),([]:Λ α))) (by simp[Aa,Bm]) (λj P=>ω) ⟨[],?_,rfl⟩;simp
 |cons z0 B=>
 generalize k:z0::B=f at *;have e:1<=f.length:=by rw[<-k];simp
 refine Fz (λs=>∃(i:Nat)(S:Λ α),s=((i:Int),S++f.drop i)/\1<=i/\i<=f.length/\S.length=i/\S.Perm (f.take i)/\S.Pairwise λa b=>¬c b a<0) (λs=>f.length-s.1.toNat) (λR=>R.Perm f/\R.Pairwise λa b=>¬c b a<0) ⟨1,[z0],by rw[<-k];simp[Aa,Bm],ω,e,rfl,by rw[<-k];simp,pairwise_singleton _ _⟩ ?_ ?_
 .rintro _ ⟨i,S,rfl,G,Q,E,g,l⟩;rcases Cb i f.length with h|h
  .have C:f[i]?=some f[i]:=Bn h;have o:f[i]∈f:=getElem_mem h;generalize f[i]=x at C o;have D:f.drop i=x::f.drop (i+1):=J5 C;have z:(S++x::f.drop (i+1)).length=f.length:=ζ;simp only[Al (ω:(i:Int)<(f.length:Int)),Ak,Dd h ω];rw[D];left;obtain⟨u,q,v,w,F,I⟩:=Bai (cmp:=cmp) (c:=c) (N:=f.length) ω S.length S (f.drop (i+1)) x rfl (λt H=>A x o t (mem_of_mem_take (g.mem_iff.1 H))) (by rw[z];exact Nat.le_refl _);rw[E]at v;have hp:(u++x::q).Perm (f.take (i+1)):=(by rw[C4 C];have:(u++x::q).Perm ((u++q)++[x]):=(by rw[append_assoc];exact Perm.append_left u (perm_append_singleton x q).symm);exact this.trans (by rw[<-w];exact g.append_right [x]));refine⟨(((i+1:Nat):Int),(u++x::q)++f.drop (i+1)),Ct v ψ,⟨i+1,u++x::q,rfl,ω,ω,?_,hp,?_⟩,ζ⟩
   .rw[hp.length_eq,length_take];omega
   .rw[w]at l;exact Baj L l F I
  .have:i=f.length:=ω;subst this;rw[Du]at g;simp only[Am (ω:¬(f.length:Int)<(f.length:Int)),Aj,drop_length,append_nil];exact .inr ⟨S,rfl,g,l⟩
 .rintro R ⟨v,w⟩;exact⟨R,rfl,v,w⟩
noncomputable def Awr(B:Nat)(gr:Int->Ο (List α))(a0:Λ (List α)):Ο (List α):=(Ao (S:=(Int×Int)) (E:=Int) (λ(e,o)=>bif o<(a0.length:Int)then((Af a0 o).bind λs=>bif(Aa (e+(s.length:Int)))<(0:Int)then(none)else(some (.inl (Aa (e+(s.length:Int)),Aa (o+1)))))else(some (.inr e))) (0,0)).bind λu=>(gr u).bind λi=>(Ao (S:=(Int×(List α))) (E:=(List α)) (λ(b,c)=>bif b<(a0.length:Int)then((Af a0 b).bind λf=>(Cj B c f).bind λh=>some (.inl (Aa (b+1),h)))else(some (.inr c))) (0,i)).bind λg=>some g
theorem Anw{B:Nat}(g:B<=1024){gr:Int->Ο (List α)}(hg:∀n:Nat,n<=1000000->gr (n:Int)=some [])(a b:Λ α)(h:a.length+b.length<=1000000):Awr B gr [a,b]=some (a++b):=by have u:a.length*B<=1000000*1024:=Nat.mul_le_mul ω g;have v:(a.length+b.length)*B<=1000000*1024:=Nat.mul_le_mul h g;(have f:Aa 1=1:=by rw[Aa,Bm]<;>omega);(have c:Aa 2=2:=by rw[Aa,Bm]<;>omega);(have k:Aa (a.length:Int)=(a.length:Int):=by rw[Aa,Bm]<;>omega);(have i:Aa ((a.length:Int)+(b.length:Int))=((a.length:Int)+(b.length:Int)):=by rw[Aa,Bm]<;>omega);have e:Af [a,b] 0=some a:=rfl;have o:Af [a,b] 1=some b:=rfl;(have q:Cj B [] a=some a:=by rw[Di ζ];rfl);have l:Cj B a b=some (a++b):=Di ω;unfold Awr;refine Jt 2 (λj=>if j=0 then(0,0)else if j=1 then((a.length:Int),1)else(((a.length+b.length:Nat):Int),2)) rfl ?_ ⟨((a.length+b.length:Nat):Int),?_,?_⟩;intro j s;rcases(ω:j=0\/j=1)with rfl|rfl;have:¬((a.length:Int)<0):=ω;simp[e,k,f,this];have:¬((a.length:Int)+(b.length:Int)<0):=ω;simp[o,i,c,this];simp;rw[hg _ h,Ac];refine Jt 2 (λj=>if j=0 then(0,[])else if j=1 then(1,a)else(2,a++b)) rfl ?_ ⟨a++b,?_,rfl⟩;intro j s;rcases(ω:j=0\/j=1)with rfl|rfl;simp[e,f,q];simp[o,c,l];simp
def sm:Nat->(Nat->Nat)->Nat
 |0,_=>0
 |n+1,f=>sm n f+f n
theorem Adw{f g:Nat->Nat}:∀{n:Nat},(∀k,k<n->f k=g k)->sm n f=sm n g
 |0,_=>rfl
 |n+1,h=>by rw[sm,sm,Adw (n:=n) λk e=>h k ω,h n ω]
theorem Adx(f g:Nat->Nat):∀n,sm n (λk=>f k+g k)=sm n f+sm n g
 |0=>rfl
 |n+1=>by simp only[sm,Adx f g n];omega
theorem Aws(c:Nat)(f:Nat->Nat):∀n,sm n (λk=>c*f k)=c*sm n f
 |0=>rfl
 |n+1=>by simp only[sm,Aws c f n,Nat.mul_add]
theorem Ady{f:Nat->Nat}:∀{n:Nat},(∀k,k<n->f k=0)->sm n f=0
 |0,_=>rfl
 |n+1,h=>by rw[sm,Ady (n:=n) λk e=>h k ω,h n ω]
theorem Ah8(f:Nat->Nat):∀n,sm (n+1) f=f 0+sm n (λk=>f (k+1))
 |0=>by simp[sm]
 |n+1=>by rw[sm,Ah8 f n,sm];omega
theorem Awt{f:Nat->Nat}{n:Nat}:∀{m:Nat},n<=m->(∀k,n<=k->f k=0)->sm m f=sm n f
 |0,h,_=>by rw[show n=0 by omega]
 |m+1,h,b=>by by_cases e:n=m+1;rw[e];rw[sm,Awt (m:=m) ω b,b m ω,Nat.add_zero]
theorem Adz{f:Nat->Nat}(h:k<n)(b:∀j,j≠k->f j=0):sm n f=f k:=by induction n with|zero=>omega|succ n ih=>rw[sm];by_cases e:k=n;subst e;rw[Ady λj i=>b j ω,Nat.zero_add];rw[ih ω,b n ω,Nat.add_zero]
theorem Pj:∀n,bc n n=1
 |0=>rfl
 |n+1=>by
  rw[bc,Pj n]
  have:bc n (n+1)=0:=by have:=bc_big2 n (n+1) ω;exact this
  omega
where bc_big2:∀n k,n<k->bc n k=0
 |n,0,h=>absurd h ω
 |0,k+1,_=>rfl
 |n+1,k+1,h=>by rw[bc,bc_big2 n k ω,bc_big2 n (k+1) ω]
theorem Zo(h:n<k):bc n k=0:=Pj.bc_big2 n k h
theorem Zp(n k:Nat):bc (n+1) (k+1)=bc n k+bc n (k+1):=by rw[bc]
def Rc(a b k:Nat):Nat:=if b<=k then bc k a*bc a (k-b)else 0
theorem Awu{b:Nat}(h:a+b<k):Rc a b k=0:=by unfold Rc;rw[Ar ω,Zo (show a<k-b by omega),Nat.mul_zero]
theorem Awv{b:Nat}(h:k<a):Rc a b k=0:=by unfold Rc;split;rw[Zo h,Nat.zero_mul];rfl
theorem Aww(b k:Nat):Rc 0 b k=if k=b then 1 else 0:=by unfold Rc;by_cases h:k=b;subst h;rw[Ar (Nat.le_refl _),Ar rfl,Nat.sub_self,Jw,Jw];rw[Au h];split;rw[Zo (show 0<k-b by omega),Nat.mul_zero];rfl
theorem Awx(a k:Nat):Rc a 0 k=if k=a then 1 else 0:=by unfold Rc;rw[Ar (Nat.zero_le _),Nat.sub_zero];by_cases h:k=a;subst h;rw[Ar rfl,Pj];rw[Au h];rcases Cb k a with e|e;rw[Zo e,Nat.zero_mul];rw[Zo (show a<k by omega),Nat.mul_zero]
theorem Bak(a b k:Nat):Rc (a+1) (b+1) (k+1)=Rc a (b+1) k+Rc (a+1) b k+Rc a b k:=by unfold Rc;by_cases h:b<=k;rw[Ar ω,Ar h,Ar h,show k+1-(b+1)=k-b by omega,Zp];by_cases e:b+1<=k;rw[Ar e];obtain⟨j,i⟩:∃j,k-b=j+1:=⟨k-b-1,ω⟩;rw[i,show k-(b+1)=j by omega,Zp];simp only[Nat.add_mul,Nat.mul_add];omega;rw[Au e,show k-b=0 by omega,Jw,Jw];omega;rw[Au ω,Au h,Au h,Au ω]
theorem Bal(a b:Nat):Rc (a+1) (b+1) 0=0:=by unfold Rc;rw[Au ω]
theorem Bam(f:Nat->Nat)(n N:Nat):sm (N+1) (λk=>f k*bc (n+1) k)=sm (N+1) (λk=>f k*bc n k)+sm N (λk=>f (k+1)*bc n k):=by rw[Ah8,Ah8 λk=>f k*bc n k,Jw,Jw];(have:sm N (λk=>f (k+1)*bc (n+1) (k+1))=sm N (λk=>f (k+1)*bc n (k+1))+sm N (λk=>f (k+1)*bc n k):=by rw[<-Adx];exact Adw λk _=>by rw[Zp,Nat.mul_add];omega);rw[this];omega
theorem Wt:∀(n a b N:Nat),a+b<N->sm N (λk=>Rc a b k*bc n k)=bc n a*bc n b
 |n,0,b,N,h=>by rw[Jw,Nat.one_mul,Adz (k:=b) ω λj e=>by rw[Aww,Au e,Nat.zero_mul],Aww,Ar rfl,Nat.one_mul]
 |n,a+1,0,N,h=>by rw[Jw,Nat.mul_one,Adz (k:=a+1) ω λj e=>by rw[Awx,Au e,Nat.zero_mul],Awx,Ar rfl,Nat.one_mul]
 |0,a+1,b+1,N,h=>by rw[show bc 0 (a+1)=0 from rfl,Nat.zero_mul];refine Ady λk _=>?_;cases k with|zero=>rw[Bal,Nat.zero_mul]|succ k=>rw[show bc 0 (k+1)=0 from rfl,Nat.mul_zero]
 |n+1,a+1,b+1,N,h=>by obtain⟨N,rfl⟩:∃M,N=M+1:=⟨N-1,ω⟩;rw[Bam,Wt n (a+1) (b+1) (N+1) h];have i:=Wt n a (b+1) N ω;have o:=Wt n (a+1) b N ω;have s:=Wt n a b N ω;have c:sm N (λk=>Rc (a+1) (b+1) (k+1)*bc n k)=sm N (λk=>Rc a (b+1) k*bc n k)+sm N (λk=>Rc (a+1) b k*bc n k)+sm N (λk=>Rc a b k*bc n k):=(by rw[<-Adx,<-Adx];exact Adw λk _=>by rw[Bak,Nat.add_mul,Nat.add_mul]);rw[c,i,o,s,Zp,Zp,Nat.add_mul,Nat.mul_add,Nat.mul_add];omega
theorem Anx{f:Nat->Nat}(h:∀n,n<N->sm N (λk=>f k*bc n k)=sm N λk=>g k*bc n k):∀k,k<N->f k=g k:=by intro k;induction k using Nat.strongRecOn with|ind k ih=>intro s;(have i:∀F:Nat->Nat,sm N (λj=>F j*bc k j)=sm k (λj=>F j*bc k j)+F k:=by intro F;(have e:sm N (λj=>F j*bc k j)=sm (k+1) (λj=>F j*bc k j):=Awt ω λj o=>by rw[Zo ω,Nat.mul_zero]);rw[e,sm,Pj,Nat.mul_one]);have:=h k s;rw[i f,i g,Adw (f:=λj=>f j*bc k j) (g:=λj=>g j*bc k j) λj o=>by rw[ih j o ω]]at this;omega
def Ban(l:A2):Ag:=l.flatMap λa=>a.L.T.map (·.v)
def Bao(m:Aw):Ag:=m.F.map (·.v)++Ban m.A
theorem Bap(F:Λ α)(g:α->Int)(o:Ag)(h:o.length+F.length<=1000000){J:Int×List Int->Ο R}(l:J ((F.length:Int),o++F.map g)=some r):(Ao (S:=(Int×List Int)) (E:=(Int×List Int)) (λ(e,b)=>bif e<(F.length:Int)then((Af F e).bind λc=>(Cj 8 b [g c]).bind λi=>some (.inl (Aa (e+1),i)))else some (.inr (e,b))) (0,o)).bind J=some r:=by refine H5 F (λj=>((j:Int),o++(F.take j).map g)) ψ ω ?_ ?_;intro j f w k s u v;simp only[s,u,v,Ak,Ac];rw[Di ζ,C4 k];simp;intro s;exact⟨_,by simp only[s];rfl,by rw[Du];exact l⟩
theorem Baq(f:α->Ag)(l:Λ α)(j:Nat):((l.take j).flatMap f).length<=(l.flatMap f).length:=by(have:l.flatMap f=(l.take j).flatMap f++(l.drop j).flatMap f:=by rw[<-flatMap_append,take_append_drop]);rw[this,Fe];omega
theorem Bar(f:α->Ag){l:Λ α}{x:α}(h:l[j]?=some x):((l.take j).flatMap f).length+(f x).length<=(l.flatMap f).length:=by have:=Baq f l (j+1);rw[C4 h,flatMap_append]at this;simpa using this
theorem Awy:∀(k:Nat)(t:Ay),Cz t<=k->k<1099511627776->S7 k t=some t:=by intro k;induction k with|zero=>intro t h;have:=Gn t;omega|succ k ih=>intro t h u;have c:=Gn t;have b:=Od t.K;rw[S7];refine H5 t.K (λj=>((j:Int),t.K.take j)) rfl ω ?_ ?_;intro j x v e i o s;have:=Nl (B5 e);simp only[i,o,s,Ak,Ac,ih x ω ω];rw[Di ζ,Ac,C4 e];intro i;exact⟨t.K,ψ,by cases t;rfl⟩
theorem Awz(m:Aw)(b:Eo m):Yd m=some m:=by have f:=b.nf;have c:=b.na;unfold Yd;refine H5 m.F (λj=>((j:Int),m.F.take j)) rfl ω ?_ ?_;intro j x u e h i o;have s:=B5 e;have:=b.fi x s;simp only[h,i,o,Ak,Ac,Awy 4000000 x.I ω ω];rw[Di ζ,Ac,C4 e];intro h;refine⟨m.F,ψ,?_⟩;dsimp only;refine H5 m.A (λj=>((j:Int),m.A.take j)) rfl ω ?_ ?_;intro j x u e h i o;have s:=B5 e;have:=b.al x s;simp only[h,i,o,Ak,Ac,Yk];rw[Di ζ,Ac,Ac,Di ζ,Ac,C4 e];rfl;intro h;exact⟨m.A,ψ,by cases m;rfl⟩
theorem Anz(b:Λ α)(n k:Nat)(z x:α)(G:n<=b.length)(V:k<=n)(hb:n<=1000000):∃c:Λ α,((H3 (n+1) (Aa ((k:Int)+1)) (((n+1:Nat):Nat):Int)).bind λv=>match v with
    |.inl e=>(Hz (n+1) (k:Int) (((n+1:Nat):Nat):Int)).bind λf=>(Ln (D9 b n [z]) (0+e.1) (e.2-e.1) (0+f.1) (f.2-f.1)).bind λl=>some l
    |.inr _=>(Hz (n+1) (k:Int) (((n+1:Nat):Nat):Int)).bind λw=>some (D9 b n [z]))=some c/\c.length=max b.length (n+1)/\(c.set k x).take (n+1)=(b.take n).take k++x::(b.take n).drop k:=by
 have g:(D9 b n [z]).length=max b.length (n+1):=by rw[Pr G];rfl
 have s:∀i,i<n->(D9 b n [z])[i]?=b[i]?:=λi o=>by rw[Uj G,Ar o]
 have D:Aa ((k:Int)+1)=((k+1:Nat):Int):=Dd (n:=n+1) ω ω;have u:Hz (n+1) (k:Int) (((n+1:Nat):Nat):Int)=some (k,n+1):=by unfold Hz;rw[Ar ω];simp
 have C:∃c:Λ α,((H3 (n+1) (Aa ((k:Int)+1)) (((n+1:Nat):Nat):Int)).bind λv=>
    match v with
    |.inl e=>(Hz (n+1) (k:Int) (((n+1:Nat):Nat):Int)).bind λf=>(Ln (D9 b n [z]) (0+e.1) (e.2-e.1) (0+f.1) (f.2-f.1)).bind λl=>some l
    |.inr _=>(Hz (n+1) (k:Int) (((n+1:Nat):Nat):Int)).bind λw=>some (D9 b n [z]))=some c/\c.length=max b.length (n+1)/\(∀i,i<k->c[i]?=b[i]?)/\∀i,k<=i->i<n->c[i+1]?=b[i]?:=by
  rw[D,u];by_cases E:k<n
  .have q:H3 (n+1) ((k+1:Nat):Int) (((n+1:Nat):Nat):Int)=some (.inl (k+1,n+1)):=(by unfold H3;rw[Ar ω,Ar ω];simp);rw[q,Ac];dsimp only;have A:Ln (D9 b n [z]) (0+(k+1)) (n+1-(k+1)) (0+k) (n+1-k)=some (D9 (D9 b n [z]) (0+(k+1)) (((D9 b n [z]).drop (0+k)).take (min (n+1-k) (n+1-(k+1))))):=(by unfold Ln;rw[Ar ω]);rw[Ac];dsimp only;rw[A,Ac];have H:(((D9 b n [z]).drop (0+k)).take (min (n+1-k) (n+1-(k+1)))).length=n-k:=(by rw[length_take,length_drop,g];omega);refine⟨_,rfl,?_,λi o=>?_,λi o h=>?_⟩
   .rw[Pr (by rw[g];omega),g,H];omega
   .rw[Uj (by rw[g];omega),Ar ω,s i ω]
   .rw[Uj (by rw[g];omega),Au ω,Ar (by rw[H];omega),getElem?_take,Ar ω,getElem?_drop,show 0+k+(i+1-(0+(k+1)))=i by omega,s i h]
  .have B:k=n:=ω;have q:H3 (n+1) ((k+1:Nat):Int) (((n+1:Nat):Nat):Int)=some (.inr ()):=(by unfold H3;rw[Ar ω,Au ω]);rw[q,Ac];dsimp only;rw[Ac];exact⟨_,rfl,g,λi o=>s i ω,λi o h=>ω⟩
 obtain⟨c,J,P,Q,S⟩:=C;refine⟨c,J,P,?_⟩;have y:((b.take n).take k).length=k:=by rw[length_take,length_take];omega
 apply ext_getElem?;intro i;rw[getElem?_take,getElem?_set];by_cases I:i<k
 .rw[Ar ω,Au ω,Q i I,getElem?_append_left ω,getElem?_take,Ar I,getElem?_take,Ar ω]
 .rw[getElem?_append_right ω,y];by_cases T:i=k
  .subst T;rw[Ar ω,Ar rfl,Ar ω,Nat.sub_self];rfl
  .obtain⟨j,U⟩:∃j,i=j+1:=⟨i-1,ω⟩;subst U;rw[show j+1-k=(j-k)+1 by omega,getElem?_cons_succ,getElem?_drop,show k+(j-k)=j by omega,getElem?_take];by_cases F:j<n
   .rw[Ar ω,Au ω,S j ω F,Ar F]
   .rw[Au ω,Au F]
theorem Aw0(c:Nat)(b:Λ α)(n k:Nat)(G:n<=b.length)(H:k<n)(hb:(b.length+n)*c<=140737488355328)(q:n<=1000000):∃o:Λ α,((H3 n (Aa ((k:Int)+1)) ((n:Nat):Int)).bind λw=>match w with|.inl e=>(Uv c b k (0+e.1) (e.2-e.1)).bind λu=>some (u.2,u.1)|.inr _=>(M2 c b k []).bind λv=>some (v.2,v.1))=some (n-1,o)/\n-1<=o.length/\o.length<=b.length/\o.take (n-1)=(b.take n).take k++(b.take n).drop (k+1):=by have l:Aa ((k:Int)+1)=((k+1:Nat):Int):=Dd (n:=n+1) ω ω;rw[l];by_cases h:k+1<n;have f:H3 n ((k+1:Nat):Int) ((n:Nat):Int)=some (.inl (k+1,n)):=(by unfold H3;rw[Ar ω,Ar ω];simp);rw[f,Ac];dsimp only;have C:Uv c b k (0+(k+1)) (n-(k+1))=some (D9 b k ((b.drop (0+(k+1))).take (n-(k+1))),k+(n-(k+1))):=(by unfold Uv;rw[Ar ⟨ω,ω,Nat.le_trans (Nat.mul_le_mul_right _ ω) hb⟩]);rw[C,Ac];have D:((b.drop (0+(k+1))).take (n-(k+1))).length=n-(k+1):=(by rw[length_take,length_drop];omega);refine⟨_,by rw[show k+(n-(k+1))=n-1 by omega],?_,?_,?_⟩;rw[Pr ω,D];omega;rw[Pr ω,D];omega;have j:((b.take n).take k).length=k:=(by rw[length_take,length_take];omega);apply ext_getElem?;intro i;rw[getElem?_take];by_cases E:i<k;rw[Ar ω,Uj ω,Ar E,getElem?_append_left ω,getElem?_take,Ar E,getElem?_take,Ar ω];rw[getElem?_append_right ω,j,getElem?_drop,getElem?_take];by_cases F:i<n-1;rw[Ar F,Uj ω,Au E,Ar (by rw[D];omega),getElem?_take,Ar ω,getElem?_drop,Ar ω,show 0+(k+1)+(i-k)=k+1+(i-k)by omega];rw[Au F,Au ω];have s:k+1=n:=ω;have f:H3 n ((k+1:Nat):Int) ((n:Nat):Int)=some (.inr ()):=(by unfold H3;rw[Ar ω,Au ω]);rw[f,Ac];dsimp only;have C:M2 c b k []=some (D9 b k [],k):=(by unfold M2;rw[Ar ⟨ω,Nat.le_trans (Nat.mul_le_mul_right _ ψ) hb⟩];rfl);rw[C,Ac];have g:D9 b k []=b:=(by unfold D9;simp);rw[g];refine⟨b,by rw[show n-1=k by omega],ω,Nat.le_refl _,?_⟩;have:(b.take n).drop (k+1)=[]:=(by rw[List.drop_eq_nil_iff,length_take];omega);rw[this,append_nil,take_take,show min k n=n-1 by omega]
theorem Bas(a:Nat)(h:a<1099511627776):G0 .i64 (Aa (a:Int)) 2=some ((a/2:Nat):Int):=by(have e:Aa (a:Int)=(a:Int):=by rw[Aa,Bm]<;>omega);rw[e];unfold G0;rw[Au δ,Int.tdiv_eq_ediv_of_nonneg ω,show((a:Int)/2)=((a/2:Nat):Int)from rfl,Bm ω ω]
theorem Bat(b:Ad)(n:Nat)(m:Aw)(hn:n<=b.length)(R:(b.take n).Pairwise ltT)(N:∀t∈b.take n,Eo t.M)(hb:n<=1000000):∃k:Nat,k<=n/\(∀(i:Nat)(t:Ae),i<k->(b.take n)[i]?=some t->Dn t.M m<0)/\(∀(i:Nat)(t:Ae),k<=i->(b.take n)[i]?=some t->0<=Dn t.M m)/\Ao (S:=(Int×Int)) (E:=Int) (λ(y,z)=>bif y<z then((G0 .i64 (Aa (y+z)) 2).bind λv=>(Ew b 0 n v).bind λF=>(N2 F.M m).bind λA=>bif A<(0:Int)then some (.inl (Aa (v+1),z))else some (.inl (y,v)))else some (.inr y)) (0,((n:Nat):Int))=some (k:Int):=by(have L:(b.take n).length=n:=by rw[length_take];omega);(have I:∀i,i<n->(b.take n)[i]?=b[i]?:=λi T=>by rw[getElem?_take,Ar T]);(have D:∀(i j:Nat)(t u:Ae),i<j->(b.take n)[i]?=some t->(b.take n)[j]?=some u->Dn t.M u.M<0:=λi j t u G o H=>by have w:=D8 o;have C:=D8 H;have:=(pairwise_iff_getElem.1 R) i j w C G;rw[Bn w]at o;rw[Bn C]at H;cases o;cases H;exact this);obtain⟨e,w,k,C,W,V,U⟩:=Jh (step:=(λ(y,z)=>bif y<z then((G0 .i64 (Aa (y+z)) 2).bind λv=>(Ew b 0 n v).bind λF=>(N2 F.M m).bind λA=>bif A<(0:Int)then some (.inl (Aa (v+1),z))else some (.inl (y,v)))else some (.inr y):Int×Int->Ο ((Int×Int)⊕Int))) (λs=>∃i j:Nat,s=((i:Int),(j:Int))/\i<=j/\j<=n/\(∀(q:Nat)(t:Ae),q<i->(b.take n)[q]?=some t->Dn t.M m<0)/\(∀(q:Nat)(t:Ae),j<=q->(b.take n)[q]?=some t->0<=Dn t.M m)) (λs=>s.2.toNat-s.1.toNat) (λe=>∃k:Nat,e=(k:Int)/\k<=n/\(∀(i:Nat)(t:Ae),i<k->(b.take n)[i]?=some t->Dn t.M m<0)/\(∀(i:Nat)(t:Ae),k<=i->(b.take n)[i]?=some t->0<=Dn t.M m)) (by rintro s ⟨i,j,rfl,G,Q,w,C⟩;rcases Cb i j with h|h;obtain⟨c,X⟩:∃c:Nat,c=(i+j)/2:=⟨_,rfl⟩;have P:b[c]?=some (b[c]' ω):=Bn _;generalize b[c]'_=x at P;have f:(b.take n)[c]?=some x:=(by rw[I c ω];exact P);have J:=N x (B5 f);have M:((i:Int)+(j:Int))=((i+j:Nat):Int):=ω;simp only[Al (ω:(i:Int)<(j:Int)),Ak,M,Bas (i+j) ω,<-X,Ac,L0 (l:=b) (off:=0) (n:=n) (i:=(c:Int)) rfl ω (by rw[Nat.zero_add];exact P),Ade x.M m J];by_cases e:Dn x.M m<0;rw[Al e,Ak,Dd (n:=n) ω ω];refine .inl ⟨_,rfl,⟨c+1,j,rfl,ω,Q,λq t hq o=>?_,C⟩,by simp only[Int.toNat_natCast];omega⟩;by_cases B:q=c;subst B;rw[f]at o;cases o;exact e;exact T3 (D q c t x ω o f) e;rw[Am e,Aj];refine .inl ⟨_,rfl,⟨i,c,rfl,ω,ω,w,λq t hq o=>?_⟩,by simp only[Int.toNat_natCast];omega⟩;by_cases B:q=c;subst B;rw[f]at o;cases o;omega;have g:=D c q x t ω f o;refine Classical.byContradiction λhc=>?_;exact e (T3 g ω);have:i=j:=ω;subst this;exact .inr ⟨(i:Int),by simp only[Am (ω:¬(i:Int)<(i:Int)),Aj],i,rfl,Q,w,C⟩) (0,((n:Nat):Int)) ⟨0,n,rfl,ω,Nat.le_refl _,λq t h=>ω,λq t h o=>by have:=D8 o;omega⟩;subst C;exact⟨k,W,V,U,w⟩
theorem Zq(x:Rat):Jv x=0↔x=0:=by unfold Jv;constructor;intro h;split at h;cases h;split at h;cases h;grind;rintro rfl;rw[Au (by grind),Au (by grind)]
theorem Aw1(L:Ad)(k:Nat)(m:Aw):cf L m=cf (L.take k) m+cf (L.drop k) m:=by rw[<-Mp,take_append_drop]
theorem CP.insert{x:Ae}(h:CP L)(h1:∀(i:Nat)(t:Ae),i<k->L[i]?=some t->Dn t.M x.M<0)(h2:∀(i:Nat)(t:Ae),k<=i->L[i]?=some t->Dn x.M t.M<0)(h3:Ij x.C)(f:rq x.C≠0):CP (L.take k++x::L.drop k):=by refine⟨?_,λt e=>?_⟩;rw[pairwise_append];refine⟨h.srt.sublist (List.take_sublist _ _),?_,?_⟩;rw[pairwise_cons];refine⟨λt e=>?_,h.srt.sublist (drop_sublist _ _)⟩;obtain⟨i,hi⟩:=Fo e;rw[getElem?_drop]at hi;exact h2 (k+i) t ω hi;intro a ha c hc;obtain⟨i,hi⟩:=Fo ha;rw[getElem?_take]at hi;split at hi;rename_i b;rcases Ed.1 hc with rfl|hc;exact h1 i a b hi;obtain⟨j,o⟩:=Fo hc;rw[getElem?_drop]at o;have s:=D8 hi;have u:=D8 o;have:=(pairwise_iff_getElem.1 h.srt) i (k+j) s u ω;rw[Bn s]at hi;rw[Bn u]at o;cases hi;cases o;exact this;cases hi;rw[Ef,Ed]at e;rcases e with e|rfl|e;exact h.coe t (mem_of_mem_take e);exact⟨h3,f⟩;exact h.coe t (mem_of_mem_drop e)
theorem CP.remove(k:Nat)(h:CP L):CP (L.take k++L.drop (k+1)):=by
 have b:(L.take k++L.drop (k+1)).Sublist L:=by
  have:L=L.take k++L.drop k:=(take_append_drop k L).symm
  conv=>rhs;rw[this]
  refine List.Sublist.append (List.Sublist.refl _) ?_
  rw[show k+1=k+1 from rfl,<-drop_drop]
  exact drop_sublist _ _
 exact⟨h.srt.sublist b,λt e=>h.coe t (b.subset e)⟩
open Classical in
theorem Bau(L:Ad)(k:Nat)(x:Ae)(m:Aw):cf (L.take k++x::L.drop k) m=cf L m+(if x.M=m then rq x.C else 0):=by rw[Mp,Nq,Aw1 L k m];grind
theorem Bav(h:L[k]?=some t):L.drop k=t::L.drop (k+1):=by have e:=D8 h;rw[drop_eq_getElem_cons e];rw[Bn e]at h;cases h;rfl
open Classical in
theorem Baw{L:Ad}{k:Nat}{t:Ae}(h:L[k]?=some t)(m:Aw):cf (L.take k++L.drop (k+1)) m=cf L m-(if t.M=m then rq t.C else 0):=by rw[Mp,Aw1 L k m,Bav h,Nq];grind
structure PSt(K:Nat)(n:Nat)(b:List Ae):Prop where
 le:n<=b.length
 cp:CP (b.take n)
 tm:∀t∈b.take n,RB K t.C/\Eo t.M
open Classical in
theorem Rz{K kc:Nat}{n:Nat}{b:Ad}(h:PSt K n b){m:Aw}{c:An}(hc:RB kc c)(hm:Eo m)(hK:K+kc+3<30000000000)(hb:b.length<=100000):∃(n':Nat)(o:Ad),Jl n m c b=some (n',o)/\o.length<=b.length+1/\PSt (K+kc+3) n' o/\∀C,cf (o.take n') C=cf (b.take n) C+(if m=C then rq c else 0):=by obtain⟨k,k1,k2,k3,k4⟩:=Bat b n m h.le h.cp.srt (λt D=>(h.tm t D).2) (by have:=h.le;omega);(have b4:(b.take n).length=n:=by rw[length_take];have:=h.le;omega);(have H:∀i,i<n->(b.take n)[i]?=b[i]?:=λi I=>by rw[getElem?_take,Ar I]);have b5:=h.le;unfold Jl;rw[k4,Ac];by_cases V:∃t,k<n/\(b.take n)[k]?=some t/\Dn t.M m=0;obtain⟨t,J,W,h3⟩:=V;have P:=h.tm t (B5 W);have X:t.M=m:=Hj.1 h3;have a0:b[k]?=some t:=(by rw[<-H k J];exact W);have a1:Ew b 0 n (k:Int)=some t:=L0 rfl J (by rw[Nat.zero_add];exact a0);obtain⟨s,s1,s2,s3,s4,s5⟩:=Am7 P.1 hc ω ω;have E:Cd b (((0:Nat):Int)+(k:Int)) (Ae.mk s t.M)=b.set k ⟨s,t.M⟩:=Ge (n:=k) ω _;have a7:(b.set k ⟨s,t.M⟩)[k]?=some ⟨s,t.M⟩:=(by rw[getElem?_set,Ar rfl,Ar (D8 a0)]);have Q:Ew (b.set k ⟨s,t.M⟩) 0 n (k:Int)=some ⟨s,t.M⟩:=L0 rfl J (by rw[Nat.zero_add];exact a7);simp only[Al (ω:(k:Int)<(n:Int)),Ak,a1,Ac,Ade t.M m P.2,Es h3,s2,E,Q,(Oh s3 ω).2];have F:(b.set k ⟨s,t.M⟩).take n=(b.take n).set k ⟨s,t.M⟩:=(by rw[List.take_set]);have S:(b.set k ⟨s,t.M⟩).length=b.length:=length_set;by_cases G:rq s=0;rw[Es ((Zq _).2 G),Ak];have a2:Nz n (k:Int)=some k:=(by unfold Nz;rw[Ar ω];simp);rw[a2,Ac];obtain⟨o,d1,d2,d3,d4⟩:=Aw0 104 (b.set k ⟨s,t.M⟩) n k ω J (by rw[S];omega) ω;have a8:(b.set k ⟨s,t.M⟩).take n=(b.take n).set k ⟨s,t.M⟩:=F;have a9:((b.take n).set k ⟨s,t.M⟩).take k++((b.take n).set k ⟨s,t.M⟩).drop (k+1)=(b.take n).take k++(b.take n).drop (k+1):=(by rw[take_set_of_le (Nat.le_refl _),drop_set_of_lt ω]);rw[a8,a9]at d4;refine⟨n-1,o,d1,ω,⟨d2,by rw[d4];exact h.cp.remove k,λu v=>?_⟩,λC=>?_⟩;rw[d4,Ef]at v;(have a3:u∈b.take n:=by rcases v with v|v;exact mem_of_mem_take v;exact mem_of_mem_drop v);exact⟨((h.tm u a3).1).mono ω,(h.tm u a3).2⟩;rw[d4,Baw W C,X];by_cases e:m=C;rw[Ar e,Ar e];have:rq c = - rq t.C:=(by rw[s5]at G;grind);rw[this];grind;rw[Au e,Au e];grind;rw[Ck λe=>G ((Zq _).1 e),Aj];refine⟨n,b.set k ⟨s,t.M⟩,rfl,ω,⟨ω,?_,λu v=>?_⟩,λC=>?_⟩;rw[F];refine⟨?_,λu v=>?_⟩;rw[pairwise_iff_getElem];intro i j I hj b0;(have g:∀(q:Nat)(hq:q<((b.take n).set k ⟨s,t.M⟩).length),(((b.take n).set k ⟨s,t.M⟩)[q]).M=((b.take n)[q]'(by rw[length_set]at hq;exact hq)).M:=by intro q hq;rw[List.getElem_set];split;rename_i e;subst e;have:=Bn (l:=b.take n) (i:=k) ω;rw[W]at this;rw[<-Fv this];rfl);unfold ltT;rw[g i I,g j hj];exact(pairwise_iff_getElem.1 h.cp.srt) i j _ _ b0;rcases mem_or_eq_of_mem_set v with v|rfl;exact h.cp.coe u v;exact⟨s4,G⟩;rw[F]at v;rcases mem_or_eq_of_mem_set v with v|rfl;exact⟨((h.tm u v).1).mono ω,(h.tm u v).2⟩;exact⟨s3,P.2⟩;rw[F,Anq (u:=⟨s,t.M⟩) W rfl C,X];by_cases e:m=C;rw[Ar e,Ar e];show cf (b.take n) C+(rq s-rq t.C)=_;rw[s5];grind;rw[Au e,Au e];have T:∀t,(b.take n)[k]?=some t->Dn t.M m≠0:=λt D e=>V ⟨t,by have:=D8 D;omega,D,e⟩;(have hq:(bif decide ((k:Int)<(n:Int))then(Ew b 0 n (k:Int)).bind λb1=>(N2 b1.M m).bind λb2=>some (b2==0)else some false)=some false:=by by_cases J:k<n;have U:b[k]?=some (b[k]' ω):=Bn _;generalize b[k]'_=x at U;have a4:(b.take n)[k]?=some x:=(by rw[H k J];exact U);rw[Al (ω:(k:Int)<(n:Int)),Ak,L0 (l:=b) (off:=0) (n:=n) (i:=(k:Int)) rfl J (by rw[Nat.zero_add];exact U),Ac,Ade x.M m (h.tm x (B5 a4)).2,Ac,Ck (T x a4)];rw[Am ω];rfl);erw[hq];simp only[Ac,Aj,(Oh hc ω).2];by_cases G:rq c=0;rw[Es ((Zq _).2 G),Ak];refine⟨n,b,rfl,ω,⟨h.le,h.cp,λu v=>⟨((h.tm u v).1).mono ω,(h.tm u v).2⟩⟩,λC=>?_⟩;rw[G];split<;>grind;rw[Ck λe=>G ((Zq _).1 e),Aj];have b3:M2 104 b n [Ae.mk (An.mk false [] []) (Aw.mk [] [])]=some (D9 b n [Ae.mk (An.mk false [] []) (Aw.mk [] [])],n+1):=(by unfold M2;rw[Ar ⟨h.le,ζ⟩];rfl);rw[b3,Ac];dsimp only;obtain⟨cc,c1,c2,c3,c4,c5⟩:=Avs hc ω;obtain⟨w,g1,g2,g3⟩:=Anz b n k (Ae.mk (An.mk false [] []) (Aw.mk [] [])) ⟨cc,m⟩ h.le k1 ω;erw[g1];rw[Ac,c2,Ac,Awz m hm,Ac];have a5:w[k]?=some (w[k]' ω):=Bn _;rw[L0 (l:=w) (off:=0) (n:=n+1) (i:=(k:Int)) rfl ω (by rw[Nat.zero_add];exact a5),Ac];have E:Cd w (((0:Nat):Int)+(k:Int)) (Ae.mk cc m)=w.set k ⟨cc,m⟩:=Ge (n:=k) ω _;rw[E];refine⟨n+1,w.set k ⟨cc,m⟩,rfl,by rw[length_set];omega,⟨by rw[length_set];omega,?_,λu v=>?_⟩,λC=>?_⟩;rw[g3];refine h.cp.insert (λi t I D=>k2 i t I D) (λi t I D=>?_) c3 (by rw[c4];exact G);have g:=k3 i t I D;(have b6:Dn t.M m≠0:=by by_cases e:i=k;subst e;exact T t D;have a6:=D8 D;have U:(b.take n)[k]?=some ((b.take n)[k]' ω):=Bn _;have g5:=k3 k _ (Nat.le_refl _) U;have g6:=T _ U;have g7:=(pairwise_iff_getElem.1 h.cp.srt) k i ω a6 ω;rw[Bn a6]at D;cases D;intro e2;have:=Hj.1 e2;unfold ltT at g7;rw[this]at g7;omega);show Dn m t.M<0;rw[Wp t.M m];omega;rw[g3,Ef,Ed]at v;rcases v with v|rfl|v;have:=h.tm u (mem_of_mem_take v);exact⟨this.1.mono ω,this.2⟩;exact⟨c5.mono ω,hm⟩;have:=h.tm u (mem_of_mem_drop v);exact⟨this.1.mono ω,this.2⟩;rw[g3,Bau,c4]
theorem PSt.mono{c:Nat}{b:Ad}(h:PSt K n b)(f:K<=c):PSt c n b:=⟨h.le,h.cp,λt e=>⟨((h.tm t e).1).mono f,(h.tm t e).2⟩⟩
open Classical in
theorem Bax{I:Nat}(p q:Ad)(c:An)(hl:p.length<=1000)(J:q.length<=1000)(hp:∀t∈p,RB 1048576 t.C/\Eo t.M)(P:∀t∈q,RB 1048576 t.C/\Eo t.M)(Q:RB I c)(S:I<=1048576):∃r,U1 p q c=some r/\(CP r/\(∀m,cf r m=cf p m+rq c*cf q m)/\r.length<=p.length+q.length/\∀t∈r,RB ((p.length+q.length)*2097200) t.C/\Eo t.M):=by unfold U1;refine Fz (λs=>∃(n j:Nat)(b:Ad),s=(n,(j:Int),b)/\j<=p.length/\b.length<=j/\PSt (j*2097200) n b/\∀m,cf (b.take n) m=cf (p.take j) m) (λs=>p.length-s.2.1.toNat) (λe=>∃(n:Nat)(b:Ad),e=(n,b)/\b.length<=p.length/\PSt (p.length*2097200) n b/\∀m,cf (b.take n) m=cf p m) ⟨0,0,[],rfl,ω,ψ,⟨ψ,by simpa using CP.nil,λt T=>by simp at T⟩,λm=>rfl⟩ ?_ ?_;rintro s ⟨n,j,b,rfl,U,C,u,i⟩;rcases Cb j p.length with h|h;have v:p[j]?=some p[j]:=Bn h;generalize p[j]=t at v;obtain⟨t1,t2⟩:=hp t (B5 v);obtain⟨D,o,E,V,F,G⟩:=Rz u t1 t2 ω ω;simp only[Al (ω:(j:Int)<(p.length:Int)),Ak,B1 rfl v,Ac,E,Dd h ω];refine .inl ⟨_,rfl,⟨D,j+1,o,rfl,ω,ω,F.mono ω,λm=>?_⟩,by simp only[Int.toNat_natCast];omega⟩;rw[G m,i m,C4 v,Mp,Nq];show _=_+(_+(0:Rat));grind;have:j=p.length:=ω;subst this;rw[Du]at i;exact .inr ⟨(n,b),by simp only[Am (ω:¬(p.length:Int)<(p.length:Int)),Aj],n,b,rfl,C,u,i⟩;rintro e ⟨W,X,rfl,a0,H,w⟩;dsimp only;refine Fz (λs=>∃(n j:Nat)(b:Ad),s=(n,(j:Int),b)/\j<=q.length/\b.length<=p.length+j/\PSt ((p.length+j)*2097200) n b/\∀m,cf (b.take n) m=cf p m+rq c*cf (q.take j) m) (λs=>q.length-s.2.1.toNat) (λe=>∃(n:Nat)(b:Ad),e=(n,b)/\b.length<=p.length+q.length/\PSt ((p.length+q.length)*2097200) n b/\∀m,cf (b.take n) m=cf p m+rq c*cf q m) ⟨W,0,X,rfl,ω,ω,by simpa using H,λm=>by rw[w m];show _=_+rq c*(0:Rat);grind⟩ ?_ ?_;rintro s ⟨n,j,b,rfl,U,C,u,i⟩;rcases Cb j q.length with h|h;have v:q[j]?=some q[j]:=Bn h;generalize q[j]=t at v;obtain⟨t1,t2⟩:=P t (B5 v);obtain⟨d,d1,d2,d3,d4,d5⟩:=Wo Q t1 ω δ;obtain⟨D,o,E,V,F,G⟩:=Rz u d3 t2 ω ω;simp only[Al (ω:(j:Int)<(q.length:Int)),Ak,B1 rfl v,Ac,d2,E,Dd h ω];refine .inl ⟨_,rfl,⟨D,j+1,o,rfl,ω,ω,F.mono ω,λm=>?_⟩,by simp only[Int.toNat_natCast];omega⟩;rw[G m,i m,C4 v,Mp,Nq,d5];show _=_+rq c*(_+(_+(0:Rat)));split<;>grind;have:j=q.length:=ω;subst this;rw[Du]at i;exact .inr ⟨(n,b),by simp only[Am (ω:¬(q.length:Int)<(q.length:Int)),Aj],n,b,rfl,C,u,i⟩;rintro e ⟨n,b,rfl,C,u,i⟩;refine⟨b.take n,?_,u.cp,i,by rw[length_take];omega,u.tm⟩;show(Ji b n).bind _=_;unfold Ji;rw[Ar u.le];rfl
theorem Bay:∃r,I6 (-1)=some r/\RB 1 r/\rq r = -1:=by refine⟨_,Ty (-1) δ δ,?_,?_⟩;exact Jb _ _ _ 1 (J2 δ) (J2 δ) ω;rw[No _ _ _ δ];decide
theorem CP.dst(h:CP p):Dst p:=h.srt.imp λ{a b} i e=>by unfold ltT at i;rw[Hj.2 e]at i;omega
theorem Aw2:Py (λt u:Ae=>Dn t.M u.M) where
 irr x:=by
  show ¬Dn x.M x.M<0
  rw[Ana];omega
 trs x y z h e:=T3 h e
 ntr x y z h e:=by
  show ¬Dn x.M z.M<0
  have h:¬Dn x.M y.M<0:=h
  have e:¬Dn y.M z.M<0:=e
  intro i
  rcases Int.lt_trichotomy (Dn x.M y.M) 0 with k|k|k
  .exact h k
  .rw[Hj.1 k]at i;exact e i
  .exact e (T3 (Anb.1 k) i)
def Ah9(b:Ad):Ad:=b.mergeSort λt u=>decide (Dn t.M u.M<=0)
theorem Aw3(b:Ad):(Ah9 b).Perm b:=mergeSort_perm _ _
theorem Baz(f:Ad)(s:Dst f):(Ah9 f).Pairwise ltT:=by have i:=pairwise_mergeSort (le:=λt u:Ae=>decide (Dn t.M u.M<=0)) (λa b c i o=>by simp only[Eh]at *;have:=Aw2.ntr c b a (by show ¬Dn _ _<0;rw[Wp];omega) (by show ¬Dn _ _<0;rw[Wp];omega);have this:¬Dn c.M a.M<0:=this;rw[Wp]at this;omega) (λa b=>by simp only[Bool.or_eq_true,Eh];rw[Wp a.M b.M];omega) f;have o:(Ah9 f).Pairwise λt u=>t.M≠u.M:=((Aw3 f).pairwise_iff λ{x y} h=>h.symm).2 s;refine(i.and o).imp λ{t u} h=>?_;have a:=of_decide_eq_true h.1;have b:Dn t.M u.M≠0:=λe=>h.2 (Hj.1 e);unfold ltT;omega
theorem An0(b:Ad)(s:Dst b)(o:∀t∈b,Eo t.M):∃R,Q7 b=some R/\R.Perm b/\R.Pairwise ltT:=by rcases Cb 12 b.length with h|h;have e:Nat.ble b.length 12=false:=(by cases k:Nat.ble b.length 12 with|false=>rfl|true=>have:=Nat.le_of_ble_eq_true k;omega);unfold Q7;rw[e,Aj];obtain⟨r,f,i,w,C,hp,g⟩:=A3z (cmp:=Q8) (l:=b) (r:=Ah9 b) ⟨_,Aw2,λx D y _=>Anr x y (o x D),Aw3 b,Baz b s⟩;refine⟨r,f,hp,?_⟩;refine(Pairwise.imp_of_mem (S:=ltT) (λ{t u} v E h=>?_) g);have c:=C t (hp.mem_iff.1 v) u (hp.mem_iff.1 E);rw[Anr t u (o t (hp.mem_iff.1 v))]at c;have c:=Fv c;unfold ltT;rw[c];exact h;exact A9v b s o h
theorem An1(i:CSz x){ps:K3}(c:∀p∈ps,∀t∈p,TSz t)(j:ps.length<=1048576)(h:F1 x/\∀p∈ps,Kg x.D x.V x.E p=true):∃b,M7 x ps=some (.inl (true,x,b,[],x.D,x.V,x.E.G,x.E.U,x.E.R))/\Fa x.D x.V x.E b:=by obtain⟨r,g,f⟩:=Awm x i ps c j;(rcases f with⟨_,b,e,o⟩|⟨s,_⟩);exact⟨b,by rw[g,e],o⟩;exact(s h).elim
structure PR(x:A8)(n:Nat)(f:Aw->Rat)(R:List Ae):Prop where
 cp:CP R
 val:∀m,cf R m=f m
 tb:∀t∈R,D0 x t.M/\RB 8589934592 t.C
 len:R.length<=n
theorem Aw4{ts:Ad}(h:Col k (D0 x) ts)(v:k<8589934592)(o:ts.length<=1000):∃R,M9 (Ff ts) ts=some (R,0)/\PR x ts.length (cf ts) R:=by obtain⟨R,j,i,g,b,f⟩:=Ans (P:=D0 x) (λm h=>h.cmo) (Ff ts) ts h ω o λc _ s u=>An0 c s u;exact⟨R,j,i,g,λt e=>⟨(b t e).1,(b t e).2.mono ω⟩,f⟩
theorem PR.of{m:Nat}{f g:Aw->Rat}{R:Ad}(h:PR x n f R)(hn:n<=m)(b:∀a,f a=g a):PR x m g R:=⟨h.cp,λa=>by rw[h.val,b],h.tb,Nat.le_trans h.len hn⟩
theorem An2(I:CSz x)(J:F1 x)(hp:Ha x p)(C:Ha x q)(L:p.length+q.length<=1000):∃R,M6 x p q=some (R,0)/\PR x (p.length+q.length) (λm=>cf p m-cf q m) R:=by obtain⟨M,F⟩:=Awn I J hp C;unfold M6;rw[F];simp only[Ac,Ds,Aj,M8];obtain⟨u,l,j,i,g⟩:=Zm (k0:=1048579) (k:=1048576) (P:=D0 x) (λm h=>h.cmo) p [] (Col.nil _ _) hp.tb ω ω ζ;simp at i;obtain⟨r,B,A,z⟩:=A93;obtain⟨G,E,c,D,b⟩:=Awo (k:=1048576) q A (λt o=>(C.tb t o).1) ω ω ω;obtain⟨v,f,H,T,Q⟩:=Zm (k:=1048579) (P:=D0 x) (λm h=>h.cmo) G u j (λt o=>⟨(b t o).1,by obtain⟨w,S,e⟩:=(b t o).2;rw[<-e];exact(C.tb w S).2⟩) ω (by rw[c];omega) ω;obtain⟨R,y,s⟩:=Aw4 H (by rw[c];omega) ω;rw[show L8 p [] []=some (Ff u,u)from l,Ac,B,Ac,E,Ac,f,Ac,y,Ac];exact⟨R,rfl,s.of ω λm=>by rw[Q,g,D,z];simp only[cf];grind⟩
theorem Aw5(u:CSz x)(z:F1 x)(hp:Ha x p){r:An}(y:RB 1048576 r)(A:p.length<=1000):∃R,Sl x p r=some (R,0)/\PR x p.length (λm=>rq r*cf p m) R:=by obtain⟨B,D,_⟩:=An1 u (ps:=[p]) (λq o=>by simp only[De]at o;subst o;exact hp.sz) ψ ⟨z,λq o=>by simp only[De]at o;subst o;exact hp.can⟩;unfold Sl;rw[D];simp only[Ac,Ds,Aj,M8];obtain⟨f,s,c,l,b⟩:=Awo (k:=1048576) p y (λt C=>(hp.tb t C).1) ω ω ω;obtain⟨v,g,E,F,G⟩:=Zm (k0:=1048576+1048576+2) (k:=1048576+1048576+2) (P:=D0 x) (λm h=>h.cmo) f [] (Col.nil _ _) (λt C=>⟨(b t C).1,by obtain⟨w,H,e⟩:=(b t C).2;rw[<-e];exact(hp.tb w H).2⟩) ω (by rw[c];omega) ζ;simp at F;obtain⟨R,j,i⟩:=Aw4 E (by rw[c];omega) ω;rw[s,Ac,show L8 f [] []=some (Ff v,v)from g,Ac,j,Ac];exact⟨R,rfl,i.of ω λm=>by rw[G,l];simp only[cf];grind⟩
theorem Aw6(hp:Ha x p)(o:Ha x q){c:An}{b:Nat}(s:RB b c)(u:b<=1048576)(k:p.length+q.length<=1000):∃R,U1 p q c=some R/\P4 R=some (R,0)/\CP R/\∀m,cf R m=cf p m+rq c*cf q m:=by obtain⟨R,h,g,f,j,i⟩:=Bax p q c ω ω (λt e=>⟨(hp.tb t e).1,(hp.sz t e).mo⟩) (λt e=>⟨(o.tb t e).1,(o.sz t e).mo⟩) s u;refine⟨R,h,?_,g,f⟩;unfold P4;rw[Am ω];rfl
theorem Ha.nil(x:A8):Ha x []:=⟨Adm.2 ⟨ψ,CP.nil,λt e=>by cases e⟩,λt e=>by cases e⟩
def R0(Δ:A0)(t:Ai)(c:Int):A1:=match Iz Δ t c with|some ts=>ts|none=>[]
theorem An3:∀n k,bc n k<=n^k
 |n,0=>by rw[Jw];exact Nat.le_refl _
 |0,k+1=>by simp[bc]
 |n+1,k+1=>by have h:=An3 n k;have i:=An3 n (k+1);have e:n^k<=(n+1)^k:=Nat.pow_le_pow_left ω k;have b:n^(k+1)<=n*(n+1)^k:=(by rw[Nat.pow_succ,Nat.mul_comm];exact Nat.mul_le_mul_left _ e);rw[bc,Nat.pow_succ,Nat.mul_add,Nat.mul_one,Nat.mul_comm];omega
def pdg(Δ:A0)(t:Ai)(e:Ay):Nat:=match Dx Δ e.K (R0 Δ t e.U)with|some a=>a|none=>0
def pds(Δ:A0)(t:Ai)(es:Bg):Nat:=(es.map (pdg Δ t)).sum
theorem Wu(Δ:A0):∀(es:Bg)(t:Ai)(d:Nat),I0 Δ es t=some d->d=es.length+pds Δ t es/\∀e∈es,∃ts,Iz Δ t e.U=some ts/\Dx Δ e.K ts=some (pdg Δ t e)
 |[],t,d,h=>by simp only[I0,Option.some.injEq]at h;subst h;exact⟨rfl,λe v=>by cases v⟩
 |e::es,t,d,h=>by rw[Adb]at h;cases i:Iz Δ t e.U with|none=>rw[i]at h;cases h|some ts=>rw[i,Ac]at h;cases o:Dx Δ e.K ts with|none=>rw[o]at h;cases h|some a=>rw[o,Ac]at h;cases s:I0 Δ es t with|none=>rw[s]at h;cases h|some b=>rw[s]at h;have h:1+a+b=d:=Fv h;obtain⟨C,w⟩:=Wu Δ es t b s;have hp:pdg Δ t e=a:=(by unfold pdg R0;rw[i];simp only[o]);refine⟨by unfold pds at *;simp only[map_cons,sum_cons,Fd,hp];omega,λx u=>?_⟩;rcases Ed.1 u with rfl|u;exact⟨ts,i,by rw[hp];exact o⟩;exact w x u
def Sm(a:Nat):Prop:=a<=5000^6
theorem Sm.of(h:a<=5000^d)(hd:d<=6):Sm a:=Nat.le_trans h (Nat.pow_le_pow_right δ hd)
def Big:Nat:=1000000000^100
structure Np(x:An)(a:Nat):Prop where
 rb:RB 200 x
 s:sv x=false
 n:nv x=a
 d:dv x=1
theorem An4(h:a<Big):Bp a<=100:=J2 h
theorem Np.cR(h:Bp a<=200):Np (cR a) a:=⟨Ry h δ,(Anu a).1,(Anu a).2.1,(Anu a).2.2⟩
theorem Np.c(h:a<Big):Np (Ab.cR a) a:=Np.cR (by have:=An4 h;omega)
theorem Np.z:Np ⟨false,[],[]⟩ 0:=⟨A8u 200,by unfold sv;simp,by unfold nv;simp[Ap],by unfold dv;simp[Ap]⟩
theorem Np.add{x:An}{b:Nat}(hx:Np x a)(hy:Np y b):Q6 x y=some (Ab.cR (a+b)):=by rw[Amy _ _ 200 200 hx.rb hy.rb ω ω,hx.s,hx.n,hx.d,hy.s,hy.n,hy.d];simp[K0,I1,Ab.cR]
theorem Np.mul{x:An}{b:Nat}(hx:Np x a)(hy:Np y b):Ir x y=some (Ab.cR (a*b)):=by rw[Adi _ _ 200 200 hx.rb hy.rb ω ω,hx.s,hx.n,hx.d,hy.s,hy.n,hy.d];simp[Ab.cR]
theorem Np.sign{x:An}(hx:Np x a):I7 x=some (if a=0 then 0 else 1):=by rw[Amw _ 200 hx.rb ω,hx.s,hx.n];simp[Kz]
theorem Np.can{x:An}(hx:Np x a):P7 x=some (Ab.cR a):=by rw[Ahp _ 200 hx.rb ω,hx.s,hx.n,hx.d];rfl
def Ls(n:Nat)(f:Nat->Nat):Bi:=(range n).map λk=>cR (f k)
theorem Nr(n:Nat)(f:Nat->Nat):(Ls n f).length=n:=by simp[Ls]
theorem Mr(f:Nat->Nat)(h:k<n):(Ls n f)[k]?=some (cR (f k)):=by simp[Ls,h]
theorem Ad0{l:Bi}{f:Nat->Nat}(b:l.length=n)(h:∀k,k<n->l[k]?=some (cR (f k))):l=Ls n f:=by apply ext_getElem?;intro k;rcases Cb k n with e|e;rw[h k e,Mr f e];rw[Tk ω,Tk (by rw[Nr];omega)]
theorem Aia{step:Int×List α->Ο ((Int×List α)⊕List α)}{J:Λ α->Ο R}{i:Nat}(o:Λ α)(g:Nat->α)(hi:i<=n)(E:o.length=n)(l:∀(j:Nat)(o':Λ α),i<=j->j<n->o'.length=n->step ((j:Int),o')=some (.inl (((j+1:Nat):Int),o'.set j (g j))))(F:∀o',o'.length=n->step ((n:Int),o')=some (.inr o'))(x:∀o',o'.length=n->(∀k,k<i->o'[k]?=o[k]?)->(∀k,i<=k->k<n->o'[k]?=some (g k))->J o'=some r):(Ao step ((i:Int),o)).bind J=some r:=by obtain⟨e,y,f⟩:=Jh (step:=step) (λs=>∃(j:Nat)(o':Λ α),s=((j:Int),o')/\i<=j/\j<=n/\o'.length=n/\(∀k,k<i->o'[k]?=o[k]?)/\∀k,i<=k->k<j->o'[k]?=some (g k)) (λs=>n-s.1.toNat) (λo'=>o'.length=n/\(∀k,k<i->o'[k]?=o[k]?)/\∀k,i<=k->k<n->o'[k]?=some (g k)) (by rintro _ ⟨j,o',rfl,c,u,v,w,C⟩;rcases Cb j n with h|h;refine .inl ⟨_,l j o' c h v,⟨j+1,o'.set j (g j),rfl,ω,ω,by simp[v],λk G=>?_,λk b q=>?_⟩,ζ⟩;rw[getElem?_set_ne ω];exact w k G;rcases Cb k j with D|D;rw[getElem?_set_ne ω];exact C k b D;have:k=j:=ω;subst this;rw[getElem?_set_self ω];have:j=n:=ω;subst this;exact .inr ⟨o',F o' v,v,w,C⟩) ((i:Int),o) ⟨i,o,rfl,ω,hi,E,λ_ _=>rfl,λk v w=>ω⟩;rw[y,Ac];exact x e f.1 f.2.1 f.2.2
theorem Ba0(n:Nat)(C:n<=1000):Acn (n:Int)=some (Ls n λ_=>0):=by unfold Acn;rw[Lu rfl rfl (Nat.le_refl _) ω ω,Ac];refine Aia (i:=0) (n:=n) _ (λ_=>cR 0) ω ψ ?_ ?_ ?_;intro j e _ s o;have u:e[j]?=some e[j]:=Bn ω;simp only[length_replicate,Al (ω:(j:Int)<(n:Int)),Ak,A94,Ac,B1 rfl u,Dd s ω,Ge (n:=j) rfl];intro e h;simp only[length_replicate,Am (ω:¬(n:Int)<(n:Int)),Aj];intro e v _ o;rw[Ad0 v (f:=λ_=>0) λk w=>o k ω w]
theorem Aw7(n k:Nat)(e:n<1000000000)(i:k<=64):Agi (n:Int) (k:Int)=some (cR (bc n k)):=by(have h:Yt (n:Int) (k:Int)=some (cR (bc n k)):=by rw[Avj n k e i,Adt,show Bj false (E8 k*bc n k) (E8 k)=Bj false (E8 k*bc n k) (E8 k*1)by rw[Nat.mul_one],Ph _ _ _ _ (Wk k)];rfl);exact h
theorem Aw8(h:n<=40):bc n k<Big:=by refine Nat.lt_of_le_of_lt (Adu n k) ?_;exact Nat.lt_of_le_of_lt (Nat.pow_le_pow_right δ h) δ
theorem Ba1(a b:Nat)(E:a<=16)(hb:b<=16):Yu (a:Int) (b:Int)=some (Ls (a+b+1) (Rc a b)):=by unfold Yu;(have q:Aa ((a:Int)+(b:Int))=((a+b:Nat):Int):=by rw[Aa,Bm]<;>omega);(have l:Aa (((a+b:Nat):Int)+1)=((a+b+1:Nat):Int):=by rw[Aa,Bm]<;>omega);(have e:(if(b:Int)>(a:Int)then(b:Int)else(a:Int))=((max a b:Nat):Int):=by split<;>omega);rw[q,l,Ba0 _ ω,Ac,e];refine Aia (i:=max a b) (n:=a+b+1) _ (λk=>cR (Rc a b k)) ω (by simp[Nr]) ?_ ?_ ?_;intro j o v u w;have D:o[j]?=some o[j]:=Bn ω;have g:Aa ((j:Int)-(b:Int))=((j-b:Nat):Int):=ξ;have s:Rc a b j=bc j a*bc a (j-b):=(by unfold Rc;rw[Ar ω]);simp only[Al (ω:(j:Int)<=((a+b:Nat):Int)),Ak,Aw7 j a ω ω,g,Aw7 a (j-b) ω ω,Ac,(Np.c (Aw8 (ω:j<=40))).mul (Np.c (Aw8 (k:=j-b) (ω:a<=40))),B1 rfl D,Dd u ω,Ge (n:=j) rfl,s];intro o h;simp only[Am (ω:¬((a+b+1:Nat):Int)<=((a+b:Nat):Int)),Aj];intro o v u w;rw[Ad0 v (f:=Rc a b) λk C=>?_];rcases Cb k (max a b)with h|h;rw[u k h,Mr _ C];(have:Rc a b k=0:=by rcases(ω:k<a\/k<b)with h|h;exact Awv h;unfold Rc;rw[Au ω]);rw[this];exact w k h C
theorem Ba2{m:Nat}{f:Nat->Nat}{c:Nat}(I:m<=1000)(J:n<=1000)(A:∀k,k<m->f k<Big)(hg:∀k,k<n->g k<Big)(v:c<Big):Vr (Ls m f) (Ls n g) (cR c)=some (Ls (max m n) λk=>(if k<m then f k else 0)+(if k<n then g k else 0)*c):=by unfold Vr;rw[Nr,Nr];(have e:(if(n:Int)>(m:Int)then(n:Int)else(m:Int))=((max m n:Nat):Int):=by split<;>omega);rw[e,Lu rfl rfl (Nat.le_refl _) ω ω,Ac];refine Aia (i:=0) (n:=max m n) _ (λk=>cR ((if k<m then f k else 0)+(if k<n then g k else 0)*c)) ω ψ ?_ ?_ ?_;intro j o _ C w;have D:o[j]?=some o[j]:=Bn ω;(obtain⟨x,u,s⟩:∃x:An,(bif decide ((j:Int)<(m:Int))then((Af (Ls m f) (j:Int)).bind λb=>some (b.N,b.U,b.B))else some (false,[],[]))=some (x.N,x.U,x.B)/\Np x (if j<m then f j else 0):=by by_cases h:j<m;rw[Al ω,Ak,B1 rfl (Mr f h),Ar h];exact⟨_,rfl,Np.c (A j h)⟩;rw[Am ω,Aj,Au h];exact⟨⟨false,[],[]⟩,rfl,Np.z⟩);(obtain⟨y,q,l⟩:∃x:An,(bif decide ((j:Int)<(n:Int))then((Af (Ls n g) (j:Int)).bind λb=>some (b.N,b.U,b.B))else some (false,[],[]))=some (x.N,x.U,x.B)/\Np x (if j<n then g j else 0)/\(if j<n then g j else 0)<Big:=by by_cases h:j<n;rw[Al ω,Ak,B1 rfl (Mr g h),Ar h];exact⟨_,rfl,Np.c (hg j h),hg j h⟩;rw[Am ω,Aj,Au h];exact⟨⟨false,[],[]⟩,rfl,Np.z,δ⟩);have E:Bp ((if j<n then g j else 0)*c)<=200:=(by have:=Hn (if j<n then g j else 0) c;have:=An4 l.2;have:=An4 v;omega);have F:Ace x y (cR c)=some (cR ((if j<m then f j else 0)+(if j<n then g j else 0)*c)):=(by unfold Ace;rw[(Np.c v).mul l.1,Ac,Nat.mul_comm c,s.add (Np.cR E)];rfl);simp only[length_replicate,Al (ω:(j:Int)<((max m n:Nat):Int)),Ak];erw[u,Ac,q,Ac];dsimp only;rw[F,Ac,B1 rfl D,Ac,Dd C ω,Ge (n:=j) rfl];intro o h;simp only[length_replicate,Am (ω:¬((max m n:Nat):Int)<((max m n:Nat):Int)),Aj];intro o G _ w;rw[Ad0 G (f:=λk=>(if k<m then f k else 0)+(if k<n then g k else 0)*c) λk H=>w k ω H]
theorem An5{p:Bi}{f:Nat->Nat}(E:n<1000)(s:p.length=n+1)(hp:∀k,k<n+1->∃x,p[k]?=some x/\Np x (f k))(b:f n≠0):Qd p=some (Ls (n+1) f):=by unfold Qd;obtain⟨x,q,l⟩:=hp n ω;(have w:Aa (((n+1:Nat):Int)-1)=(n:Int):=by rw[Aa,Bm]<;>omega);refine Ct (a:=((n+1:Nat):Int)) (Cr ?_) ?_;rw[s];simp only[Al (ω:((n+1:Nat):Int)>0),Ak,w,B1 rfl q,Ac,l.sign,Au b];rfl;rw[Lu rfl rfl (Nat.le_refl _) ω ω,Ac];refine Aia (i:=0) (n:=n+1) _ (λk=>cR (f k)) ω ψ ?_ ?_ ?_;intro j e _ o u;have v:e[j]?=some e[j]:=Bn ω;obtain⟨y,g,c⟩:=hp j o;simp only[length_replicate,Al (ω:(j:Int)<((n+1:Nat):Int)),Ak,B1 rfl g,c.can,Ac,B1 rfl v,Dd o ω,Ge (n:=j) rfl];intro e h;simp only[length_replicate,Am (ω:¬((n+1:Nat):Int)<((n+1:Nat):Int)),Aj];intro e C _ u;rw[Ad0 C (f:=f) λk D=>u k ω D]
def H6(n d:Nat)(f:Nat->Nat)(k:Nat):Nat:=sm n λa=>f a*Rc a d k
theorem Aw9(a d:Nat):0<Rc a d (a+d):=by unfold Rc;rw[Ar ω,show a+d-d=a by omega,Pj];(have:0<bc (a+d) a:=by(have h:∀d,0<bc (a+d) a:=by intro d;induction d with|zero=>rw[Nat.add_zero,Pj];decide|succ d ih=>cases a with|zero=>rw[Jw];decide|succ a=>rw[show a+1+(d+1)=(a+1+d)+1 by omega,Zp];omega);exact h d);omega
theorem Ba3{f:Nat->Nat}{p q:Bi}(a1:n+d<=12)(hp:p=Ls (n+1) f)(i:f n≠0)(hq:q.length=d+1)(R:∀k,k<d+1->∃x,q[k]?=some x/\Np x (if k=d then 1 else 0))(U:∀k,k<n+1->f k<Big)(Y:∀a k,a<=n+1->H6 a d f k<Big):Ab7 p q=some (Ls (n+d+1) (H6 (n+1) d f),true):=by
 unfold Ab7;(have l:p.length=n+1:=by rw[hp,Nr]);rw[l,hq,Am ω,Am ω];simp only[Aj,Ac];have c1:Qd p=some (Ls (n+1) f):=An5 ω l (λk o=>⟨_,by rw[hp];exact Mr f o,Np.c (U k o)⟩) i;have c2:Qd q=some (Ls (d+1) λk=>if k=d then 1 else 0):=An5 ω hq R ψ;(have w:Aa (((n+1:Nat):Int)+((d+1:Nat):Int))=((n+d+2:Nat):Int):=by rw[Aa,Bm]<;>omega);rw[c1,Ac,c2,Ac,Nr,Nr,Ck ω,Ck ω];simp only[Aj,Ac];rw[w,Am ω,Aj]
 obtain⟨r,r1,Z⟩:=Fz (J:=λB=>(Qd B).bind λA=>some (A,true)) (Q:=λr=>r=(Ls (n+d+1) (H6 (n+1) d f),true)) (step:=λ(x:List An×Int)=>match x with
  |(H,C)=>
   bif C<((n+1:Nat):Int)then(
   (Af (Ls (n+1) f) C).bind λM=>
   (Ao (S:=(List An×Int)) (E:=(List An×Int)) (λ(g,v)=>
   bif v<((d+1:Nat):Int)then(
   (Af (Ls (d+1) λk=>if k=d then 1 else 0) v).bind λI=>
   (Ir M I).bind λP=>
   (I7 P).bind λG=>
   bif(G==(0:Int))then(
   some (.inl (g,Aa (v+1)))
   )
   else(
   (Yu C v).bind λD=>
   (Vr g D P).bind λa0=>
   some (.inl (a0,Aa (v+1)))
   )
   )
   else(
   some (.inr (g,v))
   )
    ) (H,0)).bind λ(a2,a3)=>
   some (.inl (a2,Aa (C+1)))
   )
   else(
   some (.inr H)
   )) (s:=([],0))
  (λs=>∃(a L:Nat)(h:Nat->Nat),s=(Ls L h,(a:Int))/\a<=n+1/\L<=a+d/\(∀k,(if k<L then h k else 0)=H6 a d f k)/\(a=n+1->L=n+d+1)) (λs=>n+1-s.2.toNat)
  (λe=>e=Ls (n+d+1) (H6 (n+1) d f)) ⟨0,0,λ_=>0,rfl,ω,ω,λk=>by simp[H6,sm],ω⟩ (by
  rintro _ ⟨a,L,h,rfl,ha,hL,z,y⟩
  rcases Cb a (n+1)with F|F
  .left
   have N:Np (cR 0) 0:=Np.c δ
   have b:∀k,H6 (a+1) d f k=H6 a d f k+f a*Rc a d k:=λk=>rfl
   have hh:∀k,k<L->h k<Big:=λk o=>by
    have:=z k
    rw[Ar o]at this
    rw[this];exact Y a k ω
   by_cases W:f a=0
   .refine⟨(Ls L h,((a+1:Nat):Int)),?_,⟨a+1,L,h,rfl,ω,ω,λk=>by rw[b,W,z];simp,λe=>?_⟩,ζ⟩
    .simp only[Al (ω:(a:Int)<((n+1:Nat):Int)),Ak,B1 rfl (Mr f F),Ac,W]
     refine Jt (d+1) (λj=>(Ls L h,(j:Int))) rfl ?_ ⟨(Ls L h,((d+1:Nat):Int)),?_,?_⟩
     .intro j T
      have hy:Np (cR (if j=d then 1 else 0)) (if j=d then 1 else 0):=Np.c (by split<;>decide)
      simp only[Al (ω:(j:Int)<((d+1:Nat):Int)),Ak,B1 rfl (Mr _ T),Ac,N.mul hy,Nat.zero_mul,N.sign,if_true,Dd T ω]
      rfl
     .simp only[Am (ω:¬((d+1:Nat):Int)<((d+1:Nat):Int)),Aj]
     .rw[Dd F ω]
    .have:a=n:=ω
     subst this;exact(i W).elim
   .have u:=Np.c (U a F)
    have V:Vr (Ls L h) (Ls (a+d+1) (Rc a d)) (cR (f a))=some (Ls (a+d+1) λk=>(if k<L then h k else 0)+(if k<a+d+1 then Rc a d k else 0)*f a):=by
     rw[Ba2 ω ω hh (λk o=>?_) (U a F),show max L (a+d+1)=a+d+1 by omega]
     unfold Rc
     split
     .refine Nat.lt_of_le_of_lt (Nat.mul_le_mul (Adu k a) (Adu a (k-d))) ?_
      rw[<-Nat.pow_add]
      exact Nat.lt_of_le_of_lt (Nat.pow_le_pow_right δ (ω:k+a<=40)) δ
     .decide
    refine⟨(Ls (a+d+1) λk=>(if k<L then h k else 0)+(if k<a+d+1 then Rc a d k else 0)*f a,((a+1:Nat):Int)),?_,⟨a+1,a+d+1,_,rfl,ω,ω,λk=>?_,λe=>ω⟩,ζ⟩
    .simp only[Al (ω:(a:Int)<((n+1:Nat):Int)),Ak,B1 rfl (Mr f F),Ac]
     refine Jt (d+1) (λj=>if j<=d then(Ls L h,(j:Int))else(Ls (a+d+1) λk=>(if k<L then h k else 0)+(if k<a+d+1 then Rc a d k else 0)*f a,(j:Int))) ψ ?_ ⟨((Ls (a+d+1) λk=>(if k<L then h k else 0)+(if k<a+d+1 then Rc a d k else 0)*f a),((d+1:Nat):Int)),?_,?_⟩
     .intro j T
      have hy:Np (cR (if j=d then 1 else 0)) (if j=d then 1 else 0):=Np.c (by split<;>decide)
      rw[Ar ω]
      simp only[Al (ω:(j:Int)<((d+1:Nat):Int)),Ak,B1 rfl (Mr _ T),Ac,u.mul hy,Dd T ω]
      rcases Cb j d with h2|h2
      .rw[Au (ω:¬j=d),Nat.mul_zero,N.sign,Ac,Ar (ω:j+1<=d)]
       rfl
      .have:j=d:=ω
       subst this
       rw[Ar rfl,Nat.mul_one,u.sign,Ac,Au W,Ba1 a j ω ω,Ac,V,Au ω]
       rfl
     .rw[Au ω]
      simp only[Am (ω:¬((d+1:Nat):Int)<((d+1:Nat):Int)),Aj]
     .rw[Dd F ω]
    .rw[b,<-z]
     by_cases o:k<a+d+1
     .rw[Ar o,Ar o,Nat.mul_comm (Rc a d k)]
     .rw[Au o,Au ω,Awu ω];simp
  .have:a=n+1:=ω
   subst this
   right
   have X:=y rfl
   refine⟨Ls L h,?_,?_⟩
   .simp only[Am (ω:¬((n+1:Nat):Int)<((n+1:Nat):Int)),Aj]
   .subst X
    refine Ad0 (Nr _ _) λk o=>?_
    have:=z k
    rw[Ar o]at this
    rw[Mr _ o,this]) (by
  rintro _ rfl
  refine⟨_,Ct (An5 (n:=n+d) (f:=H6 (n+1) d f) ω (Nr _ _) (λk o=>⟨_,Mr _ o,Np.c (Y _ _ ω)⟩) ?_) rfl,rfl⟩
  have e:H6 (n+1) d f (n+d)=H6 n d f (n+d)+f n*Rc n d (n+d):=rfl
  have:=Nat.mul_pos (Nat.pos_of_ne_zero i) (Aw9 n d)
  omega)
 rw[<-Z];exact r1
theorem Ba4(d x N:Nat)(f:Nat->Nat):∀M,(∀a,a<M->a+d<N)->sm N (λk=>H6 M d f k*bc x k)=sm M (λa=>f a*bc x a)*bc x d:=by intro M;induction M with|zero=>intro _;rw[Ady (λk _=>by simp[H6,sm])];simp[sm]|succ M ih=>intro h;(have e:∀k,H6 (M+1) d f k*bc x k=H6 M d f k*bc x k+f M*(Rc M d k*bc x k):=λk=>by show(H6 M d f k+f M*Rc M d k)*bc x k=_;rw[Nat.add_mul,Nat.mul_assoc]);rw[Adw λk _=>e k,Adx,ih λa i=>h a ω,Aws,Wt x M d N (h M ω)];show _=(sm M (λa=>f a*bc x a)+f M*bc x M)*bc x d;rw[Nat.add_mul,Nat.mul_assoc (f M)]
theorem Ba5(d:Nat)(f:Nat->Nat)(k:Nat):∀{m n:Nat},m<=n->H6 m d f k<=H6 n d f k:=by intro m n h;induction n with|zero=>have:m=0:=ω;subst this;exact Nat.le_refl _|succ n ih=>rcases Cb m (n+1)with i|i;have:=ih ω;have e:H6 (n+1) d f k=H6 n d f k+f n*Rc n d k:=rfl;omega;have:m=n+1:=ω;subst this;exact Nat.le_refl _
def Fq(x:Nat):A2->Nat
 |[]=>1
 |a::l=>bc x a.P.toNat*Fq x l
def Bw:A2->Nat
 |[]=>0
 |a::l=>a.P.toNat+Bw l
theorem Axa(x:Nat)(l m:A2):Fq x (l++m)=Fq x l*Fq x m:=by induction l with|nil=>simp[Fq]|cons a l ih=>simp only[Er,Fq,ih,Nat.mul_assoc]
theorem Oj(l m:A2):Bw (l++m)=Bw l+Bw m:=by induction l with|nil=>simp[Bw]|cons a l ih=>simp only[Er,Bw,ih,Nat.add_assoc]
theorem An6(x:Nat)(h:l.Perm m):Fq x l=Fq x m:=by induction h with|nil=>rfl|cons a _ ih=>simp only[Fq,ih]|swap a b l=>simp only[Fq];rw[<-Nat.mul_assoc,<-Nat.mul_assoc,Nat.mul_comm (bc x b.P.toNat)]|trans _ _ e i=>exact e.trans i
theorem Pk(h:l.Perm m):Bw l=Bw m:=by induction h with|nil=>rfl|cons a _ ih=>simp only[Bw,ih]|swap a b l=>simp only[Bw];omega|trans _ _ e i=>exact e.trans i
theorem Ba6(x d:Nat):bc x d<=(x+1)^d:=Nat.le_trans (An3 x d) (Nat.pow_le_pow_left ω d)
theorem Axb(x:Nat):∀l:A2,Fq x l<=(x+1)^Bw l
 |[]=>by simp[Fq,Bw]
 |a::l=>by simp only[Fq,Bw,Nat.pow_add];exact Nat.mul_le_mul (Ba6 x _) (Axb x l)
theorem Wv{x:Nat}(h:x<=1048576)(e:Bw l<=12):Fq x l<Big:=by refine Nat.lt_of_le_of_lt (Axb x l) ?_;refine Nat.lt_of_le_of_lt (Nat.pow_le_pow_left (ω:x+1<=1048577) _) ?_;exact Nat.lt_of_le_of_lt (Nat.pow_le_pow_right δ e) δ
def PwN(l:A2)(N:Nat)(f:Nat->Nat):Prop:=N=Bw l/\f N≠0/\∀x,sm (N+1) (λk=>f k*bc x k)=Fq x l
theorem PwN.le{f:Nat->Nat}(h:PwN l N f)(hk:k<N+1):f k<=Fq k l:=by have h1:=h.2.2 k;(have h2:f k*bc k k<=sm (N+1) (λj=>f j*bc k j):=by(have:∀n,k<n->f k*bc k k<=sm n (λj=>f j*bc k j):=by intro n;induction n with|zero=>intro h;omega|succ n ih=>intro h;show _<=sm n _+f n*bc k n;rcases Cb k n with h'|h';have:=ih h';omega;have:k=n:=ω;subst this;omega);exact this _ hk);rw[Pj,Nat.mul_one]at h2;omega
theorem PwN.uniq{f:Nat->Nat}(h:PwN l N f)(h':PwN m M g)(hp:l.Perm m):N=M/\∀k,k<N+1->f k=g k:=by(have e:N=M:=by rw[h.1,h'.1,Pk hp]);subst e;exact⟨rfl,Anx λn _=>by rw[h.2.2 n,h'.2.2 n,An6 n hp]⟩
theorem PwN.step{f:Nat->Nat}(h:PwN l N f)(a:A6):PwN (l++[a]) (N+a.P.toNat) (H6 (N+1) a.P.toNat f):=by refine⟨by rw[Oj,h.1];simp[Bw],?_,λx=>?_⟩;have e:H6 (N+1) a.P.toNat f (N+a.P.toNat)=H6 N a.P.toNat f (N+a.P.toNat)+f N*Rc N a.P.toNat (N+a.P.toNat):=rfl;have:=Nat.mul_pos (Nat.pos_of_ne_zero h.2.1) (Aw9 N a.P.toNat);omega;rw[Ba4 _ x _ f (N+1) λb ha=>ω,h.2.2 x,Axa];simp[Fq]
theorem Ba7(l:A2)(x:l≠[])(F:∀a∈l,a.L.T.length≠0)(H:∀a∈l,0<=a.P)(L:Bw l<=12)(M:l.length<=1000):∃N f,Qc l=some (Ls (N+1) f)/\PwN l N f:=by(have P:Agl l=false:=by cases l with|nil=>exact(x rfl).elim|cons a J=>have:=F a ψ;show(a.L.T.length==0)=false;simpa using this);(have Q:∃N f,Agk l=some (Ls (N+1) f)/\PwN l N f:=by unfold Agk;rw[T6,Ac];(suffices h:∃r,_/\∃N f,r=Ls (N+1) f/\PwN l N f by obtain⟨r,E,N,f,D,B⟩:=h;exact⟨N,f,by rw[<-D];exact E,B⟩);refine Fz (λs=>∃(i N:Nat)(f:Nat->Nat),s=(Ls (N+1) f,(i:Int))/\i<=l.length/\PwN (l.take i) N f) (λs=>l.length-s.2.toNat) (λe=>∃N f,e=Ls (N+1) f/\PwN l N f) ⟨0,0,λ_=>1,rfl,ω,by simp[PwN,Bw,Fq,sm,Jw]⟩ ?_ ?_;rintro _ ⟨i,N,f,rfl,X,g⟩;rcases Cb i l.length with h|h;left;have v:l[i]?=some l[i]:=Bn h;have b:=getElem_mem h;generalize l[i]=a at v b;have R:=F a b;have I:=H a b;have A:Bw l=Bw (l.take i)+(a.P.toNat+Bw (l.drop (i+1))):=(by have:=Oj (l.take i) (l.drop i);rw[take_append_drop]at this;rw[this,J5 v];rfl);have S:=g.1;have w:Aa (a.P+1)=((a.P.toNat+1:Nat):Int):=ξ;have G:Af (replicate (a.P.toNat+1) (⟨false,[],[]⟩:An)) a.P=some ⟨false,[],[]⟩:=B1 (n:=a.P.toNat) ω ψ;have u:=g.step a;(have T:∀y k,y<=N+1->H6 y a.P.toNat f k<Big:=by intro y k C;refine Nat.lt_of_le_of_lt (Ba5 _ f k C) ?_;rcases Cb k (N+a.P.toNat+1)with o|o;refine Nat.lt_of_le_of_lt (u.le o) (Wv ω ?_);rw[Oj];simp only[Bw];omega;(have:H6 (N+1) a.P.toNat f k=0:=Ady λj hj=>by rw[Awu ω];rfl);rw[this];decide);have U:=Ba3 (n:=N) (d:=a.P.toNat) (f:=f) (p:=Ls (N+1) f) (q:=Cd (replicate (a.P.toNat+1) ⟨false,[],[]⟩) a.P (cR 1)) ω rfl g.2.1 (by rw[Ge (n:=a.P.toNat) ω];simp) (λk o=>by rw[Ge (n:=a.P.toNat) ω];by_cases e:k=a.P.toNat;subst e;rw[Ar rfl];exact⟨_,getElem?_set_self ψ,Np.c δ⟩;rw[Au e,getElem?_set_ne ω];exact⟨⟨false,[],[]⟩,by simp[o],Np.z⟩) (λk o=>Nat.lt_of_le_of_lt (g.le o) (Wv ω ω)) T;refine⟨(Ls (N+a.P.toNat+1) (H6 (N+1) a.P.toNat f),((i+1:Nat):Int)),?_,⟨i+1,_,_,rfl,ω,by rw[C4 v];exact u⟩,ζ⟩;simp only[Al (ω:(i:Int)<(l.length:Int)),Ak,B1 rfl v,Ac,Ck (ω:¬(a.L.T.length:Int)=0),Aj,w,Lu rfl rfl (Nat.le_refl _) (ω:56*(a.P.toNat+1)<=281474976710656) ω,T6,G,U,Dd h ω];have:i=l.length:=ω;subst this;rw[Du]at g;right;exact⟨_,by simp only[Am (ω:¬(l.length:Int)<(l.length:Int)),Aj],_,_,rfl,g⟩;rintro _ ⟨N,f,rfl,h⟩;exact⟨_,rfl,N,f,rfl,h⟩);obtain⟨N,f,V,W⟩:=Q;refine⟨N,f,?_,W⟩;unfold Qc;rw[P,Aj];exact V
theorem Ba8{c:Int}{d:Int}(i:c<=1048576)(o:0<=d)(b:d<=64):Rl c d=some (cR (bc c.toNat d.toNat),true):=by have h:=A96 c.toNat d.toNat ω ω;have e:((d.toNat:Nat):Int)=d:=ω;rw[e]at h;rw[<-h];unfold Rl;(have f:(if c>(0:Int)then c else 0)=(if((c.toNat:Nat):Int)>(0:Int)then((c.toNat:Nat):Int)else 0):=by split<;>split<;>omega);rw[f]
theorem Ba9(l:A2){c:Int}(H:c<=1048576)(F:∀a∈l,a.L.T.length=0/\a.L.Q=c)(P:∀a∈l,0<=a.P)(G:Bw l<=12)(I:l.length<=1000) :
  Qc l=some [cR (Fq c.toNat l)]:=by
 have Q:Agj l=some [cR (Fq c.toNat l)]:=by
  unfold Agj
  rw[T6,Ac]
  obtain⟨r,B,A⟩:∃r,_/\r=[cR (Fq c.toNat l)]:=Fz (λs=>∃i:Nat,s=((i:Int),[cR (Fq c.toNat (l.take i))])/\i<=l.length) (λs=>l.length-s.1.toNat) (λe=>e=[cR (Fq c.toNat l)]) (J:=λo=>some o)
   (step:=λ(x:Int×List An)=>match x with
    |(g,f)=>
     bif g<(l.length:Int)then(
     (Af l g).bind λb=>
     bif((b.L.T.length:Int)==(0:Int))then(
     (Rl b.L.Q b.P).bind λk=>
     (Af f 0).bind λw=>
     (Ir w k.1).bind λC=>
     (Af f 0).bind λS=>
     some (.inl (Aa (g+1),Cd f 0 C))
     )
     else(
     (Gz 56 (Aa (b.P+1)) (Aa (b.P+1)) ((An.mk false [] []):An)).bind λq=>
     (Gr 1).bind λT=>
     (Af q b.P).bind λU=>
     none
     )
     )
     else(
     some (.inr f)
     )) (s:=(0,[cR 1]))
   ⟨0,rfl,ω⟩ (by
   rintro _ ⟨i,rfl,X⟩
   rcases Cb i l.length with h|h
   .left
    have v:l[i]?=some l[i]:=Bn h
    have j:=getElem_mem h
    generalize l[i]=a at v j
    obtain⟨L,D⟩:=F a j
    have y:=P a j
    have e:Bw l=Bw (l.take i)+(a.P.toNat+Bw (l.drop (i+1))):=by
     have:=Oj (l.take i) (l.drop i)
     rw[take_append_drop]at this
     rw[this,J5 v];rfl
    have V:Fq c.toNat (l.take i)<Big:=Wv ω ω
    have z:bc c.toNat a.P.toNat<Big:=by
     have:=Wv (x:=c.toNat) (l:=[a]) ω (by simp only[Bw];omega)
     simpa[Fq]using this
    have u:Af [cR (Fq c.toNat (l.take i))] 0=some (cR (Fq c.toNat (l.take i))):=rfl
    refine⟨_,?_,⟨i+1,rfl,ω⟩,ζ⟩
    simp only[Al (ω:(i:Int)<(l.length:Int)),Ak,B1 rfl v,Ac,Es (ω:(a.L.T.length:Int)=0),D,Ba8 H y (ω:a.P<=64),u,(Np.c V).mul (Np.c z),Dd h ω]
    rw[C4 v,Axa]
    simp[Fq,Cd]
   .have:i=l.length:=ω
    subst this
    right
    exact⟨[cR (Fq c.toNat (take l.length l))],by simp only[Am (ω:¬(l.length:Int)<(l.length:Int)),Aj],by rw[Du]⟩) (by
   rintro _ rfl
   exact⟨_,rfl,rfl⟩)
  rw[<-A]
  exact B
 have W:Agl l=true:=by
  cases l with
  |nil=>rfl
  |cons a E=>
   have:=(F a ψ).1
   show(a.L.T.length==0)=true
   simpa using this
 unfold Qc
 rw[W,Ak,Q]
noncomputable def Ad1(cmp:α->α->A5)(a0:Int)(g:Λ α):Ο (List α):=(Ao (S:=(Int×Int×(List α))) (E:=(Int×Int×(List α))) (λ(o,e,i)=>bif e<=a0 then((Adv cmp o e i).bind λh=>(Ht g.length h).bind λl=>some (.inl (e,Aa (e+20),h)))else(some (.inr (o,e,i)))) (0,20,g)).bind λ(s,u,f)=>(Adv cmp s a0 f).bind λc=>(Ht g.length c).bind λv=>(Ao (S:=(Int×Int×Int)) (E:=Unit) (λ(b,k,j)=>bif b<a0 then((Ao (S:=Unit) (E:=Unit) (λ_=>bif(Aa (2*b))<=a0 then(none)else(some (.inr ()))) ()).bind λ_=>bif(Aa (0+b))<a0 then(none)else(some (.inl (Aa (b*2),0,Aa (2*b)))))else(some (.inr ()))) (20,s,u)).bind λ_=>some c
theorem An7{c:α->α->Int}(L:Py c)(f:Λ α)(g:∀x∈f,∀y∈f,cmp x y=some (c x y))(o:f.length<20):∃R,Ad1 cmp (f.length:Int) f=some R/\R.Perm f/\R.Pairwise (λa b=>¬c b a<0):=by obtain⟨R,h,e,i⟩:=Awq L f g ω;refine⟨R,?_,e,i⟩;unfold Ad1;refine Ct (a:=(0,20,f)) (Cr ?_) ?_;simp only[Am (ω:¬(20:Int)<=(f.length:Int)),Aj];dsimp only;rw[h,Ac,Oi e.length_eq.symm,Ac];refine Ct (a:=()) (Cr ?_) rfl;simp only[Am (ω:¬(20:Int)<(f.length:Int)),Aj]
theorem Pl:Py Dh where
 irr x:=by rw[(G3.zero x x trivial trivial).2 rfl];omega
 trs x y z h e:=G3.trans x y z trivial trivial trivial h e
 ntr x y z h e i:=by
  rcases Int.lt_trichotomy (Dh x y) 0 with k|k|k
  .exact h k
  .have:=(G3.zero x y trivial trivial).1 k
   subst this;exact e i
  .have b:Dh y x<0:=by rw[G3.anti x y trivial trivial];omega
   exact e (G3.trans y x z trivial trivial trivial b i)
theorem Bba:Py (λa b:A6=>Dh a.L b.L):=⟨λ_=>Pl.irr _,λ_ _ _=>Pl.trs _ _ _,λ_ _ _=>Pl.ntr _ _ _⟩
def Ad2(l:A2):Prop:=l.Pairwise λa b=>¬Dh b.L a.L<0
theorem Axc(b:A2)(i:∀a∈b,a.L.T.length<1099511627776)(o:b.length<20):∃R,Abo b=some R/\R.Perm b/\Ad2 R:=by obtain⟨R,s,h,u⟩:=An7 (cmp:=Ya) Bba b (λx v y _=>by unfold Ya;rw[Ahg x.L y.L (i x v)];rfl) o;refine⟨R,?_,h,u⟩;unfold Abo;have e:Af1 (b.length:Int) b=Ad1 Ya (b.length:Int) b:=rfl;rw[e,s,Ac,Oi h.length_eq.symm];rfl
theorem Bbb:U9 []=some []:=by obtain⟨R,i,o,u⟩:=An7 (cmp:=Sy) (c:=λ_ _=>0) ⟨λ_=>ω,λ_ _ _ h=>ω,λ_ _ _ _ _=>ω⟩ ([]:Be) (λx s=>by cases s) ψ;have b:R=[]:=Perm.eq_nil o;subst b;unfold U9;have e:Ab6 ((([]:Be).length:Nat):Int) []=Ad1 Sy ((([]:Be).length:Nat):Int) []:=rfl;rw[e,i];rfl
theorem An8(n:Nat)(h:n<=1000000):Pz (α:=α) (n:Int)=some []:=by unfold Pz;rw[Al ω,Al ω];rfl
theorem Bbc(a b:A2)(h:a.length+b.length<=1000000):Afx [a,b]=some (a++b):=Anw (B:=40) δ (gr:=Af3) (λn h=>An8 n h) a b h
theorem Bbd(a b:Be)(h:a.length+b.length<=1000000):Afw [a,b]=some (a++b):=Anw (B:=40) δ (gr:=Af2) (λn h=>An8 n h) a b h
theorem Aib(m n:Aw)(e:m.F.length+n.F.length<=1000000)(h:m.A.length+n.A.length<=1000000):Rb m n=some ⟨m.F++n.F,m.A++n.A⟩:=by unfold Rb;rw[Bbd _ _ e,Ac,Bbc _ _ h];rfl
def atO(l:Aq)(k:Nat):A2:=if k=0 then[]else[⟨l,k⟩]
theorem Bbe(l:Aq)(k:Nat):Yb l (k:Int)=some (atO l k):=by unfold Yb atO;by_cases h:k=0;rw[Es ω,Ar h];rfl;rw[Ck ω,Au h];rfl
theorem Axd(l:Aq)(k:Nat):(atO l k).length<=1:=by unfold atO;split<;>simp
abbrev FS:={F:List Bl // F.length<=1000}
theorem Bbf{x:An}{F:FS}(e:t.M=⟨F.1,A⟩)(b:A.length+B.length<=1000000)(f:K<30000000000)(h:RB K t.C)(i:RB 200 x):∃u,N7 t x ⟨[],B⟩=some u/\u.M=⟨F.1,A++B⟩/\rq u.C=rq t.C*rq x/\RB (K+202) u.C:=by obtain⟨c,o,s,_,v⟩:=Wn h i ω ω;refine⟨⟨c,⟨F.1,A++B⟩⟩,?_,rfl,v,s⟩;unfold N7;have:=F.2;rw[o,Ac,e,Aib _ _ ζ b,append_nil];rfl
abbrev Dy:=List A6×Nat
inductive Hk(F:FS)(c:Rat)(K:Nat):List Ae->List Dy->Prop
 |nil:Hk F c K [] []
 |cons{t:Ae}{b:Dy}{ts:List Ae}{bs:List Dy}:t.M=⟨F.1,b.1⟩->rq t.C=c*(b.2:Rat)->RB K t.C->Hk F c K ts bs->Hk F c K (t::ts) (b::bs)
theorem Hk.len{F:FS}{c:Rat}{ts:Ad}{bs:Λ Dy}(h:Hk F c K ts bs):ts.length=bs.length:=by induction h with|nil=>rfl|cons _ _ _ _ ih=>simp[ih]
theorem Hk.app{F:FS}{c:Rat}{ts f:Ad}{bs cs:Λ Dy}(h:Hk F c K ts bs)(h':Hk F c K f cs):Hk F c K (ts++f) (bs++cs):=by induction h with|nil=>exact h'|cons a b d _ ih=>exact .cons a b d ih
theorem Hk.mono{F:FS}{c:Rat}{f:Nat}{ts:Ad}{bs:Λ Dy}(h:Hk F c K ts bs)(hk:K<=f):Hk F c f ts bs:=by induction h with|nil=>exact .nil|cons a b d _ ih=>exact .cons a b (d.mono hk) ih
theorem Hk.get{F:FS}{c:Rat}{ts:Ad}{bs:Λ Dy}(h:Hk F c K ts bs):∀{j:Nat}{t:Ae},ts[j]?=some t->∃b,bs[j]?=some b/\t.M=⟨F.1,b.1⟩/\rq t.C=c*(b.2:Rat)/\RB K t.C:=by induction h with|nil=>intro j t h;simp at h|@cons t b ts bs i o s _ ih=>intro j u e;cases j with|zero=>simp only[getElem?_cons_zero,Option.some.injEq]at e;subst e;exact⟨b,rfl,i,o,s⟩|succ j=>simp only[getElem?_cons_succ]at e;simpa using ih e
def fs0:FS:=⟨[],δ⟩
abbrev Rep(c:Rat)(K:Nat):Ad->Λ Dy->Prop:=Hk fs0 c K
def Ek(B:Λ Dy)(l:Aq)(f:Nat->Nat)(n:Nat):Λ Dy:=(range n).flatMap λk=>if f k=0 then[]else B.map λb=>(b.1++atO l k,b.2*f k)
theorem Ns(B:Λ Dy)(l:Aq)(f:Nat->Nat)(n:Nat):Ek B l f (n+1)=Ek B l f n++(if f n=0 then[]else B.map λb=>(b.1++atO l n,b.2*f n)):=by unfold Ek;rw[range_succ,flatMap_append];simp
theorem Aic(B:Λ Dy)(l:Aq)(f:Nat->Nat)(n:Nat):(Ek B l f n).length<=n*B.length:=by induction n with|zero=>simp[Ek]|succ n ih=>rw[Ns,Fe,Nat.add_mul,Nat.one_mul];have:(if f n=0 then([]:Λ Dy)else B.map λb=>(b.1++atO l n,b.2*f n)).length<=B.length:=(by split<;>simp);omega
noncomputable def Ad3(h:Ad)(l:Aq)(k:Int)(x:An):Int×List Ae->C6:=λ(b,c)=>bif b<(h.length:Int)then((Af h b).bind λg=>(Yb l k).bind λe=>(N7 g x (Aw.mk [] e)).bind λf=>(Cj 104 c [f]).bind λi=>some (.inl (Aa (b+1),i)))else(some (.inr (b,c)))
theorem Bbg{F:FS}{c:Rat}{g o:Ad}{B:Λ Dy}{l:Aq}{f:Nat}{x:An}(z:Hk F c K g B)(w:rq x=(f:Rat))(q:RB 200 x)(S:K<30000000000)(R:∀b∈B,b.1.length<=M)(N:M<=1000)(H:o.length+g.length<=1000000000) :
  ∃T,Ao (Ad3 g l (k:Int) x) (0,o)=some ((g.length:Int),o++T)/\Hk F c (K+202) T (B.map λb=>(b.1++atO l k,b.2*f)):=by
 obtain⟨e,X,T,V,U⟩:=Jh (step:=Ad3 g l (k:Int) x) (λs=>∃(j:Nat)(T:Ad),s=((j:Int),o++T)/\j<=g.length/\T.length=j/\Hk F c (K+202) T ((B.take j).map λb=>(b.1++atO l k,b.2*f))) (λs=>g.length-s.1.toNat)
  (λe=>∃T,e=((g.length:Int),o++T)/\Hk F c (K+202) T (B.map λb=>(b.1++atO l k,b.2*f))) (by
  rintro _ ⟨j,T,rfl,P,L,y⟩
  rcases Cb j g.length with h|h
  .left
   have i:g[j]?=some g[j]:=Bn h
   generalize g[j]=t at i
   obtain⟨b,v,C,Z,Y⟩:=z.get i
   have J:=R b (B5 v)
   have:=Axd l k
   obtain⟨u,I,G,E,D⟩:=Bbf (A:=b.1) (B:=atO l k) C ω S Y q
   refine⟨_,?_,⟨j+1,T++[u],rfl,ω,by simp[L],?_⟩,ζ⟩
   .unfold Ad3
    simp only[Al (ω:(j:Int)<(g.length:Int)),Ak,B1 rfl i,Ac,Bbe,I,Dd h ω]
    rw[Di ζ,Ac,append_assoc]
   .rw[C4 v,map_append]
    refine y.app (.cons G ?_ D .nil)
    rw[E,Z,w]
    show _=c*((b.2*f:Nat):Rat)
    rw[Rat.natCast_mul];grind
  .have:j=g.length:=ω
   subst this
   right
   refine⟨_,by unfold Ad3;simp only[Am (ω:¬(g.length:Int)<(g.length:Int)),Aj],T,rfl,?_⟩
   rw[J1 (by rw[z.len];exact Nat.le_refl _)]at y
   exact y) (0,o) ⟨0,[],ψ,ω,rfl,.nil⟩
 exact⟨T,by rw[<-V];exact X,U⟩
theorem Bbh(a b:An)(j k:Nat)(u:RB j a)(hb:RB k b)(C:j<68719476736)(D:k<68719476736):Rn a b=some (Bj (K0 (sv a) (nv a) (dv a) (!sv b) (nv b) (dv b)) (I1 (sv a) (nv a) (dv a) (!sv b) (nv b) (dv b)) (dv a*dv b)):=by unfold Rn X6;have v:=u.nv;have w:=u.dv;have E:=hb.nv;have s:=hb.dv;have q:=Hn (nv a) (dv b);have l:=Hn (nv b) (dv a);have i:=Hn (dv a) (dv b);have h:=Y7 (nv a*dv b) (nv b*dv a);have g:=Iy (Nat.sub_le (nv a*dv b) (nv b*dv a));have f:=Iy (Nat.sub_le (nv b*dv a) (nv a*dv b));rw[Tv b k hb ω,Ac,Tv a j u ω,Ac];dsimp only;rw[Tt _ _ ω ω,Ac,Tt _ _ ω ω,Ac,Tt _ _ ω ω,Ac];by_cases c:sv a = !sv b;have e:(sv a == !sv b)=true:=(by rw[c];exact beq_self_eq_true _);rw[e,Ak,Au4 _ _ ω ω,Ac,Ac,Qp _ _ _ ω ω,K0,I1,Ar c,Ar c];rfl;have e:(sv a == !sv b)=false:=(by cases v:sv a<;>cases w:sv b<;>simp_all);rw[e,Aj,Wf _ _ ω ω,Ac,K0,I1,Au c,Au c];by_cases o:nv b*dv a<=nv a*dv b;rw[Al (show F8 (nv a*dv b) (nv b*dv a)>=0 by rw[F8,Au ω];split<;>decide),Ak,Ahl _ _ ω o,Ac,Ac,Qp _ _ _ ω ω,Ar o,Ar o];rfl;rw[Am (show ¬F8 (nv a*dv b) (nv b*dv a)>=0 by rw[F8,Ar ω];decide),Aj,Ahl _ _ ω ω,Ac,Ac,Qp _ _ _ ω ω,Au o,Au o];rfl
theorem Bbi(s:Bool)(n:Nat):sg (!s) n = - sg s n:=by unfold sg;cases s<;>simp
theorem Axe{a b:An}(o:RB j a)(hb:RB k b)(v:j<34359738000)(w:k<34359738000):∃c,Rn a b=some c/\RB (j+k+3) c/\Ij c/\rq c=rq a-rq b:=by have e:=Bbh a b j k o hb ω ω;have u:dv a*dv b≠0:=Nat.mul_ne_zero (Fj a) (Fj b);have C:=o.nv;have D:=o.dv;have E:=hb.nv;have s:=hb.dv;have q:=Hn (nv a) (dv b);have l:=Hn (nv b) (dv a);have i:=Hn (dv a) (dv b);have h:=Y7 (nv a*dv b) (nv b*dv a);have g:=Iy (Nat.sub_le (nv a*dv b) (nv b*dv a));have f:=Iy (Nat.sub_le (nv b*dv a) (nv a*dv b));refine⟨_,e,?_,Qs _ _ _ u,?_⟩;refine Jb _ _ _ _ ?_ ω ω;unfold I1;split;omega;split<;>omega;rw[No _ _ _ u,Avq,Bbi,rq,rq,show mkRat (sg (sv a) (nv a)) (dv a)-mkRat (sg (sv b) (nv b)) (dv b)=mkRat (sg (sv a) (nv a)) (dv a)+mkRat (-sg (sv b) (nv b)) (dv b)by rw[<-Rat.neg_mkRat];grind,Rat.mkRat_add_mkRat _ _ (Fj a) (Fj b)]
theorem Ad4(z:Int):mkRat z 1=(z:Rat):=by rw[Rat.mkRat_eq_div,show((1:Nat):Rat)=1 from rfl];grind
theorem Aid(z:Int)(e : -9223372036854775808<=z)(i:z<=9223372036854775807):∃r,Gr z=some r/\RB 3 r/\Ij r/\rq r=(z:Rat):=by have b:Bp z.natAbs<=3:=Qo (n:=z.natAbs) ω;refine⟨_,Zf z e i,Jb _ _ _ _ b (by rw[Jp];decide) δ,Qs _ _ _ δ,?_⟩;rw[No _ _ _ δ,Ad4];congr 1;unfold sg;by_cases h:z<0;rw[Al h,Ar rfl];omega;rw[Am h,Au δ];omega
theorem Ol(n:Nat):rq (cR n)=(n:Rat):=by unfold cR;rw[No _ _ _ δ,Ad4];rfl
theorem Ad5(n:Nat):Ij (cR n):=Qs _ _ _ δ
def Iu:D2->Nat
 |[]=>1
 |a::l=>a*Iu l
open Classical in
noncomputable def cfW:Df->Aw->Rat
 |[],_=>0
 |t::l,m=>(if t.2=m then t.1 else 0)+cfW l m
def K1(v:Aw->Nat):Df->Rat
 |[]=>0
 |t::l=>t.1*(v t.2:Rat)+K1 v l
open Classical in
noncomputable def T7(l:Df)(m:Aw):Df:=l.filter λt=>decide (t.2≠m)
open Classical in
theorem Axf(v:Aw->Nat)(m:Aw):∀l:Df,K1 v l=cfW l m*(v m:Rat)+K1 v (T7 l m)
 |[]=>by simp only[K1,cfW,T7,filter_nil];grind
 |t::l=>by have ih:=Axf v m l;unfold T7 at *;simp only[K1,cfW];by_cases e:t.2=m;rw[Ar e,filter_cons_of_neg (by simp[e]),ih,e];grind;rw[Au e,filter_cons_of_pos (by simp[e])];simp only[K1];rw[ih];grind
open Classical in
theorem Axg(m:Aw):∀(l:Df)(o:Aw),cfW (T7 l m) o=if o=m then 0 else cfW l o
 |[],o=>by simp[T7,cfW]
 |t::l,o=>by have ih:=Axg m l o;unfold T7 at *;by_cases e:t.2=m;rw[filter_cons_of_neg (by simp[e]),ih];by_cases i:o=m;rw[Ar i,Ar i];rw[Au i,Au i];simp only[cfW];rw[Au (by rw[e];exactλh=>i h.symm)];grind;rw[filter_cons_of_pos (by simp[e])];simp only[cfW];rw[ih];by_cases i:o=m;rw[Ar i,Ar i,Au (by rw[i];exact e)];grind;rw[Au i,Au i]
open Classical in
theorem Bbj(v:Aw->Nat):∀(n:Nat)(l:Df),l.length<=n->(∀m,0<=cfW l m)->0<=K1 v l:=by intro n;induction n with|zero=>intro l e _;have:l=[]:=Fm.1 ω;subst this;exact Rat.le_refl|succ n ih=>intro l e h;cases l with|nil=>exact Rat.le_refl|cons t l=>rw[Axf v t.2 (t::l)];(have i:0<=K1 v (T7 (t::l) t.2):=by refine ih _ ?_ λm=>?_;unfold T7;rw[filter_cons_of_neg ψ];have:=length_filter_le (λu:Rat×Aw=>decide (u.2≠t.2)) l;simp only[Fd]at e;omega;rw[Axg];split;exact Rat.le_refl;exact h m);have o:=Rat.mul_nonneg (h t.2) (Rat.natCast_nonneg (a:=v t.2));grind
def wT(t:Ae):Rat×Aw:=(rq t.C,t.M)
def nT(t:Ae):Rat×Aw:=(- rq t.C,t.M)
theorem Bbk(p:Ad)(m:Aw):cfW (p.map wT) m=cf p m:=by induction p with|nil=>rfl|cons t p ih=>simp only[map_cons,cfW,ih,Nq,wT]
theorem Bbl(p:Ad)(m:Aw):cfW (p.map nT) m = - cf p m:=by induction p with|nil=>show(0:Rat) = - 0;grind|cons t p ih=>simp only[map_cons,cfW,ih,Nq,nT];split<;>grind
theorem Bbm(l k:Df)(m:Aw):cfW (l++k) m=cfW l m+cfW k m:=by induction l with|nil=>simp only[nil_append,cfW];grind|cons t l ih=>simp only[Er,cfW,ih];grind
theorem Bbn(v:Aw->Nat)(l k:Df):K1 v (l++k)=K1 v l+K1 v k:=by induction l with|nil=>simp only[nil_append,K1];grind|cons t l ih=>simp only[Er,K1,ih];grind
noncomputable def Aie(g:Ad)(l:Aq)(p:Bi):Int×List Ae->C6:=λ(e,b)=>bif e<(p.length:Int)then((Af p e).bind λi=>(I7 i).bind λc=>bif(c==(0:Int))then(some (.inl (Aa (e+1),b)))else((Ao (Ad3 g l e i) (0,b)).bind λ(h,f)=>some (.inl (Aa (e+1),f))))else(some (.inr (e,b)))
theorem Bbo{F:FS}{c:Rat}{g:Ad}{B:Λ Dy}{l:Aq}{f:Nat->Nat}(z:Hk F c K g B)(I:∀k,k<n->f k<Big)(N:K<30000000000)(L:∀b∈B,b.1.length<=M)(y:M<=1000)(w:n<=1000)(Y:g.length<=1000000) :
  ∃T,Ao (Aie g l (Ls n f)) (0,[])=some ((n:Int),T)/\Hk F c (K+202) T (Ek B l f n):=by
 obtain⟨e,X,T,V,S⟩:=Jh (step:=Aie g l (Ls n f)) (λs=>∃(j:Nat)(T:Ad),s=((j:Int),T)/\j<=n/\Hk F c (K+202) T (Ek B l f j)) (λs=>n-s.1.toNat)
  (λe=>∃T,e=((n:Int),T)/\Hk F c (K+202) T (Ek B l f n)) (by
  rintro _ ⟨j,T,rfl,C,q⟩
  unfold Aie
  rw[Nr]
  rcases Cb j n with h|h
  .left
   have D:=Aic B l f j
   have J:=q.len
   have R:=z.len
   have A:j*B.length<=1000*1000000:=Nat.mul_le_mul ω ω
   have x:j*B.length+B.length<=1000*B.length:=by
    have:(j+1)*B.length<=1000*B.length:=Nat.mul_le_mul_right _ ω
    rw[Nat.add_mul]at this;omega
   have i:=I j h
   simp only[Al (ω:(j:Int)<(n:Int)),Ak,B1 rfl (Mr f h),Ac,(Np.c i).sign,Dd h ω]
   by_cases v:f j=0
   .refine⟨_,by rw[Ar v];rfl,⟨j+1,T,rfl,ω,?_⟩,ζ⟩
    rw[Ns,Ar v,append_nil];exact q
   .have u:RB 200 (cR (f j)):=(Np.c i).rb
    obtain⟨U,G,E⟩:=Bbg (o:=T) (l:=l) (k:=j) (f:=f j) z (Ol (f j)) u N L y ω
    refine⟨_,by rw[Au v,G];rfl,⟨j+1,T++U,rfl,ω,?_⟩,ζ⟩
    rw[Ns,Au v]
    exact q.app E
  .have:j=n:=ω
   subst this
   right
   exact⟨_,by simp only[Am (ω:¬(j:Int)<(j:Int)),Aj],T,rfl,q⟩) (0,[]) ⟨0,[],rfl,ω,.nil⟩
 exact⟨T,by rw[<-V];exact X,S⟩
def Pw(l:Aq)(N:Nat)(f:Nat->Nat)(g:A2):Prop:=(l.T.length≠0/\PwN g N f)\/(l.T.length=0/\N=0/\f 0=Fq l.Q.toNat g)
abbrev Grp:=Aq×Nat×(Nat->Nat)
inductive Gs:List Grp->List A6->Prop
 |nil:Gs [] []
 |cons{l:Aq}{N:Nat}{f:Nat->Nat}{g rest:List A6}{gs:List Grp}:g≠[]->(∀a∈g,a.L=l)->(∀a∈rest,Dh l a.L<0)->Pw l N f g->Gs gs rest->Gs ((l,N,f)::gs) (g++rest)
def H7(B:Λ Dy):Λ Grp->Λ Dy
 |[]=>B
 |q::e=>H7 (Ek B q.1 q.2.2 (q.2.1+1)) e
structure Atk(A:List A6):Prop where
 deg:∀a∈A,0<=a.P
 lin:∀a∈A,Co a.L=true
 sum:Bw A<=12
 len:A.length<=12
theorem Kk{a:Aq}(h:Co a=true):a.T.length<=16/\-1048576<=a.Q/\a.Q<=1048576:=by unfold Co at h;simp only[Dr,Eh]at h;exact⟨h.1.2.2,h.1.1,h.1.2.1⟩
theorem Atk.sub(h:Atk (A++B)):Atk A/\Atk B:=by have h1:=h.sum;have h2:=h.len;rw[Oj]at h1;rw[Fe]at h2;exact⟨⟨λa ha=>h.deg a (by simp[ha]),λa ha=>h.lin a (by simp[ha]),ω,ω⟩,⟨λa ha=>h.deg a (by simp[ha]),λa ha=>h.lin a (by simp[ha]),ω,ω⟩⟩
theorem Bbp{l:Aq}{g:A2}(e:Atk g)(b:g≠[])(hg:∀a∈g,a.L=l):∃N f,Qc g=some (Ls (N+1) f)/\Pw l N f g/\N<=Bw g/\∀k,k<N+1->f k<Big:=by have q:=e.len;have j:=e.sum;(obtain⟨a,o⟩:∃a,a∈g:=by cases g with|nil=>exact(b rfl).elim|cons a _=>exact⟨a,ψ⟩);have c:=e.lin a o;rw[hg a o]at c;have v:=(Kk c).2.2;by_cases h:l.T.length=0;have u:=Ba9 g v (λa o=>by rw[hg a o];exact⟨h,rfl⟩) e.deg e.sum ω;exact⟨0,λ_=>Fq l.Q.toNat g,u,.inr ⟨h,rfl,rfl⟩,ω,λk _=>Wv ω j⟩;obtain⟨N,f,u,s⟩:=Ba7 g b (λa o=>by rw[hg a o];exact h) e.deg e.sum ω;refine⟨N,f,u,.inl ⟨h,s⟩,by rw[s.1];exact Nat.le_refl _,λk i=>Nat.lt_of_le_of_lt (s.le i) (Wv ?_ j)⟩;have:=s.1;omega
noncomputable def Aif(r:A2)(l:Aq):Int->Io:=λb=>bif b<(r.length:Int)then((Af r b).bind λe=>(O7 e.L l).bind λc=>bif(c==(0:Int))then(some (.inl (Aa (b+1))))else(some (.inr b)))else(some (.inr b))
theorem Bbq{r:A2}{a:A6}(h0:r[0]?=some a)(E:∀b∈r,b.L.T.length<1099511627776)(q:r.length<=1000) :
  ∃n:Nat,Ao (Aif r a.L) 1=some (n:Int)/\1<=n/\n<=r.length/\(∀b∈r.take n,b.L=a.L)/\∀b,r[n]?=some b->b.L≠a.L:=by
 have u:=D8 h0
 obtain⟨e,l,n,k,i⟩:=Jh (step:=Aif r a.L) (λs=>∃n:Nat,s=(n:Int)/\1<=n/\n<=r.length/\∀b∈r.take n,b.L=a.L) (λs=>r.length-s.toNat)
  (λe=>∃n:Nat,e=(n:Int)/\1<=n/\n<=r.length/\(∀b∈r.take n,b.L=a.L)/\∀b,r[n]?=some b->b.L≠a.L) (by
  rintro _ ⟨j,rfl,g,f,c⟩
  unfold Aif
  rcases Cb j r.length with h|h
  .have v:r[j]?=some r[j]:=Bn h
   have C:=getElem_mem h
   generalize r[j]=b at v C
   simp only[Al (ω:(j:Int)<(r.length:Int)),Ak,B1 rfl v,Ac,Ahg _ _ (E b C),Dd h ω]
   by_cases w:b.L=a.L
   .left
    rw[Es ((G3.zero _ _ trivial trivial).2 w)]
    refine⟨_,rfl,⟨j+1,rfl,ω,ω,λd o=>?_⟩,ω⟩
    rw[C4 v]at o
    rcases Ef.1 o with o|o
    .exact c d o
    .simp only[De]at o
     rw[o];exact w
   .right
    rw[Ck λh=>w ((G3.zero _ _ trivial trivial).1 h)]
    exact⟨_,rfl,j,rfl,g,f,c,λd o=>by rw[v]at o;cases o;exact w⟩
  .right
   refine⟨_,by simp only[Am (ω:¬(j:Int)<(r.length:Int)),Aj],j,rfl,g,f,c,λd o=>?_⟩
   have:=D8 o
   omega) 1 ⟨1,rfl,ω,ω,λb D=>by
    cases r with
    |nil=>simp at u
    |cons x r=>simp at D h0;rw[D,h0]⟩
 exact⟨n,by rw[<-k];exact l,i⟩
noncomputable def Ad6:(List Ae×List A6)->Ο ((List Ae×List A6)⊕List Ae):=λ(g,b)=>bif(b.length:Int)>(0:Int)then((Af b 0).bind λf=>(Ao (Aif b f.L) 1).bind λc=>(Gc b 0 c).bind λi=>(Qc i).bind λh=>(Ao (Aie g f.L h) (0,[])).bind λ(k,j)=>(Gc b c b.length).bind λe=>some (.inl (j,e)))else(some (.inr g))
theorem Bbr(n:Nat):n+1<=2^n:=by induction n with|zero=>decide|succ n ih=>rw[Nat.pow_succ];omega
theorem Axh{B:Λ Dy}{l:Aq}{f:Nat->Nat}(c:∀b∈B,b.1.length<=M):∀b∈Ek B l f n,b.1.length<=M+1:=by intro b h;unfold Ek at h;rw[mem_flatMap]at h;obtain⟨k,_,e⟩:=h;split at e;cases e;rw[mem_map]at e;obtain⟨d,i,rfl⟩:=e;have:=c d i;have:=Axd l k;simp only[Fe];omega
theorem Axi{F:FS}{c:Rat}:∀(n:Nat)(rest:A2)(j:Ad)(B:Λ Dy)(K M:Nat),rest.length<=n->Ad2 rest->Atk rest->Hk F c K j B->(∀b∈B,b.1.length<=M)->M+rest.length<=1000->K+202*rest.length<30000000000->B.length*2^Bw rest<=1000000->∃o i,Ao Ad6 (j,rest)=some i/\Gs o rest/\Hk F c (K+202*rest.length) i (H7 B o)/\i.length<=B.length*2^Bw rest:=by intro n;induction n with|zero=>intro rest j B K M Q _ _ A _ _ _ _;have:rest=[]:=Fm.1 ω;subst this;exact⟨[],j,Cr (by unfold Ad6;simp),.nil,by simpa[H7]using A,by rw[A.len];simp[Bw]⟩|succ n ih=>intro rest j B K M Q w R A H ae hK E;cases g:rest with|nil=>exact⟨[],j,Cr (by unfold Ad6;simp),.nil,by simpa[H7]using A.mono ω,by rw[A.len];simp[Bw]⟩|cons a W=>rw[<-g];have C:rest[0]?=some a:=(by rw[g];rfl);have ab:0<rest.length:=D8 C;(have hT:∀b∈rest,b.L.T.length<1099511627776:=λb e=>by have:=(Kk (R.lin b e)).1;omega);have af:=R.len;obtain⟨m,m1,m2,m3,P,m5⟩:=Bbq C hT ω;have u:rest=rest.take m++rest.drop m:=(take_append_drop m rest).symm;have L:=(u▸R:Atk (rest.take m++rest.drop m)).sub;have y:rest.take m≠[]:=(by intro h;have:=congrArg length h;rw[length_take]at this;simp only[length_nil]at this;omega);obtain⟨N,f,p1,p2,p3,p4⟩:=Bbp L.1 y P;have Z:Bw rest=Bw (rest.take m)+Bw (rest.drop m):=(by rw[<-Oj,take_append_drop]);have ac:=R.sum;have U:2^Bw rest=2^Bw (rest.take m)*2^Bw (rest.drop m):=(by rw[Z,Nat.pow_add]);have aa:B.length<=1000000:=Nat.le_trans (Nat.le_mul_of_pos_right _ (Nat.pow_pos δ)) E;obtain⟨T,t1,t2⟩:=Bbo (l:=a.L) (n:=N+1) A p4 ω H ω ω (by rw[A.len];exact aa);have z:Ad6 (j,rest)=some (.inl (T,rest.drop m)):=(by have Y:Af rest 0=some a:=B1 (n:=0) rfl C;have S:Gc rest (m:Int) (rest.length:Int)=some (rest.drop m):=(by unfold Gc;simp[drop_take];omega);unfold Ad6;simp only[Al (ω:(rest.length:Int)>0),Ak,Y,Ac,m1,Ac1 rfl m3,p1,t1,S]);have ad:(rest.drop m).length+m=rest.length:=(by rw[length_drop];omega);have a8:=Aic B a.L f (N+1);have J:(N+1)*B.length<=B.length*2^Bw (rest.take m):=(by rw[Nat.mul_comm];refine Nat.mul_le_mul_left _ (Nat.le_trans (Bbr N) (Nat.pow_le_pow_right δ p3)));have x:(Ek B a.L f (N+1)).length*2^Bw (rest.drop m)<=B.length*2^Bw rest:=(by rw[U,<-Nat.mul_assoc];exact Nat.mul_le_mul_right _ (Nat.le_trans a8 J));obtain⟨o,i,g1,g2,g3,g4⟩:=ih (rest.drop m) T (Ek B a.L f (N+1)) (K+202) (M+1) ω (Pairwise.sublist (drop_sublist m rest) w) L.2 t2 (Axh H) ω ω (Nat.le_trans x E);refine⟨(a.L,N,f)::o,i,by rw[Fh z,g1],?_,g3.mono ω,Nat.le_trans g4 x⟩;(have X:∀b∈rest.drop m,Dh a.L b.L<0:=by intro b e;cases v:rest.drop m with|nil=>rw[v]at e;cases e|cons d D=>have q:rest[m]?=some d:=(by have:=congrArg (λl=>l[0]?) v;simpa using this);have a6:=m5 d q;have a7:¬Dh d.L a.L<0:=(by have I:=w;rw[g]at I;have a1:d∈W:=(by have:=B5 q;have V:m=(m-1)+1:=ω;rw[g,V,getElem?_cons_succ]at q;exact B5 q);exact(pairwise_cons.1 I).1 d a1);(have s:Dh a.L d.L<0:=by rcases Int.lt_trichotomy (Dh d.L a.L) 0 with k|k|k;exact(a7 k).elim;exact(a6 ((G3.zero _ _ trivial trivial).1 k)).elim;rw[G3.anti d.L a.L trivial trivial];omega);rw[v]at e;rcases Ed.1 e with rfl|e;exact s;have G:Ad2 (rest.drop m):=Pairwise.sublist (drop_sublist m rest) w;rw[v]at G;have h3:=(pairwise_cons.1 G).1 b e;rcases Int.lt_trichotomy (Dh b.L d.L) 0 with k|k|k;exact(h3 k).elim;rw[(G3.zero _ _ trivial trivial).1 k];exact s;exact G3.trans a.L d.L b.L trivial trivial trivial s (by rw[G3.anti b.L d.L trivial trivial];omega));have:=Gs.cons y P X p2 g2;rwa [take_append_drop]at this
end Go.Ab
