/- Plain laws: what the plain functions answer. -/
import Derived.Test.YtdjgjhnhlpiccaaGreatDoorMsPl2
open List
namespace Go.Ab
open Go
variable {x:B9} {p:Int} {ps:List (List Aj)} {b l:List Int} {N a j k n q:Nat} {g:Nat->Nat} {R α:Type} {r:R} {cmp:α->α->Option Int}
def Mq (data:List Ai) (t:Af) (e:Ah):Aas:=⟨e.U,e.K,I3 (D7 data t.U e.U),match Jh data t e.U with|some l=>F7 l (D7 data t.U e.U) | none=>[]⟩
def Jl (n:Nat) (f:Nat->Nat):List Ao:=(range (n+1)).map λq=>cR (f q)
theorem Vi (n:Nat) (f:Nat->Nat):(Jl n f).length=n+1:=by simp[Jl]
theorem Sx (f:Nat->Nat) (h:q<=n):(Jl n f)[q]? = some (cR (f q)):=by unfold Jl;rw[getElem?_map,getElem?_range ω];rfl
theorem Avi {x:Nat} {f:Nat->Nat} (h:q<=n) (h1:g q=x) (h2:∀p,p<=n->p≠q->g p=f p):Cu (Jl n f) (q:Int) (cR x)=Jl n g:=by
 rw[H5 (n:=q) rfl];apply ext_getElem?;intro i;rw[getElem?_set];rcases Cj i (n+1) with hi|hi
 .rw[Sx f ω,Sx g ω,Vi];by_cases e:q=i
  .subst e;rw[Av rfl,Av ω,h1]
  .rw[Ar e,h2 i ω (Ne.symm e)]
 .rw[Lq (by rw[Vi];exact hi),Lq (by rw[Vi];exact hi)];split
  .rw[Ar (by rw[Vi];omega)]
  .rfl
theorem Amg {f:Nat->Nat} (h:∀p,p<=n->f p=g p):Jl n f=Jl n g:=by
 apply ext_getElem?;intro i;rcases Cj i (n+1) with hi|hi
 .rw[Sx f ω,Sx g ω,h i ω]
 .rw[Lq (by rw[Vi];exact hi),Lq (by rw[Vi];exact hi)]
theorem A78 (fl:List Af) (Q:List Bool) (x:Q.length=fl.length) (y:fl.length<=6) {J:Int×List Int×List Af->Option R} (u:J ((Q.length:Int),I3 Q,F7 fl Q)=some r) : (Ak (S:=(Int×List Int×List Af)) (E:=(Int×List Int×List Af)) (λ(v85,f,c)=> bif v85<(Q.length:Int) then ((Ag Q v85).bind λh=> bif (!h) then ((Cd 8 f [v85]).bind λk=> (Ag fl v85).bind λg=> (Cd 40 c [g]).bind λi=> some (.inl ((Ac (v85+1)),k,i))) else some (.inl ((Ac (v85+1)),f,c))) else some (.inr (v85,f,c))) (0,[],[])).bind J=some r:=by
 have q:∀j,(I3 (Q.take j)).length<=Q.length:=λj=>by unfold I3;rw[C1];refine Nat.le_trans (length_filter_le _ _) ?_;simp;omega
 refine F6 Q (λj=>((j:Int),I3 (Q.take j),F7 (fl.take j) (Q.take j))) (by simp[I3,F7]) ω ?_ ?_
 .intro j b hj hb h1 h2 h3;have ha:fl[j]? = some fl[j]:=Bs ω;generalize fl[j]=a at ha;have s:=Xo (fl.take j) (Q.take j);have:(fl.take j).length<=6:=ζ;have hp:=q j;have l:I3 (Q.take (j+1))=I3 (Q.take j)++bif b then [] else [(j:Int)]:=by unfold I3;rw[A5e hb,filter_append,map_append];cases b <;> rfl
  simp only[h1,h2,h3,Am,Ad,l,Af2 ha hb];cases b with| true=>simp| false=>simp only[Bool.not_false,Am,Aq];rw[D2 ζ,Ad,Br rfl ha,Ad,D2 ζ];rfl
 .intro h1;exact⟨_,by simp only[h1];rfl,by rw[Db,Ii ω];exact u⟩
theorem A79 (n:Nat) (k:n<=100) {J:List Ao->Option R} (h:J (replicate n (cR 0))=some r) : (Ak (S:=(Int×List Ao)) (E:=(List Ao)) (λ(b,c)=> bif b<(((replicate n (Ao.mk false [] [])).length:Nat):Int) then ((Ed 0).bind λf=> (Ag c b).bind λg=> some (.inl ((Ac (b+1)),(Cu c b f)))) else some (.inr c)) (0,replicate n (Ao.mk false [] []))).bind J=some r:=by
 refine F6 (replicate n (Ao.mk false [] [])) (λj=>((j:Int),replicate j (cR 0)++replicate (n-j) (Ao.mk false [] []))) ψ ζ ?_ ?_
 .intro j x hj hx h1 h2 h3;have hj':j<n:=(by simpa using hj);have i:replicate (n-j) (Ao.mk false [] [])=Ao.mk false [] []::replicate (n-(j+1)) (Ao.mk false [] []):=(by rw[show n-j=(n-(j+1))+1 by omega];rfl);simp only[h1,h3,Am,Ag8,Ad,i];rw[Aa8 (replicate j (cR 0)) _ _ _ j rfl ψ,Ad,Aa7 _ _ _ _ _ j rfl ψ];rw[replicate_succ'];simp
 .intro h1;exact⟨replicate n (cR 0),by simp only[h1];simp,h⟩
theorem A8a:Zf []=some []:=κ
theorem A8b (l:List Int):Zf l=some (l.mergeSort λx y=>decide (x<=y)):=by cases l with| nil=>rw[A8a];simp| cons a l=>rfl
theorem A8c (l:List Int):(l.mergeSort λx y=>decide (x<=y)).Pairwise (·<=·):=by have:=pairwise_mergeSort (le:=λx y:Int=>decide (x<=y)) (λa b c h1 h2=>by simp only[Du]at *;omega) (λa b=>by simp only[Bool.or_eq_true,Du];omega) l;exact this.imp (λh=>by simpa using h)
structure Asc (b:List Int) (n:Nat) (l:List Int):Prop where
 up:l.Pairwise (· < ·)
 mem:∀y,y∈l↔y∈b.take n
theorem A8d (c:b.Pairwise (·<=·)) (hp:b[q]? = some p):∀y∈b.take (q+1),y<=p:=by
 intro y hy;obtain⟨i,hi⟩:=Hi hy;rw[getElem?_take]at hi;split at hi
 .rename_i f;by_cases e:i=q
  .subst e;rw[hi]at hp;cases hp;exact Int.le_refl _
  .have h1:=Eg hi;have h2:=Eg hp;have:=(pairwise_iff_getElem.1 c) i q h1 h2 ω;rw[Bs h1]at hi;rw[Bs h2]at hp;cases hi;cases hp;exact this
 .cases hi
theorem Asc.step (g:b.Pairwise (·<=·)) {x:Int} (h:Asc b (q+1) l) (hp:b[q]? = some p) (hx:b[q+1]? = some x) (j:x≠p):Asc b (q+2) (l++[x]):=by
 have f:=A8d g hp;have i:p<x:=by have h1:=Eg hp;have h2:=Eg hx;have:=(pairwise_iff_getElem.1 g) q (q+1) h1 h2 ω;rw[Bs h1]at hp;rw[Bs h2]at hx;cases hp;cases hx;omega
 refine⟨?_,λy=>?_⟩
 .rw[pairwise_append];refine⟨h.up,ψ,λa ha c hc=>?_⟩;rw[Ea]at hc;subst hc;have:=f a ((h.mem a).1 ha);omega
 .rw[C4 hx,Ej,Ej,h.mem y]
theorem Asc.same {x:Int} (h:Asc b (q+1) l) (hp:b[q]? = some x) (hx:b[q+1]? = some x):Asc b (q+2) l:=by
 refine⟨h.up,λy=>?_⟩;rw[C4 hx,Ej,h.mem y];constructor
 .exact .inl
 .rintro (h1|h1)
  .exact h1
  .rw[Ea]at h1;subst h1;rw[C4 hp];simp
theorem Abx {l:List α} {off:Nat} {i:Int} {x:α} (hi:i=j) (hj:j<n) (h:l[off+j]? = some x):H3 l off n i=some x:=by subst hi;unfold H3;rw[Av ω];simpa using h
theorem A8e {X:Option (Nat×List Int)} {Q:Nat×List Int->Prop} (h:∃r,X=some r/\Q r):∃(m:Nat) (o:List Int),X=some (m,o)/\Q (m,o):=by obtain⟨⟨m,o⟩,h1,h2⟩:=h;exact⟨m,o,h1,h2⟩
theorem A8f {X:Option (Int⊕((Nat×List Int)⊕Unit))} {P:Nat->List Int->Prop} {b:Prop} (h:∃r,X=some r/\∃(m:Nat) (o:List Int),r = .inr (.inl (m,o))/\P m o) : ∃e,X=some (.inr e)/\((∃(m:Nat) (o:List Int),e = .inl (m,o)/\P m o)\/(e = .inr ()/\b)):=by obtain⟨_,h1,m,o,rfl,h2⟩:=h;exact⟨_,h1,.inl ⟨m,o,rfl,h2⟩⟩
theorem A8g (b:List Int) (R:b.Pairwise (·<=·)) (hl:b.length<=1099511627776):∃(m:Nat) (o:List Int),Wn b.length b=some (m,o)/\m<=o.length/\Asc b b.length (o.take m):=by
 unfold Wn;by_cases h2:b.length<2
 .rw[As ω,Am];refine⟨b.length,b,rfl,Nat.le_refl _,?_,λy=>Iff.rfl⟩;rw[Db]
  match b,h2 with| [],_=>simp| [_],_=>simp
 .rw[A5 ω,Aq];refine A8e (Q:=λr:Nat×List Int=>r.1<=r.2.length/\Asc b b.length (r.2.take r.1)) ?_
  .refine Et (Q:=λr:Nat×List Int=>r.1<=r.2.length/\Asc b b.length (r.2.take r.1)) (λv=>∃j:Nat,v=((j+1:Nat):Int)/\j+1<=b.length/\Asc b (j+1) (b.take (j+1))) (λv=>b.length-v.toNat) (λe:((Nat×List Int)⊕Unit)=>(∃(m:Nat) (o:List Int),e = .inl (m,o)/\m<=o.length/\Asc b b.length (o.take m))\/(e = .inr ()/\Asc b b.length (b.take b.length))) ?_ ?_ ?_ (J:=λz:((Nat×List Int)⊕Unit)=>match z with|.inl (G,E)=>some (G,E) | .inr _=>some (b.length,b))
   .exact⟨0,rfl,ω,by
     refine⟨?_,λy=>Iff.rfl⟩
     match b,h2 with
     | a::_,_=>simp
     | [],h=>simp at h⟩
   .rintro v ⟨j,rfl,hj,N⟩;rcases Cj (j+1) b.length with h|h
    .have hx:b[j+1]? = some b[j+1]:=Bs h;have hp:b[j]? = some b[j]:=Bs ω;generalize b[j+1]=x at hx;generalize b[j]=p at hp;have X:Ac (((j+1:Nat):Int)-1)=((j:Nat):Int):=(by rw[show (((j+1:Nat):Int)-1)=(j:Int) by omega,Ac,Cl] <;> omega);simp only[As (ω:((j+1:Nat):Int)<(b.length:Int)),Am,Abx (l:=b) (off:=0) (n:=b.length) (i:=((j+1:Nat):Int)) rfl h (by rw[Nat.zero_add];exact hx),X, Abx (l:=b) (off:=0) (n:=b.length) (i:=((j:Nat):Int)) rfl ω (by rw[Nat.zero_add];exact hp),Ad,C5 h ω];by_cases e:x=p
     .subst e;rw[Eu rfl,Am];have A:Rm b.length ((j+1:Nat):Int) ((b.length:Nat):Int)=some (j+1,b.length):=(by unfold Rm;rw[Av ω];simp);rw[A,Ad];dsimp only;refine .inr ?_;refine A8f (Et (Q:=λz:(Int⊕((Nat×List Int)⊕Unit))=>∃(m:Nat) (o:List Int),z = .inr (.inl (m,o))/\m<=o.length/\Asc b b.length (o.take m)) (λz=>∃(w k:Nat) (o:List Int),z=((w:Int),(k:Int),o)/\o.length=b.length/\w<=j+k/\1<=k/\j+1+k<=b.length/\Asc b (j+1+k) (o.take w)/\∀i,w<=i->o[i]? = b[i]?) (λz=>b.length-(j+1)-z.2.1.toNat) (λz=>∃(w k:Nat) (o:List Int),z=((w:Int),(k:Int),o)/\o.length=b.length/\w<=b.length/\Asc b b.length (o.take w)) ?_ ?_ ?_)
      .refine⟨j+1,1,b,rfl,rfl,ω,ω,ω,?_,λ_ _=>rfl⟩;exact N.same hp hx
      .rintro z ⟨w,k,o,rfl,D,hw,hk,Z,f,c⟩;rcases Cj (j+1+k) b.length with h'|h'
       .have hy:b[j+1+k]? = some b[j+1+k]:=Bs h';have hq:b[j+k]? = some b[j+k]:=Bs ω;generalize b[j+1+k]=y at hy;generalize b[j+k]=q at hq;have V:Ac ((k:Int)-1)=((k-1:Nat):Int):=(by rw[show ((k:Int)-1)=((k-1:Nat):Int) by omega,Ac,Cl] <;> omega);have U:Ac ((k:Int)+1)=((k+1:Nat):Int):=C5 (n:=b.length) ω ω;have S:Ac ((w:Int)+1)=((w+1:Nat):Int):=C5 (n:=b.length) ω ω;have i1:H3 o (0+(j+1)) (b.length-(j+1)) (k:Int)=some y:=Abx rfl ω (by rw[Nat.zero_add,c _ ω];exact hy);have i2:H3 o (0+(j+1)) (b.length-(j+1)) ((k-1:Nat):Int)=some q:=Abx rfl ω (by rw[Nat.zero_add,c _ ω,show j+1+(k-1)=j+k by omega];exact hq);have I:o[w]? = some (o[w]' ω):=Bs _;have i3:H3 o 0 b.length (w:Int)=some (o[w]' ω):=Abx rfl ω (by rw[Nat.zero_add];exact I);simp only[As (ω:(k:Int)<((b.length-(j+1):Nat):Int)),Am,i1,i2,i3,V,U,S,Ad];by_cases e:y=q
        .subst e;rw[Gb rfl,Aq];refine .inl ⟨_,rfl,⟨w,k+1,o,rfl,D,ω,ω,ω,?_,c⟩,by simp only[Int.toNat_natCast];omega⟩;have:=Asc.same (q:=j+k) (x:=y) (by rw[show j+k+1=j+1+k by omega];exact f) hq (by rw[show j+k+1=j+1+k by omega];exact hy);rw[show j+1+(k+1)=j+k+2 by omega];exact this
        .rw[F2 e,Am];have B:Cu o (((0:Nat):Int)+(w:Int)) y=o.set w y:=H5 (n:=w) ω y;have s:(o.set w y).take (w+1)=o.take w++[y]:=(by rw[C4 (x:=y) (by rw[getElem?_set,Av rfl,Av ω]),take_set_of_le (Nat.le_refl _)]);rw[B];refine .inl ⟨_,rfl,⟨w+1,k+1,o.set w y,rfl,by simpa using D,ω,ω,ω,?_,?_⟩,by simp only[Int.toNat_natCast];omega⟩
         .rw[s];have:=Asc.step R (q:=j+k) (x:=y) (p:=q) (by rw[show j+k+1=j+1+k by omega];exact f) hq (by rw[show j+k+1=j+1+k by omega];exact hy) e;rw[show j+1+(k+1)=j+k+2 by omega];exact this
         .intro i hi;rw[getElem?_set,Ar ω];exact c i ω
       .have L:j+1+k=b.length:=ω;refine .inr ⟨((w:Int),(k:Int),o),?_,w,k,o,rfl,D,ω,by rw[<-L];exact f⟩;simp only[A5 (ω:¬(k:Int)<((b.length-(j+1):Nat):Int)),Aq]
      .rintro z ⟨w,k,o,rfl,D,hw,f⟩;dsimp only;have g:Wa b.length (w:Int)=some w:=(by unfold Wa;rw[Av ω];simp);by_cases Y:w=0\/w<b.length
       .have u:Ts b.length (w:Int) ((b.length:Nat):Int)=some (.inl (w,b.length)):=(by unfold Ts;rw[Av ω,Av ω];simp);have M:Rn o (0+w) (b.length-w) (0:Int)=some (Fu o (0+w) (replicate (b.length-w) 0)):=(by unfold Rn;rw[Av ω]);rw[u,Ad];dsimp only;rw[M,Ad,g,Ad];have s:(Fu o (0+w) (replicate (b.length-w) (0:Int))).take w=o.take w:=(by unfold Fu;rw[Nat.zero_add,append_assoc,take_append_of_le_length ζ,take_take,Nat.min_self]);refine⟨_,rfl,w,_,rfl,?_,?_⟩
        .unfold Fu;simp;omega
        .rw[s];exact f
       .have u:Ts b.length (w:Int) ((b.length:Nat):Int)=some (.inr ()):=(by unfold Ts;rw[Av ω,Ar ω]);rw[u,Ad];dsimp only;rw[g,Ad];exact⟨_,rfl,w,o,rfl,ω,f⟩
     .rw[C3 e,Aq];refine .inl ⟨_,rfl,⟨j+1,rfl,ω,?_⟩,by simp only[Int.toNat_natCast];omega⟩;have:=Asc.step R N hp hx e;rw[<-C4 hx]at this;exact this
    .have:j+1=b.length:=ω;refine .inr ⟨.inr (),?_,.inr ⟨rfl,by rw[<-this];exact N⟩⟩;rw[A5 ω];rfl
   .rintro e (⟨m,o,rfl,h1,h2⟩|⟨rfl,h1⟩)
    .exact⟨(m,o),rfl,h1,h2⟩
    .exact⟨(b.length,b),rfl,Nat.le_refl _,h1⟩
def Dk (b:List Ax) (res:Ax) (v:Int):Ax:=match Ag b v with|some w=>w|none=>res
theorem Amh {b:List Ax} (c:b.length=x.V.length) (res:Ax) {v:Int} {t:Af} (ht:Dj x.V x.E v=some t):Oz v res b=some (Dk b res v):=by
 unfold Oz Dk;unfold Dj at ht;by_cases h:v = -1
 .subst h;rw[Aa1 ω];rfl
 .rw[Ar h]at ht;obtain⟨a1,a2,_⟩:=Hc ht;have hi:Ag b v=some (b[v.toNat]' ω):=Br (n:=v.toNat) ω (Bs _);rw[C3 h,hi];rfl
theorem Avj {b:List Ax} {res:Ax} (h:∀v∈b,Cp v<=N) (h':Cp res<=N) (v:Int):Cp (Dk b res v)<=N:=by unfold Dk;cases hi:Ag b v with| none=>exact h'| some w=>exact h w (Hc hi).2.2.2
def Iv (x:B9) (b:List Ax) (res:Ax) (v:Int):Bool:=match Dj x.V x.E v with|some t=>Mp x.D (Dk b res v) t|none=>false
noncomputable def X5 (cmp:α->α->Option Int) (a0:Int):Int×List α->Option ((Int×List α)⊕(Int×List α)):=λ(v31,b)=> (show OB from bif v31>a0 then ((Ag b v31).bind λv33=> (Ag b (Ac (v31-1))).bind λg=> (cmp v33 g).bind λv35=> some (decide (v35<(0:Int)))) else some false).bind λf=>
 bif f then ((Ag b (Ac (v31-1))).bind λv37=> (Ag b v31).bind λc=> (Ag b v31).bind λv39=> (Ag (Cu b v31 v37) (Ac (v31-1))).bind λv40=> some (.inl ((Ac (v31-1)),(Cu (Cu b v31 v37) (Ac (v31-1)) c)))) else some (.inr (v31,b))
noncomputable def Aby (cmp:α->α->Option Int) (a0 a1:Int) (g:List α):Option (List α) := (Ak (S:=(Int×(List α))) (E:=(List α)) (λ(v21,b)=> bif v21<a1 then ((Ak (X5 cmp a0) (v21,b)).bind λ(v41,f)=> some (.inl ((Ac (v21+1)),f))) else (some (.inr b))) ((Ac (a0+1)),g)).bind λc=> some c
theorem A8h (A R:List α) (x y:α):((A++y::x::R).set (A.length+1) y).set A.length x=A++x::y::R:=by induction A with| nil=>rfl| cons a A ih=>simp only[D9,D6,set_cons_succ,ih]
theorem Avk (A R:List α) (x:α):(A++x::R)[A.length]? = some x:=ψ
theorem A8i (A R:List α) (x y:α):(A++y::x::R)[A.length+1]? = some x:=by induction A with| nil=>rfl| cons a A ih=>simp
theorem A8j (cmp:α->α->Option Int) (y:α) (R:List α):X5 cmp 0 (0,y::R)=some (.inr (0,y::R)):=by unfold X5;simp only[A5 (ω:¬(0:Int)>0),Aq,Ad]
theorem A8k {c:α->α->Int} (i:N<=1099511627776) (A R:List α) (u y:α) (b:cmp u y=some (c u y)) (f:(A++y::u::R).length<=N):X5 cmp 0 (((A.length+1:Nat):Int),A++y::u::R) = if c u y<0 then some (.inl ((A.length:Int),A++u::y::R)) else some (.inr (((A.length+1:Nat):Int),A++y::u::R)):=by
 have h:A.length+1<N:=by simp at f;omega
 have g:Ac (((A.length+1:Nat):Int)-1)=(A.length:Int):=by rw[Ac,Cl] <;> omega
 unfold X5;simp only[As (ω:((A.length+1:Nat):Int)>0),Am,g,Br (n:=A.length+1) rfl (A8i A R u y),Br (n:=A.length) rfl (Avk A (u::R) y),Ad,b];by_cases hc:c u y<0
 .rw[As hc,Av hc];simp only[Am];rw[H5 (n:=A.length+1) rfl,H5 (n:=A.length) rfl,A8h];have:Ag ((A++y::u::R).set (A.length+1) y) (A.length:Int)=some y:=(by refine Br rfl ?_;rw[getElem?_set_ne ω];exact Avk A (u::R) y);rw[this];rfl
 .rw[A5 hc,Ar hc];rfl
theorem A8l {c:α->α->Int} (s:N<=1099511627776) : ∀(n:Nat) (A R:List α) (x:α),A.length=n->(∀t∈A,cmp x t=some (c x t))->(A++x::R).length<=N -> ∃f i,Ak (X5 cmp 0) ((A.length:Int),A++x::R)=some ((f.length:Int),f++x::(i++R))/\A=f++i/\(∀a∈i,c x a<0)/\∀k y,f=k++[y]->¬c x y<0:=by
 intro n;induction n with
 | zero=>intro A R x g _ _;have:A = []:=Gn.1 g;subst this;exact⟨[],[],Gf (A8j cmp x R),rfl,nofun,(λk y h=>by simp at h)⟩
 | succ n ih=>
  intro A R x g l b;obtain⟨B,y,rfl⟩:∃B y,A=B++[y]:=by
   rcases eq_nil_or_concat A with h|⟨B,y,h⟩
   .rw[h]at g;cases g
   .exact⟨B,y,by simpa using h⟩
  have u:B.length=n:=(by simpa using g);have E:(B++[y])++x::R=B++y::x::R:=ψ;have el:(((B++[y]).length:Nat):Int)=((B.length+1:Nat):Int):=ψ;rw[E]at b ⊢;rw[el];have j:=A8k (cmp:=cmp) (c:=c) s B R x y (l y ψ) b;by_cases hc:c x y<0
  .rw[Av hc]at j;obtain⟨f,i,h1,h2,h3,D⟩:=ih B (y::R) x u (λt ht=>l t (by simp[ht])) (by simpa using b);refine⟨f,i++[y],?_,by rw[h2];simp,?_,D⟩
   .rw[Lh j,h1];simp
   .intro a ha;rcases Ej.1 ha with ha|ha
    .exact h3 a ha
    .simp only[Ea]at ha;subst ha;exact hc
  .rw[Ar hc]at j;refine⟨B++[y],[],?_,ψ,nofun,?_⟩
   .rw[Gf j];simp
   .intro k z q;have:=append_inj' q rfl;have e:y=z:=(by simpa using this.2);subst e;exact hc
theorem A8m {c:α->α->Int} (L:Py c) {f j:List α} {x:α} (s:(f++j).Pairwise (λa b=>¬c b a<0)) (h2:∀a∈j,c x a<0) (h1:∀g y,f=g++[y]->¬c x y<0):(f++x::j).Pairwise (λa b=>¬c b a<0):=by
 obtain⟨i,l,k⟩:=pairwise_append.1 s;have hx:∀a∈f,¬c x a<0:=by
  intro a ha;rcases eq_nil_or_concat f with h|⟨g,y,h⟩
  .rw[h]at ha;cases ha
  .have h:f=g++[y]:=(by simpa using h);have q:=h1 g y h;rw[h]at ha i;rcases Ej.1 ha with ha|ha
   .exact L.ntr x y a q ((pairwise_append.1 i).2.2 a ha y ψ)
   .simp only[Ea]at ha;subst ha;exact q
 refine pairwise_append.2 ⟨i,pairwise_cons.2 ⟨λa ha h=>L.irr x (L.trs x a x (h2 a ha) h),l⟩,λa ha b hb=>?_⟩;rcases Gi.1 hb with rfl|hb
 .exact hx a ha
 .exact k a ha b hb
theorem Avl {c:α->α->Int} (L:Py c) (f:List α) (A:∀x∈f,∀y∈f,cmp x y=some (c x y)) (J:f.length<=1099511627776) : ∃R,Aby cmp 0 (f.length:Int) f=some R/\R.Perm f/\R.Pairwise (λa b=>¬c b a<0):=by
 unfold Aby;cases f with
 | nil=>refine⟨[],?_,Perm.refl _,Pairwise.nil⟩;refine K1 0 (λ_=>((1:Int),([]:List α))) (by simp[Ac,Cl]) (λj hj=>ω) ⟨[],?_,rfl⟩;simp
 | cons z0 B=>
 generalize k:z0::B=f at *;have hpos:1<=f.length:=by rw[<-k];simp
 refine Et (λs=>∃(i:Nat) (S:List α),s=((i:Int),S++f.drop i)/\1<=i/\i<=f.length/\S.length=i/\S.Perm (f.take i)/\S.Pairwise (λa b=>¬c b a<0)) (λs=>f.length-s.1.toNat) (λR=>R.Perm f/\R.Pairwise (λa b=>¬c b a<0)) ⟨1,[z0],by rw[<-k];simp[Ac,Cl],ω,hpos,rfl,by rw[<-k];simp,pairwise_singleton _ _⟩ ?_ ?_
 .rintro _ ⟨i,S,rfl,G,hi,E,g,l⟩;rcases Cj i f.length with h|h
  .have hx:f[i]? = some f[i]:=Bs h;have hxm:f[i]∈f:=getElem_mem h;generalize f[i]=x at hx hxm;have D:f.drop i=x::f.drop (i+1):=Mm hx;have z:(S++x::f.drop (i+1)).length=f.length:=ζ;simp only[As (ω:(i:Int)<(f.length:Int)),Am,C5 h ω];rw[D];left;obtain⟨u,q,h1,h2,h3,I⟩:=A8l (cmp:=cmp) (c:=c) (N:=f.length) ω S.length S (f.drop (i+1)) x rfl (λt ht=>A x hxm t (mem_of_mem_take (g.mem_iff.1 ht))) (by rw[z];exact Nat.le_refl _);rw[E]at h1;have hp:(u++x::q).Perm (f.take (i+1)):=(by rw[C4 hx];have:(u++x::q).Perm ((u++q)++[x]):=(by rw[append_assoc];exact Perm.append_left u (perm_append_singleton x q).symm);exact this.trans (by rw[<-h2];exact g.append_right [x]));refine⟨(((i+1:Nat):Int),(u++x::q)++f.drop (i+1)),bnd h1 ψ,⟨i+1,u++x::q,rfl,ω,ω,?_,hp,?_⟩,ζ⟩
   .rw[hp.length_eq,length_take];omega
   .rw[h2]at l;exact A8m L l h3 I
  .have:i=f.length:=ω;subst this;rw[Db]at g;simp only[A5 (ω:¬(f.length:Int)<(f.length:Int)),Aq,drop_length,append_nil];exact .inr ⟨S,rfl,g,l⟩
 .rintro R ⟨h1,h2⟩;exact⟨R,rfl,h1,h2⟩
noncomputable def Ag9 (B:Nat) (gr:Int->Option (List α)) (a0:List (List α)):Option (List α) := (Ak (S:=(Int×Int)) (E:=Int) (λ(v2,v3)=> bif v3<(a0.length:Int) then ((Ag a0 v3).bind λv4=> bif (Ac (v2+(v4.length:Int)))<(0:Int) then (none) else (some (.inl ((Ac (v2+(v4.length:Int))),(Ac (v3+1)))))) else (some (.inr v2))) (0,0)).bind λv5=> (gr v5).bind λi=> (Ak (S:=(Int×(List α))) (E:=(List α)) (λ(b,c)=> bif b<(a0.length:Int) then ((Ag a0 b).bind λf=> (Cd B c f).bind λh=> some (.inl ((Ac (b+1)),h))) else (some (.inr c))) (0,i)).bind λg=> some g
theorem Ami {B:Nat} (g:B<=1024) {gr:Int->Option (List α)} (hg:∀n:Nat,n<=1000000->gr (n:Int)=some []) (a b:List α) (h:a.length+b.length<=1000000):Ag9 B gr [a,b]=some (a++b):=by
 have m1:a.length*B<=1000000*1024:=Nat.mul_le_mul ω g;have m2:(a.length+b.length)*B<=1000000*1024:=Nat.mul_le_mul h g;have f:Ac 1=1:=by rw[Ac,Cl] <;> omega
 have c:Ac 2=2:=by rw[Ac,Cl] <;> omega
 have k:Ac (a.length:Int)=(a.length:Int):=by rw[Ac,Cl] <;> omega
 have i:Ac ((a.length:Int)+(b.length:Int))=((a.length:Int)+(b.length:Int)):=by rw[Ac,Cl] <;> omega
 have i0:Ag [a,b] 0=some a:=rfl;have i1:Ag [a,b] 1=some b:=rfl;have q:Cd B [] a=some a:=by rw[D2 ζ];rfl
 have l:Cd B a b=some (a++b):=D2 ω;unfold Ag9;refine K1 2 (λj=>if j=0 then (0,0) else if j=1 then ((a.length:Int),1) else (((a.length+b.length:Nat):Int),2)) rfl ?_ ⟨((a.length+b.length:Nat):Int),?_,?_⟩
 .intro j hj;rcases (ω:j=0\/j=1) with rfl|rfl
  .have:¬((a.length:Int)<0):=ω;simp[i0,k,f,this]
  .have:¬((a.length:Int)+(b.length:Int)<0):=ω;simp[i1,i,c,this]
 .simp
 .rw[hg _ h,Ad];refine K1 2 (λj=>if j=0 then (0,[]) else if j=1 then (1,a) else (2,a++b)) rfl ?_ ⟨a++b,?_,rfl⟩
  .intro j hj;rcases (ω:j=0\/j=1) with rfl|rfl
   .simp[i0,f,q]
   .simp[i1,c,l]
  .simp
def sm:Nat->(Nat->Nat)->Nat
 | 0,_=>0
 | n+1,f=>sm n f+f n
theorem X6 {f g:Nat->Nat}:∀{n:Nat},(∀k,k<n->f k=g k)->sm n f=sm n g
 | 0,_=>rfl
 | n+1,h=>by rw[sm,sm,X6 (n:=n) λk hk=>h k ω,h n ω]
theorem Vj (f g:Nat->Nat):∀n,sm n (λk=>f k+g k)=sm n f+sm n g
 | 0=>rfl
 | n+1=>by simp only[sm,Vj f g n];omega
theorem Avm (c:Nat) (f:Nat->Nat):∀n,sm n (λk=>c*f k)=c*sm n f
 | 0=>rfl
 | n+1=>by simp only[sm,Avm c f n,Nat.mul_add]
theorem Vk {f:Nat->Nat}:∀{n:Nat},(∀k,k<n->f k=0)->sm n f=0
 | 0,_=>rfl
 | n+1,h=>by rw[sm,Vk (n:=n) λk hk=>h k ω,h n ω]
theorem Aha (f:Nat->Nat):∀n,sm (n+1) f=f 0+sm n (λk=>f (k+1))
 | 0=>by simp[sm]
 | n+1=>by rw[sm,Aha f n,sm];omega
theorem Avn {f:Nat->Nat} {n:Nat}:∀{m:Nat},n<=m->(∀k,n<=k->f k=0)->sm m f=sm n f
 | 0,h,_=>by rw[show n=0 by omega]
 | m+1,h,hf=>by
  by_cases e:n=m+1
  .rw[e]
  .rw[sm,Avn (m:=m) ω hf,hf m ω,Nat.add_zero]
theorem Abz {f:Nat->Nat} (hk:k<n) (hf:∀j,j≠k->f j=0):sm n f=f k:=by
 induction n with
 | zero=>omega
 | succ n ih=>
  rw[sm];by_cases e:k=n
  .subst e;rw[Vk λj hj=>hf j ω,Nat.zero_add]
  .rw[ih ω,hf n ω,Nat.add_zero]
theorem Vl:∀n,bc n n=1
 | 0=>rfl
 | n+1=>by
  rw[bc,Vl n]
  have:bc n (n+1)=0:=by have:=bc_big2 n (n+1) ω;exact this
  omega
where bc_big2:∀n k,n<k->bc n k=0
 | n,0,h=>absurd h ω
 | 0,k+1,_=>rfl
 | n+1,k+1,h=>by rw[bc,bc_big2 n k ω,bc_big2 n (k+1) ω]
theorem X7 (h:n<k):bc n k=0:=Vl.bc_big2 n k h
theorem X8 (n k:Nat):bc (n+1) (k+1)=bc n k+bc n (k+1):=by rw[bc]
def Rc (a b k:Nat):Nat:=if b<=k then bc k a*bc a (k-b) else 0
theorem Avo {b:Nat} (h:a+b<k):Rc a b k=0:=by unfold Rc;rw[Av ω,X7 (show a<k-b by omega),Nat.mul_zero]
theorem A8n {b:Nat} (h:k<a):Rc a b k=0:=by
 unfold Rc;split
 .rw[X7 h,Nat.zero_mul]
 .rfl
theorem Ab0 (b k:Nat):Rc 0 b k=if k=b then 1 else 0:=by
 unfold Rc;by_cases h:k=b
 .subst h;rw[Av (Nat.le_refl _),Av rfl,Nat.sub_self,J3,J3]
 .rw[Ar h];split
  .rw[X7 (show 0<k-b by omega),Nat.mul_zero]
  .rfl
theorem Ab1 (a k:Nat):Rc a 0 k=if k=a then 1 else 0:=by
 unfold Rc;rw[Av (Nat.zero_le _),Nat.sub_zero];by_cases h:k=a
 .subst h;rw[Av rfl,Vl]
 .rw[Ar h];rcases Cj k a with h2|h2
  .rw[X7 h2,Nat.zero_mul]
  .rw[X7 (show a<k by omega),Nat.mul_zero]
theorem Avp (a b k:Nat):Rc (a+1) (b+1) (k+1)=Rc a (b+1) k+Rc (a+1) b k+Rc a b k:=by
 unfold Rc;by_cases h:b<=k
 .rw[Av ω,Av h,Av h,show k+1-(b+1)=k-b by omega,X8];by_cases h2:b+1<=k
  .rw[Av h2];obtain⟨j,hj⟩:∃j,k-b=j+1:=⟨k-b-1,ω⟩;rw[hj,show k-(b+1)=j by omega,X8];simp only[Nat.add_mul,Nat.mul_add];omega
  .rw[Ar h2,show k-b=0 by omega,J3,J3];omega
 .rw[Ar ω,Ar h,Ar h,Ar ω]
theorem Avq (a b:Nat):Rc (a+1) (b+1) 0=0:=by unfold Rc;rw[Ar ω]
theorem A8o (f:Nat->Nat) (n N:Nat):sm (N+1) (λk=>f k*bc (n+1) k)=sm (N+1) (λk=>f k*bc n k)+sm N (λk=>f (k+1)*bc n k):=by
 rw[Aha,Aha (λk=>f k*bc n k),J3,J3];have:sm N (λk=>f (k+1)*bc (n+1) (k+1))=sm N (λk=>f (k+1)*bc n (k+1))+sm N (λk=>f (k+1)*bc n k):=by rw[<-Vj];exact X6 λk _=>by rw[X8,Nat.mul_add];omega
 rw[this];omega
theorem X9:∀(n a b N:Nat),a+b<N->sm N (λk=>Rc a b k*bc n k)=bc n a*bc n b
 | n,0,b,N,h=>by rw[J3,Nat.one_mul,Abz (k:=b) ω λj hj=>by rw[Ab0,Ar hj,Nat.zero_mul],Ab0,Av rfl,Nat.one_mul]
 | n,a+1,0,N,h=>by rw[J3,Nat.mul_one,Abz (k:=a+1) ω λj hj=>by rw[Ab1,Ar hj,Nat.zero_mul],Ab1,Av rfl,Nat.one_mul]
 | 0,a+1,b+1,N,h=>by rw[show bc 0 (a+1)=0 from rfl,Nat.zero_mul];refine Vk λk _=>?_;cases k with| zero=>rw[Avq,Nat.zero_mul]| succ k=>rw[show bc 0 (k+1)=0 from rfl,Nat.mul_zero]
 | n+1,a+1,b+1,N,h=>by obtain⟨N,rfl⟩:∃M,N=M+1:=⟨N-1,ω⟩;rw[A8o,X9 n (a+1) (b+1) (N+1) h];have h1:=X9 n a (b+1) N ω;have h2:=X9 n (a+1) b N ω;have h3:=X9 n a b N ω;have c:sm N (λk=>Rc (a+1) (b+1) (k+1)*bc n k)=sm N (λk=>Rc a (b+1) k*bc n k)+sm N (λk=>Rc (a+1) b k*bc n k)+sm N (λk=>Rc a b k*bc n k):=(by rw[<-Vj,<-Vj];exact X6 λk _=>by rw[Avp,Nat.add_mul,Nat.add_mul]);rw[c,h1,h2,h3,X8,X8,Nat.add_mul,Nat.mul_add,Nat.mul_add];omega
theorem A8p {f:Nat->Nat} (h:∀n,n<N->sm N (λk=>f k*bc n k)=sm N (λk=>g k*bc n k)):∀k,k<N->f k=g k:=by
 intro k;induction k using Nat.strongRecOn with
 | ind k ih=>
  intro hk;have cut:∀F:Nat->Nat,sm N (λj=>F j*bc k j)=sm k (λj=>F j*bc k j)+F k:=by
   intro F;have e:sm N (λj=>F j*bc k j)=sm (k+1) (λj=>F j*bc k j):=Avn ω λj hj=>by rw[X7 ω,Nat.mul_zero]
   rw[e,sm,Vl,Nat.mul_one]
  have:=h k hk;rw[cut f,cut g,X6 (f:=λj=>f j*bc k j) (g:=λj=>g j*bc k j) λj hj=>by rw[ih j hj ω]]at this;omega
theorem A8q:P3=some true:=κ
def Mr (l:List Bd):List Int:=l.flatMap λa=>a.L.T.map (·.v)
def Jt (m:A3):List Int:=m.F.map (·.v)++Mr m.A
def Hj (p:List Aj):List Int:=p.flatMap λt=>Jt t.M
theorem Avr (F:List α) (g:α->Int) (o:List Int) (h:o.length+F.length<=1000000) {J:Int×List Int->Option R} (k:J ((F.length:Int),o++F.map g)=some r) : (Ak (S:=(Int×List Int)) (E:=(Int×List Int)) (λ(v164,b)=> bif v164<(F.length:Int) then ((Ag F v164).bind λc=> (Cd 8 b [g c]).bind λi=> some (.inl ((Ac (v164+1)),i))) else some (.inr (v164,b))) (0,o)).bind J=some r:=by
 refine F6 F (λj=>((j:Int),o++(F.take j).map g)) ψ ω ?_ ?_
 .intro j f hj hf h1 h2 h3;simp only[h1,h2,h3,Am,Ad];rw[D2 ζ,C4 hf];simp
 .intro h1;exact⟨_,by simp only[h1];rfl,by rw[Db];exact k⟩
theorem A8r (f:α->List Int) (l:List α) (j:Nat):((l.take j).flatMap f).length<=(l.flatMap f).length:=by
 have:l.flatMap f=(l.take j).flatMap f++(l.drop j).flatMap f:=by rw[<-flatMap_append,take_append_drop]
 rw[this,Ek];omega
theorem Avs (f:α->List Int) {l:List α} {x:α} (h:l[j]? = some x):((l.take j).flatMap f).length+(f x).length<=(l.flatMap f).length:=by have:=A8r f l (j+1);rw[C4 h,flatMap_append]at this;simpa using this
theorem A8s (p:List Aj) (E:p.length<=1000000) (ha:∀t∈p,t.M.A.length<=1000000) (hb:(Hj p).length<=1000000) : ∃V,Y8 p=some V/\V.Pairwise (· < ·)/\V.length<=1000000/\∀y,y∈V↔y∈Hj p:=by
 obtain⟨m,o,c1,c2,c3⟩:=A8g ((Hj p).mergeSort λx y=>decide (x<=y)) (A8c _) (by rw[length_mergeSort];omega);refine⟨o.take m,?_,c3.up,?_,?_⟩
 .unfold Y8;refine F6 p (λj=>((j:Int),Hj (p.take j))) rfl ω ?_ ?_
  .intro j t hj ht h1 h2 h3;have q:=Bu ht;have B:=ha t q;have c:(Hj (p.take j)).length+(Jt t.M).length<=1000000:=Nat.le_trans (Avs (λt:Aj=>Jt t.M) ht) hb;unfold Jt at c;rw[Ek,C1]at c;simp only[h1,h2,h3,Am,Ad];refine Avr t.M.F (λf=>f.v) (Hj (p.take j)) ω ?_;dsimp only;refine F6 t.M.A (λi=>((i:Int),Hj (p.take j)++t.M.F.map (λf=>f.v)++Mr (t.M.A.take i))) (by simp[Mr]) ω ?_ ?_
   .intro i a hi g k z u;have A:(Mr (t.M.A.take i)).length+(a.L.T.map (·.v)).length<=(Mr t.M.A).length:=Avs (λa:Bd=>a.L.T.map (λl:Es=>l.v)) g;rw[C1]at A;simp only[k,z,u,Am,Ad];refine Avr a.L.T (λl=>l.v) _ (by simp only[Ek,C1];omega) ?_;show some (Sum.inl (_,_))=_;rw[C4 g];unfold Mr;rw[flatMap_append];simp
   .intro k;refine⟨_,by simp only[k];rw[Db];rfl,?_⟩;show some (Sum.inl (_,_))=_;rw[C4 ht];unfold Hj;rw[flatMap_append];simp[Jt]
  .intro h1;refine⟨Hj p,by simp only[h1];rw[Db];rfl,?_⟩;rw[A8b,Ad];unfold Gm;rw[Av (by rw[length_mergeSort]),Ad];have:Wn (Hj p).length ((Hj p).mergeSort λx y=>decide (x<=y))=some (m,o):=(by rw[<-c1,length_mergeSort]);rw[this,Ad];unfold Aea;rw[Av c2];rfl
 .have D:((o.take m).length:Nat)<=(Hj p).length:=by
   have s:(o.take m).Nodup:=c3.up.imp (λh=>ω);have b:∀y∈o.take m,y∈Hj p:=λy hy=>by have:=(c3.mem y).1 hy;rw[Db]at this;exact mem_mergeSort.1 this
   exact Nodup.length_le_of_subset s b
  omega
 .intro y;rw[c3.mem y,Db,mem_mergeSort]
theorem Avt (l:List Int) (b:l.length<=1099511627776):Wi l l=some true:=by
 unfold Wi;rw[Gb rfl,Aq];refine F6 l (λj=>(j:Int)) rfl ω ?_ ?_
 .intro j x hj hx h1 h2 h3;simp only[h1,h2,h3,Am,Ad,bne_self_eq_false,Aq]
 .intro h;exact⟨.inr (),by simp only[h];rfl,rfl⟩
theorem A8t (a:Ao) (h1:a.U.length<=1099511627776) (h2:a.B.length<=1099511627776):Rp a a=some true:=by unfold Rp;rw[beq_self_eq_true,Am,Avt _ h1,Ad,Am,Avt _ h2,Ad]
structure PSt (K:Nat) (n:Nat) (b:List Aj):Prop where
 le:n<=b.length
 cp:CP (b.take n)
 tm:∀t∈b.take n,RB K t.C/\MSz t.M
theorem PSt.mono {K c:Nat} {b:List Aj} (h:PSt K n b) (f:K<=c):PSt c n b:=⟨h.le,h.cp,λt ht=>⟨((h.tm t ht).1).mono f,(h.tm t ht).2⟩⟩
theorem Avu:∀(k:Nat) (t:Af) (a:Int),B3 t<=k->k<1099511627776->∃r,Rv k t a=some r/\True:=by
 intro k;induction k with
 | zero=>intro i a h;have:=J0 i;omega
 | succ k ih=>
  intro i a h hk;have f:=J0 i;have g:=Lr i.R;rw[Rv];refine Qp ⟨_,rfl,trivial⟩ ?_;refine Et (λ(v,_)=>∃j:Nat,v=j/\j<=i.R.length) (λ(v,_)=>i.R.length-v.toNat) (λ_=>True) ⟨0,rfl,ω⟩ ?_ ?_
  .rintro⟨v,b⟩ ⟨j,rfl,hj⟩;rcases Cj j i.R.length with h'|h'
   .have hx:i.R[j]? = some i.R[j]:=Bs h';generalize i.R[j]=x at hx;have l:=Kc (Bu hx);obtain⟨⟨y,z⟩,c,_⟩:=ih x b ω ω;simp only[As (ω:(j:Int)<(i.R.length:Int)),Am,Br rfl hx,Ad,c,C5 h' ω];cases y with| false=>exact .inr ⟨_,rfl,trivial⟩| true=>exact .inl ⟨_,rfl,⟨j+1,rfl,ω⟩,by simp only[Int.toNat_natCast];omega⟩
   .have:j=i.R.length:=ω;subst this;exact .inr ⟨.inr b,ψ,trivial⟩
  .rintro (⟨x,y⟩|e) _
   .exact⟨_,rfl,trivial⟩
   .exact⟨_,rfl,trivial⟩
theorem Avv (t:Af) (h:B3 t<=1048576):∃b,Wj t=some b:=by unfold Wj;obtain⟨r,h1,_⟩:=Avu 4000000 t 250 ω ω;exact⟨_,by rw[h1];rfl⟩
theorem A8u (l:List Af) (n:Int) (c:l.length<=1048576) (h:∀t∈l,B3 t<=1048576):∃b,Zd l n=some b/\True:=by
 unfold Zd;refine Et (λv=>∃j:Nat,v=j/\j<=l.length) (λv=>l.length-v.toNat) (λ_=>True) ⟨0,rfl,ω⟩ ?_ ?_
 .rintro v ⟨j,rfl,hj⟩;rcases Cj j l.length with h'|h'
  .have hx:l[j]? = some l[j]:=Bs h';generalize l[j]=x at hx;obtain⟨b,hb⟩:=Avv x (h x (Bu hx));simp only[As (ω:(j:Int)<(l.length:Int)),Am,Br rfl hx,Ad,hb,C5 h' ω];cases decide ((j:Int)<=n) with
   | false=>exact .inr ⟨_,rfl,trivial⟩
   | true=>cases b with| false=>exact .inr ⟨_,rfl,trivial⟩| true=>exact .inl ⟨_,rfl,⟨j+1,rfl,ω⟩,by simp only[Int.toNat_natCast];omega⟩
  .simp only[A5 (ω:¬(j:Int)<(l.length:Int)),Aq];exact .inr ⟨_,rfl,trivial⟩
 .rintro (r|r) _
  .exact⟨_,rfl,trivial⟩
  .exact⟨_,rfl,trivial⟩
theorem A8v (l:List Ai) (f:DSz l):∃b,Zc l=some b/\True:=by
 unfold Zc;have A:=f.len;refine Qp ⟨_,rfl,trivial⟩ ?_;refine Et (λv=>∃j:Nat,v=j/\j<=l.length) (λv=>l.length-v.toNat) (λ_=>True) ⟨0,rfl,ω⟩ ?_ ?_
 .rintro v ⟨j,rfl,hj⟩;rcases Cj j l.length with h'|h'
  .have hx:l[j]? = some l[j]:=Bs h';generalize l[j]=x at hx;obtain⟨c1,c2⟩:=f.sz x (Bu hx);simp only[As (ω:(j:Int)<(l.length:Int)),Am,Br rfl hx,Ad,C5 h' ω];have hq:∃q,(bif decide ((x.S.size:Int)>40) then some true else some (decide ((x.O.length:Int)>10)))=some q:=(by cases decide ((x.S.size:Int)>40) <;> exact⟨_,rfl⟩);obtain⟨q,hq⟩:=hq
   erw[hq];simp only[Ad];cases q with
   | true=>exact .inr ⟨_,rfl,trivial⟩
   | false=>
    simp only[Aq];have key:∀(W:Option (Int⊕(Bool⊕Unit))),(∃r,W=some r/\(r = .inl ((j+1:Nat):Int)\/∃e,r = .inr e))->(∃s',W=some (Sum.inl s')/\(∃j:Nat,s'=(j:Int)/\j<=l.length)/\l.length-s'.toNat<l.length-((j:Int)).toNat)\/∃e,W=some (Sum.inr e)/\True:=by
     rintro W ⟨r,rfl,rfl|⟨e,rfl⟩⟩
     .exact .inl ⟨_,rfl,⟨j+1,rfl,ω⟩,by simp only[Int.toNat_natCast];omega⟩
     .exact .inr ⟨_,rfl,trivial⟩
    refine key _ ?_;refine Et (λv=>∃j:Nat,v=j/\j<=x.O.length) (λv=>x.O.length-v.toNat) (λ_=>True) ⟨0,rfl,ω⟩ ?_ ?_
    .rintro v ⟨i,rfl,hi⟩;rcases Cj i x.O.length with h''|h''
     .have hy:x.O[i]? = some x.O[i]:=Bs h'';generalize x.O[i]=y at hy;have d1:=c2 y (Bu hy);have d2:=Lr y.R;simp only[As (ω:(i:Int)<(x.O.length:Int)),Am,Br rfl hy,Ad,C5 h'' ω];have hq:∃q,(bif decide ((y.S.size:Int)>40) then some true else some (decide ((y.R.length:Int)>8)))=some q:=(by cases decide ((y.S.size:Int)>40) <;> exact⟨_,rfl⟩);obtain⟨q,hq⟩:=hq
      erw[hq];simp only[Ad];cases q with
      | true=>exact .inr ⟨_,rfl,trivial⟩
      | false=>
       simp only[Aq];have key:∀(W:Option (Int⊕(Bool⊕Int))),(∃r,W=some r/\(r = .inl ((i+1:Nat):Int)\/∃e,r = .inr e))->(∃s',W=some (Sum.inl s')/\(∃j:Nat,s'=(j:Int)/\j<=x.O.length)/\x.O.length-s'.toNat<x.O.length-((i:Int)).toNat)\/∃e,W=some (Sum.inr e)/\True:=by
        rintro W ⟨r,rfl,rfl|⟨e,rfl⟩⟩
        .exact .inl ⟨_,rfl,⟨i+1,rfl,ω⟩,by simp only[Int.toNat_natCast];omega⟩
        .exact .inr ⟨_,rfl,trivial⟩
       refine key _ ?_;refine Et (λs=>∃j:Nat,s.1=j/\j<=y.R.length) (λs=>y.R.length-s.1.toNat) (λ_=>True) ⟨0,rfl,ω⟩ ?_ ?_
       .rintro⟨_,w⟩ ⟨u,rfl,hu⟩;rcases Cj u y.R.length with h3|h3
        .have c:y.R[u]? = some y.R[u]:=Bs h3;generalize y.R[u]=t at c;have z:=Kc (Bu c);obtain⟨⟨g,k⟩,h,_⟩:=Avu 4000000 t w ω ω;simp only[As (ω:(u:Int)<(y.R.length:Int)),Am,Br rfl c,Ad,h,C5 h3 ω];cases g with| false=>exact .inr ⟨_,rfl,trivial⟩| true=>exact .inl ⟨_,rfl,⟨u+1,rfl,ω⟩,by simp only[Int.toNat_natCast];omega⟩
        .simp only[A5 (ω:¬(u:Int)<(y.R.length:Int)),Aq];exact .inr ⟨_,rfl,trivial⟩
       .rintro (r|r) _
        .exact⟨_,rfl,.inr ⟨_,rfl⟩⟩
        .exact⟨_,rfl,.inl rfl⟩
     .simp only[A5 (ω:¬(i:Int)<(x.O.length:Int)),Aq];exact .inr ⟨_,rfl,trivial⟩
    .rintro (r|r) _
     .exact⟨_,rfl,.inr ⟨_,rfl⟩⟩
     .exact⟨_,rfl,.inl rfl⟩
  .simp only[A5 (ω:¬(j:Int)<(l.length:Int)),Aq];exact .inr ⟨_,rfl,trivial⟩
 .rintro (r|r) _
  .exact⟨_,rfl,trivial⟩
  .exact⟨_,rfl,trivial⟩
theorem A8w (x:B9) (f:CSz x):∃b,Y5 x=some b:=by unfold Y5;obtain⟨a,ha,_⟩:=A8v x.D f.ds;obtain⟨b,hb,_⟩:=A8u x.V 40 f.nv f.vs;obtain⟨c,hc⟩:=Avv x.E f.rs;rw[ha,hb,hc];cases a <;> cases b <;> exact⟨_,rfl⟩
theorem CP.dst {p:List Aj} (h:CP p):Dst p:=h.srt.imp λ{a b} c e=>by unfold ltT at c;rw[Qx.2 e]at c;omega
theorem Avw:Py (λt u:Aj=>Ey t.M u.M) where
 irr x:=by
  show ¬Ey x.M x.M<0
  rw[Aup];omega
 trs x y z h1 h2:=X1 h1 h2
 ntr x y z h1 h2:=by
  show ¬Ey x.M z.M<0
  have h1:¬Ey x.M y.M<0:=h1
  have h2:¬Ey y.M z.M<0:=h2
  intro h3
  rcases Int.lt_trichotomy (Ey x.M y.M) 0 with k|k|k
  .exact h1 k
  .rw[Qx.1 k]at h3;exact h2 h3
  .exact h2 (X1 (Alw.1 k) h3)
def Ahb (b:List Aj):List Aj:=b.mergeSort λt u=>decide (Ey t.M u.M<=0)
theorem Avx (b:List Aj):(Ahb b).Perm b:=mergeSort_perm _ _
theorem A8x (f:List Aj) (hd:Dst f):(Ahb f).Pairwise ltT:=by
 have h1:=pairwise_mergeSort (le:=λt u:Aj=>decide (Ey t.M u.M<=0)) (λa b c h1 h2=>by
  simp only[Du]at *
  have:=Avw.ntr c b a (by show ¬Ey _ _<0;rw[X0];omega) (by show ¬Ey _ _<0;rw[X0];omega)
  have this:¬Ey c.M a.M<0:=this
  rw[X0]at this;omega) (λa b=>by
  simp only[Bool.or_eq_true,Du]
  rw[X0 a.M b.M];omega) f
 have h2:(Ahb f).Pairwise λt u=>t.M≠u.M:=((Avx f).pairwise_iff (λ{x y} h=>h.symm)).2 hd
 refine (h1.and h2).imp λ{t u} h=>?_
 have a:=of_decide_eq_true h.1
 have b:Ey t.M u.M≠0:=λe=>h.2 (Qx.1 e)
 unfold ltT;omega
theorem A8y (b:List Aj) (hd:Dst b) (f:∀t∈b,MSz t.M):∃R,P9 b=some R/\R.Perm b/\R.Pairwise ltT:=by
 rcases Cj 12 b.length with h|h
 .have e:Nat.ble b.length 12=false:=(by cases k:Nat.ble b.length 12 with| false=>rfl| true=>have:=Nat.le_of_ble_eq_true k;omega);unfold P9;rw[e,Aq];obtain⟨r,g,j,law,hc,hp,i⟩:=Ap8 (cmp:=Qa) (l:=b) (r:=Ahb b) ⟨_,Avw,λx hx y _=>Amd x y (f x hx),Avx b,A8x b hd⟩;refine⟨r,g,hp,?_⟩;refine (Pairwise.imp_of_mem (S:=ltT) (λ{t u} ht hu h=>?_) i);have c:=hc t (hp.mem_iff.1 ht) u (hp.mem_iff.1 hu);rw[Amd t u (f t (hp.mem_iff.1 ht))]at c;have c:=Fp c;unfold ltT;rw[c];exact h
 .exact A7y b hd f h
theorem Amj (g:CSz x) (b:∀p∈ps,∀t∈p,TSz t) (i:ps.length<=1048576) (h:¬(Hq x/\∀p∈ps,I4 x.D x.V x.E p=true)):Na x ps=some (.inr false):=by
 obtain⟨r,f,c⟩:=Avd x g ps b i;rcases c with⟨h2,_⟩|⟨_,rfl⟩
 .exact (h h2).elim
 .exact f
theorem Amk (i:CSz x) (c:∀p∈ps,∀t∈p,TSz t) (k:ps.length<=1048576) (h:Hq x/\∀p∈ps,I4 x.D x.V x.E p=true):∃b,Na x ps=some (.inl (true,x,b,[],x.D,x.V,x.E.G,x.E.U,x.E.R))/\Ew x.D x.V x.E b:=by
 obtain⟨r,g,f⟩:=Avd x i ps c k;rcases f with⟨_,b,e,j⟩|⟨h2,_⟩
 .exact⟨b,by rw[g,e],j⟩
 .exact (h2 h).elim
structure PR (x:B9) (n:Nat) (f:A3->Rat) (R:List Aj):Prop where
 cp:CP R
 val:∀m,cf R m=f m
 tb:∀t∈R,Js x t.M/\RB 8589934592 t.C
 len:R.length<=n
theorem PR.of {m:Nat} {f g:A3->Rat} {R:List Aj} (h:PR x n f R) (b:n<=m) (hf:∀a,f a=g a):PR x m g R := ⟨h.cp,λa=>by rw[h.val,hf],h.tb,Nat.le_trans h.len b⟩
theorem I6.nil (x:B9):I6 x []:=⟨Abo.2 ⟨ψ,CP.nil,λt ht=>by cases ht⟩,λt ht=>by cases ht⟩
def J4 (l:List α) (r:List Bool):List α:=((l.zip r).filter λp=>!p.2).map (·.1)
def J5 (data:List Ai) (t:Af) (c:Int):List Af:=match Gx data t c with|some ts=>ts|none=>[]
def Pp {α:Type} (b:List (α->Nat)) (x:α) (f:Nat->Nat):Nat->Nat
 | 0=>f 0
 | q+1=>f (q+1)+f q*(match b[q]? with|some w=>w x|none=>0)
def dpS (b:List (α->Nat)) (l:List α):Nat->Nat:=l.foldl (λf x=>Pp b x f) (λq=>if q=0 then 1 else 0)
theorem Avy (b:List (α->Nat)) (l:List α) (x:α):dpS b (l++[x])=Pp b x (dpS b l):=by unfold dpS;rw[foldl_append];rfl
mutual
def bv (data:List Ai):Ah->Af->Ax->Nat
 | ⟨n,ks⟩,t,w=>if t.G=6 then bvs data ks t.R w.K else if t.G=7 then bc w.K.length n.toNat else if t.G=5 then dpS (bws data ks t) (Il data t.U w) ks.length else 1
def bvs (data:List Ai):List Ah->List Af->List Ax->Nat
 | i::is,t::ts,w::ws=>bv data i t w*bvs data is ts ws
 | [],_,_=>1
 | _::_,[],_=>1
 | _::_,_::_,[]=>1
def bws (data:List Ai):List Ah->Af->List (Ax->Nat)
 | [],_=>[]
 | ⟨n,ks⟩::es,t=>(λx=>if x.U=n then bvs data ks (J5 data t n) (J4 x.K (D7 data t.U n)) else 0)::bws data es t
end
theorem Nt (data:List Ai) (i:Ah) (t:Af) (w:Ax):bv data i t w=if t.G=6 then bvs data i.K t.R w.K else if t.G=7 then bc w.K.length i.U.toNat else if t.G=5 then dpS (bws data i.K t) (Il data t.U w) i.K.length else 1:=by cases i;simp only[bv]
theorem Sy (data:List Ai) (i:Ah) (is:List Ah) (t:Af) (ts:List Af) (w:Ax) (b:List Ax):bvs data (i::is) (t::ts) (w::b)=bv data i t w*bvs data is ts b:=by simp only[bvs]
theorem Sz (data:List Ai) (ts:List Af) (b:List Ax):bvs data [] ts b=1:=by simp only[bvs]
def wOf (data:List Ai) (t:Af) (e:Ah) (x:Ax):Nat:=if x.U=e.U then bvs data e.K (J5 data t e.U) (J4 x.K (D7 data t.U e.U)) else 0
theorem Ahc (data:List Ai) (t:Af):∀(es:List Ah) (q:Nat),(bws data es t)[q]? = (es[q]?).map (wOf data t)
 | [],q=>by simp[bws]
 | ⟨n,b⟩::es,0=>by simp only[bws,getElem?_cons_zero,Option.map_some];rfl
 | ⟨n,b⟩::es,q+1=>by simp only[bws,getElem?_cons_succ];exact Ahc data t es q
theorem Aml (data:List Ai):∀(is:List Ah) (ts:List Af) (b:List Ax) (j:Nat) (i:Ah) (t:Af) (w:Ax),is[j]? = some i->ts[j]? = some t->b[j]? = some w -> bvs data (is.take (j+1)) (ts.take (j+1)) (b.take (j+1))=bvs data (is.take j) (ts.take j) (b.take j)*bv data i t w
 | i' :: is,t' :: ts,w' :: b,0,i,t,w,h1,h2,h3=>by cases h1;cases h2;cases h3;simp only[take_succ_cons,take_zero,Sy,Sz,Nat.mul_one,Nat.one_mul]
 | i' :: is,t' :: ts,w' :: b,j+1,i,t,w,h1,h2,h3=>by have:=Aml data is ts b j i t w h1 h2 h3;rw[take_succ_cons,take_succ_cons,take_succ_cons,take_succ_cons,take_succ_cons,take_succ_cons,Sy,Sy,this,Nat.mul_assoc]
 | [],_,_,_,_,_,_,h,_,_=>by simp at h
 | _::_,[],_,_,_,_,_,_,h,_=>by simp at h
 | _::_,_::_,[],_,_,_,_,_,_,h=>by simp at h
theorem Ahd:∀n k,bc n k<=n ^ k
 | n,0=>by rw[J3];exact Nat.le_refl _
 | 0,k+1=>by simp[bc]
 | n+1,k+1=>by have h1:=Ahd n k;have h2:=Ahd n (k+1);have h3:n ^ k<=(n+1) ^ k:=Nat.pow_le_pow_left ω k;have b:n ^ (k+1)<=n*(n+1) ^ k:=(by rw[Nat.pow_succ,Nat.mul_comm];exact Nat.mul_le_mul_left _ h3);rw[bc,Nat.pow_succ,Nat.mul_add,Nat.mul_one,Nat.mul_comm];omega
theorem Avz {α:Type} (b:List (α->Nat)) (B:Nat) (E:Nat->Nat):∀(l:List α) (n:Nat) (f:Nat->Nat),(∀q,f q<=n ^ q*B ^ E q)->(∀x∈l,∀q w,b[q]? = some w->B ^ E q*w x<=B ^ E (q+1))->∀q,(l.foldl (λf x=>Pp b x f) f) q<=(n+l.length) ^ q*B ^ E q
 | [],n,f,hf,_,q=>hf q
 | x::l,n,f,hf,hw,q=>by
  rw[foldl_cons];have:=Avz b B E l (n+1) (Pp b x f) (λq=>?_) (λy hy=>hw y (by simp[hy])) q
  .rw[D6,show n+(l.length+1)=n+1+l.length by omega];exact this
  .cases q with
   | zero=>have:=hf 0;simpa[Pp] using this
   | succ q=>
    have h1:=hf (q+1);have h2:=hf q;have h3:f q*(match b[q]? with|some w=>w x|none=>0)<=n ^ q*B ^ E (q+1):=by cases h:b[q]? with| none=>simp| some w=>have j:=hw x ψ q w h;refine Nat.le_trans (Nat.mul_le_mul_right _ h2) ?_;rw[Nat.mul_assoc];exact Nat.mul_le_mul_left _ j
    have c:n ^ q<=(n+1) ^ q:=Nat.pow_le_pow_left ω q;have i:n ^ (q+1)+n ^ q<=(n+1) ^ (q+1):=(by rw[Nat.pow_succ,Nat.pow_succ,Nat.mul_add,Nat.mul_one];exact Nat.add_le_add (Nat.mul_le_mul_right _ c) c);have g:=Nat.mul_le_mul_right (B ^ E (q+1)) i;rw[Nat.add_mul]at g;show f (q+1)+_<=_;omega
theorem Av0 {α:Type} (b:List (α->Nat)) (B:Nat) (f:1<=B) (E:Nat->Nat) (l:List α) (hw:∀x∈l,∀q w,b[q]? = some w->B ^ E q*w x<=B ^ E (q+1)) (c:l.length<=B) (q:Nat):dpS b l q<=B ^ (q+E q):=by
 have h:=Avz b B E l 0 (λq=>if q=0 then 1 else 0) (λq=>by cases q with| zero=>have:0<B ^ E 0:=Nat.pow_pos ω;simp;omega| succ q=>simp) hw q
 refine Nat.le_trans h ?_;rw[Nat.zero_add,Nat.pow_add];exact Nat.mul_le_mul_right _ (Nat.pow_le_pow_left c q)
mutual
theorem Amm (data:List Ai) (d:Int):∀v,∀x∈Il data d v,Cp x<=Cp v
 | ⟨k,n,kids⟩=>λx hx=>by
  have h:=Av1 data d kids (D7 data d n)
  simp only[Il,Gi]at hx
  rcases hx with rfl|hx
  .exact Nat.le_refl _
  .have:=h x hx
   simp only[Cp];omega
theorem Av1 (data:List Ai) (d:Int):∀l r,∀x∈Im data d l r,Cp x<=D0 l
 | y::ys,b::bs=>λx hx=>by
  have h1:=Amm data d y
  have h2:=Av1 data d ys bs
  simp only[Im,Ej]at hx
  simp only[D0]
  rcases hx with hx|hx
  .cases b with
   | false=>simp at hx
   | true=>have:=h1 x (by simpa using hx);omega
  .have:=h2 x hx;omega
 | [],_=>λx hx=>by simp[Im]at hx
 | _::_,[]=>λx hx=>by simp[Im]at hx
end
variable {t:Af} {e:Ah} {x y:Ao} {data:List Ai} {ts:List Aj} {p:List Ao} {l:List Bd} {r:List Bool} {K N a b d j k n:Nat} {R α:Type} {Q:R->Prop}
def pdg (data:List Ai) (t:Af) (e:Ah):Nat:=match Cx data e.K (J5 data t e.U) with|some a=>a|none=>0
def pds (data:List Ai) (t:Af) (es:List Ah):Nat:=(es.map (pdg data t)).sum
theorem Ab2 (data:List Ai):∀(es:List Ah) (t:Af) (d:Nat),Fw data es t=some d->d=es.length+pds data t es/\∀e∈es,∃ts,Gx data t e.U=some ts/\Cx data e.K ts=some (pdg data t e)
 | [],t,d,h=>by simp only[Fw,Option.some.injEq]at h;subst h;exact⟨rfl,λe c=>by cases c⟩
 | e::es,t,d,h=>by
  rw[U2]at h;cases h1:Gx data t e.U with
  | none=>rw[h1]at h;cases h
  | some ts=>
   rw[h1,Ad]at h;cases h2:Cx data e.K ts with
   | none=>rw[h2]at h;cases h
   | some a=>
    rw[h2,Ad]at h;cases h3:Fw data es t with
    | none=>rw[h3]at h;cases h
    | some b=>
     rw[h3]at h;have h:1+a+b=d:=Fp h;obtain⟨g1,g2⟩:=Ab2 data es t b h3;have hp:pdg data t e=a:=(by unfold pdg J5;rw[h1];simp only[h2]);refine⟨by unfold pds at *;simp only[map_cons,sum_cons,D6,hp];omega,λx hx=>?_⟩;rcases Gi.1 hx with rfl|hx
     .exact⟨ts,h1,by rw[hp];exact h2⟩
     .exact g2 x hx
theorem Amn {es:List Ah} {q:Nat} (h:es[q]? = some e):pds data t (es.take (q+1))=pds data t (es.take q)+pdg data t e:=by unfold pds;rw[C4 h];simp
theorem A8z (data:List Ai) (t:Af) (es:List Ah) (q:Nat):pds data t (es.take q)<=pds data t es:=by
 have:pds data t es=pds data t (es.take q)+pds data t (es.drop q):=by unfold pds;rw[<-sum_append,<-map_append,take_append_drop]
 omega
theorem Amo {l:List α} {x:α} (h:x∈J4 l r):x∈l:=by unfold J4 at h;obtain⟨p,hp,rfl⟩:=mem_map.1 h;exact (of_mem_zip (a:=p.1) (b:=p.2) (mem_filter.1 hp).1).1
theorem Ya (data:List Ai) (B:Nat) (S:1<=B):∀n:Nat,(∀(i:Ah) (t:Af) (w:Ax) (d:Nat),Bv i<=n->Di data i t=some d->Cp w<=B->bv data i t w<=B ^ d) /\ (∀(is:List Ah) (ts:List Af) (f:List Ax) (d:Nat),Cb is<=n->Cx data is ts=some d->(∀w∈f,Cp w<=B)->bvs data is ts f<=B ^ d):=by
 intro n;induction n with
 | zero=>refine⟨λi t w d h=>by have:=El i;omega,λis ts f d h _ _=>?_⟩;have:=Pi is;have:is = []:=Gn.1 ω;subst this;rw[Sz];exact Nat.pow_pos ω
 | succ n ih=>
  have c:∀d,1<=B ^ d:=λd=>Nat.pow_pos ω;have key:∀(i:Ah) (t:Af) (w:Ax) (d:Nat),Bv i<=n+1->Di data i t=some d->Cp w<=B->bv data i t w<=B ^ d:=by
   intro i t w d hi hd hw;have M:=El i;have I:=Lv w;have J:=Vb w.K;rw[Nt];rw[Lu]at hd;by_cases z:t.G=6
   .rw[Av z]at hd ⊢;by_cases e:i.U=0
    .rw[Av e]at hd;exact ih.2 i.K t.R w.K d ω hd λx hx=>by have:=L7 hx;omega
    .rw[Ar e]at hd;cases hd
   .rw[Ar z]at hd ⊢;by_cases u:t.G=7
    .rw[Av u]at hd ⊢;by_cases e:0<=i.U/\i.U<=6/\i.K.length=0
     .rw[Av e]at hd;have hd:=Fp hd;rw[hd];exact Nat.le_trans (Ahd _ _) (Nat.pow_le_pow_left ω d)
     .rw[Ar e]at hd;cases hd
    .rw[Ar u]at hd ⊢;by_cases A:t.G=5
     .rw[Av A]at hd ⊢;have hd:Fw data i.K t=some d:=by
       by_cases e:i.U=0
       .rw[Av e]at hd;exact hd
       .rw[Ar e]at hd;cases hd
      obtain⟨h1,h2⟩:=Ab2 data _ _ _ hd;have L:=Als data t.U w;have:=Av0 (bws data i.K t) B S (λq=>pds data t (i.K.take q)) (Il data t.U w) (λx hx q wt hq=>by
       rw[Ahc]at hq;obtain⟨e,D,rfl⟩:=Option.map_eq_some_iff.1 hq;have g:=Bu D;obtain⟨ts,l,k⟩:=h2 e g;have G:=Amm data t.U w x hx;have N:=Kd g;have R:=El e;rw[Amn D,Nat.pow_add];refine Nat.mul_le_mul_left _ ?_;unfold wOf;split
       .have s:J5 data t e.U=ts:=(by unfold J5;rw[l]);rw[s];refine ih.2 e.K ts _ _ ω k λy hy=>?_;have hy:=Amo hy;have E:=L7 hy;have:=Lv x;omega
       .omega) ω i.K.length
      rw[Db]at this;rw[h1];exact this
     .rw[Ar A];exact c d
  refine⟨key,?_⟩;intro is;induction is with
  | nil=>intro ts f d _ _ _;rw[Sz];exact c d
  | cons i is j=>
   intro ts f d hi hd hw;cases ts with
   | nil=>rw[show bvs data (i::is) [] f=1 by simp only[bvs]];exact c d
   | cons t ts=>
    cases f with
    | nil=>rw[show bvs data (i::is) (t::ts) []=1 by simp only[bvs]];exact c d
    | cons w f=>
     simp only[Cb]at hi;rw[Nm]at hd;cases h1:Di data i t with
     | none=>rw[h1]at hd;cases hd
     | some a=>rw[h1,Ad]at hd;cases h2:Cx data is ts with| none=>rw[h2]at hd;cases hd| some b=>rw[h2]at hd;have hd:a+b=d:=Fp hd;rw[Sy,<-hd,Nat.pow_add];exact Nat.mul_le_mul (key i t w a ω h1 (hw w ψ)) (j ts f b ω h2 λy hy=>hw y (by simp[hy]))
theorem Amp {α:Type}:∀(l:List α) (r:List Bool) (s:Nat) (n:Nat) (p:Int) (L:Nat->Option α),l.length=r.length->(∀j,L (s+j)=l[j]?) -> (((r.zipIdx s).filter λq=>!q.1).map λq=>(q.2:Int))[n]? = some p->∃(m:Nat) (a:α),p=m/\L m=some a/\(J4 l r)[n]? = some a
 | [],[],s,n,p,L,_,_,h=>by simp at h
 | a::l,b::r,s,n,p,L,i,g,h=>by
  have c:l.length=r.length:=(by simpa using i);have f:∀j,L (s+1+j)=l[j]?:=λj=>by rw[show s+1+j=s+(j+1) by omega,g];rfl
  cases b with
  | true=>simp only[zipIdx_cons,filter_cons,bnt]at h;obtain⟨m,x,h1,h2,h3⟩:=Amp l r (s+1) n p L c f (by simpa using h);exact⟨m,x,h1,h2,by simpa[J4] using h3⟩
  | false=>simp only[zipIdx_cons,filter_cons,Bool.not_false,if_true,map_cons]at h;cases n with| zero=>simp only[getElem?_cons_zero,Option.some.injEq]at h;exact⟨s,a,h.symm,by have:=g 0;simpa using this,by simp[J4]⟩| succ n=>simp only[getElem?_cons_succ]at h;obtain⟨m,x,h1,h2,h3⟩:=Amp l r (s+1) n p L c f h;exact⟨m,x,h1,h2,by simpa[J4] using h3⟩
 | [],_::_,_,_,_,_,h,_,_=>by simp at h
 | _::_,[],_,_,_,_,h,_,_=>by simp at h
theorem A80 {l:List α} (b:l.length=r.length) {p:Int} (h:(I3 r)[n]? = some p):∃(m:Nat) (a:α),p=m/\l[m]? = some a/\(J4 l r)[n]? = some a := Amp l r 0 n p (λj=>l[j]?) b (λj=>ψ) (by unfold I3 at h;exact h)
theorem Amq (ha:Ck a<=K) (hb:Ck b<=K) (c:1<=K) (h:K<60000000000):Fa (cR a) (cR b)=some (cR (a*b)):=by obtain⟨a1,a2,a3⟩:=Sw a;obtain⟨b1,b2,f⟩:=Sw b;rw[Agn _ _ K K (Oj ha c) (Oj hb c) ω ω,a1,a2,a3,b1,b2,f];simp[cR]
def Sm (a:Nat):Prop:=a<=5000 ^ 6
theorem Sm.lg (h:Sm a):Ck a<=3:=Kz (Nat.lt_of_le_of_lt h δ)
theorem Sm.of (h:a<=5000 ^ d) (hd:d<=6):Sm a:=Nat.le_trans h (Nat.pow_le_pow_right δ hd)
theorem Ab3 (data:List Ai):∀(is:List Ah) (ts:List Af) (d j:Nat),Cx data is ts=some d->∃e,Cx data (is.take j) (ts.take j)=some e/\e<=d
 | [],[],d,j,_=>⟨0,by simp[Cx],ω⟩
 | i::is,t::ts,d,0,_=>⟨0,by simp[Cx],ω⟩
 | i::is,t::ts,d,j+1,h=>by
  rw[Nm]at h;cases h1:Di data i t with
  | none=>rw[h1]at h;cases h
  | some a=>rw[h1,Ad]at h;cases h2:Cx data is ts with| none=>rw[h2]at h;cases h| some b=>rw[h2]at h;have h:a+b=d:=Fp h;obtain⟨e,c,f⟩:=Ab3 data is ts b j h2;refine⟨a+e,?_,ω⟩;rw[take_succ_cons,take_succ_cons,Nm,h1,Ad,c];rfl
 | [],_::_,_,_,h=>by simp only[Cx]at h;cases h
 | _::_,[],_,_,h=>by simp only[Cx]at h;cases h
theorem A81 {is:List Ah} {ts:List Af} {b:List Ax} (h:Cx data is ts=some d) (hd:d<=6) (hw:∀w∈b,Cp w<=5000) (j:Nat):Sm (bvs data (is.take j) (ts.take j) (b.take j)):=by obtain⟨e,c,f⟩:=Ab3 data is ts d j h;exact Sm.of ((Ya data 5000 δ _).2 _ _ _ e (Nat.le_refl _) c λw hx=>hw w (mem_of_mem_take hx)) ω
theorem A82 (R:Szv data) (hk:t.G=5) {x:Ax} {ts:List Af} (hx:G9 data x t=true) (z:x.U=e.U) (b:Gx data t e.U=some ts) : (Mq data t e).types=ts/\(I3 (D7 data t.U e.U)).length=ts.length/\ts.length<=6/\(∀a∈ts,B3 a<=200) /\ ∀(j:Nat) (s:Int),(I3 (D7 data t.U e.U))[j]? = some s->∃(m:Nat) (a:Af) (w:Ax),s=m/\ts[j]? = some a/\x.K[m]? = some w/\(J4 x.K (D7 data t.U e.U))[j]? = some w/\G9 data w a=true/\Cp w<=Cp x:=by
 have D:=b;unfold Gx at b;cases hf:Jh data t e.U with
 | none=>rw[hf]at b;cases b
 | some fl=>
  rw[hf]at b;have b:F7 fl (D7 data t.U e.U)=ts:=Fp b;have g:=Xn hf;have c:Hy data x.K fl=true:=(by rw[Su,Ar ω,Ar ω,Ar ω,Ar ω,Av hk]at hx;rw[z,hf]at hx;simp only[Ct]at hx;exact hx.2);have u:x.K.length=fl.length:=by
   by_cases I:x.K.length=fl.length
   .exact I
   .rw[Abk data _ _ I]at c;cases c
  have J:fl.length<=6:=(by obtain⟨M,y,_,A,_,hy,E,_⟩:=Ph hf;obtain⟨L,_⟩:=R M (Hc A).2.2.2 y (Hc hy).2.2.2;rw[E];simpa using L);have U:=Xo fl (D7 data t.U e.U);have h:=A77 fl (D7 data t.U e.U) g.symm;have S:=Lv x;refine⟨by unfold Mq;simp only[hf,b],by rw[h,b],by rw[<-b];omega,(Af4 D).1,λj s k=>?_⟩;obtain⟨m,a,rfl,G,q⟩:=A76 g.symm k;obtain⟨N,w,V,f,B⟩:=A80 (l:=x.K) ω k;obtain rfl:m=N:=ω;rw[b]at q;refine⟨m,a,w,rfl,q,f,B,?_,?_⟩
  .rw[Abl data _ _ u]at c;exact G7.1 c (w,a) (Bu (i:=m) (by rw[getElem?_zip_eq_some];exact⟨f,G⟩))
  .have:=L7 (Bu f);omega
theorem A83 (hz:Szv data) (hk:t.G=5) (l:List Ah) (hp:∀e∈l,∃ts,Gx data t e.U=some ts/\Cx data e.K ts=some (pdg data t e)) (bi:l.length+pds data t l<=6) (k:Nat) (b7:∀e∈l,∀(i':Ah) (t':Af) (w:Ax) (d:Nat),i'∈e.K->Di data i' t'=some d->d<=6->B3 t'<=200->G9 data w t'=true->Cp w<=5000->N7 k data t' i' w=some (cR (bv data i' t' w))) (x:Ax) (hx:G9 data x t=true) (bb:Cp x<=5000) (f:Nat->Nat) (hf:∀q,q<=l.length->f q<=5000 ^ (q+pds data t (l.take q))) (b5:∀q,q<=l.length->Pp (bws data l t) x f q<=5000 ^ (q+pds data t (l.take q))) {J:Int×List Ao->Option R} {r:R} (hJ:J (0,Jl l.length (Pp (bws data l t) x f))=some r) : (Ak (S:=(Int×List Ao)) (E:=(Int×List Ao)) (λ(c,u)=> bif c>(0:Int) then ((Ag (l.map (Mq data t)) (Ac (c-1))).bind λz=> (show OB from bif (z.con != x.U) then some true else ((Ag u (Ac (c-1))).bind λaf=> (Ir af).bind λae=> some (ae==(0:Int)))).bind λad=> bif ad then some (.inl ((Ac (c-1)),u)) else ((Ag u (Ac (c-1))).bind λI=> (Ak (S:=(Int×Bool×List Int×List Int)) (E:=(Int×Bool×List Int×List Int)) (λ(y,X,v226,v227)=> bif y<(z.places.length:Int) then ((Ag z.places y).bind λv228=> (Ag z.types y).bind λv229=> (Ag z.kids y).bind λac=> (Ag x.K v228).bind λab=> (N7 k data v229 ac ab).bind λv232=> (Fa (Ao.mk X v226 v227) v232).bind λv233=> some (.inl ((Ac (y+1)),v233.N,v233.U,v233.B))) else some (.inr (y,X,v226,v227))) (0,I.N,I.U,I.B)).bind λ(v234,aa,v236,a8)=> (Ag u c).bind λG=> (Jd G (Ao.mk aa v236 a8)).bind λa7=> (Ag u c).bind λb9=> some (.inl ((Ac (c-1)),(Cu u c a7)))))
   else some (.inr (c,u))) ((l.length:Int),Jl l.length f)).bind J=some r:=by
 generalize hg:Pp (bws data l t) x f=g at hJ b5;have sm:∀q,q<=l.length->q+pds data t (l.take q)<=6:=λq hq=>by have:=A8z data t l q;omega
 refine K1 l.length (λi=>(((l.length-i:Nat):Int),Jl l.length (λp=>if l.length-i<p then g p else f p))) ?_ ?_ ?_
 .simp only[Nat.sub_zero,Int.ofNat_eq_natCast];congr 1;exact Amg (λp hp=>by rw[Ar ω])
 .intro i hi;obtain⟨q,hq⟩:∃q:Nat,l.length-i=q+1:=⟨l.length-i-1,ω⟩;have hq':l.length-(i+1)=q:=ω;have U:q+1<=l.length:=ω;have he:l[q]? = some l[q]:=Bs ω;generalize l[q]=e at he;have ap:=Bu he;have w1:Ac (((q+1:Nat):Int)-1)=((q:Nat):Int):=(by rw[show (((q+1:Nat):Int)-1)=(q:Int) by omega,Ac,Cl] <;> omega);have b6:Ag (l.map (Mq data t)) (q:Int)=some (Mq data t e):=Br rfl (by rw[getElem?_map,he];rfl);have a1:g (q+1)=f (q+1)+f q*wOf data t e x:=(by rw[<-hg];simp only[Pp,Ahc,he,Option.map_some]);simp only[hq,hq',As (ω:((q+1:Nat):Int)>0),Am,w1,b6,Ad];have ao:Ag (Jl l.length (λp=>if q+1<p then g p else f p)) (q:Int)=some (cR (f q)):=(by rw[Br rfl (Sx _ ω),Ar ω]);have b4:Ag (Jl l.length (λp=>if q+1<p then g p else f p)) ((q+1:Nat):Int)=some (cR (f (q+1))):=(by rw[Br rfl (Sx _ ω),Ar ω]);have L:g (q+1)=f (q+1)->Jl l.length (λp=>if q+1<p then g p else f p)=Jl l.length (λp=>if q<p then g p else f p):=λY=>Amg (λp hp=>by
   by_cases e2:q+1<p
   .rw[Av e2,Av ω]
   .rw[Ar e2];by_cases e3:q<p
    .rw[Av e3,show p=q+1 by omega,Y]
    .rw[Ar e3]);show ((bif (e.U != x.U) then some true else _).bind _)=_;by_cases B:x.U=e.U
  .rw[Gb B.symm];have sq:=Sm.of (hf q ω) (sm q ω);have aq:=Sm.of (hf (q+1) U) (sm (q+1) U);simp only[Aq,ao,Ad,A75 sq.lg δ δ];by_cases a6:f q=0
   .rw[Av a6];simp only[beq_self_eq_true,Am];rw[L (by rw[a1,a6,Nat.zero_mul,Nat.add_zero])]
   .rw[Ar a6];have b8:((1:Int)==0)=false:=rfl;simp only[b8,Aq,ao,Ad];obtain⟨ts,ah,ag⟩:=hp e ap;obtain⟨ay,ai,ba,az,ak⟩:=A82 hz hk hx B ah;have b0:(Mq data t e).places=I3 (D7 data t.U e.U):=rfl;have b3:(Mq data t e).kids=e.K:=rfl;rw[ay,b0,b3];obtain⟨i1,i2⟩:=X4 data _ _ _ ag;have bh:q+1+pds data t (l.take q)+pdg data t e<=6:=(by have:=sm (q+1) U;rw[Amn he]at this;omega);generalize Z:J4 x.K (D7 data t.U e.U)=D at ak;have ar:∀w∈D,Cp w<=5000:=λw hw=>by rw[<-Z]at hw;have:=L7 (Amo hw);have:=Lv x;omega
    have M:∀j,Sm (f q*bvs data (e.K.take j) (ts.take j) (D.take j)):=λj=>by obtain⟨e',Y,e2⟩:=Ab3 data e.K ts _ j ag;have h1:=(Ya data 5000 δ _).2 _ _ (D.take j) e' (Nat.le_refl _) Y λw hx=>ar w (mem_of_mem_take hx);have h2:=Nat.mul_le_mul (hf q ω) h1;rw[<-Nat.pow_add]at h2;exact Sm.of h2 ω
    have av:wOf data t e x=bvs data e.K ts D:=(by unfold wOf;rw[Av B,Z];unfold J5;rw[ah]);refine F6 (I3 (D7 data t.U e.U)) (λj=>((j:Int),(cR (f q*bvs data (e.K.take j) (ts.take j) (D.take j))).N,(cR (f q*bvs data (e.K.take j) (ts.take j) (D.take j))).U,(cR (f q*bvs data (e.K.take j) (ts.take j) (D.take j))).B)) ?_ ω ?_ ?_
    .simp only[take_zero,Sz,Nat.mul_one];rfl
    .intro j pl hj aj h1 h2 h3;obtain⟨mm,a,w,rfl,V,hw,au,ax,be⟩:=ak j pl aj;have N:e.K[j]? = some (e.K[j]' ω):=Bs _;generalize e.K[j]'_=i' at N;obtain⟨d,d1,d2⟩:=i2 j i' a N V;have hb:=Sm.of ((Ya data 5000 δ _).1 i' a w d (Nat.le_refl _) d1 ω) ω;simp only[h1,h2,h3,Am,Ad,Br rfl V,Br rfl N,Br rfl hw];rw[b7 e ap i' a w d (Bu N) d1 ω (az a (Bu V)) ax ω,Ad];show (Fa (cR (f q*bvs data (e.K.take j) (ts.take j) (D.take j))) (cR (bv data i' a w))).bind _=_;rw[Amq (M j).lg hb.lg δ δ,Aml data _ _ _ j i' a w N V au,Nat.mul_assoc];rfl
    .intro h1;refine⟨_,by simp only[h1];rfl,?_⟩;have A:=M (I3 (D7 data t.U e.U)).length;have bf:D.length=ts.length:=by
      have:∀(l:List Ax) (r:List Bool),l.length=r.length->(J4 l r).length=(I3 r).length:=by
       intro l r hl;unfold J4 I3;rw[C1,C1];have key:∀(l:List Ax) (r:List Bool) (s:Nat),l.length=r.length->((r.zipIdx s).filter λq=>!q.1).length=((l.zip r).filter λp=>!p.2).length:=by
        intro l;induction l with
        | nil=>intro r s h;have:r = []:=Gn.1 h.symm;subst this;rfl
        | cons a l ih=>intro r s h;cases r with| nil=>simp at h| cons b r=>have:=ih r (s+1) (by simpa using h);cases b <;> simp[this]
       exact (key l r 0 hl).symm
      obtain⟨_,_,_,_,am,_⟩:=Ags hk hx;rw[<-Z,this _ _ (by rw[<-am,B]),ai]
     rw[ai]at A ⊢;have Y:e.K.take ts.length=e.K:=Ii ω;have e2:D.take ts.length=D:=Ii ω;rw[Y,e2,Db]at A ⊢;show ((Ag _ _).bind λG=>(Jd G (cR (f q*bvs data e.K ts D))).bind _)=_;rw[b4];simp only[Ad];rw[A74 (aq.lg) A.lg δ δ];simp only[Ad,w1];congr 3;refine Avi U ?_ ?_
     .rw[Av ω,a1,av]
     .intro p hp bg;by_cases Y:q+1<p
      .rw[Av ω,Av Y]
      .rw[Ar ω,Ar Y]
  .rw[F2 (λe=>B e.symm)];simp only[Ad,Am];rw[L (by rw[a1,show wOf data t e x=0 by unfold wOf;rw[Ar B],Nat.mul_zero,Nat.add_zero])]
 .refine⟨(0,Jl l.length g),?_,hJ⟩;simp only[Nat.sub_self];have:Jl l.length (λp=>if 0<p then g p else f p)=Jl l.length g:=Amg (λp hp=>by
   by_cases e:0<p
   .rw[Av e]
   .have:p=0:=ω;subst this;rw[Ar e,<-hg];rfl);rw[this];rfl
theorem A84 (z:Szv data) (L:Ml data) (X:∀x∈data,x.O.length<=8) (hk:t.G=5) (ht:B3 t<=200) (l:List Ah) (hp:∀e∈l,∃ts,Gx data t e.U=some ts/\Cx data e.K ts=some (pdg data t e)) (E:l.length+pds data t l<=6) (v:Ax) (hv:Cp v<=5000) (M:G9 data v t=true) (k:Nat) (J:∀e∈l,∀(i':Ah) (t':Af) (w:Ax) (d:Nat),i'∈e.K->Di data i' t'=some d->d<=6->B3 t'<=200->G9 data w t'=true->Cp w<=5000->N7 k data t' i' w=some (cR (bv data i' t' w))) : Wx (k+1) data t l v=some (cR (dpS (bws data l t) (Il data t.U v) l.length)):=by
 have V:=Als data t.U v;rw[Wx];refine F6 l (λj=>((j:Int),(l.take j).map (Mq data t))) ψ ω ?_ ?_
 .intro j e hj s h1 h2 h3;obtain⟨ts,b,_⟩:=hp e (Bu s);unfold Gx at b;cases hf:Jh data t e.U with| none=>rw[hf]at b;cases b| some fl=>have D:=Xn hf;have h:fl.length<=6:=(by obtain⟨R,y,_,A,_,hy,G,_⟩:=Ph hf;obtain⟨N,_⟩:=z R (Hc A).2.2.2 y (Hc hy).2.2.2;rw[G];simpa using N);simp only[h1,h2,h3,Am,Ad,Abc z t ht,Xm data t.U e.U L,hf,okL];refine A78 fl (D7 data t.U e.U) D h ?_;show (Cd 80 _ [_]).bind _=_;rw[D2 ζ,Ad,C4 s,map_append];congr 4;show [_] = [Mq data t e];unfold Mq;rw[hf]
 .intro h1;refine⟨l.map (Mq data t),by simp only[h1];rw[Db];rfl,?_⟩;have Z:Ac ((((l.map (Mq data t)).length:Nat):Int)+1)=((l.length+1:Nat):Int):=(by rw[C1,Ac,Cl] <;> omega);rw[Z,Nk (n:=l.length+1) (c:=l.length+1) rfl rfl ω ω ω,Ad];refine A79 (l.length+1) ω ?_;have I:Ag (replicate (l.length+1) (cR 0)) 0=some (cR 0):=Br (n:=0) rfl (by rw[getElem?_replicate,Av ω]);rw[L9,Ad,I,Ad,A6u L X hk v hv M,Ad];have Y:Cu (replicate (l.length+1) (cR 0)) 0 (cR 1)=Jl l.length (dpS (bws data l t) []):=by
   have:replicate (l.length+1) (cR 0)=Jl l.length (λ_=>0):=by
    apply ext_getElem?;intro i;rcases Cj i (l.length+1) with hi|hi
    .rw[Sx _ ω,getElem?_replicate,Av hi]
    .rw[Lq (by simpa using hi),Lq (by rw[Vi];exact hi)]
   rw[this];refine Avi (q:=0) ω rfl ?_;intro p _ hp;show (if p=0 then 1 else 0)=0;rw[Ar hp]
  rw[Y];have f:∀x∈Il data t.U v,∀q w,(bws data l t)[q]? = some w->5000 ^ pds data t (l.take q)*w x<=5000 ^ pds data t (l.take (q+1)):=by
   intro x hx q wt hq;rw[Ahc]at hq;obtain⟨e,s,rfl⟩:=Option.map_eq_some_iff.1 hq;obtain⟨ts,b,B⟩:=hp e (Bu s);have U:=Amm data t.U v x hx;rw[Amn s,Nat.pow_add];refine Nat.mul_le_mul_left _ ?_;unfold wOf;split
   .rw[show J5 data t e.U=ts by unfold J5;rw[b]];refine (Ya data 5000 δ _).2 e.K ts _ _ (Nat.le_refl _) B λy hy=>?_;have S:=L7 (Amo hy);have:=Lv x;omega
   .exact Nat.zero_le _
  have u:∀j q,dpS (bws data l t) ((Il data t.U v).take j) q<=5000 ^ (q+pds data t (l.take q)):=λj q=>
   Av0 _ 5000 δ (λq=>pds data t (l.take q)) _ (λx hx=>f x (mem_of_mem_take hx)) (by rw[length_take];omega) q
  refine F6 (Il data t.U v) (λj=>((j:Int),Jl l.length (dpS (bws data l t) ((Il data t.U v).take j)))) rfl ω ?_ ?_
  .intro j x hj hx h1 h2 h3;have hxm:=Avh hk _ v (Nat.le_refl _) M x (Bu hx);have g:Pp (bws data l t) x (dpS (bws data l t) ((Il data t.U v).take j))=dpS (bws data l t) ((Il data t.U v).take (j+1)):=(by rw[C4 hx,Avy]);simp only[h1,h2,h3,Am,Ad];rw[show (((l.map (Mq data t)).length:Nat):Int)=(l.length:Int) by rw[C1]];refine A83 z hk l hp E k J x hxm.1 ω _ (λq _=>u j q) (λq _=>by rw[g];exact u (j+1) q) ?_;rw[g]
  .intro h1;refine⟨_,by simp only[h1];rw[Db];rfl,?_⟩;rw[Br (n:=l.length) ψ (Sx _ (Nat.le_refl _))];rfl
theorem A85 (L:Szv data) (U:Ml data) (h8:∀x∈data,x.O.length<=8):∀(n:Nat) (i:Ah) (t:Af) (w:Ax) (k d:Nat),Bv i<=n->2*n<=k->n<1099511627776->Di data i t=some d->d<=6->B3 t<=200->G9 data w t=true->Cp w<=5000->N7 k data t i w=some (cR (bv data i t w)):=by
 intro n;induction n with
 | zero=>intro i t w k d h;have:=El i;omega
 | succ n ih=>
  intro i t w k d hi hk hn hd E ht l hw;obtain⟨k,rfl⟩:∃J,k=J+2:=⟨k-2,ω⟩;have Y:=El i;have M:=Lv w;rw[N7,L9,Nt];simp only[Ad];rw[Lu]at hd;rw[Su]at l;by_cases f:t.G=6
  .rw[Eu f,Av f];rw[Av f]at hd;rw[Ar ω,Ar ω,Ar ω,Av f]at l;simp only[Ct]at l;have c:=l.2;have hd:Cx data i.K t.R=some d:=by
    by_cases e:i.U=0
    .rw[Av e]at hd;exact hd
    .rw[Ar e]at hd;cases hd
   obtain⟨i1,i2⟩:=X4 data _ _ _ hd;have z:w.K.length=t.R.length:=by
    by_cases I:w.K.length=t.R.length
    .exact I
    .rw[Abk data _ _ I]at c;cases c
   have R:=J0 t;have S:=Lr t.R;have y:∀x∈w.K,Cp x<=5000:=λx hx=>by have:=L7 hx;omega
   have hS:=A81 hd E y;rw[Am];refine F6 t.R (λj=>((j:Int),(cR (bvs data (i.K.take j) (t.R.take j) (w.K.take j))).N,(cR (bvs data (i.K.take j) (t.R.take j) (w.K.take j))).U,(cR (bvs data (i.K.take j) (t.R.take j) (w.K.take j))).B)) (by simp only[take_zero,Sz];rfl) ω ?_ ?_
   .intro j a hj ha h1 h2 h3;have b:i.K[j]? = some (i.K[j]' ω):=Bs _;generalize i.K[j]'_=i' at b;have hu:w.K[j]? = some (w.K[j]' ω):=Bs _;generalize w.K[j]'_=u at hu;obtain⟨e,d1,d2⟩:=i2 j i' a b ha;have N:=L7 (Bu hu);have Z:=Kd (Bu b);have a1:=Kc (Bu ha);have B:G9 data u a=true:=(by rw[Abl data _ _ z]at c;exact G7.1 c (u,a) (Bu (i:=j) (by rw[getElem?_zip_eq_some];exact⟨hu,ha⟩)));have hb:=Sm.of ((Ya data 5000 δ _).1 i' a u e (Nat.le_refl _) d1 ω) ω;simp only[h1,h2,h3,Am,Ad,Br rfl b,Br rfl hu];rw[ih i' a u (k+1) e ω ω ω d1 ω ω B ω,Ad];show (Fa (cR (bvs data (i.K.take j) (t.R.take j) (w.K.take j))) (cR (bv data i' a u))).bind _=_;rw[Amq (hS j).lg hb.lg δ δ,Aml data _ _ _ j i' a u b ha hu];rfl
   .intro h1;refine⟨_,by simp only[h1];rfl,?_⟩;have e1:i.K.take t.R.length=i.K:=Ii ω;have e2:w.K.take t.R.length=w.K:=Ii ω;rw[e1,e2,Db]
  .rw[Ar f]at hd ⊢;rw[C3 f,Aq];by_cases q:t.G=7
   .rw[Eu q,Am,Av q];rw[Av q]at hd;have X:=Vb w.K;by_cases e:0<=i.U/\i.U<=6/\i.K.length=0
    .obtain⟨m,V⟩:∃m:Nat,i.U=m:=⟨i.U.toNat,ω⟩;rw[V];first|rw[Avg _ _ ω ω,Ad] | rw[Avf _ _ ω ω,Ad]
     rw[Int.toNat_natCast]
    .rw[Ar e]at hd;cases hd
   .rw[Ar q]at hd ⊢;rw[C3 q,Aq];by_cases g:t.G=5
    .rw[Eu g,Am,Av g];rw[Av g]at hd;have hd:Fw data i.K t=some d:=by
      by_cases e:i.U=0
      .rw[Av e]at hd;exact hd
      .rw[Ar e]at hd;cases hd
     obtain⟨h1,h2⟩:=Ab2 data _ _ _ hd;rw[<-Su]at l;rw[A84 L U h8 g ht i.K h2 ω w hw l k (λe he i' t' u d' b G s D hu A=>by have h3:=Kd b;have h4:=El e;have h5:=Kd he;exact ih i' t' u k d' ω ω ω G s D hu A),Ad]
    .rw[C3 g,Aq,Ar g]
def Fc:Nat:=1000000000 ^ 100
structure Np (x:Ao) (a:Nat):Prop where
 rb:RB 200 x
 s:sv x=false
 n:nv x=a
 d:dv x=1
theorem Amr (h:a<Fc):Ck a<=100:=Kz h
theorem Np.cR (h:Ck a<=200):Np (cR a) a:=⟨Oj h δ,(Sw a).1,(Sw a).2.1,(Sw a).2.2⟩
theorem Np.c (h:a<Fc):Np (Ab.cR a) a:=Np.cR (by have:=Amr h;omega)
theorem Np.z:Np ⟨false,[],[]⟩ 0:=⟨A6x 200,by unfold sv;simp,by unfold nv;simp[Au],by unfold dv;simp[Au]⟩
theorem Np.add (hx:Np x a) (hy:Np y b):Jd x y=some (Ab.cR (a+b)):=by rw[Ago _ _ 200 200 hx.rb hy.rb ω ω,hx.s,hx.n,hx.d,hy.s,hy.n,hy.d];simp[Pn,Mo,Ab.cR]
theorem Np.mul (hx:Np x a) (hy:Np y b):Fa x y=some (Ab.cR (a*b)):=by rw[Agn _ _ 200 200 hx.rb hy.rb ω ω,hx.s,hx.n,hx.d,hy.s,hy.n,hy.d];simp[Ab.cR]
theorem Np.sign (hx:Np x a):Ir x=some (if a=0 then 0 else 1):=by rw[Agm _ 200 hx.rb ω,hx.s,hx.n];simp[K6]
theorem Np.can (hx:Np x a):Ko x=some (Ab.cR a):=by rw[Alp _ 200 hx.rb ω,hx.s,hx.n,hx.d];rfl
def Ls (n:Nat) (f:Nat->Nat):List Ao:=(range n).map λk=>cR (f k)
theorem Ms (n:Nat) (f:Nat->Nat):(Ls n f).length=n:=by simp[Ls]
theorem Mt (f:Nat->Nat) (h:k<n):(Ls n f)[k]? = some (cR (f k)):=by simp[Ls,h]
theorem Ab4 {l:List Ao} {f:Nat->Nat} (b:l.length=n) (h:∀k,k<n->l[k]? = some (cR (f k))):l=Ls n f:=by
 apply ext_getElem?;intro k;rcases Cj k n with hk|hk
 .rw[h k hk,Mt f hk]
 .rw[Lq ω,Lq (by rw[Ms];omega)]
theorem Ahe {step:Int×List α->Option ((Int×List α)⊕List α)} {J:List α->Option R} {r:R} {i:Nat} (o:List α) (g:Nat->α) (hi:i<=n) (q:o.length=n) (l:∀(j:Nat) (o':List α),i<=j->j<n->o'.length=n->step ((j:Int),o')=some (.inl (((j+1:Nat):Int),o'.set j (g j)))) (y:∀o',o'.length=n->step ((n:Int),o')=some (.inr o')) (z:∀o',o'.length=n->(∀k,k<i->o'[k]? = o[k]?)->(∀k,i<=k->k<n->o'[k]? = some (g k))->J o'=some r):(Ak step ((i:Int),o)).bind J=some r:=by
 obtain⟨e,A,f⟩:=Ka (step:=step) (λs=>∃(j:Nat) (o':List α),s=((j:Int),o')/\i<=j/\j<=n/\o'.length=n/\(∀k,k<i->o'[k]? = o[k]?)/\∀k,i<=k->k<j->o'[k]? = some (g k)) (λs=>n-s.1.toNat)
  (λo'=>o'.length=n/\(∀k,k<i->o'[k]? = o[k]?)/\∀k,i<=k->k<n->o'[k]? = some (g k)) (by
  rintro _ ⟨j,o',rfl,c,x,h1,h2,h3⟩
  rcases Cj j n with h|h
  .refine .inl ⟨_,l j o' c h h1,⟨j+1,o'.set j (g j),rfl,ω,ω,by simp[h1],λk hk=>?_,λk b u=>?_⟩,ζ⟩
   .rw[getElem?_set_ne ω];exact h2 k hk
   .rcases Cj k j with h'|h'
    .rw[getElem?_set_ne ω];exact h3 k b h'
    .have:k=j:=ω
     subst this
     rw[getElem?_set_self ω]
  .have:j=n:=ω
   subst this
   exact .inr ⟨o',y o' h1,h1,h2,h3⟩) ((i:Int),o) ⟨i,o,rfl,ω,hi,q,λ_ _=>rfl,λk h1 h2=>ω⟩
 rw[A,Ad]
 exact z e f.1 f.2.1 f.2.2
theorem A86 (n:Nat) (b:n<=1000):Aak (n:Int)=some (Ls n λ_=>0):=by
 unfold Aak;rw[Nk rfl rfl (Nat.le_refl _) ω ω,Ad];refine Ahe (i:=0) (n:=n) _ (λ_=>cR 0) ω ψ ?_ ?_ ?_
 .intro j o' _ h2 h3;have hx:o'[j]? = some o'[j]:=Bs ω;simp only[length_replicate,As (ω:(j:Int)<(n:Int)),Am,Ag8,Ad,Br rfl hx,C5 h2 ω,H5 (n:=j) rfl]
 .intro o' h;simp only[length_replicate,A5 (ω:¬(n:Int)<(n:Int)),Aq]
 .intro o' h1 _ h3;rw[Ab4 h1 (f:=λ_=>0) λk hk=>h3 k ω hk]
theorem Av2 (n k:Nat) (b:n<1000000000) (hk:k<=64):Afh (n:Int) (k:Int)=some (cR (bc n k)):=by
 have h:Ug (n:Int) (k:Int)=some (cR (bc n k)):=by rw[At4 n k b hk,X3,show C2 false (fct k*bc n k) (fct k)=C2 false (fct k*bc n k) (fct k*1) by rw[Nat.mul_one],Xv _ _ _ _ (Xw k)];rfl
 exact h
theorem Av3 (h:n<=40):bc n k<Fc:=by refine Nat.lt_of_le_of_lt (Abw n k) ?_;exact Nat.lt_of_le_of_lt (Nat.pow_le_pow_right δ h) δ
theorem Av4 (a b:Nat) (ha:a<=16) (hb:b<=16):Ul (a:Int) (b:Int)=some (Ls (a+b+1) (Rc a b)):=by
 unfold Ul;have q:Ac ((a:Int)+(b:Int))=((a+b:Nat):Int):=by rw[Ac,Cl] <;> omega
 have l:Ac (((a+b:Nat):Int)+1)=((a+b+1:Nat):Int):=by rw[Ac,Cl] <;> omega
 have e:(if (b:Int)>(a:Int) then (b:Int) else (a:Int))=((max a b:Nat):Int):=by split <;> omega
 rw[q,l,A86 _ ω,Ad,e];refine Ahe (i:=max a b) (n:=a+b+1) _ (λk=>cR (Rc a b k)) ω (by simp[Ms]) ?_ ?_ ?_
 .intro j o' h1 h2 h3;have hx:o'[j]? = some o'[j]:=Bs ω;have g:Ac ((j:Int)-(b:Int))=((j-b:Nat):Int):=ξ;have s:Rc a b j=bc j a*bc a (j-b):=(by unfold Rc;rw[Av ω]);simp only[As (ω:(j:Int)<=((a+b:Nat):Int)),Am,Av2 j a ω ω,g,Av2 a (j-b) ω ω,Ad,(Np.c (Av3 (ω:j<=40))).mul (Np.c (Av3 (k:=j-b) (ω:a<=40))),Br rfl hx,C5 h2 ω,H5 (n:=j) rfl,s]
 .intro o' h;simp only[A5 (ω:¬((a+b+1:Nat):Int)<=((a+b:Nat):Int)),Aq]
 .intro o' h1 h2 h3;rw[Ab4 h1 (f:=Rc a b) λk hk=>?_];rcases Cj k (max a b) with h|h
  .rw[h2 k h,Mt _ hk];have:Rc a b k=0:=by
    rcases (ω:k<a\/k<b) with h|h
    .exact A8n h
    .unfold Rc;rw[Ar ω]
   rw[this]
  .exact h3 k h hk
theorem A87 {m:Nat} {f g:Nat->Nat} {c:Nat} (B:m<=1000) (A:n<=1000) (hf:∀k,k<m->f k<Fc) (hg:∀k,k<n->g k<Fc) (hc:c<Fc) : Uk (Ls m f) (Ls n g) (cR c)=some (Ls (max m n) λk=>(if k<m then f k else 0)+(if k<n then g k else 0)*c):=by
 unfold Uk;rw[Ms,Ms];have e:(if (n:Int)>(m:Int) then (n:Int) else (m:Int))=((max m n:Nat):Int):=by split <;> omega
 rw[e,Nk rfl rfl (Nat.le_refl _) ω ω,Ad];refine Ahe (i:=0) (n:=max m n) _ (λk=>cR ((if k<m then f k else 0)+(if k<n then g k else 0)*c)) ω ψ ?_ ?_ ?_
 .intro j o' _ h2 h3;have hx:o'[j]? = some o'[j]:=Bs ω;obtain⟨x,u,s⟩:∃x:Ao,(bif decide ((j:Int)<(m:Int)) then ((Ag (Ls m f) (j:Int)).bind λb=>some (b.N,b.U,b.B)) else some (false,[],[]))=some (x.N,x.U,x.B)/\Np x (if j<m then f j else 0):=by
   by_cases h:j<m
   .rw[As ω,Am,Br rfl (Mt f h),Av h];exact⟨_,rfl,Np.c (hf j h)⟩
   .rw[A5 ω,Aq,Ar h];exact⟨⟨false,[],[]⟩,rfl,Np.z⟩
  obtain⟨y,q,l⟩:∃x:Ao,(bif decide ((j:Int)<(n:Int)) then ((Ag (Ls n g) (j:Int)).bind λb=>some (b.N,b.U,b.B)) else some (false,[],[]))=some (x.N,x.U,x.B)/\Np x (if j<n then g j else 0)/\(if j<n then g j else 0)<Fc:=by
   by_cases h:j<n
   .rw[As ω,Am,Br rfl (Mt g h),Av h];exact⟨_,rfl,Np.c (hg j h),hg j h⟩
   .rw[A5 ω,Aq,Ar h];exact⟨⟨false,[],[]⟩,rfl,Np.z,δ⟩
  have hq:Ck ((if j<n then g j else 0)*c)<=200:=(by have:=Jp (if j<n then g j else 0) c;have:=Amr l.2;have:=Amr hc;omega);have hb:Z9 x y (cR c)=some (cR ((if j<m then f j else 0)+(if j<n then g j else 0)*c)):=(by unfold Z9;rw[(Np.c hc).mul l.1,Ad,Nat.mul_comm c,s.add (Np.cR hq)];rfl);simp only[length_replicate,As (ω:(j:Int)<((max m n:Nat):Int)),Am]
  erw[u,Ad,q,Ad];dsimp only;rw[hb,Ad,Br rfl hx,Ad,C5 h2 ω,H5 (n:=j) rfl]
 .intro o' h;simp only[length_replicate,A5 (ω:¬((max m n:Nat):Int)<((max m n:Nat):Int)),Aq]
 .intro o' h1 _ h3;rw[Ab4 h1 (f:=λk=>(if k<m then f k else 0)+(if k<n then g k else 0)*c) λk hk=>h3 k ω hk]
theorem Ams {f:Nat->Nat} (u:n<1000) (s:p.length=n+1) (hp:∀k,k<n+1->∃x,p[k]? = some x/\Np x (f k)) (b:f n≠0):O9 p=some (Ls (n+1) f):=by
 unfold O9;obtain⟨x,q,l⟩:=hp n ω;have w:Ac (((n+1:Nat):Int)-1)=(n:Int):=by rw[Ac,Cl] <;> omega
 refine bnd (a:=((n+1:Nat):Int)) (Gf ?_) ?_
 .rw[s];simp only[As (ω:((n+1:Nat):Int)>0),Am,w,Br rfl q,Ad,l.sign,Ar b];rfl
 .rw[Nk rfl rfl (Nat.le_refl _) ω ω,Ad];refine Ahe (i:=0) (n:=n+1) _ (λk=>cR (f k)) ω ψ ?_ ?_ ?_
  .intro j o' _ h2 h3;have hx:o'[j]? = some o'[j]:=Bs ω;obtain⟨y,g,c⟩:=hp j h2;simp only[length_replicate,As (ω:(j:Int)<((n+1:Nat):Int)),Am,Br rfl g,c.can,Ad,Br rfl hx,C5 h2 ω,H5 (n:=j) rfl]
  .intro o' h;simp only[length_replicate,A5 (ω:¬((n+1:Nat):Int)<((n+1:Nat):Int)),Aq]
  .intro o' h1 _ h3;rw[Ab4 h1 (f:=f) λk hk=>h3 k ω hk]
def H6 (n d:Nat) (f:Nat->Nat) (k:Nat):Nat:=sm n λa=>f a*Rc a d k
theorem Av5 (a d:Nat):0<Rc a d (a+d):=by
 unfold Rc;rw[Av ω,show a+d-d=a by omega,Vl];have:0<bc (a+d) a:=by
  have h:∀d,0<bc (a+d) a:=by
   intro d;induction d with
   | zero=>rw[Nat.add_zero,Vl];decide
   | succ d ih=>cases a with| zero=>rw[J3];decide| succ a=>rw[show a+1+(d+1)=(a+1+d)+1 by omega,X8];omega
  exact h d
 omega
theorem A88 {f:Nat->Nat} {q:List Ao} (Z:n+d<=12) (hp:p=Ls (n+1) f) (i:f n≠0) (hq:q.length=d+1) (N:∀k,k<d+1->∃x,q[k]? = some x/\Np x (if k=d then 1 else 0)) (hf:∀k,k<n+1->f k<Fc) (V:∀a k,a<=n+1->H6 a d f k<Fc):Z0 p q=some (Ls (n+d+1) (H6 (n+1) d f),true):=by
 unfold Z0
 have l:p.length=n+1:=by rw[hp,Ms]
 rw[l,hq,A5 ω,A5 ω]
 simp only[Aq,Ad]
 have c1:O9 p=some (Ls (n+1) f):=Ams ω l (λk hk=>⟨_,by rw[hp];exact Mt f hk,Np.c (hf k hk)⟩) i
 have c2:O9 q=some (Ls (d+1) λk=>if k=d then 1 else 0):=Ams ω hq N ψ
 have w:Ac (((n+1:Nat):Int)+((d+1:Nat):Int))=((n+d+2:Nat):Int):=by rw[Ac,Cl] <;> omega
 rw[c1,Ad,c2,Ad,Ms,Ms,C3 ω,C3 ω]
 simp only[Aq,Ad]
 rw[w,A5 ω,Aq]
 obtain⟨r,Y,X⟩:=Et (J:=λA=>(O9 A).bind λz=>some (z,true)) (Q:=λr=>r=(Ls (n+d+1) (H6 (n+1) d f),true)) (step:=λ(x:List Ao×Int)=>match x with
  | (v25,v26)=>
   bif v26<((n+1:Nat):Int) then (
   (Ag (Ls (n+1) f) v26).bind λI=>
   (Ak (S:=(List Ao×Int)) (E:=(List Ao×Int)) (λ(g,v37)=>
   bif v37<((d+1:Nat):Int) then (
   (Ag (Ls (d+1) λk=>if k=d then 1 else 0) v37).bind λG=>
   (Fa I G).bind λv40=>
   (Ir v40).bind λD=>
   bif (D==(0:Int)) then (
   some (.inl (g,(Ac (v37+1))))
   )
   else (
   (Ul v26 v37).bind λB=>
   (Uk g B v40).bind λv44=>
   some (.inl (v44,(Ac (v37+1))))
   )
   )
   else (
   some (.inr (g,v37))
   )
    ) (v25,0)).bind λ(v45,v46)=>
   some (.inl (v45,(Ac (v26+1))))
   )
   else (
   some (.inr v25)
   )) (s:=([],0))
  (λs=>∃(a L:Nat) (h:Nat->Nat),s=(Ls L h,(a:Int))/\a<=n+1/\L<=a+d/\(∀k,(if k<L then h k else 0)=H6 a d f k)/\(a=n+1->L=n+d+1)) (λs=>n+1-s.2.toNat)
  (λe=>e=Ls (n+d+1) (H6 (n+1) d f)) ⟨0,0,λ_=>0,rfl,ω,ω,λk=>by simp[H6,sm],ω⟩ (by
  rintro _ ⟨a,L,h,rfl,ha,hL,hv,y⟩
  rcases Cj a (n+1) with h1|h1
  .left
   have M:Np (cR 0) 0:=Np.c δ
   have b:∀k,H6 (a+1) d f k=H6 a d f k+f a*Rc a d k:=λk=>rfl
   have hh:∀k,k<L->h k<Fc:=λk hk=>by
    have:=hv k
    rw[Av hk]at this
    rw[this];exact V a k ω
   by_cases h0:f a=0
   .refine⟨(Ls L h,((a+1:Nat):Int)),?_,⟨a+1,L,h,rfl,ω,ω,λk=>by rw[b,h0,hv];simp,λe=>?_⟩,ζ⟩
    .simp only[As (ω:(a:Int)<((n+1:Nat):Int)),Am,Br rfl (Mt f h1),Ad,h0]
     refine K1 (d+1) (λj=>(Ls L h,(j:Int))) rfl ?_ ⟨(Ls L h,((d+1:Nat):Int)),?_,?_⟩
     .intro j hj
      have hy:Np (cR (if j=d then 1 else 0)) (if j=d then 1 else 0):=Np.c (by split <;> decide)
      simp only[As (ω:(j:Int)<((d+1:Nat):Int)),Am,Br rfl (Mt _ hj),Ad,M.mul hy,Nat.zero_mul,M.sign,if_true,C5 hj ω]
      rfl
     .simp only[A5 (ω:¬((d+1:Nat):Int)<((d+1:Nat):Int)),Aq]
     .rw[C5 h1 ω]
    .have:a=n:=ω
     subst this;exact (i h0).elim
   .have u:=Np.c (hf a h1)
    have R:Uk (Ls L h) (Ls (a+d+1) (Rc a d)) (cR (f a))=some (Ls (a+d+1) λk=>(if k<L then h k else 0)+(if k<a+d+1 then Rc a d k else 0)*f a):=by
     rw[A87 ω ω hh (λk hk=>?_) (hf a h1),show max L (a+d+1)=a+d+1 by omega]
     unfold Rc
     split
     .refine Nat.lt_of_le_of_lt (Nat.mul_le_mul (Abw k a) (Abw a (k-d))) ?_
      rw[<-Nat.pow_add]
      exact Nat.lt_of_le_of_lt (Nat.pow_le_pow_right δ (ω:k+a<=40)) δ
     .decide
    refine⟨(Ls (a+d+1) λk=>(if k<L then h k else 0)+(if k<a+d+1 then Rc a d k else 0)*f a,((a+1:Nat):Int)),?_,⟨a+1,a+d+1,_,rfl,ω,ω,λk=>?_,λe=>ω⟩,ζ⟩
    .simp only[As (ω:(a:Int)<((n+1:Nat):Int)),Am,Br rfl (Mt f h1),Ad]
     refine K1 (d+1) (λj=>if j<=d then (Ls L h,(j:Int)) else (Ls (a+d+1) λk=>(if k<L then h k else 0)+(if k<a+d+1 then Rc a d k else 0)*f a,(j:Int))) ψ ?_ ⟨((Ls (a+d+1) λk=>(if k<L then h k else 0)+(if k<a+d+1 then Rc a d k else 0)*f a),((d+1:Nat):Int)),?_,?_⟩
     .intro j hj
      have hy:Np (cR (if j=d then 1 else 0)) (if j=d then 1 else 0):=Np.c (by split <;> decide)
      rw[Av ω]
      simp only[As (ω:(j:Int)<((d+1:Nat):Int)),Am,Br rfl (Mt _ hj),Ad,u.mul hy,C5 hj ω]
      rcases Cj j d with h2|h2
      .rw[Ar (ω:¬j=d),Nat.mul_zero,M.sign,Ad,Av (ω:j+1<=d)]
       rfl
      .have:j=d:=ω
       subst this
       rw[Av rfl,Nat.mul_one,u.sign,Ad,Ar h0,Av4 a j ω ω,Ad,R,Ar ω]
       rfl
     .rw[Ar ω]
      simp only[A5 (ω:¬((d+1:Nat):Int)<((d+1:Nat):Int)),Aq]
     .rw[C5 h1 ω]
    .rw[b,<-hv]
     by_cases hk:k<a+d+1
     .rw[Av hk,Av hk,Nat.mul_comm (Rc a d k)]
     .rw[Ar hk,Ar ω,Avo ω];simp
  .have:a=n+1:=ω
   subst this
   right
   have U:=y rfl
   refine⟨Ls L h,?_,?_⟩
   .simp only[A5 (ω:¬((n+1:Nat):Int)<((n+1:Nat):Int)),Aq]
   .subst U
    refine Ab4 (Ms _ _) λk hk=>?_
    have:=hv k
    rw[Av hk]at this
    rw[Mt _ hk,this]) (by
  rintro _ rfl
  refine⟨_,bnd (Ams (n:=n+d) (f:=H6 (n+1) d f) ω (Ms _ _) (λk hk=>⟨_,Mt _ hk,Np.c (V _ _ ω)⟩) ?_) rfl,rfl⟩
  have e:H6 (n+1) d f (n+d)=H6 n d f (n+d)+f n*Rc n d (n+d):=rfl
  have:=Nat.mul_pos (Nat.pos_of_ne_zero i) (Av5 n d)
  omega)
 rw[<-X]
 exact Y
theorem A89 (d x N:Nat) (f:Nat->Nat):∀M,(∀a,a<M->a+d<N)->sm N (λk=>H6 M d f k*bc x k)=sm M (λa=>f a*bc x a)*bc x d:=by
 intro M;induction M with
 | zero=>intro _;rw[Vk (λk _=>by simp[H6,sm])];simp[sm]
 | succ M ih=>
  intro h;have e:∀k,H6 (M+1) d f k*bc x k=H6 M d f k*bc x k+f M*(Rc M d k*bc x k):=λk=>by show (H6 M d f k+f M*Rc M d k)*bc x k=_;rw[Nat.add_mul,Nat.mul_assoc]
  rw[X6 (λk _=>e k),Vj,ih (λa ha=>h a ω),Avm,X9 x M d N (h M ω)];show _=(sm M (λa=>f a*bc x a)+f M*bc x M)*bc x d;rw[Nat.add_mul,Nat.mul_assoc (f M)]
theorem A9a (d:Nat) (f:Nat->Nat) (k:Nat):∀{m n:Nat},m<=n->H6 m d f k<=H6 n d f k:=by
 intro m n h;induction n with
 | zero=>have:m=0:=ω;subst this;exact Nat.le_refl _
 | succ n ih=>
  rcases Cj m (n+1) with h'|h'
  .have:=ih ω;have e:H6 (n+1) d f k=H6 n d f k+f n*Rc n d k:=rfl;omega
  .have:m=n+1:=ω;subst this;exact Nat.le_refl _
def prb (x:Nat):List Bd->Nat
 | []=>1
 | a::l=>bc x a.P.toNat*prb x l
def Dp:List Bd->Nat
 | []=>0
 | a::l=>a.P.toNat+Dp l
theorem Av6 (x:Nat) (l m:List Bd):prb x (l++m)=prb x l*prb x m:=by induction l with| nil=>simp[prb]| cons a l ih=>simp only[D9,prb,ih,Nat.mul_assoc]
theorem S0 (l m:List Bd):Dp (l++m)=Dp l+Dp m:=by induction l with| nil=>simp[Dp]| cons a l ih=>simp only[D9,Dp,ih,Nat.add_assoc]
theorem Amt {m:List Bd} (h:l.Perm m):Dp l=Dp m:=by induction h with| nil=>rfl| cons a _ ih=>simp only[Dp,ih]| swap a b l=>simp only[Dp];omega| trans _ _ h1 h2=>exact h1.trans h2
theorem A9b (x d:Nat):bc x d<=(x+1) ^ d:=Nat.le_trans (Ahd x d) (Nat.pow_le_pow_left ω d)
theorem Av7 (x:Nat):∀l:List Bd,prb x l<=(x+1) ^ Dp l
 | []=>by simp[prb,Dp]
 | a::l=>by simp only[prb,Dp,Nat.pow_add];exact Nat.mul_le_mul (A9b x _) (Av7 x l)
theorem Yb {x:Nat} (hx:x<=1048576) (hd:Dp l<=12):prb x l<Fc:=by refine Nat.lt_of_le_of_lt (Av7 x l) ?_;refine Nat.lt_of_le_of_lt (Nat.pow_le_pow_left (ω:x+1<=1048577) _) ?_;exact Nat.lt_of_le_of_lt (Nat.pow_le_pow_right δ hd) δ
def PwN (l:List Bd) (N:Nat) (f:Nat->Nat):Prop:=N=Dp l/\f N≠0/\∀x,sm (N+1) (λk=>f k*bc x k)=prb x l
theorem PwN.le {f:Nat->Nat} (h:PwN l N f) (hk:k<N+1):f k<=prb k l:=by
 have h1:=h.2.2 k;have h2:f k*bc k k<=sm (N+1) (λj=>f j*bc k j):=by
  have:∀n,k<n->f k*bc k k<=sm n (λj=>f j*bc k j):=by
   intro n;induction n with
   | zero=>intro h;omega
   | succ n ih=>
    intro h;show _<=sm n _+f n*bc k n;rcases Cj k n with h'|h'
    .have:=ih h';omega
    .have:k=n:=ω;subst this;omega
  exact this _ hk
 rw[Vl,Nat.mul_one]at h2;omega
theorem PwN.step {f:Nat->Nat} (h:PwN l N f) (a:Bd):PwN (l++[a]) (N+a.P.toNat) (H6 (N+1) a.P.toNat f):=by
 refine⟨by rw[S0,h.1];simp[Dp],?_,λx=>?_⟩
 .have e:H6 (N+1) a.P.toNat f (N+a.P.toNat)=H6 N a.P.toNat f (N+a.P.toNat)+f N*Rc N a.P.toNat (N+a.P.toNat):=rfl;have:=Nat.mul_pos (Nat.pos_of_ne_zero h.2.1) (Av5 N a.P.toNat);omega
 .rw[A89 _ x _ f (N+1) (λb ha=>ω),h.2.2 x,Av6];simp[prb]
theorem A9c (l:List Bd) (x:l≠[]) (ht:∀a∈l,a.L.T.length≠0) (hd:∀a∈l,0<=a.P) (R:Dp l<=12) (S:l.length<=1000) : ∃N f,O5 l=some (Ls (N+1) f)/\PwN l N f:=by
 have h0:Afk l=false:=by cases l with| nil=>exact (x rfl).elim| cons a M=>have:=ht a ψ;show (a.L.T.length==0)=false;simpa using this
 have h1:∃N f,Afj l=some (Ls (N+1) f)/\PwN l N f:=by
  unfold Afj;rw[L9,Ad]
  suffices h:∃r,_/\∃N f,r=Ls (N+1) f/\PwN l N f by obtain⟨r,G,N,f,E,D⟩:=h;exact⟨N,f,by rw[<-E];exact G,D⟩
  refine Et (λs=>∃(i N:Nat) (f:Nat->Nat),s=(Ls (N+1) f,(i:Int))/\i<=l.length/\PwN (l.take i) N f) (λs=>l.length-s.2.toNat) (λe=>∃N f,e=Ls (N+1) f/\PwN l N f) ⟨0,0,λ_=>1,rfl,ω,by simp[PwN,Dp,prb,sm,J3]⟩ ?_ ?_
  .rintro _ ⟨i,N,f,rfl,hi,g⟩;rcases Cj i l.length with h|h
   .left;have hx:l[i]? = some l[i]:=Bs h;have b:=getElem_mem h;generalize l[i]=a at hx b;have U:=ht a b;have L:=hd a b;have B:Dp l=Dp (l.take i)+(a.P.toNat+Dp (l.drop (i+1))):=(by have:=S0 (l.take i) (l.drop i);rw[take_append_drop]at this;rw[this,Mm hx];rfl);have V:=g.1;have w:Ac (a.P+1)=((a.P.toNat+1:Nat):Int):=ξ;have I:Ag (replicate (a.P.toNat+1) (⟨false,[],[]⟩:Ao)) a.P=some ⟨false,[],[]⟩:=Br (n:=a.P.toNat) ω ψ;have u:=g.step a;have hb:∀A k,A<=N+1->H6 A a.P.toNat f k<Fc:=by
     intro A k y;refine Nat.lt_of_le_of_lt (A9a _ f k y) ?_;rcases Cj k (N+a.P.toNat+1) with hk|hk
     .refine Nat.lt_of_le_of_lt (u.le hk) (Yb ω ?_);rw[S0];simp only[Dp];omega
     .have:H6 (N+1) a.P.toNat f k=0:=Vk λj hj=>by rw[Avo ω];rfl
      rw[this];decide
    have J:=A88 (n:=N) (d:=a.P.toNat) (f:=f) (p:=Ls (N+1) f) (q:=Cu (replicate (a.P.toNat+1) ⟨false,[],[]⟩) a.P (cR 1)) ω rfl g.2.1 (by rw[H5 (n:=a.P.toNat) ω];simp) (λk hk=>by
     rw[H5 (n:=a.P.toNat) ω];by_cases e:k=a.P.toNat
     .subst e;rw[Av rfl];exact⟨_,getElem?_set_self ψ,Np.c δ⟩
     .rw[Ar e,getElem?_set_ne ω];exact⟨⟨false,[],[]⟩,by simp[hk],Np.z⟩) (λk hk=>Nat.lt_of_le_of_lt (g.le hk) (Yb ω ω)) hb
    refine⟨(Ls (N+a.P.toNat+1) (H6 (N+1) a.P.toNat f),((i+1:Nat):Int)),?_,⟨i+1,_,_,rfl,ω,by rw[C4 hx];exact u⟩,ζ⟩;simp only[As (ω:(i:Int)<(l.length:Int)),Am,Br rfl hx,Ad,C3 (ω:¬(a.L.T.length:Int)=0),Aq,w,Nk rfl rfl (Nat.le_refl _) (ω:56*(a.P.toNat+1)<=281474976710656) ω,L9,I,J,C5 h ω]
   .have:i=l.length:=ω;subst this;rw[Db]at g;right;exact⟨_,by simp only[A5 (ω:¬(l.length:Int)<(l.length:Int)),Aq],_,_,rfl,g⟩
  .rintro _ ⟨N,f,rfl,h⟩;exact⟨_,rfl,N,f,rfl,h⟩
 obtain⟨N,f,h2,h3⟩:=h1;refine⟨N,f,?_,h3⟩;unfold O5;rw[h0,Aq];exact h2
theorem A9d {c:Int} {d:Int} (hc:c<=1048576) (hd:0<=d) (b:d<=64):Xf c d=some (cR (bc c.toNat d.toNat),true):=by
 have h:=Avg c.toNat d.toNat ω ω;have e:((d.toNat:Nat):Int)=d:=ω;rw[e]at h;rw[<-h];unfold Xf;have f:(if c>(0:Int) then c else 0)=(if ((c.toNat:Nat):Int)>(0:Int) then ((c.toNat:Nat):Int) else 0):=by split <;> split <;> omega
 rw[f]
theorem A9e (l:List Bd) {c:Int} (hc:c<=1048576) (ht:∀a∈l,a.L.T.length=0/\a.L.Q=c) (hd:∀a∈l,0<=a.P) (G:Dp l<=12) (I:l.length<=1000) :
  O5 l=some [cR (prb c.toNat l)]:=by
 have h1:Afi l=some [cR (prb c.toNat l)]:=by
  unfold Afi
  rw[L9,Ad]
  obtain⟨r,B,A⟩:∃r,_/\r = [cR (prb c.toNat l)]:=Et (λs=>∃i:Nat,s=((i:Int),[cR (prb c.toNat (l.take i))])/\i<=l.length) (λs=>l.length-s.1.toNat) (λe=>e = [cR (prb c.toNat l)]) (J:=λo=>some o)
   (step:=λ(x:Int×List Ao)=>match x with
    | (g,f)=>
     bif g<(l.length:Int) then (
     (Ag l g).bind λb=>
     bif ((b.L.T.length:Int)==(0:Int)) then (
     (Xf b.L.Q b.P).bind λk=>
     (Ag f 0).bind λv20=>
     (Fa v20 k.1).bind λv21=>
     (Ag f 0).bind λv22=>
     some (.inl ((Ac (g+1)),(Cu f 0 v21)))
     )
     else (
     (Gl 56 (Ac (b.P+1)) (Ac (b.P+1)) ((Ao.mk false [] []):Ao)).bind λq=>
     (Ed 1).bind λv25=>
     (Ag q b.P).bind λv26=>
     none
     )
     )
     else (
     some (.inr f)
     )) (s:=(0,[cR 1]))
   ⟨0,rfl,ω⟩ (by
   rintro _ ⟨i,rfl,hi⟩
   rcases Cj i l.length with h|h
   .left
    have hx:l[i]? = some l[i]:=Bs h
    have j:=getElem_mem h
    generalize l[i]=a at hx j
    obtain⟨L,D⟩:=ht a j
    have y:=hd a j
    have e:Dp l=Dp (l.take i)+(a.P.toNat+Dp (l.drop (i+1))):=by
     have:=S0 (l.take i) (l.drop i)
     rw[take_append_drop]at this
     rw[this,Mm hx];rfl
    have hb:prb c.toNat (l.take i)<Fc:=Yb ω ω
    have z:bc c.toNat a.P.toNat<Fc:=by
     have:=Yb (x:=c.toNat) (l:=[a]) ω (by simp only[Dp];omega)
     simpa[prb] using this
    have u:Ag [cR (prb c.toNat (l.take i))] 0=some (cR (prb c.toNat (l.take i))):=rfl
    refine⟨_,?_,⟨i+1,rfl,ω⟩,ζ⟩
    simp only[As (ω:(i:Int)<(l.length:Int)),Am,Br rfl hx,Ad,Eu (ω:(a.L.T.length:Int)=0),D,A9d hc y (ω:a.P<=64),u,(Np.c hb).mul (Np.c z),C5 h ω]
    rw[C4 hx,Av6]
    simp[prb,Cu]
   .have:i=l.length:=ω
    subst this
    right
    exact⟨[cR (prb c.toNat (take l.length l))],by simp only[A5 (ω:¬(l.length:Int)<(l.length:Int)),Aq],by rw[Db]⟩) (by
   rintro _ rfl
   exact⟨_,rfl,rfl⟩)
  rw[<-A]
  exact B
 have h0:Afk l=true:=by
  cases l with
  | nil=>rfl
  | cons a E=>
   have:=(ht a ψ).1
   show (a.L.T.length==0)=true
   simpa using this
 unfold O5
 rw[h0,Am,h1]
noncomputable def Ahf (cmp:α->α->Option Int) (a0:Int) (f:List α):Option (List α) := (Ak (S:=(Int×Int×(List α))) (E:=(Int×Int×(List α))) (λ(v3,v4,h)=> bif v4<=a0 then ((Aby cmp v3 v4 h).bind λg=> (Gm f.length g).bind λk=> some (.inl (v4,(Ac (v4+20)),g))) else (some (.inr (v3,v4,h)))) (0,20,f)).bind λ(v8,v9,c)=> (Aby cmp v8 a0 c).bind λv11=> (Gm f.length v11).bind λv12=> (Ak (S:=(Int×Int×Int)) (E:=Unit) (λ(b,j,i)=> bif b<a0 then ((Ak (S:=Unit) (E:=Unit) (λ_=> bif (Ac (2*b))<=a0 then (none) else (some (.inr ()))) ()).bind λ_=> bif (Ac (0+b))<a0 then (none) else (some (.inl ((Ac (b*2)),0,(Ac (2*b)))))) else (some (.inr ()))) (20,v8,v9)).bind λ_=> some v11
theorem Av8 {cmp:α->α->Option Int} {c:α->α->Int} (L:Py c) (f:List α) (g:∀x∈f,∀y∈f,cmp x y=some (c x y)) (h:f.length<20) : ∃R,Ahf cmp (f.length:Int) f=some R/\R.Perm f/\R.Pairwise (λa b=>¬c b a<0):=by
 obtain⟨R,h1,h2,h3⟩:=Avl L f g ω;refine⟨R,?_,h2,h3⟩;unfold Ahf;refine bnd (a:=(0,20,f)) (Gf ?_) ?_
 .simp only[A5 (ω:¬(20:Int)<=(f.length:Int)),Aq]
 .dsimp only;rw[h1,Ad,Ns h2.length_eq.symm,Ad];refine bnd (a:=()) (Gf ?_) rfl;simp only[A5 (ω:¬(20:Int)<(f.length:Int)),Aq]
theorem Ab5:Py Ez where
 irr x:=by rw[(K7.zero x x trivial trivial).2 rfl];omega
 trs x y z h1 h2:=K7.trans x y z trivial trivial trivial h1 h2
 ntr x y z h1 h2 h3:=by
  rcases Int.lt_trichotomy (Ez x y) 0 with k|k|k
  .exact h1 k
  .have:=(K7.zero x y trivial trivial).1 k
   subst this;exact h2 h3
  .have b:Ez y x<0:=by rw[K7.anti x y trivial trivial];omega
   exact h2 (K7.trans y x z trivial trivial trivial b h3)
theorem A9f:Py (λa b:Bd=>Ez a.L b.L):=⟨λ_=>Ab5.irr _,λ_ _ _=>Ab5.trs _ _ _,λ_ _ _=>Ab5.ntr _ _ _⟩
def Ab6 (l:List Bd):Prop:=l.Pairwise λa b=>¬Ez b.L a.L<0
theorem A9g (b:List Bd) (ht:∀a∈b,a.L.T.length<1099511627776) (c:b.length<20):∃R,Zn b=some R/\R.Perm b/\Ab6 R:=by obtain⟨R,h1,h2,h3⟩:=Av8 (cmp:=Wt) A9f b (λx hx y _=>by unfold Wt;rw[Xs x.L y.L (ht x hx)];rfl) c;refine⟨R,?_,h2,h3⟩;unfold Zn;have e:Ae0 (b.length:Int) b=Ahf Wt (b.length:Int) b:=rfl;rw[e,h1,Ad,Ns h2.length_eq.symm];rfl
theorem Ahg (n:Nat) (h:n<=1000000):M9 (α:=α) (n:Int)=some []:=by unfold M9;rw[As ω,As ω];rfl
theorem A9h (a b:List Bd) (h:a.length+b.length<=1000000):Aeq [a,b]=some (a++b) := Ami (B:=40) δ (gr:=Aey) (λn h=>Ahg n h) a b h
theorem A9i (a b:List Bb) (h:a.length+b.length<=1000000):Aep [a,b]=some (a++b) := Ami (B:=40) δ (gr:=Aex) (λn h=>Ahg n h) a b h
theorem Ahh (m n:A3) (h1:m.F.length+n.F.length<=1000000) (h2:m.A.length+n.A.length<=1000000):Me m n=some ⟨m.F++n.F,m.A++n.A⟩:=by unfold Me;rw[A9i _ _ h1,Ad,A9h _ _ h2];rfl
def atO (l:Bn) (k:Nat):List Bd:=if k=0 then [] else [⟨l,k⟩]
theorem A9j (l:Bn) (k:Nat):Wu l (k:Int)=some (atO l k):=by
 unfold Wu atO;by_cases h:k=0
 .rw[Eu ω,Av h];rfl
 .rw[C3 ω,Ar h];rfl
theorem Av9 (l:Bn) (k:Nat):(atO l k).length<=1:=by unfold atO;split <;> simp
abbrev FS:={F:List Bb // F.length<=1000}
theorem A9k {t:Aj} {A B:List Bd} {F:FS} (b:t.M=⟨F.1,A⟩) (f:A.length+B.length<=1000000) (g:K<30000000000) (h1:RB K t.C) (h2:RB 200 x) : ∃u,N9 t x ⟨[],B⟩=some u/\u.M=⟨F.1,A++B⟩/\rq u.C=rq t.C*rq x/\RB (K+202) u.C:=by obtain⟨c,c1,c2,_,c4⟩:=Sv h1 h2 ω ω;refine⟨⟨c,⟨F.1,A++B⟩⟩,?_,rfl,c4,c2⟩;unfold N9;have:=F.2;rw[c1,Ad,b,Ahh _ _ ζ f,append_nil];rfl
abbrev Ent:=List Bd×Nat
inductive Lw (F:FS) (c:Rat) (K:Nat):List Aj->List Ent->Prop
 | nil:Lw F c K [] []
 | cons {t:Aj} {b:Ent} {ts:List Aj} {bs:List Ent}:t.M=⟨F.1,b.1⟩->rq t.C=c*(b.2:Rat)->RB K t.C->Lw F c K ts bs->Lw F c K (t::ts) (b::bs)
theorem Lw.len {F:FS} {c:Rat} {bs:List Ent} (h:Lw F c K ts bs):ts.length=bs.length:=by induction h with| nil=>rfl| cons _ _ _ _ ih=>simp[ih]
theorem Lw.app {F:FS} {c:Rat} {f:List Aj} {bs cs:List Ent} (h:Lw F c K ts bs) (h':Lw F c K f cs):Lw F c K (ts++f) (bs++cs):=by induction h with| nil=>exact h'| cons a b d _ ih=>exact .cons a b d ih
theorem Lw.mono {F:FS} {c:Rat} {f:Nat} {bs:List Ent} (h:Lw F c K ts bs) (hk:K<=f):Lw F c f ts bs:=by induction h with| nil=>exact .nil| cons a b d _ ih=>exact .cons a b (d.mono hk) ih
theorem Lw.get {F:FS} {c:Rat} {bs:List Ent} (h:Lw F c K ts bs):∀{j:Nat} {t:Aj},ts[j]? = some t->∃b,bs[j]? = some b/\t.M=⟨F.1,b.1⟩/\rq t.C=c*(b.2:Rat)/\RB K t.C:=by
 induction h with
 | nil=>intro j t h;simp at h
 | @cons t b ts bs a1 a2 a3 _ ih=>intro j u hj;cases j with| zero=>simp only[getElem?_cons_zero,Option.some.injEq]at hj;subst hj;exact⟨b,rfl,a1,a2,a3⟩| succ j=>simp only[getElem?_cons_succ]at hj;simpa using ih hj
def fs0:FS:=⟨[],δ⟩
abbrev Rep (c:Rat) (K:Nat):List Aj->List Ent->Prop:=Lw fs0 c K
def Iw (B:List Ent) (l:Bn) (f:Nat->Nat) (n:Nat):List Ent:=(range n).flatMap λk=>if f k=0 then [] else B.map λb=>(b.1++atO l k,b.2*f k)
theorem Awa (B:List Ent) (l:Bn) (f:Nat->Nat) (n:Nat):Iw B l f (n+1)=Iw B l f n++(if f n=0 then [] else B.map λb=>(b.1++atO l n,b.2*f n)):=by unfold Iw;rw[range_succ,flatMap_append];simp
noncomputable def Ab7 (h:List Aj) (l:Bn) (k:Int) (x:Ao):Int×List Aj->Option ((Int×List Aj)⊕(Int×List Aj)):=λ(b,c)=> bif b<(h.length:Int) then ((Ag h b).bind λg=> (Wu l k).bind λv194=> (N9 g x (A3.mk [] v194)).bind λf=> (Cd 104 c [f]).bind λi=> some (.inl ((Ac (b+1)),i))) else (some (.inr (b,c)))
theorem A9l (a b:Ao) (j k:Nat) (ha:RB j a) (hb:RB k b) (hj:j<68719476736) (hk:k<68719476736) : T8 a b=some (C2 (Pn (sv a) (nv a) (dv a) (!sv b) (nv b) (dv b)) (Mo (sv a) (nv a) (dv a) (!sv b) (nv b) (dv b)) (dv a*dv b)):=by
 unfold T8 Wp;have h1:=ha.nv;have h2:=ha.dv;have h3:=hb.nv;have s:=hb.dv;have q:=Jp (nv a) (dv b);have l:=Jp (nv b) (dv a);have i:=Jp (dv a) (dv b);have h:=Aft (nv a*dv b) (nv b*dv a);have g:=Mk (Nat.sub_le (nv a*dv b) (nv b*dv a));have f:=Mk (Nat.sub_le (nv b*dv a) (nv a*dv b));rw[Ss b k hb ω,Ad,Ss a j ha ω,Ad];dsimp only;rw[Sp _ _ ω ω,Ad,Sp _ _ ω ω,Ad,Sp _ _ ω ω,Ad];by_cases c:sv a = !sv b
 .have e:(sv a == !sv b)=true:=(by rw[c];exact beq_self_eq_true _);rw[e,Am,Atq _ _ ω ω,Ad,Ad,Pm _ _ _ ω ω,Pn,Mo,Av c,Av c];rfl
 .have e:(sv a == !sv b)=false:=(by cases h1:sv a <;> cases h2:sv b <;> simp_all);rw[e,Aq,All _ _ ω ω,Ad,Pn,Mo,Ar c,Ar c];by_cases hc:nv b*dv a<=nv a*dv b
  .rw[As (show Jk (nv a*dv b) (nv b*dv a)>=0 by rw[Jk,Ar ω];split <;> decide),Am,Agj _ _ ω hc,Ad,Ad,Pm _ _ _ ω ω,Av hc,Av hc];rfl
  .rw[A5 (show ¬Jk (nv a*dv b) (nv b*dv a)>=0 by rw[Jk,Av ω];decide),Aq,Agj _ _ ω ω,Ad,Ad,Pm _ _ _ ω ω,Ar hc,Ar hc];rfl
theorem A9m (s:Bool) (n:Nat):sg (!s) n = - sg s n:=by unfold sg;cases s <;> simp
theorem A9n {a b:Ao} (ha:RB j a) (hb:RB k b) (hj:j<34359738000) (hk:k<34359738000):∃c,T8 a b=some c/\RB (j+k+3) c/\Hr c/\rq c=rq a-rq b:=by
 have e:=A9l a b j k ha hb ω ω;have hd:dv a*dv b≠0:=Nat.mul_ne_zero (H8 a) (H8 b);have h1:=ha.nv;have h2:=ha.dv;have h3:=hb.nv;have s:=hb.dv;have q:=Jp (nv a) (dv b);have l:=Jp (nv b) (dv a);have i:=Jp (dv a) (dv b);have h:=Aft (nv a*dv b) (nv b*dv a);have g:=Mk (Nat.sub_le (nv a*dv b) (nv b*dv a));have f:=Mk (Nat.sub_le (nv b*dv a) (nv a*dv b));refine⟨_,e,?_,Vd _ _ _ hd,?_⟩
 .refine Oi _ _ _ _ ?_ ω ω;unfold Mo;split
  .omega
  .split <;> omega
 .rw[Qw _ _ _ hd,Aui,A9m,rq,rq,show mkRat (sg (sv a) (nv a)) (dv a)-mkRat (sg (sv b) (nv b)) (dv b)=mkRat (sg (sv a) (nv a)) (dv a)+mkRat (-sg (sv b) (nv b)) (dv b) by rw[<-Rat.neg_mkRat];grind,Rat.mkRat_add_mkRat _ _ (H8 a) (H8 b)]
theorem Ahi (z:Int):mkRat z 1=(z:Rat):=by rw[Rat.mkRat_eq_div,show ((1:Nat):Rat)=1 from rfl];grind
theorem Ahj (z:Int) (h1 : -9223372036854775808<=z) (h2:z<=9223372036854775807):∃r,Ed z=some r/\RB 3 r/\Hr r/\rq r=(z:Rat):=by
 have b:Ck z.natAbs<=3:=U9 (n:=z.natAbs) ω;refine⟨_,Abi z h1 h2,Oi _ _ _ _ b (by rw[Sr];decide) δ,Vd _ _ _ δ,?_⟩;rw[Qw _ _ _ δ,Ahi];congr 1;unfold sg;by_cases h:z<0
 .rw[As h,Av rfl];omega
 .rw[A5 h,Ar δ];omega
theorem A9o (n:Nat) (c:n<1000000000):∃r,P8 1 ((n+1:Nat):Int)=some r/\RB 3 r/\rq r=1 / ((n+1:Nat):Rat):=by have e:=Atz 1 ((n+1:Nat):Int) δ δ ω ω ω;have b:Ck ((n+1:Nat):Int).natAbs<=3:=U9 ω;refine⟨_,e,Oi _ _ _ _ (U9 δ) b δ,?_⟩;rw[Qw _ _ _ ω,Rat.mkRat_eq_div];rw[A5 (by decide:¬(1:Int)<0),A5 (ω:¬((n+1:Nat):Int)<0)];rfl
theorem Vm (n:Nat):rq (cR n)=(n:Rat):=by unfold cR;rw[Qw _ _ _ δ,Ahi];rfl
theorem Awb (n:Nat):Hr (cR n):=Vd _ _ _ δ
theorem A9p (n j:Nat):(((j+1:Nat):Int))*(bc n (j+1):Int)=((n:Int)-j)*bc n j:=by
 have h1:=X3 n (j+1);have h2:=X3 n j;have hf:=Xw j;rcases Cj n j with h|h
 .have i:=Abv h;have g:=Abv (show n<j+1 by omega);have b:=Xw (j+1);have b1:bc n j=0:=by
   rw[i]at h2;rcases Nat.mul_eq_zero.1 h2.symm with h|h
   .exact (hf h).elim
   .exact h
  have b2:bc n (j+1)=0:=by
   rw[g]at h1;rcases Nat.mul_eq_zero.1 h1.symm with h|h
   .exact (b h).elim
   .exact h
  rw[b1,b2];simp
 .rw[Hx,h2]at h1;have h3:fct j*(bc n j*(n-j))=fct j*((j+1)*bc n (j+1)):=(by rw[<-Nat.mul_assoc,h1,fct];simp only[Nat.mul_assoc]);have f:=Nat.eq_of_mul_eq_mul_left (Nat.pos_of_ne_zero hf) h3;have c:((n:Int)-j)=((n-j:Nat):Int):=ω;rw[c,<-Int.natCast_mul,<-Int.natCast_mul,<-f,Nat.mul_comm]
theorem A9q (n j:Nat):(bc n j:Rat)*(((n:Rat)-(j:Rat))*(1 / ((j+1:Nat):Rat)))=(bc n (j+1):Rat):=by
 have h:=congrArg (λz:Int=>(z:Rat)) (A9p n j);simp only[Rat.intCast_mul,Rat.intCast_sub,Rat.intCast_natCast]at h;have b:((j+1:Nat):Rat)≠0:=by have:(0:Rat)<((j+1:Nat):Rat):=Rat.natCast_pos.2 ω;grind
 generalize ((j+1:Nat):Rat)=d at *;grind
theorem Awc (a:Ao):Ao.mk a.N a.U a.B=a:=by cases a;rfl
theorem A9r {a:Ao} {z:Int} (ha:RB K a) (X:K<=100000000) (i:rq a=(z:Rat)) (k:Nat) (hk:k<=64) : ∃c,T0 a (k:Int)=some c/\Hr c/\RB (3+k*(K+20)) c/\rq c=(bc z.toNat k:Rat):=by
 unfold T0;rw[(Agx ha ω).1,Ad];obtain⟨b,n,V,U,S,R⟩:∃(b:Ao) (n:Nat),(bif decide (Nq (rq a)<(0:Int)) then ((Ed 0).bind λv4=>some (v4.N,v4.U,v4.B)) else some (a.N,a.U,a.B))=some (b.N,b.U,b.B)/\RB (K+3) b/\rq b=(n:Rat)/\n=z.toNat:=by
  by_cases h:z<0
  .have l:rq a<0:=(by rw[i];exact_mod_cast h);have:Nq (rq a)<0:=(by unfold Nq;rw[Av l];decide);rw[As this,Am,Ag8];exact⟨cR 0,0,rfl,(Oj (k:=1) (by rw[Aa2];decide) δ).mono ω,by rw[Vm],ω⟩
  .have l:¬rq a<0:=(by rw[i];intro h2;exact h (by exact_mod_cast h2));have:¬Nq (rq a)<0:=(by unfold Nq;rw[Ar l];split <;> decide);rw[A5 this,Aq];refine⟨a,z.toNat,rfl,ha.mono ω,?_,rfl⟩;rw[i];have:z=((z.toNat:Nat):Int):=ω;exact (congrArg (λy:Int=>(y:Rat)) this).trans (Rat.intCast_natCast _)
 erw[V];rw[Ad];dsimp only;rw[L9,Ad,<-R];refine Et (λs=>∃(j:Nat) (P:Ao),s=((j:Int),P.N,P.U,P.B)/\j<=k/\Hr P/\RB (3+j*(K+20)) P/\rq P=(bc n j:Rat)) (λs=>k-s.1.toNat) (λe=>∃P:Ao,e=(P.N,P.U,P.B)/\Hr P/\RB (3+k*(K+20)) P/\rq P=(bc n k:Rat)) ⟨0,cR 1,rfl,ω,Awb 1,(Oj (k:=1) (by rw[Sr];decide) δ).mono ω,by rw[Vm,J3]⟩ ?_ ?_
 .rintro s ⟨j,P,rfl,hj,hc,g,hv⟩;rcases Cj j k with h|h
  .obtain⟨r,G,E,_,D⟩:=Ahj (j:Int) ω ω;obtain⟨d,d1,d2,d3,d4⟩:=A9n U E ω ω;obtain⟨w,A,x,u⟩:=A9o j ω;obtain⟨f,f1,f2,_,f3⟩:=Sv d2 x ω ω;have N:j*(K+20)<=64*(K+20):=Nat.mul_le_mul_right _ ω;obtain⟨q,M,L,J,I⟩:=Sv g f2 ω ω;have B:Ac ((j:Int)+1)=((j+1:Nat):Int):=C5 h ω;simp only[As (ω:(j:Int)<(k:Int)),Am,G,Ad,B,A];rw[show (T8 (Ao.mk b.N b.U b.B) r)=some d from d1,Ad,f1,Ad,show (Fa (Ao.mk P.N P.U P.B) f)=some q from M,Ad];refine .inl ⟨_,rfl,⟨j+1,q,rfl,ω,J,L.mono (by rw[Nat.add_mul];omega),?_⟩,by simp only[Int.toNat_natCast];omega⟩;rw[I,hv,f3,d4,u,S,D,Rat.intCast_natCast];exact A9q n j
  .have:j=k:=ω;subst this;exact .inr ⟨(P.N,P.U,P.B),by rw[A5 ω];rfl,P,rfl,hc,g,hv⟩
 .rintro e ⟨P,rfl,hc,g,hv⟩;exact⟨P,by rw[<-Awc P],hc,g,hv⟩
def Mu (val:Int->Ax) (l:Bn):Int:=l.Q+(l.T.map λt=>t.C*(val t.v).U).sum
def Dv:List Nat->Nat
 | []=>1
 | a::l=>a*Dv l
theorem Awd:∀(l:List Nat) (a:Nat),Dv (l++[a])=Dv l*a
 | [],a=>by simp[Dv]
 | b::l,a=>by rw[D9,Dv,Dv,Awd l a,Nat.mul_assoc]
theorem Awe {f:α->Nat} {l:List α} {x:α} (h:l[j]? = some x):Dv ((l.take (j+1)).map f)=Dv ((l.take j).map f)*f x:=by rw[C4 h,map_append];exact Awd _ _
def H9 (x:B9) (val:Int->Ax) (f:Bb):Nat:=match Dj x.V x.E f.v with|some t=>bv x.D f.I t (val f.v) | none=>0
def Qy (val:Int->Ax) (a:Bd):Nat:=bc (Mu val a.L).toNat a.P.toNat
def S3 (x:B9) (val:Int->Ax) (m:A3):Nat:=Dv (m.F.map (H9 x val))*Dv (m.A.map (Qy val))
def K9 (x:B9) (val:Int->Ax):List Aj->Rat
 | []=>0
 | t::p=>rq t.C*(S3 x val t.M:Rat)+K9 x val p
theorem Awf (x:B9) (val:Int->Ax):∀p q:List Aj,K9 x val (p++q)=K9 x val p+K9 x val q
 | [],q=>by simp only[nil_append,K9];grind
 | t::p,q=>by simp only[D9,K9,Awf x val p q];grind
theorem A9s {val:Int->Ax} (c:Int) {l:List Es} {u:Es} (h:l[j]? = some u):Mu val ⟨c,l.take (j+1)⟩=Mu val ⟨c,l.take j⟩+u.C*(val u.v).U:=by unfold Mu;rw[C4 h];simp only[map_append,sum_append,map_cons,map_nil,sum_cons,sum_nil];omega
structure Amu (x:B9) (env:List Ax) (res:Ax) (m:A3):Prop where
 fl:m.F.length<=6
 al:m.A.length<=6
 fac:∀f∈m.F,∃t,Dj x.V x.E f.v=some t/\Wh x.D t f.I (Dk env res f.v)=some (cR (H9 x (Dk env res) f),0)/\H9 x (Dk env res) f<=5000 ^ 6
 atm:∀a∈m.A,1<=a.P/\a.P<=6/\-1048576<=a.L.Q/\a.L.Q<=1048576/\a.L.T.length<=16 /\
  ∀u∈a.L.T,-1048576<=u.C/\u.C<=1048576/\∃t,Dj x.V x.E u.v=some t/\-1099511627776<=(Dk env res u.v).U/\(Dk env res u.v).U<=1099511627776
theorem A9t {E:Type} {step:Int×Bool×List Int×List Int->Option ((Int×Bool×List Int×List Int)⊕E)} {J:E->Option R} (F:List Bb) (v:Bb->Nat) (i:Ao->E) (z:F.length<=6) (hv:∀f∈F,v f<=5000 ^ 6) (l:∀(j:Nat) (f:Bb) (g c:Ao),F[j]? = some f->decide ((j:Int)<(F.length:Int))=true->Ag F (j:Int)=some f->Ac ((j:Int)+1)=((j+1:Nat):Int)->Fa g (cR (v f))=some c->step ((j:Int),g.N,g.U,g.B)=some (.inl (((j+1:Nat):Int),c.N,c.U,c.B))) (q:∀g:Ao,decide ((F.length:Int)<(F.length:Int))=false->step ((F.length:Int),g.N,g.U,g.B)=some (.inr (i g))) {a:Ao} (ha:RB K a) (y:K<=20000000) (u:∀m,RB (K+30) m->(F = []->m=a)->(F≠[]->Hr m)->rq m=rq a*(Dv (F.map v):Rat)->∃r,J (i m)=some r/\Q r):∃r,(Ak step (0,a.N,a.U,a.B)).bind J=some r/\Q r:=by
 refine Et (λs=>∃(j:Nat) (g:Ao),s=((j:Int),g.N,g.U,g.B)/\j<=F.length/\RB (K+j*5) g/\(j=0->g=a)/\(0<j->Hr g)/\rq g=rq a*(Dv ((F.take j).map v):Rat)) (λs=>F.length-s.1.toNat) (λe=>∃g:Ao,e=i g/\RB (K+30) g/\(F = []->g=a)/\(F≠[]->Hr g)/\rq g=rq a*(Dv (F.map v):Rat)) ⟨0,a,rfl,ω,ha.mono ω,λ_=>rfl,λh=>ω,by simp only[take_zero,map_nil,Dv];show _=_*(1:Rat);grind⟩ ?_ ?_
 .rintro s ⟨j,g,rfl,hj,hg,h0,k,b⟩;rcases Cj j F.length with h|h
  .have hx:F[j]? = some F[j]:=Bs h;generalize F[j]=f at hx;have hb:Sm (v f):=hv f (Bu hx);obtain⟨c,c1,c2,c3,c4⟩:=Sv hg (Oj hb.lg δ) ω δ;rw[l j f g c hx (As ω) (Br rfl hx) (C5 h ω) c1];refine .inl ⟨_,rfl,⟨j+1,c,rfl,ω,c2.mono ω,λh=>ω,λ_=>c3,?_⟩,by simp only[Int.toNat_natCast];omega⟩;rw[c4,b,Vm,Awe hx,Rat.natCast_mul];grind
  .have:j=F.length:=ω;subst this;rw[Db]at b;refine .inr ⟨i g,q g (A5 ω),g,rfl,hg.mono ω,λh=>h0 (by rw[h];rfl),λh=>k (length_pos_iff.2 h),b⟩
 .rintro e ⟨g,rfl,h1,h2,h3,x⟩;exact u g h1 h2 h3 x
theorem A9u {x:B9} {f:List Ax} {res:Ax} (B:f.length=x.V.length) {l:Bn} (Z:l.T.length<=16) (hc : -1048576<=l.Q/\l.Q<=1048576) (ht:∀u∈l.T,-1048576<=u.C/\u.C<=1048576/\∃t,Dj x.V x.E u.v=some t/\-1099511627776<=(Dk f res u.v).U/\(Dk f res u.v).U<=1099511627776) {J:Int×Bool×List Int×List Int->Option R} (G:∀g:Ao,RB 200 g->rq g=(Mu (Dk f res) l:Rat)->∃r,J ((l.T.length:Int),g.N,g.U,g.B)=some r/\Q r) : ∃r,((Ed l.Q).bind λv183=> (Ak (S:=(Int×Bool×List Int×List Int)) (E:=(Int×Bool×List Int×List Int)) (λ(i,v193,v194,q)=> bif i<(l.T.length:Int) then ((Ag l.T i).bind λv196=> (Ed v196.C).bind λv198=> (Oz v196.v res f).bind λA=> (Ed A.U).bind λz=> (Fa v198 z).bind λv201=> (Jd (Ao.mk v193 v194 q) v201).bind λk=> some (.inl ((Ac (i+1)),k.N,k.U,k.B))) else some (.inr (i,v193,v194,q))) (0,v183.N,v183.U,v183.B)).bind J)=some r/\Q r:=by
 obtain⟨a,a1,a2,a3,a4⟩:=Ahj l.Q ω ω;rw[a1,Ad];refine Et (λs=>∃(j:Nat) (g:Ao),s=((j:Int),g.N,g.U,g.B)/\j<=l.T.length/\RB (3+j*11) g/\rq g=(Mu (Dk f res) ⟨l.Q,l.T.take j⟩:Rat)) (λs=>l.T.length-s.1.toNat) (λe=>∃g:Ao,e=((l.T.length:Int),g.N,g.U,g.B)/\RB 200 g/\rq g=(Mu (Dk f res) l:Rat)) ⟨0,a,rfl,ω,a2.mono ω,by rw[a4];unfold Mu;simp⟩ ?_ ?_
 .rintro s ⟨j,g,rfl,hj,hg,y⟩;rcases Cj j l.T.length with h|h
  .have hx:l.T[j]? = some l.T[j]:=Bs h;generalize l.T[j]=u at hx;obtain⟨Y,X,t,D,V,U⟩:=ht u (Bu hx);obtain⟨b,b1,b2,b3,N⟩:=Ahj u.C ω ω;obtain⟨c,c1,c2,c3,c4⟩:=Ahj (Dk f res u.v).U ω ω;obtain⟨d,d1,d2,d3,d4⟩:=Sv b2 c2 δ δ;obtain⟨e,M,_,L,e3,I⟩:=Agw hg d2 ω δ;simp only[As (ω:(j:Int)<(l.T.length:Int)),Am,Br rfl hx,Ad,b1,Amh B res D,c1,d1,C5 h ω];rw[show (Jd (Ao.mk g.N g.U g.B) d)=some e from M,Ad];refine .inl ⟨_,rfl,⟨j+1,e,rfl,ω,L.mono ω,?_⟩,by simp only[Int.toNat_natCast];omega⟩;rw[I,y,d4,N,c4,A9s _ hx,Rat.intCast_add,Rat.intCast_mul]
  .have:j=l.T.length:=ω;subst this;rw[Db]at y;exact .inr ⟨((l.T.length:Int),g.N,g.U,g.B),by simp only[A5 (ω:¬(l.T.length:Int)<(l.T.length:Int)),Aq],g,rfl,hg.mono ω,y⟩
 .rintro e ⟨g,rfl,h1,h2⟩;exact G g h1 h2
end Go.Ab
