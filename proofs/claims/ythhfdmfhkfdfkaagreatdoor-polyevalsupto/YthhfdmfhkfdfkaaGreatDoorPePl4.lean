/- Plain laws: what the plain functions answer. -/
import Derived.Test.YthhfdmfhkfdfkaaGreatDoorPePl3
namespace Go.Ab
open Go
def Jy (data:List Ao) (t:Ag) (e:A3):W3:=⟨e.Num,e.Kids,Ed (Cx data t.Num e.Num),match Gg data t e.Num with | some l=>Em l (Cx data t.Num e.Num) | none=>[]⟩
def Fa (n:Nat) (f:Nat->Nat):List Ai:=(List.range (n+1)).map λq=>cR (f q)
theorem Pj (n:Nat) (f:Nat->Nat):(Fa n f).length=n+1:=by simp [Fa]
theorem Ko {n q:Nat} (f:Nat->Nat) (h:q<=n):(Fa n f)[q]? = some (cR (f q)):=by unfold Fa;rw [List.getElem?_map,List.getElem?_range ω]; rfl
theorem Ag3 {n q x:Nat} {f g:Nat->Nat} (h:q<=n) (h1:g q=x) (h2:∀p,p<=n->p≠q->g p=f p):Cf (Fa n f) (q:Int) (cR x)=Fa n g:=by
 rw [Ho (n:=q) rfl];apply List.ext_getElem?;intro i;rw [List.getElem?_set];rcases Nat.lt_or_ge i (n+1) with hi | hi
 .rw [Ko f ω,Ko g ω,Pj];by_cases e:q=i
  .subst e; rw [if_pos rfl,if_pos ω,h1]
  .rw [if_neg e,h2 i ω (Ne.symm e)]
 .rw [List.getElem?_eq_none (by rw [Pj]; exact hi),List.getElem?_eq_none (by rw [Pj]; exact hi)];split
  .rw [if_neg (by rw [Pj]; omega)]
  .rfl
theorem Uf {n:Nat} {f g:Nat->Nat} (h:∀p,p<=n->f p=g p):Fa n f=Fa n g:=by
 apply List.ext_getElem?;intro i;rcases Nat.lt_or_ge i (n+1) with hi | hi
 .rw [Ko f ω,Ko g ω,h i ω]
 .rw [List.getElem?_eq_none (by rw [Pj]; exact hi),List.getElem?_eq_none (by rw [Pj]; exact hi)]
theorem Az8 (c:List Ag) (Q:List Bool) (y:Q.length=c.length) (z:c.length<=6) {R:Type} {J:Int×List Int×List Ag->Option R} {r:R} (x:J ((Q.length:Int),Ed Q,Em c Q)=some r) : (Al (S:=(Int×(List Int)×(List Ag))) (E:=(Int×(List Int)×(List Ag))) (λ(v85,g,f)=> bif v85<(Q.length:Int) then ((Ae Q v85).bind λi=> bif (!i) then ((Bx 8 g [v85]).bind λl=> (Ae c v85).bind λh=> (Bx 40 f [h]).bind λk=> some (.inl ((Aa (v85+1)),l,k))) else some (.inl ((Aa (v85+1)),g,f))) else some (.inr (v85,g,f))) (0,[],[])).bind J=some r:=by
 have s:∀j,(Ed (Q.take j)).length<=Q.length:=λj=>by unfold Ed;rw [List.length_map];refine Nat.le_trans (List.length_filter_le _ _) ?_;simp; omega
 refine Fg Q (λj=>((j:Int),Ed (Q.take j),Em (c.take j) (Q.take j))) (by simp [Ed,Em]) ω ?_ ?_
 .intro j b hj hb h1 h2 h3;have ha:c[j]? = some c[j]:=Be ω;generalize c[j]=a at ha;have u:=Xo (c.take j) (Q.take j);have:(c.take j).length<=6:=(by simp; omega);have hp:=s j;have q:Ed (Q.take (j+1))=Ed (Q.take j)++bif b then [] else [(j:Int)]:=by unfold Ed;rw [Abh hb,List.filter_append,List.map_append];cases b <;> rfl
  simp only [h1,h2,h3,cond_true,Ad,q,Abf ha hb];cases b with| true=>simp| false=>simp only [Bool.not_false,cond_true,cond_false];rw [Di (by simp; omega),Ad,Bi rfl ha,Ad,Di (by simp; omega)]; rfl
 .intro h1;exact ⟨_,by simp only [h1]; rfl,by rw [List.take_length,List.take_of_length_le ω]; exact x⟩
theorem Az9 (n:Nat) (k:n<=100) {R:Type} {J:List Ai->Option R} {r:R} (h:J (List.replicate n (cR 0))=some r) : (Al (S:=(Int×(List Ai))) (E:=(List Ai)) (λ(b,c)=> bif b<(((List.replicate n (Ai.mk false [] [])).length:Nat):Int) then ((Dn 0).bind λf=> (Ae c b).bind λg=> some (.inl ((Aa (b+1)),(Cf c b f)))) else some (.inr c)) (0,List.replicate n (Ai.mk false [] []))).bind J=some r:=by
 refine Fg (List.replicate n (Ai.mk false [] [])) (λj=>((j:Int),List.replicate j (cR 0)++List.replicate (n-j) (Ai.mk false [] []))) ψ (by simp; omega) ?_ ?_
 .intro j x hj hx h1 h2 h3;have hj':j<n:=(by simpa using hj);have i:List.replicate (n-j) (Ai.mk false [] [])=Ai.mk false [] []::List.replicate (n-(j+1)) (Ai.mk false [] []):=(by rw [show n-j=(n-(j+1))+1 by omega]; rfl);simp only [h1,h3,cond_true,Ag0,Ad,i];rw [T2 (List.replicate j (cR 0)) _ _ _ j rfl ψ,Ad,T1 _ _ _ _ _ j rfl ψ];rw [List.replicate_succ']; simp
 .intro h1;exact ⟨List.replicate n (cR 0),by simp only [h1]; simp,h⟩
end Go.Ab
namespace Go.Ab
open Go
end Go.Ab
namespace Go.Ab
open Go
theorem A0a:Vl []=some []:=κ
theorem A0b (l:List Int):Vl l=some (l.mergeSort λx y=>decide (x<=y)):=by cases l with| nil=>rw [A0a]; simp| cons a l=>rfl
theorem A0c (l:List Int):(l.mergeSort λx y=>decide (x<=y)).Pairwise (·<=·):=by have:=List.pairwise_mergeSort (le:=λx y:Int=>decide (x<=y)) (λa b c h1 h2=>by simp only [decide_eq_true_eq] at *; omega) (λa b=>by simp only [Bool.or_eq_true,decide_eq_true_eq]; omega) l;exact this.imp (λh=>by simpa using h)
structure Asc (b:List Int) (n:Nat) (l:List Int):Prop where
 up:l.Pairwise (· < ·)
 mem:∀y,y∈l↔y∈b.take n
theorem A0d {b:List Int} (c:b.Pairwise (·<=·)) {q:Nat} {p:Int} (hp:b[q]? = some p):∀y∈b.take (q+1),y<=p:=by
 intro y hy;obtain ⟨i,hi⟩:=List.getElem?_of_mem hy;rw [List.getElem?_take] at hi;split at hi
 .rename_i f;by_cases e:i=q
  .subst e; rw [hi] at hp; cases hp; exact Int.le_refl _
  .have h1:=Dr hi;have h2:=Dr hp;have:=(List.pairwise_iff_getElem.1 c) i q h1 h2 ω;rw [Be h1] at hi;rw [Be h2] at hp;cases hi; cases hp; exact this
 .cases hi
theorem Asc.step {b:List Int} (g:b.Pairwise (·<=·)) {q:Nat} {l:List Int} {p x:Int} (h:Asc b (q+1) l) (hp:b[q]? = some p) (hx:b[q+1]? = some x) (j:x≠p):Asc b (q+2) (l++[x]):=by
 have f:=A0d g hp;have i:p<x:=by have h1:=Dr hp;have h2:=Dr hx;have:=(List.pairwise_iff_getElem.1 g) q (q+1) h1 h2 ω;rw [Be h1] at hp;rw [Be h2] at hx;cases hp; cases hx; omega
 refine ⟨?_,λy=>?_⟩
 .rw [List.pairwise_append];refine ⟨h.up,ψ,λa ha c hc=>?_⟩;rw [List.mem_singleton] at hc;subst hc;have:=f a ((h.mem a).1 ha);omega
 .rw [Cu hx,List.mem_append,List.mem_append,h.mem y]
theorem Asc.same {b:List Int} {q:Nat} {l:List Int} {x:Int} (h:Asc b (q+1) l) (hp:b[q]? = some x) (hx:b[q+1]? = some x):Asc b (q+2) l:=by
 refine ⟨h.up,λy=>?_⟩;rw [Cu hx,List.mem_append,h.mem y];constructor
 .exact .inl
 .rintro (h1 | h1)
  .exact h1
  .rw [List.mem_singleton] at h1;subst h1;rw [Cu hp]; simp
theorem Nh {α:Type} {l:List α} {off n:Nat} {i:Int} {j:Nat} {x:α} (hi:i=j) (hj:j<n) (h:l[off+j]? = some x):Fb l off n i=some x:=by subst hi;unfold Fb;rw [if_pos ω]; simpa using h
theorem A0e {X:Option (Nat×List Int)} {Q:Nat×List Int->Prop} (h:∃r,X=some r/\Q r):∃(m:Nat) (o:List Int),X=some (m,o)/\Q (m,o):=by obtain ⟨⟨m,o⟩,h1,h2⟩:=h;exact ⟨m,o,h1,h2⟩
theorem A0f {X:Option (Int⊕((Nat×List Int)⊕Unit))} {P:Nat->List Int->Prop} {b:Prop} (h:∃r,X=some r/\∃(m:Nat) (o:List Int),r = .inr (.inl (m,o))/\P m o) : ∃e,X=some (.inr e)/\((∃(m:Nat) (o:List Int),e = .inl (m,o)/\P m o)\/(e = .inr ()/\b)):=by obtain ⟨_,h1,m,o,rfl,h2⟩:=h;exact ⟨_,h1,.inl ⟨m,o,rfl,h2⟩⟩
theorem A0g (b:List Int) (R:b.Pairwise (·<=·)) (hl:b.length<=1099511627776):∃(m:Nat) (o:List Int),Sp b.length b=some (m,o)/\m<=o.length/\Asc b b.length (o.take m):=by
 unfold Sp;by_cases h2:b.length<2
 .rw [An ω,cond_true];refine ⟨b.length,b,rfl,Nat.le_refl _,?_,λy=>Iff.rfl⟩;rw [List.take_length]
  match b,h2 with| [],_=>simp| [_],_=>simp
 .rw [Aq ω,cond_false];refine A0e (Q:=λr:Nat×List Int=>r.1<=r.2.length/\Asc b b.length (r.2.take r.1)) ?_
  .refine C6 (Q:=λr:Nat×List Int=>r.1<=r.2.length/\Asc b b.length (r.2.take r.1)) (λv=>∃j:Nat,v=((j+1:Nat):Int)/\j+1<=b.length/\Asc b (j+1) (b.take (j+1))) (λv=>b.length-v.toNat) (λe:((Nat×List Int)⊕Unit)=>(∃(m:Nat) (o:List Int),e = .inl (m,o)/\m<=o.length/\Asc b b.length (o.take m))\/(e = .inr ()/\Asc b b.length (b.take b.length))) ?_ ?_ ?_ (J:=λz:((Nat×List Int)⊕Unit)=>match z with | .inl (G,E)=>some (G,E) | .inr _=>some (b.length,b))
   .exact ⟨0,rfl,ω,by
     refine ⟨?_,λy=>Iff.rfl⟩
     match b,h2 with
     | a::_,_=>simp
     | [],h=>simp at h⟩
   .rintro v ⟨j,rfl,hj,N⟩;rcases Nat.lt_or_ge (j+1) b.length with h | h
    .have hx:b[j+1]? = some b[j+1]:=Be h;have hp:b[j]? = some b[j]:=Be ω;generalize b[j+1]=x at hx;generalize b[j]=p at hp;have X:Aa (((j+1:Nat):Int)-1)=((j:Nat):Int):=(by rw [show (((j+1:Nat):Int)-1)=(j:Int) by omega,Aa,B4] <;> omega);simp only [An (by omega:((j+1:Nat):Int)<(b.length:Int)),cond_true,Nh (l:=b) (off:=0) (n:=b.length) (i:=((j+1:Nat):Int)) rfl h (by rw [Nat.zero_add]; exact hx),X, Nh (l:=b) (off:=0) (n:=b.length) (i:=((j:Nat):Int)) rfl ω (by rw [Nat.zero_add]; exact hp),Ad,Co h ω];by_cases e:x=p
     .subst e;rw [Ct rfl,cond_true];have A:I4 b.length ((j+1:Nat):Int) ((b.length:Nat):Int)=some (j+1,b.length):=(by unfold I4;rw [if_pos ω]; simp);rw [A,Ad];dsimp only;refine .inr ?_;refine A0f (C6 (Q:=λz:(Int⊕((Nat×List Int)⊕Unit))=>∃(m:Nat) (o:List Int),z = .inr (.inl (m,o))/\m<=o.length/\Asc b b.length (o.take m)) (λz=>∃(w k:Nat) (o:List Int),z=((w:Int),(k:Int),o)/\o.length=b.length/\w<=j+k/\1<=k/\j+1+k<=b.length/\Asc b (j+1+k) (o.take w)/\∀i,w<=i->o[i]? = b[i]?) (λz=>b.length-(j+1)-z.2.1.toNat) (λz=>∃(w k:Nat) (o:List Int),z=((w:Int),(k:Int),o)/\o.length=b.length/\w<=b.length/\Asc b b.length (o.take w)) ?_ ?_ ?_)
      .refine ⟨j+1,1,b,rfl,rfl,ω,ω,ω,?_,λ_ _=>rfl⟩;exact N.same hp hx
      .rintro z ⟨w,k,o,rfl,D,hw,hk,Z,f,c⟩;rcases Nat.lt_or_ge (j+1+k) b.length with h' | h'
       .have hy:b[j+1+k]? = some b[j+1+k]:=Be h';have hq:b[j+k]? = some b[j+k]:=Be ω;generalize b[j+1+k]=y at hy;generalize b[j+k]=q at hq;have V:Aa ((k:Int)-1)=((k-1:Nat):Int):=(by rw [show ((k:Int)-1)=((k-1:Nat):Int) by omega,Aa,B4] <;> omega);have U:Aa ((k:Int)+1)=((k+1:Nat):Int):=Co (n:=b.length) ω ω;have S:Aa ((w:Int)+1)=((w+1:Nat):Int):=Co (n:=b.length) ω ω;have i1:Fb o (0+(j+1)) (b.length-(j+1)) (k:Int)=some y:=Nh rfl ω (by rw [Nat.zero_add,c _ ω]; exact hy);have i2:Fb o (0+(j+1)) (b.length-(j+1)) ((k-1:Nat):Int)=some q:=Nh rfl ω (by rw [Nat.zero_add,c _ ω,show j+1+(k-1)=j+k by omega]; exact hq);have I:o[w]? = some (o[w]' ω):=Be _;have i3:Fb o 0 b.length (w:Int)=some (o[w]' ω):=Nh rfl ω (by rw [Nat.zero_add]; exact I);simp only [An (by omega:(k:Int)<((b.length-(j+1):Nat):Int)),cond_true,i1,i2,i3,V,U,S,Ad];by_cases e:y=q
        .subst e;rw [Cp rfl,cond_false];refine .inl ⟨_,rfl,⟨w,k+1,o,rfl,D,ω,ω,ω,?_,c⟩,by simp only [Int.toNat_natCast]; omega⟩;have:=Asc.same (q:=j+k) (x:=y) (by rw [show j+k+1=j+1+k by omega]; exact f) hq (by rw [show j+k+1=j+1+k by omega]; exact hy);rw [show j+1+(k+1)=j+k+2 by omega]; exact this
        .rw [Cs e,cond_true];have B:Cf o (((0:Nat):Int)+(w:Int)) y=o.set w y:=Ho (n:=w) ω y;have s:(o.set w y).take (w+1)=o.take w++[y]:=(by rw [Cu (x:=y) (by rw [List.getElem?_set,if_pos rfl,if_pos ω]),List.take_set_of_le (Nat.le_refl _)]);rw [B];refine .inl ⟨_,rfl,⟨w+1,k+1,o.set w y,rfl,by simpa using D,ω,ω,ω,?_,?_⟩,by simp only [Int.toNat_natCast]; omega⟩
         .rw [s];have:=Asc.step R (q:=j+k) (x:=y) (p:=q) (by rw [show j+k+1=j+1+k by omega]; exact f) hq (by rw [show j+k+1=j+1+k by omega]; exact hy) e;rw [show j+1+(k+1)=j+k+2 by omega]; exact this
         .intro i hi;rw [List.getElem?_set,if_neg ω];exact c i ω
       .have L:j+1+k=b.length:=ω;refine .inr ⟨((w:Int),(k:Int),o),?_,w,k,o,rfl,D,ω,by rw [<-L]; exact f⟩;simp only [Aq (by omega:¬(k:Int)<((b.length-(j+1):Nat):Int)),cond_false]
      .rintro z ⟨w,k,o,rfl,D,hw,f⟩;dsimp only;have g:Sh b.length (w:Int)=some w:=(by unfold Sh;rw [if_pos ω]; simp);by_cases Y:w=0\/w<b.length
       .have u:Jp b.length (w:Int) ((b.length:Nat):Int)=some (.inl (w,b.length)):=(by unfold Jp;rw [if_pos ω,if_pos ω]; simp);have M:Nv o (0+w) (b.length-w) (0:Int)=some (C8 o (0+w) (List.replicate (b.length-w) 0)):=(by unfold Nv;rw [if_pos ω]);rw [u,Ad];dsimp only;rw [M,Ad,g,Ad];have s:(C8 o (0+w) (List.replicate (b.length-w) (0:Int))).take w=o.take w:=(by unfold C8;rw [Nat.zero_add,List.append_assoc,List.take_append_of_le_length (by simp; omega),List.take_take,Nat.min_self]);refine ⟨_,rfl,w,_,rfl,?_,?_⟩
        .unfold C8; simp; omega
        .rw [s]; exact f
       .have u:Jp b.length (w:Int) ((b.length:Nat):Int)=some (.inr ()):=(by unfold Jp;rw [if_pos ω,if_neg ω]);rw [u,Ad];dsimp only;rw [g,Ad];exact ⟨_,rfl,w,o,rfl,ω,f⟩
     .rw [Bz e,cond_false];refine .inl ⟨_,rfl,⟨j+1,rfl,ω,?_⟩,by simp only [Int.toNat_natCast]; omega⟩;have:=Asc.step R N hp hx e;rw [<-Cu hx] at this;exact this
    .have:j+1=b.length:=ω;refine .inr ⟨.inr (),?_,.inr ⟨rfl,by rw [<-this]; exact N⟩⟩;rw [Aq ω]; rfl
   .rintro e (⟨m,o,rfl,h1,h2⟩ | ⟨rfl,h1⟩)
    .exact ⟨(m,o),rfl,h1,h2⟩
    .exact ⟨(b.length,b),rfl,Nat.le_refl _,h1⟩
end Go.Ab
namespace Go.Ab
open Go
end Go.Ab
namespace Go.Ab
open Go
def C3 (b:List Ar) (res:Ar) (v:Int):Ar:=match Ae b v with | some w=>w | none=>res
theorem Ag4 {x:B8} {b:List Ar} (c:b.length=x.Vars.length) (res:Ar) {v:Int} {t:Ag} (ht:Dl x.Vars x.Res v=some t):Jq v res b=some (C3 b res v):=by
 unfold Jq C3;unfold Dl at ht;by_cases h:v = -1
 .subst h;rw [Amf ω]; rfl
 .rw [if_neg h] at ht;obtain ⟨a1,a2,_⟩:=Ec ht;have hi:Ae b v=some (b[v.toNat]' ω):=Bi (n:=v.toNat) ω (Be _);rw [Bz h,hi]; rfl
theorem Apf {b:List Ar} {res:Ar} {N:Nat} (h:∀v∈b,B1 v<=N) (h':B1 res<=N) (v:Int):B1 (C3 b res v)<=N:=by unfold C3;cases hi:Ae b v with| none=>exact h'| some w=>exact h w (Ec hi).2.2.2
end Go.Ab
namespace Go.Ab
open Go
def F1 (x:B8) (b:List Ar) (res:Ar) (v:Int):Bool:=match Dl x.Vars x.Res v with | some t=>Hz x.Data (C3 b res v) t | none=>false
end Go.Ab
namespace Go.Ab
open Go
end Go.Ab
namespace Go.Ab
open Go
theorem A0h:Zm=some true:=κ
end Go.Ab
namespace Go.Ab
open Go
def G7 (l:List Cb):List Int:=l.flatMap λa=>a.Lin.Terms.map (·.Var)
def Hh (m:Bw):List Int:=m.Factors.map (·.Var)++G7 m.Atoms
def Dq (p:List A5):List Int:=p.flatMap λt=>Hh t.Mono
theorem Apg {α:Type} (F:List α) (g:α->Int) (o:List Int) (h:o.length+F.length<=1000000) {R:Type} {J:Int×List Int->Option R} {r:R} (l:J ((F.length:Int),o++F.map g)=some r) : (Al (S:=(Int×(List Int))) (E:=(Int×(List Int))) (λ(v164,b)=> bif v164<(F.length:Int) then ((Ae F v164).bind λc=> (Bx 8 b [g c]).bind λi=> some (.inl ((Aa (v164+1)),i))) else some (.inr (v164,b))) (0,o)).bind J=some r:=by
 refine Fg F (λj=>((j:Int),o++(F.take j).map g)) ψ ω ?_ ?_
 .intro j f hj k h1 h2 h3;simp only [h1,h2,h3,cond_true,Ad];rw [Di (by simp; omega),Cu k]; simp
 .intro h1;exact ⟨_,by simp only [h1]; rfl,by rw [List.take_length]; exact l⟩
theorem A0i {α:Type} (f:α->List Int) (l:List α) (j:Nat):((l.take j).flatMap f).length<=(l.flatMap f).length:=by
 have:l.flatMap f=(l.take j).flatMap f++(l.drop j).flatMap f:=by rw [<-List.flatMap_append,List.take_append_drop]
 rw [this,List.length_append]; omega
theorem Ab5 {α:Type} (f:α->List Int) {l:List α} {j:Nat} {x:α} (h:l[j]? = some x):((l.take j).flatMap f).length+(f x).length<=(l.flatMap f).length:=by have:=A0i f l (j+1);rw [Cu h,List.flatMap_append] at this;simpa using this
theorem Aph (p:List A5) (J:p.length<=1000000) (ha:∀t∈p,t.Mono.Atoms.length<=1000000) (hb:(Dq p).length<=1000000) : ∃V,Sl p=some V/\V.Pairwise (· < ·)/\V.length<=1000000/\∀y,y∈V↔y∈Dq p:=by
 obtain ⟨m,o,G,E,k⟩:=A0g ((Dq p).mergeSort λx y=>decide (x<=y)) (A0c _) (by rw [List.length_mergeSort]; omega);refine ⟨o.take m,?_,k.up,?_,?_⟩
 .unfold Sl;refine Fg p (λj=>((j:Int),Dq (p.take j))) rfl ω ?_ ?_
  .intro j t hj ht h1 h2 h3;have s:=Bg ht;have D:=ha t s;have c:(Dq (p.take j)).length+(Hh t.Mono).length<=1000000:=Nat.le_trans (Ab5 (λt:A5=>Hh t.Mono) ht) hb;unfold Hh at c;rw [List.length_append,List.length_map] at c;simp only [h1,h2,h3,cond_true,Ad];refine Apg t.Mono.Factors (λf=>f.Var) (Dq (p.take j)) ω ?_;dsimp only;refine Fg t.Mono.Atoms (λi=>((i:Int),Dq (p.take j)++t.Mono.Factors.map (λf=>f.Var)++G7 (t.Mono.Atoms.take i))) (by simp [G7]) ω ?_ ?_
   .intro i a hi g q A z;have B:(G7 (t.Mono.Atoms.take i)).length+(a.Lin.Terms.map (·.Var)).length<=(G7 t.Mono.Atoms).length:=Ab5 (λa:Cb=>a.Lin.Terms.map (λl:Dv=>l.Var)) g;rw [List.length_map] at B;simp only [q,A,z,cond_true,Ad];refine Apg a.Lin.Terms (λl=>l.Var) _ (by simp only [List.length_append,List.length_map]; omega) ?_;show some (Sum.inl (_,_))=_;rw [Cu g];unfold G7;rw [List.flatMap_append];simp
   .intro q;refine ⟨_,by simp only [q]; rw [List.take_length]; rfl,?_⟩;show some (Sum.inl (_,_))=_;rw [Cu ht];unfold Dq;rw [List.flatMap_append];simp [Hh]
  .intro h1;refine ⟨Dq p,by simp only [h1]; rw [List.take_length]; rfl,?_⟩;rw [A0b,Ad];unfold Gt;rw [if_pos (by rw [List.length_mergeSort]),Ad];have:Sp (Dq p).length ((Dq p).mergeSort λx y=>decide (x<=y))=some (m,o):=(by rw [<-G,List.length_mergeSort]);rw [this,Ad];unfold P6;rw [if_pos E]; rfl
 .have I:((o.take m).length:Nat)<=(Dq p).length:=by
   have u:(o.take m).Nodup:=k.up.imp (λh=>ω);have b:∀y∈o.take m,y∈Dq p:=λy hy=>by have:=(k.mem y).1 hy;rw [List.take_length] at this;exact List.mem_mergeSort.1 this
   exact List.Nodup.length_le_of_subset u b
  omega
 .intro y;rw [k.mem y,List.take_length,List.mem_mergeSort]
theorem A0j (L:List Int) (b:List Int) (n:Nat) (v:Int) (A:n<=b.length) (q:b.take n=L) (hb:n<=1000000) : ∃k:Nat,k<=n/\(∀(i:Nat) (y:Int),i<k->L[i]? = some y->y<v)/\(∀y,L[k]? = some y->v<=y) /\ Al (S:=Int) (E:=Int) (λv2=> bif v2<((n:Nat):Int) then ((Fb b 0 n v2).bind λv3=> bif v3<v then some (.inl (Aa (v2+1))) else some (.inr v2)) else some (.inr v2)) 0=some (k:Int):=by
 have f:∀i,i<n->L[i]? = b[i]?:=λi hi=>by rw [<-q,List.getElem?_take,if_pos hi]
 have j:L.length=n:=by rw [<-q,List.length_take]; omega
 obtain ⟨e,h1,k,h2,h3,h4,u⟩:=P5 (step:=(λv2:Int=> bif v2<((n:Nat):Int) then ((Fb b 0 n v2).bind λv3=> bif v3<v then some (.inl (Aa (v2+1))) else some (.inr v2)) else some (.inr v2):Int->Option (Int⊕Int))) (λs=>∃k:Nat,s=(k:Int)/\k<=n/\∀(i:Nat) (y:Int),i<k->L[i]? = some y->y<v) (λs=>n-s.toNat) (λe=>∃k:Nat,e=(k:Int)/\k<=n/\(∀(i:Nat) (y:Int),i<k->L[i]? = some y->y<v)/\(∀y,L[k]? = some y->v<=y)) (by
   rintro s ⟨k,rfl,hk,c⟩;rcases Nat.lt_or_ge k n with h | h
   .have hx:b[k]? = some (b[k]' ω):=Be _;generalize b[k]'_=x at hx;have g:L[k]? = some x:=(by rw [f k h]; exact hx);simp only [An (by omega:(k:Int)<(n:Int)),cond_true,Nh (l:=b) (off:=0) (n:=n) (i:=(k:Int)) rfl h (by rw [Nat.zero_add]; exact hx),Ad];by_cases e:x<v
    .rw [An e,cond_true,Co h ω];refine .inl ⟨_,rfl,⟨k+1,rfl,ω,λi y hi hy=>?_⟩,by simp only [Int.toNat_natCast]; omega⟩;by_cases z:i=k
     .subst z; rw [g] at hy; cases hy; exact e
     .exact c i y ω hy
    .rw [Aq e,cond_false];exact .inr ⟨_,rfl,k,rfl,hk,c,λy hy=>by rw [g] at hy; cases hy; omega⟩
   .have:k=n:=ω;subst this;exact .inr ⟨(k:Int),by rw [Aq ω]; rfl,k,rfl,hk,c,λy hy=>by rw [List.getElem?_eq_none ω] at hy; cases hy⟩) 0 ⟨0,rfl,ω,λi y hi=>ω⟩;subst h2;exact ⟨k,h3,h4,u,h1⟩
theorem A0k (L b:List Int) (n:Nat) (v:Int) (N:n<=b.length) (J:b.take n=L) (hb:b.length<=1000000) (G:L.Pairwise (· < ·)) : ∃(M:Nat) (o:List Int),Qf n v b=some (M,o)/\M<=o.length/\o.length<=b.length+1/\(o.take M).Pairwise (· < ·)/\∀y,y∈o.take M↔(y=v\/y∈L):=by
 obtain ⟨k,k1,k2,k3,k4⟩:=A0j L b n v N J ω;have q:∀i,i<n->L[i]? = b[i]?:=λi hi=>by rw [<-J,List.getElem?_take,if_pos hi]
 have a6:L.length=n:=by rw [<-J,List.length_take]; omega
 unfold Qf;rw [k4,Ad];by_cases B:k<n/\L[k]? = some v
 .obtain ⟨h1,h2⟩:=B;rw [An (by omega:(k:Int)<(n:Int)),cond_true,Nh (l:=b) (off:=0) (n:=n) (i:=(k:Int)) rfl h1 (by rw [Nat.zero_add,<-q k h1]; exact h2),Ad,Ct rfl,Ad,cond_true];refine ⟨n,b,rfl,N,ω,by rw [J]; exact G,λy=>?_⟩;rw [J];constructor
  .exact .inr
  .rintro (rfl | h)
   .exact Bg h2
   .exact h
 .have hq:(bif decide ((k:Int)<(n:Int)) then (Fb b 0 n (k:Int)).bind λv5=>some (v5==v) else some false)=some false:=by
   by_cases h1:k<n
   .have hx:b[k]? = some (b[k]' ω):=Be _;generalize b[k]'_=x at hx;have V:x≠v:=λe=>B ⟨h1,by rw [q k h1,hx,e]⟩;rw [An (by omega:(k:Int)<(n:Int)),cond_true,Nh (l:=b) (off:=0) (n:=n) (i:=(k:Int)) rfl h1 (by rw [Nat.zero_add]; exact hx),Ad,Bz V]
   .rw [Aq ω]; rfl
  have S:∀y,L[k]? = some y->v<y:=λy hy=>by have h1:=k3 y hy;have h2:=Dr hy;have:y≠v:=λe=>B ⟨ω,by rw [hy,e]⟩;omega
  erw [hq];simp only [Ad,cond_false];have a1:Uz 8 b n [0]=some (C8 b n [0],n+1):=(by unfold Uz;rw [if_pos ⟨N,by simp; omega⟩]; rfl);rw [a1,Ad];dsimp only;have g:(C8 b n [0]).length=max b.length (n+1):=(by unfold C8; simp; omega);have A:∀i,i<n->(C8 b n [0])[i]? = L[i]?:=λi hi=>by rw [Up N,if_pos hi,q i hi]
  have w1:Aa ((k:Int)+1)=((k+1:Nat):Int):=Co (n:=n+1) ω ω;have U:I4 (n+1) (k:Int) (((n+1:Nat):Nat):Int)=some (k,n+1):=(by unfold I4;rw [if_pos ω]; simp);have key:∃f:List Int,((Jp (n+1) (Aa ((k:Int)+1)) (((n+1:Nat):Nat):Int)).bind λv8=>
    match v8 with
    | .inl v9=> (I4 (n+1) (k:Int) (((n+1:Nat):Nat):Int)).bind λu=> (Mq (C8 b n [0]) (0+v9.1) (v9.2-v9.1) (0+u.1) (u.2-u.1)).bind λR=>some R
    | .inr _=>(I4 (n+1) (k:Int) (((n+1:Nat):Nat):Int)).bind λv12=>some (C8 b n [0]))=some f/\f.length=max b.length (n+1)/\(∀i,i<k->f[i]? = L[i]?)/\∀i,k<=i->i<n->f[i+1]? = L[i]?:=by
   rw [w1,U];by_cases a8:k<n
   .have z:Jp (n+1) ((k+1:Nat):Int) (((n+1:Nat):Nat):Int)=some (.inl (k+1,n+1)):=(by unfold Jp;rw [if_pos ω,if_pos ω]; simp);rw [z,Ad];dsimp only;have Z:Mq (C8 b n [0]) (0+(k+1)) (n+1-(k+1)) (0+k) (n+1-k)=some (C8 (C8 b n [0]) (0+(k+1)) (((C8 b n [0]).drop (0+k)).take (min (n+1-k) (n+1-(k+1))))):=(by unfold Mq;rw [if_pos ω]);rw [Ad];dsimp only;rw [Z,Ad];have hd:(((C8 b n [0]).drop (0+k)).take (min (n+1-k) (n+1-(k+1)))).length=n-k:=(by rw [List.length_take,List.length_drop,g]; omega);refine ⟨_,rfl,?_,λi hi=>?_,λi hi s=>?_⟩
    .rw [Po (by rw [g]; omega),g,hd]; omega
    .rw [Up (by rw [g]; omega),if_pos ω,A i ω]
    .rw [Up (by rw [g]; omega),if_neg ω,if_pos (by rw [hd]; omega),List.getElem?_take,if_pos ω,List.getElem?_drop,show 0+k+(i+1-(0+(k+1)))=i by omega,A i s]
   .have a7:k=n:=ω;have z:Jp (n+1) ((k+1:Nat):Int) (((n+1:Nat):Nat):Int)=some (.inr ()):=(by unfold Jp;rw [if_pos ω,if_neg ω]);rw [z,Ad];dsimp only;rw [Ad];exact ⟨_,rfl,g,λi hi=>A i ω,λi hi s=>ω⟩
  obtain ⟨f,g1,g2,g3,g4⟩:=key
  erw [g1];rw [Ad];have I:f[k]? = some (f[k]' ω):=Be _;rw [Nh (l:=f) (off:=0) (n:=n+1) (i:=(k:Int)) rfl ω (by rw [Nat.zero_add]; exact I),Ad];have E:Cf f (((0:Nat):Int)+(k:Int)) v=f.set k v:=Ho (n:=k) ω v;rw [E];have D:(f.set k v).take (n+1)=L.take k++v::L.drop k:=by
   apply List.ext_getElem?;intro i;rw [List.getElem?_take,List.getElem?_set];have X:(L.take k).length=k:=(by rw [List.length_take]; omega);by_cases h1:i<k
   .rw [if_pos ω,if_neg ω,g3 i h1,List.getElem?_append_left ω,List.getElem?_take,if_pos h1]
   .rw [List.getElem?_append_right ω,X];by_cases h2:i=k
    .subst h2;rw [if_pos ω,if_pos rfl,if_pos ω,Nat.sub_self]; rfl
    .obtain ⟨j,hj⟩:∃j,i=j+1:=⟨i-1,ω⟩;subst hj;rw [show j+1-k=(j-k)+1 by omega,List.getElem?_cons_succ,List.getElem?_drop,show k+(j-k)=j by omega];by_cases h3:j<n
     .rw [if_pos ω,if_neg ω,g4 j ω h3]
     .rw [if_neg ω,List.getElem?_eq_none ω]
  refine ⟨n+1,f.set k v,rfl,by rw [List.length_set]; omega,by rw [List.length_set]; omega,?_,λy=>?_⟩
  .rw [D,List.pairwise_append];refine ⟨G.sublist (List.take_sublist _ _),?_,?_⟩
   .rw [List.pairwise_cons];refine ⟨λy hy=>?_,G.sublist (List.drop_sublist _ _)⟩;obtain ⟨i,hi⟩:=List.getElem?_of_mem hy;rw [List.getElem?_drop] at hi;have h1:=Dr hi;have hx:L[k]? = some (L[k]' ω):=Be _;have h2:=S _ hx;by_cases h0:i=0
    .subst h0; rw [Nat.add_zero,hx] at hi; cases hi; exact h2
    .have:=(List.pairwise_iff_getElem.1 G) k (k+i) ω h1 ω;rw [Be h1] at hi;cases hi; omega
   .intro a ha c hc;obtain ⟨i,hi⟩:=List.getElem?_of_mem ha;rw [List.getElem?_take] at hi;split at hi
    .rename_i Y;have h1:=k2 i a Y hi;rcases List.mem_cons.1 hc with rfl | hc
     .exact h1
     .obtain ⟨j,hj⟩:=List.getElem?_of_mem hc;rw [List.getElem?_drop] at hj;have h2:=Dr hj;have h3:=Dr hi;have:=(List.pairwise_iff_getElem.1 G) i (k+j) h3 h2 ω;rw [Be h3] at hi;rw [Be h2] at hj;cases hi; cases hj; exact this
    .cases hi
  .rw [D,List.mem_append,List.mem_cons];constructor
   .rintro (h | h | h)
    .exact .inr (List.mem_of_mem_take h)
    .exact .inl h
    .exact .inr (List.mem_of_mem_drop h)
   .rintro (h | h)
    .exact .inr (.inl h)
    .rw [<-List.take_append_drop k L,List.mem_append] at h;rcases h with h | h
     .exact .inl h
     .exact .inr (.inr h)
end Go.Ab
namespace Go.Ab
open Go
theorem Api (l:List Int) (b:l.length<=1099511627776):Sn l l=some true:=by
 unfold Sn;rw [Cp rfl,cond_false];refine Fg l (λj=>(j:Int)) rfl ω ?_ ?_
 .intro j x hj hx h1 h2 h3;simp only [h1,h2,h3,cond_true,Ad,bne_self_eq_false,cond_false]
 .intro h;exact ⟨.inr (),by simp only [h]; rfl,rfl⟩
theorem Apj (a:Ai) (h1:a.Num.length<=1099511627776) (h2:a.Den.length<=1099511627776):Nz a a=some true:=by unfold Nz;rw [beq_self_eq_true,cond_true,Api _ h1,Ad,cond_true,Api _ h2,Ad]
theorem A0l:∀(k:Nat) (i:A3) (a:Int),C1 i<=k->k<1099511627776->∃r,Qo k i a=some r/\True:=by
 intro k;induction k with
 | zero=>intro i a h; have:=E5 i; omega
 | succ k ih=>
  intro i a h hk;have f:=E5 i;have g:=Li i.Kids;rw [Qo];refine Lg ⟨_,rfl,trivial⟩ ?_;refine C6 (λ(v,_)=>∃j:Nat,v=j/\j<=i.Kids.length) (λ(v,_)=>i.Kids.length-v.toNat) (λ_=>True) ⟨0,rfl,ω⟩ ?_ ?_
  .rintro ⟨v,b⟩ ⟨j,rfl,hj⟩;rcases Nat.lt_or_ge j i.Kids.length with h' | h'
   .have hx:i.Kids[j]? = some i.Kids[j]:=Be h';generalize i.Kids[j]=x at hx;have l:=Hy (Bg hx);obtain ⟨⟨y,z⟩,c,_⟩:=ih x b ω ω;simp only [An (by omega:(j:Int)<(i.Kids.length:Int)),cond_true,Bi rfl hx,Ad,c,Co h' ω];cases y with| false=>exact .inr ⟨_,rfl,trivial⟩| true=>exact .inl ⟨_,rfl,⟨j+1,rfl,ω⟩,by simp only [Int.toNat_natCast]; omega⟩
   .have:j=i.Kids.length:=ω;subst this;exact .inr ⟨.inr b,ψ,trivial⟩
  .rintro (⟨x,y⟩ | e) _
   .exact ⟨_,rfl,trivial⟩
   .exact ⟨_,rfl,trivial⟩
theorem A0m (i:A3) (h:C1 i<=1048576):∃b,Vr i=some b:=by unfold Vr;obtain ⟨r,h1,_⟩:=A0l 4000000 i 40 ω ω;exact ⟨_,by rw [h1]; rfl⟩
def Rw (m:Bw):Prop:=m.Factors.length<=8/\m.Atoms.length<=8/\∀a∈m.Atoms,a.Lin.Terms.length<=70
theorem A0n (m:Bw) (i:MSz m):∃b,Vg m=some b/\(b=true->Rw m):=by
 unfold Vg;by_cases h1:(m.Factors.length:Int)>8
 .rw [An h1];exact ⟨false,rfl,λh=>by cases h⟩
 .rw [Aq h1];by_cases h2:(m.Atoms.length:Int)>8
  .rw [An h2];exact ⟨false,rfl,λh=>by cases h⟩
  .rw [Aq h2];simp only [cond_false,Ad];refine C6 (λv=>∃j:Nat,v=j/\j<=m.Factors.length) (λv=>m.Factors.length-v.toNat) (λz=>z = .inl false\/z = .inr ()) ⟨0,rfl,ω⟩ ?_ ?_
   .rintro v ⟨j,rfl,hj⟩;rcases Nat.lt_or_ge j m.Factors.length with h' | h'
    .have hx:m.Factors[j]? = some m.Factors[j]:=Be h';generalize m.Factors[j]=x at hx;obtain ⟨b,hb⟩:=A0m x.Index (i.fi x (Bg hx));simp only [An (by omega:(j:Int)<(m.Factors.length:Int)),cond_true,Bi rfl hx,Ad,hb,Co h' ω];cases b with| false=>exact .inr ⟨_,rfl,.inl rfl⟩| true=>exact .inl ⟨_,rfl,⟨j+1,rfl,ω⟩,by simp only [Int.toNat_natCast]; omega⟩
    .have:j=m.Factors.length:=ω;subst this;exact .inr ⟨.inr (),ψ,.inr rfl⟩
   .rintro z (rfl | rfl)
    .exact ⟨false,rfl,λh=>by cases h⟩
    .dsimp only;refine C6 (λv=>∃j:Nat,v=j/\j<=m.Atoms.length/\∀a∈m.Atoms.take j,a.Lin.Terms.length<=70) (λv=>m.Atoms.length-v.toNat) (λz=>z = .inl false\/(z = .inr ()/\∀a∈m.Atoms,a.Lin.Terms.length<=70)) ⟨0,rfl,ω,ψ⟩ ?_ ?_
     .rintro v ⟨j,rfl,hj,c⟩;rcases Nat.lt_or_ge j m.Atoms.length with h' | h'
      .have hx:m.Atoms[j]? = some m.Atoms[j]:=Be h';generalize m.Atoms[j]=x at hx;simp only [An (by omega:(j:Int)<(m.Atoms.length:Int)),cond_true,Bi rfl hx,Ad,Zp,Co h' ω];by_cases f:(x.Lin.Terms.length:Int)<=70
       .rw [An f];refine .inl ⟨_,rfl,⟨j+1,rfl,ω,λa ha=>?_⟩,by simp only [Int.toNat_natCast]; omega⟩;rw [Cu hx] at ha;rcases List.mem_append.1 ha with ha | ha
        .exact c a ha
        .rw [List.mem_singleton] at ha;subst ha; omega
       .rw [Aq f];exact .inr ⟨_,rfl,.inl rfl⟩
      .have:j=m.Atoms.length:=ω;subst this;rw [List.take_length] at c;exact .inr ⟨.inr (),ψ,.inr ⟨rfl,c⟩⟩
     .rintro z (rfl | ⟨rfl,g⟩)
      .exact ⟨false,rfl,λh=>by cases h⟩
      .exact ⟨true,rfl,λ_=>⟨ω,ω,g⟩⟩
theorem A0o (p:List A5) (q:p.length<=1048576) (hp:∀t∈p,TSz t):∃b,U9 p 10=some b/\(b=true->p.length<=10/\∀t∈p,Rw t.Mono):=by
 unfold U9;refine C6 (λv=>∃j:Nat,v=j/\j<=p.length/\j<=11/\∀t∈p.take j,Rw t.Mono) (λv=>p.length-v.toNat) (λz=>z = .inl false\/(z = .inr ()/\(p.length<=10->∀t∈p,Rw t.Mono))) ⟨0,rfl,ω,ω,ψ⟩ ?_ ?_
 .rintro v ⟨j,rfl,hj,g,f⟩;rcases Nat.lt_or_ge j p.length with h' | h'
  .by_cases l:j<=10
   .have hx:p[j]? = some p[j]:=Be h';generalize p[j]=x at hx;obtain ⟨b,hb,k⟩:=A0n x.Mono (hp x (Bg hx)).mo;simp only [An (by omega:(j:Int)<(p.length:Int)),An (by omega:(j:Int)<=10),cond_true,Bi rfl hx,Ad,hb,Co h' ω];cases b with
    | false=>exact .inr ⟨_,rfl,.inl rfl⟩
    | true=>
     simp only [D3,cond_false];have:∃c,Vh x.Coef=some c:=(by unfold Vh;cases decide ((x.Coef.Num.length:Int)<=8) with| true=>exact ⟨_,rfl⟩| false=>exact ⟨_,rfl⟩);obtain ⟨c,hc⟩:=this;rw [hc,Ad];cases c with
     | false=>exact .inr ⟨_,rfl,.inl rfl⟩
     | true=>
      refine .inl ⟨_,rfl,⟨j+1,rfl,ω,ω,λt ht=>?_⟩,by simp only [Int.toNat_natCast]; omega⟩;rw [Cu hx] at ht;rcases List.mem_append.1 ht with ht | ht
      .exact f t ht
      .rw [List.mem_singleton] at ht;subst ht; exact k rfl
   .refine .inr ⟨.inr (),?_,.inr ⟨rfl,λh=>ω⟩⟩;simp only [An (by omega:(j:Int)<(p.length:Int)),Aq (by omega:¬(j:Int)<=10),cond_true,cond_false,Ad]
  .have:j=p.length:=ω;subst this;rw [List.take_length] at f;exact .inr ⟨.inr (),ψ,.inr ⟨rfl,λ_=>f⟩⟩
 .rintro z (rfl | ⟨rfl,i⟩)
  .exact ⟨false,rfl,λh=>by cases h⟩
  .refine ⟨decide ((p.length:Int)<=10),rfl,λh=>?_⟩;rw [decide_eq_true_eq] at h;exact ⟨ω,i ω⟩
end Go.Ab
namespace Go.Ab
open Go
theorem Apk:∀(l m:List Int),l.Pairwise (· < ·)->m.Pairwise (· < ·)->(∀y,y∈l↔y∈m)->l=m
 | [],[],_,_,_=>rfl
 | [],b::m,_,_,h=>by have:=(h b).2 ψ; cases this
 | a::l,[],_,_,h=>by have:=(h a).1 ψ; cases this
 | a::l,b::m,h1,h2,h=>by
  rw [List.pairwise_cons] at h1 h2;have e:a=b:=by
   rcases List.mem_cons.1 ((h a).1 ψ) with e | e
   .exact e
   .rcases List.mem_cons.1 ((h b).2 ψ) with e2 | e2
    .exact e2.symm
    .have:=h2.1 a e;have:=h1.1 b e2;omega
  subst e;rw [Apk l m h1.2 h2.2 (λy=>?_)];have:=h y;simp only [List.mem_cons] at this;constructor
  .intro hy;rcases this.1 (.inr hy) with e | e
   .subst e; have:=h1.1 y hy; omega
   .exact e
  .intro hy;rcases this.2 (.inr hy) with e | e
   .subst e; have:=h2.1 y hy; omega
   .exact e
structure Ml (n:Nat) (b X:List Int):Prop where
 le:n<=b.length
 len:b.length<=X.length
 up:(b.take n).Pairwise (· < ·)
 mem:∀y,y∈b.take n↔y∈X
theorem Apl {α:Type} (F:List α) (g:α->Int) (X:List Int) (n:Nat) (b:List Int) (h0:Ml n b X) (hb:X.length+F.length<=900000) {R:Type} {J:Nat×Int×List Int->Option R} {Q:R->Prop} (B:∀(c:Nat) (f:List Int),Ml c f (X++F.map g)->∃r,J (c,(F.length:Int),f)=some r/\Q r) : ∃r,(Al (S:=(Nat×Int×(List Int))) (E:=(Nat×Int×(List Int))) (λ(k,v198,l)=> bif v198<(F.length:Int) then ((Ae F v198).bind λu=> (Qf k (g u) l).bind λi=> some (.inl (i.1,(Aa (v198+1)),i.2))) else some (.inr (k,v198,l))) (n,0,b)).bind J=some r/\Q r:=by
 refine C6 (λs=>∃(c j:Nat) (f:List Int),s=(c,(j:Int),f)/\j<=F.length/\Ml c f (X++(F.take j).map g)) (λs=>F.length-s.2.1.toNat) (λe=>∃(c:Nat) (f:List Int),e=(c,(F.length:Int),f)/\Ml c f (X++F.map g)) ⟨n,0,b,rfl,ω,by simpa using h0⟩ ?_ ?_
 .rintro s ⟨c,j,f,rfl,hj,q⟩;rcases Nat.lt_or_ge j F.length with h | h
  .have hx:F[j]? = some F[j]:=Be h;generalize F[j]=x at hx;have z:=q.len;rw [List.length_append,List.length_map,List.length_take] at z;obtain ⟨A,o,i1,i2,i3,i4,i5⟩:=A0k (f.take c) f c (g x) q.le rfl ω q.up;simp only [An (by omega:(j:Int)<(F.length:Int)),cond_true,Bi rfl hx,Ad,i1,Co h ω];refine .inl ⟨_,rfl,⟨A,j+1,o,rfl,ω,i2,?_,i4,λy=>?_⟩,by simp only [Int.toNat_natCast]; omega⟩
   .rw [List.length_append,List.length_map,List.length_take]; omega
   .rw [i5 y,q.mem y,Cu hx];simp only [List.map_append,List.map_cons,List.map_nil,List.mem_append,List.mem_singleton];constructor
    .rintro (h | h | h)
     .exact .inr (.inr h)
     .exact .inl h
     .exact .inr (.inl h)
    .rintro (h | h | h)
     .exact .inr (.inl h)
     .exact .inr (.inr h)
     .exact .inl h
  .have:j=F.length:=ω;subst this;rw [List.take_length] at q;exact .inr ⟨(c,(F.length:Int),f),by simp only [Aq (by omega:¬(F.length:Int)<(F.length:Int)),cond_false],c,f,rfl,q⟩
 .rintro e ⟨c,f,rfl,q⟩;exact B c f q
theorem A0p (p:List A5) (J:p.length<=100000) (ha:∀t∈p,t.Mono.Atoms.length<=100000) (hb:(Dq p).length<=400000) : ∃V,Ve p=some V/\(V.Pairwise (· < ·)/\∀y,y∈V↔y∈Dq p):=by
 unfold Ve;refine C6 (λs=>∃(n j:Nat) (b:List Int),s=(n,(j:Int),b)/\j<=p.length/\Ml n b (Dq (p.take j))) (λs=>p.length-s.2.1.toNat) (λe=>∃(n:Nat) (b:List Int),e=(n,b)/\Ml n b (Dq p)) ⟨0,0,[],rfl,ω,by simp [Dq]; exact ⟨ψ,ψ,ψ,ψ⟩⟩ ?_ ?_
 .rintro s ⟨n,j,b,rfl,hj,x⟩;rcases Nat.lt_or_ge j p.length with h | h
  .have hx:p[j]? = some p[j]:=Be h;generalize p[j]=t at hx;have G:=ha t (Bg hx);have z:(Dq (p.take j)).length+(Hh t.Mono).length<=400000:=Nat.le_trans (Ab5 (λt:A5=>Hh t.Mono) hx) hb;have u:Dq (p.take (j+1))=Dq (p.take j)++Hh t.Mono:=(by rw [Cu hx]; unfold Dq; rw [List.flatMap_append]; simp);unfold Hh at z;rw [List.length_append,List.length_map] at z;refine .inl (M4 (Q:=λs'=>(∃(n j:Nat) (b:List Int),s'=(n,(j:Int),b)/\j<=p.length/\Ml n b (Dq (p.take j)))/\p.length-s'.2.1.toNat<p.length-(j:Int).toNat) ?_);simp only [An (by omega:(j:Int)<(p.length:Int)),cond_true,Bi rfl hx,Ad,Co h ω];refine Apl t.Mono.Factors (λf=>f.Var) (Dq (p.take j)) n b x ω (λD b1 h1=>?_);dsimp only;refine C6 (λs=>∃(c i:Nat) (b2:List Int),s=(c,(i:Int),b2)/\i<=t.Mono.Atoms.length/\Ml c b2 (Dq (p.take j)++t.Mono.Factors.map (λf=>f.Var)++G7 (t.Mono.Atoms.take i))) (λs=>t.Mono.Atoms.length-s.2.1.toNat) (λe=>∃(c:Nat) (b2:List Int),e=(c,(t.Mono.Atoms.length:Int),b2)/\Ml c b2 (Dq (p.take j)++t.Mono.Factors.map (λf=>f.Var)++G7 t.Mono.Atoms)) ⟨D,0,b1,rfl,ω,by simpa [G7] using h1⟩ ?_ ?_
   .rintro s ⟨c,i,b2,rfl,hi,k⟩;rcases Nat.lt_or_ge i t.Mono.Atoms.length with g | g
    .have q:t.Mono.Atoms[i]? = some t.Mono.Atoms[i]:=Be g;generalize t.Mono.Atoms[i]=a at q;have E:(G7 (t.Mono.Atoms.take i)).length+(a.Lin.Terms.map (λl:Dv=>l.Var)).length<=(G7 t.Mono.Atoms).length:=Ab5 (λa:Cb=>a.Lin.Terms.map (λl:Dv=>l.Var)) q;rw [List.length_map] at E;have A:G7 (t.Mono.Atoms.take (i+1))=G7 (t.Mono.Atoms.take i)++a.Lin.Terms.map (λl=>l.Var):=(by rw [Cu q]; unfold G7; rw [List.flatMap_append]; simp);refine .inl (M4 (Q:=λs'=>(∃(c i:Nat) (b2:List Int),s'=(c,(i:Int),b2)/\i<=t.Mono.Atoms.length/\Ml c b2 (Dq (p.take j)++t.Mono.Factors.map (λf=>f.Var)++G7 (t.Mono.Atoms.take i)))/\t.Mono.Atoms.length-s'.2.1.toNat<t.Mono.Atoms.length-(i:Int).toNat) ?_);simp only [An (by omega:(i:Int)<(t.Mono.Atoms.length:Int)),cond_true,Bi rfl q,Ad,Co g ω];refine Apl a.Lin.Terms (λl=>l.Var) _ c b2 k (by simp only [List.length_append,List.length_map]; omega) (λB I h3=>?_);refine ⟨_,rfl,_,rfl,⟨B,i+1,I,rfl,ω,?_⟩,by simp only [Int.toNat_natCast]; omega⟩;rw [A,<-List.append_assoc]; exact h3
    .have:i=t.Mono.Atoms.length:=ω;subst this;rw [List.take_length] at k;exact .inr ⟨(c,(t.Mono.Atoms.length:Int),b2),by simp only [Aq (by omega:¬(t.Mono.Atoms.length:Int)<(t.Mono.Atoms.length:Int)),cond_false],c,b2,rfl,k⟩
   .rintro e ⟨c,b2,rfl,k⟩;refine ⟨_,rfl,_,rfl,⟨c,j+1,b2,rfl,ω,?_⟩,by simp only [Int.toNat_natCast]; omega⟩;rw [u];unfold Hh;rw [<-List.append_assoc]; exact k
  .have:j=p.length:=ω;subst this;rw [List.take_length] at x;exact .inr ⟨(n,b),by simp only [Aq (by omega:¬(p.length:Int)<(p.length:Int)),cond_false],n,b,rfl,x⟩
 .rintro e ⟨n,b,rfl,x⟩;refine ⟨b.take n,?_,x.up,x.mem⟩;show (P6 b n).bind _=_;unfold P6;rw [if_pos x.le]; rfl
end Go.Ab
namespace Go.Ab
open Go
end Go.Ab
namespace Go.Ab
open Go
end Go.Ab
namespace Go.Ab
open Go
end Go.Ab
namespace Go.Ab
open Go
end Go.Ab
namespace Go.Ab
open Go
end Go.Ab
namespace Go.Ab
open Go
structure PSt (K:Nat) (n:Nat) (b:List A5):Prop where
 le:n<=b.length
 cp:CP (b.take n)
 tm:∀t∈b.take n,RB K t.Coef/\MSz t.Mono
end Go.Ab
namespace Go.Ab
open Go
theorem PSt.mono {K c n:Nat} {b:List A5} (h:PSt K n b) (f:K<=c):PSt c n b:=⟨h.le,h.cp,λt ht=>⟨((h.tm t ht).1).mono f,(h.tm t ht).2⟩⟩
end Go.Ab
namespace Go.Ab
open Go
theorem Apm:∀(k:Nat) (t:Ag) (a:Int),A6 t<=k->k<1099511627776->∃r,N6 k t a=some r/\True:=by
 intro k;induction k with
 | zero=>intro i a h; have:=Ga i; omega
 | succ k ih=>
  intro i a h hk;have f:=Ga i;have g:=Hq i.Args;rw [N6];refine Lg ⟨_,rfl,trivial⟩ ?_;refine C6 (λ(v,_)=>∃j:Nat,v=j/\j<=i.Args.length) (λ(v,_)=>i.Args.length-v.toNat) (λ_=>True) ⟨0,rfl,ω⟩ ?_ ?_
  .rintro ⟨v,b⟩ ⟨j,rfl,hj⟩;rcases Nat.lt_or_ge j i.Args.length with h' | h'
   .have hx:i.Args[j]? = some i.Args[j]:=Be h';generalize i.Args[j]=x at hx;have l:=Gf (Bg hx);obtain ⟨⟨y,z⟩,c,_⟩:=ih x b ω ω;simp only [An (by omega:(j:Int)<(i.Args.length:Int)),cond_true,Bi rfl hx,Ad,c,Co h' ω];cases y with| false=>exact .inr ⟨_,rfl,trivial⟩| true=>exact .inl ⟨_,rfl,⟨j+1,rfl,ω⟩,by simp only [Int.toNat_natCast]; omega⟩
   .have:j=i.Args.length:=ω;subst this;exact .inr ⟨.inr b,ψ,trivial⟩
  .rintro (⟨x,y⟩ | e) _
   .exact ⟨_,rfl,trivial⟩
   .exact ⟨_,rfl,trivial⟩
theorem Apn (t:Ag) (h:A6 t<=1048576):∃b,So t=some b:=by unfold So;obtain ⟨r,h1,_⟩:=Apm 4000000 t 250 ω ω;exact ⟨_,by rw [h1]; rfl⟩
theorem A0q (l:List Ag) (n:Int) (c:l.length<=1048576) (h:∀t∈l,A6 t<=1048576):∃b,Vj l n=some b/\True:=by
 unfold Vj;refine C6 (λv=>∃j:Nat,v=j/\j<=l.length) (λv=>l.length-v.toNat) (λ_=>True) ⟨0,rfl,ω⟩ ?_ ?_
 .rintro v ⟨j,rfl,hj⟩;rcases Nat.lt_or_ge j l.length with h' | h'
  .have hx:l[j]? = some l[j]:=Be h';generalize l[j]=x at hx;obtain ⟨b,hb⟩:=Apn x (h x (Bg hx));simp only [An (by omega:(j:Int)<(l.length:Int)),cond_true,Bi rfl hx,Ad,hb,Co h' ω];cases decide ((j:Int)<=n) with
   | false=>exact .inr ⟨_,rfl,trivial⟩
   | true=>cases b with| false=>exact .inr ⟨_,rfl,trivial⟩| true=>exact .inl ⟨_,rfl,⟨j+1,rfl,ω⟩,by simp only [Int.toNat_natCast]; omega⟩
  .simp only [Aq (by omega:¬(j:Int)<(l.length:Int)),cond_false];exact .inr ⟨_,rfl,trivial⟩
 .rintro (r | r) _
  .exact ⟨_,rfl,trivial⟩
  .exact ⟨_,rfl,trivial⟩
theorem A0r (l:List Ao) (f:DSz l):∃b,Vi l=some b/\True:=by
 unfold Vi;have B:=f.len;refine Lg ⟨_,rfl,trivial⟩ ?_;refine C6 (λv=>∃j:Nat,v=j/\j<=l.length) (λv=>l.length-v.toNat) (λ_=>True) ⟨0,rfl,ω⟩ ?_ ?_
 .rintro v ⟨j,rfl,hj⟩;rcases Nat.lt_or_ge j l.length with h' | h'
  .have hx:l[j]? = some l[j]:=Be h';generalize l[j]=x at hx;obtain ⟨D,k⟩:=f.sz x (Bg hx);simp only [An (by omega:(j:Int)<(l.length:Int)),cond_true,Bi rfl hx,Ad,Co h' ω];have hq:∃q,(bif decide ((x.Name.size:Int)>40) then some true else some (decide ((x.Cons.length:Int)>10)))=some q:=(by cases decide ((x.Name.size:Int)>40) <;> exact ⟨_,rfl⟩);obtain ⟨q,hq⟩:=hq
   erw [hq];simp only [Ad];cases q with
   | true=>exact .inr ⟨_,rfl,trivial⟩
   | false=>
    simp only [cond_false];have key:∀(W:Option (Int⊕(Bool⊕Unit))),(∃r,W=some r/\(r = .inl ((j+1:Nat):Int)\/∃e,r = .inr e))->(∃s',W=some (Sum.inl s')/\(∃j:Nat,s'=(j:Int)/\j<=l.length)/\l.length-s'.toNat<l.length-((j:Int)).toNat)\/∃e,W=some (Sum.inr e)/\True:=by
     rintro W ⟨r,rfl,rfl | ⟨e,rfl⟩⟩
     .exact .inl ⟨_,rfl,⟨j+1,rfl,ω⟩,by simp only [Int.toNat_natCast]; omega⟩
     .exact .inr ⟨_,rfl,trivial⟩
    refine key _ ?_;refine C6 (λv=>∃j:Nat,v=j/\j<=x.Cons.length) (λv=>x.Cons.length-v.toNat) (λ_=>True) ⟨0,rfl,ω⟩ ?_ ?_
    .rintro v ⟨i,rfl,hi⟩;rcases Nat.lt_or_ge i x.Cons.length with h'' | h''
     .have hy:x.Cons[i]? = some x.Cons[i]:=Be h'';generalize x.Cons[i]=y at hy;have d1:=k y (Bg hy);have d2:=Hq y.Args;simp only [An (by omega:(i:Int)<(x.Cons.length:Int)),cond_true,Bi rfl hy,Ad,Co h'' ω];have hq:∃q,(bif decide ((y.Name.size:Int)>40) then some true else some (decide ((y.Args.length:Int)>8)))=some q:=(by cases decide ((y.Name.size:Int)>40) <;> exact ⟨_,rfl⟩);obtain ⟨q,hq⟩:=hq
      erw [hq];simp only [Ad];cases q with
      | true=>exact .inr ⟨_,rfl,trivial⟩
      | false=>
       simp only [cond_false];have key:∀(W:Option (Int⊕(Bool⊕Int))),(∃r,W=some r/\(r = .inl ((i+1:Nat):Int)\/∃e,r = .inr e))->(∃s',W=some (Sum.inl s')/\(∃j:Nat,s'=(j:Int)/\j<=x.Cons.length)/\x.Cons.length-s'.toNat<x.Cons.length-((i:Int)).toNat)\/∃e,W=some (Sum.inr e)/\True:=by
        rintro W ⟨r,rfl,rfl | ⟨e,rfl⟩⟩
        .exact .inl ⟨_,rfl,⟨i+1,rfl,ω⟩,by simp only [Int.toNat_natCast]; omega⟩
        .exact .inr ⟨_,rfl,trivial⟩
       refine key _ ?_;refine C6 (λs=>∃j:Nat,s.1=j/\j<=y.Args.length) (λs=>y.Args.length-s.1.toNat) (λ_=>True) ⟨0,rfl,ω⟩ ?_ ?_
       .rintro ⟨_,w⟩ ⟨u,rfl,hu⟩;rcases Nat.lt_or_ge u y.Args.length with h3 | h3
        .have c:y.Args[u]? = some y.Args[u]:=Be h3;generalize y.Args[u]=t at c;have A:=Gf (Bg c);obtain ⟨⟨g,z⟩,h,_⟩:=Apm 4000000 t w ω ω;simp only [An (by omega:(u:Int)<(y.Args.length:Int)),cond_true,Bi rfl c,Ad,h,Co h3 ω];cases g with| false=>exact .inr ⟨_,rfl,trivial⟩| true=>exact .inl ⟨_,rfl,⟨u+1,rfl,ω⟩,by simp only [Int.toNat_natCast]; omega⟩
        .simp only [Aq (by omega:¬(u:Int)<(y.Args.length:Int)),cond_false];exact .inr ⟨_,rfl,trivial⟩
       .rintro (r | r) _
        .exact ⟨_,rfl,.inr ⟨_,rfl⟩⟩
        .exact ⟨_,rfl,.inl rfl⟩
     .simp only [Aq (by omega:¬(i:Int)<(x.Cons.length:Int)),cond_false];exact .inr ⟨_,rfl,trivial⟩
    .rintro (r | r) _
     .exact ⟨_,rfl,.inr ⟨_,rfl⟩⟩
     .exact ⟨_,rfl,.inl rfl⟩
  .simp only [Aq (by omega:¬(j:Int)<(l.length:Int)),cond_false];exact .inr ⟨_,rfl,trivial⟩
 .rintro (r | r) _
  .exact ⟨_,rfl,trivial⟩
  .exact ⟨_,rfl,trivial⟩
theorem A0s (x:B8) (f:CSz x):∃b,Va x=some b:=by unfold Va;obtain ⟨a,ha,_⟩:=A0r x.Data f.ds;obtain ⟨b,hb,_⟩:=A0q x.Vars 40 f.nv f.vs;obtain ⟨c,hc⟩:=Apn x.Res f.rs;rw [ha,hb,hc];cases a <;> cases b <;> exact ⟨_,rfl⟩
theorem A0t (x:B8) (k:CSz x) (ps:List (List A5)) (s:ps.length<=1048576) (hp:∀p∈ps,p.length<=1048576/\∀t∈p,TSz t) : ∃b,U6 x ps=some b/\(b=true->∀p∈ps,p.length<=10/\∀t∈p,Rw t.Mono):=by
 unfold U6;refine C6 (λv=>∃j:Nat,v=j/\j<=ps.length/\∀p∈ps.take j,p.length<=10/\∀t∈p,Rw t.Mono) (λv=>ps.length-v.toNat) (λz=>z = .inl false\/(z = .inr ()/\∀p∈ps,p.length<=10/\∀t∈p,Rw t.Mono)) ⟨0,rfl,ω,ψ⟩ ?_ ?_
 .rintro v ⟨j,rfl,hj,c⟩;rcases Nat.lt_or_ge j ps.length with h' | h'
  .have hx:ps[j]? = some ps[j]:=Be h';generalize ps[j]=p at hx;obtain ⟨i,g⟩:=hp p (Bg hx);obtain ⟨b,hb,l⟩:=A0o p i g;simp only [An (by omega:(j:Int)<(ps.length:Int)),cond_true,Bi rfl hx,Ad,hb,Co h' ω];cases b with
   | false=>exact .inr ⟨_,rfl,.inl rfl⟩
   | true=>
    refine .inl ⟨_,rfl,⟨j+1,rfl,ω,λq hq=>?_⟩,by simp only [Int.toNat_natCast]; omega⟩;rw [Cu hx] at hq;rcases List.mem_append.1 hq with hq | hq
    .exact c q hq
    .rw [List.mem_singleton] at hq;subst hq; exact l rfl
  .have:j=ps.length:=ω;subst this;rw [List.take_length] at c;exact .inr ⟨.inr (),ψ,.inr ⟨rfl,c⟩⟩
 .rintro z (rfl | ⟨rfl,f⟩)
  .exact ⟨false,rfl,λh=>by cases h⟩
  .obtain ⟨b,hb⟩:=A0s x k;exact ⟨b,by dsimp only; rw [hb]; rfl,λ_=>f⟩
end Go.Ab
namespace Go.Ab
open Go
theorem CP.dst {p:List A5} (h:CP p):Dst p:=h.srt.imp λ{a b} hab e=>by unfold ltT at hab;rw [X0.2 e] at hab; omega
end Go.Ab
namespace Go.Ab
open Go
end Go.Ab
namespace Go.Ab
open Go
theorem A0u {x:B8} (g:CSz x) {ps:List (List A5)} (b:∀p∈ps,∀t∈p,TSz t) (i:ps.length<=1048576) (h:¬(Fr x/\∀p∈ps,F9 x.Data x.Vars x.Res p=true)):Lw x ps=some (.inr false):=by
 obtain ⟨r,f,c⟩:=Apa x g ps b i;rcases c with ⟨h2,_⟩ | ⟨_,rfl⟩
 .exact (h h2).elim
 .exact f
theorem A0v {x:B8} (i:CSz x) {ps:List (List A5)} (c:∀p∈ps,∀t∈p,TSz t) (k:ps.length<=1048576) (h:Fr x/\∀p∈ps,F9 x.Data x.Vars x.Res p=true):∃b,Lw x ps=some (.inl (true,x,b,[],x.Data,x.Vars,x.Res.Kind,x.Res.Num,x.Res.Args))/\F8 x.Data x.Vars x.Res b:=by
 obtain ⟨r,g,f⟩:=Apa x i ps c k;rcases f with ⟨_,b,e,j⟩ | ⟨h2,_⟩
 .exact ⟨b,by rw [g,e],j⟩
 .exact (h2 h).elim
structure PR (x:B8) (n:Nat) (f:Bw->Rat) (R:List A5):Prop where
 cp:CP R
 val:∀m,cf R m=f m
 tb:∀t∈R,Ln x t.Mono/\RB 8589934592 t.Coef
 len:R.length<=n
theorem PR.of {x:B8} {n m:Nat} {f g:Bw->Rat} {R:List A5} (h:PR x n f R) (b:n<=m) (c:∀a,f a=g a):PR x m g R := ⟨h.cp,λa=>by rw [h.val,c],h.tb,Nat.le_trans h.len b⟩
theorem Kn.nil (x:B8):Kn x []:=⟨Ue.2 ⟨ψ,CP.nil,λt ht=>by cases ht⟩,λt ht=>by cases ht⟩
end Go.Ab
namespace Go.Ab
open Go
def Hs {α:Type} (l:List α) (r:List Bool):List α:=((l.zip r).filter λp=>!p.2).map (·.1)
def Kp (data:List Ao) (t:Ag) (c:Int):List Ag:=match Fz data t c with | some b=>b | none=>[]
def Jj {α:Type} (b:List (α->Nat)) (x:α) (f:Nat->Nat):Nat->Nat
 | 0=>f 0
 | q+1=>f (q+1)+f q*(match b[q]? with | some w=>w x | none=>0)
def dpS {α:Type} (b:List (α->Nat)) (l:List α):Nat->Nat:=l.foldl (λf x=>Jj b x f) (λq=>if q=0 then 1 else 0)
theorem Apo {α:Type} (b:List (α->Nat)) (l:List α) (x:α):dpS b (l++[x])=Jj b x (dpS b l):=by unfold dpS; rw [List.foldl_append]; rfl
mutual
def bv (data:List Ao):A3->Ag->Ar->Nat
 | ⟨n,ks⟩,t,w=>if t.Kind=6 then D9 data ks t.Args w.Kids else if t.Kind=7 then bc w.Kids.length n.toNat else if t.Kind=5 then dpS (bws data ks t) (Fs data t.Num w) ks.length else 1
def D9 (data:List Ao):List A3->List Ag->List Ar->Nat
 | i::is,t::ts,w::ws=>bv data i t w*D9 data is ts ws
 | [],_,_=>1
 | _::_,[],_=>1
 | _::_,_::_,[]=>1
def bws (data:List Ao):List A3->Ag->List (Ar->Nat)
 | [],_=>[]
 | ⟨n,ks⟩::es,t=>(λx=>if x.Num=n then D9 data ks (Kp data t n) (Hs x.Kids (Cx data t.Num n)) else 0)::bws data es t
end
theorem Ag5 (data:List Ao) (i:A3) (t:Ag) (w:Ar):bv data i t w=if t.Kind=6 then D9 data i.Kids t.Args w.Kids else if t.Kind=7 then bc w.Kids.length i.Num.toNat else if t.Kind=5 then dpS (bws data i.Kids t) (Fs data t.Num w) i.Kids.length else 1:=by cases i; simp only [bv]
theorem Ab6 (data:List Ao) (i:A3) (f:List A3) (t:Ag) (c:List Ag) (w:Ar) (b:List Ar):D9 data (i::f) (t::c) (w::b)=bv data i t w*D9 data f c b:=by simp only [D9]
theorem Ug (data:List Ao) (c:List Ag) (b:List Ar):D9 data [] c b=1:=by simp only [D9]
def wOf (data:List Ao) (t:Ag) (e:A3) (x:Ar):Nat:=if x.Num=e.Num then D9 data e.Kids (Kp data t e.Num) (Hs x.Kids (Cx data t.Num e.Num)) else 0
theorem Uh (data:List Ao) (t:Ag):∀(es:List A3) (q:Nat),(bws data es t)[q]? = (es[q]?).map (wOf data t)
 | [],q=>by simp [bws]
 | ⟨n,b⟩::es,0=>by simp only [bws,List.getElem?_cons_zero,Option.map_some]; rfl
 | ⟨n,b⟩::es,q+1=>by simp only [bws,List.getElem?_cons_succ]; exact Uh data t es q
theorem Ab7 (data:List Ao):∀(f:List A3) (c:List Ag) (b:List Ar) (j:Nat) (i:A3) (t:Ag) (w:Ar),f[j]? = some i->c[j]? = some t->b[j]? = some w -> D9 data (f.take (j+1)) (c.take (j+1)) (b.take (j+1))=D9 data (f.take j) (c.take j) (b.take j)*bv data i t w
 | i' :: f,g::c,w' :: b,0,i,t,w,h1,h2,h3=>by cases h1; cases h2; cases h3;simp only [List.take_succ_cons,List.take_zero,Ab6,Ug,Nat.mul_one,Nat.one_mul]
 | i' :: f,g::c,w' :: b,j+1,i,t,w,h1,h2,h3=>by have:=Ab7 data f c b j i t w h1 h2 h3;rw [List.take_succ_cons,List.take_succ_cons,List.take_succ_cons,List.take_succ_cons,List.take_succ_cons,List.take_succ_cons,Ab6,Ab6,this,Nat.mul_assoc]
 | [],_,_,_,_,_,_,h,_,_=>by simp at h
 | _::_,[],_,_,_,_,_,_,h,_=>by simp at h
 | _::_,_::_,[],_,_,_,_,_,_,h=>by simp at h
theorem Ag6:∀n k,bc n k<=n ^ k
 | n,0=>by rw [Ab4]; exact Nat.le_refl _
 | 0,k+1=>by simp [bc]
 | n+1,k+1=>by have h1:=Ag6 n k;have h2:=Ag6 n (k+1);have h3:n ^ k<=(n+1) ^ k:=Nat.pow_le_pow_left ω k;have h4:n ^ (k+1)<=n*(n+1) ^ k:=(by rw [Nat.pow_succ,Nat.mul_comm]; exact Nat.mul_le_mul_left _ h3);rw [bc,Nat.pow_succ,Nat.mul_add,Nat.mul_one,Nat.mul_comm]; omega
theorem App {α:Type} (b:List (α->Nat)) (B:Nat) (E:Nat->Nat):∀(l:List α) (n:Nat) (f:Nat->Nat),(∀q,f q<=n ^ q*B ^ E q)->(∀x∈l,∀q w,b[q]? = some w->B ^ E q*w x<=B ^ E (q+1))->∀q,(l.foldl (λf x=>Jj b x f) f) q<=(n+l.length) ^ q*B ^ E q
 | [],n,f,c,_,q=>c q
 | x::l,n,f,c,hw,q=>by
  rw [List.foldl_cons];have:=App b B E l (n+1) (Jj b x f) (λq=>?_) (λy hy=>hw y (by simp [hy])) q
  .rw [List.length_cons,show n+(l.length+1)=n+1+l.length by omega]; exact this
  .cases q with
   | zero=>have:=c 0; simpa [Jj] using this
   | succ q=>
    have h1:=c (q+1);have h2:=c q;have h3:f q*(match b[q]? with | some w=>w x | none=>0)<=n ^ q*B ^ E (q+1):=by cases h:b[q]? with| none=>simp| some w=>have h4:=hw x ψ q w h;refine Nat.le_trans (Nat.mul_le_mul_right _ h2) ?_;rw [Nat.mul_assoc];exact Nat.mul_le_mul_left _ h4
    have g:n ^ q<=(n+1) ^ q:=Nat.pow_le_pow_left ω q;have j:n ^ (q+1)+n ^ q<=(n+1) ^ (q+1):=(by rw [Nat.pow_succ,Nat.pow_succ,Nat.mul_add,Nat.mul_one];exact Nat.add_le_add (Nat.mul_le_mul_right _ g) g);have i:=Nat.mul_le_mul_right (B ^ E (q+1)) j;rw [Nat.add_mul] at i;show f (q+1)+_<=_;omega
theorem Ag7 {α:Type} (b:List (α->Nat)) (B:Nat) (f:1<=B) (E:Nat->Nat) (l:List α) (hw:∀x∈l,∀q w,b[q]? = some w->B ^ E q*w x<=B ^ E (q+1)) (c:l.length<=B) (q:Nat):dpS b l q<=B ^ (q+E q):=by
 have h:=App b B E l 0 (λq=>if q=0 then 1 else 0) (λq=>by cases q with| zero=>have:0<B ^ E 0:=Nat.pow_pos ω;simp; omega| succ q=>simp) hw q
 refine Nat.le_trans h ?_;rw [Nat.zero_add,Nat.pow_add];exact Nat.mul_le_mul_right _ (Nat.pow_le_pow_left c q)
mutual
theorem Ab8 (data:List Ao) (d:Int):∀v,∀x∈Fs data d v,B1 x<=B1 v
 | ⟨k,n,kids⟩=>λx hx=>by
  have h:=Apq data d kids (Cx data d n)
  simp only [Fs,List.mem_cons] at hx
  rcases hx with rfl | hx
  .exact Nat.le_refl _
  .have:=h x hx
   simp only [B1]; omega
theorem Apq (data:List Ao) (d:Int):∀l r,∀x∈Fh data d l r,B1 x<=C7 l
 | y::ys,b::bs=>λx hx=>by
  have h1:=Ab8 data d y
  have h2:=Apq data d ys bs
  simp only [Fh,List.mem_append] at hx
  simp only [C7]
  rcases hx with hx | hx
  .cases b with
   | false=>simp at hx
   | true=>have:=h1 x (by simpa using hx); omega
  .have:=h2 x hx; omega
 | [],_=>λx hx=>by simp [Fh] at hx
 | _::_,[]=>λx hx=>by simp [Fh] at hx
end
def pdg (data:List Ao) (t:Ag) (e:A3):Nat:=match C2 data e.Kids (Kp data t e.Num) with | some a=>a | none=>0
def pds (data:List Ao) (t:Ag) (es:List A3):Nat:=(es.map (pdg data t)).sum
theorem Ab9 (data:List Ao):∀(es:List A3) (t:Ag) (d:Nat),Fq data es t=some d->d=es.length+pds data t es/\∀e∈es,∃c,Fz data t e.Num=some c/\C2 data e.Kids c=some (pdg data t e)
 | [],t,d,h=>by simp only [Fq,Option.some.injEq] at h;subst h;exact ⟨rfl,λe f=>by cases f⟩
 | e::es,t,d,h=>by
  rw [T6] at h;cases h1:Fz data t e.Num with
  | none=>rw [h1] at h; cases h
  | some c=>
   rw [h1,Ad] at h;cases h2:C2 data e.Kids c with
   | none=>rw [h2] at h; cases h
   | some a=>
    rw [h2,Ad] at h;cases h3:Fq data es t with
    | none=>rw [h3] at h; cases h
    | some b=>
     rw [h3] at h;have h:1+a+b=d:=Option.some.inj h;obtain ⟨g1,g2⟩:=Ab9 data es t b h3;have hp:pdg data t e=a:=(by unfold pdg Kp; rw [h1]; simp only [h2]);refine ⟨by unfold pds at *; simp only [List.map_cons,List.sum_cons,List.length_cons,hp]; omega,λx hx=>?_⟩;rcases List.mem_cons.1 hx with rfl | hx
     .exact ⟨c,h1,by rw [hp]; exact h2⟩
     .exact g2 x hx
theorem X5 {data:List Ao} {t:Ag} {es:List A3} {q:Nat} {e:A3} (h:es[q]? = some e):pds data t (es.take (q+1))=pds data t (es.take q)+pdg data t e:=by unfold pds; rw [Cu h]; simp
theorem Apr (data:List Ao) (t:Ag) (es:List A3) (q:Nat):pds data t (es.take q)<=pds data t es:=by
 have:pds data t es=pds data t (es.take q)+pds data t (es.drop q):=by unfold pds;rw [<-List.sum_append,<-List.map_append,List.take_append_drop]
 omega
theorem X6 {α:Type} {l:List α} {r:List Bool} {x:α} (h:x∈Hs l r):x∈l:=by unfold Hs at h;obtain ⟨p,hp,rfl⟩:=List.mem_map.1 h;exact (List.of_mem_zip (a:=p.1) (b:=p.2) (List.mem_filter.1 hp).1).1
theorem Lo (data:List Ao) (B:Nat) (V:1<=B):∀n:Nat,(∀(i:A3) (t:Ag) (w:Ar) (d:Nat),C1 i<=n->Ee data i t=some d->B1 w<=B->bv data i t w<=B ^ d) /\ (∀(g:List A3) (f:List Ag) (j:List Ar) (d:Nat),E4 g<=n->C2 data g f=some d->(∀w∈j,B1 w<=B)->D9 data g f j<=B ^ d):=by
 intro n;induction n with
 | zero=>refine ⟨λi t w d h=>by have:=E5 i; omega,λg f j d h _ _=>?_⟩;have:=Li g;have:g = []:=List.length_eq_zero_iff.1 ω;subst this;rw [Ug]; exact Nat.pow_pos ω
 | succ n ih=>
  have c:∀d,1<=B ^ d:=λd=>Nat.pow_pos ω;have key:∀(i:A3) (t:Ag) (w:Ar) (d:Nat),C1 i<=n+1->Ee data i t=some d->B1 w<=B->bv data i t w<=B ^ d:=by
   intro i t w d hi hd hw;have R:=E5 i;have L:=G6 w;have M:=Kl w.Kids;rw [Ag5];rw [Rm] at hd;by_cases D:t.Kind=6
   .rw [if_pos D] at hd ⊢;by_cases e:i.Num=0
    .rw [if_pos e] at hd;exact ih.2 i.Kids t.Args w.Kids d ω hd λx hx=>by have:=Gr hx; omega
    .rw [if_neg e] at hd; cases hd
   .rw [if_neg D] at hd ⊢;by_cases A:t.Kind=7
    .rw [if_pos A] at hd ⊢;by_cases e:0<=i.Num/\i.Num<=6/\i.Kids.length=0
     .rw [if_pos e] at hd;have hd:=Option.some.inj hd;rw [hd];exact Nat.le_trans (Ag6 _ _) (Nat.pow_le_pow_left ω d)
     .rw [if_neg e] at hd; cases hd
    .rw [if_neg A] at hd ⊢;by_cases E:t.Kind=5
     .rw [if_pos E] at hd ⊢;have hd:Fq data i.Kids t=some d:=by
       by_cases e:i.Num=0
       .rw [if_pos e] at hd; exact hd
       .rw [if_neg e] at hd; cases hd
      obtain ⟨h1,h2⟩:=Ab9 data _ _ _ hd;have N:=Abz data t.Num w;have:=Ag7 (bws data i.Kids t) B V (λq=>pds data t (i.Kids.take q)) (Fs data t.Num w) (λx hx q wt hq=>by
       rw [Uh] at hq;obtain ⟨e,G,rfl⟩:=Option.map_eq_some_iff.1 hq;have k:=Bg G;obtain ⟨f,u,s⟩:=h2 e k;have J:=Ab8 data t.Num w x hx;have S:=Hy k;have U:=E5 e;rw [X5 G,Nat.pow_add];refine Nat.mul_le_mul_left _ ?_;unfold wOf;split
       .have z:Kp data t e.Num=f:=(by unfold Kp; rw [u]);rw [z];refine ih.2 e.Kids f _ _ ω s λy hy=>?_;have hy:=X6 hy;have I:=Gr hy;have:=G6 x;omega
       .omega) ω i.Kids.length
      rw [List.take_length] at this;rw [h1]; exact this
     .rw [if_neg E]; exact c d
  refine ⟨key,?_⟩;intro g;induction g with
  | nil=>intro f j d _ _ _; rw [Ug]; exact c d
  | cons i g l=>
   intro f j d hi hd hw;cases f with
   | nil=>rw [show D9 data (i::g) [] j=1 by simp only [D9]]; exact c d
   | cons t f=>
    cases j with
    | nil=>rw [show D9 data (i::g) (t::f) []=1 by simp only [D9]]; exact c d
    | cons w j=>
     simp only [E4] at hi;rw [M8] at hd;cases h1:Ee data i t with
     | none=>rw [h1] at hd; cases hd
     | some a=>rw [h1,Ad] at hd;cases h2:C2 data g f with| none=>rw [h2] at hd; cases hd| some b=>rw [h2] at hd;have hd:a+b=d:=Option.some.inj hd;rw [Ab6,<-hd,Nat.pow_add];exact Nat.mul_le_mul (key i t w a ω h1 (hw w ψ)) (l f j b ω h2 λy hy=>hw y (by simp [hy]))
end Go.Ab
namespace Go.Ab
open Go
theorem Ag8 {α:Type}:∀(l:List α) (r:List Bool) (s:Nat) (n:Nat) (p:Int) (L:Nat->Option α),l.length=r.length->(∀j,L (s+j)=l[j]?) -> (((r.zipIdx s).filter λq=>!q.1).map λq=>(q.2:Int))[n]? = some p->∃(m:Nat) (a:α),p=m/\L m=some a/\(Hs l r)[n]? = some a
 | [],[],s,n,p,L,_,_,h=>by simp at h
 | a::l,b::r,s,n,p,L,i,g,h=>by
  have c:l.length=r.length:=(by simpa using i);have f:∀j,L (s+1+j)=l[j]?:=λj=>by rw [show s+1+j=s+(j+1) by omega,g]; rfl
  cases b with
  | true=>simp only [List.zipIdx_cons,List.filter_cons,D3] at h;obtain ⟨m,x,h1,h2,h3⟩:=Ag8 l r (s+1) n p L c f (by simpa using h);exact ⟨m,x,h1,h2,by simpa [Hs] using h3⟩
  | false=>simp only [List.zipIdx_cons,List.filter_cons,Bool.not_false,if_true,List.map_cons] at h;cases n with| zero=>simp only [List.getElem?_cons_zero,Option.some.injEq] at h;exact ⟨s,a,h.symm,by have:=g 0; simpa using this,by simp [Hs]⟩| succ n=>simp only [List.getElem?_cons_succ] at h;obtain ⟨m,x,h1,h2,h3⟩:=Ag8 l r (s+1) n p L c f h;exact ⟨m,x,h1,h2,by simpa [Hs] using h3⟩
 | [],_::_,_,_,_,_,h,_,_=>by simp at h
 | _::_,[],_,_,_,_,h,_,_=>by simp at h
theorem A0w {α:Type} {l:List α} {r:List Bool} (b:l.length=r.length) {n:Nat} {p:Int} (h:(Ed r)[n]? = some p):∃(m:Nat) (a:α),p=m/\l[m]? = some a/\(Hs l r)[n]? = some a := Ag8 l r 0 n p (λj=>l[j]?) b (λj=>ψ) (by unfold Ed at h; exact h)
theorem Ag9 {a b K:Nat} (ha:Ba a<=K) (hb:Ba b<=K) (c:1<=K) (h:K<60000000000):Ey (cR a) (cR b)=some (cR (a*b)):=by obtain ⟨a1,a2,a3⟩:=X3 a;obtain ⟨b1,b2,f⟩:=X3 b;rw [Xc _ _ K K (H3 ha c) (H3 hb c) ω ω,a1,a2,a3,b1,b2,f];simp [cR]
def Sm (a:Nat):Prop:=a<=5000 ^ 6
theorem Sm.lg {a:Nat} (h:Sm a):Ba a<=3:=Kd (Nat.lt_of_le_of_lt h δ)
theorem Sm.of {a d:Nat} (h:a<=5000 ^ d) (hd:d<=6):Sm a:=Nat.le_trans h (Nat.pow_le_pow_right δ hd)
theorem Aha (data:List Ao):∀(f:List A3) (c:List Ag) (d j:Nat),C2 data f c=some d->∃e,C2 data (f.take j) (c.take j)=some e/\e<=d
 | [],[],d,j,_=>⟨0,by simp [C2],ω⟩
 | i::f,t::c,d,0,_=>⟨0,by simp [C2],ω⟩
 | i::f,t::c,d,j+1,h=>by
  rw [M8] at h;cases h1:Ee data i t with
  | none=>rw [h1] at h; cases h
  | some a=>rw [h1,Ad] at h;cases h2:C2 data f c with| none=>rw [h2] at h; cases h| some b=>rw [h2] at h;have h:a+b=d:=Option.some.inj h;obtain ⟨e,g,e2⟩:=Aha data f c b j h2;refine ⟨a+e,?_,ω⟩;rw [List.take_succ_cons,List.take_succ_cons,M8,h1,Ad,g]; rfl
 | [],_::_,_,_,h=>by simp only [C2] at h; cases h
 | _::_,[],_,_,h=>by simp only [C2] at h; cases h
theorem Ahb {data:List Ao} {c:List A3} {b:List Ag} {f:List Ar} {d:Nat} (h:C2 data c b=some d) (hd:d<=6) (hw:∀w∈f,B1 w<=5000) (j:Nat):Sm (D9 data (c.take j) (b.take j) (f.take j)):=by obtain ⟨e,g,e2⟩:=Aha data c b d j h;exact Sm.of ((Lo data 5000 δ _).2 _ _ _ e (Nat.le_refl _) g λw hx=>hw w (List.mem_of_mem_take hx)) ω
theorem Aps {data:List Ao} {t:Ag} (U:Szv data) (hk:t.Kind=5) {e:A3} {x:Ar} {f:List Ag} (hx:D8 data x t=true) (B:x.Num=e.Num) (b:Fz data t e.Num=some f) : (Jy data t e).types=f/\(Ed (Cx data t.Num e.Num)).length=f.length/\f.length<=6/\(∀a∈f,A6 a<=200) /\ ∀(j:Nat) (z:Int),(Ed (Cx data t.Num e.Num))[j]? = some z->∃(m:Nat) (a:Ag) (w:Ar),z=m/\f[j]? = some a/\x.Kids[m]? = some w/\(Hs x.Kids (Cx data t.Num e.Num))[j]? = some w/\D8 data w a=true/\B1 w<=B1 x:=by
 have G:=b;unfold Fz at b;cases h:Gg data t e.Num with
 | none=>rw [h] at b; cases b
 | some fl=>
  rw [h] at b;have b:Em fl (Cx data t.Num e.Num)=f:=Option.some.inj b;have k:=Rl h;have c:Ie data x.Kids fl=true:=(by rw [Pg,if_neg ω,if_neg ω,if_neg ω,if_neg ω,if_pos hk] at hx;rw [B,h] at hx;simp only [Ca] at hx;exact hx.2);have A:x.Kids.length=fl.length:=by
   by_cases L:x.Kids.length=fl.length
   .exact L
   .rw [Ph data _ _ L] at c; cases c
  have M:fl.length<=6:=(by obtain ⟨R,y,_,D,_,hy,I,_⟩:=Mi h;obtain ⟨N,_⟩:=U R (Ec D).2.2.2 y (Ec hy).2.2.2;rw [I]; simpa using N);have X:=Xo fl (Cx data t.Num e.Num);have q:=Az7 fl (Cx data t.Num e.Num) k.symm;have V:=G6 x;refine ⟨by unfold Jy; simp only [h,b],by rw [q,b],by rw [<-b]; omega,(Abi G).1,λj z s=>?_⟩;obtain ⟨m,a,rfl,J,u⟩:=Az6 k.symm s;obtain ⟨S,w,Y,g,E⟩:=A0w (l:=x.Kids) ω s;obtain rfl:m=S:=ω;rw [b] at u;refine ⟨m,a,w,rfl,u,g,E,?_,?_⟩
  .rw [Rr data _ _ A] at c;exact List.all_eq_true.1 c (w,a) (Bg (i:=m) (by rw [List.getElem?_zip_eq_some]; exact ⟨g,J⟩))
  .have:=Gr (Bg g);omega
theorem A0x {data:List Ao} {t:Ag} (hz:Szv data) (hk:t.Kind=5) (l:List A3) (hp:∀e∈l,∃B,Fz data t e.Num=some B/\C2 data e.Kids B=some (pdg data t e)) (bi:l.length+pds data t l<=6) (k:Nat) (b8:∀e∈l,∀(i':A3) (t':Ag) (w:Ar) (d:Nat),i'∈e.Kids->Ee data i' t'=some d->d<=6->A6 t'<=200->D8 data w t'=true->B1 w<=5000->K6 k data t' i' w=some (cR (bv data i' t' w))) (x:Ar) (hx:D8 data x t=true) (bd:B1 x<=5000) (f:Nat->Nat) (hf:∀q,q<=l.length->f q<=5000 ^ (q+pds data t (l.take q))) (b6:∀q,q<=l.length->Jj (bws data l t) x f q<=5000 ^ (q+pds data t (l.take q))) {R:Type} {J:Int×List Ai->Option R} {r:R} (hJ:J (0,Fa l.length (Jj (bws data l t) x f))=some r) : (Al (S:=(Int×(List Ai))) (E:=(Int×(List Ai))) (λ(c,u)=> bif c>(0:Int) then ((Ae (l.map (Jy data t)) (Aa (c-1))).bind λz=> (show OB from bif (z.con != x.Num) then some true else ((Ae u (Aa (c-1))).bind λag=> (Hv ag).bind λaf=> some (af==(0:Int)))).bind λae=> bif ae then some (.inl ((Aa (c-1)),u)) else ((Ae u (Aa (c-1))).bind λL=> (Al (S:=(Int×Bool×(List Int)×(List Int))) (E:=(Int×Bool×(List Int)×(List Int))) (λ(y,Y,v226,v227)=> bif y<(z.places.length:Int) then ((Ae z.places y).bind λv228=> (Ae z.types y).bind λv229=> (Ae z.kids y).bind λad=> (Ae x.Kids v228).bind λac=> (K6 k data v229 ad ac).bind λv232=> (Ey (Ai.mk Y v226 v227) v232).bind λv233=> some (.inl ((Aa (y+1)),v233.Neg,v233.Num,v233.Den))) else some (.inr (y,Y,v226,v227))) (0,L.Neg,L.Num,L.Den)).bind λ(v234,ab,v236,aa)=> (Ae u c).bind λI=> (G9 I (Ai.mk ab v236 aa)).bind λa8=> (Ae u c).bind λba=> some (.inl ((Aa (c-1)),(Cf u c a8)))))
   else some (.inr (c,u))) ((l.length:Int),Fa l.length f)).bind J=some r:=by
 generalize hg:Jj (bws data l t) x f=g at hJ b6;have sm:∀q,q<=l.length->q+pds data t (l.take q)<=6:=λq hq=>by have:=Apr data t l q; omega
 refine Ke l.length (λi=>(((l.length-i:Nat):Int),Fa l.length (λp=>if l.length-i<p then g p else f p))) ?_ ?_ ?_
 .simp only [Nat.sub_zero,Int.ofNat_eq_natCast];congr 1;exact Uf (λp hp=>by rw [if_neg ω])
 .intro i hi;obtain ⟨q,hq⟩:∃q:Nat,l.length-i=q+1:=⟨l.length-i-1,ω⟩;have hq':l.length-(i+1)=q:=ω;have V:q+1<=l.length:=ω;have he:l[q]? = some l[q]:=Be ω;generalize l[q]=e at he;have aq:=Bg he;have w1:Aa (((q+1:Nat):Int)-1)=((q:Nat):Int):=(by rw [show (((q+1:Nat):Int)-1)=(q:Int) by omega,Aa,B4] <;> omega);have b7:Ae (l.map (Jy data t)) (q:Int)=some (Jy data t e):=Bi rfl (by rw [List.getElem?_map,he]; rfl);have a6:g (q+1)=f (q+1)+f q*wOf data t e x:=(by rw [<-hg];simp only [Jj,Uh,he,Option.map_some]);simp only [hq,hq',An (by omega:((q+1:Nat):Int)>0),cond_true,w1,b7,Ad];have ap:Ae (Fa l.length (λp=>if q+1<p then g p else f p)) (q:Int)=some (cR (f q)):=(by rw [Bi rfl (Ko _ ω),if_neg ω]);have b5:Ae (Fa l.length (λp=>if q+1<p then g p else f p)) ((q+1:Nat):Int)=some (cR (f (q+1))):=(by rw [Bi rfl (Ko _ ω),if_neg ω]);have M:g (q+1)=f (q+1)->Fa l.length (λp=>if q+1<p then g p else f p)=Fa l.length (λp=>if q<p then g p else f p):=λZ=>Uf (λp hp=>by
   by_cases e2:q+1<p
   .rw [if_pos e2,if_pos ω]
   .rw [if_neg e2];by_cases e3:q<p
    .rw [if_pos e3,show p=q+1 by omega,Z]
    .rw [if_neg e3]);show ((bif (e.Num != x.Num) then some true else _).bind _)=_;by_cases D:x.Num=e.Num
  .rw [Cp D.symm];have sq:=Sm.of (hf q ω) (sm q ω);have ar:=Sm.of (hf (q+1) V) (sm (q+1) V);simp only [cond_false,ap,Ad,Az4 sq.lg δ δ];by_cases a7:f q=0
   .rw [if_pos a7];simp only [beq_self_eq_true,cond_true];rw [M (by rw [a6,a7,Nat.zero_mul,Nat.add_zero])]
   .rw [if_neg a7];have b9:((1:Int)==0)=false:=rfl;simp only [b9,cond_false,ap,Ad];obtain ⟨B,ai,ah⟩:=hp e aq;obtain ⟨az,aj,bb,b0,am⟩:=Aps hz hk hx D ai;have b3:(Jy data t e).places=Ed (Cx data t.Num e.Num):=rfl;have b4:(Jy data t e).kids=e.Kids:=rfl;rw [az,b3,b4];obtain ⟨i1,i2⟩:=X4 data _ _ _ ah;have bh:q+1+pds data t (l.take q)+pdg data t e<=6:=(by have:=sm (q+1) V;rw [X5 he] at this; omega);generalize a1:Hs x.Kids (Cx data t.Num e.Num)=G at am;have au:∀w∈G,B1 w<=5000:=λw hw=>by rw [<-a1] at hw;have:=Gr (X6 hw);have:=G6 x;omega
    have N:∀j,Sm (f q*D9 data (e.Kids.take j) (B.take j) (G.take j)):=λj=>by obtain ⟨e',Z,e2⟩:=Aha data e.Kids B _ j ah;have h1:=(Lo data 5000 δ _).2 _ _ (G.take j) e' (Nat.le_refl _) Z λw hx=>au w (List.mem_of_mem_take hx);have h2:=Nat.mul_le_mul (hf q ω) h1;rw [<-Nat.pow_add] at h2;exact Sm.of h2 ω
    have ax:wOf data t e x=D9 data e.Kids B G:=(by unfold wOf;rw [if_pos D,a1];unfold Kp;rw [ai]);refine Fg (Ed (Cx data t.Num e.Num)) (λj=>((j:Int),(cR (f q*D9 data (e.Kids.take j) (B.take j) (G.take j))).Neg,(cR (f q*D9 data (e.Kids.take j) (B.take j) (G.take j))).Num,(cR (f q*D9 data (e.Kids.take j) (B.take j) (G.take j))).Den)) ?_ ω ?_ ?_
    .simp only [List.take_zero,Ug,Nat.mul_one]; rfl
    .intro j pl hj ak h1 h2 h3;obtain ⟨mm,a,w,rfl,X,hw,av,ay,be⟩:=am j pl ak;have U:e.Kids[j]? = some (e.Kids[j]' ω):=Be _;generalize e.Kids[j]'_=i' at U;obtain ⟨d,d1,d2⟩:=i2 j i' a U X;have hb:=Sm.of ((Lo data 5000 δ _).1 i' a w d (Nat.le_refl _) d1 ω) ω;simp only [h1,h2,h3,cond_true,Ad,Bi rfl X,Bi rfl U,Bi rfl hw];rw [b8 e aq i' a w d (Bg U) d1 ω (b0 a (Bg X)) ay ω,Ad];show (Ey (cR (f q*D9 data (e.Kids.take j) (B.take j) (G.take j))) (cR (bv data i' a w))).bind _=_;rw [Ag9 (N j).lg hb.lg δ δ,Ab7 data _ _ _ j i' a w U X av,Nat.mul_assoc]; rfl
    .intro h1;refine ⟨_,by simp only [h1]; rfl,?_⟩;have A:=N (Ed (Cx data t.Num e.Num)).length;have bf:G.length=B.length:=by
      have:∀(l:List Ar) (r:List Bool),l.length=r.length->(Hs l r).length=(Ed r).length:=by
       intro l r hl;unfold Hs Ed;rw [List.length_map,List.length_map];have key:∀(l:List Ar) (r:List Bool) (s:Nat),l.length=r.length->((r.zipIdx s).filter λq=>!q.1).length=((l.zip r).filter λp=>!p.2).length:=by
        intro l;induction l with
        | nil=>intro r s h; have:r = []:=List.length_eq_zero_iff.1 h.symm; subst this; rfl
        | cons a l ih=>intro r s h;cases r with| nil=>simp at h| cons b r=>have:=ih r (s+1) (by simpa using h);cases b <;> simp [this]
       exact (key l r 0 hl).symm
      obtain ⟨_,_,_,_,ao,_⟩:=Rt hk hx;rw [<-a1,this _ _ (by rw [<-ao,D]),aj]
     rw [aj] at A ⊢;have Z:e.Kids.take B.length=e.Kids:=List.take_of_length_le ω;have e2:G.take B.length=G:=List.take_of_length_le ω;rw [Z,e2,List.take_length] at A ⊢;show ((Ae _ _).bind λI=>(G9 I (cR (f q*D9 data e.Kids B G))).bind _)=_;rw [b5];simp only [Ad];rw [Apc (ar.lg) A.lg δ δ];simp only [Ad,w1];congr 3;refine Ag3 V ?_ ?_
     .rw [if_pos ω,a6,ax]
     .intro p hp bg;by_cases Z:q+1<p
      .rw [if_pos ω,if_pos Z]
      .rw [if_neg ω,if_neg Z]
  .rw [Cs (λe=>D e.symm)];simp only [Ad,cond_true];rw [M (by rw [a6,show wOf data t e x=0 by unfold wOf; rw [if_neg D],Nat.mul_zero,Nat.add_zero])]
 .refine ⟨(0,Fa l.length g),?_,hJ⟩;simp only [Nat.sub_self];have:Fa l.length (λp=>if 0<p then g p else f p)=Fa l.length g:=Uf (λp hp=>by
   by_cases e:0<p
   .rw [if_pos e]
   .have:p=0:=ω;subst this; rw [if_neg e,<-hg]; rfl);rw [this]; rfl
theorem A0y {data:List Ao} (D:Szv data) (R:Hf data) (h8:∀x∈data,x.Cons.length<=8) {t:Ag} (hk:t.Kind=5) (ht:A6 t<=200) (l:List A3) (hp:∀e∈l,∃g,Fz data t e.Num=some g/\C2 data e.Kids g=some (pdg data t e)) (J:l.length+pds data t l<=6) (v:Ar) (hv:B1 v<=5000) (S:D8 data v t=true) (k:Nat) (N:∀e∈l,∀(i':A3) (h:Ag) (w:Ar) (d:Nat),i'∈e.Kids->Ee data i' h=some d->d<=6->A6 h<=200->D8 data w h=true->B1 w<=5000->K6 k data h i' w=some (cR (bv data i' h w))) : Sw (k+1) data t l v=some (cR (dpS (bws data l t) (Fs data t.Num v) l.length)):=by
 have Z:=Abz data t.Num v;rw [Sw];refine Fg l (λj=>((j:Int),(l.take j).map (Jy data t))) ψ ω ?_ ?_
 .intro j e hj A h1 h2 h3;obtain ⟨g,b,_⟩:=hp e (Bg A);unfold Fz at b;cases z:Gg data t e.Num with| none=>rw [z] at b; cases b| some fl=>have I:=Rl z;have u:fl.length<=6:=(by obtain ⟨V,y,_,E,_,hy,L,_⟩:=Mi z;obtain ⟨U,_⟩:=D V (Ec E).2.2.2 y (Ec hy).2.2.2;rw [L]; simpa using U);simp only [h1,h2,h3,cond_true,Ad,Abe D t ht,Xj data t.Num e.Num R,z,okL];refine Az8 fl (Cx data t.Num e.Num) I u ?_;show (Bx 80 _ [_]).bind _=_;rw [Di (by simp; omega),Ad,Cu A,List.map_append];congr 4;show [_] = [Jy data t e];unfold Jy;rw [z]
 .intro h1;refine ⟨l.map (Jy data t),by simp only [h1]; rw [List.take_length]; rfl,?_⟩;have e1:Aa ((((l.map (Jy data t)).length:Nat):Int)+1)=((l.length+1:Nat):Int):=(by rw [List.length_map,Aa,B4] <;> omega);rw [e1,Js (n:=l.length+1) (c:=l.length+1) rfl rfl ω ω ω,Ad];refine Az9 (l.length+1) ω ?_;have M:Ae (List.replicate (l.length+1) (cR 0)) 0=some (cR 0):=Bi (n:=0) rfl (by rw [List.getElem?_replicate,if_pos ω]);rw [Ag1,Ad,M,Ad,Azh R h8 hk v hv S,Ad];have e2:Cf (List.replicate (l.length+1) (cR 0)) 0 (cR 1)=Fa l.length (dpS (bws data l t) []):=by
   have:List.replicate (l.length+1) (cR 0)=Fa l.length (λ_=>0):=by
    apply List.ext_getElem?;intro i;rcases Nat.lt_or_ge i (l.length+1) with hi | hi
    .rw [Ko _ ω,List.getElem?_replicate,if_pos hi]
    .rw [List.getElem?_eq_none (by simpa using hi),List.getElem?_eq_none (by rw [Pj]; exact hi)]
   rw [this];refine Ag3 (q:=0) ω rfl ?_;intro p _ hp;show (if p=0 then 1 else 0)=0;rw [if_neg hp]
  rw [e2];have f:∀x∈Fs data t.Num v,∀q w,(bws data l t)[q]? = some w->5000 ^ pds data t (l.take q)*w x<=5000 ^ pds data t (l.take (q+1)):=by
   intro x hx q wt hq;rw [Uh] at hq;obtain ⟨e,A,rfl⟩:=Option.map_eq_some_iff.1 hq;obtain ⟨g,b,G⟩:=hp e (Bg A);have Y:=Ab8 data t.Num v x hx;rw [X5 A,Nat.pow_add];refine Nat.mul_le_mul_left _ ?_;unfold wOf;split
   .rw [show Kp data t e.Num=g by unfold Kp; rw [b]];refine (Lo data 5000 δ _).2 e.Kids g _ _ (Nat.le_refl _) G λy hy=>?_;have X:=Gr (X6 hy);have:=G6 x;omega
   .exact Nat.zero_le _
  have B:∀j q,dpS (bws data l t) ((Fs data t.Num v).take j) q<=5000 ^ (q+pds data t (l.take q)):=λj q=>
   Ag7 _ 5000 δ (λq=>pds data t (l.take q)) _ (λx hx=>f x (List.mem_of_mem_take hx)) (by rw [List.length_take]; omega) q
  refine Fg (Fs data t.Num v) (λj=>((j:Int),Fa l.length (dpS (bws data l t) ((Fs data t.Num v).take j)))) rfl ω ?_ ?_
  .intro j x hj hx h1 h2 h3;have hxm:=Ape hk _ v (Nat.le_refl _) S x (Bg hx);have s:Jj (bws data l t) x (dpS (bws data l t) ((Fs data t.Num v).take j))=dpS (bws data l t) ((Fs data t.Num v).take (j+1)):=(by rw [Cu hx,Apo]);simp only [h1,h2,h3,cond_true,Ad];rw [show (((l.map (Jy data t)).length:Nat):Int)=(l.length:Int) by rw [List.length_map]];refine A0x D hk l hp J k N x hxm.1 ω _ (λq _=>B j q) (λq _=>by rw [s]; exact B (j+1) q) ?_;rw [s]
  .intro h1;refine ⟨_,by simp only [h1]; rw [List.take_length]; rfl,?_⟩;rw [Bi (n:=l.length) ψ (Ko _ (Nat.le_refl _))]; rfl
theorem A0z {data:List Ao} (M:Szv data) (V:Hf data) (h8:∀x∈data,x.Cons.length<=8):∀(n:Nat) (i:A3) (t:Ag) (w:Ar) (k d:Nat),C1 i<=n->2*n<=k->n<1099511627776->Ee data i t=some d->d<=6->A6 t<=200->D8 data w t=true->B1 w<=5000->K6 k data t i w=some (cR (bv data i t w)):=by
 intro n;induction n with
 | zero=>intro i t w k d h; have:=E5 i; omega
 | succ n ih=>
  intro i t w k d hi hk hn hd E ht l hw;obtain ⟨k,rfl⟩:∃L,k=L+2:=⟨k-2,ω⟩;have Z:=E5 i;have N:=G6 w;rw [K6,Ag1,Ag5];simp only [Ad];rw [Rm] at hd;rw [Pg] at l;by_cases f:t.Kind=6
  .rw [Ct f,if_pos f];rw [if_pos f] at hd;rw [if_neg ω,if_neg ω,if_neg ω,if_pos f] at l;simp only [Ca] at l;have c:=l.2;have hd:C2 data i.Kids t.Args=some d:=by
    by_cases e:i.Num=0
    .rw [if_pos e] at hd; exact hd
    .rw [if_neg e] at hd; cases hd
   obtain ⟨i1,i2⟩:=X4 data _ _ _ hd;have z:w.Kids.length=t.Args.length:=by
    by_cases I:w.Kids.length=t.Args.length
    .exact I
    .rw [Ph data _ _ I] at c; cases c
   have S:=Ga t;have U:=Hq t.Args;have y:∀x∈w.Kids,B1 x<=5000:=λx hx=>by have:=Gr hx; omega
   have hS:=Ahb hd E y;rw [cond_true];refine Fg t.Args (λj=>((j:Int),(cR (D9 data (i.Kids.take j) (t.Args.take j) (w.Kids.take j))).Neg,(cR (D9 data (i.Kids.take j) (t.Args.take j) (w.Kids.take j))).Num,(cR (D9 data (i.Kids.take j) (t.Args.take j) (w.Kids.take j))).Den)) (by simp only [List.take_zero,Ug]; rfl) ω ?_ ?_
   .intro j a hj ha h1 h2 h3;have b:i.Kids[j]? = some (i.Kids[j]' ω):=Be _;generalize i.Kids[j]'_=i' at b;have hu:w.Kids[j]? = some (w.Kids[j]' ω):=Be _;generalize w.Kids[j]'_=u at hu;obtain ⟨e,d1,d2⟩:=i2 j i' a b ha;have R:=Gr (Bg hu);have a1:=Hy (Bg b);have a6:=Gf (Bg ha);have B:D8 data u a=true:=(by rw [Rr data _ _ z] at c;exact List.all_eq_true.1 c (u,a) (Bg (i:=j) (by rw [List.getElem?_zip_eq_some]; exact ⟨hu,ha⟩)));have hb:=Sm.of ((Lo data 5000 δ _).1 i' a u e (Nat.le_refl _) d1 ω) ω;simp only [h1,h2,h3,cond_true,Ad,Bi rfl b,Bi rfl hu];rw [ih i' a u (k+1) e ω ω ω d1 ω ω B ω,Ad];show (Ey (cR (D9 data (i.Kids.take j) (t.Args.take j) (w.Kids.take j))) (cR (bv data i' a u))).bind _=_;rw [Ag9 (hS j).lg hb.lg δ δ,Ab7 data _ _ _ j i' a u b ha hu]; rfl
   .intro h1;refine ⟨_,by simp only [h1]; rfl,?_⟩;have e1:i.Kids.take t.Args.length=i.Kids:=List.take_of_length_le ω;have e2:w.Kids.take t.Args.length=w.Kids:=List.take_of_length_le ω;rw [e1,e2,List.take_length]
  .rw [if_neg f] at hd ⊢;rw [Bz f,cond_false];by_cases q:t.Kind=7
   .rw [Ct q,cond_true,if_pos q];rw [if_pos q] at hd;have Y:=Kl w.Kids;by_cases e:0<=i.Num/\i.Num<=6/\i.Kids.length=0
    .obtain ⟨m,X⟩:∃m:Nat,i.Num=m:=⟨i.Num.toNat,ω⟩;rw [X];first | rw [Az5 _ _ ω ω,Ad] | rw [Apd _ _ ω ω,Ad]
     rw [Int.toNat_natCast]
    .rw [if_neg e] at hd; cases hd
   .rw [if_neg q] at hd ⊢;rw [Bz q,cond_false];by_cases g:t.Kind=5
    .rw [Ct g,cond_true,if_pos g];rw [if_pos g] at hd;have hd:Fq data i.Kids t=some d:=by
      by_cases e:i.Num=0
      .rw [if_pos e] at hd; exact hd
      .rw [if_neg e] at hd; cases hd
     obtain ⟨h1,h2⟩:=Ab9 data _ _ _ hd;rw [<-Pg] at l;rw [A0y M V h8 g ht i.Kids h2 ω w hw l k (λe he i' J u d' b G s D hu A=>by have h3:=Hy b;have h4:=E5 e;have h5:=Hy he;exact ih i' J u k d' ω ω ω G s D hu A),Ad]
    .rw [Bz g,cond_false,if_neg g]
end Go.Ab
namespace Go.Ab
open Go
theorem A00 (a b:Ai) (j k:Nat) (ha:RB j a) (hb:RB k b) (hj:j<68719476736) (hk:k<68719476736) : Qd a b=some (Bj (Jg (sv a) (nv a) (dv a) (!sv b) (nv b) (dv b)) (Ib (sv a) (nv a) (dv a) (!sv b) (nv b) (dv b)) (dv a*dv b)):=by
 unfold Qd Sq;have h1:=ha.nv;have h2:=ha.dv;have h3:=hb.nv;have h4:=hb.dv;have q:=Fp (nv a) (dv b);have l:=Fp (nv b) (dv a);have i:=Fp (dv a) (dv b);have h:=W8 (nv a*dv b) (nv b*dv a);have g:=G4 (Nat.sub_le (nv a*dv b) (nv b*dv a));have f:=G4 (Nat.sub_le (nv b*dv a) (nv a*dv b));rw [O1 b k hb ω,Ad,O1 a j ha ω,Ad];dsimp only;rw [Oz _ _ ω ω,Ad,Oz _ _ ω ω,Ad,Oz _ _ ω ω,Ad];by_cases c:sv a = !sv b
 .have e:(sv a == !sv b)=true:=(by rw [c]; exact beq_self_eq_true _);rw [e,cond_true,Amo _ _ ω ω,Ad,Ad,Md _ _ _ ω ω,Jg,Ib,if_pos c,if_pos c]; rfl
 .have e:(sv a == !sv b)=false:=(by cases h1:sv a <;> cases h2:sv b <;> simp_all);rw [e,cond_false,Rf _ _ ω ω,Ad,Jg,Ib,if_neg c,if_neg c];by_cases hc:nv b*dv a<=nv a*dv b
  .rw [An (show Ei (nv a*dv b) (nv b*dv a)>=0 by rw [Ei,if_neg ω]; split <;> decide),cond_true,Aaz _ _ ω hc,Ad,Ad,Md _ _ _ ω ω,if_pos hc,if_pos hc]; rfl
  .rw [Aq (show ¬Ei (nv a*dv b) (nv b*dv a)>=0 by rw [Ei,if_pos ω]; decide),cond_false,Aaz _ _ ω ω,Ad,Ad,Md _ _ _ ω ω,if_neg hc,if_neg hc]; rfl
theorem Apt (s:Bool) (n:Nat):sg (!s) n = - sg s n:=by unfold sg; cases s <;> simp
theorem A01 {a b:Ai} {j k:Nat} (ha:RB j a) (hb:RB k b) (hj:j<34359738000) (hk:k<34359738000):∃c,Qd a b=some c/\RB (j+k+3) c/\Ef c/\rq c=rq a-rq b:=by
 have e:=A00 a b j k ha hb ω ω;have hd:dv a*dv b≠0:=Nat.mul_ne_zero (D4 a) (D4 b);have h1:=ha.nv;have h2:=ha.dv;have h3:=hb.nv;have h4:=hb.dv;have q:=Fp (nv a) (dv b);have l:=Fp (nv b) (dv a);have i:=Fp (dv a) (dv b);have h:=W8 (nv a*dv b) (nv b*dv a);have g:=G4 (Nat.sub_le (nv a*dv b) (nv b*dv a));have f:=G4 (Nat.sub_le (nv b*dv a) (nv a*dv b));refine ⟨_,e,?_,Ng _ _ _ hd,?_⟩
 .refine Jh _ _ _ _ ?_ ω ω;unfold Ib;split
  .omega
  .split <;> omega
 .rw [Km _ _ _ hd,Aow,Apt,rq,rq,show mkRat (sg (sv a) (nv a)) (dv a)-mkRat (sg (sv b) (nv b)) (dv b)=mkRat (sg (sv a) (nv a)) (dv a)+mkRat (-sg (sv b) (nv b)) (dv b) by rw [<-Rat.neg_mkRat]; grind,Rat.mkRat_add_mkRat _ _ (D4 a) (D4 b)]
theorem Ahc (z:Int):mkRat z 1=(z:Rat):=by rw [Rat.mkRat_eq_div,show ((1:Nat):Rat)=1 from rfl]; grind
theorem Aca (z:Int) (h1 : -9223372036854775808<=z) (h2:z<=9223372036854775807):∃r,Dn z=some r/\RB 3 r/\Ef r/\rq r=(z:Rat):=by
 have b:Ba z.natAbs<=3:=Lf (n:=z.natAbs) ω;refine ⟨_,Tx z h1 h2,Jh _ _ _ _ b (by rw [Kg]; decide) δ,Ng _ _ _ δ,?_⟩;rw [Km _ _ _ δ,Ahc];congr 1;unfold sg;by_cases h:z<0
 .rw [An h,if_pos rfl]; omega
 .rw [Aq h,if_neg δ]; omega
theorem Ui (z:Int) (h1 : -9223372036854775808<=z) (h2:z<=9223372036854775807):∃r,Dn z=some r/\F5 z=some r/\RB 3 r/\Ef r/\rq r=(z:Rat):=by
 have b:Ba z.natAbs<=3:=Lf (n:=z.natAbs) ω;refine ⟨_,Tx z h1 h2,O6 z h1 h2,Jh _ _ _ _ b (by rw [Kg]; decide) δ,Ng _ _ _ δ,?_⟩;rw [Km _ _ _ δ,Ahc];congr 1;unfold sg;by_cases h:z<0
 .rw [An h,if_pos rfl]; omega
 .rw [Aq h,if_neg δ]; omega
theorem A02 (n:Nat) (c:n<1000000000):∃r,Mu 1 ((n+1:Nat):Int)=some r/\RB 3 r/\rq r=1 / ((n+1:Nat):Rat):=by have e:=Amu 1 ((n+1:Nat):Int) δ δ ω ω ω;have b:Ba ((n+1:Nat):Int).natAbs<=3:=Lf ω;refine ⟨_,e,Jh _ _ _ _ (Lf δ) b δ,?_⟩;rw [Km _ _ _ ω,Rat.mkRat_eq_div];rw [Aq (by decide:¬(1:Int)<0),Aq (by omega:¬((n+1:Nat):Int)<0)];rfl
theorem Mm (n:Nat):rq (cR n)=(n:Rat):=by unfold cR;rw [Km _ _ _ δ,Ahc]; rfl
theorem Uj (n:Nat):Ef (cR n):=Ng _ _ _ δ
theorem A03 (n j:Nat):(((j+1:Nat):Int))*(bc n (j+1):Int)=((n:Int)-j)*bc n j:=by
 have h1:=X2 n (j+1);have h2:=X2 n j;have c:=Xf j;rcases Nat.lt_or_ge n j with h | h
 .have g:=X1 h;have e2:=X1 (show n<j+1 by omega);have b:=Xf (j+1);have b1:bc n j=0:=by
   rw [g] at h2;rcases Nat.mul_eq_zero.1 h2.symm with h | h
   .exact (c h).elim
   .exact h
  have b2:bc n (j+1)=0:=by
   rw [e2] at h1;rcases Nat.mul_eq_zero.1 h1.symm with h | h
   .exact (b h).elim
   .exact h
  rw [b1,b2]; simp
 .rw [F7,h2] at h1;have h3:fct j*(bc n j*(n-j))=fct j*((j+1)*bc n (j+1)):=(by rw [<-Nat.mul_assoc,h1,fct]; simp only [Nat.mul_assoc]);have h4:=Nat.eq_of_mul_eq_mul_left (Nat.pos_of_ne_zero c) h3;have f:((n:Int)-j)=((n-j:Nat):Int):=ω;rw [f,<-Int.natCast_mul,<-Int.natCast_mul,<-h4,Nat.mul_comm]
theorem Apu (n j:Nat):(bc n j:Rat)*(((n:Rat)-(j:Rat))*(1 / ((j+1:Nat):Rat)))=(bc n (j+1):Rat):=by
 have h:=congrArg (λz:Int=>(z:Rat)) (A03 n j);simp only [Rat.intCast_mul,Rat.intCast_sub,Rat.intCast_natCast] at h;have b:((j+1:Nat):Rat)≠0:=by have:(0:Rat)<((j+1:Nat):Rat):=Rat.natCast_pos.2 ω;grind
 generalize ((j+1:Nat):Rat)=d at *;grind
theorem Uk (a:Ai):Ai.mk a.Neg a.Num a.Den=a:=by cases a; rfl
theorem A04 {a:Ai} {K:Nat} {z:Int} (ha:RB K a) (V:K<=100000000) (i:rq a=(z:Rat)) (k:Nat) (hk:k<=64) : ∃c,N0 a (k:Int)=some c/\Ef c/\RB (3+k*(K+20)) c/\rq c=(bc z.toNat k:Rat):=by
 unfold N0;rw [(Aox ha ω).1,Ad];obtain ⟨b,n,U,e2,S,R⟩:∃(b:Ai) (n:Nat),(bif decide (Jx (rq a)<(0:Int)) then ((Dn 0).bind λv4=>some (v4.Neg,v4.Num,v4.Den)) else some (a.Neg,a.Num,a.Den))=some (b.Neg,b.Num,b.Den)/\RB (K+3) b/\rq b=(n:Rat)/\n=z.toNat:=by
  by_cases h:z<0
  .have l:rq a<0:=(by rw [i]; exact_mod_cast h);have:Jx (rq a)<0:=(by unfold Jx; rw [if_pos l]; decide);rw [An this,cond_true,Ag0];exact ⟨cR 0,0,rfl,(H3 (k:=1) (by rw [Re]; decide) δ).mono ω,by rw [Mm],ω⟩
  .have l:¬rq a<0:=(by rw [i]; intro h2; exact h (by exact_mod_cast h2));have:¬Jx (rq a)<0:=(by unfold Jx; rw [if_neg l]; split <;> decide);rw [Aq this,cond_false];refine ⟨a,z.toNat,rfl,ha.mono ω,?_,rfl⟩;rw [i];have:z=((z.toNat:Nat):Int):=ω;exact (congrArg (λy:Int=>(y:Rat)) this).trans (Rat.intCast_natCast _)
 erw [U];rw [Ad];dsimp only;rw [Ag1,Ad,<-R];refine C6 (λs=>∃(j:Nat) (P:Ai),s=((j:Int),P.Neg,P.Num,P.Den)/\j<=k/\Ef P/\RB (3+j*(K+20)) P/\rq P=(bc n j:Rat)) (λs=>k-s.1.toNat) (λe=>∃P:Ai,e=(P.Neg,P.Num,P.Den)/\Ef P/\RB (3+k*(K+20)) P/\rq P=(bc n k:Rat)) ⟨0,cR 1,rfl,ω,Uj 1,(H3 (k:=1) (by rw [Kg]; decide) δ).mono ω,by rw [Mm,Ab4]⟩ ?_ ?_
 .rintro s ⟨j,P,rfl,hj,hc,g,hv⟩;rcases Nat.lt_or_ge j k with h | h
  .obtain ⟨r,G,E,_,D⟩:=Aca (j:Int) ω ω;obtain ⟨d,d1,d2,d3,d4⟩:=A01 e2 E ω ω;obtain ⟨w,A,x,u⟩:=A02 j ω;obtain ⟨f,f1,f2,_,f3⟩:=Xz d2 x ω ω;have N:j*(K+20)<=64*(K+20):=Nat.mul_le_mul_right _ ω;obtain ⟨q,M,L,J,I⟩:=Xz g f2 ω ω;have B:Aa ((j:Int)+1)=((j+1:Nat):Int):=Co h ω;simp only [An (by omega:(j:Int)<(k:Int)),cond_true,G,Ad,B,A];rw [show (Qd (Ai.mk b.Neg b.Num b.Den) r)=some d from d1,Ad,f1,Ad,show (Ey (Ai.mk P.Neg P.Num P.Den) f)=some q from M,Ad];refine .inl ⟨_,rfl,⟨j+1,q,rfl,ω,J,L.mono (by rw [Nat.add_mul]; omega),?_⟩,by simp only [Int.toNat_natCast]; omega⟩;rw [I,hv,f3,d4,u,S,D,Rat.intCast_natCast];exact Apu n j
  .have:j=k:=ω;subst this;exact .inr ⟨(P.Neg,P.Num,P.Den),by rw [Aq ω]; rfl,P,rfl,hc,g,hv⟩
 .rintro e ⟨P,rfl,hc,g,hv⟩;exact ⟨P,by rw [<-Uk P],hc,g,hv⟩
def Lp (val:Int->Ar) (l:De):Int:=l.Const+(l.Terms.map λt=>t.Coef*(val t.Var).Num).sum
end Go.Ab
namespace Go.Ab
open Go
def Gs:List Nat->Nat
 | []=>1
 | a::l=>a*Gs l
theorem Apv:∀(l:List Nat) (a:Nat),Gs (l++[a])=Gs l*a
 | [],a=>by simp [Gs]
 | b::l,a=>by rw [List.cons_append,Gs,Gs,Apv l a,Nat.mul_assoc]
theorem Acb {α:Type} {f:α->Nat} {l:List α} {j:Nat} {x:α} (h:l[j]? = some x):Gs ((l.take (j+1)).map f)=Gs ((l.take j).map f)*f x:=by rw [Cu h,List.map_append]; exact Apv _ _
def I1 (x:B8) (val:Int->Ar) (f:Cn):Nat:=match Dl x.Vars x.Res f.Var with | some t=>bv x.Data f.Index t (val f.Var) | none=>0
def Mn (val:Int->Ar) (a:Cb):Nat:=bc (Lp val a.Lin).toNat a.Deg.toNat
def Ul (x:B8) (val:Int->Ar) (m:Bw):Nat:=Gs (m.Factors.map (I1 x val))*Gs (m.Atoms.map (Mn val))
def Ni (x:B8) (val:Int->Ar):List A5->Rat
 | []=>0
 | t::p=>rq t.Coef*(Ul x val t.Mono:Rat)+Ni x val p
theorem Ahd (x:B8) (val:Int->Ar):∀p q:List A5,Ni x val (p++q)=Ni x val p+Ni x val q
 | [],q=>by simp only [List.nil_append,Ni]; grind
 | t::p,q=>by simp only [List.cons_append,Ni,Ahd x val p q]; grind
theorem A05 {val:Int->Ar} (c:Int) {l:List Dv} {j:Nat} {u:Dv} (h:l[j]? = some u):Lp val ⟨c,l.take (j+1)⟩=Lp val ⟨c,l.take j⟩+u.Coef*(val u.Var).Num:=by unfold Lp;rw [Cu h];simp only [List.map_append,List.sum_append,List.map_cons,List.map_nil,List.sum_cons,List.sum_nil]; omega
structure Ahe (x:B8) (env:List Ar) (res:Ar) (m:Bw):Prop where
 fl:m.Factors.length<=6
 al:m.Atoms.length<=6
 fac:∀f∈m.Factors,∃t,Dl x.Vars x.Res f.Var=some t/\P9 x.Data t f.Index (C3 env res f.Var)=some (cR (I1 x (C3 env res) f),0)/\I1 x (C3 env res) f<=5000 ^ 6
 atm:∀a∈m.Atoms,1<=a.Deg/\a.Deg<=6/\-1048576<=a.Lin.Const/\a.Lin.Const<=1048576/\a.Lin.Terms.length<=16 /\
  ∀u∈a.Lin.Terms,-1048576<=u.Coef/\u.Coef<=1048576/\∃t,Dl x.Vars x.Res u.Var=some t/\-1099511627776<=(C3 env res u.Var).Num/\(C3 env res u.Var).Num<=1099511627776
theorem A06 {E R:Type} {step:Int×Bool×List Int×List Int->Option ((Int×Bool×List Int×List Int)⊕E)} {J:E->Option R} (F:List Cn) (v:Cn->Nat) (i:Ai->E) (G:F.length<=6) (hv:∀f∈F,v f<=5000 ^ 6) (q:∀(j:Nat) (f:Cn) (g c:Ai),F[j]? = some f->decide ((j:Int)<(F.length:Int))=true->Ae F (j:Int)=some f->Aa ((j:Int)+1)=((j+1:Nat):Int)->Ey g (cR (v f))=some c->step ((j:Int),g.Neg,g.Num,g.Den)=some (.inl (((j+1:Nat):Int),c.Neg,c.Num,c.Den))) (u:∀g:Ai,decide ((F.length:Int)<(F.length:Int))=false->step ((F.length:Int),g.Neg,g.Num,g.Den)=some (.inr (i g))) {a:Ai} {K:Nat} (ha:RB K a) (D:K<=20000000) {Q:R->Prop} (x:∀m,RB (K+30) m->(F = []->m=a)->(F≠[]->Ef m)->rq m=rq a*(Gs (F.map v):Rat)->∃r,J (i m)=some r/\Q r):∃r,(Al step (0,a.Neg,a.Num,a.Den)).bind J=some r/\Q r:=by
 refine C6 (λs=>∃(j:Nat) (g:Ai),s=((j:Int),g.Neg,g.Num,g.Den)/\j<=F.length/\RB (K+j*5) g/\(j=0->g=a)/\(0<j->Ef g)/\rq g=rq a*(Gs ((F.take j).map v):Rat)) (λs=>F.length-s.1.toNat) (λe=>∃g:Ai,e=i g/\RB (K+30) g/\(F = []->g=a)/\(F≠[]->Ef g)/\rq g=rq a*(Gs (F.map v):Rat)) ⟨0,a,rfl,ω,ha.mono ω,λ_=>rfl,λh=>ω,by simp only [List.take_zero,List.map_nil,Gs]; show _=_*(1:Rat); grind⟩ ?_ ?_
 .rintro s ⟨j,g,rfl,hj,l,h0,k,b⟩;rcases Nat.lt_or_ge j F.length with h | h
  .have hx:F[j]? = some F[j]:=Be h;generalize F[j]=f at hx;have hb:Sm (v f):=hv f (Bg hx);obtain ⟨c,B,A,z,y⟩:=Xz l (H3 hb.lg δ) ω δ;rw [q j f g c hx (An ω) (Bi rfl hx) (Co h ω) B];refine .inl ⟨_,rfl,⟨j+1,c,rfl,ω,A.mono ω,λh=>ω,λ_=>z,?_⟩,by simp only [Int.toNat_natCast]; omega⟩;rw [y,b,Mm,Acb hx,Rat.natCast_mul]; grind
  .have:j=F.length:=ω;subst this;rw [List.take_length] at b;refine .inr ⟨i g,u g (Aq ω),g,rfl,l.mono ω,λh=>h0 (by rw [h]; rfl),λh=>k (List.length_pos_iff.2 h),b⟩
 .rintro e ⟨g,rfl,h1,h2,h3,h4⟩;exact x g h1 h2 h3 h4
theorem A07 {x:B8} {f:List Ar} {res:Ar} (B:f.length=x.Vars.length) {l:De} (hl:l.Terms.length<=16) (hc : -1048576<=l.Const/\l.Const<=1048576) (ht:∀u∈l.Terms,-1048576<=u.Coef/\u.Coef<=1048576/\∃t,Dl x.Vars x.Res u.Var=some t/\-1099511627776<=(C3 f res u.Var).Num/\(C3 f res u.Var).Num<=1099511627776) {R:Type} {J:Int×Bool×List Int×List Int->Option R} {Q:R->Prop} (I:∀g:Ai,RB 200 g->rq g=(Lp (C3 f res) l:Rat)->∃r,J ((l.Terms.length:Int),g.Neg,g.Num,g.Den)=some r/\Q r) : ∃r,((Dn l.Const).bind λv183=> (Al (S:=(Int×Bool×(List Int)×(List Int))) (E:=(Int×Bool×(List Int)×(List Int))) (λ(i,v193,v194,q)=> bif i<(l.Terms.length:Int) then ((Ae l.Terms i).bind λv196=> (Dn v196.Coef).bind λv198=> (Jq v196.Var res f).bind λA=> (Dn A.Num).bind λz=> (Ey v198 z).bind λv201=> (G9 (Ai.mk v193 v194 q) v201).bind λk=> some (.inl ((Aa (i+1)),k.Neg,k.Num,k.Den))) else some (.inr (i,v193,v194,q))) (0,v183.Neg,v183.Num,v183.Den)).bind J)=some r/\Q r:=by
 obtain ⟨a,a1,a2,a3,a4⟩:=Aca l.Const ω ω;rw [a1,Ad];refine C6 (λs=>∃(j:Nat) (g:Ai),s=((j:Int),g.Neg,g.Num,g.Den)/\j<=l.Terms.length/\RB (3+j*11) g/\rq g=(Lp (C3 f res) ⟨l.Const,l.Terms.take j⟩:Rat)) (λs=>l.Terms.length-s.1.toNat) (λe=>∃g:Ai,e=((l.Terms.length:Int),g.Neg,g.Num,g.Den)/\RB 200 g/\rq g=(Lp (C3 f res) l:Rat)) ⟨0,a,rfl,ω,a2.mono ω,by rw [a4]; unfold Lp; simp⟩ ?_ ?_
 .rintro s ⟨j,g,rfl,hj,D,y⟩;rcases Nat.lt_or_ge j l.Terms.length with h | h
  .have hx:l.Terms[j]? = some l.Terms[j]:=Be h;generalize l.Terms[j]=u at hx;obtain ⟨u1,u2,t,G,Z,Y⟩:=ht u (Bg hx);obtain ⟨b,b1,b2,b3,X⟩:=Aca u.Coef ω ω;obtain ⟨c,V,U,c3,N⟩:=Aca (C3 f res u.Var).Num ω ω;obtain ⟨d,d1,d2,d3,d4⟩:=Xz b2 U δ δ;obtain ⟨e,M,_,e2,e3,L⟩:=Ub D d2 ω δ;simp only [An (by omega:(j:Int)<(l.Terms.length:Int)),cond_true,Bi rfl hx,Ad,b1,Ag4 B res G,V,d1,Co h ω];rw [show (G9 (Ai.mk g.Neg g.Num g.Den) d)=some e from M,Ad];refine .inl ⟨_,rfl,⟨j+1,e,rfl,ω,e2.mono ω,?_⟩,by simp only [Int.toNat_natCast]; omega⟩;rw [L,y,d4,X,N,A05 _ hx,Rat.intCast_add,Rat.intCast_mul]
  .have:j=l.Terms.length:=ω;subst this;rw [List.take_length] at y;exact .inr ⟨((l.Terms.length:Int),g.Neg,g.Num,g.Den),by simp only [Aq (by omega:¬(l.Terms.length:Int)<(l.Terms.length:Int)),cond_false],g,rfl,D.mono ω,y⟩
 .rintro e ⟨g,rfl,h1,h2⟩;exact I g h1 h2
end Go.Ab
namespace Go.Ab
open Go
theorem A08 {x:B8} {b:List Ar} {res:Ar} (N:b.length=x.Vars.length) {m:Bw} (V:Ahe x b res m) {a:Ai} {K:Nat} (ha:RB K a) (hK:K<=20000000) {R:Type} {J:Int×Bool×List Int×List Int->Option R} {Q:R->Prop} (hJ:∀g:Ai,RB (K+12000) g->(m.Atoms = []->g=a)->(m.Atoms≠[]->Ef g)->rq g=rq a*(Gs (m.Atoms.map (Mn (C3 b res))):Rat)->∃r,J ((m.Atoms.length:Int),g.Neg,g.Num,g.Den)=some r/\Q r) : ∃r,(Al (S:=(Int×Bool×(List Int)×(List Int))) (E:=(Int×Bool×(List Int)×(List Int))) (λ(k,A,z,y)=> bif k<(m.Atoms.length:Int) then ((Ae m.Atoms k).bind λi=> (Dn i.Lin.Const).bind λv183=> (Al (S:=(Int×Bool×(List Int)×(List Int))) (E:=(Int×Bool×(List Int)×(List Int))) (λ(f,v193,v194,u)=> bif f<(i.Lin.Terms.length:Int) then ((Ae i.Lin.Terms f).bind λv196=> (Dn v196.Coef).bind λv198=> (Jq v196.Var res b).bind λM=> (Dn M.Num).bind λL=> (Ey v198 L).bind λv201=> (G9 (Ai.mk v193 v194 u) v201).bind λl=> some (.inl ((Aa (f+1)),l.Neg,l.Num,l.Den))) else some (.inr (f,v193,v194,u))) (0,v183.Neg,v183.Num,v183.Den)).bind λ(v203,I,G,v206)=> (N0 (Ai.mk I G v206) i.Deg).bind λD=> (Ey (Ai.mk A z y) D).bind λv208=> some (.inl ((Aa (k+1)),v208.Neg,v208.Num,v208.Den))) else some (.inr (k,A,z,y))) (0,a.Neg,a.Num,a.Den)).bind J=some r/\Q r:=by
 refine C6 (λs=>∃(j:Nat) (g:Ai),s=((j:Int),g.Neg,g.Num,g.Den)/\j<=m.Atoms.length/\RB (K+j*2000) g/\(j=0->g=a)/\(0<j->Ef g)/\rq g=rq a*(Gs ((m.Atoms.take j).map (Mn (C3 b res))):Rat)) (λs=>m.Atoms.length-s.1.toNat) (λe=>∃g:Ai,e=((m.Atoms.length:Int),g.Neg,g.Num,g.Den)/\RB (K+12000) g/\(m.Atoms = []->g=a)/\(m.Atoms≠[]->Ef g)/\rq g=rq a*(Gs (m.Atoms.map (Mn (C3 b res))):Rat)) ⟨0,a,rfl,ω,ha.mono ω,λ_=>rfl,λh=>ω,by simp only [List.take_zero,List.map_nil,Gs]; show _=_*(1:Rat); grind⟩ ?_ ?_
 .rintro s ⟨j,g,rfl,hj,X,h0,U,B⟩;have a1:=V.al;rcases Nat.lt_or_ge j m.Atoms.length with h | h
  .have hx:m.Atoms[j]? = some m.Atoms[j]:=Be h;generalize m.Atoms[j]=t at hx;obtain ⟨t1,t2,t3,t4,t5,t6⟩:=V.atm t (Bg hx);left;refine M4 ?_;simp only [An (by omega:(j:Int)<(m.Atoms.length:Int)),cond_true,Bi rfl hx,Ad,Co h ω];refine A07 N t5 ⟨t3,t4⟩ t6 λn n1 n2=>?_;obtain ⟨d,hd⟩:∃d:Nat,t.Deg=d:=⟨t.Deg.toNat,ω⟩;obtain ⟨c,c1,c2,c3,c4⟩:=A04 n1 δ n2 d ω;obtain ⟨q,q1,q2,Z,Y⟩:=Xz X (c3.mono (show 3+d*(200+20)<=1900 by omega)) ω δ;refine ⟨.inl (((j+1:Nat):Int),q.Neg,q.Num,q.Den),?_,_,rfl,⟨j+1,q,rfl,ω,q2.mono ω,λh=>ω,λ_=>Z,?_⟩,by simp only [Int.toNat_natCast]; omega⟩
   .show (N0 n t.Deg).bind _=_;rw [hd,c1,Ad];show (Ey g c).bind _=_;rw [q1]; rfl
   .have:Mn (C3 b res) t=bc (Lp (C3 b res) t.Lin).toNat d:=(by unfold Mn; rw [hd,Int.toNat_natCast]);rw [Y,B,c4,Acb hx,Rat.natCast_mul,this]; grind
  .have:j=m.Atoms.length:=ω;subst this;rw [List.take_length] at B;refine .inr ⟨((m.Atoms.length:Int),g.Neg,g.Num,g.Den),by simp only [Aq (by omega:¬(m.Atoms.length:Int)<(m.Atoms.length:Int)),cond_false],g,rfl,X.mono ω,λh=>h0 (by rw [h]; rfl),λh=>U (List.length_pos_iff.2 h),B⟩
 .rintro e ⟨g,rfl,h1,h2,h3,h4⟩;exact hJ g h1 h2 h3 h4
theorem A09 (x:B8) (h:CSz x) (g:Fr x) (i:A3) (t:Ag) (k:F0 x.Data t=true) (hi:C1 i<=1048576) (w:Ar) (l:Hz x.Data w t=true) {d:Nat} (hd:Ee x.Data i t=some d) (c:d<=6) : P9 x.Data t i w=some (cR (bv x.Data i t w),0)/\bv x.Data i t w<=5000 ^ 6:=by have j:=k;simp only [F0,Ca,decide_eq_true_eq] at j;have f:=l;unfold Hz at f;simp only [Ca,decide_eq_true_eq] at f;obtain ⟨⟨_,q⟩,s⟩:=f;have d1:=Azi h.ds g.2.1 t k i hi;obtain ⟨b,b1,u⟩:=Aou h.ds w t ω ω;have hb:b=true:=u.2 ⟨g.2.1,l⟩;subst hb;refine ⟨?_,Nat.le_trans ((Lo x.Data 5000 δ _).1 i t w d (Nat.le_refl _) hd q) (Nat.pow_le_pow_right δ c)⟩;unfold P9 Zo;rw [d1,hd,Xq c,Ad,Ad,An ω,b1];simp only [Ad,D3,cond_false];rw [A0z g.2.1.szv h.ds.sz.short g.2.1.cons8 (C1 i) i t w 4000000 d (Nat.le_refl _) ω ω hd c ω s q]; rfl
theorem Apw {x:B8} (b:Fr x) {v:Int} {t:Ag} (h:Dl x.Vars x.Res v=some t):F0 x.Data t=true:=by
 unfold Dl at h;by_cases e:v = -1
 .rw [if_pos e] at h; cases h; exact b.2.2.1
 .rw [if_neg e] at h;exact List.all_eq_true.1 b.2.2.2 t (Ec h).2.2.2
theorem Apx {x:B8} {m:Bw} (h:Ln x m):∀v∈Hh m,∃t,Dl x.Vars x.Res v=some t:=by
 intro v hv;unfold Hh G7 at hv;rcases List.mem_append.1 hv with hv | hv
 .obtain ⟨f,c,rfl⟩:=List.mem_map.1 hv;exact (Xy h.1).1 f c
 .obtain ⟨a,ha,hv⟩:=List.mem_flatMap.1 hv;obtain ⟨u,hu,rfl⟩:=List.mem_map.1 hv;have b:=h.1;unfold Gw at b;simp only [Ca] at b;obtain ⟨j,hj⟩:=List.getElem?_of_mem ha;have:=Ge b.1.2 hj;simp only [Ip,Ca,decide_eq_true_eq] at this;have hi:=List.all_eq_true.1 this.1.2 u hu;unfold Pc at hi;cases ht:Dl x.Vars x.Res u.Var with| none=>rw [ht] at hi; cases hi| some t=>exact ⟨t,rfl⟩
theorem Apy {x:B8} (V:CSz x) (G:Fr x) {c:List Ar} {res:Ar} {m:Bw} (h:Ln x m) (s:∀v∈Hh m,F1 x c res v=true):Ahe x c res m:=by
 have hc:=h.cmo;have A:=h.1;have z:=Agz h.1 h.2;have q:=Xy h.1;unfold Gw at A;simp only [Ca] at A;have I:∀f∈m.Factors,F1 x c res f.Var=true:=λf g=>s _ (by unfold Hh; exact List.mem_append.2 (.inl (List.mem_map.2 ⟨f,g,rfl⟩)));refine ⟨q.2,?_,λf g=>?_,λa ha=>?_⟩
 .obtain ⟨_,_,h3,_⟩:=z;first | exact h3 | omega
 .obtain ⟨t,ht⟩:=q.1 f g;obtain ⟨j,hj⟩:=List.getElem?_of_mem g;have k:=Ge A.1.1 hj;simp only [Lm,Ca,decide_eq_true_eq] at k;have h1:=k.1;unfold Ez at h1;rw [ht] at h1;have h1:1<=Gb (Ee x.Data f.Index t):=h1;have X:Hz x.Data (C3 c res f.Var) t=true:=(by have:=I f g;unfold F1 at this;rw [ht] at this; exact this);rcases Xr (Ee x.Data f.Index t) with ⟨h2,_⟩ | ⟨d,h2,h3,_⟩
  .rw [h2] at h1; omega
  .obtain ⟨g1,g2⟩:=A09 x V G f.Index t (Apw G ht) (h.2.fi f g) _ X h2 h3;have E:I1 x (C3 c res) f=bv x.Data f.Index t (C3 c res f.Var):=(by unfold I1; rw [ht]);rw [E];exact ⟨t,ht,g1,g2⟩
 .obtain ⟨j,hj⟩:=List.getElem?_of_mem ha;have k:=Ge A.1.2 hj;simp only [Ip,Ca,decide_eq_true_eq] at k;obtain ⟨⟨⟨⟨U,B⟩,_⟩,S⟩,_⟩:=k;have R:a.Deg<=6:=(by obtain ⟨_,_,_,h4⟩:=z;exact (h4 a ha).2.2.2);unfold Hg at B;simp only [Ca,decide_eq_true_eq] at B;obtain ⟨⟨N,M,L⟩,J⟩:=B;refine ⟨U,R,N,M,L,λu hu=>?_⟩;obtain ⟨i,hi⟩:=List.getElem?_of_mem hu;have y:=Ge J hi;simp only [Pa,Ca,decide_eq_true_eq] at y;obtain ⟨⟨_,_,_,Z,Y⟩,_⟩:=y;have l:=List.all_eq_true.1 S u hu;unfold Pc at l;have b:F1 x c res u.Var=true:=s _ (by unfold Hh G7;exact List.mem_append.2 (.inr (List.mem_flatMap.2 ⟨a,ha,List.mem_map.2 ⟨u,hu,rfl⟩⟩)));cases ht:Dl x.Vars x.Res u.Var with| none=>rw [ht] at l; cases l| some t=>rw [ht] at l;have D:t.Kind=1:=eq_of_beq l;unfold F1 at b;rw [ht] at b;have b:Hz x.Data (C3 c res u.Var) t=true:=b;unfold Hz at b;rw [Pg,if_pos D] at b;simp only [Ca,decide_eq_true_eq] at b;exact ⟨Z,Y,t,rfl,b.2.1.1.2,b.2.1.2⟩
end Go.Ab
namespace Go.Ab
open Go
theorem A1a {x:B8} (c:CSz x) (f:Fr x) (w:Ar) (t:Ag) (hw:B1 w<=1048576) (ht:A6 t<=200):Ms x.Data w t=some (Hz x.Data w t):=by obtain ⟨b,b1,g⟩:=Aou c.ds w t ω ω;rw [b1];congr 1;rw [Bool.eq_iff_iff,g];exact ⟨λh=>h.2,λh=>⟨f.2.1,h⟩⟩
theorem A1b (x:B8) (q:CSz x) (s:Fr x) (b:List Ar) (res:Ar) (l:b.length=x.Vars.length) (k:∀v∈b,B1 v<=1048576) (f:B1 res<=1048576) (V:List Int) (y:V.length<=1000000) (i:∀v∈V,∃t,Dl x.Vars x.Res v=some t) (b1:List (ByteArray×Int)) (b2:List (ByteArray×List D2)) : Al (S:=Int) (E:=((Ai×Int)⊕Unit)) (λv17=> bif v17<(V.length:Int) then ((Ae V v17).bind λc=> (Jq c res b).bind λg=> (K4 c b1 b2 x.Data x.Vars x.Res.Kind x.Res.Num x.Res.Args).bind λv20=> (Ms x.Data g v20).bind λv21=> bif (!v21) then some (.inr (.inl ((Ai.mk false [] []),11))) else some (.inl (Aa (v17+1)))) else some (.inr (.inr ()))) 0=some (bif V.all (F1 x b res) then .inr () else .inl (⟨false,[],[]⟩,11)):=by
 rw [<-Option.bind_fun_some (Al _ _)];refine Ld V (F1 x b res) (λj=>(j:Int)) rfl ω ?_ ?_
 .intro j v hv h1 h2 h3;obtain ⟨t,ht⟩:=i v (Bg hv);have u:=(s.ctx q).sz v t ht;have hb:F1 x b res v=Hz x.Data (C3 b res v) t:=(by unfold F1; rw [ht]);simp only [h1,h2,h3,cond_true,Ad,Ag4 l res ht,Agm (ht:=ht),A1a q s (C3 b res v) t (Apf k f v) ω,hb];cases Hz x.Data (C3 b res v) t with| true=>exact ⟨λ_=>rfl,λh=>by cases h⟩| false=>exact ⟨(λh=>by cases h),λ_=>⟨_,rfl,rfl⟩⟩
 .intro h;exact ⟨.inr (),by simp only [h]; rfl,rfl⟩
theorem Apz {x:B8} {p:List A5} (hp:∀t∈p,Ln x t.Mono) (D:p.length<=1000):(Dq p).length<=102000:=by
 have key:∀q:List A5,(∀t∈q,Ln x t.Mono)->(Dq q).length<=102*q.length:=by
  intro q;induction q with
  | nil=>intro _; simp [Dq]
  | cons t q ih=>intro h;have h1:=ih (λu hu=>h u (by simp [hu]));have hc:=h t ψ;have f:=hc.1;have z:=(Xy f).2;have s:=Agz hc.1 hc.2;have B:t.Mono.Atoms.length<=6:=(by obtain ⟨_,_,h3,_⟩:=s;first | exact h3 | omega);unfold Gw at f;simp only [Ca] at f;have b:∀a∈t.Mono.Atoms,a.Lin.Terms.length<=16:=(by intro a ha;obtain ⟨j,hj⟩:=List.getElem?_of_mem ha;have c:=Ge f.1.2 hj;simp only [Ip,Ca,decide_eq_true_eq] at c;have i:=c.1.1.1.2;unfold Hg at i;simp only [Ca,decide_eq_true_eq] at i;exact i.1.2.2);have h2:∀A:List Cb,(∀a∈A,a.Lin.Terms.length<=16)->(G7 A).length<=16*A.length:=(by intro A;induction A with| nil=>intro _; simp [G7]| cons a A k=>intro g;have g1:=k (λu hu=>g u (by simp [hu]));have g2:=g a ψ;unfold G7 at *;simp only [List.flatMap_cons,List.length_append,List.length_map,List.length_cons]; omega);have h3:=h2 t.Mono.Atoms b;have y:Dq (t::q)=Hh t.Mono++Dq q:=(by simp [Dq]);have l:(Hh t.Mono).length=t.Mono.Factors.length+(G7 t.Mono.Atoms).length:=(by unfold Hh; simp);rw [y,List.length_append,List.length_cons,l]; omega
 have:=key p hp;omega
structure Pk (x:B8) (p:List A5) (env:List Ar) (res:Ar) (u:Ai):Prop where
 can:Ef u
 rb:RB 2000000000 u
 val:rq u=Ni x (C3 env res) p
theorem A1c (x:B8) (L:CSz x) (p:List A5) (hp:∀t∈p,TSz t) (b:List Ar) (res:Ar) (a6:∀v∈b,B1 v<=1048576) (G:B1 res<=1048576) : ∃r,Sk x p b res=some r/\((¬(Fr x/\F9 x.Data x.Vars x.Res p=true)/\r=(⟨false,[],[]⟩,1))\/((Fr x/\F9 x.Data x.Vars x.Res p=true) /\ ((b.length≠x.Vars.length/\r=(⟨false,[],[]⟩,5))\/(b.length=x.Vars.length/\((¬(∀v∈Dq p,F1 x b res v=true)/\r=(⟨false,[],[]⟩,11))\/((∀v∈Dq p,F1 x b res v=true)/\∃u,r=(u,0)/\Pk x p b res u)))))):=by
 by_cases hv:Fr x/\F9 x.Data x.Vars x.Res p=true
 .have hf:=hv.1;have M:Kn x p:=⟨hv.2,hp⟩;obtain ⟨b',hb,_⟩:=A0v L (ps:=[p]) (λq hq=>by simp only [List.mem_singleton] at hq; subst hq; exact hp) ψ ⟨hv.1,λq hq=>by simp only [List.mem_singleton] at hq; subst hq; exact hv.2⟩;have hl:=(Ue.1 hv.2).1;have a8:=Apz M.mo hl;have a7:∀t∈p,t.Mono.Atoms.length<=1000000:=λt ht=>by obtain ⟨_,_,h3,_⟩:=(M.mo t ht).cmo;omega
  obtain ⟨V,v1,v2,v3,v4⟩:=Aph p ω a7 ω;unfold Sk;rw [hb];simp only [Ad,D3,cond_false];by_cases l:b.length=x.Vars.length
  .rw [Cp ω,cond_false,v1,Ad];have S:∀v∈V,∃t,Dl x.Vars x.Res v=some t:=λv R=>by have:=(v4 v).1 R;unfold Dq at this;obtain ⟨t,ht,D⟩:=List.mem_flatMap.1 this;exact Apx (M.mo t ht) v D
   rw [A1b x L hf b res l a6 G V v3 S b' [],Ad];cases y:V.all (F1 x b res) with
   | false=>refine ⟨_,rfl,.inr ⟨hv,.inr ⟨l,.inl ⟨λh=>?_,rfl⟩⟩⟩⟩;rw [List.all_eq_false] at y;obtain ⟨v,h1,h2⟩:=y;exact h2 (h v ((v4 v).1 h1))
   | true=>
    have A:∀v∈Dq p,F1 x b res v=true:=λv h=>List.all_eq_true.1 y v ((v4 v).2 h);have U:∀t∈p,Ahe x b res t.Mono:=λt ht=>Apy L hf (M.mo t ht) λv h=>A v (List.mem_flatMap.2 ⟨t,ht,h⟩);have wrap:∀{X:Option (Ai×Int)},(∃r,X=some r/\∃u,r=(u,0)/\Pk x p b res u)->∃r,X=some r/\((¬(Fr x/\F9 x.Data x.Vars x.Res p=true)/\r=(⟨false,[],[]⟩,1))\/((Fr x/\F9 x.Data x.Vars x.Res p=true) /\
      ((b.length≠x.Vars.length/\r=(⟨false,[],[]⟩,5))\/(b.length=x.Vars.length/\((¬(∀v∈Dq p,F1 x b res v=true)/\r=(⟨false,[],[]⟩,11))\/((∀v∈Dq p,F1 x b res v=true)/\∃u,r=(u,0)/\Pk x p b res u)))))):=by rintro X ⟨r,h1,h2⟩;exact ⟨r,h1,.inr ⟨hv,.inr ⟨l,.inr ⟨A,h2⟩⟩⟩⟩
    refine wrap ?_;simp only [cond_true,Ag0,Ad];refine C6 (λs=>∃(j:Nat) (g:Ai),s=((j:Int),g.Neg,g.Num,g.Den)/\j<=p.length/\RB (1+j*1070000) g/\Ef g/\rq g=Ni x (C3 b res) (p.take j)) (λs=>p.length-s.1.toNat) (λz=>∃g:Ai,z = .inr (g.Neg,g.Num,g.Den)/\Pk x p b res g) ⟨0,cR 0,rfl,ω,(H3 (k:=1) (by rw [Re]; decide) δ).mono ω,Uj 0,by rw [Mm]; rfl⟩ ?_ ?_
    .rintro s ⟨j,g,rfl,hj,hg,Y,B⟩;rcases Nat.lt_or_ge j p.length with h | h
     .have hx:p[j]? = some p[j]:=Be h;generalize p[j]=t at hx;have E:=Bg hx;have D:=U t E;left;refine M4 ?_;simp only [An (by omega:(j:Int)<(p.length:Int)),cond_true,Bi rfl hx,Ad,Co h ω];refine A06 t.Mono.Factors (I1 x (C3 b res)) (λc=>.inr ((t.Mono.Factors.length:Int),c.Neg,c.Num,c.Den)) D.fl (λf Z=>by obtain ⟨_,_,_,h⟩:=D.fac f Z; exact h) ?_ ?_ (hp t E).co δ λm1 r1 _ _ q1=>?_
      .intro i f c c' a1 N k2 k3 I;obtain ⟨ty,t1,t2,_⟩:=D.fac f (Bg a1);simp only [N,k2,k3,cond_true,Ad,Agm (ht:=t1),Ag4 l res t1,t2,bne_self_eq_false,cond_false];show (Ey c (cR (I1 x (C3 b res) f))).bind _=_;rw [I]; rfl
      .intro c N;simp only [N,cond_false]
      .dsimp only;refine A08 l D r1 δ λm2 r2 _ _ q2=>?_;obtain ⟨c,c1,_,c2,c3,c4⟩:=Ub hg r2 ω δ;refine ⟨.inl (((j+1:Nat):Int),c.Neg,c.Num,c.Den),?_,_,rfl,⟨j+1,c,rfl,ω,c2.mono ω,c3,?_⟩,by simp only [Int.toNat_natCast]; omega⟩
       .show (G9 g m2).bind _=_;rw [c1]; rfl
       .rw [c4,B,q2,q1,Cu hx,Ahd];show _=_+(rq t.Coef*(Ul x (C3 b res) t.Mono:Rat)+0);unfold Ul;rw [Rat.natCast_mul]; grind
     .have:j=p.length:=ω;subst this;rw [List.take_length] at B;exact .inr ⟨.inr (g.Neg,g.Num,g.Den),by simp only [Aq (by omega:¬(p.length:Int)<(p.length:Int)),cond_false],g,rfl,Y,hg.mono ω,B⟩
    .rintro z ⟨g,rfl,hE⟩;exact ⟨(g,0),by rw [<-Uk g],g,rfl,hE⟩
  .rw [Cs ω,cond_true];exact ⟨_,rfl,.inr ⟨hv,.inl ⟨l,rfl⟩⟩⟩
 .have J:¬(Fr x/\∀r∈[p],F9 x.Data x.Vars x.Res r=true):=λh=>hv ⟨h.1,h.2 p ψ⟩;have he:=A0u L (ps:=[p]) (λr hr=>by simp only [List.mem_singleton] at hr; subst hr; exact hp) ψ J;refine ⟨_,?_,.inl ⟨hv,rfl⟩⟩;unfold Sk;rw [he]; rfl
end Go.Ab
namespace Go.Ab
open Go
theorem A1d {a b:Ai} {j k:Nat} (ha:RB j a) (hb:RB k b) (hj:j<34359737000) (hk:k<34359737000):∃c,Wg a b=some c/\RB (j+k+4) c/\Ef c/\rq c=rq a-rq b:=by
 have e:=Awn b k hb ω;have f:RB (k+1) (Bj (!sv b) (nv b) (dv b)):=Jh _ _ _ _ hb.nv hb.dv ω;obtain ⟨c,_,l,i,h,g⟩:=Ub ha f ω ω;refine ⟨c,?_,i.mono ω,h,?_⟩
 .unfold Wg;rw [e,Ad,l]; rfl
 .rw [g,Km _ _ _ (D4 _),Apt,show rq b=mkRat (sg (sv b) (nv b)) (dv b) from rfl,<-Rat.neg_mkRat]; grind
theorem Ap0:∀(k:Nat) (t:Ar) (a:Int),B1 t<=k->k<1099511627776->∃r,N2 k t a=some r/\True:=by
 intro k;induction k with
 | zero=>intro i a h; have:=G6 i; omega
 | succ k ih=>
  intro i a h hk;have f:=G6 i;have g:=Kl i.Kids;rw [N2];refine Lg ⟨_,rfl,trivial⟩ ?_;refine C6 (λ(v,_)=>∃j:Nat,v=j/\j<=i.Kids.length) (λ(v,_)=>i.Kids.length-v.toNat) (λ_=>True) ⟨0,rfl,ω⟩ ?_ ?_
  .rintro ⟨v,b⟩ ⟨j,rfl,hj⟩;rcases Nat.lt_or_ge j i.Kids.length with h' | h'
   .have hx:i.Kids[j]? = some i.Kids[j]:=Be h';generalize i.Kids[j]=x at hx;have l:=Gr (Bg hx);obtain ⟨⟨y,z⟩,c,_⟩:=ih x b ω ω;simp only [An (by omega:(j:Int)<(i.Kids.length:Int)),cond_true,Bi rfl hx,Ad,c,Co h' ω];cases y with| false=>exact .inr ⟨_,rfl,trivial⟩| true=>exact .inl ⟨_,rfl,⟨j+1,rfl,ω⟩,by simp only [Int.toNat_natCast]; omega⟩
   .have:j=i.Kids.length:=ω;subst this;exact .inr ⟨.inr b,ψ,trivial⟩
  .rintro (⟨x,y⟩ | e) _
   .exact ⟨_,rfl,trivial⟩
   .exact ⟨_,rfl,trivial⟩
theorem A1e (l:List Ar) (n:Int) (g:l.length<=1048576) (h:∀t∈l,B1 t<=1048576):∃b,Vb l n=some b/\True:=by
 unfold Vb;refine C6 (λs=>∃j:Nat,s.1=j/\j<=l.length) (λs=>l.length-s.1.toNat) (λ_=>True) ⟨0,rfl,ω⟩ ?_ ?_
 .rintro ⟨_,w⟩ ⟨j,rfl,hj⟩;rcases Nat.lt_or_ge j l.length with h' | h'
  .have hx:l[j]? = some l[j]:=Be h';generalize l[j]=x at hx;obtain ⟨⟨c,f⟩,hb,_⟩:=Ap0 4000000 x w (by have:=h x (Bg hx); omega) ω;simp only [An (by omega:(j:Int)<(l.length:Int)),cond_true,Bi rfl hx,Ad,hb,Co h' ω];cases decide ((j:Int)<=n) with
   | false=>exact .inr ⟨_,rfl,trivial⟩
   | true=>cases c with| false=>exact .inr ⟨_,rfl,trivial⟩| true=>exact .inl ⟨_,rfl,⟨j+1,rfl,ω⟩,by simp only [Int.toNat_natCast]; omega⟩
  .simp only [Aq (by omega:¬(j:Int)<(l.length:Int)),cond_false];exact .inr ⟨_,rfl,trivial⟩
 .rintro (r | r) _
  .exact ⟨_,rfl,trivial⟩
  .exact ⟨_,rfl,trivial⟩
theorem A1f:∀(k:Nat) (v:Ar),B1 v<=k->k<1099511627776->∃r,P8 k v=some r/\True:=by
 intro k;induction k with
 | zero=>intro v h _; have:=Nd v; omega
 | succ k ih=>
  intro v h hk;have hv:=G6 v;have g:=Kl v.Kids;rw [P8];refine C6 (λs=>∃j:Nat,s.2=j/\j<=v.Kids.length) (λs=>v.Kids.length-s.2.toNat) (λ_=>True) ⟨0,rfl,ω⟩ ?_ (λe _=>⟨e,rfl,trivial⟩);rintro ⟨c,_⟩ ⟨j,rfl,hj⟩;rcases Nat.lt_or_ge j v.Kids.length with h' | h'
  .have f:=Gr (List.getElem_mem h');obtain ⟨r,b,_⟩:=ih v.Kids[j] ω ω;simp only [An (by omega:(j:Int)<(v.Kids.length:Int)),cond_true,Df rfl h',Ad,b,Co h' ω];exact .inl ⟨_,rfl,⟨j+1,rfl,ω⟩,by simp; omega⟩
  .simp only [Aq (by omega:¬(j:Int)<(v.Kids.length:Int)),cond_false];exact .inr ⟨_,rfl,trivial⟩
theorem A1g (c:List Ar) (res:Ar) (g:c.length<=1048576) (f:∀v∈c,B1 v<=1048576) (h:B1 res<=1048576):∃b,U7 c res=some b:=by
 unfold U7;obtain ⟨a,ha,_⟩:=A1e c 40 g f;obtain ⟨r,i,_⟩:=Ap0 4000000 res 400 ω ω;obtain ⟨n,j,_⟩:=A1f 4000000 res ω ω;have hb:Vc res=some r.1:=by unfold Vc; rw [i]; rfl
 rw [ha,hb,j];cases a with| false=>exact ⟨_,rfl⟩| true=>cases r.1 <;> exact ⟨_,rfl⟩
end Go.Ab
namespace Go.Ab
open Go
theorem A1h {a b:Ai} {j k:Nat} (ha:RB j a) (hb:RB k b) (hj:j<17179868000) (hk:k<17179868000) (h0:rq b≠0):∃c,Tc a b=some (c,true)/\RB (j+k+2) c/\Ef c/\rq c*rq b=rq a:=by
 have f:nv b≠0:=by intro h;apply h0;unfold rq;rw [h];unfold sg;cases sv b <;> simp
 have hd:dv a*nv b≠0:=Nat.mul_ne_zero (D4 a) f;have h1:=ha.nv;have h2:=ha.dv;have h3:=hb.nv;have h4:=hb.dv;have q:=Fp (nv a) (dv b);have l:=Fp (dv a) (nv b);refine ⟨_,Awo a b j k ha hb ω ω f,Jh _ _ _ _ ω ω ω,Ng _ _ _ hd,?_⟩;rw [Km _ _ _ hd];unfold rq;rw [Rat.mkRat_mul_mkRat,<-Agt];have e:((sv a != sv b) != sv b)=sv a:=by cases sv a <;> cases sv b <;> rfl
 rw [e,show nv a*dv b*nv b=nv a*(nv b*dv b) by grind,show dv a*nv b*dv b=dv a*(nv b*dv b) by grind];have i:nv b*dv b≠0:=Nat.mul_ne_zero f (D4 b);have g:sg (sv a) (nv a*(nv b*dv b))=sg (sv a) (nv a)*((nv b*dv b:Nat):Int):=by unfold sg;cases sv a <;> simp [Int.neg_mul]
 rw [g,Rat.mkRat_mul_right i]
theorem Ap1 (z:Int):W7 z=F5 z:=rfl
theorem Ap2 {a:Ai} {K n:Nat} (ha:RB K a) (M:K<=100000000) (hv:rq a=(n:Rat)) (k:Nat) (hk:k<=64) : ∃c,S4 a (k:Int)=some c/\Ef c/\RB (3+k*(K+20)) c/\rq c=(bc n k:Rat):=by
 unfold S4;have b:F5 1=some (cR 1):=O6 1 δ δ;rw [b,Ad];refine C6 (λs=>∃(j:Nat) (P:Ai),s=((j:Int),P.Neg,P.Num,P.Den)/\j<=k/\Ef P/\RB (3+j*(K+20)) P/\rq P=(bc n j:Rat)) (λs=>k-s.1.toNat) (λe=>∃P:Ai,e=(P.Neg,P.Num,P.Den)/\Ef P/\RB (3+k*(K+20)) P/\rq P=(bc n k:Rat)) ⟨0,cR 1,rfl,ω,Uj 1,(H3 (k:=1) (by rw [Kg]; decide) δ).mono ω,by rw [Mm,Ab4]⟩ ?_ ?_
 .rintro s ⟨j,P,rfl,hj,hc,g,hq⟩;rcases Nat.lt_or_ge j k with h | h
  .obtain ⟨r,_,D,B,_,A⟩:=Ui (j:Int) ω ω;obtain ⟨d,d1,d2,d3,d4⟩:=A1d ha B ω ω;obtain ⟨w,_,y,x,_,i⟩:=Ui ((j+1:Nat):Int) ω ω;have J:j*(K+20)<=64*(K+20):=Nat.mul_le_mul_right _ ω;obtain ⟨f,_,f1,f2,_,f3⟩:=Uc g d2 ω ω;have hw:rq w≠0:=(by rw [i,Rat.intCast_natCast];have:(0:Rat)<((j+1:Nat):Rat):=Rat.natCast_pos.2 ω;grind);obtain ⟨q,I,G,E,l⟩:=A1h f2 x ω ω hw;have z:Aa ((j:Int)+1)=((j+1:Nat):Int):=Co h ω;simp only [An (by omega:(j:Int)<(k:Int)),cond_true,Ap1,D,Ad,z,y,d1];rw [show (Hn (Ai.mk P.Neg P.Num P.Den) d)=some f from f1];simp only [Ad,I];refine .inl ⟨_,rfl,⟨j+1,q,rfl,ω,E,G.mono (by rw [Nat.add_mul]; omega),?_⟩,by simp only [Int.toNat_natCast]; omega⟩;have L:=Apu n j;rw [f3,hq,d4,A,hv,Rat.intCast_natCast] at l;rw [i,Rat.intCast_natCast] at l hw;generalize ((j+1:Nat):Rat)=u at *;grind
  .have:j=k:=ω;subst this;exact .inr ⟨(P.Neg,P.Num,P.Den),by dsimp only; rw [Aq ω]; rfl,P,rfl,hc,g,hq⟩
 .rintro e ⟨P,rfl,hc,g,hq⟩;exact ⟨P,by rw [<-Uk P],hc,g,hq⟩
theorem Ap3 {a:Ai} {K:Nat} {z:Int} (ha:RB K a) (s:K<=90000000) (f:rq a=(z:Rat)) (k:Nat) (hk:k<=64) : ∃c,Ss a (k:Int)=some c/\Ef c/\RB (3+k*(K+23)) c/\rq c=(bc z.toNat k:Rat):=by
 unfold Ss;rw [(Aox ha ω).2,Ad];by_cases h:z<0
 .have g:rq a<0:=(by rw [f]; exact_mod_cast h);have:Jx (rq a)<0:=(by unfold Jx; rw [if_pos g]; decide);have b:F5 0=some (cR 0):=O6 0 δ δ;obtain ⟨c,q,l,j,i⟩:=Ap2 (K:=K+3) (n:=z.toNat) ((H3 (k:=1) (n:=0) (by rw [Re]; decide) δ).mono ω) ω (by rw [Mm,show z.toNat=0 by omega]) k hk;exact ⟨c,by rw [An this,cond_true,b,Ad,q]; rfl,l,j,i⟩
 .have g:¬rq a<0:=(by rw [f]; intro h2; exact h (by exact_mod_cast h2));have:¬Jx (rq a)<0:=(by unfold Jx; rw [if_neg g]; split <;> decide);have hv:rq a=((z.toNat:Nat):Rat):=(by rw [f];have:z=((z.toNat:Nat):Int):=ω;exact (congrArg (λy:Int=>(y:Rat)) this).trans (Rat.intCast_natCast _));obtain ⟨c,q,l,j,i⟩:=Ap2 (K:=K+3) (n:=z.toNat) (ha.mono ω) ω hv k hk;exact ⟨c,by rw [Aq this,cond_false,q]; rfl,l,j,i⟩
end Go.Ab
