/- Plain laws: what the plain functions answer. -/
import Derived.Test.YthjgkpbilpojpaaGreatDoorBzPl2
namespace Go.Ab
open Go
theorem Adl (t u:Ai) (h:MSz t.Mono):Lw t u=some (Cz t.Mono u.Mono):=by
 unfold Lw
 rw [Ajr _ _ h]; rfl
theorem Au8 {α:Type} (A R:List α) (x y:α):((A++y::x::R).set (A.length+1) y).set A.length x=A++x::y::R:=by
 induction A with
 | nil=>rfl
 | cons a A ih=>simp only [List.cons_append,List.length_cons,List.set_cons_succ,ih]
theorem Ak4 {α:Type} (A R:List α) (x:α):(A++x::R)[A.length]? = some x:=by simp
theorem Au9 {α:Type} (A R:List α) (x y:α):(A++y::x::R)[A.length+1]? = some x:=by
 induction A with
 | nil=>rfl
 | cons a A ih=>simp
theorem Ava {step:Int×List Ai->Option ((Int×List Ai)⊕(Int×List Ai))} (N:Nat) (G:N<4611686018427387904)
  (b:∀(x:Ai) (R:List Ai),step (0,x::R)=some (.inr (0,x::R)))
  (l:∀(A R:List Ai) (x y:Ai),(∀t∈A++y::x::R,MSz t.Mono)->(A++y::x::R).length<=N->step (((A.length+1:Nat):Int),A++y::x::R) =
   if Cz x.Mono y.Mono<0 then some (.inl ((A.length:Int),A++x::y::R)) else some (.inr (((A.length+1:Nat):Int),A++y::x::R))) :
  ∀(n:Nat) (A R:List Ai) (x:Ai),A.length=n->(∀t∈A++x::R,MSz t.Mono)->(A++x::R).length<=N ->
   ∃f i,Al step ((A.length:Int),A++x::R)=some ((f.length:Int),f++x::(i++R))/\A=f++i/\(∀a∈i,ltT x a)/\∀q y,f=q++[y]->¬ltT x y:=by
 intro n
 induction n with
 | zero=>
  intro A R x g _ _
  have:A = []:=List.length_eq_zero_iff.1 g
  subst this
  exact ⟨[],[],Eh (b x R),rfl,(fun _ h=>by cases h),(fun q y h=>by simp at h)⟩
 | succ n ih=>
  intro A R x g k c
  obtain ⟨B,y,rfl⟩:∃B y,A=B++[y]:=by
   rcases List.eq_nil_or_concat A with h | ⟨B,y,h⟩
   .rw [h] at g; cases g
   .exact ⟨B,y,by simpa using h⟩
  have u:B.length=n:=by simpa using g
  have E:(B++[y])++x::R=B++y::x::R:=by simp
  have el:(((B++[y]).length:Nat):Int)=((B.length+1:Nat):Int):=by simp
  rw [E] at k c ⊢
  rw [el]
  have j:=l B R x y k c
  by_cases hc:Cz x.Mono y.Mono<0
  .rw [if_pos hc] at j
   obtain ⟨f,i,h1,h2,h3,D⟩:=ih B (y::R) x u (by
    intro t ht
    refine k t ?_
    simp only [List.mem_append,List.mem_cons] at ht ⊢
    rcases ht with h | h | h | h <;> simp [h]) (by simpa using c)
   refine ⟨f,i++[y],?_,by rw [h2]; simp,?_,D⟩
   .rw [Iw j,h1]; simp
   .intro a ha
    rcases List.mem_append.1 ha with ha | ha
    .exact h3 a ha
    .simp only [List.mem_singleton] at ha
     subst ha; exact hc
  .rw [if_neg hc] at j
   refine ⟨B++[y],[],?_,by simp,(fun _ h=>by cases h),?_⟩
   .rw [Eh j]; simp
   .intro q z s
    have:=List.append_inj' s rfl
    have e:y=z:=by simpa using this.2
    subst e; exact hc
theorem Avb {a b c:Ai} (h:ltT a b) (h':ltT b c):ltT a c:=Ru h h'
theorem Avc {c j:List Ai} {x:Ai} (u:(c++j).Pairwise ltT) (h2:∀a∈j,ltT x a) (h1:∀g y,c=g++[y]->¬ltT x y) (hd:∀a∈c,a.Mono≠x.Mono):(c++x::j).Pairwise ltT:=by
 obtain ⟨i,s,l⟩:=List.pairwise_append.1 u
 have hx:∀a∈c,ltT a x:=by
  intro a ha
  rcases List.eq_nil_or_concat c with h | ⟨g,y,h⟩
  .rw [h] at ha; cases ha
  .have h:c=g++[y]:=by simpa using h
   have f:ltT y x:=by
    have q:=h1 g y h
    have z:=hd y (by rw [h]; simp)
    unfold ltT at *
    rcases Int.lt_trichotomy (Cz x.Mono y.Mono) 0 with k | k | k
    .exact (q k).elim
    .exact (z (Kv.1 k).symm).elim
    .exact Ac8.1 k
   rw [h] at ha i
   rcases List.mem_append.1 ha with ha | ha
   .exact Avb ((List.pairwise_append.1 i).2.2 a ha y (by simp)) f
   .simp only [List.mem_singleton] at ha
    subst ha; exact f
 refine List.pairwise_append.2 ⟨i,List.pairwise_cons.2 ⟨h2,s⟩,fun a ha b hb=>?_⟩
 rcases List.mem_cons.1 hb with rfl | hb
 .exact hx a ha
 .exact l a ha b hb
noncomputable def Uz:Int×List Ai->Option ((Int×List Ai)⊕(Int×List Ai)):=fun (v31,b)=>
 (show Option Bool from
 bif (decide (v31>(0:Int))) then (
 (Af b v31).bind fun v33=>
 (Af b (Ac (v31-1))).bind fun g=>
 (Lw v33 g).bind fun v35=>
 some (decide (v35<(0:Int))))
 else some false).bind fun f=>
 bif f then (
 (Af b (Ac (v31-1))).bind fun v37=>
 (Af b v31).bind fun c=>
 (Af b v31).bind fun v39=>
 (Af (Cl b v31 v37) (Ac (v31-1))).bind fun v40=>
 some (.inl ((Ac (v31-1)),(Cl (Cl b v31 v37) (Ac (v31-1)) c))))
 else some (.inr (v31,b))
theorem Avd (y:Ai) (R:List Ai):Uz (0,y::R)=some (.inr (0,y::R)):=by
 unfold Uz
 simp only [Av (by omega:¬(0:Int)>0),cond_false,Ad]
theorem Ave {N:Nat} (h:N<=1099511627776) (A R:List Ai) (u y:Ai) (b:∀t∈A++y::u::R,MSz t.Mono) (c:(A++y::u::R).length<=N):Uz (((A.length+1:Nat):Int),A++y::u::R) =
  if Cz u.Mono y.Mono<0 then some (.inl ((A.length:Int),A++u::y::R)) else some (.inr (((A.length+1:Nat):Int),A++y::u::R)):=by
 have g:A.length+1<N:=by simp at c; omega
 have f:Ac (((A.length+1:Nat):Int)-1)=(A.length:Int):=by rw [Ac,Bu] <;> omega
 unfold Uz
 simp only [Ao (by omega:((A.length+1:Nat):Int)>0),cond_true,f,Ch (n:=A.length+1) rfl (Au9 A R u y),Ch (n:=A.length) rfl (Ak4 A (u::R) y),Ad,Adl u y (b u (by simp))]
 by_cases hc:Cz u.Mono y.Mono<0
 .rw [Ao hc,if_pos hc]
  simp only [cond_true]
  rw [E7 (n:=A.length+1) rfl,E7 (n:=A.length) rfl,Au8]
  have:Af ((A++y::u::R).set (A.length+1) y) (A.length:Int)=some y:=by
   refine Ch rfl ?_
   rw [List.getElem?_set_ne (by omega)]; exact Ak4 A (u::R) y
  rw [this]; rfl
 .rw [Av hc,if_neg hc]; rfl
theorem Avf (b:List Ai) (hd:Dst b) (I:∀t∈b,MSz t.Mono) (M:b.length<=1099511627776) :
  ∃R,Tp 0 (b.length:Int) b=some R/\R.Perm b/\R.Pairwise ltT:=by
 unfold Tp
 cases b with
 | nil=>
  refine ⟨[],?_,List.Perm.refl _,List.Pairwise.nil⟩
  refine Hv 0 (fun _=>((1:Int),([]:List Ai))) (by simp [Ac,Bu]) (fun j N=>by omega) ⟨[],?_,rfl⟩
  simp
 | cons z0 A=>
 generalize f:z0::A=b at *
 have hpos:1<=b.length:=by rw [<-f]; simp
 refine D6 (fun s=>∃(i:Nat) (S:List Ai),s=((i:Int),S++b.drop i)/\1<=i/\i<=b.length/\S.length=i/\S.Perm (b.take i)/\S.Pairwise ltT) (fun s=>b.length-s.1.toNat)
  (fun R=>R.Perm b/\R.Pairwise ltT) ⟨1,[z0],by rw [<-f]; simp [Ac,Bu],by omega,hpos,rfl,by rw [<-f]; simp,List.pairwise_singleton _ _⟩ ?_ ?_
 .rintro _ ⟨i,S,rfl,J,U,G,c,k⟩
  rcases Nat.lt_or_ge i b.length with h | h
  .have hx:b[i]? = some b[i]:=Ci h
   generalize b[i]=x at hx
   have g:b.drop i=x::b.drop (i+1):=Lg hx
   have z:(S++x::b.drop (i+1)).length=b.length:=by simp; omega
   have y:∀t∈S++x::b.drop (i+1),t∈b:=by
    intro t ht
    rcases List.mem_append.1 ht with ht | ht
    .exact List.mem_of_mem_take (c.mem_iff.1 ht)
    .rw [<-g] at ht; exact List.mem_of_mem_drop ht
   simp only [Ao (by omega:(i:Int)<(b.length:Int)),cond_true,C9 h (by omega)]
   rw [g]
   left
   obtain ⟨q,l,h1,h2,h3,L⟩:=Ava (step:=Uz) b.length (by omega) Avd (Ave (by omega)) S.length S (b.drop (i+1)) x rfl (fun t ht=>I t (y t ht)) (by rw [z]; exact Nat.le_refl _)
   rw [G] at h1
   have hp:(q++x::l).Perm (b.take (i+1)):=by
    rw [Dy hx]
    have:(q++x::l).Perm ((q++l)++[x]):=by
     rw [List.append_assoc]
     exact List.Perm.append_left q (List.perm_append_singleton x l).symm
    exact this.trans (by rw [<-h2]; exact c.append_right [x])
   refine ⟨(((i+1:Nat):Int),(q++x::l)++b.drop (i+1)),bnd h1 (by simp),⟨i+1,q++x::l,rfl,by omega,by omega,?_,hp,?_⟩,by simp; omega⟩
   .rw [hp.length_eq,List.length_take]; omega
   .rw [h2] at k
    refine Avc k h3 L fun a ha=>?_
    have E:a∈b.take i:=c.mem_iff.1 (by rw [h2]; simp [ha])
    have B:x∈b.drop i:=by rw [g]; simp
    have D:(b.take i++b.drop i).Pairwise fun t u=>t.Mono≠u.Mono:=by rw [List.take_append_drop]; exact hd
    exact (List.pairwise_append.1 D).2.2 a E x B
  .have:i=b.length:=by omega
   subst this
   rw [List.take_length] at c
   simp only [Av (by omega:¬(b.length:Int)<(b.length:Int)),cond_false,List.drop_length,List.append_nil]
   exact .inr ⟨S,rfl,c,k⟩
 .rintro R ⟨h1,h2⟩
  exact ⟨R,rfl,h1,h2⟩
theorem Nm {α:Type} {n:Nat} {l:List α} (h:n=l.length):Fg n l=some ():=by unfold Fg; rw [if_pos h]
theorem Avg {s:ByteArray} {i:Int} (h0:0<=i) (h:i.toNat<s.size):∃c,G3 s i=some c:=by
 unfold G3
 rw [if_pos h0]
 exact ⟨_,getElem?_pos s i.toNat h⟩
set_option maxRecDepth 20000 in
theorem Avh {n:Nat} (h:n<256):∃v,Qq (Au (n:Int))=some v:=by
 unfold Qq W8
 rw [Au,Cp (by omega) (by omega),Av (by omega)]
 simp only [cond_false,Ad]
 rw [Av (by omega)]
 simp only [cond_false,Ad]
 rw [Av (by omega)]
 simp only [cond_false,Ad]
 have b:wu8 (n:Int)=(n:Int):=by
  rw [wu8]; unfold IntKind.wrap; simp [IntKind.bits,IntKind.signed]; omega
 rw [b]
 generalize g:ByteArray.mk _=T
 have f:T.size=256:=by rw [<-g]; rfl
 obtain ⟨c,hc⟩:=Avg (s:=T) (i:=(n:Int)) (by omega) (by rw [f]; simpa using h)
 rw [hc]
 exact ⟨_,rfl⟩
theorem Avi (b:List Ai) (hd:Dst b) (g:∀t∈b,MSz t.Mono) (f:b.length<=12):∃R,Lv b=some R/\R.Perm b/\R.Pairwise ltT:=by
 obtain ⟨R,h1,h2,h3⟩:=Avf b hd g (by omega)
 obtain ⟨v,c⟩:=Avh (n:=b.length) (by omega)
 refine ⟨R,?_,h2,h3⟩
 unfold Lv
 rw [Nat.ble_eq_true_of_le f,cond_true]
 unfold Abr
 rw [c,Ad]
 have hp:Tb 0 (b.length:Int) v b=some R:=by
  unfold Tb
  refine bnd (a:=R) (Eh ?_) rfl
  have w:Ac ((b.length:Int)-0)=(b.length:Int):=by rw [Ac,Bu] <;> omega
  simp only [w,Ao (by omega:(b.length:Int)<=12),cond_true,h1,Ad,Nm h2.length_eq.symm]
 rw [hp,Ad,Nm h2.length_eq.symm]; rfl
def clT (t:Ai):Ai:=⟨Bg (sv t.Coef) (nv t.Coef) (dv t.Coef),t.Mono⟩
theorem Avj {k:Nat} (p:List Ai) (hk:k<34359738000) (hp:∀t∈p,RB k t.Coef/\MSz t.Mono) (b:p.length<=1048576):Sz p=some (p.map clT):=by
 unfold Sz
 refine Hw p (fun j=>((j:Int),(p.take j).map clT)) rfl (by omega) ?_ ?_
 .intro j x c hx h1 h2 h3
  obtain ⟨a1,a2⟩:=hp x (Cm hx)
  simp only [h1,h2,h3,cond_true,Ad,X0 x.Coef k a1 (by omega),Auo x.Mono a2]
  rw [Dp (by simp; omega),Ad,Dy hx]
  simp [clT]
 .intro h1
  exact ⟨p.map clT,by simp,rfl⟩
theorem Avk (p:List Ai) (m:Bc):cf (p.map clT) m=cf p m:=by
 induction p with
 | nil=>rfl
 | cons t p ih=>
  simp only [List.map_cons,cf,ih,clT]
  rw [Jz _ _ _ (D8 _)]; rfl
theorem Avl {p q:List Ai} (h:p.Perm q) (m:Bc):cf p m=cf q m:=by
 induction h with
 | nil=>rfl
 | cons x _ ih=>simp only [cf,ih]
 | swap x y l=>simp only [cf]; grind
 | trans _ _ h1 h2=>rw [h1,h2]
def nzT (t:Ai):Bool:=decide (rq t.Coef≠0)
theorem Avm (p:List Ai) (m:Bc):cf (p.filter nzT) m=cf p m:=by
 induction p with
 | nil=>rfl
 | cons t p ih=>
  by_cases h:rq t.Coef=0
  .rw [List.filter_cons_of_neg (by simp [nzT,h]),ih]; simp only [cf,h]; grind
  .rw [List.filter_cons_of_pos (by simp [nzT,h])]; simp only [cf,ih]
theorem Avn (x:Rat):(L9 x != (0:Int))=decide (x≠0):=by
 unfold L9
 by_cases h1:x<0
 .rw [if_pos h1]
  have:x≠0:=by intro e; subst e; exact absurd h1 (by decide)
  simp [this]
 .rw [if_neg h1]
  by_cases h2:0<x
  .rw [if_pos h2]
   have:x≠0:=by intro e; subst e; exact absurd h2 (by decide)
   simp [this]
  .rw [if_neg h2]
   have:x=0:=Rat.le_antisymm (Rat.not_lt.1 h2) (Rat.not_lt.1 h1)
   simp [this]
theorem Avo {α:Type} {f:α->Bool} {l:List α} {j:Nat} {x:α} (h:l[j]? = some x):(l.take (j+1)).filter f=(l.take j).filter f++(if f x then [x] else []):=by
 rw [Dy h,List.filter_append]; congr 1; cases k:f x <;> simp [List.filter,k]
theorem Avp {k:Nat} {P:Bc->Prop} (q:∀m,P m->CMo m) (o:List (ByteArray×Int)) (ts:List Ai) (h:Col k P ts) (hk:k<34359738000) (A:ts.length<=1000)
  (z:∀c:List Ai,c.length<=ts.length->Dst c->(∀t∈c,MSz t.Mono)->∃R,Lv c=some R/\R.Perm c/\R.Pairwise ltT) :
  ∃R,P8 o ts=some (R,0)/\CP R/\(∀m,cf R m=cf ts m)/\(∀t∈R,P t.Mono/\RB (k+1) t.Coef)/\R.length<=ts.length:=by
 unfold P8
 have g:(ts.filter nzT).length<=ts.length:=List.length_filter_le _ _
 obtain ⟨S,y,f,s⟩:=z (ts.filter nzT) g (List.Pairwise.filter _ h.dst) (fun t ht=>(q _ (h.mo t (List.mem_filter.1 ht).1)).sz)
 have b:∀t∈S,t∈ts/\rq t.Coef≠0:=by
  intro t ht
  have:=List.mem_filter.1 (f.mem_iff.1 ht)
  exact ⟨this.1,by simpa [nzT] using this.2⟩
 refine ⟨S.map clT,?_,⟨?_,?_⟩,?_,?_,?_⟩
 .refine Hw ts (fun j=>((j:Int),(ts.take j).filter nzT)) rfl (by omega) ?_ ?_
  .intro j x B hx h1 h2 h3
   have hb:=h.tb x (Cm hx)
   have l:((ts.take j).filter nzT).length<=ts.length:=Nat.le_trans (List.length_filter_le _ _) (by rw [List.length_take]; omega)
   simp only [h1,h2,h3,cond_true,Ad,(Yn hb hk).1,Avn]
   rw [Avo hx]
   by_cases i:rq x.Coef=0
   .have:nzT x=false:=by simp [nzT,i]
    rw [Av (by simpa using i),this]; simp
   .have:nzT x=true:=by simp [nzT,i]
    rw [Ao i,this]
    simp only [cond_true]
    rw [Dp (by simp; omega)]; simp
  .intro h1
   refine ⟨ts.filter nzT,by simp only [h1,cond_false,List.take_length],?_⟩
   rw [Av (by omega)]
   simp only [cond_false]
   rw [y,Ad,Nm f.length_eq.symm,Ad,
    Avj (k:=k) S hk (fun t ht=>⟨h.tb t (b t ht).1,(q _ (h.mo t (b t ht).1)).sz⟩) (by rw [f.length_eq]; omega)]; rfl
 .rw [List.pairwise_map]; exact s
 .intro t ht
  obtain ⟨u,hu,rfl⟩:=List.mem_map.1 ht
  refine ⟨Nk _ _ _ (D8 _),?_⟩
  show rq (Bg _ _ _)≠0
  rw [Jz _ _ _ (D8 _)]; exact (b u hu).2
 .intro m
  rw [Avk,Avl f,Avm]
 .intro t ht
  obtain ⟨u,hu,rfl⟩:=List.mem_map.1 ht
  exact ⟨h.mo u (b u hu).1,Ach (h.tb u (b u hu).1)⟩
 .rw [List.length_map,f.length_eq]; exact g
end Go.Ab
namespace Go.Ab
open Go
theorem Avq (x:Cw) (g:CSz x) (ps:List (List Ai)) (B:∀p∈ps,∀t∈p,TSz t) (S:ps.length<=1048576) :
  ∃r,Lr x ps=some r/\(((Jf x/\∀p∈ps,Il x.Data x.Vars x.Res p=true)/\∃A,r = .inl (true,x,A,[],x.Data,x.Vars,x.Res.Kind,x.Res.Num,x.Res.Args)/\Dj x.Data x.Vars x.Res A) \/
   ((¬(Jf x/\∀p∈ps,Il x.Data x.Vars x.Res p=true))/\r = .inr false)):=by
 obtain ⟨b,b1,b2⟩:=Ai1 g.ds
 have L:=g.nv
 have J:=g.rs
 unfold Lr
 rw [b1,Ue x.Data x.Res 0 (by omega)]
 by_cases l:x.Vars.length<=3000
 .rw [Av (by omega)]
  simp only [cond_false,Ad]
  cases b with
  | false=>exact ⟨_,rfl,.inr ⟨fun h=>(by have:=b2.2 h.1.2.1; cases this),rfl⟩⟩
  | true=>
   have I:=b2.1 rfl
   simp only [bnt,cond_false]
   cases D:(Fi x.Data 0 x.Res&&decide (B2 x.Res<=200)) with
   | false=>exact ⟨_,rfl,.inr ⟨fun h=>(by have:=h.1.2.2.1; rw [show Jy x.Data x.Res=false from D] at this; cases this),rfl⟩⟩
   | true=>
    simp only [bnt,cond_false,Ad]
    refine D6 (fun i=>∃j:Nat,i=j/\j<=x.Vars.length/\(x.Vars.take j).all (Jy x.Data)=true) (fun i=>x.Vars.length-i.toNat)
     (fun z=>match z with | .inl r=>r=false/\¬Jf x | .inr _=>Jf x) ⟨0,rfl,by omega,by simp⟩ ?_ ?_
    .rintro i ⟨j,rfl,M,c⟩
     rcases Nat.lt_or_ge j x.Vars.length with h | h
     .have ht:x.Vars[j]? = some x.Vars[j]:=Ci h
      generalize x.Vars[j]=t at ht
      have:=g.vs t (Cm ht)
      simp only [Ao (by omega:(j:Int)<(x.Vars.length:Int)),cond_true,Ch rfl ht,Ad,Ue x.Data t 0 (by omega),C9 h (by omega)]
      rw [show (Fi x.Data 0 t&&decide (B2 t<=200))=Jy x.Data t from rfl]
      cases G:Jy x.Data t with
      | true=>exact .inl ⟨_,rfl,⟨j+1,rfl,by omega,by rw [Dy ht,List.all_append,c]; simp [G]⟩,by simp; omega⟩
      | false=>
       refine .inr ⟨.inl false,rfl,rfl,fun hh=>?_⟩
       have:=List.all_eq_true.1 hh.2.2.2 t (Cm ht)
       rw [G] at this; cases this
     .have:j=x.Vars.length:=by omega
      subst this
      rw [List.take_length] at c
      exact .inr ⟨.inr (),by simp,l,I,D,c⟩
    .rintro (r | u) f
     .obtain ⟨rfl,f⟩:=f
      exact ⟨_,rfl,.inr ⟨fun h=>f h.1,rfl⟩⟩
     .have hf:Jf x:=f
      simp only
      refine D6 (fun s=>∃(j:Nat) (o:List (ByteArray×Int)),s=((j:Int),o)/\j<=ps.length/\Dj x.Data x.Vars x.Res o/\∀p∈ps.take j,Il x.Data x.Vars x.Res p=true) (fun s=>ps.length-s.1.toNat)
       (fun z=>match z with | .inl r=>r=false/\¬(∀p∈ps,Il x.Data x.Vars x.Res p=true) | .inr o=>Dj x.Data x.Vars x.Res o/\∀p∈ps,Il x.Data x.Vars x.Res p=true)
       ⟨0,[],rfl,by omega,(fun q h=>by cases h),(fun q h=>by simp at h)⟩ ?_ ?_
      .rintro _ ⟨j,o,rfl,M,E,c⟩
       rcases Nat.lt_or_ge j ps.length with h | h
       .have ht:ps[j]? = some ps[j]:=Ci h
        generalize ps[j]=p at ht
        have k:=Cm ht
        obtain ⟨A,R,N⟩:=Aj5 (hf.ctx g) [] E p (B p k)
        simp only [Ao (by omega:(j:Int)<(ps.length:Int)),cond_true,Ch rfl ht,Ad,R,C9 h (by omega)]
        cases y:Il x.Data x.Vars x.Res p with
        | true=>
         refine .inl ⟨_,rfl,⟨j+1,A,rfl,by omega,N,fun q hq=>?_⟩,by simp; omega⟩
         rw [Dy ht] at hq
         rcases List.mem_append.1 hq with hq | hq
         .exact c q hq
         .simp only [List.mem_singleton] at hq
          subst hq; exact y
        | false=>
         refine .inr ⟨.inl false,rfl,rfl,fun hh=>?_⟩
         have:=hh p k
         rw [y] at this; cases this
       .have:j=ps.length:=by omega
        subst this
        rw [List.take_length] at c
        exact .inr ⟨.inr o,by simp,E,c⟩
      .rintro (r | o) hw
       .obtain ⟨rfl,hw⟩:=hw
        exact ⟨_,rfl,.inr ⟨fun h=>hw h.2,rfl⟩⟩
       .exact ⟨_,rfl,.inl ⟨⟨hf,hw.2⟩,o,rfl,hw.1⟩⟩
 .rw [Ao (by omega)]
  exact ⟨_,rfl,.inr ⟨fun h=>l h.1.1,rfl⟩⟩
theorem Avr {data:List Az} {vars:List Aj} {res:Aj} {m:Bc} (h:Je data vars res m=true) (q:MSz m):CMo m:=by
 have hf:=(At7 h).2
 unfold Je at h
 simp only [Di,decide_eq_true_eq] at h
 obtain ⟨⟨h1,h2⟩,h3⟩:=h
 have c:∀f∈m.Factors,0<=El data vars res f:=by
  intro f hf
  obtain ⟨j,b⟩:=List.getElem?_of_mem hf
  have:=Ig h1 b
  simp only [Un,Di,decide_eq_true_eq] at this
  omega
 have ha:∀a∈m.Atoms,1<=a.Deg/\Gx a.Lin=true/\a.Lin.Terms≠[]:=by
  intro a ha
  obtain ⟨j,b⟩:=List.getElem?_of_mem ha
  have:=Ig h2 b
  simp only [Uo,Di,decide_eq_true_eq] at this
  refine ⟨this.1.1.1.1,this.1.1.1.2,fun e=>?_⟩
  have k:=this.1.1.2
  rw [e] at k; simp at k
 obtain ⟨a1,a2,a3⟩:=Aj2 m.Atoms fun a h=>by have:=(ha a h).1; omega
 have f1:=At2 m.Factors c
 have al:(m.Atoms.length:Int)<=Eu m.Atoms:=by
  have key:∀l:List Bb,(∀a∈l,1<=a.Deg)->(l.length:Int)<=Eu l:=by
   intro l
   induction l with
   | nil=>intro _; simp [Eu]
   | cons f fs ih=>
    intro i
    have h1:=i f (by simp)
    have h2:=ih (fun g s=>i g (by simp [s]))
    unfold Eu at *
    simp only [List.map_cons,List.sum_cons,List.length_cons]; omega
  exact key _ fun a h=>(ha a h).1
 exact ⟨q,hf,by omega,fun a h=>⟨(ha a h).2.1,(ha a h).2.2,(ha a h).1,by have:=a3 a h; omega⟩⟩
def Jh (x:Cw) (m:Bc):Prop:=Je x.Data x.Vars x.Res m=true/\MSz m
theorem Jh.cmo {x:Cw} {m:Bc} (h:Jh x m):CMo m:=Avr h.1 h.2
structure Ip (x:Cw) (p:List Ai):Prop where
 can:Il x.Data x.Vars x.Res p=true
 sz:∀t∈p,TSz t
theorem Ip.cp {x:Cw} {p:List Ai} (h:Ip x p):CP p:=(Us.1 h.can).2.1
theorem Ip.mo {x:Cw} {p:List Ai} (h:Ip x p):∀t∈p,Jh x t.Mono:=fun t ht=>⟨(Us.1 h.can).2.2 t ht,(h.sz t ht).mo⟩
theorem Ip.of {x:Cw} {p:List Ai} (hc:CP p) (b:∀t∈p,Jh x t.Mono) (c:∀t∈p,RB 1048576 t.Coef) (f:p.length<=1000):Ip x p :=
 ⟨Us.2 ⟨f,hc,fun t ht=>(b t ht).1⟩,fun t ht=>⟨c t ht,(b t ht).2⟩⟩
theorem Ip.tb {x:Cw} {p:List Ai} (h:Ip x p):∀t∈p,RB 1048576 t.Coef/\Jh x t.Mono:=fun t ht=>⟨(h.sz t ht).co,h.mo t ht⟩
end Go.Ab
namespace Go.Ab
open Go
end Go.Ab
namespace Go.Ab
open Go
def bc:Nat->Nat->Nat
 | _,0=>1
 | 0,_+1=>0
 | n+1,k+1=>bc n k+bc n (k+1)
theorem Iq (n:Nat):bc n 0=1:=by cases n <;> rfl
theorem Adm:∀{n k:Nat},n<k->Fc n k=0
 | n,0,h=>absurd h (by omega)
 | n,k+1,h=>by
  rw [Fc]
  by_cases e:n<k
  .rw [Adm e,Nat.zero_mul]
  .rw [show n-k=0 by omega,Nat.mul_zero]
theorem Ak5 (n:Nat):∀k,Fc (n+1) (k+1)=(n+1)*Fc n k
 | 0=>by simp [Fc]
 | k+1=>by
  rw [Fc,Ak5 n k,Fc,show n+1-(k+1)=n-k by omega,Nat.mul_assoc]
theorem U1:∀n k,Fc n k=fct k*bc n k
 | n,0=>by rw [Iq]; rfl
 | 0,k+1=>by rw [Adm (by omega)]; simp [bc]
 | n+1,k+1=>by
  have h1:=U1 n (k+1)
  have h2:=U1 n k
  rw [Ak5,bc,Nat.mul_add,<-h1,fct,Fc,Nat.mul_right_comm,<-h2]
  by_cases e:k<=n
  .rw [<-Nat.mul_add,Nat.mul_comm,show k+1+(n-k)=n+1 by omega]
  .rw [Adm (by omega)]; simp
theorem Rv:∀n k,bc n k<=2 ^ n
 | n,0=>by rw [Iq]; exact Nat.one_le_two_pow
 | 0,k+1=>by simp [bc]
 | n+1,k+1=>by
  have h1:=Rv n (k+1)
  have h2:=Rv n k
  rw [bc,Nat.pow_succ]; omega
theorem Avs (n k:Nat):Ba (bc n k)<=n+1:=by
 refine I7 (Nat.lt_of_le_of_lt (Rv n k) ?_)
 refine Nat.lt_of_le_of_lt (Nat.pow_le_pow_left (by decide:2<=1000000000) n) ?_
 exact Nat.pow_lt_pow_right (by decide) (by omega)
def cR (n:Nat):Ak:=Bg false n 1
theorem Adn (n:Nat):sv (cR n)=false/\nv (cR n)=n/\dv (cR n)=1:=by
 obtain ⟨g,f,c,b⟩:=X1 false n 1 (by decide)
 refine ⟨?_,?_,?_⟩
 .by_cases h:n=0
  .exact b h
  .exact c h
 .unfold cR; rw [g]; simp
 .unfold cR; rw [f]; simp
theorem Rw {n k:Nat} (h:Ba n<=k) (hk:1<=k):RB k (cR n):=Kq _ _ _ _ h (by rw [Lc]; exact hk) hk
theorem Yy:Eo 0=some (cR 0):=T9 0 (by decide) (by decide)
theorem Yz:Eo 1=some (cR 1):=T9 1 (by decide) (by decide)
theorem Ak6 (n k:Nat) (b:n<1000000000) (hk:k<=64):Kc (n:Int) (k:Int)=some (cR (bc n k),true):=by
 unfold Kc
 have e:(if (n:Int)>0 then (n:Int) else 0)=(n:Int):=by split <;> omega
 simp only [Av (by omega:¬(k:Int)<0),cond_false,Av (by omega:¬(k:Int)>64),Ad,e,Aci n k b hk]
 rw [U1,show Bg false (fct k*bc n k) (fct k)=Bg false (fct k*bc n k) (fct k*1) by rw [Nat.mul_one],L0 _ _ _ _ (Ud k)]
 rfl
theorem Avt (n k:Nat) (b:n<1000000000) (hk:k<=64):Kc (n:Int) (k:Int)=some (cR (bc n k),true):=Ak6 n k b hk
end Go.Ab
namespace Go.Ab
open Go
end Go.Ab
namespace Go.Ab
open Go
end Go.Ab
namespace Go.Ab
open Go
structure Asc (b:List Int) (n:Nat) (l:List Int):Prop where
 up:l.Pairwise (· < ·)
 mem:∀y,y∈l↔y∈b.take n
theorem Avu {b:List Int} (f:b.Pairwise (·<=·)) {q:Nat} {p:Int} (hp:b[q]? = some p):∀y∈b.take (q+1),y<=p:=by
 intro y hy
 obtain ⟨i,c⟩:=List.getElem?_of_mem hy
 rw [List.getElem?_take] at c
 split at c
 .rename_i g
  by_cases e:i=q
  .subst e; rw [c] at hp; cases hp; exact Int.le_refl _
  .have h1:=E2 c
   have h2:=E2 hp
   have:=(List.pairwise_iff_getElem.1 f) i q h1 h2 (by omega)
   rw [Ci h1] at c
   rw [Ci h2] at hp
   cases c; cases hp; exact this
 .cases c
theorem Asc.step {b:List Int} (g:b.Pairwise (·<=·)) {q:Nat} {l:List Int} {p x:Int} (h:Asc b (q+1) l) (hp:b[q]? = some p) (hx:b[q+1]? = some x) (j:x≠p):Asc b (q+2) (l++[x]):=by
 have f:=Avu g hp
 have i:p<x:=by
  have h1:=E2 hp
  have h2:=E2 hx
  have:=(List.pairwise_iff_getElem.1 g) q (q+1) h1 h2 (by omega)
  rw [Ci h1] at hp
  rw [Ci h2] at hx
  cases hp; cases hx; omega
 refine ⟨?_,fun y=>?_⟩
 .rw [List.pairwise_append]
  refine ⟨h.up,by simp,fun a ha c hc=>?_⟩
  rw [List.mem_singleton] at hc
  subst hc
  have:=f a ((h.mem a).1 ha)
  omega
 .rw [Dy hx,List.mem_append,List.mem_append,h.mem y]
theorem Asc.same {b:List Int} {q:Nat} {l:List Int} {x:Int} (h:Asc b (q+1) l) (hp:b[q]? = some x) (hx:b[q+1]? = some x):Asc b (q+2) l:=by
 refine ⟨h.up,fun y=>?_⟩
 rw [Dy hx,List.mem_append,h.mem y]
 constructor
 .exact .inl
 .rintro (h1 | h1)
  .exact h1
  .rw [List.mem_singleton] at h1
   subst h1
   rw [Dy hp]; simp
end Go.Ab
namespace Go.Ab
open Go
end Go.Ab
namespace Go.Ab
open Go
end Go.Ab
namespace Go.Ab
open Go
end Go.Ab
namespace Go.Ab
open Go
end Go.Ab
namespace Go.Ab
open Go
end Go.Ab
namespace Go.Ab
open Go
end Go.Ab
namespace Go.Ab
open Go
end Go.Ab
namespace Go.Ab
open Go
end Go.Ab
namespace Go.Ab
open Go
end Go.Ab
namespace Go.Ab
open Go
end Go.Ab
namespace Go.Ab
open Go
end Go.Ab
namespace Go.Ab
open Go
end Go.Ab
namespace Go.Ab
open Go
end Go.Ab
namespace Go.Ab
open Go
structure PSt (K:Nat) (n:Nat) (b:List Ai):Prop where
 le:n<=b.length
 cp:CP (b.take n)
 tm:∀t∈b.take n,RB K t.Coef/\MSz t.Mono
end Go.Ab
namespace Go.Ab
open Go
theorem PSt.mono {K c n:Nat} {b:List Ai} (h:PSt K n b) (f:K<=c):PSt c n b:=⟨h.le,h.cp,fun t ht=>⟨((h.tm t ht).1).mono f,(h.tm t ht).2⟩⟩
end Go.Ab
namespace Go.Ab
open Go
end Go.Ab
namespace Go.Ab
open Go
theorem CP.dst {p:List Ai} (h:CP p):Dst p:=h.srt.imp fun {a b} hab e=>by
 unfold ltT at hab
 rw [Kv.2 e] at hab; omega
end Go.Ab
namespace Go.Ab
open Go
theorem Ak7:Mo (fun t u:Ai=>Cz t.Mono u.Mono) where
 irr x:=by
  show ¬Cz x.Mono x.Mono<0
  rw [Akg]; omega
 trs x y z h1 h2:=Ru h1 h2
 ntr x y z h1 h2:=by
  show ¬Cz x.Mono z.Mono<0
  have h1:¬Cz x.Mono y.Mono<0:=h1
  have h2:¬Cz y.Mono z.Mono<0:=h2
  intro h3
  rcases Int.lt_trichotomy (Cz x.Mono y.Mono) 0 with k | k | k
  .exact h1 k
  .rw [Kv.1 k] at h3; exact h2 h3
  .exact h2 (Ru (Ac8.1 k) h3)
def Y0 (b:List Ai):List Ai:=b.mergeSort fun t u=>decide (Cz t.Mono u.Mono<=0)
theorem Ak8 (b:List Ai):(Y0 b).Perm b:=List.mergeSort_perm _ _
theorem Avv (f:List Ai) (hd:Dst f):(Y0 f).Pairwise ltT:=by
 have h1:=List.pairwise_mergeSort (le:=fun t u:Ai=>decide (Cz t.Mono u.Mono<=0)) (fun a b c h1 h2=>by
  simp only [decide_eq_true_eq] at *
  have:=Ak7.ntr c b a (by show ¬Cz _ _<0; rw [Rt]; omega) (by show ¬Cz _ _<0; rw [Rt]; omega)
  have this:¬Cz c.Mono a.Mono<0:=this
  rw [Rt] at this; omega) (fun a b=>by
  simp only [Bool.or_eq_true,decide_eq_true_eq]
  rw [Rt a.Mono b.Mono]; omega) f
 have h2:(Y0 f).Pairwise fun t u=>t.Mono≠u.Mono:=((Ak8 f).pairwise_iff (fun {x y} h=>h.symm)).2 hd
 refine (h1.and h2).imp fun {t u} h=>?_
 have a:=of_decide_eq_true h.1
 have b:Cz t.Mono u.Mono≠0:=fun e=>h.2 (Kv.1 e)
 unfold ltT; omega
theorem Avw (b:List Ai) (hd:Dst b) (f:∀t∈b,MSz t.Mono):∃R,Lv b=some R/\R.Perm b/\R.Pairwise ltT:=by
 rcases Nat.lt_or_ge 12 b.length with h | h
 .have e:Nat.ble b.length 12=false:=by
   cases k:Nat.ble b.length 12 with
   | false=>rfl
   | true=>have:=Nat.le_of_ble_eq_true k; omega
  unfold Lv
  rw [e,cond_false]
  obtain ⟨r,g,j,law,hc,hp,i⟩:=Apx (cmp:=Lw) (l:=b) (r:=Y0 b) ⟨_,Ak7,fun x hx y _=>Adl x y (f x hx),Ak8 b,Avv b hd⟩
  refine ⟨r,g,hp,?_⟩
  refine (List.Pairwise.imp_of_mem (S:=ltT) (fun {t u} ht hu h=>?_) i)
  have c:=hc t (hp.mem_iff.1 ht) u (hp.mem_iff.1 hu)
  rw [Adl t u (f t (hp.mem_iff.1 ht))] at c
  have c:=Option.some.inj c
  unfold ltT; rw [c]; exact h
 .exact Avi b hd f h
end Go.Ab
namespace Go.Ab
open Go
theorem Avx {x:Cw} (i:CSz x) {ps:List (List Ai)} (c:∀p∈ps,∀t∈p,TSz t) (k:ps.length<=1048576) (h:Jf x/\∀p∈ps,Il x.Data x.Vars x.Res p=true):∃b,Lr x ps=some (.inl (true,x,b,[],x.Data,x.Vars,x.Res.Kind,x.Res.Num,x.Res.Args))/\Dj x.Data x.Vars x.Res b:=by
 obtain ⟨r,g,f⟩:=Avq x i ps c k
 rcases f with ⟨_,b,e,j⟩ | ⟨h2,_⟩
 .exact ⟨b,by rw [g,e],j⟩
 .exact (h2 h).elim
structure PR (x:Cw) (n:Nat) (f:Bc->Rat) (R:List Ai):Prop where
 cp:CP R
 val:∀m,cf R m=f m
 tb:∀t∈R,Jh x t.Mono/\RB 8589934592 t.Coef
 len:R.length<=n
theorem PR.of {x:Cw} {n m:Nat} {f g:Bc->Rat} {R:List Ai} (h:PR x n f R) (b:n<=m) (c:∀a,f a=g a):PR x m g R :=
 ⟨h.cp,fun a=>by rw [h.val,c],h.tb,Nat.le_trans h.len b⟩
theorem Ip.nil (x:Cw):Ip x []:=⟨Us.2 ⟨by simp,CP.nil,fun t ht=>by cases ht⟩,fun t ht=>by cases ht⟩
end Go.Ab
namespace Go.Ab
open Go
theorem Ado:∀n k,bc n k<=n ^ k
 | n,0=>by rw [Iq]; exact Nat.le_refl _
 | 0,k+1=>by simp [bc]
 | n+1,k+1=>by
  have h1:=Ado n k
  have h2:=Ado n (k+1)
  have h3:n ^ k<=(n+1) ^ k:=Nat.pow_le_pow_left (by omega) k
  have b:n ^ (k+1)<=n*(n+1) ^ k:=by rw [Nat.pow_succ,Nat.mul_comm]; exact Nat.mul_le_mul_left _ h3
  rw [bc,Nat.pow_succ,Nat.mul_add,Nat.mul_one,Nat.mul_comm]; omega
end Go.Ab
namespace Go.Ab
open Go
def Sm (a:Nat):Prop:=a<=5000 ^ 6
theorem Sm.of {a d:Nat} (h:a<=5000 ^ d) (hd:d<=6):Sm a:=Nat.le_trans h (Nat.pow_le_pow_right (by decide) hd)
end Go.Ab
namespace Go.Ab
open Go
theorem Avy (s:Bool) (n:Nat):sg (!s) n = - sg s n:=by
 unfold sg; cases s <;> simp
theorem Adp (z:Int):mkRat z 1=(z:Rat):=by
 rw [Rat.mkRat_eq_div,show ((1:Nat):Rat)=1 from rfl]; grind
theorem Ak9 (z:Int) (h1 : -9223372036854775808<=z) (h2:z<=9223372036854775807):∃r,Eo z=some r/\H5 z=some r/\RB 3 r/\Ha r/\rq r=(z:Rat):=by
 have b:Ba z.natAbs<=3:=Nb (n:=z.natAbs) (by omega)
 refine ⟨_,T9 z h1 h2,Ar7 z h1 h2,Kq _ _ _ _ b (by rw [Lc]; decide) (by decide),Nk _ _ _ (by decide),?_⟩
 rw [Jz _ _ _ (by decide),Adp]
 congr 1
 unfold sg
 by_cases h:z<0
 .rw [Ao h,if_pos rfl]; omega
 .rw [Av h,if_neg (by decide)]; omega
theorem Nn (n:Nat):rq (cR n)=(n:Rat):=by
 unfold cR
 rw [Jz _ _ _ (by decide),Adp]; rfl
end Go.Ab
namespace Go.Ab
open Go
end Go.Ab
namespace Go.Ab
open Go
end Go.Ab
namespace Go.Ab
open Go
end Go.Ab
namespace Go.Ab
open Go
theorem Avz {a b:Ak} {j k:Nat} (ha:RB j a) (hb:RB k b) (q:j<34359737000) (hk:k<34359737000):∃c,Sw a b=some c/\RB (j+k+4) c/\Ha c/\rq c=rq a-rq b:=by
 have e:=Ar6 b k hb (by omega)
 have f:RB (k+1) (Bg (!sv b) (nv b) (dv b)):=Kq _ _ _ _ hb.nv hb.dv (by omega)
 obtain ⟨c,_,l,i,h,g⟩:=Yl ha f (by omega) (by omega)
 refine ⟨c,?_,i.mono (by omega),h,?_⟩
 .unfold Sw
  rw [e,Ad,l]; rfl
 .rw [g,Jz _ _ _ (D8 _),Avy,show rq b=mkRat (sg (sv b) (nv b)) (dv b) from rfl,<-Rat.neg_mkRat]; grind
theorem Av0 {a b:Ak} {j k:Nat} (ha:RB j a) (hb:RB k b) (i:j<17179868000) (hk:k<17179868000):P4 a b=some (L9 (rq a-rq b)):=by
 obtain ⟨c,h,g,l,f⟩:=Avz ha hb (by omega) (by omega)
 unfold P4
 rw [h,Ad,(Yn g (by omega)).2,f]; rfl
end Go.Ab
namespace Go.Ab
open Go
def sm:Nat->(Nat->Nat)->Nat
 | 0,_=>0
 | n+1,f=>sm n f+f n
theorem Y1 {f g:Nat->Nat}:∀{n:Nat},(∀k,k<n->f k=g k)->sm n f=sm n g
 | 0,_=>rfl
 | n+1,h=>by rw [sm,sm,Y1 (n:=n) fun k hk=>h k (by omega),h n (by omega)]
theorem U2 (f g:Nat->Nat):∀n,sm n (fun k=>f k+g k)=sm n f+sm n g
 | 0=>rfl
 | n+1=>by simp only [sm,U2 f g n]; omega
theorem Ala (c:Nat) (f:Nat->Nat):∀n,sm n (fun k=>c*f k)=c*sm n f
 | 0=>rfl
 | n+1=>by simp only [sm,Ala c f n,Nat.mul_add]
theorem U3 {f:Nat->Nat}:∀{n:Nat},(∀k,k<n->f k=0)->sm n f=0
 | 0,_=>rfl
 | n+1,h=>by rw [sm,U3 (n:=n) fun k hk=>h k (by omega),h n (by omega)]
theorem Adq (f:Nat->Nat):∀n,sm (n+1) f=f 0+sm n (fun k=>f (k+1))
 | 0=>by simp [sm]
 | n+1=>by rw [sm,Adq f n,sm]; omega
theorem Alb {f:Nat->Nat} {n k:Nat} (hk:k<n) (b:∀j,j≠k->f j=0):sm n f=f k:=by
 induction n with
 | zero=>omega
 | succ n ih=>
  rw [sm]
  by_cases e:k=n
  .subst e
   rw [U3 fun j c=>b j (by omega),Nat.zero_add]
  .rw [ih (by omega),b n (by omega),Nat.add_zero]
theorem Rx:∀n,bc n n=1
 | 0=>rfl
 | n+1=>by
  rw [bc,Rx n]
  have:bc n (n+1)=0:=by have:=bc_big2 n (n+1) (by omega); exact this
  omega
where bc_big2:∀n k,n<k->bc n k=0
 | n,0,h=>absurd h (by omega)
 | 0,k+1,_=>rfl
 | n+1,k+1,h=>by rw [bc,bc_big2 n k (by omega),bc_big2 n (k+1) (by omega)]
theorem U4 {n k:Nat} (h:n<k):bc n k=0:=Rx.bc_big2 n k h
theorem Ry (n k:Nat):bc (n+1) (k+1)=bc n k+bc n (k+1):=by rw [bc]
def Rc (a b k:Nat):Nat:=if b<=k then bc k a*bc a (k-b) else 0
theorem Alc {a b k:Nat} (h:a+b<k):Rc a b k=0:=by
 unfold Rc
 rw [if_pos (by omega),U4 (show a<k-b by omega),Nat.mul_zero]
theorem Av1 {a b k:Nat} (h:k<a):Rc a b k=0:=by
 unfold Rc
 split
 .rw [U4 h,Nat.zero_mul]
 .rfl
theorem Ald (b k:Nat):Rc 0 b k=if k=b then 1 else 0:=by
 unfold Rc
 by_cases h:k=b
 .subst h; rw [if_pos (Nat.le_refl _),if_pos rfl,Nat.sub_self,Iq,Iq]
 .rw [if_neg h]
  split
  .rw [U4 (show 0<k-b by omega),Nat.mul_zero]
  .rfl
theorem Ale (a k:Nat):Rc a 0 k=if k=a then 1 else 0:=by
 unfold Rc
 rw [if_pos (Nat.zero_le _),Nat.sub_zero]
 by_cases h:k=a
 .subst h; rw [if_pos rfl,Rx]
 .rw [if_neg h]
  rcases Nat.lt_or_ge k a with h2 | h2
  .rw [U4 h2,Nat.zero_mul]
  .rw [U4 (show a<k by omega),Nat.mul_zero]
theorem Av2 (a b k:Nat):Rc (a+1) (b+1) (k+1)=Rc a (b+1) k+Rc (a+1) b k+Rc a b k:=by
 unfold Rc
 by_cases h:b<=k
 .rw [if_pos (by omega),if_pos h,if_pos h,show k+1-(b+1)=k-b by omega,Ry]
  by_cases h2:b+1<=k
  .rw [if_pos h2]
   obtain ⟨j,c⟩:∃j,k-b=j+1:=⟨k-b-1,by omega⟩
   rw [c,show k-(b+1)=j by omega,Ry]
   simp only [Nat.add_mul,Nat.mul_add]; omega
  .rw [if_neg h2,show k-b=0 by omega,Iq,Iq]; omega
 .rw [if_neg (by omega),if_neg h,if_neg h,if_neg (by omega)]
theorem Av3 (a b:Nat):Rc (a+1) (b+1) 0=0:=by
 unfold Rc; rw [if_neg (by omega)]
theorem Av4 (f:Nat->Nat) (n N:Nat):sm (N+1) (fun k=>f k*bc (n+1) k)=sm (N+1) (fun k=>f k*bc n k)+sm N (fun k=>f (k+1)*bc n k):=by
 rw [Adq,Adq (fun k=>f k*bc n k),Iq,Iq]
 have:sm N (fun k=>f (k+1)*bc (n+1) (k+1))=sm N (fun k=>f (k+1)*bc n (k+1))+sm N (fun k=>f (k+1)*bc n k):=by
  rw [<-U2]
  exact Y1 fun k _=>by rw [Ry,Nat.mul_add]; omega
 rw [this]; omega
theorem U5:∀(n a b N:Nat),a+b<N->sm N (fun k=>Rc a b k*bc n k)=bc n a*bc n b
 | n,0,b,N,h=>by
  rw [Iq,Nat.one_mul,Alb (k:=b) (by omega) fun j c=>by rw [Ald,if_neg c,Nat.zero_mul],Ald,if_pos rfl,Nat.one_mul]
 | n,a+1,0,N,h=>by
  rw [Iq,Nat.mul_one,Alb (k:=a+1) (by omega) fun j c=>by rw [Ale,if_neg c,Nat.zero_mul],Ale,if_pos rfl,Nat.one_mul]
 | 0,a+1,b+1,N,h=>by
  rw [show bc 0 (a+1)=0 from rfl,Nat.zero_mul]
  refine U3 fun k _=>?_
  cases k with
  | zero=>rw [Av3,Nat.zero_mul]
  | succ k=>rw [show bc 0 (k+1)=0 from rfl,Nat.mul_zero]
 | n+1,a+1,b+1,N,h=>by
  obtain ⟨N,rfl⟩:∃M,N=M+1:=⟨N-1,by omega⟩
  rw [Av4,U5 n (a+1) (b+1) (N+1) h]
  have h1:=U5 n a (b+1) N (by omega)
  have h2:=U5 n (a+1) b N (by omega)
  have h3:=U5 n a b N (by omega)
  have f:sm N (fun k=>Rc (a+1) (b+1) (k+1)*bc n k)=sm N (fun k=>Rc a (b+1) k*bc n k)+sm N (fun k=>Rc (a+1) b k*bc n k)+sm N (fun k=>Rc a b k*bc n k):=by
   rw [<-U2,<-U2]
   exact Y1 fun k _=>by rw [Av2,Nat.add_mul,Nat.add_mul]
  rw [f,h1,h2,h3,Ry,Ry,Nat.add_mul,Nat.mul_add,Nat.mul_add]; omega
end Go.Ab
namespace Go.Ab
open Go
noncomputable def Rz {α:Type} (cmp:α->α->Option Int) (a0:Int):Int×List α->Option ((Int×List α)⊕(Int×List α)):=fun (v31,b)=>
 (show Option Bool from
 bif (decide (v31>a0)) then (
 (Af b v31).bind fun v33=>
 (Af b (Ac (v31-1))).bind fun g=>
 (cmp v33 g).bind fun v35=>
 some (decide (v35<(0:Int))))
 else some false).bind fun f=>
 bif f then (
 (Af b (Ac (v31-1))).bind fun v37=>
 (Af b v31).bind fun c=>
 (Af b v31).bind fun v39=>
 (Af (Cl b v31 v37) (Ac (v31-1))).bind fun v40=>
 some (.inl ((Ac (v31-1)),(Cl (Cl b v31 v37) (Ac (v31-1)) c))))
 else some (.inr (v31,b))
noncomputable def Y2 {α:Type} (cmp:α->α->Option Int) (a0 a1:Int) (g:List α):Option (List α) :=
 (Al (S:=(Int×(List α))) (E:=(List α)) (fun (v21,b)=>
 bif (decide (v21<a1)) then (
 (Al (Rz cmp a0) (v21,b)).bind fun (v41,f)=>
 some (.inl ((Ac (v21+1)),f))
 )
 else (
 some (.inr b)
 )
  ) ((Ac (a0+1)),g)).bind fun c=>
 some c
theorem Av5 {α:Type} (A R:List α) (x y:α):((A++y::x::R).set (A.length+1) y).set A.length x=A++x::y::R:=by
 induction A with
 | nil=>rfl
 | cons a A ih=>simp only [List.cons_append,List.length_cons,List.set_cons_succ,ih]
theorem Alf {α:Type} (A R:List α) (x:α):(A++x::R)[A.length]? = some x:=by simp
theorem Av6 {α:Type} (A R:List α) (x y:α):(A++y::x::R)[A.length+1]? = some x:=by
 induction A with
 | nil=>rfl
 | cons a A ih=>simp
theorem Av7 {α:Type} (cmp:α->α->Option Int) (y:α) (R:List α):Rz cmp 0 (0,y::R)=some (.inr (0,y::R)):=by
 unfold Rz
 simp only [Av (by omega:¬(0:Int)>0),cond_false,Ad]
theorem Av8 {α:Type} {cmp:α->α->Option Int} {c:α->α->Int} {N:Nat} (i:N<=1099511627776) (A R:List α) (u y:α) (b:cmp u y=some (c u y)) (f:(A++y::u::R).length<=N):Rz cmp 0 (((A.length+1:Nat):Int),A++y::u::R) =
  if c u y<0 then some (.inl ((A.length:Int),A++u::y::R)) else some (.inr (((A.length+1:Nat):Int),A++y::u::R)):=by
 have h:A.length+1<N:=by simp at f; omega
 have g:Ac (((A.length+1:Nat):Int)-1)=(A.length:Int):=by rw [Ac,Bu] <;> omega
 unfold Rz
 simp only [Ao (by omega:((A.length+1:Nat):Int)>0),cond_true,g,Ch (n:=A.length+1) rfl (Av6 A R u y),Ch (n:=A.length) rfl (Alf A (u::R) y),Ad,b]
 by_cases hc:c u y<0
 .rw [Ao hc,if_pos hc]
  simp only [cond_true]
  rw [E7 (n:=A.length+1) rfl,E7 (n:=A.length) rfl,Av5]
  have:Af ((A++y::u::R).set (A.length+1) y) (A.length:Int)=some y:=by
   refine Ch rfl ?_
   rw [List.getElem?_set_ne (by omega)]; exact Alf A (u::R) y
  rw [this]; rfl
 .rw [Av hc,if_neg hc]; rfl
theorem Av9 {α:Type} {cmp:α->α->Option Int} {c:α->α->Int} {N:Nat} (s:N<=1099511627776) :
  ∀(n:Nat) (A R:List α) (x:α),A.length=n->(∀t∈A,cmp x t=some (c x t))->(A++x::R).length<=N ->
   ∃f i,Al (Rz cmp 0) ((A.length:Int),A++x::R)=some ((f.length:Int),f++x::(i++R))/\A=f++i/\(∀a∈i,c x a<0)/\∀k y,f=k++[y]->¬c x y<0:=by
 intro n
 induction n with
 | zero=>
  intro A R x g _ _
  have:A = []:=List.length_eq_zero_iff.1 g
  subst this
  exact ⟨[],[],Eh (Av7 cmp x R),rfl,(fun _ h=>by cases h),(fun k y h=>by simp at h)⟩
 | succ n ih=>
  intro A R x g l b
  obtain ⟨B,y,rfl⟩:∃B y,A=B++[y]:=by
   rcases List.eq_nil_or_concat A with h | ⟨B,y,h⟩
   .rw [h] at g; cases g
   .exact ⟨B,y,by simpa using h⟩
  have u:B.length=n:=by simpa using g
  have E:(B++[y])++x::R=B++y::x::R:=by simp
  have el:(((B++[y]).length:Nat):Int)=((B.length+1:Nat):Int):=by simp
  rw [E] at b ⊢
  rw [el]
  have j:=Av8 (cmp:=cmp) (c:=c) s B R x y (l y (by simp)) b
  by_cases hc:c x y<0
  .rw [if_pos hc] at j
   obtain ⟨f,i,h1,h2,h3,D⟩:=ih B (y::R) x u (fun t ht=>l t (by simp [ht])) (by simpa using b)
   refine ⟨f,i++[y],?_,by rw [h2]; simp,?_,D⟩
   .rw [Iw j,h1]; simp
   .intro a ha
    rcases List.mem_append.1 ha with ha | ha
    .exact h3 a ha
    .simp only [List.mem_singleton] at ha
     subst ha; exact hc
  .rw [if_neg hc] at j
   refine ⟨B++[y],[],?_,by simp,(fun _ h=>by cases h),?_⟩
   .rw [Eh j]; simp
   .intro k z q
    have:=List.append_inj' q rfl
    have e:y=z:=by simpa using this.2
    subst e; exact hc
theorem Awa {α:Type} {c:α->α->Int} (L:Mo c) {f j:List α} {x:α} (s:(f++j).Pairwise (fun a b=>¬c b a<0)) (h2:∀a∈j,c x a<0) (h1:∀g y,f=g++[y]->¬c x y<0):(f++x::j).Pairwise (fun a b=>¬c b a<0):=by
 obtain ⟨i,l,k⟩:=List.pairwise_append.1 s
 have hx:∀a∈f,¬c x a<0:=by
  intro a ha
  rcases List.eq_nil_or_concat f with h | ⟨g,y,h⟩
  .rw [h] at ha; cases ha
  .have h:f=g++[y]:=by simpa using h
   have q:=h1 g y h
   rw [h] at ha i
   rcases List.mem_append.1 ha with ha | ha
   .exact L.ntr x y a q ((List.pairwise_append.1 i).2.2 a ha y (by simp))
   .simp only [List.mem_singleton] at ha
    subst ha; exact q
 refine List.pairwise_append.2 ⟨i,List.pairwise_cons.2 ⟨fun a ha h=>L.irr x (L.trs x a x (h2 a ha) h),l⟩,fun a ha b hb=>?_⟩
 rcases List.mem_cons.1 hb with rfl | hb
 .exact hx a ha
 .exact k a ha b hb
theorem Awb {α:Type} {cmp:α->α->Option Int} {c:α->α->Int} (L:Mo c) (f:List α) (A:∀x∈f,∀y∈f,cmp x y=some (c x y)) (J:f.length<=1099511627776) :
  ∃R,Y2 cmp 0 (f.length:Int) f=some R/\R.Perm f/\R.Pairwise (fun a b=>¬c b a<0):=by
 unfold Y2
 cases f with
 | nil=>
  refine ⟨[],?_,List.Perm.refl _,List.Pairwise.nil⟩
  refine Hv 0 (fun _=>((1:Int),([]:List α))) (by simp [Ac,Bu]) (fun j M=>by omega) ⟨[],?_,rfl⟩
  simp
 | cons z0 B=>
 generalize k:z0::B=f at *
 have hpos:1<=f.length:=by rw [<-k]; simp
 refine D6 (fun s=>∃(i:Nat) (S:List α),s=((i:Int),S++f.drop i)/\1<=i/\i<=f.length/\S.length=i/\S.Perm (f.take i)/\S.Pairwise (fun a b=>¬c b a<0)) (fun s=>f.length-s.1.toNat)
  (fun R=>R.Perm f/\R.Pairwise (fun a b=>¬c b a<0)) ⟨1,[z0],by rw [<-k]; simp [Ac,Bu],by omega,hpos,rfl,by rw [<-k]; simp,List.pairwise_singleton _ _⟩ ?_ ?_
 .rintro _ ⟨i,S,rfl,G,U,E,g,l⟩
  rcases Nat.lt_or_ge i f.length with h | h
  .have hx:f[i]? = some f[i]:=Ci h
   have hxm:f[i]∈f:=List.getElem_mem h
   generalize f[i]=x at hx hxm
   have D:f.drop i=x::f.drop (i+1):=Lg hx
   have z:(S++x::f.drop (i+1)).length=f.length:=by simp; omega
   simp only [Ao (by omega:(i:Int)<(f.length:Int)),cond_true,C9 h (by omega)]
   rw [D]
   left
   obtain ⟨u,q,h1,h2,h3,I⟩:=Av9 (cmp:=cmp) (c:=c) (N:=f.length) (by omega) S.length S (f.drop (i+1)) x rfl (fun t ht=>A x hxm t (List.mem_of_mem_take (g.mem_iff.1 ht))) (by rw [z]; exact Nat.le_refl _)
   rw [E] at h1
   have hp:(u++x::q).Perm (f.take (i+1)):=by
    rw [Dy hx]
    have:(u++x::q).Perm ((u++q)++[x]):=by
     rw [List.append_assoc]
     exact List.Perm.append_left u (List.perm_append_singleton x q).symm
    exact this.trans (by rw [<-h2]; exact g.append_right [x])
   refine ⟨(((i+1:Nat):Int),(u++x::q)++f.drop (i+1)),bnd h1 (by simp),⟨i+1,u++x::q,rfl,by omega,by omega,?_,hp,?_⟩,by simp; omega⟩
   .rw [hp.length_eq,List.length_take]; omega
   .rw [h2] at l
    exact Awa L l h3 I
  .have:i=f.length:=by omega
   subst this
   rw [List.take_length] at g
   simp only [Av (by omega:¬(f.length:Int)<(f.length:Int)),cond_false,List.drop_length,List.append_nil]
   exact .inr ⟨S,rfl,g,l⟩
 .rintro R ⟨h1,h2⟩
  exact ⟨R,rfl,h1,h2⟩
noncomputable def Alg {α:Type} (B:Nat) (gr:Int->Option (List α)) (a0:List (List α)):Option (List α) :=
 (Al (S:=(Int×Int)) (E:=Int) (fun (v2,v3)=>
 bif (decide (v3<(a0.length:Int))) then (
 (Af a0 v3).bind fun v4=>
 bif (decide ((Ac (v2+(v4.length:Int)))<(0:Int))) then (
 none
 )
 else (
 some (.inl ((Ac (v2+(v4.length:Int))),(Ac (v3+1))))
 )
 )
 else (
 some (.inr v2)
 )
  ) (0,0)).bind fun v5=>
 (gr v5).bind fun i=>
 (Al (S:=(Int×(List α))) (E:=(List α)) (fun (b,c)=>
 bif (decide (b<(a0.length:Int))) then (
 (Af a0 b).bind fun f=>
 (B4 B c f).bind fun h=>
 some (.inl ((Ac (b+1)),h))
 )
 else (
 some (.inr c)
 )
  ) (0,i)).bind fun g=>
 some g
theorem Alh {α:Type} {B:Nat} (g:B<=1024) {gr:Int->Option (List α)} (q:∀n:Nat,n<=1000000->gr (n:Int)=some []) (a b:List α) (h:a.length+b.length<=1000000):Alg B gr [a,b]=some (a++b):=by
 have m1:a.length*B<=1000000*1024:=Nat.mul_le_mul (by omega) g
 have m2:(a.length+b.length)*B<=1000000*1024:=Nat.mul_le_mul h g
 have f:Ac 1=1:=by rw [Ac,Bu] <;> omega
 have c:Ac 2=2:=by rw [Ac,Bu] <;> omega
 have k:Ac (a.length:Int)=(a.length:Int):=by rw [Ac,Bu] <;> omega
 have i:Ac ((a.length:Int)+(b.length:Int))=((a.length:Int)+(b.length:Int)):=by rw [Ac,Bu] <;> omega
 have i0:Af [a,b] 0=some a:=rfl
 have i1:Af [a,b] 1=some b:=rfl
 have u:B4 B [] a=some a:=by rw [Dp (by simp; omega)]; rfl
 have s:B4 B a b=some (a++b):=Dp (by omega)
 unfold Alg
 refine Hv 2 (fun j=>if j=0 then (0,0) else if j=1 then ((a.length:Int),1) else (((a.length+b.length:Nat):Int),2)) rfl ?_ ⟨((a.length+b.length:Nat):Int),?_,?_⟩
 .intro j l
  rcases (by omega:j=0\/j=1) with rfl | rfl
  .have:¬((a.length:Int)<0):=by omega
   simp [i0,k,f,this]
  .have:¬((a.length:Int)+(b.length:Int)<0):=by omega
   simp [i1,i,c,this]
 .simp
 .rw [q _ h,Ad]
  refine Hv 2 (fun j=>if j=0 then (0,[]) else if j=1 then (1,a) else (2,a++b)) rfl ?_ ⟨a++b,?_,rfl⟩
  .intro j l
   rcases (by omega:j=0\/j=1) with rfl | rfl
   .simp [i0,f,u]
   .simp [i1,c,s]
  .simp
end Go.Ab
namespace Go.Ab
open Go
def Big:Nat:=1000000000 ^ 100
structure Np (x:Ak) (a:Nat):Prop where
 rb:RB 200 x
 s:sv x=false
 n:nv x=a
 d:dv x=1
theorem Adr {a:Nat} (h:a<Big):Ba a<=100:=I7 h
theorem Np.cR {a:Nat} (h:Ba a<=200):Np (cR a) a:=⟨Rw h (by decide),(Adn a).1,(Adn a).2.1,(Adn a).2.2⟩
theorem Np.c {a:Nat} (h:a<Big):Np (Ab.cR a) a:=Np.cR (by have:=Adr h; omega)
theorem Np.z:Np ⟨false,[],[]⟩ 0:=⟨At9 200,by unfold sv; simp,by unfold nv; simp [Ah],by unfold dv; simp [Ah]⟩
theorem Np.add {x y:Ak} {a b:Nat} (hx:Np x a) (hy:Np y b):Iz x y=some (Ab.cR (a+b)):=by
 rw [Acb _ _ 200 200 hx.rb hy.rb (by omega) (by omega),hx.s,hx.n,hx.d,hy.s,hy.n,hy.d]
 simp [Kp,I9,Ab.cR]
theorem Np.mul {x y:Ak} {a b:Nat} (hx:Np x a) (hy:Np y b):Gk x y=some (Ab.cR (a*b)):=by
 rw [Aca _ _ 200 200 hx.rb hy.rb (by omega) (by omega),hx.s,hx.n,hx.d,hy.s,hy.n,hy.d]
 simp [Ab.cR]
theorem Np.sign {x:Ak} {a:Nat} (hx:Np x a):Gl x=some (if a=0 then 0 else 1):=by
 rw [Ab8 _ 200 hx.rb (by omega),hx.s,hx.n]
 simp [G6]
theorem Np.can {x:Ak} {a:Nat} (hx:Np x a):Iy x=some (Ab.cR a):=by
 rw [X0 _ 200 hx.rb (by omega),hx.s,hx.n,hx.d]; rfl
def Ls (n:Nat) (f:Nat->Nat):List Ak:=(List.range n).map fun k=>cR (f k)
theorem Li (n:Nat) (f:Nat->Nat):(Ls n f).length=n:=by simp [Ls]
theorem J0 {n k:Nat} (f:Nat->Nat) (h:k<n):(Ls n f)[k]? = some (cR (f k)):=by simp [Ls,h]
theorem U6 {n:Nat} {l:List Ak} {f:Nat->Nat} (b:l.length=n) (h:∀k,k<n->l[k]? = some (cR (f k))):l=Ls n f:=by
 apply List.ext_getElem?
 intro k
 rcases Nat.lt_or_ge k n with hk | hk
 .rw [h k hk,J0 f hk]
 .rw [List.getElem?_eq_none (by omega),List.getElem?_eq_none (by rw [Li]; omega)]
theorem Y3 {α R:Type} {step:Int×List α->Option ((Int×List α)⊕List α)} {J:List α->Option R} {r:R} {i n:Nat} (o:List α) (g:Nat->α) (y:i<=n) (q:o.length=n)
  (l:∀(j:Nat) (o':List α),i<=j->j<n->o'.length=n->step ((j:Int),o')=some (.inl (((j+1:Nat):Int),o'.set j (g j))))
  (z:∀o',o'.length=n->step ((n:Int),o')=some (.inr o'))
  (A:∀o',o'.length=n->(∀k,k<i->o'[k]? = o[k]?)->(∀k,i<=k->k<n->o'[k]? = some (g k))->J o'=some r):(Al step ((i:Int),o)).bind J=some r:=by
 obtain ⟨e,B,f⟩:=Ln (step:=step) (fun s=>∃(j:Nat) (o':List α),s=((j:Int),o')/\i<=j/\j<=n/\o'.length=n/\(∀k,k<i->o'[k]? = o[k]?)/\∀k,i<=k->k<j->o'[k]? = some (g k)) (fun s=>n-s.1.toNat)
  (fun o'=>o'.length=n/\(∀k,k<i->o'[k]? = o[k]?)/\∀k,i<=k->k<n->o'[k]? = some (g k)) (by
  rintro _ ⟨j,o',rfl,c,x,h1,h2,h3⟩
  rcases Nat.lt_or_ge j n with h | h
  .refine .inl ⟨_,l j o' c h h1,⟨j+1,o'.set j (g j),rfl,by omega,by omega,by simp [h1],fun k hk=>?_,fun k b u=>?_⟩,by simp; omega⟩
   .rw [List.getElem?_set_ne (by omega)]; exact h2 k hk
   .rcases Nat.lt_or_ge k j with h' | h'
    .rw [List.getElem?_set_ne (by omega)]; exact h3 k b h'
    .have:k=j:=by omega
     subst this
     rw [List.getElem?_set_self (by omega)]
  .have:j=n:=by omega
   subst this
   exact .inr ⟨o',z o' h1,h1,h2,h3⟩) ((i:Int),o) ⟨i,o,rfl,by omega,y,q,fun _ _=>rfl,fun k h1 h2=>by omega⟩
 rw [B,Ad]
 exact A e f.1 f.2.1 f.2.2
theorem Awc (n:Nat) (b:n<=1000):Tu (n:Int)=some (Ls n fun _=>0):=by
 unfold Tu
 rw [Ht rfl rfl (Nat.le_refl _) (by omega) (by omega),Ad]
 refine Y3 (i:=0) (n:=n) _ (fun _=>cR 0) (by omega) (by simp) ?_ ?_ ?_
 .intro j o' _ h2 h3
  have hx:o'[j]? = some o'[j]:=Ci (by omega)
  simp only [List.length_replicate,Ao (by omega:(j:Int)<(n:Int)),cond_true,Yy,Ad,Ch rfl hx,C9 h2 (by omega),E7 (n:=j) rfl]
 .intro o' h
  simp only [List.length_replicate,Av (by omega:¬(n:Int)<(n:Int)),cond_false]
 .intro o' h1 _ h3
  rw [U6 h1 (f:=fun _=>0) fun k hk=>h3 k (by omega) hk]
theorem Ali (n k:Nat) (b:n<1000000000) (hk:k<=64):Xg (n:Int) (k:Int)=some (cR (bc n k)):=by
 have h:Ms (n:Int) (k:Int)=some (cR (bc n k)):=by
  rw [Aci n k b hk,U1,show Bg false (fct k*bc n k) (fct k)=Bg false (fct k*bc n k) (fct k*1) by rw [Nat.mul_one],L0 _ _ _ _ (Ud k)]
  rfl
 exact h
theorem Alj {n k:Nat} (h:n<=40):bc n k<Big:=by
 refine Nat.lt_of_le_of_lt (Rv n k) ?_
 exact Nat.lt_of_le_of_lt (Nat.pow_le_pow_right (by decide) h) (by decide)
theorem Awd (a b:Nat) (ha:a<=16) (hb:b<=16):Qv (a:Int) (b:Int)=some (Ls (a+b+1) (Rc a b)):=by
 unfold Qv
 have q:Ac ((a:Int)+(b:Int))=((a+b:Nat):Int):=by rw [Ac,Bu] <;> omega
 have l:Ac (((a+b:Nat):Int)+1)=((a+b+1:Nat):Int):=by rw [Ac,Bu] <;> omega
 have e:(if (b:Int)>(a:Int) then (b:Int) else (a:Int))=((max a b:Nat):Int):=by split <;> omega
 rw [q,l,Awc _ (by omega),Ad,e]
 refine Y3 (i:=max a b) (n:=a+b+1) _ (fun k=>cR (Rc a b k)) (by omega) (by simp [Li]) ?_ ?_ ?_
 .intro j o' h1 h2 h3
  have hx:o'[j]? = some o'[j]:=Ci (by omega)
  have g:Ac ((j:Int)-(b:Int))=((j-b:Nat):Int):=by rw [Ac,Bu] <;> omega
  have s:Rc a b j=bc j a*bc a (j-b):=by unfold Rc; rw [if_pos (by omega)]
  simp only [Ao (by omega:(j:Int)<=((a+b:Nat):Int)),cond_true,Ali j a (by omega) (by omega),g,Ali a (j-b) (by omega) (by omega),Ad,(Np.c (Alj (by omega:j<=40))).mul (Np.c (Alj (k:=j-b) (by omega:a<=40))),Ch rfl hx,C9 h2 (by omega),E7 (n:=j) rfl,s]
 .intro o' h
  simp only [Av (by omega:¬((a+b+1:Nat):Int)<=((a+b:Nat):Int)),cond_false]
 .intro o' h1 h2 h3
  rw [U6 h1 (f:=Rc a b) fun k hk=>?_]
  rcases Nat.lt_or_ge k (max a b) with h | h
  .rw [h2 k h,J0 _ hk]
   have:Rc a b k=0:=by
    rcases (by omega:k<a\/k<b) with h | h
    .exact Av1 h
    .unfold Rc; rw [if_neg (by omega)]
   rw [this]
  .exact h3 k h hk
end Go.Ab
namespace Go.Ab
open Go
theorem Awe {m n:Nat} {f g:Nat->Nat} {c:Nat} (E:m<=1000) (D:n<=1000) (B:∀k,k<m->f k<Big) (q:∀k,k<n->g k<Big) (hc:c<Big) :
  Ok (Ls m f) (Ls n g) (cR c)=some (Ls (max m n) fun k=>(if k<m then f k else 0)+(if k<n then g k else 0)*c):=by
 unfold Ok
 rw [Li,Li]
 have e:(if (n:Int)>(m:Int) then (n:Int) else (m:Int))=((max m n:Nat):Int):=by split <;> omega
 rw [e,Ht rfl rfl (Nat.le_refl _) (by omega) (by omega),Ad]
 refine Y3 (i:=0) (n:=max m n) _ (fun k=>cR ((if k<m then f k else 0)+(if k<n then g k else 0)*c)) (by omega) (by simp) ?_ ?_ ?_
 .intro j o' _ h2 h3
  have hx:o'[j]? = some o'[j]:=Ci (by omega)
  obtain ⟨x,A,u⟩:∃x:Ak,(bif decide ((j:Int)<(m:Int)) then ((Af (Ls m f) (j:Int)).bind fun b=>some (b.Neg,b.Num,b.Den)) else some (false,[],[]))=some (x.Neg,x.Num,x.Den)/\Np x (if j<m then f j else 0):=by
   by_cases h:j<m
   .rw [Ao (by omega),cond_true,Ch rfl (J0 f h),if_pos h]
    exact ⟨_,rfl,Np.c (B j h)⟩
   .rw [Av (by omega),cond_false,if_neg h]
    exact ⟨⟨false,[],[]⟩,rfl,Np.z⟩
  obtain ⟨y,s,l⟩:∃x:Ak,(bif decide ((j:Int)<(n:Int)) then ((Af (Ls n g) (j:Int)).bind fun b=>some (b.Neg,b.Num,b.Den)) else some (false,[],[]))=some (x.Neg,x.Num,x.Den)/\Np x (if j<n then g j else 0)/\(if j<n then g j else 0)<Big:=by
   by_cases h:j<n
   .rw [Ao (by omega),cond_true,Ch rfl (J0 g h),if_pos h]
    exact ⟨_,rfl,Np.c (q j h),q j h⟩
   .rw [Av (by omega),cond_false,if_neg h]
    exact ⟨⟨false,[],[]⟩,rfl,Np.z,by decide⟩
  have hq:Ba ((if j<n then g j else 0)*c)<=200:=by
   have:=F9 (if j<n then g j else 0) c
   have:=Adr l.2
   have:=Adr hc
   omega
  have hb:To x y (cR c)=some (cR ((if j<m then f j else 0)+(if j<n then g j else 0)*c)):=by
   unfold To
   rw [(Np.c hc).mul l.1,Ad,Nat.mul_comm c,u.add (Np.cR hq)]; rfl
  simp only [List.length_replicate,Ao (by omega:(j:Int)<((max m n:Nat):Int)),cond_true]
  erw [A,Ad,s,Ad]
  dsimp only
  rw [hb,Ad,Ch rfl hx,Ad,C9 h2 (by omega),E7 (n:=j) rfl]
 .intro o' h
  simp only [List.length_replicate,Av (by omega:¬((max m n:Nat):Int)<((max m n:Nat):Int)),cond_false]
 .intro o' h1 _ h3
  rw [U6 h1 (f:=fun k=>(if k<m then f k else 0)+(if k<n then g k else 0)*c) fun k hk=>h3 k (by omega) hk]
theorem Ads {p:List Ak} {n:Nat} {f:Nat->Nat} (u:n<1000) (s:p.length=n+1) (hp:∀k,k<n+1->∃x,p[k]? = some x/\Np x (f k)) (b:f n≠0):K7 p=some (Ls (n+1) f):=by
 unfold K7
 obtain ⟨x,q,l⟩:=hp n (by omega)
 have w:Ac (((n+1:Nat):Int)-1)=(n:Int):=by rw [Ac,Bu] <;> omega
 refine bnd (a:=((n+1:Nat):Int)) (Eh ?_) ?_
 .rw [s]
  simp only [Ao (by omega:((n+1:Nat):Int)>0),cond_true,w,Ch rfl q,Ad,l.sign,if_neg b]
  rfl
 .rw [Ht rfl rfl (Nat.le_refl _) (by omega) (by omega),Ad]
  refine Y3 (i:=0) (n:=n+1) _ (fun k=>cR (f k)) (by omega) (by simp) ?_ ?_ ?_
  .intro j o' _ h2 h3
   have hx:o'[j]? = some o'[j]:=Ci (by omega)
   obtain ⟨y,g,c⟩:=hp j h2
   simp only [List.length_replicate,Ao (by omega:(j:Int)<((n+1:Nat):Int)),cond_true,Ch rfl g,c.can,Ad,Ch rfl hx,C9 h2 (by omega),E7 (n:=j) rfl]
  .intro o' h
   simp only [List.length_replicate,Av (by omega:¬((n+1:Nat):Int)<((n+1:Nat):Int)),cond_false]
  .intro o' h1 _ h3
   rw [U6 h1 (f:=f) fun k hk=>h3 k (by omega) hk]
def Fe (n d:Nat) (f:Nat->Nat) (k:Nat):Nat:=sm n fun a=>f a*Rc a d k
theorem Alk (a d:Nat):0<Rc a d (a+d):=by
 unfold Rc
 rw [if_pos (by omega),show a+d-d=a by omega,Rx]
 have:0<bc (a+d) a:=by
  have h:∀d,0<bc (a+d) a:=by
   intro d
   induction d with
   | zero=>rw [Nat.add_zero,Rx]; decide
   | succ d ih=>
    cases a with
    | zero=>rw [Iq]; decide
    | succ a=>rw [show a+1+(d+1)=(a+1+d)+1 by omega,Ry]; omega
  exact h d
 omega
theorem Awf {n d:Nat} {f:Nat->Nat} {p q:List Ak} (a1:n+d<=12) (hp:p=Ls (n+1) f) (i:f n≠0) (hq:q.length=d+1) (U:∀k,k<d+1->∃x,q[k]? = some x/\Np x (if k=d then 1 else 0))
  (V:∀k,k<n+1->f k<Big) (Z:∀a k,a<=n+1->Fe a d f k<Big):Ta p q=some (Ls (n+d+1) (Fe (n+1) d f),true):=by
 unfold Ta
 have l:p.length=n+1:=by rw [hp,Li]
 rw [l,hq,Av (by omega),Av (by omega)]
 simp only [cond_false,Ad]
 have c1:K7 p=some (Ls (n+1) f):=Ads (by omega) l (fun k hk=>⟨_,by rw [hp]; exact J0 f hk,Np.c (V k hk)⟩) i
 have c2:K7 q=some (Ls (d+1) fun k=>if k=d then 1 else 0):=Ads (by omega) hq U (by simp)
 have w:Ac (((n+1:Nat):Int)+((d+1:Nat):Int))=((n+d+2:Nat):Int):=by rw [Ac,Bu] <;> omega
 rw [c1,Ad,c2,Ad,Li,Li,C2 (by omega),C2 (by omega)]
 simp only [cond_false,Ad]
 rw [w,Av (by omega),cond_false]
 obtain ⟨r,r1,r2⟩:=D6 (J:=fun D=>(K7 D).bind fun B=>some (B,true)) (Q:=fun r=>r=(Ls (n+d+1) (Fe (n+1) d f),true)) (step:=fun (x:List Ak×Int)=>match x with
  | (v25,v26)=>
   bif (decide (v26<((n+1:Nat):Int))) then (
   (Af (Ls (n+1) f) v26).bind fun N=>
   (Al (S:=((List Ak)×Int)) (E:=((List Ak)×Int)) (fun (g,v37)=>
   bif (decide (v37<((d+1:Nat):Int))) then (
   (Af (Ls (d+1) fun k=>if k=d then 1 else 0) v37).bind fun M=>
   (Gk N M).bind fun v40=>
   (Gl v40).bind fun I=>
   bif (I==(0:Int)) then (
   some (.inl (g,(Ac (v37+1))))
   )
   else (
   (Qv v26 v37).bind fun G=>
   (Ok g G v40).bind fun v44=>
   some (.inl (v44,(Ac (v37+1))))
   )
   )
   else (
   some (.inr (g,v37))
   )
    ) (v25,0)).bind fun (v45,v46)=>
   some (.inl (v45,(Ac (v26+1))))
   )
   else (
   some (.inr v25)
   )) (s:=([],0))
  (fun s=>∃(a L:Nat) (h:Nat->Nat),s=(Ls L h,(a:Int))/\a<=n+1/\L<=a+d/\(∀k,(if k<L then h k else 0)=Fe a d f k)/\(a=n+1->L=n+d+1)) (fun s=>n+1-s.2.toNat)
  (fun e=>e=Ls (n+d+1) (Fe (n+1) d f)) ⟨0,0,fun _=>0,rfl,by omega,by omega,fun k=>by simp [Fe,sm],by omega⟩ (by
  rintro _ ⟨a,L,h,rfl,ha,hL,A,z⟩
  rcases Nat.lt_or_ge a (n+1) with h1 | h1
  .left
   have R:Np (cR 0) 0:=Np.c (by decide)
   have b:∀k,Fe (a+1) d f k=Fe a d f k+f a*Rc a d k:=fun k=>rfl
   have hh:∀k,k<L->h k<Big:=fun k hk=>by
    have:=A k
    rw [if_pos hk] at this
    rw [this]; exact Z a k (by omega)
   by_cases h0:f a=0
   .refine ⟨(Ls L h,((a+1:Nat):Int)),?_,⟨a+1,L,h,rfl,by omega,by omega,fun k=>by rw [b,h0,A]; simp,fun e=>?_⟩,by simp; omega⟩
    .simp only [Ao (by omega:(a:Int)<((n+1:Nat):Int)),cond_true,Ch rfl (J0 f h1),Ad,h0]
     refine Hv (d+1) (fun j=>(Ls L h,(j:Int))) rfl ?_ ⟨(Ls L h,((d+1:Nat):Int)),?_,?_⟩
     .intro j u
      have hy:Np (cR (if j=d then 1 else 0)) (if j=d then 1 else 0):=Np.c (by split <;> decide)
      simp only [Ao (by omega:(j:Int)<((d+1:Nat):Int)),cond_true,Ch rfl (J0 _ u),Ad,R.mul hy,Nat.zero_mul,R.sign,if_true,C9 u (by omega)]
      rfl
     .simp only [Av (by omega:¬((d+1:Nat):Int)<((d+1:Nat):Int)),cond_false]
     .rw [C9 h1 (by omega)]
    .have:a=n:=by omega
     subst this; exact (i h0).elim
   .have y:=Np.c (V a h1)
    have X:Ok (Ls L h) (Ls (a+d+1) (Rc a d)) (cR (f a))=some (Ls (a+d+1) fun k=>(if k<L then h k else 0)+(if k<a+d+1 then Rc a d k else 0)*f a):=by
     rw [Awe (by omega) (by omega) hh (fun k hk=>?_) (V a h1),show max L (a+d+1)=a+d+1 by omega]
     unfold Rc
     split
     .refine Nat.lt_of_le_of_lt (Nat.mul_le_mul (Rv k a) (Rv a (k-d))) ?_
      rw [<-Nat.pow_add]
      exact Nat.lt_of_le_of_lt (Nat.pow_le_pow_right (by decide) (by omega:k+a<=40)) (by decide)
     .decide
    refine ⟨(Ls (a+d+1) fun k=>(if k<L then h k else 0)+(if k<a+d+1 then Rc a d k else 0)*f a,((a+1:Nat):Int)),?_,⟨a+1,a+d+1,_,rfl,by omega,by omega,fun k=>?_,fun e=>by omega⟩,by simp; omega⟩
    .simp only [Ao (by omega:(a:Int)<((n+1:Nat):Int)),cond_true,Ch rfl (J0 f h1),Ad]
     refine Hv (d+1) (fun j=>if j<=d then (Ls L h,(j:Int)) else (Ls (a+d+1) fun k=>(if k<L then h k else 0)+(if k<a+d+1 then Rc a d k else 0)*f a,(j:Int))) (by simp) ?_ ⟨((Ls (a+d+1) fun k=>(if k<L then h k else 0)+(if k<a+d+1 then Rc a d k else 0)*f a),((d+1:Nat):Int)),?_,?_⟩
     .intro j u
      have hy:Np (cR (if j=d then 1 else 0)) (if j=d then 1 else 0):=Np.c (by split <;> decide)
      rw [if_pos (by omega)]
      simp only [Ao (by omega:(j:Int)<((d+1:Nat):Int)),cond_true,Ch rfl (J0 _ u),Ad,y.mul hy,C9 u (by omega)]
      rcases Nat.lt_or_ge j d with h2 | h2
      .rw [if_neg (by omega:¬j=d),Nat.mul_zero,R.sign,Ad,if_pos (by omega:j+1<=d)]
       rfl
      .have:j=d:=by omega
       subst this
       rw [if_pos rfl,Nat.mul_one,y.sign,Ad,if_neg h0,Awd a j (by omega) (by omega),Ad,X,if_neg (by omega)]
       rfl
     .rw [if_neg (by omega)]
      simp only [Av (by omega:¬((d+1:Nat):Int)<((d+1:Nat):Int)),cond_false]
     .rw [C9 h1 (by omega)]
    .rw [b,<-A]
     by_cases hk:k<a+d+1
     .rw [if_pos hk,if_pos hk,Nat.mul_comm (Rc a d k)]
     .rw [if_neg hk,if_neg (by omega),Alc (by omega)]; simp
  .have:a=n+1:=by omega
   subst this
   right
   have Y:=z rfl
   refine ⟨Ls L h,?_,?_⟩
   .simp only [Av (by omega:¬((n+1:Nat):Int)<((n+1:Nat):Int)),cond_false]
   .subst Y
    refine U6 (Li _ _) fun k hk=>?_
    have:=A k
    rw [if_pos hk] at this
    rw [J0 _ hk,this]) (by
  rintro _ rfl
  refine ⟨_,bnd (Ads (n:=n+d) (f:=Fe (n+1) d f) (by omega) (Li _ _) (fun k hk=>⟨_,J0 _ hk,Np.c (Z _ _ (by omega))⟩) ?_) rfl,rfl⟩
  have e:Fe (n+1) d f (n+d)=Fe n d f (n+d)+f n*Rc n d (n+d):=rfl
  have:=Nat.mul_pos (Nat.pos_of_ne_zero i) (Alk n d)
  omega)
 rw [<-r2]
 exact r1
end Go.Ab
namespace Go.Ab
open Go
theorem Awg (d x N:Nat) (f:Nat->Nat):∀M,(∀a,a<M->a+d<N)->sm N (fun k=>Fe M d f k*bc x k)=sm M (fun a=>f a*bc x a)*bc x d:=by
 intro M
 induction M with
 | zero=>intro _; rw [U3 (fun k _=>by simp [Fe,sm])]; simp [sm]
 | succ M ih=>
  intro h
  have e:∀k,Fe (M+1) d f k*bc x k=Fe M d f k*bc x k+f M*(Rc M d k*bc x k):=fun k=>by
   show (Fe M d f k+f M*Rc M d k)*bc x k=_
   rw [Nat.add_mul,Nat.mul_assoc]
  rw [Y1 (fun k _=>e k),U2,ih (fun a ha=>h a (by omega)),Ala,U5 x M d N (h M (by omega))]
  show _=(sm M (fun a=>f a*bc x a)+f M*bc x M)*bc x d
  rw [Nat.add_mul,Nat.mul_assoc (f M)]
theorem Awh (d:Nat) (f:Nat->Nat) (k:Nat):∀{m n:Nat},m<=n->Fe m d f k<=Fe n d f k:=by
 intro m n h
 induction n with
 | zero=>
  have:m=0:=by omega
  subst this; exact Nat.le_refl _
 | succ n ih=>
  rcases Nat.lt_or_ge m (n+1) with h' | h'
  .have:=ih (by omega)
   have e:Fe (n+1) d f k=Fe n d f k+f n*Rc n d k:=rfl
   omega
  .have:m=n+1:=by omega
   subst this; exact Nat.le_refl _
def prb (x:Nat):List Bb->Nat
 | []=>1
 | a::l=>bc x a.Deg.toNat*prb x l
def Dc:List Bb->Nat
 | []=>0
 | a::l=>a.Deg.toNat+Dc l
theorem All (x:Nat) (l m:List Bb):prb x (l++m)=prb x l*prb x m:=by
 induction l with
 | nil=>simp [prb]
 | cons a l ih=>simp only [List.cons_append,prb,ih,Nat.mul_assoc]
theorem R0 (l m:List Bb):Dc (l++m)=Dc l+Dc m:=by
 induction l with
 | nil=>simp [Dc]
 | cons a l ih=>simp only [List.cons_append,Dc,ih,Nat.add_assoc]
theorem Alm {l m:List Bb} (h:l.Perm m):Dc l=Dc m:=by
 induction h with
 | nil=>rfl
 | cons a _ ih=>simp only [Dc,ih]
 | swap a b l=>simp only [Dc]; omega
 | trans _ _ h1 h2=>exact h1.trans h2
theorem Awi (x d:Nat):bc x d<=(x+1) ^ d:=Nat.le_trans (Ado x d) (Nat.pow_le_pow_left (by omega) d)
theorem Aln (x:Nat):∀l:List Bb,prb x l<=(x+1) ^ Dc l
 | []=>by simp [prb,Dc]
 | a::l=>by
  simp only [prb,Dc,Nat.pow_add]
  exact Nat.mul_le_mul (Awi x _) (Aln x l)
theorem R3 {x:Nat} {l:List Bb} (hx:x<=1048576) (hd:Dc l<=12):prb x l<Big:=by
 refine Nat.lt_of_le_of_lt (Aln x l) ?_
 refine Nat.lt_of_le_of_lt (Nat.pow_le_pow_left (by omega:x+1<=1048577) _) ?_
 exact Nat.lt_of_le_of_lt (Nat.pow_le_pow_right (by decide) hd) (by decide)
def PwN (l:List Bb) (N:Nat) (f:Nat->Nat):Prop:=N=Dc l/\f N≠0/\∀x,sm (N+1) (fun k=>f k*bc x k)=prb x l
theorem PwN.le {l:List Bb} {N:Nat} {f:Nat->Nat} (h:PwN l N f) {k:Nat} (hk:k<N+1):f k<=prb k l:=by
 have h1:=h.2.2 k
 have h2:f k*bc k k<=sm (N+1) (fun j=>f j*bc k j):=by
  have:∀n,k<n->f k*bc k k<=sm n (fun j=>f j*bc k j):=by
   intro n
   induction n with
   | zero=>intro h; omega
   | succ n ih=>
    intro h
    show _<=sm n _+f n*bc k n
    rcases Nat.lt_or_ge k n with h' | h'
    .have:=ih h'; omega
    .have:k=n:=by omega
     subst this; omega
  exact this _ hk
 rw [Rx,Nat.mul_one] at h2
 omega
theorem PwN.step {l:List Bb} {N:Nat} {f:Nat->Nat} (h:PwN l N f) (a:Bb):PwN (l++[a]) (N+a.Deg.toNat) (Fe (N+1) a.Deg.toNat f):=by
 refine ⟨by rw [R0,h.1]; simp [Dc],?_,fun x=>?_⟩
 .have e:Fe (N+1) a.Deg.toNat f (N+a.Deg.toNat)=Fe N a.Deg.toNat f (N+a.Deg.toNat)+f N*Rc N a.Deg.toNat (N+a.Deg.toNat):=rfl
  have:=Nat.mul_pos (Nat.pos_of_ne_zero h.2.1) (Alk N a.Deg.toNat)
  omega
 .rw [Awg _ x _ f (N+1) (fun b ha=>by omega),h.2.2 x,All]
  simp [prb]
theorem Awj (l:List Bb) (x:l≠[]) (ht:∀a∈l,a.Lin.Terms.length≠0) (hd:∀a∈l,0<=a.Deg) (R:Dc l<=12) (S:l.length<=1000) :
  ∃N f,Ke l=some (Ls (N+1) f)/\PwN l N f:=by
 have h0:Xj l=false:=by
  cases l with
  | nil=>exact (x rfl).elim
  | cons a M=>
   have:=ht a (by simp)
   show (a.Lin.Terms.length==0)=false
   simpa using this
 have h1:∃N f,Xi l=some (Ls (N+1) f)/\PwN l N f:=by
  unfold Xi
  rw [Yz,Ad]
  suffices h:∃r,_/\∃N f,r=Ls (N+1) f/\PwN l N f by
   obtain ⟨r,G,N,f,E,D⟩:=h
   exact ⟨N,f,by rw [<-E]; exact G,D⟩
  refine D6 (fun s=>∃(i N:Nat) (f:Nat->Nat),s=(Ls (N+1) f,(i:Int))/\i<=l.length/\PwN (l.take i) N f) (fun s=>l.length-s.2.toNat) (fun e=>∃N f,e=Ls (N+1) f/\PwN l N f)
   ⟨0,0,fun _=>1,rfl,by omega,by simp [PwN,Dc,prb,sm,Iq]⟩ ?_ ?_
  .rintro _ ⟨i,N,f,rfl,V,g⟩
   rcases Nat.lt_or_ge i l.length with h | h
   .left
    have hx:l[i]? = some l[i]:=Ci h
    have b:=List.getElem_mem h
    generalize l[i]=a at hx b
    have X:=ht a b
    have L:=hd a b
    have B:Dc l=Dc (l.take i)+(a.Deg.toNat+Dc (l.drop (i+1))):=by
     have:=R0 (l.take i) (l.drop i)
     rw [List.take_append_drop] at this
     rw [this,Lg hx]; rfl
    have Y:=g.1
    have w:Ac (a.Deg+1)=((a.Deg.toNat+1:Nat):Int):=by rw [Ac,Bu] <;> omega
    have I:Af (List.replicate (a.Deg.toNat+1) (⟨false,[],[]⟩:Ak)) a.Deg=some ⟨false,[],[]⟩:=Ch (n:=a.Deg.toNat) (by omega) (by simp)
    have u:=g.step a
    have hb:∀A k,A<=N+1->Fe A a.Deg.toNat f k<Big:=by
     intro A k y
     refine Nat.lt_of_le_of_lt (Awh _ f k y) ?_
     rcases Nat.lt_or_ge k (N+a.Deg.toNat+1) with hk | hk
     .refine Nat.lt_of_le_of_lt (u.le hk) (R3 (by omega) ?_)
      rw [R0]; simp only [Dc]; omega
     .have:Fe (N+1) a.Deg.toNat f k=0:=U3 fun j U=>by rw [Alc (by omega)]; rfl
      rw [this]; decide
    have J:=Awf (n:=N) (d:=a.Deg.toNat) (f:=f) (p:=Ls (N+1) f) (q:=Cl (List.replicate (a.Deg.toNat+1) ⟨false,[],[]⟩) a.Deg (cR 1)) (by omega) rfl g.2.1 (by rw [E7 (n:=a.Deg.toNat) (by omega)]; simp) (fun k hk=>by
     rw [E7 (n:=a.Deg.toNat) (by omega)]
     by_cases e:k=a.Deg.toNat
     .subst e
      rw [if_pos rfl]
      exact ⟨_,List.getElem?_set_self (by simp),Np.c (by decide)⟩
     .rw [if_neg e,List.getElem?_set_ne (by omega)]
      exact ⟨⟨false,[],[]⟩,by simp [hk],Np.z⟩) (fun k hk=>Nat.lt_of_le_of_lt (g.le hk) (R3 (by omega) (by omega))) hb
    refine ⟨(Ls (N+a.Deg.toNat+1) (Fe (N+1) a.Deg.toNat f),((i+1:Nat):Int)),?_,⟨i+1,_,_,rfl,by omega,by rw [Dy hx]; exact u⟩,by simp; omega⟩
    simp only [Ao (by omega:(i:Int)<(l.length:Int)),cond_true,Ch rfl hx,Ad,C2 (by omega:¬(a.Lin.Terms.length:Int)=0),cond_false,w,Ht rfl rfl (Nat.le_refl _) (by omega:56*(a.Deg.toNat+1)<=281474976710656) (by omega),Yz,I,J,C9 h (by omega)]
   .have:i=l.length:=by omega
    subst this
    rw [List.take_length] at g
    right
    exact ⟨_,by simp only [Av (by omega:¬(l.length:Int)<(l.length:Int)),cond_false],_,_,rfl,g⟩
  .rintro _ ⟨N,f,rfl,h⟩
   exact ⟨_,rfl,N,f,rfl,h⟩
 obtain ⟨N,f,h2,h3⟩:=h1
 refine ⟨N,f,?_,h3⟩
 unfold Ke
 rw [h0,cond_false]
 exact h2
theorem Awk {c:Int} {d:Int} (hc:c<=1048576) (hd:0<=d) (b:d<=64):Kc c d=some (cR (bc c.toNat d.toNat),true):=by
 have h:=Avt c.toNat d.toNat (by omega) (by omega)
 have e:((d.toNat:Nat):Int)=d:=by omega
 rw [e] at h
 rw [<-h]
 unfold Kc
 have f:(if c>(0:Int) then c else 0)=(if ((c.toNat:Nat):Int)>(0:Int) then ((c.toNat:Nat):Int) else 0):=by split <;> split <;> omega
 rw [f]
theorem Awl (l:List Bb) {c:Int} (hc:c<=1048576) (ht:∀a∈l,a.Lin.Terms.length=0/\a.Lin.Const=c) (hd:∀a∈l,0<=a.Deg) (G:Dc l<=12) (I:l.length<=1000) :
  Ke l=some [cR (prb c.toNat l)]:=by
 have h1:Xh l=some [cR (prb c.toNat l)]:=by
  unfold Xh
  rw [Yz,Ad]
  obtain ⟨r,B,A⟩:∃r,_/\r = [cR (prb c.toNat l)]:=D6 (fun s=>∃i:Nat,s=((i:Int),[cR (prb c.toNat (l.take i))])/\i<=l.length) (fun s=>l.length-s.1.toNat) (fun e=>e = [cR (prb c.toNat l)]) (J:=fun o=>some o)
   (step:=fun (x:Int×List Ak)=>match x with
    | (g,f)=>
     bif (decide (g<(l.length:Int))) then (
     (Af l g).bind fun b=>
     bif ((b.Lin.Terms.length:Int)==(0:Int)) then (
     (Kc b.Lin.Const b.Deg).bind fun k=>
     (Af f 0).bind fun v20=>
     (Gk v20 k.1).bind fun v21=>
     (Af f 0).bind fun v22=>
     some (.inl ((Ac (g+1)),(Cl f 0 v21)))
     )
     else (
     (Ei 56 (Ac (b.Deg+1)) (Ac (b.Deg+1)) ((Ak.mk false [] []):Ak)).bind fun q=>
     (Eo 1).bind fun v25=>
     (Af q b.Deg).bind fun v26=>
     none
     )
     )
     else (
     some (.inr f)
     )) (s:=(0,[cR 1]))
   ⟨0,rfl,by omega⟩ (by
   rintro _ ⟨i,rfl,L⟩
   rcases Nat.lt_or_ge i l.length with h | h
   .left
    have hx:l[i]? = some l[i]:=Ci h
    have j:=List.getElem_mem h
    generalize l[i]=a at hx j
    obtain ⟨M,D⟩:=ht a j
    have y:=hd a j
    have e:Dc l=Dc (l.take i)+(a.Deg.toNat+Dc (l.drop (i+1))):=by
     have:=R0 (l.take i) (l.drop i)
     rw [List.take_append_drop] at this
     rw [this,Lg hx]; rfl
    have hb:prb c.toNat (l.take i)<Big:=R3 (by omega) (by omega)
    have z:bc c.toNat a.Deg.toNat<Big:=by
     have:=R3 (x:=c.toNat) (l:=[a]) (by omega) (by simp only [Dc]; omega)
     simpa [prb] using this
    have u:Af [cR (prb c.toNat (l.take i))] 0=some (cR (prb c.toNat (l.take i))):=rfl
    refine ⟨_,?_,⟨i+1,rfl,by omega⟩,by simp; omega⟩
    simp only [Ao (by omega:(i:Int)<(l.length:Int)),cond_true,Ch rfl hx,Ad,Fu (by omega:(a.Lin.Terms.length:Int)=0),D,Awk hc y (by omega:a.Deg<=64),u,(Np.c hb).mul (Np.c z),C9 h (by omega)]
    rw [Dy hx,All]
    simp [prb,Cl]
   .have:i=l.length:=by omega
    subst this
    right
    exact ⟨[cR (prb c.toNat (List.take l.length l))],by simp only [Av (by omega:¬(l.length:Int)<(l.length:Int)),cond_false],by rw [List.take_length]⟩) (by
   rintro _ rfl
   exact ⟨_,rfl,rfl⟩)
  rw [<-A]
  exact B
 have h0:Xj l=true:=by
  cases l with
  | nil=>rfl
  | cons a E=>
   have:=(ht a (by simp)).1
   show (a.Lin.Terms.length==0)=true
   simpa using this
 unfold Ke
 rw [h0,cond_true,h1]
end Go.Ab
namespace Go.Ab
open Go
noncomputable def Y4 {α:Type} (cmp:α->α->Option Int) (a0:Int) (g:List α):Option (List α) :=
 (Al (S:=(Int×Int×(List α))) (E:=(Int×Int×(List α))) (fun (v3,v4,i)=>
 bif (decide (v4<=a0)) then (
 (Y2 cmp v3 v4 i).bind fun h=>
 (Fg g.length h).bind fun l=>
 some (.inl (v4,(Ac (v4+20)),h))
 )
 else (
 some (.inr (v3,v4,i))
 )
  ) (0,20,g)).bind fun (v8,v9,f)=>
 (Y2 cmp v8 a0 f).bind fun c=>
 (Fg g.length c).bind fun v12=>
 (Al (S:=(Int×Int×Int)) (E:=Unit) (fun (b,k,j)=>
 bif (decide (b<a0)) then (
 (Al (S:=Unit) (E:=Unit) (fun _=>
 bif (decide ((Ac (2*b))<=a0)) then (
 none
 )
 else (
 some (.inr ())
 )
  ) ()).bind fun _=>
 bif (decide ((Ac (0+b))<a0)) then (
 none
 )
 else (
 some (.inl ((Ac (b*2)),0,(Ac (2*b))))
 )
 )
 else (
 some (.inr ())
 )
  ) (20,v8,v9)).bind fun _=>
 some c
theorem Alo {α:Type} {cmp:α->α->Option Int} {c:α->α->Int} (L:Mo c) (f:List α) (g:∀x∈f,∀y∈f,cmp x y=some (c x y)) (h:f.length<20) :
  ∃R,Y4 cmp (f.length:Int) f=some R/\R.Perm f/\R.Pairwise (fun a b=>¬c b a<0):=by
 obtain ⟨R,h1,h2,h3⟩:=Awb L f g (by omega)
 refine ⟨R,?_,h2,h3⟩
 unfold Y4
 refine bnd (a:=(0,20,f)) (Eh ?_) ?_
 .simp only [Av (by omega:¬(20:Int)<=(f.length:Int)),cond_false]
 .dsimp only
  rw [h1,Ad,Nm h2.length_eq.symm,Ad]
  refine bnd (a:=()) (Eh ?_) rfl
  simp only [Av (by omega:¬(20:Int)<(f.length:Int)),cond_false]
theorem Y5:Mo Fz where
 irr x:=by rw [(Jg.zero x x trivial trivial).2 rfl]; omega
 trs x y z h1 h2:=Jg.trans x y z trivial trivial trivial h1 h2
 ntr x y z h1 h2 h3:=by
  rcases Int.lt_trichotomy (Fz x y) 0 with k | k | k
  .exact h1 k
  .have:=(Jg.zero x y trivial trivial).1 k
   subst this; exact h2 h3
  .have b:Fz y x<0:=by rw [Jg.anti x y trivial trivial]; omega
   exact h2 (Jg.trans y x z trivial trivial trivial b h3)
theorem Awm:Mo (fun a b:Bb=>Fz a.Lin b.Lin):=⟨fun _=>Y5.irr _,fun _ _ _=>Y5.trs _ _ _,fun _ _ _=>Y5.ntr _ _ _⟩
def Y6 (l:List Bb):Prop:=l.Pairwise fun a b=>¬Fz b.Lin a.Lin<0
theorem Awn (b:List Bb) (ht:∀a∈b,a.Lin.Terms.length<1099511627776) (c:b.length<20):∃R,Qk b=some R/\R.Perm b/\Y6 R:=by
 obtain ⟨R,h1,h2,h3⟩:=Alo (cmp:=Ql) Awm b (fun x hx y _=>by
  unfold Ql
  rw [Yi x.Lin y.Lin (ht x hx)]; rfl) c
 refine ⟨R,?_,h2,h3⟩
 unfold Qk
 have e:Wx (b.length:Int) b=Y4 Ql (b.length:Int) b:=rfl
 rw [e,h1,Ad,Nm h2.length_eq.symm]; rfl
theorem Alp {α:Type} (n:Nat) (h:n<=1000000):Mq (α:=α) (n:Int)=some []:=by
 unfold Mq
 rw [Ao (by omega),Ao (by omega)]; rfl
theorem Awo (a b:List Bb) (h:a.length+b.length<=1000000):W5 [a,b]=some (a++b) :=
 Alh (B:=40) (by decide) (gr:=Xb) (fun n h=>Alp n h) a b h
theorem Awp (a b:List Bq) (h:a.length+b.length<=1000000):W4 [a,b]=some (a++b) :=
 Alh (B:=40) (by decide) (gr:=Xa) (fun n h=>Alp n h) a b h
theorem Alq (m n:Bc) (h1:m.Factors.length+n.Factors.length<=1000000) (h2:m.Atoms.length+n.Atoms.length<=1000000):S7 m n=some ⟨m.Factors++n.Factors,m.Atoms++n.Atoms⟩:=by
 unfold S7
 rw [Awp _ _ h1,Ad,Awo _ _ h2]; rfl
def atO (l:Ct) (k:Nat):List Bb:=if k=0 then [] else [⟨l,k⟩]
theorem Awq (l:Ct) (k:Nat):Oa l (k:Int)=some (atO l k):=by
 unfold Oa atO
 by_cases h:k=0
 .rw [Fu (by omega),if_pos h]; rfl
 .rw [C2 (by omega),if_neg h]; rfl
theorem Alr (l:Ct) (k:Nat):(atO l k).length<=1:=by unfold atO; split <;> simp
abbrev FS:={F:List Bq // F.length<=1000}
theorem Awr {t:Ai} {x:Ak} {K:Nat} {A B:List Bb} {F:FS} (b:t.Mono=⟨F.1,A⟩) (f:A.length+B.length<=1000000) (j:K<30000000000) (h1:RB K t.Coef) (h2:RB 200 x) :
  ∃u,H6 t x ⟨[],B⟩=some u/\u.Mono=⟨F.1,A++B⟩/\rq u.Coef=rq t.Coef*rq x/\RB (K+202) u.Coef:=by
 obtain ⟨c,i,h,_,g⟩:=Ym h1 h2 (by omega) (by omega)
 refine ⟨⟨c,⟨F.1,A++B⟩⟩,?_,rfl,g,h⟩
 unfold H6
 have:=F.2
 rw [i,Ad,b,Alq _ _ (by simp; omega) f,List.append_nil]; rfl
abbrev Ent:=List Bb×Nat
inductive Ff (F:FS) (c:Rat) (K:Nat):List Ai->List Ent->Prop
 | nil:Ff F c K [] []
 | cons {t:Ai} {b:Ent} {ts:List Ai} {bs:List Ent}:t.Mono=⟨F.1,b.1⟩->rq t.Coef=c*(b.2:Rat)->RB K t.Coef->Ff F c K ts bs->Ff F c K (t::ts) (b::bs)
theorem Ff.len {F:FS} {c:Rat} {K:Nat} {ts:List Ai} {bs:List Ent} (h:Ff F c K ts bs):ts.length=bs.length:=by
 induction h with
 | nil=>rfl
 | cons _ _ _ _ ih=>simp [ih]
theorem Ff.app {F:FS} {c:Rat} {K:Nat} {ts f:List Ai} {bs cs:List Ent} (h:Ff F c K ts bs) (h':Ff F c K f cs):Ff F c K (ts++f) (bs++cs):=by
 induction h with
 | nil=>exact h'
 | cons a b d _ ih=>exact .cons a b d ih
theorem Ff.mono {F:FS} {c:Rat} {K f:Nat} {ts:List Ai} {bs:List Ent} (h:Ff F c K ts bs) (hk:K<=f):Ff F c f ts bs:=by
 induction h with
 | nil=>exact .nil
 | cons a b d _ ih=>exact .cons a b (d.mono hk) ih
theorem Ff.get {F:FS} {c:Rat} {K:Nat} {ts:List Ai} {bs:List Ent} (h:Ff F c K ts bs):∀{j:Nat} {t:Ai},ts[j]? = some t->∃b,bs[j]? = some b/\t.Mono=⟨F.1,b.1⟩/\rq t.Coef=c*(b.2:Rat)/\RB K t.Coef:=by
 induction h with
 | nil=>intro j t h; simp at h
 | @cons t b ts bs a1 a2 a3 _ ih=>
  intro j u f
  cases j with
  | zero=>
   simp only [List.getElem?_cons_zero,Option.some.injEq] at f
   subst f
   exact ⟨b,rfl,a1,a2,a3⟩
  | succ j=>
   simp only [List.getElem?_cons_succ] at f
   simpa using ih f
def fs0:FS:=⟨[],by decide⟩
abbrev Rep (c:Rat) (K:Nat):List Ai->List Ent->Prop:=Ff fs0 c K
def Ji (B:List Ent) (l:Ct) (f:Nat->Nat) (n:Nat):List Ent:=(List.range n).flatMap fun k=>if f k=0 then [] else B.map fun b=>(b.1++atO l k,b.2*f k)
theorem Adt (B:List Ent) (l:Ct) (f:Nat->Nat) (n:Nat):Ji B l f (n+1)=Ji B l f n++(if f n=0 then [] else B.map fun b=>(b.1++atO l n,b.2*f n)):=by
 unfold Ji
 rw [List.range_succ,List.flatMap_append]; simp
theorem Als (B:List Ent) (l:Ct) (f:Nat->Nat) (n:Nat):(Ji B l f n).length<=n*B.length:=by
 induction n with
 | zero=>simp [Ji]
 | succ n ih=>
  rw [Adt,List.length_append,Nat.add_mul,Nat.one_mul]
  have:(if f n=0 then ([]:List Ent) else B.map fun b=>(b.1++atO l n,b.2*f n)).length<=B.length:=by split <;> simp
  omega
noncomputable def U7 (h:List Ai) (l:Ct) (k:Int) (x:Ak):Int×List Ai->Option ((Int×List Ai)⊕(Int×List Ai)):=fun (b,c)=>
 bif (decide (b<(h.length:Int))) then (
 (Af h b).bind fun g=>
 (Oa l k).bind fun v194=>
 (H6 g x (Bc.mk [] v194)).bind fun f=>
 (B4 104 c [f]).bind fun i=>
 some (.inl ((Ac (b+1)),i))
 )
 else (
 some (.inr (b,c))
 )
theorem Aws {F:FS} {c:Rat} {K M:Nat} {g o:List Ai} {B:List Ent} {l:Ct} {k f:Nat} {x:Ak} (z:Ff F c K g B) (hx:rq x=(f:Rat)) (q:RB 200 x) (S:K<30000000000) (R:∀b∈B,b.1.length<=M) (N:M<=1000) (hl:o.length+g.length<=1000000000) :
  ∃T,Al (U7 g l (k:Int) x) (0,o)=some ((g.length:Int),o++T)/\Ff F c (K+202) T (B.map fun b=>(b.1++atO l k,b.2*f)):=by
 obtain ⟨e,X,T,V,U⟩:=Ln (step:=U7 g l (k:Int) x) (fun s=>∃(j:Nat) (T:List Ai),s=((j:Int),o++T)/\j<=g.length/\T.length=j/\Ff F c (K+202) T ((B.take j).map fun b=>(b.1++atO l k,b.2*f))) (fun s=>g.length-s.1.toNat)
  (fun e=>∃T,e=((g.length:Int),o++T)/\Ff F c (K+202) T (B.map fun b=>(b.1++atO l k,b.2*f))) (by
  rintro _ ⟨j,T,rfl,hj,L,y⟩
  rcases Nat.lt_or_ge j g.length with h | h
  .left
   have i:g[j]? = some g[j]:=Ci h
   generalize g[j]=t at i
   obtain ⟨b,b1,b2,Z,Y⟩:=z.get i
   have J:=R b (Cm b1)
   have:=Alr l k
   obtain ⟨u,I,G,E,D⟩:=Awr (A:=b.1) (B:=atO l k) b2 (by omega) S Y q
   refine ⟨_,?_,⟨j+1,T++[u],rfl,by omega,by simp [L],?_⟩,by simp; omega⟩
   .unfold U7
    simp only [Ao (by omega:(j:Int)<(g.length:Int)),cond_true,Ch rfl i,Ad,Awq,I,C9 h (by omega)]
    rw [Dp (by simp; omega),Ad,List.append_assoc]
   .rw [Dy b1,List.map_append]
    refine y.app (.cons G ?_ D .nil)
    rw [E,Z,hx]
    show _=c*((b.2*f:Nat):Rat)
    rw [Rat.natCast_mul]; grind
  .have:j=g.length:=by omega
   subst this
   right
   refine ⟨_,by unfold U7; simp only [Av (by omega:¬(g.length:Int)<(g.length:Int)),cond_false],T,rfl,?_⟩
   rw [List.take_of_length_le (by rw [z.len]; exact Nat.le_refl _)] at y
   exact y) (0,o) ⟨0,[],by simp,by omega,rfl,.nil⟩
 exact ⟨T,by rw [<-V]; exact X,U⟩
end Go.Ab
namespace Go.Ab
open Go
noncomputable def Y7 (g:List Ai) (l:Ct) (p:List Ak):Int×List Ai->Option ((Int×List Ai)⊕(Int×List Ai)):=fun (v173,b)=>
 bif (decide (v173<(p.length:Int))) then (
 (Af p v173).bind fun v175=>
 (Gl v175).bind fun c=>
 bif (c==(0:Int)) then (
 some (.inl ((Ac (v173+1)),b))
 )
 else (
 (Al (U7 g l v173 v175) (0,b)).bind fun (h,f)=>
 some (.inl ((Ac (v173+1)),f))
 )
 )
 else (
 some (.inr (v173,b))
 )
theorem Awt {F:FS} {c:Rat} {K M n:Nat} {g:List Ai} {B:List Ent} {l:Ct} {f:Nat->Nat} (z:Ff F c K g B) (I:∀k,k<n->f k<Big) (N:K<30000000000) (L:∀b∈B,b.1.length<=M) (y:M<=1000) (Y:n<=1000) (Z:g.length<=1000000) :
  ∃T,Al (Y7 g l (Ls n f)) (0,[])=some ((n:Int),T)/\Ff F c (K+202) T (Ji B l f n):=by
 obtain ⟨e,X,T,V,S⟩:=Ln (step:=Y7 g l (Ls n f)) (fun s=>∃(j:Nat) (T:List Ai),s=((j:Int),T)/\j<=n/\Ff F c (K+202) T (Ji B l f j)) (fun s=>n-s.1.toNat)
  (fun e=>∃T,e=((n:Int),T)/\Ff F c (K+202) T (Ji B l f n)) (by
  rintro _ ⟨j,T,rfl,hj,q⟩
  unfold Y7
  rw [Li]
  rcases Nat.lt_or_ge j n with h | h
  .left
   have D:=Als B l f j
   have J:=q.len
   have R:=z.len
   have A:j*B.length<=1000*1000000:=Nat.mul_le_mul (by omega) (by omega)
   have x:j*B.length+B.length<=1000*B.length:=by
    have:(j+1)*B.length<=1000*B.length:=Nat.mul_le_mul_right _ (by omega)
    rw [Nat.add_mul] at this; omega
   have i:=I j h
   simp only [Ao (by omega:(j:Int)<(n:Int)),cond_true,Ch rfl (J0 f h),Ad,(Np.c i).sign,C9 h (by omega)]
   by_cases h0:f j=0
   .refine ⟨_,by rw [if_pos h0]; rfl,⟨j+1,T,rfl,by omega,?_⟩,by simp; omega⟩
    rw [Adt,if_pos h0,List.append_nil]; exact q
   .have u:RB 200 (cR (f j)):=(Np.c i).rb
    obtain ⟨U,G,E⟩:=Aws (o:=T) (l:=l) (k:=j) (f:=f j) z (Nn (f j)) u N L y (by omega)
    refine ⟨_,by rw [if_neg h0,G]; rfl,⟨j+1,T++U,rfl,by omega,?_⟩,by simp; omega⟩
    rw [Adt,if_neg h0]
    exact q.app E
  .have:j=n:=by omega
   subst this
   right
   exact ⟨_,by simp only [Av (by omega:¬(j:Int)<(j:Int)),cond_false],T,rfl,q⟩) (0,[]) ⟨0,[],rfl,by omega,.nil⟩
 exact ⟨T,by rw [<-V]; exact X,S⟩
def Pw (l:Ct) (N:Nat) (f:Nat->Nat) (g:List Bb):Prop:=(l.Terms.length≠0/\PwN g N f)\/(l.Terms.length=0/\N=0/\f 0=prb l.Const.toNat g)
abbrev Grp:=Ct×Nat×(Nat->Nat)
inductive Gs:List Grp->List Bb->Prop
 | nil:Gs [] []
 | cons {l:Ct} {N:Nat} {f:Nat->Nat} {g rest:List Bb} {gs:List Grp}:g≠[]->(∀a∈g,a.Lin=l)->(∀a∈rest,Fz l a.Lin<0)->Pw l N f g->Gs gs rest->Gs ((l,N,f)::gs) (g++rest)
def U8 (B:List Ent):List Grp->List Ent
 | []=>B
 | q::gs=>U8 (Ji B q.1 q.2.2 (q.2.1+1)) gs
structure Atk (A:List Bb):Prop where
 deg:∀a∈A,0<=a.Deg
 lin:∀a∈A,Gx a.Lin=true
 sum:Dc A<=12
 len:A.length<=12
theorem Adu {a:Ct} (h:Gx a=true):a.Terms.length<=16/\-1048576<=a.Const/\a.Const<=1048576:=by
 unfold Gx at h
 simp only [Di,decide_eq_true_eq] at h
 exact ⟨h.1.2.2,h.1.1,h.1.2.1⟩
theorem Atk.sub {A B:List Bb} (h:Atk (A++B)):Atk A/\Atk B:=by
 have h1:=h.sum
 have h2:=h.len
 rw [R0] at h1
 rw [List.length_append] at h2
 exact ⟨⟨fun a ha=>h.deg a (by simp [ha]),fun a ha=>h.lin a (by simp [ha]),by omega,by omega⟩,⟨fun a ha=>h.deg a (by simp [ha]),fun a ha=>h.lin a (by simp [ha]),by omega,by omega⟩⟩
theorem Awu {l:Ct} {g:List Bb} (hk:Atk g) (b:g≠[]) (j:∀a∈g,a.Lin=l):∃N f,Ke g=some (Ls (N+1) f)/\Pw l N f g/\N<=Dc g/\∀k,k<N+1->f k<Big:=by
 have s:=hk.len
 have q:=hk.sum
 obtain ⟨a,ha⟩:∃a,a∈g:=by
  cases g with
  | nil=>exact (b rfl).elim
  | cons a _=>exact ⟨a,by simp⟩
 have c:=hk.lin a ha
 rw [j a ha] at c
 have hc:=(Adu c).2.2
 by_cases h:l.Terms.length=0
 .have h1:=Awl g hc (fun a ha=>by rw [j a ha]; exact ⟨h,rfl⟩) hk.deg hk.sum (by omega)
  exact ⟨0,fun _=>prb l.Const.toNat g,h1,.inr ⟨h,rfl,rfl⟩,by omega,fun k _=>R3 (by omega) q⟩
 .obtain ⟨N,f,h1,h2⟩:=Awj g b (fun a ha=>by rw [j a ha]; exact h) hk.deg hk.sum (by omega)
  refine ⟨N,f,h1,.inl ⟨h,h2⟩,by rw [h2.1]; exact Nat.le_refl _,fun k i=>Nat.lt_of_le_of_lt (h2.le i) (R3 ?_ q)⟩
  have:=h2.1
  omega
noncomputable def Y8 (r:List Bb) (l:Ct):Int->Option (Int⊕Int):=fun b=>
 bif (decide (b<(r.length:Int))) then (
 (Af r b).bind fun v117=>
 (Jr v117.Lin l).bind fun c=>
 bif (c==(0:Int)) then (
 some (.inl (Ac (b+1)))
 )
 else (
 some (.inr b)
 )
 )
 else (
 some (.inr b)
 )
theorem Awv {r:List Bb} {a:Bb} (h0:r[0]? = some a) (ht:∀b∈r,b.Lin.Terms.length<1099511627776) (u:r.length<=1000) :
  ∃n:Nat,Al (Y8 r a.Lin) 1=some (n:Int)/\1<=n/\n<=r.length/\(∀b∈r.take n,b.Lin=a.Lin)/\∀b,r[n]? = some b->b.Lin≠a.Lin:=by
 have hpos:=E2 h0
 obtain ⟨e,q,n,l,k⟩:=Ln (step:=Y8 r a.Lin) (fun s=>∃n:Nat,s=(n:Int)/\1<=n/\n<=r.length/\∀b∈r.take n,b.Lin=a.Lin) (fun s=>r.length-s.toNat)
  (fun e=>∃n:Nat,e=(n:Int)/\1<=n/\n<=r.length/\(∀b∈r.take n,b.Lin=a.Lin)/\∀b,r[n]? = some b->b.Lin≠a.Lin) (by
  rintro _ ⟨j,rfl,g,f,c⟩
  unfold Y8
  rcases Nat.lt_or_ge j r.length with h | h
  .have hx:r[j]? = some r[j]:=Ci h
   have i:=List.getElem_mem h
   generalize r[j]=b at hx i
   simp only [Ao (by omega:(j:Int)<(r.length:Int)),cond_true,Ch rfl hx,Ad,Yi _ _ (ht b i),C9 h (by omega)]
   by_cases hc:b.Lin=a.Lin
   .left
    rw [Fu ((Jg.zero _ _ trivial trivial).2 hc)]
    refine ⟨_,rfl,⟨j+1,rfl,by omega,by omega,fun d hd=>?_⟩,by omega⟩
    rw [Dy hx] at hd
    rcases List.mem_append.1 hd with hd | hd
    .exact c d hd
    .simp only [List.mem_singleton] at hd
     rw [hd]; exact hc
   .right
    rw [C2 (fun h=>hc ((Jg.zero _ _ trivial trivial).1 h))]
    exact ⟨_,rfl,j,rfl,g,f,c,fun d hd=>by rw [hx] at hd; cases hd; exact hc⟩
  .right
   refine ⟨_,by simp only [Av (by omega:¬(j:Int)<(r.length:Int)),cond_false],j,rfl,g,f,c,fun d hd=>?_⟩
   have:=E2 hd
   omega) 1 ⟨1,rfl,by omega,by omega,fun b hb=>by
    cases r with
    | nil=>simp at hpos
    | cons x r=>simp at hb h0; rw [hb,h0]⟩
 exact ⟨n,by rw [<-l]; exact q,k⟩
noncomputable def U9:(List Ai×List Bb)->Option ((List Ai×List Bb)⊕List Ai):=fun (g,b)=>
 bif (decide ((b.length:Int)>(0:Int))) then (
 (Af b 0).bind fun f=>
 (Al (Y8 b f.Lin) 1).bind fun c=>
 (D0 b 0 c).bind fun i=>
 (Ke i).bind fun h=>
 (Al (Y7 g f.Lin h) (0,[])).bind fun (k,j)=>
 (D0 b c b.length).bind fun v201=>
 some (.inl (j,v201))
 )
 else (
 some (.inr g)
 )
theorem Aww (n:Nat):n+1<=2 ^ n:=by
 induction n with
 | zero=>decide
 | succ n ih=>rw [Nat.pow_succ]; omega
theorem Awx {B:List Ent} {l:Ct} {f:Nat->Nat} {n M:Nat} (c:∀b∈B,b.1.length<=M):∀b∈Ji B l f n,b.1.length<=M+1:=by
 intro b hb
 unfold Ji at hb
 rw [List.mem_flatMap] at hb
 obtain ⟨k,_,hk⟩:=hb
 split at hk
 .cases hk
 .rw [List.mem_map] at hk
  obtain ⟨d,hd,rfl⟩:=hk
  have:=c d hd
  have:=Alr l k
  simp only [List.length_append]; omega
theorem Awy {F:FS} {c:Rat}:∀(n:Nat) (rest:List Bb) (j:List Ai) (B:List Ent) (K M:Nat),rest.length<=n->Y6 rest->Atk rest->Ff F c K j B->(∀b∈B,b.1.length<=M)->M+rest.length<=1000->K+202*rest.length<30000000000->B.length*2 ^ Dc rest<=1000000 ->
  ∃gs i,Al U9 (j,rest)=some i/\Gs gs rest/\Ff F c (K+202*rest.length) i (U8 B gs)/\i.length<=B.length*2 ^ Dc rest:=by
 intro n
 induction n with
 | zero=>
  intro rest j B K M hn _ _ A _ _ _ _
  have:rest = []:=List.length_eq_zero_iff.1 (by omega)
  subst this
  exact ⟨[],j,Eh (by unfold U9; simp),.nil,by simpa [U8] using A,by rw [A.len]; simp [Dc]⟩
 | succ n ih=>
  intro rest j B K M hn hS R A hM ae hK E
  cases g:rest with
  | nil=>
   exact ⟨[],j,Eh (by unfold U9; simp),.nil,by simpa [U8] using A.mono (by omega),by rw [A.len]; simp [Dc]⟩
  | cons a r'=>
   rw [<-g]
   have h0:rest[0]? = some a:=by rw [g]; rfl
   have ab:0<rest.length:=E2 h0
   have hT:∀b∈rest,b.Lin.Terms.length<1099511627776:=fun b hb=>by have:=(Adu (R.lin b hb)).1; omega
   have af:=R.len
   obtain ⟨m,m1,m2,m3,m4,m5⟩:=Awv h0 hT (by omega)
   have u:rest=rest.take m++rest.drop m:=(List.take_append_drop m rest).symm
   have L:=(u ▸ R:Atk (rest.take m++rest.drop m)).sub
   have y:rest.take m≠[]:=by
    intro h
    have:=congrArg List.length h
    rw [List.length_take] at this
    simp only [List.length_nil] at this
    omega
   obtain ⟨N,f,p1,p2,p3,p4⟩:=Awu L.1 y m4
   have Z:Dc rest=Dc (rest.take m)+Dc (rest.drop m):=by rw [<-R0,List.take_append_drop]
   have ac:=R.sum
   have U:2 ^ Dc rest=2 ^ Dc (rest.take m)*2 ^ Dc (rest.drop m):=by rw [Z,Nat.pow_add]
   have aa:B.length<=1000000:=Nat.le_trans (Nat.le_mul_of_pos_right _ (Nat.pow_pos (by decide))) E
   obtain ⟨T,t1,t2⟩:=Awt (l:=a.Lin) (n:=N+1) A p4 (by omega) hM (by omega) (by omega) (by rw [A.len]; exact aa)
   have z:U9 (j,rest)=some (.inl (T,rest.drop m)):=by
    have Y:Af rest 0=some a:=Ch (n:=0) rfl h0
    have S:D0 rest (m:Int) (rest.length:Int)=some (rest.drop m):=by
     unfold D0
     simp [List.drop_take]
     omega
    unfold U9
    simp only [Ao (by omega:(rest.length:Int)>0),cond_true,Y,Ad,m1,Xp rfl m3,p1,t1,S]
   have ad:(rest.drop m).length+m=rest.length:=by rw [List.length_drop]; omega
   have a8:=Als B a.Lin f (N+1)
   have J:(N+1)*B.length<=B.length*2 ^ Dc (rest.take m):=by
    rw [Nat.mul_comm]
    refine Nat.mul_le_mul_left _ (Nat.le_trans (Aww N) (Nat.pow_le_pow_right (by decide) p3))
   have x:(Ji B a.Lin f (N+1)).length*2 ^ Dc (rest.drop m)<=B.length*2 ^ Dc rest:=by
    rw [U,<-Nat.mul_assoc]
    exact Nat.mul_le_mul_right _ (Nat.le_trans a8 J)
   obtain ⟨gs,i,g1,g2,g3,g4⟩:=ih (rest.drop m) T (Ji B a.Lin f (N+1)) (K+202) (M+1) (by omega) (List.Pairwise.sublist (List.drop_sublist m rest) hS) L.2 t2 (Awx hM) (by omega) (by omega) (Nat.le_trans x E)
   refine ⟨(a.Lin,N,f)::gs,i,by rw [Iw z,g1],?_,g3.mono (by omega),Nat.le_trans g4 x⟩
   have X:∀b∈rest.drop m,Fz a.Lin b.Lin<0:=by
    intro b hb
    cases hd:rest.drop m with
    | nil=>rw [hd] at hb; cases hb
    | cons d D=>
     have q:rest[m]? = some d:=by
      have:=congrArg (fun l=>l[0]?) hd
      simpa using this
     have a6:=m5 d q
     have a7:¬Fz d.Lin a.Lin<0:=by
      have I:=hS
      rw [g] at I
      have a1:d∈r':=by
       have:=Cm q
       have V:m=(m-1)+1:=by omega
       rw [g,V,List.getElem?_cons_succ] at q
       exact Cm q
      exact (List.pairwise_cons.1 I).1 d a1
     have s:Fz a.Lin d.Lin<0:=by
      rcases Int.lt_trichotomy (Fz d.Lin a.Lin) 0 with k | k | k
      .exact (a7 k).elim
      .exact (a6 ((Jg.zero _ _ trivial trivial).1 k)).elim
      .rw [Jg.anti d.Lin a.Lin trivial trivial]; omega
     rw [hd] at hb
     rcases List.mem_cons.1 hb with rfl | hb
     .exact s
     .have G:Y6 (rest.drop m):=List.Pairwise.sublist (List.drop_sublist m rest) hS
      rw [hd] at G
      have h3:=(List.pairwise_cons.1 G).1 b hb
      rcases Int.lt_trichotomy (Fz b.Lin d.Lin) 0 with k | k | k
      .exact (h3 k).elim
      .rw [(Jg.zero _ _ trivial trivial).1 k]; exact s
      .exact Jg.trans a.Lin d.Lin b.Lin trivial trivial trivial s (by rw [Jg.anti b.Lin d.Lin trivial trivial]; omega)
   have:=Gs.cons y m4 X p2 g2
   rwa [List.take_append_drop] at this
end Go.Ab
namespace Go.Ab
open Go
def IsE (A:List Bb) (B:List Ent):Prop:=∃gs b,b.Perm A/\Y6 b/\Gs gs b/\B=U8 [([],1)] gs
theorem Awz {α:Type} (k:α->Int):∀{F R:List α},R.Perm F->R.Pairwise (fun a b=>k a<=k b)->F.Pairwise (fun a b=>k a<k b)->R=F:=by
 intro F
 induction F with
 | nil=>intro R h _ _; exact h.eq_nil
 | cons f F ih=>
  intro R h c g
  cases R with
  | nil=>exact (List.cons_ne_nil _ _ h.symm.eq_nil).elim
  | cons r R=>
   have e:r=f:=by
    rcases List.mem_cons.1 (h.mem_iff.1 (by simp:r∈r::R)) with h1 | h1
    .exact h1
    .have h2:=(List.pairwise_cons.1 g).1 r h1
     rcases List.mem_cons.1 (h.mem_iff.2 (by simp:f∈f::F)) with h3 | h3
     .exact h3.symm
     .have:=(List.pairwise_cons.1 c).1 f h3
      omega
   subst e
   rw [ih h.cons_inv (List.pairwise_cons.1 c).2 (List.pairwise_cons.1 g).2]
structure FOk (data:List Az) (vars:List Aj) (res:Aj) (F:List Bq):Prop where
 asc:F.Pairwise fun a b=>a.Var<b.Var
 one:∀f∈F,(I64 f.Var/\iR f.Index/\Db f.Index<=1048576)/\(tyX vars res f.Var).isSome=true/\1<=El data vars res f
 len:F.length<=6
 vr:∀f∈F,-1<=f.Var/\f.Var<=1000000000
theorem Aw0:Mo (fun a b:Bq=>a.Var-b.Var):=⟨fun _ h=>by omega,fun _ _ _ h1 h2=>by omega,fun _ _ _ h1 h2 h3=>by omega⟩
theorem Aw1 {data:List Az} {vars:List Aj} {res:Aj} {F:List Bq} (h:FOk data vars res F):Qg F=some F:=by
 have f:=h.len
 obtain ⟨R,h1,h2,h3⟩:=Alo (cmp:=Qh) Aw0 F (fun x hx y hy=>by
  have:=h.vr x hx
  have:=h.vr y hy
  unfold Qh
  have w:Ac (x.Var-y.Var)=x.Var-y.Var:=by rw [Ac,Bu] <;> omega
  rw [w]) (by omega)
 have c:R=F:=Awz (·.Var) h2 (h3.imp fun {a b} h=>by omega) h.asc
 subst c
 unfold Qg
 have e:Ww (R.length:Int) R=Y4 Qh (R.length:Int) R:=rfl
 rw [e,h1,Ad,Nm rfl]; rfl
def Lj (b:List (ByteArray×List B7)):Prop:=∀p∈b,∃f:Bq,p.1=Gb f.Var f.Index/\p.2 = [⟨f.Index,cR 1⟩]
theorem Aw2 {data:List Az} {vars:List Aj} {res:Aj} {f:Bq} (h1:I64 f.Var/\iR f.Index/\Db f.Index<=1048576) (h2:(tyX vars res f.Var).isSome=true) {b1:List (ByteArray×Int)} {b2:List (ByteArray×List B7)} (l:Lj b2) :
  ∃q,Qi [f] b1 b2 data vars res.Kind res.Num res.Args=some ([⟨f.Index,cR 1⟩],0,q)/\Lj q:=by
 obtain ⟨t,ht⟩:=Option.isSome_iff_exists.1 h2
 have x:=Yx h1.2.2 ⟨h1.2.1,h1.1⟩
 have i0:Af [f] 0=some f:=rfl
 have i:Gv (Gb f.Var f.Index) []=some (((Em f).length:Int),Em f):=by
  have:=Pf (b:=[]) (By.fac f) (by simp; omega)
  rw [List.nil_append] at this
  exact this
 have s:Ac (0+1)=1:=by rw [Ac,Bu] <;> omega
 have k:Nat.beq (Gb f.Var f.Index).size 0=false:=by
  rw [Auv,Uv]; rfl
 have c:D0 [f] 1 ([f].length:Int)=some []:=rfl
 have h:Lj (Ej b2 (Gb f.Var f.Index) [⟨f.Index,cR 1⟩]):=fun p hp=>by
  rcases Ac4 _ _ _ p hp with hp | rfl
  .exact l p hp
  .exact ⟨f,rfl,rfl⟩
 have j:Kh f.Var b1 b2 data vars res.Kind res.Num res.Args=some t:=Ajx b1 b2 data vars res ht
 unfold Qi
 rw [show decide ((0:Int)<([f].length:Int))=true from rfl,cond_true,i0,Ad,Ac3 _ _ h1.1 h1.2.1 h1.2.2,Ad,i,Ad,s]
 cases hh:D3 b2 (Gb f.Var f.Index) with
 | true=>
  have u:F6 b2 (Gb f.Var f.Index) [] = [⟨f.Index,cR 1⟩]:=by
   unfold F6
   unfold D3 at hh
   cases hf:b2.find? fun p=>Gb f.Var f.Index==p.1 with
   | none=>
    rw [List.find?_eq_none] at hf
    obtain ⟨p,hp,e⟩:=List.any_eq_true.1 hh
    exact (hf p hp e).elim
   | some p=>
    obtain ⟨g,g1,g2⟩:=l p (List.mem_of_find?_eq_some hf)
    have e:=List.find?_some hf
    have e:Gb f.Var f.Index=p.1:=(Nf _ _).1 e
    rw [g1] at e
    obtain ⟨_,y⟩:=Ajm e
    show p.2=_
    rw [g2,y]
  refine ⟨b2,?_,l⟩
  refine bnd (a:=Em f) (Eh rfl) ?_
  rw [Nl (By.fac f),Ad]
  have hb:bs (Em f)=Gb f.Var f.Index:=rfl
  rw [hb,hh,cond_true,u]; rfl
 | false=>
  refine ⟨_,?_,h⟩
  refine bnd (a:=Em f) (Eh rfl) ?_
  rw [Nl (By.fac f),Ad]
  have hb:bs (Em f)=Gb f.Var f.Index:=rfl
  rw [hb,hh,cond_false,Ad]
  dsimp only
  rw [cond_false,Ad,j,Ad,Ad,Yz,Ad,c,Ad]
  refine bnd (a:=()) (Eh rfl) ?_
  unfold Abp
  rw [k,cond_false,Ad]
theorem Aw3 {t:Ai} {P:List Bq} {f:Bq} {K:Nat} (g:t.Mono=⟨P,[]⟩) (l:P.length<=1000) (q:K<30000000000) (h1:RB K t.Coef) :
  ∃u,H6 t (cR 1) ⟨[f],[]⟩=some u/\u.Mono=⟨P++[f],[]⟩/\rq u.Coef=rq t.Coef/\RB (K+5) u.Coef:=by
 obtain ⟨c,j,i,_,h⟩:=Ym (b:=cR 1) (k:=3) h1 ((Rw (k:=1) (by rw [Lc]; decide) (by decide)).mono (by decide)) (by omega) (by decide)
 refine ⟨⟨c,⟨P++[f],[]⟩⟩,?_,rfl,?_,i⟩
 .unfold H6
  rw [j,Ad,g,Alq _ _ (by simp; omega) (by simp)]; rfl
 .rw [h,Nn,show ((1:Nat):Rat)=1 from rfl]; grind
noncomputable def Adv (data:List Az) (vars:List Aj) (N M:Int) (L:List Aj):(List Ai×List Bq×List (ByteArray×Int)×List (ByteArray×List B7))->Option ((List Ai×List Bq×List (ByteArray×Int)×List (ByteArray×List B7))⊕((List Ai×Int×List (ByteArray×Int)×List (ByteArray×List B7))⊕(List Ai×List (ByteArray×Int)×List (ByteArray×List B7)))):=fun (v105,c,i,x)=>
 bif (decide ((c.length:Int)>(0:Int))) then (
 (Af c 0).bind fun v109=>
 (Al (S:=Int) (E:=Int) (fun f=>
 bif (decide (f<(c.length:Int))) then (
 (Af c f).bind fun A=>
 bif (A.Var==v109.Var) then (
 some (.inl (Ac (f+1)))
 )
 else (
 some (.inr f)
 )
 )
 else (
 some (.inr f)
 )
  ) 1).bind fun k=>
 (D0 c 0 k).bind fun z=>
 (Qi z i x data vars N M L).bind fun b=>
 bif (b.2.1 != (0:Int)) then (
 some (.inr (.inl ([],b.2.1,i,b.2.2)))
 )
 else (
 (Al (S:=(Int×(List (ByteArray×Int))×(List Ai))) (E:=(Int×(List (ByteArray×Int))×(List Ai))) (fun (h,u,s)=>
 bif (decide (h<(v105.length:Int))) then (
 (Af v105 h).bind fun v175=>
 (Al (S:=(Int×(List (ByteArray×Int))×(List Ai))) (E:=(Int×(List (ByteArray×Int))×(List Ai))) (fun (g,q,l)=>
 bif (decide (g<(b.1.length:Int))) then (
 (Af b.1 g).bind fun v193=>
 (Mt v109.Var v193.Index q b.2.2 data vars N M L).bind fun j=>
 (H6 v175 v193.Coef (Bc.mk j.1 [])).bind fun v196=>
 (B4 104 l [v196]).bind fun J=>
 some (.inl ((Ac (g+1)),j.2,J))
 )
 else (
 some (.inr (g,q,l))
 )
  ) (0,u,s)).bind fun (v198,I,G)=>
 some (.inl ((Ac (h+1)),I,G))
 )
 else (
 some (.inr (h,u,s))
 )
  ) (0,i,[])).bind fun (v201,D,B)=>
 (D0 c k c.length).bind fun y=>
 some (.inl (B,y,D,b.2.2))
 )
 )
 else (
 some (.inr (.inr (v105,i,x)))
 )
theorem Aw4 {c:Ak} {K:Nat} {data:List Az} {vars:List Aj} {res:Aj} {F:List Bq} {A:List Bb} (hx:Ni data vars res) (hc:RB K c) (hK:K<20000000000) (h0:rq c≠0) (hF:FOk data vars res F) (hA:Atk A) {b1:List (ByteArray×Int)} {b2:List (ByteArray×List B7)} (m1:Dj data vars res b1) (m2:Lj b2) :
  ∃out B q k,N8 c ⟨F,A⟩ b1 b2 data vars res.Kind res.Num res.Args=some (out,0,q,k)/\IsE A B/\Ff ⟨F,by have:=hF.len; omega⟩ (rq c) (K+2454) out B/\out.length<=2 ^ Dc A/\Dj data vars res q/\Lj k/\(F = []->q=b1/\k=b2):=by
 have ao:=hF.len
 have hT:∀b∈A,b.Lin.Terms.length<1099511627776:=fun b hb=>by have:=(Adu (hA.lin b hb)).1; omega
 have aj:=hA.len
 have ai:=hA.sum
 obtain ⟨S,s1,U,s3⟩:=Awn A hT (by omega)
 have J:Atk S:=⟨fun a ha=>hA.deg a (U.mem_iff.1 ha),fun a ha=>hA.lin a (U.mem_iff.1 ha),by rw [Alm U]; exact ai,by rw [U.length_eq]; exact aj⟩
 have hp:2 ^ Dc S<=4096:=Nat.le_trans (Nat.pow_le_pow_right (by decide) J.sum) (by decide)
 have ad:L9 (rq c)≠0:=by
  unfold L9
  split
  .decide
  .split
   .decide
   .rename_i h1 h2
    exact (h0 (by grind)).elim
 have ah:Qj A=some ([],A):=by
  unfold Qj Mp
  rw [Dp (by simp; omega)]; rfl
 have ab:Qf F=some ([],F):=by
  unfold Qf Mp
  rw [Dp (by simp; omega)]; rfl
 unfold N8
 rw [(Yn hc (by omega)).1,Ad,C2 ad,cond_false,ab,Ad]
 dsimp only
 rw [Aw1 hF,Ad,Nm rfl,Ad]
 obtain ⟨e,e1,e2⟩:=Ln (step:=Adv data vars res.Kind res.Num res.Args) (fun s=>∃(j:Nat) (t:Ai),j<=F.length/\s.1 = [t]/\s.2.1=F.drop j/\t.Mono=⟨F.take j,[]⟩/\rq t.Coef=rq c/\RB (K+5*j) t.Coef/\Dj data vars res s.2.2.1/\Lj s.2.2.2/\(F = []->s.2.2.1=b1/\s.2.2.2=b2)) (fun s=>s.2.1.length)
   (fun e=>∃t q k,e = .inr ([t],q,k)/\t.Mono=⟨F,[]⟩/\rq t.Coef=rq c/\RB (K+30) t.Coef/\Dj data vars res q/\Lj k/\(F = []->q=b1/\k=b2))
   (by
    rintro ⟨o,r,c1,c2⟩ ⟨j,t,hj,e1,e2,e3,e4,e5,e6,e7,e8⟩
    dsimp only at e1 e2 e6 e7 e8 ⊢
    subst e1 e2
    rcases Nat.lt_or_ge j F.length with h | h
    .left
     have V:F[j]? = some F[j]:=Ci h
     have R:=List.getElem_mem h
     generalize F[j]=f at V R
     obtain ⟨k1,k2,k3⟩:=hF.one f R
     have hd:=Lg V
     have ag:(F.drop j).length=F.length-j:=List.length_drop
     have i0:Af (F.drop j) 0=some f:=Ch (n:=0) rfl (by rw [hd]; rfl)
     unfold Adv
     dsimp only
     rw [Ao (by omega),cond_true,i0,Ad]
     have Y:Al (S:=Int) (E:=Int) (fun y=>
       bif (decide (y<((F.drop j).length:Int))) then (
       (Af (F.drop j) y).bind fun a1=>
       bif (a1.Var==f.Var) then (
       some (.inl (Ac (y+1))))
       else (
       some (.inr y)))
       else (some (.inr y))) 1=some 1:=by
      refine Eh ?_
      rcases Nat.lt_or_ge 1 (F.drop j).length with h' | h'
      .have ac:(F.drop j)[1]? = some ((F.drop j)[1]):=Ci h'
       have ak:f.Var<((F.drop j)[1]).Var:=by
        have hp:=(List.pairwise_iff_getElem.1 (hF.asc.sublist (List.drop_sublist j F))) 0 1 (by omega) h' (by decide)
        have e0:(F.drop j)[0]=f:=by
         have:=Ci (l:=F.drop j) (i:=0) (by omega)
         rw [show (F.drop j)[0]? = some f by rw [hd]; rfl] at this
         exact (Option.some.inj this).symm
        rw [e0] at hp; exact hp
       have i1:Af (F.drop j) 1=some ((F.drop j)[1]):=Ch (n:=1) rfl ac
       rw [Ao (by omega),cond_true,i1,Ad,C2 (by omega),cond_false]
      .rw [Av (by omega),cond_false]
     rw [Y,Ad]
     have a8:D0 (F.drop j) 0 1=some [f]:=by
      rw [hd]
      unfold D0
      rw [if_pos (by simp only [List.length_cons]; omega)]; rfl
     have X:D0 (F.drop j) 1 ((F.drop j).length:Int)=some (F.drop (j+1)):=by
      have e:D0 (F.drop j) 1 ((F.drop j).length:Int)=some ((F.drop j).drop 1):=by
       generalize F.drop j=L at ag
       unfold D0
       rw [if_pos (by omega)]; simp
      rw [e,List.drop_drop]
     obtain ⟨b',p1,p2⟩:=Aw2 (b1:=c1) k1 k2 e7 (data:=data)
     obtain ⟨u,u1,u2,u3,u4⟩:=Aw3 (f:=f) e3 (by rw [List.length_take]; omega) (by omega) e5
     obtain ⟨Z,q1,q2⟩:=Up (b2:=b') hx e6 f k1.1 k1.2.1 k1.2.2 k2
     have af:Mt f.Var f.Index c1 b' data vars res.Kind res.Num res.Args=some ([f],Z):=by
      unfold Mt
      rw [q1,Ad]
      dsimp only
      rw [C2 (by omega),cond_false]
     have w1:Ac (0+1)=1:=by rw [Ac,Bu] <;> omega
     rw [a8,Ad,p1,Ad]
     dsimp only
     rw [F8 rfl,cond_false]
     have ae:Al (S:=(Int×(List (ByteArray×Int))×(List Ai))) (E:=(Int×(List (ByteArray×Int))×(List Ai))) (fun (g,D,z)=>
       bif (decide (g<(([⟨f.Index,cR 1⟩]:List B7).length:Int))) then (
       (Af ([⟨f.Index,cR 1⟩]:List B7) g).bind fun v193=>
       (Mt f.Var v193.Index D b' data vars res.Kind res.Num res.Args).bind fun x=>
       (H6 t v193.Coef (Bc.mk x.1 [])).bind fun v196=>
       (B4 104 z [v196]).bind fun I=>
       some (.inl ((Ac (g+1)),x.2,I)))
       else (some (.inr (g,D,z)))) (0,c1,[])=some (1,Z,[u]):=by
      refine (Iw (s':=(1,Z,[u])) ?_).trans (Eh rfl)
      dsimp only
      rw [Ao (by simp),cond_true,show Af ([⟨f.Index,cR 1⟩]:List B7) 0=some ⟨f.Index,cR 1⟩ from rfl,Ad]
      dsimp only
      rw [af,Ad]
      dsimp only
      rw [u1,Ad,Dp (by simp),Ad,w1]; rfl
     have aa:Al (S:=(Int×(List (ByteArray×Int))×(List Ai))) (E:=(Int×(List (ByteArray×Int))×(List Ai))) (fun (G,N,M)=>
       bif (decide (G<([t].length:Int))) then (
       (Af [t] G).bind fun v175=>
       (Al (S:=(Int×(List (ByteArray×Int))×(List Ai))) (E:=(Int×(List (ByteArray×Int))×(List Ai))) (fun (g,D,z)=>
       bif (decide (g<(([⟨f.Index,cR 1⟩]:List B7).length:Int))) then (
       (Af ([⟨f.Index,cR 1⟩]:List B7) g).bind fun v193=>
       (Mt f.Var v193.Index D b' data vars res.Kind res.Num res.Args).bind fun x=>
       (H6 v175 v193.Coef (Bc.mk x.1 [])).bind fun v196=>
       (B4 104 z [v196]).bind fun I=>
       some (.inl ((Ac (g+1)),x.2,I)))
       else (some (.inr (g,D,z)))) (0,N,M)).bind fun (v198,a7,a6)=>
       some (.inl ((Ac (G+1)),a7,a6)))
       else (some (.inr (G,N,M)))) (0,c1,[])=some (1,Z,[u]):=by
      refine (Iw (s':=(1,Z,[u])) ?_).trans (Eh rfl)
      dsimp only
      rw [Ao (by simp),cond_true,show Af [t] 0=some t from rfl,Ad]
      exact bnd ae (by rw [w1])
     refine ⟨([u],F.drop (j+1),Z,b'),bnd aa ?_,⟨j+1,u,by omega,rfl,rfl,by rw [u2,Dy V],by rw [u3,e4],u4.mono (by omega),q2,p2,fun e=>?_⟩,?_⟩
     .dsimp only
      rw [X,Ad]
     .rw [e] at h; simp at h
     .dsimp only
      rw [List.length_drop,List.length_drop]; omega
    .right
     have:j=F.length:=by omega
     subst this
     unfold Adv
     dsimp only
     rw [List.drop_length,Av (by simp),cond_false]
     exact ⟨_,rfl,t,c1,c2,rfl,by rw [e3,List.take_length],e4,e5.mono (by omega),e6,e7,e8⟩)
   ([⟨c,⟨[],[]⟩⟩],F,b1,b2) ⟨0,⟨c,⟨[],[]⟩⟩,by omega,rfl,rfl,rfl,rfl,hc.mono (by omega),m1,m2,fun _=>⟨rfl,rfl⟩⟩
 obtain ⟨t,q,k,rfl,t1,t2,t3,t4,t5,t6⟩:=e2
 obtain ⟨gs,out,g1,g2,g3,g4⟩:=Awy (F:=⟨F,by omega⟩) (c:=rq c) S.length S [t] [([],1)] (K+30) 0 (Nat.le_refl _) s3 J (.cons t1 (by rw [t2]; simp) t3 .nil) (fun b hb=>by simp only [List.mem_singleton] at hb; subst hb; simp) (by have:=J.len; omega) (by have:=J.len; omega) (by simp only [List.length_singleton,Nat.one_mul]; omega)
 have am:=J.len
 refine ⟨out,_,q,k,bnd e1 ?_,⟨gs,S,U,s3,g2,rfl⟩,g3.mono (by omega),by rw [<-Alm U]; simpa using g4,t4,t5,t6⟩
 dsimp only
 rw [ah,Ad]
 dsimp only
 rw [s1,Ad,Nm U.length_eq.symm,Ad]
 exact bnd g1 rfl
end Go.Ab
namespace Go.Ab
open Go
def ec:List Ent->Bc->Nat
 | [],_=>0
 | b::bs,m=>(if Cz ⟨[],b.1⟩ m=0 then b.2 else 0)+ec bs m
theorem Rep.mem {c:Rat} {K:Nat} {ts:List Ai} {bs:List Ent} (h:Rep c K ts bs) {t:Ai} (ht:t∈ts):∃b∈bs,t.Mono=⟨[],b.1⟩/\rq t.Coef=c*(b.2:Rat)/\RB K t.Coef:=by
 obtain ⟨j,f⟩:=List.getElem?_of_mem ht
 obtain ⟨b,b1,b2⟩:=h.get f
 exact ⟨b,Cm b1,b2⟩
def Adw (L:Nat) (p:List Ai):Prop:=∀t∈p,∃z:Int,rq t.Coef=(z:Rat)/\Ba z.natAbs<=L
theorem Aw5 {a:Ak} {z:Int} (ha:Ha a) (h:rq a=(z:Rat)):a=Bg (decide (z<0)) z.natAbs 1:=by
 refine Aj8 ha (Nk _ _ _ (by decide)) ?_
 rw [h,Jz _ _ _ (by decide),Adp]
 congr 1
 unfold sg
 by_cases h:z<0
 .rw [Ao h,if_pos rfl]; omega
 .rw [Av h,if_neg (by decide)]; omega
theorem Aw6 {a:Ak} {z:Int} {L:Nat} (ha:Ha a) (h:rq a=(z:Rat)) (b:Ba z.natAbs<=L):RB (L+1) a:=by
 rw [Aw5 ha h]
 exact Kq _ _ _ _ (by omega) (by rw [Lc]; omega) (by omega)
theorem Adw.of {p:List Ai} {L:Nat} (hc:CP p) (h:∀m,∃z:Int,cf p m=(z:Rat)/\Ba z.natAbs<=L):Adw L p:=fun t ht=>by
 obtain ⟨z,b,z2⟩:=h t.Mono
 exact ⟨z,by rw [<-Aul hc ht]; exact b,z2⟩
structure IP (x:Cw) (n L:Nat) (f:Bc->Rat) (R:List Ai):Prop where
 cp:CP R
 val:∀m,cf R m=f m
 mo:∀t∈R,Jh x t.Mono
 len:R.length<=n
 int:Adw L R
theorem IP.can {x:Cw} {n L:Nat} {f:Bc->Rat} {R:List Ai} (h:IP x n L f R) (c:n<=1000) (g:L<=1000000):Ip x R :=
 Ip.of h.cp h.mo (fun t ht=>by
  obtain ⟨z,b,z2⟩:=h.int t ht
  exact (Aw6 (h.cp.coe t ht).1 b z2).mono (by omega)) (by have:=h.len; omega)
theorem IP.ext {x y:Cw} {n L b c:Nat} {f g:Bc->Rat} {R S:List Ai} (h:IP x n L f R) (h':IP y b c g S) (e:∀m,f m=g m):R=S:=CP.ext h.cp h'.cp fun m=>by rw [h.val,h'.val,e]
end Go.Ab
namespace Go.Ab
open Go
def cl:List B6->Int->Int
 | [],_=>0
 | t::l,v=>(if t.Var=v then t.Coef else 0)+cl l v
theorem Va {l:List B6} {v:Int} (h:∀t∈l,t.Var≠v):cl l v=0:=by
 induction l with
 | nil=>rfl
 | cons t l ih=>simp only [cl]; rw [if_neg (h t (by simp)),ih fun u hu=>h u (by simp [hu])]; rfl
structure Adx (L:List B6):Prop where
 srt:L.Pairwise fun a b=>a.Var<b.Var
 nz:∀t∈L,t.Coef≠0
theorem Adx.ext:∀{L M:List B6},Adx L->Adx M->(∀v,cl L v=cl M v)->L=M:=by
 intro L
 induction L with
 | nil=>
  intro M _ b h
  cases M with
  | nil=>rfl
  | cons t M=>
   have:=h t.Var
   simp only [cl,if_true] at this
   rw [Va fun u hu=>by have:=(List.pairwise_cons.1 b.srt).1 u hu; omega] at this
   exact (b.nz t (by simp) (by omega)).elim
 | cons s L ih=>
  intro M c b h
  have g:cl (s::L) s.Var=s.Coef:=by
   simp only [cl,if_true]
   rw [Va fun u hu=>by have:=(List.pairwise_cons.1 c.srt).1 u hu; omega]; omega
  cases M with
  | nil=>
   have:=h s.Var
   rw [g] at this
   exact (c.nz s (by simp) (by simpa [cl] using this)).elim
  | cons t M=>
   have ht:cl (t::M) t.Var=t.Coef:=by
    simp only [cl,if_true]
    rw [Va fun u hu=>by have:=(List.pairwise_cons.1 b.srt).1 u hu; omega]; omega
   have f:s.Var=t.Var:=by
    rcases Int.lt_trichotomy s.Var t.Var with k | k | k
    .have h1:=h s.Var
     rw [g,Va (l:=t::M) fun u hu=>by
      rcases List.mem_cons.1 hu with rfl | hu
      .omega
      .have:=(List.pairwise_cons.1 b.srt).1 u hu; omega] at h1
     exact (c.nz s (by simp) h1).elim
    .exact k
    .have h1:=h t.Var
     rw [ht,Va (l:=s::L) fun u hu=>by
      rcases List.mem_cons.1 hu with rfl | hu
      .omega
      .have:=(List.pairwise_cons.1 c.srt).1 u hu; omega] at h1
     exact (b.nz t (by simp) h1.symm).elim
   have hc:s.Coef=t.Coef:=by rw [<-g,<-ht,h,f]
   have e:s=t:=by cases s; cases t; simp only at f hc; rw [f,hc]
   subst e
   rw [ih (M:=M) ⟨(List.pairwise_cons.1 c.srt).2,fun u hu=>c.nz u (by simp [hu])⟩ ⟨(List.pairwise_cons.1 b.srt).2,fun u hu=>b.nz u (by simp [hu])⟩ fun v=>by
    have:=h v
    simp only [cl] at this; omega]
end Go.Ab
namespace Go.Ab
open Go
end Go.Ab
namespace Go.Ab
open Go
theorem Aw7 {data:List Az} {vars:List Aj} {res:Aj} {b1:List (ByteArray×Int)} (b2:List (ByteArray×List B7)) (hc:Ni data vars res) (A:Dj data vars res b1) (m:Bc) (l:MSz m) (hp:Jd data vars res m=true) :
  ∃p:Int×List (ByteArray×Int),Mr m b1 b2 data vars res.Kind res.Num res.Args=some p/\(p.1=D9 data vars res m.Factors+Eu m.Atoms\/(6<p.1/\6<D9 data vars res m.Factors+Eu m.Atoms))/\Dj data vars res p.2:=by
 have hf:=l.nf
 have ha:=l.na
 unfold Jd at hp
 rw [Di,List.all_eq_true,List.all_eq_true] at hp
 unfold Mr
 refine D6 (fun (v5,u,g)=>∃j:Nat,u=j/\j<=m.Factors.length/\Dj data vars res g/\0<=v5/\v5<=12/\(v5=D9 data vars res (m.Factors.take j)\/(6<v5/\6<D9 data vars res (m.Factors.take j)))) (fun (_,u,_)=>m.Factors.length-u.toNat)
  (fun (v5,g)=>Dj data vars res g/\0<=v5/\v5<=12/\(v5=D9 data vars res m.Factors\/(6<v5/\6<D9 data vars res m.Factors))) ⟨0,rfl,by omega,A,by omega,by omega,.inl (by simp [D9])⟩ ?_ ?_
 .rintro ⟨v5,u,g⟩ ⟨j,rfl,B,q,h0,h12,k⟩
  rcases Nat.lt_or_ge j m.Factors.length with h | h
  .have hx:m.Factors[j]? = some m.Factors[j]:=Ci h
   generalize m.Factors[j]=f at hx
   have c:=Cm hx
   have hd:=hp.1 f c
   rw [decide_eq_true_eq] at hd
   have D:=(Ajy data vars res f).2
   have es:D9 data vars res (m.Factors.take (j+1))=D9 data vars res (m.Factors.take j)+El data vars res f:=Aj0 _ hx
   simp only [Ao (by omega:(j:Int)<(m.Factors.length:Int)),cond_true,Ch rfl hx,Ad,C9 h (by omega)]
   by_cases s:v5<=6
   .have x:(tyX vars res f.Var).isSome=true:=by
     unfold El at hd
     cases ht:tyX vars res f.Var with
     | none=>rw [ht] at hd; have hd:(0:Int)<=-1:=hd; omega
     | some t=>rfl
    obtain ⟨E,d1,d2⟩:=Up b2 hc q f (l.fr f c).2 (l.fr f c).1 (l.fi f c) x
    rw [Ao s]
    simp only [cond_true,d1,Ad]
    have b:Ac (v5+El data vars res f)=v5+El data vars res f:=by rw [Ac,Bu] <;> omega
    exact .inl ⟨_,rfl,⟨j+1,rfl,by omega,d2,by simp only [b]; omega,by simp only [b]; omega,by simp only [b,es]; omega⟩,by simp; omega⟩
   .rw [Av s]
    exact .inl ⟨_,rfl,⟨j+1,rfl,by omega,q,h0,h12,by simp only [es]; omega⟩,by simp; omega⟩
  .have:j=m.Factors.length:=by omega
   subst this
   rw [List.take_length] at k
   exact .inr ⟨(v5,g),by simp,q,h0,h12,k⟩
 .rintro ⟨v5,g⟩ ⟨q,h0,h12,k⟩
  simp only
  refine D6 (fun (v,i)=>∃j:Nat,i=j/\j<=m.Atoms.length/\0<=v/\v<=13/\(v=D9 data vars res m.Factors+Eu (m.Atoms.take j)\/(6<v/\6<D9 data vars res m.Factors+Eu (m.Atoms.take j)))) (fun (_,i)=>m.Atoms.length-i.toNat)
   (fun v=>(v=D9 data vars res m.Factors+Eu m.Atoms\/(6<v/\6<D9 data vars res m.Factors+Eu m.Atoms))) ⟨0,rfl,by omega,h0,by omega,by simpa [Eu] using k⟩ ?_ ?_
  .rintro ⟨v,i⟩ ⟨j,rfl,B,g0,g13,z⟩
   rcases Nat.lt_or_ge j m.Atoms.length with h | h
   .have hx:m.Atoms[j]? = some m.Atoms[j]:=Ci h
    generalize m.Atoms[j]=a at hx
    have hd:=hp.2 a (Cm hx)
    rw [Di,decide_eq_true_eq] at hd
    have es:=Aj1 hx
    simp only [Ao (by omega:(j:Int)<(m.Atoms.length:Int)),cond_true,Ch rfl hx,Ad,C9 h (by omega)]
    by_cases s:v<=6
    .rw [Ao s]
     simp only [cond_true]
     by_cases y:7<a.Deg
     .rw [if_pos y]
      have b:Ac (v+7)=v+7:=by rw [Ac,Bu] <;> omega
      exact .inl ⟨_,rfl,⟨j+1,rfl,by omega,by simp only [b]; omega,by simp only [b]; omega,by simp only [b,es]; omega⟩,by simp; omega⟩
     .rw [if_neg y]
      have b:Ac (v+a.Deg)=v+a.Deg:=by rw [Ac,Bu] <;> omega
      exact .inl ⟨_,rfl,⟨j+1,rfl,by omega,by simp only [b]; omega,by simp only [b]; omega,by simp only [b,es]; omega⟩,by simp; omega⟩
    .rw [Av s]
     exact .inl ⟨_,rfl,⟨j+1,rfl,by omega,g0,g13,by simp only [es]; omega⟩,by simp; omega⟩
   .have:j=m.Atoms.length:=by omega
    subst this
    rw [List.take_length] at z
    exact .inr ⟨v,by simp,z⟩
  .intro v k
   exact ⟨(v,g),rfl,k,q⟩
def Alt (x:Cw) (m:Bc):Int:=D9 x.Data x.Vars x.Res m.Factors+Eu m.Atoms
theorem Aw8 {α:Type} (f:α->Int):∀(l:List α),(∀j x,l[j]? = some x->Lh f l x j=true)->l.Pairwise fun a b=>f a<f b:=by
 intro l h
 rw [List.pairwise_iff_getElem]
 have step:∀i (c:i+1<l.length),f l[i]<f l[i+1]:=fun i c=>by
  have:=h (i+1) _ (Ci c)
  unfold Lh at this
  rw [show i+1-1=i by omega,Ci (by omega:i<l.length)] at this
  simpa using this
 intro i j c g k
 induction j with
 | zero=>omega
 | succ j ih=>
  have h1:=step j g
  rcases Nat.lt_or_ge i j with h2 | h2
  .have:=ih (by omega) h2; omega
  .have:i=j:=by omega
   subst this; exact h1
structure Alu (x:Cw) (m:Bc):Prop where
 fac:∀f∈m.Factors,1<=El x.Data x.Vars x.Res f
 asc:m.Factors.Pairwise fun a b=>a.Var<b.Var
 atm:∀a∈m.Atoms,1<=a.Deg/\Gx a.Lin=true/\a.Lin.Terms.length≠0/\Jx x.Vars x.Res a.Lin=true
 srt:m.Atoms.Pairwise fun a b=>Fz a.Lin b.Lin<0
 deg:Alt x m<=6
theorem Jh.f {x:Cw} {m:Bc} (h:Jh x m):Alu x m:=by
 have hc:=h.1
 unfold Je at hc
 rw [Di,Di,decide_eq_true_eq] at hc
 obtain ⟨⟨h1,h2⟩,h3⟩:=hc
 have g1:∀j f,m.Factors[j]? = some f->1<=El x.Data x.Vars x.Res f/\Lh (·.Var) m.Factors f j=true:=fun j f b=>by
  have:=Ig h1 b
  unfold Un at this
  rw [Di,decide_eq_true_eq] at this
  exact this
 have g2:∀j a,m.Atoms[j]? = some a->(1<=a.Deg/\Gx a.Lin=true/\a.Lin.Terms.length≠0/\Jx x.Vars x.Res a.Lin=true)/\O9 m.Atoms a j=true:=fun j a b=>by
  have:=Ig h2 b
  unfold Uo at this
  simp only [Di,decide_eq_true_eq,Bool.not_eq_true',beq_eq_false_iff_ne,ne_eq] at this
  exact ⟨⟨this.1.1.1.1,this.1.1.1.2,this.1.1.2,this.1.2⟩,this.2⟩
 refine ⟨fun f hf=>?_,Aw8 _ _ fun j f b=>(g1 j f b).2,fun a ha=>?_,?_,h3⟩
 .obtain ⟨j,b⟩:=List.getElem?_of_mem hf
  exact (g1 j f b).1
 .obtain ⟨j,b⟩:=List.getElem?_of_mem ha
  exact (g2 j a b).1
 .have step:∀j x y,m.Atoms[j]? = some x->m.Atoms[j+1]? = some y->Fz x.Lin y.Lin<0:=by
   intro j x y hx hy
   have:=(g2 (j+1) y hy).2
   unfold O9 at this
   rw [Nat.add_sub_cancel,hx] at this
   simpa using this
  have c:∀d j x y,m.Atoms[j]? = some x->m.Atoms[j+d+1]? = some y->Fz x.Lin y.Lin<0:=by
   intro d
   induction d with
   | zero=>exact fun j x y h1 h2=>step j x y h1 h2
   | succ d ih=>
    intro j x y h1 h2
    have g:m.Atoms[j+d+1]? = some (m.Atoms[j+d+1]'(by have:=E2 h2; omega)):=Ci _
    exact Y5.trs _ _ _ (ih j x _ h1 g) (step _ _ _ g h2)
  rw [List.pairwise_iff_getElem]
  intro i j l b k
  obtain ⟨d,hd⟩:∃d,j=i+d+1:=⟨j-i-1,by omega⟩
  subst hd
  exact c d i _ _ (Ci l) (Ci b)
theorem Alv {x:Cw} {m:Bc} (h:Alu x m):Jd x.Data x.Vars x.Res m=true:=by
 unfold Jd
 rw [Di,List.all_eq_true,List.all_eq_true]
 refine ⟨fun f hf=>decide_eq_true (by have:=h.fac f hf; omega),fun a ha=>?_⟩
 obtain ⟨h1,_,_,b⟩:=h.atm a ha
 rw [b,Ao (by omega)]; rfl
theorem Aw9 {x:Cw} (c:CSz x) {m:Bc} (h:Jh x m):FOk x.Data x.Vars x.Res m.Factors:=by
 have b:∀f∈m.Factors,(tyX x.Vars x.Res f.Var).isSome=true:=fun f hf=>by
  have h1:=h.f.fac f hf
  unfold El at h1
  cases ht:tyX x.Vars x.Res f.Var with
  | none=>rw [ht] at h1; exact absurd (show (1:Int)<=-1 from h1) (by decide)
  | some t=>rfl
 refine ⟨h.f.asc,fun f hf=>⟨⟨(h.2.fr f hf).2,(h.2.fr f hf).1,h.2.fi f hf⟩,b f hf,h.f.fac f hf⟩,h.cmo.nf,fun f hf=>?_⟩
 have h1:=b f hf
 rw [Ajv,decide_eq_true_eq] at h1
 have:=c.nv
 omega
theorem Axa {a b:Ak} {j k:Nat} (ha:RB j a) (hb:RB k b) (l:j<17179868000) (hk:k<17179868000) (h0:rq b≠0):∃c,P5 a b=some (c,true)/\RB (j+k+2) c/\Ha c/\rq c*rq b=rq a:=by
 have f:nv b≠0:=by
  intro h
  apply h0
  unfold rq
  rw [h]
  unfold sg
  cases sv b <;> simp
 have hd:dv a*nv b≠0:=Nat.mul_ne_zero (D8 a) f
 have h1:=ha.nv
 have h2:=ha.dv
 have h3:=hb.nv
 have u:=hb.dv
 have s:=F9 (nv a) (dv b)
 have q:=F9 (dv a) (nv b)
 refine ⟨_,Ar8 a b j k ha hb (by omega) (by omega) f,Kq _ _ _ _ (by omega) (by omega) (by omega),Nk _ _ _ hd,?_⟩
 rw [Jz _ _ _ hd]
 unfold rq
 rw [Rat.mkRat_mul_mkRat,<-Aj9]
 have e:((sv a != sv b) != sv b)=sv a:=by cases sv a <;> cases sv b <;> rfl
 rw [e,show nv a*dv b*nv b=nv a*(nv b*dv b) by grind,show dv a*nv b*dv b=dv a*(nv b*dv b) by grind]
 have i:nv b*dv b≠0:=Nat.mul_ne_zero f (D8 b)
 have g:sg (sv a) (nv a*(nv b*dv b))=sg (sv a) (nv a)*((nv b*dv b:Nat):Int):=by
  unfold sg
  cases sv a <;> simp [Int.neg_mul]
 rw [g,Rat.mkRat_mul_right i]
end Go.Ab
namespace Go.Ab
open Go
def lX:Cw:=(Cw.mk [(Az.mk (ByteArray.mk #[76]) 1 [(Kk.mk (ByteArray.mk #[78]) []),(Kk.mk (ByteArray.mk #[67]) [(Aj.mk 4 0 []),(Aj.mk 5 0 [(Aj.mk 4 0 [])])])])] [(Aj.mk 5 0 [(Aj.mk 1 0 [])]),(Aj.mk 5 0 [(Aj.mk 1 0 [])])] (Aj.mk 1 0 []))
def mI (k:Nat):Be:=⟨0,List.replicate k ⟨1,[⟨0,[]⟩]⟩⟩
def mK (w:Int):Nat->Bc
 | 0=>⟨[],[]⟩
 | k+1=>⟨[⟨w,mI (k+1)⟩],[]⟩
theorem R4:CSz lX:=by
 refine ⟨⟨by decide,?_,?_,?_⟩,by decide,?_,by decide⟩
 .intro x hx
  simp only [lX,List.mem_singleton] at hx
  subst hx
  refine ⟨by decide,fun y hy=>?_⟩
  simp only [List.mem_cons,List.not_mem_nil,or_false] at hy
  rcases hy with rfl | rfl <;> decide
 .intro x hx
  simp only [lX,List.mem_singleton] at hx
  subst hx
  decide
 .intro x hx y hy
  simp only [lX,List.mem_singleton] at hx
  subst hx
  simp only [List.mem_cons,List.not_mem_nil,or_false] at hy
  rcases hy with rfl | rfl <;> decide
 .intro t ht
  simp only [lX,List.mem_cons,List.not_mem_nil,or_false] at ht
  rcases ht with rfl | rfl <;> decide
def oR:Ak:=⟨false,[1],[1]⟩
def J1 (w:Int):List Ai:=[⟨oR,mK w 0⟩,⟨oR,mK w 1⟩,⟨oR,mK w 2⟩,⟨oR,mK w 3⟩,⟨oR,mK w 4⟩,⟨oR,mK w 5⟩]
theorem Axb:Js lX (J1 0)=some true:=by kernel_rfl
theorem Axc:Js lX (J1 1)=some true:=by kernel_rfl
theorem Axd:Wo=some true:=by kernel_rfl
theorem lK1 (w:Int):Kb w 1=some (mK w 1):=by kernel_rfl
theorem lK2 (w:Int):Kb w 2=some (mK w 2):=by kernel_rfl
theorem lK3 (w:Int):Kb w 3=some (mK w 3):=by kernel_rfl
theorem lK4 (w:Int):Kb w 4=some (mK w 4):=by kernel_rfl
theorem lK5 (w:Int):Kb w 5=some (mK w 5):=by kernel_rfl
theorem Axe:Gj lX ⟨0,mI 1⟩=some (1,1,true):=by kernel_rfl
theorem Axf:Gj lX ⟨0,mI 2⟩=some (1,2,true):=by kernel_rfl
theorem Axg:Gj lX ⟨0,mI 3⟩=some (1,3,true):=by kernel_rfl
theorem Axh:Gj lX ⟨0,mI 4⟩=some (1,4,true):=by kernel_rfl
theorem Axi:Gj lX ⟨0,mI 5⟩=some (1,5,true):=by kernel_rfl
theorem Axj:Gj lX ⟨1,mI 1⟩=some (1,1,true):=by kernel_rfl
theorem Axk:Gj lX ⟨1,mI 2⟩=some (1,2,true):=by kernel_rfl
theorem Axl:Gj lX ⟨1,mI 3⟩=some (1,3,true):=by kernel_rfl
theorem Axm:Gj lX ⟨1,mI 4⟩=some (1,4,true):=by kernel_rfl
theorem Axn:Gj lX ⟨1,mI 5⟩=some (1,5,true):=by kernel_rfl
theorem Ady {w:Int} (hw:w=0\/w=1):∀{k:Nat},k<5->Gj lX ⟨w,mI (k+1)⟩=some (1,((k+1:Nat):Int),true):=by
 intro k hk
 rcases hw with rfl | rfl
 .match k,hk with
  | 0,_=>exact Axe
  | 1,_=>exact Axf
  | 2,_=>exact Axg
  | 3,_=>exact Axh
  | 4,_=>exact Axi
 .match k,hk with
  | 0,_=>exact Axj
  | 1,_=>exact Axk
  | 2,_=>exact Axl
  | 3,_=>exact Axm
  | 4,_=>exact Axn
theorem Axo (w:Int):∀{k:Nat},k<5->Kb w ((k+1:Nat):Int)=some (mK w (k+1)):=by
 intro k hk
 match k,hk with
 | 0,_=>exact lK1 w
 | 1,_=>exact lK2 w
 | 2,_=>exact lK3 w
 | 3,_=>exact lK4 w
 | 4,_=>exact lK5 w
theorem Pg {w:Int} (hw:w=0\/w=1) {k:Nat} (hk:k<=5):MSz (mK w k):=by
 have b:I64 w:=by unfold I64; omega
 match k,hk with
 | 0,_=>exact ⟨by simp [mK],by simp [mK],fun f hf=>by simp [mK] at hf,fun f hf=>by simp [mK] at hf,fun a ha=>by simp [mK] at ha⟩
 | k+1,hk=>
  have c:Db (mI (k+1))<=1048576:=by
   match k,hk with
   | 0,_=>decide
   | 1,_=>decide
   | 2,_=>decide
   | 3,_=>decide
   | 4,_=>decide
  have g:∀n,iRs (List.replicate n (⟨1,[⟨0,[]⟩]⟩:Be)):=by
   intro n
   induction n with
   | zero=>exact trivial
   | succ n ih=>
    rw [List.replicate_succ]
    simp only [iRs,iR,I64]
    exact ⟨⟨by omega,⟨by omega,trivial⟩,trivial⟩,ih⟩
  refine ⟨by simp [mK],by simp [mK],fun f hf=>?_,fun f hf=>?_,fun a ha=>by simp [mK] at ha⟩
  .simp only [mK,List.mem_singleton] at hf
   subst hf; exact c
  .simp only [mK,List.mem_singleton] at hf
   subst hf
   refine ⟨?_,b⟩
   simp only [mI,iR]
   exact ⟨by unfold I64; omega,g _⟩
theorem R5:RB 1048576 oR:=⟨(fun x h=>by simp [oR] at h; omega),(fun x h=>by simp [oR] at h; omega),by simp [oR],by simp [oR]⟩
theorem Y9 {w:Int} (hw:w=0\/w=1):Jf lX/\∀k,k<=5->Jh lX (mK w k):=by
 have f:∀t∈J1 w,TSz t:=by
  intro t ht
  simp only [J1,List.mem_cons,List.not_mem_nil,or_false] at ht
  rcases ht with rfl | rfl | rfl | rfl | rfl | rfl
  .exact ⟨R5,Pg hw (k:=0) (by decide)⟩
  .exact ⟨R5,Pg hw (k:=1) (by decide)⟩
  .exact ⟨R5,Pg hw (k:=2) (by decide)⟩
  .exact ⟨R5,Pg hw (k:=3) (by decide)⟩
  .exact ⟨R5,Pg hw (k:=4) (by decide)⟩
  .exact ⟨R5,Pg hw (k:=5) (by decide)⟩
 obtain ⟨b,b1,b2⟩:=Aj6 lX R4 (J1 w) f
 have hb:b=true:=by
  have:Js lX (J1 w)=some true:=by
   rcases hw with rfl | rfl
   .exact Axb
   .exact Axc
  rw [this] at b1
  exact (Option.some.inj b1).symm
 obtain ⟨hf,hc⟩:=b2.1 hb
 have c:=(Us.1 hc).2.2
 refine ⟨hf,fun k hk=>⟨?_,Pg hw hk⟩⟩
 match k,hk with
 | 0,_=>exact c ⟨oR,mK w 0⟩ (by simp [J1])
 | 1,_=>exact c ⟨oR,mK w 1⟩ (by simp [J1])
 | 2,_=>exact c ⟨oR,mK w 2⟩ (by simp [J1])
 | 3,_=>exact c ⟨oR,mK w 3⟩ (by simp [J1])
 | 4,_=>exact c ⟨oR,mK w 4⟩ (by simp [J1])
 | 5,_=>exact c ⟨oR,mK w 5⟩ (by simp [J1])
def PK (w:Int) (m:Bc):Prop:=∃k,k<=5/\m=mK w k
theorem PK.can {w:Int} (hw:w=0\/w=1) {m:Bc} (h:PK w m):Jh lX m:=by
 obtain ⟨k,hk,rfl⟩:=h
 exact (Y9 hw).2 k hk
def dM (m:Bc):Nat:=match m.Factors with | []=>0 | f::_=>f.Index.Kids.length
theorem Za (w:Int) (k:Nat):dM (mK w k)=k:=by
 cases k with
 | zero=>rfl
 | succ k=>simp [dM,mK,mI]
theorem PK.eq {w:Int} {m:Bc} (h:PK w m):m=mK w (dM m)/\dM m<=5:=by
 obtain ⟨k,hk,rfl⟩:=h
 rw [Za]; exact ⟨rfl,hk⟩
end Go.Ab
