/- Plain laws: what the plain functions answer. -/
import Derived.Test.YtidkdnlhdbbbjaaGreatDoorAzPl2
namespace Go.Ab
open Go
theorem Adb (t u:Aj) (h:MSz t.Mono):Ll t u=some (Cy t.Mono u.Mono):=by
 unfold Ll
 rw [Aji _ _ h]; rfl
theorem Avb {α:Type} (A R:List α) (x y:α):((A++y::x::R).set (A.length+1) y).set A.length x=A++x::y::R:=by
 induction A with
 | nil=>rfl
 | cons a A ih=>simp only [List.cons_append,List.length_cons,List.set_cons_succ,ih]
theorem Akp {α:Type} (A R:List α) (x:α):(A++x::R)[A.length]? = some x:=by simp
theorem Avc {α:Type} (A R:List α) (x y:α):(A++y::x::R)[A.length+1]? = some x:=by
 induction A with
 | nil=>rfl
 | cons a A ih=>simp
theorem Avd {step:Int×List Aj->Option ((Int×List Aj)⊕(Int×List Aj))} (N:Nat) (G:N<4611686018427387904)
  (b:∀(x:Aj) (R:List Aj),step (0,x::R)=some (.inr (0,x::R)))
  (l:∀(A R:List Aj) (x y:Aj),(∀t∈A++y::x::R,MSz t.Mono)->(A++y::x::R).length<=N->step (((A.length+1:Nat):Int),A++y::x::R) =
   if Cy x.Mono y.Mono<0 then some (.inl ((A.length:Int),A++x::y::R)) else some (.inr (((A.length+1:Nat):Int),A++y::x::R))) :
  ∀(n:Nat) (A R:List Aj) (x:Aj),A.length=n->(∀t∈A++x::R,MSz t.Mono)->(A++x::R).length<=N ->
   ∃f i,Ak step ((A.length:Int),A++x::R)=some ((f.length:Int),f++x::(i++R))/\A=f++i/\(∀a∈i,ltT x a)/\∀q y,f=q++[y]->¬ltT x y:=by
 intro n
 induction n with
 | zero=>
  intro A R x g _ _
  have:A = []:=List.length_eq_zero_iff.1 g
  subst this
  exact ⟨[],[],Ea (b x R),rfl,(fun _ h=>by cases h),(fun q y h=>by simp at h)⟩
 | succ n ih=>
  intro A R x g k c
  obtain ⟨B,y,rfl⟩:∃B y,A=B++[y]:=by
   rcases List.eq_nil_or_concat A with h | ⟨B,y,h⟩
   .rw [h] at g; cases g
   .exact ⟨B,y,by simpa using h⟩
  have u:B.length=n:=by simpa using g
  have E:(B++[y])++x::R=B++y::x::R:=by simp
  have el:(((B++[y]).length:Nat):Int)=((B.length+1:Nat):Int):=by simp
  rw [E] at k c ⊢
  rw [el]
  have j:=l B R x y k c
  by_cases hc:Cy x.Mono y.Mono<0
  .rw [if_pos hc] at j
   obtain ⟨f,i,h1,h2,h3,D⟩:=ih B (y::R) x u (by
    intro t ht
    refine k t ?_
    simp only [List.mem_append,List.mem_cons] at ht ⊢
    rcases ht with h | h | h | h <;> simp [h]) (by simpa using c)
   refine ⟨f,i++[y],?_,by rw [h2]; simp,?_,D⟩
   .rw [Hc j,h1]; simp
   .intro a ha
    rcases List.mem_append.1 ha with ha | ha
    .exact h3 a ha
    .simp only [List.mem_singleton] at ha
     subst ha; exact hc
  .rw [if_neg hc] at j
   refine ⟨B++[y],[],?_,by simp,(fun _ h=>by cases h),?_⟩
   .rw [Ea j]; simp
   .intro q z s
    have:=List.append_inj' s rfl
    have e:y=z:=by simpa using this.2
    subst e; exact hc
theorem Ave {a b c:Aj} (h:ltT a b) (h':ltT b c):ltT a c:=Rj h h'
theorem Avf {c j:List Aj} {x:Aj} (u:(c++j).Pairwise ltT) (h2:∀a∈j,ltT x a) (h1:∀g y,c=g++[y]->¬ltT x y) (hd:∀a∈c,a.Mono≠x.Mono):(c++x::j).Pairwise ltT:=by
 obtain ⟨i,s,l⟩:=List.pairwise_append.1 u
 have hx:∀a∈c,ltT a x:=by
  intro a ha
  rcases List.eq_nil_or_concat c with h | ⟨g,y,h⟩
  .rw [h] at ha; cases ha
  .have h:c=g++[y]:=by simpa using h
   have f:ltT y x:=by
    have q:=h1 g y h
    have z:=hd y (by rw [h]; simp)
    unfold ltT at *
    rcases Int.lt_trichotomy (Cy x.Mono y.Mono) 0 with k | k | k
    .exact (q k).elim
    .exact (z (Kl.1 k).symm).elim
    .exact Acx.1 k
   rw [h] at ha i
   rcases List.mem_append.1 ha with ha | ha
   .exact Ave ((List.pairwise_append.1 i).2.2 a ha y (by simp)) f
   .simp only [List.mem_singleton] at ha
    subst ha; exact f
 refine List.pairwise_append.2 ⟨i,List.pairwise_cons.2 ⟨h2,s⟩,fun a ha b hb=>?_⟩
 rcases List.mem_cons.1 hb with rfl | hb
 .exact hx a ha
 .exact l a ha b hb
noncomputable def Ul:Int×List Aj->Option ((Int×List Aj)⊕(Int×List Aj)):=fun (v31,b)=>
 (show Option Bool from
 bif (decide (v31>(0:Int))) then (
 (Ag b v31).bind fun v33=>
 (Ag b (Ac (v31-1))).bind fun g=>
 (Ll v33 g).bind fun v35=>
 some (decide (v35<(0:Int))))
 else some false).bind fun f=>
 bif f then (
 (Ag b (Ac (v31-1))).bind fun v37=>
 (Ag b v31).bind fun c=>
 (Ag b v31).bind fun v39=>
 (Ag (B9 b v31 v37) (Ac (v31-1))).bind fun v40=>
 some (.inl ((Ac (v31-1)),(B9 (B9 b v31 v37) (Ac (v31-1)) c))))
 else some (.inr (v31,b))
theorem Avg (y:Aj) (R:List Aj):Ul (0,y::R)=some (.inr (0,y::R)):=by
 unfold Ul
 simp only [Ar (by omega:¬(0:Int)>0),cond_false,Ae]
theorem Avh {N:Nat} (h:N<=1099511627776) (A R:List Aj) (u y:Aj) (b:∀t∈A++y::u::R,MSz t.Mono) (c:(A++y::u::R).length<=N):Ul (((A.length+1:Nat):Int),A++y::u::R) =
  if Cy u.Mono y.Mono<0 then some (.inl ((A.length:Int),A++u::y::R)) else some (.inr (((A.length+1:Nat):Int),A++y::u::R)):=by
 have g:A.length+1<N:=by simp at c; omega
 have f:Ac (((A.length+1:Nat):Int)-1)=(A.length:Int):=by rw [Ac,Bo] <;> omega
 unfold Ul
 simp only [Al (by omega:((A.length+1:Nat):Int)>0),cond_true,f,Cd (n:=A.length+1) rfl (Avc A R u y),Cd (n:=A.length) rfl (Akp A (u::R) y),Ae,Adb u y (b u (by simp))]
 by_cases hc:Cy u.Mono y.Mono<0
 .rw [Al hc,if_pos hc]
  simp only [cond_true]
  rw [Ey (n:=A.length+1) rfl,Ey (n:=A.length) rfl,Avb]
  have:Ag ((A++y::u::R).set (A.length+1) y) (A.length:Int)=some y:=by
   refine Cd rfl ?_
   rw [List.getElem?_set_ne (by omega)]; exact Akp A (u::R) y
  rw [this]; rfl
 .rw [Ar hc,if_neg hc]; rfl
theorem Avi (b:List Aj) (hd:Dst b) (I:∀t∈b,MSz t.Mono) (M:b.length<=1099511627776) :
  ∃R,S7 0 (b.length:Int) b=some R/\R.Perm b/\R.Pairwise ltT:=by
 unfold S7
 cases b with
 | nil=>
  refine ⟨[],?_,List.Perm.refl _,List.Pairwise.nil⟩
  refine Gt 0 (fun _=>((1:Int),([]:List Aj))) (by simp [Ac,Bo]) (fun j hj=>by omega) ⟨[],?_,rfl⟩
  simp
 | cons z0 A=>
 generalize f:z0::A=b at *
 have hpos:1<=b.length:=by rw [<-f]; simp
 refine Ew (fun s=>∃(i:Nat) (S:List Aj),s=((i:Int),S++b.drop i)/\1<=i/\i<=b.length/\S.length=i/\S.Perm (b.take i)/\S.Pairwise ltT) (fun s=>b.length-s.1.toNat)
  (fun R=>R.Perm b/\R.Pairwise ltT) ⟨1,[z0],by rw [<-f]; simp [Ac,Bo],by omega,hpos,rfl,by rw [<-f]; simp,List.pairwise_singleton _ _⟩ ?_ ?_
 .rintro _ ⟨i,S,rfl,J,N,G,c,k⟩
  rcases Nat.lt_or_ge i b.length with h | h
  .have hx:b[i]? = some b[i]:=Ck h
   generalize b[i]=x at hx
   have g:b.drop i=x::b.drop (i+1):=Im hx
   have z:(S++x::b.drop (i+1)).length=b.length:=by simp; omega
   have y:∀t∈S++x::b.drop (i+1),t∈b:=by
    intro t ht
    rcases List.mem_append.1 ht with ht | ht
    .exact List.mem_of_mem_take (c.mem_iff.1 ht)
    .rw [<-g] at ht; exact List.mem_of_mem_drop ht
   simp only [Al (by omega:(i:Int)<(b.length:Int)),cond_true,Dj h (by omega)]
   rw [g]
   left
   obtain ⟨q,l,h1,h2,h3,L⟩:=Avd (step:=Ul) b.length (by omega) Avg (Avh (by omega)) S.length S (b.drop (i+1)) x rfl (fun t ht=>I t (y t ht)) (by rw [z]; exact Nat.le_refl _)
   rw [G] at h1
   have hp:(q++x::l).Perm (b.take (i+1)):=by
    rw [Dr hx]
    have:(q++x::l).Perm ((q++l)++[x]):=by
     rw [List.append_assoc]
     exact List.Perm.append_left q (List.perm_append_singleton x l).symm
    exact this.trans (by rw [<-h2]; exact c.append_right [x])
   refine ⟨(((i+1:Nat):Int),(q++x::l)++b.drop (i+1)),bnd h1 (by simp),⟨i+1,q++x::l,rfl,by omega,by omega,?_,hp,?_⟩,by simp; omega⟩
   .rw [hp.length_eq,List.length_take]; omega
   .rw [h2] at k
    refine Avf k h3 L fun a ha=>?_
    have E:a∈b.take i:=c.mem_iff.1 (by rw [h2]; simp [ha])
    have B:x∈b.drop i:=by rw [g]; simp
    have D:(b.take i++b.drop i).Pairwise fun t u=>t.Mono≠u.Mono:=by rw [List.take_append_drop]; exact hd
    exact (List.pairwise_append.1 D).2.2 a E x B
  .have:i=b.length:=by omega
   subst this
   rw [List.take_length] at c
   simp only [Ar (by omega:¬(b.length:Int)<(b.length:Int)),cond_false,List.drop_length,List.append_nil]
   exact .inr ⟨S,rfl,c,k⟩
 .rintro R ⟨h1,h2⟩
  exact ⟨R,rfl,h1,h2⟩
theorem L5 {α:Type} {n:Nat} {l:List α} (h:n=l.length):E7 n l=some ():=by unfold E7; rw [if_pos h]
theorem Avj {s:ByteArray} {i:Int} (h0:0<=i) (h:i.toNat<s.size):∃c,Gz s i=some c:=by
 unfold Gz
 rw [if_pos h0]
 exact ⟨_,getElem?_pos s i.toNat h⟩
set_option maxRecDepth 20000 in
theorem Akq {n:Nat} (h:n<256):∃v,P3 (Ap (n:Int))=some v:=by
 unfold P3 Ws
 rw [Ap,Cq (by omega) (by omega),Ar (by omega)]
 simp only [cond_false,Ae]
 rw [Ar (by omega)]
 simp only [cond_false,Ae]
 rw [Ar (by omega)]
 simp only [cond_false,Ae]
 have b:wu8 (n:Int)=(n:Int):=by
  rw [wu8]; unfold IntKind.wrap; simp [IntKind.bits,IntKind.signed]; omega
 rw [b]
 generalize g:ByteArray.mk _=T
 have f:T.size=256:=by rw [<-g]; rfl
 obtain ⟨c,hc⟩:=Avj (s:=T) (i:=(n:Int)) (by omega) (by rw [f]; simpa using h)
 rw [hc]
 exact ⟨_,rfl⟩
theorem Avk (b:List Aj) (hd:Dst b) (g:∀t∈b,MSz t.Mono) (f:b.length<=12):∃R,Lk b=some R/\R.Perm b/\R.Pairwise ltT:=by
 obtain ⟨R,h1,h2,h3⟩:=Avi b hd g (by omega)
 obtain ⟨v,c⟩:=Akq (n:=b.length) (by omega)
 refine ⟨R,?_,h2,h3⟩
 unfold Lk
 rw [Nat.ble_eq_true_of_le f,cond_true]
 unfold Abd
 rw [c,Ae]
 have hp:Sw 0 (b.length:Int) v b=some R:=by
  unfold Sw
  refine bnd (a:=R) (Ea ?_) rfl
  have w:Ac ((b.length:Int)-0)=(b.length:Int):=by rw [Ac,Bo] <;> omega
  simp only [w,Al (by omega:(b.length:Int)<=12),cond_true,h1,Ae,L5 h2.length_eq.symm]
 rw [hp,Ae,L5 h2.length_eq.symm]; rfl
def clT (t:Aj):Aj:=⟨Bi (sv t.Coef) (nv t.Coef) (dv t.Coef),t.Mono⟩
theorem Avl {k:Nat} (p:List Aj) (hk:k<34359738000) (hp:∀t∈p,RB k t.Coef/\MSz t.Mono) (b:p.length<=1048576):Sl p=some (p.map clT):=by
 unfold Sl
 refine I5 p (fun j=>((j:Int),(p.take j).map clT)) rfl (by omega) ?_ ?_
 .intro j x hj hx h1 h2 h3
  obtain ⟨a1,a2⟩:=hp x (Cx hx)
  simp only [h1,h2,h3,cond_true,Ae,Abu x.Coef k a1 (by omega),Aut x.Mono a2]
  rw [Dm (by simp; omega),Ae,Dr hx]
  simp [clT]
 .intro h1
  exact ⟨p.map clT,by simp,rfl⟩
theorem Avm (p:List Aj) (m:Bf):cf (p.map clT) m=cf p m:=by
 induction p with
 | nil=>rfl
 | cons t p ih=>
  simp only [List.map_cons,cf,ih,clT]
  rw [L3 _ _ _ (E2 _)]; rfl
theorem Avn {p q:List Aj} (h:p.Perm q) (m:Bf):cf p m=cf q m:=by
 induction h with
 | nil=>rfl
 | cons x _ ih=>simp only [cf,ih]
 | swap x y l=>simp only [cf]; grind
 | trans _ _ h1 h2=>rw [h1,h2]
def nzT (t:Aj):Bool:=decide (rq t.Coef≠0)
theorem Avo (p:List Aj) (m:Bf):cf (p.filter nzT) m=cf p m:=by
 induction p with
 | nil=>rfl
 | cons t p ih=>
  by_cases h:rq t.Coef=0
  .rw [List.filter_cons_of_neg (by simp [nzT,h]),ih]; simp only [cf,h]; grind
  .rw [List.filter_cons_of_pos (by simp [nzT,h])]; simp only [cf,ih]
theorem Avp (x:Rat):(M9 x != (0:Int))=decide (x≠0):=by
 unfold M9
 by_cases h1:x<0
 .rw [if_pos h1]
  have:x≠0:=by intro e; subst e; exact absurd h1 (by decide)
  simp [this]
 .rw [if_neg h1]
  by_cases h2:0<x
  .rw [if_pos h2]
   have:x≠0:=by intro e; subst e; exact absurd h2 (by decide)
   simp [this]
  .rw [if_neg h2]
   have:x=0:=Rat.le_antisymm (Rat.not_lt.1 h2) (Rat.not_lt.1 h1)
   simp [this]
theorem Avq {α:Type} {f:α->Bool} {l:List α} {j:Nat} {x:α} (h:l[j]? = some x):(l.take (j+1)).filter f=(l.take j).filter f++(if f x then [x] else []):=by
 rw [Dr h,List.filter_append]; congr 1; cases k:f x <;> simp [List.filter,k]
theorem Adc {k:Nat} {P:Bf->Prop} (q:∀m,P m->CMo m) (o:List (ByteArray×Int)) (ts:List Aj) (h:Col k P ts) (hk:k<34359738000) (A:ts.length<=1000)
  (z:∀c:List Aj,c.length<=ts.length->Dst c->(∀t∈c,MSz t.Mono)->∃R,Lk c=some R/\R.Perm c/\R.Pairwise ltT) :
  ∃R,Iz o ts=some (R,0)/\CP R/\(∀m,cf R m=cf ts m)/\(∀t∈R,P t.Mono/\RB (k+1) t.Coef)/\R.length<=ts.length:=by
 unfold Iz
 have g:(ts.filter nzT).length<=ts.length:=List.length_filter_le _ _
 obtain ⟨S,y,f,s⟩:=z (ts.filter nzT) g (List.Pairwise.filter _ h.dst) (fun t ht=>(q _ (h.mo t (List.mem_filter.1 ht).1)).sz)
 have b:∀t∈S,t∈ts/\rq t.Coef≠0:=by
  intro t ht
  have:=List.mem_filter.1 (f.mem_iff.1 ht)
  exact ⟨this.1,by simpa [nzT] using this.2⟩
 refine ⟨S.map clT,?_,⟨?_,?_⟩,?_,?_,?_⟩
 .refine I5 ts (fun j=>((j:Int),(ts.take j).filter nzT)) rfl (by omega) ?_ ?_
  .intro j x hj hx h1 h2 h3
   have hb:=h.tb x (Cx hx)
   have l:((ts.take j).filter nzT).length<=ts.length:=Nat.le_trans (List.length_filter_le _ _) (by rw [List.length_take]; omega)
   simp only [h1,h2,h3,cond_true,Ae,(Ajt hb hk).1,Avp]
   rw [Avq hx]
   by_cases i:rq x.Coef=0
   .have:nzT x=false:=by simp [nzT,i]
    rw [Ar (by simpa using i),this]; simp
   .have:nzT x=true:=by simp [nzT,i]
    rw [Al i,this]
    simp only [cond_true]
    rw [Dm (by simp; omega)]; simp
  .intro h1
   refine ⟨ts.filter nzT,by simp only [h1,cond_false,List.take_length],?_⟩
   rw [Ar (by omega)]
   simp only [cond_false]
   rw [y,Ae,L5 f.length_eq.symm,Ae,
    Avl (k:=k) S hk (fun t ht=>⟨h.tb t (b t ht).1,(q _ (h.mo t (b t ht).1)).sz⟩) (by rw [f.length_eq]; omega)]; rfl
 .rw [List.pairwise_map]; exact s
 .intro t ht
  obtain ⟨u,hu,rfl⟩:=List.mem_map.1 ht
  refine ⟨Rh _ _ _ (E2 _),?_⟩
  show rq (Bi _ _ _)≠0
  rw [L3 _ _ _ (E2 _)]; exact (b u hu).2
 .intro m
  rw [Avm,Avn f,Avo]
 .intro t ht
  obtain ⟨u,hu,rfl⟩:=List.mem_map.1 ht
  exact ⟨h.mo u (b u hu).1,Ah6 (h.tb u (b u hu).1)⟩
 .rw [List.length_map,f.length_eq]; exact g
end Go.Ab
namespace Go.Ab
open Go
theorem Akr (x:Bx) (g:CSz x) (ps:List (List Aj)) (B:∀p∈ps,∀t∈p,TSz t) (U:ps.length<=1048576) :
  ∃r,Jj x ps=some r/\(((Fc x/\∀p∈ps,Iq x.Data x.Vars x.Res p=true)/\∃A,r = .inl (true,x,A,[],x.Data,x.Vars,x.Res.Kind,x.Res.Num,x.Res.Args)/\E3 x.Data x.Vars x.Res A) \/
   ((¬(Fc x/\∀p∈ps,Iq x.Data x.Vars x.Res p=true))/\r = .inr false)):=by
 obtain ⟨b,b1,b2⟩:=Air g.ds
 have N:=g.nv
 have M:=g.rs
 unfold Jj
 rw [b1,T2 x.Data x.Res 0 (by omega)]
 by_cases l:x.Vars.length<=3000
 .rw [Ar (by omega)]
  simp only [cond_false,Ae]
  cases b with
  | false=>exact ⟨_,rfl,.inr ⟨fun h=>(by have:=b2.2 h.1.2.1; cases this),rfl⟩⟩
  | true=>
   have L:=b2.1 rfl
   simp only [bnt,cond_false]
   cases E:(Fi x.Data 0 x.Res&&decide (Bv x.Res<=200)) with
   | false=>exact ⟨_,rfl,.inr ⟨fun h=>(by have:=h.1.2.2.1; rw [show Jt x.Data x.Res=false from E] at this; cases this),rfl⟩⟩
   | true=>
    simp only [bnt,cond_false,Ae]
    refine Ew (fun i=>∃j:Nat,i=j/\j<=x.Vars.length/\(x.Vars.take j).all (Jt x.Data)=true) (fun i=>x.Vars.length-i.toNat)
     (fun z=>match z with | .inl r=>r=false/\¬Fc x | .inr _=>Fc x) ⟨0,rfl,by omega,by simp⟩ ?_ ?_
    .rintro i ⟨j,rfl,hj,c⟩
     rcases Nat.lt_or_ge j x.Vars.length with h | h
     .have ht:x.Vars[j]? = some x.Vars[j]:=Ck h
      generalize x.Vars[j]=t at ht
      have:=g.vs t (Cx ht)
      simp only [Al (by omega:(j:Int)<(x.Vars.length:Int)),cond_true,Cd rfl ht,Ae,T2 x.Data t 0 (by omega),Dj h (by omega)]
      rw [show (Fi x.Data 0 t&&decide (Bv t<=200))=Jt x.Data t from rfl]
      cases I:Jt x.Data t with
      | true=>exact .inl ⟨_,rfl,⟨j+1,rfl,by omega,by rw [Dr ht,List.all_append,c]; simp [I]⟩,by simp; omega⟩
      | false=>
       refine .inr ⟨.inl false,rfl,rfl,fun D=>?_⟩
       have:=List.all_eq_true.1 D.2.2.2 t (Cx ht)
       rw [I] at this; cases this
     .have:j=x.Vars.length:=by omega
      subst this
      rw [List.take_length] at c
      exact .inr ⟨.inr (),by simp,l,L,E,c⟩
    .rintro (r | u) f
     .obtain ⟨rfl,f⟩:=f
      exact ⟨_,rfl,.inr ⟨fun h=>f h.1,rfl⟩⟩
     .have J:Fc x:=f
      simp only
      refine Ew (fun s=>∃(j:Nat) (o:List (ByteArray×Int)),s=((j:Int),o)/\j<=ps.length/\E3 x.Data x.Vars x.Res o/\∀p∈ps.take j,Iq x.Data x.Vars x.Res p=true) (fun s=>ps.length-s.1.toNat)
       (fun z=>match z with | .inl r=>r=false/\¬(∀p∈ps,Iq x.Data x.Vars x.Res p=true) | .inr o=>E3 x.Data x.Vars x.Res o/\∀p∈ps,Iq x.Data x.Vars x.Res p=true)
       ⟨0,[],rfl,by omega,(fun q h=>by cases h),(fun q h=>by simp at h)⟩ ?_ ?_
      .rintro _ ⟨j,o,rfl,hj,G,c⟩
       rcases Nat.lt_or_ge j ps.length with h | h
       .have ht:ps[j]? = some ps[j]:=Ck h
        generalize ps[j]=p at ht
        have k:=Cx ht
        obtain ⟨A,S,R⟩:=Ajp (J.ctx g) [] G p (B p k)
        simp only [Al (by omega:(j:Int)<(ps.length:Int)),cond_true,Cd rfl ht,Ae,S,Dj h (by omega)]
        cases y:Iq x.Data x.Vars x.Res p with
        | true=>
         refine .inl ⟨_,rfl,⟨j+1,A,rfl,by omega,R,fun q hq=>?_⟩,by simp; omega⟩
         rw [Dr ht] at hq
         rcases List.mem_append.1 hq with hq | hq
         .exact c q hq
         .simp only [List.mem_singleton] at hq
          subst hq; exact y
        | false=>
         refine .inr ⟨.inl false,rfl,rfl,fun D=>?_⟩
         have:=D p k
         rw [y] at this; cases this
       .have:j=ps.length:=by omega
        subst this
        rw [List.take_length] at c
        exact .inr ⟨.inr o,by simp,G,c⟩
      .rintro (r | o) hw
       .obtain ⟨rfl,hw⟩:=hw
        exact ⟨_,rfl,.inr ⟨fun h=>hw h.2,rfl⟩⟩
       .exact ⟨_,rfl,.inl ⟨⟨J,hw.2⟩,o,rfl,hw.1⟩⟩
 .rw [Al (by omega)]
  exact ⟨_,rfl,.inr ⟨fun h=>l h.1.1,rfl⟩⟩
theorem Avr {data:List Ay} {vars:List Ai} {res:Ai} {m:Bf} (h:Ip data vars res m=true) (q:MSz m):CMo m:=by
 have c:=(Aud h).2
 unfold Ip at h
 simp only [Dq,decide_eq_true_eq] at h
 obtain ⟨⟨h1,h2⟩,h3⟩:=h
 have b:∀f∈m.Factors,0<=Fk data vars res f:=by
  intro f c
  obtain ⟨j,hj⟩:=List.getElem?_of_mem c
  have:=Jq h1 hj
  simp only [Yj,Dq,decide_eq_true_eq] at this
  omega
 have ha:∀a∈m.Atoms,1<=a.Deg/\Cv a.Lin=true/\a.Lin.Terms≠[]:=by
  intro a ha
  obtain ⟨j,hj⟩:=List.getElem?_of_mem ha
  have:=Jq h2 hj
  simp only [L2,Dq,decide_eq_true_eq] at this
  refine ⟨this.1.1.1.1,this.1.1.1.2,fun e=>?_⟩
  have k:=this.1.1.2
  rw [e] at k; simp at k
 obtain ⟨a1,a2,a3⟩:=Ajm m.Atoms fun a h=>by have:=(ha a h).1; omega
 have f1:=At8 m.Factors b
 have al:(m.Atoms.length:Int)<=Cf m.Atoms:=by
  have key:∀l:List A3,(∀a∈l,1<=a.Deg)->(l.length:Int)<=Cf l:=by
   intro l
   induction l with
   | nil=>intro _; simp [Cf]
   | cons f fs ih=>
    intro i
    have h1:=i f (by simp)
    have h2:=ih (fun g s=>i g (by simp [s]))
    unfold Cf at *
    simp only [List.map_cons,List.sum_cons,List.length_cons]; omega
  exact key _ fun a h=>(ha a h).1
 exact ⟨q,c,by omega,fun a h=>⟨(ha a h).2.1,(ha a h).2.2,(ha a h).1,by have:=a3 a h; omega⟩⟩
def Gi (x:Bx) (m:Bf):Prop:=Ip x.Data x.Vars x.Res m=true/\MSz m
theorem Gi.cmo {x:Bx} {m:Bf} (h:Gi x m):CMo m:=Avr h.1 h.2
structure Ha (x:Bx) (p:List Aj):Prop where
 can:Iq x.Data x.Vars x.Res p=true
 sz:∀t∈p,TSz t
theorem Ha.cp {x:Bx} {p:List Aj} (h:Ha x p):CP p:=(Yl.1 h.can).2.1
theorem Ha.mo {x:Bx} {p:List Aj} (h:Ha x p):∀t∈p,Gi x t.Mono:=fun t ht=>⟨(Yl.1 h.can).2.2 t ht,(h.sz t ht).mo⟩
theorem Ha.of {x:Bx} {p:List Aj} (hc:CP p) (b:∀t∈p,Gi x t.Mono) (c:∀t∈p,RB 1048576 t.Coef) (f:p.length<=1000):Ha x p :=
 ⟨Yl.2 ⟨f,hc,fun t ht=>(b t ht).1⟩,fun t ht=>⟨c t ht,(b t ht).2⟩⟩
theorem Ha.tb {x:Bx} {p:List Aj} (h:Ha x p):∀t∈p,RB 1048576 t.Coef/\Gi x t.Mono:=fun t ht=>⟨(h.sz t ht).co,h.mo t ht⟩
theorem Aks {x:Bx} (i:CSz x) (k:Fc x) {p q:List Aj} (hp:Ha x p) (hq:Ha x q):∃f,Jj x [p,q]=some (.inl (true,x,f,[],x.Data,x.Vars,x.Res.Kind,x.Res.Num,x.Res.Args)):=by
 have b:∀r∈[p,q],Ha x r:=by
  intro r c
  simp only [List.mem_cons,List.not_mem_nil,or_false] at c
  rcases c with rfl | rfl <;> assumption
 obtain ⟨r,h,g⟩:=Akr x i [p,q] (fun r c=>(b r c).sz) (by simp)
 rcases g with ⟨_,f,e,_⟩ | ⟨j,_⟩
 .exact ⟨f,by rw [h,e]⟩
 .exact (j ⟨k,fun r c=>(b r c).can⟩).elim
theorem Avs {r:Aq} {j k:Nat} (q:List Aj) (y:RB j r) (hq:∀t∈q,RB k t.Coef) (hj:j<34359738000) (hk:k<34359738000) (D:q.length<=1048576) :
  ∃x,Sr q r=some x/\x.length=q.length/\(∀m,cf x m=cf q m*rq r)/\∀t∈x,RB (k+j+2) t.Coef/\∃u∈q,u.Mono=t.Mono:=by
 unfold Sr
 refine Ew (fun s=>∃(i:Nat) (o:List Aj),s=((i:Int),o)/\i<=q.length/\o.length=i/\(∀m,cf o m=cf (q.take i) m*rq r)/\∀t∈o,RB (k+j+2) t.Coef/\∃u∈q,u.Mono=t.Mono) (fun s=>q.length-s.1.toNat)
  (fun o=>o.length=q.length/\(∀m,cf o m=cf q m*rq r)/\∀t∈o,RB (k+j+2) t.Coef/\∃u∈q,u.Mono=t.Mono) ⟨0,[],rfl,by omega,rfl,(fun m=>by simp only [List.take_zero,cf]; grind),fun _ h=>by cases h⟩ ?_ ?_
 .rintro _ ⟨i,o,rfl,E,l,b,g⟩
  rcases Nat.lt_or_ge i q.length with h | h
  .have hx:q[i]? = some q[i]:=Ck h
   generalize q[i]=t at hx
   have f:=Cx hx
   obtain ⟨c,B,A,G,z⟩:=Acu (hq t f) y hk hj
   simp only [Al (by omega:(i:Int)<(q.length:Int)),cond_true,Cd rfl hx,Ae,B,Dj h (by omega)]
   rw [Dm (by simp; omega)]
   refine .inl ⟨_,rfl,⟨i+1,o++[⟨c,t.Mono⟩],rfl,by omega,by simp [l],fun m=>?_,fun w hw=>?_⟩,by simp; omega⟩
   .rw [Rk,b,Dr hx,Rk]
    simp only [cf,z]
    split <;> grind
   .rcases List.mem_append.1 hw with hw | hw
    .exact g w hw
    .simp only [List.mem_singleton] at hw
     subst hw
     exact ⟨A,t,f,rfl⟩
  .have:i=q.length:=by omega
   subst this
   rw [List.take_length] at b
   simp only [Ar (by omega:¬(q.length:Int)<(q.length:Int)),cond_false]
   exact .inr ⟨_,rfl,l,b,g⟩
 .rintro o ⟨h1,h2,h3⟩
  exact ⟨_,rfl,h1,h2,h3⟩
theorem Avt:∃r,Fq (-1)=some r/\RB 1 r/\rq r = -1:=by
 refine ⟨_,Ty (-1) (by decide) (by decide),?_,?_⟩
 .exact Lv _ _ _ 1 (Ih (by decide)) (Ih (by decide)) (by omega)
 .rw [L3 _ _ _ (by decide)]; decide
end Go.Ab
namespace Go.Ab
open Go
end Go.Ab
namespace Go.Ab
open Go
def bc:Nat->Nat->Nat
 | _,0=>1
 | 0,_+1=>0
 | n+1,k+1=>bc n k+bc n (k+1)
theorem H5 (n:Nat):bc n 0=1:=by cases n <;> rfl
theorem Add:∀{n k:Nat},n<k->Fa n k=0
 | n,0,h=>absurd h (by omega)
 | n,k+1,h=>by
  rw [Fa]
  by_cases e:n<k
  .rw [Add e,Nat.zero_mul]
  .rw [show n-k=0 by omega,Nat.mul_zero]
theorem Akt (n:Nat):∀k,Fa (n+1) (k+1)=(n+1)*Fa n k
 | 0=>by simp [Fa]
 | k+1=>by
  rw [Fa,Akt n k,Fa,show n+1-(k+1)=n-k by omega,Nat.mul_assoc]
theorem Yv:∀n k,Fa n k=fct k*bc n k
 | n,0=>by rw [H5]; rfl
 | 0,k+1=>by rw [Add (by omega)]; simp [bc]
 | n+1,k+1=>by
  have h1:=Yv n (k+1)
  have h2:=Yv n k
  rw [Akt,bc,Nat.mul_add,<-h1,fct,Fa,Nat.mul_right_comm,<-h2]
  by_cases e:k<=n
  .rw [<-Nat.mul_add,Nat.mul_comm,show k+1+(n-k)=n+1 by omega]
  .rw [Add (by omega)]; simp
theorem Um:∀n k,bc n k<=2 ^ n
 | n,0=>by rw [H5]; exact Nat.one_le_two_pow
 | 0,k+1=>by simp [bc]
 | n+1,k+1=>by
  have h1:=Um n (k+1)
  have h2:=Um n k
  rw [bc,Nat.pow_succ]; omega
def cR (n:Nat):Aq:=Bi false n 1
theorem Ade (n:Nat):sv (cR n)=false/\nv (cR n)=n/\dv (cR n)=1:=by
 obtain ⟨g,f,c,b⟩:=T0 false n 1 (by decide)
 refine ⟨?_,?_,?_⟩
 .by_cases h:n=0
  .exact b h
  .exact c h
 .unfold cR; rw [g]; simp
 .unfold cR; rw [f]; simp
theorem Adf {n k:Nat} (h:A6 n<=k) (hk:1<=k):RB k (cR n):=Lv _ _ _ _ h (by rw [M4]; exact hk) hk
theorem Avu:Fq 0=some (cR 0):=Ty 0 (by decide) (by decide)
theorem Un:Fq 1=some (cR 1):=Ty 1 (by decide) (by decide)
theorem Avv (n k:Nat) (b:n<1000000000) (hk:k<=64):Aa4 (n:Int) (k:Int)=some (cR (bc n k),true):=by
 unfold Aa4
 have e:(if (n:Int)>0 then (n:Int) else 0)=(n:Int):=by split <;> omega
 simp only [Ar (by omega:¬(k:Int)<0),cond_false,Ar (by omega:¬(k:Int)>64),Ae,e,Aia n k b hk]
 rw [Yv,show Bi false (fct k*bc n k) (fct k)=Bi false (fct k*bc n k) (fct k*1) by rw [Nat.mul_one],Ou _ _ _ _ (X8 k)]
 rfl
theorem Avw (n k:Nat) (b:n<1000000000) (hk:k<=64):Qv (n:Int) (k:Int)=some (cR (bc n k),true):=Avv n k b hk
end Go.Ab
namespace Go.Ab
open Go
end Go.Ab
namespace Go.Ab
open Go
end Go.Ab
namespace Go.Ab
open Go
structure Asc (b:List Int) (n:Nat) (l:List Int):Prop where
 up:l.Pairwise (· < ·)
 mem:∀y,y∈l↔y∈b.take n
theorem Avx {b:List Int} (f:b.Pairwise (·<=·)) {q:Nat} {p:Int} (hp:b[q]? = some p):∀y∈b.take (q+1),y<=p:=by
 intro y hy
 obtain ⟨i,c⟩:=List.getElem?_of_mem hy
 rw [List.getElem?_take] at c
 split at c
 .rename_i g
  by_cases e:i=q
  .subst e; rw [c] at hp; cases hp; exact Int.le_refl _
  .have h1:=Ep c
   have h2:=Ep hp
   have:=(List.pairwise_iff_getElem.1 f) i q h1 h2 (by omega)
   rw [Ck h1] at c
   rw [Ck h2] at hp
   cases c; cases hp; exact this
 .cases c
theorem Asc.step {b:List Int} (g:b.Pairwise (·<=·)) {q:Nat} {l:List Int} {p x:Int} (h:Asc b (q+1) l) (hp:b[q]? = some p) (hx:b[q+1]? = some x) (j:x≠p):Asc b (q+2) (l++[x]):=by
 have f:=Avx g hp
 have i:p<x:=by
  have h1:=Ep hp
  have h2:=Ep hx
  have:=(List.pairwise_iff_getElem.1 g) q (q+1) h1 h2 (by omega)
  rw [Ck h1] at hp
  rw [Ck h2] at hx
  cases hp; cases hx; omega
 refine ⟨?_,fun y=>?_⟩
 .rw [List.pairwise_append]
  refine ⟨h.up,by simp,fun a ha c hc=>?_⟩
  rw [List.mem_singleton] at hc
  subst hc
  have:=f a ((h.mem a).1 ha)
  omega
 .rw [Dr hx,List.mem_append,List.mem_append,h.mem y]
theorem Asc.same {b:List Int} {q:Nat} {l:List Int} {x:Int} (h:Asc b (q+1) l) (hp:b[q]? = some x) (hx:b[q+1]? = some x):Asc b (q+2) l:=by
 refine ⟨h.up,fun y=>?_⟩
 rw [Dr hx,List.mem_append,h.mem y]
 constructor
 .exact .inl
 .rintro (h1 | h1)
  .exact h1
  .rw [List.mem_singleton] at h1
   subst h1
   rw [Dr hp]; simp
end Go.Ab
namespace Go.Ab
open Go
end Go.Ab
namespace Go.Ab
open Go
end Go.Ab
namespace Go.Ab
open Go
end Go.Ab
namespace Go.Ab
open Go
end Go.Ab
namespace Go.Ab
open Go
end Go.Ab
namespace Go.Ab
open Go
end Go.Ab
namespace Go.Ab
open Go
end Go.Ab
namespace Go.Ab
open Go
end Go.Ab
namespace Go.Ab
open Go
end Go.Ab
namespace Go.Ab
open Go
end Go.Ab
namespace Go.Ab
open Go
end Go.Ab
namespace Go.Ab
open Go
end Go.Ab
namespace Go.Ab
open Go
end Go.Ab
namespace Go.Ab
open Go
structure PSt (K:Nat) (n:Nat) (b:List Aj):Prop where
 le:n<=b.length
 cp:CP (b.take n)
 tm:∀t∈b.take n,RB K t.Coef/\MSz t.Mono
end Go.Ab
namespace Go.Ab
open Go
theorem PSt.mono {K c n:Nat} {b:List Aj} (h:PSt K n b) (f:K<=c):PSt c n b:=⟨h.le,h.cp,fun t ht=>⟨((h.tm t ht).1).mono f,(h.tm t ht).2⟩⟩
end Go.Ab
namespace Go.Ab
open Go
end Go.Ab
namespace Go.Ab
open Go
theorem CP.dst {p:List Aj} (h:CP p):Dst p:=h.srt.imp fun {a b} hab e=>by
 unfold ltT at hab
 rw [Kl.2 e] at hab; omega
end Go.Ab
namespace Go.Ab
open Go
theorem Aku:Mj (fun t u:Aj=>Cy t.Mono u.Mono) where
 irr x:=by
  show ¬Cy x.Mono x.Mono<0
  rw [Aj0]; omega
 trs x y z h1 h2:=Rj h1 h2
 ntr x y z h1 h2:=by
  show ¬Cy x.Mono z.Mono<0
  have h1:¬Cy x.Mono y.Mono<0:=h1
  have h2:¬Cy y.Mono z.Mono<0:=h2
  intro h3
  rcases Int.lt_trichotomy (Cy x.Mono y.Mono) 0 with k | k | k
  .exact h1 k
  .rw [Kl.1 k] at h3; exact h2 h3
  .exact h2 (Rj (Acx.1 k) h3)
def Yw (b:List Aj):List Aj:=b.mergeSort fun t u=>decide (Cy t.Mono u.Mono<=0)
theorem Akv (b:List Aj):(Yw b).Perm b:=List.mergeSort_perm _ _
theorem Avy (f:List Aj) (hd:Dst f):(Yw f).Pairwise ltT:=by
 have h1:=List.pairwise_mergeSort (le:=fun t u:Aj=>decide (Cy t.Mono u.Mono<=0)) (fun a b c h1 h2=>by
  simp only [decide_eq_true_eq] at *
  have:=Aku.ntr c b a (by show ¬Cy _ _<0; rw [Ri]; omega) (by show ¬Cy _ _<0; rw [Ri]; omega)
  have this:¬Cy c.Mono a.Mono<0:=this
  rw [Ri] at this; omega) (fun a b=>by
  simp only [Bool.or_eq_true,decide_eq_true_eq]
  rw [Ri a.Mono b.Mono]; omega) f
 have h2:(Yw f).Pairwise fun t u=>t.Mono≠u.Mono:=((Akv f).pairwise_iff (fun {x y} h=>h.symm)).2 hd
 refine (h1.and h2).imp fun {t u} h=>?_
 have a:=of_decide_eq_true h.1
 have b:Cy t.Mono u.Mono≠0:=fun e=>h.2 (Kl.1 e)
 unfold ltT; omega
theorem Adg (b:List Aj) (hd:Dst b) (f:∀t∈b,MSz t.Mono):∃R,Lk b=some R/\R.Perm b/\R.Pairwise ltT:=by
 rcases Nat.lt_or_ge 12 b.length with h | h
 .have e:Nat.ble b.length 12=false:=by
   cases k:Nat.ble b.length 12 with
   | false=>rfl
   | true=>have:=Nat.le_of_ble_eq_true k; omega
  unfold Lk
  rw [e,cond_false]
  obtain ⟨r,g,j,law,hc,hp,i⟩:=Apz (cmp:=Ll) (l:=b) (r:=Yw b) ⟨_,Aku,fun x hx y _=>Adb x y (f x hx),Akv b,Avy b hd⟩
  refine ⟨r,g,hp,?_⟩
  refine (List.Pairwise.imp_of_mem (S:=ltT) (fun {t u} ht hu h=>?_) i)
  have c:=hc t (hp.mem_iff.1 ht) u (hp.mem_iff.1 hu)
  rw [Adb t u (f t (hp.mem_iff.1 ht))] at c
  have c:=Option.some.inj c
  unfold ltT; rw [c]; exact h
 .exact Avk b hd f h
end Go.Ab
namespace Go.Ab
open Go
theorem Akw {x:Bx} (i:CSz x) {ps:List (List Aj)} (c:∀p∈ps,∀t∈p,TSz t) (k:ps.length<=1048576) (h:Fc x/\∀p∈ps,Iq x.Data x.Vars x.Res p=true):∃b,Jj x ps=some (.inl (true,x,b,[],x.Data,x.Vars,x.Res.Kind,x.Res.Num,x.Res.Args))/\E3 x.Data x.Vars x.Res b:=by
 obtain ⟨r,g,f⟩:=Akr x i ps c k
 rcases f with ⟨_,b,e,j⟩ | ⟨h2,_⟩
 .exact ⟨b,by rw [g,e],j⟩
 .exact (h2 h).elim
structure PR (x:Bx) (n:Nat) (f:Bf->Rat) (R:List Aj):Prop where
 cp:CP R
 val:∀m,cf R m=f m
 tb:∀t∈R,Gi x t.Mono/\RB 8589934592 t.Coef
 len:R.length<=n
theorem Avz {x:Bx} {k:Nat} {ts:List Aj} (h:Col k (Gi x) ts) (hk:k<8589934592) (l:ts.length<=1000):∃R,Iz (plc ts) ts=some (R,0)/\PR x ts.length (cf ts) R:=by
 obtain ⟨R,j,i,g,b,f⟩:=Adc (P:=Gi x) (fun m h=>h.cmo) (plc ts) ts h (by omega) l (fun c _ h2 h3=>Adg c h2 h3)
 exact ⟨R,j,i,g,fun t ht=>⟨(b t ht).1,(b t ht).2.mono (by omega)⟩,f⟩
theorem PR.of {x:Bx} {n m:Nat} {f g:Bf->Rat} {R:List Aj} (h:PR x n f R) (b:n<=m) (c:∀a,f a=g a):PR x m g R :=
 ⟨h.cp,fun a=>by rw [h.val,c],h.tb,Nat.le_trans h.len b⟩
theorem Av0 {x:Bx} (I:CSz x) (J:Fc x) {p q:List Aj} (hp:Ha x p) (hq:Ha x q) (L:p.length+q.length<=1000) :
  ∃R,Ml x p q=some (R,0)/\PR x (p.length+q.length) (fun m=>cf p m-cf q m) R:=by
 obtain ⟨M,hb⟩:=Aks I J hp hq
 unfold Ml
 rw [hb]
 simp only [Ae,bnt,cond_false,Iy]
 obtain ⟨u,l,j,i,g⟩:=Uk (k0:=1048579) (k:=1048576) (P:=Gi x) (fun m h=>h.cmo) p [] (Col.nil _ _) hp.tb (by omega) (by omega) (by simp; omega)
 simp at i
 obtain ⟨r,B,A,z⟩:=Avt
 obtain ⟨G,E,c,D,b⟩:=Avs (k:=1048576) q A (fun t ht=>(hq.tb t ht).1) (by omega) (by omega) (by omega)
 obtain ⟨v,f,v2,v3,v4⟩:=Uk (k:=1048579) (P:=Gi x) (fun m h=>h.cmo) G u j (fun t ht=>⟨(b t ht).1,by obtain ⟨w,hw,e⟩:=(b t ht).2; rw [<-e]; exact (hq.tb w hw).2⟩) (by omega) (by rw [c]; omega) (by omega)
 obtain ⟨R,y,s⟩:=Avz v2 (by rw [c]; omega) (by omega)
 rw [show H9 p [] []=some (plc u,u) from l,Ae,B,Ae,E,Ae,f,Ae,y,Ae]
 exact ⟨R,rfl,s.of (by omega) fun m=>by rw [v4,g,D,z]; simp only [cf]; grind⟩
theorem Ha.nil (x:Bx):Ha x []:=⟨Yl.2 ⟨by simp,CP.nil,fun t ht=>by cases ht⟩,fun t ht=>by cases ht⟩
end Go.Ab
namespace Go.Ab
open Go
theorem Adh:∀n k,bc n k<=n ^ k
 | n,0=>by rw [H5]; exact Nat.le_refl _
 | 0,k+1=>by simp [bc]
 | n+1,k+1=>by
  have h1:=Adh n k
  have h2:=Adh n (k+1)
  have h3:n ^ k<=(n+1) ^ k:=Nat.pow_le_pow_left (by omega) k
  have b:n ^ (k+1)<=n*(n+1) ^ k:=by rw [Nat.pow_succ,Nat.mul_comm]; exact Nat.mul_le_mul_left _ h3
  rw [bc,Nat.pow_succ,Nat.mul_add,Nat.mul_one,Nat.mul_comm]; omega
end Go.Ab
namespace Go.Ab
open Go
def Sm (a:Nat):Prop:=a<=5000 ^ 6
theorem Sm.of {a d:Nat} (h:a<=5000 ^ d) (hd:d<=6):Sm a:=Nat.le_trans h (Nat.pow_le_pow_right (by decide) hd)
end Go.Ab
namespace Go.Ab
open Go
theorem Akx (z:Int):mkRat z 1=(z:Rat):=by
 rw [Rat.mkRat_eq_div,show ((1:Nat):Rat)=1 from rfl]; grind
theorem Rn (n:Nat):rq (cR n)=(n:Rat):=by
 unfold cR
 rw [L3 _ _ _ (by decide),Akx]; rfl
theorem Av1 (n:Nat):H4 (cR n):=Rh _ _ _ (by decide)
end Go.Ab
namespace Go.Ab
open Go
end Go.Ab
namespace Go.Ab
open Go
end Go.Ab
namespace Go.Ab
open Go
end Go.Ab
namespace Go.Ab
open Go
end Go.Ab
namespace Go.Ab
open Go
def sm:Nat->(Nat->Nat)->Nat
 | 0,_=>0
 | n+1,f=>sm n f+f n
theorem Uo {f g:Nat->Nat}:∀{n:Nat},(∀k,k<n->f k=g k)->sm n f=sm n g
 | 0,_=>rfl
 | n+1,h=>by rw [sm,sm,Uo (n:=n) fun k hk=>h k (by omega),h n (by omega)]
theorem Up (f g:Nat->Nat):∀n,sm n (fun k=>f k+g k)=sm n f+sm n g
 | 0=>rfl
 | n+1=>by simp only [sm,Up f g n]; omega
theorem Aky (c:Nat) (f:Nat->Nat):∀n,sm n (fun k=>c*f k)=c*sm n f
 | 0=>rfl
 | n+1=>by simp only [sm,Aky c f n,Nat.mul_add]
theorem Uq {f:Nat->Nat}:∀{n:Nat},(∀k,k<n->f k=0)->sm n f=0
 | 0,_=>rfl
 | n+1,h=>by rw [sm,Uq (n:=n) fun k hk=>h k (by omega),h n (by omega)]
theorem Adi (f:Nat->Nat):∀n,sm (n+1) f=f 0+sm n (fun k=>f (k+1))
 | 0=>by simp [sm]
 | n+1=>by rw [sm,Adi f n,sm]; omega
theorem Akz {f:Nat->Nat} {n:Nat}:∀{m:Nat},n<=m->(∀k,n<=k->f k=0)->sm m f=sm n f
 | 0,h,_=>by rw [show n=0 by omega]
 | m+1,h,b=>by
  by_cases e:n=m+1
  .rw [e]
  .rw [sm,Akz (m:=m) (by omega) b,b m (by omega),Nat.add_zero]
theorem Adj {f:Nat->Nat} {n k:Nat} (hk:k<n) (b:∀j,j≠k->f j=0):sm n f=f k:=by
 induction n with
 | zero=>omega
 | succ n ih=>
  rw [sm]
  by_cases e:k=n
  .subst e
   rw [Uq fun j hj=>b j (by omega),Nat.zero_add]
  .rw [ih (by omega),b n (by omega),Nat.add_zero]
theorem O8:∀n,bc n n=1
 | 0=>rfl
 | n+1=>by
  rw [bc,O8 n]
  have:bc n (n+1)=0:=by have:=bc_big2 n (n+1) (by omega); exact this
  omega
where bc_big2:∀n k,n<k->bc n k=0
 | n,0,h=>absurd h (by omega)
 | 0,k+1,_=>rfl
 | n+1,k+1,h=>by rw [bc,bc_big2 n k (by omega),bc_big2 n (k+1) (by omega)]
theorem Ro {n k:Nat} (h:n<k):bc n k=0:=O8.bc_big2 n k h
theorem Rp (n k:Nat):bc (n+1) (k+1)=bc n k+bc n (k+1):=by rw [bc]
def Rc (a b k:Nat):Nat:=if b<=k then bc k a*bc a (k-b) else 0
theorem Ak0 {a b k:Nat} (h:a+b<k):Rc a b k=0:=by
 unfold Rc
 rw [if_pos (by omega),Ro (show a<k-b by omega),Nat.mul_zero]
theorem Av2 {a b k:Nat} (h:k<a):Rc a b k=0:=by
 unfold Rc
 split
 .rw [Ro h,Nat.zero_mul]
 .rfl
theorem Ak1 (b k:Nat):Rc 0 b k=if k=b then 1 else 0:=by
 unfold Rc
 by_cases h:k=b
 .subst h; rw [if_pos (Nat.le_refl _),if_pos rfl,Nat.sub_self,H5,H5]
 .rw [if_neg h]
  split
  .rw [Ro (show 0<k-b by omega),Nat.mul_zero]
  .rfl
theorem Ak2 (a k:Nat):Rc a 0 k=if k=a then 1 else 0:=by
 unfold Rc
 rw [if_pos (Nat.zero_le _),Nat.sub_zero]
 by_cases h:k=a
 .subst h; rw [if_pos rfl,O8]
 .rw [if_neg h]
  rcases Nat.lt_or_ge k a with h2 | h2
  .rw [Ro h2,Nat.zero_mul]
  .rw [Ro (show a<k by omega),Nat.mul_zero]
theorem Av3 (a b k:Nat):Rc (a+1) (b+1) (k+1)=Rc a (b+1) k+Rc (a+1) b k+Rc a b k:=by
 unfold Rc
 by_cases h:b<=k
 .rw [if_pos (by omega),if_pos h,if_pos h,show k+1-(b+1)=k-b by omega,Rp]
  by_cases h2:b+1<=k
  .rw [if_pos h2]
   obtain ⟨j,hj⟩:∃j,k-b=j+1:=⟨k-b-1,by omega⟩
   rw [hj,show k-(b+1)=j by omega,Rp]
   simp only [Nat.add_mul,Nat.mul_add]; omega
  .rw [if_neg h2,show k-b=0 by omega,H5,H5]; omega
 .rw [if_neg (by omega),if_neg h,if_neg h,if_neg (by omega)]
theorem Av4 (a b:Nat):Rc (a+1) (b+1) 0=0:=by
 unfold Rc; rw [if_neg (by omega)]
theorem Av5 (f:Nat->Nat) (n N:Nat):sm (N+1) (fun k=>f k*bc (n+1) k)=sm (N+1) (fun k=>f k*bc n k)+sm N (fun k=>f (k+1)*bc n k):=by
 rw [Adi,Adi (fun k=>f k*bc n k),H5,H5]
 have:sm N (fun k=>f (k+1)*bc (n+1) (k+1))=sm N (fun k=>f (k+1)*bc n (k+1))+sm N (fun k=>f (k+1)*bc n k):=by
  rw [<-Up]
  exact Uo fun k _=>by rw [Rp,Nat.mul_add]; omega
 rw [this]; omega
theorem Ur:∀(n a b N:Nat),a+b<N->sm N (fun k=>Rc a b k*bc n k)=bc n a*bc n b
 | n,0,b,N,h=>by
  rw [H5,Nat.one_mul,Adj (k:=b) (by omega) fun j hj=>by rw [Ak1,if_neg hj,Nat.zero_mul],Ak1,if_pos rfl,Nat.one_mul]
 | n,a+1,0,N,h=>by
  rw [H5,Nat.mul_one,Adj (k:=a+1) (by omega) fun j hj=>by rw [Ak2,if_neg hj,Nat.zero_mul],Ak2,if_pos rfl,Nat.one_mul]
 | 0,a+1,b+1,N,h=>by
  rw [show bc 0 (a+1)=0 from rfl,Nat.zero_mul]
  refine Uq fun k _=>?_
  cases k with
  | zero=>rw [Av4,Nat.zero_mul]
  | succ k=>rw [show bc 0 (k+1)=0 from rfl,Nat.mul_zero]
 | n+1,a+1,b+1,N,h=>by
  obtain ⟨N,rfl⟩:∃M,N=M+1:=⟨N-1,by omega⟩
  rw [Av5,Ur n (a+1) (b+1) (N+1) h]
  have h1:=Ur n a (b+1) N (by omega)
  have h2:=Ur n (a+1) b N (by omega)
  have h3:=Ur n a b N (by omega)
  have c:sm N (fun k=>Rc (a+1) (b+1) (k+1)*bc n k)=sm N (fun k=>Rc a (b+1) k*bc n k)+sm N (fun k=>Rc (a+1) b k*bc n k)+sm N (fun k=>Rc a b k*bc n k):=by
   rw [<-Up,<-Up]
   exact Uo fun k _=>by rw [Av3,Nat.add_mul,Nat.add_mul]
  rw [c,h1,h2,h3,Rp,Rp,Nat.add_mul,Nat.mul_add,Nat.mul_add]; omega
theorem Ak3 {f g:Nat->Nat} {N:Nat} (h:∀n,n<N->sm N (fun k=>f k*bc n k)=sm N (fun k=>g k*bc n k)):∀k,k<N->f k=g k:=by
 intro k
 induction k using Nat.strongRecOn with
 | ind k ih=>
  intro hk
  have cut:∀F:Nat->Nat,sm N (fun j=>F j*bc k j)=sm k (fun j=>F j*bc k j)+F k:=by
   intro F
   have e:sm N (fun j=>F j*bc k j)=sm (k+1) (fun j=>F j*bc k j):=Akz (by omega) fun j hj=>by rw [Ro (by omega),Nat.mul_zero]
   rw [e,sm,O8,Nat.mul_one]
  have:=h k hk
  rw [cut f,cut g,Uo (f:=fun j=>f j*bc k j) (g:=fun j=>g j*bc k j) fun j hj=>by rw [ih j hj (by omega)]] at this
  omega
end Go.Ab
namespace Go.Ab
open Go
noncomputable def Rq {α:Type} (cmp:α->α->Option Int) (a0:Int):Int×List α->Option ((Int×List α)⊕(Int×List α)):=fun (v31,b)=>
 (show Option Bool from
 bif (decide (v31>a0)) then (
 (Ag b v31).bind fun v33=>
 (Ag b (Ac (v31-1))).bind fun g=>
 (cmp v33 g).bind fun v35=>
 some (decide (v35<(0:Int))))
 else some false).bind fun f=>
 bif f then (
 (Ag b (Ac (v31-1))).bind fun v37=>
 (Ag b v31).bind fun c=>
 (Ag b v31).bind fun v39=>
 (Ag (B9 b v31 v37) (Ac (v31-1))).bind fun v40=>
 some (.inl ((Ac (v31-1)),(B9 (B9 b v31 v37) (Ac (v31-1)) c))))
 else some (.inr (v31,b))
noncomputable def Us {α:Type} (cmp:α->α->Option Int) (a0 a1:Int) (g:List α):Option (List α) :=
 (Ak (S:=(Int×(List α))) (E:=(List α)) (fun (v21,b)=>
 bif (decide (v21<a1)) then (
 (Ak (Rq cmp a0) (v21,b)).bind fun (v41,f)=>
 some (.inl ((Ac (v21+1)),f))
 )
 else (
 some (.inr b)
 )
  ) ((Ac (a0+1)),g)).bind fun c=>
 some c
theorem Av6 {α:Type} (A R:List α) (x y:α):((A++y::x::R).set (A.length+1) y).set A.length x=A++x::y::R:=by
 induction A with
 | nil=>rfl
 | cons a A ih=>simp only [List.cons_append,List.length_cons,List.set_cons_succ,ih]
theorem Adk {α:Type} (A R:List α) (x:α):(A++x::R)[A.length]? = some x:=by simp
theorem Av7 {α:Type} (A R:List α) (x y:α):(A++y::x::R)[A.length+1]? = some x:=by
 induction A with
 | nil=>rfl
 | cons a A ih=>simp
theorem Av8 {α:Type} (cmp:α->α->Option Int) (y:α) (R:List α):Rq cmp 0 (0,y::R)=some (.inr (0,y::R)):=by
 unfold Rq
 simp only [Ar (by omega:¬(0:Int)>0),cond_false,Ae]
theorem Av9 {α:Type} {cmp:α->α->Option Int} {c:α->α->Int} {N:Nat} (i:N<=1099511627776) (A R:List α) (u y:α) (b:cmp u y=some (c u y)) (f:(A++y::u::R).length<=N):Rq cmp 0 (((A.length+1:Nat):Int),A++y::u::R) =
  if c u y<0 then some (.inl ((A.length:Int),A++u::y::R)) else some (.inr (((A.length+1:Nat):Int),A++y::u::R)):=by
 have h:A.length+1<N:=by simp at f; omega
 have g:Ac (((A.length+1:Nat):Int)-1)=(A.length:Int):=by rw [Ac,Bo] <;> omega
 unfold Rq
 simp only [Al (by omega:((A.length+1:Nat):Int)>0),cond_true,g,Cd (n:=A.length+1) rfl (Av7 A R u y),Cd (n:=A.length) rfl (Adk A (u::R) y),Ae,b]
 by_cases hc:c u y<0
 .rw [Al hc,if_pos hc]
  simp only [cond_true]
  rw [Ey (n:=A.length+1) rfl,Ey (n:=A.length) rfl,Av6]
  have:Ag ((A++y::u::R).set (A.length+1) y) (A.length:Int)=some y:=by
   refine Cd rfl ?_
   rw [List.getElem?_set_ne (by omega)]; exact Adk A (u::R) y
  rw [this]; rfl
 .rw [Ar hc,if_neg hc]; rfl
theorem Awa {α:Type} {cmp:α->α->Option Int} {c:α->α->Int} {N:Nat} (s:N<=1099511627776) :
  ∀(n:Nat) (A R:List α) (x:α),A.length=n->(∀t∈A,cmp x t=some (c x t))->(A++x::R).length<=N ->
   ∃f i,Ak (Rq cmp 0) ((A.length:Int),A++x::R)=some ((f.length:Int),f++x::(i++R))/\A=f++i/\(∀a∈i,c x a<0)/\∀k y,f=k++[y]->¬c x y<0:=by
 intro n
 induction n with
 | zero=>
  intro A R x g _ _
  have:A = []:=List.length_eq_zero_iff.1 g
  subst this
  exact ⟨[],[],Ea (Av8 cmp x R),rfl,(fun _ h=>by cases h),(fun k y h=>by simp at h)⟩
 | succ n ih=>
  intro A R x g l b
  obtain ⟨B,y,rfl⟩:∃B y,A=B++[y]:=by
   rcases List.eq_nil_or_concat A with h | ⟨B,y,h⟩
   .rw [h] at g; cases g
   .exact ⟨B,y,by simpa using h⟩
  have u:B.length=n:=by simpa using g
  have E:(B++[y])++x::R=B++y::x::R:=by simp
  have el:(((B++[y]).length:Nat):Int)=((B.length+1:Nat):Int):=by simp
  rw [E] at b ⊢
  rw [el]
  have j:=Av9 (cmp:=cmp) (c:=c) s B R x y (l y (by simp)) b
  by_cases hc:c x y<0
  .rw [if_pos hc] at j
   obtain ⟨f,i,h1,h2,h3,D⟩:=ih B (y::R) x u (fun t ht=>l t (by simp [ht])) (by simpa using b)
   refine ⟨f,i++[y],?_,by rw [h2]; simp,?_,D⟩
   .rw [Hc j,h1]; simp
   .intro a ha
    rcases List.mem_append.1 ha with ha | ha
    .exact h3 a ha
    .simp only [List.mem_singleton] at ha
     subst ha; exact hc
  .rw [if_neg hc] at j
   refine ⟨B++[y],[],?_,by simp,(fun _ h=>by cases h),?_⟩
   .rw [Ea j]; simp
   .intro k z q
    have:=List.append_inj' q rfl
    have e:y=z:=by simpa using this.2
    subst e; exact hc
theorem Awb {α:Type} {c:α->α->Int} (L:Mj c) {f j:List α} {x:α} (s:(f++j).Pairwise (fun a b=>¬c b a<0)) (h2:∀a∈j,c x a<0) (h1:∀g y,f=g++[y]->¬c x y<0):(f++x::j).Pairwise (fun a b=>¬c b a<0):=by
 obtain ⟨i,l,k⟩:=List.pairwise_append.1 s
 have hx:∀a∈f,¬c x a<0:=by
  intro a ha
  rcases List.eq_nil_or_concat f with h | ⟨g,y,h⟩
  .rw [h] at ha; cases ha
  .have h:f=g++[y]:=by simpa using h
   have q:=h1 g y h
   rw [h] at ha i
   rcases List.mem_append.1 ha with ha | ha
   .exact L.ntr x y a q ((List.pairwise_append.1 i).2.2 a ha y (by simp))
   .simp only [List.mem_singleton] at ha
    subst ha; exact q
 refine List.pairwise_append.2 ⟨i,List.pairwise_cons.2 ⟨fun a ha h=>L.irr x (L.trs x a x (h2 a ha) h),l⟩,fun a ha b hb=>?_⟩
 rcases List.mem_cons.1 hb with rfl | hb
 .exact hx a ha
 .exact k a ha b hb
theorem Ak4 {α:Type} {cmp:α->α->Option Int} {c:α->α->Int} (L:Mj c) (f:List α) (A:∀x∈f,∀y∈f,cmp x y=some (c x y)) (J:f.length<=1099511627776) :
  ∃R,Us cmp 0 (f.length:Int) f=some R/\R.Perm f/\R.Pairwise (fun a b=>¬c b a<0):=by
 unfold Us
 cases f with
 | nil=>
  refine ⟨[],?_,List.Perm.refl _,List.Pairwise.nil⟩
  refine Gt 0 (fun _=>((1:Int),([]:List α))) (by simp [Ac,Bo]) (fun j hj=>by omega) ⟨[],?_,rfl⟩
  simp
 | cons z0 B=>
 generalize k:z0::B=f at *
 have hpos:1<=f.length:=by rw [<-k]; simp
 refine Ew (fun s=>∃(i:Nat) (S:List α),s=((i:Int),S++f.drop i)/\1<=i/\i<=f.length/\S.length=i/\S.Perm (f.take i)/\S.Pairwise (fun a b=>¬c b a<0)) (fun s=>f.length-s.1.toNat)
  (fun R=>R.Perm f/\R.Pairwise (fun a b=>¬c b a<0)) ⟨1,[z0],by rw [<-k]; simp [Ac,Bo],by omega,hpos,rfl,by rw [<-k]; simp,List.pairwise_singleton _ _⟩ ?_ ?_
 .rintro _ ⟨i,S,rfl,G,M,E,g,l⟩
  rcases Nat.lt_or_ge i f.length with h | h
  .have hx:f[i]? = some f[i]:=Ck h
   have hxm:f[i]∈f:=List.getElem_mem h
   generalize f[i]=x at hx hxm
   have D:f.drop i=x::f.drop (i+1):=Im hx
   have z:(S++x::f.drop (i+1)).length=f.length:=by simp; omega
   simp only [Al (by omega:(i:Int)<(f.length:Int)),cond_true,Dj h (by omega)]
   rw [D]
   left
   obtain ⟨u,q,h1,h2,h3,I⟩:=Awa (cmp:=cmp) (c:=c) (N:=f.length) (by omega) S.length S (f.drop (i+1)) x rfl (fun t ht=>A x hxm t (List.mem_of_mem_take (g.mem_iff.1 ht))) (by rw [z]; exact Nat.le_refl _)
   rw [E] at h1
   have hp:(u++x::q).Perm (f.take (i+1)):=by
    rw [Dr hx]
    have:(u++x::q).Perm ((u++q)++[x]):=by
     rw [List.append_assoc]
     exact List.Perm.append_left u (List.perm_append_singleton x q).symm
    exact this.trans (by rw [<-h2]; exact g.append_right [x])
   refine ⟨(((i+1:Nat):Int),(u++x::q)++f.drop (i+1)),bnd h1 (by simp),⟨i+1,u++x::q,rfl,by omega,by omega,?_,hp,?_⟩,by simp; omega⟩
   .rw [hp.length_eq,List.length_take]; omega
   .rw [h2] at l
    exact Awb L l h3 I
  .have:i=f.length:=by omega
   subst this
   rw [List.take_length] at g
   simp only [Ar (by omega:¬(f.length:Int)<(f.length:Int)),cond_false,List.drop_length,List.append_nil]
   exact .inr ⟨S,rfl,g,l⟩
 .rintro R ⟨h1,h2⟩
  exact ⟨R,rfl,h1,h2⟩
noncomputable def Ak5 {α:Type} (B:Nat) (gr:Int->Option (List α)) (a0:List (List α)):Option (List α) :=
 (Ak (S:=(Int×Int)) (E:=Int) (fun (v2,v3)=>
 bif (decide (v3<(a0.length:Int))) then (
 (Ag a0 v3).bind fun v4=>
 bif (decide ((Ac (v2+(v4.length:Int)))<(0:Int))) then (
 none
 )
 else (
 some (.inl ((Ac (v2+(v4.length:Int))),(Ac (v3+1))))
 )
 )
 else (
 some (.inr v2)
 )
  ) (0,0)).bind fun v5=>
 (gr v5).bind fun i=>
 (Ak (S:=(Int×(List α))) (E:=(List α)) (fun (b,c)=>
 bif (decide (b<(a0.length:Int))) then (
 (Ag a0 b).bind fun f=>
 (B8 B c f).bind fun h=>
 some (.inl ((Ac (b+1)),h))
 )
 else (
 some (.inr c)
 )
  ) (0,i)).bind fun g=>
 some g
theorem Adl {α:Type} {B:Nat} (g:B<=1024) {gr:Int->Option (List α)} (l:∀n:Nat,n<=1000000->gr (n:Int)=some []) (a b:List α) (h:a.length+b.length<=1000000):Ak5 B gr [a,b]=some (a++b):=by
 have m1:a.length*B<=1000000*1024:=Nat.mul_le_mul (by omega) g
 have m2:(a.length+b.length)*B<=1000000*1024:=Nat.mul_le_mul h g
 have f:Ac 1=1:=by rw [Ac,Bo] <;> omega
 have c:Ac 2=2:=by rw [Ac,Bo] <;> omega
 have k:Ac (a.length:Int)=(a.length:Int):=by rw [Ac,Bo] <;> omega
 have i:Ac ((a.length:Int)+(b.length:Int))=((a.length:Int)+(b.length:Int)):=by rw [Ac,Bo] <;> omega
 have i0:Ag [a,b] 0=some a:=rfl
 have i1:Ag [a,b] 1=some b:=rfl
 have s:B8 B [] a=some a:=by rw [Dm (by simp; omega)]; rfl
 have q:B8 B a b=some (a++b):=Dm (by omega)
 unfold Ak5
 refine Gt 2 (fun j=>if j=0 then (0,0) else if j=1 then ((a.length:Int),1) else (((a.length+b.length:Nat):Int),2)) rfl ?_ ⟨((a.length+b.length:Nat):Int),?_,?_⟩
 .intro j hj
  rcases (by omega:j=0\/j=1) with rfl | rfl
  .have:¬((a.length:Int)<0):=by omega
   simp [i0,k,f,this]
  .have:¬((a.length:Int)+(b.length:Int)<0):=by omega
   simp [i1,i,c,this]
 .simp
 .rw [l _ h,Ae]
  refine Gt 2 (fun j=>if j=0 then (0,[]) else if j=1 then (1,a) else (2,a++b)) rfl ?_ ⟨a++b,?_,rfl⟩
  .intro j hj
   rcases (by omega:j=0\/j=1) with rfl | rfl
   .simp [i0,f,s]
   .simp [i1,c,q]
  .simp
end Go.Ab
namespace Go.Ab
open Go
def Big:Nat:=1000000000 ^ 100
structure Np (x:Aq) (a:Nat):Prop where
 rb:RB 200 x
 s:sv x=false
 n:nv x=a
 d:dv x=1
theorem Adm {a:Nat} (h:a<Big):A6 a<=100:=Ih h
theorem Np.cR {a:Nat} (h:A6 a<=200):Np (cR a) a:=⟨Adf h (by decide),(Ade a).1,(Ade a).2.1,(Ade a).2.2⟩
theorem Np.c {a:Nat} (h:a<Big):Np (Ab.cR a) a:=Np.cR (by have:=Adm h; omega)
theorem Np.z:Np ⟨false,[],[]⟩ 0:=⟨Auf 200,by unfold sv; simp,by unfold nv; simp [Ah],by unfold dv; simp [Ah]⟩
theorem Np.add {x y:Aq} {a b:Nat} (hx:Np x a) (hy:Np y b):Lj x y=some (Ab.cR (a+b)):=by
 rw [Aby _ _ 200 200 hx.rb hy.rb (by omega) (by omega),hx.s,hx.n,hx.d,hy.s,hy.n,hy.d]
 simp [Kf,I7,Ab.cR]
theorem Np.mul {x y:Aq} {a b:Nat} (hx:Np x a) (hy:Np y b):Gn x y=some (Ab.cR (a*b)):=by
 rw [Abx _ _ 200 200 hx.rb hy.rb (by omega) (by omega),hx.s,hx.n,hx.d,hy.s,hy.n,hy.d]
 simp [Ab.cR]
theorem Np.sign {x:Aq} {a:Nat} (hx:Np x a):G1 x=some (if a=0 then 0 else 1):=by
 rw [Abv _ 200 hx.rb (by omega),hx.s,hx.n]
 simp [G6]
theorem Np.can {x:Aq} {a:Nat} (hx:Np x a):Lo x=some (Ab.cR a):=by
 rw [Abu _ 200 hx.rb (by omega),hx.s,hx.n,hx.d]; rfl
def Ls (n:Nat) (f:Nat->Nat):List Aq:=(List.range n).map fun k=>cR (f k)
theorem K8 (n:Nat) (f:Nat->Nat):(Ls n f).length=n:=by simp [Ls]
theorem Ju {n k:Nat} (f:Nat->Nat) (h:k<n):(Ls n f)[k]? = some (cR (f k)):=by simp [Ls,h]
theorem Ut {n:Nat} {l:List Aq} {f:Nat->Nat} (b:l.length=n) (h:∀k,k<n->l[k]? = some (cR (f k))):l=Ls n f:=by
 apply List.ext_getElem?
 intro k
 rcases Nat.lt_or_ge k n with hk | hk
 .rw [h k hk,Ju f hk]
 .rw [List.getElem?_eq_none (by omega),List.getElem?_eq_none (by rw [K8]; omega)]
theorem Yx {α R:Type} {step:Int×List α->Option ((Int×List α)⊕List α)} {J:List α->Option R} {r:R} {i n:Nat} (o:List α) (g:Nat->α) (y:i<=n) (q:o.length=n)
  (l:∀(j:Nat) (o':List α),i<=j->j<n->o'.length=n->step ((j:Int),o')=some (.inl (((j+1:Nat):Int),o'.set j (g j))))
  (z:∀o',o'.length=n->step ((n:Int),o')=some (.inr o'))
  (A:∀o',o'.length=n->(∀k,k<i->o'[k]? = o[k]?)->(∀k,i<=k->k<n->o'[k]? = some (g k))->J o'=some r):(Ak step ((i:Int),o)).bind J=some r:=by
 obtain ⟨e,B,f⟩:=Lc (step:=step) (fun s=>∃(j:Nat) (o':List α),s=((j:Int),o')/\i<=j/\j<=n/\o'.length=n/\(∀k,k<i->o'[k]? = o[k]?)/\∀k,i<=k->k<j->o'[k]? = some (g k)) (fun s=>n-s.1.toNat)
  (fun o'=>o'.length=n/\(∀k,k<i->o'[k]? = o[k]?)/\∀k,i<=k->k<n->o'[k]? = some (g k)) (by
  rintro _ ⟨j,o',rfl,c,x,h1,h2,h3⟩
  rcases Nat.lt_or_ge j n with h | h
  .refine .inl ⟨_,l j o' c h h1,⟨j+1,o'.set j (g j),rfl,by omega,by omega,by simp [h1],fun k hk=>?_,fun k b u=>?_⟩,by simp; omega⟩
   .rw [List.getElem?_set_ne (by omega)]; exact h2 k hk
   .rcases Nat.lt_or_ge k j with h' | h'
    .rw [List.getElem?_set_ne (by omega)]; exact h3 k b h'
    .have:k=j:=by omega
     subst this
     rw [List.getElem?_set_self (by omega)]
  .have:j=n:=by omega
   subst this
   exact .inr ⟨o',z o' h1,h1,h2,h3⟩) ((i:Int),o) ⟨i,o,rfl,by omega,y,q,fun _ _=>rfl,fun k h1 h2=>by omega⟩
 rw [B,Ae]
 exact A e f.1 f.2.1 f.2.2
theorem Awc (n:Nat) (b:n<=1000):Tq (n:Int)=some (Ls n fun _=>0):=by
 unfold Tq
 rw [Hw rfl rfl (Nat.le_refl _) (by omega) (by omega),Ae]
 refine Yx (i:=0) (n:=n) _ (fun _=>cR 0) (by omega) (by simp) ?_ ?_ ?_
 .intro j o' _ h2 h3
  have hx:o'[j]? = some o'[j]:=Ck (by omega)
  simp only [List.length_replicate,Al (by omega:(j:Int)<(n:Int)),cond_true,Avu,Ae,Cd rfl hx,Dj h2 (by omega),Ey (n:=j) rfl]
 .intro o' h
  simp only [List.length_replicate,Ar (by omega:¬(n:Int)<(n:Int)),cond_false]
 .intro o' h1 _ h3
  rw [Ut h1 (f:=fun _=>0) fun k hk=>h3 k (by omega) hk]
theorem Ak6 (n k:Nat) (b:n<1000000000) (hk:k<=64):Xd (n:Int) (k:Int)=some (cR (bc n k)):=by
 have h:Ob (n:Int) (k:Int)=some (cR (bc n k)):=by
  rw [Aia n k b hk,Yv,show Bi false (fct k*bc n k) (fct k)=Bi false (fct k*bc n k) (fct k*1) by rw [Nat.mul_one],Ou _ _ _ _ (X8 k)]
  rfl
 exact h
theorem Ak7 {n k:Nat} (h:n<=40):bc n k<Big:=by
 refine Nat.lt_of_le_of_lt (Um n k) ?_
 exact Nat.lt_of_le_of_lt (Nat.pow_le_pow_right (by decide) h) (by decide)
theorem Awd (a b:Nat) (ha:a<=16) (hb:b<=16):Ql (a:Int) (b:Int)=some (Ls (a+b+1) (Rc a b)):=by
 unfold Ql
 have q:Ac ((a:Int)+(b:Int))=((a+b:Nat):Int):=by rw [Ac,Bo] <;> omega
 have l:Ac (((a+b:Nat):Int)+1)=((a+b+1:Nat):Int):=by rw [Ac,Bo] <;> omega
 have e:(if (b:Int)>(a:Int) then (b:Int) else (a:Int))=((max a b:Nat):Int):=by split <;> omega
 rw [q,l,Awc _ (by omega),Ae,e]
 refine Yx (i:=max a b) (n:=a+b+1) _ (fun k=>cR (Rc a b k)) (by omega) (by simp [K8]) ?_ ?_ ?_
 .intro j o' h1 h2 h3
  have hx:o'[j]? = some o'[j]:=Ck (by omega)
  have g:Ac ((j:Int)-(b:Int))=((j-b:Nat):Int):=by rw [Ac,Bo] <;> omega
  have s:Rc a b j=bc j a*bc a (j-b):=by unfold Rc; rw [if_pos (by omega)]
  simp only [Al (by omega:(j:Int)<=((a+b:Nat):Int)),cond_true,Ak6 j a (by omega) (by omega),g,Ak6 a (j-b) (by omega) (by omega),Ae,(Np.c (Ak7 (by omega:j<=40))).mul (Np.c (Ak7 (k:=j-b) (by omega:a<=40))),Cd rfl hx,Dj h2 (by omega),Ey (n:=j) rfl,s]
 .intro o' h
  simp only [Ar (by omega:¬((a+b+1:Nat):Int)<=((a+b:Nat):Int)),cond_false]
 .intro o' h1 h2 h3
  rw [Ut h1 (f:=Rc a b) fun k hk=>?_]
  rcases Nat.lt_or_ge k (max a b) with h | h
  .rw [h2 k h,Ju _ hk]
   have:Rc a b k=0:=by
    rcases (by omega:k<a\/k<b) with h | h
    .exact Av2 h
    .unfold Rc; rw [if_neg (by omega)]
   rw [this]
  .exact h3 k h hk
end Go.Ab
namespace Go.Ab
open Go
theorem Awe {m n:Nat} {f g:Nat->Nat} {c:Nat} (E:m<=1000) (D:n<=1000) (B:∀k,k<m->f k<Big) (q:∀k,k<n->g k<Big) (hc:c<Big) :
  Oi (Ls m f) (Ls n g) (cR c)=some (Ls (max m n) fun k=>(if k<m then f k else 0)+(if k<n then g k else 0)*c):=by
 unfold Oi
 rw [K8,K8]
 have e:(if (n:Int)>(m:Int) then (n:Int) else (m:Int))=((max m n:Nat):Int):=by split <;> omega
 rw [e,Hw rfl rfl (Nat.le_refl _) (by omega) (by omega),Ae]
 refine Yx (i:=0) (n:=max m n) _ (fun k=>cR ((if k<m then f k else 0)+(if k<n then g k else 0)*c)) (by omega) (by simp) ?_ ?_ ?_
 .intro j o' _ h2 h3
  have hx:o'[j]? = some o'[j]:=Ck (by omega)
  obtain ⟨x,A,u⟩:∃x:Aq,(bif decide ((j:Int)<(m:Int)) then ((Ag (Ls m f) (j:Int)).bind fun b=>some (b.Neg,b.Num,b.Den)) else some (false,[],[]))=some (x.Neg,x.Num,x.Den)/\Np x (if j<m then f j else 0):=by
   by_cases h:j<m
   .rw [Al (by omega),cond_true,Cd rfl (Ju f h),if_pos h]
    exact ⟨_,rfl,Np.c (B j h)⟩
   .rw [Ar (by omega),cond_false,if_neg h]
    exact ⟨⟨false,[],[]⟩,rfl,Np.z⟩
  obtain ⟨y,s,l⟩:∃x:Aq,(bif decide ((j:Int)<(n:Int)) then ((Ag (Ls n g) (j:Int)).bind fun b=>some (b.Neg,b.Num,b.Den)) else some (false,[],[]))=some (x.Neg,x.Num,x.Den)/\Np x (if j<n then g j else 0)/\(if j<n then g j else 0)<Big:=by
   by_cases h:j<n
   .rw [Al (by omega),cond_true,Cd rfl (Ju g h),if_pos h]
    exact ⟨_,rfl,Np.c (q j h),q j h⟩
   .rw [Ar (by omega),cond_false,if_neg h]
    exact ⟨⟨false,[],[]⟩,rfl,Np.z,by decide⟩
  have hq:A6 ((if j<n then g j else 0)*c)<=200:=by
   have:=G5 (if j<n then g j else 0) c
   have:=Adm l.2
   have:=Adm hc
   omega
  have hb:Tl x y (cR c)=some (cR ((if j<m then f j else 0)+(if j<n then g j else 0)*c)):=by
   unfold Tl
   rw [(Np.c hc).mul l.1,Ae,Nat.mul_comm c,u.add (Np.cR hq)]; rfl
  simp only [List.length_replicate,Al (by omega:(j:Int)<((max m n:Nat):Int)),cond_true]
  erw [A,Ae,s,Ae]
  dsimp only
  rw [hb,Ae,Cd rfl hx,Ae,Dj h2 (by omega),Ey (n:=j) rfl]
 .intro o' h
  simp only [List.length_replicate,Ar (by omega:¬((max m n:Nat):Int)<((max m n:Nat):Int)),cond_false]
 .intro o' h1 _ h3
  rw [Ut h1 (f:=fun k=>(if k<m then f k else 0)+(if k<n then g k else 0)*c) fun k hk=>h3 k (by omega) hk]
theorem Adn {p:List Aq} {n:Nat} {f:Nat->Nat} (u:n<1000) (s:p.length=n+1) (hp:∀k,k<n+1->∃x,p[k]? = some x/\Np x (f k)) (b:f n≠0):Kz p=some (Ls (n+1) f):=by
 unfold Kz
 obtain ⟨x,q,l⟩:=hp n (by omega)
 have w:Ac (((n+1:Nat):Int)-1)=(n:Int):=by rw [Ac,Bo] <;> omega
 refine bnd (a:=((n+1:Nat):Int)) (Ea ?_) ?_
 .rw [s]
  simp only [Al (by omega:((n+1:Nat):Int)>0),cond_true,w,Cd rfl q,Ae,l.sign,if_neg b]
  rfl
 .rw [Hw rfl rfl (Nat.le_refl _) (by omega) (by omega),Ae]
  refine Yx (i:=0) (n:=n+1) _ (fun k=>cR (f k)) (by omega) (by simp) ?_ ?_ ?_
  .intro j o' _ h2 h3
   have hx:o'[j]? = some o'[j]:=Ck (by omega)
   obtain ⟨y,g,c⟩:=hp j h2
   simp only [List.length_replicate,Al (by omega:(j:Int)<((n+1:Nat):Int)),cond_true,Cd rfl g,c.can,Ae,Cd rfl hx,Dj h2 (by omega),Ey (n:=j) rfl]
  .intro o' h
   simp only [List.length_replicate,Ar (by omega:¬((n+1:Nat):Int)<((n+1:Nat):Int)),cond_false]
  .intro o' h1 _ h3
   rw [Ut h1 (f:=f) fun k hk=>h3 k (by omega) hk]
def Fd (n d:Nat) (f:Nat->Nat) (k:Nat):Nat:=sm n fun a=>f a*Rc a d k
theorem Ak8 (a d:Nat):0<Rc a d (a+d):=by
 unfold Rc
 rw [if_pos (by omega),show a+d-d=a by omega,O8]
 have:0<bc (a+d) a:=by
  have h:∀d,0<bc (a+d) a:=by
   intro d
   induction d with
   | zero=>rw [Nat.add_zero,O8]; decide
   | succ d ih=>
    cases a with
    | zero=>rw [H5]; decide
    | succ a=>rw [show a+1+(d+1)=(a+1+d)+1 by omega,Rp]; omega
  exact h d
 omega
theorem Awf {n d:Nat} {f:Nat->Nat} {p q:List Aq} (a1:n+d<=12) (hp:p=Ls (n+1) f) (i:f n≠0) (hq:q.length=d+1) (R:∀k,k<d+1->∃x,q[k]? = some x/\Np x (if k=d then 1 else 0))
  (U:∀k,k<n+1->f k<Big) (Y:∀a k,a<=n+1->Fd a d f k<Big):Th p q=some (Ls (n+d+1) (Fd (n+1) d f),true):=by
 unfold Th
 have l:p.length=n+1:=by rw [hp,K8]
 rw [l,hq,Ar (by omega),Ar (by omega)]
 simp only [cond_false,Ae]
 have c1:Kz p=some (Ls (n+1) f):=Adn (by omega) l (fun k hk=>⟨_,by rw [hp]; exact Ju f hk,Np.c (U k hk)⟩) i
 have c2:Kz q=some (Ls (d+1) fun k=>if k=d then 1 else 0):=Adn (by omega) hq R (by simp)
 have w:Ac (((n+1:Nat):Int)+((d+1:Nat):Int))=((n+d+2:Nat):Int):=by rw [Ac,Bo] <;> omega
 rw [c1,Ae,c2,Ae,K8,K8,Cu (by omega),Cu (by omega)]
 simp only [cond_false,Ae]
 rw [w,Ar (by omega),cond_false]
 obtain ⟨r,r1,Z⟩:=Ew (J:=fun B=>(Kz B).bind fun A=>some (A,true)) (Q:=fun r=>r=(Ls (n+d+1) (Fd (n+1) d f),true)) (step:=fun (x:List Aq×Int)=>match x with
  | (v25,v26)=>
   bif (decide (v26<((n+1:Nat):Int))) then (
   (Ag (Ls (n+1) f) v26).bind fun M=>
   (Ak (S:=((List Aq)×Int)) (E:=((List Aq)×Int)) (fun (g,v37)=>
   bif (decide (v37<((d+1:Nat):Int))) then (
   (Ag (Ls (d+1) fun k=>if k=d then 1 else 0) v37).bind fun I=>
   (Gn M I).bind fun v40=>
   (G1 v40).bind fun G=>
   bif (G==(0:Int)) then (
   some (.inl (g,(Ac (v37+1))))
   )
   else (
   (Ql v26 v37).bind fun D=>
   (Oi g D v40).bind fun v44=>
   some (.inl (v44,(Ac (v37+1))))
   )
   )
   else (
   some (.inr (g,v37))
   )
    ) (v25,0)).bind fun (v45,v46)=>
   some (.inl (v45,(Ac (v26+1))))
   )
   else (
   some (.inr v25)
   )) (s:=([],0))
  (fun s=>∃(a L:Nat) (h:Nat->Nat),s=(Ls L h,(a:Int))/\a<=n+1/\L<=a+d/\(∀k,(if k<L then h k else 0)=Fd a d f k)/\(a=n+1->L=n+d+1)) (fun s=>n+1-s.2.toNat)
  (fun e=>e=Ls (n+d+1) (Fd (n+1) d f)) ⟨0,0,fun _=>0,rfl,by omega,by omega,fun k=>by simp [Fd,sm],by omega⟩ (by
  rintro _ ⟨a,L,h,rfl,ha,hL,z,y⟩
  rcases Nat.lt_or_ge a (n+1) with h1 | h1
  .left
   have N:Np (cR 0) 0:=Np.c (by decide)
   have b:∀k,Fd (a+1) d f k=Fd a d f k+f a*Rc a d k:=fun k=>rfl
   have hh:∀k,k<L->h k<Big:=fun k hk=>by
    have:=z k
    rw [if_pos hk] at this
    rw [this]; exact Y a k (by omega)
   by_cases h0:f a=0
   .refine ⟨(Ls L h,((a+1:Nat):Int)),?_,⟨a+1,L,h,rfl,by omega,by omega,fun k=>by rw [b,h0,z]; simp,fun e=>?_⟩,by simp; omega⟩
    .simp only [Al (by omega:(a:Int)<((n+1:Nat):Int)),cond_true,Cd rfl (Ju f h1),Ae,h0]
     refine Gt (d+1) (fun j=>(Ls L h,(j:Int))) rfl ?_ ⟨(Ls L h,((d+1:Nat):Int)),?_,?_⟩
     .intro j hj
      have hy:Np (cR (if j=d then 1 else 0)) (if j=d then 1 else 0):=Np.c (by split <;> decide)
      simp only [Al (by omega:(j:Int)<((d+1:Nat):Int)),cond_true,Cd rfl (Ju _ hj),Ae,N.mul hy,Nat.zero_mul,N.sign,if_true,Dj hj (by omega)]
      rfl
     .simp only [Ar (by omega:¬((d+1:Nat):Int)<((d+1:Nat):Int)),cond_false]
     .rw [Dj h1 (by omega)]
    .have:a=n:=by omega
     subst this; exact (i h0).elim
   .have u:=Np.c (U a h1)
    have V:Oi (Ls L h) (Ls (a+d+1) (Rc a d)) (cR (f a))=some (Ls (a+d+1) fun k=>(if k<L then h k else 0)+(if k<a+d+1 then Rc a d k else 0)*f a):=by
     rw [Awe (by omega) (by omega) hh (fun k hk=>?_) (U a h1),show max L (a+d+1)=a+d+1 by omega]
     unfold Rc
     split
     .refine Nat.lt_of_le_of_lt (Nat.mul_le_mul (Um k a) (Um a (k-d))) ?_
      rw [<-Nat.pow_add]
      exact Nat.lt_of_le_of_lt (Nat.pow_le_pow_right (by decide) (by omega:k+a<=40)) (by decide)
     .decide
    refine ⟨(Ls (a+d+1) fun k=>(if k<L then h k else 0)+(if k<a+d+1 then Rc a d k else 0)*f a,((a+1:Nat):Int)),?_,⟨a+1,a+d+1,_,rfl,by omega,by omega,fun k=>?_,fun e=>by omega⟩,by simp; omega⟩
    .simp only [Al (by omega:(a:Int)<((n+1:Nat):Int)),cond_true,Cd rfl (Ju f h1),Ae]
     refine Gt (d+1) (fun j=>if j<=d then (Ls L h,(j:Int)) else (Ls (a+d+1) fun k=>(if k<L then h k else 0)+(if k<a+d+1 then Rc a d k else 0)*f a,(j:Int))) (by simp) ?_ ⟨((Ls (a+d+1) fun k=>(if k<L then h k else 0)+(if k<a+d+1 then Rc a d k else 0)*f a),((d+1:Nat):Int)),?_,?_⟩
     .intro j hj
      have hy:Np (cR (if j=d then 1 else 0)) (if j=d then 1 else 0):=Np.c (by split <;> decide)
      rw [if_pos (by omega)]
      simp only [Al (by omega:(j:Int)<((d+1:Nat):Int)),cond_true,Cd rfl (Ju _ hj),Ae,u.mul hy,Dj hj (by omega)]
      rcases Nat.lt_or_ge j d with h2 | h2
      .rw [if_neg (by omega:¬j=d),Nat.mul_zero,N.sign,Ae,if_pos (by omega:j+1<=d)]
       rfl
      .have:j=d:=by omega
       subst this
       rw [if_pos rfl,Nat.mul_one,u.sign,Ae,if_neg h0,Awd a j (by omega) (by omega),Ae,V,if_neg (by omega)]
       rfl
     .rw [if_neg (by omega)]
      simp only [Ar (by omega:¬((d+1:Nat):Int)<((d+1:Nat):Int)),cond_false]
     .rw [Dj h1 (by omega)]
    .rw [b,<-z]
     by_cases hk:k<a+d+1
     .rw [if_pos hk,if_pos hk,Nat.mul_comm (Rc a d k)]
     .rw [if_neg hk,if_neg (by omega),Ak0 (by omega)]; simp
  .have:a=n+1:=by omega
   subst this
   right
   have X:=y rfl
   refine ⟨Ls L h,?_,?_⟩
   .simp only [Ar (by omega:¬((n+1:Nat):Int)<((n+1:Nat):Int)),cond_false]
   .subst X
    refine Ut (K8 _ _) fun k hk=>?_
    have:=z k
    rw [if_pos hk] at this
    rw [Ju _ hk,this]) (by
  rintro _ rfl
  refine ⟨_,bnd (Adn (n:=n+d) (f:=Fd (n+1) d f) (by omega) (K8 _ _) (fun k hk=>⟨_,Ju _ hk,Np.c (Y _ _ (by omega))⟩) ?_) rfl,rfl⟩
  have e:Fd (n+1) d f (n+d)=Fd n d f (n+d)+f n*Rc n d (n+d):=rfl
  have:=Nat.mul_pos (Nat.pos_of_ne_zero i) (Ak8 n d)
  omega)
 rw [<-Z]
 exact r1
end Go.Ab
namespace Go.Ab
open Go
theorem Awg (d x N:Nat) (f:Nat->Nat):∀M,(∀a,a<M->a+d<N)->sm N (fun k=>Fd M d f k*bc x k)=sm M (fun a=>f a*bc x a)*bc x d:=by
 intro M
 induction M with
 | zero=>intro _; rw [Uq (fun k _=>by simp [Fd,sm])]; simp [sm]
 | succ M ih=>
  intro h
  have e:∀k,Fd (M+1) d f k*bc x k=Fd M d f k*bc x k+f M*(Rc M d k*bc x k):=fun k=>by
   show (Fd M d f k+f M*Rc M d k)*bc x k=_
   rw [Nat.add_mul,Nat.mul_assoc]
  rw [Uo (fun k _=>e k),Up,ih (fun a ha=>h a (by omega)),Aky,Ur x M d N (h M (by omega))]
  show _=(sm M (fun a=>f a*bc x a)+f M*bc x M)*bc x d
  rw [Nat.add_mul,Nat.mul_assoc (f M)]
theorem Awh (d:Nat) (f:Nat->Nat) (k:Nat):∀{m n:Nat},m<=n->Fd m d f k<=Fd n d f k:=by
 intro m n h
 induction n with
 | zero=>
  have:m=0:=by omega
  subst this; exact Nat.le_refl _
 | succ n ih=>
  rcases Nat.lt_or_ge m (n+1) with h' | h'
  .have:=ih (by omega)
   have e:Fd (n+1) d f k=Fd n d f k+f n*Rc n d k:=rfl
   omega
  .have:m=n+1:=by omega
   subst this; exact Nat.le_refl _
def prb (x:Nat):List A3->Nat
 | []=>1
 | a::l=>bc x a.Deg.toNat*prb x l
def Ci:List A3->Nat
 | []=>0
 | a::l=>a.Deg.toNat+Ci l
theorem Ak9 (x:Nat) (l m:List A3):prb x (l++m)=prb x l*prb x m:=by
 induction l with
 | nil=>simp [prb]
 | cons a l ih=>simp only [List.cons_append,prb,ih,Nat.mul_assoc]
theorem L6 (l m:List A3):Ci (l++m)=Ci l+Ci m:=by
 induction l with
 | nil=>simp [Ci]
 | cons a l ih=>simp only [List.cons_append,Ci,ih,Nat.add_assoc]
theorem Ala (x:Nat) {l m:List A3} (h:l.Perm m):prb x l=prb x m:=by
 induction h with
 | nil=>rfl
 | cons a _ ih=>simp only [prb,ih]
 | swap a b l=>simp only [prb]; rw [<-Nat.mul_assoc,<-Nat.mul_assoc,Nat.mul_comm (bc x b.Deg.toNat)]
 | trans _ _ h1 h2=>exact h1.trans h2
theorem Uu {l m:List A3} (h:l.Perm m):Ci l=Ci m:=by
 induction h with
 | nil=>rfl
 | cons a _ ih=>simp only [Ci,ih]
 | swap a b l=>simp only [Ci]; omega
 | trans _ _ h1 h2=>exact h1.trans h2
theorem Awi (x d:Nat):bc x d<=(x+1) ^ d:=Nat.le_trans (Adh x d) (Nat.pow_le_pow_left (by omega) d)
theorem Alb (x:Nat):∀l:List A3,prb x l<=(x+1) ^ Ci l
 | []=>by simp [prb,Ci]
 | a::l=>by
  simp only [prb,Ci,Nat.pow_add]
  exact Nat.mul_le_mul (Awi x _) (Alb x l)
theorem Rr {x:Nat} {l:List A3} (hx:x<=1048576) (hd:Ci l<=12):prb x l<Big:=by
 refine Nat.lt_of_le_of_lt (Alb x l) ?_
 refine Nat.lt_of_le_of_lt (Nat.pow_le_pow_left (by omega:x+1<=1048577) _) ?_
 exact Nat.lt_of_le_of_lt (Nat.pow_le_pow_right (by decide) hd) (by decide)
def PwN (l:List A3) (N:Nat) (f:Nat->Nat):Prop:=N=Ci l/\f N≠0/\∀x,sm (N+1) (fun k=>f k*bc x k)=prb x l
theorem PwN.le {l:List A3} {N:Nat} {f:Nat->Nat} (h:PwN l N f) {k:Nat} (hk:k<N+1):f k<=prb k l:=by
 have h1:=h.2.2 k
 have h2:f k*bc k k<=sm (N+1) (fun j=>f j*bc k j):=by
  have:∀n,k<n->f k*bc k k<=sm n (fun j=>f j*bc k j):=by
   intro n
   induction n with
   | zero=>intro h; omega
   | succ n ih=>
    intro h
    show _<=sm n _+f n*bc k n
    rcases Nat.lt_or_ge k n with h' | h'
    .have:=ih h'; omega
    .have:k=n:=by omega
     subst this; omega
  exact this _ hk
 rw [O8,Nat.mul_one] at h2
 omega
theorem PwN.uniq {l m:List A3} {N M:Nat} {f g:Nat->Nat} (h:PwN l N f) (h':PwN m M g) (hp:l.Perm m):N=M/\∀k,k<N+1->f k=g k:=by
 have e:N=M:=by rw [h.1,h'.1,Uu hp]
 subst e
 exact ⟨rfl,Ak3 fun n _=>by rw [h.2.2 n,h'.2.2 n,Ala n hp]⟩
theorem PwN.step {l:List A3} {N:Nat} {f:Nat->Nat} (h:PwN l N f) (a:A3):PwN (l++[a]) (N+a.Deg.toNat) (Fd (N+1) a.Deg.toNat f):=by
 refine ⟨by rw [L6,h.1]; simp [Ci],?_,fun x=>?_⟩
 .have e:Fd (N+1) a.Deg.toNat f (N+a.Deg.toNat)=Fd N a.Deg.toNat f (N+a.Deg.toNat)+f N*Rc N a.Deg.toNat (N+a.Deg.toNat):=rfl
  have:=Nat.mul_pos (Nat.pos_of_ne_zero h.2.1) (Ak8 N a.Deg.toNat)
  omega
 .rw [Awg _ x _ f (N+1) (fun b ha=>by omega),h.2.2 x,Ak9]
  simp [prb]
theorem Awj (l:List A3) (x:l≠[]) (ht:∀a∈l,a.Lin.Terms.length≠0) (hd:∀a∈l,0<=a.Deg) (M:Ci l<=12) (R:l.length<=1000) :
  ∃N f,J9 l=some (Ls (N+1) f)/\PwN l N f:=by
 have h0:Xg l=false:=by
  cases l with
  | nil=>exact (x rfl).elim
  | cons a L=>
   have:=ht a (by simp)
   show (a.Lin.Terms.length==0)=false
   simpa using this
 have h1:∃N f,Xf l=some (Ls (N+1) f)/\PwN l N f:=by
  unfold Xf
  rw [Un,Ae]
  suffices h:∃r,_/\∃N f,r=Ls (N+1) f/\PwN l N f by
   obtain ⟨r,E,N,f,D,B⟩:=h
   exact ⟨N,f,by rw [<-D]; exact E,B⟩
  refine Ew (fun s=>∃(i N:Nat) (f:Nat->Nat),s=(Ls (N+1) f,(i:Int))/\i<=l.length/\PwN (l.take i) N f) (fun s=>l.length-s.2.toNat) (fun e=>∃N f,e=Ls (N+1) f/\PwN l N f)
   ⟨0,0,fun _=>1,rfl,by omega,by simp [PwN,Ci,prb,sm,H5]⟩ ?_ ?_
  .rintro _ ⟨i,N,f,rfl,S,g⟩
   rcases Nat.lt_or_ge i l.length with h | h
   .left
    have hx:l[i]? = some l[i]:=Ck h
    have b:=List.getElem_mem h
    generalize l[i]=a at hx b
    have U:=ht a b
    have J:=hd a b
    have A:Ci l=Ci (l.take i)+(a.Deg.toNat+Ci (l.drop (i+1))):=by
     have:=L6 (l.take i) (l.drop i)
     rw [List.take_append_drop] at this
     rw [this,Im hx]; rfl
    have V:=g.1
    have w:Ac (a.Deg+1)=((a.Deg.toNat+1:Nat):Int):=by rw [Ac,Bo] <;> omega
    have G:Ag (List.replicate (a.Deg.toNat+1) (⟨false,[],[]⟩:Aq)) a.Deg=some ⟨false,[],[]⟩:=Cd (n:=a.Deg.toNat) (by omega) (by simp)
    have u:=g.step a
    have hb:∀y k,y<=N+1->Fd y a.Deg.toNat f k<Big:=by
     intro y k ha'
     refine Nat.lt_of_le_of_lt (Awh _ f k ha') ?_
     rcases Nat.lt_or_ge k (N+a.Deg.toNat+1) with hk | hk
     .refine Nat.lt_of_le_of_lt (u.le hk) (Rr (by omega) ?_)
      rw [L6]; simp only [Ci]; omega
     .have:Fd (N+1) a.Deg.toNat f k=0:=Uq fun j hj=>by rw [Ak0 (by omega)]; rfl
      rw [this]; decide
    have I:=Awf (n:=N) (d:=a.Deg.toNat) (f:=f) (p:=Ls (N+1) f) (q:=B9 (List.replicate (a.Deg.toNat+1) ⟨false,[],[]⟩) a.Deg (cR 1)) (by omega) rfl g.2.1 (by rw [Ey (n:=a.Deg.toNat) (by omega)]; simp) (fun k hk=>by
     rw [Ey (n:=a.Deg.toNat) (by omega)]
     by_cases e:k=a.Deg.toNat
     .subst e
      rw [if_pos rfl]
      exact ⟨_,List.getElem?_set_self (by simp),Np.c (by decide)⟩
     .rw [if_neg e,List.getElem?_set_ne (by omega)]
      exact ⟨⟨false,[],[]⟩,by simp [hk],Np.z⟩) (fun k hk=>Nat.lt_of_le_of_lt (g.le hk) (Rr (by omega) (by omega))) hb
    refine ⟨(Ls (N+a.Deg.toNat+1) (Fd (N+1) a.Deg.toNat f),((i+1:Nat):Int)),?_,⟨i+1,_,_,rfl,by omega,by rw [Dr hx]; exact u⟩,by simp; omega⟩
    simp only [Al (by omega:(i:Int)<(l.length:Int)),cond_true,Cd rfl hx,Ae,Cu (by omega:¬(a.Lin.Terms.length:Int)=0),cond_false,w,Hw rfl rfl (Nat.le_refl _) (by omega:56*(a.Deg.toNat+1)<=281474976710656) (by omega),Un,G,I,Dj h (by omega)]
   .have:i=l.length:=by omega
    subst this
    rw [List.take_length] at g
    right
    exact ⟨_,by simp only [Ar (by omega:¬(l.length:Int)<(l.length:Int)),cond_false],_,_,rfl,g⟩
  .rintro _ ⟨N,f,rfl,h⟩
   exact ⟨_,rfl,N,f,rfl,h⟩
 obtain ⟨N,f,h2,h3⟩:=h1
 refine ⟨N,f,?_,h3⟩
 unfold J9
 rw [h0,cond_false]
 exact h2
theorem Awk {c:Int} {d:Int} (hc:c<=1048576) (hd:0<=d) (b:d<=64):Qv c d=some (cR (bc c.toNat d.toNat),true):=by
 have h:=Avw c.toNat d.toNat (by omega) (by omega)
 have e:((d.toNat:Nat):Int)=d:=by omega
 rw [e] at h
 rw [<-h]
 unfold Qv
 have f:(if c>(0:Int) then c else 0)=(if ((c.toNat:Nat):Int)>(0:Int) then ((c.toNat:Nat):Int) else 0):=by split <;> split <;> omega
 rw [f]
theorem Awl (l:List A3) {c:Int} (hc:c<=1048576) (ht:∀a∈l,a.Lin.Terms.length=0/\a.Lin.Const=c) (hd:∀a∈l,0<=a.Deg) (G:Ci l<=12) (I:l.length<=1000) :
  J9 l=some [cR (prb c.toNat l)]:=by
 have h1:Xe l=some [cR (prb c.toNat l)]:=by
  unfold Xe
  rw [Un,Ae]
  obtain ⟨r,B,A⟩:∃r,_/\r = [cR (prb c.toNat l)]:=Ew (fun s=>∃i:Nat,s=((i:Int),[cR (prb c.toNat (l.take i))])/\i<=l.length) (fun s=>l.length-s.1.toNat) (fun e=>e = [cR (prb c.toNat l)]) (J:=fun o=>some o)
   (step:=fun (x:Int×List Aq)=>match x with
    | (g,f)=>
     bif (decide (g<(l.length:Int))) then (
     (Ag l g).bind fun b=>
     bif ((b.Lin.Terms.length:Int)==(0:Int)) then (
     (Qv b.Lin.Const b.Deg).bind fun k=>
     (Ag f 0).bind fun v20=>
     (Gn v20 k.1).bind fun v21=>
     (Ag f 0).bind fun v22=>
     some (.inl ((Ac (g+1)),(B9 f 0 v21)))
     )
     else (
     (Eb 56 (Ac (b.Deg+1)) (Ac (b.Deg+1)) ((Aq.mk false [] []):Aq)).bind fun q=>
     (Fq 1).bind fun v25=>
     (Ag q b.Deg).bind fun v26=>
     none
     )
     )
     else (
     some (.inr f)
     )) (s:=(0,[cR 1]))
   ⟨0,rfl,by omega⟩ (by
   rintro _ ⟨i,rfl,L⟩
   rcases Nat.lt_or_ge i l.length with h | h
   .left
    have hx:l[i]? = some l[i]:=Ck h
    have j:=List.getElem_mem h
    generalize l[i]=a at hx j
    obtain ⟨M,D⟩:=ht a j
    have y:=hd a j
    have e:Ci l=Ci (l.take i)+(a.Deg.toNat+Ci (l.drop (i+1))):=by
     have:=L6 (l.take i) (l.drop i)
     rw [List.take_append_drop] at this
     rw [this,Im hx]; rfl
    have hb:prb c.toNat (l.take i)<Big:=Rr (by omega) (by omega)
    have z:bc c.toNat a.Deg.toNat<Big:=by
     have:=Rr (x:=c.toNat) (l:=[a]) (by omega) (by simp only [Ci]; omega)
     simpa [prb] using this
    have u:Ag [cR (prb c.toNat (l.take i))] 0=some (cR (prb c.toNat (l.take i))):=rfl
    refine ⟨_,?_,⟨i+1,rfl,by omega⟩,by simp; omega⟩
    simp only [Al (by omega:(i:Int)<(l.length:Int)),cond_true,Cd rfl hx,Ae,Ez (by omega:(a.Lin.Terms.length:Int)=0),D,Awk hc y (by omega:a.Deg<=64),u,(Np.c hb).mul (Np.c z),Dj h (by omega)]
    rw [Dr hx,Ak9]
    simp [prb,B9]
   .have:i=l.length:=by omega
    subst this
    right
    exact ⟨[cR (prb c.toNat (List.take l.length l))],by simp only [Ar (by omega:¬(l.length:Int)<(l.length:Int)),cond_false],by rw [List.take_length]⟩) (by
   rintro _ rfl
   exact ⟨_,rfl,rfl⟩)
  rw [<-A]
  exact B
 have h0:Xg l=true:=by
  cases l with
  | nil=>rfl
  | cons a E=>
   have:=(ht a (by simp)).1
   show (a.Lin.Terms.length==0)=true
   simpa using this
 unfold J9
 rw [h0,cond_true,h1]
end Go.Ab
namespace Go.Ab
open Go
noncomputable def Yy {α:Type} (cmp:α->α->Option Int) (a0:Int) (g:List α):Option (List α) :=
 (Ak (S:=(Int×Int×(List α))) (E:=(Int×Int×(List α))) (fun (v3,v4,i)=>
 bif (decide (v4<=a0)) then (
 (Us cmp v3 v4 i).bind fun h=>
 (E7 g.length h).bind fun l=>
 some (.inl (v4,(Ac (v4+20)),h))
 )
 else (
 some (.inr (v3,v4,i))
 )
  ) (0,20,g)).bind fun (v8,v9,f)=>
 (Us cmp v8 a0 f).bind fun c=>
 (E7 g.length c).bind fun v12=>
 (Ak (S:=(Int×Int×Int)) (E:=Unit) (fun (b,k,j)=>
 bif (decide (b<a0)) then (
 (Ak (S:=Unit) (E:=Unit) (fun _=>
 bif (decide ((Ac (2*b))<=a0)) then (
 none
 )
 else (
 some (.inr ())
 )
  ) ()).bind fun _=>
 bif (decide ((Ac (0+b))<a0)) then (
 none
 )
 else (
 some (.inl ((Ac (b*2)),0,(Ac (2*b))))
 )
 )
 else (
 some (.inr ())
 )
  ) (20,v8,v9)).bind fun _=>
 some c
theorem Alc {α:Type} {cmp:α->α->Option Int} {c:α->α->Int} (L:Mj c) (f:List α) (g:∀x∈f,∀y∈f,cmp x y=some (c x y)) (h:f.length<20) :
  ∃R,Yy cmp (f.length:Int) f=some R/\R.Perm f/\R.Pairwise (fun a b=>¬c b a<0):=by
 obtain ⟨R,h1,h2,h3⟩:=Ak4 L f g (by omega)
 refine ⟨R,?_,h2,h3⟩
 unfold Yy
 refine bnd (a:=(0,20,f)) (Ea ?_) ?_
 .simp only [Ar (by omega:¬(20:Int)<=(f.length:Int)),cond_false]
 .dsimp only
  rw [h1,Ae,L5 h2.length_eq.symm,Ae]
  refine bnd (a:=()) (Ea ?_) rfl
  simp only [Ar (by omega:¬(20:Int)<(f.length:Int)),cond_false]
theorem Uv:Mj Fs where
 irr x:=by rw [(G9.zero x x trivial trivial).2 rfl]; omega
 trs x y z h1 h2:=G9.trans x y z trivial trivial trivial h1 h2
 ntr x y z h1 h2 h3:=by
  rcases Int.lt_trichotomy (Fs x y) 0 with k | k | k
  .exact h1 k
  .have:=(G9.zero x y trivial trivial).1 k
   subst this; exact h2 h3
  .have b:Fs y x<0:=by rw [G9.anti x y trivial trivial]; omega
   exact h2 (G9.trans y x z trivial trivial trivial b h3)
theorem Awm:Mj (fun a b:A3=>Fs a.Lin b.Lin):=⟨fun _=>Uv.irr _,fun _ _ _=>Uv.trs _ _ _,fun _ _ _=>Uv.ntr _ _ _⟩
def Yz (l:List A3):Prop:=l.Pairwise fun a b=>¬Fs b.Lin a.Lin<0
theorem Awn (b:List A3) (ht:∀a∈b,a.Lin.Terms.length<1099511627776) (c:b.length<20):∃R,Qg b=some R/\R.Perm b/\Yz R:=by
 obtain ⟨R,h1,h2,h3⟩:=Alc (cmp:=Qh) Awm b (fun x hx y _=>by
  unfold Qh
  rw [Yi x.Lin y.Lin (ht x hx)]; rfl) c
 refine ⟨R,?_,h2,h3⟩
 unfold Qg
 have e:W3 (b.length:Int) b=Yy Qh (b.length:Int) b:=rfl
 rw [e,h1,Ae,L5 h2.length_eq.symm]; rfl
theorem Awo:Qd []=some []:=by
 obtain ⟨R,h1,h2,h3⟩:=Alc (cmp:=Tf) (c:=fun _ _=>0) ⟨fun _=>by omega,fun _ _ _ h=>by omega,fun _ _ _ _ _=>by omega⟩ ([]:List B4) (fun x hx=>by cases hx) (by simp)
 have b:R = []:=List.Perm.eq_nil h2
 subst b
 unfold Qd
 have e:W2 ((([]:List B4).length:Nat):Int) []=Yy Tf ((([]:List B4).length:Nat):Int) []:=rfl
 rw [e,h1]; rfl
theorem Ado {α:Type} (n:Nat) (h:n<=1000000):Kt (α:=α) (n:Int)=some []:=by
 unfold Kt
 rw [Al (by omega),Al (by omega)]; rfl
theorem Awp (a b:List A3) (h:a.length+b.length<=1000000):Wy [a,b]=some (a++b) :=
 Adl (B:=40) (by decide) (gr:=W5) (fun n h=>Ado n h) a b h
theorem Awq (a b:List B4) (h:a.length+b.length<=1000000):Wx [a,b]=some (a++b) :=
 Adl (B:=40) (by decide) (gr:=W4) (fun n h=>Ado n h) a b h
theorem Ald (m n:Bf) (h1:m.Factors.length+n.Factors.length<=1000000) (h2:m.Atoms.length+n.Atoms.length<=1000000):Mq m n=some ⟨m.Factors++n.Factors,m.Atoms++n.Atoms⟩:=by
 unfold Mq
 rw [Awq _ _ h1,Ae,Awp _ _ h2]; rfl
def atO (l:Be) (k:Nat):List A3:=if k=0 then [] else [⟨l,k⟩]
theorem Awr (l:Be) (k:Nat):Od l (k:Int)=some (atO l k):=by
 unfold Od atO
 by_cases h:k=0
 .rw [Ez (by omega),if_pos h]; rfl
 .rw [Cu (by omega),if_neg h]; rfl
theorem Ale (l:Be) (k:Nat):(atO l k).length<=1:=by unfold atO; split <;> simp
theorem Aws {t:Aj} {x:Aq} {K:Nat} {A B:List A3} (b:t.Mono=⟨[],A⟩) (f:A.length+B.length<=1000000) (j:K<30000000000) (h1:RB K t.Coef) (h2:RB 200 x) :
  ∃u,Oc t x ⟨[],B⟩=some u/\u.Mono=⟨[],A++B⟩/\rq u.Coef=rq t.Coef*rq x/\RB (K+202) u.Coef:=by
 obtain ⟨c,i,h,_,g⟩:=Acu h1 h2 (by omega) (by omega)
 refine ⟨⟨c,⟨[],A++B⟩⟩,?_,rfl,g,h⟩
 unfold Oc
 rw [i,Ae,b,Ald _ _ (by simp) f]; rfl
abbrev Ent:=List A3×Nat
inductive Rep (c:Rat) (K:Nat):List Aj->List Ent->Prop
 | nil:Rep c K [] []
 | cons {t:Aj} {b:Ent} {ts:List Aj} {bs:List Ent}:t.Mono=⟨[],b.1⟩->rq t.Coef=c*(b.2:Rat)->RB K t.Coef->Rep c K ts bs->Rep c K (t::ts) (b::bs)
theorem Rep.len {c:Rat} {K:Nat} {ts:List Aj} {bs:List Ent} (h:Rep c K ts bs):ts.length=bs.length:=by
 induction h with
 | nil=>rfl
 | cons _ _ _ _ ih=>simp [ih]
theorem Rep.app {c:Rat} {K:Nat} {ts f:List Aj} {bs cs:List Ent} (h:Rep c K ts bs) (h':Rep c K f cs):Rep c K (ts++f) (bs++cs):=by
 induction h with
 | nil=>exact h'
 | cons a b d _ ih=>exact .cons a b d ih
theorem Rep.mono {c:Rat} {K f:Nat} {ts:List Aj} {bs:List Ent} (h:Rep c K ts bs) (hk:K<=f):Rep c f ts bs:=by
 induction h with
 | nil=>exact .nil
 | cons a b d _ ih=>exact .cons a b (d.mono hk) ih
theorem Rep.get {c:Rat} {K:Nat} {ts:List Aj} {bs:List Ent} (h:Rep c K ts bs):∀{j:Nat} {t:Aj},ts[j]? = some t->∃b,bs[j]? = some b/\t.Mono=⟨[],b.1⟩/\rq t.Coef=c*(b.2:Rat)/\RB K t.Coef:=by
 induction h with
 | nil=>intro j t h; simp at h
 | @cons t b ts bs a1 a2 a3 _ ih=>
  intro j u hj
  cases j with
  | zero=>
   simp only [List.getElem?_cons_zero,Option.some.injEq] at hj
   subst hj
   exact ⟨b,rfl,a1,a2,a3⟩
  | succ j=>
   simp only [List.getElem?_cons_succ] at hj
   simpa using ih hj
def Fe (B:List Ent) (l:Be) (f:Nat->Nat) (n:Nat):List Ent:=(List.range n).flatMap fun k=>if f k=0 then [] else B.map fun b=>(b.1++atO l k,b.2*f k)
theorem O9 (B:List Ent) (l:Be) (f:Nat->Nat) (n:Nat):Fe B l f (n+1)=Fe B l f n++(if f n=0 then [] else B.map fun b=>(b.1++atO l n,b.2*f n)):=by
 unfold Fe
 rw [List.range_succ,List.flatMap_append]; simp
theorem Alf (B:List Ent) (l:Be) (f:Nat->Nat) (n:Nat):(Fe B l f n).length<=n*B.length:=by
 induction n with
 | zero=>simp [Fe]
 | succ n ih=>
  rw [O9,List.length_append,Nat.add_mul,Nat.one_mul]
  have:(if f n=0 then ([]:List Ent) else B.map fun b=>(b.1++atO l n,b.2*f n)).length<=B.length:=by split <;> simp
  omega
noncomputable def Uw (h:List Aj) (l:Be) (k:Int) (x:Aq):Int×List Aj->Option ((Int×List Aj)⊕(Int×List Aj)):=fun (b,c)=>
 bif (decide (b<(h.length:Int))) then (
 (Ag h b).bind fun g=>
 (Od l k).bind fun v194=>
 (Oc g x (Bf.mk [] v194)).bind fun f=>
 (B8 104 c [f]).bind fun i=>
 some (.inl ((Ac (b+1)),i))
 )
 else (
 some (.inr (b,c))
 )
theorem Awt {c:Rat} {K M:Nat} {g o:List Aj} {B:List Ent} {l:Be} {k f:Nat} {x:Aq} (z:Rep c K g B) (hx:rq x=(f:Rat)) (q:RB 200 x) (S:K<30000000000) (R:∀b∈B,b.1.length<=M) (N:M<=1000) (hl:o.length+g.length<=1000000000) :
  ∃T,Ak (Uw g l (k:Int) x) (0,o)=some ((g.length:Int),o++T)/\Rep c (K+202) T (B.map fun b=>(b.1++atO l k,b.2*f)):=by
 obtain ⟨e,X,T,V,U⟩:=Lc (step:=Uw g l (k:Int) x) (fun s=>∃(j:Nat) (T:List Aj),s=((j:Int),o++T)/\j<=g.length/\T.length=j/\Rep c (K+202) T ((B.take j).map fun b=>(b.1++atO l k,b.2*f))) (fun s=>g.length-s.1.toNat)
  (fun e=>∃T,e=((g.length:Int),o++T)/\Rep c (K+202) T (B.map fun b=>(b.1++atO l k,b.2*f))) (by
  rintro _ ⟨j,T,rfl,hj,L,y⟩
  rcases Nat.lt_or_ge j g.length with h | h
  .left
   have i:g[j]? = some g[j]:=Ck h
   generalize g[j]=t at i
   obtain ⟨b,b1,b2,Z,Y⟩:=z.get i
   have J:=R b (Cx b1)
   have:=Ale l k
   obtain ⟨u,I,G,E,D⟩:=Aws (A:=b.1) (B:=atO l k) b2 (by omega) S Y q
   refine ⟨_,?_,⟨j+1,T++[u],rfl,by omega,by simp [L],?_⟩,by simp; omega⟩
   .unfold Uw
    simp only [Al (by omega:(j:Int)<(g.length:Int)),cond_true,Cd rfl i,Ae,Awr,I,Dj h (by omega)]
    rw [Dm (by simp; omega),Ae,List.append_assoc]
   .rw [Dr b1,List.map_append]
    refine y.app (.cons G ?_ D .nil)
    rw [E,Z,hx]
    show _=c*((b.2*f:Nat):Rat)
    rw [Rat.natCast_mul]; grind
  .have:j=g.length:=by omega
   subst this
   right
   refine ⟨_,by unfold Uw; simp only [Ar (by omega:¬(g.length:Int)<(g.length:Int)),cond_false],T,rfl,?_⟩
   rw [List.take_of_length_le (by rw [z.len]; exact Nat.le_refl _)] at y
   exact y) (0,o) ⟨0,[],by simp,by omega,rfl,.nil⟩
 exact ⟨T,by rw [<-V]; exact X,U⟩
end Go.Ab
namespace Go.Ab
open Go
noncomputable def Y0 (g:List Aj) (l:Be) (p:List Aq):Int×List Aj->Option ((Int×List Aj)⊕(Int×List Aj)):=fun (v173,b)=>
 bif (decide (v173<(p.length:Int))) then (
 (Ag p v173).bind fun v175=>
 (G1 v175).bind fun c=>
 bif (c==(0:Int)) then (
 some (.inl ((Ac (v173+1)),b))
 )
 else (
 (Ak (Uw g l v173 v175) (0,b)).bind fun (h,f)=>
 some (.inl ((Ac (v173+1)),f))
 )
 )
 else (
 some (.inr (v173,b))
 )
theorem Awu {c:Rat} {K M n:Nat} {g:List Aj} {B:List Ent} {l:Be} {f:Nat->Nat} (z:Rep c K g B) (I:∀k,k<n->f k<Big) (N:K<30000000000) (L:∀b∈B,b.1.length<=M) (y:M<=1000) (Y:n<=1000) (Z:g.length<=1000000) :
  ∃T,Ak (Y0 g l (Ls n f)) (0,[])=some ((n:Int),T)/\Rep c (K+202) T (Fe B l f n):=by
 obtain ⟨e,X,T,V,S⟩:=Lc (step:=Y0 g l (Ls n f)) (fun s=>∃(j:Nat) (T:List Aj),s=((j:Int),T)/\j<=n/\Rep c (K+202) T (Fe B l f j)) (fun s=>n-s.1.toNat)
  (fun e=>∃T,e=((n:Int),T)/\Rep c (K+202) T (Fe B l f n)) (by
  rintro _ ⟨j,T,rfl,hj,q⟩
  unfold Y0
  rw [K8]
  rcases Nat.lt_or_ge j n with h | h
  .left
   have D:=Alf B l f j
   have J:=q.len
   have R:=z.len
   have A:j*B.length<=1000*1000000:=Nat.mul_le_mul (by omega) (by omega)
   have x:j*B.length+B.length<=1000*B.length:=by
    have:(j+1)*B.length<=1000*B.length:=Nat.mul_le_mul_right _ (by omega)
    rw [Nat.add_mul] at this; omega
   have i:=I j h
   simp only [Al (by omega:(j:Int)<(n:Int)),cond_true,Cd rfl (Ju f h),Ae,(Np.c i).sign,Dj h (by omega)]
   by_cases h0:f j=0
   .refine ⟨_,by rw [if_pos h0]; rfl,⟨j+1,T,rfl,by omega,?_⟩,by simp; omega⟩
    rw [O9,if_pos h0,List.append_nil]; exact q
   .have u:RB 200 (cR (f j)):=(Np.c i).rb
    obtain ⟨U,G,E⟩:=Awt (o:=T) (l:=l) (k:=j) (f:=f j) z (Rn (f j)) u N L y (by omega)
    refine ⟨_,by rw [if_neg h0,G]; rfl,⟨j+1,T++U,rfl,by omega,?_⟩,by simp; omega⟩
    rw [O9,if_neg h0]
    exact q.app E
  .have:j=n:=by omega
   subst this
   right
   exact ⟨_,by simp only [Ar (by omega:¬(j:Int)<(j:Int)),cond_false],T,rfl,q⟩) (0,[]) ⟨0,[],rfl,by omega,.nil⟩
 exact ⟨T,by rw [<-V]; exact X,S⟩
def Pw (l:Be) (N:Nat) (f:Nat->Nat) (g:List A3):Prop:=(l.Terms.length≠0/\PwN g N f)\/(l.Terms.length=0/\N=0/\f 0=prb l.Const.toNat g)
abbrev Grp:=Be×Nat×(Nat->Nat)
inductive Gs:List Grp->List A3->Prop
 | nil:Gs [] []
 | cons {l:Be} {N:Nat} {f:Nat->Nat} {g rest:List A3} {gs:List Grp}:g≠[]->(∀a∈g,a.Lin=l)->(∀a∈rest,Fs l a.Lin<0)->Pw l N f g->Gs gs rest->Gs ((l,N,f)::gs) (g++rest)
def K9 (B:List Ent):List Grp->List Ent
 | []=>B
 | q::gs=>K9 (Fe B q.1 q.2.2 (q.2.1+1)) gs
structure Atk (A:List A3):Prop where
 deg:∀a∈A,0<=a.Deg
 lin:∀a∈A,Cv a.Lin=true
 sum:Ci A<=12
 len:A.length<=12
theorem La {a:Be} (h:Cv a=true):a.Terms.length<=16/\-1048576<=a.Const/\a.Const<=1048576:=by
 unfold Cv at h
 simp only [Dq,decide_eq_true_eq] at h
 exact ⟨h.1.2.2,h.1.1,h.1.2.1⟩
theorem Atk.sub {A B:List A3} (h:Atk (A++B)):Atk A/\Atk B:=by
 have h1:=h.sum
 have h2:=h.len
 rw [L6] at h1
 rw [List.length_append] at h2
 exact ⟨⟨fun a ha=>h.deg a (by simp [ha]),fun a ha=>h.lin a (by simp [ha]),by omega,by omega⟩,⟨fun a ha=>h.deg a (by simp [ha]),fun a ha=>h.lin a (by simp [ha]),by omega,by omega⟩⟩
theorem Awv {l:Be} {g:List A3} (hk:Atk g) (b:g≠[]) (j:∀a∈g,a.Lin=l):∃N f,J9 g=some (Ls (N+1) f)/\Pw l N f g/\N<=Ci g/\∀k,k<N+1->f k<Big:=by
 have s:=hk.len
 have q:=hk.sum
 obtain ⟨a,ha⟩:∃a,a∈g:=by
  cases g with
  | nil=>exact (b rfl).elim
  | cons a _=>exact ⟨a,by simp⟩
 have c:=hk.lin a ha
 rw [j a ha] at c
 have hc:=(La c).2.2
 by_cases h:l.Terms.length=0
 .have h1:=Awl g hc (fun a ha=>by rw [j a ha]; exact ⟨h,rfl⟩) hk.deg hk.sum (by omega)
  exact ⟨0,fun _=>prb l.Const.toNat g,h1,.inr ⟨h,rfl,rfl⟩,by omega,fun k _=>Rr (by omega) q⟩
 .obtain ⟨N,f,h1,h2⟩:=Awj g b (fun a ha=>by rw [j a ha]; exact h) hk.deg hk.sum (by omega)
  refine ⟨N,f,h1,.inl ⟨h,h2⟩,by rw [h2.1]; exact Nat.le_refl _,fun k i=>Nat.lt_of_le_of_lt (h2.le i) (Rr ?_ q)⟩
  have:=h2.1
  omega
noncomputable def Y1 (r:List A3) (l:Be):Int->Option (Int⊕Int):=fun b=>
 bif (decide (b<(r.length:Int))) then (
 (Ag r b).bind fun v117=>
 (Jl v117.Lin l).bind fun c=>
 bif (c==(0:Int)) then (
 some (.inl (Ac (b+1)))
 )
 else (
 some (.inr b)
 )
 )
 else (
 some (.inr b)
 )
theorem Aww {r:List A3} {a:A3} (h0:r[0]? = some a) (ht:∀b∈r,b.Lin.Terms.length<1099511627776) (u:r.length<=1000) :
  ∃n:Nat,Ak (Y1 r a.Lin) 1=some (n:Int)/\1<=n/\n<=r.length/\(∀b∈r.take n,b.Lin=a.Lin)/\∀b,r[n]? = some b->b.Lin≠a.Lin:=by
 have hpos:=Ep h0
 obtain ⟨e,q,n,l,k⟩:=Lc (step:=Y1 r a.Lin) (fun s=>∃n:Nat,s=(n:Int)/\1<=n/\n<=r.length/\∀b∈r.take n,b.Lin=a.Lin) (fun s=>r.length-s.toNat)
  (fun e=>∃n:Nat,e=(n:Int)/\1<=n/\n<=r.length/\(∀b∈r.take n,b.Lin=a.Lin)/\∀b,r[n]? = some b->b.Lin≠a.Lin) (by
  rintro _ ⟨j,rfl,g,f,c⟩
  unfold Y1
  rcases Nat.lt_or_ge j r.length with h | h
  .have hx:r[j]? = some r[j]:=Ck h
   have i:=List.getElem_mem h
   generalize r[j]=b at hx i
   simp only [Al (by omega:(j:Int)<(r.length:Int)),cond_true,Cd rfl hx,Ae,Yi _ _ (ht b i),Dj h (by omega)]
   by_cases hc:b.Lin=a.Lin
   .left
    rw [Ez ((G9.zero _ _ trivial trivial).2 hc)]
    refine ⟨_,rfl,⟨j+1,rfl,by omega,by omega,fun d hd=>?_⟩,by omega⟩
    rw [Dr hx] at hd
    rcases List.mem_append.1 hd with hd | hd
    .exact c d hd
    .simp only [List.mem_singleton] at hd
     rw [hd]; exact hc
   .right
    rw [Cu (fun h=>hc ((G9.zero _ _ trivial trivial).1 h))]
    exact ⟨_,rfl,j,rfl,g,f,c,fun d hd=>by rw [hx] at hd; cases hd; exact hc⟩
  .right
   refine ⟨_,by simp only [Ar (by omega:¬(j:Int)<(r.length:Int)),cond_false],j,rfl,g,f,c,fun d hd=>?_⟩
   have:=Ep hd
   omega) 1 ⟨1,rfl,by omega,by omega,fun b hb=>by
    cases r with
    | nil=>simp at hpos
    | cons x r=>simp at hb h0; rw [hb,h0]⟩
 exact ⟨n,by rw [<-l]; exact q,k⟩
noncomputable def Ux:(List Aj×List A3)->Option ((List Aj×List A3)⊕List Aj):=fun (g,b)=>
 bif (decide ((b.length:Int)>(0:Int))) then (
 (Ag b 0).bind fun f=>
 (Ak (Y1 b f.Lin) 1).bind fun c=>
 (Fz b 0 c).bind fun i=>
 (J9 i).bind fun h=>
 (Ak (Y0 g f.Lin h) (0,[])).bind fun (k,j)=>
 (Fz b c b.length).bind fun v201=>
 some (.inl (j,v201))
 )
 else (
 some (.inr g)
 )
theorem Awx (n:Nat):n+1<=2 ^ n:=by
 induction n with
 | zero=>decide
 | succ n ih=>rw [Nat.pow_succ]; omega
theorem Awy {B:List Ent} {l:Be} {f:Nat->Nat} {n M:Nat} (c:∀b∈B,b.1.length<=M):∀b∈Fe B l f n,b.1.length<=M+1:=by
 intro b hb
 unfold Fe at hb
 rw [List.mem_flatMap] at hb
 obtain ⟨k,_,hk⟩:=hb
 split at hk
 .cases hk
 .rw [List.mem_map] at hk
  obtain ⟨d,hd,rfl⟩:=hk
  have:=c d hd
  have:=Ale l k
  simp only [List.length_append]; omega
theorem Awz {c:Rat}:∀(n:Nat) (rest:List A3) (j:List Aj) (B:List Ent) (K M:Nat),rest.length<=n->Yz rest->Atk rest->Rep c K j B->(∀b∈B,b.1.length<=M)->M+rest.length<=1000->K+202*rest.length<30000000000->B.length*2 ^ Ci rest<=1000000 ->
  ∃gs i,Ak Ux (j,rest)=some i/\Gs gs rest/\Rep c (K+202*rest.length) i (K9 B gs)/\i.length<=B.length*2 ^ Ci rest:=by
 intro n
 induction n with
 | zero=>
  intro rest j B K M hn _ _ A _ _ _ _
  have:rest = []:=List.length_eq_zero_iff.1 (by omega)
  subst this
  exact ⟨[],j,Ea (by unfold Ux; simp),.nil,by simpa [K9] using A,by rw [A.len]; simp [Ci]⟩
 | succ n ih=>
  intro rest j B K M hn hS R A hM ae hK E
  cases g:rest with
  | nil=>
   exact ⟨[],j,Ea (by unfold Ux; simp),.nil,by simpa [K9] using A.mono (by omega),by rw [A.len]; simp [Ci]⟩
  | cons a r'=>
   rw [<-g]
   have h0:rest[0]? = some a:=by rw [g]; rfl
   have ab:0<rest.length:=Ep h0
   have hT:∀b∈rest,b.Lin.Terms.length<1099511627776:=fun b hb=>by have:=(La (R.lin b hb)).1; omega
   have af:=R.len
   obtain ⟨m,m1,m2,m3,m4,m5⟩:=Aww h0 hT (by omega)
   have u:rest=rest.take m++rest.drop m:=(List.take_append_drop m rest).symm
   have L:=(u ▸ R:Atk (rest.take m++rest.drop m)).sub
   have y:rest.take m≠[]:=by
    intro h
    have:=congrArg List.length h
    rw [List.length_take] at this
    simp only [List.length_nil] at this
    omega
   obtain ⟨N,f,p1,p2,p3,p4⟩:=Awv L.1 y m4
   have Z:Ci rest=Ci (rest.take m)+Ci (rest.drop m):=by rw [<-L6,List.take_append_drop]
   have ac:=R.sum
   have U:2 ^ Ci rest=2 ^ Ci (rest.take m)*2 ^ Ci (rest.drop m):=by rw [Z,Nat.pow_add]
   have aa:B.length<=1000000:=Nat.le_trans (Nat.le_mul_of_pos_right _ (Nat.pow_pos (by decide))) E
   obtain ⟨T,t1,t2⟩:=Awu (l:=a.Lin) (n:=N+1) A p4 (by omega) hM (by omega) (by omega) (by rw [A.len]; exact aa)
   have z:Ux (j,rest)=some (.inl (T,rest.drop m)):=by
    have Y:Ag rest 0=some a:=Cd (n:=0) rfl h0
    have S:Fz rest (m:Int) (rest.length:Int)=some (rest.drop m):=by
     unfold Fz
     simp [List.drop_take]
     omega
    unfold Ux
    simp only [Al (by omega:(rest.length:Int)>0),cond_true,Y,Ae,m1,Xp rfl m3,p1,t1,S]
   have ad:(rest.drop m).length+m=rest.length:=by rw [List.length_drop]; omega
   have a8:=Alf B a.Lin f (N+1)
   have J:(N+1)*B.length<=B.length*2 ^ Ci (rest.take m):=by
    rw [Nat.mul_comm]
    refine Nat.mul_le_mul_left _ (Nat.le_trans (Awx N) (Nat.pow_le_pow_right (by decide) p3))
   have x:(Fe B a.Lin f (N+1)).length*2 ^ Ci (rest.drop m)<=B.length*2 ^ Ci rest:=by
    rw [U,<-Nat.mul_assoc]
    exact Nat.mul_le_mul_right _ (Nat.le_trans a8 J)
   obtain ⟨gs,i,g1,g2,g3,g4⟩:=ih (rest.drop m) T (Fe B a.Lin f (N+1)) (K+202) (M+1) (by omega) (List.Pairwise.sublist (List.drop_sublist m rest) hS) L.2 t2 (Awy hM) (by omega) (by omega) (Nat.le_trans x E)
   refine ⟨(a.Lin,N,f)::gs,i,by rw [Hc z,g1],?_,g3.mono (by omega),Nat.le_trans g4 x⟩
   have X:∀b∈rest.drop m,Fs a.Lin b.Lin<0:=by
    intro b hb
    cases hd:rest.drop m with
    | nil=>rw [hd] at hb; cases hb
    | cons d D=>
     have q:rest[m]? = some d:=by
      have:=congrArg (fun l=>l[0]?) hd
      simpa using this
     have a6:=m5 d q
     have a7:¬Fs d.Lin a.Lin<0:=by
      have I:=hS
      rw [g] at I
      have a1:d∈r':=by
       have:=Cx q
       have V:m=(m-1)+1:=by omega
       rw [g,V,List.getElem?_cons_succ] at q
       exact Cx q
      exact (List.pairwise_cons.1 I).1 d a1
     have s:Fs a.Lin d.Lin<0:=by
      rcases Int.lt_trichotomy (Fs d.Lin a.Lin) 0 with k | k | k
      .exact (a7 k).elim
      .exact (a6 ((G9.zero _ _ trivial trivial).1 k)).elim
      .rw [G9.anti d.Lin a.Lin trivial trivial]; omega
     rw [hd] at hb
     rcases List.mem_cons.1 hb with rfl | hb
     .exact s
     .have G:Yz (rest.drop m):=List.Pairwise.sublist (List.drop_sublist m rest) hS
      rw [hd] at G
      have h3:=(List.pairwise_cons.1 G).1 b hb
      rcases Int.lt_trichotomy (Fs b.Lin d.Lin) 0 with k | k | k
      .exact (h3 k).elim
      .rw [(G9.zero _ _ trivial trivial).1 k]; exact s
      .exact G9.trans a.Lin d.Lin b.Lin trivial trivial trivial s (by rw [G9.anti b.Lin d.Lin trivial trivial]; omega)
   have:=Gs.cons y m4 X p2 g2
   rwa [List.take_append_drop] at this
end Go.Ab
namespace Go.Ab
open Go
theorem Alg {B:List Ent} {l:Be} {f g:Nat->Nat}:∀{n:Nat},(∀k,k<n->f k=g k)->Fe B l f n=Fe B l g n
 | 0,_=>rfl
 | n+1,h=>by rw [O9,O9,Alg fun k hk=>h k (by omega),h n (by omega)]
theorem Pw.uniq {l:Be} {N M:Nat} {f g:Nat->Nat} {A b:List A3} (h:Pw l N f A) (h':Pw l M g b) (hp:A.Perm b):N=M/\∀k,k<N+1->f k=g k:=by
 rcases h with ⟨a1,a2⟩ | ⟨a1,a2,a3⟩
 .rcases h' with ⟨_,b2⟩ | ⟨b1,_,_⟩
  .exact a2.uniq b2 hp
  .exact (a1 b1).elim
 .rcases h' with ⟨b1,_⟩ | ⟨_,b2,c⟩
  .exact (b1 a1).elim
  .refine ⟨by omega,fun k hk=>?_⟩
   have:k=0:=by omega
   subst this
   rw [a3,c,Ala _ hp]
theorem Adp (l:Be):¬Fs l l<0:=Uv.irr l
theorem Aw0 {α:Type} {p:α->Bool} {g r c b:List α} (h:(g++r).Perm (c++b)) (h1:∀a∈g,p a=true) (h2:∀a∈r,p a=false) (h3:∀a∈c,p a=true) (j:∀a∈b,p a=false):g.Perm c/\r.Perm b:=by
 have s:(g++r).filter p=g:=by
  rw [List.filter_append,List.filter_eq_self.2 h1,List.filter_eq_nil_iff.2 (fun a ha=>by rw [h2 a ha]; decide),List.append_nil]
 have q:(c++b).filter p=c:=by
  rw [List.filter_append,List.filter_eq_self.2 h3,List.filter_eq_nil_iff.2 (fun a ha=>by rw [j a ha]; decide),List.append_nil]
 have l:(g++r).filter (fun a=>!p a)=r:=by
  have i:g.filter (fun a=>!p a) = []:=List.filter_eq_nil_iff.2 (fun a ha=>by rw [h1 a ha]; decide)
  have f:r.filter (fun a=>!p a)=r:=List.filter_eq_self.2 (fun a ha=>by rw [h2 a ha]; rfl)
  rw [List.filter_append,i,f,List.nil_append]
 have k:(c++b).filter (fun a=>!p a)=b:=by
  have i:c.filter (fun a=>!p a) = []:=List.filter_eq_nil_iff.2 (fun a ha=>by rw [h3 a ha]; decide)
  have f:b.filter (fun a=>!p a)=b:=List.filter_eq_self.2 (fun a ha=>by rw [j a ha]; rfl)
  rw [List.filter_append,i,f,List.nil_append]
 refine ⟨?_,?_⟩
 .rw [<-s,<-q]; exact h.filter p
 .rw [<-l,<-k]; exact h.filter _
theorem Gs.det:∀{u:List Grp} {A:List A3},Gs u A->∀{c:List Grp} {y:List A3},Gs c y->A.Perm y->∀B,K9 B u=K9 B c:=by
 intro u A h
 induction h with
 | nil=>
  intro c y h' hp B
  cases h' with
  | nil=>rfl
  | cons i _ _ _ _=>exact (i (List.append_eq_nil_iff.1 hp.symm.eq_nil).1).elim
 | @cons l N f g rest u i x I M V ih=>
  intro c y h' hp B
  cases h' with
  | nil=>exact (i (List.append_eq_nil_iff.1 hp.eq_nil).1).elim
  | @cons J X R E k c s j q z D=>
   have L:l=J:=by
    obtain ⟨a,ha⟩:∃a,a∈g:=by
     cases g with
     | nil=>exact (i rfl).elim
     | cons a _=>exact ⟨a,by simp⟩
    obtain ⟨b,hb⟩:∃b,b∈E:=by
     cases E with
     | nil=>exact (s rfl).elim
     | cons a _=>exact ⟨a,by simp⟩
    have ha':a∈E++k:=hp.mem_iff.1 (by simp [ha])
    have hb':b∈g++rest:=hp.mem_iff.2 (by simp [hb])
    rcases List.mem_append.1 ha' with ha' | ha'
    .rw [<-x a ha,j a ha']
    .rcases List.mem_append.1 hb' with hb' | hb'
     .rw [<-x b hb',j b hb]
     .have h1:=q a ha'
      have h2:=I b hb'
      rw [x a ha] at h1
      rw [j b hb] at h2
      exact (Adp l (Uv.trs _ _ _ h2 h1)).elim
   subst L
   have G:=Aw0 (p:=fun a:A3=>decide (Fs a.Lin l=0)) hp (fun a ha=>by rw [x a ha]; exact decide_eq_true ((G9.zero l l trivial trivial).2 rfl))
    (fun a ha=>decide_eq_false fun h=>by have h1:=I a ha; rw [(G9.zero _ _ trivial trivial).1 h] at h1; exact Adp l h1)
    (fun a ha=>by rw [j a ha]; exact decide_eq_true ((G9.zero l l trivial trivial).2 rfl))
    (fun a ha=>decide_eq_false fun h=>by have h1:=q a ha; rw [(G9.zero _ _ trivial trivial).1 h] at h1; exact Adp l h1)
   obtain ⟨U,S⟩:=M.uniq z G.1
   subst U
   show K9 (Fe B l f (N+1)) u=K9 (Fe B l R (N+1)) c
   rw [Alg S]
   exact ih D G.2 _
def IsE (A:List A3) (B:List Ent):Prop:=∃gs b,b.Perm A/\Yz b/\Gs gs b/\B=K9 [([],1)] gs
theorem IsE.det {A c:List A3} {B b:List Ent} (h:IsE A B) (h':IsE c b) (hp:A.Perm c):B=b:=by
 obtain ⟨gs,C,j,_,i,rfl⟩:=h
 obtain ⟨k,l,g,_,f,rfl⟩:=h'
 exact i.det f (j.trans (hp.trans g.symm)) _
theorem Adq {c:Aq} {K:Nat} {A:List A3} (hc:RB K c) (I:K<20000000000) (h0:rq c≠0) (i:Atk A) (b1:List (ByteArray×Int)) (b2:List (ByteArray×List Db)) (data:List Ay) (vars:List Ai) (D z:Int) (y:List Ai) :
  ∃out B,P9 c ⟨[],A⟩ b1 b2 data vars D z y=some (out,0)/\IsE A B/\Rep (rq c) (K+2424) out B/\out.length<=2 ^ Ci A:=by
 have E:∀b∈A,b.Lin.Terms.length<1099511627776:=fun b hb=>by have:=(La (i.lin b hb)).1; omega
 have s:=i.len
 have q:=i.sum
 obtain ⟨S,x,g,u⟩:=Awn A E (by omega)
 have f:Atk S:=⟨fun a ha=>i.deg a (g.mem_iff.1 ha),fun a ha=>i.lin a (g.mem_iff.1 ha),by rw [Uu g]; exact q,by rw [g.length_eq]; exact s⟩
 have hp:2 ^ Ci S<=4096:=Nat.le_trans (Nat.pow_le_pow_right (by decide) f.sum) (by decide)
 obtain ⟨gs,out,g1,g2,g3,g4⟩:=Awz (c:=rq c) S.length S [⟨c,⟨[],[]⟩⟩] [([],1)] K 0 (Nat.le_refl _) u f (.cons rfl (by simp) hc .nil) (fun b hb=>by simp only [List.mem_singleton] at hb; subst hb; simp) (by have:=f.len; omega) (by have:=f.len; omega) (by simp only [List.length_singleton,Nat.one_mul]; omega)
 have G:=f.len
 refine ⟨out,_,?_,⟨gs,S,g,u,g2,rfl⟩,g3.mono (by omega),by rw [<-Uu g]; simpa using g4⟩
 unfold P9
 have j:M9 (rq c)≠0:=by
  unfold M9
  split
  .decide
  .split
   .decide
   .rename_i h1 h2
    exact (h0 (by grind)).elim
 rw [(Ajt hc (by omega)).1,Ae,Cu j,cond_false]
 have l:Qf A=some ([],A):=by
  unfold Qf Lh
  rw [Dm (by simp; omega)]; rfl
 have h:Te []=some ([],[]):=rfl
 rw [h,Ae]
 dsimp only
 rw [Awo,Ae]
 have k:E7 (α:=B4) ([]:List B4).length []=some ():=rfl
 rw [k,Ae]
 refine bnd (a:=()) (Ea (by simp)) ?_
 rw [l,Ae]
 dsimp only
 rw [x,Ae,L5 g.length_eq.symm,Ae]
 exact bnd g1 rfl
end Go.Ab
namespace Go.Ab
open Go
def Adr (vars:List Ai) (res:Ai) (L:List A3):Prop:=L.Pairwise (fun a b=>Fs a.Lin b.Lin<0)/\∀a∈L,1<=a.Deg/\Cv a.Lin=true/\a.Lin.Terms.length≠0/\C9 vars res a.Lin=true
theorem Y2 (l m:List A3):Cf (l++m)=Cf l+Cf m:=by unfold Cf; simp [List.sum_append]
theorem Alh {vars:List Ai} {res:Ai}:∀{u:List Grp} {rest:List A3},Gs u rest->(∀a∈rest,Cv a.Lin=true/\C9 vars res a.Lin=true) ->
  ∀(B:List Ent) (S:Int),(∀b∈B,Adr vars res b.1/\Cf b.1<=S/\∀a∈b.1,∀r∈rest,Fs a.Lin r.Lin<0)->∀b∈K9 B u,Adr vars res b.1/\Cf b.1<=S+(Ci rest:Nat):=by
 intro u rest h
 induction h with
 | nil=>intro _ B S z b hb; have:=z b hb; exact ⟨this.1,by have:=this.2.1; omega⟩
 | @cons l N f g rest u x I E J R ih=>
  intro A B S z
  obtain ⟨a0,j⟩:∃a,a∈g:=by
   cases g with
   | nil=>exact (x rfl).elim
   | cons a _=>exact ⟨a,by simp⟩
  have s:=I a0 j
  have q:=A a0 (by simp [j])
  rw [s] at q
  have L:∀k,k<N+1->k≠0->l.Terms.length≠0/\k<=Ci g:=by
   intro k hk G
   rcases J with ⟨h1,h2⟩ | ⟨_,h2,_⟩
   .exact ⟨h1,by rw [<-h2.1]; omega⟩
   .omega
  intro b hb
  have:=ih (fun a ha=>A a (by simp [ha])) (Fe B l f (N+1)) (S+(Ci g:Nat)) (by
   intro b hb
   unfold Fe at hb
   rw [List.mem_flatMap] at hb
   obtain ⟨k,i,hk⟩:=hb
   have i:=List.mem_range.1 i
   split at hk
   .cases hk
   .rw [List.mem_map] at hk
    obtain ⟨d,hd,rfl⟩:=hk
    obtain ⟨d1,d2,d3⟩:=z d hd
    have y:∀a∈d.1,Fs a.Lin l<0:=fun a ha=>by have:=d3 a ha a0 (by simp [j]); rwa [s] at this
    unfold atO
    by_cases h0:k=0
    .rw [if_pos h0,List.append_nil]
     exact ⟨d1,by show Cf d.1<=S+((Ci g:Nat):Int); omega,fun a ha r c=>d3 a ha r (by simp [c])⟩
    .rw [if_neg h0]
     obtain ⟨D,M⟩:=L k i h0
     refine ⟨⟨List.pairwise_append.2 ⟨d1.1,List.pairwise_singleton _ _,fun a ha b hb=>?_⟩,fun a ha=>?_⟩,?_,fun a ha r c=>?_⟩
     .simp only [List.mem_singleton] at hb
      subst hb; exact y a ha
     .rcases List.mem_append.1 ha with ha | ha
      .exact d1.2 a ha
      .simp only [List.mem_singleton] at ha
       subst ha
       exact ⟨by show (1:Int)<=(k:Int); omega,q.1,D,q.2⟩
     .show Cf (d.1++[⟨l,k⟩])<=_
      rw [Y2]
      have:Cf [(⟨l,(k:Int)⟩:A3)]=(k:Int):=by simp [Cf]
      omega
     .rcases List.mem_append.1 ha with ha | ha
      .exact d3 a ha r (by simp [c])
      .simp only [List.mem_singleton] at ha
       subst ha
       exact E r c) b hb
  refine ⟨this.1,?_⟩
  rw [L6]
  have:=this.2
  omega
theorem Aw1 {x:Bx} {L:List A3} (h:Adr x.Vars x.Res L) (s:Cf L<=6):Gi x ⟨[],L⟩:=by
 have i:(L.length:Int)<=Cf L:=by
  have key:∀l:List A3,(∀a∈l,1<=a.Deg)->(l.length:Int)<=Cf l:=by
   intro l
   induction l with
   | nil=>intro _; simp [Cf]
   | cons f fs ih=>
    intro c
    have h1:=c f (by simp)
    have h2:=ih (fun g u=>c g (by simp [u]))
    unfold Cf at *
    simp only [List.map_cons,List.sum_cons,List.length_cons]; omega
  exact key _ fun a ha=>(h.2 a ha).1
 constructor
 .unfold Ip
  have k:L.zipIdx.all (fun q=>L2 x.Vars x.Res L q.1 q.2)=true:=by
   rw [List.all_eq_true]
   rintro ⟨a,j⟩ hq
   have hj:L[j]? = some a:=List.mk_mem_zipIdx_iff_getElem?.1 hq
   obtain ⟨h1,h2,h3,y⟩:=h.2 a (Cx hj)
   show L2 x.Vars x.Res L a j=true
   unfold L2
   have hp:O2 L a j=true:=by
    unfold O2
    cases j with
    | zero=>rfl
    | succ j=>
     have c:=Ep hj
     have hy:L[j]? = some L[j]:=Ck (by omega)
     have b:=List.pairwise_iff_getElem.1 h.1 j (j+1) (by omega) c (by omega)
     have e:L[j+1]=a:=by
      have:=Ck c
      rw [hj] at this; exact (Option.some.inj this).symm
     rw [e] at b
     simp only [Nat.add_sub_cancel,hy,Bool.or_eq_true]
     exact .inr (decide_eq_true b)
   rw [hp,Al h1,h2,y]
   simp only [Bool.true_and,Bool.and_true,Bool.not_eq_true',beq_eq_false_iff_ne,ne_eq]
   exact h3
  show (([]:List B4).zipIdx.all _&&L.zipIdx.all (fun q=>L2 x.Vars x.Res L q.1 q.2)&&decide (Ft x.Data x.Vars x.Res []+Cf L<=6))=true
  rw [k]
  have:Ft x.Data x.Vars x.Res []=0:=rfl
  rw [this]
  simp
  exact s
 .exact ⟨by simp,by show L.length<=1048576; omega,(fun _ h=>by cases h),(fun _ h=>by cases h),fun a ha=>by have:=(La (h.2 a ha).2.1).1; omega⟩
def ec:List Ent->Bf->Nat
 | [],_=>0
 | b::bs,m=>(if Cy ⟨[],b.1⟩ m=0 then b.2 else 0)+ec bs m
theorem Rep.cf {c:Rat} {K:Nat} {ts:List Aj} {bs:List Ent} (h:Rep c K ts bs) (m:Bf):Ab.cf ts m=c*(ec bs m:Rat):=by
 induction h with
 | nil=>simp only [Ab.cf,ec]; grind
 | @cons t b ts bs a1 a2 a3 _ ih=>
  simp only [Ab.cf,ec,ih,a1]
  rw [Rat.natCast_add]
  split
  .rw [a2]; grind
  .grind
theorem Rep.mem {c:Rat} {K:Nat} {ts:List Aj} {bs:List Ent} (h:Rep c K ts bs) {t:Aj} (ht:t∈ts):∃b∈bs,t.Mono=⟨[],b.1⟩/\rq t.Coef=c*(b.2:Rat)/\RB K t.Coef:=by
 obtain ⟨j,hj⟩:=List.getElem?_of_mem ht
 obtain ⟨b,b1,b2⟩:=h.get hj
 exact ⟨b,Cx b1,b2⟩
def Uy (L:Nat) (p:List Aj):Prop:=∀t∈p,∃z:Int,rq t.Coef=(z:Rat)/\A6 z.natAbs<=L
theorem Ali {a:Aq} {z:Int} (ha:H4 a) (h:rq a=(z:Rat)):a=Bi (decide (z<0)) z.natAbs 1:=by
 refine Ajs ha (Rh _ _ _ (by decide)) ?_
 rw [h,L3 _ _ _ (by decide),Akx]
 congr 1
 unfold sg
 by_cases h:z<0
 .rw [Al h,if_pos rfl]; omega
 .rw [Ar h,if_neg (by decide)]; omega
theorem Ads {a:Aq} {z:Int} {L:Nat} (ha:H4 a) (h:rq a=(z:Rat)) (b:A6 z.natAbs<=L):RB (L+1) a:=by
 rw [Ali ha h]
 exact Lv _ _ _ _ (by omega) (by rw [M4]; omega) (by omega)
theorem Alj {a:Aq} {z:Int} {k:Nat} (ha:H4 a) (h:rq a=(z:Rat)) (c:RB k a):A6 z.natAbs<=k+1:=by
 have h1:=c.nv
 rw [Ali ha h] at h1
 obtain ⟨b,i,g,f⟩:=T0 (decide (z<0)) z.natAbs 1 (by decide)
 rw [b] at h1
 simpa using h1
theorem Alk {p:List Aj} {L:Nat} (h:Uy L p) (hc:CP p) (m:Bf):∃z:Int,cf p m=(z:Rat)/\A6 z.natAbs<=L:=by
 by_cases b:∃t∈p,Cy t.Mono m=0
 .obtain ⟨t,ht,e⟩:=b
  obtain ⟨z,c,z2⟩:=h t ht
  refine ⟨z,?_,z2⟩
  rw [<-c,<-Yk hc ht,Kl.1 e]
 .exact ⟨0,by rw [Aj1 fun t ht e=>b ⟨t,ht,e⟩]; rfl,by simp [Xt]⟩
theorem Uy.of {p:List Aj} {L:Nat} (hc:CP p) (h:∀m,∃z:Int,cf p m=(z:Rat)/\A6 z.natAbs<=L):Uy L p:=fun t ht=>by
 obtain ⟨z,b,z2⟩:=h t.Mono
 exact ⟨z,by rw [<-Yk hc ht]; exact b,z2⟩
structure IP (x:Bx) (n L:Nat) (f:Bf->Rat) (R:List Aj):Prop where
 cp:CP R
 val:∀m,cf R m=f m
 mo:∀t∈R,Gi x t.Mono
 len:R.length<=n
 int:Uy L R
theorem IP.can {x:Bx} {n L:Nat} {f:Bf->Rat} {R:List Aj} (h:IP x n L f R) (c:n<=1000) (g:L<=1000000):Ha x R :=
 Ha.of h.cp h.mo (fun t ht=>by
  obtain ⟨z,b,z2⟩:=h.int t ht
  exact (Ads (h.cp.coe t ht).1 b z2).mono (by omega)) (by have:=h.len; omega)
theorem IP.ext {x y:Bx} {n L b L':Nat} {f g:Bf->Rat} {R S:List Aj} (h:IP x n L f R) (h':IP y b L' g S) (e:∀m,f m=g m):R=S:=CP.ext h.cp h'.cp fun m=>by rw [h.val,h'.val,e]
theorem Aw2 (y z:Int) {L M:Nat} (hy:A6 y.natAbs<=L) (b:A6 z.natAbs<=L) (h:L+1<=M):A6 (y+z).natAbs<=M:=by
 have h1:=Xu y.natAbs z.natAbs
 have h2:A6 (y+z).natAbs<=A6 (y.natAbs+z.natAbs):=Gr (by omega)
 omega
theorem All {x:Bx} (l:CSz x) (A:Fc x) {n m L:Nat} {f g:Bf->Rat} {p q:List Aj} (hp:IP x n L f p) (hq:IP x m L g q) (B:n+m<=1000) (c:L<=1000000) :
  ∃R,Ml x p q=some (R,0)/\IP x (n+m) (L+1) (fun a=>f a-g a) R:=by
 have u:=hp.len
 have s:=hq.len
 obtain ⟨R,k,b⟩:=Av0 l A (hp.can (by omega) c) (hq.can (by omega) c) (by omega)
 refine ⟨R,k,b.cp,fun a=>by rw [b.val,hp.val,hq.val],fun t ht=>(b.tb t ht).1,by have:=b.len; omega,Uy.of b.cp fun a=>?_⟩
 obtain ⟨y,j,i⟩:=Alk hp.int hp.cp a
 obtain ⟨z,h,z2⟩:=Alk hq.int hq.cp a
 refine ⟨y + -z,?_,Aw2 y (-z) i (by rw [Int.natAbs_neg]; exact z2) (Nat.le_refl _)⟩
 rw [b.val,j,h,Rat.intCast_add,Rat.intCast_neg,Rat.sub_eq_add_neg]
end Go.Ab
namespace Go.Ab
open Go
theorem Aw3 (a b:Ba):Lr a b=some (Dw a.Var b.Var):=by
 unfold Lr
 rw [K7]; rfl
theorem Na {a b:Int}:Dw a b<0↔a<b:=by unfold Dw; split <;> (try split) <;> omega
theorem Aw4:Mj (fun a b:Ba=>Dw a.Var b.Var) :=
 ⟨fun x h=>by have:=Na.1 h; omega,fun x y z h1 h2=>by have:=Na.1 h1; have:=Na.1 h2; exact Na.2 (by omega),fun x y z h1 h2 h=>by
  have:=Na.1 h
  have:=mt Na.2 h1
  have:=mt Na.2 h2
  omega⟩
theorem Aw5 (c:List Ba) (g:c.length<=12):∃R,P4 c=some R/\R.Perm c/\R.Pairwise (fun a b=>a.Var<=b.Var):=by
 obtain ⟨R,h1,h2,h3⟩:=Ak4 (cmp:=Lr) Aw4 c (fun x _ y _=>Aw3 x y) (by omega)
 obtain ⟨v,f⟩:=Akq (n:=c.length) (by omega)
 refine ⟨R,?_,h2,h3.imp fun {a b} h=>?_⟩
 .unfold P4
  rw [Nat.ble_eq_true_of_le g,cond_true]
  unfold Abb
  rw [f,Ae]
  have hp:Tc 0 (c.length:Int) v c=some R:=by
   unfold Tc
   have e:W1 0 (c.length:Int) c=Us Lr 0 (c.length:Int) c:=rfl
   have w:Ac ((c.length:Int)-0)=(c.length:Int):=by rw [Ac,Bo] <;> omega
   refine bnd (a:=R) (Ea ?_) rfl
   rw [w,Al (by omega),cond_true,e,h1,Ae,L5 h2.length_eq.symm]; rfl
  rw [hp,Ae,L5 h2.length_eq.symm]; rfl
 .have:=mt Na.2 h
  omega
def cl:List Ba->Int->Int
 | [],_=>0
 | t::l,v=>(if t.Var=v then t.Coef else 0)+cl l v
theorem Rs (l m:List Ba) (v:Int):cl (l++m) v=cl l v+cl m v:=by
 induction l with
 | nil=>simp [cl]
 | cons t l ih=>simp only [List.cons_append,cl,ih]; omega
theorem Aw6 {l m:List Ba} (h:l.Perm m) (v:Int):cl l v=cl m v:=by
 induction h with
 | nil=>rfl
 | cons t _ ih=>simp only [cl,ih]
 | swap a b l=>simp only [cl]; omega
 | trans _ _ h1 h2=>exact h1.trans h2
theorem Nb {l:List Ba} {v:Int} (h:∀t∈l,t.Var≠v):cl l v=0:=by
 induction l with
 | nil=>rfl
 | cons t l ih=>simp only [cl]; rw [if_neg (h t (by simp)),ih fun u hu=>h u (by simp [hu])]; rfl
structure H6 (L:List Ba):Prop where
 srt:L.Pairwise fun a b=>a.Var<b.Var
 nz:∀t∈L,t.Coef≠0
theorem H6.ext:∀{L M:List Ba},H6 L->H6 M->(∀v,cl L v=cl M v)->L=M:=by
 intro L
 induction L with
 | nil=>
  intro M _ b h
  cases M with
  | nil=>rfl
  | cons t M=>
   have:=h t.Var
   simp only [cl,if_true] at this
   rw [Nb fun u hu=>by have:=(List.pairwise_cons.1 b.srt).1 u hu; omega] at this
   exact (b.nz t (by simp) (by omega)).elim
 | cons s L ih=>
  intro M c b h
  have g:cl (s::L) s.Var=s.Coef:=by
   simp only [cl,if_true]
   rw [Nb fun u hu=>by have:=(List.pairwise_cons.1 c.srt).1 u hu; omega]; omega
  cases M with
  | nil=>
   have:=h s.Var
   rw [g] at this
   exact (c.nz s (by simp) (by simpa [cl] using this)).elim
  | cons t M=>
   have ht:cl (t::M) t.Var=t.Coef:=by
    simp only [cl,if_true]
    rw [Nb fun u hu=>by have:=(List.pairwise_cons.1 b.srt).1 u hu; omega]; omega
   have f:s.Var=t.Var:=by
    rcases Int.lt_trichotomy s.Var t.Var with k | k | k
    .have h1:=h s.Var
     rw [g,Nb (l:=t::M) fun u hu=>by
      rcases List.mem_cons.1 hu with rfl | hu
      .omega
      .have:=(List.pairwise_cons.1 b.srt).1 u hu; omega] at h1
     exact (c.nz s (by simp) h1).elim
    .exact k
    .have h1:=h t.Var
     rw [ht,Nb (l:=s::L) fun u hu=>by
      rcases List.mem_cons.1 hu with rfl | hu
      .omega
      .have:=(List.pairwise_cons.1 c.srt).1 u hu; omega] at h1
     exact (b.nz t (by simp) h1.symm).elim
   have hc:s.Coef=t.Coef:=by rw [<-g,<-ht,h,f]
   have e:s=t:=by cases s; cases t; simp only at f hc; rw [f,hc]
   subst e
   rw [ih (M:=M) ⟨(List.pairwise_cons.1 c.srt).2,fun u hu=>c.nz u (by simp [hu])⟩ ⟨(List.pairwise_cons.1 b.srt).2,fun u hu=>b.nz u (by simp [hu])⟩ fun v=>by
    have:=h v
    simp only [cl] at this; omega]
noncomputable def Y3 (r:List Ba) (f:Int):Int×Int->Option ((Int×Int)⊕(Int×Int)):=fun (v44,v45)=>
 (show Option Bool from
 bif (decide (v44<(r.length:Int))) then (
 (Ag r v44).bind fun v46=>
 some (v46.Var==f)
 )
 else (
 some false
 )
 ).bind fun c=>
 bif c then (
 (Ag r v44).bind fun b=>
 some (.inl ((Ac (v44+1)),(Ac (v45+b.Coef))))
 )
 else (
 some (.inr (v44,v45))
 )
def LBd (l:List Ba):Prop:=∀t∈l,-1099511627776<=t.Coef/\t.Coef<=1099511627776
theorem Aw7 {l:List Ba} (h:LBd l) (v:Int) : -(l.length*1099511627776:Int)<=cl l v/\cl l v<=(l.length*1099511627776:Int):=by
 induction l with
 | nil=>simp [cl]
 | cons t l ih=>
  have h1:=h t (by simp)
  have h2:=ih fun u hu=>h u (by simp [hu])
  simp only [cl,List.length_cons]
  split <;> omega
theorem Aw8 {r:List Ba} {k:Nat} {t:Ba} (hk:r[k]? = some t) (G:r.length<=1000) (hb:LBd r) :
  ∃n:Nat,Ak (Y3 r t.Var) ((k:Int),0)=some ((n:Int),cl ((r.take n).drop k) t.Var)/\k<n/\n<=r.length/\(∀u∈(r.take n).drop k,u.Var=t.Var)/\∀u,r[n]? = some u->u.Var≠t.Var:=by
 have x:=Ep hk
 obtain ⟨e,E,n,D,B⟩:=Lc (step:=Y3 r t.Var) (fun s=>∃n:Nat,s=((n:Int),cl ((r.take n).drop k) t.Var)/\k<=n/\n<=r.length/\∀u∈(r.take n).drop k,u.Var=t.Var) (fun s=>r.length-s.1.toNat)
  (fun e=>∃n:Nat,e=((n:Int),cl ((r.take n).drop k) t.Var)/\k<n/\n<=r.length/\(∀u∈(r.take n).drop k,u.Var=t.Var)/\∀u,r[n]? = some u->u.Var≠t.Var) (by
  rintro _ ⟨j,rfl,y,g,c⟩
  unfold Y3
  rcases Nat.lt_or_ge j r.length with h | h
  .have hx:r[j]? = some r[j]:=Ck h
   have i:=List.getElem_mem h
   generalize r[j]=b at hx i
   have A:=hb b i
   have z:=Aw7 (l:=(r.take j).drop k) (fun u hu=>hb u (List.mem_of_mem_take (List.mem_of_mem_drop hu))) t.Var
   have q:((r.take j).drop k).length<=1000:=by simp; omega
   have hw:Ac (cl ((r.take j).drop k) t.Var+b.Coef)=cl ((r.take j).drop k) t.Var+b.Coef:=by
    have I:(((r.take j).drop k).length:Int)*1099511627776<=1000*1099511627776:=Int.mul_le_mul_of_nonneg_right (by omega) (by decide)
    rw [Ac,Bo] <;> omega
   have f:(r.take (j+1)).drop k=(r.take j).drop k++[b]:=by
    rw [Dr hx,List.drop_append_of_le_length (by simp; omega)]
   simp only [Al (by omega:(j:Int)<(r.length:Int)),cond_true,Cd rfl hx,Ae,Dj h (by omega),hw]
   by_cases hc:b.Var=t.Var
   .left
    rw [Ez hc]
    refine ⟨_,rfl,⟨j+1,?_,by omega,by omega,fun d hd=>?_⟩,by simp; omega⟩
    .rw [f,Rs]
     simp [cl,hc]
    .rw [f] at hd
     rcases List.mem_append.1 hd with hd | hd
     .exact c d hd
     .simp only [List.mem_singleton] at hd
      rw [hd]; exact hc
   .right
    rw [Cu hc]
    refine ⟨_,rfl,j,rfl,?_,g,c,fun d hd=>by rw [hx] at hd; cases hd; exact hc⟩
    rcases Nat.lt_or_ge k j with h' | h'
    .exact h'
    .have:j=k:=by omega
     subst this
     rw [hk] at hx; cases hx
     exact (hc rfl).elim
  .right
   refine ⟨_,by simp only [Ar (by omega:¬(j:Int)<(r.length:Int)),cond_false,Ae],j,rfl,by omega,g,c,fun d hd=>?_⟩
   have:=Ep hd
   omega) ((k:Int),0) ⟨k,by simp [cl],by omega,by omega,fun u hu=>by simp at hu⟩
 exact ⟨n,by rw [<-D]; exact E,B⟩
noncomputable def Adt (r:List Ba):Int×List Ba->Option ((Int×List Ba)⊕List Ba):=fun (v37,b)=>
 bif (decide (v37<((r.length:Nat):Int))) then (
 (Ag r v37).bind fun v39=>
 (Ak (Y3 r v39.Var) (v37,0)).bind fun (v49,v50)=>
 bif (v50 != (0:Int)) then (
 (B8 16 b [(Ba.mk v39.Var v50)]).bind fun c=>
 some (.inl (v49,c))
 )
 else (
 some (.inl (v49,b))
 )
 )
 else (
 some (.inr b)
 )
theorem Aw9 {r:List Ba} (J:r.Pairwise fun a b=>a.Var<=b.Var) (M:r.length<=1000) (hb:LBd r):∃L,Ak (Adt r) (0,[])=some L/\H6 L/\(∀v,cl L v=cl r v)/\L.length<=r.length:=by
 obtain ⟨L,S,R⟩:=Lc (step:=Adt r) (fun s=>∃(k:Nat) (L:List Ba),s=((k:Int),L)/\k<=r.length/\H6 L/\L.length<=k/\(∀v,cl L v=cl (r.take k) v)/\∀t∈L,∀u∈r.drop k,t.Var<u.Var) (fun s=>r.length-s.1.toNat)
  (fun L=>H6 L/\(∀v,cl L v=cl r v)/\L.length<=r.length) (by
  rintro _ ⟨k,L,rfl,hk,y,N,g,hd⟩
  unfold Adt
  rcases Nat.lt_or_ge k r.length with h | h
  .left
   have hx:r[k]? = some r[k]:=Ck h
   generalize r[k]=t at hx
   obtain ⟨n,I,G,D,n4,E⟩:=Aw8 hx M hb
   have c:r.take n=r.take k++(r.take n).drop k:=by
    have h:=(List.take_append_drop k (r.take n)).symm
    rwa [List.take_take,Nat.min_eq_left (by omega)] at h
   have x:∀v,v≠t.Var->cl ((r.take n).drop k) v=0:=fun v g=>Nb fun u hu e=>g (by rw [<-e,n4 u hu])
   have j:∀u∈r.drop n,u∈r.drop k:=fun u hu=>by
    have:r.drop n=(r.drop k).drop (n-k):=by rw [List.drop_drop]; congr 1; omega
    rw [this] at hu
    exact List.mem_of_mem_drop hu
   have A:t∈r.drop k:=by rw [Im hx]; simp
   have f:∀u∈r.drop n,t.Var<u.Var:=by
    intro u hu
    rcases Nat.lt_or_ge n r.length with h' | h'
    .have hy:r[n]? = some r[n]:=Ck h'
     generalize r[n]=w at hy
     have hw:=E w hy
     have hp:=List.pairwise_append.1 (by rw [List.take_append_drop]; exact J:(r.take n++r.drop n).Pairwise fun a b=>a.Var<=b.Var)
     have B:t∈r.take n:=by
      rw [c]
      have:(r.take n).drop k=t::(r.take n).drop (k+1):=Im (by rw [List.getElem?_take_of_lt G]; exact hx)
      rw [this]; simp
     have z:w∈r.drop n:=by rw [Im hy]; simp
     have a1:=hp.2.2 t B w z
     have i:=hp.2.1
     rw [Im hy] at i hu
     rcases List.mem_cons.1 hu with rfl | hu
     .omega
     .have:=(List.pairwise_cons.1 i).1 u hu; omega
    .rw [List.drop_eq_nil_of_le h'] at hu; cases hu
   simp only [Al (by omega:(k:Int)<(r.length:Int)),cond_true,Cd rfl hx,Ae,I]
   by_cases h0:cl ((r.take n).drop k) t.Var=0
   .refine ⟨((n:Int),L),?_,⟨n,L,rfl,D,y,by omega,fun v=>?_,fun a ha u hu=>hd a ha u (j u hu)⟩,by simp; omega⟩
    .rw [h0]; rfl
    .have q:cl (r.take n) v=cl (r.take k) v+cl ((r.take n).drop k) v:=(congrArg (fun l=>cl l v) c).trans (Rs _ _ _)
     rw [q,g]
     by_cases e:v=t.Var
     .rw [e,h0]; omega
     .rw [x v e]; omega
   .refine ⟨((n:Int),L++[⟨t.Var,cl ((r.take n).drop k) t.Var⟩]),?_,⟨n,_,rfl,D,⟨?_,?_⟩,by simp; omega,fun v=>?_,fun a ha u hu=>?_⟩,by simp; omega⟩
    .rw [E9 h0,cond_true,Dm (by simp; omega)]; rfl
    .refine List.pairwise_append.2 ⟨y.srt,List.pairwise_singleton _ _,fun a ha b hb=>?_⟩
     simp only [List.mem_singleton] at hb
     subst hb
     exact hd a ha t A
    .intro a ha
     rcases List.mem_append.1 ha with ha | ha
     .exact y.nz a ha
     .simp only [List.mem_singleton] at ha
      subst ha; exact h0
    .have q:cl (r.take n) v=cl (r.take k) v+cl ((r.take n).drop k) v:=(congrArg (fun l=>cl l v) c).trans (Rs _ _ _)
     rw [q,Rs,g]
     simp only [cl]
     by_cases e:t.Var=v
     .rw [if_pos e,<-e]; omega
     .rw [if_neg e,x v (fun h=>e h.symm)]; omega
    .rcases List.mem_append.1 ha with ha | ha
     .exact hd a ha u (j u hu)
     .simp only [List.mem_singleton] at ha
      subst ha; exact f u hu
  .right
   have:k=r.length:=by omega
   subst this
   rw [List.take_length] at g
   exact ⟨L,by simp only [Ar (by omega:¬(r.length:Int)<(r.length:Int)),cond_false],y,g,N⟩) (0,[]) ⟨0,[],rfl,by omega,⟨List.Pairwise.nil,fun _ h=>by cases h⟩,by simp,fun v=>by simp [cl],fun _ h=>by cases h⟩
 exact ⟨L,S,R⟩
def Rt (c:Int) (L:List Ba):Be×Int:=if Cv ⟨c,L⟩=true then (⟨c,L⟩,0) else (⟨0,[]⟩,9)
theorem Alm (c:Int) (ts:List Ba) (l:ts.length<=12) (hb:LBd ts):∃L,P1 c ts=some (Rt c L)/\H6 L/\∀v,cl L v=cl ts v:=by
 obtain ⟨R,h,b,g⟩:=Aw5 ts l
 obtain ⟨L,k,j,i,q⟩:=Aw9 g (by rw [b.length_eq]; omega) (fun t ht=>hb t (b.mem_iff.1 ht))
 refine ⟨L,?_,j,fun v=>by rw [i,Aw6 b]⟩
 unfold P1
 have f:Oo ts=some ([],ts):=by
  unfold Oo Lh
  rw [Dm (by simp; omega)]; rfl
 rw [f,Ae]
 dsimp only
 rw [h,Ae,L5 b.length_eq.symm,Ae,<-b.length_eq]
 refine bnd k ?_
 rw [Kk,Ae]
 unfold Rt
 cases Cv ⟨c,L⟩ <;> rfl
end Go.Ab
namespace Go.Ab
open Go
theorem Adu {x:Bx} {k:Nat} {ts:List Aj} (h:Col k (Gi x) ts) (hk:k<34359738000) (q:ts.length<=1000) (s:∀m,∃z:Int,cf ts m=(z:Rat)):∃R,Iz (plc ts) ts=some (R,0)/\IP x ts.length (k+2) (cf ts) R:=by
 obtain ⟨R,j,b,f,c,i⟩:=Adc (P:=Gi x) (fun m h=>h.cmo) (plc ts) ts h (by omega) q (fun g _ h2 h3=>Adg g h2 h3)
 refine ⟨R,j,b,f,fun t ht=>(c t ht).1,i,fun t ht=>?_⟩
 obtain ⟨z,l⟩:=s t.Mono
 have e:rq t.Coef=(z:Rat):=by rw [<-Yk b ht,f,l]
 exact ⟨z,e,Alj (b.coe t ht).1 e (c t ht).2⟩
theorem IsE.good {x:Bx} {A:List A3} {B:List Ent} (h:IsE A B) (i:Atk A) (g:∀a∈A,C9 x.Vars x.Res a.Lin=true) (k:Ci A<=6):∀b∈B,Gi x ⟨[],b.1⟩:=by
 obtain ⟨gs,l,c,j,f,rfl⟩:=h
 intro b hb
 obtain ⟨h1,h2⟩:=Alh (vars:=x.Vars) (res:=x.Res) f (fun a ha=>⟨i.lin a (c.mem_iff.1 ha),g a (c.mem_iff.1 ha)⟩) [([],1)] 0 (fun b hb=>by
  simp only [List.mem_singleton] at hb
  subst hb
  exact ⟨⟨List.Pairwise.nil,fun _ h=>by cases h⟩,by simp [Cf],fun _ h=>by cases h⟩) b hb
 refine Aw1 h1 ?_
 rw [Uu c] at h2
 omega
theorem Aln {B:List Ent} {m:Bf}:∃z:Int,(1:Rat)*(ec B m:Rat)=(z:Rat):=⟨(ec B m:Int),by rw [Rat.intCast_natCast]; grind⟩
theorem Axa {x:Bx} {A:List A3} (D:Atk A) (y:Ci A<=6) (S:∀a∈A,C9 x.Vars x.Res a.Lin=true) (b1:List (ByteArray×Int)) (b2:List (ByteArray×List Db)) (u s:Int) (q:List Ai) :
  ∃R B,Nx ⟨[],A⟩ b1 b2 x.Data x.Vars u s q=some (R,0)/\IsE A B/\IP x 64 200000 (fun m=>(ec B m:Rat)) R:=by
 have f:rq (cR 1)=1:=by rw [Rn]; rfl
 obtain ⟨out,B,V,G,E,U⟩:=Adq (c:=cR 1) (K:=3) (A:=A) ((Adf (k:=1) (by rw [M4]; decide) (by decide)).mono (by decide)) (by decide) (by rw [f]; decide) D b1 b2 x.Data x.Vars u s q
 have M:out.length<=64:=Nat.le_trans U (Nat.le_trans (Nat.pow_le_pow_right (by decide) y) (by decide))
 have N:=G.good D S y
 obtain ⟨v,J,v2,v3,v4⟩:=Uk (k0:=2427) (k:=2427) (P:=Gi x) (fun m h=>h.cmo) out [] (Col.nil _ _) (fun t ht=>by
  obtain ⟨b,hb,l,_,j⟩:=E.mem ht
  exact ⟨j,by rw [l]; exact N b hb⟩) (Nat.le_refl _) (by omega) (by simp; omega)
 simp at v3
 have i:∀m,cf v m=1*(ec B m:Rat):=fun m=>by rw [v4,E.cf,f]; simp only [cf]; grind
 obtain ⟨R,L,g⟩:=Adu (x:=x) v2 (by omega) (by omega) (fun m=>by rw [i]; exact Aln)
 refine ⟨R,B,?_,G,g.cp,fun m=>by rw [g.val,i]; grind,g.mo,by have:=g.len; omega,fun t ht=>by
  obtain ⟨z,I,z2⟩:=g.int t ht
  exact ⟨z,I,by omega⟩⟩
 unfold Nx
 rw [Un,Ae,V,Ae]
 simp only [bne_self_eq_false,cond_false,Iy,Ae]
 rw [show H9 out [] []=some (plc v,v) from J,Ae,L]; rfl
theorem Alo {l:Be} {k:Int} (b:Cv l=true) (h0:0<=k) (c:k<=6):Atk [⟨l,k⟩]/\Ci [(⟨l,k⟩:A3)]<=6:=by
 have hd:Ci [(⟨l,k⟩:A3)]=k.toNat:=by simp [Ci]
 exact ⟨⟨fun a ha=>by simp only [List.mem_singleton] at ha; subst ha; exact h0,fun a ha=>by simp only [List.mem_singleton] at ha; subst ha; exact b,by omega,by simp⟩,by omega⟩
theorem Alp {x:Bx} (j:CSz x) (q:Fc x) {l:Be} {k:Int} (b:Cv l=true) (h0:0<=k) (s:k<=6) (c:C9 x.Vars x.Res l=true) :
  ∃R B,I0 x l k=some (R,0)/\IsE [⟨l,k⟩] B/\IP x 64 200000 (fun m=>(ec B m:Rat)) R:=by
 obtain ⟨f,hb,_⟩:=Akw j (ps:=[]) (fun p hp=>by cases hp) (by simp) ⟨q,fun p hp=>by cases hp⟩
 obtain ⟨a1,a2⟩:=Alo b h0 s
 obtain ⟨R,B,i,h,g⟩:=Axa (x:=x) a1 a2 (fun a ha=>by simp only [List.mem_singleton] at ha; subst ha; exact c) f [] x.Res.Kind x.Res.Num x.Res.Args
 refine ⟨R,B,?_,h,g⟩
 unfold I0
 rw [hb]
 simp only [Ae,bnt,cond_false,Kk,b,Ar (by omega:¬k<0),Ar (by omega:¬k>6)]
 rw [Acr f [] x.Data x.Vars x.Res l (by have:=(La b).1; omega),Ae,c]
 simp only [bnt,cond_false,i,Ae]
theorem Y4 (x:Bx) (l:Be) (k:l.Terms.length<=1048576) (i:x.Vars.length<=1048576):Px x l=some (C9 x.Vars x.Res l):=by
 unfold Px
 have f:C9 x.Vars x.Res l=l.Terms.zipIdx.all (fun q=>Jb x.Vars x.Res q.1):=by
  unfold C9
  rw [Bool.eq_iff_iff,List.all_eq_true,List.all_eq_true]
  constructor
  .rintro h ⟨a,j⟩ hq
   exact h a (Cx (List.mk_mem_zipIdx_iff_getElem?.1 hq))
  .intro h a ha
   obtain ⟨j,hj⟩:=List.getElem?_of_mem ha
   exact h (a,j) (List.mk_mem_zipIdx_iff_getElem?.2 hj)
 rw [f]
 refine (Tv l.Terms (fun q=>Jb x.Vars x.Res q.1) (fun j=>(j:Int)) rfl (by omega) (rt:=true) (rf:=false) ?_ ?_).trans (by rw [Xx])
 .intro j t ht _ h1 h2 h3
  simp only [h1,h2,h3,cond_true,Ae]
  by_cases e:t.Var = -1
  .rw [Ez e,cond_true]
   have:Jb x.Vars x.Res t=(x.Res.Kind==1):=by unfold Jb tyX; rw [if_pos e]
   rw [this]
   by_cases hk:x.Res.Kind=1
   .rw [Ge hk,Ez hk]
    exact ⟨fun _=>rfl,fun h=>by cases h⟩
   .rw [E9 hk,Cu hk]
    exact ⟨(fun h=>by cases h),fun _=>⟨.inl false,rfl,rfl⟩⟩
  .rw [Cu e,cond_false]
   have b:Jb x.Vars x.Res t=(match Ag x.Vars t.Var with | some u=>u.Kind==1 | none=>false):=by unfold Jb tyX; rw [if_neg e]; cases Ag x.Vars t.Var <;> rfl
   rw [b]
   by_cases c:t.Var<0
   .rw [Al c,Ahj (.inl c)]
    exact ⟨(fun h=>by cases h),fun _=>⟨.inl false,rfl,rfl⟩⟩
   .rw [Ar c,cond_false]
    by_cases g:(x.Vars.length:Int)<=t.Var
    .rw [Al (by omega),Ahj (.inr g)]
     exact ⟨(fun h=>by cases h),fun _=>⟨.inl false,rfl,rfl⟩⟩
    .rw [Ar (by omega),cond_false]
     have hx:x.Vars[t.Var.toNat]? = some x.Vars[t.Var.toNat]:=Ck (by omega)
     generalize x.Vars[t.Var.toNat]'(by omega)=u at hx
     rw [Cd (n:=t.Var.toNat) (by omega) hx]
     simp only [Ae]
     by_cases hk:u.Kind=1
     .rw [Ge hk,Ez hk]
      exact ⟨fun _=>rfl,fun h=>by cases h⟩
     .rw [E9 hk,Cu hk]
      exact ⟨(fun h=>by cases h),fun _=>⟨.inl false,rfl,rfl⟩⟩
 .intro h _
  exact ⟨.inr (),by simp only [h]; rfl,rfl⟩
end Go.Ab
