/- Plain laws: what the plain functions answer. -/
import Derived.Test.YtpedagkdpokpkaaGreatDoorWgPl2
namespace Go.Ab
open Go
theorem Af8 (t u:Ah) (h:MSz t.Mono):Nd t u=some (C8 t.Mono u.Mono):=by
 unfold Nd
 rw [Amt _ _ h]; rfl
theorem Azl {α:Type} (A R:List α) (x y:α):((A++y::x::R).set (A.length+1) y).set A.length x=A++x::y::R:=by
 induction A with
 | nil=>rfl
 | cons a A ih=>simp only [List.cons_append,List.length_cons,List.set_cons_succ,ih]
theorem An5 {α:Type} (A R:List α) (x:α):(A++x::R)[A.length]? = some x:=by simp
theorem Azm {α:Type} (A R:List α) (x y:α):(A++y::x::R)[A.length+1]? = some x:=by
 induction A with
 | nil=>rfl
 | cons a A ih=>simp
theorem Azn {step:Int×List Ah->Option ((Int×List Ah)⊕(Int×List Ah))} (N:Nat) (E:N<4611686018427387904)
  (b:∀(x:Ah) (R:List Ah),step (0,x::R)=some (.inr (0,x::R)))
  (k:∀(A R:List Ah) (x y:Ah),(∀t∈A++y::x::R,MSz t.Mono)->(A++y::x::R).length<=N->step (((A.length+1:Nat):Int),A++y::x::R) =
   if C8 x.Mono y.Mono<0 then some (.inl ((A.length:Int),A++x::y::R)) else some (.inr (((A.length+1:Nat):Int),A++y::x::R))) :
  ∀(n:Nat) (A R:List Ah) (x:Ah),A.length=n->(∀t∈A++x::R,MSz t.Mono)->(A++x::R).length<=N ->
   ∃f i,Am step ((A.length:Int),A++x::R)=some ((f.length:Int),f++x::(i++R))/\A=f++i/\(∀a∈i,ltT x a)/\∀l y,f=l++[y]->¬ltT x y:=by
 intro n
 induction n with
 | zero=>
  intro A R x g _ _
  have:A = []:=List.length_eq_zero_iff.1 g
  subst this
  exact ⟨[],[],Dx (b x R),rfl,(fun _ h=>by cases h),(fun l y h=>by simp at h)⟩
 | succ n ih=>
  intro A R x g hm c
  obtain ⟨B,y,rfl⟩:∃B y,A=B++[y]:=by
   rcases List.eq_nil_or_concat A with h | ⟨B,y,h⟩
   .rw [h] at g; cases g
   .exact ⟨B,y,by simpa using h⟩
  have s:B.length=n:=by simpa using g
  have D:(B++[y])++x::R=B++y::x::R:=by simp
  have el:(((B++[y]).length:Nat):Int)=((B.length+1:Nat):Int):=by simp
  rw [D] at hm c ⊢
  rw [el]
  have j:=k B R x y hm c
  by_cases hc:C8 x.Mono y.Mono<0
  .rw [if_pos hc] at j
   obtain ⟨f,i,h1,h2,h3,u⟩:=ih B (y::R) x s (by
    intro t ht
    refine hm t ?_
    simp only [List.mem_append,List.mem_cons] at ht ⊢
    rcases ht with h | h | h | h <;> simp [h]) (by simpa using c)
   refine ⟨f,i++[y],?_,by rw [h2]; simp,?_,u⟩
   .rw [G6 j,h1]; simp
   .intro a ha
    rcases List.mem_append.1 ha with ha | ha
    .exact h3 a ha
    .simp only [List.mem_singleton] at ha
     subst ha; exact hc
  .rw [if_neg hc] at j
   refine ⟨B++[y],[],?_,by simp,(fun _ h=>by cases h),?_⟩
   .rw [Dx j]; simp
   .intro l z q
    have:=List.append_inj' q rfl
    have e:y=z:=by simpa using this.2
    subst e; exact hc
theorem Azo {a b c:Ah} (h:ltT a b) (h':ltT b c):ltT a c:=T2 h h'
theorem Azp {c j:List Ah} {x:Ah} (u:(c++j).Pairwise ltT) (h2:∀a∈j,ltT x a) (h1:∀g y,c=g++[y]->¬ltT x y) (hd:∀a∈c,a.Mono≠x.Mono):(c++x::j).Pairwise ltT:=by
 obtain ⟨i,s,l⟩:=List.pairwise_append.1 u
 have hx:∀a∈c,ltT a x:=by
  intro a ha
  rcases List.eq_nil_or_concat c with h | ⟨g,y,h⟩
  .rw [h] at ha; cases ha
  .have h:c=g++[y]:=by simpa using h
   have f:ltT y x:=by
    have q:=h1 g y h
    have z:=hd y (by rw [h]; simp)
    unfold ltT at *
    rcases Int.lt_trichotomy (C8 x.Mono y.Mono) 0 with k | k | k
    .exact (q k).elim
    .exact (z (Ji.1 k).symm).elim
    .exact Afv.1 k
   rw [h] at ha i
   rcases List.mem_append.1 ha with ha | ha
   .exact Azo ((List.pairwise_append.1 i).2.2 a ha y (by simp)) f
   .simp only [List.mem_singleton] at ha
    subst ha; exact f
 refine List.pairwise_append.2 ⟨i,List.pairwise_cons.2 ⟨h2,s⟩,fun a ha b hb=>?_⟩
 rcases List.mem_cons.1 hb with rfl | hb
 .exact hx a ha
 .exact l a ha b hb
noncomputable def Xg:Int×List Ah->Option ((Int×List Ah)⊕(Int×List Ah)):=fun (v31,b)=>
 (show Option Bool from
 bif (decide (v31>(0:Int))) then (
 (Ag b v31).bind fun v33=>
 (Ag b (Ac (v31-1))).bind fun g=>
 (Nd v33 g).bind fun v35=>
 some (decide (v35<(0:Int))))
 else some false).bind fun f=>
 bif f then (
 (Ag b (Ac (v31-1))).bind fun v37=>
 (Ag b v31).bind fun c=>
 (Ag b v31).bind fun v39=>
 (Ag (Cg b v31 v37) (Ac (v31-1))).bind fun v40=>
 some (.inl ((Ac (v31-1)),(Cg (Cg b v31 v37) (Ac (v31-1)) c))))
 else some (.inr (v31,b))
theorem Azq (y:Ah) (R:List Ah):Xg (0,y::R)=some (.inr (0,y::R)):=by
 unfold Xg
 simp only [Ar (by omega:¬(0:Int)>0),cond_false,Ad]
theorem Azr {N:Nat} (h:N<=1099511627776) (A R:List Ah) (u y:Ah) (b:∀t∈A++y::u::R,MSz t.Mono) (c:(A++y::u::R).length<=N):Xg (((A.length+1:Nat):Int),A++y::u::R) =
  if C8 u.Mono y.Mono<0 then some (.inl ((A.length:Int),A++u::y::R)) else some (.inr (((A.length+1:Nat):Int),A++y::u::R)):=by
 have g:A.length+1<N:=by simp at c; omega
 have f:Ac (((A.length+1:Nat):Int)-1)=(A.length:Int):=by rw [Ac,Bw] <;> omega
 unfold Xg
 simp only [Al (by omega:((A.length+1:Nat):Int)>0),cond_true,f,Cd (n:=A.length+1) rfl (Azm A R u y),Cd (n:=A.length) rfl (An5 A (u::R) y),Ad,Af8 u y (b u (by simp))]
 by_cases hc:C8 u.Mono y.Mono<0
 .rw [Al hc,if_pos hc]
  simp only [cond_true]
  rw [Fh (n:=A.length+1) rfl,Fh (n:=A.length) rfl,Azl]
  have:Ag ((A++y::u::R).set (A.length+1) y) (A.length:Int)=some y:=by
   refine Cd rfl ?_
   rw [List.getElem?_set_ne (by omega)]; exact An5 A (u::R) y
  rw [this]; rfl
 .rw [Ar hc,if_neg hc]; rfl
theorem Azs (b:List Ah) (hd:Dst b) (hm:∀t∈b,MSz t.Mono) (L:b.length<=1099511627776) :
  ∃R,V3 0 (b.length:Int) b=some R/\R.Perm b/\R.Pairwise ltT:=by
 unfold V3
 cases b with
 | nil=>
  refine ⟨[],?_,List.Perm.refl _,List.Pairwise.nil⟩
  refine Gu 0 (fun _=>((1:Int),([]:List Ah))) (by simp [Ac,Bw]) (fun j hj=>by omega) ⟨[],?_,rfl⟩
  simp
 | cons z0 A=>
 generalize f:z0::A=b at *
 have hpos:1<=b.length:=by rw [<-f]; simp
 refine E7 (fun s=>∃(i:Nat) (S:List Ah),s=((i:Int),S++b.drop i)/\1<=i/\i<=b.length/\S.length=i/\S.Perm (b.take i)/\S.Pairwise ltT) (fun s=>b.length-s.1.toNat)
  (fun R=>R.Perm b/\R.Pairwise ltT) ⟨1,[z0],by rw [<-f]; simp [Ac,Bw],by omega,hpos,rfl,by rw [<-f]; simp,List.pairwise_singleton _ _⟩ ?_ ?_
 .rintro _ ⟨i,S,rfl,I,M,G,c,k⟩
  rcases Nat.lt_or_ge i b.length with h | h
  .have hx:b[i]? = some b[i]:=B3 h
   generalize b[i]=x at hx
   have g:b.drop i=x::b.drop (i+1):=Ic hx
   have z:(S++x::b.drop (i+1)).length=b.length:=by simp; omega
   have y:∀t∈S++x::b.drop (i+1),t∈b:=by
    intro t ht
    rcases List.mem_append.1 ht with ht | ht
    .exact List.mem_of_mem_take (c.mem_iff.1 ht)
    .rw [<-g] at ht; exact List.mem_of_mem_drop ht
   simp only [Al (by omega:(i:Int)<(b.length:Int)),cond_true,C7 h (by omega)]
   rw [g]
   left
   obtain ⟨q,l,h1,h2,h3,J⟩:=Azn (step:=Xg) b.length (by omega) Azq (Azr (by omega)) S.length S (b.drop (i+1)) x rfl (fun t ht=>hm t (y t ht)) (by rw [z]; exact Nat.le_refl _)
   rw [G] at h1
   have hp:(q++x::l).Perm (b.take (i+1)):=by
    rw [De hx]
    have:(q++x::l).Perm ((q++l)++[x]):=by
     rw [List.append_assoc]
     exact List.Perm.append_left q (List.perm_append_singleton x l).symm
    exact this.trans (by rw [<-h2]; exact c.append_right [x])
   refine ⟨(((i+1:Nat):Int),(q++x::l)++b.drop (i+1)),bnd h1 (by simp),⟨i+1,q++x::l,rfl,by omega,by omega,?_,hp,?_⟩,by simp; omega⟩
   .rw [hp.length_eq,List.length_take]; omega
   .rw [h2] at k
    refine Azp k h3 J fun a ha=>?_
    have E:a∈b.take i:=c.mem_iff.1 (by rw [h2]; simp [ha])
    have B:x∈b.drop i:=by rw [g]; simp
    have D:(b.take i++b.drop i).Pairwise fun t u=>t.Mono≠u.Mono:=by rw [List.take_append_drop]; exact hd
    exact (List.pairwise_append.1 D).2.2 a E x B
  .have:i=b.length:=by omega
   subst this
   rw [List.take_length] at c
   simp only [Ar (by omega:¬(b.length:Int)<(b.length:Int)),cond_false,List.drop_length,List.append_nil]
   exact .inr ⟨S,rfl,c,k⟩
 .rintro R ⟨h1,h2⟩
  exact ⟨R,rfl,h1,h2⟩
theorem K0 {α:Type} {n:Nat} {l:List α} (h:n=l.length):Ff n l=some ():=by unfold Ff; rw [if_pos h]
theorem Azt {s:ByteArray} {i:Int} (h0:0<=i) (h:i.toNat<s.size):∃c,Ht s i=some c:=by
 unfold Ht
 rw [if_pos h0]
 exact ⟨_,getElem?_pos s i.toNat h⟩
set_option maxRecDepth 20000 in
theorem An6 {n:Nat} (h:n<256):∃v,P6 (Ax (n:Int))=some v:=by
 unfold P6 Zn
 rw [Ax,C4 (by omega) (by omega),Ar (by omega)]
 simp only [cond_false,Ad]
 rw [Ar (by omega)]
 simp only [cond_false,Ad]
 rw [Ar (by omega)]
 simp only [cond_false,Ad]
 have b:wu8 (n:Int)=(n:Int):=by
  rw [wu8]; unfold IntKind.wrap; simp [IntKind.bits,IntKind.signed]; omega
 rw [b]
 generalize g:ByteArray.mk _=T
 have f:T.size=256:=by rw [<-g]; rfl
 obtain ⟨c,hc⟩:=Azt (s:=T) (i:=(n:Int)) (by omega) (by rw [f]; simpa using h)
 rw [hc]
 exact ⟨_,rfl⟩
theorem Azu (b:List Ah) (hd:Dst b) (hm:∀t∈b,MSz t.Mono) (f:b.length<=12):∃R,Nc b=some R/\R.Perm b/\R.Pairwise ltT:=by
 obtain ⟨R,h1,h2,h3⟩:=Azs b hd hm (by omega)
 obtain ⟨v,c⟩:=An6 (n:=b.length) (by omega)
 refine ⟨R,?_,h2,h3⟩
 unfold Nc
 rw [Nat.ble_eq_true_of_le f,cond_true]
 unfold Aeb
 rw [c,Ad]
 have hp:Vq 0 (b.length:Int) v b=some R:=by
  unfold Vq
  refine bnd (a:=R) (Dx ?_) rfl
  have w:Ac ((b.length:Int)-0)=(b.length:Int):=by rw [Ac,Bw] <;> omega
  simp only [w,Al (by omega:(b.length:Int)<=12),cond_true,h1,Ad,K0 h2.length_eq.symm]
 rw [hp,Ad,K0 h2.length_eq.symm]; rfl
def clT (t:Ah):Ah:=⟨Bs (sv t.Coef) (nv t.Coef) (dv t.Coef),t.Mono⟩
theorem Azv {k:Nat} (p:List Ah) (hk:k<34359738000) (hp:∀t∈p,RB k t.Coef/\MSz t.Mono) (b:p.length<=1048576):Vd p=some (p.map clT):=by
 unfold Vd
 refine Iv p (fun j=>((j:Int),(p.take j).map clT)) rfl (by omega) ?_ ?_
 .intro j x hj hx h1 h2 h3
  obtain ⟨a1,a2⟩:=hp x (Cp hx)
  simp only [h1,h2,h3,cond_true,Ad,Aeu x.Coef k a1 (by omega),Ay2 x.Mono a2]
  rw [Da (by simp; omega),Ad,De hx]
  simp [clT]
 .intro h1
  exact ⟨p.map clT,by simp,rfl⟩
theorem Azw (p:List Ah) (m:Ba):cf (p.map clT) m=cf p m:=by
 induction p with
 | nil=>rfl
 | cons t p ih=>
  simp only [List.map_cons,cf,ih,clT]
  rw [Lx _ _ _ (E2 _)]; rfl
theorem Azx {p q:List Ah} (h:p.Perm q) (m:Ba):cf p m=cf q m:=by
 induction h with
 | nil=>rfl
 | cons x _ ih=>simp only [cf,ih]
 | swap x y l=>simp only [cf]; grind
 | trans _ _ h1 h2=>rw [h1,h2]
def nzT (t:Ah):Bool:=decide (rq t.Coef≠0)
theorem Azy (p:List Ah) (m:Ba):cf (p.filter nzT) m=cf p m:=by
 induction p with
 | nil=>rfl
 | cons t p ih=>
  by_cases h:rq t.Coef=0
  .rw [List.filter_cons_of_neg (by simp [nzT,h]),ih]; simp only [cf,h]; grind
  .rw [List.filter_cons_of_pos (by simp [nzT,h])]; simp only [cf,ih]
theorem Azz (x:Rat):(G0 x != (0:Int))=decide (x≠0):=by
 unfold G0
 by_cases h1:x<0
 .rw [if_pos h1]
  have:x≠0:=by intro e; subst e; exact absurd h1 (by decide)
  simp [this]
 .rw [if_neg h1]
  by_cases h2:0<x
  .rw [if_pos h2]
   have:x≠0:=by intro e; subst e; exact absurd h2 (by decide)
   simp [this]
  .rw [if_neg h2]
   have:x=0:=Rat.le_antisymm (Rat.not_lt.1 h2) (Rat.not_lt.1 h1)
   simp [this]
theorem Az0 {α:Type} {f:α->Bool} {l:List α} {j:Nat} {x:α} (h:l[j]? = some x):(l.take (j+1)).filter f=(l.take j).filter f++(if f x then [x] else []):=by
 rw [De h,List.filter_append]; congr 1; cases k:f x <;> simp [List.filter,k]
theorem Af9 {k:Nat} {P:Ba->Prop} (q:∀m,P m->CMo m) (o:List (ByteArray×Int)) (ts:List Ah) (h:Col k P ts) (hk:k<34359738000) (A:ts.length<=1000)
  (z:∀c:List Ah,c.length<=ts.length->Dst c->(∀t∈c,MSz t.Mono)->∃R,Nc c=some R/\R.Perm c/\R.Pairwise ltT) :
  ∃R,Ir o ts=some (R,0)/\CP R/\(∀m,cf R m=cf ts m)/\(∀t∈R,P t.Mono/\RB (k+1) t.Coef)/\R.length<=ts.length:=by
 unfold Ir
 have g:(ts.filter nzT).length<=ts.length:=List.length_filter_le _ _
 obtain ⟨S,y,f,s⟩:=z (ts.filter nzT) g (List.Pairwise.filter _ h.dst) (fun t ht=>(q _ (h.mo t (List.mem_filter.1 ht).1)).sz)
 have b:∀t∈S,t∈ts/\rq t.Coef≠0:=by
  intro t ht
  have:=List.mem_filter.1 (f.mem_iff.1 ht)
  exact ⟨this.1,by simpa [nzT] using this.2⟩
 refine ⟨S.map clT,?_,⟨?_,?_⟩,?_,?_,?_⟩
 .refine Iv ts (fun j=>((j:Int),(ts.take j).filter nzT)) rfl (by omega) ?_ ?_
  .intro j x hj hx h1 h2 h3
   have hb:=h.tb x (Cp hx)
   have l:((ts.take j).filter nzT).length<=ts.length:=Nat.le_trans (List.length_filter_le _ _) (by rw [List.length_take]; omega)
   simp only [h1,h2,h3,cond_true,Ad,(Mu hb hk).1,Azz]
   rw [Az0 hx]
   by_cases i:rq x.Coef=0
   .have:nzT x=false:=by simp [nzT,i]
    rw [Ar (by simpa using i),this]; simp
   .have:nzT x=true:=by simp [nzT,i]
    rw [Al i,this]
    simp only [cond_true]
    rw [Da (by simp; omega)]; simp
  .intro h1
   refine ⟨ts.filter nzT,by simp only [h1,cond_false,List.take_length],?_⟩
   rw [Ar (by omega)]
   simp only [cond_false]
   rw [y,Ad,K0 f.length_eq.symm,Ad,
    Azv (k:=k) S hk (fun t ht=>⟨h.tb t (b t ht).1,(q _ (h.mo t (b t ht).1)).sz⟩) (by rw [f.length_eq]; omega)]; rfl
 .rw [List.pairwise_map]; exact s
 .intro t ht
  obtain ⟨u,hu,rfl⟩:=List.mem_map.1 ht
  refine ⟨O9 _ _ _ (E2 _),?_⟩
  show rq (Bs _ _ _)≠0
  rw [Lx _ _ _ (E2 _)]; exact (b u hu).2
 .intro m
  rw [Azw,Azx f,Azy]
 .intro t ht
  obtain ⟨u,hu,rfl⟩:=List.mem_map.1 ht
  exact ⟨h.mo u (b u hu).1,Ali (h.tb u (b u hu).1)⟩
 .rw [List.length_map,f.length_eq]; exact g
end Go.Ab
namespace Go.Ab
open Go
theorem An7 (x:Bj) (g:CSz x) (ps:List (List Ah)) (B:∀p∈ps,∀t∈p,TSz t) (R:ps.length<=1048576) :
  ∃r,Jy x ps=some r/\(((Fm x/\∀p∈ps,H3 x.Data x.Vars x.Res p=true)/\∃A,r = .inl (true,x,A,[],x.Data,x.Vars,x.Res.Kind,x.Res.Num,x.Res.Args)/\Dn x.Data x.Vars x.Res A) \/
   ((¬(Fm x/\∀p∈ps,H3 x.Data x.Vars x.Res p=true))/\r = .inr false)):=by
 obtain ⟨b,b1,b2⟩:=Al3 g.ds
 have L:=g.nv
 have J:=g.rs
 unfold Jy
 rw [b1,Wy x.Data x.Res 0 (by omega)]
 by_cases l:x.Vars.length<=3000
 .rw [Ar (by omega)]
  simp only [cond_false,Ad]
  cases b with
  | false=>exact ⟨_,rfl,.inr ⟨fun h=>(by have:=b2.2 h.1.2.1; cases this),rfl⟩⟩
  | true=>
   have I:=b2.1 rfl
   simp only [D2,cond_false]
   cases hr:(F4 x.Data 0 x.Res&&decide (B4 x.Res<=200)) with
   | false=>exact ⟨_,rfl,.inr ⟨fun h=>(by have:=h.1.2.2.1; rw [show Kz x.Data x.Res=false from hr] at this; cases this),rfl⟩⟩
   | true=>
    simp only [D2,cond_false,Ad]
    refine E7 (fun i=>∃j:Nat,i=j/\j<=x.Vars.length/\(x.Vars.take j).all (Kz x.Data)=true) (fun i=>x.Vars.length-i.toNat)
     (fun z=>match z with | .inl r=>r=false/\¬Fm x | .inr _=>Fm x) ⟨0,rfl,by omega,by simp⟩ ?_ ?_
    .rintro i ⟨j,rfl,hj,c⟩
     rcases Nat.lt_or_ge j x.Vars.length with h | h
     .have ht:x.Vars[j]? = some x.Vars[j]:=B3 h
      generalize x.Vars[j]=t at ht
      have:=g.vs t (Cp ht)
      simp only [Al (by omega:(j:Int)<(x.Vars.length:Int)),cond_true,Cd rfl ht,Ad,Wy x.Data t 0 (by omega),C7 h (by omega)]
      rw [show (F4 x.Data 0 t&&decide (B4 t<=200))=Kz x.Data t from rfl]
      cases E:Kz x.Data t with
      | true=>exact .inl ⟨_,rfl,⟨j+1,rfl,by omega,by rw [De ht,List.all_append,c]; simp [E]⟩,by simp; omega⟩
      | false=>
       refine .inr ⟨.inl false,rfl,rfl,fun D=>?_⟩
       have:=List.all_eq_true.1 D.2.2.2 t (Cp ht)
       rw [E] at this; cases this
     .have:j=x.Vars.length:=by omega
      subst this
      rw [List.take_length] at c
      exact .inr ⟨.inr (),by simp,l,I,hr,c⟩
    .rintro (r | u) f
     .obtain ⟨rfl,f⟩:=f
      exact ⟨_,rfl,.inr ⟨fun h=>f h.1,rfl⟩⟩
     .have G:Fm x:=f
      simp only
      refine E7 (fun s=>∃(j:Nat) (o:List (ByteArray×Int)),s=((j:Int),o)/\j<=ps.length/\Dn x.Data x.Vars x.Res o/\∀p∈ps.take j,H3 x.Data x.Vars x.Res p=true) (fun s=>ps.length-s.1.toNat)
       (fun z=>match z with | .inl r=>r=false/\¬(∀p∈ps,H3 x.Data x.Vars x.Res p=true) | .inr o=>Dn x.Data x.Vars x.Res o/\∀p∈ps,H3 x.Data x.Vars x.Res p=true)
       ⟨0,[],rfl,by omega,(fun q h=>by cases h),(fun q h=>by simp at h)⟩ ?_ ?_
      .rintro _ ⟨j,o,rfl,hj,hm,c⟩
       rcases Nat.lt_or_ge j ps.length with h | h
       .have ht:ps[j]? = some ps[j]:=B3 h
        generalize ps[j]=p at ht
        have k:=Cp ht
        obtain ⟨A,N,M⟩:=Am5 (G.ctx g) [] hm p (B p k)
        simp only [Al (by omega:(j:Int)<(ps.length:Int)),cond_true,Cd rfl ht,Ad,N,C7 h (by omega)]
        cases y:H3 x.Data x.Vars x.Res p with
        | true=>
         refine .inl ⟨_,rfl,⟨j+1,A,rfl,by omega,M,fun q hq=>?_⟩,by simp; omega⟩
         rw [De ht] at hq
         rcases List.mem_append.1 hq with hq | hq
         .exact c q hq
         .simp only [List.mem_singleton] at hq
          subst hq; exact y
        | false=>
         refine .inr ⟨.inl false,rfl,rfl,fun D=>?_⟩
         have:=D p k
         rw [y] at this; cases this
       .have:j=ps.length:=by omega
        subst this
        rw [List.take_length] at c
        exact .inr ⟨.inr o,by simp,hm,c⟩
      .rintro (r | o) hw
       .obtain ⟨rfl,hw⟩:=hw
        exact ⟨_,rfl,.inr ⟨fun h=>hw h.2,rfl⟩⟩
       .exact ⟨_,rfl,.inl ⟨⟨G,hw.2⟩,o,rfl,hw.1⟩⟩
 .rw [Al (by omega)]
  exact ⟨_,rfl,.inr ⟨fun h=>l h.1.1,rfl⟩⟩
theorem Az1 {data:List A8} {vars:List Aj} {res:Aj} {m:Ba} (h:Hz data vars res m=true) (q:MSz m):CMo m:=by
 have c:=(Ayn h).2
 unfold Hz at h
 simp only [C2,decide_eq_true_eq] at h
 obtain ⟨⟨h1,h2⟩,h3⟩:=h
 have b:∀f∈m.Factors,0<=E4 data vars res f:=by
  intro f c
  obtain ⟨j,hj⟩:=List.getElem?_of_mem c
  have:=Jc h1 hj
  simp only [W6,C2,decide_eq_true_eq] at this
  omega
 have ha:∀a∈m.Atoms,1<=a.Deg/\B5 a.Lin=true/\a.Lin.Terms≠[]:=by
  intro a ha
  obtain ⟨j,hj⟩:=List.getElem?_of_mem ha
  have:=Jc h2 hj
  simp only [Mt,C2,decide_eq_true_eq] at this
  refine ⟨this.1.1.1.1,this.1.1.1.2,fun e=>?_⟩
  have k:=this.1.1.2
  rw [e] at k; simp at k
 obtain ⟨a1,a2,a3⟩:=Am2 m.Atoms fun a h=>by have:=(ha a h).1; omega
 have f1:=Ayi m.Factors b
 have al:(m.Atoms.length:Int)<=Ce m.Atoms:=by
  have key:∀l:List A6,(∀a∈l,1<=a.Deg)->(l.length:Int)<=Ce l:=by
   intro l
   induction l with
   | nil=>intro _; simp [Ce]
   | cons f fs ih=>
    intro i
    have h1:=i f (by simp)
    have h2:=ih (fun g s=>i g (by simp [s]))
    unfold Ce at *
    simp only [List.map_cons,List.sum_cons,List.length_cons]; omega
  exact key _ fun a h=>(ha a h).1
 exact ⟨q,c,by omega,fun a h=>⟨(ha a h).2.1,(ha a h).2.2,(ha a h).1,by have:=a3 a h; omega⟩⟩
def Ek (x:Bj) (m:Ba):Prop:=Hz x.Data x.Vars x.Res m=true/\MSz m
theorem Ek.cmo {x:Bj} {m:Ba} (h:Ek x m):CMo m:=Az1 h.1 h.2
structure Gl (x:Bj) (p:List Ah):Prop where
 can:H3 x.Data x.Vars x.Res p=true
 sz:∀t∈p,TSz t
theorem Gl.cp {x:Bj} {p:List Ah} (h:Gl x p):CP p:=(Xa.1 h.can).2.1
theorem Gl.mo {x:Bj} {p:List Ah} (h:Gl x p):∀t∈p,Ek x t.Mono:=fun t ht=>⟨(Xa.1 h.can).2.2 t ht,(h.sz t ht).mo⟩
theorem Gl.of {x:Bj} {p:List Ah} (hc:CP p) (hm:∀t∈p,Ek x t.Mono) (hr:∀t∈p,RB 1048576 t.Coef) (b:p.length<=1000):Gl x p :=
 ⟨Xa.2 ⟨b,hc,fun t ht=>(hm t ht).1⟩,fun t ht=>⟨hr t ht,(hm t ht).2⟩⟩
theorem Gl.tb {x:Bj} {p:List Ah} (h:Gl x p):∀t∈p,RB 1048576 t.Coef/\Ek x t.Mono:=fun t ht=>⟨(h.sz t ht).co,h.mo t ht⟩
theorem An8 {x:Bj} (h:CSz x) (j:Fm x) {p q:List Ah} (hp:Gl x p) (hq:Gl x q):∃c,Jy x [p,q]=some (.inl (true,x,c,[],x.Data,x.Vars,x.Res.Kind,x.Res.Num,x.Res.Args)):=by
 have b:∀r∈[p,q],Gl x r:=by
  intro r hr
  simp only [List.mem_cons,List.not_mem_nil,or_false] at hr
  rcases hr with rfl | rfl <;> assumption
 obtain ⟨r,g,f⟩:=An7 x h [p,q] (fun r hr=>(b r hr).sz) (by simp)
 rcases f with ⟨_,c,e,_⟩ | ⟨i,_⟩
 .exact ⟨c,by rw [g,e]⟩
 .exact (i ⟨j,fun r hr=>(b r hr).can⟩).elim
theorem An9 {r:Ak} {j k:Nat} (q:List Ah) (hr:RB j r) (hq:∀t∈q,RB k t.Coef) (hj:j<34359738000) (hk:k<34359738000) (B:q.length<=1048576) :
  ∃x,Sz q r=some x/\x.length=q.length/\(∀m,cf x m=cf q m*rq r)/\∀t∈x,RB (k+j+2) t.Coef/\∃u∈q,u.Mono=t.Mono:=by
 unfold Sz
 refine E7 (fun s=>∃(i:Nat) (o:List Ah),s=((i:Int),o)/\i<=q.length/\o.length=i/\(∀m,cf o m=cf (q.take i) m*rq r)/\∀t∈o,RB (k+j+2) t.Coef/\∃u∈q,u.Mono=t.Mono) (fun s=>q.length-s.1.toNat)
  (fun o=>o.length=q.length/\(∀m,cf o m=cf q m*rq r)/\∀t∈o,RB (k+j+2) t.Coef/\∃u∈q,u.Mono=t.Mono) ⟨0,[],rfl,by omega,rfl,(fun m=>by simp only [List.take_zero,cf]; grind),fun _ h=>by cases h⟩ ?_ ?_
 .rintro _ ⟨i,o,rfl,D,l,b,g⟩
  rcases Nat.lt_or_ge i q.length with h | h
  .have hx:q[i]? = some q[i]:=B3 h
   generalize q[i]=t at hx
   have f:=Cp hx
   obtain ⟨c,A,z,E,y⟩:=Rh (hq t f) hr hk hj
   simp only [Al (by omega:(i:Int)<(q.length:Int)),cond_true,Cd rfl hx,Ad,A,C7 h (by omega)]
   rw [Da (by simp; omega)]
   refine .inl ⟨_,rfl,⟨i+1,o++[⟨c,t.Mono⟩],rfl,by omega,by simp [l],fun m=>?_,fun w hw=>?_⟩,by simp; omega⟩
   .rw [Rk,b,De hx,Rk]
    simp only [cf,y]
    split <;> grind
   .rcases List.mem_append.1 hw with hw | hw
    .exact g w hw
    .simp only [List.mem_singleton] at hw
     subst hw
     exact ⟨z,t,f,rfl⟩
  .have:i=q.length:=by omega
   subst this
   rw [List.take_length] at b
   simp only [Ar (by omega:¬(q.length:Int)<(q.length:Int)),cond_false]
   exact .inr ⟨_,rfl,l,b,g⟩
 .rintro o ⟨h1,h2,h3⟩
  exact ⟨_,rfl,h1,h2,h3⟩
theorem Az2 {k:Nat} (ts:List Ah) (h:∀t∈ts,RB k t.Coef) (hk:k<34359738000) (f:ts.length<=1048576):Od ts=some (ts.all fun t=>decide (0<=rq t.Coef)):=by
 have b:∀x:Rat,decide (G0 x<(0:Int)) = !decide (0<=x):=by
  intro x
  unfold G0
  by_cases h1:x<0
  .rw [if_pos h1,Ar (Rat.not_le.2 h1)]; rfl
  .rw [if_neg h1,Al (Rat.not_lt.1 h1)]
   split <;> rfl
 have key:=Aen ts (fun t=>!decide (0<=rq t.Coef)) (by omega) (J:=fun z=>match z with | .inl c=>some c | .inr _=>some (-1)) (step:=fun v3=>bif (decide (v3<(ts.length:Int))) then ((Ag ts v3).bind fun v4=>(U9 v4).bind fun v5=>bif v5 then some (.inr (.inl v3)) else some (.inl (Ac (v3+1)))) else some (.inr (.inr ()))) (by
  intro j t ht h1 h2 h3
  simp only [h1,h2,h3,cond_true,Ad,U9,(Mu (h t ht) hk).1,b]) (fun h=>by simp only [h]; rfl) (fun _=>rfl) rfl
 obtain ⟨i,i1,i2⟩:=key
 have e:Zh ts=some i:=i1
 unfold Od Zf
 rw [e,Ad,Ad,i2,List.not_any_eq_all_not]
 simp
open Classical in
theorem Az3 {ts:List Ah} (hd:Dst ts) {t:Ah} (ht:t∈ts):cf ts t.Mono=rq t.Coef:=by
 induction ts with
 | nil=>cases ht
 | cons u ts ih=>
  obtain ⟨h1,h2⟩:=List.pairwise_cons.1 hd
  rw [Ro]
  have none:∀(l:List Ah) (m:Ba),(∀w∈l,w.Mono≠m)->cf l m=0:=fun l m h=>Aa7 fun w hw e=>h w hw (Ji.1 e)
  rcases List.mem_cons.1 ht with rfl | ht
  .rw [if_pos rfl,none ts t.Mono (fun w hw e=>h1 w hw e.symm)]; grind
  .rw [if_neg (h1 t ht),ih h2 ht]; grind
open Classical in
theorem Az4 {ts:List Ah} (hd:Dst ts):(ts.all fun t=>decide (0<=rq t.Coef))=true↔∀m,0<=cf ts m:=by
 rw [List.all_eq_true]
 constructor
 .intro h m
  clear hd
  induction ts with
  | nil=>exact Rat.le_refl
  | cons t ts ih=>
   have h1:=h t (by simp)
   have h2:=ih fun u hu=>h u (by simp [hu])
   simp only [decide_eq_true_eq] at h1
   rw [Ro]
   split <;> grind
 .intro h t ht
  have:=h t.Mono
  rw [Az3 hd ht] at this
  simpa using this
theorem Az5:∃r,En (-1)=some r/\RB 1 r/\rq r = -1:=by
 refine ⟨_,Tp (-1) (by decide) (by decide),?_,?_⟩
 .exact Lq _ _ _ 1 (Jb (by decide)) (Jb (by decide)) (by omega)
 .rw [Lx _ _ _ (by decide)]; decide
end Go.Ab
namespace Go.Ab
open Go
end Go.Ab
namespace Go.Ab
open Go
def bc:Nat->Nat->Nat
 | _,0=>1
 | 0,_+1=>0
 | n+1,k+1=>bc n k+bc n (k+1)
theorem Kb (n:Nat):bc n 0=1:=by cases n <;> rfl
theorem Aga:∀{n k:Nat},n<k->Fz n k=0
 | n,0,h=>absurd h (by omega)
 | n,k+1,h=>by
  rw [Fz]
  by_cases e:n<k
  .rw [Aga e,Nat.zero_mul]
  .rw [show n-k=0 by omega,Nat.mul_zero]
theorem Aoa (n:Nat):∀k,Fz (n+1) (k+1)=(n+1)*Fz n k
 | 0=>by simp [Fz]
 | k+1=>by
  rw [Fz,Aoa n k,Fz,show n+1-(k+1)=n-k by omega,Nat.mul_assoc]
theorem Abh:∀n k,Fz n k=fct k*bc n k
 | n,0=>by rw [Kb]; rfl
 | 0,k+1=>by rw [Aga (by omega)]; simp [bc]
 | n+1,k+1=>by
  have h1:=Abh n (k+1)
  have h2:=Abh n k
  rw [Aoa,bc,Nat.mul_add,<-h1,fct,Fz,Nat.mul_right_comm,<-h2]
  by_cases e:k<=n
  .rw [<-Nat.mul_add,Nat.mul_comm,show k+1+(n-k)=n+1 by omega]
  .rw [Aga (by omega)]; simp
theorem Xh:∀n k,bc n k<=2 ^ n
 | n,0=>by rw [Kb]; exact Nat.one_le_two_pow
 | 0,k+1=>by simp [bc]
 | n+1,k+1=>by
  have h1:=Xh n (k+1)
  have h2:=Xh n k
  rw [bc,Nat.pow_succ]; omega
def cR (n:Nat):Ak:=Bs false n 1
theorem Agb (n:Nat):sv (cR n)=false/\nv (cR n)=n/\dv (cR n)=1:=by
 obtain ⟨g,f,c,b⟩:=Ww false n 1 (by decide)
 refine ⟨?_,?_,?_⟩
 .by_cases h:n=0
  .exact b h
  .exact c h
 .unfold cR; rw [g]; simp
 .unfold cR; rw [f]; simp
theorem Abi {n k:Nat} (h:Bb n<=k) (hk:1<=k):RB k (cR n):=Lq _ _ _ _ h (by rw [Mo]; exact hk) hk
theorem Az6:En 0=some (cR 0):=Tp 0 (by decide) (by decide)
theorem T5:En 1=some (cR 1):=Tp 1 (by decide) (by decide)
theorem Az7 (n k:Nat) (b:n<1000000000) (hk:k<=64):Nm (n:Int) (k:Int)=some (cR (bc n k),true):=by
 unfold Nm
 have e:(if (n:Int)>0 then (n:Int) else 0)=(n:Int):=by split <;> omega
 simp only [Ar (by omega:¬(k:Int)<0),cond_false,Ar (by omega:¬(k:Int)>64),Ad,e,Alm n k b hk]
 rw [Abh,show Bs false (fct k*bc n k) (fct k)=Bs false (fct k*bc n k) (fct k*1) by rw [Nat.mul_one],Q5 _ _ _ _ (Aav k)]
 rfl
theorem Az8 (n k:Nat) (b:n<1000000000) (hk:k<=64):Nm (n:Int) (k:Int)=some (cR (bc n k),true):=Az7 n k b hk
end Go.Ab
namespace Go.Ab
open Go
end Go.Ab
namespace Go.Ab
open Go
end Go.Ab
namespace Go.Ab
open Go
theorem Az9:Vo []=some []:=by kernel_rfl
theorem A0a (l:List Int):Vo l=some (l.mergeSort fun x y=>decide (x<=y)):=by
 cases l with
 | nil=>rw [Az9]; simp
 | cons a l=>rfl
theorem A0b (l:List Int):(l.mergeSort fun x y=>decide (x<=y)).Pairwise (·<=·):=by
 have:=List.pairwise_mergeSort (le:=fun x y:Int=>decide (x<=y)) (fun a b c h1 h2=>by simp only [decide_eq_true_eq] at *; omega) (fun a b=>by simp only [Bool.or_eq_true,decide_eq_true_eq]; omega) l
 exact this.imp (fun h=>by simpa using h)
structure Asc (b:List Int) (n:Nat) (l:List Int):Prop where
 up:l.Pairwise (· < ·)
 mem:∀y,y∈l↔y∈b.take n
theorem A0c {b:List Int} (f:b.Pairwise (·<=·)) {q:Nat} {p:Int} (hp:b[q]? = some p):∀y∈b.take (q+1),y<=p:=by
 intro y hy
 obtain ⟨i,c⟩:=List.getElem?_of_mem hy
 rw [List.getElem?_take] at c
 split at c
 .rename_i g
  by_cases e:i=q
  .subst e; rw [c] at hp; cases hp; exact Int.le_refl _
  .have h1:=E8 c
   have h2:=E8 hp
   have:=(List.pairwise_iff_getElem.1 f) i q h1 h2 (by omega)
   rw [B3 h1] at c
   rw [B3 h2] at hp
   cases c; cases hp; exact this
 .cases c
theorem Asc.step {b:List Int} (g:b.Pairwise (·<=·)) {q:Nat} {l:List Int} {p x:Int} (h:Asc b (q+1) l) (hp:b[q]? = some p) (hx:b[q+1]? = some x) (j:x≠p):Asc b (q+2) (l++[x]):=by
 have f:=A0c g hp
 have i:p<x:=by
  have h1:=E8 hp
  have h2:=E8 hx
  have:=(List.pairwise_iff_getElem.1 g) q (q+1) h1 h2 (by omega)
  rw [B3 h1] at hp
  rw [B3 h2] at hx
  cases hp; cases hx; omega
 refine ⟨?_,fun y=>?_⟩
 .rw [List.pairwise_append]
  refine ⟨h.up,by simp,fun a ha c hc=>?_⟩
  rw [List.mem_singleton] at hc
  subst hc
  have:=f a ((h.mem a).1 ha)
  omega
 .rw [De hx,List.mem_append,List.mem_append,h.mem y]
theorem Asc.same {b:List Int} {q:Nat} {l:List Int} {x:Int} (h:Asc b (q+1) l) (hp:b[q]? = some x) (hx:b[q+1]? = some x):Asc b (q+2) l:=by
 refine ⟨h.up,fun y=>?_⟩
 rw [De hx,List.mem_append,h.mem y]
 constructor
 .exact .inl
 .rintro (h1 | h1)
  .exact h1
  .rw [List.mem_singleton] at h1
   subst h1
   rw [De hp]; simp
theorem Xi {α:Type} {l:List α} {off n:Nat} {i:Int} {j:Nat} {x:α} (b:i=j) (hj:j<n) (h:l[off+j]? = some x):Fy l off n i=some x:=by
 subst b
 unfold Fy
 rw [if_pos (by omega)]; simpa using h
theorem A0d {X:Option (Nat×List Int)} {Q:Nat×List Int->Prop} (h:∃r,X=some r/\Q r):∃(m:Nat) (o:List Int),X=some (m,o)/\Q (m,o):=by
 obtain ⟨⟨m,o⟩,h1,h2⟩:=h
 exact ⟨m,o,h1,h2⟩
theorem A0e {X:Option (Int⊕((Nat×List Int)⊕Unit))} {P:Nat->List Int->Prop} {b:Prop} (h:∃r,X=some r/\∃(m:Nat) (o:List Int),r = .inr (.inl (m,o))/\P m o) :
  ∃e,X=some (.inr e)/\((∃(m:Nat) (o:List Int),e = .inl (m,o)/\P m o)\/(e = .inr ()/\b)):=by
 obtain ⟨_,h1,m,o,rfl,h2⟩:=h
 exact ⟨_,h1,.inl ⟨m,o,rfl,h2⟩⟩
theorem A0f (b:List Int) (R:b.Pairwise (·<=·)) (hl:b.length<=1099511627776):∃(m:Nat) (o:List Int),Sx b.length b=some (m,o)/\m<=o.length/\Asc b b.length (o.take m):=by
 unfold Sx
 by_cases h2:b.length<2
 .rw [Al (by omega),cond_true]
  refine ⟨b.length,b,rfl,Nat.le_refl _,?_,fun y=>Iff.rfl⟩
  rw [List.take_length]
  match b,h2 with
  | [],_=>simp
  | [_],_=>simp
 .rw [Ar (by omega),cond_false]
  refine A0d (Q:=fun r:Nat×List Int=>r.1<=r.2.length/\Asc b b.length (r.2.take r.1)) ?_
  .refine E7 (Q:=fun r:Nat×List Int=>r.1<=r.2.length/\Asc b b.length (r.2.take r.1)) (fun v=>∃j:Nat,v=((j+1:Nat):Int)/\j+1<=b.length/\Asc b (j+1) (b.take (j+1))) (fun v=>b.length-v.toNat) (fun e:((Nat×List Int)⊕Unit)=>(∃(m:Nat) (o:List Int),e = .inl (m,o)/\m<=o.length/\Asc b b.length (o.take m))\/(e = .inr ()/\Asc b b.length (b.take b.length))) ?_ ?_ ?_ (J:=fun z:((Nat×List Int)⊕Unit)=>match z with | .inl (G,E)=>some (G,E) | .inr _=>some (b.length,b))
   .exact ⟨0,rfl,by omega,by
     refine ⟨?_,fun y=>Iff.rfl⟩
     match b,h2 with
     | a::_,_=>simp
     | [],h=>simp at h⟩
   .rintro v ⟨j,rfl,hj,N⟩
    rcases Nat.lt_or_ge (j+1) b.length with h | h
    .have hx:b[j+1]? = some b[j+1]:=B3 h
     have hp:b[j]? = some b[j]:=B3 (by omega)
     generalize b[j+1]=x at hx
     generalize b[j]=p at hp
     have X:Ac (((j+1:Nat):Int)-1)=((j:Nat):Int):=by rw [show (((j+1:Nat):Int)-1)=(j:Int) by omega,Ac,Bw] <;> omega
     simp only [Al (by omega:((j+1:Nat):Int)<(b.length:Int)),cond_true,Xi (l:=b) (off:=0) (n:=b.length) (i:=((j+1:Nat):Int)) rfl h (by rw [Nat.zero_add]; exact hx),X,
      Xi (l:=b) (off:=0) (n:=b.length) (i:=((j:Nat):Int)) rfl (by omega) (by rw [Nat.zero_add]; exact hp),Ad,C7 h (by omega)]
     by_cases e:x=p
     .subst e
      rw [Ej rfl,cond_true]
      have A:N8 b.length ((j+1:Nat):Int) ((b.length:Nat):Int)=some (j+1,b.length):=by
       unfold N8
       rw [if_pos (by omega)]; simp
      rw [A,Ad]
      dsimp only
      refine .inr ?_
      refine A0e (E7 (Q:=fun z:(Int⊕((Nat×List Int)⊕Unit))=>∃(m:Nat) (o:List Int),z = .inr (.inl (m,o))/\m<=o.length/\Asc b b.length (o.take m)) (fun z=>∃(w k:Nat) (o:List Int),z=((w:Int),(k:Int),o)/\o.length=b.length/\w<=j+k/\1<=k/\j+1+k<=b.length/\Asc b (j+1+k) (o.take w)/\∀i,w<=i->o[i]? = b[i]?)
       (fun z=>b.length-(j+1)-z.2.1.toNat) (fun z=>∃(w k:Nat) (o:List Int),z=((w:Int),(k:Int),o)/\o.length=b.length/\w<=b.length/\Asc b b.length (o.take w)) ?_ ?_ ?_)
      .refine ⟨j+1,1,b,rfl,rfl,by omega,by omega,by omega,?_,fun _ _=>rfl⟩
       exact N.same hp hx
      .rintro z ⟨w,k,o,rfl,D,hw,hk,Z,f,c⟩
       rcases Nat.lt_or_ge (j+1+k) b.length with h' | h'
       .have hy:b[j+1+k]? = some b[j+1+k]:=B3 h'
        have hq:b[j+k]? = some b[j+k]:=B3 (by omega)
        generalize b[j+1+k]=y at hy
        generalize b[j+k]=q at hq
        have V:Ac ((k:Int)-1)=((k-1:Nat):Int):=by rw [show ((k:Int)-1)=((k-1:Nat):Int) by omega,Ac,Bw] <;> omega
        have U:Ac ((k:Int)+1)=((k+1:Nat):Int):=C7 (n:=b.length) (by omega) (by omega)
        have S:Ac ((w:Int)+1)=((w+1:Nat):Int):=C7 (n:=b.length) (by omega) (by omega)
        have i1:Fy o (0+(j+1)) (b.length-(j+1)) (k:Int)=some y:=Xi rfl (by omega) (by rw [Nat.zero_add,c _ (by omega)]; exact hy)
        have i2:Fy o (0+(j+1)) (b.length-(j+1)) ((k-1:Nat):Int)=some q:=Xi rfl (by omega) (by rw [Nat.zero_add,c _ (by omega),show j+1+(k-1)=j+k by omega]; exact hq)
        have I:o[w]? = some (o[w]'(by omega)):=B3 _
        have i3:Fy o 0 b.length (w:Int)=some (o[w]'(by omega)):=Xi rfl (by omega) (by rw [Nat.zero_add]; exact I)
        simp only [Al (by omega:(k:Int)<((b.length-(j+1):Nat):Int)),cond_true,i1,i2,i3,V,U,S,Ad]
        by_cases e:y=q
        .subst e
         rw [Fb rfl,cond_false]
         refine .inl ⟨_,rfl,⟨w,k+1,o,rfl,D,by omega,by omega,by omega,?_,c⟩,by simp only [Int.toNat_natCast]; omega⟩
         have:=Asc.same (q:=j+k) (x:=y) (by rw [show j+k+1=j+1+k by omega]; exact f) hq (by rw [show j+k+1=j+1+k by omega]; exact hy)
         rw [show j+1+(k+1)=j+k+2 by omega]; exact this
        .rw [Ev e,cond_true]
         have B:Cg o (((0:Nat):Int)+(w:Int)) y=o.set w y:=Fh (n:=w) (by omega) y
         have s:(o.set w y).take (w+1)=o.take w++[y]:=by
          rw [De (x:=y) (by rw [List.getElem?_set,if_pos rfl,if_pos (by omega)]),List.take_set_of_le (Nat.le_refl _)]
         rw [B]
         refine .inl ⟨_,rfl,⟨w+1,k+1,o.set w y,rfl,by simpa using D,by omega,by omega,by omega,?_,?_⟩,by simp only [Int.toNat_natCast]; omega⟩
         .rw [s]
          have:=Asc.step R (q:=j+k) (x:=y) (p:=q) (by rw [show j+k+1=j+1+k by omega]; exact f) hq (by rw [show j+k+1=j+1+k by omega]; exact hy) e
          rw [show j+1+(k+1)=j+k+2 by omega]; exact this
         .intro i hi
          rw [List.getElem?_set,if_neg (by omega)]
          exact c i (by omega)
       .have L:j+1+k=b.length:=by omega
        refine .inr ⟨((w:Int),(k:Int),o),?_,w,k,o,rfl,D,by omega,by rw [<-L]; exact f⟩
        simp only [Ar (by omega:¬(k:Int)<((b.length-(j+1):Nat):Int)),cond_false]
      .rintro z ⟨w,k,o,rfl,D,hw,f⟩
       dsimp only
       have g:Sd b.length (w:Int)=some w:=by
        unfold Sd
        rw [if_pos (by omega)]; simp
       by_cases Y:w=0\/w<b.length
       .have u:Pu b.length (w:Int) ((b.length:Nat):Int)=some (.inl (w,b.length)):=by
         unfold Pu
         rw [if_pos (by omega),if_pos (by omega)]; simp
        have M:N9 o (0+w) (b.length-w) (0:Int)=some (D5 o (0+w) (List.replicate (b.length-w) 0)):=by
         unfold N9
         rw [if_pos (by omega)]
        rw [u,Ad]
        dsimp only
        rw [M,Ad,g,Ad]
        have s:(D5 o (0+w) (List.replicate (b.length-w) (0:Int))).take w=o.take w:=by
         unfold D5
         rw [Nat.zero_add,List.append_assoc,List.take_append_of_le_length (by simp; omega),List.take_take,Nat.min_self]
        refine ⟨_,rfl,w,_,rfl,?_,?_⟩
        .unfold D5; simp; omega
        .rw [s]; exact f
       .have u:Pu b.length (w:Int) ((b.length:Nat):Int)=some (.inr ()):=by
         unfold Pu
         rw [if_pos (by omega),if_neg (by omega)]
        rw [u,Ad]
        dsimp only
        rw [g,Ad]
        exact ⟨_,rfl,w,o,rfl,by omega,f⟩
     .rw [Cq e,cond_false]
      refine .inl ⟨_,rfl,⟨j+1,rfl,by omega,?_⟩,by simp only [Int.toNat_natCast]; omega⟩
      have:=Asc.step R N hp hx e
      rw [<-De hx] at this
      exact this
    .have:j+1=b.length:=by omega
     refine .inr ⟨.inr (),?_,.inr ⟨rfl,by rw [<-this]; exact N⟩⟩
     rw [Ar (by omega)]; rfl
   .rintro e (⟨m,o,rfl,h1,h2⟩ | ⟨rfl,h1⟩)
    .exact ⟨(m,o),rfl,h1,h2⟩
    .exact ⟨(b.length,b),rfl,Nat.le_refl _,h1⟩
end Go.Ab
namespace Go.Ab
open Go
end Go.Ab
namespace Go.Ab
open Go
end Go.Ab
namespace Go.Ab
open Go
end Go.Ab
namespace Go.Ab
open Go
end Go.Ab
namespace Go.Ab
open Go
end Go.Ab
namespace Go.Ab
open Go
theorem A0g {α:Type} (F:List α) (g:α->Int) (o:List Int) (h:o.length+F.length<=1000000) {R:Type} {J:Int×List Int->Option R} {r:R} (l:J ((F.length:Int),o++F.map g)=some r) :
  (Am (S:=(Int×(List Int))) (E:=(Int×(List Int))) (fun (v164,b)=>
   bif (decide (v164<(F.length:Int))) then (
   (Ag F v164).bind fun c=>
   (B7 8 b [g c]).bind fun i=>
   some (.inl ((Ac (v164+1)),i)))
   else some (.inr (v164,b))) (0,o)).bind J=some r:=by
 refine Iv F (fun j=>((j:Int),o++(F.take j).map g)) (by simp) (by omega) ?_ ?_
 .intro j f hj k h1 h2 h3
  simp only [h1,h2,h3,cond_true,Ad]
  rw [Da (by simp; omega),De k]; simp
 .intro h1
  exact ⟨_,by simp only [h1]; rfl,by rw [List.take_length]; exact l⟩
theorem A0h {α:Type} (f:α->List Int) (l:List α) (j:Nat):((l.take j).flatMap f).length<=(l.flatMap f).length:=by
 have:l.flatMap f=(l.take j).flatMap f++(l.drop j).flatMap f:=by rw [<-List.flatMap_append,List.take_append_drop]
 rw [this,List.length_append]; omega
theorem Aob {α:Type} (f:α->List Int) {l:List α} {j:Nat} {x:α} (h:l[j]? = some x):((l.take j).flatMap f).length+(f x).length<=(l.flatMap f).length:=by
 have:=A0h f l (j+1)
 rw [De h,List.flatMap_append] at this
 simpa using this
end Go.Ab
namespace Go.Ab
open Go
end Go.Ab
namespace Go.Ab
open Go
end Go.Ab
namespace Go.Ab
open Go
end Go.Ab
namespace Go.Ab
open Go
end Go.Ab
namespace Go.Ab
open Go
end Go.Ab
namespace Go.Ab
open Go
end Go.Ab
namespace Go.Ab
open Go
theorem Aoc (x:Rat):G0 x=0↔x=0:=by
 unfold G0
 constructor
 .intro h
  split at h
  .cases h
  .split at h
   .cases h
   .grind
 .rintro rfl
  rw [if_neg (by grind),if_neg (by grind)]
end Go.Ab
namespace Go.Ab
open Go
structure PSt (K:Nat) (n:Nat) (b:List Ah):Prop where
 le:n<=b.length
 cp:CP (b.take n)
 tm:∀t∈b.take n,RB K t.Coef/\MSz t.Mono
end Go.Ab
namespace Go.Ab
open Go
theorem PSt.mono {K c n:Nat} {b:List Ah} (h:PSt K n b) (f:K<=c):PSt c n b:=⟨h.le,h.cp,fun t ht=>⟨((h.tm t ht).1).mono f,(h.tm t ht).2⟩⟩
end Go.Ab
namespace Go.Ab
open Go
end Go.Ab
namespace Go.Ab
open Go
theorem CP.dst {p:List Ah} (h:CP p):Dst p:=h.srt.imp fun {a b} hab e=>by
 unfold ltT at hab
 rw [Ji.2 e] at hab; omega
end Go.Ab
namespace Go.Ab
open Go
theorem Aod:M4 (fun t u:Ah=>C8 t.Mono u.Mono) where
 irr x:=by
  show ¬C8 x.Mono x.Mono<0
  rw [Anf]; omega
 trs x y z h1 h2:=T2 h1 h2
 ntr x y z h1 h2:=by
  show ¬C8 x.Mono z.Mono<0
  have h1:¬C8 x.Mono y.Mono<0:=h1
  have h2:¬C8 y.Mono z.Mono<0:=h2
  intro h3
  rcases Int.lt_trichotomy (C8 x.Mono y.Mono) 0 with k | k | k
  .exact h1 k
  .rw [Ji.1 k] at h3; exact h2 h3
  .exact h2 (T2 (Afv.1 k) h3)
def Abj (b:List Ah):List Ah:=b.mergeSort fun t u=>decide (C8 t.Mono u.Mono<=0)
theorem Aoe (b:List Ah):(Abj b).Perm b:=List.mergeSort_perm _ _
theorem A0i (f:List Ah) (hd:Dst f):(Abj f).Pairwise ltT:=by
 have h1:=List.pairwise_mergeSort (le:=fun t u:Ah=>decide (C8 t.Mono u.Mono<=0)) (fun a b c h1 h2=>by
  simp only [decide_eq_true_eq] at *
  have:=Aod.ntr c b a (by show ¬C8 _ _<0; rw [T1]; omega) (by show ¬C8 _ _<0; rw [T1]; omega)
  have this:¬C8 c.Mono a.Mono<0:=this
  rw [T1] at this; omega) (fun a b=>by
  simp only [Bool.or_eq_true,decide_eq_true_eq]
  rw [T1 a.Mono b.Mono]; omega) f
 have h2:(Abj f).Pairwise fun t u=>t.Mono≠u.Mono:=((Aoe f).pairwise_iff (fun {x y} h=>h.symm)).2 hd
 refine (h1.and h2).imp fun {t u} h=>?_
 have a:=of_decide_eq_true h.1
 have b:C8 t.Mono u.Mono≠0:=fun e=>h.2 (Ji.1 e)
 unfold ltT; omega
theorem Agc (b:List Ah) (hd:Dst b) (hm:∀t∈b,MSz t.Mono):∃R,Nc b=some R/\R.Perm b/\R.Pairwise ltT:=by
 rcases Nat.lt_or_ge 12 b.length with h | h
 .have e:Nat.ble b.length 12=false:=by
   cases k:Nat.ble b.length 12 with
   | false=>rfl
   | true=>have:=Nat.le_of_ble_eq_true k; omega
  unfold Nc
  rw [e,cond_false]
  obtain ⟨r,f,i,law,hc,hp,g⟩:=Auf (cmp:=Nd) (l:=b) (r:=Abj b) ⟨_,Aod,fun x hx y _=>Af8 x y (hm x hx),Aoe b,A0i b hd⟩
  refine ⟨r,f,hp,?_⟩
  refine (List.Pairwise.imp_of_mem (S:=ltT) (fun {t u} ht hu h=>?_) g)
  have c:=hc t (hp.mem_iff.1 ht) u (hp.mem_iff.1 hu)
  rw [Af8 t u (hm t (hp.mem_iff.1 ht))] at c
  have c:=Option.some.inj c
  unfold ltT; rw [c]; exact h
 .exact Azu b hd hm h
end Go.Ab
namespace Go.Ab
open Go
theorem Agd {x:Bj} (i:CSz x) {ps:List (List Ah)} (c:∀p∈ps,∀t∈p,TSz t) (j:ps.length<=1048576) (h:Fm x/\∀p∈ps,H3 x.Data x.Vars x.Res p=true):∃b,Jy x ps=some (.inl (true,x,b,[],x.Data,x.Vars,x.Res.Kind,x.Res.Num,x.Res.Args))/\Dn x.Data x.Vars x.Res b:=by
 obtain ⟨r,g,f⟩:=An7 x i ps c j
 rcases f with ⟨_,b,e,hm⟩ | ⟨h2,_⟩
 .exact ⟨b,by rw [g,e],hm⟩
 .exact (h2 h).elim
structure PR (x:Bj) (n:Nat) (f:Ba->Rat) (R:List Ah):Prop where
 cp:CP R
 val:∀m,cf R m=f m
 tb:∀t∈R,Ek x t.Mono/\RB 8589934592 t.Coef
 len:R.length<=n
theorem Aof {x:Bj} {k:Nat} {ts:List Ah} (h:Col k (Ek x) ts) (hk:k<8589934592) (l:ts.length<=1000):∃R,Ir (Dr ts) ts=some (R,0)/\PR x ts.length (cf ts) R:=by
 obtain ⟨R,j,i,g,b,f⟩:=Af9 (P:=Ek x) (fun m h=>h.cmo) (Dr ts) ts h (by omega) l (fun c _ h2 h3=>Agc c h2 h3)
 exact ⟨R,j,i,g,fun t ht=>⟨(b t ht).1,(b t ht).2.mono (by omega)⟩,f⟩
theorem PR.of {x:Bj} {n m:Nat} {f g:Ba->Rat} {R:List Ah} (h:PR x n f R) (b:n<=m) (c:∀a,f a=g a):PR x m g R :=
 ⟨h.cp,fun a=>by rw [h.val,c],h.tb,Nat.le_trans h.len b⟩
theorem Aog {x:Bj} (I:CSz x) (J:Fm x) {p q:List Ah} (hp:Gl x p) (hq:Gl x q) (L:p.length+q.length<=1000) :
  ∃R,Kn x p q=some (R,0)/\PR x (p.length+q.length) (fun m=>cf p m-cf q m) R:=by
 obtain ⟨M,hb⟩:=An8 I J hp hq
 unfold Kn
 rw [hb]
 simp only [Ad,D2,cond_false,Iq]
 obtain ⟨u,l,j,i,g⟩:=T3 (k0:=1048579) (k:=1048576) (P:=Ek x) (fun m h=>h.cmo) p [] (Col.nil _ _) hp.tb (by omega) (by omega) (by simp; omega)
 simp at i
 obtain ⟨r,B,A,z⟩:=Az5
 obtain ⟨G,E,c,D,b⟩:=An9 (k:=1048576) q A (fun t ht=>(hq.tb t ht).1) (by omega) (by omega) (by omega)
 obtain ⟨v,f,v2,v3,v4⟩:=T3 (k:=1048579) (P:=Ek x) (fun m h=>h.cmo) G u j (fun t ht=>⟨(b t ht).1,by obtain ⟨w,hw,e⟩:=(b t ht).2; rw [<-e]; exact (hq.tb w hw).2⟩) (by omega) (by rw [c]; omega) (by omega)
 obtain ⟨R,y,s⟩:=Aof v2 (by rw [c]; omega) (by omega)
 rw [show H9 p [] []=some (Dr u,u) from l,Ad,B,Ad,E,Ad,f,Ad,y,Ad]
 exact ⟨R,rfl,s.of (by omega) fun m=>by rw [v4,g,D,z]; simp only [cf]; grind⟩
theorem A0j {x:Bj} (u:CSz x) (y:Fm x) {p:List Ah} (hp:Gl x p) {r:Ak} (hr:RB 1048576 r) (z:p.length<=1000) :
  ∃R,P3 x p r=some (R,0)/\PR x p.length (fun m=>rq r*cf p m) R:=by
 obtain ⟨A,hb,_⟩:=Agd u (ps:=[p]) (fun q hq=>by simp only [List.mem_singleton] at hq; subst hq; exact hp.sz) (by simp) ⟨y,fun q hq=>by simp only [List.mem_singleton] at hq; subst hq; exact hp.can⟩
 unfold P3
 rw [hb]
 simp only [Ad,D2,cond_false,Iq]
 obtain ⟨f,s,c,l,b⟩:=An9 (k:=1048576) p hr (fun t ht=>(hp.tb t ht).1) (by omega) (by omega) (by omega)
 obtain ⟨v,g,v2,v3,v4⟩:=T3 (k0:=1048576+1048576+2) (k:=1048576+1048576+2) (P:=Ek x) (fun m h=>h.cmo) f [] (Col.nil _ _) (fun t ht=>⟨(b t ht).1,by obtain ⟨w,hw,e⟩:=(b t ht).2; rw [<-e]; exact (hp.tb w hw).2⟩) (by omega) (by rw [c]; omega) (by simp; omega)
 simp at v3
 obtain ⟨R,j,i⟩:=Aof v2 (by rw [c]; omega) (by omega)
 rw [s,Ad,show H9 f [] []=some (Dr v,v) from g,Ad,j,Ad]
 exact ⟨R,rfl,i.of (by omega) fun m=>by rw [v4,l]; simp only [cf]; grind⟩
theorem Gl.nil (x:Bj):Gl x []:=⟨Xa.2 ⟨by simp,CP.nil,fun t ht=>by cases ht⟩,fun t ht=>by cases ht⟩
end Go.Ab
namespace Go.Ab
open Go
theorem Age:∀n k,bc n k<=n ^ k
 | n,0=>by rw [Kb]; exact Nat.le_refl _
 | 0,k+1=>by simp [bc]
 | n+1,k+1=>by
  have h1:=Age n k
  have h2:=Age n (k+1)
  have h3:n ^ k<=(n+1) ^ k:=Nat.pow_le_pow_left (by omega) k
  have b:n ^ (k+1)<=n*(n+1) ^ k:=by rw [Nat.pow_succ,Nat.mul_comm]; exact Nat.mul_le_mul_left _ h3
  rw [bc,Nat.pow_succ,Nat.mul_add,Nat.mul_one,Nat.mul_comm]; omega
end Go.Ab
namespace Go.Ab
open Go
def Sm (a:Nat):Prop:=a<=5000 ^ 6
theorem Sm.of {a d:Nat} (h:a<=5000 ^ d) (hd:d<=6):Sm a:=Nat.le_trans h (Nat.pow_le_pow_right (by decide) hd)
end Go.Ab
namespace Go.Ab
open Go
theorem A0k (a b:Ak) (j k:Nat) (ha:RB j a) (hb:RB k b) (hj:j<68719476736) (hk:k<68719476736) :
  Ni a b=some (Bs (Jd (sv a) (nv a) (dv a) (!sv b) (nv b) (dv b)) (Hw (sv a) (nv a) (dv a) (!sv b) (nv b) (dv b)) (dv a*dv b)):=by
 unfold Ni S3
 have h1:=ha.nv
 have h2:=ha.dv
 have h3:=hb.nv
 have s:=hb.dv
 have q:=Gj (nv a) (dv b)
 have l:=Gj (nv b) (dv a)
 have i:=Gj (dv a) (dv b)
 have h:=Tm (nv a*dv b) (nv b*dv a)
 have g:=Gi (Nat.sub_le (nv a*dv b) (nv b*dv a))
 have f:=Gi (Nat.sub_le (nv b*dv a) (nv a*dv b))
 rw [O3 b k hb (by omega),Ad,O3 a j ha (by omega),Ad]
 dsimp only
 rw [O1 _ _ (by omega) (by omega),Ad,O1 _ _ (by omega) (by omega),Ad,O1 _ _ (by omega) (by omega),Ad]
 by_cases c:sv a = !sv b
 .have e:(sv a == !sv b)=true:=by rw [c]; exact beq_self_eq_true _
  rw [e,cond_true,Ak7 _ _ (by omega) (by omega),Ad,Ad,Mn _ _ _ (by omega) (by omega),Jd,Hw,if_pos c,if_pos c]; rfl
 .have e:(sv a == !sv b)=false:=by
   cases h1:sv a <;> cases h2:sv b <;> simp_all
  rw [e,cond_false,Q4 _ _ (by omega) (by omega),Ad,Jd,Hw,if_neg c,if_neg c]
  by_cases hc:nv b*dv a<=nv a*dv b
  .rw [Al (show Ec (nv a*dv b) (nv b*dv a)>=0 by rw [Ec,if_neg (by omega)]; split <;> decide),cond_true,Aal _ _ (by omega) hc,Ad,Ad,Mn _ _ _ (by omega) (by omega),if_pos hc,if_pos hc]; rfl
  .rw [Ar (show ¬Ec (nv a*dv b) (nv b*dv a)>=0 by rw [Ec,if_pos (by omega)]; decide),cond_false,Aal _ _ (by omega) (by omega),Ad,Ad,Mn _ _ _ (by omega) (by omega),if_neg hc,if_neg hc]; rfl
theorem A0l (s:Bool) (n:Nat):sg (!s) n = - sg s n:=by
 unfold sg; cases s <;> simp
theorem Aoh {a b:Ak} {j k:Nat} (ha:RB j a) (hb:RB k b) (hj:j<34359738000) (hk:k<34359738000):∃c,Ni a b=some c/\RB (j+k+3) c/\Hc c/\rq c=rq a-rq b:=by
 have e:=A0k a b j k ha hb (by omega) (by omega)
 have hd:dv a*dv b≠0:=Nat.mul_ne_zero (E2 a) (E2 b)
 have h1:=ha.nv
 have h2:=ha.dv
 have h3:=hb.nv
 have s:=hb.dv
 have q:=Gj (nv a) (dv b)
 have l:=Gj (nv b) (dv a)
 have i:=Gj (dv a) (dv b)
 have h:=Tm (nv a*dv b) (nv b*dv a)
 have g:=Gi (Nat.sub_le (nv a*dv b) (nv b*dv a))
 have f:=Gi (Nat.sub_le (nv b*dv a) (nv a*dv b))
 refine ⟨_,e,?_,O9 _ _ _ hd,?_⟩
 .refine Lq _ _ _ _ ?_ (by omega) (by omega)
  unfold Hw
  split
  .omega
  .split <;> omega
 .rw [Lx _ _ _ hd,Am7,A0l,rq,rq,show mkRat (sg (sv a) (nv a)) (dv a)-mkRat (sg (sv b) (nv b)) (dv b)=mkRat (sg (sv a) (nv a)) (dv a)+mkRat (-sg (sv b) (nv b)) (dv b) by rw [<-Rat.neg_mkRat]; grind,Rat.mkRat_add_mkRat _ _ (E2 a) (E2 b)]
theorem Abk (z:Int):mkRat z 1=(z:Rat):=by
 rw [Rat.mkRat_eq_div,show ((1:Nat):Rat)=1 from rfl]; grind
theorem Agf (z:Int) (h1 : -9223372036854775808<=z) (h2:z<=9223372036854775807):∃r,En z=some r/\RB 3 r/\Hc r/\rq r=(z:Rat):=by
 have b:Bb z.natAbs<=3:=Q3 (n:=z.natAbs) (by omega)
 refine ⟨_,Tp z h1 h2,Lq _ _ _ _ b (by rw [Mo]; decide) (by decide),O9 _ _ _ (by decide),?_⟩
 rw [Lx _ _ _ (by decide),Abk]
 congr 1
 unfold sg
 by_cases h:z<0
 .rw [Al h,if_pos rfl]; omega
 .rw [Ar h,if_neg (by decide)]; omega
theorem Abl (n:Nat):rq (cR n)=(n:Rat):=by
 unfold cR
 rw [Lx _ _ _ (by decide),Abk]; rfl
theorem A0m (n:Nat):Hc (cR n):=O9 _ _ _ (by decide)
end Go.Ab
namespace Go.Ab
open Go
end Go.Ab
namespace Go.Ab
open Go
end Go.Ab
namespace Go.Ab
open Go
end Go.Ab
namespace Go.Ab
open Go
end Go.Ab
namespace Go.Ab
open Go
def sm:Nat->(Nat->Nat)->Nat
 | 0,_=>0
 | n+1,f=>sm n f+f n
theorem Xj {f g:Nat->Nat}:∀{n:Nat},(∀k,k<n->f k=g k)->sm n f=sm n g
 | 0,_=>rfl
 | n+1,h=>by rw [sm,sm,Xj (n:=n) fun k hk=>h k (by omega),h n (by omega)]
theorem Xk (f g:Nat->Nat):∀n,sm n (fun k=>f k+g k)=sm n f+sm n g
 | 0=>rfl
 | n+1=>by simp only [sm,Xk f g n]; omega
theorem Aoi (c:Nat) (f:Nat->Nat):∀n,sm n (fun k=>c*f k)=c*sm n f
 | 0=>rfl
 | n+1=>by simp only [sm,Aoi c f n,Nat.mul_add]
theorem Xl {f:Nat->Nat}:∀{n:Nat},(∀k,k<n->f k=0)->sm n f=0
 | 0,_=>rfl
 | n+1,h=>by rw [sm,Xl (n:=n) fun k hk=>h k (by omega),h n (by omega)]
theorem Agg (f:Nat->Nat):∀n,sm (n+1) f=f 0+sm n (fun k=>f (k+1))
 | 0=>by simp [sm]
 | n+1=>by rw [sm,Agg f n,sm]; omega
theorem Aoj {f:Nat->Nat} {n:Nat}:∀{m:Nat},n<=m->(∀k,n<=k->f k=0)->sm m f=sm n f
 | 0,h,_=>by rw [show n=0 by omega]
 | m+1,h,b=>by
  by_cases e:n=m+1
  .rw [e]
  .rw [sm,Aoj (m:=m) (by omega) b,b m (by omega),Nat.add_zero]
theorem Agh {f:Nat->Nat} {n k:Nat} (hk:k<n) (b:∀j,j≠k->f j=0):sm n f=f k:=by
 induction n with
 | zero=>omega
 | succ n ih=>
  rw [sm]
  by_cases e:k=n
  .subst e
   rw [Xl fun j hj=>b j (by omega),Nat.zero_add]
  .rw [ih (by omega),b n (by omega),Nat.add_zero]
theorem Rp:∀n,bc n n=1
 | 0=>rfl
 | n+1=>by
  rw [bc,Rp n]
  have:bc n (n+1)=0:=by have:=bc_big2 n (n+1) (by omega); exact this
  omega
where bc_big2:∀n k,n<k->bc n k=0
 | n,0,h=>absurd h (by omega)
 | 0,k+1,_=>rfl
 | n+1,k+1,h=>by rw [bc,bc_big2 n k (by omega),bc_big2 n (k+1) (by omega)]
theorem T6 {n k:Nat} (h:n<k):bc n k=0:=Rp.bc_big2 n k h
theorem T7 (n k:Nat):bc (n+1) (k+1)=bc n k+bc n (k+1):=by rw [bc]
def Rc (a b k:Nat):Nat:=if b<=k then bc k a*bc a (k-b) else 0
theorem Aok {a b k:Nat} (h:a+b<k):Rc a b k=0:=by
 unfold Rc
 rw [if_pos (by omega),T6 (show a<k-b by omega),Nat.mul_zero]
theorem A0n {a b k:Nat} (h:k<a):Rc a b k=0:=by
 unfold Rc
 split
 .rw [T6 h,Nat.zero_mul]
 .rfl
theorem Aol (b k:Nat):Rc 0 b k=if k=b then 1 else 0:=by
 unfold Rc
 by_cases h:k=b
 .subst h; rw [if_pos (Nat.le_refl _),if_pos rfl,Nat.sub_self,Kb,Kb]
 .rw [if_neg h]
  split
  .rw [T6 (show 0<k-b by omega),Nat.mul_zero]
  .rfl
theorem Aom (a k:Nat):Rc a 0 k=if k=a then 1 else 0:=by
 unfold Rc
 rw [if_pos (Nat.zero_le _),Nat.sub_zero]
 by_cases h:k=a
 .subst h; rw [if_pos rfl,Rp]
 .rw [if_neg h]
  rcases Nat.lt_or_ge k a with h2 | h2
  .rw [T6 h2,Nat.zero_mul]
  .rw [T6 (show a<k by omega),Nat.mul_zero]
theorem A0o (a b k:Nat):Rc (a+1) (b+1) (k+1)=Rc a (b+1) k+Rc (a+1) b k+Rc a b k:=by
 unfold Rc
 by_cases h:b<=k
 .rw [if_pos (by omega),if_pos h,if_pos h,show k+1-(b+1)=k-b by omega,T7]
  by_cases h2:b+1<=k
  .rw [if_pos h2]
   obtain ⟨j,hj⟩:∃j,k-b=j+1:=⟨k-b-1,by omega⟩
   rw [hj,show k-(b+1)=j by omega,T7]
   simp only [Nat.add_mul,Nat.mul_add]; omega
  .rw [if_neg h2,show k-b=0 by omega,Kb,Kb]; omega
 .rw [if_neg (by omega),if_neg h,if_neg h,if_neg (by omega)]
theorem A0p (a b:Nat):Rc (a+1) (b+1) 0=0:=by
 unfold Rc; rw [if_neg (by omega)]
theorem A0q (f:Nat->Nat) (n N:Nat):sm (N+1) (fun k=>f k*bc (n+1) k)=sm (N+1) (fun k=>f k*bc n k)+sm N (fun k=>f (k+1)*bc n k):=by
 rw [Agg,Agg (fun k=>f k*bc n k),Kb,Kb]
 have:sm N (fun k=>f (k+1)*bc (n+1) (k+1))=sm N (fun k=>f (k+1)*bc n (k+1))+sm N (fun k=>f (k+1)*bc n k):=by
  rw [<-Xk]
  exact Xj fun k _=>by rw [T7,Nat.mul_add]; omega
 rw [this]; omega
theorem Xm:∀(n a b N:Nat),a+b<N->sm N (fun k=>Rc a b k*bc n k)=bc n a*bc n b
 | n,0,b,N,h=>by
  rw [Kb,Nat.one_mul,Agh (k:=b) (by omega) fun j hj=>by rw [Aol,if_neg hj,Nat.zero_mul],Aol,if_pos rfl,Nat.one_mul]
 | n,a+1,0,N,h=>by
  rw [Kb,Nat.mul_one,Agh (k:=a+1) (by omega) fun j hj=>by rw [Aom,if_neg hj,Nat.zero_mul],Aom,if_pos rfl,Nat.one_mul]
 | 0,a+1,b+1,N,h=>by
  rw [show bc 0 (a+1)=0 from rfl,Nat.zero_mul]
  refine Xl fun k _=>?_
  cases k with
  | zero=>rw [A0p,Nat.zero_mul]
  | succ k=>rw [show bc 0 (k+1)=0 from rfl,Nat.mul_zero]
 | n+1,a+1,b+1,N,h=>by
  obtain ⟨N,rfl⟩:∃M,N=M+1:=⟨N-1,by omega⟩
  rw [A0q,Xm n (a+1) (b+1) (N+1) h]
  have h1:=Xm n a (b+1) N (by omega)
  have h2:=Xm n (a+1) b N (by omega)
  have h3:=Xm n a b N (by omega)
  have c:sm N (fun k=>Rc (a+1) (b+1) (k+1)*bc n k)=sm N (fun k=>Rc a (b+1) k*bc n k)+sm N (fun k=>Rc (a+1) b k*bc n k)+sm N (fun k=>Rc a b k*bc n k):=by
   rw [<-Xk,<-Xk]
   exact Xj fun k _=>by rw [A0o,Nat.add_mul,Nat.add_mul]
  rw [c,h1,h2,h3,T7,T7,Nat.add_mul,Nat.mul_add,Nat.mul_add]; omega
theorem Aon {f g:Nat->Nat} {N:Nat} (h:∀n,n<N->sm N (fun k=>f k*bc n k)=sm N (fun k=>g k*bc n k)):∀k,k<N->f k=g k:=by
 intro k
 induction k using Nat.strongRecOn with
 | ind k ih=>
  intro hk
  have cut:∀F:Nat->Nat,sm N (fun j=>F j*bc k j)=sm k (fun j=>F j*bc k j)+F k:=by
   intro F
   have e:sm N (fun j=>F j*bc k j)=sm (k+1) (fun j=>F j*bc k j):=Aoj (by omega) fun j hj=>by rw [T6 (by omega),Nat.mul_zero]
   rw [e,sm,Rp,Nat.mul_one]
  have:=h k hk
  rw [cut f,cut g,Xj (f:=fun j=>f j*bc k j) (g:=fun j=>g j*bc k j) fun j hj=>by rw [ih j hj (by omega)]] at this
  omega
end Go.Ab
namespace Go.Ab
open Go
noncomputable def T8 {α:Type} (cmp:α->α->Option Int) (a0:Int):Int×List α->Option ((Int×List α)⊕(Int×List α)):=fun (v31,b)=>
 (show Option Bool from
 bif (decide (v31>a0)) then (
 (Ag b v31).bind fun v33=>
 (Ag b (Ac (v31-1))).bind fun g=>
 (cmp v33 g).bind fun v35=>
 some (decide (v35<(0:Int))))
 else some false).bind fun f=>
 bif f then (
 (Ag b (Ac (v31-1))).bind fun v37=>
 (Ag b v31).bind fun c=>
 (Ag b v31).bind fun v39=>
 (Ag (Cg b v31 v37) (Ac (v31-1))).bind fun v40=>
 some (.inl ((Ac (v31-1)),(Cg (Cg b v31 v37) (Ac (v31-1)) c))))
 else some (.inr (v31,b))
noncomputable def Xn {α:Type} (cmp:α->α->Option Int) (a0 a1:Int) (g:List α):Option (List α) :=
 (Am (S:=(Int×(List α))) (E:=(List α)) (fun (v21,b)=>
 bif (decide (v21<a1)) then (
 (Am (T8 cmp a0) (v21,b)).bind fun (v41,f)=>
 some (.inl ((Ac (v21+1)),f))
 )
 else (
 some (.inr b)
 )
  ) ((Ac (a0+1)),g)).bind fun c=>
 some c
theorem A0r {α:Type} (A R:List α) (x y:α):((A++y::x::R).set (A.length+1) y).set A.length x=A++x::y::R:=by
 induction A with
 | nil=>rfl
 | cons a A ih=>simp only [List.cons_append,List.length_cons,List.set_cons_succ,ih]
theorem Abm {α:Type} (A R:List α) (x:α):(A++x::R)[A.length]? = some x:=by simp
theorem A0s {α:Type} (A R:List α) (x y:α):(A++y::x::R)[A.length+1]? = some x:=by
 induction A with
 | nil=>rfl
 | cons a A ih=>simp
theorem A0t {α:Type} (cmp:α->α->Option Int) (y:α) (R:List α):T8 cmp 0 (0,y::R)=some (.inr (0,y::R)):=by
 unfold T8
 simp only [Ar (by omega:¬(0:Int)>0),cond_false,Ad]
theorem A0u {α:Type} {cmp:α->α->Option Int} {c:α->α->Int} {N:Nat} (i:N<=1099511627776) (A R:List α) (u y:α) (b:cmp u y=some (c u y)) (f:(A++y::u::R).length<=N):T8 cmp 0 (((A.length+1:Nat):Int),A++y::u::R) =
  if c u y<0 then some (.inl ((A.length:Int),A++u::y::R)) else some (.inr (((A.length+1:Nat):Int),A++y::u::R)):=by
 have h:A.length+1<N:=by simp at f; omega
 have g:Ac (((A.length+1:Nat):Int)-1)=(A.length:Int):=by rw [Ac,Bw] <;> omega
 unfold T8
 simp only [Al (by omega:((A.length+1:Nat):Int)>0),cond_true,g,Cd (n:=A.length+1) rfl (A0s A R u y),Cd (n:=A.length) rfl (Abm A (u::R) y),Ad,b]
 by_cases hc:c u y<0
 .rw [Al hc,if_pos hc]
  simp only [cond_true]
  rw [Fh (n:=A.length+1) rfl,Fh (n:=A.length) rfl,A0r]
  have:Ag ((A++y::u::R).set (A.length+1) y) (A.length:Int)=some y:=by
   refine Cd rfl ?_
   rw [List.getElem?_set_ne (by omega)]; exact Abm A (u::R) y
  rw [this]; rfl
 .rw [Ar hc,if_neg hc]; rfl
theorem A0v {α:Type} {cmp:α->α->Option Int} {c:α->α->Int} {N:Nat} (q:N<=1099511627776) :
  ∀(n:Nat) (A R:List α) (x:α),A.length=n->(∀t∈A,cmp x t=some (c x t))->(A++x::R).length<=N ->
   ∃f i,Am (T8 cmp 0) ((A.length:Int),A++x::R)=some ((f.length:Int),f++x::(i++R))/\A=f++i/\(∀a∈i,c x a<0)/\∀k y,f=k++[y]->¬c x y<0:=by
 intro n
 induction n with
 | zero=>
  intro A R x g _ _
  have:A = []:=List.length_eq_zero_iff.1 g
  subst this
  exact ⟨[],[],Dx (A0t cmp x R),rfl,(fun _ h=>by cases h),(fun k y h=>by simp at h)⟩
 | succ n ih=>
  intro A R x g hm b
  obtain ⟨B,y,rfl⟩:∃B y,A=B++[y]:=by
   rcases List.eq_nil_or_concat A with h | ⟨B,y,h⟩
   .rw [h] at g; cases g
   .exact ⟨B,y,by simpa using h⟩
  have s:B.length=n:=by simpa using g
  have D:(B++[y])++x::R=B++y::x::R:=by simp
  have el:(((B++[y]).length:Nat):Int)=((B.length+1:Nat):Int):=by simp
  rw [D] at b ⊢
  rw [el]
  have j:=A0u (cmp:=cmp) (c:=c) q B R x y (hm y (by simp)) b
  by_cases hc:c x y<0
  .rw [if_pos hc] at j
   obtain ⟨f,i,h1,h2,h3,u⟩:=ih B (y::R) x s (fun t ht=>hm t (by simp [ht])) (by simpa using b)
   refine ⟨f,i++[y],?_,by rw [h2]; simp,?_,u⟩
   .rw [G6 j,h1]; simp
   .intro a ha
    rcases List.mem_append.1 ha with ha | ha
    .exact h3 a ha
    .simp only [List.mem_singleton] at ha
     subst ha; exact hc
  .rw [if_neg hc] at j
   refine ⟨B++[y],[],?_,by simp,(fun _ h=>by cases h),?_⟩
   .rw [Dx j]; simp
   .intro k z l
    have:=List.append_inj' l rfl
    have e:y=z:=by simpa using this.2
    subst e; exact hc
theorem A0w {α:Type} {c:α->α->Int} (L:M4 c) {f j:List α} {x:α} (s:(f++j).Pairwise (fun a b=>¬c b a<0)) (h2:∀a∈j,c x a<0) (h1:∀g y,f=g++[y]->¬c x y<0):(f++x::j).Pairwise (fun a b=>¬c b a<0):=by
 obtain ⟨i,l,k⟩:=List.pairwise_append.1 s
 have hx:∀a∈f,¬c x a<0:=by
  intro a ha
  rcases List.eq_nil_or_concat f with h | ⟨g,y,h⟩
  .rw [h] at ha; cases ha
  .have h:f=g++[y]:=by simpa using h
   have q:=h1 g y h
   rw [h] at ha i
   rcases List.mem_append.1 ha with ha | ha
   .exact L.ntr x y a q ((List.pairwise_append.1 i).2.2 a ha y (by simp))
   .simp only [List.mem_singleton] at ha
    subst ha; exact q
 refine List.pairwise_append.2 ⟨i,List.pairwise_cons.2 ⟨fun a ha h=>L.irr x (L.trs x a x (h2 a ha) h),l⟩,fun a ha b hb=>?_⟩
 rcases List.mem_cons.1 hb with rfl | hb
 .exact hx a ha
 .exact k a ha b hb
theorem Aoo {α:Type} {cmp:α->α->Option Int} {c:α->α->Int} (L:M4 c) (f:List α) (A:∀x∈f,∀y∈f,cmp x y=some (c x y)) (J:f.length<=1099511627776) :
  ∃R,Xn cmp 0 (f.length:Int) f=some R/\R.Perm f/\R.Pairwise (fun a b=>¬c b a<0):=by
 unfold Xn
 cases f with
 | nil=>
  refine ⟨[],?_,List.Perm.refl _,List.Pairwise.nil⟩
  refine Gu 0 (fun _=>((1:Int),([]:List α))) (by simp [Ac,Bw]) (fun j hj=>by omega) ⟨[],?_,rfl⟩
  simp
 | cons z0 B=>
 generalize k:z0::B=f at *
 have hpos:1<=f.length:=by rw [<-k]; simp
 refine E7 (fun s=>∃(i:Nat) (S:List α),s=((i:Int),S++f.drop i)/\1<=i/\i<=f.length/\S.length=i/\S.Perm (f.take i)/\S.Pairwise (fun a b=>¬c b a<0)) (fun s=>f.length-s.1.toNat)
  (fun R=>R.Perm f/\R.Pairwise (fun a b=>¬c b a<0)) ⟨1,[z0],by rw [<-k]; simp [Ac,Bw],by omega,hpos,rfl,by rw [<-k]; simp,List.pairwise_singleton _ _⟩ ?_ ?_
 .rintro _ ⟨i,S,rfl,G,M,E,g,l⟩
  rcases Nat.lt_or_ge i f.length with h | h
  .have hx:f[i]? = some f[i]:=B3 h
   have hxm:f[i]∈f:=List.getElem_mem h
   generalize f[i]=x at hx hxm
   have D:f.drop i=x::f.drop (i+1):=Ic hx
   have z:(S++x::f.drop (i+1)).length=f.length:=by simp; omega
   simp only [Al (by omega:(i:Int)<(f.length:Int)),cond_true,C7 h (by omega)]
   rw [D]
   left
   obtain ⟨u,q,h1,h2,h3,I⟩:=A0v (cmp:=cmp) (c:=c) (N:=f.length) (by omega) S.length S (f.drop (i+1)) x rfl (fun t ht=>A x hxm t (List.mem_of_mem_take (g.mem_iff.1 ht))) (by rw [z]; exact Nat.le_refl _)
   rw [E] at h1
   have hp:(u++x::q).Perm (f.take (i+1)):=by
    rw [De hx]
    have:(u++x::q).Perm ((u++q)++[x]):=by
     rw [List.append_assoc]
     exact List.Perm.append_left u (List.perm_append_singleton x q).symm
    exact this.trans (by rw [<-h2]; exact g.append_right [x])
   refine ⟨(((i+1:Nat):Int),(u++x::q)++f.drop (i+1)),bnd h1 (by simp),⟨i+1,u++x::q,rfl,by omega,by omega,?_,hp,?_⟩,by simp; omega⟩
   .rw [hp.length_eq,List.length_take]; omega
   .rw [h2] at l
    exact A0w L l h3 I
  .have:i=f.length:=by omega
   subst this
   rw [List.take_length] at g
   simp only [Ar (by omega:¬(f.length:Int)<(f.length:Int)),cond_false,List.drop_length,List.append_nil]
   exact .inr ⟨S,rfl,g,l⟩
 .rintro R ⟨h1,h2⟩
  exact ⟨R,rfl,h1,h2⟩
noncomputable def Aop {α:Type} (B:Nat) (gr:Int->Option (List α)) (a0:List (List α)):Option (List α) :=
 (Am (S:=(Int×Int)) (E:=Int) (fun (v2,v3)=>
 bif (decide (v3<(a0.length:Int))) then (
 (Ag a0 v3).bind fun v4=>
 bif (decide ((Ac (v2+(v4.length:Int)))<(0:Int))) then (
 none
 )
 else (
 some (.inl ((Ac (v2+(v4.length:Int))),(Ac (v3+1))))
 )
 )
 else (
 some (.inr v2)
 )
  ) (0,0)).bind fun v5=>
 (gr v5).bind fun i=>
 (Am (S:=(Int×(List α))) (E:=(List α)) (fun (b,c)=>
 bif (decide (b<(a0.length:Int))) then (
 (Ag a0 b).bind fun f=>
 (B7 B c f).bind fun h=>
 some (.inl ((Ac (b+1)),h))
 )
 else (
 some (.inr c)
 )
  ) (0,i)).bind fun g=>
 some g
theorem Agi {α:Type} {B:Nat} (g:B<=1024) {gr:Int->Option (List α)} (l:∀n:Nat,n<=1000000->gr (n:Int)=some []) (a b:List α) (h:a.length+b.length<=1000000):Aop B gr [a,b]=some (a++b):=by
 have m1:a.length*B<=1000000*1024:=Nat.mul_le_mul (by omega) g
 have m2:(a.length+b.length)*B<=1000000*1024:=Nat.mul_le_mul h g
 have f:Ac 1=1:=by rw [Ac,Bw] <;> omega
 have c:Ac 2=2:=by rw [Ac,Bw] <;> omega
 have k:Ac (a.length:Int)=(a.length:Int):=by rw [Ac,Bw] <;> omega
 have i:Ac ((a.length:Int)+(b.length:Int))=((a.length:Int)+(b.length:Int)):=by rw [Ac,Bw] <;> omega
 have i0:Ag [a,b] 0=some a:=rfl
 have i1:Ag [a,b] 1=some b:=rfl
 have s:B7 B [] a=some a:=by rw [Da (by simp; omega)]; rfl
 have q:B7 B a b=some (a++b):=Da (by omega)
 unfold Aop
 refine Gu 2 (fun j=>if j=0 then (0,0) else if j=1 then ((a.length:Int),1) else (((a.length+b.length:Nat):Int),2)) rfl ?_ ⟨((a.length+b.length:Nat):Int),?_,?_⟩
 .intro j hj
  rcases (by omega:j=0\/j=1) with rfl | rfl
  .have:¬((a.length:Int)<0):=by omega
   simp [i0,k,f,this]
  .have:¬((a.length:Int)+(b.length:Int)<0):=by omega
   simp [i1,i,c,this]
 .simp
 .rw [l _ h,Ad]
  refine Gu 2 (fun j=>if j=0 then (0,[]) else if j=1 then (1,a) else (2,a++b)) rfl ?_ ⟨a++b,?_,rfl⟩
  .intro j hj
   rcases (by omega:j=0\/j=1) with rfl | rfl
   .simp [i0,f,s]
   .simp [i1,c,q]
  .simp
end Go.Ab
namespace Go.Ab
open Go
def Big:Nat:=1000000000 ^ 100
structure Np (x:Ak) (a:Nat):Prop where
 rb:RB 200 x
 s:sv x=false
 n:nv x=a
 d:dv x=1
theorem Agj {a:Nat} (h:a<Big):Bb a<=100:=Jb h
theorem Np.cR {a:Nat} (h:Bb a<=200):Np (cR a) a:=⟨Abi h (by decide),(Agb a).1,(Agb a).2.1,(Agb a).2.2⟩
theorem Np.c {a:Nat} (h:a<Big):Np (Ab.cR a) a:=Np.cR (by have:=Agj h; omega)
theorem Np.z:Np ⟨false,[],[]⟩ 0:=⟨Ayp 200,by unfold sv; simp,by unfold nv; simp [Ai],by unfold dv; simp [Ai]⟩
theorem Np.add {x y:Ak} {a b:Nat} (hx:Np x a) (hy:Np y b):Nb x y=some (Ab.cR (a+b)):=by
 rw [Aey _ _ 200 200 hx.rb hy.rb (by omega) (by omega),hx.s,hx.n,hx.d,hy.s,hy.n,hy.d]
 simp [Jd,Hw,Ab.cR]
theorem Np.mul {x y:Ak} {a b:Nat} (hx:Np x a) (hy:Np y b):Gc x y=some (Ab.cR (a*b)):=by
 rw [Aex _ _ 200 200 hx.rb hy.rb (by omega) (by omega),hx.s,hx.n,hx.d,hy.s,hy.n,hy.d]
 simp [Ab.cR]
theorem Np.sign {x:Ak} {a:Nat} (hx:Np x a):F1 x=some (if a=0 then 0 else 1):=by
 rw [Aev _ 200 hx.rb (by omega),hx.s,hx.n]
 simp [Hv]
theorem Np.can {x:Ak} {a:Nat} (hx:Np x a):Nf x=some (Ab.cR a):=by
 rw [Aeu _ 200 hx.rb (by omega),hx.s,hx.n,hx.d]; rfl
def Ls (n:Nat) (f:Nat->Nat):List Ak:=(List.range n).map fun k=>cR (f k)
theorem Mw (n:Nat) (f:Nat->Nat):(Ls n f).length=n:=by simp [Ls]
theorem K1 {n k:Nat} (f:Nat->Nat) (h:k<n):(Ls n f)[k]? = some (cR (f k)):=by simp [Ls,h]
theorem Xo {n:Nat} {l:List Ak} {f:Nat->Nat} (b:l.length=n) (h:∀k,k<n->l[k]? = some (cR (f k))):l=Ls n f:=by
 apply List.ext_getElem?
 intro k
 rcases Nat.lt_or_ge k n with hk | hk
 .rw [h k hk,K1 f hk]
 .rw [List.getElem?_eq_none (by omega),List.getElem?_eq_none (by rw [Mw]; omega)]
theorem Abn {α R:Type} {step:Int×List α->Option ((Int×List α)⊕List α)} {J:List α->Option R} {r:R} {i n:Nat} (o:List α) (g:Nat->α) (y:i<=n) (q:o.length=n)
  (l:∀(j:Nat) (o':List α),i<=j->j<n->o'.length=n->step ((j:Int),o')=some (.inl (((j+1:Nat):Int),o'.set j (g j))))
  (z:∀o',o'.length=n->step ((n:Int),o')=some (.inr o'))
  (A:∀o',o'.length=n->(∀k,k<i->o'[k]? = o[k]?)->(∀k,i<=k->k<n->o'[k]? = some (g k))->J o'=some r):(Am step ((i:Int),o)).bind J=some r:=by
 obtain ⟨e,B,f⟩:=Ip (step:=step) (fun s=>∃(j:Nat) (o':List α),s=((j:Int),o')/\i<=j/\j<=n/\o'.length=n/\(∀k,k<i->o'[k]? = o[k]?)/\∀k,i<=k->k<j->o'[k]? = some (g k)) (fun s=>n-s.1.toNat)
  (fun o'=>o'.length=n/\(∀k,k<i->o'[k]? = o[k]?)/\∀k,i<=k->k<n->o'[k]? = some (g k)) (by
  rintro _ ⟨j,o',rfl,c,x,h1,h2,h3⟩
  rcases Nat.lt_or_ge j n with h | h
  .refine .inl ⟨_,l j o' c h h1,⟨j+1,o'.set j (g j),rfl,by omega,by omega,by simp [h1],fun k hk=>?_,fun k b u=>?_⟩,by simp; omega⟩
   .rw [List.getElem?_set_ne (by omega)]; exact h2 k hk
   .rcases Nat.lt_or_ge k j with h' | h'
    .rw [List.getElem?_set_ne (by omega)]; exact h3 k b h'
    .have:k=j:=by omega
     subst this
     rw [List.getElem?_set_self (by omega)]
  .have:j=n:=by omega
   subst this
   exact .inr ⟨o',z o' h1,h1,h2,h3⟩) ((i:Int),o) ⟨i,o,rfl,by omega,y,q,fun _ _=>rfl,fun k h1 h2=>by omega⟩
 rw [B,Ad]
 exact A e f.1 f.2.1 f.2.2
theorem A0x (n:Nat) (b:n<=1000):Wl (n:Int)=some (Ls n fun _=>0):=by
 unfold Wl
 rw [It rfl rfl (Nat.le_refl _) (by omega) (by omega),Ad]
 refine Abn (i:=0) (n:=n) _ (fun _=>cR 0) (by omega) (by simp) ?_ ?_ ?_
 .intro j o' _ h2 h3
  have hx:o'[j]? = some o'[j]:=B3 (by omega)
  simp only [List.length_replicate,Al (by omega:(j:Int)<(n:Int)),cond_true,Az6,Ad,Cd rfl hx,C7 h2 (by omega),Fh (n:=j) rfl]
 .intro o' h
  simp only [List.length_replicate,Ar (by omega:¬(n:Int)<(n:Int)),cond_false]
 .intro o' h1 _ h3
  rw [Xo h1 (f:=fun _=>0) fun k hk=>h3 k (by omega) hk]
theorem Aoq (n k:Nat) (b:n<1000000000) (hk:k<=64):Z6 (n:Int) (k:Int)=some (cR (bc n k)):=by
 have h:Tf (n:Int) (k:Int)=some (cR (bc n k)):=by
  rw [Alm n k b hk,Abh,show Bs false (fct k*bc n k) (fct k)=Bs false (fct k*bc n k) (fct k*1) by rw [Nat.mul_one],Q5 _ _ _ _ (Aav k)]
  rfl
 exact h
theorem Aor {n k:Nat} (h:n<=40):bc n k<Big:=by
 refine Nat.lt_of_le_of_lt (Xh n k) ?_
 exact Nat.lt_of_le_of_lt (Nat.pow_le_pow_right (by decide) h) (by decide)
theorem A0y (a b:Nat) (ha:a<=16) (hb:b<=16):Tg (a:Int) (b:Int)=some (Ls (a+b+1) (Rc a b)):=by
 unfold Tg
 have q:Ac ((a:Int)+(b:Int))=((a+b:Nat):Int):=by rw [Ac,Bw] <;> omega
 have l:Ac (((a+b:Nat):Int)+1)=((a+b+1:Nat):Int):=by rw [Ac,Bw] <;> omega
 have e:(if (b:Int)>(a:Int) then (b:Int) else (a:Int))=((max a b:Nat):Int):=by split <;> omega
 rw [q,l,A0x _ (by omega),Ad,e]
 refine Abn (i:=max a b) (n:=a+b+1) _ (fun k=>cR (Rc a b k)) (by omega) (by simp [Mw]) ?_ ?_ ?_
 .intro j o' h1 h2 h3
  have hx:o'[j]? = some o'[j]:=B3 (by omega)
  have g:Ac ((j:Int)-(b:Int))=((j-b:Nat):Int):=by rw [Ac,Bw] <;> omega
  have s:Rc a b j=bc j a*bc a (j-b):=by unfold Rc; rw [if_pos (by omega)]
  simp only [Al (by omega:(j:Int)<=((a+b:Nat):Int)),cond_true,Aoq j a (by omega) (by omega),g,Aoq a (j-b) (by omega) (by omega),Ad,(Np.c (Aor (by omega:j<=40))).mul (Np.c (Aor (k:=j-b) (by omega:a<=40))),Cd rfl hx,C7 h2 (by omega),Fh (n:=j) rfl,s]
 .intro o' h
  simp only [Ar (by omega:¬((a+b+1:Nat):Int)<=((a+b:Nat):Int)),cond_false]
 .intro o' h1 h2 h3
  rw [Xo h1 (f:=Rc a b) fun k hk=>?_]
  rcases Nat.lt_or_ge k (max a b) with h | h
  .rw [h2 k h,K1 _ hk]
   have:Rc a b k=0:=by
    rcases (by omega:k<a\/k<b) with h | h
    .exact A0n h
    .unfold Rc; rw [if_neg (by omega)]
   rw [this]
  .exact h3 k h hk
end Go.Ab
namespace Go.Ab
open Go
theorem A0z {m n:Nat} {f g:Nat->Nat} {c:Nat} (hm:m<=1000) (D:n<=1000) (B:∀k,k<m->f k<Big) (q:∀k,k<n->g k<Big) (hc:c<Big) :
  Qq (Ls m f) (Ls n g) (cR c)=some (Ls (max m n) fun k=>(if k<m then f k else 0)+(if k<n then g k else 0)*c):=by
 unfold Qq
 rw [Mw,Mw]
 have e:(if (n:Int)>(m:Int) then (n:Int) else (m:Int))=((max m n:Nat):Int):=by split <;> omega
 rw [e,It rfl rfl (Nat.le_refl _) (by omega) (by omega),Ad]
 refine Abn (i:=0) (n:=max m n) _ (fun k=>cR ((if k<m then f k else 0)+(if k<n then g k else 0)*c)) (by omega) (by simp) ?_ ?_ ?_
 .intro j o' _ h2 h3
  have hx:o'[j]? = some o'[j]:=B3 (by omega)
  obtain ⟨x,A,u⟩:∃x:Ak,(bif decide ((j:Int)<(m:Int)) then ((Ag (Ls m f) (j:Int)).bind fun b=>some (b.Neg,b.Num,b.Den)) else some (false,[],[]))=some (x.Neg,x.Num,x.Den)/\Np x (if j<m then f j else 0):=by
   by_cases h:j<m
   .rw [Al (by omega),cond_true,Cd rfl (K1 f h),if_pos h]
    exact ⟨_,rfl,Np.c (B j h)⟩
   .rw [Ar (by omega),cond_false,if_neg h]
    exact ⟨⟨false,[],[]⟩,rfl,Np.z⟩
  obtain ⟨y,s,l⟩:∃x:Ak,(bif decide ((j:Int)<(n:Int)) then ((Ag (Ls n g) (j:Int)).bind fun b=>some (b.Neg,b.Num,b.Den)) else some (false,[],[]))=some (x.Neg,x.Num,x.Den)/\Np x (if j<n then g j else 0)/\(if j<n then g j else 0)<Big:=by
   by_cases h:j<n
   .rw [Al (by omega),cond_true,Cd rfl (K1 g h),if_pos h]
    exact ⟨_,rfl,Np.c (q j h),q j h⟩
   .rw [Ar (by omega),cond_false,if_neg h]
    exact ⟨⟨false,[],[]⟩,rfl,Np.z,by decide⟩
  have hq:Bb ((if j<n then g j else 0)*c)<=200:=by
   have:=Gj (if j<n then g j else 0) c
   have:=Agj l.2
   have:=Agj hc
   omega
  have hb:Wg x y (cR c)=some (cR ((if j<m then f j else 0)+(if j<n then g j else 0)*c)):=by
   unfold Wg
   rw [(Np.c hc).mul l.1,Ad,Nat.mul_comm c,u.add (Np.cR hq)]; rfl
  simp only [List.length_replicate,Al (by omega:(j:Int)<((max m n:Nat):Int)),cond_true]
  erw [A,Ad,s,Ad]
  dsimp only
  rw [hb,Ad,Cd rfl hx,Ad,C7 h2 (by omega),Fh (n:=j) rfl]
 .intro o' h
  simp only [List.length_replicate,Ar (by omega:¬((max m n:Nat):Int)<((max m n:Nat):Int)),cond_false]
 .intro o' h1 _ h3
  rw [Xo h1 (f:=fun k=>(if k<m then f k else 0)+(if k<n then g k else 0)*c) fun k hk=>h3 k (by omega) hk]
theorem Agk {p:List Ak} {n:Nat} {f:Nat->Nat} (u:n<1000) (s:p.length=n+1) (hp:∀k,k<n+1->∃x,p[k]? = some x/\Np x (f k)) (b:f n≠0):Mi p=some (Ls (n+1) f):=by
 unfold Mi
 obtain ⟨x,q,l⟩:=hp n (by omega)
 have w:Ac (((n+1:Nat):Int)-1)=(n:Int):=by rw [Ac,Bw] <;> omega
 refine bnd (a:=((n+1:Nat):Int)) (Dx ?_) ?_
 .rw [s]
  simp only [Al (by omega:((n+1:Nat):Int)>0),cond_true,w,Cd rfl q,Ad,l.sign,if_neg b]
  rfl
 .rw [It rfl rfl (Nat.le_refl _) (by omega) (by omega),Ad]
  refine Abn (i:=0) (n:=n+1) _ (fun k=>cR (f k)) (by omega) (by simp) ?_ ?_ ?_
  .intro j o' _ h2 h3
   have hx:o'[j]? = some o'[j]:=B3 (by omega)
   obtain ⟨y,g,c⟩:=hp j h2
   simp only [List.length_replicate,Al (by omega:(j:Int)<((n+1:Nat):Int)),cond_true,Cd rfl g,c.can,Ad,Cd rfl hx,C7 h2 (by omega),Fh (n:=j) rfl]
  .intro o' h
   simp only [List.length_replicate,Ar (by omega:¬((n+1:Nat):Int)<((n+1:Nat):Int)),cond_false]
  .intro o' h1 _ h3
   rw [Xo h1 (f:=f) fun k hk=>h3 k (by omega) hk]
def F0 (n d:Nat) (f:Nat->Nat) (k:Nat):Nat:=sm n fun a=>f a*Rc a d k
theorem Aos (a d:Nat):0<Rc a d (a+d):=by
 unfold Rc
 rw [if_pos (by omega),show a+d-d=a by omega,Rp]
 have:0<bc (a+d) a:=by
  have h:∀d,0<bc (a+d) a:=by
   intro d
   induction d with
   | zero=>rw [Nat.add_zero,Rp]; decide
   | succ d ih=>
    cases a with
    | zero=>rw [Kb]; decide
    | succ a=>rw [show a+1+(d+1)=(a+1+d)+1 by omega,T7]; omega
  exact h d
 omega
theorem A00 {n d:Nat} {f:Nat->Nat} {p q:List Ak} (a1:n+d<=12) (hp:p=Ls (n+1) f) (i:f n≠0) (hq:q.length=d+1) (R:∀k,k<d+1->∃x,q[k]? = some x/\Np x (if k=d then 1 else 0))
  (U:∀k,k<n+1->f k<Big) (Y:∀a k,a<=n+1->F0 a d f k<Big):Wa p q=some (Ls (n+d+1) (F0 (n+1) d f),true):=by
 unfold Wa
 have l:p.length=n+1:=by rw [hp,Mw]
 rw [l,hq,Ar (by omega),Ar (by omega)]
 simp only [cond_false,Ad]
 have c1:Mi p=some (Ls (n+1) f):=Agk (by omega) l (fun k hk=>⟨_,by rw [hp]; exact K1 f hk,Np.c (U k hk)⟩) i
 have c2:Mi q=some (Ls (d+1) fun k=>if k=d then 1 else 0):=Agk (by omega) hq R (by simp)
 have w:Ac (((n+1:Nat):Int)+((d+1:Nat):Int))=((n+d+2:Nat):Int):=by rw [Ac,Bw] <;> omega
 rw [c1,Ad,c2,Ad,Mw,Mw,Cq (by omega),Cq (by omega)]
 simp only [cond_false,Ad]
 rw [w,Ar (by omega),cond_false]
 obtain ⟨r,r1,Z⟩:=E7 (J:=fun B=>(Mi B).bind fun A=>some (A,true)) (Q:=fun r=>r=(Ls (n+d+1) (F0 (n+1) d f),true)) (step:=fun (x:List Ak×Int)=>match x with
  | (v25,v26)=>
   bif (decide (v26<((n+1:Nat):Int))) then (
   (Ag (Ls (n+1) f) v26).bind fun M=>
   (Am (S:=((List Ak)×Int)) (E:=((List Ak)×Int)) (fun (g,v37)=>
   bif (decide (v37<((d+1:Nat):Int))) then (
   (Ag (Ls (d+1) fun k=>if k=d then 1 else 0) v37).bind fun I=>
   (Gc M I).bind fun v40=>
   (F1 v40).bind fun G=>
   bif (G==(0:Int)) then (
   some (.inl (g,(Ac (v37+1))))
   )
   else (
   (Tg v26 v37).bind fun D=>
   (Qq g D v40).bind fun v44=>
   some (.inl (v44,(Ac (v37+1))))
   )
   )
   else (
   some (.inr (g,v37))
   )
    ) (v25,0)).bind fun (v45,v46)=>
   some (.inl (v45,(Ac (v26+1))))
   )
   else (
   some (.inr v25)
   )) (s:=([],0))
  (fun s=>∃(a L:Nat) (h:Nat->Nat),s=(Ls L h,(a:Int))/\a<=n+1/\L<=a+d/\(∀k,(if k<L then h k else 0)=F0 a d f k)/\(a=n+1->L=n+d+1)) (fun s=>n+1-s.2.toNat)
  (fun e=>e=Ls (n+d+1) (F0 (n+1) d f)) ⟨0,0,fun _=>0,rfl,by omega,by omega,fun k=>by simp [F0,sm],by omega⟩ (by
  rintro _ ⟨a,L,h,rfl,ha,hL,z,y⟩
  rcases Nat.lt_or_ge a (n+1) with h1 | h1
  .left
   have N:Np (cR 0) 0:=Np.c (by decide)
   have b:∀k,F0 (a+1) d f k=F0 a d f k+f a*Rc a d k:=fun k=>rfl
   have hh:∀k,k<L->h k<Big:=fun k hk=>by
    have:=z k
    rw [if_pos hk] at this
    rw [this]; exact Y a k (by omega)
   by_cases h0:f a=0
   .refine ⟨(Ls L h,((a+1:Nat):Int)),?_,⟨a+1,L,h,rfl,by omega,by omega,fun k=>by rw [b,h0,z]; simp,fun e=>?_⟩,by simp; omega⟩
    .simp only [Al (by omega:(a:Int)<((n+1:Nat):Int)),cond_true,Cd rfl (K1 f h1),Ad,h0]
     refine Gu (d+1) (fun j=>(Ls L h,(j:Int))) rfl ?_ ⟨(Ls L h,((d+1:Nat):Int)),?_,?_⟩
     .intro j hj
      have hy:Np (cR (if j=d then 1 else 0)) (if j=d then 1 else 0):=Np.c (by split <;> decide)
      simp only [Al (by omega:(j:Int)<((d+1:Nat):Int)),cond_true,Cd rfl (K1 _ hj),Ad,N.mul hy,Nat.zero_mul,N.sign,if_true,C7 hj (by omega)]
      rfl
     .simp only [Ar (by omega:¬((d+1:Nat):Int)<((d+1:Nat):Int)),cond_false]
     .rw [C7 h1 (by omega)]
    .have:a=n:=by omega
     subst this; exact (i h0).elim
   .have u:=Np.c (U a h1)
    have V:Qq (Ls L h) (Ls (a+d+1) (Rc a d)) (cR (f a))=some (Ls (a+d+1) fun k=>(if k<L then h k else 0)+(if k<a+d+1 then Rc a d k else 0)*f a):=by
     rw [A0z (by omega) (by omega) hh (fun k hk=>?_) (U a h1),show max L (a+d+1)=a+d+1 by omega]
     unfold Rc
     split
     .refine Nat.lt_of_le_of_lt (Nat.mul_le_mul (Xh k a) (Xh a (k-d))) ?_
      rw [<-Nat.pow_add]
      exact Nat.lt_of_le_of_lt (Nat.pow_le_pow_right (by decide) (by omega:k+a<=40)) (by decide)
     .decide
    refine ⟨(Ls (a+d+1) fun k=>(if k<L then h k else 0)+(if k<a+d+1 then Rc a d k else 0)*f a,((a+1:Nat):Int)),?_,⟨a+1,a+d+1,_,rfl,by omega,by omega,fun k=>?_,fun e=>by omega⟩,by simp; omega⟩
    .simp only [Al (by omega:(a:Int)<((n+1:Nat):Int)),cond_true,Cd rfl (K1 f h1),Ad]
     refine Gu (d+1) (fun j=>if j<=d then (Ls L h,(j:Int)) else (Ls (a+d+1) fun k=>(if k<L then h k else 0)+(if k<a+d+1 then Rc a d k else 0)*f a,(j:Int))) (by simp) ?_ ⟨((Ls (a+d+1) fun k=>(if k<L then h k else 0)+(if k<a+d+1 then Rc a d k else 0)*f a),((d+1:Nat):Int)),?_,?_⟩
     .intro j hj
      have hy:Np (cR (if j=d then 1 else 0)) (if j=d then 1 else 0):=Np.c (by split <;> decide)
      rw [if_pos (by omega)]
      simp only [Al (by omega:(j:Int)<((d+1:Nat):Int)),cond_true,Cd rfl (K1 _ hj),Ad,u.mul hy,C7 hj (by omega)]
      rcases Nat.lt_or_ge j d with h2 | h2
      .rw [if_neg (by omega:¬j=d),Nat.mul_zero,N.sign,Ad,if_pos (by omega:j+1<=d)]
       rfl
      .have:j=d:=by omega
       subst this
       rw [if_pos rfl,Nat.mul_one,u.sign,Ad,if_neg h0,A0y a j (by omega) (by omega),Ad,V,if_neg (by omega)]
       rfl
     .rw [if_neg (by omega)]
      simp only [Ar (by omega:¬((d+1:Nat):Int)<((d+1:Nat):Int)),cond_false]
     .rw [C7 h1 (by omega)]
    .rw [b,<-z]
     by_cases hk:k<a+d+1
     .rw [if_pos hk,if_pos hk,Nat.mul_comm (Rc a d k)]
     .rw [if_neg hk,if_neg (by omega),Aok (by omega)]; simp
  .have:a=n+1:=by omega
   subst this
   right
   have X:=y rfl
   refine ⟨Ls L h,?_,?_⟩
   .simp only [Ar (by omega:¬((n+1:Nat):Int)<((n+1:Nat):Int)),cond_false]
   .subst X
    refine Xo (Mw _ _) fun k hk=>?_
    have:=z k
    rw [if_pos hk] at this
    rw [K1 _ hk,this]) (by
  rintro _ rfl
  refine ⟨_,bnd (Agk (n:=n+d) (f:=F0 (n+1) d f) (by omega) (Mw _ _) (fun k hk=>⟨_,K1 _ hk,Np.c (Y _ _ (by omega))⟩) ?_) rfl,rfl⟩
  have e:F0 (n+1) d f (n+d)=F0 n d f (n+d)+f n*Rc n d (n+d):=rfl
  have:=Nat.mul_pos (Nat.pos_of_ne_zero i) (Aos n d)
  omega)
 rw [<-Z]
 exact r1
end Go.Ab
namespace Go.Ab
open Go
theorem A01 (d x N:Nat) (f:Nat->Nat):∀M,(∀a,a<M->a+d<N)->sm N (fun k=>F0 M d f k*bc x k)=sm M (fun a=>f a*bc x a)*bc x d:=by
 intro M
 induction M with
 | zero=>intro _; rw [Xl (fun k _=>by simp [F0,sm])]; simp [sm]
 | succ M ih=>
  intro h
  have e:∀k,F0 (M+1) d f k*bc x k=F0 M d f k*bc x k+f M*(Rc M d k*bc x k):=fun k=>by
   show (F0 M d f k+f M*Rc M d k)*bc x k=_
   rw [Nat.add_mul,Nat.mul_assoc]
  rw [Xj (fun k _=>e k),Xk,ih (fun a ha=>h a (by omega)),Aoi,Xm x M d N (h M (by omega))]
  show _=(sm M (fun a=>f a*bc x a)+f M*bc x M)*bc x d
  rw [Nat.add_mul,Nat.mul_assoc (f M)]
theorem A02 (d:Nat) (f:Nat->Nat) (k:Nat):∀{m n:Nat},m<=n->F0 m d f k<=F0 n d f k:=by
 intro m n h
 induction n with
 | zero=>
  have:m=0:=by omega
  subst this; exact Nat.le_refl _
 | succ n ih=>
  rcases Nat.lt_or_ge m (n+1) with h' | h'
  .have:=ih (by omega)
   have e:F0 (n+1) d f k=F0 n d f k+f n*Rc n d k:=rfl
   omega
  .have:m=n+1:=by omega
   subst this; exact Nat.le_refl _
def prb (x:Nat):List A6->Nat
 | []=>1
 | a::l=>bc x a.Deg.toNat*prb x l
def B9:List A6->Nat
 | []=>0
 | a::l=>a.Deg.toNat+B9 l
theorem Aot (x:Nat) (l m:List A6):prb x (l++m)=prb x l*prb x m:=by
 induction l with
 | nil=>simp [prb]
 | cons a l ih=>simp only [List.cons_append,prb,ih,Nat.mul_assoc]
theorem Lz (l m:List A6):B9 (l++m)=B9 l+B9 m:=by
 induction l with
 | nil=>simp [B9]
 | cons a l ih=>simp only [List.cons_append,B9,ih,Nat.add_assoc]
theorem Aou (x:Nat) {l m:List A6} (h:l.Perm m):prb x l=prb x m:=by
 induction h with
 | nil=>rfl
 | cons a _ ih=>simp only [prb,ih]
 | swap a b l=>simp only [prb]; rw [<-Nat.mul_assoc,<-Nat.mul_assoc,Nat.mul_comm (bc x b.Deg.toNat)]
 | trans _ _ h1 h2=>exact h1.trans h2
theorem Nv {l m:List A6} (h:l.Perm m):B9 l=B9 m:=by
 induction h with
 | nil=>rfl
 | cons a _ ih=>simp only [B9,ih]
 | swap a b l=>simp only [B9]; omega
 | trans _ _ h1 h2=>exact h1.trans h2
theorem A03 (x d:Nat):bc x d<=(x+1) ^ d:=Nat.le_trans (Age x d) (Nat.pow_le_pow_left (by omega) d)
theorem Aov (x:Nat):∀l:List A6,prb x l<=(x+1) ^ B9 l
 | []=>by simp [prb,B9]
 | a::l=>by
  simp only [prb,B9,Nat.pow_add]
  exact Nat.mul_le_mul (A03 x _) (Aov x l)
theorem T9 {x:Nat} {l:List A6} (hx:x<=1048576) (hd:B9 l<=12):prb x l<Big:=by
 refine Nat.lt_of_le_of_lt (Aov x l) ?_
 refine Nat.lt_of_le_of_lt (Nat.pow_le_pow_left (by omega:x+1<=1048577) _) ?_
 exact Nat.lt_of_le_of_lt (Nat.pow_le_pow_right (by decide) hd) (by decide)
def PwN (l:List A6) (N:Nat) (f:Nat->Nat):Prop:=N=B9 l/\f N≠0/\∀x,sm (N+1) (fun k=>f k*bc x k)=prb x l
theorem PwN.le {l:List A6} {N:Nat} {f:Nat->Nat} (h:PwN l N f) {k:Nat} (hk:k<N+1):f k<=prb k l:=by
 have h1:=h.2.2 k
 have h2:f k*bc k k<=sm (N+1) (fun j=>f j*bc k j):=by
  have:∀n,k<n->f k*bc k k<=sm n (fun j=>f j*bc k j):=by
   intro n
   induction n with
   | zero=>intro h; omega
   | succ n ih=>
    intro h
    show _<=sm n _+f n*bc k n
    rcases Nat.lt_or_ge k n with h' | h'
    .have:=ih h'; omega
    .have:k=n:=by omega
     subst this; omega
  exact this _ hk
 rw [Rp,Nat.mul_one] at h2
 omega
theorem PwN.uniq {l m:List A6} {N M:Nat} {f g:Nat->Nat} (h:PwN l N f) (h':PwN m M g) (hp:l.Perm m):N=M/\∀k,k<N+1->f k=g k:=by
 have e:N=M:=by rw [h.1,h'.1,Nv hp]
 subst e
 exact ⟨rfl,Aon fun n _=>by rw [h.2.2 n,h'.2.2 n,Aou n hp]⟩
theorem PwN.step {l:List A6} {N:Nat} {f:Nat->Nat} (h:PwN l N f) (a:A6):PwN (l++[a]) (N+a.Deg.toNat) (F0 (N+1) a.Deg.toNat f):=by
 refine ⟨by rw [Lz,h.1]; simp [B9],?_,fun x=>?_⟩
 .have e:F0 (N+1) a.Deg.toNat f (N+a.Deg.toNat)=F0 N a.Deg.toNat f (N+a.Deg.toNat)+f N*Rc N a.Deg.toNat (N+a.Deg.toNat):=rfl
  have:=Nat.mul_pos (Nat.pos_of_ne_zero h.2.1) (Aos N a.Deg.toNat)
  omega
 .rw [A01 _ x _ f (N+1) (fun b ha=>by omega),h.2.2 x,Aot]
  simp [prb]
theorem A04 (l:List A6) (x:l≠[]) (ht:∀a∈l,a.Lin.Terms.length≠0) (hd:∀a∈l,0<=a.Deg) (L:B9 l<=12) (M:l.length<=1000) :
  ∃N f,Lm l=some (Ls (N+1) f)/\PwN l N f:=by
 have h0:Z9 l=false:=by
  cases l with
  | nil=>exact (x rfl).elim
  | cons a J=>
   have:=ht a (by simp)
   show (a.Lin.Terms.length==0)=false
   simpa using this
 have h1:∃N f,Z8 l=some (Ls (N+1) f)/\PwN l N f:=by
  unfold Z8
  rw [T5,Ad]
  suffices h:∃r,_/\∃N f,r=Ls (N+1) f/\PwN l N f by
   obtain ⟨r,E,N,f,D,B⟩:=h
   exact ⟨N,f,by rw [<-D]; exact E,B⟩
  refine E7 (fun s=>∃(i N:Nat) (f:Nat->Nat),s=(Ls (N+1) f,(i:Int))/\i<=l.length/\PwN (l.take i) N f) (fun s=>l.length-s.2.toNat) (fun e=>∃N f,e=Ls (N+1) f/\PwN l N f)
   ⟨0,0,fun _=>1,rfl,by omega,by simp [PwN,B9,prb,sm,Kb]⟩ ?_ ?_
  .rintro _ ⟨i,N,f,rfl,R,g⟩
   rcases Nat.lt_or_ge i l.length with h | h
   .left
    have hx:l[i]? = some l[i]:=B3 h
    have b:=List.getElem_mem h
    generalize l[i]=a at hx b
    have S:=ht a b
    have I:=hd a b
    have A:B9 l=B9 (l.take i)+(a.Deg.toNat+B9 (l.drop (i+1))):=by
     have:=Lz (l.take i) (l.drop i)
     rw [List.take_append_drop] at this
     rw [this,Ic hx]; rfl
    have U:=g.1
    have w:Ac (a.Deg+1)=((a.Deg.toNat+1:Nat):Int):=by rw [Ac,Bw] <;> omega
    have G:Ag (List.replicate (a.Deg.toNat+1) (⟨false,[],[]⟩:Ak)) a.Deg=some ⟨false,[],[]⟩:=Cd (n:=a.Deg.toNat) (by omega) (by simp)
    have u:=g.step a
    have hb:∀y k,y<=N+1->F0 y a.Deg.toNat f k<Big:=by
     intro y k ha'
     refine Nat.lt_of_le_of_lt (A02 _ f k ha') ?_
     rcases Nat.lt_or_ge k (N+a.Deg.toNat+1) with hk | hk
     .refine Nat.lt_of_le_of_lt (u.le hk) (T9 (by omega) ?_)
      rw [Lz]; simp only [B9]; omega
     .have:F0 (N+1) a.Deg.toNat f k=0:=Xl fun j hj=>by rw [Aok (by omega)]; rfl
      rw [this]; decide
    have hm:=A00 (n:=N) (d:=a.Deg.toNat) (f:=f) (p:=Ls (N+1) f) (q:=Cg (List.replicate (a.Deg.toNat+1) ⟨false,[],[]⟩) a.Deg (cR 1)) (by omega) rfl g.2.1 (by rw [Fh (n:=a.Deg.toNat) (by omega)]; simp) (fun k hk=>by
     rw [Fh (n:=a.Deg.toNat) (by omega)]
     by_cases e:k=a.Deg.toNat
     .subst e
      rw [if_pos rfl]
      exact ⟨_,List.getElem?_set_self (by simp),Np.c (by decide)⟩
     .rw [if_neg e,List.getElem?_set_ne (by omega)]
      exact ⟨⟨false,[],[]⟩,by simp [hk],Np.z⟩) (fun k hk=>Nat.lt_of_le_of_lt (g.le hk) (T9 (by omega) (by omega))) hb
    refine ⟨(Ls (N+a.Deg.toNat+1) (F0 (N+1) a.Deg.toNat f),((i+1:Nat):Int)),?_,⟨i+1,_,_,rfl,by omega,by rw [De hx]; exact u⟩,by simp; omega⟩
    simp only [Al (by omega:(i:Int)<(l.length:Int)),cond_true,Cd rfl hx,Ad,Cq (by omega:¬(a.Lin.Terms.length:Int)=0),cond_false,w,It rfl rfl (Nat.le_refl _) (by omega:56*(a.Deg.toNat+1)<=281474976710656) (by omega),T5,G,hm,C7 h (by omega)]
   .have:i=l.length:=by omega
    subst this
    rw [List.take_length] at g
    right
    exact ⟨_,by simp only [Ar (by omega:¬(l.length:Int)<(l.length:Int)),cond_false],_,_,rfl,g⟩
  .rintro _ ⟨N,f,rfl,h⟩
   exact ⟨_,rfl,N,f,rfl,h⟩
 obtain ⟨N,f,h2,h3⟩:=h1
 refine ⟨N,f,?_,h3⟩
 unfold Lm
 rw [h0,cond_false]
 exact h2
theorem A05 {c:Int} {d:Int} (hc:c<=1048576) (hd:0<=d) (b:d<=64):Nm c d=some (cR (bc c.toNat d.toNat),true):=by
 have h:=Az8 c.toNat d.toNat (by omega) (by omega)
 have e:((d.toNat:Nat):Int)=d:=by omega
 rw [e] at h
 rw [<-h]
 unfold Nm
 have f:(if c>(0:Int) then c else 0)=(if ((c.toNat:Nat):Int)>(0:Int) then ((c.toNat:Nat):Int) else 0):=by split <;> split <;> omega
 rw [f]
theorem A06 (l:List A6) {c:Int} (hc:c<=1048576) (ht:∀a∈l,a.Lin.Terms.length=0/\a.Lin.Const=c) (hd:∀a∈l,0<=a.Deg) (G:B9 l<=12) (I:l.length<=1000) :
  Lm l=some [cR (prb c.toNat l)]:=by
 have h1:Z7 l=some [cR (prb c.toNat l)]:=by
  unfold Z7
  rw [T5,Ad]
  obtain ⟨r,B,A⟩:∃r,_/\r = [cR (prb c.toNat l)]:=E7 (fun s=>∃i:Nat,s=((i:Int),[cR (prb c.toNat (l.take i))])/\i<=l.length) (fun s=>l.length-s.1.toNat) (fun e=>e = [cR (prb c.toNat l)]) (J:=fun o=>some o)
   (step:=fun (x:Int×List Ak)=>match x with
    | (g,f)=>
     bif (decide (g<(l.length:Int))) then (
     (Ag l g).bind fun b=>
     bif ((b.Lin.Terms.length:Int)==(0:Int)) then (
     (Nm b.Lin.Const b.Deg).bind fun k=>
     (Ag f 0).bind fun v20=>
     (Gc v20 k.1).bind fun v21=>
     (Ag f 0).bind fun v22=>
     some (.inl ((Ac (g+1)),(Cg f 0 v21)))
     )
     else (
     (E5 56 (Ac (b.Deg+1)) (Ac (b.Deg+1)) ((Ak.mk false [] []):Ak)).bind fun q=>
     (En 1).bind fun v25=>
     (Ag q b.Deg).bind fun v26=>
     none
     )
     )
     else (
     some (.inr f)
     )) (s:=(0,[cR 1]))
   ⟨0,rfl,by omega⟩ (by
   rintro _ ⟨i,rfl,L⟩
   rcases Nat.lt_or_ge i l.length with h | h
   .left
    have hx:l[i]? = some l[i]:=B3 h
    have j:=List.getElem_mem h
    generalize l[i]=a at hx j
    obtain ⟨M,D⟩:=ht a j
    have y:=hd a j
    have e:B9 l=B9 (l.take i)+(a.Deg.toNat+B9 (l.drop (i+1))):=by
     have:=Lz (l.take i) (l.drop i)
     rw [List.take_append_drop] at this
     rw [this,Ic hx]; rfl
    have hb:prb c.toNat (l.take i)<Big:=T9 (by omega) (by omega)
    have z:bc c.toNat a.Deg.toNat<Big:=by
     have:=T9 (x:=c.toNat) (l:=[a]) (by omega) (by simp only [B9]; omega)
     simpa [prb] using this
    have u:Ag [cR (prb c.toNat (l.take i))] 0=some (cR (prb c.toNat (l.take i))):=rfl
    refine ⟨_,?_,⟨i+1,rfl,by omega⟩,by simp; omega⟩
    simp only [Al (by omega:(i:Int)<(l.length:Int)),cond_true,Cd rfl hx,Ad,Ej (by omega:(a.Lin.Terms.length:Int)=0),D,A05 hc y (by omega:a.Deg<=64),u,(Np.c hb).mul (Np.c z),C7 h (by omega)]
    rw [De hx,Aot]
    simp [prb,Cg]
   .have:i=l.length:=by omega
    subst this
    right
    exact ⟨[cR (prb c.toNat (List.take l.length l))],by simp only [Ar (by omega:¬(l.length:Int)<(l.length:Int)),cond_false],by rw [List.take_length]⟩) (by
   rintro _ rfl
   exact ⟨_,rfl,rfl⟩)
  rw [<-A]
  exact B
 have h0:Z9 l=true:=by
  cases l with
  | nil=>rfl
  | cons a E=>
   have:=(ht a (by simp)).1
   show (a.Lin.Terms.length==0)=true
   simpa using this
 unfold Lm
 rw [h0,cond_true,h1]
end Go.Ab
namespace Go.Ab
open Go
noncomputable def Xp {α:Type} (cmp:α->α->Option Int) (a0:Int) (g:List α):Option (List α) :=
 (Am (S:=(Int×Int×(List α))) (E:=(Int×Int×(List α))) (fun (v3,v4,i)=>
 bif (decide (v4<=a0)) then (
 (Xn cmp v3 v4 i).bind fun h=>
 (Ff g.length h).bind fun l=>
 some (.inl (v4,(Ac (v4+20)),h))
 )
 else (
 some (.inr (v3,v4,i))
 )
  ) (0,20,g)).bind fun (v8,v9,f)=>
 (Xn cmp v8 a0 f).bind fun c=>
 (Ff g.length c).bind fun v12=>
 (Am (S:=(Int×Int×Int)) (E:=Unit) (fun (b,k,j)=>
 bif (decide (b<a0)) then (
 (Am (S:=Unit) (E:=Unit) (fun _=>
 bif (decide ((Ac (2*b))<=a0)) then (
 none
 )
 else (
 some (.inr ())
 )
  ) ()).bind fun _=>
 bif (decide ((Ac (0+b))<a0)) then (
 none
 )
 else (
 some (.inl ((Ac (b*2)),0,(Ac (2*b))))
 )
 )
 else (
 some (.inr ())
 )
  ) (20,v8,v9)).bind fun _=>
 some c
theorem Agl {α:Type} {cmp:α->α->Option Int} {c:α->α->Int} (L:M4 c) (f:List α) (g:∀x∈f,∀y∈f,cmp x y=some (c x y)) (h:f.length<20) :
  ∃R,Xp cmp (f.length:Int) f=some R/\R.Perm f/\R.Pairwise (fun a b=>¬c b a<0):=by
 obtain ⟨R,h1,h2,h3⟩:=Aoo L f g (by omega)
 refine ⟨R,?_,h2,h3⟩
 unfold Xp
 refine bnd (a:=(0,20,f)) (Dx ?_) ?_
 .simp only [Ar (by omega:¬(20:Int)<=(f.length:Int)),cond_false]
 .dsimp only
  rw [h1,Ad,K0 h2.length_eq.symm,Ad]
  refine bnd (a:=()) (Dx ?_) rfl
  simp only [Ar (by omega:¬(20:Int)<(f.length:Int)),cond_false]
theorem Rq:M4 Ep where
 irr x:=by rw [(G1.zero x x trivial trivial).2 rfl]; omega
 trs x y z h1 h2:=G1.trans x y z trivial trivial trivial h1 h2
 ntr x y z h1 h2 h3:=by
  rcases Int.lt_trichotomy (Ep x y) 0 with k | k | k
  .exact h1 k
  .have:=(G1.zero x y trivial trivial).1 k
   subst this; exact h2 h3
  .have b:Ep y x<0:=by rw [G1.anti x y trivial trivial]; omega
   exact h2 (G1.trans y x z trivial trivial trivial b h3)
theorem A07:M4 (fun a b:A6=>Ep a.Lin b.Lin):=⟨fun _=>Rq.irr _,fun _ _ _=>Rq.trs _ _ _,fun _ _ _=>Rq.ntr _ _ _⟩
def Abo (l:List A6):Prop:=l.Pairwise fun a b=>¬Ep b.Lin a.Lin<0
theorem Aow (b:List A6) (ht:∀a∈b,a.Lin.Terms.length<1099511627776) (c:b.length<20):∃R,S9 b=some R/\R.Perm b/\Abo R:=by
 obtain ⟨R,h1,h2,h3⟩:=Agl (cmp:=Ta) A07 b (fun x hx y _=>by
  unfold Ta
  rw [Aa5 x.Lin y.Lin (ht x hx)]; rfl) c
 refine ⟨R,?_,h2,h3⟩
 unfold S9
 have e:Zw (b.length:Int) b=Xp Ta (b.length:Int) b:=rfl
 rw [e,h1,Ad,K0 h2.length_eq.symm]; rfl
theorem A08:Ol []=some []:=by
 obtain ⟨R,h1,h2,h3⟩:=Agl (cmp:=Om) (c:=fun _ _=>0) ⟨fun _=>by omega,fun _ _ _ h=>by omega,fun _ _ _ _ _=>by omega⟩ ([]:List Bx) (fun x hx=>by cases hx) (by simp)
 have b:R = []:=List.Perm.eq_nil h2
 subst b
 unfold Ol
 have e:V9 ((([]:List Bx).length:Nat):Int) []=Xp Om ((([]:List Bx).length:Nat):Int) []:=rfl
 rw [e,h1]; rfl
theorem Agm {α:Type} (n:Nat) (h:n<=1000000):L9 (α:=α) (n:Int)=some []:=by
 unfold L9
 rw [Al (by omega),Al (by omega)]; rfl
theorem A09 (a b:List A6) (h:a.length+b.length<=1000000):Zr [a,b]=some (a++b) :=
 Agi (B:=40) (by decide) (gr:=Zy) (fun n h=>Agm n h) a b h
theorem A1a (a b:List Bx) (h:a.length+b.length<=1000000):Zq [a,b]=some (a++b) :=
 Agi (B:=40) (by decide) (gr:=Zx) (fun n h=>Agm n h) a b h
theorem Abp (m n:Ba) (h1:m.Factors.length+n.Factors.length<=1000000) (h2:m.Atoms.length+n.Atoms.length<=1000000):Mh m n=some ⟨m.Factors++n.Factors,m.Atoms++n.Atoms⟩:=by
 unfold Mh
 rw [A1a _ _ h1,Ad,A09 _ _ h2]; rfl
def atO (l:Ap) (k:Nat):List A6:=if k=0 then [] else [⟨l,k⟩]
theorem A1b (l:Ap) (k:Nat):Qi l (k:Int)=some (atO l k):=by
 unfold Qi atO
 by_cases h:k=0
 .rw [Ej (by omega),if_pos h]; rfl
 .rw [Cq (by omega),if_neg h]; rfl
theorem Aox (l:Ap) (k:Nat):(atO l k).length<=1:=by unfold atO; split <;> simp
abbrev FS:={F:List Bx // F.length<=1000}
theorem A1c {t:Ah} {x:Ak} {K:Nat} {A B:List A6} {F:FS} (hm:t.Mono=⟨F.1,A⟩) (b:A.length+B.length<=1000000) (i:K<30000000000) (h1:RB K t.Coef) (h2:RB 200 x) :
  ∃u,I5 t x ⟨[],B⟩=some u/\u.Mono=⟨F.1,A++B⟩/\rq u.Coef=rq t.Coef*rq x/\RB (K+202) u.Coef:=by
 obtain ⟨c,h,g,_,f⟩:=Rh h1 h2 (by omega) (by omega)
 refine ⟨⟨c,⟨F.1,A++B⟩⟩,?_,rfl,f,g⟩
 unfold I5
 have:=F.2
 rw [h,Ad,hm,Abp _ _ (by simp; omega) b,List.append_nil]; rfl
abbrev Dp:=List A6×Nat
inductive Ft (F:FS) (c:Rat) (K:Nat):List Ah->List Dp->Prop
 | nil:Ft F c K [] []
 | cons {t:Ah} {b:Dp} {ts:List Ah} {bs:List Dp}:t.Mono=⟨F.1,b.1⟩->rq t.Coef=c*(b.2:Rat)->RB K t.Coef->Ft F c K ts bs->Ft F c K (t::ts) (b::bs)
theorem Ft.len {F:FS} {c:Rat} {K:Nat} {ts:List Ah} {bs:List Dp} (h:Ft F c K ts bs):ts.length=bs.length:=by
 induction h with
 | nil=>rfl
 | cons _ _ _ _ ih=>simp [ih]
theorem Ft.app {F:FS} {c:Rat} {K:Nat} {ts f:List Ah} {bs cs:List Dp} (h:Ft F c K ts bs) (h':Ft F c K f cs):Ft F c K (ts++f) (bs++cs):=by
 induction h with
 | nil=>exact h'
 | cons a b d _ ih=>exact .cons a b d ih
theorem Ft.mono {F:FS} {c:Rat} {K f:Nat} {ts:List Ah} {bs:List Dp} (h:Ft F c K ts bs) (hk:K<=f):Ft F c f ts bs:=by
 induction h with
 | nil=>exact .nil
 | cons a b d _ ih=>exact .cons a b (d.mono hk) ih
theorem Ft.get {F:FS} {c:Rat} {K:Nat} {ts:List Ah} {bs:List Dp} (h:Ft F c K ts bs):∀{j:Nat} {t:Ah},ts[j]? = some t->∃b,bs[j]? = some b/\t.Mono=⟨F.1,b.1⟩/\rq t.Coef=c*(b.2:Rat)/\RB K t.Coef:=by
 induction h with
 | nil=>intro j t h; simp at h
 | @cons t b ts bs a1 a2 a3 _ ih=>
  intro j u hj
  cases j with
  | zero=>
   simp only [List.getElem?_cons_zero,Option.some.injEq] at hj
   subst hj
   exact ⟨b,rfl,a1,a2,a3⟩
  | succ j=>
   simp only [List.getElem?_cons_succ] at hj
   simpa using ih hj
def fs0:FS:=⟨[],by decide⟩
abbrev Rep (c:Rat) (K:Nat):List Ah->List Dp->Prop:=Ft fs0 c K
def Ew (B:List Dp) (l:Ap) (f:Nat->Nat) (n:Nat):List Dp:=(List.range n).flatMap fun k=>if f k=0 then [] else B.map fun b=>(b.1++atO l k,b.2*f k)
theorem Rr (B:List Dp) (l:Ap) (f:Nat->Nat) (n:Nat):Ew B l f (n+1)=Ew B l f n++(if f n=0 then [] else B.map fun b=>(b.1++atO l n,b.2*f n)):=by
 unfold Ew
 rw [List.range_succ,List.flatMap_append]; simp
theorem Abq (B:List Dp) (l:Ap) (f:Nat->Nat) (n:Nat):(Ew B l f n).length<=n*B.length:=by
 induction n with
 | zero=>simp [Ew]
 | succ n ih=>
  rw [Rr,List.length_append,Nat.add_mul,Nat.one_mul]
  have:(if f n=0 then ([]:List Dp) else B.map fun b=>(b.1++atO l n,b.2*f n)).length<=B.length:=by split <;> simp
  omega
noncomputable def Xq (h:List Ah) (l:Ap) (k:Int) (x:Ak):Int×List Ah->Option ((Int×List Ah)⊕(Int×List Ah)):=fun (b,c)=>
 bif (decide (b<(h.length:Int))) then (
 (Ag h b).bind fun g=>
 (Qi l k).bind fun v194=>
 (I5 g x (Ba.mk [] v194)).bind fun f=>
 (B7 104 c [f]).bind fun i=>
 some (.inl ((Ac (b+1)),i))
 )
 else (
 some (.inr (b,c))
 )
theorem A1d {F:FS} {c:Rat} {K M:Nat} {g o:List Ah} {B:List Dp} {l:Ap} {k f:Nat} {x:Ak} (hr:Ft F c K g B) (hx:rq x=(f:Rat)) (q:RB 200 x) (R:K<30000000000) (N:∀b∈B,b.1.length<=M) (L:M<=1000) (Z:o.length+g.length<=1000000000) :
  ∃T,Am (Xq g l (k:Int) x) (0,o)=some ((g.length:Int),o++T)/\Ft F c (K+202) T (B.map fun b=>(b.1++atO l k,b.2*f)):=by
 obtain ⟨e,V,T,U,S⟩:=Ip (step:=Xq g l (k:Int) x) (fun s=>∃(j:Nat) (T:List Ah),s=((j:Int),o++T)/\j<=g.length/\T.length=j/\Ft F c (K+202) T ((B.take j).map fun b=>(b.1++atO l k,b.2*f))) (fun s=>g.length-s.1.toNat)
  (fun e=>∃T,e=((g.length:Int),o++T)/\Ft F c (K+202) T (B.map fun b=>(b.1++atO l k,b.2*f))) (by
  rintro _ ⟨j,T,rfl,hj,J,y⟩
  rcases Nat.lt_or_ge j g.length with h | h
  .left
   have i:g[j]? = some g[j]:=B3 h
   generalize g[j]=t at i
   obtain ⟨b,b1,b2,Y,X⟩:=hr.get i
   have I:=N b (Cp b1)
   have:=Aox l k
   obtain ⟨u,G,E,D,z⟩:=A1c (A:=b.1) (B:=atO l k) b2 (by omega) R X q
   refine ⟨_,?_,⟨j+1,T++[u],rfl,by omega,by simp [J],?_⟩,by simp; omega⟩
   .unfold Xq
    simp only [Al (by omega:(j:Int)<(g.length:Int)),cond_true,Cd rfl i,Ad,A1b,G,C7 h (by omega)]
    rw [Da (by simp; omega),Ad,List.append_assoc]
   .rw [De b1,List.map_append]
    refine y.app (.cons E ?_ z .nil)
    rw [D,Y,hx]
    show _=c*((b.2*f:Nat):Rat)
    rw [Rat.natCast_mul]; grind
  .have:j=g.length:=by omega
   subst this
   right
   refine ⟨_,by unfold Xq; simp only [Ar (by omega:¬(g.length:Int)<(g.length:Int)),cond_false],T,rfl,?_⟩
   rw [List.take_of_length_le (by rw [hr.len]; exact Nat.le_refl _)] at y
   exact y) (0,o) ⟨0,[],by simp,by omega,rfl,.nil⟩
 exact ⟨T,by rw [<-U]; exact V,S⟩
end Go.Ab
namespace Go.Ab
open Go
noncomputable def Abr (g:List Ah) (l:Ap) (p:List Ak):Int×List Ah->Option ((Int×List Ah)⊕(Int×List Ah)):=fun (v173,b)=>
 bif (decide (v173<(p.length:Int))) then (
 (Ag p v173).bind fun v175=>
 (F1 v175).bind fun c=>
 bif (c==(0:Int)) then (
 some (.inl ((Ac (v173+1)),b))
 )
 else (
 (Am (Xq g l v173 v175) (0,b)).bind fun (h,f)=>
 some (.inl ((Ac (v173+1)),f))
 )
 )
 else (
 some (.inr (v173,b))
 )
theorem A1e {F:FS} {c:Rat} {K M n:Nat} {g:List Ah} {B:List Dp} {l:Ap} {f:Nat->Nat} (hr:Ft F c K g B) (G:∀k,k<n->f k<Big) (L:K<30000000000) (J:∀b∈B,b.1.length<=M) (y:M<=1000) (X:n<=1000) (Y:g.length<=1000000) :
  ∃T,Am (Abr g l (Ls n f)) (0,[])=some ((n:Int),T)/\Ft F c (K+202) T (Ew B l f n):=by
 obtain ⟨e,V,T,S,R⟩:=Ip (step:=Abr g l (Ls n f)) (fun s=>∃(j:Nat) (T:List Ah),s=((j:Int),T)/\j<=n/\Ft F c (K+202) T (Ew B l f j)) (fun s=>n-s.1.toNat)
  (fun e=>∃T,e=((n:Int),T)/\Ft F c (K+202) T (Ew B l f n)) (by
  rintro _ ⟨j,T,rfl,hj,q⟩
  unfold Abr
  rw [Mw]
  rcases Nat.lt_or_ge j n with h | h
  .left
   have A:=Abq B l f j
   have I:=q.len
   have N:=hr.len
   have z:j*B.length<=1000*1000000:=Nat.mul_le_mul (by omega) (by omega)
   have x:j*B.length+B.length<=1000*B.length:=by
    have:(j+1)*B.length<=1000*B.length:=Nat.mul_le_mul_right _ (by omega)
    rw [Nat.add_mul] at this; omega
   have i:=G j h
   simp only [Al (by omega:(j:Int)<(n:Int)),cond_true,Cd rfl (K1 f h),Ad,(Np.c i).sign,C7 h (by omega)]
   by_cases h0:f j=0
   .refine ⟨_,by rw [if_pos h0]; rfl,⟨j+1,T,rfl,by omega,?_⟩,by simp; omega⟩
    rw [Rr,if_pos h0,List.append_nil]; exact q
   .have u:RB 200 (cR (f j)):=(Np.c i).rb
    obtain ⟨U,E,D⟩:=A1d (o:=T) (l:=l) (k:=j) (f:=f j) hr (Abl (f j)) u L J y (by omega)
    refine ⟨_,by rw [if_neg h0,E]; rfl,⟨j+1,T++U,rfl,by omega,?_⟩,by simp; omega⟩
    rw [Rr,if_neg h0]
    exact q.app D
  .have:j=n:=by omega
   subst this
   right
   exact ⟨_,by simp only [Ar (by omega:¬(j:Int)<(j:Int)),cond_false],T,rfl,q⟩) (0,[]) ⟨0,[],rfl,by omega,.nil⟩
 exact ⟨T,by rw [<-S]; exact V,R⟩
def Pw (l:Ap) (N:Nat) (f:Nat->Nat) (g:List A6):Prop:=(l.Terms.length≠0/\PwN g N f)\/(l.Terms.length=0/\N=0/\f 0=prb l.Const.toNat g)
abbrev Grp:=Ap×Nat×(Nat->Nat)
inductive Gs:List Grp->List A6->Prop
 | nil:Gs [] []
 | cons {l:Ap} {N:Nat} {f:Nat->Nat} {g rest:List A6} {gs:List Grp}:g≠[]->(∀a∈g,a.Lin=l)->(∀a∈rest,Ep l a.Lin<0)->Pw l N f g->Gs gs rest->Gs ((l,N,f)::gs) (g++rest)
def H4 (B:List Dp):List Grp->List Dp
 | []=>B
 | q::gs=>H4 (Ew B q.1 q.2.2 (q.2.1+1)) gs
structure Atk (A:List A6):Prop where
 deg:∀a∈A,0<=a.Deg
 lin:∀a∈A,B5 a.Lin=true
 sum:B9 A<=12
 len:A.length<=12
theorem Jk {a:Ap} (h:B5 a=true):a.Terms.length<=16/\-1048576<=a.Const/\a.Const<=1048576:=by
 unfold B5 at h
 simp only [C2,decide_eq_true_eq] at h
 exact ⟨h.1.2.2,h.1.1,h.1.2.1⟩
theorem Atk.sub {A B:List A6} (h:Atk (A++B)):Atk A/\Atk B:=by
 have h1:=h.sum
 have h2:=h.len
 rw [Lz] at h1
 rw [List.length_append] at h2
 exact ⟨⟨fun a ha=>h.deg a (by simp [ha]),fun a ha=>h.lin a (by simp [ha]),by omega,by omega⟩,⟨fun a ha=>h.deg a (by simp [ha]),fun a ha=>h.lin a (by simp [ha]),by omega,by omega⟩⟩
theorem A1f {l:Ap} {g:List A6} (hk:Atk g) (b:g≠[]) (j:∀a∈g,a.Lin=l):∃N f,Lm g=some (Ls (N+1) f)/\Pw l N f g/\N<=B9 g/\∀k,k<N+1->f k<Big:=by
 have s:=hk.len
 have q:=hk.sum
 obtain ⟨a,ha⟩:∃a,a∈g:=by
  cases g with
  | nil=>exact (b rfl).elim
  | cons a _=>exact ⟨a,by simp⟩
 have c:=hk.lin a ha
 rw [j a ha] at c
 have hc:=(Jk c).2.2
 by_cases h:l.Terms.length=0
 .have h1:=A06 g hc (fun a ha=>by rw [j a ha]; exact ⟨h,rfl⟩) hk.deg hk.sum (by omega)
  exact ⟨0,fun _=>prb l.Const.toNat g,h1,.inr ⟨h,rfl,rfl⟩,by omega,fun k _=>T9 (by omega) q⟩
 .obtain ⟨N,f,h1,h2⟩:=A04 g b (fun a ha=>by rw [j a ha]; exact h) hk.deg hk.sum (by omega)
  refine ⟨N,f,h1,.inl ⟨h,h2⟩,by rw [h2.1]; exact Nat.le_refl _,fun k i=>Nat.lt_of_le_of_lt (h2.le i) (T9 ?_ q)⟩
  have:=h2.1
  omega
noncomputable def Abs (r:List A6) (l:Ap):Int->Option (Int⊕Int):=fun b=>
 bif (decide (b<(r.length:Int))) then (
 (Ag r b).bind fun v117=>
 (Ko v117.Lin l).bind fun c=>
 bif (c==(0:Int)) then (
 some (.inl (Ac (b+1)))
 )
 else (
 some (.inr b)
 )
 )
 else (
 some (.inr b)
 )
theorem A1g {r:List A6} {a:A6} (h0:r[0]? = some a) (ht:∀b∈r,b.Lin.Terms.length<1099511627776) (q:r.length<=1000) :
  ∃n:Nat,Am (Abs r a.Lin) 1=some (n:Int)/\1<=n/\n<=r.length/\(∀b∈r.take n,b.Lin=a.Lin)/\∀b,r[n]? = some b->b.Lin≠a.Lin:=by
 have hpos:=E8 h0
 obtain ⟨e,l,n,k,i⟩:=Ip (step:=Abs r a.Lin) (fun s=>∃n:Nat,s=(n:Int)/\1<=n/\n<=r.length/\∀b∈r.take n,b.Lin=a.Lin) (fun s=>r.length-s.toNat)
  (fun e=>∃n:Nat,e=(n:Int)/\1<=n/\n<=r.length/\(∀b∈r.take n,b.Lin=a.Lin)/\∀b,r[n]? = some b->b.Lin≠a.Lin) (by
  rintro _ ⟨j,rfl,g,f,c⟩
  unfold Abs
  rcases Nat.lt_or_ge j r.length with h | h
  .have hx:r[j]? = some r[j]:=B3 h
   have hm:=List.getElem_mem h
   generalize r[j]=b at hx hm
   simp only [Al (by omega:(j:Int)<(r.length:Int)),cond_true,Cd rfl hx,Ad,Aa5 _ _ (ht b hm),C7 h (by omega)]
   by_cases hc:b.Lin=a.Lin
   .left
    rw [Ej ((G1.zero _ _ trivial trivial).2 hc)]
    refine ⟨_,rfl,⟨j+1,rfl,by omega,by omega,fun d hd=>?_⟩,by omega⟩
    rw [De hx] at hd
    rcases List.mem_append.1 hd with hd | hd
    .exact c d hd
    .simp only [List.mem_singleton] at hd
     rw [hd]; exact hc
   .right
    rw [Cq (fun h=>hc ((G1.zero _ _ trivial trivial).1 h))]
    exact ⟨_,rfl,j,rfl,g,f,c,fun d hd=>by rw [hx] at hd; cases hd; exact hc⟩
  .right
   refine ⟨_,by simp only [Ar (by omega:¬(j:Int)<(r.length:Int)),cond_false],j,rfl,g,f,c,fun d hd=>?_⟩
   have:=E8 hd
   omega) 1 ⟨1,rfl,by omega,by omega,fun b hb=>by
    cases r with
    | nil=>simp at hpos
    | cons x r=>simp at hb h0; rw [hb,h0]⟩
 exact ⟨n,by rw [<-k]; exact l,i⟩
noncomputable def Xr:(List Ah×List A6)->Option ((List Ah×List A6)⊕List Ah):=fun (g,b)=>
 bif (decide ((b.length:Int)>(0:Int))) then (
 (Ag b 0).bind fun f=>
 (Am (Abs b f.Lin) 1).bind fun c=>
 (Dy b 0 c).bind fun i=>
 (Lm i).bind fun h=>
 (Am (Abr g f.Lin h) (0,[])).bind fun (k,j)=>
 (Dy b c b.length).bind fun v201=>
 some (.inl (j,v201))
 )
 else (
 some (.inr g)
 )
theorem A1h (n:Nat):n+1<=2 ^ n:=by
 induction n with
 | zero=>decide
 | succ n ih=>rw [Nat.pow_succ]; omega
theorem Aoy {B:List Dp} {l:Ap} {f:Nat->Nat} {n M:Nat} (c:∀b∈B,b.1.length<=M):∀b∈Ew B l f n,b.1.length<=M+1:=by
 intro b hb
 unfold Ew at hb
 rw [List.mem_flatMap] at hb
 obtain ⟨k,_,hk⟩:=hb
 split at hk
 .cases hk
 .rw [List.mem_map] at hk
  obtain ⟨d,hd,rfl⟩:=hk
  have:=c d hd
  have:=Aox l k
  simp only [List.length_append]; omega
theorem Aoz {F:FS} {c:Rat}:∀(n:Nat) (rest:List A6) (j:List Ah) (B:List Dp) (K M:Nat),rest.length<=n->Abo rest->Atk rest->Ft F c K j B->(∀b∈B,b.1.length<=M)->M+rest.length<=1000->K+202*rest.length<30000000000->B.length*2 ^ B9 rest<=1000000 ->
  ∃gs i,Am Xr (j,rest)=some i/\Gs gs rest/\Ft F c (K+202*rest.length) i (H4 B gs)/\i.length<=B.length*2 ^ B9 rest:=by
 intro n
 induction n with
 | zero=>
  intro rest j B K M hn _ _ A _ _ _ _
  have:rest = []:=List.length_eq_zero_iff.1 (by omega)
  subst this
  exact ⟨[],j,Dx (by unfold Xr; simp),.nil,by simpa [H4] using A,by rw [A.len]; simp [B9]⟩
 | succ n ih=>
  intro rest j B K M hn hS R A hM ae hK E
  cases g:rest with
  | nil=>
   exact ⟨[],j,Dx (by unfold Xr; simp),.nil,by simpa [H4] using A.mono (by omega),by rw [A.len]; simp [B9]⟩
  | cons a r'=>
   rw [<-g]
   have h0:rest[0]? = some a:=by rw [g]; rfl
   have ab:0<rest.length:=E8 h0
   have hT:∀b∈rest,b.Lin.Terms.length<1099511627776:=fun b hb=>by have:=(Jk (R.lin b hb)).1; omega
   have af:=R.len
   obtain ⟨m,m1,m2,m3,m4,m5⟩:=A1g h0 hT (by omega)
   have u:rest=rest.take m++rest.drop m:=(List.take_append_drop m rest).symm
   have L:=(u ▸ R:Atk (rest.take m++rest.drop m)).sub
   have y:rest.take m≠[]:=by
    intro h
    have:=congrArg List.length h
    rw [List.length_take] at this
    simp only [List.length_nil] at this
    omega
   obtain ⟨N,f,p1,p2,p3,p4⟩:=A1f L.1 y m4
   have Z:B9 rest=B9 (rest.take m)+B9 (rest.drop m):=by rw [<-Lz,List.take_append_drop]
   have ac:=R.sum
   have U:2 ^ B9 rest=2 ^ B9 (rest.take m)*2 ^ B9 (rest.drop m):=by rw [Z,Nat.pow_add]
   have aa:B.length<=1000000:=Nat.le_trans (Nat.le_mul_of_pos_right _ (Nat.pow_pos (by decide))) E
   obtain ⟨T,t1,t2⟩:=A1e (l:=a.Lin) (n:=N+1) A p4 (by omega) hM (by omega) (by omega) (by rw [A.len]; exact aa)
   have z:Xr (j,rest)=some (.inl (T,rest.drop m)):=by
    have Y:Ag rest 0=some a:=Cd (n:=0) rfl h0
    have S:Dy rest (m:Int) (rest.length:Int)=some (rest.drop m):=by
     unfold Dy
     simp [List.drop_take]
     omega
    unfold Xr
    simp only [Al (by omega:(rest.length:Int)>0),cond_true,Y,Ad,m1,Aaf rfl m3,p1,t1,S]
   have ad:(rest.drop m).length+m=rest.length:=by rw [List.length_drop]; omega
   have a8:=Abq B a.Lin f (N+1)
   have J:(N+1)*B.length<=B.length*2 ^ B9 (rest.take m):=by
    rw [Nat.mul_comm]
    refine Nat.mul_le_mul_left _ (Nat.le_trans (A1h N) (Nat.pow_le_pow_right (by decide) p3))
   have x:(Ew B a.Lin f (N+1)).length*2 ^ B9 (rest.drop m)<=B.length*2 ^ B9 rest:=by
    rw [U,<-Nat.mul_assoc]
    exact Nat.mul_le_mul_right _ (Nat.le_trans a8 J)
   obtain ⟨gs,i,g1,g2,g3,g4⟩:=ih (rest.drop m) T (Ew B a.Lin f (N+1)) (K+202) (M+1) (by omega) (List.Pairwise.sublist (List.drop_sublist m rest) hS) L.2 t2 (Aoy hM) (by omega) (by omega) (Nat.le_trans x E)
   refine ⟨(a.Lin,N,f)::gs,i,by rw [G6 z,g1],?_,g3.mono (by omega),Nat.le_trans g4 x⟩
   have X:∀b∈rest.drop m,Ep a.Lin b.Lin<0:=by
    intro b hb
    cases hd:rest.drop m with
    | nil=>rw [hd] at hb; cases hb
    | cons d D=>
     have q:rest[m]? = some d:=by
      have:=congrArg (fun l=>l[0]?) hd
      simpa using this
     have a6:=m5 d q
     have a7:¬Ep d.Lin a.Lin<0:=by
      have I:=hS
      rw [g] at I
      have a1:d∈r':=by
       have:=Cp q
       have V:m=(m-1)+1:=by omega
       rw [g,V,List.getElem?_cons_succ] at q
       exact Cp q
      exact (List.pairwise_cons.1 I).1 d a1
     have s:Ep a.Lin d.Lin<0:=by
      rcases Int.lt_trichotomy (Ep d.Lin a.Lin) 0 with k | k | k
      .exact (a7 k).elim
      .exact (a6 ((G1.zero _ _ trivial trivial).1 k)).elim
      .rw [G1.anti d.Lin a.Lin trivial trivial]; omega
     rw [hd] at hb
     rcases List.mem_cons.1 hb with rfl | hb
     .exact s
     .have G:Abo (rest.drop m):=List.Pairwise.sublist (List.drop_sublist m rest) hS
      rw [hd] at G
      have h3:=(List.pairwise_cons.1 G).1 b hb
      rcases Int.lt_trichotomy (Ep b.Lin d.Lin) 0 with k | k | k
      .exact (h3 k).elim
      .rw [(G1.zero _ _ trivial trivial).1 k]; exact s
      .exact G1.trans a.Lin d.Lin b.Lin trivial trivial trivial s (by rw [G1.anti b.Lin d.Lin trivial trivial]; omega)
   have:=Gs.cons y m4 X p2 g2
   rwa [List.take_append_drop] at this
end Go.Ab
