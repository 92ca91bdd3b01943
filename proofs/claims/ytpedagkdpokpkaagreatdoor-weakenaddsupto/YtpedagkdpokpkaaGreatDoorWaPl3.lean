/- Plain laws: what the plain functions answer. -/
import Derived.Test.YtpedagkdpokpkaaGreatDoorWaPl2
namespace Go.Ab
open Go
theorem Agc (t u:Ah) (h:MSz t.Mono):Nc t u=some (Da t.Mono u.Mono):=by
 unfold Nc
 rw [Amx _ _ h]; rfl
theorem Azl {α:Type} (A R:List α) (x y:α):((A++y::x::R).set (A.length+1) y).set A.length x=A++x::y::R:=by
 induction A with
 | nil=>rfl
 | cons a A ih=>simp only [List.cons_append,List.length_cons,List.set_cons_succ,ih]
theorem Aoa {α:Type} (A R:List α) (x:α):(A++x::R)[A.length]? = some x:=by simp
theorem Azm {α:Type} (A R:List α) (x y:α):(A++y::x::R)[A.length+1]? = some x:=by
 induction A with
 | nil=>rfl
 | cons a A ih=>simp
theorem Azn {step:Int×List Ah->Option ((Int×List Ah)⊕(Int×List Ah))} (N:Nat) (E:N<4611686018427387904)
  (b:∀(x:Ah) (R:List Ah),step (0,x::R)=some (.inr (0,x::R)))
  (k:∀(A R:List Ah) (x y:Ah),(∀t∈A++y::x::R,MSz t.Mono)->(A++y::x::R).length<=N->step (((A.length+1:Nat):Int),A++y::x::R) =
   if Da x.Mono y.Mono<0 then some (.inl ((A.length:Int),A++x::y::R)) else some (.inr (((A.length+1:Nat):Int),A++y::x::R))) :
  ∀(n:Nat) (A R:List Ah) (x:Ah),A.length=n->(∀t∈A++x::R,MSz t.Mono)->(A++x::R).length<=N ->
   ∃f i,Am step ((A.length:Int),A++x::R)=some ((f.length:Int),f++x::(i++R))/\A=f++i/\(∀a∈i,ltT x a)/\∀l y,f=l++[y]->¬ltT x y:=by
 intro n
 induction n with
 | zero=>
  intro A R x g _ _
  have:A = []:=List.length_eq_zero_iff.1 g
  subst this
  exact ⟨[],[],D0 (b x R),rfl,(fun _ h=>by cases h),(fun l y h=>by simp at h)⟩
 | succ n ih=>
  intro A R x g hm c
  obtain ⟨B,y,rfl⟩:∃B y,A=B++[y]:=by
   rcases List.eq_nil_or_concat A with h | ⟨B,y,h⟩
   .rw [h] at g; cases g
   .exact ⟨B,y,by simpa using h⟩
  have s:B.length=n:=by simpa using g
  have D:(B++[y])++x::R=B++y::x::R:=by simp
  have el:(((B++[y]).length:Nat):Int)=((B.length+1:Nat):Int):=by simp
  rw [D] at hm c ⊢
  rw [el]
  have j:=k B R x y hm c
  by_cases hc:Da x.Mono y.Mono<0
  .rw [if_pos hc] at j
   obtain ⟨f,i,h1,h2,h3,u⟩:=ih B (y::R) x s (by
    intro t ht
    refine hm t ?_
    simp only [List.mem_append,List.mem_cons] at ht ⊢
    rcases ht with h | h | h | h <;> simp [h]) (by simpa using c)
   refine ⟨f,i++[y],?_,by rw [h2]; simp,?_,u⟩
   .rw [Ha j,h1]; simp
   .intro a ha
    rcases List.mem_append.1 ha with ha | ha
    .exact h3 a ha
    .simp only [List.mem_singleton] at ha
     subst ha; exact hc
  .rw [if_neg hc] at j
   refine ⟨B++[y],[],?_,by simp,(fun _ h=>by cases h),?_⟩
   .rw [D0 j]; simp
   .intro l z q
    have:=List.append_inj' q rfl
    have e:y=z:=by simpa using this.2
    subst e; exact hc
theorem Azo {a b c:Ah} (h:ltT a b) (h':ltT b c):ltT a c:=T8 h h'
theorem Azp {c j:List Ah} {x:Ah} (u:(c++j).Pairwise ltT) (h2:∀a∈j,ltT x a) (h1:∀g y,c=g++[y]->¬ltT x y) (hd:∀a∈c,a.Mono≠x.Mono):(c++x::j).Pairwise ltT:=by
 obtain ⟨i,s,l⟩:=List.pairwise_append.1 u
 have hx:∀a∈c,ltT a x:=by
  intro a ha
  rcases List.eq_nil_or_concat c with h | ⟨g,y,h⟩
  .rw [h] at ha; cases ha
  .have h:c=g++[y]:=by simpa using h
   have f:ltT y x:=by
    have q:=h1 g y h
    have z:=hd y (by rw [h]; simp)
    unfold ltT at *
    rcases Int.lt_trichotomy (Da x.Mono y.Mono) 0 with k | k | k
    .exact (q k).elim
    .exact (z (Jl.1 k).symm).elim
    .exact Afz.1 k
   rw [h] at ha i
   rcases List.mem_append.1 ha with ha | ha
   .exact Azo ((List.pairwise_append.1 i).2.2 a ha y (by simp)) f
   .simp only [List.mem_singleton] at ha
    subst ha; exact f
 refine List.pairwise_append.2 ⟨i,List.pairwise_cons.2 ⟨h2,s⟩,fun a ha b hb=>?_⟩
 rcases List.mem_cons.1 hb with rfl | hb
 .exact hx a ha
 .exact l a ha b hb
noncomputable def Xg:Int×List Ah->Option ((Int×List Ah)⊕(Int×List Ah)):=fun (v31,b)=>
 (show Option Bool from
 bif (decide (v31>(0:Int))) then (
 (Ag b v31).bind fun v33=>
 (Ag b (Ac (v31-1))).bind fun g=>
 (Nc v33 g).bind fun v35=>
 some (decide (v35<(0:Int))))
 else some false).bind fun f=>
 bif f then (
 (Ag b (Ac (v31-1))).bind fun v37=>
 (Ag b v31).bind fun c=>
 (Ag b v31).bind fun v39=>
 (Ag (Cr b v31 v37) (Ac (v31-1))).bind fun v40=>
 some (.inl ((Ac (v31-1)),(Cr (Cr b v31 v37) (Ac (v31-1)) c))))
 else some (.inr (v31,b))
theorem Azq (y:Ah) (R:List Ah):Xg (0,y::R)=some (.inr (0,y::R)):=by
 unfold Xg
 simp only [Aq (by omega:¬(0:Int)>0),cond_false,Ad]
theorem Azr {N:Nat} (h:N<=1099511627776) (A R:List Ah) (u y:Ah) (b:∀t∈A++y::u::R,MSz t.Mono) (c:(A++y::u::R).length<=N):Xg (((A.length+1:Nat):Int),A++y::u::R) =
  if Da u.Mono y.Mono<0 then some (.inl ((A.length:Int),A++u::y::R)) else some (.inr (((A.length+1:Nat):Int),A++y::u::R)):=by
 have g:A.length+1<N:=by simp at c; omega
 have f:Ac (((A.length+1:Nat):Int)-1)=(A.length:Int):=by rw [Ac,Bx] <;> omega
 unfold Xg
 simp only [Al (by omega:((A.length+1:Nat):Int)>0),cond_true,f,Cj (n:=A.length+1) rfl (Azm A R u y),Cj (n:=A.length) rfl (Aoa A (u::R) y),Ad,Agc u y (b u (by simp))]
 by_cases hc:Da u.Mono y.Mono<0
 .rw [Al hc,if_pos hc]
  simp only [cond_true]
  rw [Fq (n:=A.length+1) rfl,Fq (n:=A.length) rfl,Azl]
  have:Ag ((A++y::u::R).set (A.length+1) y) (A.length:Int)=some y:=by
   refine Cj rfl ?_
   rw [List.getElem?_set_ne (by omega)]; exact Aoa A (u::R) y
  rw [this]; rfl
 .rw [Aq hc,if_neg hc]; rfl
theorem Azs (b:List Ah) (hd:Dst b) (hm:∀t∈b,MSz t.Mono) (L:b.length<=1099511627776) :
  ∃R,V5 0 (b.length:Int) b=some R/\R.Perm b/\R.Pairwise ltT:=by
 unfold V5
 cases b with
 | nil=>
  refine ⟨[],?_,List.Perm.refl _,List.Pairwise.nil⟩
  refine G3 0 (fun _=>((1:Int),([]:List Ah))) (by simp [Ac,Bx]) (fun j hj=>by omega) ⟨[],?_,rfl⟩
  simp
 | cons z0 A=>
 generalize f:z0::A=b at *
 have hpos:1<=b.length:=by rw [<-f]; simp
 refine Fb (fun s=>∃(i:Nat) (S:List Ah),s=((i:Int),S++b.drop i)/\1<=i/\i<=b.length/\S.length=i/\S.Perm (b.take i)/\S.Pairwise ltT) (fun s=>b.length-s.1.toNat)
  (fun R=>R.Perm b/\R.Pairwise ltT) ⟨1,[z0],by rw [<-f]; simp [Ac,Bx],by omega,hpos,rfl,by rw [<-f]; simp,List.pairwise_singleton _ _⟩ ?_ ?_
 .rintro _ ⟨i,S,rfl,I,M,G,c,k⟩
  rcases Nat.lt_or_ge i b.length with h | h
  .have hx:b[i]? = some b[i]:=B7 h
   generalize b[i]=x at hx
   have g:b.drop i=x::b.drop (i+1):=Iy hx
   have z:(S++x::b.drop (i+1)).length=b.length:=by simp; omega
   have y:∀t∈S++x::b.drop (i+1),t∈b:=by
    intro t ht
    rcases List.mem_append.1 ht with ht | ht
    .exact List.mem_of_mem_take (c.mem_iff.1 ht)
    .rw [<-g] at ht; exact List.mem_of_mem_drop ht
   simp only [Al (by omega:(i:Int)<(b.length:Int)),cond_true,Db h (by omega)]
   rw [g]
   left
   obtain ⟨q,l,h1,h2,h3,J⟩:=Azn (step:=Xg) b.length (by omega) Azq (Azr (by omega)) S.length S (b.drop (i+1)) x rfl (fun t ht=>hm t (y t ht)) (by rw [z]; exact Nat.le_refl _)
   rw [G] at h1
   have hp:(q++x::l).Perm (b.take (i+1)):=by
    rw [Dk hx]
    have:(q++x::l).Perm ((q++l)++[x]):=by
     rw [List.append_assoc]
     exact List.Perm.append_left q (List.perm_append_singleton x l).symm
    exact this.trans (by rw [<-h2]; exact c.append_right [x])
   refine ⟨(((i+1:Nat):Int),(q++x::l)++b.drop (i+1)),bnd h1 (by simp),⟨i+1,q++x::l,rfl,by omega,by omega,?_,hp,?_⟩,by simp; omega⟩
   .rw [hp.length_eq,List.length_take]; omega
   .rw [h2] at k
    refine Azp k h3 J fun a ha=>?_
    have E:a∈b.take i:=c.mem_iff.1 (by rw [h2]; simp [ha])
    have B:x∈b.drop i:=by rw [g]; simp
    have D:(b.take i++b.drop i).Pairwise fun t u=>t.Mono≠u.Mono:=by rw [List.take_append_drop]; exact hd
    exact (List.pairwise_append.1 D).2.2 a E x B
  .have:i=b.length:=by omega
   subst this
   rw [List.take_length] at c
   simp only [Aq (by omega:¬(b.length:Int)<(b.length:Int)),cond_false,List.drop_length,List.append_nil]
   exact .inr ⟨S,rfl,c,k⟩
 .rintro R ⟨h1,h2⟩
  exact ⟨R,rfl,h1,h2⟩
theorem K0 {α:Type} {n:Nat} {l:List α} (h:n=l.length):Fm n l=some ():=by unfold Fm; rw [if_pos h]
theorem Azt {s:ByteArray} {i:Int} (h0:0<=i) (h:i.toNat<s.size):∃c,Hy s i=some c:=by
 unfold Hy
 rw [if_pos h0]
 exact ⟨_,getElem?_pos s i.toNat h⟩
set_option maxRecDepth 20000 in
theorem Aob {n:Nat} (h:n<256):∃v,P7 (Ax (n:Int))=some v:=by
 unfold P7 Zo
 rw [Ax,C7 (by omega) (by omega),Aq (by omega)]
 simp only [cond_false,Ad]
 rw [Aq (by omega)]
 simp only [cond_false,Ad]
 rw [Aq (by omega)]
 simp only [cond_false,Ad]
 have b:wu8 (n:Int)=(n:Int):=by
  rw [wu8]; unfold IntKind.wrap; simp [IntKind.bits,IntKind.signed]; omega
 rw [b]
 generalize g:ByteArray.mk _=T
 have f:T.size=256:=by rw [<-g]; rfl
 obtain ⟨c,hc⟩:=Azt (s:=T) (i:=(n:Int)) (by omega) (by rw [f]; simpa using h)
 rw [hc]
 exact ⟨_,rfl⟩
theorem Azu (b:List Ah) (hd:Dst b) (hm:∀t∈b,MSz t.Mono) (f:b.length<=12):∃R,Nb b=some R/\R.Perm b/\R.Pairwise ltT:=by
 obtain ⟨R,h1,h2,h3⟩:=Azs b hd hm (by omega)
 obtain ⟨v,c⟩:=Aob (n:=b.length) (by omega)
 refine ⟨R,?_,h2,h3⟩
 unfold Nb
 rw [Nat.ble_eq_true_of_le f,cond_true]
 unfold Aee
 rw [c,Ad]
 have hp:Vs 0 (b.length:Int) v b=some R:=by
  unfold Vs
  refine bnd (a:=R) (D0 ?_) rfl
  have w:Ac ((b.length:Int)-0)=(b.length:Int):=by rw [Ac,Bx] <;> omega
  simp only [w,Al (by omega:(b.length:Int)<=12),cond_true,h1,Ad,K0 h2.length_eq.symm]
 rw [hp,Ad,K0 h2.length_eq.symm]; rfl
def clT (t:Ah):Ah:=⟨Bt (sv t.Coef) (nv t.Coef) (dv t.Coef),t.Mono⟩
theorem Azv {k:Nat} (p:List Ah) (hk:k<34359738000) (hp:∀t∈p,RB k t.Coef/\MSz t.Mono) (b:p.length<=1048576):Vf p=some (p.map clT):=by
 unfold Vf
 refine Iu p (fun j=>((j:Int),(p.take j).map clT)) rfl (by omega) ?_ ?_
 .intro j x hj hx h1 h2 h3
  obtain ⟨a1,a2⟩:=hp x (Ct hx)
  simp only [h1,h2,h3,cond_true,Ad,Aey x.Coef k a1 (by omega),Ay2 x.Mono a2]
  rw [Dj (by simp; omega),Ad,Dk hx]
  simp [clT]
 .intro h1
  exact ⟨p.map clT,by simp,rfl⟩
theorem Azw (p:List Ah) (m:Ba):cf (p.map clT) m=cf p m:=by
 induction p with
 | nil=>rfl
 | cons t p ih=>
  simp only [List.map_cons,cf,ih,clT]
  rw [Ly _ _ _ (E6 _)]; rfl
theorem Azx {p q:List Ah} (h:p.Perm q) (m:Ba):cf p m=cf q m:=by
 induction h with
 | nil=>rfl
 | cons x _ ih=>simp only [cf,ih]
 | swap x y l=>simp only [cf]; grind
 | trans _ _ h1 h2=>rw [h1,h2]
def nzT (t:Ah):Bool:=decide (rq t.Coef≠0)
theorem Azy (p:List Ah) (m:Ba):cf (p.filter nzT) m=cf p m:=by
 induction p with
 | nil=>rfl
 | cons t p ih=>
  by_cases h:rq t.Coef=0
  .rw [List.filter_cons_of_neg (by simp [nzT,h]),ih]; simp only [cf,h]; grind
  .rw [List.filter_cons_of_pos (by simp [nzT,h])]; simp only [cf,ih]
theorem Azz (x:Rat):(G4 x != (0:Int))=decide (x≠0):=by
 unfold G4
 by_cases h1:x<0
 .rw [if_pos h1]
  have:x≠0:=by intro e; subst e; exact absurd h1 (by decide)
  simp [this]
 .rw [if_neg h1]
  by_cases h2:0<x
  .rw [if_pos h2]
   have:x≠0:=by intro e; subst e; exact absurd h2 (by decide)
   simp [this]
  .rw [if_neg h2]
   have:x=0:=Rat.le_antisymm (Rat.not_lt.1 h2) (Rat.not_lt.1 h1)
   simp [this]
theorem Az0 {α:Type} {f:α->Bool} {l:List α} {j:Nat} {x:α} (h:l[j]? = some x):(l.take (j+1)).filter f=(l.take j).filter f++(if f x then [x] else []):=by
 rw [Dk h,List.filter_append]; congr 1; cases k:f x <;> simp [List.filter,k]
theorem Agd {k:Nat} {P:Ba->Prop} (q:∀m,P m->CMo m) (o:List (ByteArray×Int)) (ts:List Ah) (h:Col k P ts) (hk:k<34359738000) (A:ts.length<=1000)
  (z:∀c:List Ah,c.length<=ts.length->Dst c->(∀t∈c,MSz t.Mono)->∃R,Nb c=some R/\R.Perm c/\R.Pairwise ltT) :
  ∃R,Ie o ts=some (R,0)/\CP R/\(∀m,cf R m=cf ts m)/\(∀t∈R,P t.Mono/\RB (k+1) t.Coef)/\R.length<=ts.length:=by
 unfold Ie
 have g:(ts.filter nzT).length<=ts.length:=List.length_filter_le _ _
 obtain ⟨S,y,f,s⟩:=z (ts.filter nzT) g (List.Pairwise.filter _ h.dst) (fun t ht=>(q _ (h.mo t (List.mem_filter.1 ht).1)).sz)
 have b:∀t∈S,t∈ts/\rq t.Coef≠0:=by
  intro t ht
  have:=List.mem_filter.1 (f.mem_iff.1 ht)
  exact ⟨this.1,by simpa [nzT] using this.2⟩
 refine ⟨S.map clT,?_,⟨?_,?_⟩,?_,?_,?_⟩
 .refine Iu ts (fun j=>((j:Int),(ts.take j).filter nzT)) rfl (by omega) ?_ ?_
  .intro j x hj hx h1 h2 h3
   have hb:=h.tb x (Ct hx)
   have l:((ts.take j).filter nzT).length<=ts.length:=Nat.le_trans (List.length_filter_le _ _) (by rw [List.length_take]; omega)
   simp only [h1,h2,h3,cond_true,Ad,(Mx hb hk).1,Azz]
   rw [Az0 hx]
   by_cases i:rq x.Coef=0
   .have:nzT x=false:=by simp [nzT,i]
    rw [Aq (by simpa using i),this]; simp
   .have:nzT x=true:=by simp [nzT,i]
    rw [Al i,this]
    simp only [cond_true]
    rw [Dj (by simp; omega)]; simp
  .intro h1
   refine ⟨ts.filter nzT,by simp only [h1,cond_false,List.take_length],?_⟩
   rw [Aq (by omega)]
   simp only [cond_false]
   rw [y,Ad,K0 f.length_eq.symm,Ad,
    Azv (k:=k) S hk (fun t ht=>⟨h.tb t (b t ht).1,(q _ (h.mo t (b t ht).1)).sz⟩) (by rw [f.length_eq]; omega)]; rfl
 .rw [List.pairwise_map]; exact s
 .intro t ht
  obtain ⟨u,hu,rfl⟩:=List.mem_map.1 ht
  refine ⟨O8 _ _ _ (E6 _),?_⟩
  show rq (Bt _ _ _)≠0
  rw [Ly _ _ _ (E6 _)]; exact (b u hu).2
 .intro m
  rw [Azw,Azx f,Azy]
 .intro t ht
  obtain ⟨u,hu,rfl⟩:=List.mem_map.1 ht
  exact ⟨h.mo u (b u hu).1,Alm (h.tb u (b u hu).1)⟩
 .rw [List.length_map,f.length_eq]; exact g
end Go.Ab
namespace Go.Ab
open Go
theorem Aoc (x:Bj) (g:CSz x) (ps:List (List Ah)) (B:∀p∈ps,∀t∈p,TSz t) (S:ps.length<=1048576) :
  ∃r,I5 x ps=some r/\(((Fj x/\∀p∈ps,Hr x.Data x.Vars x.Res p=true)/\∃A,r = .inl (true,x,A,[],x.Data,x.Vars,x.Res.Kind,x.Res.Num,x.Res.Args)/\Dq x.Data x.Vars x.Res A) \/
   ((¬(Fj x/\∀p∈ps,Hr x.Data x.Vars x.Res p=true))/\r = .inr false)):=by
 obtain ⟨b,b1,b2⟩:=Al7 g.ds
 have M:=g.nv
 have L:=g.rs
 unfold I5
 rw [b1,Wx x.Data x.Res 0 (by omega)]
 by_cases l:x.Vars.length<=3000
 .rw [Aq (by omega)]
  simp only [cond_false,Ad]
  cases b with
  | false=>exact ⟨_,rfl,.inr ⟨fun h=>(by have:=b2.2 h.1.2.1; cases this),rfl⟩⟩
  | true=>
   have J:=b2.1 rfl
   simp only [D6,cond_false]
   cases E:(F9 x.Data 0 x.Res&&decide (B8 x.Res<=200)) with
   | false=>exact ⟨_,rfl,.inr ⟨fun h=>(by have:=h.1.2.2.1; rw [show Kz x.Data x.Res=false from E] at this; cases this),rfl⟩⟩
   | true=>
    simp only [D6,cond_false,Ad]
    refine Fb (fun i=>∃j:Nat,i=j/\j<=x.Vars.length/\(x.Vars.take j).all (Kz x.Data)=true) (fun i=>x.Vars.length-i.toNat)
     (fun z=>match z with | .inl r=>r=false/\¬Fj x | .inr _=>Fj x) ⟨0,rfl,by omega,by simp⟩ ?_ ?_
    .rintro i ⟨j,rfl,hj,c⟩
     rcases Nat.lt_or_ge j x.Vars.length with h | h
     .have ht:x.Vars[j]? = some x.Vars[j]:=B7 h
      generalize x.Vars[j]=t at ht
      have:=g.vs t (Ct ht)
      simp only [Al (by omega:(j:Int)<(x.Vars.length:Int)),cond_true,Cj rfl ht,Ad,Wx x.Data t 0 (by omega),Db h (by omega)]
      rw [show (F9 x.Data 0 t&&decide (B8 t<=200))=Kz x.Data t from rfl]
      cases G:Kz x.Data t with
      | true=>exact .inl ⟨_,rfl,⟨j+1,rfl,by omega,by rw [Dk ht,List.all_append,c]; simp [G]⟩,by simp; omega⟩
      | false=>
       refine .inr ⟨.inl false,rfl,rfl,fun D=>?_⟩
       have:=List.all_eq_true.1 D.2.2.2 t (Ct ht)
       rw [G] at this; cases this
     .have:j=x.Vars.length:=by omega
      subst this
      rw [List.take_length] at c
      exact .inr ⟨.inr (),by simp,l,J,E,c⟩
    .rintro (r | u) f
     .obtain ⟨rfl,f⟩:=f
      exact ⟨_,rfl,.inr ⟨fun h=>f h.1,rfl⟩⟩
     .have I:Fj x:=f
      simp only
      refine Fb (fun s=>∃(j:Nat) (o:List (ByteArray×Int)),s=((j:Int),o)/\j<=ps.length/\Dq x.Data x.Vars x.Res o/\∀p∈ps.take j,Hr x.Data x.Vars x.Res p=true) (fun s=>ps.length-s.1.toNat)
       (fun z=>match z with | .inl r=>r=false/\¬(∀p∈ps,Hr x.Data x.Vars x.Res p=true) | .inr o=>Dq x.Data x.Vars x.Res o/\∀p∈ps,Hr x.Data x.Vars x.Res p=true)
       ⟨0,[],rfl,by omega,(fun q h=>by cases h),(fun q h=>by simp at h)⟩ ?_ ?_
      .rintro _ ⟨j,o,rfl,hj,hm,c⟩
       rcases Nat.lt_or_ge j ps.length with h | h
       .have ht:ps[j]? = some ps[j]:=B7 h
        generalize ps[j]=p at ht
        have k:=Ct ht
        obtain ⟨A,R,N⟩:=Am9 (I.ctx g) [] hm p (B p k)
        simp only [Al (by omega:(j:Int)<(ps.length:Int)),cond_true,Cj rfl ht,Ad,R,Db h (by omega)]
        cases y:Hr x.Data x.Vars x.Res p with
        | true=>
         refine .inl ⟨_,rfl,⟨j+1,A,rfl,by omega,N,fun q hq=>?_⟩,by simp; omega⟩
         rw [Dk ht] at hq
         rcases List.mem_append.1 hq with hq | hq
         .exact c q hq
         .simp only [List.mem_singleton] at hq
          subst hq; exact y
        | false=>
         refine .inr ⟨.inl false,rfl,rfl,fun D=>?_⟩
         have:=D p k
         rw [y] at this; cases this
       .have:j=ps.length:=by omega
        subst this
        rw [List.take_length] at c
        exact .inr ⟨.inr o,by simp,hm,c⟩
      .rintro (r | o) hw
       .obtain ⟨rfl,hw⟩:=hw
        exact ⟨_,rfl,.inr ⟨fun h=>hw h.2,rfl⟩⟩
       .exact ⟨_,rfl,.inl ⟨⟨I,hw.2⟩,o,rfl,hw.1⟩⟩
 .rw [Al (by omega)]
  exact ⟨_,rfl,.inr ⟨fun h=>l h.1.1,rfl⟩⟩
theorem Az1 {data:List A9} {vars:List Aj} {res:Aj} {m:Ba} (h:H8 data vars res m=true) (q:MSz m):CMo m:=by
 have c:=(Ayo h).2
 unfold H8 at h
 simp only [C9,decide_eq_true_eq] at h
 obtain ⟨⟨h1,h2⟩,h3⟩:=h
 have b:∀f∈m.Factors,0<=E8 data vars res f:=by
  intro f c
  obtain ⟨j,hj⟩:=List.getElem?_of_mem c
  have:=Jf h1 hj
  simp only [W5,C9,decide_eq_true_eq] at this
  omega
 have ha:∀a∈m.Atoms,1<=a.Deg/\Cd a.Lin=true/\a.Lin.Terms≠[]:=by
  intro a ha
  obtain ⟨j,hj⟩:=List.getElem?_of_mem ha
  have:=Jf h2 hj
  simp only [Mw,C9,decide_eq_true_eq] at this
  refine ⟨this.1.1.1.1,this.1.1.1.2,fun e=>?_⟩
  have k:=this.1.1.2
  rw [e] at k; simp at k
 obtain ⟨a1,a2,a3⟩:=Am6 m.Atoms fun a h=>by have:=(ha a h).1; omega
 have f1:=Ayj m.Factors b
 have al:(m.Atoms.length:Int)<=Ch m.Atoms:=by
  have key:∀l:List A6,(∀a∈l,1<=a.Deg)->(l.length:Int)<=Ch l:=by
   intro l
   induction l with
   | nil=>intro _; simp [Ch]
   | cons f fs ih=>
    intro i
    have h1:=i f (by simp)
    have h2:=ih (fun g s=>i g (by simp [s]))
    unfold Ch at *
    simp only [List.map_cons,List.sum_cons,List.length_cons]; omega
  exact key _ fun a h=>(ha a h).1
 exact ⟨q,c,by omega,fun a h=>⟨(ha a h).2.1,(ha a h).2.2,(ha a h).1,by have:=a3 a h; omega⟩⟩
def Ef (x:Bj) (m:Ba):Prop:=H8 x.Data x.Vars x.Res m=true/\MSz m
theorem Ef.cmo {x:Bj} {m:Ba} (h:Ef x m):CMo m:=Az1 h.1 h.2
structure F3 (x:Bj) (p:List Ah):Prop where
 can:Hr x.Data x.Vars x.Res p=true
 sz:∀t∈p,TSz t
theorem F3.cp {x:Bj} {p:List Ah} (h:F3 x p):CP p:=(Xa.1 h.can).2.1
theorem F3.mo {x:Bj} {p:List Ah} (h:F3 x p):∀t∈p,Ef x t.Mono:=fun t ht=>⟨(Xa.1 h.can).2.2 t ht,(h.sz t ht).mo⟩
theorem F3.of {x:Bj} {p:List Ah} (hc:CP p) (hm:∀t∈p,Ef x t.Mono) (b:∀t∈p,RB 1048576 t.Coef) (c:p.length<=1000):F3 x p :=
 ⟨Xa.2 ⟨c,hc,fun t ht=>(hm t ht).1⟩,fun t ht=>⟨b t ht,(hm t ht).2⟩⟩
theorem F3.tb {x:Bj} {p:List Ah} (h:F3 x p):∀t∈p,RB 1048576 t.Coef/\Ef x t.Mono:=fun t ht=>⟨(h.sz t ht).co,h.mo t ht⟩
theorem Age {x:Bj} (i:CSz x) (k:Fj x) {p q:List Ah} (hp:F3 x p) (hq:F3 x q):∃f,I5 x [p,q]=some (.inl (true,x,f,[],x.Data,x.Vars,x.Res.Kind,x.Res.Num,x.Res.Args)):=by
 have b:∀r∈[p,q],F3 x r:=by
  intro r c
  simp only [List.mem_cons,List.not_mem_nil,or_false] at c
  rcases c with rfl | rfl <;> assumption
 obtain ⟨r,h,g⟩:=Aoc x i [p,q] (fun r c=>(b r c).sz) (by simp)
 rcases g with ⟨_,f,e,_⟩ | ⟨j,_⟩
 .exact ⟨f,by rw [h,e]⟩
 .exact (j ⟨k,fun r c=>(b r c).can⟩).elim
theorem Aod {r:Ak} {j k:Nat} (q:List Ah) (y:RB j r) (hq:∀t∈q,RB k t.Coef) (hj:j<34359738000) (hk:k<34359738000) (D:q.length<=1048576) :
  ∃x,S4 q r=some x/\x.length=q.length/\(∀m,cf x m=cf q m*rq r)/\∀t∈x,RB (k+j+2) t.Coef/\∃u∈q,u.Mono=t.Mono:=by
 unfold S4
 refine Fb (fun s=>∃(i:Nat) (o:List Ah),s=((i:Int),o)/\i<=q.length/\o.length=i/\(∀m,cf o m=cf (q.take i) m*rq r)/\∀t∈o,RB (k+j+2) t.Coef/\∃u∈q,u.Mono=t.Mono) (fun s=>q.length-s.1.toNat)
  (fun o=>o.length=q.length/\(∀m,cf o m=cf q m*rq r)/\∀t∈o,RB (k+j+2) t.Coef/\∃u∈q,u.Mono=t.Mono) ⟨0,[],rfl,by omega,rfl,(fun m=>by simp only [List.take_zero,cf]; grind),fun _ h=>by cases h⟩ ?_ ?_
 .rintro _ ⟨i,o,rfl,E,l,b,g⟩
  rcases Nat.lt_or_ge i q.length with h | h
  .have hx:q[i]? = some q[i]:=B7 h
   generalize q[i]=t at hx
   have f:=Ct hx
   obtain ⟨c,B,A,G,z⟩:=Ri (hq t f) y hk hj
   simp only [Al (by omega:(i:Int)<(q.length:Int)),cond_true,Cj rfl hx,Ad,B,Db h (by omega)]
   rw [Dj (by simp; omega)]
   refine .inl ⟨_,rfl,⟨i+1,o++[⟨c,t.Mono⟩],rfl,by omega,by simp [l],fun m=>?_,fun w hw=>?_⟩,by simp; omega⟩
   .rw [Rl,b,Dk hx,Rl]
    simp only [cf,z]
    split <;> grind
   .rcases List.mem_append.1 hw with hw | hw
    .exact g w hw
    .simp only [List.mem_singleton] at hw
     subst hw
     exact ⟨A,t,f,rfl⟩
  .have:i=q.length:=by omega
   subst this
   rw [List.take_length] at b
   simp only [Aq (by omega:¬(q.length:Int)<(q.length:Int)),cond_false]
   exact .inr ⟨_,rfl,l,b,g⟩
 .rintro o ⟨h1,h2,h3⟩
  exact ⟨_,rfl,h1,h2,h3⟩
theorem Az2 {k:Nat} (ts:List Ah) (h:∀t∈ts,RB k t.Coef) (hk:k<34359738000) (f:ts.length<=1048576):Oc ts=some (ts.all fun t=>decide (0<=rq t.Coef)):=by
 have b:∀x:Rat,decide (G4 x<(0:Int)) = !decide (0<=x):=by
  intro x
  unfold G4
  by_cases h1:x<0
  .rw [if_pos h1,Aq (Rat.not_le.2 h1)]; rfl
  .rw [if_neg h1,Al (Rat.not_lt.1 h1)]
   split <;> rfl
 have key:=Aer ts (fun t=>!decide (0<=rq t.Coef)) (by omega) (J:=fun z=>match z with | .inl c=>some c | .inr _=>some (-1)) (step:=fun v3=>bif (decide (v3<(ts.length:Int))) then ((Ag ts v3).bind fun v4=>(Vb v4).bind fun v5=>bif v5 then some (.inr (.inl v3)) else some (.inl (Ac (v3+1)))) else some (.inr (.inr ()))) (by
  intro j t ht h1 h2 h3
  simp only [h1,h2,h3,cond_true,Ad,Vb,(Mx (h t ht) hk).1,b]) (fun h=>by simp only [h]; rfl) (fun _=>rfl) rfl
 obtain ⟨i,i1,i2⟩:=key
 have e:Zi ts=some i:=i1
 unfold Oc Zg
 rw [e,Ad,Ad,i2,List.not_any_eq_all_not]
 simp
open Classical in
theorem Az3 {ts:List Ah} (hd:Dst ts) {t:Ah} (ht:t∈ts):cf ts t.Mono=rq t.Coef:=by
 induction ts with
 | nil=>cases ht
 | cons u ts ih=>
  obtain ⟨h1,h2⟩:=List.pairwise_cons.1 hd
  rw [Rp]
  have none:∀(l:List Ah) (m:Ba),(∀w∈l,w.Mono≠m)->cf l m=0:=fun l m h=>Aa7 fun w hw e=>h w hw (Jl.1 e)
  rcases List.mem_cons.1 ht with rfl | ht
  .rw [if_pos rfl,none ts t.Mono (fun w hw e=>h1 w hw e.symm)]; grind
  .rw [if_neg (h1 t ht),ih h2 ht]; grind
open Classical in
theorem Az4 {ts:List Ah} (hd:Dst ts):(ts.all fun t=>decide (0<=rq t.Coef))=true↔∀m,0<=cf ts m:=by
 rw [List.all_eq_true]
 constructor
 .intro h m
  clear hd
  induction ts with
  | nil=>exact Rat.le_refl
  | cons t ts ih=>
   have h1:=h t (by simp)
   have h2:=ih fun u hu=>h u (by simp [hu])
   simp only [decide_eq_true_eq] at h1
   rw [Rp]
   split <;> grind
 .intro h t ht
  have:=h t.Mono
  rw [Az3 hd ht] at this
  simpa using this
theorem Az5:∃r,Ep (-1)=some r/\RB 1 r/\rq r = -1:=by
 refine ⟨_,Tv (-1) (by decide) (by decide),?_,?_⟩
 .exact Lr _ _ _ 1 (Je (by decide)) (Je (by decide)) (by omega)
 .rw [Ly _ _ _ (by decide)]; decide
end Go.Ab
namespace Go.Ab
open Go
end Go.Ab
namespace Go.Ab
open Go
def bc:Nat->Nat->Nat
 | _,0=>1
 | 0,_+1=>0
 | n+1,k+1=>bc n k+bc n (k+1)
theorem Kd (n:Nat):bc n 0=1:=by cases n <;> rfl
theorem Agf:∀{n k:Nat},n<k->F2 n k=0
 | n,0,h=>absurd h (by omega)
 | n,k+1,h=>by
  rw [F2]
  by_cases e:n<k
  .rw [Agf e,Nat.zero_mul]
  .rw [show n-k=0 by omega,Nat.mul_zero]
theorem Aoe (n:Nat):∀k,F2 (n+1) (k+1)=(n+1)*F2 n k
 | 0=>by simp [F2]
 | k+1=>by
  rw [F2,Aoe n k,F2,show n+1-(k+1)=n-k by omega,Nat.mul_assoc]
theorem Abh:∀n k,F2 n k=fct k*bc n k
 | n,0=>by rw [Kd]; rfl
 | 0,k+1=>by rw [Agf (by omega)]; simp [bc]
 | n+1,k+1=>by
  have h1:=Abh n (k+1)
  have h2:=Abh n k
  rw [Aoe,bc,Nat.mul_add,<-h1,fct,F2,Nat.mul_right_comm,<-h2]
  by_cases e:k<=n
  .rw [<-Nat.mul_add,Nat.mul_comm,show k+1+(n-k)=n+1 by omega]
  .rw [Agf (by omega)]; simp
theorem Xh:∀n k,bc n k<=2 ^ n
 | n,0=>by rw [Kd]; exact Nat.one_le_two_pow
 | 0,k+1=>by simp [bc]
 | n+1,k+1=>by
  have h1:=Xh n (k+1)
  have h2:=Xh n k
  rw [bc,Nat.pow_succ]; omega
def cR (n:Nat):Ak:=Bt false n 1
theorem Agg (n:Nat):sv (cR n)=false/\nv (cR n)=n/\dv (cR n)=1:=by
 obtain ⟨g,f,c,b⟩:=Wv false n 1 (by decide)
 refine ⟨?_,?_,?_⟩
 .by_cases h:n=0
  .exact b h
  .exact c h
 .unfold cR; rw [g]; simp
 .unfold cR; rw [f]; simp
theorem Abi {n k:Nat} (h:Bd n<=k) (hk:1<=k):RB k (cR n):=Lr _ _ _ _ h (by rw [Mr]; exact hk) hk
theorem Az6:Ep 0=some (cR 0):=Tv 0 (by decide) (by decide)
theorem T9:Ep 1=some (cR 1):=Tv 1 (by decide) (by decide)
theorem Az7 (n k:Nat) (b:n<1000000000) (hk:k<=64):Nl (n:Int) (k:Int)=some (cR (bc n k),true):=by
 unfold Nl
 have e:(if (n:Int)>0 then (n:Int) else 0)=(n:Int):=by split <;> omega
 simp only [Aq (by omega:¬(k:Int)<0),cond_false,Aq (by omega:¬(k:Int)>64),Ad,e,Alq n k b hk]
 rw [Abh,show Bt false (fct k*bc n k) (fct k)=Bt false (fct k*bc n k) (fct k*1) by rw [Nat.mul_one],Q6 _ _ _ _ (Aaw k)]
 rfl
theorem Az8 (n k:Nat) (b:n<1000000000) (hk:k<=64):Nl (n:Int) (k:Int)=some (cR (bc n k),true):=Az7 n k b hk
end Go.Ab
namespace Go.Ab
open Go
end Go.Ab
namespace Go.Ab
open Go
end Go.Ab
namespace Go.Ab
open Go
theorem Az9:Vq []=some []:=by kernel_rfl
theorem A0a (l:List Int):Vq l=some (l.mergeSort fun x y=>decide (x<=y)):=by
 cases l with
 | nil=>rw [Az9]; simp
 | cons a l=>rfl
theorem A0b (l:List Int):(l.mergeSort fun x y=>decide (x<=y)).Pairwise (·<=·):=by
 have:=List.pairwise_mergeSort (le:=fun x y:Int=>decide (x<=y)) (fun a b c h1 h2=>by simp only [decide_eq_true_eq] at *; omega) (fun a b=>by simp only [Bool.or_eq_true,decide_eq_true_eq]; omega) l
 exact this.imp (fun h=>by simpa using h)
structure Asc (b:List Int) (n:Nat) (l:List Int):Prop where
 up:l.Pairwise (· < ·)
 mem:∀y,y∈l↔y∈b.take n
theorem A0c {b:List Int} (f:b.Pairwise (·<=·)) {q:Nat} {p:Int} (hp:b[q]? = some p):∀y∈b.take (q+1),y<=p:=by
 intro y hy
 obtain ⟨i,c⟩:=List.getElem?_of_mem hy
 rw [List.getElem?_take] at c
 split at c
 .rename_i g
  by_cases e:i=q
  .subst e; rw [c] at hp; cases hp; exact Int.le_refl _
  .have h1:=Fd c
   have h2:=Fd hp
   have:=(List.pairwise_iff_getElem.1 f) i q h1 h2 (by omega)
   rw [B7 h1] at c
   rw [B7 h2] at hp
   cases c; cases hp; exact this
 .cases c
theorem Asc.step {b:List Int} (g:b.Pairwise (·<=·)) {q:Nat} {l:List Int} {p x:Int} (h:Asc b (q+1) l) (hp:b[q]? = some p) (hx:b[q+1]? = some x) (j:x≠p):Asc b (q+2) (l++[x]):=by
 have f:=A0c g hp
 have i:p<x:=by
  have h1:=Fd hp
  have h2:=Fd hx
  have:=(List.pairwise_iff_getElem.1 g) q (q+1) h1 h2 (by omega)
  rw [B7 h1] at hp
  rw [B7 h2] at hx
  cases hp; cases hx; omega
 refine ⟨?_,fun y=>?_⟩
 .rw [List.pairwise_append]
  refine ⟨h.up,by simp,fun a ha c hc=>?_⟩
  rw [List.mem_singleton] at hc
  subst hc
  have:=f a ((h.mem a).1 ha)
  omega
 .rw [Dk hx,List.mem_append,List.mem_append,h.mem y]
theorem Asc.same {b:List Int} {q:Nat} {l:List Int} {x:Int} (h:Asc b (q+1) l) (hp:b[q]? = some x) (hx:b[q+1]? = some x):Asc b (q+2) l:=by
 refine ⟨h.up,fun y=>?_⟩
 rw [Dk hx,List.mem_append,h.mem y]
 constructor
 .exact .inl
 .rintro (h1 | h1)
  .exact h1
  .rw [List.mem_singleton] at h1
   subst h1
   rw [Dk hp]; simp
theorem Xi {α:Type} {l:List α} {off n:Nat} {i:Int} {j:Nat} {x:α} (b:i=j) (hj:j<n) (h:l[off+j]? = some x):F0 l off n i=some x:=by
 subst b
 unfold F0
 rw [if_pos (by omega)]; simpa using h
theorem A0d {X:Option (Nat×List Int)} {Q:Nat×List Int->Prop} (h:∃r,X=some r/\Q r):∃(m:Nat) (o:List Int),X=some (m,o)/\Q (m,o):=by
 obtain ⟨⟨m,o⟩,h1,h2⟩:=h
 exact ⟨m,o,h1,h2⟩
theorem A0e {X:Option (Int⊕((Nat×List Int)⊕Unit))} {P:Nat->List Int->Prop} {b:Prop} (h:∃r,X=some r/\∃(m:Nat) (o:List Int),r = .inr (.inl (m,o))/\P m o) :
  ∃e,X=some (.inr e)/\((∃(m:Nat) (o:List Int),e = .inl (m,o)/\P m o)\/(e = .inr ()/\b)):=by
 obtain ⟨_,h1,m,o,rfl,h2⟩:=h
 exact ⟨_,h1,.inl ⟨m,o,rfl,h2⟩⟩
theorem A0f (b:List Int) (R:b.Pairwise (·<=·)) (hl:b.length<=1099511627776):∃(m:Nat) (o:List Int),S0 b.length b=some (m,o)/\m<=o.length/\Asc b b.length (o.take m):=by
 unfold S0
 by_cases h2:b.length<2
 .rw [Al (by omega),cond_true]
  refine ⟨b.length,b,rfl,Nat.le_refl _,?_,fun y=>Iff.rfl⟩
  rw [List.take_length]
  match b,h2 with
  | [],_=>simp
  | [_],_=>simp
 .rw [Aq (by omega),cond_false]
  refine A0d (Q:=fun r:Nat×List Int=>r.1<=r.2.length/\Asc b b.length (r.2.take r.1)) ?_
  .refine Fb (Q:=fun r:Nat×List Int=>r.1<=r.2.length/\Asc b b.length (r.2.take r.1)) (fun v=>∃j:Nat,v=((j+1:Nat):Int)/\j+1<=b.length/\Asc b (j+1) (b.take (j+1))) (fun v=>b.length-v.toNat) (fun e:((Nat×List Int)⊕Unit)=>(∃(m:Nat) (o:List Int),e = .inl (m,o)/\m<=o.length/\Asc b b.length (o.take m))\/(e = .inr ()/\Asc b b.length (b.take b.length))) ?_ ?_ ?_ (J:=fun z:((Nat×List Int)⊕Unit)=>match z with | .inl (G,E)=>some (G,E) | .inr _=>some (b.length,b))
   .exact ⟨0,rfl,by omega,by
     refine ⟨?_,fun y=>Iff.rfl⟩
     match b,h2 with
     | a::_,_=>simp
     | [],h=>simp at h⟩
   .rintro v ⟨j,rfl,hj,N⟩
    rcases Nat.lt_or_ge (j+1) b.length with h | h
    .have hx:b[j+1]? = some b[j+1]:=B7 h
     have hp:b[j]? = some b[j]:=B7 (by omega)
     generalize b[j+1]=x at hx
     generalize b[j]=p at hp
     have X:Ac (((j+1:Nat):Int)-1)=((j:Nat):Int):=by rw [show (((j+1:Nat):Int)-1)=(j:Int) by omega,Ac,Bx] <;> omega
     simp only [Al (by omega:((j+1:Nat):Int)<(b.length:Int)),cond_true,Xi (l:=b) (off:=0) (n:=b.length) (i:=((j+1:Nat):Int)) rfl h (by rw [Nat.zero_add]; exact hx),X,
      Xi (l:=b) (off:=0) (n:=b.length) (i:=((j:Nat):Int)) rfl (by omega) (by rw [Nat.zero_add]; exact hp),Ad,Db h (by omega)]
     by_cases e:x=p
     .subst e
      rw [Es rfl,cond_true]
      have A:N7 b.length ((j+1:Nat):Int) ((b.length:Nat):Int)=some (j+1,b.length):=by
       unfold N7
       rw [if_pos (by omega)]; simp
      rw [A,Ad]
      dsimp only
      refine .inr ?_
      refine A0e (Fb (Q:=fun z:(Int⊕((Nat×List Int)⊕Unit))=>∃(m:Nat) (o:List Int),z = .inr (.inl (m,o))/\m<=o.length/\Asc b b.length (o.take m)) (fun z=>∃(w k:Nat) (o:List Int),z=((w:Int),(k:Int),o)/\o.length=b.length/\w<=j+k/\1<=k/\j+1+k<=b.length/\Asc b (j+1+k) (o.take w)/\∀i,w<=i->o[i]? = b[i]?)
       (fun z=>b.length-(j+1)-z.2.1.toNat) (fun z=>∃(w k:Nat) (o:List Int),z=((w:Int),(k:Int),o)/\o.length=b.length/\w<=b.length/\Asc b b.length (o.take w)) ?_ ?_ ?_)
      .refine ⟨j+1,1,b,rfl,rfl,by omega,by omega,by omega,?_,fun _ _=>rfl⟩
       exact N.same hp hx
      .rintro z ⟨w,k,o,rfl,D,hw,hk,Z,f,c⟩
       rcases Nat.lt_or_ge (j+1+k) b.length with h' | h'
       .have hy:b[j+1+k]? = some b[j+1+k]:=B7 h'
        have hq:b[j+k]? = some b[j+k]:=B7 (by omega)
        generalize b[j+1+k]=y at hy
        generalize b[j+k]=q at hq
        have V:Ac ((k:Int)-1)=((k-1:Nat):Int):=by rw [show ((k:Int)-1)=((k-1:Nat):Int) by omega,Ac,Bx] <;> omega
        have U:Ac ((k:Int)+1)=((k+1:Nat):Int):=Db (n:=b.length) (by omega) (by omega)
        have S:Ac ((w:Int)+1)=((w+1:Nat):Int):=Db (n:=b.length) (by omega) (by omega)
        have i1:F0 o (0+(j+1)) (b.length-(j+1)) (k:Int)=some y:=Xi rfl (by omega) (by rw [Nat.zero_add,c _ (by omega)]; exact hy)
        have i2:F0 o (0+(j+1)) (b.length-(j+1)) ((k-1:Nat):Int)=some q:=Xi rfl (by omega) (by rw [Nat.zero_add,c _ (by omega),show j+1+(k-1)=j+k by omega]; exact hq)
        have I:o[w]? = some (o[w]'(by omega)):=B7 _
        have i3:F0 o 0 b.length (w:Int)=some (o[w]'(by omega)):=Xi rfl (by omega) (by rw [Nat.zero_add]; exact I)
        simp only [Al (by omega:(k:Int)<((b.length-(j+1):Nat):Int)),cond_true,i1,i2,i3,V,U,S,Ad]
        by_cases e:y=q
        .subst e
         rw [Fc rfl,cond_false]
         refine .inl ⟨_,rfl,⟨w,k+1,o,rfl,D,by omega,by omega,by omega,?_,c⟩,by simp only [Int.toNat_natCast]; omega⟩
         have:=Asc.same (q:=j+k) (x:=y) (by rw [show j+k+1=j+1+k by omega]; exact f) hq (by rw [show j+k+1=j+1+k by omega]; exact hy)
         rw [show j+1+(k+1)=j+k+2 by omega]; exact this
        .rw [Et e,cond_true]
         have B:Cr o (((0:Nat):Int)+(w:Int)) y=o.set w y:=Fq (n:=w) (by omega) y
         have s:(o.set w y).take (w+1)=o.take w++[y]:=by
          rw [Dk (x:=y) (by rw [List.getElem?_set,if_pos rfl,if_pos (by omega)]),List.take_set_of_le (Nat.le_refl _)]
         rw [B]
         refine .inl ⟨_,rfl,⟨w+1,k+1,o.set w y,rfl,by simpa using D,by omega,by omega,by omega,?_,?_⟩,by simp only [Int.toNat_natCast]; omega⟩
         .rw [s]
          have:=Asc.step R (q:=j+k) (x:=y) (p:=q) (by rw [show j+k+1=j+1+k by omega]; exact f) hq (by rw [show j+k+1=j+1+k by omega]; exact hy) e
          rw [show j+1+(k+1)=j+k+2 by omega]; exact this
         .intro i hi
          rw [List.getElem?_set,if_neg (by omega)]
          exact c i (by omega)
       .have L:j+1+k=b.length:=by omega
        refine .inr ⟨((w:Int),(k:Int),o),?_,w,k,o,rfl,D,by omega,by rw [<-L]; exact f⟩
        simp only [Aq (by omega:¬(k:Int)<((b.length-(j+1):Nat):Int)),cond_false]
      .rintro z ⟨w,k,o,rfl,D,hw,f⟩
       dsimp only
       have g:Sg b.length (w:Int)=some w:=by
        unfold Sg
        rw [if_pos (by omega)]; simp
       by_cases Y:w=0\/w<b.length
       .have u:Pv b.length (w:Int) ((b.length:Nat):Int)=some (.inl (w,b.length)):=by
         unfold Pv
         rw [if_pos (by omega),if_pos (by omega)]; simp
        have M:N8 o (0+w) (b.length-w) (0:Int)=some (D9 o (0+w) (List.replicate (b.length-w) 0)):=by
         unfold N8
         rw [if_pos (by omega)]
        rw [u,Ad]
        dsimp only
        rw [M,Ad,g,Ad]
        have s:(D9 o (0+w) (List.replicate (b.length-w) (0:Int))).take w=o.take w:=by
         unfold D9
         rw [Nat.zero_add,List.append_assoc,List.take_append_of_le_length (by simp; omega),List.take_take,Nat.min_self]
        refine ⟨_,rfl,w,_,rfl,?_,?_⟩
        .unfold D9; simp; omega
        .rw [s]; exact f
       .have u:Pv b.length (w:Int) ((b.length:Nat):Int)=some (.inr ()):=by
         unfold Pv
         rw [if_pos (by omega),if_neg (by omega)]
        rw [u,Ad]
        dsimp only
        rw [g,Ad]
        exact ⟨_,rfl,w,o,rfl,by omega,f⟩
     .rw [Cv e,cond_false]
      refine .inl ⟨_,rfl,⟨j+1,rfl,by omega,?_⟩,by simp only [Int.toNat_natCast]; omega⟩
      have:=Asc.step R N hp hx e
      rw [<-Dk hx] at this
      exact this
    .have:j+1=b.length:=by omega
     refine .inr ⟨.inr (),?_,.inr ⟨rfl,by rw [<-this]; exact N⟩⟩
     rw [Aq (by omega)]; rfl
   .rintro e (⟨m,o,rfl,h1,h2⟩ | ⟨rfl,h1⟩)
    .exact ⟨(m,o),rfl,h1,h2⟩
    .exact ⟨(b.length,b),rfl,Nat.le_refl _,h1⟩
end Go.Ab
namespace Go.Ab
open Go
end Go.Ab
namespace Go.Ab
open Go
end Go.Ab
namespace Go.Ab
open Go
end Go.Ab
namespace Go.Ab
open Go
end Go.Ab
namespace Go.Ab
open Go
end Go.Ab
namespace Go.Ab
open Go
theorem A0g {α:Type} (F:List α) (g:α->Int) (o:List Int) (h:o.length+F.length<=1000000) {R:Type} {J:Int×List Int->Option R} {r:R} (l:J ((F.length:Int),o++F.map g)=some r) :
  (Am (S:=(Int×(List Int))) (E:=(Int×(List Int))) (fun (v164,b)=>
   bif (decide (v164<(F.length:Int))) then (
   (Ag F v164).bind fun c=>
   (Ce 8 b [g c]).bind fun i=>
   some (.inl ((Ac (v164+1)),i)))
   else some (.inr (v164,b))) (0,o)).bind J=some r:=by
 refine Iu F (fun j=>((j:Int),o++(F.take j).map g)) (by simp) (by omega) ?_ ?_
 .intro j f hj k h1 h2 h3
  simp only [h1,h2,h3,cond_true,Ad]
  rw [Dj (by simp; omega),Dk k]; simp
 .intro h1
  exact ⟨_,by simp only [h1]; rfl,by rw [List.take_length]; exact l⟩
theorem A0h {α:Type} (f:α->List Int) (l:List α) (j:Nat):((l.take j).flatMap f).length<=(l.flatMap f).length:=by
 have:l.flatMap f=(l.take j).flatMap f++(l.drop j).flatMap f:=by rw [<-List.flatMap_append,List.take_append_drop]
 rw [this,List.length_append]; omega
theorem Aof {α:Type} (f:α->List Int) {l:List α} {j:Nat} {x:α} (h:l[j]? = some x):((l.take j).flatMap f).length+(f x).length<=(l.flatMap f).length:=by
 have:=A0h f l (j+1)
 rw [Dk h,List.flatMap_append] at this
 simpa using this
end Go.Ab
namespace Go.Ab
open Go
end Go.Ab
namespace Go.Ab
open Go
end Go.Ab
namespace Go.Ab
open Go
end Go.Ab
namespace Go.Ab
open Go
end Go.Ab
namespace Go.Ab
open Go
end Go.Ab
namespace Go.Ab
open Go
end Go.Ab
namespace Go.Ab
open Go
theorem Aog (x:Rat):G4 x=0↔x=0:=by
 unfold G4
 constructor
 .intro h
  split at h
  .cases h
  .split at h
   .cases h
   .grind
 .rintro rfl
  rw [if_neg (by grind),if_neg (by grind)]
end Go.Ab
namespace Go.Ab
open Go
structure PSt (K:Nat) (n:Nat) (b:List Ah):Prop where
 le:n<=b.length
 cp:CP (b.take n)
 tm:∀t∈b.take n,RB K t.Coef/\MSz t.Mono
end Go.Ab
namespace Go.Ab
open Go
theorem PSt.mono {K c n:Nat} {b:List Ah} (h:PSt K n b) (f:K<=c):PSt c n b:=⟨h.le,h.cp,fun t ht=>⟨((h.tm t ht).1).mono f,(h.tm t ht).2⟩⟩
end Go.Ab
namespace Go.Ab
open Go
end Go.Ab
namespace Go.Ab
open Go
theorem CP.dst {p:List Ah} (h:CP p):Dst p:=h.srt.imp fun {a b} hab e=>by
 unfold ltT at hab
 rw [Jl.2 e] at hab; omega
end Go.Ab
namespace Go.Ab
open Go
theorem Aoh:M3 (fun t u:Ah=>Da t.Mono u.Mono) where
 irr x:=by
  show ¬Da x.Mono x.Mono<0
  rw [Ank]; omega
 trs x y z h1 h2:=T8 h1 h2
 ntr x y z h1 h2:=by
  show ¬Da x.Mono z.Mono<0
  have h1:¬Da x.Mono y.Mono<0:=h1
  have h2:¬Da y.Mono z.Mono<0:=h2
  intro h3
  rcases Int.lt_trichotomy (Da x.Mono y.Mono) 0 with k | k | k
  .exact h1 k
  .rw [Jl.1 k] at h3; exact h2 h3
  .exact h2 (T8 (Afz.1 k) h3)
def Abj (b:List Ah):List Ah:=b.mergeSort fun t u=>decide (Da t.Mono u.Mono<=0)
theorem Aoi (b:List Ah):(Abj b).Perm b:=List.mergeSort_perm _ _
theorem A0i (f:List Ah) (hd:Dst f):(Abj f).Pairwise ltT:=by
 have h1:=List.pairwise_mergeSort (le:=fun t u:Ah=>decide (Da t.Mono u.Mono<=0)) (fun a b c h1 h2=>by
  simp only [decide_eq_true_eq] at *
  have:=Aoh.ntr c b a (by show ¬Da _ _<0; rw [T7]; omega) (by show ¬Da _ _<0; rw [T7]; omega)
  have this:¬Da c.Mono a.Mono<0:=this
  rw [T7] at this; omega) (fun a b=>by
  simp only [Bool.or_eq_true,decide_eq_true_eq]
  rw [T7 a.Mono b.Mono]; omega) f
 have h2:(Abj f).Pairwise fun t u=>t.Mono≠u.Mono:=((Aoi f).pairwise_iff (fun {x y} h=>h.symm)).2 hd
 refine (h1.and h2).imp fun {t u} h=>?_
 have a:=of_decide_eq_true h.1
 have b:Da t.Mono u.Mono≠0:=fun e=>h.2 (Jl.1 e)
 unfold ltT; omega
theorem Agh (b:List Ah) (hd:Dst b) (hm:∀t∈b,MSz t.Mono):∃R,Nb b=some R/\R.Perm b/\R.Pairwise ltT:=by
 rcases Nat.lt_or_ge 12 b.length with h | h
 .have e:Nat.ble b.length 12=false:=by
   cases k:Nat.ble b.length 12 with
   | false=>rfl
   | true=>have:=Nat.le_of_ble_eq_true k; omega
  unfold Nb
  rw [e,cond_false]
  obtain ⟨r,f,i,law,hc,hp,g⟩:=Aug (cmp:=Nc) (l:=b) (r:=Abj b) ⟨_,Aoh,fun x hx y _=>Agc x y (hm x hx),Aoi b,A0i b hd⟩
  refine ⟨r,f,hp,?_⟩
  refine (List.Pairwise.imp_of_mem (S:=ltT) (fun {t u} ht hu h=>?_) g)
  have c:=hc t (hp.mem_iff.1 ht) u (hp.mem_iff.1 hu)
  rw [Agc t u (hm t (hp.mem_iff.1 ht))] at c
  have c:=Option.some.inj c
  unfold ltT; rw [c]; exact h
 .exact Azu b hd hm h
end Go.Ab
namespace Go.Ab
open Go
theorem Agi {x:Bj} (i:CSz x) {ps:List (List Ah)} (c:∀p∈ps,∀t∈p,TSz t) (j:ps.length<=1048576) (h:Fj x/\∀p∈ps,Hr x.Data x.Vars x.Res p=true):∃b,I5 x ps=some (.inl (true,x,b,[],x.Data,x.Vars,x.Res.Kind,x.Res.Num,x.Res.Args))/\Dq x.Data x.Vars x.Res b:=by
 obtain ⟨r,g,f⟩:=Aoc x i ps c j
 rcases f with ⟨_,b,e,hm⟩ | ⟨h2,_⟩
 .exact ⟨b,by rw [g,e],hm⟩
 .exact (h2 h).elim
structure PR (x:Bj) (n:Nat) (f:Ba->Rat) (R:List Ah):Prop where
 cp:CP R
 val:∀m,cf R m=f m
 tb:∀t∈R,Ef x t.Mono/\RB 8589934592 t.Coef
 len:R.length<=n
theorem Agj {x:Bj} {k:Nat} {ts:List Ah} (h:Col k (Ef x) ts) (hk:k<8589934592) (l:ts.length<=1000):∃R,Ie (Dr ts) ts=some (R,0)/\PR x ts.length (cf ts) R:=by
 obtain ⟨R,j,i,g,b,f⟩:=Agd (P:=Ef x) (fun m h=>h.cmo) (Dr ts) ts h (by omega) l (fun c _ h2 h3=>Agh c h2 h3)
 exact ⟨R,j,i,g,fun t ht=>⟨(b t ht).1,(b t ht).2.mono (by omega)⟩,f⟩
theorem PR.of {x:Bj} {n m:Nat} {f g:Ba->Rat} {R:List Ah} (h:PR x n f R) (b:n<=m) (c:∀a,f a=g a):PR x m g R :=
 ⟨h.cp,fun a=>by rw [h.val,c],h.tb,Nat.le_trans h.len b⟩
theorem A0j {x:Bj} (s:CSz x) (y:Fj x) {p q:List Ah} (hp:F3 x p) (hq:F3 x q) (z:p.length+q.length<=1000) :
  ∃R,Pz x p q=some (R,0)/\PR x (p.length+q.length) (fun m=>cf p m+cf q m) R:=by
 obtain ⟨A,hb⟩:=Age s y hp hq
 unfold Pz
 rw [hb]
 simp only [Ad,D6,cond_false,Hz]
 obtain ⟨u,i,g,f,c⟩:=Pa (k0:=1048576) (k:=1048576) (P:=Ef x) (fun m h=>h.cmo) p [] (Col.nil _ _) hp.tb (Nat.le_refl _) (by omega) (by simp; omega)
 simp at f
 obtain ⟨v,b,v2,v3,v4⟩:=Pa (k:=1048576) (P:=Ef x) (fun m h=>h.cmo) q u g hq.tb (by omega) (by omega) (by omega)
 obtain ⟨R,l,j⟩:=Agj v2 (by omega) (by omega)
 rw [show Hc p [] []=some (Dr u,u) from i,Ad,b,Ad,l,Ad]
 exact ⟨R,rfl,j.of (by omega) fun m=>by rw [v4,c]; simp only [cf]; grind⟩
theorem Aoj {x:Bj} (I:CSz x) (J:Fj x) {p q:List Ah} (hp:F3 x p) (hq:F3 x q) (L:p.length+q.length<=1000) :
  ∃R,Kn x p q=some (R,0)/\PR x (p.length+q.length) (fun m=>cf p m-cf q m) R:=by
 obtain ⟨M,hb⟩:=Age I J hp hq
 unfold Kn
 rw [hb]
 simp only [Ad,D6,cond_false,Hz]
 obtain ⟨u,l,j,i,g⟩:=Pa (k0:=1048579) (k:=1048576) (P:=Ef x) (fun m h=>h.cmo) p [] (Col.nil _ _) hp.tb (by omega) (by omega) (by simp; omega)
 simp at i
 obtain ⟨r,B,A,z⟩:=Az5
 obtain ⟨G,E,c,D,b⟩:=Aod (k:=1048576) q A (fun t ht=>(hq.tb t ht).1) (by omega) (by omega) (by omega)
 obtain ⟨v,f,v2,v3,v4⟩:=Pa (k:=1048579) (P:=Ef x) (fun m h=>h.cmo) G u j (fun t ht=>⟨(b t ht).1,by obtain ⟨w,hw,e⟩:=(b t ht).2; rw [<-e]; exact (hq.tb w hw).2⟩) (by omega) (by rw [c]; omega) (by omega)
 obtain ⟨R,y,s⟩:=Agj v2 (by rw [c]; omega) (by omega)
 rw [show Hc p [] []=some (Dr u,u) from l,Ad,B,Ad,E,Ad,f,Ad,y,Ad]
 exact ⟨R,rfl,s.of (by omega) fun m=>by rw [v4,g,D,z]; simp only [cf]; grind⟩
theorem A0k {x:Bj} (u:CSz x) (z:Fj x) {p:List Ah} (hp:F3 x p) {r:Ak} (y:RB 1048576 r) (A:p.length<=1000) :
  ∃R,P4 x p r=some (R,0)/\PR x p.length (fun m=>rq r*cf p m) R:=by
 obtain ⟨B,hb,_⟩:=Agi u (ps:=[p]) (fun q hq=>by simp only [List.mem_singleton] at hq; subst hq; exact hp.sz) (by simp) ⟨z,fun q hq=>by simp only [List.mem_singleton] at hq; subst hq; exact hp.can⟩
 unfold P4
 rw [hb]
 simp only [Ad,D6,cond_false,Hz]
 obtain ⟨f,s,c,l,b⟩:=Aod (k:=1048576) p y (fun t ht=>(hp.tb t ht).1) (by omega) (by omega) (by omega)
 obtain ⟨v,g,v2,v3,v4⟩:=Pa (k0:=1048576+1048576+2) (k:=1048576+1048576+2) (P:=Ef x) (fun m h=>h.cmo) f [] (Col.nil _ _) (fun t ht=>⟨(b t ht).1,by obtain ⟨w,hw,e⟩:=(b t ht).2; rw [<-e]; exact (hp.tb w hw).2⟩) (by omega) (by rw [c]; omega) (by simp; omega)
 simp at v3
 obtain ⟨R,j,i⟩:=Agj v2 (by rw [c]; omega) (by omega)
 rw [s,Ad,show Hc f [] []=some (Dr v,v) from g,Ad,j,Ad]
 exact ⟨R,rfl,i.of (by omega) fun m=>by rw [v4,l]; simp only [cf]; grind⟩
theorem F3.nil (x:Bj):F3 x []:=⟨Xa.2 ⟨by simp,CP.nil,fun t ht=>by cases ht⟩,fun t ht=>by cases ht⟩
end Go.Ab
namespace Go.Ab
open Go
theorem Agk:∀n k,bc n k<=n ^ k
 | n,0=>by rw [Kd]; exact Nat.le_refl _
 | 0,k+1=>by simp [bc]
 | n+1,k+1=>by
  have h1:=Agk n k
  have h2:=Agk n (k+1)
  have h3:n ^ k<=(n+1) ^ k:=Nat.pow_le_pow_left (by omega) k
  have b:n ^ (k+1)<=n*(n+1) ^ k:=by rw [Nat.pow_succ,Nat.mul_comm]; exact Nat.mul_le_mul_left _ h3
  rw [bc,Nat.pow_succ,Nat.mul_add,Nat.mul_one,Nat.mul_comm]; omega
end Go.Ab
namespace Go.Ab
open Go
def Sm (a:Nat):Prop:=a<=5000 ^ 6
theorem Sm.of {a d:Nat} (h:a<=5000 ^ d) (hd:d<=6):Sm a:=Nat.le_trans h (Nat.pow_le_pow_right (by decide) hd)
end Go.Ab
namespace Go.Ab
open Go
theorem A0l (a b:Ak) (j k:Nat) (ha:RB j a) (hb:RB k b) (hj:j<68719476736) (hk:k<68719476736) :
  Nh a b=some (Bt (Jg (sv a) (nv a) (dv a) (!sv b) (nv b) (dv b)) (H5 (sv a) (nv a) (dv a) (!sv b) (nv b) (dv b)) (dv a*dv b)):=by
 unfold Nh S6
 have h1:=ha.nv
 have h2:=ha.dv
 have h3:=hb.nv
 have s:=hb.dv
 have q:=Gp (nv a) (dv b)
 have l:=Gp (nv b) (dv a)
 have i:=Gp (dv a) (dv b)
 have h:=Ts (nv a*dv b) (nv b*dv a)
 have g:=Gn (Nat.sub_le (nv a*dv b) (nv b*dv a))
 have f:=Gn (Nat.sub_le (nv b*dv a) (nv a*dv b))
 rw [O2 b k hb (by omega),Ad,O2 a j ha (by omega),Ad]
 dsimp only
 rw [O0 _ _ (by omega) (by omega),Ad,O0 _ _ (by omega) (by omega),Ad,O0 _ _ (by omega) (by omega),Ad]
 by_cases c:sv a = !sv b
 .have e:(sv a == !sv b)=true:=by rw [c]; exact beq_self_eq_true _
  rw [e,cond_true,Alb _ _ (by omega) (by omega),Ad,Ad,Mq _ _ _ (by omega) (by omega),Jg,H5,if_pos c,if_pos c]; rfl
 .have e:(sv a == !sv b)=false:=by
   cases h1:sv a <;> cases h2:sv b <;> simp_all
  rw [e,cond_false,Q5 _ _ (by omega) (by omega),Ad,Jg,H5,if_neg c,if_neg c]
  by_cases hc:nv b*dv a<=nv a*dv b
  .rw [Al (show Eh (nv a*dv b) (nv b*dv a)>=0 by rw [Eh,if_neg (by omega)]; split <;> decide),cond_true,Aam _ _ (by omega) hc,Ad,Ad,Mq _ _ _ (by omega) (by omega),if_pos hc,if_pos hc]; rfl
  .rw [Aq (show ¬Eh (nv a*dv b) (nv b*dv a)>=0 by rw [Eh,if_pos (by omega)]; decide),cond_false,Aam _ _ (by omega) (by omega),Ad,Ad,Mq _ _ _ (by omega) (by omega),if_neg hc,if_neg hc]; rfl
theorem A0m (s:Bool) (n:Nat):sg (!s) n = - sg s n:=by
 unfold sg; cases s <;> simp
theorem Aok {a b:Ak} {j k:Nat} (ha:RB j a) (hb:RB k b) (hj:j<34359738000) (hk:k<34359738000):∃c,Nh a b=some c/\RB (j+k+3) c/\Hh c/\rq c=rq a-rq b:=by
 have e:=A0l a b j k ha hb (by omega) (by omega)
 have hd:dv a*dv b≠0:=Nat.mul_ne_zero (E6 a) (E6 b)
 have h1:=ha.nv
 have h2:=ha.dv
 have h3:=hb.nv
 have s:=hb.dv
 have q:=Gp (nv a) (dv b)
 have l:=Gp (nv b) (dv a)
 have i:=Gp (dv a) (dv b)
 have h:=Ts (nv a*dv b) (nv b*dv a)
 have g:=Gn (Nat.sub_le (nv a*dv b) (nv b*dv a))
 have f:=Gn (Nat.sub_le (nv b*dv a) (nv a*dv b))
 refine ⟨_,e,?_,O8 _ _ _ hd,?_⟩
 .refine Lr _ _ _ _ ?_ (by omega) (by omega)
  unfold H5
  split
  .omega
  .split <;> omega
 .rw [Ly _ _ _ hd,Anb,A0m,rq,rq,show mkRat (sg (sv a) (nv a)) (dv a)-mkRat (sg (sv b) (nv b)) (dv b)=mkRat (sg (sv a) (nv a)) (dv a)+mkRat (-sg (sv b) (nv b)) (dv b) by rw [<-Rat.neg_mkRat]; grind,Rat.mkRat_add_mkRat _ _ (E6 a) (E6 b)]
theorem Abk (z:Int):mkRat z 1=(z:Rat):=by
 rw [Rat.mkRat_eq_div,show ((1:Nat):Rat)=1 from rfl]; grind
theorem Agl (z:Int) (h1 : -9223372036854775808<=z) (h2:z<=9223372036854775807):∃r,Ep z=some r/\RB 3 r/\Hh r/\rq r=(z:Rat):=by
 have b:Bd z.natAbs<=3:=Q4 (n:=z.natAbs) (by omega)
 refine ⟨_,Tv z h1 h2,Lr _ _ _ _ b (by rw [Mr]; decide) (by decide),O8 _ _ _ (by decide),?_⟩
 rw [Ly _ _ _ (by decide),Abk]
 congr 1
 unfold sg
 by_cases h:z<0
 .rw [Al h,if_pos rfl]; omega
 .rw [Aq h,if_neg (by decide)]; omega
theorem Abl (n:Nat):rq (cR n)=(n:Rat):=by
 unfold cR
 rw [Ly _ _ _ (by decide),Abk]; rfl
theorem A0n (n:Nat):Hh (cR n):=O8 _ _ _ (by decide)
end Go.Ab
namespace Go.Ab
open Go
end Go.Ab
namespace Go.Ab
open Go
end Go.Ab
namespace Go.Ab
open Go
end Go.Ab
namespace Go.Ab
open Go
end Go.Ab
namespace Go.Ab
open Go
def sm:Nat->(Nat->Nat)->Nat
 | 0,_=>0
 | n+1,f=>sm n f+f n
theorem Xj {f g:Nat->Nat}:∀{n:Nat},(∀k,k<n->f k=g k)->sm n f=sm n g
 | 0,_=>rfl
 | n+1,h=>by rw [sm,sm,Xj (n:=n) fun k hk=>h k (by omega),h n (by omega)]
theorem Xk (f g:Nat->Nat):∀n,sm n (fun k=>f k+g k)=sm n f+sm n g
 | 0=>rfl
 | n+1=>by simp only [sm,Xk f g n]; omega
theorem Aol (c:Nat) (f:Nat->Nat):∀n,sm n (fun k=>c*f k)=c*sm n f
 | 0=>rfl
 | n+1=>by simp only [sm,Aol c f n,Nat.mul_add]
theorem Xl {f:Nat->Nat}:∀{n:Nat},(∀k,k<n->f k=0)->sm n f=0
 | 0,_=>rfl
 | n+1,h=>by rw [sm,Xl (n:=n) fun k hk=>h k (by omega),h n (by omega)]
theorem Agm (f:Nat->Nat):∀n,sm (n+1) f=f 0+sm n (fun k=>f (k+1))
 | 0=>by simp [sm]
 | n+1=>by rw [sm,Agm f n,sm]; omega
theorem Aom {f:Nat->Nat} {n:Nat}:∀{m:Nat},n<=m->(∀k,n<=k->f k=0)->sm m f=sm n f
 | 0,h,_=>by rw [show n=0 by omega]
 | m+1,h,b=>by
  by_cases e:n=m+1
  .rw [e]
  .rw [sm,Aom (m:=m) (by omega) b,b m (by omega),Nat.add_zero]
theorem Agn {f:Nat->Nat} {n k:Nat} (hk:k<n) (b:∀j,j≠k->f j=0):sm n f=f k:=by
 induction n with
 | zero=>omega
 | succ n ih=>
  rw [sm]
  by_cases e:k=n
  .subst e
   rw [Xl fun j hj=>b j (by omega),Nat.zero_add]
  .rw [ih (by omega),b n (by omega),Nat.add_zero]
theorem Rq:∀n,bc n n=1
 | 0=>rfl
 | n+1=>by
  rw [bc,Rq n]
  have:bc n (n+1)=0:=by have:=bc_big2 n (n+1) (by omega); exact this
  omega
where bc_big2:∀n k,n<k->bc n k=0
 | n,0,h=>absurd h (by omega)
 | 0,k+1,_=>rfl
 | n+1,k+1,h=>by rw [bc,bc_big2 n k (by omega),bc_big2 n (k+1) (by omega)]
theorem Ua {n k:Nat} (h:n<k):bc n k=0:=Rq.bc_big2 n k h
theorem Ub (n k:Nat):bc (n+1) (k+1)=bc n k+bc n (k+1):=by rw [bc]
def Rc (a b k:Nat):Nat:=if b<=k then bc k a*bc a (k-b) else 0
theorem Aon {a b k:Nat} (h:a+b<k):Rc a b k=0:=by
 unfold Rc
 rw [if_pos (by omega),Ua (show a<k-b by omega),Nat.mul_zero]
theorem A0o {a b k:Nat} (h:k<a):Rc a b k=0:=by
 unfold Rc
 split
 .rw [Ua h,Nat.zero_mul]
 .rfl
theorem Aoo (b k:Nat):Rc 0 b k=if k=b then 1 else 0:=by
 unfold Rc
 by_cases h:k=b
 .subst h; rw [if_pos (Nat.le_refl _),if_pos rfl,Nat.sub_self,Kd,Kd]
 .rw [if_neg h]
  split
  .rw [Ua (show 0<k-b by omega),Nat.mul_zero]
  .rfl
theorem Aop (a k:Nat):Rc a 0 k=if k=a then 1 else 0:=by
 unfold Rc
 rw [if_pos (Nat.zero_le _),Nat.sub_zero]
 by_cases h:k=a
 .subst h; rw [if_pos rfl,Rq]
 .rw [if_neg h]
  rcases Nat.lt_or_ge k a with h2 | h2
  .rw [Ua h2,Nat.zero_mul]
  .rw [Ua (show a<k by omega),Nat.mul_zero]
theorem A0p (a b k:Nat):Rc (a+1) (b+1) (k+1)=Rc a (b+1) k+Rc (a+1) b k+Rc a b k:=by
 unfold Rc
 by_cases h:b<=k
 .rw [if_pos (by omega),if_pos h,if_pos h,show k+1-(b+1)=k-b by omega,Ub]
  by_cases h2:b+1<=k
  .rw [if_pos h2]
   obtain ⟨j,hj⟩:∃j,k-b=j+1:=⟨k-b-1,by omega⟩
   rw [hj,show k-(b+1)=j by omega,Ub]
   simp only [Nat.add_mul,Nat.mul_add]; omega
  .rw [if_neg h2,show k-b=0 by omega,Kd,Kd]; omega
 .rw [if_neg (by omega),if_neg h,if_neg h,if_neg (by omega)]
theorem A0q (a b:Nat):Rc (a+1) (b+1) 0=0:=by
 unfold Rc; rw [if_neg (by omega)]
theorem A0r (f:Nat->Nat) (n N:Nat):sm (N+1) (fun k=>f k*bc (n+1) k)=sm (N+1) (fun k=>f k*bc n k)+sm N (fun k=>f (k+1)*bc n k):=by
 rw [Agm,Agm (fun k=>f k*bc n k),Kd,Kd]
 have:sm N (fun k=>f (k+1)*bc (n+1) (k+1))=sm N (fun k=>f (k+1)*bc n (k+1))+sm N (fun k=>f (k+1)*bc n k):=by
  rw [<-Xk]
  exact Xj fun k _=>by rw [Ub,Nat.mul_add]; omega
 rw [this]; omega
theorem Xm:∀(n a b N:Nat),a+b<N->sm N (fun k=>Rc a b k*bc n k)=bc n a*bc n b
 | n,0,b,N,h=>by
  rw [Kd,Nat.one_mul,Agn (k:=b) (by omega) fun j hj=>by rw [Aoo,if_neg hj,Nat.zero_mul],Aoo,if_pos rfl,Nat.one_mul]
 | n,a+1,0,N,h=>by
  rw [Kd,Nat.mul_one,Agn (k:=a+1) (by omega) fun j hj=>by rw [Aop,if_neg hj,Nat.zero_mul],Aop,if_pos rfl,Nat.one_mul]
 | 0,a+1,b+1,N,h=>by
  rw [show bc 0 (a+1)=0 from rfl,Nat.zero_mul]
  refine Xl fun k _=>?_
  cases k with
  | zero=>rw [A0q,Nat.zero_mul]
  | succ k=>rw [show bc 0 (k+1)=0 from rfl,Nat.mul_zero]
 | n+1,a+1,b+1,N,h=>by
  obtain ⟨N,rfl⟩:∃M,N=M+1:=⟨N-1,by omega⟩
  rw [A0r,Xm n (a+1) (b+1) (N+1) h]
  have h1:=Xm n a (b+1) N (by omega)
  have h2:=Xm n (a+1) b N (by omega)
  have h3:=Xm n a b N (by omega)
  have c:sm N (fun k=>Rc (a+1) (b+1) (k+1)*bc n k)=sm N (fun k=>Rc a (b+1) k*bc n k)+sm N (fun k=>Rc (a+1) b k*bc n k)+sm N (fun k=>Rc a b k*bc n k):=by
   rw [<-Xk,<-Xk]
   exact Xj fun k _=>by rw [A0p,Nat.add_mul,Nat.add_mul]
  rw [c,h1,h2,h3,Ub,Ub,Nat.add_mul,Nat.mul_add,Nat.mul_add]; omega
theorem Aoq {f g:Nat->Nat} {N:Nat} (h:∀n,n<N->sm N (fun k=>f k*bc n k)=sm N (fun k=>g k*bc n k)):∀k,k<N->f k=g k:=by
 intro k
 induction k using Nat.strongRecOn with
 | ind k ih=>
  intro hk
  have cut:∀F:Nat->Nat,sm N (fun j=>F j*bc k j)=sm k (fun j=>F j*bc k j)+F k:=by
   intro F
   have e:sm N (fun j=>F j*bc k j)=sm (k+1) (fun j=>F j*bc k j):=Aom (by omega) fun j hj=>by rw [Ua (by omega),Nat.mul_zero]
   rw [e,sm,Rq,Nat.mul_one]
  have:=h k hk
  rw [cut f,cut g,Xj (f:=fun j=>f j*bc k j) (g:=fun j=>g j*bc k j) fun j hj=>by rw [ih j hj (by omega)]] at this
  omega
end Go.Ab
namespace Go.Ab
open Go
noncomputable def Uc {α:Type} (cmp:α->α->Option Int) (a0:Int):Int×List α->Option ((Int×List α)⊕(Int×List α)):=fun (v31,b)=>
 (show Option Bool from
 bif (decide (v31>a0)) then (
 (Ag b v31).bind fun v33=>
 (Ag b (Ac (v31-1))).bind fun g=>
 (cmp v33 g).bind fun v35=>
 some (decide (v35<(0:Int))))
 else some false).bind fun f=>
 bif f then (
 (Ag b (Ac (v31-1))).bind fun v37=>
 (Ag b v31).bind fun c=>
 (Ag b v31).bind fun v39=>
 (Ag (Cr b v31 v37) (Ac (v31-1))).bind fun v40=>
 some (.inl ((Ac (v31-1)),(Cr (Cr b v31 v37) (Ac (v31-1)) c))))
 else some (.inr (v31,b))
noncomputable def Xn {α:Type} (cmp:α->α->Option Int) (a0 a1:Int) (g:List α):Option (List α) :=
 (Am (S:=(Int×(List α))) (E:=(List α)) (fun (v21,b)=>
 bif (decide (v21<a1)) then (
 (Am (Uc cmp a0) (v21,b)).bind fun (v41,f)=>
 some (.inl ((Ac (v21+1)),f))
 )
 else (
 some (.inr b)
 )
  ) ((Ac (a0+1)),g)).bind fun c=>
 some c
theorem A0s {α:Type} (A R:List α) (x y:α):((A++y::x::R).set (A.length+1) y).set A.length x=A++x::y::R:=by
 induction A with
 | nil=>rfl
 | cons a A ih=>simp only [List.cons_append,List.length_cons,List.set_cons_succ,ih]
theorem Ago {α:Type} (A R:List α) (x:α):(A++x::R)[A.length]? = some x:=by simp
theorem A0t {α:Type} (A R:List α) (x y:α):(A++y::x::R)[A.length+1]? = some x:=by
 induction A with
 | nil=>rfl
 | cons a A ih=>simp
theorem A0u {α:Type} (cmp:α->α->Option Int) (y:α) (R:List α):Uc cmp 0 (0,y::R)=some (.inr (0,y::R)):=by
 unfold Uc
 simp only [Aq (by omega:¬(0:Int)>0),cond_false,Ad]
theorem A0v {α:Type} {cmp:α->α->Option Int} {c:α->α->Int} {N:Nat} (i:N<=1099511627776) (A R:List α) (u y:α) (b:cmp u y=some (c u y)) (f:(A++y::u::R).length<=N):Uc cmp 0 (((A.length+1:Nat):Int),A++y::u::R) =
  if c u y<0 then some (.inl ((A.length:Int),A++u::y::R)) else some (.inr (((A.length+1:Nat):Int),A++y::u::R)):=by
 have h:A.length+1<N:=by simp at f; omega
 have g:Ac (((A.length+1:Nat):Int)-1)=(A.length:Int):=by rw [Ac,Bx] <;> omega
 unfold Uc
 simp only [Al (by omega:((A.length+1:Nat):Int)>0),cond_true,g,Cj (n:=A.length+1) rfl (A0t A R u y),Cj (n:=A.length) rfl (Ago A (u::R) y),Ad,b]
 by_cases hc:c u y<0
 .rw [Al hc,if_pos hc]
  simp only [cond_true]
  rw [Fq (n:=A.length+1) rfl,Fq (n:=A.length) rfl,A0s]
  have:Ag ((A++y::u::R).set (A.length+1) y) (A.length:Int)=some y:=by
   refine Cj rfl ?_
   rw [List.getElem?_set_ne (by omega)]; exact Ago A (u::R) y
  rw [this]; rfl
 .rw [Aq hc,if_neg hc]; rfl
theorem A0w {α:Type} {cmp:α->α->Option Int} {c:α->α->Int} {N:Nat} (q:N<=1099511627776) :
  ∀(n:Nat) (A R:List α) (x:α),A.length=n->(∀t∈A,cmp x t=some (c x t))->(A++x::R).length<=N ->
   ∃f i,Am (Uc cmp 0) ((A.length:Int),A++x::R)=some ((f.length:Int),f++x::(i++R))/\A=f++i/\(∀a∈i,c x a<0)/\∀k y,f=k++[y]->¬c x y<0:=by
 intro n
 induction n with
 | zero=>
  intro A R x g _ _
  have:A = []:=List.length_eq_zero_iff.1 g
  subst this
  exact ⟨[],[],D0 (A0u cmp x R),rfl,(fun _ h=>by cases h),(fun k y h=>by simp at h)⟩
 | succ n ih=>
  intro A R x g hm b
  obtain ⟨B,y,rfl⟩:∃B y,A=B++[y]:=by
   rcases List.eq_nil_or_concat A with h | ⟨B,y,h⟩
   .rw [h] at g; cases g
   .exact ⟨B,y,by simpa using h⟩
  have s:B.length=n:=by simpa using g
  have D:(B++[y])++x::R=B++y::x::R:=by simp
  have el:(((B++[y]).length:Nat):Int)=((B.length+1:Nat):Int):=by simp
  rw [D] at b ⊢
  rw [el]
  have j:=A0v (cmp:=cmp) (c:=c) q B R x y (hm y (by simp)) b
  by_cases hc:c x y<0
  .rw [if_pos hc] at j
   obtain ⟨f,i,h1,h2,h3,u⟩:=ih B (y::R) x s (fun t ht=>hm t (by simp [ht])) (by simpa using b)
   refine ⟨f,i++[y],?_,by rw [h2]; simp,?_,u⟩
   .rw [Ha j,h1]; simp
   .intro a ha
    rcases List.mem_append.1 ha with ha | ha
    .exact h3 a ha
    .simp only [List.mem_singleton] at ha
     subst ha; exact hc
  .rw [if_neg hc] at j
   refine ⟨B++[y],[],?_,by simp,(fun _ h=>by cases h),?_⟩
   .rw [D0 j]; simp
   .intro k z l
    have:=List.append_inj' l rfl
    have e:y=z:=by simpa using this.2
    subst e; exact hc
theorem A0x {α:Type} {c:α->α->Int} (L:M3 c) {f j:List α} {x:α} (s:(f++j).Pairwise (fun a b=>¬c b a<0)) (h2:∀a∈j,c x a<0) (h1:∀g y,f=g++[y]->¬c x y<0):(f++x::j).Pairwise (fun a b=>¬c b a<0):=by
 obtain ⟨i,l,k⟩:=List.pairwise_append.1 s
 have hx:∀a∈f,¬c x a<0:=by
  intro a ha
  rcases List.eq_nil_or_concat f with h | ⟨g,y,h⟩
  .rw [h] at ha; cases ha
  .have h:f=g++[y]:=by simpa using h
   have q:=h1 g y h
   rw [h] at ha i
   rcases List.mem_append.1 ha with ha | ha
   .exact L.ntr x y a q ((List.pairwise_append.1 i).2.2 a ha y (by simp))
   .simp only [List.mem_singleton] at ha
    subst ha; exact q
 refine List.pairwise_append.2 ⟨i,List.pairwise_cons.2 ⟨fun a ha h=>L.irr x (L.trs x a x (h2 a ha) h),l⟩,fun a ha b hb=>?_⟩
 rcases List.mem_cons.1 hb with rfl | hb
 .exact hx a ha
 .exact k a ha b hb
theorem Aor {α:Type} {cmp:α->α->Option Int} {c:α->α->Int} (L:M3 c) (f:List α) (A:∀x∈f,∀y∈f,cmp x y=some (c x y)) (J:f.length<=1099511627776) :
  ∃R,Xn cmp 0 (f.length:Int) f=some R/\R.Perm f/\R.Pairwise (fun a b=>¬c b a<0):=by
 unfold Xn
 cases f with
 | nil=>
  refine ⟨[],?_,List.Perm.refl _,List.Pairwise.nil⟩
  refine G3 0 (fun _=>((1:Int),([]:List α))) (by simp [Ac,Bx]) (fun j hj=>by omega) ⟨[],?_,rfl⟩
  simp
 | cons z0 B=>
 generalize k:z0::B=f at *
 have hpos:1<=f.length:=by rw [<-k]; simp
 refine Fb (fun s=>∃(i:Nat) (S:List α),s=((i:Int),S++f.drop i)/\1<=i/\i<=f.length/\S.length=i/\S.Perm (f.take i)/\S.Pairwise (fun a b=>¬c b a<0)) (fun s=>f.length-s.1.toNat)
  (fun R=>R.Perm f/\R.Pairwise (fun a b=>¬c b a<0)) ⟨1,[z0],by rw [<-k]; simp [Ac,Bx],by omega,hpos,rfl,by rw [<-k]; simp,List.pairwise_singleton _ _⟩ ?_ ?_
 .rintro _ ⟨i,S,rfl,G,M,E,g,l⟩
  rcases Nat.lt_or_ge i f.length with h | h
  .have hx:f[i]? = some f[i]:=B7 h
   have hxm:f[i]∈f:=List.getElem_mem h
   generalize f[i]=x at hx hxm
   have D:f.drop i=x::f.drop (i+1):=Iy hx
   have z:(S++x::f.drop (i+1)).length=f.length:=by simp; omega
   simp only [Al (by omega:(i:Int)<(f.length:Int)),cond_true,Db h (by omega)]
   rw [D]
   left
   obtain ⟨u,q,h1,h2,h3,I⟩:=A0w (cmp:=cmp) (c:=c) (N:=f.length) (by omega) S.length S (f.drop (i+1)) x rfl (fun t ht=>A x hxm t (List.mem_of_mem_take (g.mem_iff.1 ht))) (by rw [z]; exact Nat.le_refl _)
   rw [E] at h1
   have hp:(u++x::q).Perm (f.take (i+1)):=by
    rw [Dk hx]
    have:(u++x::q).Perm ((u++q)++[x]):=by
     rw [List.append_assoc]
     exact List.Perm.append_left u (List.perm_append_singleton x q).symm
    exact this.trans (by rw [<-h2]; exact g.append_right [x])
   refine ⟨(((i+1:Nat):Int),(u++x::q)++f.drop (i+1)),bnd h1 (by simp),⟨i+1,u++x::q,rfl,by omega,by omega,?_,hp,?_⟩,by simp; omega⟩
   .rw [hp.length_eq,List.length_take]; omega
   .rw [h2] at l
    exact A0x L l h3 I
  .have:i=f.length:=by omega
   subst this
   rw [List.take_length] at g
   simp only [Aq (by omega:¬(f.length:Int)<(f.length:Int)),cond_false,List.drop_length,List.append_nil]
   exact .inr ⟨S,rfl,g,l⟩
 .rintro R ⟨h1,h2⟩
  exact ⟨R,rfl,h1,h2⟩
noncomputable def Aos {α:Type} (B:Nat) (gr:Int->Option (List α)) (a0:List (List α)):Option (List α) :=
 (Am (S:=(Int×Int)) (E:=Int) (fun (v2,v3)=>
 bif (decide (v3<(a0.length:Int))) then (
 (Ag a0 v3).bind fun v4=>
 bif (decide ((Ac (v2+(v4.length:Int)))<(0:Int))) then (
 none
 )
 else (
 some (.inl ((Ac (v2+(v4.length:Int))),(Ac (v3+1))))
 )
 )
 else (
 some (.inr v2)
 )
  ) (0,0)).bind fun v5=>
 (gr v5).bind fun i=>
 (Am (S:=(Int×(List α))) (E:=(List α)) (fun (b,c)=>
 bif (decide (b<(a0.length:Int))) then (
 (Ag a0 b).bind fun f=>
 (Ce B c f).bind fun h=>
 some (.inl ((Ac (b+1)),h))
 )
 else (
 some (.inr c)
 )
  ) (0,i)).bind fun g=>
 some g
theorem Agp {α:Type} {B:Nat} (g:B<=1024) {gr:Int->Option (List α)} (l:∀n:Nat,n<=1000000->gr (n:Int)=some []) (a b:List α) (h:a.length+b.length<=1000000):Aos B gr [a,b]=some (a++b):=by
 have m1:a.length*B<=1000000*1024:=Nat.mul_le_mul (by omega) g
 have m2:(a.length+b.length)*B<=1000000*1024:=Nat.mul_le_mul h g
 have f:Ac 1=1:=by rw [Ac,Bx] <;> omega
 have c:Ac 2=2:=by rw [Ac,Bx] <;> omega
 have k:Ac (a.length:Int)=(a.length:Int):=by rw [Ac,Bx] <;> omega
 have i:Ac ((a.length:Int)+(b.length:Int))=((a.length:Int)+(b.length:Int)):=by rw [Ac,Bx] <;> omega
 have i0:Ag [a,b] 0=some a:=rfl
 have i1:Ag [a,b] 1=some b:=rfl
 have s:Ce B [] a=some a:=by rw [Dj (by simp; omega)]; rfl
 have q:Ce B a b=some (a++b):=Dj (by omega)
 unfold Aos
 refine G3 2 (fun j=>if j=0 then (0,0) else if j=1 then ((a.length:Int),1) else (((a.length+b.length:Nat):Int),2)) rfl ?_ ⟨((a.length+b.length:Nat):Int),?_,?_⟩
 .intro j hj
  rcases (by omega:j=0\/j=1) with rfl | rfl
  .have:¬((a.length:Int)<0):=by omega
   simp [i0,k,f,this]
  .have:¬((a.length:Int)+(b.length:Int)<0):=by omega
   simp [i1,i,c,this]
 .simp
 .rw [l _ h,Ad]
  refine G3 2 (fun j=>if j=0 then (0,[]) else if j=1 then (1,a) else (2,a++b)) rfl ?_ ⟨a++b,?_,rfl⟩
  .intro j hj
   rcases (by omega:j=0\/j=1) with rfl | rfl
   .simp [i0,f,s]
   .simp [i1,c,q]
  .simp
end Go.Ab
namespace Go.Ab
open Go
def Big:Nat:=1000000000 ^ 100
structure Np (x:Ak) (a:Nat):Prop where
 rb:RB 200 x
 s:sv x=false
 n:nv x=a
 d:dv x=1
theorem Agq {a:Nat} (h:a<Big):Bd a<=100:=Je h
theorem Np.cR {a:Nat} (h:Bd a<=200):Np (cR a) a:=⟨Abi h (by decide),(Agg a).1,(Agg a).2.1,(Agg a).2.2⟩
theorem Np.c {a:Nat} (h:a<Big):Np (Ab.cR a) a:=Np.cR (by have:=Agq h; omega)
theorem Np.z:Np ⟨false,[],[]⟩ 0:=⟨Ayq 200,by unfold sv; simp,by unfold nv; simp [Ai],by unfold dv; simp [Ai]⟩
theorem Np.add {x y:Ak} {a b:Nat} (hx:Np x a) (hy:Np y b):Na x y=some (Ab.cR (a+b)):=by
 rw [Ae2 _ _ 200 200 hx.rb hy.rb (by omega) (by omega),hx.s,hx.n,hx.d,hy.s,hy.n,hy.d]
 simp [Jg,H5,Ab.cR]
theorem Np.mul {x y:Ak} {a b:Nat} (hx:Np x a) (hy:Np y b):Gi x y=some (Ab.cR (a*b)):=by
 rw [Ae1 _ _ 200 200 hx.rb hy.rb (by omega) (by omega),hx.s,hx.n,hx.d,hy.s,hy.n,hy.d]
 simp [Ab.cR]
theorem Np.sign {x:Ak} {a:Nat} (hx:Np x a):F7 x=some (if a=0 then 0 else 1):=by
 rw [Aez _ 200 hx.rb (by omega),hx.s,hx.n]
 simp [H4]
theorem Np.can {x:Ak} {a:Nat} (hx:Np x a):Nd x=some (Ab.cR a):=by
 rw [Aey _ 200 hx.rb (by omega),hx.s,hx.n,hx.d]; rfl
def Ls (n:Nat) (f:Nat->Nat):List Ak:=(List.range n).map fun k=>cR (f k)
theorem My (n:Nat) (f:Nat->Nat):(Ls n f).length=n:=by simp [Ls]
theorem K1 {n k:Nat} (f:Nat->Nat) (h:k<n):(Ls n f)[k]? = some (cR (f k)):=by simp [Ls,h]
theorem Xo {n:Nat} {l:List Ak} {f:Nat->Nat} (b:l.length=n) (h:∀k,k<n->l[k]? = some (cR (f k))):l=Ls n f:=by
 apply List.ext_getElem?
 intro k
 rcases Nat.lt_or_ge k n with hk | hk
 .rw [h k hk,K1 f hk]
 .rw [List.getElem?_eq_none (by omega),List.getElem?_eq_none (by rw [My]; omega)]
theorem Abm {α R:Type} {step:Int×List α->Option ((Int×List α)⊕List α)} {J:List α->Option R} {r:R} {i n:Nat} (o:List α) (g:Nat->α) (y:i<=n) (q:o.length=n)
  (l:∀(j:Nat) (o':List α),i<=j->j<n->o'.length=n->step ((j:Int),o')=some (.inl (((j+1:Nat):Int),o'.set j (g j))))
  (z:∀o',o'.length=n->step ((n:Int),o')=some (.inr o'))
  (A:∀o',o'.length=n->(∀k,k<i->o'[k]? = o[k]?)->(∀k,i<=k->k<n->o'[k]? = some (g k))->J o'=some r):(Am step ((i:Int),o)).bind J=some r:=by
 obtain ⟨e,B,f⟩:=I2 (step:=step) (fun s=>∃(j:Nat) (o':List α),s=((j:Int),o')/\i<=j/\j<=n/\o'.length=n/\(∀k,k<i->o'[k]? = o[k]?)/\∀k,i<=k->k<j->o'[k]? = some (g k)) (fun s=>n-s.1.toNat)
  (fun o'=>o'.length=n/\(∀k,k<i->o'[k]? = o[k]?)/\∀k,i<=k->k<n->o'[k]? = some (g k)) (by
  rintro _ ⟨j,o',rfl,c,x,h1,h2,h3⟩
  rcases Nat.lt_or_ge j n with h | h
  .refine .inl ⟨_,l j o' c h h1,⟨j+1,o'.set j (g j),rfl,by omega,by omega,by simp [h1],fun k hk=>?_,fun k b u=>?_⟩,by simp; omega⟩
   .rw [List.getElem?_set_ne (by omega)]; exact h2 k hk
   .rcases Nat.lt_or_ge k j with h' | h'
    .rw [List.getElem?_set_ne (by omega)]; exact h3 k b h'
    .have:k=j:=by omega
     subst this
     rw [List.getElem?_set_self (by omega)]
  .have:j=n:=by omega
   subst this
   exact .inr ⟨o',z o' h1,h1,h2,h3⟩) ((i:Int),o) ⟨i,o,rfl,by omega,y,q,fun _ _=>rfl,fun k h1 h2=>by omega⟩
 rw [B,Ad]
 exact A e f.1 f.2.1 f.2.2
theorem A0y (n:Nat) (b:n<=1000):Wn (n:Int)=some (Ls n fun _=>0):=by
 unfold Wn
 rw [Is rfl rfl (Nat.le_refl _) (by omega) (by omega),Ad]
 refine Abm (i:=0) (n:=n) _ (fun _=>cR 0) (by omega) (by simp) ?_ ?_ ?_
 .intro j o' _ h2 h3
  have hx:o'[j]? = some o'[j]:=B7 (by omega)
  simp only [List.length_replicate,Al (by omega:(j:Int)<(n:Int)),cond_true,Az6,Ad,Cj rfl hx,Db h2 (by omega),Fq (n:=j) rfl]
 .intro o' h
  simp only [List.length_replicate,Aq (by omega:¬(n:Int)<(n:Int)),cond_false]
 .intro o' h1 _ h3
  rw [Xo h1 (f:=fun _=>0) fun k hk=>h3 k (by omega) hk]
theorem Aot (n k:Nat) (b:n<1000000000) (hk:k<=64):Z7 (n:Int) (k:Int)=some (cR (bc n k)):=by
 have h:Ti (n:Int) (k:Int)=some (cR (bc n k)):=by
  rw [Alq n k b hk,Abh,show Bt false (fct k*bc n k) (fct k)=Bt false (fct k*bc n k) (fct k*1) by rw [Nat.mul_one],Q6 _ _ _ _ (Aaw k)]
  rfl
 exact h
theorem Aou {n k:Nat} (h:n<=40):bc n k<Big:=by
 refine Nat.lt_of_le_of_lt (Xh n k) ?_
 exact Nat.lt_of_le_of_lt (Nat.pow_le_pow_right (by decide) h) (by decide)
theorem A0z (a b:Nat) (ha:a<=16) (hb:b<=16):Tj (a:Int) (b:Int)=some (Ls (a+b+1) (Rc a b)):=by
 unfold Tj
 have q:Ac ((a:Int)+(b:Int))=((a+b:Nat):Int):=by rw [Ac,Bx] <;> omega
 have l:Ac (((a+b:Nat):Int)+1)=((a+b+1:Nat):Int):=by rw [Ac,Bx] <;> omega
 have e:(if (b:Int)>(a:Int) then (b:Int) else (a:Int))=((max a b:Nat):Int):=by split <;> omega
 rw [q,l,A0y _ (by omega),Ad,e]
 refine Abm (i:=max a b) (n:=a+b+1) _ (fun k=>cR (Rc a b k)) (by omega) (by simp [My]) ?_ ?_ ?_
 .intro j o' h1 h2 h3
  have hx:o'[j]? = some o'[j]:=B7 (by omega)
  have g:Ac ((j:Int)-(b:Int))=((j-b:Nat):Int):=by rw [Ac,Bx] <;> omega
  have s:Rc a b j=bc j a*bc a (j-b):=by unfold Rc; rw [if_pos (by omega)]
  simp only [Al (by omega:(j:Int)<=((a+b:Nat):Int)),cond_true,Aot j a (by omega) (by omega),g,Aot a (j-b) (by omega) (by omega),Ad,(Np.c (Aou (by omega:j<=40))).mul (Np.c (Aou (k:=j-b) (by omega:a<=40))),Cj rfl hx,Db h2 (by omega),Fq (n:=j) rfl,s]
 .intro o' h
  simp only [Aq (by omega:¬((a+b+1:Nat):Int)<=((a+b:Nat):Int)),cond_false]
 .intro o' h1 h2 h3
  rw [Xo h1 (f:=Rc a b) fun k hk=>?_]
  rcases Nat.lt_or_ge k (max a b) with h | h
  .rw [h2 k h,K1 _ hk]
   have:Rc a b k=0:=by
    rcases (by omega:k<a\/k<b) with h | h
    .exact A0o h
    .unfold Rc; rw [if_neg (by omega)]
   rw [this]
  .exact h3 k h hk
end Go.Ab
namespace Go.Ab
open Go
theorem A00 {m n:Nat} {f g:Nat->Nat} {c:Nat} (hm:m<=1000) (D:n<=1000) (B:∀k,k<m->f k<Big) (q:∀k,k<n->g k<Big) (hc:c<Big) :
  Qs (Ls m f) (Ls n g) (cR c)=some (Ls (max m n) fun k=>(if k<m then f k else 0)+(if k<n then g k else 0)*c):=by
 unfold Qs
 rw [My,My]
 have e:(if (n:Int)>(m:Int) then (n:Int) else (m:Int))=((max m n:Nat):Int):=by split <;> omega
 rw [e,Is rfl rfl (Nat.le_refl _) (by omega) (by omega),Ad]
 refine Abm (i:=0) (n:=max m n) _ (fun k=>cR ((if k<m then f k else 0)+(if k<n then g k else 0)*c)) (by omega) (by simp) ?_ ?_ ?_
 .intro j o' _ h2 h3
  have hx:o'[j]? = some o'[j]:=B7 (by omega)
  obtain ⟨x,A,u⟩:∃x:Ak,(bif decide ((j:Int)<(m:Int)) then ((Ag (Ls m f) (j:Int)).bind fun b=>some (b.Neg,b.Num,b.Den)) else some (false,[],[]))=some (x.Neg,x.Num,x.Den)/\Np x (if j<m then f j else 0):=by
   by_cases h:j<m
   .rw [Al (by omega),cond_true,Cj rfl (K1 f h),if_pos h]
    exact ⟨_,rfl,Np.c (B j h)⟩
   .rw [Aq (by omega),cond_false,if_neg h]
    exact ⟨⟨false,[],[]⟩,rfl,Np.z⟩
  obtain ⟨y,s,l⟩:∃x:Ak,(bif decide ((j:Int)<(n:Int)) then ((Ag (Ls n g) (j:Int)).bind fun b=>some (b.Neg,b.Num,b.Den)) else some (false,[],[]))=some (x.Neg,x.Num,x.Den)/\Np x (if j<n then g j else 0)/\(if j<n then g j else 0)<Big:=by
   by_cases h:j<n
   .rw [Al (by omega),cond_true,Cj rfl (K1 g h),if_pos h]
    exact ⟨_,rfl,Np.c (q j h),q j h⟩
   .rw [Aq (by omega),cond_false,if_neg h]
    exact ⟨⟨false,[],[]⟩,rfl,Np.z,by decide⟩
  have hq:Bd ((if j<n then g j else 0)*c)<=200:=by
   have:=Gp (if j<n then g j else 0) c
   have:=Agq l.2
   have:=Agq hc
   omega
  have hb:Wi x y (cR c)=some (cR ((if j<m then f j else 0)+(if j<n then g j else 0)*c)):=by
   unfold Wi
   rw [(Np.c hc).mul l.1,Ad,Nat.mul_comm c,u.add (Np.cR hq)]; rfl
  simp only [List.length_replicate,Al (by omega:(j:Int)<((max m n:Nat):Int)),cond_true]
  erw [A,Ad,s,Ad]
  dsimp only
  rw [hb,Ad,Cj rfl hx,Ad,Db h2 (by omega),Fq (n:=j) rfl]
 .intro o' h
  simp only [List.length_replicate,Aq (by omega:¬((max m n:Nat):Int)<((max m n:Nat):Int)),cond_false]
 .intro o' h1 _ h3
  rw [Xo h1 (f:=fun k=>(if k<m then f k else 0)+(if k<n then g k else 0)*c) fun k hk=>h3 k (by omega) hk]
theorem Agr {p:List Ak} {n:Nat} {f:Nat->Nat} (u:n<1000) (s:p.length=n+1) (hp:∀k,k<n+1->∃x,p[k]? = some x/\Np x (f k)) (b:f n≠0):Ml p=some (Ls (n+1) f):=by
 unfold Ml
 obtain ⟨x,q,l⟩:=hp n (by omega)
 have w:Ac (((n+1:Nat):Int)-1)=(n:Int):=by rw [Ac,Bx] <;> omega
 refine bnd (a:=((n+1:Nat):Int)) (D0 ?_) ?_
 .rw [s]
  simp only [Al (by omega:((n+1:Nat):Int)>0),cond_true,w,Cj rfl q,Ad,l.sign,if_neg b]
  rfl
 .rw [Is rfl rfl (Nat.le_refl _) (by omega) (by omega),Ad]
  refine Abm (i:=0) (n:=n+1) _ (fun k=>cR (f k)) (by omega) (by simp) ?_ ?_ ?_
  .intro j o' _ h2 h3
   have hx:o'[j]? = some o'[j]:=B7 (by omega)
   obtain ⟨y,g,c⟩:=hp j h2
   simp only [List.length_replicate,Al (by omega:(j:Int)<((n+1:Nat):Int)),cond_true,Cj rfl g,c.can,Ad,Cj rfl hx,Db h2 (by omega),Fq (n:=j) rfl]
  .intro o' h
   simp only [List.length_replicate,Aq (by omega:¬((n+1:Nat):Int)<((n+1:Nat):Int)),cond_false]
  .intro o' h1 _ h3
   rw [Xo h1 (f:=f) fun k hk=>h3 k (by omega) hk]
def F4 (n d:Nat) (f:Nat->Nat) (k:Nat):Nat:=sm n fun a=>f a*Rc a d k
theorem Aov (a d:Nat):0<Rc a d (a+d):=by
 unfold Rc
 rw [if_pos (by omega),show a+d-d=a by omega,Rq]
 have:0<bc (a+d) a:=by
  have h:∀d,0<bc (a+d) a:=by
   intro d
   induction d with
   | zero=>rw [Nat.add_zero,Rq]; decide
   | succ d ih=>
    cases a with
    | zero=>rw [Kd]; decide
    | succ a=>rw [show a+1+(d+1)=(a+1+d)+1 by omega,Ub]; omega
  exact h d
 omega
theorem A01 {n d:Nat} {f:Nat->Nat} {p q:List Ak} (a1:n+d<=12) (hp:p=Ls (n+1) f) (i:f n≠0) (hq:q.length=d+1) (R:∀k,k<d+1->∃x,q[k]? = some x/\Np x (if k=d then 1 else 0))
  (U:∀k,k<n+1->f k<Big) (Y:∀a k,a<=n+1->F4 a d f k<Big):Wc p q=some (Ls (n+d+1) (F4 (n+1) d f),true):=by
 unfold Wc
 have l:p.length=n+1:=by rw [hp,My]
 rw [l,hq,Aq (by omega),Aq (by omega)]
 simp only [cond_false,Ad]
 have c1:Ml p=some (Ls (n+1) f):=Agr (by omega) l (fun k hk=>⟨_,by rw [hp]; exact K1 f hk,Np.c (U k hk)⟩) i
 have c2:Ml q=some (Ls (d+1) fun k=>if k=d then 1 else 0):=Agr (by omega) hq R (by simp)
 have w:Ac (((n+1:Nat):Int)+((d+1:Nat):Int))=((n+d+2:Nat):Int):=by rw [Ac,Bx] <;> omega
 rw [c1,Ad,c2,Ad,My,My,Cv (by omega),Cv (by omega)]
 simp only [cond_false,Ad]
 rw [w,Aq (by omega),cond_false]
 obtain ⟨r,r1,Z⟩:=Fb (J:=fun B=>(Ml B).bind fun A=>some (A,true)) (Q:=fun r=>r=(Ls (n+d+1) (F4 (n+1) d f),true)) (step:=fun (x:List Ak×Int)=>match x with
  | (v25,v26)=>
   bif (decide (v26<((n+1:Nat):Int))) then (
   (Ag (Ls (n+1) f) v26).bind fun M=>
   (Am (S:=((List Ak)×Int)) (E:=((List Ak)×Int)) (fun (g,v37)=>
   bif (decide (v37<((d+1:Nat):Int))) then (
   (Ag (Ls (d+1) fun k=>if k=d then 1 else 0) v37).bind fun I=>
   (Gi M I).bind fun v40=>
   (F7 v40).bind fun G=>
   bif (G==(0:Int)) then (
   some (.inl (g,(Ac (v37+1))))
   )
   else (
   (Tj v26 v37).bind fun D=>
   (Qs g D v40).bind fun v44=>
   some (.inl (v44,(Ac (v37+1))))
   )
   )
   else (
   some (.inr (g,v37))
   )
    ) (v25,0)).bind fun (v45,v46)=>
   some (.inl (v45,(Ac (v26+1))))
   )
   else (
   some (.inr v25)
   )) (s:=([],0))
  (fun s=>∃(a L:Nat) (h:Nat->Nat),s=(Ls L h,(a:Int))/\a<=n+1/\L<=a+d/\(∀k,(if k<L then h k else 0)=F4 a d f k)/\(a=n+1->L=n+d+1)) (fun s=>n+1-s.2.toNat)
  (fun e=>e=Ls (n+d+1) (F4 (n+1) d f)) ⟨0,0,fun _=>0,rfl,by omega,by omega,fun k=>by simp [F4,sm],by omega⟩ (by
  rintro _ ⟨a,L,h,rfl,ha,hL,z,y⟩
  rcases Nat.lt_or_ge a (n+1) with h1 | h1
  .left
   have N:Np (cR 0) 0:=Np.c (by decide)
   have b:∀k,F4 (a+1) d f k=F4 a d f k+f a*Rc a d k:=fun k=>rfl
   have hh:∀k,k<L->h k<Big:=fun k hk=>by
    have:=z k
    rw [if_pos hk] at this
    rw [this]; exact Y a k (by omega)
   by_cases h0:f a=0
   .refine ⟨(Ls L h,((a+1:Nat):Int)),?_,⟨a+1,L,h,rfl,by omega,by omega,fun k=>by rw [b,h0,z]; simp,fun e=>?_⟩,by simp; omega⟩
    .simp only [Al (by omega:(a:Int)<((n+1:Nat):Int)),cond_true,Cj rfl (K1 f h1),Ad,h0]
     refine G3 (d+1) (fun j=>(Ls L h,(j:Int))) rfl ?_ ⟨(Ls L h,((d+1:Nat):Int)),?_,?_⟩
     .intro j hj
      have hy:Np (cR (if j=d then 1 else 0)) (if j=d then 1 else 0):=Np.c (by split <;> decide)
      simp only [Al (by omega:(j:Int)<((d+1:Nat):Int)),cond_true,Cj rfl (K1 _ hj),Ad,N.mul hy,Nat.zero_mul,N.sign,if_true,Db hj (by omega)]
      rfl
     .simp only [Aq (by omega:¬((d+1:Nat):Int)<((d+1:Nat):Int)),cond_false]
     .rw [Db h1 (by omega)]
    .have:a=n:=by omega
     subst this; exact (i h0).elim
   .have u:=Np.c (U a h1)
    have V:Qs (Ls L h) (Ls (a+d+1) (Rc a d)) (cR (f a))=some (Ls (a+d+1) fun k=>(if k<L then h k else 0)+(if k<a+d+1 then Rc a d k else 0)*f a):=by
     rw [A00 (by omega) (by omega) hh (fun k hk=>?_) (U a h1),show max L (a+d+1)=a+d+1 by omega]
     unfold Rc
     split
     .refine Nat.lt_of_le_of_lt (Nat.mul_le_mul (Xh k a) (Xh a (k-d))) ?_
      rw [<-Nat.pow_add]
      exact Nat.lt_of_le_of_lt (Nat.pow_le_pow_right (by decide) (by omega:k+a<=40)) (by decide)
     .decide
    refine ⟨(Ls (a+d+1) fun k=>(if k<L then h k else 0)+(if k<a+d+1 then Rc a d k else 0)*f a,((a+1:Nat):Int)),?_,⟨a+1,a+d+1,_,rfl,by omega,by omega,fun k=>?_,fun e=>by omega⟩,by simp; omega⟩
    .simp only [Al (by omega:(a:Int)<((n+1:Nat):Int)),cond_true,Cj rfl (K1 f h1),Ad]
     refine G3 (d+1) (fun j=>if j<=d then (Ls L h,(j:Int)) else (Ls (a+d+1) fun k=>(if k<L then h k else 0)+(if k<a+d+1 then Rc a d k else 0)*f a,(j:Int))) (by simp) ?_ ⟨((Ls (a+d+1) fun k=>(if k<L then h k else 0)+(if k<a+d+1 then Rc a d k else 0)*f a),((d+1:Nat):Int)),?_,?_⟩
     .intro j hj
      have hy:Np (cR (if j=d then 1 else 0)) (if j=d then 1 else 0):=Np.c (by split <;> decide)
      rw [if_pos (by omega)]
      simp only [Al (by omega:(j:Int)<((d+1:Nat):Int)),cond_true,Cj rfl (K1 _ hj),Ad,u.mul hy,Db hj (by omega)]
      rcases Nat.lt_or_ge j d with h2 | h2
      .rw [if_neg (by omega:¬j=d),Nat.mul_zero,N.sign,Ad,if_pos (by omega:j+1<=d)]
       rfl
      .have:j=d:=by omega
       subst this
       rw [if_pos rfl,Nat.mul_one,u.sign,Ad,if_neg h0,A0z a j (by omega) (by omega),Ad,V,if_neg (by omega)]
       rfl
     .rw [if_neg (by omega)]
      simp only [Aq (by omega:¬((d+1:Nat):Int)<((d+1:Nat):Int)),cond_false]
     .rw [Db h1 (by omega)]
    .rw [b,<-z]
     by_cases hk:k<a+d+1
     .rw [if_pos hk,if_pos hk,Nat.mul_comm (Rc a d k)]
     .rw [if_neg hk,if_neg (by omega),Aon (by omega)]; simp
  .have:a=n+1:=by omega
   subst this
   right
   have X:=y rfl
   refine ⟨Ls L h,?_,?_⟩
   .simp only [Aq (by omega:¬((n+1:Nat):Int)<((n+1:Nat):Int)),cond_false]
   .subst X
    refine Xo (My _ _) fun k hk=>?_
    have:=z k
    rw [if_pos hk] at this
    rw [K1 _ hk,this]) (by
  rintro _ rfl
  refine ⟨_,bnd (Agr (n:=n+d) (f:=F4 (n+1) d f) (by omega) (My _ _) (fun k hk=>⟨_,K1 _ hk,Np.c (Y _ _ (by omega))⟩) ?_) rfl,rfl⟩
  have e:F4 (n+1) d f (n+d)=F4 n d f (n+d)+f n*Rc n d (n+d):=rfl
  have:=Nat.mul_pos (Nat.pos_of_ne_zero i) (Aov n d)
  omega)
 rw [<-Z]
 exact r1
end Go.Ab
namespace Go.Ab
open Go
theorem A02 (d x N:Nat) (f:Nat->Nat):∀M,(∀a,a<M->a+d<N)->sm N (fun k=>F4 M d f k*bc x k)=sm M (fun a=>f a*bc x a)*bc x d:=by
 intro M
 induction M with
 | zero=>intro _; rw [Xl (fun k _=>by simp [F4,sm])]; simp [sm]
 | succ M ih=>
  intro h
  have e:∀k,F4 (M+1) d f k*bc x k=F4 M d f k*bc x k+f M*(Rc M d k*bc x k):=fun k=>by
   show (F4 M d f k+f M*Rc M d k)*bc x k=_
   rw [Nat.add_mul,Nat.mul_assoc]
  rw [Xj (fun k _=>e k),Xk,ih (fun a ha=>h a (by omega)),Aol,Xm x M d N (h M (by omega))]
  show _=(sm M (fun a=>f a*bc x a)+f M*bc x M)*bc x d
  rw [Nat.add_mul,Nat.mul_assoc (f M)]
theorem A03 (d:Nat) (f:Nat->Nat) (k:Nat):∀{m n:Nat},m<=n->F4 m d f k<=F4 n d f k:=by
 intro m n h
 induction n with
 | zero=>
  have:m=0:=by omega
  subst this; exact Nat.le_refl _
 | succ n ih=>
  rcases Nat.lt_or_ge m (n+1) with h' | h'
  .have:=ih (by omega)
   have e:F4 (n+1) d f k=F4 n d f k+f n*Rc n d k:=rfl
   omega
  .have:m=n+1:=by omega
   subst this; exact Nat.le_refl _
def prb (x:Nat):List A6->Nat
 | []=>1
 | a::l=>bc x a.Deg.toNat*prb x l
def Cb:List A6->Nat
 | []=>0
 | a::l=>a.Deg.toNat+Cb l
theorem Aow (x:Nat) (l m:List A6):prb x (l++m)=prb x l*prb x m:=by
 induction l with
 | nil=>simp [prb]
 | cons a l ih=>simp only [List.cons_append,prb,ih,Nat.mul_assoc]
theorem L1 (l m:List A6):Cb (l++m)=Cb l+Cb m:=by
 induction l with
 | nil=>simp [Cb]
 | cons a l ih=>simp only [List.cons_append,Cb,ih,Nat.add_assoc]
theorem Aox (x:Nat) {l m:List A6} (h:l.Perm m):prb x l=prb x m:=by
 induction h with
 | nil=>rfl
 | cons a _ ih=>simp only [prb,ih]
 | swap a b l=>simp only [prb]; rw [<-Nat.mul_assoc,<-Nat.mul_assoc,Nat.mul_comm (bc x b.Deg.toNat)]
 | trans _ _ h1 h2=>exact h1.trans h2
theorem Nu {l m:List A6} (h:l.Perm m):Cb l=Cb m:=by
 induction h with
 | nil=>rfl
 | cons a _ ih=>simp only [Cb,ih]
 | swap a b l=>simp only [Cb]; omega
 | trans _ _ h1 h2=>exact h1.trans h2
theorem A04 (x d:Nat):bc x d<=(x+1) ^ d:=Nat.le_trans (Agk x d) (Nat.pow_le_pow_left (by omega) d)
theorem Aoy (x:Nat):∀l:List A6,prb x l<=(x+1) ^ Cb l
 | []=>by simp [prb,Cb]
 | a::l=>by
  simp only [prb,Cb,Nat.pow_add]
  exact Nat.mul_le_mul (A04 x _) (Aoy x l)
theorem Ud {x:Nat} {l:List A6} (hx:x<=1048576) (hd:Cb l<=12):prb x l<Big:=by
 refine Nat.lt_of_le_of_lt (Aoy x l) ?_
 refine Nat.lt_of_le_of_lt (Nat.pow_le_pow_left (by omega:x+1<=1048577) _) ?_
 exact Nat.lt_of_le_of_lt (Nat.pow_le_pow_right (by decide) hd) (by decide)
def PwN (l:List A6) (N:Nat) (f:Nat->Nat):Prop:=N=Cb l/\f N≠0/\∀x,sm (N+1) (fun k=>f k*bc x k)=prb x l
theorem PwN.le {l:List A6} {N:Nat} {f:Nat->Nat} (h:PwN l N f) {k:Nat} (hk:k<N+1):f k<=prb k l:=by
 have h1:=h.2.2 k
 have h2:f k*bc k k<=sm (N+1) (fun j=>f j*bc k j):=by
  have:∀n,k<n->f k*bc k k<=sm n (fun j=>f j*bc k j):=by
   intro n
   induction n with
   | zero=>intro h; omega
   | succ n ih=>
    intro h
    show _<=sm n _+f n*bc k n
    rcases Nat.lt_or_ge k n with h' | h'
    .have:=ih h'; omega
    .have:k=n:=by omega
     subst this; omega
  exact this _ hk
 rw [Rq,Nat.mul_one] at h2
 omega
theorem PwN.uniq {l m:List A6} {N M:Nat} {f g:Nat->Nat} (h:PwN l N f) (h':PwN m M g) (hp:l.Perm m):N=M/\∀k,k<N+1->f k=g k:=by
 have e:N=M:=by rw [h.1,h'.1,Nu hp]
 subst e
 exact ⟨rfl,Aoq fun n _=>by rw [h.2.2 n,h'.2.2 n,Aox n hp]⟩
theorem PwN.step {l:List A6} {N:Nat} {f:Nat->Nat} (h:PwN l N f) (a:A6):PwN (l++[a]) (N+a.Deg.toNat) (F4 (N+1) a.Deg.toNat f):=by
 refine ⟨by rw [L1,h.1]; simp [Cb],?_,fun x=>?_⟩
 .have e:F4 (N+1) a.Deg.toNat f (N+a.Deg.toNat)=F4 N a.Deg.toNat f (N+a.Deg.toNat)+f N*Rc N a.Deg.toNat (N+a.Deg.toNat):=rfl
  have:=Nat.mul_pos (Nat.pos_of_ne_zero h.2.1) (Aov N a.Deg.toNat)
  omega
 .rw [A02 _ x _ f (N+1) (fun b ha=>by omega),h.2.2 x,Aow]
  simp [prb]
theorem A05 (l:List A6) (x:l≠[]) (ht:∀a∈l,a.Lin.Terms.length≠0) (hd:∀a∈l,0<=a.Deg) (L:Cb l<=12) (M:l.length<=1000) :
  ∃N f,Ln l=some (Ls (N+1) f)/\PwN l N f:=by
 have h0:Aaa l=false:=by
  cases l with
  | nil=>exact (x rfl).elim
  | cons a J=>
   have:=ht a (by simp)
   show (a.Lin.Terms.length==0)=false
   simpa using this
 have h1:∃N f,Z9 l=some (Ls (N+1) f)/\PwN l N f:=by
  unfold Z9
  rw [T9,Ad]
  suffices h:∃r,_/\∃N f,r=Ls (N+1) f/\PwN l N f by
   obtain ⟨r,E,N,f,D,B⟩:=h
   exact ⟨N,f,by rw [<-D]; exact E,B⟩
  refine Fb (fun s=>∃(i N:Nat) (f:Nat->Nat),s=(Ls (N+1) f,(i:Int))/\i<=l.length/\PwN (l.take i) N f) (fun s=>l.length-s.2.toNat) (fun e=>∃N f,e=Ls (N+1) f/\PwN l N f)
   ⟨0,0,fun _=>1,rfl,by omega,by simp [PwN,Cb,prb,sm,Kd]⟩ ?_ ?_
  .rintro _ ⟨i,N,f,rfl,R,g⟩
   rcases Nat.lt_or_ge i l.length with h | h
   .left
    have hx:l[i]? = some l[i]:=B7 h
    have b:=List.getElem_mem h
    generalize l[i]=a at hx b
    have S:=ht a b
    have I:=hd a b
    have A:Cb l=Cb (l.take i)+(a.Deg.toNat+Cb (l.drop (i+1))):=by
     have:=L1 (l.take i) (l.drop i)
     rw [List.take_append_drop] at this
     rw [this,Iy hx]; rfl
    have U:=g.1
    have w:Ac (a.Deg+1)=((a.Deg.toNat+1:Nat):Int):=by rw [Ac,Bx] <;> omega
    have G:Ag (List.replicate (a.Deg.toNat+1) (⟨false,[],[]⟩:Ak)) a.Deg=some ⟨false,[],[]⟩:=Cj (n:=a.Deg.toNat) (by omega) (by simp)
    have u:=g.step a
    have hb:∀y k,y<=N+1->F4 y a.Deg.toNat f k<Big:=by
     intro y k ha'
     refine Nat.lt_of_le_of_lt (A03 _ f k ha') ?_
     rcases Nat.lt_or_ge k (N+a.Deg.toNat+1) with hk | hk
     .refine Nat.lt_of_le_of_lt (u.le hk) (Ud (by omega) ?_)
      rw [L1]; simp only [Cb]; omega
     .have:F4 (N+1) a.Deg.toNat f k=0:=Xl fun j hj=>by rw [Aon (by omega)]; rfl
      rw [this]; decide
    have hm:=A01 (n:=N) (d:=a.Deg.toNat) (f:=f) (p:=Ls (N+1) f) (q:=Cr (List.replicate (a.Deg.toNat+1) ⟨false,[],[]⟩) a.Deg (cR 1)) (by omega) rfl g.2.1 (by rw [Fq (n:=a.Deg.toNat) (by omega)]; simp) (fun k hk=>by
     rw [Fq (n:=a.Deg.toNat) (by omega)]
     by_cases e:k=a.Deg.toNat
     .subst e
      rw [if_pos rfl]
      exact ⟨_,List.getElem?_set_self (by simp),Np.c (by decide)⟩
     .rw [if_neg e,List.getElem?_set_ne (by omega)]
      exact ⟨⟨false,[],[]⟩,by simp [hk],Np.z⟩) (fun k hk=>Nat.lt_of_le_of_lt (g.le hk) (Ud (by omega) (by omega))) hb
    refine ⟨(Ls (N+a.Deg.toNat+1) (F4 (N+1) a.Deg.toNat f),((i+1:Nat):Int)),?_,⟨i+1,_,_,rfl,by omega,by rw [Dk hx]; exact u⟩,by simp; omega⟩
    simp only [Al (by omega:(i:Int)<(l.length:Int)),cond_true,Cj rfl hx,Ad,Cv (by omega:¬(a.Lin.Terms.length:Int)=0),cond_false,w,Is rfl rfl (Nat.le_refl _) (by omega:56*(a.Deg.toNat+1)<=281474976710656) (by omega),T9,G,hm,Db h (by omega)]
   .have:i=l.length:=by omega
    subst this
    rw [List.take_length] at g
    right
    exact ⟨_,by simp only [Aq (by omega:¬(l.length:Int)<(l.length:Int)),cond_false],_,_,rfl,g⟩
  .rintro _ ⟨N,f,rfl,h⟩
   exact ⟨_,rfl,N,f,rfl,h⟩
 obtain ⟨N,f,h2,h3⟩:=h1
 refine ⟨N,f,?_,h3⟩
 unfold Ln
 rw [h0,cond_false]
 exact h2
theorem A06 {c:Int} {d:Int} (hc:c<=1048576) (hd:0<=d) (b:d<=64):Nl c d=some (cR (bc c.toNat d.toNat),true):=by
 have h:=Az8 c.toNat d.toNat (by omega) (by omega)
 have e:((d.toNat:Nat):Int)=d:=by omega
 rw [e] at h
 rw [<-h]
 unfold Nl
 have f:(if c>(0:Int) then c else 0)=(if ((c.toNat:Nat):Int)>(0:Int) then ((c.toNat:Nat):Int) else 0):=by split <;> split <;> omega
 rw [f]
theorem A07 (l:List A6) {c:Int} (hc:c<=1048576) (ht:∀a∈l,a.Lin.Terms.length=0/\a.Lin.Const=c) (hd:∀a∈l,0<=a.Deg) (G:Cb l<=12) (I:l.length<=1000) :
  Ln l=some [cR (prb c.toNat l)]:=by
 have h1:Z8 l=some [cR (prb c.toNat l)]:=by
  unfold Z8
  rw [T9,Ad]
  obtain ⟨r,B,A⟩:∃r,_/\r = [cR (prb c.toNat l)]:=Fb (fun s=>∃i:Nat,s=((i:Int),[cR (prb c.toNat (l.take i))])/\i<=l.length) (fun s=>l.length-s.1.toNat) (fun e=>e = [cR (prb c.toNat l)]) (J:=fun o=>some o)
   (step:=fun (x:Int×List Ak)=>match x with
    | (g,f)=>
     bif (decide (g<(l.length:Int))) then (
     (Ag l g).bind fun b=>
     bif ((b.Lin.Terms.length:Int)==(0:Int)) then (
     (Nl b.Lin.Const b.Deg).bind fun k=>
     (Ag f 0).bind fun v20=>
     (Gi v20 k.1).bind fun v21=>
     (Ag f 0).bind fun v22=>
     some (.inl ((Ac (g+1)),(Cr f 0 v21)))
     )
     else (
     (E9 56 (Ac (b.Deg+1)) (Ac (b.Deg+1)) ((Ak.mk false [] []):Ak)).bind fun q=>
     (Ep 1).bind fun v25=>
     (Ag q b.Deg).bind fun v26=>
     none
     )
     )
     else (
     some (.inr f)
     )) (s:=(0,[cR 1]))
   ⟨0,rfl,by omega⟩ (by
   rintro _ ⟨i,rfl,L⟩
   rcases Nat.lt_or_ge i l.length with h | h
   .left
    have hx:l[i]? = some l[i]:=B7 h
    have j:=List.getElem_mem h
    generalize l[i]=a at hx j
    obtain ⟨M,D⟩:=ht a j
    have y:=hd a j
    have e:Cb l=Cb (l.take i)+(a.Deg.toNat+Cb (l.drop (i+1))):=by
     have:=L1 (l.take i) (l.drop i)
     rw [List.take_append_drop] at this
     rw [this,Iy hx]; rfl
    have hb:prb c.toNat (l.take i)<Big:=Ud (by omega) (by omega)
    have z:bc c.toNat a.Deg.toNat<Big:=by
     have:=Ud (x:=c.toNat) (l:=[a]) (by omega) (by simp only [Cb]; omega)
     simpa [prb] using this
    have u:Ag [cR (prb c.toNat (l.take i))] 0=some (cR (prb c.toNat (l.take i))):=rfl
    refine ⟨_,?_,⟨i+1,rfl,by omega⟩,by simp; omega⟩
    simp only [Al (by omega:(i:Int)<(l.length:Int)),cond_true,Cj rfl hx,Ad,Es (by omega:(a.Lin.Terms.length:Int)=0),D,A06 hc y (by omega:a.Deg<=64),u,(Np.c hb).mul (Np.c z),Db h (by omega)]
    rw [Dk hx,Aow]
    simp [prb,Cr]
   .have:i=l.length:=by omega
    subst this
    right
    exact ⟨[cR (prb c.toNat (List.take l.length l))],by simp only [Aq (by omega:¬(l.length:Int)<(l.length:Int)),cond_false],by rw [List.take_length]⟩) (by
   rintro _ rfl
   exact ⟨_,rfl,rfl⟩)
  rw [<-A]
  exact B
 have h0:Aaa l=true:=by
  cases l with
  | nil=>rfl
  | cons a E=>
   have:=(ht a (by simp)).1
   show (a.Lin.Terms.length==0)=true
   simpa using this
 unfold Ln
 rw [h0,cond_true,h1]
end Go.Ab
namespace Go.Ab
open Go
noncomputable def Xp {α:Type} (cmp:α->α->Option Int) (a0:Int) (g:List α):Option (List α) :=
 (Am (S:=(Int×Int×(List α))) (E:=(Int×Int×(List α))) (fun (v3,v4,i)=>
 bif (decide (v4<=a0)) then (
 (Xn cmp v3 v4 i).bind fun h=>
 (Fm g.length h).bind fun l=>
 some (.inl (v4,(Ac (v4+20)),h))
 )
 else (
 some (.inr (v3,v4,i))
 )
  ) (0,20,g)).bind fun (v8,v9,f)=>
 (Xn cmp v8 a0 f).bind fun c=>
 (Fm g.length c).bind fun v12=>
 (Am (S:=(Int×Int×Int)) (E:=Unit) (fun (b,k,j)=>
 bif (decide (b<a0)) then (
 (Am (S:=Unit) (E:=Unit) (fun _=>
 bif (decide ((Ac (2*b))<=a0)) then (
 none
 )
 else (
 some (.inr ())
 )
  ) ()).bind fun _=>
 bif (decide ((Ac (0+b))<a0)) then (
 none
 )
 else (
 some (.inl ((Ac (b*2)),0,(Ac (2*b))))
 )
 )
 else (
 some (.inr ())
 )
  ) (20,v8,v9)).bind fun _=>
 some c
theorem Ags {α:Type} {cmp:α->α->Option Int} {c:α->α->Int} (L:M3 c) (f:List α) (g:∀x∈f,∀y∈f,cmp x y=some (c x y)) (h:f.length<20) :
  ∃R,Xp cmp (f.length:Int) f=some R/\R.Perm f/\R.Pairwise (fun a b=>¬c b a<0):=by
 obtain ⟨R,h1,h2,h3⟩:=Aor L f g (by omega)
 refine ⟨R,?_,h2,h3⟩
 unfold Xp
 refine bnd (a:=(0,20,f)) (D0 ?_) ?_
 .simp only [Aq (by omega:¬(20:Int)<=(f.length:Int)),cond_false]
 .dsimp only
  rw [h1,Ad,K0 h2.length_eq.symm,Ad]
  refine bnd (a:=()) (D0 ?_) rfl
  simp only [Aq (by omega:¬(20:Int)<(f.length:Int)),cond_false]
theorem Rr:M3 Ev where
 irr x:=by rw [(G5.zero x x trivial trivial).2 rfl]; omega
 trs x y z h1 h2:=G5.trans x y z trivial trivial trivial h1 h2
 ntr x y z h1 h2 h3:=by
  rcases Int.lt_trichotomy (Ev x y) 0 with k | k | k
  .exact h1 k
  .have:=(G5.zero x y trivial trivial).1 k
   subst this; exact h2 h3
  .have b:Ev y x<0:=by rw [G5.anti x y trivial trivial]; omega
   exact h2 (G5.trans y x z trivial trivial trivial b h3)
theorem A08:M3 (fun a b:A6=>Ev a.Lin b.Lin):=⟨fun _=>Rr.irr _,fun _ _ _=>Rr.trs _ _ _,fun _ _ _=>Rr.ntr _ _ _⟩
def Abn (l:List A6):Prop:=l.Pairwise fun a b=>¬Ev b.Lin a.Lin<0
theorem Aoz (b:List A6) (ht:∀a∈b,a.Lin.Terms.length<1099511627776) (c:b.length<20):∃R,Tc b=some R/\R.Perm b/\Abn R:=by
 obtain ⟨R,h1,h2,h3⟩:=Ags (cmp:=Td) A08 b (fun x hx y _=>by
  unfold Td
  rw [Aa6 x.Lin y.Lin (ht x hx)]; rfl) c
 refine ⟨R,?_,h2,h3⟩
 unfold Tc
 have e:Zx (b.length:Int) b=Xp Td (b.length:Int) b:=rfl
 rw [e,h1,Ad,K0 h2.length_eq.symm]; rfl
theorem A09:Ok []=some []:=by
 obtain ⟨R,h1,h2,h3⟩:=Ags (cmp:=Ol) (c:=fun _ _=>0) ⟨fun _=>by omega,fun _ _ _ h=>by omega,fun _ _ _ _ _=>by omega⟩ ([]:List Bz) (fun x hx=>by cases hx) (by simp)
 have b:R = []:=List.Perm.eq_nil h2
 subst b
 unfold Ok
 have e:Wb ((([]:List Bz).length:Nat):Int) []=Xp Ol ((([]:List Bz).length:Nat):Int) []:=rfl
 rw [e,h1]; rfl
theorem Agt {α:Type} (n:Nat) (h:n<=1000000):Mc (α:=α) (n:Int)=some []:=by
 unfold Mc
 rw [Al (by omega),Al (by omega)]; rfl
theorem A1a (a b:List A6) (h:a.length+b.length<=1000000):Zs [a,b]=some (a++b) :=
 Agp (B:=40) (by decide) (gr:=Zz) (fun n h=>Agt n h) a b h
theorem A1b (a b:List Bz) (h:a.length+b.length<=1000000):Zr [a,b]=some (a++b) :=
 Agp (B:=40) (by decide) (gr:=Zy) (fun n h=>Agt n h) a b h
theorem Abo (m n:Ba) (h1:m.Factors.length+n.Factors.length<=1000000) (h2:m.Atoms.length+n.Atoms.length<=1000000):Mk m n=some ⟨m.Factors++n.Factors,m.Atoms++n.Atoms⟩:=by
 unfold Mk
 rw [A1b _ _ h1,Ad,A1a _ _ h2]; rfl
def atO (l:Ar) (k:Nat):List A6:=if k=0 then [] else [⟨l,k⟩]
theorem A1c (l:Ar) (k:Nat):Qj l (k:Int)=some (atO l k):=by
 unfold Qj atO
 by_cases h:k=0
 .rw [Es (by omega),if_pos h]; rfl
 .rw [Cv (by omega),if_neg h]; rfl
theorem Ao0 (l:Ar) (k:Nat):(atO l k).length<=1:=by unfold atO; split <;> simp
abbrev FS:={F:List Bz // F.length<=1000}
theorem A1d {t:Ah} {x:Ak} {K:Nat} {A B:List A6} {F:FS} (hm:t.Mono=⟨F.1,A⟩) (b:A.length+B.length<=1000000) (i:K<30000000000) (h1:RB K t.Coef) (h2:RB 200 x) :
  ∃u,I8 t x ⟨[],B⟩=some u/\u.Mono=⟨F.1,A++B⟩/\rq u.Coef=rq t.Coef*rq x/\RB (K+202) u.Coef:=by
 obtain ⟨c,h,g,_,f⟩:=Ri h1 h2 (by omega) (by omega)
 refine ⟨⟨c,⟨F.1,A++B⟩⟩,?_,rfl,f,g⟩
 unfold I8
 have:=F.2
 rw [h,Ad,hm,Abo _ _ (by simp; omega) b,List.append_nil]; rfl
abbrev Ds:=List A6×Nat
inductive Fv (F:FS) (c:Rat) (K:Nat):List Ah->List Ds->Prop
 | nil:Fv F c K [] []
 | cons {t:Ah} {b:Ds} {ts:List Ah} {bs:List Ds}:t.Mono=⟨F.1,b.1⟩->rq t.Coef=c*(b.2:Rat)->RB K t.Coef->Fv F c K ts bs->Fv F c K (t::ts) (b::bs)
theorem Fv.len {F:FS} {c:Rat} {K:Nat} {ts:List Ah} {bs:List Ds} (h:Fv F c K ts bs):ts.length=bs.length:=by
 induction h with
 | nil=>rfl
 | cons _ _ _ _ ih=>simp [ih]
theorem Fv.app {F:FS} {c:Rat} {K:Nat} {ts f:List Ah} {bs cs:List Ds} (h:Fv F c K ts bs) (h':Fv F c K f cs):Fv F c K (ts++f) (bs++cs):=by
 induction h with
 | nil=>exact h'
 | cons a b d _ ih=>exact .cons a b d ih
theorem Fv.mono {F:FS} {c:Rat} {K f:Nat} {ts:List Ah} {bs:List Ds} (h:Fv F c K ts bs) (hk:K<=f):Fv F c f ts bs:=by
 induction h with
 | nil=>exact .nil
 | cons a b d _ ih=>exact .cons a b (d.mono hk) ih
theorem Fv.get {F:FS} {c:Rat} {K:Nat} {ts:List Ah} {bs:List Ds} (h:Fv F c K ts bs):∀{j:Nat} {t:Ah},ts[j]? = some t->∃b,bs[j]? = some b/\t.Mono=⟨F.1,b.1⟩/\rq t.Coef=c*(b.2:Rat)/\RB K t.Coef:=by
 induction h with
 | nil=>intro j t h; simp at h
 | @cons t b ts bs a1 a2 a3 _ ih=>
  intro j u hj
  cases j with
  | zero=>
   simp only [List.getElem?_cons_zero,Option.some.injEq] at hj
   subst hj
   exact ⟨b,rfl,a1,a2,a3⟩
  | succ j=>
   simp only [List.getElem?_cons_succ] at hj
   simpa using ih hj
def fs0:FS:=⟨[],by decide⟩
abbrev Rep (c:Rat) (K:Nat):List Ah->List Ds->Prop:=Fv fs0 c K
def E3 (B:List Ds) (l:Ar) (f:Nat->Nat) (n:Nat):List Ds:=(List.range n).flatMap fun k=>if f k=0 then [] else B.map fun b=>(b.1++atO l k,b.2*f k)
theorem Rs (B:List Ds) (l:Ar) (f:Nat->Nat) (n:Nat):E3 B l f (n+1)=E3 B l f n++(if f n=0 then [] else B.map fun b=>(b.1++atO l n,b.2*f n)):=by
 unfold E3
 rw [List.range_succ,List.flatMap_append]; simp
theorem Abp (B:List Ds) (l:Ar) (f:Nat->Nat) (n:Nat):(E3 B l f n).length<=n*B.length:=by
 induction n with
 | zero=>simp [E3]
 | succ n ih=>
  rw [Rs,List.length_append,Nat.add_mul,Nat.one_mul]
  have:(if f n=0 then ([]:List Ds) else B.map fun b=>(b.1++atO l n,b.2*f n)).length<=B.length:=by split <;> simp
  omega
noncomputable def Xq (h:List Ah) (l:Ar) (k:Int) (x:Ak):Int×List Ah->Option ((Int×List Ah)⊕(Int×List Ah)):=fun (b,c)=>
 bif (decide (b<(h.length:Int))) then (
 (Ag h b).bind fun g=>
 (Qj l k).bind fun v194=>
 (I8 g x (Ba.mk [] v194)).bind fun f=>
 (Ce 104 c [f]).bind fun i=>
 some (.inl ((Ac (b+1)),i))
 )
 else (
 some (.inr (b,c))
 )
theorem A1e {F:FS} {c:Rat} {K M:Nat} {g o:List Ah} {B:List Ds} {l:Ar} {k f:Nat} {x:Ak} (z:Fv F c K g B) (hx:rq x=(f:Rat)) (q:RB 200 x) (S:K<30000000000) (R:∀b∈B,b.1.length<=M) (N:M<=1000) (hl:o.length+g.length<=1000000000) :
  ∃T,Am (Xq g l (k:Int) x) (0,o)=some ((g.length:Int),o++T)/\Fv F c (K+202) T (B.map fun b=>(b.1++atO l k,b.2*f)):=by
 obtain ⟨e,X,T,V,U⟩:=I2 (step:=Xq g l (k:Int) x) (fun s=>∃(j:Nat) (T:List Ah),s=((j:Int),o++T)/\j<=g.length/\T.length=j/\Fv F c (K+202) T ((B.take j).map fun b=>(b.1++atO l k,b.2*f))) (fun s=>g.length-s.1.toNat)
  (fun e=>∃T,e=((g.length:Int),o++T)/\Fv F c (K+202) T (B.map fun b=>(b.1++atO l k,b.2*f))) (by
  rintro _ ⟨j,T,rfl,hj,L,y⟩
  rcases Nat.lt_or_ge j g.length with h | h
  .left
   have i:g[j]? = some g[j]:=B7 h
   generalize g[j]=t at i
   obtain ⟨b,b1,b2,Z,Y⟩:=z.get i
   have J:=R b (Ct b1)
   have:=Ao0 l k
   obtain ⟨u,I,G,E,D⟩:=A1d (A:=b.1) (B:=atO l k) b2 (by omega) S Y q
   refine ⟨_,?_,⟨j+1,T++[u],rfl,by omega,by simp [L],?_⟩,by simp; omega⟩
   .unfold Xq
    simp only [Al (by omega:(j:Int)<(g.length:Int)),cond_true,Cj rfl i,Ad,A1c,I,Db h (by omega)]
    rw [Dj (by simp; omega),Ad,List.append_assoc]
   .rw [Dk b1,List.map_append]
    refine y.app (.cons G ?_ D .nil)
    rw [E,Z,hx]
    show _=c*((b.2*f:Nat):Rat)
    rw [Rat.natCast_mul]; grind
  .have:j=g.length:=by omega
   subst this
   right
   refine ⟨_,by unfold Xq; simp only [Aq (by omega:¬(g.length:Int)<(g.length:Int)),cond_false],T,rfl,?_⟩
   rw [List.take_of_length_le (by rw [z.len]; exact Nat.le_refl _)] at y
   exact y) (0,o) ⟨0,[],by simp,by omega,rfl,.nil⟩
 exact ⟨T,by rw [<-V]; exact X,U⟩
end Go.Ab
namespace Go.Ab
open Go
noncomputable def Abq (g:List Ah) (l:Ar) (p:List Ak):Int×List Ah->Option ((Int×List Ah)⊕(Int×List Ah)):=fun (v173,b)=>
 bif (decide (v173<(p.length:Int))) then (
 (Ag p v173).bind fun v175=>
 (F7 v175).bind fun c=>
 bif (c==(0:Int)) then (
 some (.inl ((Ac (v173+1)),b))
 )
 else (
 (Am (Xq g l v173 v175) (0,b)).bind fun (h,f)=>
 some (.inl ((Ac (v173+1)),f))
 )
 )
 else (
 some (.inr (v173,b))
 )
theorem A1f {F:FS} {c:Rat} {K M n:Nat} {g:List Ah} {B:List Ds} {l:Ar} {f:Nat->Nat} (z:Fv F c K g B) (I:∀k,k<n->f k<Big) (N:K<30000000000) (L:∀b∈B,b.1.length<=M) (y:M<=1000) (Y:n<=1000) (Z:g.length<=1000000) :
  ∃T,Am (Abq g l (Ls n f)) (0,[])=some ((n:Int),T)/\Fv F c (K+202) T (E3 B l f n):=by
 obtain ⟨e,X,T,V,S⟩:=I2 (step:=Abq g l (Ls n f)) (fun s=>∃(j:Nat) (T:List Ah),s=((j:Int),T)/\j<=n/\Fv F c (K+202) T (E3 B l f j)) (fun s=>n-s.1.toNat)
  (fun e=>∃T,e=((n:Int),T)/\Fv F c (K+202) T (E3 B l f n)) (by
  rintro _ ⟨j,T,rfl,hj,q⟩
  unfold Abq
  rw [My]
  rcases Nat.lt_or_ge j n with h | h
  .left
   have D:=Abp B l f j
   have J:=q.len
   have R:=z.len
   have A:j*B.length<=1000*1000000:=Nat.mul_le_mul (by omega) (by omega)
   have x:j*B.length+B.length<=1000*B.length:=by
    have:(j+1)*B.length<=1000*B.length:=Nat.mul_le_mul_right _ (by omega)
    rw [Nat.add_mul] at this; omega
   have i:=I j h
   simp only [Al (by omega:(j:Int)<(n:Int)),cond_true,Cj rfl (K1 f h),Ad,(Np.c i).sign,Db h (by omega)]
   by_cases h0:f j=0
   .refine ⟨_,by rw [if_pos h0]; rfl,⟨j+1,T,rfl,by omega,?_⟩,by simp; omega⟩
    rw [Rs,if_pos h0,List.append_nil]; exact q
   .have u:RB 200 (cR (f j)):=(Np.c i).rb
    obtain ⟨U,G,E⟩:=A1e (o:=T) (l:=l) (k:=j) (f:=f j) z (Abl (f j)) u N L y (by omega)
    refine ⟨_,by rw [if_neg h0,G]; rfl,⟨j+1,T++U,rfl,by omega,?_⟩,by simp; omega⟩
    rw [Rs,if_neg h0]
    exact q.app E
  .have:j=n:=by omega
   subst this
   right
   exact ⟨_,by simp only [Aq (by omega:¬(j:Int)<(j:Int)),cond_false],T,rfl,q⟩) (0,[]) ⟨0,[],rfl,by omega,.nil⟩
 exact ⟨T,by rw [<-V]; exact X,S⟩
def Pw (l:Ar) (N:Nat) (f:Nat->Nat) (g:List A6):Prop:=(l.Terms.length≠0/\PwN g N f)\/(l.Terms.length=0/\N=0/\f 0=prb l.Const.toNat g)
abbrev Grp:=Ar×Nat×(Nat->Nat)
inductive Gs:List Grp->List A6->Prop
 | nil:Gs [] []
 | cons {l:Ar} {N:Nat} {f:Nat->Nat} {g rest:List A6} {gs:List Grp}:g≠[]->(∀a∈g,a.Lin=l)->(∀a∈rest,Ev l a.Lin<0)->Pw l N f g->Gs gs rest->Gs ((l,N,f)::gs) (g++rest)
def H9 (B:List Ds):List Grp->List Ds
 | []=>B
 | q::gs=>H9 (E3 B q.1 q.2.2 (q.2.1+1)) gs
structure Atk (A:List A6):Prop where
 deg:∀a∈A,0<=a.Deg
 lin:∀a∈A,Cd a.Lin=true
 sum:Cb A<=12
 len:A.length<=12
theorem Jn {a:Ar} (h:Cd a=true):a.Terms.length<=16/\-1048576<=a.Const/\a.Const<=1048576:=by
 unfold Cd at h
 simp only [C9,decide_eq_true_eq] at h
 exact ⟨h.1.2.2,h.1.1,h.1.2.1⟩
theorem Atk.sub {A B:List A6} (h:Atk (A++B)):Atk A/\Atk B:=by
 have h1:=h.sum
 have h2:=h.len
 rw [L1] at h1
 rw [List.length_append] at h2
 exact ⟨⟨fun a ha=>h.deg a (by simp [ha]),fun a ha=>h.lin a (by simp [ha]),by omega,by omega⟩,⟨fun a ha=>h.deg a (by simp [ha]),fun a ha=>h.lin a (by simp [ha]),by omega,by omega⟩⟩
theorem A1g {l:Ar} {g:List A6} (hk:Atk g) (b:g≠[]) (j:∀a∈g,a.Lin=l):∃N f,Ln g=some (Ls (N+1) f)/\Pw l N f g/\N<=Cb g/\∀k,k<N+1->f k<Big:=by
 have s:=hk.len
 have q:=hk.sum
 obtain ⟨a,ha⟩:∃a,a∈g:=by
  cases g with
  | nil=>exact (b rfl).elim
  | cons a _=>exact ⟨a,by simp⟩
 have c:=hk.lin a ha
 rw [j a ha] at c
 have hc:=(Jn c).2.2
 by_cases h:l.Terms.length=0
 .have h1:=A07 g hc (fun a ha=>by rw [j a ha]; exact ⟨h,rfl⟩) hk.deg hk.sum (by omega)
  exact ⟨0,fun _=>prb l.Const.toNat g,h1,.inr ⟨h,rfl,rfl⟩,by omega,fun k _=>Ud (by omega) q⟩
 .obtain ⟨N,f,h1,h2⟩:=A05 g b (fun a ha=>by rw [j a ha]; exact h) hk.deg hk.sum (by omega)
  refine ⟨N,f,h1,.inl ⟨h,h2⟩,by rw [h2.1]; exact Nat.le_refl _,fun k i=>Nat.lt_of_le_of_lt (h2.le i) (Ud ?_ q)⟩
  have:=h2.1
  omega
noncomputable def Abr (r:List A6) (l:Ar):Int->Option (Int⊕Int):=fun b=>
 bif (decide (b<(r.length:Int))) then (
 (Ag r b).bind fun v117=>
 (Ko v117.Lin l).bind fun c=>
 bif (c==(0:Int)) then (
 some (.inl (Ac (b+1)))
 )
 else (
 some (.inr b)
 )
 )
 else (
 some (.inr b)
 )
theorem A1h {r:List A6} {a:A6} (h0:r[0]? = some a) (ht:∀b∈r,b.Lin.Terms.length<1099511627776) (q:r.length<=1000) :
  ∃n:Nat,Am (Abr r a.Lin) 1=some (n:Int)/\1<=n/\n<=r.length/\(∀b∈r.take n,b.Lin=a.Lin)/\∀b,r[n]? = some b->b.Lin≠a.Lin:=by
 have hpos:=Fd h0
 obtain ⟨e,l,n,k,i⟩:=I2 (step:=Abr r a.Lin) (fun s=>∃n:Nat,s=(n:Int)/\1<=n/\n<=r.length/\∀b∈r.take n,b.Lin=a.Lin) (fun s=>r.length-s.toNat)
  (fun e=>∃n:Nat,e=(n:Int)/\1<=n/\n<=r.length/\(∀b∈r.take n,b.Lin=a.Lin)/\∀b,r[n]? = some b->b.Lin≠a.Lin) (by
  rintro _ ⟨j,rfl,g,f,c⟩
  unfold Abr
  rcases Nat.lt_or_ge j r.length with h | h
  .have hx:r[j]? = some r[j]:=B7 h
   have hm:=List.getElem_mem h
   generalize r[j]=b at hx hm
   simp only [Al (by omega:(j:Int)<(r.length:Int)),cond_true,Cj rfl hx,Ad,Aa6 _ _ (ht b hm),Db h (by omega)]
   by_cases hc:b.Lin=a.Lin
   .left
    rw [Es ((G5.zero _ _ trivial trivial).2 hc)]
    refine ⟨_,rfl,⟨j+1,rfl,by omega,by omega,fun d hd=>?_⟩,by omega⟩
    rw [Dk hx] at hd
    rcases List.mem_append.1 hd with hd | hd
    .exact c d hd
    .simp only [List.mem_singleton] at hd
     rw [hd]; exact hc
   .right
    rw [Cv (fun h=>hc ((G5.zero _ _ trivial trivial).1 h))]
    exact ⟨_,rfl,j,rfl,g,f,c,fun d hd=>by rw [hx] at hd; cases hd; exact hc⟩
  .right
   refine ⟨_,by simp only [Aq (by omega:¬(j:Int)<(r.length:Int)),cond_false],j,rfl,g,f,c,fun d hd=>?_⟩
   have:=Fd hd
   omega) 1 ⟨1,rfl,by omega,by omega,fun b hb=>by
    cases r with
    | nil=>simp at hpos
    | cons x r=>simp at hb h0; rw [hb,h0]⟩
 exact ⟨n,by rw [<-k]; exact l,i⟩
noncomputable def Xr:(List Ah×List A6)->Option ((List Ah×List A6)⊕List Ah):=fun (g,b)=>
 bif (decide ((b.length:Int)>(0:Int))) then (
 (Ag b 0).bind fun f=>
 (Am (Abr b f.Lin) 1).bind fun c=>
 (D1 b 0 c).bind fun i=>
 (Ln i).bind fun h=>
 (Am (Abq g f.Lin h) (0,[])).bind fun (k,j)=>
 (D1 b c b.length).bind fun v201=>
 some (.inl (j,v201))
 )
 else (
 some (.inr g)
 )
theorem A1i (n:Nat):n+1<=2 ^ n:=by
 induction n with
 | zero=>decide
 | succ n ih=>rw [Nat.pow_succ]; omega
theorem Ao1 {B:List Ds} {l:Ar} {f:Nat->Nat} {n M:Nat} (c:∀b∈B,b.1.length<=M):∀b∈E3 B l f n,b.1.length<=M+1:=by
 intro b hb
 unfold E3 at hb
 rw [List.mem_flatMap] at hb
 obtain ⟨k,_,hk⟩:=hb
 split at hk
 .cases hk
 .rw [List.mem_map] at hk
  obtain ⟨d,hd,rfl⟩:=hk
  have:=c d hd
  have:=Ao0 l k
  simp only [List.length_append]; omega
theorem Ao2 {F:FS} {c:Rat}:∀(n:Nat) (rest:List A6) (j:List Ah) (B:List Ds) (K M:Nat),rest.length<=n->Abn rest->Atk rest->Fv F c K j B->(∀b∈B,b.1.length<=M)->M+rest.length<=1000->K+202*rest.length<30000000000->B.length*2 ^ Cb rest<=1000000 ->
  ∃gs i,Am Xr (j,rest)=some i/\Gs gs rest/\Fv F c (K+202*rest.length) i (H9 B gs)/\i.length<=B.length*2 ^ Cb rest:=by
 intro n
 induction n with
 | zero=>
  intro rest j B K M hn _ _ A _ _ _ _
  have:rest = []:=List.length_eq_zero_iff.1 (by omega)
  subst this
  exact ⟨[],j,D0 (by unfold Xr; simp),.nil,by simpa [H9] using A,by rw [A.len]; simp [Cb]⟩
 | succ n ih=>
  intro rest j B K M hn hS R A hM ae hK E
  cases g:rest with
  | nil=>
   exact ⟨[],j,D0 (by unfold Xr; simp),.nil,by simpa [H9] using A.mono (by omega),by rw [A.len]; simp [Cb]⟩
  | cons a r'=>
   rw [<-g]
   have h0:rest[0]? = some a:=by rw [g]; rfl
   have ab:0<rest.length:=Fd h0
   have hT:∀b∈rest,b.Lin.Terms.length<1099511627776:=fun b hb=>by have:=(Jn (R.lin b hb)).1; omega
   have af:=R.len
   obtain ⟨m,m1,m2,m3,m4,m5⟩:=A1h h0 hT (by omega)
   have u:rest=rest.take m++rest.drop m:=(List.take_append_drop m rest).symm
   have L:=(u ▸ R:Atk (rest.take m++rest.drop m)).sub
   have y:rest.take m≠[]:=by
    intro h
    have:=congrArg List.length h
    rw [List.length_take] at this
    simp only [List.length_nil] at this
    omega
   obtain ⟨N,f,p1,p2,p3,p4⟩:=A1g L.1 y m4
   have Z:Cb rest=Cb (rest.take m)+Cb (rest.drop m):=by rw [<-L1,List.take_append_drop]
   have ac:=R.sum
   have U:2 ^ Cb rest=2 ^ Cb (rest.take m)*2 ^ Cb (rest.drop m):=by rw [Z,Nat.pow_add]
   have aa:B.length<=1000000:=Nat.le_trans (Nat.le_mul_of_pos_right _ (Nat.pow_pos (by decide))) E
   obtain ⟨T,t1,t2⟩:=A1f (l:=a.Lin) (n:=N+1) A p4 (by omega) hM (by omega) (by omega) (by rw [A.len]; exact aa)
   have z:Xr (j,rest)=some (.inl (T,rest.drop m)):=by
    have Y:Ag rest 0=some a:=Cj (n:=0) rfl h0
    have S:D1 rest (m:Int) (rest.length:Int)=some (rest.drop m):=by
     unfold D1
     simp [List.drop_take]
     omega
    unfold Xr
    simp only [Al (by omega:(rest.length:Int)>0),cond_true,Y,Ad,m1,Aag rfl m3,p1,t1,S]
   have ad:(rest.drop m).length+m=rest.length:=by rw [List.length_drop]; omega
   have a8:=Abp B a.Lin f (N+1)
   have J:(N+1)*B.length<=B.length*2 ^ Cb (rest.take m):=by
    rw [Nat.mul_comm]
    refine Nat.mul_le_mul_left _ (Nat.le_trans (A1i N) (Nat.pow_le_pow_right (by decide) p3))
   have x:(E3 B a.Lin f (N+1)).length*2 ^ Cb (rest.drop m)<=B.length*2 ^ Cb rest:=by
    rw [U,<-Nat.mul_assoc]
    exact Nat.mul_le_mul_right _ (Nat.le_trans a8 J)
   obtain ⟨gs,i,g1,g2,g3,g4⟩:=ih (rest.drop m) T (E3 B a.Lin f (N+1)) (K+202) (M+1) (by omega) (List.Pairwise.sublist (List.drop_sublist m rest) hS) L.2 t2 (Ao1 hM) (by omega) (by omega) (Nat.le_trans x E)
   refine ⟨(a.Lin,N,f)::gs,i,by rw [Ha z,g1],?_,g3.mono (by omega),Nat.le_trans g4 x⟩
   have X:∀b∈rest.drop m,Ev a.Lin b.Lin<0:=by
    intro b hb
    cases hd:rest.drop m with
    | nil=>rw [hd] at hb; cases hb
    | cons d D=>
     have q:rest[m]? = some d:=by
      have:=congrArg (fun l=>l[0]?) hd
      simpa using this
     have a6:=m5 d q
     have a7:¬Ev d.Lin a.Lin<0:=by
      have I:=hS
      rw [g] at I
      have a1:d∈r':=by
       have:=Ct q
       have V:m=(m-1)+1:=by omega
       rw [g,V,List.getElem?_cons_succ] at q
       exact Ct q
      exact (List.pairwise_cons.1 I).1 d a1
     have s:Ev a.Lin d.Lin<0:=by
      rcases Int.lt_trichotomy (Ev d.Lin a.Lin) 0 with k | k | k
      .exact (a7 k).elim
      .exact (a6 ((G5.zero _ _ trivial trivial).1 k)).elim
      .rw [G5.anti d.Lin a.Lin trivial trivial]; omega
     rw [hd] at hb
     rcases List.mem_cons.1 hb with rfl | hb
     .exact s
     .have G:Abn (rest.drop m):=List.Pairwise.sublist (List.drop_sublist m rest) hS
      rw [hd] at G
      have h3:=(List.pairwise_cons.1 G).1 b hb
      rcases Int.lt_trichotomy (Ev b.Lin d.Lin) 0 with k | k | k
      .exact (h3 k).elim
      .rw [(G5.zero _ _ trivial trivial).1 k]; exact s
      .exact G5.trans a.Lin d.Lin b.Lin trivial trivial trivial s (by rw [G5.anti b.Lin d.Lin trivial trivial]; omega)
   have:=Gs.cons y m4 X p2 g2
   rwa [List.take_append_drop] at this
end Go.Ab
