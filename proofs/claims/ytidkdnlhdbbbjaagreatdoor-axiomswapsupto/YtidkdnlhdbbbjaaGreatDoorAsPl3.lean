/- Plain laws: what the plain functions answer. -/
import Derived.Test.YtidkdnlhdbbbjaaGreatDoorAsPl2
namespace Go.Ab
open Go
def plc (ts:List Aj):List (ByteArray×Int):=ts.zipIdx.map fun q=>(I7 q.1.Mono,(q.2:Int))
def Dst (ts:List Aj):Prop:=ts.Pairwise fun t u=>t.Mono≠u.Mono
theorem Awd (ts:List Aj) (t:Aj):plc (ts++[t])=plc ts++[(I7 t.Mono,(ts.length:Int))]:=by
 unfold plc; simp [List.zipIdx_append]
theorem Ve (ts:List Aj) (j:Nat):(plc ts)[j]? = (ts[j]?).map fun t=>(I7 t.Mono,(j:Int)):=by
 unfold plc; simp [List.getElem?_map,List.getElem?_zipIdx]
 cases ts[j]? <;> rfl
theorem Awe {ts:List Aj} {j:Nat} {t u:Aj} (h:ts[j]? = some t) (b:u.Mono=t.Mono):plc (ts.set j u)=plc ts:=by
 apply List.ext_getElem?
 intro i
 rw [Ve,Ve,List.getElem?_set]
 by_cases e:j=i
 .subst e
  rw [if_pos rfl,if_pos (Ez h),h]; simp [b]
 .rw [if_neg e]
theorem All {α:Type}:∀(o:List (ByteArray×α)) (s:ByteArray) (v:α),Ei o s=false->Eu o s v=o++[(s,v)]
 | [],_,_,_=>rfl
 | p::o,s,v,h=>by
  simp only [Ei,List.any_cons,Bool.or_eq_false_iff] at h
  simp only [Eu,h.1,cond_false,List.cons_append,List.cons.injEq,true_and]
  exact All o s v h.2
theorem Awf {ts:List Aj} {m:Bd} (h:∀t∈ts,t.Mono≠m):Ei (plc ts) (I7 m)=false:=by
 unfold Ei
 rw [List.any_eq_false]
 intro p hp
 obtain ⟨j,hj⟩:=List.getElem?_of_mem hp
 rw [Ve] at hj
 cases ht:ts[j]? with
 | none=>rw [ht] at hj; cases hj
 | some t=>
  rw [ht] at hj
  simp only [Option.map_some,Option.some.injEq] at hj
  subst hj
  intro e
  have e:=(Pi _ _).1 e
  exact h t (Cw ht) (Ak9 e).symm
theorem Awg {ts:List Aj} (hd:Dst ts) {j:Nat} {t:Aj} (h:ts[j]? = some t):Ei (plc ts) (I7 t.Mono)=true/\Hc (plc ts) (I7 t.Mono) 0=(j:Int):=by
 have hp:(plc ts)[j]? = some (I7 t.Mono,(j:Int)):=by rw [Ve,h]; rfl
 refine ⟨List.any_eq_true.2 ⟨_,Cw hp,(Pi _ _).2 rfl⟩,?_⟩
 unfold Hc
 have c:(plc ts).find? (fun p=>I7 t.Mono==p.1)=some (I7 t.Mono,(j:Int)):=by
  cases c:(plc ts).find? (fun p=>I7 t.Mono==p.1) with
  | none=>
   have:=List.find?_eq_none.1 c _ (Cw hp)
   exact (this ((Pi _ _).2 rfl)).elim
  | some q=>
   have h1:=List.find?_some c
   obtain ⟨i,b⟩:=List.getElem?_of_mem (List.mem_of_find?_eq_some c)
   rw [Ve] at b
   cases hu:ts[i]? with
   | none=>rw [hu] at b; cases b
   | some u=>
    rw [hu] at b
    simp only [Option.map_some,Option.some.injEq] at b
    subst b
    have e:=Ak9 ((Pi _ _).1 h1)
    have l:i=j:=by
     have g:=Ez hu
     have f:=Ez h
     rw [Cp g] at hu
     rw [Cp f] at h
     rcases Nat.lt_trichotomy i j with k | k | k
     .have:=List.pairwise_iff_getElem.1 hd i j g f k
      rw [Option.some.inj hu,Option.some.inj h] at this
      exact (this e.symm).elim
     .exact k
     .have:=List.pairwise_iff_getElem.1 hd j i f g k
      rw [Option.some.inj hu,Option.some.inj h] at this
      exact (this e).elim
    subst l
    rw [e]
 rw [c]; rfl
open Classical in
theorem Vf (t:Aj) (p:List Aj) (m:Bd):cf (t::p) m=(if t.Mono=m then rq t.Coef else 0)+cf p m:=by
 simp only [cf]
 by_cases e:t.Mono=m
 .rw [if_pos (Kw.2 e),if_pos e]
 .rw [if_neg (fun h=>e (Kw.1 h)),if_neg e]
open Classical in
theorem Alm:∀{ts:List Aj} {j:Nat} {t u:Aj},ts[j]? = some t->u.Mono=t.Mono->∀m,cf (ts.set j u) m=cf ts m+(if t.Mono=m then rq u.Coef-rq t.Coef else 0)
 | [],j,t,u,h,_,m=>by simp at h
 | s::ts,0,t,u,h,hm,m=>by
  simp only [List.getElem?_cons_zero,Option.some.injEq] at h
  subst h
  rw [List.set_cons_zero,Vf,Vf,hm]
  split <;> grind
 | s::ts,j+1,t,u,h,hm,m=>by
  simp only [List.getElem?_cons_succ] at h
  rw [List.set_cons_succ,Vf,Vf,Alm h hm m]
  grind
theorem Dst.set {ts:List Aj} (h:Dst ts) {j:Nat} {t u:Aj} (ht:ts[j]? = some t) (b:u.Mono=t.Mono):Dst (ts.set j u):=by
 have e:(ts.set j u).map (·.Mono)=ts.map (·.Mono):=by
  apply List.ext_getElem?
  intro i
  rw [List.getElem?_map,List.getElem?_map,List.getElem?_set]
  by_cases e:j=i
  .subst e; rw [if_pos rfl,if_pos (Ez ht),ht]; simp [b]
  .rw [if_neg e]
 have k:∀l:List Aj,Dst l↔(l.map (·.Mono)).Pairwise (·≠·):=fun l=>by rw [List.pairwise_map]; exact Iff.rfl
 rw [k,e,<-k]; exact h
structure Col (k:Nat) (P:Bd->Prop) (ts:List Aj):Prop where
 dst:Dst ts
 tb:∀t∈ts,RB k t.Coef
 mo:∀t∈ts,P t.Mono
theorem Col.nil (k:Nat) (P:Bd->Prop):Col k P []:=⟨List.Pairwise.nil,fun _ h=>(by cases h),fun _ h=>(by cases h)⟩
theorem Ps {k0 k:Nat} {P:Bd->Prop} (M:∀m,P m->CMo m) (l ts:List Aj) (D:Col k0 P ts) (L:∀t∈l,RB k t.Coef/\P t.Mono) (hk:k<=k0) (V:k0+l.length*(k+3)<34359738000) (U:ts.length+l.length<=1099511627776) :
  ∃f,He l (plc ts) ts=some (plc f,f)/\Col (k0+l.length*(k+3)) P f/\f.length<=ts.length+l.length/\∀m,cf f m=cf ts m+cf l m:=by
 unfold He
 refine Yf (A:=List Aj) (fun f=>(plc f,f)) ?_
 refine E8 (fun s=>∃(j:Nat) (u:List Aj),s=((j:Int),plc u,u)/\j<=l.length/\Col (k0+j*(k+3)) P u/\u.length<=ts.length+j/\∀m,cf u m=cf ts m+cf (l.take j) m) (fun s=>l.length-s.1.toNat)
  (fun z=>∃u,z=(plc u,u)/\Col (k0+l.length*(k+3)) P u/\u.length<=ts.length+l.length/\∀m,cf u m=cf ts m+cf l m) ⟨0,ts,rfl,by omega,by simpa using D,by omega,fun m=>by simp only [List.take_zero,cf]; grind⟩ ?_ ?_
 .rintro _ ⟨j,u,rfl,hj,hu,B,y⟩
  rcases Nat.lt_or_ge j l.length with h | h
  .have hx:l[j]? = some l[j]:=Cp h
   generalize l[j]=x at hx
   obtain ⟨hb,I⟩:=L x (Cw hx)
   have G:j*(k+3)+(k+3)<=l.length*(k+3):=by rw [<-Nat.succ_mul]; exact Nat.mul_le_mul_right _ h
   have E:(j+1)*(k+3)=j*(k+3)+(k+3):=by rw [Nat.succ_mul]
   simp only [Am (by omega:(j:Int)<(l.length:Int)),cond_true,Cj rfl hx,Ad,Awc (M _ I),Dr h (by omega)]
   left
   by_cases hex:∃t∈u,t.Mono=x.Mono
   .obtain ⟨t,ht,J⟩:=hex
    obtain ⟨i,q⟩:=List.getElem?_of_mem ht
    obtain ⟨g1,g2⟩:=Awg hu.dst q
    rw [J] at g1 g2
    obtain ⟨c,S,_,R,X,N⟩:=Avn (hu.tb t ht) hb (by omega) (by omega)
    refine ⟨((j+1:Nat),plc (u.set i ⟨c,t.Mono⟩),u.set i ⟨c,t.Mono⟩),?_,⟨j+1,u.set i ⟨c,t.Mono⟩,rfl,by omega,⟨hu.dst.set q rfl,?_,?_⟩,by rw [List.length_set]; omega,fun m=>?_⟩,by simp; omega⟩
    .simp only [g1,g2,cond_true,Ad,Cj rfl q,S,E9 rfl,Awe (u:=⟨c,t.Mono⟩) q rfl]
    .intro w hw
     rcases List.mem_or_eq_of_mem_set hw with hw | rfl
     .exact (hu.tb w hw).mono (by omega)
     .exact R.mono (by omega)
    .intro w hw
     rcases List.mem_or_eq_of_mem_set hw with hw | rfl
     .exact hu.mo w hw
     .exact hu.mo t ht
    .rw [Alm (u:=⟨c,t.Mono⟩) q rfl m,y m,Dy hx,R9,Vf]
     simp only [N,J,cf]
     split <;> grind
   .have g:=Awf (m:=x.Mono) (ts:=u) fun t ht e=>hex ⟨t,ht,e⟩
    refine ⟨((j+1:Nat),plc (u++[x]),u++[x]),?_,⟨j+1,u++[x],rfl,by omega,⟨?_,?_,?_⟩,by simp; omega,fun m=>?_⟩,by simp; omega⟩
    .simp only [g,cond_false,Ad]
     rw [Du (by simp; omega),Ad,All _ _ _ g,Awd]
    .refine List.pairwise_append.2 ⟨hu.dst,List.pairwise_singleton _ _,fun a ha b hb=>?_⟩
     simp only [List.mem_singleton] at hb
     subst hb
     exact fun e=>hex ⟨a,ha,e⟩
    .intro w hw
     rcases List.mem_append.1 hw with hw | hw
     .exact (hu.tb w hw).mono (by omega)
     .simp only [List.mem_singleton] at hw
      subst hw
      exact hb.mono (by omega)
    .intro w hw
     rcases List.mem_append.1 hw with hw | hw
     .exact hu.mo w hw
     .simp only [List.mem_singleton] at hw
      subst hw
      exact I
    .rw [R9,y m,Dy hx,R9]; grind
  .have:j=l.length:=by omega
   subst this
   rw [List.take_length] at y
   simp only [As (by omega:¬(l.length:Int)<(l.length:Int)),cond_false]
   exact .inr ⟨_,rfl,u,rfl,hu,B,y⟩
 .rintro _ ⟨u,rfl,h1,h2,h3⟩
  exact ⟨_,rfl,u,rfl,h1,h2,h3⟩
end Go.Ab
namespace Go.Ab
open Go
theorem Ad8 (t u:Aj) (h:MSz t.Mono):Ly t u=some (Cz t.Mono u.Mono):=by
 unfold Ly
 rw [Akh _ _ h]; rfl
theorem Awh {α:Type} (A R:List α) (x y:α):((A++y::x::R).set (A.length+1) y).set A.length x=A++x::y::R:=by
 induction A with
 | nil=>rfl
 | cons a A ih=>simp only [List.cons_append,List.length_cons,List.set_cons_succ,ih]
theorem Aln {α:Type} (A R:List α) (x:α):(A++x::R)[A.length]? = some x:=by simp
theorem Awi {α:Type} (A R:List α) (x y:α):(A++y::x::R)[A.length+1]? = some x:=by
 induction A with
 | nil=>rfl
 | cons a A ih=>simp
theorem Awj {step:Int×List Aj->Option ((Int×List Aj)⊕(Int×List Aj))} (N:Nat) (G:N<4611686018427387904)
  (b:∀(x:Aj) (R:List Aj),step (0,x::R)=some (.inr (0,x::R)))
  (l:∀(A R:List Aj) (x y:Aj),(∀t∈A++y::x::R,MSz t.Mono)->(A++y::x::R).length<=N->step (((A.length+1:Nat):Int),A++y::x::R) =
   if Cz x.Mono y.Mono<0 then some (.inl ((A.length:Int),A++x::y::R)) else some (.inr (((A.length+1:Nat):Int),A++y::x::R))) :
  ∀(n:Nat) (A R:List Aj) (x:Aj),A.length=n->(∀t∈A++x::R,MSz t.Mono)->(A++x::R).length<=N ->
   ∃f i,Al step ((A.length:Int),A++x::R)=some ((f.length:Int),f++x::(i++R))/\A=f++i/\(∀a∈i,ltT x a)/\∀q y,f=q++[y]->¬ltT x y:=by
 intro n
 induction n with
 | zero=>
  intro A R x g _ _
  have:A = []:=List.length_eq_zero_iff.1 g
  subst this
  exact ⟨[],[],Em (b x R),rfl,(fun _ h=>by cases h),(fun q y h=>by simp at h)⟩
 | succ n ih=>
  intro A R x g k c
  obtain ⟨B,y,rfl⟩:∃B y,A=B++[y]:=by
   rcases List.eq_nil_or_concat A with h | ⟨B,y,h⟩
   .rw [h] at g; cases g
   .exact ⟨B,y,by simpa using h⟩
  have u:B.length=n:=by simpa using g
  have E:(B++[y])++x::R=B++y::x::R:=by simp
  have el:(((B++[y]).length:Nat):Int)=((B.length+1:Nat):Int):=by simp
  rw [E] at k c ⊢
  rw [el]
  have j:=l B R x y k c
  by_cases hc:Cz x.Mono y.Mono<0
  .rw [if_pos hc] at j
   obtain ⟨f,i,h1,h2,h3,D⟩:=ih B (y::R) x u (by
    intro t ht
    refine k t ?_
    simp only [List.mem_append,List.mem_cons] at ht ⊢
    rcases ht with h | h | h | h <;> simp [h]) (by simpa using c)
   refine ⟨f,i++[y],?_,by rw [h2]; simp,?_,D⟩
   .rw [Jd j,h1]; simp
   .intro a ha
    rcases List.mem_append.1 ha with ha | ha
    .exact h3 a ha
    .simp only [List.mem_singleton] at ha
     subst ha; exact hc
  .rw [if_neg hc] at j
   refine ⟨B++[y],[],?_,by simp,(fun _ h=>by cases h),?_⟩
   .rw [Em j]; simp
   .intro q z s
    have:=List.append_inj' s rfl
    have e:y=z:=by simpa using this.2
    subst e; exact hc
theorem Awk {a b c:Aj} (h:ltT a b) (h':ltT b c):ltT a c:=R8 h h'
theorem Awl {c j:List Aj} {x:Aj} (u:(c++j).Pairwise ltT) (h2:∀a∈j,ltT x a) (h1:∀g y,c=g++[y]->¬ltT x y) (hd:∀a∈c,a.Mono≠x.Mono):(c++x::j).Pairwise ltT:=by
 obtain ⟨i,s,l⟩:=List.pairwise_append.1 u
 have hx:∀a∈c,ltT a x:=by
  intro a ha
  rcases List.eq_nil_or_concat c with h | ⟨g,y,h⟩
  .rw [h] at ha; cases ha
  .have h:c=g++[y]:=by simpa using h
   have f:ltT y x:=by
    have q:=h1 g y h
    have z:=hd y (by rw [h]; simp)
    unfold ltT at *
    rcases Int.lt_trichotomy (Cz x.Mono y.Mono) 0 with k | k | k
    .exact (q k).elim
    .exact (z (Kw.1 k).symm).elim
    .exact Adu.1 k
   rw [h] at ha i
   rcases List.mem_append.1 ha with ha | ha
   .exact Awk ((List.pairwise_append.1 i).2.2 a ha y (by simp)) f
   .simp only [List.mem_singleton] at ha
    subst ha; exact f
 refine List.pairwise_append.2 ⟨i,List.pairwise_cons.2 ⟨h2,s⟩,fun a ha b hb=>?_⟩
 rcases List.mem_cons.1 hb with rfl | hb
 .exact hx a ha
 .exact l a ha b hb
noncomputable def Vg:Int×List Aj->Option ((Int×List Aj)⊕(Int×List Aj)):=fun (v31,b)=>
 (show Option Bool from
 bif (decide (v31>(0:Int))) then (
 (Ag b v31).bind fun v33=>
 (Ag b (Ac (v31-1))).bind fun g=>
 (Ly v33 g).bind fun v35=>
 some (decide (v35<(0:Int))))
 else some false).bind fun f=>
 bif f then (
 (Ag b (Ac (v31-1))).bind fun v37=>
 (Ag b v31).bind fun c=>
 (Ag b v31).bind fun v39=>
 (Ag (Cg b v31 v37) (Ac (v31-1))).bind fun v40=>
 some (.inl ((Ac (v31-1)),(Cg (Cg b v31 v37) (Ac (v31-1)) c))))
 else some (.inr (v31,b))
theorem Awm (y:Aj) (R:List Aj):Vg (0,y::R)=some (.inr (0,y::R)):=by
 unfold Vg
 simp only [As (by omega:¬(0:Int)>0),cond_false,Ad]
theorem Awn {N:Nat} (h:N<=1099511627776) (A R:List Aj) (u y:Aj) (b:∀t∈A++y::u::R,MSz t.Mono) (c:(A++y::u::R).length<=N):Vg (((A.length+1:Nat):Int),A++y::u::R) =
  if Cz u.Mono y.Mono<0 then some (.inl ((A.length:Int),A++u::y::R)) else some (.inr (((A.length+1:Nat):Int),A++y::u::R)):=by
 have g:A.length+1<N:=by simp at c; omega
 have f:Ac (((A.length+1:Nat):Int)-1)=(A.length:Int):=by rw [Ac,Bs] <;> omega
 unfold Vg
 simp only [Am (by omega:((A.length+1:Nat):Int)>0),cond_true,f,Cj (n:=A.length+1) rfl (Awi A R u y),Cj (n:=A.length) rfl (Aln A (u::R) y),Ad,Ad8 u y (b u (by simp))]
 by_cases hc:Cz u.Mono y.Mono<0
 .rw [Am hc,if_pos hc]
  simp only [cond_true]
  rw [E9 (n:=A.length+1) rfl,E9 (n:=A.length) rfl,Awh]
  have:Ag ((A++y::u::R).set (A.length+1) y) (A.length:Int)=some y:=by
   refine Cj rfl ?_
   rw [List.getElem?_set_ne (by omega)]; exact Aln A (u::R) y
  rw [this]; rfl
 .rw [As hc,if_neg hc]; rfl
theorem Awo (b:List Aj) (hd:Dst b) (I:∀t∈b,MSz t.Mono) (M:b.length<=1099511627776) :
  ∃R,T2 0 (b.length:Int) b=some R/\R.Perm b/\R.Pairwise ltT:=by
 unfold T2
 cases b with
 | nil=>
  refine ⟨[],?_,List.Perm.refl _,List.Pairwise.nil⟩
  refine G5 0 (fun _=>((1:Int),([]:List Aj))) (by simp [Ac,Bs]) (fun j hj=>by omega) ⟨[],?_,rfl⟩
  simp
 | cons z0 A=>
 generalize f:z0::A=b at *
 have hpos:1<=b.length:=by rw [<-f]; simp
 refine E8 (fun s=>∃(i:Nat) (S:List Aj),s=((i:Int),S++b.drop i)/\1<=i/\i<=b.length/\S.length=i/\S.Perm (b.take i)/\S.Pairwise ltT) (fun s=>b.length-s.1.toNat)
  (fun R=>R.Perm b/\R.Pairwise ltT) ⟨1,[z0],by rw [<-f]; simp [Ac,Bs],by omega,hpos,rfl,by rw [<-f]; simp,List.pairwise_singleton _ _⟩ ?_ ?_
 .rintro _ ⟨i,S,rfl,J,N,G,c,k⟩
  rcases Nat.lt_or_ge i b.length with h | h
  .have hx:b[i]? = some b[i]:=Cp h
   generalize b[i]=x at hx
   have g:b.drop i=x::b.drop (i+1):=I3 hx
   have z:(S++x::b.drop (i+1)).length=b.length:=by simp; omega
   have y:∀t∈S++x::b.drop (i+1),t∈b:=by
    intro t ht
    rcases List.mem_append.1 ht with ht | ht
    .exact List.mem_of_mem_take (c.mem_iff.1 ht)
    .rw [<-g] at ht; exact List.mem_of_mem_drop ht
   simp only [Am (by omega:(i:Int)<(b.length:Int)),cond_true,Dr h (by omega)]
   rw [g]
   left
   obtain ⟨q,l,h1,h2,h3,L⟩:=Awj (step:=Vg) b.length (by omega) Awm (Awn (by omega)) S.length S (b.drop (i+1)) x rfl (fun t ht=>I t (y t ht)) (by rw [z]; exact Nat.le_refl _)
   rw [G] at h1
   have hp:(q++x::l).Perm (b.take (i+1)):=by
    rw [Dy hx]
    have:(q++x::l).Perm ((q++l)++[x]):=by
     rw [List.append_assoc]
     exact List.Perm.append_left q (List.perm_append_singleton x l).symm
    exact this.trans (by rw [<-h2]; exact c.append_right [x])
   refine ⟨(((i+1:Nat):Int),(q++x::l)++b.drop (i+1)),bnd h1 (by simp),⟨i+1,q++x::l,rfl,by omega,by omega,?_,hp,?_⟩,by simp; omega⟩
   .rw [hp.length_eq,List.length_take]; omega
   .rw [h2] at k
    refine Awl k h3 L fun a ha=>?_
    have E:a∈b.take i:=c.mem_iff.1 (by rw [h2]; simp [ha])
    have B:x∈b.drop i:=by rw [g]; simp
    have D:(b.take i++b.drop i).Pairwise fun t u=>t.Mono≠u.Mono:=by rw [List.take_append_drop]; exact hd
    exact (List.pairwise_append.1 D).2.2 a E x B
  .have:i=b.length:=by omega
   subst this
   rw [List.take_length] at c
   simp only [As (by omega:¬(b.length:Int)<(b.length:Int)),cond_false,List.drop_length,List.append_nil]
   exact .inr ⟨S,rfl,c,k⟩
 .rintro R ⟨h1,h2⟩
  exact ⟨R,rfl,h1,h2⟩
theorem Mj {α:Type} {n:Nat} {l:List α} (h:n=l.length):Fg n l=some ():=by unfold Fg; rw [if_pos h]
theorem Awp {s:ByteArray} {i:Int} (h0:0<=i) (h:i.toNat<s.size):∃c,Hb s i=some c:=by
 unfold Hb
 rw [if_pos h0]
 exact ⟨_,getElem?_pos s i.toNat h⟩
set_option maxRecDepth 20000 in
theorem Alo {n:Nat} (h:n<256):∃v,Qu (Au (n:Int))=some v:=by
 unfold Qu Xm
 rw [Au,Cx (by omega) (by omega),As (by omega)]
 simp only [cond_false,Ad]
 rw [As (by omega)]
 simp only [cond_false,Ad]
 rw [As (by omega)]
 simp only [cond_false,Ad]
 have b:wu8 (n:Int)=(n:Int):=by
  rw [wu8]; unfold IntKind.wrap; simp [IntKind.bits,IntKind.signed]; omega
 rw [b]
 generalize g:ByteArray.mk _=T
 have f:T.size=256:=by rw [<-g]; rfl
 obtain ⟨c,hc⟩:=Awp (s:=T) (i:=(n:Int)) (by omega) (by rw [f]; simpa using h)
 rw [hc]
 exact ⟨_,rfl⟩
theorem Awq (b:List Aj) (hd:Dst b) (g:∀t∈b,MSz t.Mono) (f:b.length<=12):∃R,Lx b=some R/\R.Perm b/\R.Pairwise ltT:=by
 obtain ⟨R,h1,h2,h3⟩:=Awo b hd g (by omega)
 obtain ⟨v,c⟩:=Alo (n:=b.length) (by omega)
 refine ⟨R,?_,h2,h3⟩
 unfold Lx
 rw [Nat.ble_eq_true_of_le f,cond_true]
 unfold Ab8
 rw [c,Ad]
 have hp:Ts 0 (b.length:Int) v b=some R:=by
  unfold Ts
  refine bnd (a:=R) (Em ?_) rfl
  have w:Ac ((b.length:Int)-0)=(b.length:Int):=by rw [Ac,Bs] <;> omega
  simp only [w,Am (by omega:(b.length:Int)<=12),cond_true,h1,Ad,Mj h2.length_eq.symm]
 rw [hp,Ad,Mj h2.length_eq.symm]; rfl
def clT (t:Aj):Aj:=⟨Bh (sv t.Coef) (nv t.Coef) (dv t.Coef),t.Mono⟩
theorem Awr {k:Nat} (p:List Aj) (hk:k<34359738000) (hp:∀t∈p,RB k t.Coef/\MSz t.Mono) (b:p.length<=1048576):Th p=some (p.map clT):=by
 unfold Th
 refine Iy p (fun j=>((j:Int),(p.take j).map clT)) rfl (by omega) ?_ ?_
 .intro j x hj hx h1 h2 h3
  obtain ⟨a1,a2⟩:=hp x (Cw hx)
  simp only [h1,h2,h3,cond_true,Ad,Acq x.Coef k a1 (by omega),Avz x.Mono a2]
  rw [Du (by simp; omega),Ad,Dy hx]
  simp [clT]
 .intro h1
  exact ⟨p.map clT,by simp,rfl⟩
theorem Aws (p:List Aj) (m:Bd):cf (p.map clT) m=cf p m:=by
 induction p with
 | nil=>rfl
 | cons t p ih=>
  simp only [List.map_cons,cf,ih,clT]
  rw [Mi _ _ _ (Ev _)]; rfl
theorem Awt {p q:List Aj} (h:p.Perm q) (m:Bd):cf p m=cf q m:=by
 induction h with
 | nil=>rfl
 | cons x _ ih=>simp only [cf,ih]
 | swap x y l=>simp only [cf]; grind
 | trans _ _ h1 h2=>rw [h1,h2]
def nzT (t:Aj):Bool:=decide (rq t.Coef≠0)
theorem Awu (p:List Aj) (m:Bd):cf (p.filter nzT) m=cf p m:=by
 induction p with
 | nil=>rfl
 | cons t p ih=>
  by_cases h:rq t.Coef=0
  .rw [List.filter_cons_of_neg (by simp [nzT,h]),ih]; simp only [cf,h]; grind
  .rw [List.filter_cons_of_pos (by simp [nzT,h])]; simp only [cf,ih]
theorem Awv (x:Rat):(Ns x != (0:Int))=decide (x≠0):=by
 unfold Ns
 by_cases h1:x<0
 .rw [if_pos h1]
  have:x≠0:=by intro e; subst e; exact absurd h1 (by decide)
  simp [this]
 .rw [if_neg h1]
  by_cases h2:0<x
  .rw [if_pos h2]
   have:x≠0:=by intro e; subst e; exact absurd h2 (by decide)
   simp [this]
  .rw [if_neg h2]
   have:x=0:=Rat.le_antisymm (Rat.not_lt.1 h2) (Rat.not_lt.1 h1)
   simp [this]
theorem Aww {α:Type} {f:α->Bool} {l:List α} {j:Nat} {x:α} (h:l[j]? = some x):(l.take (j+1)).filter f=(l.take j).filter f++(if f x then [x] else []):=by
 rw [Dy h,List.filter_append]; congr 1; cases k:f x <;> simp [List.filter,k]
theorem Ad9 {k:Nat} {P:Bd->Prop} (q:∀m,P m->CMo m) (o:List (ByteArray×Int)) (ts:List Aj) (h:Col k P ts) (hk:k<34359738000) (A:ts.length<=1000)
  (z:∀c:List Aj,c.length<=ts.length->Dst c->(∀t∈c,MSz t.Mono)->∃R,Lx c=some R/\R.Perm c/\R.Pairwise ltT) :
  ∃R,Im o ts=some (R,0)/\CP R/\(∀m,cf R m=cf ts m)/\(∀t∈R,P t.Mono/\RB (k+1) t.Coef)/\R.length<=ts.length:=by
 unfold Im
 have g:(ts.filter nzT).length<=ts.length:=List.length_filter_le _ _
 obtain ⟨S,y,f,s⟩:=z (ts.filter nzT) g (List.Pairwise.filter _ h.dst) (fun t ht=>(q _ (h.mo t (List.mem_filter.1 ht).1)).sz)
 have b:∀t∈S,t∈ts/\rq t.Coef≠0:=by
  intro t ht
  have:=List.mem_filter.1 (f.mem_iff.1 ht)
  exact ⟨this.1,by simpa [nzT] using this.2⟩
 refine ⟨S.map clT,?_,⟨?_,?_⟩,?_,?_,?_⟩
 .refine Iy ts (fun j=>((j:Int),(ts.take j).filter nzT)) rfl (by omega) ?_ ?_
  .intro j x hj hx h1 h2 h3
   have hb:=h.tb x (Cw hx)
   have l:((ts.take j).filter nzT).length<=ts.length:=Nat.le_trans (List.length_filter_le _ _) (by rw [List.length_take]; omega)
   simp only [h1,h2,h3,cond_true,Ad,(Aks hb hk).1,Awv]
   rw [Aww hx]
   by_cases i:rq x.Coef=0
   .have:nzT x=false:=by simp [nzT,i]
    rw [As (by simpa using i),this]; simp
   .have:nzT x=true:=by simp [nzT,i]
    rw [Am i,this]
    simp only [cond_true]
    rw [Du (by simp; omega)]; simp
  .intro h1
   refine ⟨ts.filter nzT,by simp only [h1,cond_false,List.take_length],?_⟩
   rw [As (by omega)]
   simp only [cond_false]
   rw [y,Ad,Mj f.length_eq.symm,Ad,
    Awr (k:=k) S hk (fun t ht=>⟨h.tb t (b t ht).1,(q _ (h.mo t (b t ht).1)).sz⟩) (by rw [f.length_eq]; omega)]; rfl
 .rw [List.pairwise_map]; exact s
 .intro t ht
  obtain ⟨u,hu,rfl⟩:=List.mem_map.1 ht
  refine ⟨Va _ _ _ (Ev _),?_⟩
  show rq (Bh _ _ _)≠0
  rw [Mi _ _ _ (Ev _)]; exact (b u hu).2
 .intro m
  rw [Aws,Awt f,Awu]
 .intro t ht
  obtain ⟨u,hu,rfl⟩:=List.mem_map.1 ht
  exact ⟨h.mo u (b u hu).1,Ai4 (h.tb u (b u hu).1)⟩
 .rw [List.length_map,f.length_eq]; exact g
end Go.Ab
namespace Go.Ab
open Go
theorem Alp (x:Bw) (g:CSz x) (ps:List (List Aj)) (B:∀p∈ps,∀t∈p,TSz t) (U:ps.length<=1048576) :
  ∃r,Je x ps=some r/\(((Ft x/\∀p∈ps,I5 x.Data x.Vars x.Res p=true)/\∃A,r = .inl (true,x,A,[],x.Data,x.Vars,x.Res.Kind,x.Res.Num,x.Res.Args)/\Fb x.Data x.Vars x.Res A) \/
   ((¬(Ft x/\∀p∈ps,I5 x.Data x.Vars x.Res p=true))/\r = .inr false)):=by
 obtain ⟨b,b1,b2⟩:=Ajr g.ds
 have N:=g.nv
 have M:=g.rs
 unfold Je
 rw [b1,U1 x.Data x.Res 0 (by omega)]
 by_cases l:x.Vars.length<=3000
 .rw [As (by omega)]
  simp only [cond_false,Ad]
  cases b with
  | false=>exact ⟨_,rfl,.inr ⟨fun h=>(by have:=b2.2 h.1.2.1; cases this),rfl⟩⟩
  | true=>
   have L:=b2.1 rfl
   simp only [bnt,cond_false]
   cases E:(Fq x.Data 0 x.Res&&decide (Bu x.Res<=200)) with
   | false=>exact ⟨_,rfl,.inr ⟨fun h=>(by have:=h.1.2.2.1; rw [show J5 x.Data x.Res=false from E] at this; cases this),rfl⟩⟩
   | true=>
    simp only [bnt,cond_false,Ad]
    refine E8 (fun i=>∃j:Nat,i=j/\j<=x.Vars.length/\(x.Vars.take j).all (J5 x.Data)=true) (fun i=>x.Vars.length-i.toNat)
     (fun z=>match z with | .inl r=>r=false/\¬Ft x | .inr _=>Ft x) ⟨0,rfl,by omega,by simp⟩ ?_ ?_
    .rintro i ⟨j,rfl,hj,c⟩
     rcases Nat.lt_or_ge j x.Vars.length with h | h
     .have ht:x.Vars[j]? = some x.Vars[j]:=Cp h
      generalize x.Vars[j]=t at ht
      have:=g.vs t (Cw ht)
      simp only [Am (by omega:(j:Int)<(x.Vars.length:Int)),cond_true,Cj rfl ht,Ad,U1 x.Data t 0 (by omega),Dr h (by omega)]
      rw [show (Fq x.Data 0 t&&decide (Bu t<=200))=J5 x.Data t from rfl]
      cases I:J5 x.Data t with
      | true=>exact .inl ⟨_,rfl,⟨j+1,rfl,by omega,by rw [Dy ht,List.all_append,c]; simp [I]⟩,by simp; omega⟩
      | false=>
       refine .inr ⟨.inl false,rfl,rfl,fun D=>?_⟩
       have:=List.all_eq_true.1 D.2.2.2 t (Cw ht)
       rw [I] at this; cases this
     .have:j=x.Vars.length:=by omega
      subst this
      rw [List.take_length] at c
      exact .inr ⟨.inr (),by simp,l,L,E,c⟩
    .rintro (r | u) f
     .obtain ⟨rfl,f⟩:=f
      exact ⟨_,rfl,.inr ⟨fun h=>f h.1,rfl⟩⟩
     .have J:Ft x:=f
      simp only
      refine E8 (fun s=>∃(j:Nat) (o:List (ByteArray×Int)),s=((j:Int),o)/\j<=ps.length/\Fb x.Data x.Vars x.Res o/\∀p∈ps.take j,I5 x.Data x.Vars x.Res p=true) (fun s=>ps.length-s.1.toNat)
       (fun z=>match z with | .inl r=>r=false/\¬(∀p∈ps,I5 x.Data x.Vars x.Res p=true) | .inr o=>Fb x.Data x.Vars x.Res o/\∀p∈ps,I5 x.Data x.Vars x.Res p=true)
       ⟨0,[],rfl,by omega,(fun q h=>by cases h),(fun q h=>by simp at h)⟩ ?_ ?_
      .rintro _ ⟨j,o,rfl,hj,G,c⟩
       rcases Nat.lt_or_ge j ps.length with h | h
       .have ht:ps[j]? = some ps[j]:=Cp h
        generalize ps[j]=p at ht
        have k:=Cw ht
        obtain ⟨A,S,R⟩:=Ako (J.ctx g) [] G p (B p k)
        simp only [Am (by omega:(j:Int)<(ps.length:Int)),cond_true,Cj rfl ht,Ad,S,Dr h (by omega)]
        cases y:I5 x.Data x.Vars x.Res p with
        | true=>
         refine .inl ⟨_,rfl,⟨j+1,A,rfl,by omega,R,fun q hq=>?_⟩,by simp; omega⟩
         rw [Dy ht] at hq
         rcases List.mem_append.1 hq with hq | hq
         .exact c q hq
         .simp only [List.mem_singleton] at hq
          subst hq; exact y
        | false=>
         refine .inr ⟨.inl false,rfl,rfl,fun D=>?_⟩
         have:=D p k
         rw [y] at this; cases this
       .have:j=ps.length:=by omega
        subst this
        rw [List.take_length] at c
        exact .inr ⟨.inr o,by simp,G,c⟩
      .rintro (r | o) hw
       .obtain ⟨rfl,hw⟩:=hw
        exact ⟨_,rfl,.inr ⟨fun h=>hw h.2,rfl⟩⟩
       .exact ⟨_,rfl,.inl ⟨⟨J,hw.2⟩,o,rfl,hw.1⟩⟩
 .rw [Am (by omega)]
  exact ⟨_,rfl,.inr ⟨fun h=>l h.1.1,rfl⟩⟩
theorem Awx {data:List A3} {vars:List Ai} {res:Ai} {m:Bd} (h:I4 data vars res m=true) (q:MSz m):CMo m:=by
 have c:=(Avj h).2
 unfold I4 at h
 simp only [Dq,decide_eq_true_eq] at h
 obtain ⟨⟨h1,h2⟩,h3⟩:=h
 have b:∀f∈m.Factors,0<=Fs data vars res f:=by
  intro f c
  obtain ⟨j,hj⟩:=List.getElem?_of_mem c
  have:=J0 h1 hj
  simp only [Ze,Dq,decide_eq_true_eq] at this
  omega
 have ha:∀a∈m.Atoms,1<=a.Deg/\C4 a.Lin=true/\a.Lin.Terms≠[]:=by
  intro a ha
  obtain ⟨j,hj⟩:=List.getElem?_of_mem ha
  have:=J0 h2 hj
  simp only [Mh,Dq,decide_eq_true_eq] at this
  refine ⟨this.1.1.1.1,this.1.1.1.2,fun e=>?_⟩
  have k:=this.1.1.2
  rw [e] at k; simp at k
 obtain ⟨a1,a2,a3⟩:=Akl m.Atoms fun a h=>by have:=(ha a h).1; omega
 have f1:=Ave m.Factors b
 have al:(m.Atoms.length:Int)<=Cl m.Atoms:=by
  have key:∀l:List A6,(∀a∈l,1<=a.Deg)->(l.length:Int)<=Cl l:=by
   intro l
   induction l with
   | nil=>intro _; simp [Cl]
   | cons f fs ih=>
    intro i
    have h1:=i f (by simp)
    have h2:=ih (fun g s=>i g (by simp [s]))
    unfold Cl at *
    simp only [List.map_cons,List.sum_cons,List.length_cons]; omega
  exact key _ fun a h=>(ha a h).1
 exact ⟨q,c,by omega,fun a h=>⟨(ha a h).2.1,(ha a h).2.2,(ha a h).1,by have:=a3 a h; omega⟩⟩
def Gg (x:Bw) (m:Bd):Prop:=I4 x.Data x.Vars x.Res m=true/\MSz m
theorem Gg.cmo {x:Bw} {m:Bd} (h:Gg x m):CMo m:=Awx h.1 h.2
structure Gv (x:Bw) (p:List Aj):Prop where
 can:I5 x.Data x.Vars x.Res p=true
 sz:∀t∈p,TSz t
theorem Gv.cp {x:Bw} {p:List Aj} (h:Gv x p):CP p:=(Zg.1 h.can).2.1
theorem Gv.mo {x:Bw} {p:List Aj} (h:Gv x p):∀t∈p,Gg x t.Mono:=fun t ht=>⟨(Zg.1 h.can).2.2 t ht,(h.sz t ht).mo⟩
theorem Gv.of {x:Bw} {p:List Aj} (hc:CP p) (b:∀t∈p,Gg x t.Mono) (c:∀t∈p,RB 1048576 t.Coef) (f:p.length<=1000):Gv x p :=
 ⟨Zg.2 ⟨f,hc,fun t ht=>(b t ht).1⟩,fun t ht=>⟨c t ht,(b t ht).2⟩⟩
theorem Gv.tb {x:Bw} {p:List Aj} (h:Gv x p):∀t∈p,RB 1048576 t.Coef/\Gg x t.Mono:=fun t ht=>⟨(h.sz t ht).co,h.mo t ht⟩
theorem Aea {x:Bw} (i:CSz x) (k:Ft x) {p q:List Aj} (hp:Gv x p) (hq:Gv x q):∃f,Je x [p,q]=some (.inl (true,x,f,[],x.Data,x.Vars,x.Res.Kind,x.Res.Num,x.Res.Args)):=by
 have b:∀r∈[p,q],Gv x r:=by
  intro r c
  simp only [List.mem_cons,List.not_mem_nil,or_false] at c
  rcases c with rfl | rfl <;> assumption
 obtain ⟨r,h,g⟩:=Alp x i [p,q] (fun r c=>(b r c).sz) (by simp)
 rcases g with ⟨_,f,e,_⟩ | ⟨j,_⟩
 .exact ⟨f,by rw [h,e]⟩
 .exact (j ⟨k,fun r c=>(b r c).can⟩).elim
theorem Awy {r:Ap} {j k:Nat} (q:List Aj) (y:RB j r) (hq:∀t∈q,RB k t.Coef) (hj:j<34359738000) (hk:k<34359738000) (D:q.length<=1048576) :
  ∃x,Tm q r=some x/\x.length=q.length/\(∀m,cf x m=cf q m*rq r)/\∀t∈x,RB (k+j+2) t.Coef/\∃u∈q,u.Mono=t.Mono:=by
 unfold Tm
 refine E8 (fun s=>∃(i:Nat) (o:List Aj),s=((i:Int),o)/\i<=q.length/\o.length=i/\(∀m,cf o m=cf (q.take i) m*rq r)/\∀t∈o,RB (k+j+2) t.Coef/\∃u∈q,u.Mono=t.Mono) (fun s=>q.length-s.1.toNat)
  (fun o=>o.length=q.length/\(∀m,cf o m=cf q m*rq r)/\∀t∈o,RB (k+j+2) t.Coef/\∃u∈q,u.Mono=t.Mono) ⟨0,[],rfl,by omega,rfl,(fun m=>by simp only [List.take_zero,cf]; grind),fun _ h=>by cases h⟩ ?_ ?_
 .rintro _ ⟨i,o,rfl,E,l,b,g⟩
  rcases Nat.lt_or_ge i q.length with h | h
  .have hx:q[i]? = some q[i]:=Cp h
   generalize q[i]=t at hx
   have f:=Cw hx
   obtain ⟨c,B,A,G,z⟩:=Adq (hq t f) y hk hj
   simp only [Am (by omega:(i:Int)<(q.length:Int)),cond_true,Cj rfl hx,Ad,B,Dr h (by omega)]
   rw [Du (by simp; omega)]
   refine .inl ⟨_,rfl,⟨i+1,o++[⟨c,t.Mono⟩],rfl,by omega,by simp [l],fun m=>?_,fun w hw=>?_⟩,by simp; omega⟩
   .rw [R9,b,Dy hx,R9]
    simp only [cf,z]
    split <;> grind
   .rcases List.mem_append.1 hw with hw | hw
    .exact g w hw
    .simp only [List.mem_singleton] at hw
     subst hw
     exact ⟨A,t,f,rfl⟩
  .have:i=q.length:=by omega
   subst this
   rw [List.take_length] at b
   simp only [As (by omega:¬(q.length:Int)<(q.length:Int)),cond_false]
   exact .inr ⟨_,rfl,l,b,g⟩
 .rintro o ⟨h1,h2,h3⟩
  exact ⟨_,rfl,h1,h2,h3⟩
theorem Awz:∃r,Fy (-1)=some r/\RB 1 r/\rq r = -1:=by
 refine ⟨_,Uy (-1) (by decide) (by decide),?_,?_⟩
 .exact Lh _ _ _ 1 (Ix (by decide)) (Ix (by decide)) (by omega)
 .rw [Mi _ _ _ (by decide)]; decide
end Go.Ab
namespace Go.Ab
open Go
end Go.Ab
namespace Go.Ab
open Go
def bc:Nat->Nat->Nat
 | _,0=>1
 | 0,_+1=>0
 | n+1,k+1=>bc n k+bc n (k+1)
theorem Jo (n:Nat):bc n 0=1:=by cases n <;> rfl
theorem Aeb:∀{n k:Nat},n<k->Fi n k=0
 | n,0,h=>absurd h (by omega)
 | n,k+1,h=>by
  rw [Fi]
  by_cases e:n<k
  .rw [Aeb e,Nat.zero_mul]
  .rw [show n-k=0 by omega,Nat.mul_zero]
theorem Alq (n:Nat):∀k,Fi (n+1) (k+1)=(n+1)*Fi n k
 | 0=>by simp [Fi]
 | k+1=>by
  rw [Fi,Alq n k,Fi,show n+1-(k+1)=n-k by omega,Nat.mul_assoc]
theorem Zq:∀n k,Fi n k=fct k*bc n k
 | n,0=>by rw [Jo]; rfl
 | 0,k+1=>by rw [Aeb (by omega)]; simp [bc]
 | n+1,k+1=>by
  have h1:=Zq n (k+1)
  have h2:=Zq n k
  rw [Alq,bc,Nat.mul_add,<-h1,fct,Fi,Nat.mul_right_comm,<-h2]
  by_cases e:k<=n
  .rw [<-Nat.mul_add,Nat.mul_comm,show k+1+(n-k)=n+1 by omega]
  .rw [Aeb (by omega)]; simp
theorem Vh:∀n k,bc n k<=2 ^ n
 | n,0=>by rw [Jo]; exact Nat.one_le_two_pow
 | 0,k+1=>by simp [bc]
 | n+1,k+1=>by
  have h1:=Vh n (k+1)
  have h2:=Vh n k
  rw [bc,Nat.pow_succ]; omega
def cR (n:Nat):Ap:=Bh false n 1
theorem Aec (n:Nat):sv (cR n)=false/\nv (cR n)=n/\dv (cR n)=1:=by
 obtain ⟨g,f,c,b⟩:=Ru false n 1 (by decide)
 refine ⟨?_,?_,?_⟩
 .by_cases h:n=0
  .exact b h
  .exact c h
 .unfold cR; rw [g]; simp
 .unfold cR; rw [f]; simp
theorem Aed {n k:Nat} (h:A9 n<=k) (hk:1<=k):RB k (cR n):=Lh _ _ _ _ h (by rw [Nm]; exact hk) hk
theorem Aw0:Fy 0=some (cR 0):=Uy 0 (by decide) (by decide)
theorem Vi:Fy 1=some (cR 1):=Uy 1 (by decide) (by decide)
theorem Aw1 (n k:Nat) (b:n<1000000000) (hk:k<=64):Abz (n:Int) (k:Int)=some (cR (bc n k),true):=by
 unfold Abz
 have e:(if (n:Int)>0 then (n:Int) else 0)=(n:Int):=by split <;> omega
 simp only [As (by omega:¬(k:Int)<0),cond_false,As (by omega:¬(k:Int)>64),Ad,e,Aja n k b hk]
 rw [Zq,show Bh false (fct k*bc n k) (fct k)=Bh false (fct k*bc n k) (fct k*1) by rw [Nat.mul_one],Pe _ _ _ _ (Yz k)]
 rfl
theorem Aw2 (n k:Nat) (b:n<1000000000) (hk:k<=64):Rn (n:Int) (k:Int)=some (cR (bc n k),true):=Aw1 n k b hk
end Go.Ab
namespace Go.Ab
open Go
end Go.Ab
namespace Go.Ab
open Go
end Go.Ab
namespace Go.Ab
open Go
structure Asc (b:List Int) (n:Nat) (l:List Int):Prop where
 up:l.Pairwise (· < ·)
 mem:∀y,y∈l↔y∈b.take n
theorem Aw3 {b:List Int} (f:b.Pairwise (·<=·)) {q:Nat} {p:Int} (hp:b[q]? = some p):∀y∈b.take (q+1),y<=p:=by
 intro y hy
 obtain ⟨i,c⟩:=List.getElem?_of_mem hy
 rw [List.getElem?_take] at c
 split at c
 .rename_i g
  by_cases e:i=q
  .subst e; rw [c] at hp; cases hp; exact Int.le_refl _
  .have h1:=Ez c
   have h2:=Ez hp
   have:=(List.pairwise_iff_getElem.1 f) i q h1 h2 (by omega)
   rw [Cp h1] at c
   rw [Cp h2] at hp
   cases c; cases hp; exact this
 .cases c
theorem Asc.step {b:List Int} (g:b.Pairwise (·<=·)) {q:Nat} {l:List Int} {p x:Int} (h:Asc b (q+1) l) (hp:b[q]? = some p) (hx:b[q+1]? = some x) (j:x≠p):Asc b (q+2) (l++[x]):=by
 have f:=Aw3 g hp
 have i:p<x:=by
  have h1:=Ez hp
  have h2:=Ez hx
  have:=(List.pairwise_iff_getElem.1 g) q (q+1) h1 h2 (by omega)
  rw [Cp h1] at hp
  rw [Cp h2] at hx
  cases hp; cases hx; omega
 refine ⟨?_,fun y=>?_⟩
 .rw [List.pairwise_append]
  refine ⟨h.up,by simp,fun a ha c hc=>?_⟩
  rw [List.mem_singleton] at hc
  subst hc
  have:=f a ((h.mem a).1 ha)
  omega
 .rw [Dy hx,List.mem_append,List.mem_append,h.mem y]
theorem Asc.same {b:List Int} {q:Nat} {l:List Int} {x:Int} (h:Asc b (q+1) l) (hp:b[q]? = some x) (hx:b[q+1]? = some x):Asc b (q+2) l:=by
 refine ⟨h.up,fun y=>?_⟩
 rw [Dy hx,List.mem_append,h.mem y]
 constructor
 .exact .inl
 .rintro (h1 | h1)
  .exact h1
  .rw [List.mem_singleton] at h1
   subst h1
   rw [Dy hp]; simp
end Go.Ab
namespace Go.Ab
open Go
end Go.Ab
namespace Go.Ab
open Go
end Go.Ab
namespace Go.Ab
open Go
end Go.Ab
namespace Go.Ab
open Go
end Go.Ab
namespace Go.Ab
open Go
end Go.Ab
namespace Go.Ab
open Go
end Go.Ab
namespace Go.Ab
open Go
end Go.Ab
namespace Go.Ab
open Go
end Go.Ab
namespace Go.Ab
open Go
end Go.Ab
namespace Go.Ab
open Go
end Go.Ab
namespace Go.Ab
open Go
end Go.Ab
namespace Go.Ab
open Go
end Go.Ab
namespace Go.Ab
open Go
end Go.Ab
namespace Go.Ab
open Go
structure PSt (K:Nat) (n:Nat) (b:List Aj):Prop where
 le:n<=b.length
 cp:CP (b.take n)
 tm:∀t∈b.take n,RB K t.Coef/\MSz t.Mono
end Go.Ab
namespace Go.Ab
open Go
theorem PSt.mono {K c n:Nat} {b:List Aj} (h:PSt K n b) (f:K<=c):PSt c n b:=⟨h.le,h.cp,fun t ht=>⟨((h.tm t ht).1).mono f,(h.tm t ht).2⟩⟩
end Go.Ab
namespace Go.Ab
open Go
end Go.Ab
namespace Go.Ab
open Go
theorem CP.dst {p:List Aj} (h:CP p):Dst p:=h.srt.imp fun {a b} hab e=>by
 unfold ltT at hab
 rw [Kw.2 e] at hab; omega
end Go.Ab
namespace Go.Ab
open Go
theorem Alr:Mx (fun t u:Aj=>Cz t.Mono u.Mono) where
 irr x:=by
  show ¬Cz x.Mono x.Mono<0
  rw [Adt]; omega
 trs x y z h1 h2:=R8 h1 h2
 ntr x y z h1 h2:=by
  show ¬Cz x.Mono z.Mono<0
  have h1:¬Cz x.Mono y.Mono<0:=h1
  have h2:¬Cz y.Mono z.Mono<0:=h2
  intro h3
  rcases Int.lt_trichotomy (Cz x.Mono y.Mono) 0 with k | k | k
  .exact h1 k
  .rw [Kw.1 k] at h3; exact h2 h3
  .exact h2 (R8 (Adu.1 k) h3)
def Zr (b:List Aj):List Aj:=b.mergeSort fun t u=>decide (Cz t.Mono u.Mono<=0)
theorem Als (b:List Aj):(Zr b).Perm b:=List.mergeSort_perm _ _
theorem Aw4 (f:List Aj) (hd:Dst f):(Zr f).Pairwise ltT:=by
 have h1:=List.pairwise_mergeSort (le:=fun t u:Aj=>decide (Cz t.Mono u.Mono<=0)) (fun a b c h1 h2=>by
  simp only [decide_eq_true_eq] at *
  have:=Alr.ntr c b a (by show ¬Cz _ _<0; rw [R7]; omega) (by show ¬Cz _ _<0; rw [R7]; omega)
  have this:¬Cz c.Mono a.Mono<0:=this
  rw [R7] at this; omega) (fun a b=>by
  simp only [Bool.or_eq_true,decide_eq_true_eq]
  rw [R7 a.Mono b.Mono]; omega) f
 have h2:(Zr f).Pairwise fun t u=>t.Mono≠u.Mono:=((Als f).pairwise_iff (fun {x y} h=>h.symm)).2 hd
 refine (h1.and h2).imp fun {t u} h=>?_
 have a:=of_decide_eq_true h.1
 have b:Cz t.Mono u.Mono≠0:=fun e=>h.2 (Kw.1 e)
 unfold ltT; omega
theorem Aee (b:List Aj) (hd:Dst b) (f:∀t∈b,MSz t.Mono):∃R,Lx b=some R/\R.Perm b/\R.Pairwise ltT:=by
 rcases Nat.lt_or_ge 12 b.length with h | h
 .have e:Nat.ble b.length 12=false:=by
   cases k:Nat.ble b.length 12 with
   | false=>rfl
   | true=>have:=Nat.le_of_ble_eq_true k; omega
  unfold Lx
  rw [e,cond_false]
  obtain ⟨r,g,j,law,hc,hp,i⟩:=Aq4 (cmp:=Ly) (l:=b) (r:=Zr b) ⟨_,Alr,fun x hx y _=>Ad8 x y (f x hx),Als b,Aw4 b hd⟩
  refine ⟨r,g,hp,?_⟩
  refine (List.Pairwise.imp_of_mem (S:=ltT) (fun {t u} ht hu h=>?_) i)
  have c:=hc t (hp.mem_iff.1 ht) u (hp.mem_iff.1 hu)
  rw [Ad8 t u (f t (hp.mem_iff.1 ht))] at c
  have c:=Option.some.inj c
  unfold ltT; rw [c]; exact h
 .exact Awq b hd f h
end Go.Ab
namespace Go.Ab
open Go
theorem Alt {x:Bw} (i:CSz x) {ps:List (List Aj)} (c:∀p∈ps,∀t∈p,TSz t) (k:ps.length<=1048576) (h:Ft x/\∀p∈ps,I5 x.Data x.Vars x.Res p=true):∃b,Je x ps=some (.inl (true,x,b,[],x.Data,x.Vars,x.Res.Kind,x.Res.Num,x.Res.Args))/\Fb x.Data x.Vars x.Res b:=by
 obtain ⟨r,g,f⟩:=Alp x i ps c k
 rcases f with ⟨_,b,e,j⟩ | ⟨h2,_⟩
 .exact ⟨b,by rw [g,e],j⟩
 .exact (h2 h).elim
structure PR (x:Bw) (n:Nat) (f:Bd->Rat) (R:List Aj):Prop where
 cp:CP R
 val:∀m,cf R m=f m
 tb:∀t∈R,Gg x t.Mono/\RB 8589934592 t.Coef
 len:R.length<=n
theorem Alu {x:Bw} {k:Nat} {ts:List Aj} (h:Col k (Gg x) ts) (hk:k<8589934592) (l:ts.length<=1000):∃R,Im (plc ts) ts=some (R,0)/\PR x ts.length (cf ts) R:=by
 obtain ⟨R,j,i,g,b,f⟩:=Ad9 (P:=Gg x) (fun m h=>h.cmo) (plc ts) ts h (by omega) l (fun c _ h2 h3=>Aee c h2 h3)
 exact ⟨R,j,i,g,fun t ht=>⟨(b t ht).1,(b t ht).2.mono (by omega)⟩,f⟩
theorem PR.of {x:Bw} {n m:Nat} {f g:Bd->Rat} {R:List Aj} (h:PR x n f R) (b:n<=m) (c:∀a,f a=g a):PR x m g R :=
 ⟨h.cp,fun a=>by rw [h.val,c],h.tb,Nat.le_trans h.len b⟩
theorem Aw5 {x:Bw} (s:CSz x) (y:Ft x) {p q:List Aj} (hp:Gv x p) (hq:Gv x q) (z:p.length+q.length<=1000) :
  ∃R,Qk x p q=some (R,0)/\PR x (p.length+q.length) (fun m=>cf p m+cf q m) R:=by
 obtain ⟨A,hb⟩:=Aea s y hp hq
 unfold Qk
 rw [hb]
 simp only [Ad,bnt,cond_false,H6]
 obtain ⟨u,i,g,f,c⟩:=Ps (k0:=1048576) (k:=1048576) (P:=Gg x) (fun m h=>h.cmo) p [] (Col.nil _ _) hp.tb (Nat.le_refl _) (by omega) (by simp; omega)
 simp at f
 obtain ⟨v,b,v2,v3,v4⟩:=Ps (k:=1048576) (P:=Gg x) (fun m h=>h.cmo) q u g hq.tb (by omega) (by omega) (by omega)
 obtain ⟨R,l,j⟩:=Alu v2 (by omega) (by omega)
 rw [show He p [] []=some (plc u,u) from i,Ad,b,Ad,l,Ad]
 exact ⟨R,rfl,j.of (by omega) fun m=>by rw [v4,c]; simp only [cf]; grind⟩
theorem Aw6 {x:Bw} (I:CSz x) (J:Ft x) {p q:List Aj} (hp:Gv x p) (hq:Gv x q) (L:p.length+q.length<=1000) :
  ∃R,M0 x p q=some (R,0)/\PR x (p.length+q.length) (fun m=>cf p m-cf q m) R:=by
 obtain ⟨M,hb⟩:=Aea I J hp hq
 unfold M0
 rw [hb]
 simp only [Ad,bnt,cond_false,H6]
 obtain ⟨u,l,j,i,g⟩:=Ps (k0:=1048579) (k:=1048576) (P:=Gg x) (fun m h=>h.cmo) p [] (Col.nil _ _) hp.tb (by omega) (by omega) (by simp; omega)
 simp at i
 obtain ⟨r,B,A,z⟩:=Awz
 obtain ⟨G,E,c,D,b⟩:=Awy (k:=1048576) q A (fun t ht=>(hq.tb t ht).1) (by omega) (by omega) (by omega)
 obtain ⟨v,f,v2,v3,v4⟩:=Ps (k:=1048579) (P:=Gg x) (fun m h=>h.cmo) G u j (fun t ht=>⟨(b t ht).1,by obtain ⟨w,hw,e⟩:=(b t ht).2; rw [<-e]; exact (hq.tb w hw).2⟩) (by omega) (by rw [c]; omega) (by omega)
 obtain ⟨R,y,s⟩:=Alu v2 (by rw [c]; omega) (by omega)
 rw [show He p [] []=some (plc u,u) from l,Ad,B,Ad,E,Ad,f,Ad,y,Ad]
 exact ⟨R,rfl,s.of (by omega) fun m=>by rw [v4,g,D,z]; simp only [cf]; grind⟩
theorem Gv.nil (x:Bw):Gv x []:=⟨Zg.2 ⟨by simp,CP.nil,fun t ht=>by cases ht⟩,fun t ht=>by cases ht⟩
end Go.Ab
namespace Go.Ab
open Go
theorem Aef:∀n k,bc n k<=n ^ k
 | n,0=>by rw [Jo]; exact Nat.le_refl _
 | 0,k+1=>by simp [bc]
 | n+1,k+1=>by
  have h1:=Aef n k
  have h2:=Aef n (k+1)
  have h3:n ^ k<=(n+1) ^ k:=Nat.pow_le_pow_left (by omega) k
  have b:n ^ (k+1)<=n*(n+1) ^ k:=by rw [Nat.pow_succ,Nat.mul_comm]; exact Nat.mul_le_mul_left _ h3
  rw [bc,Nat.pow_succ,Nat.mul_add,Nat.mul_one,Nat.mul_comm]; omega
end Go.Ab
namespace Go.Ab
open Go
def Sm (a:Nat):Prop:=a<=5000 ^ 6
theorem Sm.of {a d:Nat} (h:a<=5000 ^ d) (hd:d<=6):Sm a:=Nat.le_trans h (Nat.pow_le_pow_right (by decide) hd)
end Go.Ab
namespace Go.Ab
open Go
theorem Alv (z:Int):mkRat z 1=(z:Rat):=by
 rw [Rat.mkRat_eq_div,show ((1:Nat):Rat)=1 from rfl]; grind
theorem Aeg (n:Nat):rq (cR n)=(n:Rat):=by
 unfold cR
 rw [Mi _ _ _ (by decide),Alv]; rfl
end Go.Ab
namespace Go.Ab
open Go
end Go.Ab
namespace Go.Ab
open Go
end Go.Ab
namespace Go.Ab
open Go
end Go.Ab
namespace Go.Ab
open Go
end Go.Ab
namespace Go.Ab
open Go
def sm:Nat->(Nat->Nat)->Nat
 | 0,_=>0
 | n+1,f=>sm n f+f n
theorem Vj {f g:Nat->Nat}:∀{n:Nat},(∀k,k<n->f k=g k)->sm n f=sm n g
 | 0,_=>rfl
 | n+1,h=>by rw [sm,sm,Vj (n:=n) fun k hk=>h k (by omega),h n (by omega)]
theorem Vk (f g:Nat->Nat):∀n,sm n (fun k=>f k+g k)=sm n f+sm n g
 | 0=>rfl
 | n+1=>by simp only [sm,Vk f g n]; omega
theorem Alw (c:Nat) (f:Nat->Nat):∀n,sm n (fun k=>c*f k)=c*sm n f
 | 0=>rfl
 | n+1=>by simp only [sm,Alw c f n,Nat.mul_add]
theorem Vl {f:Nat->Nat}:∀{n:Nat},(∀k,k<n->f k=0)->sm n f=0
 | 0,_=>rfl
 | n+1,h=>by rw [sm,Vl (n:=n) fun k hk=>h k (by omega),h n (by omega)]
theorem Aeh (f:Nat->Nat):∀n,sm (n+1) f=f 0+sm n (fun k=>f (k+1))
 | 0=>by simp [sm]
 | n+1=>by rw [sm,Aeh f n,sm]; omega
theorem Alx {f:Nat->Nat} {n:Nat}:∀{m:Nat},n<=m->(∀k,n<=k->f k=0)->sm m f=sm n f
 | 0,h,_=>by rw [show n=0 by omega]
 | m+1,h,b=>by
  by_cases e:n=m+1
  .rw [e]
  .rw [sm,Alx (m:=m) (by omega) b,b m (by omega),Nat.add_zero]
theorem Aei {f:Nat->Nat} {n k:Nat} (hk:k<n) (b:∀j,j≠k->f j=0):sm n f=f k:=by
 induction n with
 | zero=>omega
 | succ n ih=>
  rw [sm]
  by_cases e:k=n
  .subst e
   rw [Vl fun j hj=>b j (by omega),Nat.zero_add]
  .rw [ih (by omega),b n (by omega),Nat.add_zero]
theorem Pt:∀n,bc n n=1
 | 0=>rfl
 | n+1=>by
  rw [bc,Pt n]
  have:bc n (n+1)=0:=by have:=bc_big2 n (n+1) (by omega); exact this
  omega
where bc_big2:∀n k,n<k->bc n k=0
 | n,0,h=>absurd h (by omega)
 | 0,k+1,_=>rfl
 | n+1,k+1,h=>by rw [bc,bc_big2 n k (by omega),bc_big2 n (k+1) (by omega)]
theorem Sc {n k:Nat} (h:n<k):bc n k=0:=Pt.bc_big2 n k h
theorem Sd (n k:Nat):bc (n+1) (k+1)=bc n k+bc n (k+1):=by rw [bc]
def Rc (a b k:Nat):Nat:=if b<=k then bc k a*bc a (k-b) else 0
theorem Aly {a b k:Nat} (h:a+b<k):Rc a b k=0:=by
 unfold Rc
 rw [if_pos (by omega),Sc (show a<k-b by omega),Nat.mul_zero]
theorem Aw7 {a b k:Nat} (h:k<a):Rc a b k=0:=by
 unfold Rc
 split
 .rw [Sc h,Nat.zero_mul]
 .rfl
theorem Alz (b k:Nat):Rc 0 b k=if k=b then 1 else 0:=by
 unfold Rc
 by_cases h:k=b
 .subst h; rw [if_pos (Nat.le_refl _),if_pos rfl,Nat.sub_self,Jo,Jo]
 .rw [if_neg h]
  split
  .rw [Sc (show 0<k-b by omega),Nat.mul_zero]
  .rfl
theorem Al0 (a k:Nat):Rc a 0 k=if k=a then 1 else 0:=by
 unfold Rc
 rw [if_pos (Nat.zero_le _),Nat.sub_zero]
 by_cases h:k=a
 .subst h; rw [if_pos rfl,Pt]
 .rw [if_neg h]
  rcases Nat.lt_or_ge k a with h2 | h2
  .rw [Sc h2,Nat.zero_mul]
  .rw [Sc (show a<k by omega),Nat.mul_zero]
theorem Aw8 (a b k:Nat):Rc (a+1) (b+1) (k+1)=Rc a (b+1) k+Rc (a+1) b k+Rc a b k:=by
 unfold Rc
 by_cases h:b<=k
 .rw [if_pos (by omega),if_pos h,if_pos h,show k+1-(b+1)=k-b by omega,Sd]
  by_cases h2:b+1<=k
  .rw [if_pos h2]
   obtain ⟨j,hj⟩:∃j,k-b=j+1:=⟨k-b-1,by omega⟩
   rw [hj,show k-(b+1)=j by omega,Sd]
   simp only [Nat.add_mul,Nat.mul_add]; omega
  .rw [if_neg h2,show k-b=0 by omega,Jo,Jo]; omega
 .rw [if_neg (by omega),if_neg h,if_neg h,if_neg (by omega)]
theorem Aw9 (a b:Nat):Rc (a+1) (b+1) 0=0:=by
 unfold Rc; rw [if_neg (by omega)]
theorem Axa (f:Nat->Nat) (n N:Nat):sm (N+1) (fun k=>f k*bc (n+1) k)=sm (N+1) (fun k=>f k*bc n k)+sm N (fun k=>f (k+1)*bc n k):=by
 rw [Aeh,Aeh (fun k=>f k*bc n k),Jo,Jo]
 have:sm N (fun k=>f (k+1)*bc (n+1) (k+1))=sm N (fun k=>f (k+1)*bc n (k+1))+sm N (fun k=>f (k+1)*bc n k):=by
  rw [<-Vk]
  exact Vj fun k _=>by rw [Sd,Nat.mul_add]; omega
 rw [this]; omega
theorem Vm:∀(n a b N:Nat),a+b<N->sm N (fun k=>Rc a b k*bc n k)=bc n a*bc n b
 | n,0,b,N,h=>by
  rw [Jo,Nat.one_mul,Aei (k:=b) (by omega) fun j hj=>by rw [Alz,if_neg hj,Nat.zero_mul],Alz,if_pos rfl,Nat.one_mul]
 | n,a+1,0,N,h=>by
  rw [Jo,Nat.mul_one,Aei (k:=a+1) (by omega) fun j hj=>by rw [Al0,if_neg hj,Nat.zero_mul],Al0,if_pos rfl,Nat.one_mul]
 | 0,a+1,b+1,N,h=>by
  rw [show bc 0 (a+1)=0 from rfl,Nat.zero_mul]
  refine Vl fun k _=>?_
  cases k with
  | zero=>rw [Aw9,Nat.zero_mul]
  | succ k=>rw [show bc 0 (k+1)=0 from rfl,Nat.mul_zero]
 | n+1,a+1,b+1,N,h=>by
  obtain ⟨N,rfl⟩:∃M,N=M+1:=⟨N-1,by omega⟩
  rw [Axa,Vm n (a+1) (b+1) (N+1) h]
  have h1:=Vm n a (b+1) N (by omega)
  have h2:=Vm n (a+1) b N (by omega)
  have h3:=Vm n a b N (by omega)
  have c:sm N (fun k=>Rc (a+1) (b+1) (k+1)*bc n k)=sm N (fun k=>Rc a (b+1) k*bc n k)+sm N (fun k=>Rc (a+1) b k*bc n k)+sm N (fun k=>Rc a b k*bc n k):=by
   rw [<-Vk,<-Vk]
   exact Vj fun k _=>by rw [Aw8,Nat.add_mul,Nat.add_mul]
  rw [c,h1,h2,h3,Sd,Sd,Nat.add_mul,Nat.mul_add,Nat.mul_add]; omega
theorem Al1 {f g:Nat->Nat} {N:Nat} (h:∀n,n<N->sm N (fun k=>f k*bc n k)=sm N (fun k=>g k*bc n k)):∀k,k<N->f k=g k:=by
 intro k
 induction k using Nat.strongRecOn with
 | ind k ih=>
  intro hk
  have cut:∀F:Nat->Nat,sm N (fun j=>F j*bc k j)=sm k (fun j=>F j*bc k j)+F k:=by
   intro F
   have e:sm N (fun j=>F j*bc k j)=sm (k+1) (fun j=>F j*bc k j):=Alx (by omega) fun j hj=>by rw [Sc (by omega),Nat.mul_zero]
   rw [e,sm,Pt,Nat.mul_one]
  have:=h k hk
  rw [cut f,cut g,Vj (f:=fun j=>f j*bc k j) (g:=fun j=>g j*bc k j) fun j hj=>by rw [ih j hj (by omega)]] at this
  omega
end Go.Ab
namespace Go.Ab
open Go
noncomputable def Se {α:Type} (cmp:α->α->Option Int) (a0:Int):Int×List α->Option ((Int×List α)⊕(Int×List α)):=fun (v31,b)=>
 (show Option Bool from
 bif (decide (v31>a0)) then (
 (Ag b v31).bind fun v33=>
 (Ag b (Ac (v31-1))).bind fun g=>
 (cmp v33 g).bind fun v35=>
 some (decide (v35<(0:Int))))
 else some false).bind fun f=>
 bif f then (
 (Ag b (Ac (v31-1))).bind fun v37=>
 (Ag b v31).bind fun c=>
 (Ag b v31).bind fun v39=>
 (Ag (Cg b v31 v37) (Ac (v31-1))).bind fun v40=>
 some (.inl ((Ac (v31-1)),(Cg (Cg b v31 v37) (Ac (v31-1)) c))))
 else some (.inr (v31,b))
noncomputable def Vn {α:Type} (cmp:α->α->Option Int) (a0 a1:Int) (g:List α):Option (List α) :=
 (Al (S:=(Int×(List α))) (E:=(List α)) (fun (v21,b)=>
 bif (decide (v21<a1)) then (
 (Al (Se cmp a0) (v21,b)).bind fun (v41,f)=>
 some (.inl ((Ac (v21+1)),f))
 )
 else (
 some (.inr b)
 )
  ) ((Ac (a0+1)),g)).bind fun c=>
 some c
theorem Axb {α:Type} (A R:List α) (x y:α):((A++y::x::R).set (A.length+1) y).set A.length x=A++x::y::R:=by
 induction A with
 | nil=>rfl
 | cons a A ih=>simp only [List.cons_append,List.length_cons,List.set_cons_succ,ih]
theorem Aej {α:Type} (A R:List α) (x:α):(A++x::R)[A.length]? = some x:=by simp
theorem Axc {α:Type} (A R:List α) (x y:α):(A++y::x::R)[A.length+1]? = some x:=by
 induction A with
 | nil=>rfl
 | cons a A ih=>simp
theorem Axd {α:Type} (cmp:α->α->Option Int) (y:α) (R:List α):Se cmp 0 (0,y::R)=some (.inr (0,y::R)):=by
 unfold Se
 simp only [As (by omega:¬(0:Int)>0),cond_false,Ad]
theorem Axe {α:Type} {cmp:α->α->Option Int} {c:α->α->Int} {N:Nat} (i:N<=1099511627776) (A R:List α) (u y:α) (b:cmp u y=some (c u y)) (f:(A++y::u::R).length<=N):Se cmp 0 (((A.length+1:Nat):Int),A++y::u::R) =
  if c u y<0 then some (.inl ((A.length:Int),A++u::y::R)) else some (.inr (((A.length+1:Nat):Int),A++y::u::R)):=by
 have h:A.length+1<N:=by simp at f; omega
 have g:Ac (((A.length+1:Nat):Int)-1)=(A.length:Int):=by rw [Ac,Bs] <;> omega
 unfold Se
 simp only [Am (by omega:((A.length+1:Nat):Int)>0),cond_true,g,Cj (n:=A.length+1) rfl (Axc A R u y),Cj (n:=A.length) rfl (Aej A (u::R) y),Ad,b]
 by_cases hc:c u y<0
 .rw [Am hc,if_pos hc]
  simp only [cond_true]
  rw [E9 (n:=A.length+1) rfl,E9 (n:=A.length) rfl,Axb]
  have:Ag ((A++y::u::R).set (A.length+1) y) (A.length:Int)=some y:=by
   refine Cj rfl ?_
   rw [List.getElem?_set_ne (by omega)]; exact Aej A (u::R) y
  rw [this]; rfl
 .rw [As hc,if_neg hc]; rfl
theorem Axf {α:Type} {cmp:α->α->Option Int} {c:α->α->Int} {N:Nat} (s:N<=1099511627776) :
  ∀(n:Nat) (A R:List α) (x:α),A.length=n->(∀t∈A,cmp x t=some (c x t))->(A++x::R).length<=N ->
   ∃f i,Al (Se cmp 0) ((A.length:Int),A++x::R)=some ((f.length:Int),f++x::(i++R))/\A=f++i/\(∀a∈i,c x a<0)/\∀k y,f=k++[y]->¬c x y<0:=by
 intro n
 induction n with
 | zero=>
  intro A R x g _ _
  have:A = []:=List.length_eq_zero_iff.1 g
  subst this
  exact ⟨[],[],Em (Axd cmp x R),rfl,(fun _ h=>by cases h),(fun k y h=>by simp at h)⟩
 | succ n ih=>
  intro A R x g l b
  obtain ⟨B,y,rfl⟩:∃B y,A=B++[y]:=by
   rcases List.eq_nil_or_concat A with h | ⟨B,y,h⟩
   .rw [h] at g; cases g
   .exact ⟨B,y,by simpa using h⟩
  have u:B.length=n:=by simpa using g
  have E:(B++[y])++x::R=B++y::x::R:=by simp
  have el:(((B++[y]).length:Nat):Int)=((B.length+1:Nat):Int):=by simp
  rw [E] at b ⊢
  rw [el]
  have j:=Axe (cmp:=cmp) (c:=c) s B R x y (l y (by simp)) b
  by_cases hc:c x y<0
  .rw [if_pos hc] at j
   obtain ⟨f,i,h1,h2,h3,D⟩:=ih B (y::R) x u (fun t ht=>l t (by simp [ht])) (by simpa using b)
   refine ⟨f,i++[y],?_,by rw [h2]; simp,?_,D⟩
   .rw [Jd j,h1]; simp
   .intro a ha
    rcases List.mem_append.1 ha with ha | ha
    .exact h3 a ha
    .simp only [List.mem_singleton] at ha
     subst ha; exact hc
  .rw [if_neg hc] at j
   refine ⟨B++[y],[],?_,by simp,(fun _ h=>by cases h),?_⟩
   .rw [Em j]; simp
   .intro k z q
    have:=List.append_inj' q rfl
    have e:y=z:=by simpa using this.2
    subst e; exact hc
theorem Axg {α:Type} {c:α->α->Int} (L:Mx c) {f j:List α} {x:α} (s:(f++j).Pairwise (fun a b=>¬c b a<0)) (h2:∀a∈j,c x a<0) (h1:∀g y,f=g++[y]->¬c x y<0):(f++x::j).Pairwise (fun a b=>¬c b a<0):=by
 obtain ⟨i,l,k⟩:=List.pairwise_append.1 s
 have hx:∀a∈f,¬c x a<0:=by
  intro a ha
  rcases List.eq_nil_or_concat f with h | ⟨g,y,h⟩
  .rw [h] at ha; cases ha
  .have h:f=g++[y]:=by simpa using h
   have q:=h1 g y h
   rw [h] at ha i
   rcases List.mem_append.1 ha with ha | ha
   .exact L.ntr x y a q ((List.pairwise_append.1 i).2.2 a ha y (by simp))
   .simp only [List.mem_singleton] at ha
    subst ha; exact q
 refine List.pairwise_append.2 ⟨i,List.pairwise_cons.2 ⟨fun a ha h=>L.irr x (L.trs x a x (h2 a ha) h),l⟩,fun a ha b hb=>?_⟩
 rcases List.mem_cons.1 hb with rfl | hb
 .exact hx a ha
 .exact k a ha b hb
theorem Al2 {α:Type} {cmp:α->α->Option Int} {c:α->α->Int} (L:Mx c) (f:List α) (A:∀x∈f,∀y∈f,cmp x y=some (c x y)) (J:f.length<=1099511627776) :
  ∃R,Vn cmp 0 (f.length:Int) f=some R/\R.Perm f/\R.Pairwise (fun a b=>¬c b a<0):=by
 unfold Vn
 cases f with
 | nil=>
  refine ⟨[],?_,List.Perm.refl _,List.Pairwise.nil⟩
  refine G5 0 (fun _=>((1:Int),([]:List α))) (by simp [Ac,Bs]) (fun j hj=>by omega) ⟨[],?_,rfl⟩
  simp
 | cons z0 B=>
 generalize k:z0::B=f at *
 have hpos:1<=f.length:=by rw [<-k]; simp
 refine E8 (fun s=>∃(i:Nat) (S:List α),s=((i:Int),S++f.drop i)/\1<=i/\i<=f.length/\S.length=i/\S.Perm (f.take i)/\S.Pairwise (fun a b=>¬c b a<0)) (fun s=>f.length-s.1.toNat)
  (fun R=>R.Perm f/\R.Pairwise (fun a b=>¬c b a<0)) ⟨1,[z0],by rw [<-k]; simp [Ac,Bs],by omega,hpos,rfl,by rw [<-k]; simp,List.pairwise_singleton _ _⟩ ?_ ?_
 .rintro _ ⟨i,S,rfl,G,M,E,g,l⟩
  rcases Nat.lt_or_ge i f.length with h | h
  .have hx:f[i]? = some f[i]:=Cp h
   have hxm:f[i]∈f:=List.getElem_mem h
   generalize f[i]=x at hx hxm
   have D:f.drop i=x::f.drop (i+1):=I3 hx
   have z:(S++x::f.drop (i+1)).length=f.length:=by simp; omega
   simp only [Am (by omega:(i:Int)<(f.length:Int)),cond_true,Dr h (by omega)]
   rw [D]
   left
   obtain ⟨u,q,h1,h2,h3,I⟩:=Axf (cmp:=cmp) (c:=c) (N:=f.length) (by omega) S.length S (f.drop (i+1)) x rfl (fun t ht=>A x hxm t (List.mem_of_mem_take (g.mem_iff.1 ht))) (by rw [z]; exact Nat.le_refl _)
   rw [E] at h1
   have hp:(u++x::q).Perm (f.take (i+1)):=by
    rw [Dy hx]
    have:(u++x::q).Perm ((u++q)++[x]):=by
     rw [List.append_assoc]
     exact List.Perm.append_left u (List.perm_append_singleton x q).symm
    exact this.trans (by rw [<-h2]; exact g.append_right [x])
   refine ⟨(((i+1:Nat):Int),(u++x::q)++f.drop (i+1)),bnd h1 (by simp),⟨i+1,u++x::q,rfl,by omega,by omega,?_,hp,?_⟩,by simp; omega⟩
   .rw [hp.length_eq,List.length_take]; omega
   .rw [h2] at l
    exact Axg L l h3 I
  .have:i=f.length:=by omega
   subst this
   rw [List.take_length] at g
   simp only [As (by omega:¬(f.length:Int)<(f.length:Int)),cond_false,List.drop_length,List.append_nil]
   exact .inr ⟨S,rfl,g,l⟩
 .rintro R ⟨h1,h2⟩
  exact ⟨R,rfl,h1,h2⟩
noncomputable def Al3 {α:Type} (B:Nat) (gr:Int->Option (List α)) (a0:List (List α)):Option (List α) :=
 (Al (S:=(Int×Int)) (E:=Int) (fun (v2,v3)=>
 bif (decide (v3<(a0.length:Int))) then (
 (Ag a0 v3).bind fun v4=>
 bif (decide ((Ac (v2+(v4.length:Int)))<(0:Int))) then (
 none
 )
 else (
 some (.inl ((Ac (v2+(v4.length:Int))),(Ac (v3+1))))
 )
 )
 else (
 some (.inr v2)
 )
  ) (0,0)).bind fun v5=>
 (gr v5).bind fun i=>
 (Al (S:=(Int×(List α))) (E:=(List α)) (fun (b,c)=>
 bif (decide (b<(a0.length:Int))) then (
 (Ag a0 b).bind fun f=>
 (Cf B c f).bind fun h=>
 some (.inl ((Ac (b+1)),h))
 )
 else (
 some (.inr c)
 )
  ) (0,i)).bind fun g=>
 some g
theorem Aek {α:Type} {B:Nat} (g:B<=1024) {gr:Int->Option (List α)} (l:∀n:Nat,n<=1000000->gr (n:Int)=some []) (a b:List α) (h:a.length+b.length<=1000000):Al3 B gr [a,b]=some (a++b):=by
 have m1:a.length*B<=1000000*1024:=Nat.mul_le_mul (by omega) g
 have m2:(a.length+b.length)*B<=1000000*1024:=Nat.mul_le_mul h g
 have f:Ac 1=1:=by rw [Ac,Bs] <;> omega
 have c:Ac 2=2:=by rw [Ac,Bs] <;> omega
 have k:Ac (a.length:Int)=(a.length:Int):=by rw [Ac,Bs] <;> omega
 have i:Ac ((a.length:Int)+(b.length:Int))=((a.length:Int)+(b.length:Int)):=by rw [Ac,Bs] <;> omega
 have i0:Ag [a,b] 0=some a:=rfl
 have i1:Ag [a,b] 1=some b:=rfl
 have s:Cf B [] a=some a:=by rw [Du (by simp; omega)]; rfl
 have q:Cf B a b=some (a++b):=Du (by omega)
 unfold Al3
 refine G5 2 (fun j=>if j=0 then (0,0) else if j=1 then ((a.length:Int),1) else (((a.length+b.length:Nat):Int),2)) rfl ?_ ⟨((a.length+b.length:Nat):Int),?_,?_⟩
 .intro j hj
  rcases (by omega:j=0\/j=1) with rfl | rfl
  .have:¬((a.length:Int)<0):=by omega
   simp [i0,k,f,this]
  .have:¬((a.length:Int)+(b.length:Int)<0):=by omega
   simp [i1,i,c,this]
 .simp
 .rw [l _ h,Ad]
  refine G5 2 (fun j=>if j=0 then (0,[]) else if j=1 then (1,a) else (2,a++b)) rfl ?_ ⟨a++b,?_,rfl⟩
  .intro j hj
   rcases (by omega:j=0\/j=1) with rfl | rfl
   .simp [i0,f,s]
   .simp [i1,c,q]
  .simp
end Go.Ab
namespace Go.Ab
open Go
def Big:Nat:=1000000000 ^ 100
structure Np (x:Ap) (a:Nat):Prop where
 rb:RB 200 x
 s:sv x=false
 n:nv x=a
 d:dv x=1
theorem Ael {a:Nat} (h:a<Big):A9 a<=100:=Ix h
theorem Np.cR {a:Nat} (h:A9 a<=200):Np (cR a) a:=⟨Aed h (by decide),(Aec a).1,(Aec a).2.1,(Aec a).2.2⟩
theorem Np.c {a:Nat} (h:a<Big):Np (Ab.cR a) a:=Np.cR (by have:=Ael h; omega)
theorem Np.z:Np ⟨false,[],[]⟩ 0:=⟨Avl 200,by unfold sv; simp,by unfold nv; simp [Ah],by unfold dv; simp [Ah]⟩
theorem Np.add {x y:Ap} {a b:Nat} (hx:Np x a) (hy:Np y b):Lw x y=some (Ab.cR (a+b)):=by
 rw [Acv _ _ 200 200 hx.rb hy.rb (by omega) (by omega),hx.s,hx.n,hx.d,hy.s,hy.n,hy.d]
 simp [Kq,Hr,Ab.cR]
theorem Np.mul {x y:Ap} {a b:Nat} (hx:Np x a) (hy:Np y b):G0 x y=some (Ab.cR (a*b)):=by
 rw [Acu _ _ 200 200 hx.rb hy.rb (by omega) (by omega),hx.s,hx.n,hx.d,hy.s,hy.n,hy.d]
 simp [Ab.cR]
theorem Np.sign {x:Ap} {a:Nat} (hx:Np x a):Hf x=some (if a=0 then 0 else 1):=by
 rw [Acr _ 200 hx.rb (by omega),hx.s,hx.n]
 simp [Hj]
theorem Np.can {x:Ap} {a:Nat} (hx:Np x a):L1 x=some (Ab.cR a):=by
 rw [Acq _ 200 hx.rb (by omega),hx.s,hx.n,hx.d]; rfl
def Ls (n:Nat) (f:Nat->Nat):List Ap:=(List.range n).map fun k=>cR (f k)
theorem Lm (n:Nat) (f:Nat->Nat):(Ls n f).length=n:=by simp [Ls]
theorem J6 {n k:Nat} (f:Nat->Nat) (h:k<n):(Ls n f)[k]? = some (cR (f k)):=by simp [Ls,h]
theorem Vo {n:Nat} {l:List Ap} {f:Nat->Nat} (b:l.length=n) (h:∀k,k<n->l[k]? = some (cR (f k))):l=Ls n f:=by
 apply List.ext_getElem?
 intro k
 rcases Nat.lt_or_ge k n with hk | hk
 .rw [h k hk,J6 f hk]
 .rw [List.getElem?_eq_none (by omega),List.getElem?_eq_none (by rw [Lm]; omega)]
theorem Zs {α R:Type} {step:Int×List α->Option ((Int×List α)⊕List α)} {J:List α->Option R} {r:R} {i n:Nat} (o:List α) (g:Nat->α) (y:i<=n) (q:o.length=n)
  (l:∀(j:Nat) (o':List α),i<=j->j<n->o'.length=n->step ((j:Int),o')=some (.inl (((j+1:Nat):Int),o'.set j (g j))))
  (z:∀o',o'.length=n->step ((n:Int),o')=some (.inr o'))
  (A:∀o',o'.length=n->(∀k,k<i->o'[k]? = o[k]?)->(∀k,i<=k->k<n->o'[k]? = some (g k))->J o'=some r):(Al step ((i:Int),o)).bind J=some r:=by
 obtain ⟨e,B,f⟩:=Lq (step:=step) (fun s=>∃(j:Nat) (o':List α),s=((j:Int),o')/\i<=j/\j<=n/\o'.length=n/\(∀k,k<i->o'[k]? = o[k]?)/\∀k,i<=k->k<j->o'[k]? = some (g k)) (fun s=>n-s.1.toNat)
  (fun o'=>o'.length=n/\(∀k,k<i->o'[k]? = o[k]?)/\∀k,i<=k->k<n->o'[k]? = some (g k)) (by
  rintro _ ⟨j,o',rfl,c,x,h1,h2,h3⟩
  rcases Nat.lt_or_ge j n with h | h
  .refine .inl ⟨_,l j o' c h h1,⟨j+1,o'.set j (g j),rfl,by omega,by omega,by simp [h1],fun k hk=>?_,fun k b u=>?_⟩,by simp; omega⟩
   .rw [List.getElem?_set_ne (by omega)]; exact h2 k hk
   .rcases Nat.lt_or_ge k j with h' | h'
    .rw [List.getElem?_set_ne (by omega)]; exact h3 k b h'
    .have:k=j:=by omega
     subst this
     rw [List.getElem?_set_self (by omega)]
  .have:j=n:=by omega
   subst this
   exact .inr ⟨o',z o' h1,h1,h2,h3⟩) ((i:Int),o) ⟨i,o,rfl,by omega,y,q,fun _ _=>rfl,fun k h1 h2=>by omega⟩
 rw [B,Ad]
 exact A e f.1 f.2.1 f.2.2
theorem Axh (n:Nat) (b:n<=1000):Uo (n:Int)=some (Ls n fun _=>0):=by
 unfold Uo
 rw [Ia rfl rfl (Nat.le_refl _) (by omega) (by omega),Ad]
 refine Zs (i:=0) (n:=n) _ (fun _=>cR 0) (by omega) (by simp) ?_ ?_ ?_
 .intro j o' _ h2 h3
  have hx:o'[j]? = some o'[j]:=Cp (by omega)
  simp only [List.length_replicate,Am (by omega:(j:Int)<(n:Int)),cond_true,Aw0,Ad,Cj rfl hx,Dr h2 (by omega),E9 (n:=j) rfl]
 .intro o' h
  simp only [List.length_replicate,As (by omega:¬(n:Int)<(n:Int)),cond_false]
 .intro o' h1 _ h3
  rw [Vo h1 (f:=fun _=>0) fun k hk=>h3 k (by omega) hk]
theorem Al4 (n k:Nat) (b:n<1000000000) (hk:k<=64):X6 (n:Int) (k:Int)=some (cR (bc n k)):=by
 have h:Oy (n:Int) (k:Int)=some (cR (bc n k)):=by
  rw [Aja n k b hk,Zq,show Bh false (fct k*bc n k) (fct k)=Bh false (fct k*bc n k) (fct k*1) by rw [Nat.mul_one],Pe _ _ _ _ (Yz k)]
  rfl
 exact h
theorem Al5 {n k:Nat} (h:n<=40):bc n k<Big:=by
 refine Nat.lt_of_le_of_lt (Vh n k) ?_
 exact Nat.lt_of_le_of_lt (Nat.pow_le_pow_right (by decide) h) (by decide)
theorem Axi (a b:Nat) (ha:a<=16) (hb:b<=16):Re (a:Int) (b:Int)=some (Ls (a+b+1) (Rc a b)):=by
 unfold Re
 have q:Ac ((a:Int)+(b:Int))=((a+b:Nat):Int):=by rw [Ac,Bs] <;> omega
 have l:Ac (((a+b:Nat):Int)+1)=((a+b+1:Nat):Int):=by rw [Ac,Bs] <;> omega
 have e:(if (b:Int)>(a:Int) then (b:Int) else (a:Int))=((max a b:Nat):Int):=by split <;> omega
 rw [q,l,Axh _ (by omega),Ad,e]
 refine Zs (i:=max a b) (n:=a+b+1) _ (fun k=>cR (Rc a b k)) (by omega) (by simp [Lm]) ?_ ?_ ?_
 .intro j o' h1 h2 h3
  have hx:o'[j]? = some o'[j]:=Cp (by omega)
  have g:Ac ((j:Int)-(b:Int))=((j-b:Nat):Int):=by rw [Ac,Bs] <;> omega
  have s:Rc a b j=bc j a*bc a (j-b):=by unfold Rc; rw [if_pos (by omega)]
  simp only [Am (by omega:(j:Int)<=((a+b:Nat):Int)),cond_true,Al4 j a (by omega) (by omega),g,Al4 a (j-b) (by omega) (by omega),Ad,(Np.c (Al5 (by omega:j<=40))).mul (Np.c (Al5 (k:=j-b) (by omega:a<=40))),Cj rfl hx,Dr h2 (by omega),E9 (n:=j) rfl,s]
 .intro o' h
  simp only [As (by omega:¬((a+b+1:Nat):Int)<=((a+b:Nat):Int)),cond_false]
 .intro o' h1 h2 h3
  rw [Vo h1 (f:=Rc a b) fun k hk=>?_]
  rcases Nat.lt_or_ge k (max a b) with h | h
  .rw [h2 k h,J6 _ hk]
   have:Rc a b k=0:=by
    rcases (by omega:k<a\/k<b) with h | h
    .exact Aw7 h
    .unfold Rc; rw [if_neg (by omega)]
   rw [this]
  .exact h3 k h hk
end Go.Ab
namespace Go.Ab
open Go
theorem Axj {m n:Nat} {f g:Nat->Nat} {c:Nat} (E:m<=1000) (D:n<=1000) (B:∀k,k<m->f k<Big) (q:∀k,k<n->g k<Big) (hc:c<Big) :
  O6 (Ls m f) (Ls n g) (cR c)=some (Ls (max m n) fun k=>(if k<m then f k else 0)+(if k<n then g k else 0)*c):=by
 unfold O6
 rw [Lm,Lm]
 have e:(if (n:Int)>(m:Int) then (n:Int) else (m:Int))=((max m n:Nat):Int):=by split <;> omega
 rw [e,Ia rfl rfl (Nat.le_refl _) (by omega) (by omega),Ad]
 refine Zs (i:=0) (n:=max m n) _ (fun k=>cR ((if k<m then f k else 0)+(if k<n then g k else 0)*c)) (by omega) (by simp) ?_ ?_ ?_
 .intro j o' _ h2 h3
  have hx:o'[j]? = some o'[j]:=Cp (by omega)
  obtain ⟨x,A,u⟩:∃x:Ap,(bif decide ((j:Int)<(m:Int)) then ((Ag (Ls m f) (j:Int)).bind fun b=>some (b.Neg,b.Num,b.Den)) else some (false,[],[]))=some (x.Neg,x.Num,x.Den)/\Np x (if j<m then f j else 0):=by
   by_cases h:j<m
   .rw [Am (by omega),cond_true,Cj rfl (J6 f h),if_pos h]
    exact ⟨_,rfl,Np.c (B j h)⟩
   .rw [As (by omega),cond_false,if_neg h]
    exact ⟨⟨false,[],[]⟩,rfl,Np.z⟩
  obtain ⟨y,s,l⟩:∃x:Ap,(bif decide ((j:Int)<(n:Int)) then ((Ag (Ls n g) (j:Int)).bind fun b=>some (b.Neg,b.Num,b.Den)) else some (false,[],[]))=some (x.Neg,x.Num,x.Den)/\Np x (if j<n then g j else 0)/\(if j<n then g j else 0)<Big:=by
   by_cases h:j<n
   .rw [Am (by omega),cond_true,Cj rfl (J6 g h),if_pos h]
    exact ⟨_,rfl,Np.c (q j h),q j h⟩
   .rw [As (by omega),cond_false,if_neg h]
    exact ⟨⟨false,[],[]⟩,rfl,Np.z,by decide⟩
  have hq:A9 ((if j<n then g j else 0)*c)<=200:=by
   have:=Hi (if j<n then g j else 0) c
   have:=Ael l.2
   have:=Ael hc
   omega
  have hb:Uj x y (cR c)=some (cR ((if j<m then f j else 0)+(if j<n then g j else 0)*c)):=by
   unfold Uj
   rw [(Np.c hc).mul l.1,Ad,Nat.mul_comm c,u.add (Np.cR hq)]; rfl
  simp only [List.length_replicate,Am (by omega:(j:Int)<((max m n:Nat):Int)),cond_true]
  erw [A,Ad,s,Ad]
  dsimp only
  rw [hb,Ad,Cj rfl hx,Ad,Dr h2 (by omega),E9 (n:=j) rfl]
 .intro o' h
  simp only [List.length_replicate,As (by omega:¬((max m n:Nat):Int)<((max m n:Nat):Int)),cond_false]
 .intro o' h1 _ h3
  rw [Vo h1 (f:=fun k=>(if k<m then f k else 0)+(if k<n then g k else 0)*c) fun k hk=>h3 k (by omega) hk]
theorem Aem {p:List Ap} {n:Nat} {f:Nat->Nat} (u:n<1000) (s:p.length=n+1) (hp:∀k,k<n+1->∃x,p[k]? = some x/\Np x (f k)) (b:f n≠0):Lc p=some (Ls (n+1) f):=by
 unfold Lc
 obtain ⟨x,q,l⟩:=hp n (by omega)
 have w:Ac (((n+1:Nat):Int)-1)=(n:Int):=by rw [Ac,Bs] <;> omega
 refine bnd (a:=((n+1:Nat):Int)) (Em ?_) ?_
 .rw [s]
  simp only [Am (by omega:((n+1:Nat):Int)>0),cond_true,w,Cj rfl q,Ad,l.sign,if_neg b]
  rfl
 .rw [Ia rfl rfl (Nat.le_refl _) (by omega) (by omega),Ad]
  refine Zs (i:=0) (n:=n+1) _ (fun k=>cR (f k)) (by omega) (by simp) ?_ ?_ ?_
  .intro j o' _ h2 h3
   have hx:o'[j]? = some o'[j]:=Cp (by omega)
   obtain ⟨y,g,c⟩:=hp j h2
   simp only [List.length_replicate,Am (by omega:(j:Int)<((n+1:Nat):Int)),cond_true,Cj rfl g,c.can,Ad,Cj rfl hx,Dr h2 (by omega),E9 (n:=j) rfl]
  .intro o' h
   simp only [List.length_replicate,As (by omega:¬((n+1:Nat):Int)<((n+1:Nat):Int)),cond_false]
  .intro o' h1 _ h3
   rw [Vo h1 (f:=f) fun k hk=>h3 k (by omega) hk]
def Fk (n d:Nat) (f:Nat->Nat) (k:Nat):Nat:=sm n fun a=>f a*Rc a d k
theorem Al6 (a d:Nat):0<Rc a d (a+d):=by
 unfold Rc
 rw [if_pos (by omega),show a+d-d=a by omega,Pt]
 have:0<bc (a+d) a:=by
  have h:∀d,0<bc (a+d) a:=by
   intro d
   induction d with
   | zero=>rw [Nat.add_zero,Pt]; decide
   | succ d ih=>
    cases a with
    | zero=>rw [Jo]; decide
    | succ a=>rw [show a+1+(d+1)=(a+1+d)+1 by omega,Sd]; omega
  exact h d
 omega
theorem Axk {n d:Nat} {f:Nat->Nat} {p q:List Ap} (a1:n+d<=12) (hp:p=Ls (n+1) f) (i:f n≠0) (hq:q.length=d+1) (R:∀k,k<d+1->∃x,q[k]? = some x/\Np x (if k=d then 1 else 0))
  (U:∀k,k<n+1->f k<Big) (Y:∀a k,a<=n+1->Fk a d f k<Big):Uf p q=some (Ls (n+d+1) (Fk (n+1) d f),true):=by
 unfold Uf
 have l:p.length=n+1:=by rw [hp,Lm]
 rw [l,hq,As (by omega),As (by omega)]
 simp only [cond_false,Ad]
 have c1:Lc p=some (Ls (n+1) f):=Aem (by omega) l (fun k hk=>⟨_,by rw [hp]; exact J6 f hk,Np.c (U k hk)⟩) i
 have c2:Lc q=some (Ls (d+1) fun k=>if k=d then 1 else 0):=Aem (by omega) hq R (by simp)
 have w:Ac (((n+1:Nat):Int)+((d+1:Nat):Int))=((n+d+2:Nat):Int):=by rw [Ac,Bs] <;> omega
 rw [c1,Ad,c2,Ad,Lm,Lm,C6 (by omega),C6 (by omega)]
 simp only [cond_false,Ad]
 rw [w,As (by omega),cond_false]
 obtain ⟨r,r1,Z⟩:=E8 (J:=fun B=>(Lc B).bind fun A=>some (A,true)) (Q:=fun r=>r=(Ls (n+d+1) (Fk (n+1) d f),true)) (step:=fun (x:List Ap×Int)=>match x with
  | (v25,v26)=>
   bif (decide (v26<((n+1:Nat):Int))) then (
   (Ag (Ls (n+1) f) v26).bind fun M=>
   (Al (S:=((List Ap)×Int)) (E:=((List Ap)×Int)) (fun (g,v37)=>
   bif (decide (v37<((d+1:Nat):Int))) then (
   (Ag (Ls (d+1) fun k=>if k=d then 1 else 0) v37).bind fun I=>
   (G0 M I).bind fun v40=>
   (Hf v40).bind fun G=>
   bif (G==(0:Int)) then (
   some (.inl (g,(Ac (v37+1))))
   )
   else (
   (Re v26 v37).bind fun D=>
   (O6 g D v40).bind fun v44=>
   some (.inl (v44,(Ac (v37+1))))
   )
   )
   else (
   some (.inr (g,v37))
   )
    ) (v25,0)).bind fun (v45,v46)=>
   some (.inl (v45,(Ac (v26+1))))
   )
   else (
   some (.inr v25)
   )) (s:=([],0))
  (fun s=>∃(a L:Nat) (h:Nat->Nat),s=(Ls L h,(a:Int))/\a<=n+1/\L<=a+d/\(∀k,(if k<L then h k else 0)=Fk a d f k)/\(a=n+1->L=n+d+1)) (fun s=>n+1-s.2.toNat)
  (fun e=>e=Ls (n+d+1) (Fk (n+1) d f)) ⟨0,0,fun _=>0,rfl,by omega,by omega,fun k=>by simp [Fk,sm],by omega⟩ (by
  rintro _ ⟨a,L,h,rfl,ha,hL,z,y⟩
  rcases Nat.lt_or_ge a (n+1) with h1 | h1
  .left
   have N:Np (cR 0) 0:=Np.c (by decide)
   have b:∀k,Fk (a+1) d f k=Fk a d f k+f a*Rc a d k:=fun k=>rfl
   have hh:∀k,k<L->h k<Big:=fun k hk=>by
    have:=z k
    rw [if_pos hk] at this
    rw [this]; exact Y a k (by omega)
   by_cases h0:f a=0
   .refine ⟨(Ls L h,((a+1:Nat):Int)),?_,⟨a+1,L,h,rfl,by omega,by omega,fun k=>by rw [b,h0,z]; simp,fun e=>?_⟩,by simp; omega⟩
    .simp only [Am (by omega:(a:Int)<((n+1:Nat):Int)),cond_true,Cj rfl (J6 f h1),Ad,h0]
     refine G5 (d+1) (fun j=>(Ls L h,(j:Int))) rfl ?_ ⟨(Ls L h,((d+1:Nat):Int)),?_,?_⟩
     .intro j hj
      have hy:Np (cR (if j=d then 1 else 0)) (if j=d then 1 else 0):=Np.c (by split <;> decide)
      simp only [Am (by omega:(j:Int)<((d+1:Nat):Int)),cond_true,Cj rfl (J6 _ hj),Ad,N.mul hy,Nat.zero_mul,N.sign,if_true,Dr hj (by omega)]
      rfl
     .simp only [As (by omega:¬((d+1:Nat):Int)<((d+1:Nat):Int)),cond_false]
     .rw [Dr h1 (by omega)]
    .have:a=n:=by omega
     subst this; exact (i h0).elim
   .have u:=Np.c (U a h1)
    have V:O6 (Ls L h) (Ls (a+d+1) (Rc a d)) (cR (f a))=some (Ls (a+d+1) fun k=>(if k<L then h k else 0)+(if k<a+d+1 then Rc a d k else 0)*f a):=by
     rw [Axj (by omega) (by omega) hh (fun k hk=>?_) (U a h1),show max L (a+d+1)=a+d+1 by omega]
     unfold Rc
     split
     .refine Nat.lt_of_le_of_lt (Nat.mul_le_mul (Vh k a) (Vh a (k-d))) ?_
      rw [<-Nat.pow_add]
      exact Nat.lt_of_le_of_lt (Nat.pow_le_pow_right (by decide) (by omega:k+a<=40)) (by decide)
     .decide
    refine ⟨(Ls (a+d+1) fun k=>(if k<L then h k else 0)+(if k<a+d+1 then Rc a d k else 0)*f a,((a+1:Nat):Int)),?_,⟨a+1,a+d+1,_,rfl,by omega,by omega,fun k=>?_,fun e=>by omega⟩,by simp; omega⟩
    .simp only [Am (by omega:(a:Int)<((n+1:Nat):Int)),cond_true,Cj rfl (J6 f h1),Ad]
     refine G5 (d+1) (fun j=>if j<=d then (Ls L h,(j:Int)) else (Ls (a+d+1) fun k=>(if k<L then h k else 0)+(if k<a+d+1 then Rc a d k else 0)*f a,(j:Int))) (by simp) ?_ ⟨((Ls (a+d+1) fun k=>(if k<L then h k else 0)+(if k<a+d+1 then Rc a d k else 0)*f a),((d+1:Nat):Int)),?_,?_⟩
     .intro j hj
      have hy:Np (cR (if j=d then 1 else 0)) (if j=d then 1 else 0):=Np.c (by split <;> decide)
      rw [if_pos (by omega)]
      simp only [Am (by omega:(j:Int)<((d+1:Nat):Int)),cond_true,Cj rfl (J6 _ hj),Ad,u.mul hy,Dr hj (by omega)]
      rcases Nat.lt_or_ge j d with h2 | h2
      .rw [if_neg (by omega:¬j=d),Nat.mul_zero,N.sign,Ad,if_pos (by omega:j+1<=d)]
       rfl
      .have:j=d:=by omega
       subst this
       rw [if_pos rfl,Nat.mul_one,u.sign,Ad,if_neg h0,Axi a j (by omega) (by omega),Ad,V,if_neg (by omega)]
       rfl
     .rw [if_neg (by omega)]
      simp only [As (by omega:¬((d+1:Nat):Int)<((d+1:Nat):Int)),cond_false]
     .rw [Dr h1 (by omega)]
    .rw [b,<-z]
     by_cases hk:k<a+d+1
     .rw [if_pos hk,if_pos hk,Nat.mul_comm (Rc a d k)]
     .rw [if_neg hk,if_neg (by omega),Aly (by omega)]; simp
  .have:a=n+1:=by omega
   subst this
   right
   have X:=y rfl
   refine ⟨Ls L h,?_,?_⟩
   .simp only [As (by omega:¬((n+1:Nat):Int)<((n+1:Nat):Int)),cond_false]
   .subst X
    refine Vo (Lm _ _) fun k hk=>?_
    have:=z k
    rw [if_pos hk] at this
    rw [J6 _ hk,this]) (by
  rintro _ rfl
  refine ⟨_,bnd (Aem (n:=n+d) (f:=Fk (n+1) d f) (by omega) (Lm _ _) (fun k hk=>⟨_,J6 _ hk,Np.c (Y _ _ (by omega))⟩) ?_) rfl,rfl⟩
  have e:Fk (n+1) d f (n+d)=Fk n d f (n+d)+f n*Rc n d (n+d):=rfl
  have:=Nat.mul_pos (Nat.pos_of_ne_zero i) (Al6 n d)
  omega)
 rw [<-Z]
 exact r1
end Go.Ab
namespace Go.Ab
open Go
theorem Axl (d x N:Nat) (f:Nat->Nat):∀M,(∀a,a<M->a+d<N)->sm N (fun k=>Fk M d f k*bc x k)=sm M (fun a=>f a*bc x a)*bc x d:=by
 intro M
 induction M with
 | zero=>intro _; rw [Vl (fun k _=>by simp [Fk,sm])]; simp [sm]
 | succ M ih=>
  intro h
  have e:∀k,Fk (M+1) d f k*bc x k=Fk M d f k*bc x k+f M*(Rc M d k*bc x k):=fun k=>by
   show (Fk M d f k+f M*Rc M d k)*bc x k=_
   rw [Nat.add_mul,Nat.mul_assoc]
  rw [Vj (fun k _=>e k),Vk,ih (fun a ha=>h a (by omega)),Alw,Vm x M d N (h M (by omega))]
  show _=(sm M (fun a=>f a*bc x a)+f M*bc x M)*bc x d
  rw [Nat.add_mul,Nat.mul_assoc (f M)]
theorem Axm (d:Nat) (f:Nat->Nat) (k:Nat):∀{m n:Nat},m<=n->Fk m d f k<=Fk n d f k:=by
 intro m n h
 induction n with
 | zero=>
  have:m=0:=by omega
  subst this; exact Nat.le_refl _
 | succ n ih=>
  rcases Nat.lt_or_ge m (n+1) with h' | h'
  .have:=ih (by omega)
   have e:Fk (n+1) d f k=Fk n d f k+f n*Rc n d k:=rfl
   omega
  .have:m=n+1:=by omega
   subst this; exact Nat.le_refl _
def prb (x:Nat):List A6->Nat
 | []=>1
 | a::l=>bc x a.Deg.toNat*prb x l
def Co:List A6->Nat
 | []=>0
 | a::l=>a.Deg.toNat+Co l
theorem Al7 (x:Nat) (l m:List A6):prb x (l++m)=prb x l*prb x m:=by
 induction l with
 | nil=>simp [prb]
 | cons a l ih=>simp only [List.cons_append,prb,ih,Nat.mul_assoc]
theorem Mk (l m:List A6):Co (l++m)=Co l+Co m:=by
 induction l with
 | nil=>simp [Co]
 | cons a l ih=>simp only [List.cons_append,Co,ih,Nat.add_assoc]
theorem Al8 (x:Nat) {l m:List A6} (h:l.Perm m):prb x l=prb x m:=by
 induction h with
 | nil=>rfl
 | cons a _ ih=>simp only [prb,ih]
 | swap a b l=>simp only [prb]; rw [<-Nat.mul_assoc,<-Nat.mul_assoc,Nat.mul_comm (bc x b.Deg.toNat)]
 | trans _ _ h1 h2=>exact h1.trans h2
theorem Vp {l m:List A6} (h:l.Perm m):Co l=Co m:=by
 induction h with
 | nil=>rfl
 | cons a _ ih=>simp only [Co,ih]
 | swap a b l=>simp only [Co]; omega
 | trans _ _ h1 h2=>exact h1.trans h2
theorem Axn (x d:Nat):bc x d<=(x+1) ^ d:=Nat.le_trans (Aef x d) (Nat.pow_le_pow_left (by omega) d)
theorem Al9 (x:Nat):∀l:List A6,prb x l<=(x+1) ^ Co l
 | []=>by simp [prb,Co]
 | a::l=>by
  simp only [prb,Co,Nat.pow_add]
  exact Nat.mul_le_mul (Axn x _) (Al9 x l)
theorem Sf {x:Nat} {l:List A6} (hx:x<=1048576) (hd:Co l<=12):prb x l<Big:=by
 refine Nat.lt_of_le_of_lt (Al9 x l) ?_
 refine Nat.lt_of_le_of_lt (Nat.pow_le_pow_left (by omega:x+1<=1048577) _) ?_
 exact Nat.lt_of_le_of_lt (Nat.pow_le_pow_right (by decide) hd) (by decide)
def PwN (l:List A6) (N:Nat) (f:Nat->Nat):Prop:=N=Co l/\f N≠0/\∀x,sm (N+1) (fun k=>f k*bc x k)=prb x l
theorem PwN.le {l:List A6} {N:Nat} {f:Nat->Nat} (h:PwN l N f) {k:Nat} (hk:k<N+1):f k<=prb k l:=by
 have h1:=h.2.2 k
 have h2:f k*bc k k<=sm (N+1) (fun j=>f j*bc k j):=by
  have:∀n,k<n->f k*bc k k<=sm n (fun j=>f j*bc k j):=by
   intro n
   induction n with
   | zero=>intro h; omega
   | succ n ih=>
    intro h
    show _<=sm n _+f n*bc k n
    rcases Nat.lt_or_ge k n with h' | h'
    .have:=ih h'; omega
    .have:k=n:=by omega
     subst this; omega
  exact this _ hk
 rw [Pt,Nat.mul_one] at h2
 omega
theorem PwN.uniq {l m:List A6} {N M:Nat} {f g:Nat->Nat} (h:PwN l N f) (h':PwN m M g) (hp:l.Perm m):N=M/\∀k,k<N+1->f k=g k:=by
 have e:N=M:=by rw [h.1,h'.1,Vp hp]
 subst e
 exact ⟨rfl,Al1 fun n _=>by rw [h.2.2 n,h'.2.2 n,Al8 n hp]⟩
theorem PwN.step {l:List A6} {N:Nat} {f:Nat->Nat} (h:PwN l N f) (a:A6):PwN (l++[a]) (N+a.Deg.toNat) (Fk (N+1) a.Deg.toNat f):=by
 refine ⟨by rw [Mk,h.1]; simp [Co],?_,fun x=>?_⟩
 .have e:Fk (N+1) a.Deg.toNat f (N+a.Deg.toNat)=Fk N a.Deg.toNat f (N+a.Deg.toNat)+f N*Rc N a.Deg.toNat (N+a.Deg.toNat):=rfl
  have:=Nat.mul_pos (Nat.pos_of_ne_zero h.2.1) (Al6 N a.Deg.toNat)
  omega
 .rw [Axl _ x _ f (N+1) (fun b ha=>by omega),h.2.2 x,Al7]
  simp [prb]
theorem Axo (l:List A6) (x:l≠[]) (ht:∀a∈l,a.Lin.Terms.length≠0) (hd:∀a∈l,0<=a.Deg) (M:Co l<=12) (R:l.length<=1000) :
  ∃N f,Kl l=some (Ls (N+1) f)/\PwN l N f:=by
 have h0:X9 l=false:=by
  cases l with
  | nil=>exact (x rfl).elim
  | cons a L=>
   have:=ht a (by simp)
   show (a.Lin.Terms.length==0)=false
   simpa using this
 have h1:∃N f,X8 l=some (Ls (N+1) f)/\PwN l N f:=by
  unfold X8
  rw [Vi,Ad]
  suffices h:∃r,_/\∃N f,r=Ls (N+1) f/\PwN l N f by
   obtain ⟨r,E,N,f,D,B⟩:=h
   exact ⟨N,f,by rw [<-D]; exact E,B⟩
  refine E8 (fun s=>∃(i N:Nat) (f:Nat->Nat),s=(Ls (N+1) f,(i:Int))/\i<=l.length/\PwN (l.take i) N f) (fun s=>l.length-s.2.toNat) (fun e=>∃N f,e=Ls (N+1) f/\PwN l N f)
   ⟨0,0,fun _=>1,rfl,by omega,by simp [PwN,Co,prb,sm,Jo]⟩ ?_ ?_
  .rintro _ ⟨i,N,f,rfl,S,g⟩
   rcases Nat.lt_or_ge i l.length with h | h
   .left
    have hx:l[i]? = some l[i]:=Cp h
    have b:=List.getElem_mem h
    generalize l[i]=a at hx b
    have U:=ht a b
    have J:=hd a b
    have A:Co l=Co (l.take i)+(a.Deg.toNat+Co (l.drop (i+1))):=by
     have:=Mk (l.take i) (l.drop i)
     rw [List.take_append_drop] at this
     rw [this,I3 hx]; rfl
    have V:=g.1
    have w:Ac (a.Deg+1)=((a.Deg.toNat+1:Nat):Int):=by rw [Ac,Bs] <;> omega
    have G:Ag (List.replicate (a.Deg.toNat+1) (⟨false,[],[]⟩:Ap)) a.Deg=some ⟨false,[],[]⟩:=Cj (n:=a.Deg.toNat) (by omega) (by simp)
    have u:=g.step a
    have hb:∀y k,y<=N+1->Fk y a.Deg.toNat f k<Big:=by
     intro y k ha'
     refine Nat.lt_of_le_of_lt (Axm _ f k ha') ?_
     rcases Nat.lt_or_ge k (N+a.Deg.toNat+1) with hk | hk
     .refine Nat.lt_of_le_of_lt (u.le hk) (Sf (by omega) ?_)
      rw [Mk]; simp only [Co]; omega
     .have:Fk (N+1) a.Deg.toNat f k=0:=Vl fun j hj=>by rw [Aly (by omega)]; rfl
      rw [this]; decide
    have I:=Axk (n:=N) (d:=a.Deg.toNat) (f:=f) (p:=Ls (N+1) f) (q:=Cg (List.replicate (a.Deg.toNat+1) ⟨false,[],[]⟩) a.Deg (cR 1)) (by omega) rfl g.2.1 (by rw [E9 (n:=a.Deg.toNat) (by omega)]; simp) (fun k hk=>by
     rw [E9 (n:=a.Deg.toNat) (by omega)]
     by_cases e:k=a.Deg.toNat
     .subst e
      rw [if_pos rfl]
      exact ⟨_,List.getElem?_set_self (by simp),Np.c (by decide)⟩
     .rw [if_neg e,List.getElem?_set_ne (by omega)]
      exact ⟨⟨false,[],[]⟩,by simp [hk],Np.z⟩) (fun k hk=>Nat.lt_of_le_of_lt (g.le hk) (Sf (by omega) (by omega))) hb
    refine ⟨(Ls (N+a.Deg.toNat+1) (Fk (N+1) a.Deg.toNat f),((i+1:Nat):Int)),?_,⟨i+1,_,_,rfl,by omega,by rw [Dy hx]; exact u⟩,by simp; omega⟩
    simp only [Am (by omega:(i:Int)<(l.length:Int)),cond_true,Cj rfl hx,Ad,C6 (by omega:¬(a.Lin.Terms.length:Int)=0),cond_false,w,Ia rfl rfl (Nat.le_refl _) (by omega:56*(a.Deg.toNat+1)<=281474976710656) (by omega),Vi,G,I,Dr h (by omega)]
   .have:i=l.length:=by omega
    subst this
    rw [List.take_length] at g
    right
    exact ⟨_,by simp only [As (by omega:¬(l.length:Int)<(l.length:Int)),cond_false],_,_,rfl,g⟩
  .rintro _ ⟨N,f,rfl,h⟩
   exact ⟨_,rfl,N,f,rfl,h⟩
 obtain ⟨N,f,h2,h3⟩:=h1
 refine ⟨N,f,?_,h3⟩
 unfold Kl
 rw [h0,cond_false]
 exact h2
theorem Axp {c:Int} {d:Int} (hc:c<=1048576) (hd:0<=d) (b:d<=64):Rn c d=some (cR (bc c.toNat d.toNat),true):=by
 have h:=Aw2 c.toNat d.toNat (by omega) (by omega)
 have e:((d.toNat:Nat):Int)=d:=by omega
 rw [e] at h
 rw [<-h]
 unfold Rn
 have f:(if c>(0:Int) then c else 0)=(if ((c.toNat:Nat):Int)>(0:Int) then ((c.toNat:Nat):Int) else 0):=by split <;> split <;> omega
 rw [f]
theorem Axq (l:List A6) {c:Int} (hc:c<=1048576) (ht:∀a∈l,a.Lin.Terms.length=0/\a.Lin.Const=c) (hd:∀a∈l,0<=a.Deg) (G:Co l<=12) (I:l.length<=1000) :
  Kl l=some [cR (prb c.toNat l)]:=by
 have h1:X7 l=some [cR (prb c.toNat l)]:=by
  unfold X7
  rw [Vi,Ad]
  obtain ⟨r,B,A⟩:∃r,_/\r = [cR (prb c.toNat l)]:=E8 (fun s=>∃i:Nat,s=((i:Int),[cR (prb c.toNat (l.take i))])/\i<=l.length) (fun s=>l.length-s.1.toNat) (fun e=>e = [cR (prb c.toNat l)]) (J:=fun o=>some o)
   (step:=fun (x:Int×List Ap)=>match x with
    | (g,f)=>
     bif (decide (g<(l.length:Int))) then (
     (Ag l g).bind fun b=>
     bif ((b.Lin.Terms.length:Int)==(0:Int)) then (
     (Rn b.Lin.Const b.Deg).bind fun k=>
     (Ag f 0).bind fun v20=>
     (G0 v20 k.1).bind fun v21=>
     (Ag f 0).bind fun v22=>
     some (.inl ((Ac (g+1)),(Cg f 0 v21)))
     )
     else (
     (Eh 56 (Ac (b.Deg+1)) (Ac (b.Deg+1)) ((Ap.mk false [] []):Ap)).bind fun q=>
     (Fy 1).bind fun v25=>
     (Ag q b.Deg).bind fun v26=>
     none
     )
     )
     else (
     some (.inr f)
     )) (s:=(0,[cR 1]))
   ⟨0,rfl,by omega⟩ (by
   rintro _ ⟨i,rfl,L⟩
   rcases Nat.lt_or_ge i l.length with h | h
   .left
    have hx:l[i]? = some l[i]:=Cp h
    have j:=List.getElem_mem h
    generalize l[i]=a at hx j
    obtain ⟨M,D⟩:=ht a j
    have y:=hd a j
    have e:Co l=Co (l.take i)+(a.Deg.toNat+Co (l.drop (i+1))):=by
     have:=Mk (l.take i) (l.drop i)
     rw [List.take_append_drop] at this
     rw [this,I3 hx]; rfl
    have hb:prb c.toNat (l.take i)<Big:=Sf (by omega) (by omega)
    have z:bc c.toNat a.Deg.toNat<Big:=by
     have:=Sf (x:=c.toNat) (l:=[a]) (by omega) (by simp only [Co]; omega)
     simpa [prb] using this
    have u:Ag [cR (prb c.toNat (l.take i))] 0=some (cR (prb c.toNat (l.take i))):=rfl
    refine ⟨_,?_,⟨i+1,rfl,by omega⟩,by simp; omega⟩
    simp only [Am (by omega:(i:Int)<(l.length:Int)),cond_true,Cj rfl hx,Ad,Fa (by omega:(a.Lin.Terms.length:Int)=0),D,Axp hc y (by omega:a.Deg<=64),u,(Np.c hb).mul (Np.c z),Dr h (by omega)]
    rw [Dy hx,Al7]
    simp [prb,Cg]
   .have:i=l.length:=by omega
    subst this
    right
    exact ⟨[cR (prb c.toNat (List.take l.length l))],by simp only [As (by omega:¬(l.length:Int)<(l.length:Int)),cond_false],by rw [List.take_length]⟩) (by
   rintro _ rfl
   exact ⟨_,rfl,rfl⟩)
  rw [<-A]
  exact B
 have h0:X9 l=true:=by
  cases l with
  | nil=>rfl
  | cons a E=>
   have:=(ht a (by simp)).1
   show (a.Lin.Terms.length==0)=true
   simpa using this
 unfold Kl
 rw [h0,cond_true,h1]
end Go.Ab
namespace Go.Ab
open Go
noncomputable def Zt {α:Type} (cmp:α->α->Option Int) (a0:Int) (g:List α):Option (List α) :=
 (Al (S:=(Int×Int×(List α))) (E:=(Int×Int×(List α))) (fun (v3,v4,i)=>
 bif (decide (v4<=a0)) then (
 (Vn cmp v3 v4 i).bind fun h=>
 (Fg g.length h).bind fun l=>
 some (.inl (v4,(Ac (v4+20)),h))
 )
 else (
 some (.inr (v3,v4,i))
 )
  ) (0,20,g)).bind fun (v8,v9,f)=>
 (Vn cmp v8 a0 f).bind fun c=>
 (Fg g.length c).bind fun v12=>
 (Al (S:=(Int×Int×Int)) (E:=Unit) (fun (b,k,j)=>
 bif (decide (b<a0)) then (
 (Al (S:=Unit) (E:=Unit) (fun _=>
 bif (decide ((Ac (2*b))<=a0)) then (
 none
 )
 else (
 some (.inr ())
 )
  ) ()).bind fun _=>
 bif (decide ((Ac (0+b))<a0)) then (
 none
 )
 else (
 some (.inl ((Ac (b*2)),0,(Ac (2*b))))
 )
 )
 else (
 some (.inr ())
 )
  ) (20,v8,v9)).bind fun _=>
 some c
theorem Ama {α:Type} {cmp:α->α->Option Int} {c:α->α->Int} (L:Mx c) (f:List α) (g:∀x∈f,∀y∈f,cmp x y=some (c x y)) (h:f.length<20) :
  ∃R,Zt cmp (f.length:Int) f=some R/\R.Perm f/\R.Pairwise (fun a b=>¬c b a<0):=by
 obtain ⟨R,h1,h2,h3⟩:=Al2 L f g (by omega)
 refine ⟨R,?_,h2,h3⟩
 unfold Zt
 refine bnd (a:=(0,20,f)) (Em ?_) ?_
 .simp only [As (by omega:¬(20:Int)<=(f.length:Int)),cond_false]
 .dsimp only
  rw [h1,Ad,Mj h2.length_eq.symm,Ad]
  refine bnd (a:=()) (Em ?_) rfl
  simp only [As (by omega:¬(20:Int)<(f.length:Int)),cond_false]
theorem Vq:Mx Fc where
 irr x:=by rw [(Hm.zero x x trivial trivial).2 rfl]; omega
 trs x y z h1 h2:=Hm.trans x y z trivial trivial trivial h1 h2
 ntr x y z h1 h2 h3:=by
  rcases Int.lt_trichotomy (Fc x y) 0 with k | k | k
  .exact h1 k
  .have:=(Hm.zero x y trivial trivial).1 k
   subst this; exact h2 h3
  .have b:Fc y x<0:=by rw [Hm.anti x y trivial trivial]; omega
   exact h2 (Hm.trans y x z trivial trivial trivial b h3)
theorem Axr:Mx (fun a b:A6=>Fc a.Lin b.Lin):=⟨fun _=>Vq.irr _,fun _ _ _=>Vq.trs _ _ _,fun _ _ _=>Vq.ntr _ _ _⟩
def Zu (l:List A6):Prop:=l.Pairwise fun a b=>¬Fc b.Lin a.Lin<0
theorem Axs (b:List A6) (ht:∀a∈b,a.Lin.Terms.length<1099511627776) (c:b.length<20):∃R,Q7 b=some R/\R.Perm b/\Zu R:=by
 obtain ⟨R,h1,h2,h3⟩:=Ama (cmp:=Q8) Axr b (fun x hx y _=>by
  unfold Q8
  rw [Zc x.Lin y.Lin (ht x hx)]; rfl) c
 refine ⟨R,?_,h2,h3⟩
 unfold Q7
 have e:Xv (b.length:Int) b=Zt Q8 (b.length:Int) b:=rfl
 rw [e,h1,Ad,Mj h2.length_eq.symm]; rfl
theorem Axt:Q5 []=some []:=by
 obtain ⟨R,h1,h2,h3⟩:=Ama (cmp:=Ud) (c:=fun _ _=>0) ⟨fun _=>by omega,fun _ _ _ h=>by omega,fun _ _ _ _ _=>by omega⟩ ([]:List B8) (fun x hx=>by cases hx) (by simp)
 have b:R = []:=List.Perm.eq_nil h2
 subst b
 unfold Q5
 have e:Xu ((([]:List B8).length:Nat):Int) []=Zt Ud ((([]:List B8).length:Nat):Int) []:=rfl
 rw [e,h1]; rfl
theorem Aen {α:Type} (n:Nat) (h:n<=1000000):K5 (α:=α) (n:Int)=some []:=by
 unfold K5
 rw [Am (by omega),Am (by omega)]; rfl
theorem Axu (a b:List A6) (h:a.length+b.length<=1000000):Xq [a,b]=some (a++b) :=
 Aek (B:=40) (by decide) (gr:=Xx) (fun n h=>Aen n h) a b h
theorem Axv (a b:List B8) (h:a.length+b.length<=1000000):Xp [a,b]=some (a++b) :=
 Aek (B:=40) (by decide) (gr:=Xw) (fun n h=>Aen n h) a b h
theorem Amb (m n:Bd) (h1:m.Factors.length+n.Factors.length<=1000000) (h2:m.Atoms.length+n.Atoms.length<=1000000):M5 m n=some ⟨m.Factors++n.Factors,m.Atoms++n.Atoms⟩:=by
 unfold M5
 rw [Axv _ _ h1,Ad,Axu _ _ h2]; rfl
def atO (l:Bf) (k:Nat):List A6:=if k=0 then [] else [⟨l,k⟩]
theorem Axw (l:Bf) (k:Nat):O1 l (k:Int)=some (atO l k):=by
 unfold O1 atO
 by_cases h:k=0
 .rw [Fa (by omega),if_pos h]; rfl
 .rw [C6 (by omega),if_neg h]; rfl
theorem Amc (l:Bf) (k:Nat):(atO l k).length<=1:=by unfold atO; split <;> simp
theorem Axx {t:Aj} {x:Ap} {K:Nat} {A B:List A6} (b:t.Mono=⟨[],A⟩) (f:A.length+B.length<=1000000) (j:K<30000000000) (h1:RB K t.Coef) (h2:RB 200 x) :
  ∃u,O0 t x ⟨[],B⟩=some u/\u.Mono=⟨[],A++B⟩/\rq u.Coef=rq t.Coef*rq x/\RB (K+202) u.Coef:=by
 obtain ⟨c,i,h,_,g⟩:=Adq h1 h2 (by omega) (by omega)
 refine ⟨⟨c,⟨[],A++B⟩⟩,?_,rfl,g,h⟩
 unfold O0
 rw [i,Ad,b,Amb _ _ (by simp) f]; rfl
abbrev Ent:=List A6×Nat
inductive Rep (c:Rat) (K:Nat):List Aj->List Ent->Prop
 | nil:Rep c K [] []
 | cons {t:Aj} {b:Ent} {ts:List Aj} {bs:List Ent}:t.Mono=⟨[],b.1⟩->rq t.Coef=c*(b.2:Rat)->RB K t.Coef->Rep c K ts bs->Rep c K (t::ts) (b::bs)
theorem Rep.len {c:Rat} {K:Nat} {ts:List Aj} {bs:List Ent} (h:Rep c K ts bs):ts.length=bs.length:=by
 induction h with
 | nil=>rfl
 | cons _ _ _ _ ih=>simp [ih]
theorem Rep.app {c:Rat} {K:Nat} {ts f:List Aj} {bs cs:List Ent} (h:Rep c K ts bs) (h':Rep c K f cs):Rep c K (ts++f) (bs++cs):=by
 induction h with
 | nil=>exact h'
 | cons a b d _ ih=>exact .cons a b d ih
theorem Rep.mono {c:Rat} {K f:Nat} {ts:List Aj} {bs:List Ent} (h:Rep c K ts bs) (hk:K<=f):Rep c f ts bs:=by
 induction h with
 | nil=>exact .nil
 | cons a b d _ ih=>exact .cons a b (d.mono hk) ih
theorem Rep.get {c:Rat} {K:Nat} {ts:List Aj} {bs:List Ent} (h:Rep c K ts bs):∀{j:Nat} {t:Aj},ts[j]? = some t->∃b,bs[j]? = some b/\t.Mono=⟨[],b.1⟩/\rq t.Coef=c*(b.2:Rat)/\RB K t.Coef:=by
 induction h with
 | nil=>intro j t h; simp at h
 | @cons t b ts bs a1 a2 a3 _ ih=>
  intro j u hj
  cases j with
  | zero=>
   simp only [List.getElem?_cons_zero,Option.some.injEq] at hj
   subst hj
   exact ⟨b,rfl,a1,a2,a3⟩
  | succ j=>
   simp only [List.getElem?_cons_succ] at hj
   simpa using ih hj
def F1 (B:List Ent) (l:Bf) (f:Nat->Nat) (n:Nat):List Ent:=(List.range n).flatMap fun k=>if f k=0 then [] else B.map fun b=>(b.1++atO l k,b.2*f k)
theorem Sg (B:List Ent) (l:Bf) (f:Nat->Nat) (n:Nat):F1 B l f (n+1)=F1 B l f n++(if f n=0 then [] else B.map fun b=>(b.1++atO l n,b.2*f n)):=by
 unfold F1
 rw [List.range_succ,List.flatMap_append]; simp
theorem Amd (B:List Ent) (l:Bf) (f:Nat->Nat) (n:Nat):(F1 B l f n).length<=n*B.length:=by
 induction n with
 | zero=>simp [F1]
 | succ n ih=>
  rw [Sg,List.length_append,Nat.add_mul,Nat.one_mul]
  have:(if f n=0 then ([]:List Ent) else B.map fun b=>(b.1++atO l n,b.2*f n)).length<=B.length:=by split <;> simp
  omega
noncomputable def Vr (h:List Aj) (l:Bf) (k:Int) (x:Ap):Int×List Aj->Option ((Int×List Aj)⊕(Int×List Aj)):=fun (b,c)=>
 bif (decide (b<(h.length:Int))) then (
 (Ag h b).bind fun g=>
 (O1 l k).bind fun v194=>
 (O0 g x (Bd.mk [] v194)).bind fun f=>
 (Cf 104 c [f]).bind fun i=>
 some (.inl ((Ac (b+1)),i))
 )
 else (
 some (.inr (b,c))
 )
theorem Axy {c:Rat} {K M:Nat} {g o:List Aj} {B:List Ent} {l:Bf} {k f:Nat} {x:Ap} (z:Rep c K g B) (hx:rq x=(f:Rat)) (q:RB 200 x) (S:K<30000000000) (R:∀b∈B,b.1.length<=M) (N:M<=1000) (hl:o.length+g.length<=1000000000) :
  ∃T,Al (Vr g l (k:Int) x) (0,o)=some ((g.length:Int),o++T)/\Rep c (K+202) T (B.map fun b=>(b.1++atO l k,b.2*f)):=by
 obtain ⟨e,X,T,V,U⟩:=Lq (step:=Vr g l (k:Int) x) (fun s=>∃(j:Nat) (T:List Aj),s=((j:Int),o++T)/\j<=g.length/\T.length=j/\Rep c (K+202) T ((B.take j).map fun b=>(b.1++atO l k,b.2*f))) (fun s=>g.length-s.1.toNat)
  (fun e=>∃T,e=((g.length:Int),o++T)/\Rep c (K+202) T (B.map fun b=>(b.1++atO l k,b.2*f))) (by
  rintro _ ⟨j,T,rfl,hj,L,y⟩
  rcases Nat.lt_or_ge j g.length with h | h
  .left
   have i:g[j]? = some g[j]:=Cp h
   generalize g[j]=t at i
   obtain ⟨b,b1,b2,Z,Y⟩:=z.get i
   have J:=R b (Cw b1)
   have:=Amc l k
   obtain ⟨u,I,G,E,D⟩:=Axx (A:=b.1) (B:=atO l k) b2 (by omega) S Y q
   refine ⟨_,?_,⟨j+1,T++[u],rfl,by omega,by simp [L],?_⟩,by simp; omega⟩
   .unfold Vr
    simp only [Am (by omega:(j:Int)<(g.length:Int)),cond_true,Cj rfl i,Ad,Axw,I,Dr h (by omega)]
    rw [Du (by simp; omega),Ad,List.append_assoc]
   .rw [Dy b1,List.map_append]
    refine y.app (.cons G ?_ D .nil)
    rw [E,Z,hx]
    show _=c*((b.2*f:Nat):Rat)
    rw [Rat.natCast_mul]; grind
  .have:j=g.length:=by omega
   subst this
   right
   refine ⟨_,by unfold Vr; simp only [As (by omega:¬(g.length:Int)<(g.length:Int)),cond_false],T,rfl,?_⟩
   rw [List.take_of_length_le (by rw [z.len]; exact Nat.le_refl _)] at y
   exact y) (0,o) ⟨0,[],by simp,by omega,rfl,.nil⟩
 exact ⟨T,by rw [<-V]; exact X,U⟩
end Go.Ab
namespace Go.Ab
open Go
noncomputable def Zv (g:List Aj) (l:Bf) (p:List Ap):Int×List Aj->Option ((Int×List Aj)⊕(Int×List Aj)):=fun (v173,b)=>
 bif (decide (v173<(p.length:Int))) then (
 (Ag p v173).bind fun v175=>
 (Hf v175).bind fun c=>
 bif (c==(0:Int)) then (
 some (.inl ((Ac (v173+1)),b))
 )
 else (
 (Al (Vr g l v173 v175) (0,b)).bind fun (h,f)=>
 some (.inl ((Ac (v173+1)),f))
 )
 )
 else (
 some (.inr (v173,b))
 )
theorem Axz {c:Rat} {K M n:Nat} {g:List Aj} {B:List Ent} {l:Bf} {f:Nat->Nat} (z:Rep c K g B) (I:∀k,k<n->f k<Big) (N:K<30000000000) (L:∀b∈B,b.1.length<=M) (y:M<=1000) (Y:n<=1000) (Z:g.length<=1000000) :
  ∃T,Al (Zv g l (Ls n f)) (0,[])=some ((n:Int),T)/\Rep c (K+202) T (F1 B l f n):=by
 obtain ⟨e,X,T,V,S⟩:=Lq (step:=Zv g l (Ls n f)) (fun s=>∃(j:Nat) (T:List Aj),s=((j:Int),T)/\j<=n/\Rep c (K+202) T (F1 B l f j)) (fun s=>n-s.1.toNat)
  (fun e=>∃T,e=((n:Int),T)/\Rep c (K+202) T (F1 B l f n)) (by
  rintro _ ⟨j,T,rfl,hj,q⟩
  unfold Zv
  rw [Lm]
  rcases Nat.lt_or_ge j n with h | h
  .left
   have D:=Amd B l f j
   have J:=q.len
   have R:=z.len
   have A:j*B.length<=1000*1000000:=Nat.mul_le_mul (by omega) (by omega)
   have x:j*B.length+B.length<=1000*B.length:=by
    have:(j+1)*B.length<=1000*B.length:=Nat.mul_le_mul_right _ (by omega)
    rw [Nat.add_mul] at this; omega
   have i:=I j h
   simp only [Am (by omega:(j:Int)<(n:Int)),cond_true,Cj rfl (J6 f h),Ad,(Np.c i).sign,Dr h (by omega)]
   by_cases h0:f j=0
   .refine ⟨_,by rw [if_pos h0]; rfl,⟨j+1,T,rfl,by omega,?_⟩,by simp; omega⟩
    rw [Sg,if_pos h0,List.append_nil]; exact q
   .have u:RB 200 (cR (f j)):=(Np.c i).rb
    obtain ⟨U,G,E⟩:=Axy (o:=T) (l:=l) (k:=j) (f:=f j) z (Aeg (f j)) u N L y (by omega)
    refine ⟨_,by rw [if_neg h0,G]; rfl,⟨j+1,T++U,rfl,by omega,?_⟩,by simp; omega⟩
    rw [Sg,if_neg h0]
    exact q.app E
  .have:j=n:=by omega
   subst this
   right
   exact ⟨_,by simp only [As (by omega:¬(j:Int)<(j:Int)),cond_false],T,rfl,q⟩) (0,[]) ⟨0,[],rfl,by omega,.nil⟩
 exact ⟨T,by rw [<-V]; exact X,S⟩
def Pw (l:Bf) (N:Nat) (f:Nat->Nat) (g:List A6):Prop:=(l.Terms.length≠0/\PwN g N f)\/(l.Terms.length=0/\N=0/\f 0=prb l.Const.toNat g)
abbrev Grp:=Bf×Nat×(Nat->Nat)
inductive Gs:List Grp->List A6->Prop
 | nil:Gs [] []
 | cons {l:Bf} {N:Nat} {f:Nat->Nat} {g rest:List A6} {gs:List Grp}:g≠[]->(∀a∈g,a.Lin=l)->(∀a∈rest,Fc l a.Lin<0)->Pw l N f g->Gs gs rest->Gs ((l,N,f)::gs) (g++rest)
def Ln (B:List Ent):List Grp->List Ent
 | []=>B
 | q::gs=>Ln (F1 B q.1 q.2.2 (q.2.1+1)) gs
structure Atk (A:List A6):Prop where
 deg:∀a∈A,0<=a.Deg
 lin:∀a∈A,C4 a.Lin=true
 sum:Co A<=12
 len:A.length<=12
theorem Lo {a:Bf} (h:C4 a=true):a.Terms.length<=16/\-1048576<=a.Const/\a.Const<=1048576:=by
 unfold C4 at h
 simp only [Dq,decide_eq_true_eq] at h
 exact ⟨h.1.2.2,h.1.1,h.1.2.1⟩
theorem Atk.sub {A B:List A6} (h:Atk (A++B)):Atk A/\Atk B:=by
 have h1:=h.sum
 have h2:=h.len
 rw [Mk] at h1
 rw [List.length_append] at h2
 exact ⟨⟨fun a ha=>h.deg a (by simp [ha]),fun a ha=>h.lin a (by simp [ha]),by omega,by omega⟩,⟨fun a ha=>h.deg a (by simp [ha]),fun a ha=>h.lin a (by simp [ha]),by omega,by omega⟩⟩
theorem Ax0 {l:Bf} {g:List A6} (hk:Atk g) (b:g≠[]) (j:∀a∈g,a.Lin=l):∃N f,Kl g=some (Ls (N+1) f)/\Pw l N f g/\N<=Co g/\∀k,k<N+1->f k<Big:=by
 have s:=hk.len
 have q:=hk.sum
 obtain ⟨a,ha⟩:∃a,a∈g:=by
  cases g with
  | nil=>exact (b rfl).elim
  | cons a _=>exact ⟨a,by simp⟩
 have c:=hk.lin a ha
 rw [j a ha] at c
 have hc:=(Lo c).2.2
 by_cases h:l.Terms.length=0
 .have h1:=Axq g hc (fun a ha=>by rw [j a ha]; exact ⟨h,rfl⟩) hk.deg hk.sum (by omega)
  exact ⟨0,fun _=>prb l.Const.toNat g,h1,.inr ⟨h,rfl,rfl⟩,by omega,fun k _=>Sf (by omega) q⟩
 .obtain ⟨N,f,h1,h2⟩:=Axo g b (fun a ha=>by rw [j a ha]; exact h) hk.deg hk.sum (by omega)
  refine ⟨N,f,h1,.inl ⟨h,h2⟩,by rw [h2.1]; exact Nat.le_refl _,fun k i=>Nat.lt_of_le_of_lt (h2.le i) (Sf ?_ q)⟩
  have:=h2.1
  omega
noncomputable def Zw (r:List A6) (l:Bf):Int->Option (Int⊕Int):=fun b=>
 bif (decide (b<(r.length:Int))) then (
 (Ag r b).bind fun v117=>
 (Jy v117.Lin l).bind fun c=>
 bif (c==(0:Int)) then (
 some (.inl (Ac (b+1)))
 )
 else (
 some (.inr b)
 )
 )
 else (
 some (.inr b)
 )
theorem Ax1 {r:List A6} {a:A6} (h0:r[0]? = some a) (ht:∀b∈r,b.Lin.Terms.length<1099511627776) (u:r.length<=1000) :
  ∃n:Nat,Al (Zw r a.Lin) 1=some (n:Int)/\1<=n/\n<=r.length/\(∀b∈r.take n,b.Lin=a.Lin)/\∀b,r[n]? = some b->b.Lin≠a.Lin:=by
 have hpos:=Ez h0
 obtain ⟨e,q,n,l,k⟩:=Lq (step:=Zw r a.Lin) (fun s=>∃n:Nat,s=(n:Int)/\1<=n/\n<=r.length/\∀b∈r.take n,b.Lin=a.Lin) (fun s=>r.length-s.toNat)
  (fun e=>∃n:Nat,e=(n:Int)/\1<=n/\n<=r.length/\(∀b∈r.take n,b.Lin=a.Lin)/\∀b,r[n]? = some b->b.Lin≠a.Lin) (by
  rintro _ ⟨j,rfl,g,f,c⟩
  unfold Zw
  rcases Nat.lt_or_ge j r.length with h | h
  .have hx:r[j]? = some r[j]:=Cp h
   have i:=List.getElem_mem h
   generalize r[j]=b at hx i
   simp only [Am (by omega:(j:Int)<(r.length:Int)),cond_true,Cj rfl hx,Ad,Zc _ _ (ht b i),Dr h (by omega)]
   by_cases hc:b.Lin=a.Lin
   .left
    rw [Fa ((Hm.zero _ _ trivial trivial).2 hc)]
    refine ⟨_,rfl,⟨j+1,rfl,by omega,by omega,fun d hd=>?_⟩,by omega⟩
    rw [Dy hx] at hd
    rcases List.mem_append.1 hd with hd | hd
    .exact c d hd
    .simp only [List.mem_singleton] at hd
     rw [hd]; exact hc
   .right
    rw [C6 (fun h=>hc ((Hm.zero _ _ trivial trivial).1 h))]
    exact ⟨_,rfl,j,rfl,g,f,c,fun d hd=>by rw [hx] at hd; cases hd; exact hc⟩
  .right
   refine ⟨_,by simp only [As (by omega:¬(j:Int)<(r.length:Int)),cond_false],j,rfl,g,f,c,fun d hd=>?_⟩
   have:=Ez hd
   omega) 1 ⟨1,rfl,by omega,by omega,fun b hb=>by
    cases r with
    | nil=>simp at hpos
    | cons x r=>simp at hb h0; rw [hb,h0]⟩
 exact ⟨n,by rw [<-l]; exact q,k⟩
noncomputable def Vs:(List Aj×List A6)->Option ((List Aj×List A6)⊕List Aj):=fun (g,b)=>
 bif (decide ((b.length:Int)>(0:Int))) then (
 (Ag b 0).bind fun f=>
 (Al (Zw b f.Lin) 1).bind fun c=>
 (F8 b 0 c).bind fun i=>
 (Kl i).bind fun h=>
 (Al (Zv g f.Lin h) (0,[])).bind fun (k,j)=>
 (F8 b c b.length).bind fun v201=>
 some (.inl (j,v201))
 )
 else (
 some (.inr g)
 )
theorem Ax2 (n:Nat):n+1<=2 ^ n:=by
 induction n with
 | zero=>decide
 | succ n ih=>rw [Nat.pow_succ]; omega
theorem Ax3 {B:List Ent} {l:Bf} {f:Nat->Nat} {n M:Nat} (c:∀b∈B,b.1.length<=M):∀b∈F1 B l f n,b.1.length<=M+1:=by
 intro b hb
 unfold F1 at hb
 rw [List.mem_flatMap] at hb
 obtain ⟨k,_,hk⟩:=hb
 split at hk
 .cases hk
 .rw [List.mem_map] at hk
  obtain ⟨d,hd,rfl⟩:=hk
  have:=c d hd
  have:=Amc l k
  simp only [List.length_append]; omega
theorem Ax4 {c:Rat}:∀(n:Nat) (rest:List A6) (j:List Aj) (B:List Ent) (K M:Nat),rest.length<=n->Zu rest->Atk rest->Rep c K j B->(∀b∈B,b.1.length<=M)->M+rest.length<=1000->K+202*rest.length<30000000000->B.length*2 ^ Co rest<=1000000 ->
  ∃gs i,Al Vs (j,rest)=some i/\Gs gs rest/\Rep c (K+202*rest.length) i (Ln B gs)/\i.length<=B.length*2 ^ Co rest:=by
 intro n
 induction n with
 | zero=>
  intro rest j B K M hn _ _ A _ _ _ _
  have:rest = []:=List.length_eq_zero_iff.1 (by omega)
  subst this
  exact ⟨[],j,Em (by unfold Vs; simp),.nil,by simpa [Ln] using A,by rw [A.len]; simp [Co]⟩
 | succ n ih=>
  intro rest j B K M hn hS R A hM ae hK E
  cases g:rest with
  | nil=>
   exact ⟨[],j,Em (by unfold Vs; simp),.nil,by simpa [Ln] using A.mono (by omega),by rw [A.len]; simp [Co]⟩
  | cons a r'=>
   rw [<-g]
   have h0:rest[0]? = some a:=by rw [g]; rfl
   have ab:0<rest.length:=Ez h0
   have hT:∀b∈rest,b.Lin.Terms.length<1099511627776:=fun b hb=>by have:=(Lo (R.lin b hb)).1; omega
   have af:=R.len
   obtain ⟨m,m1,m2,m3,m4,m5⟩:=Ax1 h0 hT (by omega)
   have u:rest=rest.take m++rest.drop m:=(List.take_append_drop m rest).symm
   have L:=(u ▸ R:Atk (rest.take m++rest.drop m)).sub
   have y:rest.take m≠[]:=by
    intro h
    have:=congrArg List.length h
    rw [List.length_take] at this
    simp only [List.length_nil] at this
    omega
   obtain ⟨N,f,p1,p2,p3,p4⟩:=Ax0 L.1 y m4
   have Z:Co rest=Co (rest.take m)+Co (rest.drop m):=by rw [<-Mk,List.take_append_drop]
   have ac:=R.sum
   have U:2 ^ Co rest=2 ^ Co (rest.take m)*2 ^ Co (rest.drop m):=by rw [Z,Nat.pow_add]
   have aa:B.length<=1000000:=Nat.le_trans (Nat.le_mul_of_pos_right _ (Nat.pow_pos (by decide))) E
   obtain ⟨T,t1,t2⟩:=Axz (l:=a.Lin) (n:=N+1) A p4 (by omega) hM (by omega) (by omega) (by rw [A.len]; exact aa)
   have z:Vs (j,rest)=some (.inl (T,rest.drop m)):=by
    have Y:Ag rest 0=some a:=Cj (n:=0) rfl h0
    have S:F8 rest (m:Int) (rest.length:Int)=some (rest.drop m):=by
     unfold F8
     simp [List.drop_take]
     omega
    unfold Vs
    simp only [Am (by omega:(rest.length:Int)>0),cond_true,Y,Ad,m1,Yg rfl m3,p1,t1,S]
   have ad:(rest.drop m).length+m=rest.length:=by rw [List.length_drop]; omega
   have a8:=Amd B a.Lin f (N+1)
   have J:(N+1)*B.length<=B.length*2 ^ Co (rest.take m):=by
    rw [Nat.mul_comm]
    refine Nat.mul_le_mul_left _ (Nat.le_trans (Ax2 N) (Nat.pow_le_pow_right (by decide) p3))
   have x:(F1 B a.Lin f (N+1)).length*2 ^ Co (rest.drop m)<=B.length*2 ^ Co rest:=by
    rw [U,<-Nat.mul_assoc]
    exact Nat.mul_le_mul_right _ (Nat.le_trans a8 J)
   obtain ⟨gs,i,g1,g2,g3,g4⟩:=ih (rest.drop m) T (F1 B a.Lin f (N+1)) (K+202) (M+1) (by omega) (List.Pairwise.sublist (List.drop_sublist m rest) hS) L.2 t2 (Ax3 hM) (by omega) (by omega) (Nat.le_trans x E)
   refine ⟨(a.Lin,N,f)::gs,i,by rw [Jd z,g1],?_,g3.mono (by omega),Nat.le_trans g4 x⟩
   have X:∀b∈rest.drop m,Fc a.Lin b.Lin<0:=by
    intro b hb
    cases hd:rest.drop m with
    | nil=>rw [hd] at hb; cases hb
    | cons d D=>
     have q:rest[m]? = some d:=by
      have:=congrArg (fun l=>l[0]?) hd
      simpa using this
     have a6:=m5 d q
     have a7:¬Fc d.Lin a.Lin<0:=by
      have I:=hS
      rw [g] at I
      have a1:d∈r':=by
       have:=Cw q
       have V:m=(m-1)+1:=by omega
       rw [g,V,List.getElem?_cons_succ] at q
       exact Cw q
      exact (List.pairwise_cons.1 I).1 d a1
     have s:Fc a.Lin d.Lin<0:=by
      rcases Int.lt_trichotomy (Fc d.Lin a.Lin) 0 with k | k | k
      .exact (a7 k).elim
      .exact (a6 ((Hm.zero _ _ trivial trivial).1 k)).elim
      .rw [Hm.anti d.Lin a.Lin trivial trivial]; omega
     rw [hd] at hb
     rcases List.mem_cons.1 hb with rfl | hb
     .exact s
     .have G:Zu (rest.drop m):=List.Pairwise.sublist (List.drop_sublist m rest) hS
      rw [hd] at G
      have h3:=(List.pairwise_cons.1 G).1 b hb
      rcases Int.lt_trichotomy (Fc b.Lin d.Lin) 0 with k | k | k
      .exact (h3 k).elim
      .rw [(Hm.zero _ _ trivial trivial).1 k]; exact s
      .exact Hm.trans a.Lin d.Lin b.Lin trivial trivial trivial s (by rw [Hm.anti b.Lin d.Lin trivial trivial]; omega)
   have:=Gs.cons y m4 X p2 g2
   rwa [List.take_append_drop] at this
end Go.Ab
namespace Go.Ab
open Go
theorem Ame {B:List Ent} {l:Bf} {f g:Nat->Nat}:∀{n:Nat},(∀k,k<n->f k=g k)->F1 B l f n=F1 B l g n
 | 0,_=>rfl
 | n+1,h=>by rw [Sg,Sg,Ame fun k hk=>h k (by omega),h n (by omega)]
theorem Pw.uniq {l:Bf} {N M:Nat} {f g:Nat->Nat} {A b:List A6} (h:Pw l N f A) (h':Pw l M g b) (hp:A.Perm b):N=M/\∀k,k<N+1->f k=g k:=by
 rcases h with ⟨a1,a2⟩ | ⟨a1,a2,a3⟩
 .rcases h' with ⟨_,b2⟩ | ⟨b1,_,_⟩
  .exact a2.uniq b2 hp
  .exact (a1 b1).elim
 .rcases h' with ⟨b1,_⟩ | ⟨_,b2,c⟩
  .exact (b1 a1).elim
  .refine ⟨by omega,fun k hk=>?_⟩
   have:k=0:=by omega
   subst this
   rw [a3,c,Al8 _ hp]
theorem Aeo (l:Bf):¬Fc l l<0:=Vq.irr l
theorem Ax5 {α:Type} {p:α->Bool} {g r c b:List α} (h:(g++r).Perm (c++b)) (h1:∀a∈g,p a=true) (h2:∀a∈r,p a=false) (h3:∀a∈c,p a=true) (j:∀a∈b,p a=false):g.Perm c/\r.Perm b:=by
 have s:(g++r).filter p=g:=by
  rw [List.filter_append,List.filter_eq_self.2 h1,List.filter_eq_nil_iff.2 (fun a ha=>by rw [h2 a ha]; decide),List.append_nil]
 have q:(c++b).filter p=c:=by
  rw [List.filter_append,List.filter_eq_self.2 h3,List.filter_eq_nil_iff.2 (fun a ha=>by rw [j a ha]; decide),List.append_nil]
 have l:(g++r).filter (fun a=>!p a)=r:=by
  have i:g.filter (fun a=>!p a) = []:=List.filter_eq_nil_iff.2 (fun a ha=>by rw [h1 a ha]; decide)
  have f:r.filter (fun a=>!p a)=r:=List.filter_eq_self.2 (fun a ha=>by rw [h2 a ha]; rfl)
  rw [List.filter_append,i,f,List.nil_append]
 have k:(c++b).filter (fun a=>!p a)=b:=by
  have i:c.filter (fun a=>!p a) = []:=List.filter_eq_nil_iff.2 (fun a ha=>by rw [h3 a ha]; decide)
  have f:b.filter (fun a=>!p a)=b:=List.filter_eq_self.2 (fun a ha=>by rw [j a ha]; rfl)
  rw [List.filter_append,i,f,List.nil_append]
 refine ⟨?_,?_⟩
 .rw [<-s,<-q]; exact h.filter p
 .rw [<-l,<-k]; exact h.filter _
theorem Gs.det:∀{u:List Grp} {A:List A6},Gs u A->∀{c:List Grp} {y:List A6},Gs c y->A.Perm y->∀B,Ln B u=Ln B c:=by
 intro u A h
 induction h with
 | nil=>
  intro c y h' hp B
  cases h' with
  | nil=>rfl
  | cons i _ _ _ _=>exact (i (List.append_eq_nil_iff.1 hp.symm.eq_nil).1).elim
 | @cons l N f g rest u i x I M V ih=>
  intro c y h' hp B
  cases h' with
  | nil=>exact (i (List.append_eq_nil_iff.1 hp.eq_nil).1).elim
  | @cons J X R E k c s j q z D=>
   have L:l=J:=by
    obtain ⟨a,ha⟩:∃a,a∈g:=by
     cases g with
     | nil=>exact (i rfl).elim
     | cons a _=>exact ⟨a,by simp⟩
    obtain ⟨b,hb⟩:∃b,b∈E:=by
     cases E with
     | nil=>exact (s rfl).elim
     | cons a _=>exact ⟨a,by simp⟩
    have ha':a∈E++k:=hp.mem_iff.1 (by simp [ha])
    have hb':b∈g++rest:=hp.mem_iff.2 (by simp [hb])
    rcases List.mem_append.1 ha' with ha' | ha'
    .rw [<-x a ha,j a ha']
    .rcases List.mem_append.1 hb' with hb' | hb'
     .rw [<-x b hb',j b hb]
     .have h1:=q a ha'
      have h2:=I b hb'
      rw [x a ha] at h1
      rw [j b hb] at h2
      exact (Aeo l (Vq.trs _ _ _ h2 h1)).elim
   subst L
   have G:=Ax5 (p:=fun a:A6=>decide (Fc a.Lin l=0)) hp (fun a ha=>by rw [x a ha]; exact decide_eq_true ((Hm.zero l l trivial trivial).2 rfl))
    (fun a ha=>decide_eq_false fun h=>by have h1:=I a ha; rw [(Hm.zero _ _ trivial trivial).1 h] at h1; exact Aeo l h1)
    (fun a ha=>by rw [j a ha]; exact decide_eq_true ((Hm.zero l l trivial trivial).2 rfl))
    (fun a ha=>decide_eq_false fun h=>by have h1:=q a ha; rw [(Hm.zero _ _ trivial trivial).1 h] at h1; exact Aeo l h1)
   obtain ⟨U,S⟩:=M.uniq z G.1
   subst U
   show Ln (F1 B l f (N+1)) u=Ln (F1 B l R (N+1)) c
   rw [Ame S]
   exact ih D G.2 _
def IsE (A:List A6) (B:List Ent):Prop:=∃gs b,b.Perm A/\Zu b/\Gs gs b/\B=Ln [([],1)] gs
theorem IsE.det {A c:List A6} {B b:List Ent} (h:IsE A B) (h':IsE c b) (hp:A.Perm c):B=b:=by
 obtain ⟨gs,C,j,_,i,rfl⟩:=h
 obtain ⟨k,l,g,_,f,rfl⟩:=h'
 exact i.det f (j.trans (hp.trans g.symm)) _
theorem Aep {c:Ap} {K:Nat} {A:List A6} (hc:RB K c) (I:K<20000000000) (h0:rq c≠0) (i:Atk A) (b1:List (ByteArray×Int)) (b2:List (ByteArray×List Dd)) (data:List A3) (vars:List Ai) (D z:Int) (y:List Ai) :
  ∃out B,Q2 c ⟨[],A⟩ b1 b2 data vars D z y=some (out,0)/\IsE A B/\Rep (rq c) (K+2424) out B/\out.length<=2 ^ Co A:=by
 have E:∀b∈A,b.Lin.Terms.length<1099511627776:=fun b hb=>by have:=(Lo (i.lin b hb)).1; omega
 have s:=i.len
 have q:=i.sum
 obtain ⟨S,x,g,u⟩:=Axs A E (by omega)
 have f:Atk S:=⟨fun a ha=>i.deg a (g.mem_iff.1 ha),fun a ha=>i.lin a (g.mem_iff.1 ha),by rw [Vp g]; exact q,by rw [g.length_eq]; exact s⟩
 have hp:2 ^ Co S<=4096:=Nat.le_trans (Nat.pow_le_pow_right (by decide) f.sum) (by decide)
 obtain ⟨gs,out,g1,g2,g3,g4⟩:=Ax4 (c:=rq c) S.length S [⟨c,⟨[],[]⟩⟩] [([],1)] K 0 (Nat.le_refl _) u f (.cons rfl (by simp) hc .nil) (fun b hb=>by simp only [List.mem_singleton] at hb; subst hb; simp) (by have:=f.len; omega) (by have:=f.len; omega) (by simp only [List.length_singleton,Nat.one_mul]; omega)
 have G:=f.len
 refine ⟨out,_,?_,⟨gs,S,g,u,g2,rfl⟩,g3.mono (by omega),by rw [<-Vp g]; simpa using g4⟩
 unfold Q2
 have j:Ns (rq c)≠0:=by
  unfold Ns
  split
  .decide
  .split
   .decide
   .rename_i h1 h2
    exact (h0 (by grind)).elim
 rw [(Aks hc (by omega)).1,Ad,C6 j,cond_false]
 have l:Q6 A=some ([],A):=by
  unfold Q6 Lv
  rw [Du (by simp; omega)]; rfl
 have h:Uc []=some ([],[]):=rfl
 rw [h,Ad]
 dsimp only
 rw [Axt,Ad]
 have k:Fg (α:=B8) ([]:List B8).length []=some ():=rfl
 rw [k,Ad]
 refine bnd (a:=()) (Em (by simp)) ?_
 rw [l,Ad]
 dsimp only
 rw [x,Ad,Mj g.length_eq.symm,Ad]
 exact bnd g1 rfl
end Go.Ab
namespace Go.Ab
open Go
def Aeq (vars:List Ai) (res:Ai) (L:List A6):Prop:=L.Pairwise (fun a b=>Fc a.Lin b.Lin<0)/\∀a∈L,1<=a.Deg/\C4 a.Lin=true/\a.Lin.Terms.length≠0/\Ds vars res a.Lin=true
theorem Zx (l m:List A6):Cl (l++m)=Cl l+Cl m:=by unfold Cl; simp [List.sum_append]
theorem Amf {vars:List Ai} {res:Ai}:∀{u:List Grp} {rest:List A6},Gs u rest->(∀a∈rest,C4 a.Lin=true/\Ds vars res a.Lin=true) ->
  ∀(B:List Ent) (S:Int),(∀b∈B,Aeq vars res b.1/\Cl b.1<=S/\∀a∈b.1,∀r∈rest,Fc a.Lin r.Lin<0)->∀b∈Ln B u,Aeq vars res b.1/\Cl b.1<=S+(Co rest:Nat):=by
 intro u rest h
 induction h with
 | nil=>intro _ B S z b hb; have:=z b hb; exact ⟨this.1,by have:=this.2.1; omega⟩
 | @cons l N f g rest u x I E J R ih=>
  intro A B S z
  obtain ⟨a0,j⟩:∃a,a∈g:=by
   cases g with
   | nil=>exact (x rfl).elim
   | cons a _=>exact ⟨a,by simp⟩
  have s:=I a0 j
  have q:=A a0 (by simp [j])
  rw [s] at q
  have L:∀k,k<N+1->k≠0->l.Terms.length≠0/\k<=Co g:=by
   intro k hk G
   rcases J with ⟨h1,h2⟩ | ⟨_,h2,_⟩
   .exact ⟨h1,by rw [<-h2.1]; omega⟩
   .omega
  intro b hb
  have:=ih (fun a ha=>A a (by simp [ha])) (F1 B l f (N+1)) (S+(Co g:Nat)) (by
   intro b hb
   unfold F1 at hb
   rw [List.mem_flatMap] at hb
   obtain ⟨k,i,hk⟩:=hb
   have i:=List.mem_range.1 i
   split at hk
   .cases hk
   .rw [List.mem_map] at hk
    obtain ⟨d,hd,rfl⟩:=hk
    obtain ⟨d1,d2,d3⟩:=z d hd
    have y:∀a∈d.1,Fc a.Lin l<0:=fun a ha=>by have:=d3 a ha a0 (by simp [j]); rwa [s] at this
    unfold atO
    by_cases h0:k=0
    .rw [if_pos h0,List.append_nil]
     exact ⟨d1,by show Cl d.1<=S+((Co g:Nat):Int); omega,fun a ha r c=>d3 a ha r (by simp [c])⟩
    .rw [if_neg h0]
     obtain ⟨D,M⟩:=L k i h0
     refine ⟨⟨List.pairwise_append.2 ⟨d1.1,List.pairwise_singleton _ _,fun a ha b hb=>?_⟩,fun a ha=>?_⟩,?_,fun a ha r c=>?_⟩
     .simp only [List.mem_singleton] at hb
      subst hb; exact y a ha
     .rcases List.mem_append.1 ha with ha | ha
      .exact d1.2 a ha
      .simp only [List.mem_singleton] at ha
       subst ha
       exact ⟨by show (1:Int)<=(k:Int); omega,q.1,D,q.2⟩
     .show Cl (d.1++[⟨l,k⟩])<=_
      rw [Zx]
      have:Cl [(⟨l,(k:Int)⟩:A6)]=(k:Int):=by simp [Cl]
      omega
     .rcases List.mem_append.1 ha with ha | ha
      .exact d3 a ha r (by simp [c])
      .simp only [List.mem_singleton] at ha
       subst ha
       exact E r c) b hb
  refine ⟨this.1,?_⟩
  rw [Mk]
  have:=this.2
  omega
theorem Ax6 {x:Bw} {L:List A6} (h:Aeq x.Vars x.Res L) (s:Cl L<=6):Gg x ⟨[],L⟩:=by
 have i:(L.length:Int)<=Cl L:=by
  have key:∀l:List A6,(∀a∈l,1<=a.Deg)->(l.length:Int)<=Cl l:=by
   intro l
   induction l with
   | nil=>intro _; simp [Cl]
   | cons f fs ih=>
    intro c
    have h1:=c f (by simp)
    have h2:=ih (fun g u=>c g (by simp [u]))
    unfold Cl at *
    simp only [List.map_cons,List.sum_cons,List.length_cons]; omega
  exact key _ fun a ha=>(h.2 a ha).1
 constructor
 .unfold I4
  have k:L.zipIdx.all (fun q=>Mh x.Vars x.Res L q.1 q.2)=true:=by
   rw [List.all_eq_true]
   rintro ⟨a,j⟩ hq
   have hj:L[j]? = some a:=List.mk_mem_zipIdx_iff_getElem?.1 hq
   obtain ⟨h1,h2,h3,y⟩:=h.2 a (Cw hj)
   show Mh x.Vars x.Res L a j=true
   unfold Mh
   have hp:Pm L a j=true:=by
    unfold Pm
    cases j with
    | zero=>rfl
    | succ j=>
     have c:=Ez hj
     have hy:L[j]? = some L[j]:=Cp (by omega)
     have b:=List.pairwise_iff_getElem.1 h.1 j (j+1) (by omega) c (by omega)
     have e:L[j+1]=a:=by
      have:=Cp c
      rw [hj] at this; exact (Option.some.inj this).symm
     rw [e] at b
     simp only [Nat.add_sub_cancel,hy,Bool.or_eq_true]
     exact .inr (decide_eq_true b)
   rw [hp,Am h1,h2,y]
   simp only [Bool.true_and,Bool.and_true,Bool.not_eq_true',beq_eq_false_iff_ne,ne_eq]
   exact h3
  show (([]:List B8).zipIdx.all _&&L.zipIdx.all (fun q=>Mh x.Vars x.Res L q.1 q.2)&&decide (F0 x.Data x.Vars x.Res []+Cl L<=6))=true
  rw [k]
  have:F0 x.Data x.Vars x.Res []=0:=rfl
  rw [this]
  simp
  exact s
 .exact ⟨by simp,by show L.length<=1048576; omega,(fun _ h=>by cases h),(fun _ h=>by cases h),fun a ha=>by have:=(Lo (h.2 a ha).2.1).1; omega⟩
def ec:List Ent->Bd->Nat
 | [],_=>0
 | b::bs,m=>(if Cz ⟨[],b.1⟩ m=0 then b.2 else 0)+ec bs m
theorem Rep.cf {c:Rat} {K:Nat} {ts:List Aj} {bs:List Ent} (h:Rep c K ts bs) (m:Bd):Ab.cf ts m=c*(ec bs m:Rat):=by
 induction h with
 | nil=>simp only [Ab.cf,ec]; grind
 | @cons t b ts bs a1 a2 a3 _ ih=>
  simp only [Ab.cf,ec,ih,a1]
  rw [Rat.natCast_add]
  split
  .rw [a2]; grind
  .grind
theorem Rep.mem {c:Rat} {K:Nat} {ts:List Aj} {bs:List Ent} (h:Rep c K ts bs) {t:Aj} (ht:t∈ts):∃b∈bs,t.Mono=⟨[],b.1⟩/\rq t.Coef=c*(b.2:Rat)/\RB K t.Coef:=by
 obtain ⟨j,hj⟩:=List.getElem?_of_mem ht
 obtain ⟨b,b1,b2⟩:=h.get hj
 exact ⟨b,Cw b1,b2⟩
def Sh (L:Nat) (p:List Aj):Prop:=∀t∈p,∃z:Int,rq t.Coef=(z:Rat)/\A9 z.natAbs<=L
theorem Amg {a:Ap} {z:Int} (ha:I6 a) (h:rq a=(z:Rat)):a=Bh (decide (z<0)) z.natAbs 1:=by
 refine Akr ha (Va _ _ _ (by decide)) ?_
 rw [h,Mi _ _ _ (by decide),Alv]
 congr 1
 unfold sg
 by_cases h:z<0
 .rw [Am h,if_pos rfl]; omega
 .rw [As h,if_neg (by decide)]; omega
theorem Zy {a:Ap} {z:Int} {L:Nat} (ha:I6 a) (h:rq a=(z:Rat)) (b:A9 z.natAbs<=L):RB (L+1) a:=by
 rw [Amg ha h]
 exact Lh _ _ _ _ (by omega) (by rw [Nm]; omega) (by omega)
theorem Amh {a:Ap} {z:Int} {k:Nat} (ha:I6 a) (h:rq a=(z:Rat)) (c:RB k a):A9 z.natAbs<=k+1:=by
 have h1:=c.nv
 rw [Amg ha h] at h1
 obtain ⟨b,i,g,f⟩:=Ru (decide (z<0)) z.natAbs 1 (by decide)
 rw [b] at h1
 simpa using h1
theorem Zz {p:List Aj} {L:Nat} (h:Sh L p) (hc:CP p) (m:Bd):∃z:Int,cf p m=(z:Rat)/\A9 z.natAbs<=L:=by
 by_cases b:∃t∈p,Cz t.Mono m=0
 .obtain ⟨t,ht,e⟩:=b
  obtain ⟨z,c,z2⟩:=h t ht
  refine ⟨z,?_,z2⟩
  rw [<-c,<-Zf hc ht,Kw.1 e]
 .exact ⟨0,by rw [Akz fun t ht e=>b ⟨t,ht,e⟩]; rfl,by simp [Yk]⟩
theorem Sh.of {p:List Aj} {L:Nat} (hc:CP p) (h:∀m,∃z:Int,cf p m=(z:Rat)/\A9 z.natAbs<=L):Sh L p:=fun t ht=>by
 obtain ⟨z,b,z2⟩:=h t.Mono
 exact ⟨z,by rw [<-Zf hc ht]; exact b,z2⟩
structure IP (x:Bw) (n L:Nat) (f:Bd->Rat) (R:List Aj):Prop where
 cp:CP R
 val:∀m,cf R m=f m
 mo:∀t∈R,Gg x t.Mono
 len:R.length<=n
 int:Sh L R
theorem IP.can {x:Bw} {n L:Nat} {f:Bd->Rat} {R:List Aj} (h:IP x n L f R) (c:n<=1000) (g:L<=1000000):Gv x R :=
 Gv.of h.cp h.mo (fun t ht=>by
  obtain ⟨z,b,z2⟩:=h.int t ht
  exact (Zy (h.cp.coe t ht).1 b z2).mono (by omega)) (by have:=h.len; omega)
theorem IP.ext {x y:Bw} {n L b L':Nat} {f g:Bd->Rat} {R S:List Aj} (h:IP x n L f R) (h':IP y b L' g S) (e:∀m,f m=g m):R=S:=CP.ext h.cp h'.cp fun m=>by rw [h.val,h'.val,e]
theorem Ami (y z:Int) {L M:Nat} (hy:A9 y.natAbs<=L) (b:A9 z.natAbs<=L) (h:L+1<=M):A9 (y+z).natAbs<=M:=by
 have h1:=Yl y.natAbs z.natAbs
 have h2:A9 (y+z).natAbs<=A9 (y.natAbs+z.natAbs):=G4 (by omega)
 omega
theorem Amj {x:Bw} (l:CSz x) (A:Ft x) {n m L:Nat} {f g:Bd->Rat} {p q:List Aj} (hp:IP x n L f p) (hq:IP x m L g q) (B:n+m<=1000) (c:L<=1000000) :
  ∃R,M0 x p q=some (R,0)/\IP x (n+m) (L+1) (fun a=>f a-g a) R:=by
 have u:=hp.len
 have s:=hq.len
 obtain ⟨R,k,b⟩:=Aw6 l A (hp.can (by omega) c) (hq.can (by omega) c) (by omega)
 refine ⟨R,k,b.cp,fun a=>by rw [b.val,hp.val,hq.val],fun t ht=>(b.tb t ht).1,by have:=b.len; omega,Sh.of b.cp fun a=>?_⟩
 obtain ⟨y,j,i⟩:=Zz hp.int hp.cp a
 obtain ⟨z,h,z2⟩:=Zz hq.int hq.cp a
 refine ⟨y + -z,?_,Ami y (-z) i (by rw [Int.natAbs_neg]; exact z2) (Nat.le_refl _)⟩
 rw [b.val,j,h,Rat.intCast_add,Rat.intCast_neg,Rat.sub_eq_add_neg]
theorem Ax7 {x:Bw} (l:CSz x) (A:Ft x) {n m L:Nat} {f g:Bd->Rat} {p q:List Aj} (hp:IP x n L f p) (hq:IP x m L g q) (B:n+m<=1000) (c:L<=1000000) :
  ∃R,Qk x p q=some (R,0)/\IP x (n+m) (L+1) (fun a=>f a+g a) R:=by
 have u:=hp.len
 have s:=hq.len
 obtain ⟨R,k,b⟩:=Aw5 l A (hp.can (by omega) c) (hq.can (by omega) c) (by omega)
 refine ⟨R,k,b.cp,fun a=>by rw [b.val,hp.val,hq.val],fun t ht=>(b.tb t ht).1,by have:=b.len; omega,Sh.of b.cp fun a=>?_⟩
 obtain ⟨y,j,i⟩:=Zz hp.int hp.cp a
 obtain ⟨z,h,z2⟩:=Zz hq.int hq.cp a
 exact ⟨y+z,by rw [b.val,j,h,Rat.intCast_add],Ami y z i z2 (Nat.le_refl _)⟩
end Go.Ab
