/- Plain laws: what the plain functions answer. -/
import Derived.Test.YtbobikfnkmhgnaaGreatDoorBpPl3
namespace Go.Ab
open Go
def chJ (a b:Aq):Aq:=if rq a<rq b then b else a
def chM (a b:Aq):Aq:=if rq b<rq a then b else a
def FJ (x y:Rat):Rat:=if x<y then y else x
def FM (x y:Rat):Rat:=if y<x then y else x
theorem Axz:Aas chJ FJ:=by
 refine ⟨fun a b=>?_,fun a b=>?_,?_⟩
 .unfold chJ; split
  .exact .inr rfl
  .exact .inl rfl
 .unfold chJ FJ; split <;> rfl
 .unfold FJ; split <;> rfl
theorem Ax0:Aas chM FM:=by
 refine ⟨fun a b=>?_,fun a b=>?_,?_⟩
 .unfold chM; split
  .exact .inr rfl
  .exact .inl rfl
 .unfold chM FM; split <;> rfl
 .unfold FM; split <;> rfl
theorem Ax1 (x y:Rat):decide (Pb x y<(0:Int))=decide (x<y):=by
 unfold Pb
 by_cases h1:x<y
 .rw [if_pos h1,Ak h1]; rfl
 .rw [if_neg h1,Al h1]; split <;> rfl
theorem Ax2 (x y:Rat):decide (Pb x y>(0:Int))=decide (y<x):=by
 unfold Pb
 by_cases h1:x<y
 .have h2:¬y<x:=by grind
  rw [if_pos h1,Al h2]; rfl
 .rw [if_neg h1]
  by_cases h2:y<x
  .rw [if_pos h2,Ak h2]; rfl
  .rw [if_neg h2,Al h2]; rfl
theorem Ax3 {a b:Aq} {k:Nat} (ha:RB k a) (hb:RB k b) (hk:k<34359738000):Sa a b=some (chJ a b):=by
 unfold Sa chJ
 rw [Ama ha hb hk hk,Ad,Ax1]
 by_cases h:rq a<rq b
 .rw [Ak h,if_pos h]; rfl
 .rw [Al h,if_neg h]; rfl
theorem Ax4 {a b:Aq} {k:Nat} (ha:RB k a) (hb:RB k b) (hk:k<34359738000):Sc a b=some (chM a b):=by
 unfold Sc chM
 rw [Ama ha hb hk hk,Ad,Ax2]
 by_cases h:rq b<rq a
 .rw [Ak h,if_pos h]; rfl
 .rw [Al h,if_neg h]; rfl
noncomputable def Aa2 (f:Aq->Aq->Option Aq):MS->Option (MS⊕List Ag):=fun (v77,v78,k)=>
 (show Option Bool from
 bif (decide ((v77.length:Int)>(0:Int))) then (
 some true
 )
 else (
 some (decide ((v78.length:Int)>(0:Int)))
 )
 ).bind fun v80=>
 bif v80 then (
 (show Option Int from
 bif ((v78.length:Int)==(0:Int)) then (
 some (-1)
 )
 else (
 bif ((v77.length:Int)==(0:Int)) then (
 some 1
 )
 else (
 (Af v77 0).bind fun N=>
 (Af v78 0).bind fun v82=>
 (Ld N.Mono v82.Mono).bind fun M=>
 some M
 )
 )
 ).bind fun l=>
 (Ir 0).bind fun v85=>
 (Ir 0).bind fun j=>
 (show Option ((List Ag)×Bool×(List Int)×(List Int)×(List Cj)×(List B5)) from
 bif (decide (l>=(0:Int))) then (
 (Af v78 0).bind fun i=>
 (Af v78 0).bind fun v91=>
 (F7 v78 1 v78.length).bind fun L=>
 some (L,i.Coef.Neg,i.Coef.Num,i.Coef.Den,v91.Mono.Factors,v91.Mono.Atoms)
 )
 else (
 some (v78,j.Neg,j.Num,j.Den,[],[])
 )
 ).bind fun (v93,J,I,G,E,D)=>
 (show Option ((List Ag)×Bool×(List Int)×(List Int)×(List Cj)×(List B5)) from
 bif (decide (l<=(0:Int))) then (
 (Af v77 0).bind fun h=>
 (Af v77 0).bind fun g=>
 (F7 v77 1 v77.length).bind fun A=>
 some (A,h.Coef.Neg,h.Coef.Num,h.Coef.Den,g.Mono.Factors,g.Mono.Atoms)
 )
 else (
 some (v77,v85.Neg,v85.Num,v85.Den,E,D)
 )
 ).bind fun (c,z,y,v105,x,v107)=>
 (f (Aq.mk z y v105) (Aq.mk J I G)).bind fun b=>
 (Hz b).bind fun u=>
 bif (u != (0:Int)) then (
 (I9 b).bind fun s=>
 (N3 (A8.mk x v107)).bind fun q=>
 (B1 104 k [(Ag.mk s q)]).bind fun B=>
 some (.inl (c,v93,B))
 )
 else (
 some (.inl (c,v93,k))
 )
 )
 else (
 some (.inr k)
 )
theorem Aa3 {α:Type} (x:α) (l:List α):F7 (x::l) 1 ((x::l).length:Int)=some l:=by
 unfold F7
 rw [if_pos ⟨by omega,by simp only [List.length_cons]; omega,by omega⟩]
 congr 1
 have e:((x::l).length:Int).toNat=(x::l).length:=by omega
 rw [e,List.take_length]; rfl
theorem Ax5 {f:Aq->Aq->Option Aq} {i:Aq->Aq->Aq} {k N:Nat} (E:1<=k) (hk:k<34359738000) (L:N<=1048576) (B:∀a b,RB k a->RB k b->f a b=some (i a b)) (A:∀a b,i a b=a\/i a b=b)
  (p q o:List Ag) (hp:∀t∈p,TB k t) (hq:∀t∈q,TB k t) (G:o.length+p.length+q.length<=N):Aa2 f (p,q,o)=some (Rm i p q o):=by
 have z:=Ami k E
 have D:Ir 0=some zR:=Aea 0 (by decide) (by decide)
 have out:∀{S:Type} (c:Aq) (m:A8) (g:List Ag->S),RB k c->Dl m->o.length+1<=N->((Hz c).bind fun s=>bif (s != (0:Int)) then ((I9 c).bind fun l=>(N3 (A8.mk m.Factors m.Atoms)).bind fun j=>(B1 104 o [(Ag.mk l j)]).bind fun y=>some (g y)) else some (g o))=some (g (o++H6 c m)):=by
  intro S c m g hc J I
  rw [Ad9 c k hc (by omega),Ad]
  unfold H6
  by_cases h:nv c=0
  .have:(Es (sv c) (nv c) != 0)=false:=by unfold bne; rw [Aaj,beq_iff_eq.2 h]; rfl
   rw [this,if_pos h]; simp
  .have:(Es (sv c) (nv c) != 0)=true:=by
    unfold bne; rw [Aaj]
    have:(nv c==0)=false:=by simpa using h
    rw [this]; rfl
   rw [this,if_neg h]
   simp only [cond_true]
   rw [Wg c k hc (by omega),Ad,show A8.mk m.Factors m.Atoms=m from rfl,Awr m J,Ad,Cu (by simp; omega),Ad]
 have x:∀a b,RB k a->RB k b->RB k (i a b):=by
  intro a b ha hb
  rcases A a b with e | e <;> rw [e] <;> assumption
 unfold Aa2
 cases p with
 | nil=>
  cases q with
  | nil=>rfl
  | cons u q=>
   have hu:=hq u (by simp)
   simp only [List.length_cons,List.length_nil] at G
   simp only [D,Ad]
   rw [Al (by simp),Ak (by simp only [List.length_cons]; omega)]
   simp only [cond_false,cond_true,Ad]
   rw [Co (by simp only [List.length_cons]; omega),D8 (by rfl)]
   simp only [cond_false,cond_true,Ad]
   rw [Ak (by omega),Al (by omega),show Af (u::q) 0=some u from rfl,Aa3]
   simp only [cond_false,cond_true,Ad]
   rw [B _ _ z hu.co,Ad]
   exact out (i zR u.Coef) u.Mono (fun o=>(.inl ([],q,o):MS⊕List Ag)) (x _ _ z hu.co) hu.mo (by omega)
 | cons t p=>
  have ht:=hp t (by simp)
  simp only [List.length_cons] at G
  cases q with
  | nil=>
   simp only [D,Ad]
   rw [Ak (by simp only [List.length_cons]; omega)]
   simp only [cond_true,Ad]
   rw [D8 (by rfl)]
   simp only [cond_true,Ad]
   rw [Al (by omega),Ak (by omega),show Af (t::p) 0=some t from rfl,Aa3]
   simp only [cond_false,cond_true,Ad]
   rw [B _ _ ht.co z,Ad]
   exact out (i t.Coef zR) t.Mono (fun o=>(.inl (p,[],o):MS⊕List Ag)) (x _ _ ht.co z) ht.mo (by omega)
  | cons u q=>
   have hu:=hq u (by simp)
   simp only [D,Ad]
   rw [Ak (by simp only [List.length_cons]; omega)]
   simp only [cond_true,Ad]
   rw [Co (by simp only [List.length_cons]; omega),Co (by simp only [List.length_cons]; omega)]
   simp only [cond_false,Ad]
   rw [show Af (t::p) 0=some t from rfl,show Af (u::q) 0=some u from rfl,Ad,Ad,Ae8 _ _ ht.mo,Ad,Aa3,Aa3]
   simp only [Rm]
   by_cases h1:B7 t.Mono u.Mono<0
   .rw [if_pos h1,Ad,Al (by omega),Ak (by omega)]
    simp only [cond_false,cond_true,Ad]
    rw [B _ _ ht.co z,Ad]
    exact out (i t.Coef zR) t.Mono (fun o=>(.inl (p,u::q,o):MS⊕List Ag)) (x _ _ ht.co z) ht.mo (by omega)
   .rw [if_neg h1]
    by_cases h2:B7 t.Mono u.Mono=0
    .rw [if_pos h2,Ad,Ak (by omega),Ak (by omega)]
     simp only [cond_true,Ad]
     rw [B _ _ ht.co hu.co,Ad]
     exact out (i t.Coef u.Coef) t.Mono (fun o=>(.inl (p,q,o):MS⊕List Ag)) (x _ _ ht.co hu.co) ht.mo (by omega)
    .rw [if_neg h2,Ad,Ak (by omega),Al (by omega)]
     simp only [cond_false,cond_true,Ad]
     rw [B _ _ z hu.co,Ad]
     exact out (i zR u.Coef) u.Mono (fun o=>(.inl (t::p,q,o):MS⊕List Ag)) (x _ _ z hu.co) hu.mo (by omega)
structure MR (F:Rat->Rat->Rat) (x:Bh) (p q R:List Ag):Prop where
 can:D3 x R
 val:∀m,cf R m=F (cf p m) (cf q m)
 mon:∀t∈R,(∃u∈p,u.Mono=t.Mono)\/(∃u∈q,u.Mono=t.Mono)
 len:R.length<=p.length+q.length
theorem Am7 {f:Aq->Aq->Option Aq} {j:Aq->Aq->Aq} {F:Rat->Rat->Rat} (hc:Aas j F) (D:∀a b,F a b=a\/F a b=b) (B:∀a b k,RB k a->RB k b->k<34359738000->f a b=some (j a b)) {x:Bh} {p q:List Ag} (hp:D3 x p) (hq:D3 x q) (A:p.length+q.length<=1000) :
  ∃R,Am (Aa2 f) (p,q,[])=some R/\MR F x p q R:=by
 obtain ⟨R,l,c⟩:=Awv hc (step:=Aa2 f) (k:=1048576) (by omega) 1000 (Ax5 (by omega) (by omega) (by omega) (fun a b ha hb=>B a b _ ha hb (by omega)) hc.one) _ p q [] (Nat.le_refl _) hp.cp hq.cp (fun t ht=>⟨(hp.sz t ht).co,(hp.sz t ht).mo⟩) (fun t ht=>⟨(hq.sz t ht).co,(hq.sz t ht).mo⟩) (by simpa using A)
 refine ⟨R,by simpa using l,?_,c.val,c.mon,c.len⟩
 have z:=c.len
 have find:∀{s:List Ag} {m:A8},D3 x s->cf s m≠0->∃u∈s,u.Mono=m:=by
  intro s m g h
  by_cases e:∃u∈s,u.Mono=m
  .exact e
  .exact (h (Ts fun t ht k=>e ⟨t,ht,Ga.1 k⟩)).elim
 have same:∀{s:List Ag} {t:Ag},D3 x s->t∈R->cf s t.Mono=cf R t.Mono->RB 1048576 t.Coef:=by
  intro s t g ht e
  have i:=Aap c.cp ht
  obtain ⟨u,hu,y⟩:=find g (by rw [e,i]; exact (c.cp.coe t ht).2:cf s t.Mono≠0)
  have E:=Aap g.cp hu
  have:t.Coef=u.Coef:=Aal (c.cp.coe t ht).1 (g.cp.coe u hu).1 (by rw [<-i,<-e,<-E,y])
  rw [this]; exact (g.sz u hu).co
 refine D3.of c.cp (fun t ht=>?_) (fun t ht=>?_) (by omega)
 .rcases c.mon t ht with ⟨u,hu,e⟩ | ⟨u,hu,e⟩
  .rw [<-e]; exact hp.mo u hu
  .rw [<-e]; exact hq.mo u hu
 .have v:=c.val t.Mono
  rcases D (cf p t.Mono) (cf q t.Mono) with h | h
  .exact same hp ht (by rw [v,h])
  .exact same hq ht (by rw [v,h])
theorem Ax6 (a b:Rat):FJ a b=a\/FJ a b=b:=by
 unfold FJ; split
 .exact .inr rfl
 .exact .inl rfl
theorem Ax7 (a b:Rat):FM a b=a\/FM a b=b:=by
 unfold FM; split
 .exact .inr rfl
 .exact .inl rfl
theorem Tv {x:Bh} (c:CSz x) (f:Fi x) {p:List Ag} (hp:D3 x p):Ka x p=some true:=by
 obtain ⟨b,b1,b2⟩:=Afg x c p hp.sz
 rw [b1,b2.2 ⟨f,hp.can⟩]
theorem Ax8 {x:Bh} (g:CSz x) (h:Fi x) {p q:List Ag} (hp:D3 x p) (hq:D3 x q) (j:p.length+q.length<=1000):∃R,Ny x p q=some (R,0)/\MR FJ x p q R:=by
 obtain ⟨R,i,c⟩:=Am7 Axz Ax6 (f:=Sa) (fun a b k ha hb hk=>Ax3 ha hb hk) hp hq j
 refine ⟨R,?_,c⟩
 have:=c.len
 unfold Ny Un
 rw [Tv g h hp,Tv g h hq]
 simp only [Ad,Dj,cond_false]
 refine bnd (a:=(R,0)) (bnd i ?_) rfl
 rw [Al (by omega)]; rfl
theorem Ax9 {x:Bh} (g:CSz x) (h:Fi x) {p q:List Ag} (hp:D3 x p) (hq:D3 x q) (j:p.length+q.length<=1000):∃R,Nz x p q=some (R,0)/\MR FM x p q R:=by
 obtain ⟨R,i,c⟩:=Am7 Ax0 Ax7 (f:=Sc) (fun a b k ha hb hk=>Ax4 ha hb hk) hp hq j
 refine ⟨R,?_,c⟩
 have:=c.len
 unfold Nz Y9
 rw [Tv g h hp,Tv g h hq]
 simp only [Ad,Dj,cond_false]
 refine bnd (a:=(R,0)) (bnd i ?_) rfl
 rw [Al (by omega)]; rfl
theorem Af1 (p:List Ag) (b:p.length<=1048576) (h:∀t∈p,Dl t.Mono/\RB 4294967296 t.Coef):P4 p p=some true:=by
 unfold P4
 rw [bne_self_eq_false,cond_false]
 refine D9 p (fun j=>(j:Int)) rfl (by omega) ?_ ?_
 .intro j t hj ht h1 h2 h3
  obtain ⟨a1,a2⟩:=h t (Bo ht)
  simp only [h1,h2,h3,cond_true,Ad,To _ _ a1,Aan,bne_self_eq_false,cond_false,At1 t.Coef _ a2 (by decide)]
 .intro h1
  exact ⟨.inr (),by simp only [h1,cond_false],rfl⟩
theorem Am8 {p:List Ag} {n:Nat} (h:N0 p (n:Int)=some true):p.length<=n:=by
 rcases Nat.lt_or_ge n p.length with k | k
 .unfold N0 at h
  rw [Ak (by omega)] at h; cases h
 .exact k
theorem Aya {x:Bh} {p q:List Ag} (h:P1 x p q=some true):p.length<=6/\q.length<=6:=by
 unfold P1 at h
 obtain ⟨a,_,h⟩:=Option.bind_eq_some_iff.1 h
 cases a with
 | false=>cases h
 | true=>
  obtain ⟨b,hb,h⟩:=Option.bind_eq_some_iff.1 h
  cases b with
  | false=>cases h
  | true=>
   obtain ⟨c,hc,h⟩:=Option.bind_eq_some_iff.1 h
   cases h
   exact ⟨Am8 (n:=6) hb,Am8 (n:=6) hc⟩
end Go.Ab
namespace Go.Ab
open Go
def bc:Nat->Nat->Nat
 | _,0=>1
 | 0,_+1=>0
 | n+1,k+1=>bc n k+bc n (k+1)
theorem Nh (n:Nat):bc n 0=1:=by cases n <;> rfl
def cR (n:Nat):Aq:=B4 false n 1
theorem Af2 (n:Nat):sv (cR n)=false/\nv (cR n)=n/\dv (cR n)=1:=by
 obtain ⟨g,f,c,b⟩:=Wi false n 1 (by decide)
 refine ⟨?_,?_,?_⟩
 .by_cases h:n=0
  .exact b h
  .exact c h
 .unfold cR; rw [g]; simp
 .unfold cR; rw [f]; simp
theorem Af3 {n k:Nat} (h:Bj n<=k) (hk:1<=k):RB k (cR n):=Kl _ _ _ _ h (by rw [O1]; exact hk) hk
end Go.Ab
namespace Go.Ab
open Go
end Go.Ab
namespace Go.Ab
open Go
end Go.Ab
namespace Go.Ab
open Go
structure Asc (b:List Int) (n:Nat) (l:List Int):Prop where
 up:l.Pairwise (· < ·)
 mem:∀y,y∈l↔y∈b.take n
theorem Ayb {b:List Int} (c:b.Pairwise (·<=·)) {q:Nat} {p:Int} (hp:b[q]? = some p):∀y∈b.take (q+1),y<=p:=by
 intro y hy
 obtain ⟨i,hi⟩:=List.getElem?_of_mem hy
 rw [List.getElem?_take] at hi
 split at hi
 .rename_i f
  by_cases e:i=q
  .subst e; rw [hi] at hp; cases hp; exact Int.le_refl _
  .have h1:=Df hi
   have h2:=Df hp
   have:=(List.pairwise_iff_getElem.1 c) i q h1 h2 (by omega)
   rw [Bn h1] at hi
   rw [Bn h2] at hp
   cases hi; cases hp; exact this
 .cases hi
theorem Asc.step {b:List Int} (g:b.Pairwise (·<=·)) {q:Nat} {l:List Int} {p x:Int} (h:Asc b (q+1) l) (hp:b[q]? = some p) (hx:b[q+1]? = some x) (j:x≠p):Asc b (q+2) (l++[x]):=by
 have f:=Ayb g hp
 have i:p<x:=by
  have h1:=Df hp
  have h2:=Df hx
  have:=(List.pairwise_iff_getElem.1 g) q (q+1) h1 h2 (by omega)
  rw [Bn h1] at hp
  rw [Bn h2] at hx
  cases hp; cases hx; omega
 refine ⟨?_,fun y=>?_⟩
 .rw [List.pairwise_append]
  refine ⟨h.up,by simp,fun a ha c hc=>?_⟩
  rw [List.mem_singleton] at hc
  subst hc
  have:=f a ((h.mem a).1 ha)
  omega
 .rw [Cw hx,List.mem_append,List.mem_append,h.mem y]
theorem Asc.same {b:List Int} {q:Nat} {l:List Int} {x:Int} (h:Asc b (q+1) l) (hp:b[q]? = some x) (hx:b[q+1]? = some x):Asc b (q+2) l:=by
 refine ⟨h.up,fun y=>?_⟩
 rw [Cw hx,List.mem_append,h.mem y]
 constructor
 .exact .inl
 .rintro (h1 | h1)
  .exact h1
  .rw [List.mem_singleton] at h1
   subst h1
   rw [Cw hp]; simp
theorem Mi {α:Type} {l:List α} {off n:Nat} {i:Int} {j:Nat} {x:α} (hi:i=j) (hj:j<n) (h:l[off+j]? = some x):D5 l off n i=some x:=by
 subst hi
 unfold D5
 rw [if_pos (by omega)]; simpa using h
end Go.Ab
namespace Go.Ab
open Go
end Go.Ab
namespace Go.Ab
open Go
end Go.Ab
namespace Go.Ab
open Go
end Go.Ab
namespace Go.Ab
open Go
end Go.Ab
namespace Go.Ab
open Go
end Go.Ab
namespace Go.Ab
open Go
end Go.Ab
namespace Go.Ab
open Go
theorem Am9 (l:List Int) (b:l.length<=1099511627776):Ux l l=some true:=by
 unfold Ux
 rw [De rfl,cond_false]
 refine D9 l (fun j=>(j:Int)) rfl (by omega) ?_ ?_
 .intro j x hj hx h1 h2 h3
  simp only [h1,h2,h3,cond_true,Ad,bne_self_eq_false,cond_false]
 .intro h
  exact ⟨.inr (),by simp only [h]; rfl,rfl⟩
theorem Ayc (a:Aq) (h1:a.Num.length<=1099511627776) (h2:a.Den.length<=1099511627776):Yk a a=some true:=by
 unfold Yk
 rw [beq_self_eq_true,cond_true,Am9 _ h1,Ad,cond_true,Am9 _ h2,Ad]
end Go.Ab
namespace Go.Ab
open Go
end Go.Ab
namespace Go.Ab
open Go
end Go.Ab
namespace Go.Ab
open Go
end Go.Ab
namespace Go.Ab
open Go
theorem Ana:∀(k:Nat) (t:A9),C4 t<=k->k<1099511627776->Oi k t=some t:=by
 intro k
 induction k with
 | zero=>intro t h; have:=Fd t; omega
 | succ k ih=>
  intro t h hk
  have c:=Fd t
  have b:=Ko t.Kids
  rw [Oi]
  refine D9 t.Kids (fun j=>((j:Int),(t.Kids.take j))) rfl (by omega) ?_ ?_
  .intro j x hj hx h1 h2 h3
   have:=J1 (Bo hx)
   simp only [h1,h2,h3,cond_true,Ad,ih x (by omega) (by omega)]
   rw [Cu (by simp; omega),Ad,Cw hx]
  .intro h1
   exact ⟨t.Kids,by simp,by cases t; rfl⟩
theorem Ayd (m:A8) (b:Dl m):Uv m=some m:=by
 have g:=b.nf
 have f:=b.na
 unfold Uv
 refine D9 m.Factors (fun j=>((j:Int),(m.Factors.take j))) rfl (by omega) ?_ ?_
 .intro j x hj hx h1 h2 h3
  have c:=Bo hx
  have:=b.fi x c
  simp only [h1,h2,h3,cond_true,Ad,Ana 4000000 x.Index (by omega) (by omega)]
  rw [Cu (by simp; omega),Ad,Cw hx]
 .intro h1
  refine ⟨m.Factors,by simp,?_⟩
  dsimp only
  refine D9 m.Atoms (fun j=>((j:Int),(m.Atoms.take j))) rfl (by omega) ?_ ?_
  .intro j x hj hx h1 h2 h3
   have c:=Bo hx
   have:=b.al x c
   simp only [h1,h2,h3,cond_true,Ad,Ss]
   rw [Cu (by simp; omega),Ad,Ad,Cu (by simp; omega),Ad,Cw hx]; rfl
  .intro h1
   exact ⟨m.Atoms,by simp,by cases m; rfl⟩
theorem Af4 {α:Type} (b:List α) (n k:Nat) (z x:α) (B:n<=b.length) (hk:k<=n) (hb:n<=1000000) :
  ∃c:List α,((Gv (n+1) (Ac ((k:Int)+1)) (((n+1:Nat):Nat):Int)).bind fun v8=>
    match v8 with
    | .inl v9=>
     (Gp (n+1) (k:Int) (((n+1:Nat):Nat):Int)).bind fun f=>
     (I7 (C3 b n [z]) (0+v9.1) (v9.2-v9.1) (0+f.1) (f.2-f.1)).bind fun l=>some l
    | .inr _=>(Gp (n+1) (k:Int) (((n+1:Nat):Nat):Int)).bind fun v12=>some (C3 b n [z]))=some c/\c.length=max b.length (n+1) /\
   (c.set k x).take (n+1)=(b.take n).take k++x::(b.take n).drop k:=by
 have g:(C3 b n [z]).length=max b.length (n+1):=by rw [Mm B]; rfl
 have s:∀i,i<n->(C3 b n [z])[i]? = b[i]?:=fun i hi=>by rw [Pg B,if_pos hi]
 have E:Ac ((k:Int)+1)=((k+1:Nat):Int):=Cz (n:=n+1) (by omega) (by omega)
 have u:Gp (n+1) (k:Int) (((n+1:Nat):Nat):Int)=some (k,n+1):=by
  unfold Gp
  rw [if_pos (by omega)]; simp
 have key:∃c:List α,((Gv (n+1) (Ac ((k:Int)+1)) (((n+1:Nat):Nat):Int)).bind fun v8=>
    match v8 with
    | .inl v9=>
     (Gp (n+1) (k:Int) (((n+1:Nat):Nat):Int)).bind fun f=>
     (I7 (C3 b n [z]) (0+v9.1) (v9.2-v9.1) (0+f.1) (f.2-f.1)).bind fun l=>some l
    | .inr _=>(Gp (n+1) (k:Int) (((n+1:Nat):Nat):Int)).bind fun v12=>some (C3 b n [z]))=some c/\c.length=max b.length (n+1)/\(∀i,i<k->c[i]? = b[i]?)/\∀i,k<=i->i<n->c[i+1]? = b[i]?:=by
  rw [E,u]
  by_cases G:k<n
  .have q:Gv (n+1) ((k+1:Nat):Int) (((n+1:Nat):Nat):Int)=some (.inl (k+1,n+1)):=by
    unfold Gv
    rw [if_pos (by omega),if_pos (by omega)]; simp
   rw [q,Ad]
   dsimp only
   have A:I7 (C3 b n [z]) (0+(k+1)) (n+1-(k+1)) (0+k) (n+1-k)=some (C3 (C3 b n [z]) (0+(k+1)) (((C3 b n [z]).drop (0+k)).take (min (n+1-k) (n+1-(k+1))))):=by
    unfold I7
    rw [if_pos (by omega)]
   rw [Ad]
   dsimp only
   rw [A,Ad]
   have hd:(((C3 b n [z]).drop (0+k)).take (min (n+1-k) (n+1-(k+1)))).length=n-k:=by
    rw [List.length_take,List.length_drop,g]; omega
   refine ⟨_,rfl,?_,fun i hi=>?_,fun i hi h=>?_⟩
   .rw [Mm (by rw [g]; omega),g,hd]; omega
   .rw [Pg (by rw [g]; omega),if_pos (by omega),s i (by omega)]
   .rw [Pg (by rw [g]; omega),if_neg (by omega),if_pos (by rw [hd]; omega),List.getElem?_take,if_pos (by omega),List.getElem?_drop,show 0+k+(i+1-(0+(k+1)))=i by omega,s i h]
  .have D:k=n:=by omega
   have q:Gv (n+1) ((k+1:Nat):Int) (((n+1:Nat):Nat):Int)=some (.inr ()):=by
    unfold Gv
    rw [if_pos (by omega),if_neg (by omega)]
   rw [q,Ad]
   dsimp only
   rw [Ad]
   exact ⟨_,rfl,g,fun i hi=>s i (by omega),fun i hi h=>by omega⟩
 obtain ⟨c,g1,g2,g3,g4⟩:=key
 refine ⟨c,g1,g2,?_⟩
 have y:((b.take n).take k).length=k:=by rw [List.length_take,List.length_take]; omega
 apply List.ext_getElem?
 intro i
 rw [List.getElem?_take,List.getElem?_set]
 by_cases h1:i<k
 .rw [if_pos (by omega),if_neg (by omega),g3 i h1,List.getElem?_append_left (by omega),List.getElem?_take,if_pos h1,List.getElem?_take,if_pos (by omega)]
 .rw [List.getElem?_append_right (by omega),y]
  by_cases h2:i=k
  .subst h2
   rw [if_pos (by omega),if_pos rfl,if_pos (by omega),Nat.sub_self]; rfl
  .obtain ⟨j,hj⟩:∃j,i=j+1:=⟨i-1,by omega⟩
   subst hj
   rw [show j+1-k=(j-k)+1 by omega,List.getElem?_cons_succ,List.getElem?_drop,show k+(j-k)=j by omega,List.getElem?_take]
   by_cases h3:j<n
   .rw [if_pos (by omega),if_neg (by omega),g4 j (by omega) h3,if_pos h3]
   .rw [if_neg (by omega),if_neg h3]
theorem Anb {α:Type} (c:Nat) (b:List α) (n k:Nat) (u:n<=b.length) (hk:k<n) (hb:(b.length+n)*c<=140737488355328) (q:n<=1000000) :
  ∃o:List α,((Gv n (Ac ((k:Int)+1)) ((n:Nat):Int)).bind fun v21=>
    match v21 with
    | .inl v22=>(Pv c b k (0+v22.1) (v22.2-v22.1)).bind fun v23=>some (v23.2,v23.1)
    | .inr _=>(Js c b k []).bind fun v24=>some (v24.2,v24.1))=some (n-1,o)/\n-1<=o.length/\o.length<=b.length/\o.take (n-1)=(b.take n).take k++(b.take n).drop (k+1):=by
 have l:Ac ((k:Int)+1)=((k+1:Nat):Int):=Cz (n:=n+1) (by omega) (by omega)
 rw [l]
 by_cases h:k+1<n
 .have f:Gv n ((k+1:Nat):Int) ((n:Nat):Int)=some (.inl (k+1,n)):=by
   unfold Gv
   rw [if_pos (by omega),if_pos (by omega)]; simp
  rw [f,Ad]
  dsimp only
  have hq:Pv c b k (0+(k+1)) (n-(k+1))=some (C3 b k ((b.drop (0+(k+1))).take (n-(k+1))),k+(n-(k+1))):=by
   unfold Pv
   rw [if_pos ⟨by omega,by omega,Nat.le_trans (Nat.mul_le_mul_right _ (by omega)) hb⟩]
  rw [hq,Ad]
  have hd:((b.drop (0+(k+1))).take (n-(k+1))).length=n-(k+1):=by rw [List.length_take,List.length_drop]; omega
  refine ⟨_,by rw [show k+(n-(k+1))=n-1 by omega],?_,?_,?_⟩
  .rw [Mm (by omega),hd]; omega
  .rw [Mm (by omega),hd]; omega
  .have j:((b.take n).take k).length=k:=by rw [List.length_take,List.length_take]; omega
   apply List.ext_getElem?
   intro i
   rw [List.getElem?_take]
   by_cases h1:i<k
   .rw [if_pos (by omega),Pg (by omega),if_pos h1,List.getElem?_append_left (by omega),List.getElem?_take,if_pos h1,List.getElem?_take,if_pos (by omega)]
   .rw [List.getElem?_append_right (by omega),j,List.getElem?_drop,List.getElem?_take]
    by_cases h2:i<n-1
    .rw [if_pos h2,Pg (by omega),if_neg h1,if_pos (by rw [hd]; omega),List.getElem?_take,if_pos (by omega),List.getElem?_drop,if_pos (by omega),show 0+(k+1)+(i-k)=k+1+(i-k) by omega]
    .rw [if_neg h2,if_neg (by omega)]
 .have s:k+1=n:=by omega
  have f:Gv n ((k+1:Nat):Int) ((n:Nat):Int)=some (.inr ()):=by
   unfold Gv
   rw [if_pos (by omega),if_neg (by omega)]
  rw [f,Ad]
  dsimp only
  have hq:Js c b k []=some (C3 b k [],k):=by
   unfold Js
   rw [if_pos ⟨by omega,Nat.le_trans (Nat.mul_le_mul_right _ (by simp)) hb⟩]; rfl
  rw [hq,Ad]
  have g:C3 b k []=b:=by unfold C3; simp
  rw [g]
  refine ⟨b,by rw [show n-1=k by omega],by omega,Nat.le_refl _,?_⟩
  have:(b.take n).drop (k+1) = []:=by rw [List.drop_eq_nil_iff,List.length_take]; omega
  rw [this,List.append_nil,List.take_take,show min k n=n-1 by omega]
end Go.Ab
namespace Go.Ab
open Go
theorem Aye (a:Nat) (h:a<1099511627776):Et .i64 (Ac (a:Int)) 2=some ((a / 2:Nat):Int):=by
 have h1:Ac (a:Int)=(a:Int):=by rw [Ac,Bz] <;> omega
 rw [h1]
 unfold Et
 rw [if_neg (by decide),Int.tdiv_eq_ediv_of_nonneg (by omega),show ((a:Int) / 2)=((a / 2:Nat):Int) from rfl,Bz (by omega) (by omega)]
theorem Ayf (b:List Ag) (n:Nat) (m:A8) (Y:n<=b.length) (R:(b.take n).Pairwise ltT) (N:∀t∈b.take n,Dl t.Mono) (hb:n<=1000000) :
  ∃k:Nat,k<=n/\(∀(i:Nat) (t:Ag),i<k->(b.take n)[i]? = some t->B7 t.Mono m<0)/\(∀(i:Nat) (t:Ag),k<=i->(b.take n)[i]? = some t->0<=B7 t.Mono m) /\
   Am (S:=(Int×Int)) (E:=Int) (fun (y,z)=>
    bif (decide (y<z)) then (
    (Et .i64 (Ac (y+z)) 2).bind fun v8=>
    (D5 b 0 n v8).bind fun v9=>
    (H8 v9.Mono m).bind fun A=>
    bif (decide (A<(0:Int))) then some (.inl ((Ac (v8+1)),z))
    else some (.inl (y,v8)))
    else some (.inr y)) (0,((n:Nat):Int))=some (k:Int):=by
 have L:(b.take n).length=n:=by rw [List.length_take]; omega
 have I:∀i,i<n->(b.take n)[i]? = b[i]?:=fun i hi=>by rw [List.getElem?_take,if_pos hi]
 have D:∀(i j:Nat) (t u:Ag),i<j->(b.take n)[i]? = some t->(b.take n)[j]? = some u->B7 t.Mono u.Mono<0:=fun i j t u G ht hu=>by
  have h1:=Df ht
  have h2:=Df hu
  have:=(List.pairwise_iff_getElem.1 R) i j h1 h2 G
  rw [Bn h1] at ht
  rw [Bn h2] at hu
  cases ht; cases hu; exact this
 obtain ⟨e,h1,k,h2,h3,X,V⟩:=Gu (step:=(fun (y,z)=>
    bif (decide (y<z)) then (
    (Et .i64 (Ac (y+z)) 2).bind fun v8=>
    (D5 b 0 n v8).bind fun v9=>
    (H8 v9.Mono m).bind fun A=>
    bif (decide (A<(0:Int))) then some (.inl ((Ac (v8+1)),z))
    else some (.inl (y,v8)))
    else some (.inr y):Int×Int->Option ((Int×Int)⊕Int)))
  (fun s=>∃i j:Nat,s=((i:Int),(j:Int))/\i<=j/\j<=n/\(∀(q:Nat) (t:Ag),q<i->(b.take n)[q]? = some t->B7 t.Mono m<0)/\(∀(q:Nat) (t:Ag),j<=q->(b.take n)[q]? = some t->0<=B7 t.Mono m))
  (fun s=>s.2.toNat-s.1.toNat)
  (fun e=>∃k:Nat,e=(k:Int)/\k<=n/\(∀(i:Nat) (t:Ag),i<k->(b.take n)[i]? = some t->B7 t.Mono m<0)/\(∀(i:Nat) (t:Ag),k<=i->(b.take n)[i]? = some t->0<=B7 t.Mono m)) (by
   rintro s ⟨i,j,rfl,G,hj,h1,h2⟩
   rcases Nat.lt_or_ge i j with h | h
   .obtain ⟨c,U⟩:∃c:Nat,c=(i+j) / 2:=⟨_,rfl⟩
    have hx:b[c]? = some (b[c]'(by omega)):=Bn _
    generalize b[c]'_=x at hx
    have f:(b.take n)[c]? = some x:=by rw [I c (by omega)]; exact hx
    have J:=N x (Bo f)
    have M:((i:Int)+(j:Int))=((i+j:Nat):Int):=by omega
    simp only [Ak (by omega:(i:Int)<(j:Int)),cond_true,M,Aye (i+j) (by omega),<-U,Ad,Mi (l:=b) (off:=0) (n:=n) (i:=(c:Int)) rfl (by omega) (by rw [Nat.zero_add]; exact hx),To x.Mono m J]
    by_cases e:B7 x.Mono m<0
    .rw [Ak e,cond_true,Cz (n:=n) (by omega) (by omega)]
     refine .inl ⟨_,rfl,⟨c+1,j,rfl,by omega,hj,fun q t hq ht=>?_,h2⟩,by simp only [Int.toNat_natCast]; omega⟩
     by_cases B:q=c
     .subst B; rw [f] at ht; cases ht; exact e
     .exact Mf (D q c t x (by omega) ht f) e
    .rw [Al e,cond_false]
     refine .inl ⟨_,rfl,⟨i,c,rfl,by omega,by omega,h1,fun q t hq ht=>?_⟩,by simp only [Int.toNat_natCast]; omega⟩
     by_cases B:q=c
     .subst B; rw [f] at ht; cases ht; omega
     .have g:=D c q x t (by omega) f ht
      refine Classical.byContradiction fun hc=>?_
      exact e (Mf g (by omega))
   .have:i=j:=by omega
    subst this
    exact .inr ⟨(i:Int),by simp only [Al (by omega:¬(i:Int)<(i:Int)),cond_false],i,rfl,hj,h1,h2⟩) (0,((n:Nat):Int)) ⟨0,n,rfl,by omega,Nat.le_refl _,(fun q t h=>by omega),fun q t h ht=>by have:=Df ht; omega⟩
 subst h2
 exact ⟨k,h3,X,V,h1⟩
end Go.Ab
namespace Go.Ab
open Go
theorem Ni (x:Rat):E5 x=0↔x=0:=by
 unfold E5
 constructor
 .intro h
  split at h
  .cases h
  .split at h
   .cases h
   .grind
 .rintro rfl
  rw [if_neg (by grind),if_neg (by grind)]
theorem Anc (L:List Ag) (k:Nat) (m:A8):cf L m=cf (L.take k) m+cf (L.drop k) m:=by
 rw [<-I1,List.take_append_drop]
theorem CP.insert {L:List Ag} {k:Nat} {x:Ag} (h:CP L) (h1:∀(i:Nat) (t:Ag),i<k->L[i]? = some t->B7 t.Mono x.Mono<0) (h2:∀(i:Nat) (t:Ag),k<=i->L[i]? = some t->B7 x.Mono t.Mono<0) (h3:Fu x.Coef) (f:rq x.Coef≠0) :
  CP (L.take k++x::L.drop k):=by
 refine ⟨?_,fun t ht=>?_⟩
 .rw [List.pairwise_append]
  refine ⟨h.srt.sublist (List.take_sublist _ _),?_,?_⟩
  .rw [List.pairwise_cons]
   refine ⟨fun t ht=>?_,h.srt.sublist (List.drop_sublist _ _)⟩
   obtain ⟨i,hi⟩:=List.getElem?_of_mem ht
   rw [List.getElem?_drop] at hi
   exact h2 (k+i) t (by omega) hi
  .intro a ha c hc
   obtain ⟨i,hi⟩:=List.getElem?_of_mem ha
   rw [List.getElem?_take] at hi
   split at hi
   .rename_i b
    rcases List.mem_cons.1 hc with rfl | hc
    .exact h1 i a b hi
    .obtain ⟨j,hj⟩:=List.getElem?_of_mem hc
     rw [List.getElem?_drop] at hj
     have g1:=Df hi
     have g2:=Df hj
     have:=(List.pairwise_iff_getElem.1 h.srt) i (k+j) g1 g2 (by omega)
     rw [Bn g1] at hi
     rw [Bn g2] at hj
     cases hi; cases hj; exact this
   .cases hi
 .rw [List.mem_append,List.mem_cons] at ht
  rcases ht with ht | rfl | ht
  .exact h.coe t (List.mem_of_mem_take ht)
  .exact ⟨h3,f⟩
  .exact h.coe t (List.mem_of_mem_drop ht)
theorem CP.remove {L:List Ag} (k:Nat) (h:CP L):CP (L.take k++L.drop (k+1)):=by
 have b:(L.take k++L.drop (k+1)).Sublist L:=by
  have:L=L.take k++L.drop k:=(List.take_append_drop k L).symm
  conv=>rhs; rw [this]
  refine List.Sublist.append (List.Sublist.refl _) ?_
  rw [show k+1=k+1 from rfl,<-List.drop_drop]
  exact List.drop_sublist _ _
 exact ⟨h.srt.sublist b,fun t ht=>h.coe t (b.subset ht)⟩
open Classical in
theorem Ayg (L:List Ag) (k:Nat) (x:Ag) (m:A8):cf (L.take k++x::L.drop k) m=cf L m+(if x.Mono=m then rq x.Coef else 0):=by
 rw [I1,Mh,Anc L k m]; grind
theorem Ayh {L:List Ag} {k:Nat} {t:Ag} (h:L[k]? = some t):L.drop k=t::L.drop (k+1):=by
 have hk:=Df h
 rw [List.drop_eq_getElem_cons hk]
 rw [Bn hk] at h
 cases h; rfl
open Classical in
theorem Ayi {L:List Ag} {k:Nat} {t:Ag} (h:L[k]? = some t) (m:A8):cf (L.take k++L.drop (k+1)) m=cf L m-(if t.Mono=m then rq t.Coef else 0):=by
 rw [I1,Anc L k m,Ayh h,Mh]; grind
end Go.Ab
namespace Go.Ab
open Go
structure PSt (K:Nat) (n:Nat) (b:List Ag):Prop where
 le:n<=b.length
 cp:CP (b.take n)
 tm:∀t∈b.take n,RB K t.Coef/\Dl t.Mono
open Classical in
theorem Aa4 {K kc:Nat} {n:Nat} {b:List Ag} (h:PSt K n b) {m:A8} {c:Aq} (hc:RB kc c) (hm:Dl m) (hK:K+kc+3<30000000000) (hb:b.length<=100000) :
  ∃(n':Nat) (o:List Ag),Ja n m c b=some (n',o)/\o.length<=b.length+1/\PSt (K+kc+3) n' o/\∀m',cf (o.take n') m'=cf (b.take n) m' + (if m=m' then rq c else 0):=by
 obtain ⟨k,k1,k2,k3,k4⟩:=Ayf b n m h.le h.cp.srt (fun t ht=>(h.tm t ht).2) (by have:=h.le; omega)
 have hlen:(b.take n).length=n:=by rw [List.length_take]; have:=h.le; omega
 have hget:∀i,i<n->(b.take n)[i]? = b[i]?:=fun i hi=>by rw [List.getElem?_take,if_pos hi]
 have hbn:=h.le
 unfold Ja
 rw [k4,Ad]
 by_cases hin:∃t,k<n/\(b.take n)[k]? = some t/\B7 t.Mono m=0
 .obtain ⟨t,h1,h2,h3⟩:=hin
  have htm:=h.tm t (Bo h2)
  have hmm:t.Mono=m:=Ga.1 h3
  have hbk:b[k]? = some t:=by rw [<-hget k h1]; exact h2
  have hidx:D5 b 0 n (k:Int)=some t:=Mi rfl h1 (by rw [Nat.zero_add]; exact hbk)
  obtain ⟨s,s1,s2,s3,s4,s5⟩:=Aam htm.1 hc (by omega) (by omega)
  have hset:Cd b (((0:Nat):Int)+(k:Int)) (Ag.mk s t.Mono)=b.set k ⟨s,t.Mono⟩:=Fy (n:=k) (by omega) _
  have hbs:(b.set k ⟨s,t.Mono⟩)[k]? = some ⟨s,t.Mono⟩:=by rw [List.getElem?_set,if_pos rfl,if_pos (Df hbk)]
  have hidx2:D5 (b.set k ⟨s,t.Mono⟩) 0 n (k:Int)=some ⟨s,t.Mono⟩:=Mi rfl h1 (by rw [Nat.zero_add]; exact hbs)
  simp only [Ak (by omega:(k:Int)<(n:Int)),cond_true,hidx,Ad,To t.Mono m htm.2,D8 h3,s2,hset,hidx2,(Me s3 (by omega)).2]
  have htk:(b.set k ⟨s,t.Mono⟩).take n=(b.take n).set k ⟨s,t.Mono⟩:=by rw [List.take_set]
  have hlens:(b.set k ⟨s,t.Mono⟩).length=b.length:=List.length_set
  by_cases hz:rq s=0
  .rw [D8 ((Ni _).2 hz),cond_true]
   have hpre:Nw n (k:Int)=some k:=by
    unfold Nw
    rw [if_pos (by omega)]; simp
   rw [hpre,Ad]
   obtain ⟨o,d1,d2,d3,d4⟩:=Anb 104 (b.set k ⟨s,t.Mono⟩) n k (by omega) h1 (by rw [hlens]; omega) (by omega)
   have hrm:(b.set k ⟨s,t.Mono⟩).take n=(b.take n).set k ⟨s,t.Mono⟩:=htk
   have hee:((b.take n).set k ⟨s,t.Mono⟩).take k++((b.take n).set k ⟨s,t.Mono⟩).drop (k+1)=(b.take n).take k++(b.take n).drop (k+1):=by
    rw [List.take_set_of_le (Nat.le_refl _),List.drop_set_of_lt (by omega)]
   rw [hrm,hee] at d4
   refine ⟨n-1,o,d1,by omega,⟨d2,by rw [d4]; exact h.cp.remove k,fun u hu=>?_⟩,fun m'=>?_⟩
   .rw [d4,List.mem_append] at hu
    have hu':u∈b.take n:=by
     rcases hu with hu | hu
     .exact List.mem_of_mem_take hu
     .exact List.mem_of_mem_drop hu
    exact ⟨((h.tm u hu').1).mono (by omega),(h.tm u hu').2⟩
   .rw [d4,Ayi h2 m',hmm]
    by_cases e:m=m'
    .rw [if_pos e,if_pos e]
     have:rq c = - rq t.Coef:=by rw [s5] at hz; grind
     rw [this]; grind
    .rw [if_neg e,if_neg e]; grind
  .rw [Co (fun e=>hz ((Ni _).1 e)),cond_false]
   refine ⟨n,b.set k ⟨s,t.Mono⟩,rfl,by omega,⟨by omega,?_,fun u hu=>?_⟩,fun m'=>?_⟩
   .rw [htk]
    refine ⟨?_,fun u hu=>?_⟩
    .rw [List.pairwise_iff_getElem]
     intro i j hi hj hij
     have g:∀(q:Nat) (hq:q<((b.take n).set k ⟨s,t.Mono⟩).length),(((b.take n).set k ⟨s,t.Mono⟩)[q]).Mono=((b.take n)[q]'(by rw [List.length_set] at hq; exact hq)).Mono:=by
      intro q hq
      rw [List.getElem_set]
      split
      .rename_i e
       subst e
       have:=Bn (l:=b.take n) (i:=k) (by omega)
       rw [h2] at this
       rw [<-Option.some.inj this]
      .rfl
     unfold ltT
     rw [g i hi,g j hj]
     exact (List.pairwise_iff_getElem.1 h.cp.srt) i j _ _ hij
    .rcases List.mem_or_eq_of_mem_set hu with hu | rfl
     .exact h.cp.coe u hu
     .exact ⟨s4,hz⟩
   .rw [htk] at hu
    rcases List.mem_or_eq_of_mem_set hu with hu | rfl
    .exact ⟨((h.tm u hu).1).mono (by omega),(h.tm u hu).2⟩
    .exact ⟨s3,htm.2⟩
   .rw [htk,Afy (u:=⟨s,t.Mono⟩) h2 rfl m',hmm]
    by_cases e:m=m'
    .rw [if_pos e,if_pos e]
     show cf (b.take n) m' + (rq s-rq t.Coef)=_
     rw [s5]; grind
    .rw [if_neg e,if_neg e]
 .have hne:∀t,(b.take n)[k]? = some t->B7 t.Mono m≠0:=fun t ht e=>hin ⟨t,by have:=Df ht; omega,ht,e⟩
  have hq:(bif decide ((k:Int)<(n:Int)) then (D5 b 0 n (k:Int)).bind fun v12=>(H8 v12.Mono m).bind fun v13=>some (v13==0) else some false)=some false:=by
   by_cases h1:k<n
   .have hx:b[k]? = some (b[k]'(by omega)):=Bn _
    generalize b[k]'_=x at hx
    have hLx:(b.take n)[k]? = some x:=by rw [hget k h1]; exact hx
    rw [Ak (by omega:(k:Int)<(n:Int)),cond_true,Mi (l:=b) (off:=0) (n:=n) (i:=(k:Int)) rfl h1 (by rw [Nat.zero_add]; exact hx),Ad,To x.Mono m (h.tm x (Bo hLx)).2,Ad,Co (hne x hLx)]
   .rw [Al (by omega)]; rfl
  erw [hq]
  simp only [Ad,cond_false,(Me hc (by omega)).2]
  by_cases hz:rq c=0
  .rw [D8 ((Ni _).2 hz),cond_true]
   refine ⟨n,b,rfl,by omega,⟨h.le,h.cp,fun u hu=>⟨((h.tm u hu).1).mono (by omega),(h.tm u hu).2⟩⟩,fun m'=>?_⟩
   rw [hz]
   split <;> grind
  .rw [Co (fun e=>hz ((Ni _).1 e)),cond_false]
   have hap:Js 104 b n [(Ag.mk (Aq.mk false [] []) (A8.mk [] []))]=some (C3 b n [(Ag.mk (Aq.mk false [] []) (A8.mk [] []))],n+1):=by
    unfold Js
    rw [if_pos ⟨h.le,by simp; omega⟩]; rfl
   rw [hap,Ad]
   dsimp only
   obtain ⟨cc,c1,c2,c3,c4,c5⟩:=Awj hc (by omega)
   obtain ⟨o13,g1,g2,g3⟩:=Af4 b n k (Ag.mk (Aq.mk false [] []) (A8.mk [] [])) ⟨cc,m⟩ h.le k1 (by omega)
   erw [g1]
   rw [Ad,c2,Ad,Ayd m hm,Ad]
   have hk13:o13[k]? = some (o13[k]'(by omega)):=Bn _
   rw [Mi (l:=o13) (off:=0) (n:=n+1) (i:=(k:Int)) rfl (by omega) (by rw [Nat.zero_add]; exact hk13),Ad]
   have hset:Cd o13 (((0:Nat):Int)+(k:Int)) (Ag.mk cc m)=o13.set k ⟨cc,m⟩:=Fy (n:=k) (by omega) _
   rw [hset]
   refine ⟨n+1,o13.set k ⟨cc,m⟩,rfl,by rw [List.length_set]; omega,⟨by rw [List.length_set]; omega,?_,fun u hu=>?_⟩,fun m'=>?_⟩
   .rw [g3]
    refine h.cp.insert (fun i t hi ht=>k2 i t hi ht) (fun i t hi ht=>?_) c3 (by rw [c4]; exact hz)
    have g:=k3 i t hi ht
    have hnz:B7 t.Mono m≠0:=by
     by_cases e:i=k
     .subst e; exact hne t ht
     .have hkl:=Df ht
      have hx:(b.take n)[k]? = some ((b.take n)[k]'(by omega)):=Bn _
      have g5:=k3 k _ (Nat.le_refl _) hx
      have g6:=hne _ hx
      have g7:=(List.pairwise_iff_getElem.1 h.cp.srt) k i (by omega) hkl (by omega)
      rw [Bn hkl] at ht
      cases ht
      intro e2
      have:=Ga.1 e2
      unfold ltT at g7
      rw [this] at g7
      omega
    show B7 m t.Mono<0
    rw [Rl t.Mono m]; omega
   .rw [g3,List.mem_append,List.mem_cons] at hu
    rcases hu with hu | rfl | hu
    .have:=h.tm u (List.mem_of_mem_take hu)
     exact ⟨this.1.mono (by omega),this.2⟩
    .exact ⟨c5.mono (by omega),hm⟩
    .have:=h.tm u (List.mem_of_mem_drop hu)
     exact ⟨this.1.mono (by omega),this.2⟩
   .rw [g3,Ayg,c4]
end Go.Ab
namespace Go.Ab
open Go
theorem PSt.mono {K c n:Nat} {b:List Ag} (h:PSt K n b) (f:K<=c):PSt c n b:=⟨h.le,h.cp,fun t ht=>⟨((h.tm t ht).1).mono f,(h.tm t ht).2⟩⟩
open Classical in
theorem Ayj {kc:Nat} (p q:List Ag) (c:Aq) (hl:p.length<=1000) (hl2:q.length<=1000) (hp:∀t∈p,RB 1048576 t.Coef/\Dl t.Mono) (hq:∀t∈q,RB 1048576 t.Coef/\Dl t.Mono) (hc:RB kc c) (hkc:kc<=1048576) :
  ∃r,Sg p q c=some r/\(CP r/\(∀m,cf r m=cf p m+rq c*cf q m)/\r.length<=p.length+q.length/\∀t∈r,RB ((p.length+q.length)*2097200) t.Coef/\Dl t.Mono):=by
 unfold Sg
 refine Er (fun s=>∃(n j:Nat) (b:List Ag),s=(n,(j:Int),b)/\j<=p.length/\b.length<=j/\PSt (j*2097200) n b/\∀m,cf (b.take n) m=cf (p.take j) m) (fun s=>p.length-s.2.1.toNat)
  (fun e=>∃(n:Nat) (b:List Ag),e=(n,b)/\b.length<=p.length/\PSt (p.length*2097200) n b/\∀m,cf (b.take n) m=cf p m)
  ⟨0,0,[],rfl,by omega,by simp,⟨by simp,by simpa using CP.nil,fun t ht=>by simp at ht⟩,fun m=>rfl⟩ ?_ ?_
 .rintro s ⟨n,j,b,rfl,hj,hb,hP,hcf⟩
  rcases Nat.lt_or_ge j p.length with h | h
  .have hx:p[j]? = some p[j]:=Bn h
   generalize p[j]=t at hx
   obtain ⟨t1,t2⟩:=hp t (Bo hx)
   obtain ⟨n',o,e1,e2,e3,e4⟩:=Aa4 hP t1 t2 (by omega) (by omega)
   simp only [Ak (by omega:(j:Int)<(p.length:Int)),cond_true,Ch rfl hx,Ad,e1,Cz h (by omega)]
   refine .inl ⟨_,rfl,⟨n',j+1,o,rfl,by omega,by omega,e3.mono (by omega),fun m=>?_⟩,by simp only [Int.toNat_natCast]; omega⟩
   rw [e4 m,hcf m,Cw hx,I1,Mh]
   show _=_+(_+(0:Rat))
   grind
  .have:j=p.length:=by omega
   subst this
   rw [List.take_length] at hcf
   exact .inr ⟨(n,b),by simp only [Al (by omega:¬(p.length:Int)<(p.length:Int)),cond_false],n,b,rfl,hb,hP,hcf⟩
 .rintro e ⟨n0,b0,rfl,hb0,hP0,hcf0⟩
  dsimp only
  refine Er (fun s=>∃(n j:Nat) (b:List Ag),s=(n,(j:Int),b)/\j<=q.length/\b.length<=p.length+j/\PSt ((p.length+j)*2097200) n b/\∀m,cf (b.take n) m=cf p m+rq c*cf (q.take j) m) (fun s=>q.length-s.2.1.toNat)
   (fun e=>∃(n:Nat) (b:List Ag),e=(n,b)/\b.length<=p.length+q.length/\PSt ((p.length+q.length)*2097200) n b/\∀m,cf (b.take n) m=cf p m+rq c*cf q m)
   ⟨n0,0,b0,rfl,by omega,by omega,by simpa using hP0,fun m=>by rw [hcf0 m]; show _=_+rq c*(0:Rat); grind⟩ ?_ ?_
  .rintro s ⟨n,j,b,rfl,hj,hb,hP,hcf⟩
   rcases Nat.lt_or_ge j q.length with h | h
   .have hx:q[j]? = some q[j]:=Bn h
    generalize q[j]=t at hx
    obtain ⟨t1,t2⟩:=hq t (Bo hx)
    obtain ⟨d,d1,d2,d3,d4,d5⟩:=Al9 hc t1 (by omega) (by decide)
    obtain ⟨n',o,e1,e2,e3,e4⟩:=Aa4 hP d3 t2 (by omega) (by omega)
    simp only [Ak (by omega:(j:Int)<(q.length:Int)),cond_true,Ch rfl hx,Ad,d2,e1,Cz h (by omega)]
    refine .inl ⟨_,rfl,⟨n',j+1,o,rfl,by omega,by omega,e3.mono (by omega),fun m=>?_⟩,by simp only [Int.toNat_natCast]; omega⟩
    rw [e4 m,hcf m,Cw hx,I1,Mh,d5]
    show _=_+rq c*(_+(_+(0:Rat)))
    split <;> grind
   .have:j=q.length:=by omega
    subst this
    rw [List.take_length] at hcf
    exact .inr ⟨(n,b),by simp only [Al (by omega:¬(q.length:Int)<(q.length:Int)),cond_false],n,b,rfl,hb,hP,hcf⟩
  .rintro e ⟨n,b,rfl,hb,hP,hcf⟩
   refine ⟨b.take n,?_,hP.cp,hcf,by rw [List.length_take]; omega,hP.tm⟩
   show (I8 b n).bind _=_
   unfold I8
   rw [if_pos hP.le]; rfl
end Go.Ab
namespace Go.Ab
open Go
end Go.Ab
namespace Go.Ab
open Go
theorem Ayk:∃r,Ft (-1)=some r/\RB 1 r/\rq r = -1:=by
 refine ⟨_,Aej (-1) (by decide) (by decide),?_,?_⟩
 .exact Kl _ _ _ 1 (Jz (by decide)) (Jz (by decide)) (by omega)
 .rw [I0 _ _ _ (by decide)]; decide
theorem CP.dst {p:List Ag} (h:CP p):Dst p:=h.srt.imp fun {a b} hab e=>by
 unfold ltT at hab
 rw [Ga.2 e] at hab; omega
end Go.Ab
namespace Go.Ab
open Go
theorem Ane:Ac4 (fun t u:Ag=>B7 t.Mono u.Mono) where
 irr x:=by
  show ¬B7 x.Mono x.Mono<0
  rw [Aan]; omega
 trs x y z h1 h2:=Mf h1 h2
 ntr x y z h1 h2:=by
  show ¬B7 x.Mono z.Mono<0
  have h1:¬B7 x.Mono y.Mono<0:=h1
  have h2:¬B7 y.Mono z.Mono<0:=h2
  intro h3
  rcases Int.lt_trichotomy (B7 x.Mono y.Mono) 0 with k | k | k
  .exact h1 k
  .rw [Ga.1 k] at h3; exact h2 h3
  .exact h2 (Mf (Aao.1 k) h3)
def Aa5 (b:List Ag):List Ag:=b.mergeSort fun t u=>decide (B7 t.Mono u.Mono<=0)
theorem Anf (b:List Ag):(Aa5 b).Perm b:=List.mergeSort_perm _ _
theorem Ayl (f:List Ag) (hd:Dst f):(Aa5 f).Pairwise ltT:=by
 have h1:=List.pairwise_mergeSort (le:=fun t u:Ag=>decide (B7 t.Mono u.Mono<=0)) (fun a b c h1 h2=>by
  simp only [decide_eq_true_eq] at *
  have:=Ane.ntr c b a (by show ¬B7 _ _<0; rw [Rl]; omega) (by show ¬B7 _ _<0; rw [Rl]; omega)
  have this:¬B7 c.Mono a.Mono<0:=this
  rw [Rl] at this; omega) (fun a b=>by
  simp only [Bool.or_eq_true,decide_eq_true_eq]
  rw [Rl a.Mono b.Mono]; omega) f
 have h2:(Aa5 f).Pairwise fun t u=>t.Mono≠u.Mono:=((Anf f).pairwise_iff (fun {x y} h=>h.symm)).2 hd
 refine (h1.and h2).imp fun {t u} h=>?_
 have a:=of_decide_eq_true h.1
 have b:B7 t.Mono u.Mono≠0:=fun e=>h.2 (Ga.1 e)
 unfold ltT; omega
theorem Aym (b:List Ag) (hd:Dst b) (f:∀t∈b,Dl t.Mono):∃R,My b=some R/\R.Perm b/\R.Pairwise ltT:=by
 rcases Nat.lt_or_ge 12 b.length with h | h
 .have e:Nat.ble b.length 12=false:=by
   cases k:Nat.ble b.length 12 with
   | false=>rfl
   | true=>have:=Nat.le_of_ble_eq_true k; omega
  unfold My
  rw [e,cond_false]
  obtain ⟨r,g,j,law,hc,hp,i⟩:=Ar2 (cmp:=Mz) (l:=b) (r:=Aa5 b) ⟨_,Ane,fun x hx y _=>Afz x y (f x hx),Anf b,Ayl b hd⟩
  refine ⟨r,g,hp,?_⟩
  refine (List.Pairwise.imp_of_mem (S:=ltT) (fun {t u} ht hu h=>?_) i)
  have c:=hc t (hp.mem_iff.1 ht) u (hp.mem_iff.1 hu)
  rw [Afz t u (f t (hp.mem_iff.1 ht))] at c
  have c:=Option.some.inj c
  unfold ltT; rw [c]; exact h
 .exact Axl b hd f h
theorem Ayn:∀(k:Nat),k<1099511627776->(∀i:A9,2*C4 i<=k->Uy k i i=some true)/\(∀l:List A9,2*E8 l+1<=k->Yv k l l=some true):=by
 intro k
 induction k with
 | zero=>exact fun _=>⟨fun i h=>(by have:=Fd i; omega),fun l h=>by omega⟩
 | succ k ih=>
  intro hk
  have ih:=ih (by omega)
  refine ⟨fun i h=>?_,fun l h=>?_⟩
  .have:=Fd i
   rw [Uy,beq_self_eq_true,cond_true,ih.2 i.Kids (by omega)]; rfl
  .have b:=Ko l
   rw [Yv,bne_self_eq_false,cond_false]
   refine D9 l (fun j=>(j:Int)) rfl (by omega) ?_ ?_
   .intro j x hj hx h1 h2 h3
    have:=J1 (Bo hx)
    simp only [h1,h2,h3,cond_true,Ad,ih.1 x (by omega),Dj,cond_false]
   .intro h
    exact ⟨.inr (),by simp only [h]; rfl,rfl⟩
theorem Ayo (l:Ce) (h:l.Terms.length<=1048576):Yp l l=some true:=by
 unfold Yp
 rw [bne_self_eq_false,bne_self_eq_false]
 simp only [cond_false,Ad]
 refine D9 l.Terms (fun j=>(j:Int)) rfl (by omega) ?_ ?_
 .intro j x hj hx h1 h2 h3
  simp only [h1,h2,h3,cond_true,Ad,beq_self_eq_true,Bool.and_true,Dj,cond_false]
 .intro h
  exact ⟨.inr (),by simp only [h]; rfl,rfl⟩
theorem Ayp (m:A8) (h:Dl m):Yl m m=some true:=by
 have c:=h.nf
 have b:=h.na
 unfold Yl
 rw [bne_self_eq_false,bne_self_eq_false]
 simp only [cond_false,Ad]
 refine D9 m.Factors (fun j=>(j:Int)) rfl (by omega) ?_ ?_
 .intro j x hj hx h1 h2 h3
  have:=h.fi x (Bo hx)
  simp only [h1,h2,h3,cond_true,Ad,bne_self_eq_false,(Ayn 4000000 (by omega)).1 x.Index (by omega),Dj,cond_false]
 .intro h1
  refine ⟨.inr (),by simp only [h1]; rfl,?_⟩
  dsimp only
  refine D9 m.Atoms (fun j=>(j:Int)) rfl (by omega) ?_ ?_
  .intro j x hj hx h1 h2 h3
   have:=h.al x (Bo hx)
   simp only [h1,h2,h3,cond_true,Ad,bne_self_eq_false,Ayo x.Lin (by omega),Dj,cond_false]
  .intro h1
   exact ⟨.inr (),by simp only [h1]; rfl,rfl⟩
theorem Ayq (p:List Ag) (b:p.length<=1048576) (h:∀t∈p,Dl t.Mono/\RB 34359738000 t.Coef):Yi p p=some true:=by
 unfold Yi
 rw [bne_self_eq_false]
 simp only [cond_false]
 refine D9 p (fun j=>(j:Int)) rfl (by omega) ?_ ?_
 .intro j x hj hx h1 h2 h3
  obtain ⟨a1,a2⟩:=h x (Bo hx)
  simp only [h1,h2,h3,cond_true,Ad,Ayc x.Coef (by have:=a2.nl; omega) (by have:=a2.dl; omega),Ayp x.Mono a1,Dj,cond_false]
 .intro h1
  exact ⟨.inr (),by simp only [h1]; rfl,rfl⟩
end Go.Ab
namespace Go.Ab
open Go
structure PR (x:Bh) (n:Nat) (f:A8->Rat) (R:List Ag):Prop where
 cp:CP R
 val:∀m,cf R m=f m
 tb:∀t∈R,Gc x t.Mono/\RB 8589934592 t.Coef
 len:R.length<=n
theorem Ayr {x:Bh} {k:Nat} {ts:List Ag} (h:Col k (Gc x) ts) (hk:k<8589934592) (l:ts.length<=1000):∃R,Sf (plc ts) ts=some (R,0)/\PR x ts.length (cf ts) R:=by
 obtain ⟨R,j,i,g,b,f⟩:=Axs (P:=Gc x) (fun m h=>h.cmo) (plc ts) ts h (by omega) l (fun c _ h2 h3=>Aym c h2 h3)
 exact ⟨R,j,i,g,fun t ht=>⟨(b t ht).1,(b t ht).2.mono (by omega)⟩,f⟩
theorem PR.of {x:Bh} {n m:Nat} {f g:A8->Rat} {R:List Ag} (h:PR x n f R) (b:n<=m) (c:∀a,f a=g a):PR x m g R :=
 ⟨h.cp,fun a=>by rw [h.val,c],h.tb,Nat.le_trans h.len b⟩
theorem Ays {x:Bh} (I:CSz x) (J:Fi x) {p q:List Ag} (hp:D3 x p) (hq:D3 x q) (L:p.length+q.length<=1000) :
  ∃R,Ul x p q=some (R,0)/\PR x (p.length+q.length) (fun m=>cf p m-cf q m) R:=by
 obtain ⟨M,hb⟩:=Axv I J hp hq
 unfold Ul
 rw [hb]
 simp only [Ad,Dj,cond_false,Yn]
 obtain ⟨u,l,j,i,g⟩:=Am5 (k0:=1048579) (k:=1048576) (P:=Gc x) (fun m h=>h.cmo) p [] (Col.nil _ _) hp.tb (by omega) (by omega) (by simp; omega)
 simp at i
 obtain ⟨r,B,A,z⟩:=Axy
 obtain ⟨G,E,c,D,b⟩:=Axw (k:=1048576) q A (fun t ht=>(hq.tb t ht).1) (by omega) (by omega) (by omega)
 obtain ⟨v,f,v2,v3,v4⟩:=Am5 (k:=1048579) (P:=Gc x) (fun m h=>h.cmo) G u j (fun t ht=>⟨(b t ht).1,by obtain ⟨w,hw,e⟩:=(b t ht).2; rw [<-e]; exact (hq.tb w hw).2⟩) (by omega) (by rw [c]; omega) (by omega)
 obtain ⟨R,y,s⟩:=Ayr v2 (by rw [c]; omega) (by omega)
 rw [show P9 p [] []=some (plc u,u) from l,Ad,B,Ad,E,Ad,f,Ad,y,Ad]
 exact ⟨R,rfl,s.of (by omega) fun m=>by rw [v4,g,D,z]; simp only [cf]; grind⟩
theorem Ayt {x:Bh} {p q:List Ag} (hp:D3 x p) (hq:D3 x q) {c:Aq} {b:Nat} (hc:RB b c) (hk:b<=1048576) (k:p.length+q.length<=1000) :
  ∃R,Sg p q c=some R/\Qb R=some (R,0)/\CP R/\∀m,cf R m=cf p m+rq c*cf q m:=by
 obtain ⟨R,h,g,f,j,i⟩:=Ayj p q c (by omega) (by omega) (fun t ht=>⟨(hp.tb t ht).1,(hp.sz t ht).mo⟩) (fun t ht=>⟨(hq.tb t ht).1,(hq.sz t ht).mo⟩) hc hk
 refine ⟨R,h,?_,g,f⟩
 unfold Qb
 rw [Al (by omega)]; rfl
theorem D3.nil (x:Bh):D3 x []:=⟨Aaq.2 ⟨by simp,CP.nil,fun t ht=>by cases ht⟩,fun t ht=>by cases ht⟩
theorem PR.same {x:Bh} {n:Nat} {f:A8->Rat} {R S:List Ag} (h:PR x n f R) (c:n<=1000) (b:CP S) (e:∀m,cf S m=f m):R=S/\Yi R S=some true:=by
 have:R=S:=CP.ext h.cp b fun m=>by rw [h.val,e]
 subst this
 refine ⟨rfl,Ayq R (by have:=h.len; omega) fun t ht=>⟨(h.tb t ht).1.2,(h.tb t ht).2.mono (by omega)⟩⟩
end Go.Ab
namespace Go.Ab
open Go
end Go.Ab
namespace Go.Ab
open Go
def Sm (a:Nat):Prop:=a<=5000 ^ 6
theorem Sm.of {a d:Nat} (h:a<=5000 ^ d) (hd:d<=6):Sm a:=Nat.le_trans h (Nat.pow_le_pow_right (by decide) hd)
end Go.Ab
namespace Go.Ab
open Go
theorem Ayu (s:Bool) (n:Nat):sg (!s) n = - sg s n:=by
 unfold sg; cases s <;> simp
theorem Af5 (z:Int):mkRat z 1=(z:Rat):=by
 rw [Rat.mkRat_eq_div,show ((1:Nat):Rat)=1 from rfl]; grind
theorem Ayv (z:Int) (h1 : -9223372036854775808<=z) (h2:z<=9223372036854775807):∃r,Ir z=some r/\RB 3 r/\Fu r/\rq r=(z:Rat):=by
 have b:Bj z.natAbs<=3:=Tc (n:=z.natAbs) (by omega)
 refine ⟨_,Aea z h1 h2,Kl _ _ _ _ b (by rw [O1]; decide) (by decide),Nd _ _ _ (by decide),?_⟩
 rw [I0 _ _ _ (by decide),Af5]
 congr 1
 unfold sg
 by_cases h:z<0
 .rw [Ak h,if_pos rfl]; omega
 .rw [Al h,if_neg (by decide)]; omega
theorem Af6 (n:Nat):rq (cR n)=(n:Rat):=by
 unfold cR
 rw [I0 _ _ _ (by decide),Af5]; rfl
theorem Ang (n:Nat):Fu (cR n):=Nd _ _ _ (by decide)
end Go.Ab
namespace Go.Ab
open Go
end Go.Ab
namespace Go.Ab
open Go
end Go.Ab
namespace Go.Ab
open Go
end Go.Ab
namespace Go.Ab
open Go
theorem Ayw {a b:Aq} {j k:Nat} (ha:RB j a) (hb:RB k b) (hj:j<34359737000) (hk:k<34359737000):∃c,P8 a b=some c/\RB (j+k+4) c/\Fu c/\rq c=rq a-rq b:=by
 have e:=Akm b k hb (by omega)
 have f:RB (k+1) (B4 (!sv b) (nv b) (dv b)):=Kl _ _ _ _ hb.nv hb.dv (by omega)
 obtain ⟨c,_,l,i,h,g⟩:=Aam ha f (by omega) (by omega)
 refine ⟨c,?_,i.mono (by omega),h,?_⟩
 .unfold P8
  rw [e,Ad,l]; rfl
 .rw [g,I0 _ _ _ (Dq _),Ayu,show rq b=mkRat (sg (sv b) (nv b)) (dv b) from rfl,<-Rat.neg_mkRat]; grind
theorem Ayx {a b:Aq} {j k:Nat} (ha:RB j a) (hb:RB k b) (hj:j<17179868000) (hk:k<17179868000):Ly a b=some (E5 (rq a-rq b)):=by
 obtain ⟨c,h,g,i,f⟩:=Ayw ha hb (by omega) (by omega)
 unfold Ly
 rw [h,Ad,(Me g (by omega)).2,f]; rfl
end Go.Ab
namespace Go.Ab
open Go
def sm:Nat->(Nat->Nat)->Nat
 | 0,_=>0
 | n+1,f=>sm n f+f n
theorem W2 {f g:Nat->Nat}:∀{n:Nat},(∀k,k<n->f k=g k)->sm n f=sm n g
 | 0,_=>rfl
 | n+1,h=>by rw [sm,sm,W2 (n:=n) fun k hk=>h k (by omega),h n (by omega)]
theorem W3 (f g:Nat->Nat):∀n,sm n (fun k=>f k+g k)=sm n f+sm n g
 | 0=>rfl
 | n+1=>by simp only [sm,W3 f g n]; omega
theorem Anh (c:Nat) (f:Nat->Nat):∀n,sm n (fun k=>c*f k)=c*sm n f
 | 0=>rfl
 | n+1=>by simp only [sm,Anh c f n,Nat.mul_add]
theorem Aa6 {f:Nat->Nat}:∀{n:Nat},(∀k,k<n->f k=0)->sm n f=0
 | 0,_=>rfl
 | n+1,h=>by rw [sm,Aa6 (n:=n) fun k hk=>h k (by omega),h n (by omega)]
theorem Af7 (f:Nat->Nat):∀n,sm (n+1) f=f 0+sm n (fun k=>f (k+1))
 | 0=>by simp [sm]
 | n+1=>by rw [sm,Af7 f n,sm]; omega
theorem Ani {f:Nat->Nat} {n:Nat}:∀{m:Nat},n<=m->(∀k,n<=k->f k=0)->sm m f=sm n f
 | 0,h,_=>by rw [show n=0 by omega]
 | m+1,h,hf=>by
  by_cases e:n=m+1
  .rw [e]
  .rw [sm,Ani (m:=m) (by omega) hf,hf m (by omega),Nat.add_zero]
theorem Af8 {f:Nat->Nat} {n k:Nat} (hk:k<n) (b:∀j,j≠k->f j=0):sm n f=f k:=by
 induction n with
 | zero=>omega
 | succ n ih=>
  rw [sm]
  by_cases e:k=n
  .subst e
   rw [Aa6 fun j hj=>b j (by omega),Nat.zero_add]
  .rw [ih (by omega),b n (by omega),Nat.add_zero]
theorem Ro:∀n,bc n n=1
 | 0=>rfl
 | n+1=>by
  rw [bc,Ro n]
  have:bc n (n+1)=0:=by have:=bc_big2 n (n+1) (by omega); exact this
  omega
where bc_big2:∀n k,n<k->bc n k=0
 | n,0,h=>absurd h (by omega)
 | 0,k+1,_=>rfl
 | n+1,k+1,h=>by rw [bc,bc_big2 n k (by omega),bc_big2 n (k+1) (by omega)]
theorem Aa7 {n k:Nat} (h:n<k):bc n k=0:=Ro.bc_big2 n k h
theorem Tw (n k:Nat):bc (n+1) (k+1)=bc n k+bc n (k+1):=by rw [bc]
def Rc (a b k:Nat):Nat:=if b<=k then bc k a*bc a (k-b) else 0
theorem Anj (b k:Nat):Rc 0 b k=if k=b then 1 else 0:=by
 unfold Rc
 by_cases h:k=b
 .subst h; rw [if_pos (Nat.le_refl _),if_pos rfl,Nat.sub_self,Nh,Nh]
 .rw [if_neg h]
  split
  .rw [Aa7 (show 0<k-b by omega),Nat.mul_zero]
  .rfl
theorem Ank (a k:Nat):Rc a 0 k=if k=a then 1 else 0:=by
 unfold Rc
 rw [if_pos (Nat.zero_le _),Nat.sub_zero]
 by_cases h:k=a
 .subst h; rw [if_pos rfl,Ro]
 .rw [if_neg h]
  rcases Nat.lt_or_ge k a with h2 | h2
  .rw [Aa7 h2,Nat.zero_mul]
  .rw [Aa7 (show a<k by omega),Nat.mul_zero]
theorem Ayy (a b k:Nat):Rc (a+1) (b+1) (k+1)=Rc a (b+1) k+Rc (a+1) b k+Rc a b k:=by
 unfold Rc
 by_cases h:b<=k
 .rw [if_pos (by omega),if_pos h,if_pos h,show k+1-(b+1)=k-b by omega,Tw]
  by_cases h2:b+1<=k
  .rw [if_pos h2]
   obtain ⟨j,hj⟩:∃j,k-b=j+1:=⟨k-b-1,by omega⟩
   rw [hj,show k-(b+1)=j by omega,Tw]
   simp only [Nat.add_mul,Nat.mul_add]; omega
  .rw [if_neg h2,show k-b=0 by omega,Nh,Nh]; omega
 .rw [if_neg (by omega),if_neg h,if_neg h,if_neg (by omega)]
theorem Ayz (a b:Nat):Rc (a+1) (b+1) 0=0:=by
 unfold Rc; rw [if_neg (by omega)]
theorem Ay0 (f:Nat->Nat) (n N:Nat):sm (N+1) (fun k=>f k*bc (n+1) k)=sm (N+1) (fun k=>f k*bc n k)+sm N (fun k=>f (k+1)*bc n k):=by
 rw [Af7,Af7 (fun k=>f k*bc n k),Nh,Nh]
 have:sm N (fun k=>f (k+1)*bc (n+1) (k+1))=sm N (fun k=>f (k+1)*bc n (k+1))+sm N (fun k=>f (k+1)*bc n k):=by
  rw [<-W3]
  exact W2 fun k _=>by rw [Tw,Nat.mul_add]; omega
 rw [this]; omega
theorem W4:∀(n a b N:Nat),a+b<N->sm N (fun k=>Rc a b k*bc n k)=bc n a*bc n b
 | n,0,b,N,h=>by
  rw [Nh,Nat.one_mul,Af8 (k:=b) (by omega) fun j hj=>by rw [Anj,if_neg hj,Nat.zero_mul],Anj,if_pos rfl,Nat.one_mul]
 | n,a+1,0,N,h=>by
  rw [Nh,Nat.mul_one,Af8 (k:=a+1) (by omega) fun j hj=>by rw [Ank,if_neg hj,Nat.zero_mul],Ank,if_pos rfl,Nat.one_mul]
 | 0,a+1,b+1,N,h=>by
  rw [show bc 0 (a+1)=0 from rfl,Nat.zero_mul]
  refine Aa6 fun k _=>?_
  cases k with
  | zero=>rw [Ayz,Nat.zero_mul]
  | succ k=>rw [show bc 0 (k+1)=0 from rfl,Nat.mul_zero]
 | n+1,a+1,b+1,N,h=>by
  obtain ⟨N,rfl⟩:∃M,N=M+1:=⟨N-1,by omega⟩
  rw [Ay0,W4 n (a+1) (b+1) (N+1) h]
  have h1:=W4 n a (b+1) N (by omega)
  have h2:=W4 n (a+1) b N (by omega)
  have h3:=W4 n a b N (by omega)
  have c:sm N (fun k=>Rc (a+1) (b+1) (k+1)*bc n k)=sm N (fun k=>Rc a (b+1) k*bc n k)+sm N (fun k=>Rc (a+1) b k*bc n k)+sm N (fun k=>Rc a b k*bc n k):=by
   rw [<-W3,<-W3]
   exact W2 fun k _=>by rw [Ayy,Nat.add_mul,Nat.add_mul]
  rw [c,h1,h2,h3,Tw,Tw,Nat.add_mul,Nat.mul_add,Nat.mul_add]; omega
theorem Ay1 {f g:Nat->Nat} {N:Nat} (h:∀n,n<N->sm N (fun k=>f k*bc n k)=sm N (fun k=>g k*bc n k)):∀k,k<N->f k=g k:=by
 intro k
 induction k using Nat.strongRecOn with
 | ind k ih=>
  intro hk
  have cut:∀F:Nat->Nat,sm N (fun j=>F j*bc k j)=sm k (fun j=>F j*bc k j)+F k:=by
   intro F
   have e:sm N (fun j=>F j*bc k j)=sm (k+1) (fun j=>F j*bc k j):=Ani (by omega) fun j hj=>by rw [Aa7 (by omega),Nat.mul_zero]
   rw [e,sm,Ro,Nat.mul_one]
  have:=h k hk
  rw [cut f,cut g,W2 (f:=fun j=>f j*bc k j) (g:=fun j=>g j*bc k j) fun j hj=>by rw [ih j hj (by omega)]] at this
  omega
end Go.Ab
namespace Go.Ab
open Go
end Go.Ab
namespace Go.Ab
open Go
def Big:Nat:=1000000000 ^ 100
structure Np (x:Aq) (a:Nat):Prop where
 rb:RB 200 x
 s:sv x=false
 n:nv x=a
 d:dv x=1
theorem Ay2 {a:Nat} (h:a<Big):Bj a<=100:=Jz h
theorem Np.cR {a:Nat} (h:Bj a<=200):Np (cR a) a:=⟨Af3 h (by decide),(Af2 a).1,(Af2 a).2.1,(Af2 a).2.2⟩
theorem Np.c {a:Nat} (h:a<Big):Np (Ab.cR a) a:=Np.cR (by have:=Ay2 h; omega)
theorem Np.add {x y:Aq} {a b:Nat} (hx:Np x a) (hy:Np y b):Oc x y=some (Ab.cR (a+b)):=by
 rw [Aeb _ _ 200 200 hx.rb hy.rb (by omega) (by omega),hx.s,hx.n,hx.d,hy.s,hy.n,hy.d]
 simp [Lk,Ib,Ab.cR]
theorem Np.mul {x y:Aq} {a b:Nat} (hx:Np x a) (hy:Np y b):Mx x y=some (Ab.cR (a*b)):=by
 rw [Zs _ _ 200 200 hx.rb hy.rb (by omega) (by omega),hx.s,hx.n,hx.d,hy.s,hy.n,hy.d]
 simp [Ab.cR]
theorem Np.can {x:Aq} {a:Nat} (hx:Np x a):I9 x=some (Ab.cR a):=by
 rw [Wg _ 200 hx.rb (by omega),hx.s,hx.n,hx.d]; rfl
end Go.Ab
namespace Go.Ab
open Go
def Pc (n d:Nat) (f:Nat->Nat) (k:Nat):Nat:=sm n fun a=>f a*Rc a d k
theorem Ay3 (a d:Nat):0<Rc a d (a+d):=by
 unfold Rc
 rw [if_pos (by omega),show a+d-d=a by omega,Ro]
 have:0<bc (a+d) a:=by
  have h:∀d,0<bc (a+d) a:=by
   intro d
   induction d with
   | zero=>rw [Nat.add_zero,Ro]; decide
   | succ d ih=>
    cases a with
    | zero=>rw [Nh]; decide
    | succ a=>rw [show a+1+(d+1)=(a+1+d)+1 by omega,Tw]; omega
  exact h d
 omega
end Go.Ab
namespace Go.Ab
open Go
theorem Ay4 (d x N:Nat) (f:Nat->Nat):∀M,(∀a,a<M->a+d<N)->sm N (fun k=>Pc M d f k*bc x k)=sm M (fun a=>f a*bc x a)*bc x d:=by
 intro M
 induction M with
 | zero=>intro _; rw [Aa6 (fun k _=>by simp [Pc,sm])]; simp [sm]
 | succ M ih=>
  intro h
  have e:∀k,Pc (M+1) d f k*bc x k=Pc M d f k*bc x k+f M*(Rc M d k*bc x k):=fun k=>by
   show (Pc M d f k+f M*Rc M d k)*bc x k=_
   rw [Nat.add_mul,Nat.mul_assoc]
  rw [W2 (fun k _=>e k),W3,ih (fun a ha=>h a (by omega)),Anh,W4 x M d N (h M (by omega))]
  show _=(sm M (fun a=>f a*bc x a)+f M*bc x M)*bc x d
  rw [Nat.add_mul,Nat.mul_assoc (f M)]
def prb (x:Nat):List B5->Nat
 | []=>1
 | a::l=>bc x a.Deg.toNat*prb x l
def I2:List B5->Nat
 | []=>0
 | a::l=>a.Deg.toNat+I2 l
theorem Ay5 (x:Nat) (l m:List B5):prb x (l++m)=prb x l*prb x m:=by
 induction l with
 | nil=>simp [prb]
 | cons a l ih=>simp only [List.cons_append,prb,ih,Nat.mul_assoc]
theorem Anl (l m:List B5):I2 (l++m)=I2 l+I2 m:=by
 induction l with
 | nil=>simp [I2]
 | cons a l ih=>simp only [List.cons_append,I2,ih,Nat.add_assoc]
def PwN (l:List B5) (N:Nat) (f:Nat->Nat):Prop:=N=I2 l/\f N≠0/\∀x,sm (N+1) (fun k=>f k*bc x k)=prb x l
theorem PwN.le {l:List B5} {N:Nat} {f:Nat->Nat} (h:PwN l N f) {k:Nat} (hk:k<N+1):f k<=prb k l:=by
 have h1:=h.2.2 k
 have h2:f k*bc k k<=sm (N+1) (fun j=>f j*bc k j):=by
  have:∀n,k<n->f k*bc k k<=sm n (fun j=>f j*bc k j):=by
   intro n
   induction n with
   | zero=>intro h; omega
   | succ n ih=>
    intro h
    show _<=sm n _+f n*bc k n
    rcases Nat.lt_or_ge k n with h' | h'
    .have:=ih h'; omega
    .have:k=n:=by omega
     subst this; omega
  exact this _ hk
 rw [Ro,Nat.mul_one] at h2
 omega
theorem PwN.step {l:List B5} {N:Nat} {f:Nat->Nat} (h:PwN l N f) (a:B5):PwN (l++[a]) (N+a.Deg.toNat) (Pc (N+1) a.Deg.toNat f):=by
 refine ⟨by rw [Anl,h.1]; simp [I2],?_,fun x=>?_⟩
 .have e:Pc (N+1) a.Deg.toNat f (N+a.Deg.toNat)=Pc N a.Deg.toNat f (N+a.Deg.toNat)+f N*Rc N a.Deg.toNat (N+a.Deg.toNat):=rfl
  have:=Nat.mul_pos (Nat.pos_of_ne_zero h.2.1) (Ay3 N a.Deg.toNat)
  omega
 .rw [Ay4 _ x _ f (N+1) (fun b ha=>by omega),h.2.2 x,Ay5]
  simp [prb]
end Go.Ab
namespace Go.Ab
open Go
theorem Ay6:Ac4 Gi where
 irr x:=by rw [(Tq.zero x x trivial trivial).2 rfl]; omega
 trs x y z h1 h2:=Tq.trans x y z trivial trivial trivial h1 h2
 ntr x y z h1 h2 h3:=by
  rcases Int.lt_trichotomy (Gi x y) 0 with k | k | k
  .exact h1 k
  .have:=(Tq.zero x y trivial trivial).1 k
   subst this; exact h2 h3
  .have b:Gi y x<0:=by rw [Tq.anti x y trivial trivial]; omega
   exact h2 (Tq.trans y x z trivial trivial trivial b h3)
def Ay7 (l:List B5):Prop:=l.Pairwise fun a b=>¬Gi b.Lin a.Lin<0
def atO (l:Ce) (k:Nat):List B5:=if k=0 then [] else [⟨l,k⟩]
abbrev FS:={F:List Cj // F.length<=1000}
abbrev Ent:=List B5×Nat
inductive I3 (F:FS) (c:Rat) (K:Nat):List Ag->List Ent->Prop
 | nil:I3 F c K [] []
 | cons {t:Ag} {b:Ent} {ts:List Ag} {bs:List Ent}:t.Mono=⟨F.1,b.1⟩->rq t.Coef=c*(b.2:Rat)->RB K t.Coef->I3 F c K ts bs->I3 F c K (t::ts) (b::bs)
theorem I3.len {F:FS} {c:Rat} {K:Nat} {ts:List Ag} {bs:List Ent} (h:I3 F c K ts bs):ts.length=bs.length:=by
 induction h with
 | nil=>rfl
 | cons _ _ _ _ ih=>simp [ih]
theorem I3.app {F:FS} {c:Rat} {K:Nat} {ts f:List Ag} {bs cs:List Ent} (h:I3 F c K ts bs) (h':I3 F c K f cs):I3 F c K (ts++f) (bs++cs):=by
 induction h with
 | nil=>exact h'
 | cons a b d _ ih=>exact .cons a b d ih
theorem I3.mono {F:FS} {c:Rat} {K f:Nat} {ts:List Ag} {bs:List Ent} (h:I3 F c K ts bs) (hk:K<=f):I3 F c f ts bs:=by
 induction h with
 | nil=>exact .nil
 | cons a b d _ ih=>exact .cons a b (d.mono hk) ih
theorem I3.get {F:FS} {c:Rat} {K:Nat} {ts:List Ag} {bs:List Ent} (h:I3 F c K ts bs):∀{j:Nat} {t:Ag},ts[j]? = some t->∃b,bs[j]? = some b/\t.Mono=⟨F.1,b.1⟩/\rq t.Coef=c*(b.2:Rat)/\RB K t.Coef:=by
 induction h with
 | nil=>intro j t h; simp at h
 | @cons t b ts bs a1 a2 a3 _ ih=>
  intro j u hj
  cases j with
  | zero=>
   simp only [List.getElem?_cons_zero,Option.some.injEq] at hj
   subst hj
   exact ⟨b,rfl,a1,a2,a3⟩
  | succ j=>
   simp only [List.getElem?_cons_succ] at hj
   simpa using ih hj
def fs0:FS:=⟨[],by decide⟩
abbrev Rep (c:Rat) (K:Nat):List Ag->List Ent->Prop:=I3 fs0 c K
def Nj (B:List Ent) (l:Ce) (f:Nat->Nat) (n:Nat):List Ent:=(List.range n).flatMap fun k=>if f k=0 then [] else B.map fun b=>(b.1++atO l k,b.2*f k)
theorem Ay8 (B:List Ent) (l:Ce) (f:Nat->Nat) (n:Nat):Nj B l f (n+1)=Nj B l f n++(if f n=0 then [] else B.map fun b=>(b.1++atO l n,b.2*f n)):=by
 unfold Nj
 rw [List.range_succ,List.flatMap_append]; simp
end Go.Ab
namespace Go.Ab
open Go
def Pw (l:Ce) (N:Nat) (f:Nat->Nat) (g:List B5):Prop:=(l.Terms.length≠0/\PwN g N f)\/(l.Terms.length=0/\N=0/\f 0=prb l.Const.toNat g)
abbrev Grp:=Ce×Nat×(Nat->Nat)
inductive Gs:List Grp->List B5->Prop
 | nil:Gs [] []
 | cons {l:Ce} {N:Nat} {f:Nat->Nat} {g rest:List B5} {gs:List Grp}:g≠[]->(∀a∈g,a.Lin=l)->(∀a∈rest,Gi l a.Lin<0)->Pw l N f g->Gs gs rest->Gs ((l,N,f)::gs) (g++rest)
def Anm (B:List Ent):List Grp->List Ent
 | []=>B
 | q::gs=>Anm (Nj B q.1 q.2.2 (q.2.1+1)) gs
structure Atk (A:List B5):Prop where
 deg:∀a∈A,0<=a.Deg
 lin:∀a∈A,Fh a.Lin=true
 sum:I2 A<=12
 len:A.length<=12
theorem Ay9 {a:Ce} (h:Fh a=true):a.Terms.length<=16/\-1048576<=a.Const/\a.Const<=1048576:=by
 unfold Fh at h
 simp only [C6,decide_eq_true_eq] at h
 exact ⟨h.1.2.2,h.1.1,h.1.2.1⟩
theorem Atk.sub {A B:List B5} (h:Atk (A++B)):Atk A/\Atk B:=by
 have h1:=h.sum
 have h2:=h.len
 rw [Anl] at h1
 rw [List.length_append] at h2
 exact ⟨⟨fun a ha=>h.deg a (by simp [ha]),fun a ha=>h.lin a (by simp [ha]),by omega,by omega⟩,⟨fun a ha=>h.deg a (by simp [ha]),fun a ha=>h.lin a (by simp [ha]),by omega,by omega⟩⟩
end Go.Ab
namespace Go.Ab
open Go
def IsE (A:List B5) (B:List Ent):Prop:=∃gs b,b.Perm A/\Ay7 b/\Gs gs b/\B=Anm [([],1)] gs
end Go.Ab
namespace Go.Ab
open Go
theorem Aza (l m:List B5):C8 (l++m)=C8 l+C8 m:=by unfold C8; simp [List.sum_append]
def ec:List Ent->A8->Nat
 | [],_=>0
 | b::bs,m=>(if B7 ⟨[],b.1⟩ m=0 then b.2 else 0)+ec bs m
theorem Rep.mem {c:Rat} {K:Nat} {ts:List Ag} {bs:List Ent} (h:Rep c K ts bs) {t:Ag} (ht:t∈ts):∃b∈bs,t.Mono=⟨[],b.1⟩/\rq t.Coef=c*(b.2:Rat)/\RB K t.Coef:=by
 obtain ⟨j,hj⟩:=List.getElem?_of_mem ht
 obtain ⟨b,b1,b2⟩:=h.get hj
 exact ⟨b,Bo b1,b2⟩
def Af9 (L:Nat) (p:List Ag):Prop:=∀t∈p,∃z:Int,rq t.Coef=(z:Rat)/\Bj z.natAbs<=L
theorem Azb {a:Aq} {z:Int} (ha:Fu a) (h:rq a=(z:Rat)):a=B4 (decide (z<0)) z.natAbs 1:=by
 refine Aal ha (Nd _ _ _ (by decide)) ?_
 rw [h,I0 _ _ _ (by decide),Af5]
 congr 1
 unfold sg
 by_cases h:z<0
 .rw [Ak h,if_pos rfl]; omega
 .rw [Al h,if_neg (by decide)]; omega
theorem Azc {a:Aq} {z:Int} {L:Nat} (ha:Fu a) (h:rq a=(z:Rat)) (b:Bj z.natAbs<=L):RB (L+1) a:=by
 rw [Azb ha h]
 exact Kl _ _ _ _ (by omega) (by rw [O1]; omega) (by omega)
theorem Af9.of {p:List Ag} {L:Nat} (hc:CP p) (h:∀m,∃z:Int,cf p m=(z:Rat)/\Bj z.natAbs<=L):Af9 L p:=fun t ht=>by
 obtain ⟨z,b,z2⟩:=h t.Mono
 exact ⟨z,by rw [<-Aap hc ht]; exact b,z2⟩
structure IP (x:Bh) (n L:Nat) (f:A8->Rat) (R:List Ag):Prop where
 cp:CP R
 val:∀m,cf R m=f m
 mo:∀t∈R,Gc x t.Mono
 len:R.length<=n
 int:Af9 L R
theorem IP.can {x:Bh} {n L:Nat} {f:A8->Rat} {R:List Ag} (h:IP x n L f R) (c:n<=1000) (g:L<=1000000):D3 x R :=
 D3.of h.cp h.mo (fun t ht=>by
  obtain ⟨z,b,z2⟩:=h.int t ht
  exact (Azc (h.cp.coe t ht).1 b z2).mono (by omega)) (by have:=h.len; omega)
theorem IP.ext {x y:Bh} {n L b c:Nat} {f g:A8->Rat} {R S:List Ag} (h:IP x n L f R) (h':IP y b c g S) (e:∀m,f m=g m):R=S:=CP.ext h.cp h'.cp fun m=>by rw [h.val,h'.val,e]
end Go.Ab
namespace Go.Ab
open Go
def cl:List Bw->Int->Int
 | [],_=>0
 | t::l,v=>(if t.Var=v then t.Coef else 0)+cl l v
theorem W5 (l m:List Bw) (v:Int):cl (l++m) v=cl l v+cl m v:=by
 induction l with
 | nil=>simp [cl]
 | cons t l ih=>simp only [List.cons_append,cl,ih]; omega
theorem W6 {l:List Bw} {v:Int} (h:∀t∈l,t.Var≠v):cl l v=0:=by
 induction l with
 | nil=>rfl
 | cons t l ih=>simp only [cl]; rw [if_neg (h t (by simp)),ih fun u hu=>h u (by simp [hu])]; rfl
structure Tx (L:List Bw):Prop where
 srt:L.Pairwise fun a b=>a.Var<b.Var
 nz:∀t∈L,t.Coef≠0
theorem Tx.ext:∀{L M:List Bw},Tx L->Tx M->(∀v,cl L v=cl M v)->L=M:=by
 intro L
 induction L with
 | nil=>
  intro M _ b h
  cases M with
  | nil=>rfl
  | cons t M=>
   have:=h t.Var
   simp only [cl,if_true] at this
   rw [W6 fun u hu=>by have:=(List.pairwise_cons.1 b.srt).1 u hu; omega] at this
   exact (b.nz t (by simp) (by omega)).elim
 | cons s L ih=>
  intro M c b h
  have g:cl (s::L) s.Var=s.Coef:=by
   simp only [cl,if_true]
   rw [W6 fun u hu=>by have:=(List.pairwise_cons.1 c.srt).1 u hu; omega]; omega
  cases M with
  | nil=>
   have:=h s.Var
   rw [g] at this
   exact (c.nz s (by simp) (by simpa [cl] using this)).elim
  | cons t M=>
   have ht:cl (t::M) t.Var=t.Coef:=by
    simp only [cl,if_true]
    rw [W6 fun u hu=>by have:=(List.pairwise_cons.1 b.srt).1 u hu; omega]; omega
   have f:s.Var=t.Var:=by
    rcases Int.lt_trichotomy s.Var t.Var with k | k | k
    .have h1:=h s.Var
     rw [g,W6 (l:=t::M) fun u hu=>by
      rcases List.mem_cons.1 hu with rfl | hu
      .omega
      .have:=(List.pairwise_cons.1 b.srt).1 u hu; omega] at h1
     exact (c.nz s (by simp) h1).elim
    .exact k
    .have h1:=h t.Var
     rw [ht,W6 (l:=s::L) fun u hu=>by
      rcases List.mem_cons.1 hu with rfl | hu
      .omega
      .have:=(List.pairwise_cons.1 c.srt).1 u hu; omega] at h1
     exact (b.nz t (by simp) h1.symm).elim
   have hc:s.Coef=t.Coef:=by rw [<-g,<-ht,h,f]
   have e:s=t:=by cases s; cases t; simp only at f hc; rw [f,hc]
   subst e
   rw [ih (M:=M) ⟨(List.pairwise_cons.1 c.srt).2,fun u hu=>c.nz u (by simp [hu])⟩ ⟨(List.pairwise_cons.1 b.srt).2,fun u hu=>b.nz u (by simp [hu])⟩ fun v=>by
    have:=h v
    simp only [cl] at this; omega]
def Aga (c:Int) (L:List Bw):Ce×Int:=if Fh ⟨c,L⟩=true then (⟨c,L⟩,0) else (⟨0,[]⟩,9)
end Go.Ab
namespace Go.Ab
open Go
end Go.Ab
namespace Go.Ab
open Go
theorem Azd {a:Ce} (h:Fh a=true):∀t∈a.Terms,-1048576<=t.Coef/\t.Coef<=1048576:=by
 intro t ht
 obtain ⟨j,hj⟩:=List.getElem?_of_mem ht
 unfold Fh at h
 rw [C6,List.all_eq_true] at h
 have:=h.2 (t,j) (List.mk_mem_zipIdx_iff_getElem?.2 hj)
 unfold Lo at this
 simp only [C6,decide_eq_true_eq] at this
 exact ⟨this.1.2.2.2.1,this.1.2.2.2.2⟩
end Go.Ab
namespace Go.Ab
open Go
end Go.Ab
namespace Go.Ab
open Go
def NoF (x:Bh) (D:Nat) (m:A8):Prop:=Gc x m/\m.Factors = []/\C8 m.Atoms<=(D:Nat)
theorem NoF.mono {x:Bh} {D b:Nat} {m:A8} (h:NoF x D m) (hd:D<=b):NoF x b m:=⟨h.1,h.2.1,by have:=h.2.2; omega⟩
theorem Gs.nil_of {c:List Grp} {A:List B5} (h:Gs c A):A = []->c = []:=by
 cases h with
 | nil=>exact fun _=>rfl
 | cons b _ _ _ _=>exact fun e=>absurd (List.append_eq_nil_iff.1 e).1 b
theorem IsE.one {a:B5} {B:List Ent} (h:IsE [a] B):B.length<=1:=by
 obtain ⟨gs,G,x,I,q,rfl⟩:=h
 have E:G = [a]:=List.perm_singleton.1 x
 rw [E] at q
 generalize c:[a]=X at q
 cases q with
 | nil=>cases c
 | @cons l N f g rest gs s M J z D=>
  have L:g.length+rest.length=1:=by
   have:=congrArg List.length c
   simpa using this.symm
  have y:g.length=1:=by
   have:=List.length_pos_iff.2 s
   have:rest.length≠1\/g.length=0:=by omega
   omega
  have b:rest = []:=List.length_eq_zero_iff.1 (by omega)
  subst b
  rw [List.append_nil] at c
  subst c
  have u:=D.nil_of rfl
  subst u
  .show (Nj [([],1)] l f (N+1)).length<=1
   have key:∀n,(∀i j,i<n->j<n->f i≠0->f j≠0->i=j)->(Nj [(([],1):Ent)] l f n).length<=1/\((Nj [(([],1):Ent)] l f n).length=1->∃i,i<n/\f i≠0):=by
    intro n
    induction n with
    | zero=>intro _; simp [Nj]
    | succ n ih=>
     intro h
     obtain ⟨i1,i2⟩:=ih fun i j hi hj=>h i j (by omega) (by omega)
     rw [Ay8,List.length_append]
     by_cases h0:f n=0
     .rw [if_pos h0]
      refine ⟨by simpa using i1,fun e=>?_⟩
      obtain ⟨i,a1,a2⟩:=i2 (by simpa using e)
      exact ⟨i,by omega,a2⟩
     .rw [if_neg h0]
      have:(Nj [(([],1):Ent)] l f n).length≠1:=fun e=>by
       obtain ⟨i,a1,a2⟩:=i2 e
       have:=h i n (by omega) (by omega) a2 h0
       omega
      refine ⟨by simp only [List.length_map,List.length_singleton]; omega,fun _=>⟨n,by omega,h0⟩⟩
   refine (key (N+1) ?_).1
   rcases z with ⟨_,h2⟩ | ⟨_,h2,_⟩
   .have e:∀k,k<N+1->f k=if k=N then 1 else 0:=by
     refine Ay1 fun n _=>?_
     rw [h2.2.2 n]
     have A:N=a.Deg.toNat:=by have:=h2.1; simpa [I2] using this
     rw [Af8 (k:=N) (by omega) (fun j hj=>by simp [hj])]
     simp [prb,A]
    intro i j hi hj h1 h2
    rw [e i hi] at h1
    rw [e j hj] at h2
    split at h1
    .split at h2
     .omega
     .exact (h2 rfl).elim
    .exact (h1 rfl).elim
   .intro i j hi hj _ _
    omega
end Go.Ab
namespace Go.Ab
open Go
theorem Ano {l:List B5} (h:∀a∈l,1<=a.Deg):0<=C8 l:=by
 induction l with
 | nil=>simp [C8]
 | cons a l ih=>
  have h1:=h a (by simp)
  have h2:=ih fun b hb=>h b (by simp [hb])
  unfold C8 at *
  simp only [List.map_cons,List.sum_cons]; omega
theorem Anp {l:List B5} (h:∀a∈l,1<=a.Deg) (j:Nat):0<=C8 (l.take j)/\C8 (l.take j)<=C8 l:=by
 refine ⟨Ano fun a ha=>h a (List.mem_of_mem_take ha),?_⟩
 have e:=Aza (l.take j) (l.drop j)
 rw [List.take_append_drop] at e
 have:=Ano (l:=l.drop j) fun a ha=>h a (List.mem_of_mem_drop ha)
 omega
noncomputable def eB (A:List B5):List Ent:=open Classical in if h:∃B,IsE A B then Classical.choose h else []
end Go.Ab
namespace Go.Ab
open Go
end Go.Ab
namespace Go.Ab
open Go
end Go.Ab
namespace Go.Ab
open Go
theorem IP.up {x:Bh} {n b L c:Nat} {f g:A8->Rat} {R:List Ag} (h:IP x n L f R) (j:n<=b) (k:L<=c) (e:∀m,f m=g m):IP x b c g R :=
 ⟨h.cp,fun m=>by rw [h.val,e],h.mo,Nat.le_trans h.len j,fun t ht=>by
  obtain ⟨z,i,z2⟩:=h.int t ht
  exact ⟨z,i,by omega⟩⟩
def cs (K:Nat):Nat->Nat
 | 0=>0
 | j+1=>cs K j+(1+min j (K-j))
end Go.Ab
namespace Go.Ab
open Go
theorem Anq {α:Type} (f:α->Int) (l:List α) (h:∀j x,l[j]? = some x->Jk f l x j=true):l.Pairwise fun a b=>f a<f b:=by
 have step:∀j x y,l[j]? = some x->l[j+1]? = some y->f x<f y:=by
  intro j x y hx hy
  have:=h (j+1) y hy
  unfold Jk at this
  rw [Nat.add_sub_cancel,hx] at this
  simpa using this
 have c:∀d j x y,l[j]? = some x->l[j+d+1]? = some y->f x<f y:=by
  intro d
  induction d with
  | zero=>exact fun j x y h1 h2=>step j x y h1 h2
  | succ d ih=>
   intro j x y h1 h2
   have g:l[j+d+1]? = some (l[j+d+1]'(by have:=Df h2; omega)):=Bn _
   have a1:=ih j x _ h1 g
   have a2:=step _ _ _ g h2
   omega
 rw [List.pairwise_iff_getElem]
 intro i j hi hj k
 obtain ⟨d,hd⟩:∃d,j=i+d+1:=⟨j-i-1,by omega⟩
 subst hd
 exact c d i _ _ (Bn hi) (Bn hj)
theorem Aze {a:Ce} (h:Fh a=true):Tx a.Terms:=by
 unfold Fh at h
 rw [C6] at h
 have ht:∀j x,a.Terms[j]? = some x->Lo a.Terms x j=true:=fun j x hx=>Gz h.2 hx
 refine ⟨Anq (·.Var) a.Terms fun j x hx=>?_,fun t b=>?_⟩
 .have:=ht j x hx
  unfold Lo at this
  rw [C6] at this
  exact this.2
 .obtain ⟨j,hj⟩:=List.getElem?_of_mem b
  have:=ht j t hj
  unfold Lo at this
  rw [C6,decide_eq_true_eq] at this
  exact this.1.2.2.1
theorem Azf {α:Type} (g:α->Int) (b:List α) (n:Nat) (v:Int) (q:n<=b.length) (hb:n<=1000000) :
  ∃k:Nat,k<=n/\(∀(i:Nat) (y:α),i<k->b[i]? = some y->g y<v)/\(∀y,k<n->b[k]? = some y->v<=g y) /\
   Am (S:=Int) (E:=Int) (fun v2=>
    bif (decide (v2<((n:Nat):Int))) then (
    (D5 b 0 n v2).bind fun v3=>
    bif (decide (g v3<v)) then some (.inl (Ac (v2+1)))
    else some (.inr v2))
    else some (.inr v2)) 0=some (k:Int):=by
 obtain ⟨e,h1,k,h2,h3,j,f⟩:=Gu (step:=(fun v2:Int=>
    bif (decide (v2<((n:Nat):Int))) then (
    (D5 b 0 n v2).bind fun v3=>
    bif (decide (g v3<v)) then some (.inl (Ac (v2+1)))
    else some (.inr v2))
    else some (.inr v2):Int->Option (Int⊕Int))) (fun s=>∃k:Nat,s=(k:Int)/\k<=n/\∀(i:Nat) (y:α),i<k->b[i]? = some y->g y<v) (fun s=>n-s.toNat)
  (fun e=>∃k:Nat,e=(k:Int)/\k<=n/\(∀(i:Nat) (y:α),i<k->b[i]? = some y->g y<v)/\(∀y,k<n->b[k]? = some y->v<=g y)) (by
   rintro s ⟨k,rfl,hk,c⟩
   rcases Nat.lt_or_ge k n with h | h
   .have hx:b[k]? = some (b[k]'(by omega)):=Bn _
    generalize b[k]'_=x at hx
    rw [Ak (by omega:(k:Int)<(n:Int)),cond_true,Mi (l:=b) (off:=0) (n:=n) (i:=(k:Int)) rfl h (by rw [Nat.zero_add]; exact hx),Ad]
    by_cases e:g x<v
    .rw [Ak e,cond_true,Cz h (by omega)]
     refine .inl ⟨_,rfl,⟨k+1,rfl,by omega,fun i y hi hy=>?_⟩,by simp only [Int.toNat_natCast]; omega⟩
     rcases Nat.lt_or_ge i k with h' | h'
     .exact c i y h' hy
     .have:i=k:=by omega
      subst this
      rw [hx] at hy; cases hy; exact e
    .rw [Al e,cond_false]
     exact .inr ⟨_,rfl,k,rfl,hk,c,fun y _ hy=>by rw [hx] at hy; cases hy; omega⟩
   .have:k=n:=by omega
    subst this
    exact .inr ⟨(k:Int),by rw [Al (by omega)]; rfl,k,rfl,hk,c,fun y hy=>by omega⟩) 0 ⟨0,rfl,by omega,fun i y hi=>by omega⟩
 subst h2
 exact ⟨k,h3,j,f,h1⟩
theorem Azg {α:Type} {L:List α} {k:Nat} {t:α} (h:L[k]? = some t):L.drop k=t::L.drop (k+1):=L9 h
theorem Agb (L:List Bw) (k:Nat) (v:Int):cl L v=cl (L.take k) v+cl (L.drop k) v:=by
 rw [<-W5,List.take_append_drop]
structure LSt (M:Int) (n:Nat) (b:List Bw):Prop where
 le:n<=b.length
 asc:Tx (b.take n)
 bd:∀t∈b.take n,-M<=t.Coef/\t.Coef<=M
theorem Azh {M Mc:Int} {n:Nat} {b:List Bw} (h:LSt M n b) {v c:Int} (hc : -Mc<=c/\c<=Mc) (ah:0<=M) (hM:M+Mc<=1000000000000) (hb:b.length<=100000) :
  ∃(n':Nat) (o:List Bw),Sv n v c b=some (n',o)/\o.length<=b.length+1/\LSt (M+Mc) n' o/\∀w,cl (o.take n') w=cl (b.take n) w+(if v=w then c else 0):=by
 have ag:=h.le
 obtain ⟨k,k1,k2,k3,k4⟩:=Azf (fun t:Bw=>t.Var) b n v h.le (by omega)
 have ad:(b.take n).length=n:=by rw [List.length_take]; omega
 have f:∀i,i<n->(b.take n)[i]? = b[i]?:=fun i hi=>by rw [List.getElem?_take,if_pos hi]
 have af:0<=Mc:=by omega
 unfold Sv
 rw [k4,Ad]
 by_cases Y:∃t,k<n/\b[k]? = some t/\t.Var=v
 .obtain ⟨t,h1,L,hv⟩:=Y
  have h2:(b.take n)[k]? = some t:=by rw [f k h1]; exact L
  have ae:=h.bd t (Bo h2)
  have w:Ac (t.Coef+c)=t.Coef+c:=by rw [Ac,Bz] <;> omega
  have a6:D5 b 0 n (k:Int)=some t:=Mi rfl h1 (by rw [Nat.zero_add]; exact L)
  have A:Cd b (((0:Nat):Int)+(k:Int)) (Bw.mk t.Var (t.Coef+c))=b.set k ⟨t.Var,t.Coef+c⟩:=Fy (n:=k) (by omega) _
  have ab:(b.set k ⟨t.Var,t.Coef+c⟩)[k]? = some ⟨t.Var,t.Coef+c⟩:=by rw [List.getElem?_set,if_pos rfl,if_pos (Df L)]
  have J:D5 (b.set k ⟨t.Var,t.Coef+c⟩) 0 n (k:Int)=some ⟨t.Var,t.Coef+c⟩:=Mi rfl h1 (by rw [Nat.zero_add]; exact ab)
  simp only [Ak (by omega:(k:Int)<(n:Int)),cond_true,a6,Ad,D8 hv,w,A,J]
  have B:(b.set k ⟨t.Var,t.Coef+c⟩).take n=(b.take n).set k ⟨t.Var,t.Coef+c⟩:=by rw [List.take_set]
  have I:(b.set k ⟨t.Var,t.Coef+c⟩).length=b.length:=List.length_set
  have hd:=Azg h2
  by_cases E:t.Coef+c=0
  .rw [D8 E,cond_true]
   have R:Nw n (k:Int)=some k:=by
    unfold Nw
    rw [if_pos (by omega)]; simp
   rw [R,Ad]
   obtain ⟨o,d1,d2,d3,d4⟩:=Anb 16 (b.set k ⟨t.Var,t.Coef+c⟩) n k (by omega) h1 (by rw [I]; omega) (by omega)
   have aa:((b.take n).set k ⟨t.Var,t.Coef+c⟩).take k++((b.take n).set k ⟨t.Var,t.Coef+c⟩).drop (k+1)=(b.take n).take k++(b.take n).drop (k+1):=by
    rw [List.take_set_of_le (Nat.le_refl _),List.drop_set_of_lt (by omega)]
   rw [B,aa] at d4
   have z:((b.take n).take k++(b.take n).drop (k+1)).Sublist (b.take n):=by
    have h1:((b.take n).drop (k+1)).Sublist ((b.take n).drop k):=by rw [hd]; exact List.sublist_cons_self _ _
    have:=(List.Sublist.refl ((b.take n).take k)).append h1
    rwa [List.take_append_drop] at this
   refine ⟨n-1,o,d1,by omega,⟨d2,by rw [d4]; exact ⟨h.asc.srt.sublist z,fun u hu=>h.asc.nz u (z.subset hu)⟩,fun u hu=>?_⟩,fun w=>?_⟩
   .rw [d4] at hu
    have:=h.bd u (z.subset hu); omega
   .rw [d4,W5,Agb (b.take n) k w,hd]
    simp only [cl,hv]
    split <;> omega
  .rw [Co E,cond_false]
   have U:∀w,cl ((b.take n).set k ⟨t.Var,t.Coef+c⟩) w=cl (b.take n) w+(if v=w then c else 0):=fun w=>by
    rw [List.set_eq_take_append_cons_drop,if_pos (by omega),W5,Agb (b.take n) k w,hd]
    simp only [cl,hv]
    split <;> omega
   refine ⟨n,b.set k ⟨t.Var,t.Coef+c⟩,rfl,by omega,⟨by omega,?_,fun u hu=>?_⟩,fun w=>by rw [B]; exact U w⟩
   .rw [B]
    refine ⟨?_,fun u hu=>?_⟩
    .rw [List.pairwise_iff_getElem]
     intro i j hi hj a8
     have g:∀(q:Nat) (hq:q<((b.take n).set k ⟨t.Var,t.Coef+c⟩).length),(((b.take n).set k ⟨t.Var,t.Coef+c⟩)[q]).Var=((b.take n)[q]'(by rw [List.length_set] at hq; exact hq)).Var:=by
      intro q hq
      rw [List.getElem_set]
      split
      .rename_i e
       subst e
       have:=Bn (l:=b.take n) (i:=k) (by omega)
       rw [h2] at this
       rw [<-Option.some.inj this]
      .rfl
     rw [g i hi,g j hj]
     exact (List.pairwise_iff_getElem.1 h.asc.srt) i j _ _ a8
    .rcases List.mem_or_eq_of_mem_set hu with hu | rfl
     .exact h.asc.nz u hu
     .exact E
   .rw [B] at hu
    rcases List.mem_or_eq_of_mem_set hu with hu | rfl
    .have:=h.bd u hu; omega
    .show -(M+Mc)<=t.Coef+c/\t.Coef+c<=M+Mc
     omega
 .have S:∀t,k<n->b[k]? = some t->t.Var≠v:=fun t hk ht e=>Y ⟨t,hk,ht,e⟩
  have hq:(bif decide ((k:Int)<(n:Int)) then (D5 b 0 n (k:Int)).bind fun v5=>some (v5.Var==v) else some false)=some false:=by
   by_cases h1:k<n
   .have hx:b[k]? = some (b[k]'(by omega)):=Bn _
    generalize b[k]'_=x at hx
    rw [Ak (by omega:(k:Int)<(n:Int)),cond_true,Mi (l:=b) (off:=0) (n:=n) (i:=(k:Int)) rfl h1 (by rw [Nat.zero_add]; exact hx),Ad,Co (S x h1 hx)]
   .rw [Al (by omega)]; rfl
  erw [hq]
  simp only [Ad,cond_false]
  by_cases E:c=0
  .rw [D8 E,cond_true]
   refine ⟨n,b,rfl,by omega,⟨h.le,h.asc,fun u hu=>?_⟩,fun w=>?_⟩
   .have:=h.bd u hu; omega
   .rw [E]
    split <;> omega
  .rw [Co E,cond_false]
   have ac:Js 16 b n [(Bw.mk 0 0)]=some (C3 b n [(Bw.mk 0 0)],n+1):=by
    unfold Js
    rw [if_pos ⟨h.le,by simp; omega⟩]; rfl
   rw [ac,Ad]
   dsimp only
   obtain ⟨s,g1,g2,g3⟩:=Af4 b n k (Bw.mk 0 0) ⟨v,c⟩ h.le k1 (by omega)
   erw [g1]
   rw [Ad]
   have X:s[k]? = some (s[k]'(by omega)):=Bn _
   rw [Mi (l:=s) (off:=0) (n:=n+1) (i:=(k:Int)) rfl (by omega) (by rw [Nat.zero_add]; exact X),Ad]
   have A:Cd s (((0:Nat):Int)+(k:Int)) (Bw.mk v c)=s.set k ⟨v,c⟩:=Fy (n:=k) (by omega) _
   rw [A]
   refine ⟨n+1,s.set k ⟨v,c⟩,rfl,by rw [List.length_set]; omega,⟨by rw [List.length_set]; omega,?_,fun u hu=>?_⟩,fun w=>?_⟩
   .rw [g3]
    refine ⟨?_,fun u hu=>?_⟩
    .rw [List.pairwise_append]
     refine ⟨h.asc.srt.sublist (List.take_sublist _ _),?_,?_⟩
     .rw [List.pairwise_cons]
      refine ⟨fun u hu=>?_,h.asc.srt.sublist (List.drop_sublist _ _)⟩
      obtain ⟨i,hi⟩:=List.getElem?_of_mem hu
      rw [List.getElem?_drop] at hi
      have Z:=Df hi
      have D:k<n:=by omega
      have hx:b[k]? = some (b[k]'(by omega)):=Bn _
      have a1:=k3 _ D hx
      have a2:=S _ D hx
      by_cases e:i=0
      .subst e
       rw [Nat.add_zero,f k D,hx] at hi
       cases hi
       show v<_
       omega
      .have V:k<(b.take n).length:=by omega
       have a3:=(List.pairwise_iff_getElem.1 h.asc.srt) k (k+i) V Z (by omega)
       rw [Bn Z] at hi
       cases hi
       have a4:(b.take n)[k]=b[k]'(by omega):=by
        have:=f k D
        rw [Bn V,hx] at this
        exact Option.some.inj this
       rw [a4] at a3
       show v<_
       omega
     .intro u hu y hy
      obtain ⟨i,hi⟩:=List.getElem?_of_mem hu
      rw [List.getElem?_take] at hi
      split at hi
      .rename_i a7
       have G:i<n:=by omega
       rw [f i G] at hi
       have a1:=k2 i u a7 hi
       rcases List.mem_cons.1 hy with rfl | hy
       .exact a1
       .obtain ⟨q,hq⟩:=List.getElem?_of_mem hy
        rw [List.getElem?_drop] at hq
        have N:=Df hq
        have a3:=(List.pairwise_iff_getElem.1 h.asc.srt) i (k+q) (by omega) N (by omega)
        rw [Bn N] at hq
        cases hq
        have a4:(b.take n)[i]'(by omega)=u:=by
         have:=f i G
         rw [Bn (by omega),hi] at this
         exact Option.some.inj this
        rw [a4] at a3
        exact a3
      .cases hi
    .rw [List.mem_append,List.mem_cons] at hu
     rcases hu with hu | rfl | hu
     .exact h.asc.nz u (List.mem_of_mem_take hu)
     .exact E
     .exact h.asc.nz u (List.mem_of_mem_drop hu)
   .rw [g3,List.mem_append,List.mem_cons] at hu
    rcases hu with hu | rfl | hu
    .have:=h.bd u (List.mem_of_mem_take hu); omega
    .show -(M+Mc)<=c/\c<=M+Mc
     omega
    .have:=h.bd u (List.mem_of_mem_drop hu); omega
   .rw [g3,W5,Agb (b.take n) k w]
    simp only [cl]
    omega
theorem Azi (c:Int) (L:List Bw):Vn ⟨c,L⟩=some (Aga c L):=by
 unfold Vn Aga
 rw [Alx,Ad]
 cases h:Fh ⟨c,L⟩ <;> simp
end Go.Ab
namespace Go.Ab
open Go
theorem Azj (x:Rat):E5 x<0↔x<0:=by
 unfold E5
 split
 .rename_i h; exact ⟨fun _=>h,fun _=>by decide⟩
 .rename_i h
  split <;> exact ⟨fun h'=>absurd h' (by decide),fun h'=>absurd h' h⟩
theorem Azk (x:Rat):E5 x>0↔0<x:=by
 unfold E5
 split
 .rename_i h; exact ⟨fun h'=>absurd h' (by decide),fun h'=>by grind⟩
 .rename_i h
  split
  .rename_i h'; exact ⟨fun _=>h',fun _=>by decide⟩
  .rename_i h'; exact ⟨fun h=>absurd h (by decide),fun h=>absurd h h'⟩
end Go.Ab
namespace Go.Ab
open Go
theorem Aa8 (a:Aq):(⟨a.Neg,a.Num,a.Den⟩:Aq)=a:=rfl
end Go.Ab
namespace Go.Ab
open Go
end Go.Ab
namespace Go.Ab
open Go
def Agc (x:Bh) (m:A8):Int:=Ci x.Data x.Vars x.Res m.Factors+C8 m.Atoms
structure W7 (x:Bh) (m:A8):Prop where
 fac:∀f∈m.Factors,1<=Di x.Data x.Vars x.Res f
 asc:m.Factors.Pairwise fun a b=>a.Var<b.Var
 atm:∀a∈m.Atoms,1<=a.Deg/\Fh a.Lin=true/\a.Lin.Terms.length≠0/\Jl x.Vars x.Res a.Lin=true
 srt:m.Atoms.Pairwise fun a b=>Gi a.Lin b.Lin<0
 deg:Agc x m<=6
theorem Gc.f {x:Bh} {m:A8} (h:Gc x m):W7 x m:=by
 have hc:=h.1
 unfold Hc at hc
 rw [C6,C6,decide_eq_true_eq] at hc
 obtain ⟨⟨h1,h2⟩,h3⟩:=hc
 have g1:∀j f,m.Factors[j]? = some f->1<=Di x.Data x.Vars x.Res f/\Jk (·.Var) m.Factors f j=true:=fun j f hj=>by
  have:=Gz h1 hj
  unfold Mb at this
  rw [C6,decide_eq_true_eq] at this
  exact this
 have g2:∀j a,m.Atoms[j]? = some a->(1<=a.Deg/\Fh a.Lin=true/\a.Lin.Terms.length≠0/\Jl x.Vars x.Res a.Lin=true)/\O7 m.Atoms a j=true:=fun j a hj=>by
  have:=Gz h2 hj
  unfold J3 at this
  simp only [C6,decide_eq_true_eq,Bool.not_eq_true',beq_eq_false_iff_ne,ne_eq] at this
  exact ⟨⟨this.1.1.1.1,this.1.1.1.2,this.1.1.2,this.1.2⟩,this.2⟩
 refine ⟨fun f hf=>?_,Anq _ _ fun j f hj=>(g1 j f hj).2,fun a ha=>?_,?_,h3⟩
 .obtain ⟨j,hj⟩:=List.getElem?_of_mem hf
  exact (g1 j f hj).1
 .obtain ⟨j,hj⟩:=List.getElem?_of_mem ha
  exact (g2 j a hj).1
 .have step:∀j x y,m.Atoms[j]? = some x->m.Atoms[j+1]? = some y->Gi x.Lin y.Lin<0:=by
   intro j x y hx hy
   have:=(g2 (j+1) y hy).2
   unfold O7 at this
   rw [Nat.add_sub_cancel,hx] at this
   simpa using this
  have b:∀d j x y,m.Atoms[j]? = some x->m.Atoms[j+d+1]? = some y->Gi x.Lin y.Lin<0:=by
   intro d
   induction d with
   | zero=>exact fun j x y h1 h2=>step j x y h1 h2
   | succ d ih=>
    intro j x y h1 h2
    have c:m.Atoms[j+d+1]? = some (m.Atoms[j+d+1]'(by have:=Df h2; omega)):=Bn _
    exact Ay6.trs _ _ _ (ih j x _ h1 c) (step _ _ _ c h2)
  rw [List.pairwise_iff_getElem]
  intro i j hi hj g
  obtain ⟨d,hd⟩:∃d,j=i+d+1:=⟨j-i-1,by omega⟩
  subst hd
  exact b d i _ _ (Bn hi) (Bn hj)
theorem W7.fsum0 {x:Bh} {m:A8} (h:W7 x m):0<=Ci x.Data x.Vars x.Res m.Factors:=by
 have key:∀l:List Cj,(∀f∈l,1<=Di x.Data x.Vars x.Res f)->0<=Ci x.Data x.Vars x.Res l:=fun l=>by
  induction l with
  | nil=>intro _; simp [Ci]
  | cons f l ih=>
   intro b
   have h1:=b f (by simp)
   have h2:=ih fun g c=>b g (by simp [c])
   unfold Ci at *
   simp only [List.map_cons,List.sum_cons]; omega
 exact key _ h.fac
theorem Azl {l:List B5} (h:∀a∈l,1<=a.Deg):C8 l=(I2 l:Nat)/\l.length<=I2 l:=by
 induction l with
 | nil=>exact ⟨rfl,Nat.le_refl _⟩
 | cons a l ih=>
  obtain ⟨e,c⟩:=ih fun b hb=>h b (by simp [hb])
  have f:=h a (by simp)
  unfold C8 at *
  simp only [List.map_cons,List.sum_cons,I2,List.length_cons]
  omega
theorem W7.as {x:Bh} {m:A8} (h:W7 x m):C8 m.Atoms=(I2 m.Atoms:Nat)/\m.Atoms.length<=I2 m.Atoms:=Azl fun a ha=>(h.atm a ha).1
end Go.Ab
namespace Go.Ab
open Go
end Go.Ab
namespace Go.Ab
open Go
structure PX (x:Bh) (n k:Nat) (R:List Ag):Prop where
 cp:CP R
 mo:∀t∈R,Gc x t.Mono
 rb:∀t∈R,RB k t.Coef
 len:R.length<=n
theorem PX.can {x:Bh} {n k:Nat} {R:List Ag} (h:PX x n k R) (b:n<=1000) (hk:k<=1048576):D3 x R :=
 D3.of h.cp h.mo (fun t ht=>(h.rb t ht).mono hk) (Nat.le_trans h.len b)
theorem PX.up {x:Bh} {n b k c:Nat} {R:List Ag} (h:PX x n k R) (f:n<=b) (hk:k<=c):PX x b c R:=⟨h.cp,h.mo,fun t ht=>(h.rb t ht).mono hk,Nat.le_trans h.len f⟩
end Go.Ab
namespace Go.Ab
open Go
theorem Anr (m:A8) (b:Dl m):Tb m=some (m,m.Factors,m.Atoms):=by
 have g:=b.nf
 have f:=b.na
 unfold Tb
 refine D9 m.Factors (fun j=>((j:Int),(m.Factors.take j))) rfl (by omega) ?_ ?_
 .intro j x hj hx h1 h2 h3
  have c:=Bo hx
  have:=b.fi x c
  simp only [h1,h2,h3,cond_true,Ad,Ana 4000000 x.Index (by omega) (by omega)]
  rw [Cu (by simp; omega),Ad,Cw hx]
 .intro h1
  refine ⟨m.Factors,by simp,?_⟩
  dsimp only
  refine D9 m.Atoms (fun j=>((j:Int),(m.Atoms.take j))) rfl (by omega) ?_ ?_
  .intro j x hj hx h1 h2 h3
   have c:=Bo hx
   have:=b.al x c
   simp only [h1,h2,h3,cond_true,Ad,Ss]
   rw [Cu (by simp; omega),Ad,Ad,Cu (by simp; omega),Ad,Cw hx]; rfl
  .intro h1
   exact ⟨m.Atoms,by simp,rfl⟩
theorem Azm {α:Type} (b:List α) (z:α):C3 b b.length [z]=b++[z]:=by
 unfold C3
 simp
theorem Ans {α:Type} (b:List α) (k:Nat) (z x:α) (hk:k<=b.length) (hb:b.length<=1000000) :
  ∃o:List α,((Gv (b++[z]).length (Ac ((k:Int)+1)) (((b++[z]).length:Nat):Int)).bind fun v8=>
    match v8 with
    | .inl v9=>
     (Gp (b++[z]).length (k:Int) (((b++[z]).length:Nat):Int)).bind fun c=>
     (I7 (b++[z]) (0+v9.1) (v9.2-v9.1) (0+c.1) (c.2-c.1)).bind fun f=>some f
    | .inr _=>(Gp (b++[z]).length (k:Int) (((b++[z]).length:Nat):Int)).bind fun v12=>some (b++[z]))=some o/\o.length=b.length+1/\o.set k x=b.take k++x::b.drop k:=by
 obtain ⟨o,h1,h2,h3⟩:=Af4 b b.length k z x (Nat.le_refl _) hk hb
 rw [Azm] at h1
 have g:(b++[z]).length=b.length+1:=by simp
 rw [Nat.max_eq_right (by omega)] at h2
 refine ⟨o,?_,h2,?_⟩
 .rw [g]; exact h1
 .rw [List.take_length,List.take_of_length_le (by rw [List.length_set]; omega)] at h3
  exact h3
open Classical in
theorem Azn {R:List Ag} {m:A8} (h:CP R) (hv:∀a,cf R a=if m=a then (1:Rat) else 0):R = [⟨cR 1,m⟩]:=by
 have h1:rq (cR 1)=1:=by rw [Af6]; rfl
 refine CP.ext h ⟨List.pairwise_singleton _ _,fun t ht=>by simp only [List.mem_singleton] at ht; subst ht; exact ⟨Ang 1,by show rq (cR 1)≠0; rw [h1]; decide⟩⟩ fun a=>?_
 rw [hv]
 simp only [cf,h1]
 by_cases e:m=a
 .rw [if_pos e,if_pos (Ga.2 e)]; grind
 .rw [if_neg e,if_neg (fun h=>e (Ga.1 h))]; grind
theorem Azo (K:Nat):PSt K 0 []:=⟨by simp,by simpa using CP.nil,fun t ht=>by simp at ht⟩
theorem Ant:RB 3 (cR 1):=(Af3 (k:=1) (by rw [O1]; decide) (by decide)).mono (by decide)
theorem Anu:rq (cR 1)=1:=by rw [Af6]; rfl
open Classical in
theorem Anv {m:A8} (hm:Dl m):∃n o,Ja 0 m (cR 1) []=some (n,o)/\I8 o n=some [⟨cR 1,m⟩]:=by
 obtain ⟨n,o,h1,h2,h3,h4⟩:=Aa4 (Azo 0) Ant hm (by decide) (by simp)
 refine ⟨n,o,h1,?_⟩
 have hle:=h3.le
 have e:I8 o n=some (o.take n):=by
  unfold I8
  rw [if_pos hle]
 rw [e,Azn (m:=m) h3.cp fun a=>by
  rw [h4]
  simp only [List.take_nil,cf,Anu]
  split <;> grind]
theorem Azp {x:Bh} (G:CSz x) (I:Fi x) {F:List Cj} {v:Int} {i:A9} (g:Dl ⟨F++[⟨v,i⟩],[]⟩) (hd:1<=Di x.Data x.Vars x.Res ⟨v,i⟩) (l:∀f∈F,f.Var<v) (J:F.length<=1000) :
  Mt x [⟨cR 1,⟨F,[]⟩⟩] v i=some [⟨cR 1,⟨F++[⟨v,i⟩],[]⟩⟩]:=by
 have b:=I.ctx G
 have R:=g.nf
 have k:Dl ⟨F,[]⟩:=⟨by show F.length<=1048576; omega,by simp,fun f h=>g.fi f (List.mem_append_left _ h),fun f h=>g.fr f (List.mem_append_left _ h),fun a h=>by cases h⟩
 cases ht:tyX x.Vars x.Res v with
 | none=>
  unfold Di at hd
  rw [show (⟨v,i⟩:Cj).Var=v from rfl,ht] at hd
  exact absurd (show (1:Int)<=-1 from hd) (by decide)
 | some t=>
  have u:Di x.Data x.Vars x.Res ⟨v,i⟩=Fp (F6 x.Data i t):=by
   unfold Di
   rw [show (⟨v,i⟩:Cj).Var=v from rfl,ht]
  rw [u] at hd
  have hi:C4 i<=1048576:=g.fi ⟨v,i⟩ (by simp)
  obtain ⟨o,D,N,y⟩:=Ans F F.length ⟨0,⟨0,[]⟩⟩ ⟨v,i⟩ (Nat.le_refl _) (by omega)
  obtain ⟨n,q,B,A⟩:=Anv g
  have hx:o[F.length]? = some (o[F.length]'(by omega)):=Bn _
  generalize o[F.length]'_=w at hx
  rw [List.take_length,List.drop_length] at y
  unfold Mt
  rw [Wu,ht,Ad]
  dsimp only
  rw [Z7 b.vd b.sh t i (b.sz v t ht) hi,Ad,Co (by omega),cond_false]
  refine bnd (a:=(n,q)) ?_ (by dsimp only; rw [A]; rfl)
  refine (I6 (s':=(n,1,q)) ?_).trans (Fe (by rfl))
  have it:Af [(⟨cR 1,⟨F,[]⟩⟩:Ag)] 0=some ⟨cR 1,⟨F,[]⟩⟩:=rfl
  have z:Ac (0+1)=1:=by rw [Ac,Bz] <;> omega
  have c:Am (S:=Int) (E:=Int) (fun v66=>
    bif (decide (v66<(F.length:Int))) then (
    (Af F v66).bind fun v67=>
    bif (decide (v67.Var<v)) then (
    some (.inl (Ac (v66+1))))
    else (some (.inr v66)))
    else (some (.inr v66))) 0=some (F.length:Int):=by
   obtain ⟨e,M,L⟩:=Gu (step:=(fun v66:Int=>
    bif (decide (v66<(F.length:Int))) then (
    (Af F v66).bind fun v67=>
    bif (decide (v67.Var<v)) then (
    some (.inl (Ac (v66+1))))
    else (some (.inr v66)))
    else (some (.inr v66)):Int->Option (Int⊕Int))) (fun s=>∃j:Nat,s=(j:Int)/\j<=F.length) (fun s=>F.length-s.toNat) (fun e=>e=(F.length:Int)) (by
    rintro s ⟨j,rfl,hj⟩
    rcases Nat.lt_or_ge j F.length with h | h
    .have hy:F[j]? = some F[j]:=Bn h
     generalize F[j]=f at hy
     rw [Ak (by omega),cond_true,Ch rfl hy,Ad,Ak (l f (Bo hy)),cond_true,Cz h (by omega)]
     exact .inl ⟨_,rfl,⟨j+1,rfl,by omega⟩,by simp only [Int.toNat_natCast]; omega⟩
    .have:j=F.length:=by omega
     subst this
     exact .inr ⟨_,by rw [Al (by omega),cond_false],rfl⟩) 0 ⟨0,rfl,by omega⟩
   rw [M,L]
  dsimp only
  rw [Ak (by simp),cond_true,it,Ad]
  refine bnd c ?_
  dsimp only
  rw [Al (by omega),cond_false,Ad,cond_false,Anr _ k,Ad]
  dsimp only
  rw [Cu (by simp; omega),Ad]
  refine bnd D ?_
  rw [Ch rfl hx,Ad,Fy (n:=F.length) rfl,y,B,Ad,z]
theorem Azq {F:List Cj} {L:List B5} {l:Ce} {k:Int} (i:Dl ⟨F,L++[⟨l,k⟩]⟩) (hk:k≠0) (U:l.Terms.length≠0) (x:∀a∈L,Gi a.Lin l<0) (G:L.length<=1000) :
  Mu [⟨cR 1,⟨F,L⟩⟩] l k=some [⟨cR 1,⟨F,L++[⟨l,k⟩]⟩⟩]:=by
 have R:=i.na
 have N:F.length<=1048576:=i.nf
 have u:Dl ⟨F,L⟩:=⟨i.nf,by show L.length<=1048576; omega,i.fi,i.fr,fun a h=>i.al a (List.mem_append_left _ h)⟩
 obtain ⟨o,D,M,y⟩:=Ans L L.length ⟨⟨0,[]⟩,0⟩ ⟨l,k⟩ (Nat.le_refl _) (by omega)
 obtain ⟨n,q,B,A⟩:=Anv i
 have hx:o[L.length]? = some (o[L.length]'(by omega)):=Bn _
 generalize o[L.length]'_=w at hx
 rw [List.take_length,List.drop_length] at y
 unfold Mu
 rw [Co hk,cond_false]
 refine bnd (a:=(n,q)) ?_ (by dsimp only; rw [A]; rfl)
 refine (I6 (s':=(n,1,q)) ?_).trans (Fe (by rfl))
 have it:Af [(⟨cR 1,⟨F,L⟩⟩:Ag)] 0=some ⟨cR 1,⟨F,L⟩⟩:=rfl
 have z:Ac (0+1)=1:=by rw [Ac,Bz] <;> omega
 have g:Am (S:=Int) (E:=Int) (fun b=>
   bif (decide (b<(L.length:Int))) then (
   (Af L b).bind fun c=>
   (Jv c.Lin l).bind fun v91=>
   bif (decide (v91<(0:Int))) then (
   some (.inl (Ac (b+1))))
   else (some (.inr b)))
   else (some (.inr b))) 0=some (L.length:Int):=by
  obtain ⟨e,J,I⟩:=Gu (step:=(fun b:Int=>
   bif (decide (b<(L.length:Int))) then (
   (Af L b).bind fun c=>
   (Jv c.Lin l).bind fun v91=>
   bif (decide (v91<(0:Int))) then (
   some (.inl (Ac (b+1))))
   else (some (.inr b)))
   else (some (.inr b)):Int->Option (Int⊕Int))) (fun s=>∃j:Nat,s=(j:Int)/\j<=L.length) (fun s=>L.length-s.toNat) (fun e=>e=(L.length:Int)) (by
   rintro s ⟨j,rfl,hj⟩
   rcases Nat.lt_or_ge j L.length with h | h
   .have hy:L[j]? = some L[j]:=Bn h
    generalize L[j]=f at hy
    have hf:=Bo hy
    have:=u.al f hf
    rw [Ak (by omega),cond_true,Ch rfl hy,Ad,Ae6 f.Lin l (by omega),Ad,Ak (x f hf),cond_true,Cz h (by omega)]
    exact .inl ⟨_,rfl,⟨j+1,rfl,by omega⟩,by simp only [Int.toNat_natCast]; omega⟩
   .have:j=L.length:=by omega
    subst this
    exact .inr ⟨_,by rw [Al (by omega),cond_false],rfl⟩) 0 ⟨0,rfl,by omega⟩
  rw [J,I]
 dsimp only
 rw [Ak (by simp),cond_true,it,Ad,Co (by omega),cond_false]
 refine bnd g ?_
 dsimp only
 rw [Al (by omega),cond_false,Ad,cond_false,Anr _ u,Ad]
 dsimp only
 rw [Cu (by simp; omega),Ad]
 refine bnd D ?_
 rw [Ch rfl hx,Ad,Fy (n:=L.length) rfl,y,B,Ad,z]
end Go.Ab
namespace Go.Ab
open Go
theorem Anw {α:Type} {o:List α} {n:Nat} (h:n<=o.length):I8 o n=some (o.take n):=by
 unfold I8
 rw [if_pos h]
theorem Azr (l:Ce) (k:Fh l=true):M0 l=some (l,0):=by
 have B:=Ay9 k
 have z:=Azd k
 have q:=Aze k
 have J:∀t∈l.Terms,-1<=t.Var/\t.Var<3000:=by
  intro t ht
  obtain ⟨j,hj⟩:=List.getElem?_of_mem ht
  have h:=k
  unfold Fh at h
  rw [C6,List.all_eq_true] at h
  have:=h.2 (t,j) (List.mk_mem_zipIdx_iff_getElem?.2 hj)
  unfold Lo at this
  simp only [C6,decide_eq_true_eq] at this
  exact ⟨this.1.1,this.1.2.1⟩
 unfold M0
 refine D9 l.Terms (fun j=>(j:Int)) rfl (by omega) ?_ ?_
 .intro j t hj hx h1 h2 h3
  have:=J t (Bo hx)
  simp only [h1,h2,h3,cond_true,Ad]
  rw [Al (by omega),cond_false,Al (by omega),cond_false]
 .intro h1
  refine ⟨.inr (),by simp only [h1]; rfl,?_⟩
  dsimp only
  rw [Al (by omega),cond_false,Al (by omega),cond_false,Al (by omega),Ad,cond_false]
  obtain ⟨e,M,n,b,rfl,D,L⟩:=Gu (step:=(fun (v24,v25,i)=>
   bif (decide (v24<(l.Terms.length:Int))) then (
   (Af l.Terms v24).bind fun f=>
   (show Option Bool from
   bif (decide (f.Coef<(-1099511627776))) then (
   some true
   )
   else (
   some (decide (f.Coef>(1099511627776:Int)))
   )
   ).bind fun x=>
   bif x then (
   some (.inr (.inl ((Ce.mk 0 []),9)))
   )
   else (
   (Sv v25 f.Var f.Coef i).bind fun g=>
   some (.inl ((Ac (v24+1)),g.1,g.2))
   )
   )
   else (
   some (.inr (.inr (v25,i)))
   ):Int×Nat×List Bw->Option ((Int×Nat×List Bw)⊕((Ce×Int)⊕(Nat×List Bw)))))
   (fun s=>∃(j n:Nat) (b:List Bw),s=((j:Int),n,b)/\j<=l.Terms.length/\b.length<=j/\LSt ((j:Int)*1048576) n b/\∀w,cl (b.take n) w=cl (l.Terms.take j) w) (fun s=>l.Terms.length-s.1.toNat)
   (fun e=>∃(n:Nat) (b:List Bw),e = .inr (n,b)/\LSt (16*1048576) n b/\∀w,cl (b.take n) w=cl l.Terms w)
   (by
    rintro _ ⟨j,n,b,rfl,hj,k0,u,y⟩
    dsimp only
    rcases Nat.lt_or_ge j l.Terms.length with h | h
    .left
     have hx:l.Terms[j]? = some l.Terms[j]:=Bn h
     generalize l.Terms[j]=t at hx
     have hb:=z t (Bo hx)
     obtain ⟨A,o,I,N,G,E⟩:=Azh u (v:=t.Var) (c:=t.Coef) (Mc:=1048576) (by omega) (by omega) (by omega) (by omega)
     refine ⟨(((j+1:Nat):Int),A,o),?_,⟨j+1,A,o,rfl,by omega,by omega,?_,fun w=>?_⟩,by simp; omega⟩
     .rw [Ak (by omega),cond_true,Ch rfl hx,Ad,Al (by omega),cond_false,Al (by omega),Ad,cond_false,I,Ad,Cz h (by omega)]
     .have e:(((j+1:Nat):Int))*1048576=(j:Int)*1048576+1048576:=by omega
      rw [e]; exact G
     .rw [E,y,Cw hx,W5]
      simp only [cl]; omega
    .right
     have:j=l.Terms.length:=by omega
     subst this
     rw [List.take_length] at y
     exact ⟨_,by rw [Al (by omega),cond_false],n,b,rfl,⟨u.le,u.asc,fun t ht=>by have:=u.bd t ht; omega⟩,y⟩)
   (0,0,[]) ⟨0,0,[],rfl,by omega,by simp,⟨by simp,⟨by simp,fun t ht=>by simp at ht⟩,fun t ht=>by simp at ht⟩,fun w=>by simp [cl]⟩
  refine bnd M ?_
  dsimp only
  rw [Anw D.le,Ad,Tx.ext D.asc q L,Azi,Ad]
  unfold Aga
  rw [if_pos k]
theorem Anx {x:Bh} {F:List Cj} (h:∀f∈F,1<=Di x.Data x.Vars x.Res f) (j:Nat):0<=Ci x.Data x.Vars x.Res (F.take j)/\Ci x.Data x.Vars x.Res (F.take j)<=Ci x.Data x.Vars x.Res F:=by
 have pos:∀l:List Cj,(∀f∈l,1<=Di x.Data x.Vars x.Res f)->0<=Ci x.Data x.Vars x.Res l:=fun l=>by
  induction l with
  | nil=>intro _; simp [Ci]
  | cons f l ih=>
   intro b
   have h1:=b f (by simp)
   have h2:=ih fun g c=>b g (by simp [c])
   unfold Ci at *
   simp only [List.map_cons,List.sum_cons]; omega
 have e:Ci x.Data x.Vars x.Res F=Ci x.Data x.Vars x.Res (F.take j)+Ci x.Data x.Vars x.Res (F.drop j):=by
  have:=congrArg (Ci x.Data x.Vars x.Res) (List.take_append_drop j F)
  rw [<-this]
  unfold Ci
  rw [List.map_append,List.sum_append]
 have h1:=pos (F.take j) fun f hf=>h f (List.mem_of_mem_take hf)
 have h2:=pos (F.drop j) fun f hf=>h f (List.mem_of_mem_drop hf)
 omega
theorem Azs {x:Bh} (i:CSz x) (k:Fi x) {t:Ag} (c:Gc x t.Mono):U9 x t=some true:=by
 have b:=k.ctx i
 have q:=c.2.nf
 have l:=c.2.na
 unfold U9
 refine D9 t.Mono.Factors (fun j=>(j:Int)) rfl (by omega) ?_ ?_
 .intro j f hj hx h1 h2 h3
  have g:=Bo hx
  have hd:=c.f.fac f g
  simp only [h1,h2,h3,cond_true,Ad,Wu]
  unfold Di at hd
  cases ht:tyX x.Vars x.Res f.Var with
  | none=>rw [ht] at hd; exact absurd (show (1:Int)<=-1 from hd) (by decide)
  | some u=>
   rw [ht] at hd
   have hd:1<=Fp (F6 x.Data f.Index u):=hd
   simp only [Dj,cond_false,Z7 b.vd b.sh u f.Index (b.sz _ u ht) (c.2.fi f g),Ad]
   rw [Al (by omega),cond_false]
 .intro h1
  refine ⟨.inr (),by simp only [h1]; rfl,?_⟩
  dsimp only
  refine D9 t.Mono.Atoms (fun j=>(j:Int)) rfl (by omega) ?_ ?_
  .intro j a hj hx h1 h2 h3
   have h:=Bo hx
   obtain ⟨d1,d2,d3,d4⟩:=c.f.atm a h
   simp only [h1,h2,h3,cond_true,Ad]
   rw [Al (by omega),cond_false,Alz x a.Lin (c.2.al a h),d4]; rfl
  .intro h1
   exact ⟨.inr (),by simp only [h1]; rfl,rfl⟩
theorem Azt {x:Bh} (M:CSz x) (N:Fi x) {m:A8} (y:Gc x m) :
  Am (S:=((List Ag)×Int)) (E:=((List Ag)×Int)) (fun (k,b)=>
   bif (decide (b<(m.Factors.length:Int))) then (
   (Af m.Factors b).bind fun c=>
   (Mt x k c.Var c.Index).bind fun l=>
   some (.inl (l,(Ac (b+1)))))
   else (some (.inr (k,b)))) ([⟨cR 1,⟨[],[]⟩⟩],0)=some ([⟨cR 1,⟨m.Factors,[]⟩⟩],(m.Factors.length:Int)):=by
 obtain ⟨F,L⟩:=m
 have U:F.length<=1048576:=y.2.nf
 obtain ⟨e,R,rfl⟩:=Gu (step:=(fun (k,b)=>
   bif (decide (b<(F.length:Int))) then (
   (Af F b).bind fun c=>
   (Mt x k c.Var c.Index).bind fun l=>
   some (.inl (l,(Ac (b+1)))))
   else (some (.inr (k,b))):List Ag×Int->Option ((List Ag×Int)⊕(List Ag×Int))))
  (fun s=>∃j:Nat,s=([⟨cR 1,⟨F.take j,[]⟩⟩],(j:Int))/\j<=F.length) (fun s=>F.length-s.2.toNat) (fun e=>e=([⟨cR 1,⟨F,[]⟩⟩],(F.length:Int)))
  (by
   rintro _ ⟨j,rfl,hj⟩
   dsimp only
   rcases Nat.lt_or_ge j F.length with h | h
   .left
    have hx:F[j]? = some F[j]:=Bn h
    have D:=y.f.asc
    have A:∀f∈F.take j,f.Var<(F[j]).Var:=fun f J=>by
     obtain ⟨i,hi⟩:=List.getElem?_of_mem J
     rw [List.getElem?_take] at hi
     split at hi
     .have B:=Df hi
      have e:F[i]=f:=by
       have:=Bn B
       rw [hi] at this; exact (Option.some.inj this).symm
      have:=(List.pairwise_iff_getElem.1 D) i j B h (by omega)
      rw [e] at this; exact this
     .cases hi
    generalize F[j]=f at hx A
    have I:=Bo hx
    have u:=Cw hx
    have q:∀g∈F.take j++[f],g∈F:=fun g z=>by rw [<-u] at z; exact List.mem_of_mem_take z
    have G:Dl ⟨F.take j++[⟨f.Var,f.Index⟩],[]⟩:=⟨by show (F.take j++[f]).length<=1048576; rw [<-u,List.length_take]; omega,by simp,fun g z=>y.2.fi g (q g z),fun g z=>y.2.fr g (q g z),fun a ha=>by cases ha⟩
    have key:=Azp M N G (y.f.fac f I) A (by rw [List.length_take]; have:=y.cmo.nf; have:F.length<=6:=this; omega)
    rw [Ak (by omega),cond_true,Ch rfl hx,Ad,key,Ad,Cz h (by omega)]
    exact ⟨_,rfl,⟨j+1,by rw [u],by omega⟩,by simp; omega⟩
   .right
    have:j=F.length:=by omega
    subst this
    exact ⟨_,by rw [Al (by omega),cond_false],by rw [List.take_length]⟩) ([⟨cR 1,⟨[],[]⟩⟩],0) ⟨0,by simp,by omega⟩
 exact R
theorem Azu {x:Bh} {m:A8} (q:Gc x m) :
  Am (S:=((List Ag)×Int)) (E:=(((List Ag)×Int)⊕((List Ag)×Int))) (fun (l,b)=>
   bif (decide (b<(m.Atoms.length:Int))) then (
   (Af m.Atoms b).bind fun k=>
   (M0 k.Lin).bind fun c=>
   bif (c.2 != (0:Int)) then (
   some (.inr (.inl ([],9))))
   else (
   (Mu l c.1 k.Deg).bind fun v194=>
   some (.inl (v194,(Ac (b+1))))))
   else (some (.inr (.inr (l,b))))) ([⟨cR 1,⟨m.Factors,[]⟩⟩],0)=some (.inr ([⟨cR 1,m⟩],(m.Atoms.length:Int))):=by
 obtain ⟨F,L⟩:=m
 have N:L.length<=1048576:=q.2.na
 obtain ⟨e,M,rfl⟩:=Gu (step:=(fun (l,b)=>
   bif (decide (b<(L.length:Int))) then (
   (Af L b).bind fun k=>
   (M0 k.Lin).bind fun c=>
   bif (c.2 != (0:Int)) then (
   some (.inr (.inl ([],9))))
   else (
   (Mu l c.1 k.Deg).bind fun v194=>
   some (.inl (v194,(Ac (b+1))))))
   else (some (.inr (.inr (l,b)))):List Ag×Int->Option ((List Ag×Int)⊕((List Ag×Int)⊕(List Ag×Int)))))
  (fun s=>∃j:Nat,s=([⟨cR 1,⟨F,L.take j⟩⟩],(j:Int))/\j<=L.length) (fun s=>L.length-s.2.toNat) (fun e=>e = .inr ([⟨cR 1,⟨F,L⟩⟩],(L.length:Int)))
  (by
   rintro _ ⟨j,rfl,hj⟩
   dsimp only
   rcases Nat.lt_or_ge j L.length with h | h
   .left
    have hx:L[j]? = some L[j]:=Bn h
    have B:=q.f.srt
    have z:∀a∈L.take j,Gi a.Lin (L[j]).Lin<0:=fun f I=>by
     obtain ⟨i,hi⟩:=List.getElem?_of_mem I
     rw [List.getElem?_take] at hi
     split at hi
     .have A:=Df hi
      have e:L[i]=f:=by
       have:=Bn A
       rw [hi] at this; exact (Option.some.inj this).symm
      have:=(List.pairwise_iff_getElem.1 B) i j A h (by omega)
      rw [e] at this; exact this
     .cases hi
    generalize L[j]=a at hx z
    have J:=Bo hx
    obtain ⟨d1,d2,d3,d4⟩:=q.f.atm a J
    have u:=Cw hx
    have y:∀g∈L.take j++[a],g∈L:=fun g D=>by rw [<-u] at D; exact List.mem_of_mem_take D
    have G:Dl ⟨F,L.take j++[⟨a.Lin,a.Deg⟩]⟩:=⟨q.2.nf,by show (L.take j++[a]).length<=1048576; rw [<-u,List.length_take]; omega,q.2.fi,q.2.fr,fun g D=>q.2.al g (y g D)⟩
    have key:=Azq G (by omega) d3 z (by rw [List.length_take]; have:=q.cmo.na; have:L.length<=6:=this; omega)
    rw [Ak (by omega),cond_true,Ch rfl hx,Ad,Azr a.Lin d2,Ad]
    dsimp only
    rw [De rfl,cond_false,key,Ad,Cz h (by omega)]
    exact ⟨_,rfl,⟨j+1,by rw [u],by omega⟩,by simp; omega⟩
   .right
    have:j=L.length:=by omega
    subst this
    exact ⟨_,by rw [Al (by omega),cond_false],by rw [List.take_length]⟩) ([⟨cR 1,⟨F,[]⟩⟩],0) ⟨0,by simp,by omega⟩
 exact M
theorem Anz {a:Int} (h:a<=6):(if (7:Int)<a then 7 else a)=a:=by rw [if_neg (by omega)]
theorem Azv {x:Bh} (D:CSz x) (I:Fi x) {m:A8} (k:Gc x m) :
  (Am (S:=(Int×Int)) (E:=(Int×Int)) (fun (v44,v45)=>
   bif (decide (v45<(m.Factors.length:Int))) then (
   (Af m.Factors v45).bind fun v46=>
   (Kb x v46.Var).bind fun l=>
   (Lb x.Data l.1 v46.Index).bind fun v50=>
   some (.inl ((if (7:Int)<(Ac (v44+v50)) then 7 else (Ac (v44+v50))),(Ac (v45+1)))))
   else (some (.inr (v44,v45)))) (0,0))=some (Ci x.Data x.Vars x.Res m.Factors,(m.Factors.length:Int)) /\
  (Am (S:=(Int×Int)) (E:=(Int×Int)) (fun (v55,c)=>
   bif (decide (c<(m.Atoms.length:Int))) then (
   (Af m.Atoms c).bind fun b=>
   some (.inl ((if (7:Int)<(Ac (v55+(if (7:Int)<b.Deg then 7 else b.Deg))) then 7 else (Ac (v55+(if (7:Int)<b.Deg then 7 else b.Deg)))),(Ac (c+1)))))
   else (some (.inr (v55,c)))) (Ci x.Data x.Vars x.Res m.Factors,0))=some (Agc x m,(m.Atoms.length:Int)):=by
 have i:=I.ctx D
 have M:=k.2.nf
 have L:=k.2.na
 have z:=k.f.deg
 have has:=k.f.as
 unfold Agc at z ⊢
 constructor
 .obtain ⟨e,B,rfl⟩:=Gu (step:=(fun (v44,v45)=>
   bif (decide (v45<(m.Factors.length:Int))) then (
   (Af m.Factors v45).bind fun v46=>
   (Kb x v46.Var).bind fun l=>
   (Lb x.Data l.1 v46.Index).bind fun v50=>
   some (.inl ((if (7:Int)<(Ac (v44+v50)) then 7 else (Ac (v44+v50))),(Ac (v45+1)))))
   else (some (.inr (v44,v45))):Int×Int->Option ((Int×Int)⊕(Int×Int))))
   (fun s=>∃j:Nat,s=(Ci x.Data x.Vars x.Res (m.Factors.take j),(j:Int))/\j<=m.Factors.length) (fun s=>m.Factors.length-s.2.toNat) (fun e=>e=(Ci x.Data x.Vars x.Res m.Factors,(m.Factors.length:Int)))
   (by
    rintro _ ⟨j,rfl,hj⟩
    dsimp only
    rcases Nat.lt_or_ge j m.Factors.length with h | h
    .left
     have hx:m.Factors[j]? = some m.Factors[j]:=Bn h
     generalize m.Factors[j]=f at hx
     have y:=Bo hx
     have hd:=k.f.fac f y
     have h0:=Anx k.f.fac j
     have h1:=Anx k.f.fac (j+1)
     have es:Ci x.Data x.Vars x.Res (m.Factors.take (j+1))=Ci x.Data x.Vars x.Res (m.Factors.take j)+Di x.Data x.Vars x.Res f:=Afc _ hx
     have g:Di x.Data x.Vars x.Res f=(match tyX x.Vars x.Res f.Var with | some t=>Fp (F6 x.Data f.Index t) | none => -1):=rfl
     rw [Ak (by omega),cond_true,Ch rfl hx,Ad,Wu,Ad]
     cases ht:tyX x.Vars x.Res f.Var with
     | none=>rw [ht] at g; have g:Di x.Data x.Vars x.Res f = -1:=g; omega
     | some u=>
      rw [ht] at g
      have g:Di x.Data x.Vars x.Res f=Fp (F6 x.Data f.Index u):=g
      dsimp only
      have A:Ac (Ci x.Data x.Vars x.Res (m.Factors.take j)+Di x.Data x.Vars x.Res f)=Ci x.Data x.Vars x.Res (m.Factors.take (j+1)):=by rw [<-es,Ac,Bz] <;> omega
      rw [Z7 i.vd i.sh u f.Index (i.sz _ u ht) (k.2.fi f y),Ad,<-g,A,Anz (by omega),Cz h (by omega)]
      exact ⟨_,rfl,⟨j+1,rfl,by omega⟩,by simp; omega⟩
    .right
     have:j=m.Factors.length:=by omega
     subst this
     exact ⟨_,by rw [Al (by omega),cond_false],by rw [List.take_length]⟩) (0,0) ⟨0,by simp [Ci],by omega⟩
  exact B
 .have q:∀a∈m.Atoms,1<=a.Deg:=fun a ha=>(k.f.atm a ha).1
  obtain ⟨e,B,rfl⟩:=Gu (step:=(fun (v55,c)=>
   bif (decide (c<(m.Atoms.length:Int))) then (
   (Af m.Atoms c).bind fun b=>
   some (.inl ((if (7:Int)<(Ac (v55+(if (7:Int)<b.Deg then 7 else b.Deg))) then 7 else (Ac (v55+(if (7:Int)<b.Deg then 7 else b.Deg)))),(Ac (c+1)))))
   else (some (.inr (v55,c))):Int×Int->Option ((Int×Int)⊕(Int×Int))))
   (fun s=>∃j:Nat,s=(Ci x.Data x.Vars x.Res m.Factors+C8 (m.Atoms.take j),(j:Int))/\j<=m.Atoms.length) (fun s=>m.Atoms.length-s.2.toNat) (fun e=>e=(Ci x.Data x.Vars x.Res m.Factors+C8 m.Atoms,(m.Atoms.length:Int)))
   (by
    rintro _ ⟨j,rfl,hj⟩
    dsimp only
    rcases Nat.lt_or_ge j m.Atoms.length with h | h
    .left
     have hx:m.Atoms[j]? = some m.Atoms[j]:=Bn h
     generalize m.Atoms[j]=a at hx
     have ha:=q a (Bo hx)
     have h0:=Anp q j
     have h1:=Anp q (j+1)
     have es:=Afd hx
     have G:=k.f.fsum0
     have J:(if (7:Int)<a.Deg then 7 else a.Deg)=a.Deg:=by rw [if_neg (by omega)]
     have A:Ac (Ci x.Data x.Vars x.Res m.Factors+C8 (m.Atoms.take j)+a.Deg)=Ci x.Data x.Vars x.Res m.Factors+C8 (m.Atoms.take (j+1)):=by rw [es,Ac,Bz] <;> omega
     rw [Ak (by omega),cond_true,Ch rfl hx,Ad,J,A,Anz (by omega),Cz h (by omega)]
     exact ⟨_,rfl,⟨j+1,rfl,by omega⟩,by simp; omega⟩
    .right
     have:j=m.Atoms.length:=by omega
     subst this
     exact ⟨_,by rw [Al (by omega),cond_false],by rw [List.take_length]⟩) (Ci x.Data x.Vars x.Res m.Factors,0) ⟨0,by simp [C8],by omega⟩
  exact B
open Classical in
theorem Azw {x:Bh} (hz:CSz x) (hf:Fi x) (ts:List Ag) (hl:ts.length<=1000) {k:Nat} (hk:k<=1048576) (h:∀t∈ts,RB k t.Coef/\Gc x t.Mono) :
  ∃R,Us x ts=some (R,0)/\CP R/\∀a,cf R a=cf ts a:=by
 obtain ⟨b,b1,b2⟩:=Al6 x hz
 have hb:b=true:=b2.2 hf
 subst hb
 unfold Us
 rw [b1]
 simp only [Ad,Dj,cond_false]
 suffices hs:∃n o,(Am (S:=(Nat×Int×(List Ag))) (E:=(((List Ag)×Int)⊕(Nat×(List Ag)))) (fun (v167,v168,o169)=>
   bif (decide (v168<(ts.length:Int))) then (
   (Af ts v168).bind fun v170=>
   (Ft 1).bind fun v172=>
   (Am (S:=((List Ag)×Int)) (E:=((List Ag)×Int)) (fun (v176,v177)=>
   bif (decide (v177<(v170.Mono.Factors.length:Int))) then (
   (Af v170.Mono.Factors v177).bind fun v178=>
   (Mt x v176 v178.Var v178.Index).bind fun v180=>
   some (.inl (v180,(Ac (v177+1))))
   )
   else (
   some (.inr (v176,v177))
   )
    ) ([(Ag.mk v172 (A8.mk [] []))],0)).bind fun (v181,v182)=>
   (Am (S:=((List Ag)×Int)) (E:=(((List Ag)×Int)⊕((List Ag)×Int))) (fun (v188,v189)=>
   bif (decide (v189<(v170.Mono.Atoms.length:Int))) then (
   (Af v170.Mono.Atoms v189).bind fun v190=>
   (M0 v190.Lin).bind fun v192=>
   bif (v192.2 != (0:Int)) then (
   some (.inr (.inl ([],9)))
   )
   else (
   (Mu v188 v192.1 v190.Deg).bind fun v194=>
   some (.inl (v194,(Ac (v189+1))))
   )
   )
   else (
   some (.inr (.inr (v188,v189)))
   )
    ) (v181,0)).bind fun z=>
   match z with
   | .inl (r195,r196)=>(
   some (.inr (.inl (r195,r196)))
   )
   | .inr (v197,v198)=>(
   bif (decide ((v197.length:Int)>(1000:Int))) then (
   some (.inr (.inl ([],9)))
   )
   else (
   (Am (S:=(Nat×Int×(List Ag))) (E:=(Nat×Int×(List Ag))) (fun (v210,v211,o212)=>
   bif (decide (v211<(v197.length:Int))) then (
   (Af v197 v211).bind fun v213=>
   (Ia v170.Coef v213.Coef).bind fun v215=>
   (Ja v210 v213.Mono v215 o212).bind fun v216=>
   some (.inl (v216.1,(Ac (v211+1)),v216.2))
   )
   else (
   some (.inr (v210,v211,o212))
   )
    ) (v167,0,o169)).bind fun (v217,v218,o219)=>
   some (.inl (v217,(Ac (v168+1)),o219))
   )
   )
   )
   else (
   some (.inr (.inr (v167,o169)))
   )
    ) (0,0,[]))=some (.inr (n,o))/\n<=o.length/\o.length<=ts.length/\CP (o.take n)/\∀a,cf (o.take n) a=cf ts a by
  obtain ⟨n,o,h1,h2,h3,h4,h5⟩:=hs
  refine ⟨o.take n,?_,h4,h5⟩
  refine D9 ts (fun j=>(j:Int)) rfl (by omega) ?_ ?_
  .intro j t hj hx g1 g2 g3
   simp only [g1,g2,g3,cond_true,Ad,Azs hz hf (h t (Bo hx)).2,Dj,cond_false]
  .intro g1
   refine ⟨.inr (),by simp only [g1]; rfl,?_⟩
   dsimp only
   refine D9 ts (fun j=>(j:Int)) rfl (by omega) ?_ ?_
   .intro j t hj hx g1 g2 g3
    have hm:=(h t (Bo hx)).2
    obtain ⟨d1,d2⟩:=Azv hz hf hm
    have d3:=hm.f.deg
    rw [g1,cond_true,g2,Ad]
    refine bnd d1 ?_
    dsimp only
    refine bnd d2 ?_
    dsimp only
    rw [Al (by omega),cond_false,g3]
   .intro g1
    refine ⟨.inr (),by simp only [g1]; rfl,?_⟩
    dsimp only
    rw [Al (by omega),cond_false]
    refine bnd h1 ?_
    dsimp only
    rw [Anw h2,Ad]
    unfold Qb
    rw [Al (by rw [List.length_take]; omega),cond_false]; rfl
 obtain ⟨e,e1,n,o,rfl,e2,e3,e4⟩:=Gu (step:=(fun (v167,v168,o169)=>
   bif (decide (v168<(ts.length:Int))) then (
   (Af ts v168).bind fun v170=>
   (Ft 1).bind fun v172=>
   (Am (S:=((List Ag)×Int)) (E:=((List Ag)×Int)) (fun (v176,v177)=>
   bif (decide (v177<(v170.Mono.Factors.length:Int))) then (
   (Af v170.Mono.Factors v177).bind fun v178=>
   (Mt x v176 v178.Var v178.Index).bind fun v180=>
   some (.inl (v180,(Ac (v177+1))))
   )
   else (
   some (.inr (v176,v177))
   )
    ) ([(Ag.mk v172 (A8.mk [] []))],0)).bind fun (v181,v182)=>
   (Am (S:=((List Ag)×Int)) (E:=(((List Ag)×Int)⊕((List Ag)×Int))) (fun (v188,v189)=>
   bif (decide (v189<(v170.Mono.Atoms.length:Int))) then (
   (Af v170.Mono.Atoms v189).bind fun v190=>
   (M0 v190.Lin).bind fun v192=>
   bif (v192.2 != (0:Int)) then (
   some (.inr (.inl ([],9)))
   )
   else (
   (Mu v188 v192.1 v190.Deg).bind fun v194=>
   some (.inl (v194,(Ac (v189+1))))
   )
   )
   else (
   some (.inr (.inr (v188,v189)))
   )
    ) (v181,0)).bind fun z=>
   match z with
   | .inl (r195,r196)=>(
   some (.inr (.inl (r195,r196)))
   )
   | .inr (v197,v198)=>(
   bif (decide ((v197.length:Int)>(1000:Int))) then (
   some (.inr (.inl ([],9)))
   )
   else (
   (Am (S:=(Nat×Int×(List Ag))) (E:=(Nat×Int×(List Ag))) (fun (v210,v211,o212)=>
   bif (decide (v211<(v197.length:Int))) then (
   (Af v197 v211).bind fun v213=>
   (Ia v170.Coef v213.Coef).bind fun v215=>
   (Ja v210 v213.Mono v215 o212).bind fun v216=>
   some (.inl (v216.1,(Ac (v211+1)),v216.2))
   )
   else (
   some (.inr (v210,v211,o212))
   )
    ) (v167,0,o169)).bind fun (v217,v218,o219)=>
   some (.inl (v217,(Ac (v168+1)),o219))
   )
   )
   )
   else (
   some (.inr (.inr (v167,o169)))
   ):Nat×Int×List Ag->Option ((Nat×Int×List Ag)⊕((List Ag×Int)⊕(Nat×List Ag)))))
  (fun s=>∃(n j:Nat) (b:List Ag),s=(n,(j:Int),b)/\j<=ts.length/\b.length<=j/\PSt (j*1048590) n b/\∀a,cf (b.take n) a=cf (ts.take j) a) (fun s=>ts.length-s.2.1.toNat)
  (fun e=>∃(n:Nat) (b:List Ag),e = .inr (n,b)/\b.length<=ts.length/\PSt (ts.length*1048590) n b/\∀a,cf (b.take n) a=cf ts a)
  (by
   rintro _ ⟨n,j,b,rfl,hj,k1,k2,k3⟩
   dsimp only
   rcases Nat.lt_or_ge j ts.length with h' | h'
   .left
    have hx:ts[j]? = some ts[j]:=Bn h'
    generalize ts[j]=t at hx
    obtain ⟨t1,t2⟩:=h t (Bo hx)
    obtain ⟨c,_,c1,c2,c3,c4⟩:=Al9 t1 Ant (by omega) (by decide)
    obtain ⟨n',o,p1,p2,p3,p4⟩:=Aa4 k2 c2 t2.2 (by omega) (by omega)
    have w1:Ac (0+1)=1:=by rw [Ac,Bz] <;> omega
    have it:Af [(⟨cR 1,t.Mono⟩:Ag)] 0=some ⟨cR 1,t.Mono⟩:=rfl
    have h1:Ft 1=some (cR 1):=Aej 1 (by decide) (by decide)
    refine ⟨(n',((j+1:Nat):Int),o),?_,⟨n',j+1,o,rfl,by omega,by omega,p3.mono (by omega),fun a=>?_⟩,by simp; omega⟩
    .rw [Ak (by omega),cond_true,Ch rfl hx,Ad,h1,Ad]
     refine bnd (Azt hz hf t2) ?_
     dsimp only
     refine bnd (Azu t2) ?_
     dsimp only
     rw [Al (by simp),cond_false]
     refine bnd (a:=(n',1,o)) ?_ (by dsimp only; rw [Cz h' (by omega)])
     refine (I6 (s':=(n',1,o)) ?_).trans (Fe (by rfl))
     dsimp only
     rw [Ak (by simp),cond_true,it,Ad]
     dsimp only
     rw [c1,Ad,p1,Ad,w1]
    .rw [p4,k3,Cw hx,I1,c4,Anu]
     simp only [cf]
     by_cases e:t.Mono=a
     .rw [if_pos e,if_pos (Ga.2 e)]; grind
     .rw [if_neg e,if_neg (fun h=>e (Ga.1 h))]; grind
   .right
    have:j=ts.length:=by omega
    subst this
    rw [List.take_length] at k3
    exact ⟨_,by rw [Al (by omega),cond_false],n,b,rfl,k1,k2,k3⟩)
  (0,0,[]) ⟨0,0,[],rfl,by omega,by simp,⟨by simp,by simpa using CP.nil,fun t ht=>by simp at ht⟩,fun a=>rfl⟩
 exact ⟨n,o,e1,e3.le,e2,e3.cp,e4⟩
end Go.Ab
