/- Plain laws: what the plain functions answer. -/
import Derived.Test.YtjjkmepjaemceaaGreatDoorBsPl3
namespace Go.Ab
open Go
theorem Avu (m:Cb):D0 m m=0:=Zy.2 rfl
theorem Avv {a b:Cb}:0<D0 a b↔D0 b a<0:=by rw [Alk a b]; omega
def cf:List A4->Cb->Rat
 | [],_=>0
 | t::p,m=>(if D0 t.Mono m=0 then rq t.Coef else 0)+cf p m
def ltT (t u:A4):Prop:=D0 t.Mono u.Mono<0
structure CP (p:List A4):Prop where
 srt:p.Pairwise ltT
 coe:∀t∈p,L7 t.Coef/\rq t.Coef≠0
theorem CP.tail {t:A4} {p:List A4} (h:CP (t::p)):CP p:=⟨(List.pairwise_cons.1 h.srt).2,fun u hu=>h.coe u (by simp [hu])⟩
theorem CP.head {t:A4} {p:List A4} (h:CP (t::p)):∀u∈p,D0 t.Mono u.Mono<0:=(List.pairwise_cons.1 h.srt).1
theorem CP.nil:CP []:=⟨List.Pairwise.nil,fun _ h=>by cases h⟩
theorem CP.cons {t:A4} {p:List A4} (h:CP p) (h1:∀u∈p,D0 t.Mono u.Mono<0) (h2:L7 t.Coef) (h3:rq t.Coef≠0):CP (t::p) :=
 ⟨List.pairwise_cons.2 ⟨h1,h.srt⟩,fun u hu=>by
  rcases List.mem_cons.1 hu with rfl | hu
  .exact ⟨h2,h3⟩
  .exact h.coe u hu⟩
theorem Avw {p:List A4} {m:Cb} (h:∀t∈p,D0 t.Mono m≠0):cf p m=0:=by
 induction p with
 | nil=>rfl
 | cons t p ih=>
  simp only [cf]
  rw [if_neg (h t (by simp)),ih (fun u hu=>h u (by simp [hu]))]; grind
theorem Pu {p:List A4} {m:Cb} (h:∀t∈p,D0 m t.Mono<0):cf p m=0 :=
 Avw fun t ht e=>by have:=h t ht; rw [Alk,e] at this; omega
theorem Sp {t:A4} {p:List A4} (h:CP (t::p)):cf (t::p) t.Mono=rq t.Coef:=by
 simp only [cf]
 rw [if_pos (Avu _),Pu h.head]; grind
theorem All {t:A4} {p:List A4} {m:Cb} (h:D0 t.Mono m≠0):cf (t::p) m=cf p m:=by
 simp only [cf]; rw [if_neg h]; grind
theorem Avx (p q:List A4) (m:Cb):cf (p++q) m=cf p m+cf q m:=by
 induction p with
 | nil=>simp only [List.nil_append,cf]; grind
 | cons t p ih=>simp only [List.cons_append,cf,ih]; grind
theorem CP.ext:∀{p q:List A4},CP p->CP q->(∀m,cf p m=cf q m)->p=q
 | [],[],_,_,_=>rfl
 | [],u::q,_,h2,h=>by
  have:=h u.Mono
  rw [Sp h2] at this
  exact ((h2.coe u (by simp)).2 this.symm).elim
 | t::p,[],h1,_,h=>by
  have:=h t.Mono
  rw [Sp h1] at this
  exact ((h1.coe t (by simp)).2 this).elim
 | t::p,u::q,h1,h2,h=>by
  have b:D0 t.Mono u.Mono=0:=by
   rcases Int.lt_trichotomy (D0 t.Mono u.Mono) 0 with k | k | k
   .have e:=h t.Mono
    rw [Sp h1,Pu (p:=u::q)] at e
    .exact ((h1.coe t (by simp)).2 e).elim
    .intro w hw
     rcases List.mem_cons.1 hw with rfl | hw
     .exact k
     .exact Aeg k (h2.head w hw)
   .exact k
   .have k:=Avv.1 k
    have e:=h u.Mono
    rw [Sp h2,Pu (p:=t::p)] at e
    .exact ((h2.coe u (by simp)).2 e.symm).elim
    .intro w hw
     rcases List.mem_cons.1 hw with rfl | hw
     .exact k
     .exact Aeg k (h1.head w hw)
  have c:=Zy.1 b
  have hc:t.Coef=u.Coef:=by
   refine Avn (h1.coe t (by simp)).1 (h2.coe u (by simp)).1 ?_
   have e:=h t.Mono
   rw [Sp h1,c,Sp h2] at e
   exact e
  have ht:t=u:=by cases t; cases u; simp_all
  subst ht
  congr 1
  refine CP.ext h1.tail h2.tail fun m=>?_
  by_cases e:D0 t.Mono m=0
  .rw [<-Zy.1 e,Pu h1.head,Pu h2.head]
  .have:=h m
   rwa [All e,All e] at this
theorem Alm (c:An):Pq c=true↔L7 c/\rq c≠0:=by
 unfold Pq L7
 rw [Ce,Zr]
 have h:(!(nv c==0))=true↔rq c≠0:=by
  have e:rq c=0↔nv c=0:=by
   unfold rq
   rw [Rat.mkRat_eq_zero (F0 c)]
   unfold sg; split <;> omega
  rw [Ne,e]; simp
 rw [h]
 exact ⟨fun ⟨a,b⟩=>⟨a.symm,b⟩,fun ⟨a,b⟩=>⟨a.symm,b⟩⟩
theorem Avy {l:List A4} (h:∀(j:Nat) (x y:A4),l[j]? = some x->l[j+1]? = some y->D0 x.Mono y.Mono<0):l.Pairwise ltT:=by
 induction l with
 | nil=>exact List.Pairwise.nil
 | cons t l ih=>
  have ih:=ih fun j x y hx hy=>h (j+1) x y (by simpa using hx) (by simpa using hy)
  refine List.pairwise_cons.2 ⟨?_,ih⟩
  cases l with
  | nil=>intro u hu; cases hu
  | cons v l=>
   have h0:=h 0 t v rfl rfl
   intro u hu
   rcases List.mem_cons.1 hu with rfl | hu
   .exact h0
   .exact Aeg h0 ((List.pairwise_cons.1 ih).1 u hu)
theorem Aln {data:List Al} {vars:List Ag} {res:Ag} {p:List A4}:Gd data vars res p=true↔p.length<=1000/\CP p/\∀t∈p,G2 data vars res t.Mono=true:=by
 unfold Gd
 rw [Ce,decide_eq_true_eq]
 constructor
 .rintro ⟨h1,h2⟩
  have g:∀(j:Nat) (t:A4),p[j]? = some t->Pq t.Coef=true/\G2 data vars res t.Mono=true/\Nt p t j=true:=by
   intro j t hj
   have:=G0 h2 hj
   simp only [L3,Ce] at this
   exact ⟨this.1.1,this.1.2,this.2⟩
  refine ⟨h1,⟨Avy fun j x y hx hy=>?_,fun t ht=>?_⟩,fun t ht=>?_⟩
  .have:=(g _ _ hy).2.2
   unfold Nt at this
   rw [show j+1-1=j by omega,hx] at this
   simpa using this
  .obtain ⟨j,hj⟩:=List.getElem?_of_mem ht
   exact (Alm _).1 (g j t hj).1
  .obtain ⟨j,hj⟩:=List.getElem?_of_mem ht
   exact (g j t hj).2.1
 .rintro ⟨h1,h2,h3⟩
  refine ⟨h1,List.all_eq_true.2 fun q hq=>?_⟩
  have hq:=List.mem_zipIdx' hq
  have hj:p[q.2]? = some q.1:=(Bj hq.1).trans (congrArg some hq.2.symm)
  have c:q.1∈p:=Bi hj
  simp only [L3,Ce]
  refine ⟨⟨(Alm _).2 (h2.coe _ c),h3 _ c⟩,?_⟩
  unfold Nt
  by_cases h0:q.2=0
  .rw [h0]; rfl
  .have b:q.2-1<p.length:=by omega
   rw [Bj b]
   have:=List.pairwise_iff_getElem.1 h2.srt (q.2-1) q.2 b hq.1 (by omega)
   rw [<-hq.2] at this
   simp only [Bool.or_eq_true,decide_eq_true_eq]
   exact .inr this
end Go.Ab
namespace Go.Ab
open Go
end Go.Ab
namespace Go.Ab
open Go
structure TB (k:Nat) (t:A4):Prop where
 co:RB k t.Coef
 mo:MSz t.Mono
theorem TB.mono {j k:Nat} {t:A4} (h:TB j t) (hk:j<=k):TB k t:=⟨h.co.mono hk,h.mo⟩
def Pv (c:An) (m:Cb):List A4:=if nv c=0 then [] else [⟨Bb (sv c) (nv c) (dv c),m⟩]
theorem Alo (c:An):rq c=0↔nv c=0:=by
 unfold rq
 rw [Rat.mkRat_eq_zero (F0 c)]
 unfold sg; split <;> omega
theorem Avz (c:An) (m n:Cb):cf (Pv c m) n=if D0 m n=0 then rq c else 0:=by
 unfold Pv
 split
 .rename_i h
  rw [(Alo c).2 h]; simp [cf]
 .simp only [cf,Ald _ _ _ (F0 c)]
  show (if D0 m n=0 then rq c else 0)+0=_
  grind
structure Mg (F:Rat->Rat->Rat) (k:Nat) (p q R:List A4):Prop where
 cp:CP R
 val:∀m,cf R m=F (cf p m) (cf q m)
 mon:∀t∈R,(∃u∈p,u.Mono=t.Mono)\/(∃u∈q,u.Mono=t.Mono)
 len:R.length<=p.length+q.length
 rb:∀t∈R,RB (k+1) t.Coef
theorem Av0 {k:Nat} {c:An} {m:Cb} (hc:RB k c):(∀t∈Pv c m,t.Mono=m/\L7 t.Coef/\rq t.Coef≠0/\RB (k+1) t.Coef)/\(Pv c m).length<=1:=by
 unfold Pv
 split
 .exact ⟨fun _ h=>(by cases h),by simp⟩
 .rename_i h
  refine ⟨fun t ht=>?_,by simp⟩
  simp only [List.mem_singleton] at ht
  subst ht
  exact ⟨rfl,Avm _ _ _ (F0 c),by rw [Ald _ _ _ (F0 c)]; exact fun e=>h ((Alo c).1 e),Ar9 hc⟩
theorem Mg.step {F:Rat->Rat->Rat} {k:Nat} {p q g f R:List A4} {c:An} {m:Cb} (h:Mg F k g f R) (z:F 0 0=0) (hc:RB k c)
  (s:∀n,D0 m n≠0->cf p n=cf g n/\cf q n=cf f n) (h0:rq c=F (cf p m) (cf q m)) (l:∀u∈g,D0 m u.Mono<0) (j:∀u∈f,D0 m u.Mono<0)
  (x:(∃u∈p,u.Mono=m)\/(∃u∈q,u.Mono=m)) (hp:∀u∈g,u∈p) (hq:∀u∈f,u∈q) (B:g.length+f.length+1<=p.length+q.length):Mg F k p q (Pv c m++R):=by
 obtain ⟨i,A⟩:=Av0 (m:=m) hc
 have y:∀t∈R,D0 m t.Mono<0:=by
  intro t ht
  rcases h.mon t ht with ⟨u,hu,e⟩ | ⟨u,hu,e⟩
  .rw [<-e]; exact l u hu
  .rw [<-e]; exact j u hu
 refine ⟨?_,?_,?_,?_,?_⟩
 .refine ⟨List.pairwise_append.2 ⟨?_,h.cp.srt,?_⟩,?_⟩
  .unfold Pv; split
   .exact List.Pairwise.nil
   .exact List.pairwise_singleton _ _
  .intro a ha b hb
   show D0 a.Mono b.Mono<0
   rw [(i a ha).1]; exact y b hb
  .intro t ht
   rcases List.mem_append.1 ht with ht | ht
   .exact ⟨(i t ht).2.1,(i t ht).2.2.1⟩
   .exact h.cp.coe t ht
 .intro n
  rw [Avx,Avz,h.val n]
  by_cases e:D0 m n=0
  .rw [if_pos e]
   have e':=Zy.1 e
   subst e'
   rw [Pu l,Pu j,z,h0]; grind
  .rw [if_neg e,(s n e).1,(s n e).2]; grind
 .intro t ht
  rcases List.mem_append.1 ht with ht | ht
  .rw [(i t ht).1]; exact x
  .rcases h.mon t ht with ⟨u,hu,e⟩ | ⟨u,hu,e⟩
   .exact .inl ⟨u,hp u hu,e⟩
   .exact .inr ⟨u,hq u hu,e⟩
 .rw [List.length_append]; have:=h.len; omega
 .intro t ht
  rcases List.mem_append.1 ht with ht | ht
  .exact (i t ht).2.2.2
  .exact h.rb t ht
end Go.Ab
namespace Go.Ab
open Go
def Zz (n:Int) (f:Bool):List Int:=if f then (if n<0 then [45] else []) else (if n<0 then [32,45,32] else [32,43,32])
def Aeh (n:Int):List Int:=if n.natAbs=1 then [] else ti n.natAbs++[42]
def Aei (v:Int):List Int:=if v = -1 then [114,101,115] else 118::ti v
def tT (f:Bool) (t:Es):List Int:=Zz t.Coef f++(Aeh t.Coef++Aei t.Var)
def Z0:Bool->List Es->Int->List Int
 | f,[],c=>if c≠0\/f=true then Zz c f++ti c.natAbs else []
 | f,t::b,c=>tT f t++Z0 false b c
def Av1 (l:Ey):List Int:=Z0 true l.Terms l.Const
def Z1 (X:List Int):Prop:=∀c m,X=c::m->c=97
theorem Z1.nil:Z1 []:=by intro c m h; cases h
theorem Z1.cons (X:List Int):Z1 (97::X):=by intro c m h; cases h; rfl
theorem Av2 (n:Nat):∃c m,ti n=c::m/\48<=c/\c<=57:=by
 have b:=Ad0 (n:Int)
 cases h:ti (n:Int) with
 | nil=>exact (b h).elim
 | cons c m=>
  refine ⟨c,m,rfl,?_⟩
  have hc:c∈ti (n:Int):=by rw [h]; simp
  unfold ti at hc
  obtain ⟨x,hx,rfl⟩:=List.mem_map.1 hc
  have e:Lib.itoa (n:Int)=Lib.decDigits n:=by
   unfold Lib.itoa
   first | rfl | (rw [if_neg (by omega)]; simp) | simp
  rw [e] at hx
  have:=Zf n n (Nat.le_refl _) x hx
  omega
def NoM (P:List Int):Prop:=∃c m,P=c::m/\c≠45
theorem NoM.ti (n:Nat) (X:List Int):NoM (Go.Ab.ti n++X):=by
 obtain ⟨c,m,e,h⟩:=Av2 n
 exact ⟨c,m++X,by rw [e]; rfl,by omega⟩
def Alp (a:Eg):List Int:=97::(ti a.Deg++58::Av1 a.Lin)
def Alq (f:Cr):List Int:=Kj f.Var f.Index
def Av3 (m:Cb):List Int:=m.Factors.flatMap Alq++m.Atoms.flatMap Alp
def By (l:List Int):Prop:=∀c∈l,0<=c/\c<256
theorem By.app {l m:List Int} (h:By l) (h':By m):By (l++m):=by
 intro c hc
 rcases List.mem_append.1 hc with k | k
 .exact h c k
 .exact h' c k
theorem By.ti (n:Int):By (Go.Ab.ti n):=by
 intro c h
 have:=Lz n c h
 simp only [Ly,Bool.or_eq_true,Ce,beq_iff_eq,decide_eq_true_eq] at this
 omega
theorem By.cons {c:Int} {l:List Int} (hc:0<=c/\c<256) (h:By l):By (c::l):=by
 intro d hd
 rcases List.mem_cons.1 hd with rfl | k
 .exact hc
 .exact h d k
theorem By.nil:By []:=fun c h=>by cases h
theorem By.sgn (n:Int) (f:Bool):By (Zz n f):=by
 unfold Zz
 split <;> split <;> intro c hc <;> simp at hc <;> omega
theorem By.mag (n:Int):By (Aeh n):=by
 unfold Aeh
 split
 .exact By.nil
 .exact (By.ti _).app (By.cons (by omega) By.nil)
theorem By.var (n:Int):By (Aei n):=by
 unfold Aei
 split
 .intro c hc; simp at hc; omega
 .exact By.cons (by omega) (By.ti _)
theorem By.tT (f:Bool) (t:Es):By (tT f t):=(By.sgn _ _).app ((By.mag _).app (By.var _))
theorem By.lins:∀(l:List Es) (f:Bool) (c:Int),By (Z0 f l c)
 | [],f,c=>by
  simp only [Z0]
  split
  .exact (By.sgn _ _).app (By.ti _)
  .exact By.nil
 | t::l,f,c=>(By.tT f t).app (By.lins l false c)
theorem By.at (a:Eg):By (Alp a):=By.cons (by omega) ((By.ti _).app (By.cons (by omega) (By.lins _ _ _)))
theorem By.flat {α:Type} {g:α->List Int} (h:∀a,By (g a)) (l:List α):By (l.flatMap g):=by
 intro c hc
 obtain ⟨a,_,k⟩:=List.mem_flatMap.1 hc
 exact h a c k
theorem By.fac (f:Cr):By (Alq f):=Zj f.Var f.Index
theorem By.mono (m:Cb):By (Av3 m):=(By.flat By.fac _).app (By.flat By.at _)
def bs (l:List Int):ByteArray:=⟨(Ga l).toArray⟩
end Go.Ab
namespace Go.Ab
open Go
end Go.Ab
namespace Go.Ab
open Go
def Dst (b:List A4):Prop:=b.Pairwise fun t u=>t.Mono≠u.Mono
theorem Dst.set {b:List A4} (h:Dst b) {j:Nat} {t u:A4} (ht:b[j]? = some t) (c:u.Mono=t.Mono):Dst (b.set j u):=by
 have e:(b.set j u).map (·.Mono)=b.map (·.Mono):=by
  apply List.ext_getElem?
  intro i
  rw [List.getElem?_map,List.getElem?_map,List.getElem?_set]
  by_cases e:j=i
  .subst e; rw [if_pos rfl,if_pos (Dh ht),ht]; simp [c]
  .rw [if_neg e]
 have k:∀l:List A4,Dst l↔(l.map (·.Mono)).Pairwise (·≠·):=fun l=>by rw [List.pairwise_map]; exact Iff.rfl
 rw [k,e,<-k]; exact h
structure Col (k:Nat) (P:Cb->Prop) (ts:List A4):Prop where
 dst:Dst ts
 tb:∀t∈ts,RB k t.Coef
 mo:∀t∈ts,P t.Mono
theorem Col.nil (k:Nat) (P:Cb->Prop):Col k P []:=⟨List.Pairwise.nil,fun _ h=>(by cases h),fun _ h=>(by cases h)⟩
end Go.Ab
namespace Go.Ab
open Go
end Go.Ab
namespace Go.Ab
open Go
theorem Av4 (x:Br) (k:CSz x) (f:List (List A4)) (D:∀p∈f,∀t∈p,TSz t) (S:f.length<=1048576) :
  ∃r,Mr x f=some r/\(((F4 x/\∀p∈f,Gd x.Data x.Vars x.Res p=true)/\∃B,r = .inl (true,x,B,[],x.Data,x.Vars,x.Res.Kind,x.Res.Num,x.Res.Args)/\Fg x.Data x.Vars x.Res B) \/
   ((¬(F4 x/\∀p∈f,Gd x.Data x.Vars x.Res p=true))/\r = .inr false)):=by
 obtain ⟨b,b1,b2⟩:=Vi k.ds
 have M:=k.nv
 have L:=k.rs
 unfold Mr
 rw [b1,Nn x.Data x.Res 0 (by omega)]
 by_cases y:x.Vars.length<=3000
 .rw [Am (by omega)]
  simp only [cond_false,Ad]
  cases b with
  | false=>exact ⟨_,rfl,.inr ⟨fun h=>(by have:=b2.2 h.1.2.1; cases this),rfl⟩⟩
  | true=>
   have J:=b2.1 rfl
   simp only [Cu,cond_false]
   cases E:(Cs x.Data 0 x.Res&&decide (A2 x.Res<=200)) with
   | false=>exact ⟨_,rfl,.inr ⟨fun h=>(by have:=h.1.2.2.1; rw [show Em x.Data x.Res=false from E] at this; cases this),rfl⟩⟩
   | true=>
    simp only [Cu,cond_false,Ad]
    refine D3 (fun i=>∃j:Nat,i=j/\j<=x.Vars.length/\(x.Vars.take j).all (Em x.Data)=true) (fun i=>x.Vars.length-i.toNat)
     (fun z=>match z with | .inl r=>r=false/\¬F4 x | .inr _=>F4 x) ⟨0,rfl,by omega,by simp⟩ ?_ ?_
    .rintro i ⟨j,rfl,hj,c⟩
     rcases Nat.lt_or_ge j x.Vars.length with h | h
     .have ht:x.Vars[j]? = some x.Vars[j]:=Bj h
      generalize x.Vars[j]=t at ht
      have:=k.vs t (Bi ht)
      simp only [Aj (by omega:(j:Int)<(x.Vars.length:Int)),cond_true,Bn rfl ht,Ad,Nn x.Data t 0 (by omega),C5 h (by omega)]
      rw [show (Cs x.Data 0 t&&decide (A2 t<=200))=Em x.Data t from rfl]
      cases I:Em x.Data t with
      | true=>exact .inl ⟨_,rfl,⟨j+1,rfl,by omega,by rw [Cw ht,List.all_append,c]; simp [I]⟩,by simp; omega⟩
      | false=>
       refine .inr ⟨.inl false,rfl,rfl,fun hh=>?_⟩
       have:=List.all_eq_true.1 hh.2.2.2 t (Bi ht)
       rw [I] at this; cases this
     .have:j=x.Vars.length:=by omega
      subst this
      rw [List.take_length] at c
      exact .inr ⟨.inr (),by simp,y,J,E,c⟩
    .rintro (r | u) g
     .obtain ⟨rfl,g⟩:=g
      exact ⟨_,rfl,.inr ⟨fun h=>g h.1,rfl⟩⟩
     .have hf:F4 x:=g
      simp only
      refine D3 (fun s=>∃(j:Nat) (o:List (ByteArray×Int)),s=((j:Int),o)/\j<=f.length/\Fg x.Data x.Vars x.Res o/\∀p∈f.take j,Gd x.Data x.Vars x.Res p=true) (fun s=>f.length-s.1.toNat)
       (fun z=>match z with | .inl r=>r=false/\¬(∀p∈f,Gd x.Data x.Vars x.Res p=true) | .inr o=>Fg x.Data x.Vars x.Res o/\∀p∈f,Gd x.Data x.Vars x.Res p=true)
       ⟨0,[],rfl,by omega,(fun q h=>by cases h),(fun q h=>by simp at h)⟩ ?_ ?_
      .rintro _ ⟨j,o,rfl,hj,G,c⟩
       rcases Nat.lt_or_ge j f.length with h | h
       .have ht:f[j]? = some f[j]:=Bj h
        generalize f[j]=p at ht
        have l:=Bi ht
        obtain ⟨B,R,N⟩:=Aku (hf.ctx k) [] G p (D p l)
        simp only [Aj (by omega:(j:Int)<(f.length:Int)),cond_true,Bn rfl ht,Ad,R,C5 h (by omega)]
        cases A:Gd x.Data x.Vars x.Res p with
        | true=>
         refine .inl ⟨_,rfl,⟨j+1,B,rfl,by omega,N,fun q hq=>?_⟩,by simp; omega⟩
         rw [Cw ht] at hq
         rcases List.mem_append.1 hq with hq | hq
         .exact c q hq
         .simp only [List.mem_singleton] at hq
          subst hq; exact A
        | false=>
         refine .inr ⟨.inl false,rfl,rfl,fun hh=>?_⟩
         have:=hh p l
         rw [A] at this; cases this
       .have:j=f.length:=by omega
        subst this
        rw [List.take_length] at c
        exact .inr ⟨.inr o,by simp,G,c⟩
      .rintro (r | o) hw
       .obtain ⟨rfl,hw⟩:=hw
        exact ⟨_,rfl,.inr ⟨fun h=>hw h.2,rfl⟩⟩
       .exact ⟨_,rfl,.inl ⟨⟨hf,hw.2⟩,o,rfl,hw.1⟩⟩
 .rw [Aj (by omega)]
  exact ⟨_,rfl,.inr ⟨fun h=>y h.1.1,rfl⟩⟩
def Av5 (x:Br) (m:Cb):Prop:=G2 x.Data x.Vars x.Res m=true/\MSz m
structure Z2 (x:Br) (p:List A4):Prop where
 can:Gd x.Data x.Vars x.Res p=true
 sz:∀t∈p,TSz t
theorem Z2.cp {x:Br} {p:List A4} (h:Z2 x p):CP p:=(Aln.1 h.can).2.1
theorem Z2.mo {x:Br} {p:List A4} (h:Z2 x p):∀t∈p,Av5 x t.Mono:=fun t ht=>⟨(Aln.1 h.can).2.2 t ht,(h.sz t ht).mo⟩
end Go.Ab
namespace Go.Ab
open Go
end Go.Ab
namespace Go.Ab
open Go
def bc:Nat->Nat->Nat
 | _,0=>1
 | 0,_+1=>0
 | n+1,k+1=>bc n k+bc n (k+1)
theorem Pw (n:Nat):bc n 0=1:=by cases n <;> rfl
theorem Aej:∀{n k:Nat},n<k->Fm n k=0
 | n,0,h=>absurd h (by omega)
 | n,k+1,h=>by
  rw [Fm]
  by_cases e:n<k
  .rw [Aej e,Nat.zero_mul]
  .rw [show n-k=0 by omega,Nat.mul_zero]
theorem Alr (n:Nat):∀k,Fm (n+1) (k+1)=(n+1)*Fm n k
 | 0=>by simp [Fm]
 | k+1=>by
  rw [Fm,Alr n k,Fm,show n+1-(k+1)=n-k by omega,Nat.mul_assoc]
theorem Aek:∀n k,Fm n k=fct k*bc n k
 | n,0=>by rw [Pw]; rfl
 | 0,k+1=>by rw [Aej (by omega)]; simp [bc]
 | n+1,k+1=>by
  have h1:=Aek n (k+1)
  have h2:=Aek n k
  rw [Alr,bc,Nat.mul_add,<-h1,fct,Fm,Nat.mul_right_comm,<-h2]
  by_cases e:k<=n
  .rw [<-Nat.mul_add,Nat.mul_comm,show k+1+(n-k)=n+1 by omega]
  .rw [Aej (by omega)]; simp
theorem Ael:∀n k,bc n k<=2 ^ n
 | n,0=>by rw [Pw]; exact Nat.one_le_two_pow
 | 0,k+1=>by simp [bc]
 | n+1,k+1=>by
  have h1:=Ael n (k+1)
  have h2:=Ael n k
  rw [bc,Nat.pow_succ]; omega
theorem Vv (n k:Nat):A8 (bc n k)<=n+1:=by
 refine Jp (Nat.lt_of_le_of_lt (Ael n k) ?_)
 refine Nat.lt_of_le_of_lt (Nat.pow_le_pow_left (by decide:2<=1000000000) n) ?_
 exact Nat.pow_lt_pow_right (by decide) (by omega)
def cR (n:Nat):An:=Bb false n 1
theorem Vx (n:Nat):sv (cR n)=false/\nv (cR n)=n/\dv (cR n)=1:=by
 obtain ⟨g,f,c,b⟩:=U8 false n 1 (by decide)
 refine ⟨?_,?_,?_⟩
 .by_cases h:n=0
  .exact b h
  .exact c h
 .unfold cR; rw [g]; simp
 .unfold cR; rw [f]; simp
theorem Px {n k:Nat} (h:A8 n<=k) (hk:1<=k):RB k (cR n):=Nm _ _ _ _ h (by rw [Pg]; exact hk) hk
theorem Av6 {a b K:Nat} (ha:A8 a<=K) (hb:A8 b<=K) (c:1<=K) (h:K<60000000000):Gm (cR a) (cR b)=some (cR (a+b)):=by
 obtain ⟨a1,a2,a3⟩:=Vx a
 obtain ⟨b1,b2,f⟩:=Vx b
 rw [Ai6 _ _ K K (Px ha c) (Px hb c) (by omega) (by omega),a1,a2,a3,b1,b2,f]
 simp [Lu,Iq,cR]
theorem Als {a K:Nat} (ha:A8 a<=K) (b:1<=K) (h:K<60000000000):Fu (cR a) (cR 1)=some (cR a):=by
 obtain ⟨a1,a2,a3⟩:=Vx a
 obtain ⟨b1,b2,c⟩:=Vx 1
 rw [Adh _ _ K 1 (Px ha b) (Px (by rw [Pg]; decide) (by decide)) (by omega) (by omega),a1,a2,a3,b1,b2,c]
 simp [cR]
theorem Av7 {a K:Nat} (ha:A8 a<=K) (b:1<=K) (h:K<60000000000):Jg (cR a)=some (if a=0 then 0 else 1):=by
 obtain ⟨a1,a2,a3⟩:=Vx a
 rw [Ai5 _ K (Px ha b) (by omega),a1,a2]
 simp [Nl]
theorem Aem:Ef 0=some (cR 0):=Yw 0 (by decide) (by decide)
theorem Z3:Ef 1=some (cR 1):=Yw 1 (by decide) (by decide)
theorem Alt (n k:Nat) (b:n<1000000000) (hk:k<=64):Ti (n:Int) (k:Int)=some (cR (bc n k),true):=by
 unfold Ti
 have e:(if (n:Int)>0 then (n:Int) else 0)=(n:Int):=by split <;> omega
 simp only [Am (by omega:¬(k:Int)<0),cond_false,Am (by omega:¬(k:Int)>64),Ad,e,Ask n k b hk]
 rw [Aek,show Bb false (fct k*bc n k) (fct k)=Bb false (fct k*bc n k) (fct k*1) by rw [Nat.mul_one],Ph _ _ _ _ (Adn k)]
 rfl
theorem Alu (n k:Nat) (b:n<1000000000) (hk:k<=64):Acv (n:Int) (k:Int)=some (cR (bc n k),true):=Alt n k b hk
theorem Aen:∀(l:List Ag) (r:List Bool) (s:Nat) (n:Nat) (p:Int) (L:Nat->Option Ag),l.length=r.length->(∀j,L (s+j)=l[j]?) ->
  (((r.zipIdx s).filter fun q=>!q.1).map fun q=>(q.2:Int))[n]? = some p->∃(m:Nat) (a:Ag),p=m/\L m=some a/\(Dz l r)[n]? = some a
 | [],[],s,n,p,L,_,_,h=>by simp at h
 | a::l,b::r,s,n,p,L,i,g,h=>by
  have c:l.length=r.length:=by simpa using i
  have f:∀j,L (s+1+j)=l[j]?:=fun j=>by rw [show s+1+j=s+(j+1) by omega,g]; rfl
  cases b with
  | true=>
   simp only [List.zipIdx_cons,List.filter_cons,Cu] at h
   obtain ⟨m,x,h1,h2,h3⟩:=Aen l r (s+1) n p L c f (by simpa using h)
   exact ⟨m,x,h1,h2,by simpa [Dz] using h3⟩
  | false=>
   simp only [List.zipIdx_cons,List.filter_cons,Bool.not_false,if_true,List.map_cons] at h
   cases n with
   | zero=>
    simp only [List.getElem?_cons_zero,Option.some.injEq] at h
    exact ⟨s,a,h.symm,by have:=g 0; simpa using this,by simp [Dz]⟩
   | succ n=>
    simp only [List.getElem?_cons_succ] at h
    obtain ⟨m,x,h1,h2,h3⟩:=Aen l r (s+1) n p L c f h
    exact ⟨m,x,h1,h2,by simpa [Dz] using h3⟩
 | [],_::_,_,_,_,_,h,_,_=>by simp at h
 | _::_,[],_,_,_,_,h,_,_=>by simp at h
theorem Av8 {l:List Ag} {r:List Bool} (b:l.length=r.length) {n:Nat} {p:Int} (h:(Fe r)[n]? = some p):∃(m:Nat) (a:Ag),p=m/\l[m]? = some a/\(Dz l r)[n]? = some a :=
 Aen l r 0 n p (fun j=>l[j]?) b (fun j=>by simp) (by unfold Fe at h; exact h)
theorem Av9 (l:List Ag) (r:List Bool) (c:l.length=r.length):(Fe r).length=(Dz l r).length:=by
 unfold Fe Dz
 rw [List.length_map,List.length_map]
 have key:∀(l:List Ag) (r:List Bool) (s:Nat),l.length=r.length->((r.zipIdx s).filter fun q=>!q.1).length=((l.zip r).filter fun p=>!p.2).length:=by
  intro l
  induction l with
  | nil=>intro r s h; have:r = []:=List.length_eq_zero_iff.1 h.symm; subst this; rfl
  | cons a l ih=>
   intro r s h
   cases r with
   | nil=>simp at h
   | cons b r=>
    have:=ih r (s+1) (by simpa using h)
    cases b <;> simp [this]
 exact key l r 0 c
theorem Awa {data:List Al} {t:Ag} (hk:t.Kind=5):∀(n:Nat) (v:Av),B6 v<=n->Ec data v t=true->∀x∈Gi data t.Num v,Ec data x t=true/\B6 x<=B6 v:=by
 intro n
 induction n with
 | zero=>intro v h; have:=L5 v; omega
 | succ n ih=>
  intro v h q x hx
  have s:=Is v
  obtain ⟨y,_,_,_,k,f⟩:=So hk q
  rw [Zu] at hx
  rcases List.mem_cons.1 hx with rfl | hx
  .exact ⟨q,Nat.le_refl _⟩
  .have key:∀(l:List Av) (r:List Bool),(∀(j:Nat) (w:Av),l[j]? = some w->r[j]? = some true->Ec data w t=true)->Cy l<=n->x∈Fa data t.Num l r->Ec data x t=true/\B6 x<=Cy l:=by
    intro l
    induction l with
    | nil=>intro r _ _ hx; simp [Fa] at hx
    | cons w l c=>
     intro r i u hx
     cases r with
     | nil=>simp [Fa] at hx
     | cons b r=>
      have hw:Cy (w::l)=B6 w+Cy l:=by simp [Cy]
      have g:∀(j:Nat) (w':Av),l[j]? = some w'->r[j]? = some true->Ec data w' t=true:=fun j w' h1 h2=>i (j+1) w' h1 h2
      cases b with
      | true=>
       simp only [Fa,cond_true,List.mem_append] at hx
       rcases hx with hx | hx
       .have:=ih w (by omega) (i 0 w rfl rfl) x hx
        exact ⟨this.1,by omega⟩
       .have:=c r g (by omega) hx
        exact ⟨this.1,by omega⟩
      | false=>
       simp only [Fa,cond_false,List.nil_append] at hx
       have:=c r g (by omega) hx
       exact ⟨this.1,by omega⟩
   have:=key v.Kids _ f (by omega) hx
   exact ⟨this.1,by omega⟩
theorem Aeo (data:List Al):∀(f:List A0) (c:List Ag) (d:Nat),C6 data f c=some d->f.length=c.length/\∀(j:Nat) (i:A0) (t:Ag),f[j]? = some i->c[j]? = some t->∃e,Eb data i t=some e/\e<=d
 | [],[],d,_=>⟨rfl,fun j i t h=>by simp at h⟩
 | i::f,t::c,d,h=>by
  rw [Sf] at h
  cases h1:Eb data i t with
  | none=>rw [h1] at h; cases h
  | some a=>
   rw [h1,Ad] at h
   cases h2:C6 data f c with
   | none=>rw [h2] at h; cases h
   | some b=>
    rw [h2] at h
    have h:a+b=d:=Option.some.inj h
    obtain ⟨g1,g2⟩:=Aeo data f c b h2
    refine ⟨by simp [g1],fun j k g hi ht=>?_⟩
    cases j with
    | zero=>cases hi; cases ht; exact ⟨a,h1,by omega⟩
    | succ j=>
     obtain ⟨e,l,q⟩:=g2 j k g hi ht
     exact ⟨e,l,by omega⟩
 | [],_::_,_,h=>by simp only [C6] at h; cases h
 | _::_,[],_,h=>by simp only [C6] at h; cases h
theorem Alv (data:List Al):∀(es:List A0) (t:Ag),E9 data es t=some es.length->∀e∈es,∃c,Fo data t e.Num=some c/\C6 data e.Kids c=some 0
 | [],_,_=>fun e h=>by cases h
 | e::es,t,h=>by
  rw [Se] at h
  cases h1:Fo data t e.Num with
  | none=>rw [h1] at h; cases h
  | some c=>
   rw [h1,Ad] at h
   cases h2:C6 data e.Kids c with
   | none=>rw [h2] at h; cases h
   | some a=>
    rw [h2,Ad] at h
    cases h3:E9 data es t with
    | none=>rw [h3] at h; cases h
    | some b=>
     rw [h3] at h
     have h:1+a+b=es.length+1:=Option.some.inj h
     have:=Zd data es t b h3
     have ha:a=0:=by omega
     have hb:b=es.length:=by omega
     subst ha; subst hb
     intro x hx
     rcases List.mem_cons.1 hx with rfl | hx
     .exact ⟨c,h1,h2⟩
     .exact Alv data es t h3 x hx
end Go.Ab
namespace Go.Ab
open Go
def I6 (data:List Al) (t:Ag) (e:A0):Uw:=⟨e.Num,e.Kids,Fe (C8 data t.Num e.Num),match Fx data t e.Num with | some l=>Dz l (C8 data t.Num e.Num) | none=>[]⟩
def Nw (l:List Av) (c:Int):Nat:=(l.filter fun v=>v.Num==c).length
def Gq (n:Nat) (f:Nat->Nat):List An:=(List.range (n+1)).map fun q=>cR (f q)
theorem Py (n:Nat) (f:Nat->Nat):(Gq n f).length=n+1:=by simp [Gq]
theorem Nx {n q:Nat} (f:Nat->Nat) (h:q<=n):(Gq n f)[q]? = some (cR (f q)):=by
 unfold Gq
 rw [List.getElem?_map,List.getElem?_range (by omega)]; rfl
theorem Alw {n q x:Nat} {f g:Nat->Nat} (h:q<=n) (h1:g q=x) (h2:∀p,p<=n->p≠q->g p=f p):Cq (Gq n f) (q:Int) (cR x)=Gq n g:=by
 rw [Gx (n:=q) rfl]
 apply List.ext_getElem?
 intro i
 rw [List.getElem?_set]
 rcases Nat.lt_or_ge i (n+1) with hi | hi
 .rw [Nx f (by omega),Nx g (by omega),Py]
  by_cases e:q=i
  .subst e; rw [if_pos rfl,if_pos (by omega),h1]
  .rw [if_neg e,h2 i (by omega) (Ne.symm e)]
 .rw [List.getElem?_eq_none (by rw [Py]; exact hi),List.getElem?_eq_none (by rw [Py]; exact hi)]
  split
  .rw [if_neg (by rw [Py]; omega)]
  .rfl
theorem Aep {n:Nat} {f g:Nat->Nat} (h:∀p,p<=n->f p=g p):Gq n f=Gq n g:=by
 apply List.ext_getElem?
 intro i
 rcases Nat.lt_or_ge i (n+1) with hi | hi
 .rw [Nx f (by omega),Nx g (by omega),h i (by omega)]
 .rw [List.getElem?_eq_none (by rw [Py]; exact hi),List.getElem?_eq_none (by rw [Py]; exact hi)]
theorem Awb (c:List Ag) (Q:List Bool) (y:Q.length=c.length) (z:c.length<=6) {R:Type} {J:Int×List Int×List Ag->Option R} {r:R} (x:J ((Q.length:Int),Fe Q,Dz c Q)=some r) :
  (Ak (S:=(Int×(List Int)×(List Ag))) (E:=(Int×(List Int)×(List Ag))) (fun (v85,g,f)=>
   bif (decide (v85<(Q.length:Int))) then (
   (Ae Q v85).bind fun i=>
   bif (!i) then (
   (Bl 8 g [v85]).bind fun l=>
   (Ae c v85).bind fun h=>
   (Bl 40 f [h]).bind fun k=>
   some (.inl ((Ac (v85+1)),l,k)))
   else some (.inl ((Ac (v85+1)),g,f)))
   else some (.inr (v85,g,f))) (0,[],[])).bind J=some r:=by
 have s:∀j,(Fe (Q.take j)).length<=Q.length:=fun j=>by
  unfold Fe
  rw [List.length_map]
  refine Nat.le_trans (List.length_filter_le _ _) ?_
  simp; omega
 refine E2 Q (fun j=>((j:Int),Fe (Q.take j),Dz (c.take j) (Q.take j))) (by simp [Fe,Dz]) (by omega) ?_ ?_
 .intro j b hj hb h1 h2 h3
  have ha:c[j]? = some c[j]:=Bj (by omega)
  generalize c[j]=a at ha
  have u:=Vl (c.take j) (Q.take j)
  have:(c.take j).length<=6:=by simp; omega
  have hp:=s j
  have q:Fe (Q.take (j+1))=Fe (Q.take j)++bif b then [] else [(j:Int)]:=by
   unfold Fe
   rw [Za hb,List.filter_append,List.map_append]
   cases b <;> rfl
  simp only [h1,h2,h3,cond_true,Ad,q,Y8 ha hb]
  cases b with
  | true=>simp
  | false=>
   simp only [Bool.not_false,cond_true,cond_false]
   rw [C4 (by simp; omega),Ad,Bn rfl ha,Ad,C4 (by simp; omega)]; rfl
 .intro h1
  exact ⟨_,by simp only [h1]; rfl,by rw [List.take_length,List.take_of_length_le (by omega)]; exact x⟩
theorem Awc (n:Nat) (k:n<=100) {R:Type} {J:List An->Option R} {r:R} (h:J (List.replicate n (cR 0))=some r) :
  (Ak (S:=(Int×(List An))) (E:=(List An)) (fun (b,c)=>
   bif (decide (b<(((List.replicate n (An.mk false [] [])).length:Nat):Int))) then (
   (Ef 0).bind fun f=>
   (Ae c b).bind fun g=>
   some (.inl ((Ac (b+1)),(Cq c b f))))
   else some (.inr c)) (0,List.replicate n (An.mk false [] []))).bind J=some r:=by
 refine E2 (List.replicate n (An.mk false [] [])) (fun j=>((j:Int),List.replicate j (cR 0)++List.replicate (n-j) (An.mk false [] []))) (by simp) (by simp; omega) ?_ ?_
 .intro j x hj hx h1 h2 h3
  have hj':j<n:=by simpa using hj
  have i:List.replicate (n-j) (An.mk false [] [])=An.mk false [] []::List.replicate (n-(j+1)) (An.mk false [] []):=by rw [show n-j=(n-(j+1))+1 by omega]; rfl
  simp only [h1,h3,cond_true,Aem,Ad,i]
  rw [Ve (List.replicate j (cR 0)) _ _ _ j rfl (by simp),Ad,Vd _ _ _ _ _ j rfl (by simp)]
  rw [List.replicate_succ']; simp
 .intro h1
  exact ⟨List.replicate n (cR 0),by simp only [h1]; simp,h⟩
theorem Awd {data:List Al} {t:Ag} (hz:Szv data) (hk:t.Kind=5) (l:List A0) (c:Int) (hc:∀e∈l,e.Num=c)
  (hp:∀e∈l,∃M,Fo data t e.Num=some M/\C6 data e.Kids M=some 0) (hl:l.length<=6) (k:Nat)
  (b0:∀e∈l,∀(Y:A0) (t':Ag) (w:Av),Y∈e.Kids->Eb data Y t'=some 0->A2 t'<=200->Ec data w t'=true->B6 w<=5000->Ib k data t' Y w=some (cR 1))
  (x:Av) (hx:Ec data x t=true) (b8:B6 x<=5000) (m:Nat) (hm:m<=5000) {R:Type} {J:Int×List An->Option R} {r:R}
  (hJ:J (0,Gq l.length (bc (if x.Num=c then m+1 else m)))=some r) :
  (Ak (S:=(Int×(List An))) (E:=(Int×(List An))) (fun (b,f)=>
   bif (decide (b>(0:Int))) then (
   (Ae (l.map (I6 data t)) (Ac (b-1))).bind fun s=>
   (show Option Bool from
   bif (s.con != x.Num) then some true
   else (
   (Ae f (Ac (b-1))).bind fun ac=>
   (Jg ac).bind fun ab=>
   some (ab==(0:Int)))).bind fun aa=>
   bif aa then some (.inl ((Ac (b-1)),f))
   else (
   (Ae f (Ac (b-1))).bind fun A=>
   (Ak (S:=(Int×Bool×(List Int)×(List Int))) (E:=(Int×Bool×(List Int)×(List Int))) (fun (h,L,v226,v227)=>
   bif (decide (h<(s.places.length:Int))) then (
   (Ae s.places h).bind fun v228=>
   (Ae s.types h).bind fun v229=>
   (Ae s.kids h).bind fun a8=>
   (Ae x.Kids v228).bind fun a7=>
   (Ib k data v229 a8 a7).bind fun v232=>
   (Fu (An.mk L v226 v227) v232).bind fun v233=>
   some (.inl ((Ac (h+1)),v233.Neg,v233.Num,v233.Den)))
   else some (.inr (h,L,v226,v227))) (0,A.Neg,A.Num,A.Den)).bind fun (v234,a6,v236,a1)=>
   (Ae f b).bind fun z=>
   (Gm z (An.mk a6 v236 a1)).bind fun Z=>
   (Ae f b).bind fun b4=>
   some (.inl ((Ac (b-1)),(Cq f b Z)))))
   else some (.inr (b,f))) ((l.length:Int),Gq l.length (bc m))).bind J=some r:=by
 generalize D:(if x.Num=c then m+1 else m)=X at hJ
 refine Lt l.length (fun i=>(((l.length-i:Nat):Int),Gq l.length (fun p=>bc (if l.length-i<p then X else m) p))) ?_ ?_ ?_
 .simp only [Nat.sub_zero,Int.ofNat_eq_natCast]
  congr 1
  exact Aep (fun p hp=>by rw [if_neg (by omega)])
 .intro i hi
  obtain ⟨q,hq⟩:∃q:Nat,l.length-i=q+1:=⟨l.length-i-1,by omega⟩
  have hq':l.length-(i+1)=q:=by omega
  have ap:q+1<=l.length:=by omega
  have he:l[q]? = some l[q]:=Bj (by omega)
  generalize l[q]=e at he
  have N:=Bi he
  have af:=hc e N
  have w1:Ac (((q+1:Nat):Int)-1)=((q:Nat):Int):=by rw [show (((q+1:Nat):Int)-1)=(q:Int) by omega,Ac,Bp] <;> omega
  have ay:Ae (l.map (I6 data t)) (q:Int)=some (I6 data t e):=Bn rfl (by rw [List.getElem?_map,he]; rfl)
  simp only [hq,hq',Aj (by omega:((q+1:Nat):Int)>0),cond_true,w1,ay,Ad]
  have ae:Ae (Gq l.length (fun p=>bc (if q+1<p then X else m) p)) (q:Int)=some (cR (bc m q)):=by
   rw [Bn rfl (Nx _ (by omega)),if_neg (by omega)]
  have ax:Ae (Gq l.length (fun p=>bc (if q+1<p then X else m) p)) ((q+1:Nat):Int)=some (cR (bc m (q+1))):=by
   rw [Bn rfl (Nx _ (by omega)),if_neg (by omega)]
  show ((bif (e.Num != x.Num) then some true else _).bind _)=_
  rw [af]
  by_cases B:x.Num=c
  .rw [if_pos B] at D
   subst D
   rw [B4 B.symm]
   simp only [cond_false,ae,Ad,Av7 (Nat.le_trans (Vv m q) (by omega:m+1<=5001)) (by decide) (by decide)]
   by_cases U:bc m q=0
   .rw [if_pos U]
    simp only [beq_self_eq_true,cond_true]
    congr 3
    refine Aep (fun p hp=>?_)
    by_cases e1:q+1<p
    .rw [if_pos e1,if_pos (by omega)]
    .rw [if_neg e1]
     by_cases e2:q<p
     .rw [if_pos e2,show p=q+1 by omega,bc,U,Nat.zero_add]
     .rw [if_neg e2]
   .rw [if_neg U]
    have b3:((1:Int)==0)=false:=rfl
    simp only [b3,cond_false,ae,Ad]
    obtain ⟨M,g,ao⟩:=hp e N
    unfold Fo at g
    cases hf:Fx data t e.Num with
    | none=>rw [hf] at g; cases g
    | some V=>
     rw [hf] at g
     have g:Dz V (C8 data t.Num e.Num)=M:=Option.some.inj g
     have ad:=Pl hf
     obtain ⟨i1,i2⟩:=Aeo data _ _ _ ao
     have am:∀a∈M,A2 a<=200:=(Vm (show Fo data t e.Num=some M by unfold Fo; rw [hf,<-g]; rfl)).1
     have b5:=Av9 V (C8 data t.Num e.Num) ad.symm
     have u:He data x.Kids V=true:=by
      rw [Sm,if_neg (by omega),if_neg (by omega),if_neg (by omega),if_neg (by omega),if_pos hk] at hx
      rw [B,<-af,hf] at hx
      simp only [Ce] at hx
      exact hx.2
     have ah:x.Kids.length=V.length:=by
      by_cases hl:x.Kids.length=V.length
      .exact hl
      .rw [Ps data _ _ hl] at u; cases u
     have b6:V.length<=6:=by
      obtain ⟨x',y,_,ai,_,hy,au,_⟩:=Lb hf
      obtain ⟨y6,_⟩:=hz x' (De ai).2.2.2 y (De hy).2.2.2
      rw [au]; simpa using y6
     have bd:=Vl V (C8 data t.Num e.Num)
     have ak:(I6 data t e).types=M:=by unfold I6; simp only [hf,g]
     have ar:(I6 data t e).places=Fe (C8 data t.Num e.Num):=rfl
     have av:(I6 data t e).kids=e.Kids:=rfl
     rw [ak,ar,av]
     have b7:=Is x
     refine E2 (Fe (C8 data t.Num e.Num)) (fun j=>((j:Int),(cR (bc m q)).Neg,(cR (bc m q)).Num,(cR (bc m q)).Den)) rfl (by omega) ?_ ?_
     .intro j pl hj aq h1 h2 h3
      obtain ⟨mm,a,rfl,ag,I⟩:=Av8 ad.symm aq
      rw [g] at I
      have G:e.Kids[j]? = some (e.Kids[j]'(by rw [i1,<-g]; omega)):=Bj _
      generalize e.Kids[j]'_=Y at G
      obtain ⟨d,d1,d2⟩:=i2 j Y a G I
      have az:d=0:=by omega
      subst az
      have bb:=Dh ag
      have hw:x.Kids[mm]? = some (x.Kids[mm]'(by omega)):=Bj _
      generalize x.Kids[mm]'_=w at hw
      have aj:Ec data w a=true:=by
       rw [Sn data _ _ ah] at u
       exact List.all_eq_true.1 u (w,a) (Bi (i:=mm) (by rw [List.getElem?_zip_eq_some]; exact ⟨hw,ag⟩))
      have b9:=Jx (Bi hw)
      simp only [h1,h2,h3,cond_true,Ad,Bn rfl I,Bn rfl G,Bn rfl hw]
      rw [b0 e N Y a w (Bi G) d1 (am a (Bi I)) aj (by omega),Ad]
      show (Fu (cR (bc m q)) (cR 1)).bind _=_
      rw [Als (Nat.le_trans (Vv m q) (by omega:m+1<=5001)) (by decide) (by decide)]; rfl
     .intro h1
      refine ⟨_,by simp only [h1]; rfl,?_⟩
      show ((Ae _ _).bind fun z=>(Gm z (cR (bc m q))).bind _)=_
      rw [ax]
      simp only [Ad]
      rw [Av6 (Nat.le_trans (Vv m (q+1)) (by omega:m+1<=5001)) (Nat.le_trans (Vv m q) (by omega:m+1<=5001)) (by decide) (by decide)]
      simp only [Ad,w1]
      congr 3
      refine Alw ap ?_ ?_
      .rw [if_pos (by omega),bc,Nat.add_comm]
      .intro p hp ba
       by_cases e1:q+1<p
       .rw [if_pos (by omega),if_pos e1]
       .rw [if_neg (by omega),if_neg e1]
  .rw [if_neg B] at D
   subst D
   rw [Ca (fun e=>B e.symm)]
   simp only [Ad,cond_true,ite_self]
 .refine ⟨(0,Gq l.length (bc X)),?_,hJ⟩
  simp only [Nat.sub_self]
  have:Gq l.length (fun p=>bc (if 0<p then X else m) p)=Gq l.length (bc X):=Aep (fun p hp=>by
   by_cases e:0<p
   .rw [if_pos e]
   .have:p=0:=by omega
    subst this; rw [Pw,Pw])
  rw [this]; rfl
end Go.Ab
namespace Go.Ab
open Go
theorem Alx {data:List Al} (u:Szv data) (I:G1 data) (X:∀x∈data,x.Cons.length<=8) {t:Ag} (hk:t.Kind=5) (ht:A2 t<=200) (l:List A0) (c:Int) (hc:∀e∈l,e.Num=c)
  (hp:∀e∈l,∃h,Fo data t e.Num=some h/\C6 data e.Kids h=some 0) (V:l.length<=6) (v:Av) (S:B6 v<=5000) (L:Ec data v t=true) (k:Nat)
  (G:∀e∈l,∀(s:A0) (g:Ag) (w:Av),s∈e.Kids->Eb data s g=some 0->A2 g<=200->Ec data w g=true->B6 w<=5000->Ib k data g s w=some (cR 1)) :
  Rg (k+1) data t l v=some (cR (bc (Nw (Gi data t.Num v) c) l.length)):=by
 have U:=Vs data t.Num v
 rw [Rg]
 refine E2 l (fun j=>((j:Int),(l.take j).map (I6 data t))) (by simp) (by omega) ?_ ?_
 .intro j e hj J h1 h2 h3
  obtain ⟨h,b,_⟩:=hp e (Bi J)
  unfold Fo at b
  cases hf:Fx data t e.Num with
  | none=>rw [hf] at b; cases b
  | some M=>
   have A:=Pl hf
   have f:M.length<=6:=by
    obtain ⟨R,y,_,z,_,hy,D,_⟩:=Lb hf
    obtain ⟨N,_⟩:=u R (De z).2.2.2 y (De hy).2.2.2
    rw [D]; simpa using N
   simp only [h1,h2,h3,cond_true,Ad,Y7 u t ht,Vf data t.Num e.Num I,hf,okL]
   refine Awb M (C8 data t.Num e.Num) A f ?_
   show (Bl 80 _ [_]).bind _=_
   rw [C4 (by simp; omega),Ad,Cw J,List.map_append]
   congr 4
   show [_] = [I6 data t e]
   unfold I6
   rw [hf]
 .intro h1
  refine ⟨l.map (I6 data t),by simp only [h1]; rw [List.take_length]; rfl,?_⟩
  have Z:Ac ((((l.map (I6 data t)).length:Nat):Int)+1)=((l.length+1:Nat):Int):=by
   rw [List.length_map,Ac,Bp] <;> omega
  rw [Z,Jm (n:=l.length+1) (c:=l.length+1) rfl rfl (by omega) (by omega) (by omega),Ad]
  refine Awc (l.length+1) (by omega) ?_
  have E:Ae (List.replicate (l.length+1) (cR 0)) 0=some (cR 0):=Bn (n:=0) rfl (by rw [List.getElem?_replicate,if_pos (by omega)])
  rw [Z3,Ad,E,Ad,Ak4 I X hk v S L,Ad]
  have Y:Cq (List.replicate (l.length+1) (cR 0)) 0 (cR 1)=Gq l.length (bc 0):=by
   have:List.replicate (l.length+1) (cR 0)=Gq l.length (fun _=>0):=by
    apply List.ext_getElem?
    intro i
    rcases Nat.lt_or_ge i (l.length+1) with hi | hi
    .rw [Nx _ (by omega),List.getElem?_replicate,if_pos hi]
    .rw [List.getElem?_eq_none (by simpa using hi),List.getElem?_eq_none (by rw [Py]; exact hi)]
   rw [this]
   refine Alw (q:=0) (by omega) (Pw 0) ?_
   intro p _ hp
   cases p with
   | zero=>exact absurd rfl hp
   | succ p=>rfl
  rw [Y]
  refine E2 (Gi data t.Num v) (fun j=>((j:Int),Gq l.length (bc (Nw ((Gi data t.Num v).take j) c)))) rfl (by omega) ?_ ?_
  .intro j x hj hx h1 h2 h3
   have hxm:=Awa hk _ v (Nat.le_refl _) L x (Bi hx)
   have B:Nw ((Gi data t.Num v).take j) c<=5000:=by
    unfold Nw
    refine Nat.le_trans (List.length_filter_le _ _) ?_
    simp; omega
   simp only [h1,h2,h3,cond_true,Ad]
   rw [show (((l.map (I6 data t)).length:Nat):Int)=(l.length:Int) by rw [List.length_map]]
   refine Awd u hk l c hc hp V k G x hxm.1 (by omega) _ B ?_
   show some (Sum.inl (_,_))=_
   congr 4
   rw [Cw hx]
   unfold Nw
   rw [List.filter_append,List.length_append]
   by_cases e:x.Num=c
   .rw [if_pos e]; simp [e]
   .rw [if_neg e]; simp [e]
  .intro h1
   refine ⟨_,by simp only [h1]; rw [List.take_length]; rfl,?_⟩
   rw [Bn (n:=l.length) (by simp) (Nx _ (Nat.le_refl _))]; rfl
theorem Awe {data:List Al} (J:Szv data) (S:G1 data) (Z:∀x∈data,x.Cons.length<=8):∀(n:Nat) (i:A0) (t:Ag) (w:Av) (k:Nat),Cn i<=n->2*n<=k->n<1099511627776->Eb data i t=some 0->A2 t<=200->Ec data w t=true->B6 w<=5000->Ib k data t i w=some (cR 1):=by
 intro n
 induction n with
 | zero=>intro i t w k h; have:=Eh i; omega
 | succ n ih=>
  intro i t w k hi hk hn hd ht f hw
  obtain ⟨k,rfl⟩:∃I,k=I+2:=⟨k-2,by omega⟩
  have V:=Eh i
  have L:=Is w
  rw [Ib,Z3]
  simp only [Ad]
  rw [Sd] at hd
  rw [Sm] at f
  by_cases g:t.Kind=6
  .rw [B0 g]
   rw [if_pos g] at hd
   rw [if_neg (by omega),if_neg (by omega),if_neg (by omega),if_pos g] at f
   simp only [Ce] at f
   have b:=f.2
   have hd:C6 data i.Kids t.Args=some 0:=by
    by_cases e:i.Num=0
    .rw [if_pos e] at hd; exact hd
    .rw [if_neg e] at hd; cases hd
   obtain ⟨i1,i2⟩:=Aeo data _ _ _ hd
   have y:w.Kids.length=t.Args.length:=by
    by_cases G:w.Kids.length=t.Args.length
    .exact G
    .rw [Ps data _ _ G] at b; cases b
   have N:=Fw t
   have R:=Hb t.Args
   rw [cond_true]
   refine E2 t.Args (fun j=>((j:Int),(cR 1).Neg,(cR 1).Num,(cR 1).Den)) rfl (by omega) ?_ ?_
   .intro j a hj ha h1 h2 h3
    have c:i.Kids[j]? = some (i.Kids[j]'(by omega)):=Bj _
    generalize i.Kids[j]'_=D at c
    have hu:w.Kids[j]? = some (w.Kids[j]'(by omega)):=Bj _
    generalize w.Kids[j]'_=u at hu
    obtain ⟨d,d1,d2⟩:=i2 j D a c ha
    have B:d=0:=by omega
    subst B
    have M:=Jx (Bi hu)
    have X:=Hm (Bi c)
    have Y:=F1 (Bi ha)
    have z:Ec data u a=true:=by
     rw [Sn data _ _ y] at b
     exact List.all_eq_true.1 b (u,a) (Bi (i:=j) (by rw [List.getElem?_zip_eq_some]; exact ⟨hu,ha⟩))
    simp only [h1,h2,h3,cond_true,Ad,Bn rfl c,Bn rfl hu]
    rw [ih D a u (k+1) (by omega) (by omega) (by omega) d1 (by omega) z (by omega),Ad]
    show (Fu (cR 1) (cR 1)).bind _=_
    rw [Als (K:=1) (by rw [Pg]; decide) (by decide) (by decide)]; rfl
   .intro h1
    exact ⟨((cR 1).Neg,(cR 1).Num,(cR 1).Den),by simp only [h1]; rfl,rfl⟩
  .rw [if_neg g] at hd
   rw [Bg g,cond_false]
   by_cases q:t.Kind=7
   .rw [B0 q,cond_true]
    rw [if_pos q] at hd
    have A:i.Num=0:=by
     by_cases e:0<=i.Num/\i.Num<=6/\i.Kids.length=0
     .rw [if_pos e] at hd
      have:=Option.some.inj hd
      omega
     .rw [if_neg e] at hd; cases hd
    have U:=Kn w.Kids
    rw [A,show (0:Int)=((0:Nat):Int) from rfl,Alu _ _ (by omega) (by decide),Ad,Pw]
   .rw [if_neg q] at hd
    rw [Bg q,cond_false]
    by_cases s:t.Kind=5
    .rw [B0 s,cond_true]
     rw [if_pos s] at hd
     have hd:E9 data i.Kids t=some 0:=by
      by_cases e:i.Num=0
      .rw [if_pos e] at hd; exact hd
      .rw [if_neg e] at hd; cases hd
     have E:=Zd data _ _ _ hd
     have l:i.Kids = []:=List.length_eq_zero_iff.1 (by omega)
     rw [<-Sm] at f
     rw [l,Alx J S Z s ht [] 0 (fun e h=>by cases h) (fun e h=>by cases h) (by simp) w hw f k (fun e h=>by cases h),Ad]
     show some (cR (bc _ 0))=_
     rw [Pw]
    .rw [Bg s,cond_false]
def Hn (data:List Al) (t:Ag) (w:Av) (b:Int):Nat:=if t.Kind=7 then w.Kids.length else Nw (Gi data t.Num w) b
theorem Aly (x:Br) (hz:CSz x) (I:F4 x) (f:Cr) (t:Ag) (ht:Ct x.Vars x.Res f.Var=some t) (hi:Cn f.Index<=1048576) (w:Av) (hX:Hf x.Data w t=true)
  (X:∃d,Eb x.Data f.Index t=some d/\d<=6) (s:Int×Int×Bool) (c:Gv x f=some s) (E:s.2.2=true) :
  ∃k:Nat,s.2.1=k/\k<=64/\Hn x.Data t w s.1<=5000/\Ms x.Data t f.Index w=some (cR (bc (Hn x.Data t w s.1) k),0) /\
   ((t.Kind=7/\s.1 = -1)\/(t.Kind=5/\∃y,Ae x.Data t.Num=some y/\0<=s.1/\s.1<y.Cons.length)):=by
 have hg:Em x.Data t=true:=by
  unfold Ct at ht
  by_cases h:f.Var = -1
  .rw [if_pos h] at ht; cases ht; exact I.2.2.1
  .rw [if_neg h] at ht
   exact List.all_eq_true.1 I.2.2.2 t (De ht).2.2.2
 have af:=hg
 simp only [Em,Ce,decide_eq_true_eq] at af
 have M:=hX
 unfold Hf at M
 simp only [Ce,decide_eq_true_eq] at M
 obtain ⟨⟨_,h5⟩,hT⟩:=M
 obtain ⟨d,hd,Y⟩:=X
 obtain ⟨d1,_⟩:=Ak6 hz.ds I.2.1 t hg f.Index hi
 have aj:=Is w
 have ak:=Kn w.Kids
 have am:=Vs x.Data t.Num w
 have Z:Hn x.Data t w s.1<=5000:=by
  unfold Hn
  split
  .omega
  .unfold Nw
   refine Nat.le_trans (List.length_filter_le _ _) ?_
   omega
 obtain ⟨b,b1,_,b3⟩:=Zt hz.ds w t (by omega) (by omega)
 have hb:b=true:=b3.2 ⟨I.2.1,hX⟩
 subst hb
 have a1:Ms x.Data t f.Index w=(Ib 4000000 x.Data t f.Index w).bind fun v7=>some (v7,0):=by
  unfold Ms Xr
  rw [d1,hd,Sg Y,Ad,Ad,Aj (by omega),b1]
  rfl
 have G:f.Index.Kids.length<=1048576:=by have:=Js f.Index.Kids; have:=Eh f.Index; omega
 have g:=Sd x.Data f.Index t
 rw [hd] at g
 unfold Gv at c
 rw [Aec,ht] at c
 simp only [Ad,Cu,cond_false] at c
 by_cases D:t.Kind=7
 .rw [B0 D] at c
  simp only [cond_true,Option.some.injEq] at c
  subst c
  rw [if_neg (by omega),if_pos D] at g
  by_cases e:0<=f.Index.Num/\f.Index.Num<=6/\f.Index.Kids.length=0
  .refine ⟨f.Index.Num.toNat,by simp only; omega,by omega,Z,?_,.inl ⟨D,rfl⟩⟩
   rw [a1,show (4000000:Nat)=3999999+1 from rfl,Ib,Z3,Ad,Bg (by omega:t.Kind≠6),cond_false,B0 D,cond_true]
   have:f.Index.Num=((f.Index.Num.toNat:Nat):Int):=by omega
   rw [this,Alu _ _ (by omega) (by omega),Ad]
   unfold Hn
   rw [if_pos D]; rfl
  .rw [if_neg e] at g; cases g
 .rw [Bg D] at c
  simp only [cond_false] at c
  by_cases N:t.Kind=5
  .rw [B0 N] at c
   simp only [cond_true,d1,hd,Sg Y,Ad] at c
   rw [if_neg (by omega),if_neg D,if_pos N] at g
   have L:E9 x.Data f.Index.Kids t=some d:=by
    by_cases e:f.Index.Num=0
    .rw [if_pos e] at g; exact g.symm
    .rw [if_neg e] at g; cases g
   cases q:f.Index.Kids with
   | nil=>
    rw [q] at c
    simp at c
    subst c; cases E
   | cons j l=>
    rw [q] at c L G
    have ae:(((j::l).length:Int)==0)=false:=Bg (by simp; omega)
    have ao:Ae (j::l) 0=some j:=rfl
    simp only [ae,cond_false,Ad] at c
    by_cases V:(d:Int)=((j::l).length:Int)
    .rw [B4 V] at c
     simp only [cond_false] at c
     have ad:=Zw (j::l) j rfl G (J:=fun z=>match z with | .inl (aa,a8,a7)=>some (aa,a8,a7) | .inr _=>(Ae (j::l) 0).bind fun a6=>some (a6.Num,((j::l).length:Int),true)) (rt:=(j.Num,((j::l).length:Int),true)) (rf:=(0,0,false)) rfl rfl
     have i:=ad.symm.trans c
     have i:=Option.some.inj i
     cases B:(j::l).all (fun k=>k.Num==j.Num) with
     | false=>rw [B] at i; subst i; cases E
     | true=>
      rw [B,cond_true] at i
      subst i
      have ah:d=(j::l).length:=by omega
      rw [ah] at L
      have A:=Alv x.Data _ t L
      have S:∀e∈j::l,e.Num=j.Num:=fun e he=>eq_of_beq (List.all_eq_true.1 B e he)
      obtain ⟨ai,R,_⟩:=A j (by simp)
      obtain ⟨_,y,hy,y0,y1⟩:=Vm R
      refine ⟨(j::l).length,rfl,by omega,Z,?_,.inr ⟨N,y,hy,y0,y1⟩⟩
      rw [a1,show (4000000:Nat)=3999998+1+1 from rfl,Ib,Z3,Ad,Bg (by omega:t.Kind≠6),cond_false,Bg D,cond_false,B0 N,cond_true,q]
      rw [Alx I.2.1.szv hz.ds.sz.short I.2.1.cons8 N (by omega) (j::l) j.Num S A (by omega) w h5 hT 3999998 (fun e he i' t' u U ag ac hu ab=>by
       refine Awe I.2.1.szv hz.ds.sz.short I.2.1.cons8 (Cn i') i' t' u 3999998 (Nat.le_refl _) ?_ ?_ ag ac hu ab
       .have h1:=Hm U
        have h2:=Eh e
        have h3:=Hm he
        have h4:=Eh f.Index
        rw [q] at h4
        omega
       .have h1:=Hm U
        have h2:=Eh e
        have h3:=Hm he
        have h4:=Eh f.Index
        rw [q] at h4
        omega),Ad,Ad]
      unfold Hn
      rw [if_neg D]
    .rw [Ca V] at c
     simp at c
     subst c; cases E
  .rw [Bg N] at c
   simp at c
   subst c; cases E
end Go.Ab
namespace Go.Ab
open Go
theorem Awf:Tk []=some []:=by kernel_rfl
theorem Awg (l:List Int):Tk l=some (l.mergeSort fun x y=>decide (x<=y)):=by
 cases l with
 | nil=>rw [Awf]; simp
 | cons a l=>rfl
theorem Awh (l:List Int):(l.mergeSort fun x y=>decide (x<=y)).Pairwise (·<=·):=by
 have:=List.pairwise_mergeSort (le:=fun x y:Int=>decide (x<=y)) (fun a b c h1 h2=>by simp only [decide_eq_true_eq] at *; omega) (fun a b=>by simp only [Bool.or_eq_true,decide_eq_true_eq]; omega) l
 exact this.imp (fun h=>by simpa using h)
structure Asc (b:List Int) (n:Nat) (l:List Int):Prop where
 up:l.Pairwise (· < ·)
 mem:∀y,y∈l↔y∈b.take n
theorem Awi {b:List Int} (c:b.Pairwise (·<=·)) {q:Nat} {p:Int} (hp:b[q]? = some p):∀y∈b.take (q+1),y<=p:=by
 intro y hy
 obtain ⟨i,hi⟩:=List.getElem?_of_mem hy
 rw [List.getElem?_take] at hi
 split at hi
 .rename_i f
  by_cases e:i=q
  .subst e; rw [hi] at hp; cases hp; exact Int.le_refl _
  .have h1:=Dh hi
   have h2:=Dh hp
   have:=(List.pairwise_iff_getElem.1 c) i q h1 h2 (by omega)
   rw [Bj h1] at hi
   rw [Bj h2] at hp
   cases hi; cases hp; exact this
 .cases hi
theorem Asc.step {b:List Int} (g:b.Pairwise (·<=·)) {q:Nat} {l:List Int} {p x:Int} (h:Asc b (q+1) l) (hp:b[q]? = some p) (hx:b[q+1]? = some x) (j:x≠p):Asc b (q+2) (l++[x]):=by
 have f:=Awi g hp
 have i:p<x:=by
  have h1:=Dh hp
  have h2:=Dh hx
  have:=(List.pairwise_iff_getElem.1 g) q (q+1) h1 h2 (by omega)
  rw [Bj h1] at hp
  rw [Bj h2] at hx
  cases hp; cases hx; omega
 refine ⟨?_,fun y=>?_⟩
 .rw [List.pairwise_append]
  refine ⟨h.up,by simp,fun a ha c hc=>?_⟩
  rw [List.mem_singleton] at hc
  subst hc
  have:=f a ((h.mem a).1 ha)
  omega
 .rw [Cw hx,List.mem_append,List.mem_append,h.mem y]
theorem Asc.same {b:List Int} {q:Nat} {l:List Int} {x:Int} (h:Asc b (q+1) l) (hp:b[q]? = some x) (hx:b[q+1]? = some x):Asc b (q+2) l:=by
 refine ⟨h.up,fun y=>?_⟩
 rw [Cw hx,List.mem_append,h.mem y]
 constructor
 .exact .inl
 .rintro (h1 | h1)
  .exact h1
  .rw [List.mem_singleton] at h1
   subst h1
   rw [Cw hp]; simp
theorem Vy {α:Type} {l:List α} {off n:Nat} {i:Int} {j:Nat} {x:α} (hi:i=j) (hj:j<n) (h:l[off+j]? = some x):Fj l off n i=some x:=by
 subst hi
 unfold Fj
 rw [if_pos (by omega)]; simpa using h
theorem Awj {X:Option (Nat×List Int)} {Q:Nat×List Int->Prop} (h:∃r,X=some r/\Q r):∃(m:Nat) (o:List Int),X=some (m,o)/\Q (m,o):=by
 obtain ⟨⟨m,o⟩,h1,h2⟩:=h
 exact ⟨m,o,h1,h2⟩
theorem Awk {X:Option (Int⊕((Nat×List Int)⊕Unit))} {P:Nat->List Int->Prop} {b:Prop} (h:∃r,X=some r/\∃(m:Nat) (o:List Int),r = .inr (.inl (m,o))/\P m o) :
  ∃e,X=some (.inr e)/\((∃(m:Nat) (o:List Int),e = .inl (m,o)/\P m o)\/(e = .inr ()/\b)):=by
 obtain ⟨_,h1,m,o,rfl,h2⟩:=h
 exact ⟨_,h1,.inl ⟨m,o,rfl,h2⟩⟩
theorem Awl (b:List Int) (R:b.Pairwise (·<=·)) (hl:b.length<=1099511627776):∃(m:Nat) (o:List Int),Qt b.length b=some (m,o)/\m<=o.length/\Asc b b.length (o.take m):=by
 unfold Qt
 by_cases h2:b.length<2
 .rw [Aj (by omega),cond_true]
  refine ⟨b.length,b,rfl,Nat.le_refl _,?_,fun y=>Iff.rfl⟩
  rw [List.take_length]
  match b,h2 with
  | [],_=>simp
  | [_],_=>simp
 .rw [Am (by omega),cond_false]
  refine Awj (Q:=fun r:Nat×List Int=>r.1<=r.2.length/\Asc b b.length (r.2.take r.1)) ?_
  .refine D3 (Q:=fun r:Nat×List Int=>r.1<=r.2.length/\Asc b b.length (r.2.take r.1)) (fun v=>∃j:Nat,v=((j+1:Nat):Int)/\j+1<=b.length/\Asc b (j+1) (b.take (j+1))) (fun v=>b.length-v.toNat) (fun e:((Nat×List Int)⊕Unit)=>(∃(m:Nat) (o:List Int),e = .inl (m,o)/\m<=o.length/\Asc b b.length (o.take m))\/(e = .inr ()/\Asc b b.length (b.take b.length))) ?_ ?_ ?_ (J:=fun z:((Nat×List Int)⊕Unit)=>match z with | .inl (G,E)=>some (G,E) | .inr _=>some (b.length,b))
   .exact ⟨0,rfl,by omega,by
     refine ⟨?_,fun y=>Iff.rfl⟩
     match b,h2 with
     | a::_,_=>simp
     | [],h=>simp at h⟩
   .rintro v ⟨j,rfl,hj,N⟩
    rcases Nat.lt_or_ge (j+1) b.length with h | h
    .have hx:b[j+1]? = some b[j+1]:=Bj h
     have hp:b[j]? = some b[j]:=Bj (by omega)
     generalize b[j+1]=x at hx
     generalize b[j]=p at hp
     have X:Ac (((j+1:Nat):Int)-1)=((j:Nat):Int):=by rw [show (((j+1:Nat):Int)-1)=(j:Int) by omega,Ac,Bp] <;> omega
     simp only [Aj (by omega:((j+1:Nat):Int)<(b.length:Int)),cond_true,Vy (l:=b) (off:=0) (n:=b.length) (i:=((j+1:Nat):Int)) rfl h (by rw [Nat.zero_add]; exact hx),X,
      Vy (l:=b) (off:=0) (n:=b.length) (i:=((j:Nat):Int)) rfl (by omega) (by rw [Nat.zero_add]; exact hp),Ad,C5 h (by omega)]
     by_cases e:x=p
     .subst e
      rw [B0 rfl,cond_true]
      have A:Mm b.length ((j+1:Nat):Int) ((b.length:Nat):Int)=some (j+1,b.length):=by
       unfold Mm
       rw [if_pos (by omega)]; simp
      rw [A,Ad]
      dsimp only
      refine .inr ?_
      refine Awk (D3 (Q:=fun z:(Int⊕((Nat×List Int)⊕Unit))=>∃(m:Nat) (o:List Int),z = .inr (.inl (m,o))/\m<=o.length/\Asc b b.length (o.take m)) (fun z=>∃(w k:Nat) (o:List Int),z=((w:Int),(k:Int),o)/\o.length=b.length/\w<=j+k/\1<=k/\j+1+k<=b.length/\Asc b (j+1+k) (o.take w)/\∀i,w<=i->o[i]? = b[i]?)
       (fun z=>b.length-(j+1)-z.2.1.toNat) (fun z=>∃(w k:Nat) (o:List Int),z=((w:Int),(k:Int),o)/\o.length=b.length/\w<=b.length/\Asc b b.length (o.take w)) ?_ ?_ ?_)
      .refine ⟨j+1,1,b,rfl,rfl,by omega,by omega,by omega,?_,fun _ _=>rfl⟩
       exact N.same hp hx
      .rintro z ⟨w,k,o,rfl,D,hw,hk,Z,f,c⟩
       rcases Nat.lt_or_ge (j+1+k) b.length with h' | h'
       .have hy:b[j+1+k]? = some b[j+1+k]:=Bj h'
        have hq:b[j+k]? = some b[j+k]:=Bj (by omega)
        generalize b[j+1+k]=y at hy
        generalize b[j+k]=q at hq
        have V:Ac ((k:Int)-1)=((k-1:Nat):Int):=by rw [show ((k:Int)-1)=((k-1:Nat):Int) by omega,Ac,Bp] <;> omega
        have U:Ac ((k:Int)+1)=((k+1:Nat):Int):=C5 (n:=b.length) (by omega) (by omega)
        have S:Ac ((w:Int)+1)=((w+1:Nat):Int):=C5 (n:=b.length) (by omega) (by omega)
        have i1:Fj o (0+(j+1)) (b.length-(j+1)) (k:Int)=some y:=Vy rfl (by omega) (by rw [Nat.zero_add,c _ (by omega)]; exact hy)
        have i2:Fj o (0+(j+1)) (b.length-(j+1)) ((k-1:Nat):Int)=some q:=Vy rfl (by omega) (by rw [Nat.zero_add,c _ (by omega),show j+1+(k-1)=j+k by omega]; exact hq)
        have I:o[w]? = some (o[w]'(by omega)):=Bj _
        have i3:Fj o 0 b.length (w:Int)=some (o[w]'(by omega)):=Vy rfl (by omega) (by rw [Nat.zero_add]; exact I)
        simp only [Aj (by omega:(k:Int)<((b.length-(j+1):Nat):Int)),cond_true,i1,i2,i3,V,U,S,Ad]
        by_cases e:y=q
        .subst e
         rw [B4 rfl,cond_false]
         refine .inl ⟨_,rfl,⟨w,k+1,o,rfl,D,by omega,by omega,by omega,?_,c⟩,by simp only [Int.toNat_natCast]; omega⟩
         have:=Asc.same (q:=j+k) (x:=y) (by rw [show j+k+1=j+1+k by omega]; exact f) hq (by rw [show j+k+1=j+1+k by omega]; exact hy)
         rw [show j+1+(k+1)=j+k+2 by omega]; exact this
        .rw [Ca e,cond_true]
         have B:Cq o (((0:Nat):Int)+(w:Int)) y=o.set w y:=Gx (n:=w) (by omega) y
         have s:(o.set w y).take (w+1)=o.take w++[y]:=by
          rw [Cw (x:=y) (by rw [List.getElem?_set,if_pos rfl,if_pos (by omega)]),List.take_set_of_le (Nat.le_refl _)]
         rw [B]
         refine .inl ⟨_,rfl,⟨w+1,k+1,o.set w y,rfl,by simpa using D,by omega,by omega,by omega,?_,?_⟩,by simp only [Int.toNat_natCast]; omega⟩
         .rw [s]
          have:=Asc.step R (q:=j+k) (x:=y) (p:=q) (by rw [show j+k+1=j+1+k by omega]; exact f) hq (by rw [show j+k+1=j+1+k by omega]; exact hy) e
          rw [show j+1+(k+1)=j+k+2 by omega]; exact this
         .intro i hi
          rw [List.getElem?_set,if_neg (by omega)]
          exact c i (by omega)
       .have L:j+1+k=b.length:=by omega
        refine .inr ⟨((w:Int),(k:Int),o),?_,w,k,o,rfl,D,by omega,by rw [<-L]; exact f⟩
        simp only [Am (by omega:¬(k:Int)<((b.length-(j+1):Nat):Int)),cond_false]
      .rintro z ⟨w,k,o,rfl,D,hw,f⟩
       dsimp only
       have g:Qk b.length (w:Int)=some w:=by
        unfold Qk
        rw [if_pos (by omega)]; simp
       by_cases Y:w=0\/w<b.length
       .have u:Og b.length (w:Int) ((b.length:Nat):Int)=some (.inl (w,b.length)):=by
         unfold Og
         rw [if_pos (by omega),if_pos (by omega)]; simp
        have M:Mn o (0+w) (b.length-w) (0:Int)=some (Dk o (0+w) (List.replicate (b.length-w) 0)):=by
         unfold Mn
         rw [if_pos (by omega)]
        rw [u,Ad]
        dsimp only
        rw [M,Ad,g,Ad]
        have s:(Dk o (0+w) (List.replicate (b.length-w) (0:Int))).take w=o.take w:=by
         unfold Dk
         rw [Nat.zero_add,List.append_assoc,List.take_append_of_le_length (by simp; omega),List.take_take,Nat.min_self]
        refine ⟨_,rfl,w,_,rfl,?_,?_⟩
        .unfold Dk; simp; omega
        .rw [s]; exact f
       .have u:Og b.length (w:Int) ((b.length:Nat):Int)=some (.inr ()):=by
         unfold Og
         rw [if_pos (by omega),if_neg (by omega)]
        rw [u,Ad]
        dsimp only
        rw [g,Ad]
        exact ⟨_,rfl,w,o,rfl,by omega,f⟩
     .rw [Bg e,cond_false]
      refine .inl ⟨_,rfl,⟨j+1,rfl,by omega,?_⟩,by simp only [Int.toNat_natCast]; omega⟩
      have:=Asc.step R N hp hx e
      rw [<-Cw hx] at this
      exact this
    .have:j+1=b.length:=by omega
     refine .inr ⟨.inr (),?_,.inr ⟨rfl,by rw [<-this]; exact N⟩⟩
     rw [Am (by omega)]; rfl
   .rintro e (⟨m,o,rfl,h1,h2⟩ | ⟨rfl,h1⟩)
    .exact ⟨(m,o),rfl,h1,h2⟩
    .exact ⟨(b.length,b),rfl,Nat.le_refl _,h1⟩
end Go.Ab
namespace Go.Ab
open Go
def G3 (l:List A4):List Int:=l.flatMap fun t=>t.Mono.Factors.map (·.Var)
theorem Alz {S E R:Type} {step:S->Option (S⊕E)} {s:S} {J:E->Option R} {r:R} (e:E) (h:step s=some (.inr e)) (b:J e=some r):(Ak step s).bind J=some r:=by
 rw [D9 h]; exact b
theorem Awm (F:List Cr) (o:List Int) (k:F.length<=6) (i:o.length<=100000) {R:Type} {J:Int×List Int->Option R} {r:R} (h:J ((F.length:Int),o++F.map (·.Var))=some r) :
  (Ak (S:=(Int×(List Int))) (E:=(Int×(List Int))) (fun (v164,b)=>
   bif (decide (v164<(F.length:Int))) then (
   (Ae F v164).bind fun c=>
   (Bl 8 b [c.Var]).bind fun g=>
   some (.inl ((Ac (v164+1)),g)))
   else some (.inr (v164,b))) (0,o)).bind J=some r:=by
 refine E2 F (fun j=>((j:Int),o++(F.take j).map (·.Var))) (by simp) (by omega) ?_ ?_
 .intro j f hj hf h1 h2 h3
  simp only [h1,h2,h3,cond_true,Ad]
  rw [C4 (by simp; omega),Cw hf]; simp
 .intro h1
  exact ⟨_,by simp only [h1]; rfl,by rw [List.take_length]; exact h⟩
theorem Aeq:∀(p:List A4),(∀t∈p,t.Mono.Factors.length<=6)->(G3 p).length<=6*p.length
 | [],_=>by simp [G3]
 | t::p,h=>by
  have h1:=Aeq p (fun u hu=>h u (by simp [hu]))
  have h2:=h t (by simp)
  unfold G3 at *
  simp only [List.flatMap_cons,List.length_append,List.length_map,List.length_cons]; omega
theorem Awn (p:List A4) (i:∀t∈p,t.Mono.Factors.length<=6) (h0:∀t∈p,t.Mono.Atoms.length=0) (B:p.length<=1000) :
  ∃V,Mp p=some V/\V.Pairwise (· < ·)/\V.length<=6000/\∀y,y∈V↔y∈G3 p:=by
 have q:=Aeq p i
 obtain ⟨m,o,z,s,f⟩:=Awl ((G3 p).mergeSort fun x y=>decide (x<=y)) (Awh _) (by rw [List.length_mergeSort]; omega)
 refine ⟨o.take m,?_,f.up,?_,?_⟩
 .unfold Mp
  refine E2 p (fun j=>((j:Int),G3 (p.take j))) rfl (by omega) ?_ ?_
  .intro j t hj ht h1 h2 h3
   have b:=Bi ht
   have l:=Aeq (p.take j) (fun u hu=>i u (List.mem_of_mem_take hu))
   have k:(p.take j).length<=1000:=by simp; omega
   simp only [h1,h2,h3,cond_true,Ad]
   refine Awm t.Mono.Factors (G3 (p.take j)) (i t b) (by omega) ?_
   dsimp only
   refine Alz (0,G3 (p.take j)++t.Mono.Factors.map (·.Var)) ?_ ?_
   .have:=h0 t b
    simp only [Am (by omega:¬(0:Int)<(t.Mono.Atoms.length:Int)),cond_false]
   .show some (Sum.inl (_,_))=_
    rw [Cw ht]
    simp [G3]
  .intro h1
   refine ⟨G3 p,by simp only [h1]; rw [List.take_length]; rfl,?_⟩
   rw [Awg,Ad]
   unfold Lj
   rw [if_pos (by rw [List.length_mergeSort]),Ad]
   have:Qt (G3 p).length ((G3 p).mergeSort fun x y=>decide (x<=y))=some (m,o):=by
    rw [<-z,List.length_mergeSort]
   rw [this,Ad]
   unfold W2
   rw [if_pos s]; rfl
 .have A:((o.take m).length:Nat)<=(G3 p).length:=by
   have g:(o.take m).Nodup:=f.up.imp (fun h=>by omega)
   have c:∀y∈o.take m,y∈G3 p:=fun y hy=>by
    have:=(f.mem y).1 hy
    rw [List.take_length] at this
    exact List.mem_mergeSort.1 this
   exact List.Nodup.length_le_of_subset g c
  omega
 .intro y
  rw [f.mem y,List.take_length,List.mem_mergeSort]
noncomputable def L8 (val:Cr->An):List Cr->An->Option An
 | [],a=>some a
 | f::fs,a=>(Fu a (val f)).bind (L8 val fs)
noncomputable def L9 (val:Cr->An):List A4->An->Option An
 | [],s=>some s
 | t::b,s=>(L8 val t.Mono.Factors t.Coef).bind fun m=>(Gm s m).bind (L9 val b)
theorem Al0 (val:Cr->An):∀(F:List Cr) (a:An) (j:Nat),RB j a->(∀f∈F,RB 5001 (val f))->j+F.length*5003<30000000000->∃m,L8 val F a=some m/\RB (j+F.length*5003) m
 | [],a,j,ha,_,_=>⟨a,rfl,ha.mono (by omega)⟩
 | f::F,a,j,ha,b,hj=>by
  simp only [List.length_cons] at hj ⊢
  obtain ⟨c,k,_,i⟩:=Avb a (val f) j 5001 ha (b f (by simp)) (by omega) (by omega)
  obtain ⟨m,m1,m2⟩:=Al0 val F c (j+5001+2) i (fun g h=>b g (by simp [h])) (by omega)
  exact ⟨m,by rw [L8,k]; exact m1,m2.mono (by omega)⟩
theorem Al1 (val:Cr->An):∀(p:List A4) (s:An) (j:Nat),RB j s->(∀t∈p,RB 1048576 t.Coef/\t.Mono.Factors.length<=6/\∀f∈t.Mono.Factors,RB 5001 (val f))->j+p.length*1100000<30000000000->∃m,L9 val p s=some m/\RB (j+p.length*1100000) m
 | [],s,j,b,_,_=>⟨s,rfl,b.mono (by omega)⟩
 | t::p,s,j,b,hp,hj=>by
  simp only [List.length_cons] at hj ⊢
  obtain ⟨t1,t2,t3⟩:=hp t (by simp)
  obtain ⟨m,m1,m2⟩:=Al0 val t.Mono.Factors t.Coef 1048576 t1 t3 (by omega)
  obtain ⟨c,q,_,l⟩:=Avc s m j (1048576+30018) b (m2.mono (by omega)) (by omega) (by omega)
  obtain ⟨u,i,h⟩:=Al1 val p c (j+(1048576+30018)+3) l (fun g k=>hp g (by simp [k])) (by omega)
  exact ⟨u,by rw [L9,m1,Ad,q]; exact i,h.mono (by omega)⟩
theorem Al2 {E R:Type} {step:Int×Bool×List Int×List Int->Option ((Int×Bool×List Int×List Int)⊕E)} {J:E->Option R} {r:R} (F:List Cr) (val:Cr->An) (h:An->E)
  (i:∀(j:Nat) (f:Cr) (g:An),F[j]? = some f->decide ((j:Int)<(F.length:Int))=true->Ae F (j:Int)=some f->Ac ((j:Int)+1)=((j+1:Nat):Int)->step ((j:Int),g.Neg,g.Num,g.Den)=(Fu g (val f)).bind fun c=>some (.inl (((j+1:Nat):Int),c.Neg,c.Num,c.Den)))
  (l:∀g:An,decide ((F.length:Int)<(F.length:Int))=false->step ((F.length:Int),g.Neg,g.Num,g.Den)=some (.inr (h g))) (s:F.length<=1048576) {a m:An} (k:L8 val F a=some m) (q:J (h m)=some r) :
  (Ak step (0,a.Neg,a.Num,a.Den)).bind J=some r:=by
 have key:∀(n j:Nat) (a:An),F.length-j=n->j<=F.length->L8 val (F.drop j) a=some m->Ak step ((j:Int),a.Neg,a.Num,a.Den)=some (h m):=by
  intro n
  induction n with
  | zero=>
   intro j a h1 h2 h3
   have:j=F.length:=by omega
   subst this
   rw [List.drop_length] at h3
   have h3:some a=some m:=h3
   cases h3
   exact D9 (l m (Am (by omega)))
  | succ n ih=>
   intro j a h1 h2 h3
   have hf:F[j]? = some (F[j]'(by omega)):=Bj _
   rw [List.drop_eq_getElem_cons (by omega)] at h3
   generalize F[j]'_=f at hf h3
   rw [L8] at h3
   cases hc:Fu a (val f) with
   | none=>rw [hc] at h3; cases h3
   | some c=>
    rw [hc,Ad] at h3
    have b:=i j f a hf (Aj (by omega)) (Bn rfl hf) (C5 (n:=F.length) (by omega) (by omega))
    rw [hc] at b
    rw [Hv b]
    exact ih (j+1) c (by omega) (by omega) h3
 have:=key F.length 0 a (by omega) (by omega) k
 rw [show ((0:Nat):Int)=0 from rfl] at this
 rw [this]
 exact q
theorem Al3 {E R:Type} {step:Int×Bool×List Int×List Int->Option ((Int×Bool×List Int×List Int)⊕E)} {J:E->Option R} {r:R} (p:List A4) (val:Cr->An) (b:An->E)
  (f:∀(j:Nat) (t:A4) (g m c:An),p[j]? = some t->decide ((j:Int)<(p.length:Int))=true->Ae p (j:Int)=some t->Ac ((j:Int)+1)=((j+1:Nat):Int)->L8 val t.Mono.Factors t.Coef=some m->Gm g m=some c->step ((j:Int),g.Neg,g.Num,g.Den)=some (.inl (((j+1:Nat):Int),c.Neg,c.Num,c.Den)))
  (i:∀g:An,decide ((p.length:Int)<(p.length:Int))=false->step ((p.length:Int),g.Neg,g.Num,g.Den)=some (.inr (b g))) (l:p.length<=1048576) {a m:An} (h:L9 val p a=some m) (k:J (b m)=some r) :
  (Ak step (0,a.Neg,a.Num,a.Den)).bind J=some r:=by
 have key:∀(n j:Nat) (a:An),p.length-j=n->j<=p.length->L9 val (p.drop j) a=some m->Ak step ((j:Int),a.Neg,a.Num,a.Den)=some (b m):=by
  intro n
  induction n with
  | zero=>
   intro j a h1 h2 h3
   have:j=p.length:=by omega
   subst this
   rw [List.drop_length] at h3
   have h3:some a=some m:=h3
   cases h3
   exact D9 (i m (Am (by omega)))
  | succ n ih=>
   intro j a h1 h2 h3
   have hf:p[j]? = some (p[j]'(by omega)):=Bj _
   rw [List.drop_eq_getElem_cons (by omega)] at h3
   generalize p[j]'_=t at hf h3
   rw [L9] at h3
   cases hq:L8 val t.Mono.Factors t.Coef with
   | none=>rw [hq] at h3; cases h3
   | some q=>
    rw [hq,Ad] at h3
    cases hc:Gm a q with
    | none=>rw [hc] at h3; cases h3
    | some c=>
     rw [hc,Ad] at h3
     rw [Hv (f j t a q c hf (Aj (by omega)) (Bn rfl hf) (C5 (n:=p.length) (by omega) (by omega)) hq hc)]
     exact ih (j+1) c (by omega) (by omega) h3
 have:=key p.length 0 a (by omega) (by omega) h
 rw [show ((0:Nat):Int)=0 from rfl] at this
 rw [this]
 exact k
end Go.Ab
namespace Go.Ab
open Go
theorem Awo (w:Av):Av.mk w.Kind w.Num w.Kids=w:=by cases w; rfl
def It (data:List Al) (t:Ag) (v:Int) (w:Av):List Ew :=
 if t.Kind=7 then [⟨v,-1,(w.Kids.length:Int)⟩] else if t.Kind=5 then match Ae data t.Num with
  | some y=>(List.range y.Cons.length).map fun c:Nat=>Ew.mk v (c:Int) (Nv (Gi data t.Num w) (c:Int))
  | none=>[] else []
theorem Awp (x:Br) (l:CSz x) (i:F4 x) (v:Int) (w:Av) (hw:B6 w<1099511627776) (t:Ag) (ht:Ct x.Vars x.Res v=some t) (s:Hf x.Data w t=true) :
  Td x v w=some (It x.Data t v w,0):=by
 obtain ⟨b,b1,b2⟩:=Akv x l [] (fun t h=>by cases h)
 have hb:b=true:=b2.2 ⟨i,rfl⟩
 subst hb
 unfold Td
 rw [b1]
 simp only [Ad,Aec,Cu,cond_false,ht]
 have u:=(i.ctx l).sz v t ht
 obtain ⟨q,A,_,z⟩:=Zt l.ds w t hw (by omega)
 have hq:q=true:=z.2 ⟨i.2.1,s⟩
 subst hq
 simp only [A,Ad,Cu,cond_false]
 unfold It
 by_cases k:t.Kind=7
 .simp only [B0 k,cond_true]
  rw [if_pos k]
 .simp only [Bg k,cond_false]
  rw [if_neg k]
  by_cases g:t.Kind=5
  .simp only [B0 g,cond_true]
   rw [if_pos g]
   have f:=s
   unfold Hf at f
   simp only [Ce] at f
   obtain ⟨y,hy,_⟩:=So g f.2
   have D:=i.2.1.cons8 y (De hy).2.2.2
   simp only [hy,Ad]
   refine E2 y.Cons (fun j=>((j:Int),(List.range j).map fun c:Nat=>Ew.mk v (c:Int) (Nv (Gi x.Data t.Num w) (c:Int)))) rfl (by omega) ?_ ?_
   .intro j e hj B h1 h2 h3
    simp only [h1,h3,cond_true,(Au8 l.ds i.2.1 t g w s y hy j hj).1,Ad]
    rw [C4 (by simp; omega),List.range_succ]; simp
   .intro h1
    exact ⟨.inr _,by simp only [h1]; rfl,rfl⟩
  .simp only [Bg g,cond_false]
   rw [if_neg g]
theorem Al4 {data:List Al} (b:∀x∈data,x.Cons.length<=8) (t:Ag) (v:Int) (w:Av):(It data t v w).length<=8:=by
 unfold It
 split
 .simp
 .split
  .cases hy:Ae data t.Num with
   | none=>simp
   | some y=>simpa using b y (De hy).2.2.2
  .simp
theorem Al5 {data:List Al} {t:Ag} {v:Int} {w:Av} (f:Hf data w t=true):∀c∈It data t v w,c.Var=v/\c.N=(Hn data t w c.Con:Int)/\Hn data t w c.Con<=5000:=by
 intro c hc
 unfold Hf at f
 simp only [Ce,decide_eq_true_eq] at f
 have k:=f.1.2
 have h:=Is w
 have i:=Kn w.Kids
 have j:=Vs data t.Num w
 unfold It at hc
 unfold Hn
 by_cases b:t.Kind=7
 .rw [if_pos b] at hc
  rw [List.mem_singleton] at hc
  subst hc
  rw [if_pos b]
  exact ⟨rfl,rfl,by omega⟩
 .rw [if_neg b] at hc
  rw [if_neg b]
  by_cases g:t.Kind=5
  .rw [if_pos g] at hc
   cases hy:Ae data t.Num with
   | none=>rw [hy] at hc; cases hc
   | some y=>
    rw [hy] at hc
    obtain ⟨n,_,rfl⟩:=List.mem_map.1 hc
    refine ⟨rfl,rfl,?_⟩
    unfold Nw
    refine Nat.le_trans (List.length_filter_le _ _) ?_
    omega
  .rw [if_neg g] at hc; cases hc
theorem Awq (data:List Al) (t:Ag) (v:Int) (w:Av):(It data t v w).Pairwise fun a b=>¬(a.Var=b.Var/\a.Con=b.Con):=by
 unfold It
 split
 .simp
 .split
  .cases hy:Ae data t.Num with
   | none=>simp
   | some y=>
    simp only [List.pairwise_map]
    refine List.pairwise_lt_range.imp ?_
    intro a b h hh
    have h2:(a:Int)=(b:Int):=hh.2
    omega
  .simp
theorem Awr {data:List Al} {t:Ag} {v:Int} {w:Av} {b:Int} (h:(t.Kind=7/\b = -1)\/(t.Kind=5/\∃y,Ae data t.Num=some y/\0<=b/\b<y.Cons.length)):∃c∈It data t v w,c.Var=v/\c.Con=b:=by
 unfold It
 rcases h with ⟨f,rfl⟩ | ⟨g,y,hy,h0,h1⟩
 .rw [if_pos f]
  exact ⟨⟨v,-1,(w.Kids.length:Int)⟩,List.mem_singleton.2 rfl,rfl,rfl⟩
 .rw [if_neg (by omega),if_pos g,hy]
  exact ⟨_,List.mem_map.2 ⟨b.toNat,by simp; omega,rfl⟩,rfl,by simp only; omega⟩
theorem Aws {l:List Ew} (h:l.Pairwise fun a b=>¬(a.Var=b.Var/\a.Con=b.Con)):Zx l=true:=by
 unfold Zx
 rw [List.all_eq_true]
 rintro ⟨c,i⟩ hq
 rw [List.mem_zipIdx_iff_getElem?] at hq
 have hc:l[i]? = some c:=hq
 rw [Bool.not_eq_true',List.any_eq_false]
 intro d hd hk
 obtain ⟨j,hj⟩:=List.getElem?_of_mem hd
 rw [List.getElem?_take] at hj
 split at hj
 .rename_i f
  have h1:=Dh hj
  have h2:=Dh hc
  have:=(List.pairwise_iff_getElem.1 h) j i h1 h2 f
  rw [Bj h1] at hj
  rw [Bj h2] at hc
  cases hj; cases hc
  apply this
  unfold I5 at hk
  simp only [Ce] at hk
  exact ⟨(eq_of_beq hk.1).symm,(eq_of_beq hk.2).symm⟩
 .cases hj
def Ed (b:List Av) (res:Av) (v:Int):Av:=match Ae b v with | some w=>w | none=>res
theorem Al6 {x:Br} {b:List Av} (c:b.length=x.Vars.length) (res:Av) {v:Int} {t:Ag} (ht:Ct x.Vars x.Res v=some t):Kb v res b=some (Ed b res v):=by
 unfold Kb Ed
 unfold Ct at ht
 by_cases h:v = -1
 .subst h
  rw [Ac4 (by omega)]; rfl
 .rw [if_neg h] at ht
  obtain ⟨a1,a2,_⟩:=De ht
  have hi:Ae b v=some (b[v.toNat]'(by omega)):=Bn (n:=v.toNat) (by omega) (Bj _)
  rw [Bg h,hi]; rfl
theorem Al7 {b:List Av} {res:Av} {N:Nat} (h:∀v∈b,B6 v<=N) (h':B6 res<=N) (v:Int):B6 (Ed b res v)<=N:=by
 unfold Ed
 cases hi:Ae b v with
 | none=>exact h'
 | some w=>exact h w (De hi).2.2.2
structure Uni (x:Br) (p:List A4):Prop where
 hf:F4 x
 can:Gd x.Data x.Vars x.Res p=true
 at0:∀t∈p,t.Mono.Atoms.length=0
 f6:∀t∈p,t.Mono.Factors.length<=6
 len:p.length<=1000
 fac:∀t∈p,∀f∈t.Mono.Factors,Cn f.Index<=1048576/\∃(ty:Ag) (s:Int×Int×Bool) (d:Nat),Ct x.Vars x.Res f.Var=some ty/\Gv x f=some s/\s.2.2=true/\Eb x.Data f.Index ty=some d/\d<=6
theorem Awt (x:Br) (A:CSz x) (p:List A4) (hp:∀t∈p,TSz t) (h:Lm x p=some true):Uni x p:=by
 obtain ⟨b,b1,_,B⟩:=Ak9 x A p hp
 rw [h] at b1; cases b1
 obtain ⟨hf,l,k⟩:=B rfl
 obtain ⟨g,c⟩:=Ak8 l
 refine ⟨hf,l,fun t ht=>(k t ht).1,fun t ht=>(Aed (c t ht)).2,g,fun t ht f i=>?_⟩
 obtain ⟨ty,q⟩:=(Aed (c t ht)).1 f i
 obtain ⟨s,s1,_,z⟩:=(k t ht).2 f i
 have y:=c t ht
 unfold G2 at y
 simp only [Ce] at y
 obtain ⟨j,hj⟩:=List.getElem?_of_mem i
 have u:=G0 y.1.1 hj
 simp only [L2,Ce,decide_eq_true_eq] at u
 have h1:=u.1
 unfold Ei at h1
 rw [q] at h1
 have h1:1<=Ff (Eb x.Data f.Index ty):=h1
 rcases Ze (Eb x.Data f.Index ty) with ⟨h2,_⟩ | ⟨d,h2,h3,_⟩
 .rw [h2] at h1; omega
 .exact ⟨(hp t ht).mo.fi f i,ty,s,d,q,s1,z,h2,h3⟩
noncomputable def H5 (x:Br) (val:Int->Av) (f:Cr):An :=
 match Gv x f,Ct x.Vars x.Res f.Var with
 | some s,some t=>cR (bc (Hn x.Data t (val f.Var) s.1) s.2.1.toNat)
 | _,_=>cR 0
theorem Awu {x:Br} {val:Int->Av} {f:Cr} {s:Int×Int×Bool} {t:Ag} (b:Gv x f=some s) (ht:Ct x.Vars x.Res f.Var=some t) (h:Hn x.Data t (val f.Var) s.1<=5000):RB 5001 (H5 x val f):=by
 unfold H5
 rw [b,ht]
 exact Px (Nat.le_trans (Vv _ _) (by omega)) (by decide)
end Go.Ab
namespace Go.Ab
open Go
theorem Al8 {x:Br} {val:Int->Av} {f:Cr} {s:Int×Int×Bool} {t:Ag} {k:Nat} (b:Gv x f=some s) (ht:Ct x.Vars x.Res f.Var=some t) (hk:s.2.1=k):H5 x val f=cR (bc (Hn x.Data t (val f.Var) s.1) k):=by
 unfold H5
 rw [b,ht]
 simp only [hk,Int.toNat_natCast]
theorem Awv {x:Br} (c:CSz x) (f:F4 x) (w:Av) (t:Ag) (hw:B6 w<=1048576) (ht:A2 t<=200):Ka x.Data w t=some (Hf x.Data w t):=by
 obtain ⟨b,b1,_,g⟩:=Zt c.ds w t (by omega) (by omega)
 rw [b1]
 congr 1
 rw [Bool.eq_iff_iff,g]
 exact ⟨fun h=>h.2,fun h=>⟨f.2.1,h⟩⟩
theorem Al9 {x:Br} {p:List A4} (b:Uni x p) {v:Int} (h:v∈G3 p):∃t,Ct x.Vars x.Res v=some t:=by
 unfold G3 at h
 obtain ⟨t,ht,h⟩:=List.mem_flatMap.1 h
 obtain ⟨f,hf,rfl⟩:=List.mem_map.1 h
 obtain ⟨_,ty,s,d,h1,_⟩:=b.fac t ht f hf
 exact ⟨ty,h1⟩
theorem Ama {p:List A4} {t:A4} {f:Cr} (ht:t∈p) (b:f∈t.Mono.Factors):f.Var∈G3 p :=
 List.mem_flatMap.2 ⟨t,ht,List.mem_map.2 ⟨f,b,rfl⟩⟩
def Ny (x:Br) (b:List Av) (res:Av) (v:Int):Bool:=match Ct x.Vars x.Res v with | some t=>Hf x.Data (Ed b res v) t | none=>false
theorem Aww (x:Br) (s:CSz x) (u:F4 x) (b:List Av) (res:Av) (q:b.length=x.Vars.length) (l:∀v∈b,B6 v<=1048576) (g:B6 res<=1048576) (V:List Int) (A:V.length<=6000) (k:∀v∈V,∃t,Ct x.Vars x.Res v=some t)
  (b1:List (ByteArray×Int)) (b2:List (ByteArray×List Dy)) :
  Ak (S:=Int) (E:=((An×Int)⊕Unit)) (fun c=>
   bif (decide (c<(V.length:Int))) then (
   (Ae V c).bind fun f=>
   (Kb f res b).bind fun i=>
   (Kc f b1 b2 x.Data x.Vars x.Res.Kind x.Res.Num x.Res.Args).bind fun v20=>
   (Ka x.Data i v20).bind fun v21=>
   bif (!v21) then some (.inr (.inl ((An.mk false [] []),11)))
   else some (.inl (Ac (c+1))))
   else some (.inr (.inr ()))) 0=some (bif V.all (Ny x b res) then .inr () else .inl (⟨false,[],[]⟩,11)):=by
 rw [<-Option.bind_fun_some (Ak _ _)]
 refine Jq V (Ny x b res) (fun j=>(j:Int)) rfl (by omega) ?_ ?_
 .intro j v z h1 h2 h3
  obtain ⟨t,ht⟩:=k v (Bi z)
  have y:=(u.ctx s).sz v t ht
  have hb:Ny x b res v=Hf x.Data (Ed b res v) t:=by unfold Ny; rw [ht]
  simp only [h1,h2,h3,cond_true,Ad,Al6 q res ht,Ad6 (ht:=ht),Awv s u (Ed b res v) t (Al7 l g v) (by omega),hb]
  cases Hf x.Data (Ed b res v) t with
  | true=>exact ⟨fun _=>rfl,fun h=>by cases h⟩
  | false=>exact ⟨(fun h=>by cases h),fun _=>⟨_,rfl,rfl⟩⟩
 .intro h
  exact ⟨.inr (),by simp only [h]; rfl,rfl⟩
theorem Awx (x:Br) (N:CSz x) (p:List A4) (hp:∀t∈p,TSz t) (l:Uni x p) (V:List Int) (hV:Mp p=some V) (L:∀y,y∈V↔y∈G3 p) (Y:V.length<=6000)
  (b:List Av) (res:Av) (X:∀v∈b,B6 v<=1048576) (I:B6 res<=1048576) :
  ∃r,Te x p b res=some r/\(r.2≠0\/(b.length=x.Vars.length/\V.all (Ny x b res)=true/\∃u,L9 (H5 x (Ed b res)) p (cR 0)=some u/\RB 2000000000 u/\r=(u,0))):=by
 have hf:=l.hf
 obtain ⟨r0,e1,Z⟩:=Av4 x N [p] (fun q hq=>by rw [List.mem_singleton] at hq; subst hq; exact hp) (by simp)
 have D:F4 x/\∀q∈[p],Gd x.Data x.Vars x.Res q=true:=⟨hf,fun q hq=>by rw [List.mem_singleton] at hq; subst hq; exact l.can⟩
 rcases Z with ⟨_,b',rfl,_⟩ | ⟨Z,_⟩
 .unfold Te
  rw [e1]
  simp only [Ad,Cu,cond_false]
  by_cases E:b.length=x.Vars.length
  .rw [B4 (by omega),cond_false,hV,Ad]
   have R:∀v∈V,∃t,Ct x.Vars x.Res v=some t:=fun v hv=>Al9 l ((L v).1 hv)
   have S:=Aww x N hf b res E X I V Y R b' []
   rw [S,Ad]
   cases J:V.all (Ny x b res) with
   | false=>exact ⟨_,rfl,.inl (by decide)⟩
   | true=>
    simp only [cond_true,Aem,Ad]
    have A:∀t∈p,∀f∈t.Mono.Factors,∃ty s,Ct x.Vars x.Res f.Var=some ty/\Gv x f=some s/\Hf x.Data (Ed b res f.Var) ty=true/\RB 5001 (H5 x (Ed b res) f)/\Ms x.Data ty f.Index (Ed b res f.Var)=some (H5 x (Ed b res) f,0):=by
     intro t ht f z
     obtain ⟨hi,ty,s,d,h1,h2,h3,h4,h5⟩:=l.fac t ht f z
     have hX:Hf x.Data (Ed b res f.Var) ty=true:=by
      have:=List.all_eq_true.1 J f.Var ((L f.Var).2 (Ama ht z))
      unfold Ny at this
      rw [h1] at this; exact this
     obtain ⟨k,G,k2,M,k4,_⟩:=Aly x N hf f ty h1 hi (Ed b res f.Var) hX ⟨d,h4,h5⟩ s h2 h3
     refine ⟨ty,s,h1,h2,hX,Awu h2 h1 M,?_⟩
     rw [k4,Al8 h2 h1 G]
    obtain ⟨u,u1,u2⟩:=Al1 (H5 x (Ed b res)) p (cR 0) 1 (Px (by simp [Yq]) (by decide)) (fun t ht=>⟨(hp t ht).co,l.f6 t ht,fun f z=>by
     obtain ⟨_,_,_,_,_,h,_⟩:=A t ht f z
     exact h⟩) (by have:=l.len; omega)
    refine ⟨(u,0),?_,.inr ⟨E,(by first | exact trivial | rfl),u,u1,u2.mono (by have:=l.len; omega),rfl⟩⟩
    refine Al3 p (H5 x (Ed b res)) (fun g=>.inr (g.Neg,g.Num,g.Den)) ?_ ?_ (by have:=l.len; omega) u1 rfl
    .intro j t g m c ht h1 h2 h3 hm hc
     have B:=Bi ht
     have h6:=l.f6 t B
     simp only [h1,h2,h3,cond_true,Ad]
     refine Al2 t.Mono.Factors (H5 x (Ed b res)) (fun g=>.inr ((t.Mono.Factors.length:Int),g.Neg,g.Num,g.Den)) ?_ ?_ (by omega) hm ?_
     .intro i f q U G k2 M
      obtain ⟨ty,s,g1,g2,g3,g4,g5⟩:=A t B f (Bi U)
      simp only [G,k2,M,cond_true,Ad,Ad6 (ht:=g1),Al6 E res g1,g5]
      rfl
     .intro q G
      simp only [G,cond_false]
     .dsimp only
      refine Alz ((0:Int),m.Neg,m.Num,m.Den) ?_ ?_
      .have:=l.at0 t B
       simp only [Am (by omega:¬(0:Int)<(t.Mono.Atoms.length:Int)),cond_false]
      .show (Gm g m).bind _=_
       rw [hc]; rfl
    .intro g h1
     simp only [h1,cond_false]
  .rw [Ca (by omega),cond_true]
   exact ⟨_,rfl,.inl (by decide)⟩
 .exact absurd D Z
theorem Awy (x:Br) (p:List A4) (U:Uni x p) (hu:Lm x p=some true) (val:Int->Av) (b:List Ew) (hc:b.length<=1048576) (hr:b.all (fun c=>decide (0<=c.N/\c.N<=5000))=true) (I:Zx b=true)
  (B:∀t∈p,∀f∈t.Mono.Factors,∀(s:Int×Int×Bool) (ty:Ag),Gv x f=some s->Ct x.Vars x.Res f.Var=some ty->∃k:Nat,s.2.1=k/\k<=64/\Hn x.Data ty (val f.Var) s.1<=5000/\b.any (I5 f.Var s.1)=true/\∀c∈b,I5 f.Var s.1 c=true->c.N=(Hn x.Data ty (val f.Var) s.1:Int))
  (u:An) (hs:L9 (H5 x val) p (cR 0)=some u):Qm x p b=some (u,0):=by
 unfold Qm
 rw [hu]
 simp only [Ad,Cu,cond_false]
 have l:=Avd b hc (J:=fun z=>some z) (rt:=.inr ()) (rf:=.inl (⟨false,[],[]⟩,8)) rfl rfl
 rw [hr,Option.bind_fun_some] at l
 rw [l]
 simp only [cond_true,Ad]
 have D:=Ave b hc (J:=fun z=>some z) (rt:=.inr (Lf b)) (rf:=.inl (⟨false,[],[]⟩,4)) rfl rfl
 rw [Option.bind_fun_some,I] at D
 erw [D]
 simp only [cond_true,Ad,Aem]
 refine Al3 p (H5 x val) (fun g=>.inr (g.Neg,g.Num,g.Den)) ?_ ?_ (by have:=U.len; omega) hs rfl
 .intro j t g m c ht h1 h2 h3 hm R
  have h:=Bi ht
  have h6:=U.f6 t h
  simp only [h1,h2,h3,cond_true,Ad]
  refine Al2 t.Mono.Factors (H5 x val) (fun g=>.inr ((t.Mono.Factors.length:Int),g.Neg,g.Num,g.Den)) ?_ ?_ (by omega) hm ?_
  .intro i f q M E Z Y
   have A:=Bi M
   obtain ⟨_,ty,s,d,g1,g2,g3,g4,g5⟩:=U.fac t h f A
   obtain ⟨k,X,e2,e3,V,e5⟩:=B t h f A s ty g2 g1
   obtain ⟨i0,c0,S,L,y⟩:=Avf b f.Var s.1 V
   have hN:=e5 c0 (Bi S) L
   have G:H5 x val f=cR (bc (Hn x.Data ty (val f.Var) s.1) k):=Al8 g2 g1 X
   simp only [E,Z,Y,cond_true,Ad,g2,Ala,V,y,hN,X,Alt _ _ (by omega:Hn x.Data ty (val f.Var) s.1<1000000000) e2,Cu,cond_false,G]
  .intro q E
   simp only [E,cond_false]
  .dsimp only
   show (Gm g m).bind _=_
   rw [R]; rfl
 .intro g h1
  simp only [h1,cond_false]
end Go.Ab
namespace Go.Ab
open Go
theorem Awz (a:An) (h:RB 2000000000 a):Oj a a=some 0:=Ase a 2000000000 h (by decide)
theorem Aw0 {l:List Ew} {c:Ew} {v b:Int} (hc:c∈l) (h1:c.Var=v) (h2:c.Con=b):l.any (I5 v b)=true:=by
 rw [List.any_eq_true]
 refine ⟨c,hc,?_⟩
 unfold I5
 rw [h1,h2]; simp
def Jy (x:Br) (val:Int->Av) (V:List Int):List Ew:=V.flatMap fun v=>match Ct x.Vars x.Res v with | some t=>It x.Data t v (val v) | none=>[]
theorem Aer {x:Br} (b:∀y∈x.Data,y.Cons.length<=8) (val:Int->Av):∀V:List Int,(Jy x val V).length<=8*V.length
 | []=>by simp [Jy]
 | v::V=>by
  have h1:=Aer b val V
  unfold Jy at *
  simp only [List.flatMap_cons,List.length_append,List.length_cons]
  cases Ct x.Vars x.Res v with
  | none=>simp only [List.length_nil]; omega
  | some t=>
   have:=Al4 b t v (val v)
   simp only; omega
theorem Amb {x:Br} {val:Int->Av} {V:List Int} {c:Ew} (h:c∈Jy x val V):∃v t,v∈V/\Ct x.Vars x.Res v=some t/\c∈It x.Data t v (val v):=by
 unfold Jy at h
 obtain ⟨v,b,h⟩:=List.mem_flatMap.1 h
 cases ht:Ct x.Vars x.Res v with
 | none=>rw [ht] at h; cases h
 | some t=>rw [ht] at h; exact ⟨v,t,b,ht,h⟩
theorem Aes {data:List Al} {t:Ag} {v:Int} {w:Av} {c:Ew} (hc:c∈It data t v w):c.Var=v:=by
 unfold It at hc
 split at hc
 .rw [List.mem_singleton] at hc; subst hc; rfl
 .split at hc
  .cases hy:Ae data t.Num with
   | none=>rw [hy] at hc; cases hc
   | some y=>
    rw [hy] at hc
    obtain ⟨n,_,rfl⟩:=List.mem_map.1 hc
    rfl
  .cases hc
theorem Aw1 (x:Br) (val:Int->Av) (V:List Int) (f:V.Pairwise (· < ·)):(Jy x val V).Pairwise fun a b=>¬(a.Var=b.Var/\a.Con=b.Con):=by
 unfold Jy
 rw [List.pairwise_flatMap]
 refine ⟨fun v _=>?_,f.imp ?_⟩
 .cases Ct x.Vars x.Res v with
  | none=>simp
  | some t=>exact Awq _ _ _ _
 .intro c v2 h a ha b hb hh
  have i:a.Var=c:=by
   cases ht:Ct x.Vars x.Res c with
   | none=>rw [ht] at ha; cases ha
   | some t=>rw [ht] at ha; exact Aes ha
  have g:b.Var=v2:=by
   cases ht:Ct x.Vars x.Res v2 with
   | none=>rw [ht] at hb; cases hb
   | some t=>rw [ht] at hb; exact Aes hb
  have:=hh.1
  omega
theorem Aw2 (x:Br) (p:List A4) (g:List Av) (res:Av) (E:CSz x) (hl:p.length<=1048576) (hp:∀t∈p,TSz t) (U:g.length<=1048576) (A:∀v∈g,B6 v<=1048576) (i:B6 res<=1048576) :
  Xb x p g res=some true:=by
 unfold Xb
 rw [Avl]
 obtain ⟨b,hb⟩:=Avk x p [] hl hp (by simp) (by simp)
 obtain ⟨c,hc,_⟩:=Alb g U A
 obtain ⟨d,hd,_⟩:=Alb [res] (by simp) (by simpa using i)
 obtain ⟨u,hu,_⟩:=Ak9 x E p hp
 simp only [Ad,Cu,cond_false,hb]
 cases b with
 | false=>rfl
 | true=>
  simp only [Cu,cond_false,hc,Ad]
  cases c with
  | false=>rfl
  | true=>
   simp only [Cu,cond_false,hd,Ad]
   cases d with
   | false=>rfl
   | true=>
    simp only [Cu,cond_false,hu,Ad]
    cases u with
    | false=>rfl
    | true=>
     simp only [Cu,cond_false]
     have l:=Awt x E p hp hu
     have hf:=l.hf
     obtain ⟨V,hV,N,Y,D⟩:=Awn p l.f6 l.at0 l.len
     obtain ⟨r,e1,e2⟩:=Awx x E p hp l V hV D Y g res A i
     rw [e1,Ad]
     rcases e2 with e2 | ⟨aa,M,s,hs,Z,rfl⟩
     .rw [Ca e2]; rfl
     .simp only [bne_self_eq_false,cond_false,hV,Ad]
      have y:∀v∈V,∃t,Ct x.Vars x.Res v=some t/\Hf x.Data (Ed g res v) t=true:=fun v G=>by
       obtain ⟨t,ht⟩:=Al9 l ((D v).1 G)
       have:=List.all_eq_true.1 M v G
       unfold Ny at this
       rw [ht] at this
       exact ⟨t,ht,this⟩
      have ac:=Aer hf.2.1.cons8 (Ed g res) V
      have S:L9 (H5 x (Ed g res)) p (cR 0)=some s:=hs
      have X:Qm x p (Jy x (Ed g res) V)=some (s,0):=by
       refine Awy x p l hu (Ed g res) _ (by omega) ?_ (Aws (Aw1 x _ V N)) ?_ s S
       .rw [List.all_eq_true]
        intro c B
        obtain ⟨v,t,h1,h2,h3⟩:=Amb B
        obtain ⟨t',R,h5⟩:=y v h1
        rw [h2] at R; cases R
        obtain ⟨_,g2,g3⟩:=Al5 h5 c h3
        rw [decide_eq_true_eq,g2]; omega
       .intro t ht f L s' ty I h
        obtain ⟨hi,a6,s2,d,h1,h2,h3,R,h5⟩:=l.fac t ht f L
        rw [I] at h2; cases h2
        rw [h] at h1; cases h1
        have J:f.Var∈V:=(D f.Var).2 (Ama ht L)
        obtain ⟨t',g1,g2⟩:=y f.Var J
        rw [h] at g1; cases g1
        obtain ⟨k,k1,k2,k3,_,k5⟩:=Aly x E hf f ty h hi (Ed g res f.Var) g2 ⟨d,R,h5⟩ s' I h3
        obtain ⟨c0,c1,c2,c3⟩:=Awr (v:=f.Var) (w:=Ed g res f.Var) k5
        refine ⟨k,k1,k2,k3,Aw0 (c:=c0) ?_ c2 c3,?_⟩
        .unfold Jy
         exact List.mem_flatMap.2 ⟨f.Var,J,by rw [h]; exact c1⟩
        .intro c B hk
         unfold I5 at hk
         simp only [Ce] at hk
         have q1:=eq_of_beq hk.1
         have q2:=eq_of_beq hk.2
         obtain ⟨v,t2,w1,w2,w3⟩:=Amb B
         have a7:=Aes w3
         have:v=f.Var:=by omega
         subst this
         rw [h] at w2; cases w2
         obtain ⟨_,z2,_⟩:=Al5 g2 c w3
         rw [z2,q2]
      refine E2 V (fun j=>((j:Int),Jy x (Ed g res) (V.take j))) rfl (by omega) ?_ ?_
      .intro j v hj G h1 h2 h3
       obtain ⟨t,ht,hX⟩:=y v (Bi G)
       have a1:=Aer hf.2.1.cons8 (Ed g res) (V.take j)
       have a8:(V.take j).length<=6000:=by simp; omega
       have z:((bif (decide (v>=(0:Int))) then some (decide (v<(g.length:Int))) else some false).bind fun v37=>(bif v37 then ((Ae g v).bind fun q=>some (q.Kind,q.Num,q.Kids)) else some (res.Kind,res.Num,res.Kids)))=some ((Ed g res v).Kind,(Ed g res v).Num,(Ed g res v).Kids):=by
        unfold Ed
        by_cases h0:v>=0
        .rw [Aj h0,cond_true,Ad]
         by_cases h':v<(g.length:Int)
         .rw [Aj h',cond_true]
          have hi:Ae g v=some (g[v.toNat]'(by omega)):=Bn (n:=v.toNat) (by omega) (Bj _)
          rw [hi]; rfl
         .rw [Am h',cond_false,Ac4 (by omega)]
        .rw [Am h0,cond_false,Ad,cond_false,Ac4 (by omega)]
       simp only [h1,h2,h3,cond_true,Ad]
       rw [<-Option.bind_assoc]
       erw [z]
       simp only [Ad,Awo,Awp x E hf v (Ed g res v) (by have:=Al7 A i v; omega) t ht hX,bne_self_eq_false,cond_false]
       have ab:=Al4 hf.2.1.cons8 t v (Ed g res v)
       rw [C4 (by omega),Ad,Cw G]
       congr 3
       unfold Jy
       rw [List.flatMap_append,List.flatMap_cons,List.flatMap_nil,List.append_nil,ht]
      .intro h1
       refine ⟨.inr (Jy x (Ed g res) V),by simp only [h1]; rw [List.take_length]; rfl,?_⟩
       simp only [X,Ad,beq_self_eq_true,cond_true,Awz s Z]
end Go.Ab
