/- A layer of abstract values over the model, and the conditions under which a function keeps its contract. -/
import Derived.Calls
import Derived.Orders
import Derived.Lib.ItoaNum
import Derived.Laws.CopyRow
import Derived.Laws.Cells
import Derived.Laws.Append
import Derived.Laws.IdiomStrings
import Derived.Lib.SliceRun
import Derived.Laws.FloatArith
import Derived.Laws.Cover2
import Derived.Laws.MakeOwn
import Derived.Lib.AppendStr
import Derived.MapKept
import Derived.WideKeyRuns
import Derived.Scope
import Derived.Lib.Join
import Derived.Lib.Repeat
namespace Go.Ab
inductive AV where
 | val (v:Value)
 | loc (h off:Nat)
 | arr (h k off len:Nat)
 | el (h k i j:Nat)
 | mp (h:Nat)
 | ref (cs:List AV)
 | sl (sz:Nat) (xs:List AV)
 | agg (cs:List AV)
 | tup (cs:List AV)
 | fn (f:FuncId) (caps:List AV)
 | fb (s:ByteArray)
inductive Bc where
 | none
 | dead
 | cells (elem:TypeId) (cs:List AV)
 | rows (elem:TypeId) (sz:Nat) (xs:List AV)
 | map (es:List (AV×AV))
abbrev Bf:=Nat->AV
abbrev Hp:=Nat->Bc
abbrev Aw:=Nat->Option Obj
def A3 {α:Type} (e:Nat->α) (n:Nat) (v:α):Nat->α:=fun m=>bif Nat.beq m n then v else e m
theorem B5 {α:Type} (e:Nat->α) (n:Nat) (v:α):A3 e n v n=v:=by simp [A3]
theorem Cp {α:Type} (e:Nat->α) {n m:Nat} (v:α) (h:m≠n):A3 e n v m=e m:=by
 have:Nat.beq m n=false:=by
  cases hb:Nat.beq m n
  .rfl
  .exact absurd (Nat.eq_of_beq_eq_true hb) h
 simp [A3,this]
theorem Aeu {α:Type} (e:Nat->α) {n m:Nat} (u v:α) (h:m≠n):A3 (A3 e n u) m v=A3 (A3 e m v) n u:=by
 funext k
 by_cases h1:k=n
 .subst h1
  rw [Cp _ _ (Ne.symm h),B5,B5]
 .by_cases h2:k=m
  .subst h2; rw [B5,Cp _ _ h1,B5]
  .rw [Cp _ _ h2,Cp _ _ h1,Cp _ _ h1,Cp _ _ h2]
def AV.cells:AV->List AV
 | .agg cs=>cs
 | .val (.agg vs)=>vs.toList.map .val
 | x=>[x]
def Du:Value->Bool
 | .agg _ | .tuple _=>false
 | _=>true
def AV.one:AV->Bool
 | .agg _ | .tup _=>false
 | .val v=>Du v
 | _=>true
inductive CC (σ:Aw):AV->Value->Prop where
 | val (v:Value):CC σ (.val v) v
 | nil (sz:Nat) (a:Option Addr) (cap:Nat):CC σ (.sl sz []) (.slice a 0 cap)
 | sl (xs:List AV) (b off cap sz:Nat) (C:Array Value) (E:TypeId) (fr:Nat×Nat) (g:Nat->Nat->Value) (hσ:σ b=some (.cells C E fr))
   (hs:∀(i:Nat) (x:AV),xs[i]? = some x->x.cells.length=sz)
   (hc:∀(i:Nat) (x:AV) (j:Nat) (c:AV),xs[i]? = some x->x.cells[j]? = some c->CC σ c (g i j))
   (h1:∀(i:Nat) (x:AV) (j:Nat) (c:AV),xs[i]? = some x->x.cells[j]? = some c->Du (g i j)=true)
   (hC:∀(i j:Nat),i<xs.length->j<sz->C[off+i*sz+j]? = some (g i j))
   (hl:xs.length<=140737488355328) (hcap:xs.length<=cap):CC σ (.sl sz xs) (.slice (some ⟨b,off,Option.none⟩) xs.length cap)
 | agg (cs:List AV) (vs:Array Value) (hl:vs.size=cs.length) (h:∀(i:Nat) (c:AV) (v:Value),cs[i]? = some c->vs[i]? = some v->CC σ c v):CC σ (.agg cs) (.agg vs)
 | fbn (s:ByteArray) (a:Option Addr) (cap:Nat) (h0:s.size=0):CC σ (.fb s) (.slice a 0 cap)
 | fb (s:ByteArray) (b cap:Nat) (C:Array Value) (hσ:σ b=some (.cells C 5 (0,s.size))) (h0:s.size≠0) (hcap:s.size<=cap) (hC:s.size<=C.size) (hl:s.size<=140737488355328)
   (hb:∀(j:Nat) (x:UInt8),s.data[j]? = some x->C[j]? = some (Value.int .u8 x.toNat)):CC σ (.fb s) (.slice (some ⟨b,0,Option.none⟩) s.size cap)
inductive Loc where
 | none
 | box (b:Nat)
 | nil
 | blk (b tot:Nat)
abbrev Bi:=Nat->Loc
def Loc.block?:Loc->Option Nat
 | .box b=>some b
 | .blk b _=>some b
 | _=>Option.none
def E5 (l:Loc) (sz off len:Nat) (v:Value):Prop :=
 match l with
 | .nil=>v = .slice Option.none 0 0/\off=0/\len=0
 | .blk b c=>off+len<=c/\v = .slice (some ⟨b,off*sz,Option.none⟩) len (c-off)
 | _=>False
def Aev (l:Loc) (sz i j:Nat) (v:Value):Prop :=
 match l with
 | .blk b _=>v = .pointer (some ⟨b,i*sz+j,Option.none⟩)
 | _=>False
inductive Conc (σ:Aw) (ι:Bi) (H:Hp):AV->Value->Prop where
 | cc {a:AV} {v:Value} (h:CC σ a v):Conc σ ι H a v
 | loc (h off b:Nat) (hb:ι h = .box b):Conc σ ι H (.loc h off) (.pointer (some ⟨b,off,Option.none⟩))
 | mp (h b:Nat) (hb:ι h = .box b):Conc σ ι H (.mp h) (.map (some b))
 | arr (h k off len:Nat) (v:Value) (hn:H h≠.none) (hv:∀E sz xs,H h = .rows E sz xs->k<=xs.length/\(xs.length=k->E5 (ι h) sz off len v))
   (hone:Du v=true):Conc σ ι H (.arr h k off len) v
 | el (h k i j:Nat) (v:Value) (hn:H h≠.none) (hv:∀E sz xs,H h = .rows E sz xs->k<=xs.length/\(xs.length=k->Aev (ι h) sz i j v))
   (hone:Du v=true):Conc σ ι H (.el h k i j) v
 | ref (cs:List AV) (b off:Nat) (C:Array Value) (E:TypeId) (fr:Nat×Nat) (g:Nat->Value) (hσ:σ b=some (.cells C E fr))
   (hc:∀(j:Nat) (c:AV),cs[j]? = some c->CC σ c (g j)) (h1:∀(j:Nat) (c:AV),cs[j]? = some c->Du (g j)=true)
   (hC:∀(j:Nat),j<cs.length->C[off+j]? = some (g j)):Conc σ ι H (.ref cs) (.pointer (some ⟨b,off,Option.none⟩))
 | agg (cs:List AV) (vs:Array Value) (hl:vs.size=cs.length) (h:∀(i:Nat) (c:AV) (v:Value),cs[i]? = some c->vs[i]? = some v->Conc σ ι H c v):Conc σ ι H (.agg cs) (.agg vs)
 | tup (cs:List AV) (vs:Array Value) (hl:vs.size=cs.length) (h:∀(i:Nat) (c:AV) (v:Value),cs[i]? = some c->vs[i]? = some v->Conc σ ι H c v):Conc σ ι H (.tup cs) (.tuple vs)
 | fn (f:FuncId) (caps:List AV) (vs:Array Value) (hl:vs.size=caps.length) (h:∀(i:Nat) (c:AV) (v:Value),caps[i]? = some c->vs[i]? = some v->Conc σ ι H c v) :
   Conc σ ι H (.fn f caps) (.func (.func f) #[] vs)
def Aw.le (σ c:Aw):Prop:=∀b o,σ b=some o->c b=some o
theorem Aw.le_refl (σ:Aw):σ.le σ:=fun _ _ h=>h
theorem Aw.le_trans {σ f c:Aw} (h:Aw.le σ f) (h':Aw.le f c):Aw.le σ c:=fun b o e=>h' b o (h b o e)
structure HLe (l:Loc) (o:Bc) (l':Loc) (o':Bc):Prop where
 box:∀b,l = .box b->l' = .box b
 some:o≠.none->o'≠.none
 rows:o≠.none->∀E' sz' xs',o' = .rows E' sz' xs'->∃E sz xs,o = .rows E sz xs/\(xs.length<xs'.length\/(xs.length=xs'.length/\sz=sz'/\l=l'))
theorem HLe.refl (l:Loc) (o:Bc):HLe l o l o :=
 ⟨fun _ h=>h,fun h=>h,fun _ E sz xs h=>⟨E,sz,xs,h,.inr ⟨rfl,rfl,rfl⟩⟩⟩
theorem HLe.trans {l y i:Loc} {o o' g:Bc} (h:HLe l o y o') (h':HLe y o' i g):HLe l o i g:=by
 refine ⟨fun b e=>h'.box b (h.box b e),fun e=>h'.some (h.some e),fun e u f c s=>?_⟩
 obtain ⟨G,k,j,e',x⟩:=h'.rows (h.some e) u f c s
 obtain ⟨E,sz,xs,D,r⟩:=h.rows e G k j e'
 refine ⟨E,sz,xs,D,?_⟩
 rcases r with r | ⟨J,I,z⟩ <;> rcases x with x | ⟨B,A,q⟩
 .left; omega
 .left; omega
 .left; omega
 .exact .inr ⟨by omega,by omega,z.trans q⟩
structure Le (σ:Aw) (ι:Bi) (H:Hp) (σ':Aw) (ι':Bi) (H':Hp):Prop where
 sto:σ.le σ'
 obj:∀h,HLe (ι h) (H h) (ι' h) (H' h)
theorem Le.refl (σ:Aw) (ι:Bi) (H:Hp):Le σ ι H σ ι H:=⟨Aw.le_refl σ,fun _=>HLe.refl _ _⟩
theorem Le.trans {σ g b:Aw} {ι i c:Bi} {H H' f:Hp} (h:Le σ ι H g i H') (h':Le g i H' b c f):Le σ ι H b c f :=
 ⟨Aw.le_trans h.sto h'.sto,fun x=>(h.obj x).trans (h'.obj x)⟩
theorem CC.mono {σ l:Aw} (hs:σ.le l) {a:AV} {v:Value} (h:CC σ a v):CC l a v:=by
 induction h with
 | val v=>exact .val v
 | nil sz a cap=>exact .nil sz a cap
 | sl xs b off cap sz C E fr g i j _ h1 k f c ih=>exact .sl xs b off cap sz C E fr g (hs _ _ i) j ih h1 k f c
 | agg cs vs f _ ih=>exact .agg cs vs f ih
 | fbn s a cap h0=>exact .fbn s a cap h0
 | fb s b cap C i h0 c k f hb=>exact .fb s b cap C (hs _ _ i) h0 c k f hb
theorem Conc.mono {σ J:Aw} {ι L:Bi} {H H':Hp} (hs:Le σ ι H J L H') {a:AV} {v:Value} (h:Conc σ ι H a v):Conc J L H' a v:=by
 induction h with
 | cc h=>exact .cc (h.mono hs.sto)
 | loc h off b hb=>exact .loc h off b ((hs.obj h).box b hb)
 | mp h b hb=>exact .mp h b ((hs.obj h).box b hb)
 | arr h k off len v y u l=>
  refine .arr h k off len v ((hs.obj h).some y) (fun I s q e=>?_) l
  obtain ⟨E,sz,xs,G,r⟩:=(hs.obj h).rows y I s q e
  obtain ⟨hk,u⟩:=u E sz xs G
  rcases r with r | ⟨M,D,B⟩
  .exact ⟨by omega,fun x=>by omega⟩
  .rw [<-D,<-B]; exact ⟨by omega,fun x=>u (by omega)⟩
 | el h k i j v y u l=>
  refine .el h k i j v ((hs.obj h).some y) (fun I s q e=>?_) l
  obtain ⟨E,sz,xs,G,r⟩:=(hs.obj h).rows y I s q e
  obtain ⟨hk,u⟩:=u E sz xs G
  rcases r with r | ⟨M,D,B⟩
  .exact ⟨by omega,fun x=>by omega⟩
  .rw [<-D,<-B]; exact ⟨by omega,fun x=>u (by omega)⟩
 | ref cs b off C E fr g N hc h1 R=>exact .ref cs b off C E fr g (hs.sto _ _ N) (fun j c h=>(hc j c h).mono hs.sto) h1 R
 | agg cs vs z _ ih=>exact .agg cs vs z ih
 | tup cs vs z _ ih=>exact .tup cs vs z ih
 | fn f A vs z _ ih=>exact .fn f A vs z ih
end Go.Ab
namespace Go.Ab
def F6 (σ:Aw) (sz:Nat) (xs:List AV) (C:Array Value):Prop :=
 ∃g:Nat->Nat->Value,(∀(i:Nat) (x:AV),xs[i]? = some x->x.cells.length=sz) /\
  (∀(i:Nat) (x:AV) (j:Nat) (c:AV),xs[i]? = some x->x.cells[j]? = some c->CC σ c (g i j)/\Du (g i j)=true) /\
  (∀(i j:Nat),i<xs.length->j<sz->C[i*sz+j]? = some (g i j))
def No (σ:Aw) (es:List (AV×AV)) (M:Array MapEntry):Prop :=
 M.size=es.length/\∀(i:Nat) (p:AV×AV) (e:MapEntry),es[i]? = some p->M[i]? = some e->CC σ p.1 e.key/\CC σ p.2 e.val
theorem No.mono {σ b:Aw} (hs:σ.le b) {es:List (AV×AV)} {M:Array MapEntry} (h:No σ es M):No b es M :=
 ⟨h.1,fun i p e h1 h2=>⟨(h.2 i p e h1 h2).1.mono hs,(h.2 i p e h1 h2).2.mono hs⟩⟩
def Ca (σ:Aw) (ι:Bi) (H:Hp) (F:Aw) (w:World) (h:Nat):Prop :=
 match H h with
 | .none=>ι h = .none
 | .dead=>True
 | .cells E cs=>∃(b:Nat) (C:Array Value),ι h = .box b/\σ b=none/\F b=none/\w.heap[b]? = some (.cells C E (0,0))/\C.size=cs.length /\
   ∀(i:Nat) (c:AV) (v:Value),cs[i]? = some c->C[i]? = some v->Conc σ ι H c v
 | .rows E sz xs=>0<sz/\xs.length<=140737488355328/\((ι h = .nil/\xs = [])\/∃(b f:Nat) (C:Array Value),ι h = .blk b f/\σ b=none/\F b=none /\
   w.heap[b]? = some (.cells C E (0,0))/\C.size=f*sz/\xs.length<=f/\F6 σ sz xs C)
 | .map es=>∃(b:Nat) (M:Array MapEntry) (t:Nat),ι h = .box b/\σ b=none/\F b=none/\w.heap[b]? = some (.map M t)/\No σ es M
def Bc.live:Bc->Bool
 | .none | .dead=>false
 | _=>true
def Ps (σ:Aw):Prop:=∃(E:TypeId) (fr:Nat×Nat),σ 0=some (.cells (Lib.pow10Tab.map fun z=>Value.int .u64 z).toArray E fr)
theorem Ps.mono {σ b:Aw} (h:σ.le b) (g:Ps σ):Ps b:=by
 obtain ⟨E,fr,e⟩:=g
 exact ⟨E,fr,h _ _ e⟩
structure St (σ:Aw) (ι:Bi) (H:Hp) (F:Aw) (W w:World):Prop where
 sto:∀b o,σ b=some o->w.heap[b]? = some o
 fra:∀b o,F b=some o->w.heap[b]? = some o/\σ b=none
 obj:∀h,Ca σ ι H F w h
 inj:∀h h' b,(H h).live=true->(H h').live=true->(ι h).block? = some b->(ι h').block? = some b->h=h'
 os:w.os=W.os
 tape:w.tape=W.tape
 output:w.output=W.output
 glo:Ps σ
 drw:True
theorem F6.mono {σ b:Aw} (hs:σ.le b) {sz:Nat} {xs:List AV} {C:Array Value} (h:F6 σ sz xs C):F6 b sz xs C:=by
 obtain ⟨g,h1,h2,h3⟩:=h
 exact ⟨g,h1,fun i x j c hx hc=>⟨((h2 i x j c hx hc).1).mono hs,(h2 i x j c hx hc).2⟩,h3⟩
theorem St.block {σ:Aw} {ι:Bi} {H:Hp} {F:Aw} {W w:World} (s:St σ ι H F W w) {h b:Nat} (g:(H h).live=true) (hb:(ι h).block? = some b) :
  b<w.heap.size/\σ b=none/\F b=none:=by
 have c:=s.obj h
 unfold Ca at c
 cases f:H h with
 | none=>rw [f] at g; cases g
 | dead=>rw [f] at g; cases g
 | cells E cs=>
  rw [f] at c
  obtain ⟨i,C,e,h1,h2,h3,_⟩:=c
  rw [e] at hb; simp [Loc.block?] at hb; subst hb
  refine ⟨?_,h1,h2⟩
  exact (Array.getElem?_eq_some_iff.1 h3).1
 | rows E sz xs=>
  rw [f] at c
  obtain ⟨_,_,⟨e,_⟩ | ⟨i,j,C,e,h1,h2,h3,_⟩⟩:=c
  .rw [e] at hb; simp [Loc.block?] at hb
  .rw [e] at hb; simp [Loc.block?] at hb; subst hb
   exact ⟨(Array.getElem?_eq_some_iff.1 h3).1,h1,h2⟩
 | map es=>
  rw [f] at c
  obtain ⟨i,M,t,e,h1,h2,h3,_⟩:=c
  rw [e] at hb; simp [Loc.block?] at hb; subst hb
  exact ⟨(Array.getElem?_eq_some_iff.1 h3).1,h1,h2⟩
theorem St.touch {σ I:Aw} {ι J:Bi} {H H':Hp} {F:Aw} {W w w':World} (s:St σ ι H F W w) (h t:Nat)
  (X:∀x,x≠h->J x=ι x) (Y:∀x,x≠h->H' x=H x) (V:Le σ ι H I J H')
  (f:∀b,b≠t->w'.heap[b]? = w.heap[b]?) (N:∀b,b≠t->I b=σ b)
  (a1:∀o,I t=some o->w'.heap[t]? = some o)
  (j:∀x,x≠h->(H x).live=true->(ι x).block?≠some t) (hF:F t=none)
  (A:∀b,(H' h).live=true->(J h).block? = some b->b=t\/((H h).live=true/\(ι h).block? = some b))
  (S:Ca I J H' F w' h) (a6:w'.os=w.os) (D:w'.tape=w.tape) (R:w'.output=w.output) (hdrw:w.drawn<=w'.drawn:=by exact Nat.le_refl _):St I J H' F W w':=by
 refine ⟨?_,?_,?_,?_,a6.trans s.os,D.trans s.tape,R.trans s.output,s.glo.mono V.sto,trivial⟩
 .intro b o hb
  by_cases e:b=t
  .subst e; exact a1 o hb
  .rw [f b e]; exact s.sto b o (by rw [<-N b e]; exact hb)
 .intro b o hb
  have e:b≠t:=by intro e; subst e; rw [hF] at hb; cases hb
  rw [f b e,N b e]; exact s.fra b o hb
 .intro x
  by_cases e:x=h
  .subst e; exact S
  .have z:=s.obj x
   unfold Ca at z ⊢
   rw [Y x e,X x e]
   cases hx:H x with
   | none=>rw [hx] at z; exact z
   | dead=>trivial
   | cells E cs=>
    rw [hx] at z
    obtain ⟨b,C,u,h1,h2,h3,h4,h5⟩:=z
    have g:b≠t:=by
     intro l; subst l
     exact j x e (by rw [hx]; rfl) (by rw [u]; rfl)
    exact ⟨b,C,u,by rw [N b g]; exact h1,h2,by rw [f b g]; exact h3,h4,fun i c v hc hv=>(h5 i c v hc hv).mono V⟩
   | rows E sz xs=>
    rw [hx] at z
    obtain ⟨z1,z2,⟨u,e2⟩ | ⟨b,Z,C,u,h1,h2,h3,h4,h5,h6⟩⟩:=z
    .exact ⟨z1,z2,.inl ⟨u,e2⟩⟩
    .have g:b≠t:=by
      intro l; subst l
      exact j x e (by rw [hx]; rfl) (by rw [u]; rfl)
     exact ⟨z1,z2,.inr ⟨b,Z,C,u,by rw [N b g]; exact h1,h2,by rw [f b g]; exact h3,h4,h5,h6.mono V.sto⟩⟩
   | map es=>
    rw [hx] at z
    obtain ⟨b,M,q,u,h1,h2,h3,h4⟩:=z
    have g:b≠t:=by
     intro l; subst l
     exact j x e (by rw [hx]; rfl) (by rw [u]; rfl)
    exact ⟨b,M,q,u,by rw [N b g]; exact h1,h2,by rw [f b g]; exact h3,h4.mono V.sto⟩
 .intro x y b L G U k
  by_cases ex:x=h
  .subst ex
   by_cases B:y=x
   .exact B.symm
   .rw [Y y B] at G; rw [X y B] at k
    rcases A b L U with e | ⟨l0,b0⟩
    .subst e; exact (j y B G k).elim
    .exact s.inj x y b l0 G b0 k
  .rw [Y x ex] at L; rw [X x ex] at U
   by_cases B:y=h
   .subst B
    rcases A b G k with e | ⟨l0,b0⟩
    .subst e; exact (j x ex L U).elim
    .exact s.inj x y b L l0 U b0
   .rw [Y y B] at G; rw [X y B] at k
    exact s.inj x y b L G U k
theorem HLe.of_none {b:Loc} {o':Bc}:HLe .none .none b o':=⟨(fun _ h=>by cases h),(fun h=>(h rfl).elim),(fun h=>(h rfl).elim)⟩
theorem Le.upd {σ:Aw} {ι:Bi} {H:Hp} {b:Aw} (hs:σ.le b) (h:Nat) (l:Loc) (o:Bc) (c:HLe (ι h) (H h) l o):Le σ ι H b (A3 ι h l) (A3 H h o):=by
 refine ⟨hs,fun x=>?_⟩
 by_cases e:x=h
 .subst e; rw [B5,B5]; exact c
 .rw [Cp _ _ e,Cp _ _ e]; exact HLe.refl _ _
theorem Gl {α:Type} (e:Nat->α) (n:Nat):A3 e n (e n)=e:=by
 funext m
 by_cases h:m=n
 .subst h; rw [B5]
 .rw [Cp _ _ h]
theorem St.newBox {σ:Aw} {ι:Bi} {H:Hp} {F:Aw} {W w:World} (s:St σ ι H F W w) (h:Nat) (u:H h = .none) (E:TypeId) (cs:List AV) (C:Array Value)
  (l:C.size=cs.length) (hc:∀(i:Nat) (c:AV) (v:Value),cs[i]? = some c->C[i]? = some v->Conc σ ι H c v) :
  St σ (A3 ι h (.box w.heap.size)) (A3 H h (.cells E cs)) F W (w.alloc (.cells C E))/\Le σ ι H σ (A3 ι h (.box w.heap.size)) (A3 H h (.cells E cs)):=by
 have k:ι h = .none:=by have:=s.obj h; unfold Ca at this; rw [u] at this; exact this
 have le:Le σ ι H σ (A3 ι h (.box w.heap.size)) (A3 H h (.cells E cs)):=Le.upd (Aw.le_refl σ) h _ _ (by rw [k,u]; exact HLe.of_none)
 have f:∀(S:Aw),(∀b o,S b=some o->w.heap[b]? = some o)->S w.heap.size=none:=by
  intro S y
  cases e:S w.heap.size with
  | none=>rfl
  | some o=>have:=y _ _ e; simp at this
 have g:=f σ s.sto
 have j:=f F (fun b o hb=>(s.fra b o hb).1)
 refine ⟨s.touch h w.heap.size (fun x e=>Cp _ _ e) (fun x e=>Cp _ _ e) le ?_ (fun _ _=>rfl) (fun o q=>by rw [g] at q; cases q) ?_ j ?_ ?_ rfl rfl rfl,le⟩
 .intro b hb
  show (w.heap.push _)[b]? = _
  rw [Array.getElem?_push,if_neg hb]
 .intro x e l hb
  have:=(s.block l hb).1
  omega
 .intro b _ hb
  rw [B5] at hb; simp [Loc.block?] at hb
  exact .inl hb.symm
 .unfold Ca
  rw [B5]
  refine ⟨w.heap.size,C,B5 _ _ _,g,j,?_,l,fun i c v h1 h2=>(hc i c v h1 h2).mono le⟩
  show (w.heap.push _)[w.heap.size]? = _
  simp
theorem St.newFrozen {σ:Aw} {ι:Bi} {H:Hp} {F:Aw} {W w:World} (s:St σ ι H F W w) (o:Obj) :
  St (A3 σ w.heap.size (some o)) ι H F W (w.alloc o)/\Le σ ι H (A3 σ w.heap.size (some o)) ι H:=by
 have k:∀(S:Aw),(∀b o,S b=some o->w.heap[b]? = some o)->S w.heap.size=none:=by
  intro S G
  cases e:S w.heap.size with
  | none=>rfl
  | some o=>have:=G _ _ e; simp at this
 have y:=k σ s.sto
 have z:=k F (fun b o hb=>(s.fra b o hb).1)
 have j:σ.le (A3 σ w.heap.size (some o)):=by
  intro b o' hb
  rw [Cp _ _ (by intro e; subst e; rw [y] at hb; cases hb)]; exact hb
 have le:Le σ ι H (A3 σ w.heap.size (some o)) ι H:=⟨j,fun _=>HLe.refl _ _⟩
 have f:∀b,b≠w.heap.size->(w.alloc o).heap[b]? = w.heap[b]?:=by
  intro b hb
  show (w.heap.push _)[b]? = _
  rw [Array.getElem?_push,if_neg hb]
 refine ⟨⟨?_,?_,?_,s.inj,s.os,s.tape,s.output,s.glo.mono j,s.drw⟩,le⟩
 .intro b o' hb
  by_cases e:b=w.heap.size
  .subst e; rw [B5] at hb; cases hb
   show (w.heap.push _)[w.heap.size]? = _
   simp
  .rw [Cp _ _ e] at hb; rw [f b e]; exact s.sto b o' hb
 .intro b o' hb
  have e:b≠w.heap.size:=by intro e; subst e; rw [z] at hb; cases hb
  rw [f b e,Cp _ _ e]; exact s.fra b o' hb
 .intro x
  have h:=s.obj x
  unfold Ca at h ⊢
  cases hx:H x with
  | none=>rw [hx] at h; exact h
  | dead=>trivial
  | cells E cs=>
   rw [hx] at h
   obtain ⟨b,C,l,h1,h2,h3,h4,A⟩:=h
   have g:b≠w.heap.size:=by
    have:=(Array.getElem?_eq_some_iff.1 h3).1; omega
   exact ⟨b,C,l,by rw [Cp _ _ g]; exact h1,h2,by rw [f b g]; exact h3,h4,fun i c v hc D=>(A i c v hc D).mono le⟩
  | rows E sz xs=>
   rw [hx] at h
   obtain ⟨B,z2,⟨l,J⟩ | ⟨b,u,C,l,h1,h2,h3,h4,A,I⟩⟩:=h
   .exact ⟨B,z2,.inl ⟨l,J⟩⟩
   .have g:b≠w.heap.size:=by
     have:=(Array.getElem?_eq_some_iff.1 h3).1; omega
    exact ⟨B,z2,.inr ⟨b,u,C,l,by rw [Cp _ _ g]; exact h1,h2,by rw [f b g]; exact h3,h4,A,I.mono j⟩⟩
  | map es=>
   rw [hx] at h
   obtain ⟨b,M,q,l,h1,h2,h3,h4⟩:=h
   have g:b≠w.heap.size:=by
    have:=(Array.getElem?_eq_some_iff.1 h3).1; omega
   exact ⟨b,M,q,l,by rw [Cp _ _ g]; exact h1,h2,by rw [f b g]; exact h3,h4.mono j⟩
theorem St.drew {σ:Aw} {ι:Bi} {H:Hp} {F:Aw} {W w:World} (s:St σ ι H F W w) (n:Nat) (b:w.drawn<=n:=by first | exact Nat.le_succ _ | exact Nat.le_refl _ | omega):St σ ι H F W {w with drawn:=n}:=by
 refine ⟨s.sto,s.fra,fun h=>?_,s.inj,s.os,s.tape,s.output,s.glo,trivial⟩
 have:=s.obj h
 unfold Ca at this ⊢
 exact this
theorem Zb (w:World) (g b:Nat) (C:Array Value) (h:b≠g):(w.setRow g C).heap[b]? = w.heap[b]?:=by
 simp only [World.setRow,Array.getElem?_modify]
 rw [if_neg (by omega)]
theorem St.setBox {σ:Aw} {ι:Bi} {H:Hp} {F:Aw} {W w:World} (s:St σ ι H F W w) (h:Nat) (E:TypeId) (cs f:List AV) (j:H h = .cells E cs) (b:Nat) (hb:ι h = .box b)
  (g:Array Value) (l:g.size=f.length) (hc:∀(i:Nat) (c:AV) (v:Value),f[i]? = some c->g[i]? = some v->Conc σ ι H c v) :
  St σ ι (A3 H h (.cells E f)) F W (w.setRow b g)/\Le σ ι H σ ι (A3 H h (.cells E f)):=by
 have k:=s.obj h
 unfold Ca at k
 rw [j] at k
 obtain ⟨D,C,z,h1,h2,h3,h4,A⟩:=k
 rw [hb] at z; cases z
 have le:Le σ ι H σ ι (A3 H h (.cells E f)):=by
  have:=Le.upd (ι:=ι) (H:=H) (Aw.le_refl σ) h (ι h) (.cells E f) (by rw [j]; exact ⟨fun _ e=>e,(fun _ e=>by cases e),(fun _ _ _ _ e=>by cases e)⟩)
  rwa [Gl] at this
 refine ⟨s.touch h b (fun _ _=>rfl) (fun x e=>Cp _ _ e) le (fun x e=>Zb w b x g e) (fun _ _=>rfl) (fun o e=>by rw [h1] at e; cases e) ?_ h2 ?_ ?_ rfl rfl rfl,le⟩
 .intro x e l q
  exact e (s.inj x h b l (by rw [j]; rfl) q (by rw [hb]; rfl))
 .intro B _ u
  exact .inr ⟨by rw [j]; rfl,u⟩
 .unfold Ca
  rw [B5]
  exact ⟨b,g,hb,h1,h2,setRow_heap w b C g E (0,0) h3,l,fun i c v x y=>(hc i c v x y).mono le⟩
theorem St.setRows {σ:Aw} {ι:Bi} {H:Hp} {F:Aw} {W w:World} (s:St σ ι H F W w) (h:Nat) (E:TypeId) (sz:Nat) (xs c:List AV) (j:H h = .rows E sz xs) (b f:Nat) (hb:ι h = .blk b f)
  (l:c.length=xs.length) (g:Array Value) (G:g.size=f*sz) (D:F6 σ sz c g) :
  St σ ι (A3 H h (.rows E sz c)) F W (w.setRow b g)/\Le σ ι H σ ι (A3 H h (.rows E sz c)):=by
 have k:=s.obj h
 unfold Ca at k
 rw [j] at k
 obtain ⟨z,z2,⟨i,L⟩ | ⟨N,y,C,i,h1,h2,h3,h4,J,I⟩⟩:=k
 .rw [hb] at i; cases i
 rw [hb] at i; cases i
 have le:Le σ ι H σ ι (A3 H h (.rows E sz c)):=by
  have:=Le.upd (ι:=ι) (H:=H) (Aw.le_refl σ) h (ι h) (.rows E sz c) (by
   rw [j]; exact ⟨fun _ e=>e,(fun _ e=>by cases e),fun _ R B A e=>by cases e; exact ⟨E,sz,xs,rfl,.inr ⟨l.symm,rfl,rfl⟩⟩⟩)
  rwa [Gl] at this
 refine ⟨s.touch h b (fun _ _=>rfl) (fun x e=>Cp _ _ e) le (fun x e=>Zb w b x g e) (fun _ _=>rfl) (fun o e=>by rw [h1] at e; cases e) ?_ h2 ?_ ?_ rfl rfl rfl,le⟩
 .intro x e l q
  exact e (s.inj x h b l (by rw [j]; rfl) q (by rw [hb]; rfl))
 .intro M _ u
  exact .inr ⟨by rw [j]; rfl,u⟩
 .unfold Ca
  rw [B5]
  exact ⟨z,by omega,.inr ⟨b,f,g,hb,h1,h2,setRow_heap w b C g E (0,0) h3,G,by omega,D⟩⟩
theorem St.growIn {σ:Aw} {ι:Bi} {H:Hp} {F:Aw} {W w:World} (s:St σ ι H F W w) (h:Nat) (E:TypeId) (sz:Nat) (xs c:List AV) (j:H h = .rows E sz xs) (b f:Nat) (hb:ι h = .blk b f)
  (l:xs.length<c.length) (G:c.length<=140737488355328) (ht:c.length<=f) (g:Array Value) (I:g.size=f*sz) (D:F6 σ sz c g) :
  St σ ι (A3 H h (.rows E sz c)) F W (w.setRow b g)/\Le σ ι H σ ι (A3 H h (.rows E sz c)):=by
 have k:=s.obj h
 unfold Ca at k
 rw [j] at k
 obtain ⟨z,z2,⟨i,M⟩ | ⟨R,y,C,i,h1,h2,h3,h4,L,J⟩⟩:=k
 .rw [hb] at i; cases i
 rw [hb] at i; cases i
 have le:Le σ ι H σ ι (A3 H h (.rows E sz c)):=by
  have:=Le.upd (ι:=ι) (H:=H) (Aw.le_refl σ) h (ι h) (.rows E sz c) (by
   rw [j]; exact ⟨fun _ e=>e,(fun _ e=>by cases e),fun _ S B A e=>by cases e; exact ⟨E,sz,xs,rfl,.inl l⟩⟩)
  rwa [Gl] at this
 refine ⟨s.touch h b (fun _ _=>rfl) (fun x e=>Cp _ _ e) le (fun x e=>Zb w b x g e) (fun _ _=>rfl) (fun o e=>by rw [h1] at e; cases e) ?_ h2 ?_ ?_ rfl rfl rfl,le⟩
 .intro x e l q
  exact e (s.inj x h b l (by rw [j]; rfl) q (by rw [hb]; rfl))
 .intro N _ u
  exact .inr ⟨by rw [j]; rfl,u⟩
 .unfold Ca
  rw [B5]
  exact ⟨z,G,.inr ⟨b,f,g,hb,h1,h2,setRow_heap w b C g E (0,0) h3,I,ht,D⟩⟩
theorem St.fresh {σ:Aw} {ι:Bi} {H:Hp} {F:Aw} {W w:World} (s:St σ ι H F W w):σ w.heap.size=none/\F w.heap.size=none:=by
 have c:∀(S:Aw),(∀b o,S b=some o->w.heap[b]? = some o)->S w.heap.size=none:=by
  intro S f
  cases e:S w.heap.size with
  | none=>rfl
  | some o=>have:=f _ _ e; simp at this
 exact ⟨c σ s.sto,c F (fun b o hb=>(s.fra b o hb).1)⟩
theorem St.newRows {σ:Aw} {ι:Bi} {H:Hp} {F:Aw} {W w:World} (s:St σ ι H F W w) (h:Nat) (E:TypeId) (sz:Nat) (xs:List AV) (c:Nat) (C:Array Value)
  (M:H h = .none\/∃y g f,H h = .rows y g f/\f.length<xs.length)
  (G:0<sz) (J:xs.length<=140737488355328) (ht:xs.length<=c) (N:C.size=c*sz) (I:F6 σ sz xs C) :
  St σ (A3 ι h (.blk w.heap.size c)) (A3 H h (.rows E sz xs)) F W (w.alloc (.cells C E))/\Le σ ι H σ (A3 ι h (.blk w.heap.size c)) (A3 H h (.rows E sz xs)):=by
 obtain ⟨i,k⟩:=s.fresh
 have le:Le σ ι H σ (A3 ι h (.blk w.heap.size c)) (A3 H h (.rows E sz xs)):=by
  refine Le.upd (Aw.le_refl σ) h _ _ ?_
  rcases M with j | ⟨y,g,f,j,q⟩
  .have l:ι h = .none:=by have:=s.obj h; unfold Ca at this; rw [j] at this; exact this
   rw [l,j]; exact HLe.of_none
  .rw [j]
   refine ⟨fun b e=>?_,(fun _ e=>by cases e),fun _ S D B e=>by cases e; exact ⟨y,g,f,rfl,.inl q⟩⟩
   have:=s.obj h; unfold Ca at this; rw [j] at this
   obtain ⟨_,_,⟨u,_⟩ | ⟨R,z,C,u,_⟩⟩:=this <;> rw [e] at u <;> cases u
 refine ⟨s.touch h w.heap.size (fun x e=>Cp _ _ e) (fun x e=>Cp _ _ e) le ?_ (fun _ _=>rfl) (fun o A=>by rw [i] at A; cases A) ?_ k ?_ ?_ rfl rfl rfl,le⟩
 .intro b hb
  show (w.heap.push _)[b]? = _
  rw [Array.getElem?_push,if_neg hb]
 .intro x e L hb
  have:=(s.block L hb).1
  omega
 .intro b _ hb
  rw [B5] at hb; simp [Loc.block?] at hb
  exact .inl hb.symm
 .unfold Ca
  rw [B5]
  refine ⟨G,J,.inr ⟨w.heap.size,c,C,B5 _ _ _,i,k,?_,N,ht,I⟩⟩
  show (w.heap.push _)[w.heap.size]? = _
  simp
theorem St.newNil {σ:Aw} {ι:Bi} {H:Hp} {F:Aw} {W w:World} (s:St σ ι H F W w) (h:Nat) (j:H h = .none) (E:TypeId) (sz:Nat) (k:0<sz) :
  St σ (A3 ι h .nil) (A3 H h (.rows E sz [])) F W w/\Le σ ι H σ (A3 ι h .nil) (A3 H h (.rows E sz [])):=by
 obtain ⟨c,g⟩:=s.fresh
 have f:ι h = .none:=by have:=s.obj h; unfold Ca at this; rw [j] at this; exact this
 have le:Le σ ι H σ (A3 ι h .nil) (A3 H h (.rows E sz [])):=Le.upd (Aw.le_refl σ) h _ _ (by rw [f,j]; exact HLe.of_none)
 refine ⟨s.touch h w.heap.size (fun x e=>Cp _ _ e) (fun x e=>Cp _ _ e) le (fun _ _=>rfl) (fun _ _=>rfl) (fun o i=>by rw [c] at i; cases i) ?_ g ?_ ?_ rfl rfl rfl,le⟩
 .intro x e l hb
  have:=(s.block l hb).1
  omega
 .intro b _ hb
  rw [B5] at hb; simp [Loc.block?] at hb
 .unfold Ca
  rw [B5]
  exact ⟨k,by simp,.inl ⟨B5 _ _ _,rfl⟩⟩
end Go.Ab
namespace Go.Ab
inductive TD where
 | int (k:IntKind)
 | bool
 | string
 | slice (e:TypeId)
 | struct (fs:List (Nat×Nat))
 | map (k e:TypeId)
 | float (k:FloatKind)
 | other
structure TI where
 d:TD
 size:Nat
 bytes:Nat
 zero:List Value
def TI.isAgg (i:TI):Bool :=
 match i.d with
 | .struct _=>true
 | _=>false
def zok (u:TypeDesc) (z:Value):Bool :=
 match u with
 | .struct _=>(match z with | .agg _=>true | _=>false)
 | _=>Du z
def F7 (P:Program) (t:TypeId):Option TI :=
 match P.info? t,P.underlying t with
 | some b,some u=>
  match b.zero with
  | none=>none
  | some z=>
   bif !(zok u z) then none else
   match u with
   | .int k=>some ⟨.int k,b.size,b.bytes,z.cells.toList⟩
   | .bool=>some ⟨.bool,b.size,b.bytes,z.cells.toList⟩
   | .string=>some ⟨.string,b.size,b.bytes,z.cells.toList⟩
   | .slice e=>some ⟨.slice e,b.size,b.bytes,z.cells.toList⟩
   | .map k e=>some ⟨.map k e,b.size,b.bytes,z.cells.toList⟩
   | .float k=>some ⟨.float k,b.size,b.bytes,z.cells.toList⟩
   | .struct fields=>
    if (fields.toList.all fun f=>decide (0<P.cellsOf f.type)) then some ⟨.struct (fields.toList.map fun f=>(f.offset,P.cellsOf f.type)),b.size,b.bytes,z.cells.toList⟩ else none
   | .array _ _=>none
   | _=>some ⟨.other,b.size,b.bytes,z.cells.toList⟩
 | _,_=>none
abbrev Cg:=Nat->Option TI
def Ch (P:Program) (T:Cg):Prop:=∀t i,T t=some i->F7 P t=some i
structure Eff where
 r:AV
 rd:List (Nat×Bc)
 wr:List (Nat×Bc)
def B6 (H:Hp):List (Nat×Bc)->Hp
 | []=>H
 | p::l=>B6 (A3 H p.1 p.2) l
def Js (cs:List AV) (off:Nat) (new:List AV):List AV:=cs.take off++(new++cs.drop (off+new.length))
def Pt (fs:List (Nat×Nat)):List AV->List (Nat×AV)->Option (List AV)
 | cs,[]=>some cs
 | cs,p::rest=>
  match fs[p.1]? with
  | none=>none
  | some q=>bif Nat.beq p.2.cells.length q.2&&Nat.ble (q.1+q.2) cs.length then Pt fs (Js cs q.1 p.2.cells) rest else none
def AV.cl1:AV->Bool
 | .val v=>Du v
 | .sl _ _=>true
 | _=>false
def It (sz:Nat) (x:AV):Bool:=Nat.beq x.cells.length sz&&x.cells.all AV.cl1
def AV.isPtr:AV->Bool
 | .loc .. | .ref _ | .fn ..=>true
 | _=>false
def AV.free1:AV->Bool
 | .agg cs=>cs.all AV.cl1
 | x=>x.cl1
def AV.free:AV->Bool
 | .val _ | .sl _ _ | .ref _=>true
 | .agg cs=>cs.all AV.cl1
 | .tup cs=>cs.all AV.free1
 | .fn _ cs=>cs.all AV.cl1
 | _=>false
def Zc (op:BinOp) (a b:Int):Option Bool :=
 match op with
 | .eql=>some (a==b)
 | .neq=>some (a != b)
 | .lss=>some (decide (a<b))
 | .leq=>some (decide (a<=b))
 | .gtr=>some (decide (a>b))
 | .geq=>some (decide (a>=b))
 | _=>none
section conc
variable {σ:Aw} {ι:Bi} {H:Hp}
theorem Conc.val_inv {u v:Value} (h:Conc σ ι H (.val u) v):v=u:=by
 cases h with
 | cc h=>cases h; rfl
theorem Conc.of_val (v:Value):Conc σ ι H (.val v) v:=.cc (.val v)
theorem Conc.sl_inv {sz:Nat} {xs:List AV} {v:Value} (h:Conc σ ι H (.sl sz xs) v):CC σ (.sl sz xs) v:=by
 cases h with
 | cc h=>exact h
theorem Conc.agg_inv {cs:List AV} {v:Value} (h:Conc σ ι H (.agg cs) v) :
  ∃vs:Array Value,v = .agg vs/\vs.size=cs.length/\∀(i:Nat) (c:AV) (u:Value),cs[i]? = some c->vs[i]? = some u->Conc σ ι H c u:=by
 cases h with
 | cc h=>cases h with
  | agg cs vs b h=>exact ⟨vs,rfl,b,fun i c u h1 h2=>.cc (h i c u h1 h2)⟩
 | agg cs vs b h=>exact ⟨vs,rfl,b,h⟩
theorem Conc.tup_inv {cs:List AV} {v:Value} (h:Conc σ ι H (.tup cs) v) :
  ∃vs:Array Value,v = .tuple vs/\vs.size=cs.length/\∀(i:Nat) (c:AV) (u:Value),cs[i]? = some c->vs[i]? = some u->Conc σ ι H c u:=by
 cases h with
 | cc h=>cases h
 | tup cs vs b h=>exact ⟨vs,rfl,b,h⟩
theorem Conc.loc_inv {x off:Nat} {v:Value} (h:Conc σ ι H (.loc x off) v):∃b,ι x = .box b/\v = .pointer (some ⟨b,off,none⟩):=by
 cases h with
 | cc h=>cases h
 | loc _ _ b hb=>exact ⟨b,hb,rfl⟩
theorem Conc.one_of {x:AV} {v:Value} (hx:x.one=true) (h:Conc σ ι H x v):Du v=true:=by
 cases h with
 | cc h=>cases h with
  | val v=>exact hx
  | nil=>rfl
  | sl=>rfl
  | fbn=>rfl
  | fb=>rfl
  | agg=>cases hx
 | loc=>rfl
 | mp=>rfl
 | arr _ _ _ _ _ _ _ h=>exact h
 | el _ _ _ _ _ _ _ h=>exact h
 | ref=>rfl
 | agg=>cases hx
 | tup=>cases hx
 | fn=>rfl
theorem Am9 {α:Type} {x y:α} {i:Nat} (h:[x][i]? = some y):i=0/\y=x:=by
 cases i with
 | zero=>simp at h; exact ⟨rfl,h.symm⟩
 | succ n=>simp at h
theorem Conc.cells {x:AV} {v:Value} (h:Conc σ ι H x v) :
  v.cells.size=x.cells.length/\∀(i:Nat) (c:AV) (u:Value),x.cells[i]? = some c->v.cells[i]? = some u->Conc σ ι H c u:=by
 have single:∀(x:AV) (v:Value),Conc σ ι H x v->x.cells = [x]->v.cells = #[v] ->
   v.cells.size=x.cells.length/\∀(i:Nat) (c:AV) (u:Value),x.cells[i]? = some c->v.cells[i]? = some u->Conc σ ι H c u:=by
  intro x v h J I
  rw [J,I]
  refine ⟨rfl,fun i c u h1 h2=>?_⟩
  obtain ⟨rfl,rfl⟩:=Am9 h1
  simp at h2; subst h2; exact h
 cases h with
 | cc hc=>
  cases hc with
  | val v=>
   cases v with
   | agg vs=>
    refine ⟨by simp [Value.cells,AV.cells],fun i c u h1 h2=>?_⟩
    simp only [AV.cells,Value.cells,List.getElem?_map] at h1 h2
    rw [Array.getElem?_toList,h2] at h1
    simp at h1; subst h1
    exact .of_val u
   | _=>exact single _ _ (.of_val _) rfl rfl
  | nil sz a cap=>exact single _ _ (.cc (.nil sz a cap)) rfl rfl
  | sl xs b off cap sz C E fr g z hs hc h1 A q y=>exact single _ _ (.cc (.sl xs b off cap sz C E fr g z hs hc h1 A q y)) rfl rfl
  | agg cs vs q h=>exact ⟨q,fun i c u h1 h2=>.cc (h i c u h1 h2)⟩
  | fbn s a cap h0=>exact single _ _ (.cc (.fbn s a cap h0)) rfl rfl
  | fb s b cap C z h0 y A q hb=>exact single _ _ (.cc (.fb s b cap C z h0 y A q hb)) rfl rfl
 | loc x off b hb=>exact single _ _ (.loc x off b hb) rfl rfl
 | mp x b hb=>exact single _ _ (.mp x b hb) rfl rfl
 | arr x k off len v G D l=>exact single _ _ (.arr x k off len v G D l) rfl (by cases v <;> first | rfl | cases l)
 | el x k i j v G D l=>exact single _ _ (.el x k i j v G D l) rfl (by cases v <;> first | rfl | cases l)
 | ref cs b off C E fr g z hc h1 A=>exact single _ _ (.ref cs b off C E fr g z hc h1 A) rfl rfl
 | agg cs vs q h=>exact ⟨q,h⟩
 | tup cs vs q h=>exact single _ _ (.tup cs vs q h) rfl rfl
 | fn f B vs q h=>exact single _ _ (.fn f B vs q h) rfl rfl
theorem Conc.cc_of {x:AV} {v:Value} (hx:x.cl1=true) (h:Conc σ ι H x v):CC σ x v/\Du v=true:=by
 cases h with
 | cc h=>cases h with
  | val v=>exact ⟨.val v,hx⟩
  | nil sz a cap=>exact ⟨.nil sz a cap,rfl⟩
  | sl xs b off cap sz C E fr g f hs hc h1 j i c=>exact ⟨.sl xs b off cap sz C E fr g f hs hc h1 j i c,rfl⟩
  | agg=>cases hx
  | fbn=>cases hx
  | fb=>cases hx
 | _=>cases hx
end conc
end Go.Ab
namespace Go.Ab
def Bo (P:Program) (o:Oper) (ρ:Operand->AV) (b:Eff):Prop :=
 ∀(σ:Aw) (ι:Bi) (H:Hp) (F:Aw) (W w:World) (a:Act) (next:Act->World->Prop) (Q:Exit->Act->World->Prop),
  St σ ι H F W w->(∀x∈o.op.operands.toList,Conc σ ι H (ρ x) (a.eval x))->(∀p∈b.rd,H p.1=p.2) ->
  (∀c f v w',Le σ ι H c f (B6 H b.wr)->St c f (B6 H b.wr) F W w'->Conc c f (B6 H b.wr) b.r v->next (a.put o.dst v) w')->o.wp P a w next Q
section
variable {P:Program} {o:Oper} {ρ:Operand->AV} {a:Act} {w w':World} {next:Act->World->Prop} {Q:Exit->Act->World->Prop}
theorem D1 {v:Value} (h:(execOp a.eval o).run P w = .ok (.value v) w') (b:next (a.put o.dst v) w'):o.wp P a w next Q:=by
 unfold Oper.wp; rw [h]; exact b
theorem U6 (h:(execOp a.eval o).run P w = .ok .skip w') (b:next (a.put o.dst undef) w'):o.wp P a w next Q:=by
 unfold Oper.wp; rw [h]; exact b
theorem Dn {r:AV} (h:∀σ ι H a w,(∀x∈o.op.operands.toList,Conc σ ι H (ρ x) (Act.eval a x))->∃v,(execOp a.eval o).run P w = .ok (.value v) w/\Conc σ ι H r v) :
  Bo P o ρ ⟨r,[],[]⟩:=by
 intro σ ι H F W w a next Q s hx _ hk
 obtain ⟨v,b,hc⟩:=h σ ι H a w hx
 exact D1 b (hk σ ι v w (Le.refl _ _ _) s hc)
theorem Ana {x:Operand} (b:o.op = .move x):Bo P o ρ ⟨ρ x,[],[]⟩ :=
 Dn fun σ ι H a w hx=>⟨a.eval x,by simp [execOp,b],hx x (by simp [b,Op.operands])⟩
theorem R3 {x:Operand} (b:o.op = .assign x):Bo P o ρ ⟨ρ x,[],[]⟩ :=
 Dn fun σ ι H a w hx=>⟨a.eval x,by simp [execOp,b],hx x (by simp [b,Op.operands])⟩
theorem Anb {c x y:Operand} {t:Bool} (b:o.op = .pick c x y) (hc:ρ c = .val (.bool t)):Bo P o ρ ⟨bif t then ρ x else ρ y,[],[]⟩ :=
 Dn fun σ ι H a w hx=>by
  have h1:=hx c (by simp [b,Op.operands])
  rw [hc] at h1
  have h1:=h1.val_inv
  cases t with
  | true=>exact ⟨a.eval x,by simp [execOp,b,h1,asBool],hx x (by simp [b,Op.operands])⟩
  | false=>exact ⟨a.eval y,by simp [execOp,b,h1,asBool],hx y (by simp [b,Op.operands])⟩
theorem Dc {t:TypeId} {i:TI} (h:F7 P t=some i) :
    ∃b u z,P.info? t=some b/\P.underlying t=some u/\b.zero=some z/\b.size=i.size/\b.bytes=i.bytes/\i.zero=z.cells.toList /\
      (match i.d with
       | .int k=>u = .int k
       | .bool=>u = .bool
       | .string=>u = .string
       | .slice e=>u = .slice e
       | .map k e=>u = .map k e
       | .float k=>u = .float k
       | .struct fs=>∃fields,u = .struct fields/\fs=fields.toList.map (fun f=>(f.offset,P.cellsOf f.type))/\∀f∈fields.toList,0<P.cellsOf f.type
       | .other=>(∀fs,u≠.struct fs)/\(∀n e,u≠.array n e)):=by
  unfold F7 at h
  split at h
  . rename_i b u hi hu
    split at h
    . cases h
    . rename_i z j
      refine ⟨b,u,z,hi,hu,j,?_⟩
      cases g:zok u z with
      | false=>rw [g] at h; cases h
      | true=>
      rw [g] at h
      simp only [Bool.not_true,cond_false] at h
      split at h
      all_goals first
        | (cases h; done)
        | (cases h; refine ⟨rfl,rfl,rfl,?_⟩; first | rfl | exact ⟨(by intro fs e; simp_all),(by intro n e' e; simp_all)⟩)
        | skip
      . split at h
        . rename_i c
          cases h
          refine ⟨rfl,rfl,rfl,_,rfl,rfl,?_⟩
          intro f l
          simp only [List.all_eq_true,decide_eq_true_eq] at c
          exact c f l
        . cases h
  . cases h
theorem Aew {t:TypeId} {i:TI} (h:F7 P t=some i) (w:World) :
    ∃z,(zeroValue t).run P w = .ok z w/\z.cells.toList=i.zero/\(i.isAgg=true->∃vs,z = .agg vs)/\(i.isAgg=false->Du z=true):=by
  obtain ⟨j,u,z,h1,h2,h3,h4,s,l,c⟩:=Dc h
  refine ⟨z,by simp [zeroValue,typeInfo,program,Sem.run,h1,h3],l.symm,?_⟩
  have b:zok u z=true:=by
    unfold F7 at h
    rw [h1,h2] at h
    simp only [h3] at h
    cases g:zok u z with
    | false=>rw [g] at h; cases h
    | true=>rfl
  unfold TI.isAgg
  cases hd:i.d <;> rw [hd] at c <;> simp only [] at c ⊢
  all_goals first
    | (subst c; exact ⟨(fun h=>by cases h),fun _=>b⟩)
    | (obtain ⟨f,rfl,_⟩:=c
       refine ⟨fun _=>?_,fun h=>by cases h⟩
       unfold zok at b
       cases z <;> first | exact ⟨_,rfl⟩ | cases b)
    | (obtain ⟨k,q⟩:=c
       refine ⟨(fun h=>by cases h),fun _=>?_⟩
       unfold zok at b
       cases u <;> first | exact b | exact (k _ rfl).elim)
theorem U7 {t:TypeId} {i:TI} (h:F7 P t=some i) (w:World):(isAgg t).run P w = .ok i.isAgg w:=by
 obtain ⟨c,u,z,h1,h2,h3,h4,l,k,b⟩:=Dc h
 unfold isAgg TI.isAgg
 rw [Sem.run_bind,run_underlying h2]
 cases hd:i.d <;> rw [hd] at b <;> simp only [Result.andThen_ok]
 all_goals first
  | (subst b; rfl)
  | (obtain ⟨f,rfl,_⟩:=b; rfl)
  | (obtain ⟨j,g⟩:=b; cases u <;> first | rfl | exact (j _ rfl).elim | exact (g _ _ rfl).elim)
theorem Jt {t:TypeId} {i:TI} (h:F7 P t=some i) (w:World):(sizeOf t).run P w = .ok i.size w:=by
 obtain ⟨b,u,z,h1,h2,h3,h4,g,f,c⟩:=Dc h
 simp [sizeOf,typeInfo,program,Sem.run,h1,h4]
theorem Aex {t:TypeId} {i:TI} (h:F7 P t=some i) (w:World):∃z:Value,z.cells.toList=i.zero/\(zeroValue t).run P w = .ok z w:=by
 obtain ⟨b,u,z,h1,h2,h3,h4,g,c,f⟩:=Dc h
 exact ⟨z,c.symm,by simp [zeroValue,typeInfo,program,Sem.run,h1,h3]⟩
theorem Anc {T:Cg} (q:Ch P T) {t:TypeId} {i:TI} (h:Nat) (k:o.op = .alloc t) (ht:T t=some i) :
  Bo P o ρ ⟨.loc h 0,[(h,.none)],[(h,.cells t (i.zero.map .val))]⟩:=by
 intro σ ι H F W w a next Q s hx b hk
 have l:H h = .none:=b (h,.none) (by simp)
 obtain ⟨z,f,g⟩:=Aex (q t i ht) w
 obtain ⟨s',le⟩:=s.newBox h l t (i.zero.map .val) z.cells (by simp [<-f]) (by
  intro j c v h1 h2
  rw [<-f,List.getElem?_map,Array.getElem?_toList,h2] at h1
  simp at h1; subst h1; exact .of_val v)
 refine D1 (v:=.pointer (some ⟨w.heap.size,0,none⟩)) (w':=w.alloc (.cells z.cells t)) ?_ (hk σ _ _ _ le s' (.loc h 0 w.heap.size (B5 _ _ _)))
 simp [execOp,k,Instr.alloc,g,newVar,newRow,newObj,Sem.run]
theorem Ane {t:TypeId} {x:Operand} (h:Nat) (c:o.op = .box t x) :
  Bo P o ρ ⟨.loc h 0,[(h,.none)],[(h,.cells t (ρ x).cells)]⟩:=by
 intro σ ι H F W w a next Q s hx b hk
 have f:H h = .none:=b (h,.none) (by simp)
 have hc:=(hx x (by simp [c,Op.operands])).cells
 obtain ⟨s',le⟩:=s.newBox h f t (ρ x).cells (a.eval x).cells hc.1 hc.2
 refine D1 (v:=.pointer (some ⟨w.heap.size,0,none⟩)) (w':=w.alloc (.cells (a.eval x).cells t)) ?_ (hk σ _ _ _ le s' (.loc h 0 w.heap.size (B5 _ _ _)))
 simp [execOp,c,Instr.box,newVar,newRow,newObj,Sem.run]
theorem Hi {b off:Nat} {C:Array Value} {E:TypeId} {c:Nat×Nat} (h:w.heap[b]? = some (.cells C E c)):w.cell? ⟨b,off,none⟩=C[off]?:=by
 simp [World.cell?,h]
theorem Hu (b off n:Nat):(⟨b,off,none⟩:Addr).add n=⟨b,off+n,none⟩:=by
 unfold Addr.add; split <;> simp_all
theorem Zd {t:TypeId} {x:Operand} {i:TI} (f:o.op = .load t x) (hi:F7 P t=some i) (b:i.isAgg=false) {p:Addr} (hp:a.eval x = .pointer (some p)) {v:Value} (c:w.cell? p=some v) :
  (execOp a.eval o).run P w = .ok (.value v) w:=by
 have h1:=U7 hi w
 rw [b] at h1
 simp [execOp,f,Instr.loadAt,hp,Instr.sureAddr,loadVar,h1,c]
theorem Ze {t:TypeId} {x:Operand} {i:TI} (f:o.op = .load t x) (hi:F7 P t=some i) (b:i.isAgg=true) {p:Addr} (hp:a.eval x = .pointer (some p)) (cs:List Value)
  (g:cs.length=i.size) (c:∀(j:Nat) (v:Value),cs[j]? = some v->w.cell? (p.add j)=some v) :
  (execOp a.eval o).run P w = .ok (.value (.agg cs.toArray)) w:=by
 have h1:=U7 hi w
 rw [b] at h1
 have h2:=Jt hi w
 have h3:=run_loadCells_list (P:=P) w p cs c
 rw [g] at h3
 simp [execOp,f,Instr.loadAt,hp,Instr.sureAddr,loadVar,h1,h2,h3]
theorem Conc.ref_inv {σ:Aw} {ι:Bi} {H:Hp} {cs:List AV} {v:Value} (h:Conc σ ι H (.ref cs) v):∃(b off:Nat) (C:Array Value) (E:TypeId) (f:Nat×Nat) (g:Nat->Value),
  v = .pointer (some ⟨b,off,none⟩)/\σ b=some (.cells C E f)/\(∀(j:Nat) (c:AV),cs[j]? = some c->CC σ c (g j)/\Du (g j)=true)/\(∀(j:Nat),j<cs.length->C[off+j]? = some (g j)):=by
 cases h with
 | cc h=>cases h
 | ref cs b off C E f g i hc h1 k=>exact ⟨b,off,C,E,f,g,rfl,i,fun j c h=>⟨hc j c h,h1 j c h⟩,k⟩
theorem Anf {T:Cg} (y:Ch P T) {t:TypeId} {x:Operand} {i:TI} {c:AV} {cs:List AV} (l:o.op = .load t x) (ht:T t=some i) (k:i.isAgg=false) (hx:ρ x = .ref (c::cs)) :
  Bo P o ρ ⟨c,[],[]⟩:=by
 intro σ ι H F W w a next Q s j _ hk
 have h:=j x (by simp [l,Op.operands])
 rw [hx] at h
 obtain ⟨b,off,C,E,fr,g,u,q,hc,z⟩:=h.ref_inv
 have f:w.cell? ⟨b,off,none⟩=some (g 0):=by
  rw [Hi (s.sto _ _ q)]; exact z 0 (by simp)
 exact D1 (Zd l (y t i ht) k u f) (hk σ ι _ w (Le.refl _ _ _) s (.cc (hc 0 c (by simp)).1))
theorem Ang {T:Cg} (A:Ch P T) {t:TypeId} {x:Operand} {i:TI} {cs:List AV} (q:o.op = .load t x) (ht:T t=some i) (l:i.isAgg=true) (hx:ρ x = .ref cs) (D:i.size<=cs.length) :
  Bo P o ρ ⟨.agg (cs.take i.size),[],[]⟩:=by
 intro σ ι H F W w a next Q s k _ hk
 have h:=k x (by simp [q,Op.operands])
 rw [hx] at h
 obtain ⟨b,off,C,E,fr,g,z,y,hc,B⟩:=h.ref_inv
 refine D1 (Ze q (A t i ht) l z ((List.range i.size).map g) (by simp) ?_) (hk σ ι _ w (Le.refl _ _ _) s ?_)
 .intro j v hj
  rw [List.getElem?_map] at hj
  by_cases f:j<i.size
  .rw [List.getElem?_range f] at hj
   simp at hj; subst hj
   rw [Hu,Hi (s.sto _ _ y)]; exact B j (by omega)
  .rw [List.getElem?_eq_none (by simp; omega)] at hj; cases hj
 .refine .agg _ _ (by simp; omega) (fun j c u h1 h2=>?_)
  have f:j<i.size:=by
   have:=(List.getElem?_eq_some_iff.1 h1).1; simp at this; omega
  rw [List.getElem?_take_of_lt f] at h1
  simp [f] at h2
  subst h2
  exact .cc (hc j c h1).1
theorem Anh {T:Cg} (B:Ch P T) {t:TypeId} {x:Operand} {i:TI} {h off:Nat} {E:TypeId} {cs:List AV} {c:AV} (u:o.op = .load t x) (ht:T t=some i) (q:i.isAgg=false)
  (hx:ρ x = .loc h off) (hc:cs[off]? = some c):Bo P o ρ ⟨c,[(h,.cells E cs)],[]⟩:=by
 intro σ ι H F W w a next Q s l k hk
 have A:H h = .cells E cs:=k (h,.cells E cs) (by simp)
 have hp:=l x (by simp [u,Op.operands])
 rw [hx] at hp
 obtain ⟨b,hb,z⟩:=hp.loc_inv
 have f:=s.obj h
 unfold Ca at f; rw [A] at f
 obtain ⟨G,C,y,_,_,h3,h4,D⟩:=f
 rw [hb] at y; cases y
 have j:off<C.size:=by rw [h4]; exact (List.getElem?_eq_some_iff.1 hc).1
 have g:w.cell? ⟨b,off,none⟩=some C[off]:=by rw [Hi h3]; simp [j]
 exact D1 (Zd u (B t i ht) q z g) (hk σ ι _ w (Le.refl _ _ _) s (D off c _ hc (by simp [j])))
theorem Ani {T:Cg} (D:Ch P T) {t:TypeId} {x:Operand} {i:TI} {h off:Nat} {E:TypeId} {cs:List AV} (y:o.op = .load t x) (ht:T t=some i) (q:i.isAgg=true)
  (hx:ρ x = .loc h off) (I:off+i.size<=cs.length):Bo P o ρ ⟨.agg ((cs.drop off).take i.size),[(h,.cells E cs)],[]⟩:=by
 intro σ ι H F W w a next Q s l k hk
 have B:H h = .cells E cs:=k (h,.cells E cs) (by simp)
 have hp:=l x (by simp [y,Op.operands])
 rw [hx] at hp
 obtain ⟨b,hb,A⟩:=hp.loc_inv
 have g:=s.obj h
 unfold Ca at g; rw [B] at g
 obtain ⟨J,C,z,_,_,h3,h4,G⟩:=g
 rw [hb] at z; cases z
 refine D1 (Ze y (D t i ht) q A ((C.toList.drop off).take i.size) (by simp; omega) ?_) (hk σ ι _ w (Le.refl _ _ _) s ?_)
 .intro j v hj
  have f:j<i.size:=by
   have:=(List.getElem?_eq_some_iff.1 hj).1; simp at this; omega
  rw [List.getElem?_take_of_lt f,List.getElem?_drop,Array.getElem?_toList] at hj
  rw [Hu,Hi h3]; exact hj
 .refine .agg _ _ (by simp; omega) (fun j c u h1 h2=>?_)
  have f:j<i.size:=by
   have:=(List.getElem?_eq_some_iff.1 h1).1; simp at this; omega
  rw [List.getElem?_take_of_lt f,List.getElem?_drop] at h1
  rw [List.getElem?_toArray,List.getElem?_take_of_lt f,List.getElem?_drop,Array.getElem?_toList] at h2
  exact G _ c u h1 h2
end
end Go.Ab
namespace Go.Ab
section
variable {P:Program} {o:Oper} {ρ:Operand->AV} {a:Act} {w w':World} {next:Act->World->Prop} {Q:Exit->Act->World->Prop}
theorem Conc.el_inv {σ:Aw} {ι:Bi} {H:Hp} {h k i j:Nat} {v:Value} {E:TypeId} {sz:Nat} {xs:List AV} (l:H h = .rows E sz xs) (hk:xs.length=k) (hc:Conc σ ι H (.el h k i j) v) :
  ∃b c,ι h = .blk b c/\v = .pointer (some ⟨b,i*sz+j,none⟩):=by
 cases hc with
 | cc h=>cases h
 | el _ _ _ _ _ q g f=>
  have:=(g E sz xs l).2 hk
  unfold Aev at this
  split at this
  .rename_i b c e; exact ⟨b,c,e,this⟩
  .exact this.elim
theorem Conc.arr_inv {σ:Aw} {ι:Bi} {H:Hp} {h k off len:Nat} {v:Value} {E:TypeId} {sz:Nat} {xs:List AV} (f:H h = .rows E sz xs) (hk:xs.length=k) (hc:Conc σ ι H (.arr h k off len) v) :
  E5 (ι h) sz off len v:=by
 cases hc with
 | cc h=>cases h
 | arr _ _ _ _ _ g c b=>exact (c E sz xs f).2 hk
theorem St.rowsAt {σ:Aw} {ι:Bi} {H:Hp} {F:Aw} {W w:World} (s:St σ ι H F W w) {h:Nat} {E:TypeId} {sz:Nat} {xs:List AV} (j:H h = .rows E sz xs) {b c:Nat} (hb:ι h = .blk b c) :
  ∃C,w.heap[b]? = some (.cells C E (0,0))/\C.size=c*sz/\xs.length<=c/\F6 σ sz xs C:=by
 have g:=s.obj h
 unfold Ca at g
 rw [j] at g
 obtain ⟨_,_,⟨f,_⟩ | ⟨q,i,C,f,h1,h2,h3,h4,l,k⟩⟩:=g
 .rw [hb] at f; cases f
 .rw [hb] at f; cases f
  exact ⟨C,h3,h4,l,k⟩
theorem Anj {T:Cg} (N:Ch P T) {t:TypeId} {x:Operand} {i:TI} {h k n j:Nat} {E:TypeId} {sz:Nat} {xs:List AV} {y c:AV} (A:o.op = .load t x) (ht:T t=some i) (z:i.isAgg=false)
  (hx:ρ x = .el h k n j) (u:xs.length=k) (hy:xs[n]? = some y) (hc:y.cells[j]? = some c):Bo P o ρ ⟨c,[(h,.rows E sz xs)],[]⟩:=by
 intro σ ι H F W w a next Q s q l hk
 have B:H h = .rows E sz xs:=l (h,.rows E sz xs) (by simp)
 have hp:=q x (by simp [A,Op.operands])
 rw [hx] at hp
 obtain ⟨b,D,hb,L⟩:=hp.el_inv B u
 obtain ⟨C,h3,h4,R,g,J,I,G⟩:=s.rowsAt B hb
 have M:=(List.getElem?_eq_some_iff.1 hy).1
 have hj:=(List.getElem?_eq_some_iff.1 hc).1
 rw [J n y hy] at hj
 have f:w.cell? ⟨b,n*sz+j,none⟩=some (g n j):=by rw [Hi h3]; exact G n j M hj
 exact D1 (Zd A (N t i ht) z L f) (hk σ ι _ w (Le.refl _ _ _) s (.cc (I n y j c hy hc).1))
theorem Ank {T:Cg} (U:Ch P T) {t:TypeId} {x:Operand} {i:TI} {h k n j:Nat} {E:TypeId} {sz:Nat} {xs:List AV} {y:AV} (D:o.op = .load t x) (ht:T t=some i) (B:i.isAgg=true)
  (hx:ρ x = .el h k n j) (A:xs.length=k) (hy:xs[n]? = some y) (V:j+i.size<=y.cells.length):Bo P o ρ ⟨.agg ((y.cells.drop j).take i.size),[(h,.rows E sz xs)],[]⟩:=by
 intro σ ι H F W w a next Q s z l hk
 have G:H h = .rows E sz xs:=l (h,.rows E sz xs) (by simp)
 have hp:=z x (by simp [D,Op.operands])
 rw [hx] at hp
 obtain ⟨b,I,hb,N⟩:=hp.el_inv G A
 obtain ⟨C,h3,h4,X,g,M,L,J⟩:=s.rowsAt G hb
 have S:=(List.getElem?_eq_some_iff.1 hy).1
 have R:=M n y hy
 refine D1 (Ze D (U t i ht) B N ((List.range i.size).map fun q=>g n (j+q)) (by simp) ?_) (hk σ ι _ w (Le.refl _ _ _) s ?_)
 .intro q v hq
  rw [List.getElem?_map] at hq
  by_cases f:q<i.size
  .rw [List.getElem?_range f] at hq
   simp at hq; subst hq
   rw [Hu,Hi h3,Nat.add_assoc]; exact J n (j+q) S (by omega)
  .rw [List.getElem?_eq_none (by simp; omega)] at hq; cases hq
 .refine .agg _ _ (by simp; omega) (fun q c u h1 h2=>?_)
  have f:q<i.size:=by
   have:=(List.getElem?_eq_some_iff.1 h1).1; simp at this; omega
  rw [List.getElem?_take_of_lt f,List.getElem?_drop] at h1
  simp [f] at h2
  subst h2
  exact .cc (L n y (j+q) c hy h1).1
theorem Zf (v:Value):v.oneCell'=Du v:=by cases v <;> rfl
theorem Aey {t:TypeId} {i:TI} (hi:F7 P t=some i) {b off:Nat} {v:Value} {C:Array Value} {E:TypeId} (hb:w.heap[b]? = some (.cells C E (0,0))) (hs:v.cells.size=i.size)
  (c:off+v.cells.size<=C.size) (h1:∀u∈v.cells.toList,Du u=true) :
  (Instr.storeAt t (.pointer (some ⟨b,off,none⟩)) v).run P w = .ok () (w.setRow b (C.toList.take off++v.cells.toList++C.toList.drop (off+v.cells.toList.length)).toArray):=by
 have h2:=Jt hi w
 have h3:=run_storeCells_at (P:=P) b off E v.cells.toList 0 C w hb (by simpa using c) (fun u hu=>by rw [Zf]; exact h1 u hu)
 simp only [Nat.add_zero] at h3
 simp [Instr.storeAt,Instr.sureAddr,storeVar,h2,hs,h3]
theorem Zg (cs:List AV) (off:Nat) (new:List AV) (b:off+new.length<=cs.length) (i:Nat) :
  (Js cs off new)[i]? = if i<off then cs[i]? else if i<off+new.length then new[i-off]? else cs[i]?:=by
 unfold Js
 by_cases h1:i<off
 .rw [if_pos h1,List.getElem?_append_left (by simp; omega),List.getElem?_take_of_lt h1]
 .rw [if_neg h1,List.getElem?_append_right (by simp; omega)]
  have:(cs.take off).length=off:=by simp; omega
  rw [this]
  by_cases h2:i<off+new.length
  .rw [if_pos h2,List.getElem?_append_left (by omega)]
  .rw [if_neg h2,List.getElem?_append_right (by omega),List.getElem?_drop]
   congr 1; omega
theorem Zh (cs:List AV) (off:Nat) (new:List AV) (b:off+new.length<=cs.length):(Js cs off new).length=cs.length:=by
 unfold Js; simp; omega
theorem Pu (C:Array Value) (off:Nat) (new:List Value) (c:off+new.length<=C.size) (i:Nat) :
  ((C.toList.take off++new++C.toList.drop (off+new.length)).toArray)[i]? = if i<off then C[i]? else if i<off+new.length then new[i-off]? else C[i]?:=by
 rw [List.getElem?_toArray,List.append_assoc]
 have b:off+new.length<=C.toList.length:=by simpa using c
 by_cases h1:i<off
 .rw [if_pos h1,List.getElem?_append_left (by simp at b ⊢; omega),List.getElem?_take_of_lt h1,Array.getElem?_toList]
 .rw [if_neg h1,List.getElem?_append_right (by simp at b ⊢; omega)]
  have:(C.toList.take off).length=off:=by simp at b ⊢; omega
  rw [this]
  by_cases h2:i<off+new.length
  .rw [if_pos h2,List.getElem?_append_left (by omega)]
  .rw [if_neg h2,List.getElem?_append_right (by omega),List.getElem?_drop,Array.getElem?_toList]
   congr 1; omega
theorem Anl {σ:Aw} {ι:Bi} {H:Hp} {x:AV} {v:Value} (hc:Conc σ ι H x v) (h1:x.cells.all AV.one=true):∀u∈v.cells.toList,Du u=true:=by
 intro u hu
 obtain ⟨n,c⟩:=List.getElem?_of_mem hu
 have f:=hc.cells
 rw [Array.getElem?_toList] at c
 have b:n<x.cells.length:=by rw [<-f.1]; exact (Array.getElem?_eq_some_iff.1 c).1
 have:=f.2 n x.cells[n] u (List.getElem?_eq_getElem b) c
 exact this.one_of (List.all_eq_true.1 h1 _ (List.getElem_mem b))
theorem Anm {T:Cg} (I:Ch P T) {t:TypeId} {x y:Operand} {i:TI} {h off:Nat} {E:TypeId} {cs:List AV} (z:o.op = .store t x y) (ht:T t=some i)
  (hx:ρ x = .loc h off) (hs:(ρ y).cells.length=i.size) (J:off+i.size<=cs.length) (h1:(ρ y).cells.all AV.one=true) :
  Bo P o ρ ⟨.val undef,[(h,.cells E cs)],[(h,.cells E (Js cs off (ρ y).cells))]⟩:=by
 intro σ ι H F W w a next Q s q u hk
 have A:H h = .cells E cs:=u (h,.cells E cs) (by simp)
 have hp:=q x (by simp [z,Op.operands])
 have hy:=q y (by simp [z,Op.operands])
 rw [hx] at hp
 obtain ⟨b,hb,G⟩:=hp.loc_inv
 have g:=s.obj h
 unfold Ca at g; rw [A] at g
 obtain ⟨L,C,D,_,_,h3,h4,B⟩:=g
 rw [hb] at D; cases D
 have k:=hy.cells
 have l:=Aey (P:=P) (w:=w) (I t i ht) (off:=off) (v:=a.eval y) h3 (by omega) (by omega) (Anl hy h1)
 obtain ⟨s',le⟩:=s.setBox h E cs (Js cs off (ρ y).cells) A b hb
  (C.toList.take off++(a.eval y).cells.toList++C.toList.drop (off+(a.eval y).cells.toList.length)).toArray
  (by rw [Zh _ _ _ (by omega)]; simp; omega) (by
   intro j c v hj f
   rw [Zg _ _ _ (by omega)] at hj
   rw [Pu _ _ _ (by simp; omega)] at f
   simp only [Array.length_toList,k.1] at f
   by_cases g1:j<off
   .rw [if_pos g1] at hj f; exact B j c v hj f
   .rw [if_neg g1] at hj f
    by_cases g2:j<off+(ρ y).cells.length
    .rw [if_pos g2] at hj f
     rw [Array.getElem?_toList] at f
     exact k.2 _ c v hj f
    .rw [if_neg g2] at hj f; exact B j c v hj f)
 refine U6 (w':=_) ?_ (hk σ ι undef _ le s' (.of_val _))
 simp [execOp,z,G,l]
def R4 (x:AV) (j:Nat) (new:List AV):AV :=
 match x with
 | .agg cs=>.agg (Js cs j new)
 | _=>new.headD x
theorem Ano {x:AV} {j:Nat} {new:List AV} (f:j+new.length<=x.cells.length) (i:new≠[]) (h1:∀c∈new,c.cl1=true) (g:∀vs,x≠.val (.agg vs)) :
  (R4 x j new).cells=Js x.cells j new:=by
 unfold R4
 split
 .rfl
 .rename_i hx
  have b:x.cells = [x]:=by
   cases x with
   | val v=>cases v <;> first | rfl | exact (g _ rfl).elim
   | agg cs=>exact (hx cs rfl).elim
   | _=>rfl
  rw [b] at f ⊢
  cases new with
  | nil=>exact (i rfl).elim
  | cons c rest=>
   simp at f
   have hj:j=0:=by omega
   have h:rest = []:=List.eq_nil_of_length_eq_zero (by omega)
   subst hj h
   have hc:=h1 c (by simp)
   cases c with
   | val v=>cases v <;> first | rfl | cases hc
   | sl _ _=>rfl
   | _=>cases hc
theorem Anp {T:Cg} (hT:Ch P T) {t:TypeId} {x y:Operand} {i:TI} {h k n j:Nat} {E:TypeId} {sz:Nat} {xs:List AV} {z:AV} (ho:o.op = .store t x y) (ht:T t=some i)
  (hx:ρ x = .el h k n j) (aa:xs.length=k) (X:xs[n]? = some z) (hs:(ρ y).cells.length=i.size) (ad:0<i.size) (hl:j+i.size<=z.cells.length) (h1:(ρ y).cells.all AV.cl1=true)
  (a1:∀vs,z≠.val (.agg vs)) :
  Bo P o ρ ⟨.val undef,[(h,.rows E sz xs)],[(h,.rows E sz (xs.set n (R4 z j (ρ y).cells)))]⟩:=by
 intro σ ι H F W w a next Q s R a7 hk
 have hh:H h = .rows E sz xs:=a7 (h,.rows E sz xs) (by simp)
 have hp:=R x (by simp [ho,Op.operands])
 have hy:=R y (by simp [ho,Op.operands])
 rw [hx] at hp
 obtain ⟨b,L,hb,hv⟩:=hp.el_inv hh aa
 obtain ⟨C,h3,h4,h5,g,r1,Z,V⟩:=s.rowsAt hh hb
 have hn:=(List.getElem?_eq_some_iff.1 X).1
 have a6:=r1 n z X
 have J:=hy.cells
 have a8:(ρ y).cells≠[]:=by intro e; rw [e] at hs; simp at hs; omega
 have N:=Ano (x:=z) (j:=j) (new:=(ρ y).cells) (by omega) a8 (fun c hc=>List.all_eq_true.1 h1 c hc) a1
 have ab:∀u∈(a.eval y).cells.toList,Du u=true:=by
  intro u hu
  obtain ⟨q,hq⟩:=List.getElem?_of_mem hu
  rw [Array.getElem?_toList] at hq
  have A:q<(ρ y).cells.length:=by rw [<-J.1]; exact (Array.getElem?_eq_some_iff.1 hq).1
  exact ((J.2 q _ u (List.getElem?_eq_getElem A) hq).cc_of (List.all_eq_true.1 h1 _ (List.getElem_mem A))).2
 have ac:n*sz+sz<=C.size:=by
  rw [h4]
  have:(n+1)*sz<=L*sz:=Nat.mul_le_mul_right sz (by omega)
  rw [Nat.add_mul] at this; omega
 have M:=Aey (P:=P) (w:=w) (hT t i ht) (off:=n*sz+j) (v:=a.eval y) h3 (by omega) (by omega) ab
 let I:Nat->Nat->Value:=fun n' f=>if n'=n/\j<=f/\f<j+(ρ y).cells.length then ((a.eval y).cells[f-j]?).getD undef else g n' f
 obtain ⟨s',le⟩:=s.setRows h E sz xs (xs.set n (R4 z j (ρ y).cells)) hh b L hb (by simp)
  (C.toList.take (n*sz+j)++(a.eval y).cells.toList++C.toList.drop (n*sz+j+(a.eval y).cells.toList.length)).toArray
  (by simp; omega) (by
   refine ⟨I,?_,?_,?_⟩
   .intro l Y D
    by_cases e:l=n
    .subst e
     rw [List.getElem?_set_self hn] at D
     cases D
     rw [N,Zh _ _ _ (by omega)]; exact a6
    .rw [List.getElem?_set_ne (by omega)] at D; exact r1 l Y D
   .intro l Y f U D B
    by_cases e:l=n
    .subst e
     rw [List.getElem?_set_self hn] at D
     cases D
     rw [N,Zg _ _ _ (by omega)] at B
     show CC σ U (I l f)/\Du (I l f)=true
     by_cases g1:f<j
     .rw [if_pos g1] at B
      have:I l f=g l f:=if_neg (by omega)
      rw [this]; exact Z l z f U X B
     .rw [if_neg g1] at B
      by_cases g2:f<j+(ρ y).cells.length
      .rw [if_pos g2] at B
       have A:f-j<(a.eval y).cells.size:=by omega
       have:I l f=(a.eval y).cells[f-j]:=by
        show (if _ then _ else _)=_
        rw [if_pos ⟨rfl,by omega,g2⟩]; simp [A]
       rw [this]
       exact (J.2 (f-j) U _ B (by simp [A])).cc_of (List.all_eq_true.1 h1 _ (List.mem_of_getElem? B))
      .rw [if_neg g2] at B
       have:I l f=g l f:=if_neg (by omega)
       rw [this]; exact Z l z f U X B
    .rw [List.getElem?_set_ne (by omega)] at D
     have:I l f=g l f:=if_neg (by omega)
     rw [this]; exact Z l Y f U D B
   .intro l f G hj'
    simp at G
    rw [Pu _ _ _ (by simp; omega)]
    simp only [Array.length_toList,J.1]
    by_cases g0:l=n
    .subst g0
     by_cases g1:f<j
     .rw [if_pos (by omega)]
      have:I l f=g l f:=if_neg (by omega)
      rw [this]; exact V l f G hj'
     .rw [if_neg (by omega)]
      by_cases g2:f<j+(ρ y).cells.length
      .rw [if_pos (by omega),Array.getElem?_toList]
       have A:f-j<(a.eval y).cells.size:=by omega
       have:I l f=(a.eval y).cells[f-j]:=by
        show (if _ then _ else _)=_
        rw [if_pos ⟨rfl,by omega,g2⟩]; simp [A]
       rw [this,show l*sz+f-(l*sz+j)=f-j by omega]
       simp [A]
      .rw [if_neg (by omega)]
       have:I l f=g l f:=if_neg (by omega)
       rw [this]; exact V l f G hj'
    .have:I l f=g l f:=if_neg (by omega)
     rw [this]
     have S:l*sz+f<n*sz+j\/n*sz+j+(ρ y).cells.length<=l*sz+f:=by
      rcases Nat.lt_or_gt_of_ne g0 with A | hgt
      .left
       have:(l+1)*sz<=n*sz:=Nat.mul_le_mul_right sz (by omega)
       rw [Nat.add_mul] at this; omega
      .right
       have:(n+1)*sz<=l*sz:=Nat.mul_le_mul_right sz (by omega)
       rw [Nat.add_mul] at this; omega
     rcases S with A | hge
     .rw [if_pos A]; exact V l f G hj'
     .rw [if_neg (by omega),if_neg (by omega)]; exact V l f G hj')
 refine U6 (w':=_) ?_ (hk σ ι undef _ le s' (.of_val _))
 simp [execOp,ho,hv,M]
end
end Go.Ab
namespace Go.Ab
section
variable {P:Program} {o:Oper} {ρ:Operand->AV} {a:Act} {w w':World} {next:Act->World->Prop} {Q:Exit->Act->World->Prop}
theorem C1 {σ:Aw} {ι:Bi} {H:Hp} {x:Operand} {v:Value} (h:ρ x = .val v) (hc:Conc σ ι H (ρ x) (a.eval x)):a.eval x=v:=by
 rw [h] at hc; exact hc.val_inv
theorem Anq {x:Operand} (b:o.op = .nilCheck x) (hp:(ρ x).isPtr=true):Bo P o ρ ⟨ρ x,[],[]⟩ :=
 Dn fun σ ι H a w hx=>by
  have h:=hx x (by simp [b,Op.operands])
  refine ⟨a.eval x,?_,h⟩
  have:(∃p,a.eval x = .pointer (some p))\/∃f vs,a.eval x = .func (.func f) #[] vs:=by
   generalize ρ x=y at h hp
   generalize a.eval x=v at h
   cases h with
   | cc h=>cases h <;> cases hp
   | loc=>exact .inl ⟨_,rfl⟩
   | mp=>cases hp
   | arr=>cases hp
   | el=>cases hp
   | ref=>exact .inl ⟨_,rfl⟩
   | agg=>cases hp
   | tup=>cases hp
   | fn=>exact .inr ⟨_,_,rfl⟩
  rcases this with ⟨p,hp⟩ | ⟨f,vs,hp⟩ <;> simp [execOp,b,hp]
theorem Np {op:BinOp} {t b:TypeId} {x y:Operand} {k:IntKind} {m n:Int} (f:o.op = .binOp op t x y b) (hx:a.eval x = .int k m) (hy:a.eval y = .int k n)
  {r:Value} (c:(binOp op t (.int k m) (.int k n)).run P w = .ok r w):(execOp a.eval o).run P w = .ok (.value r) w:=by
 have he:(eqGuard op t x y (.int k m) (.int k n)).run P w = .ok () w:=by
  unfold eqGuard; cases op <;> simp
 simp only [execOp,f,hx,hy,Sem.run_bind,he,Result.andThen_ok,c,Sem.run_pure]
theorem Anr {t f:TypeId} {x y:Operand} {k:IntKind} {m n c:Int} (b:o.op = .binOp .add t x y f) (hx:ρ x = .val (.int k m)) (hy:ρ y = .val (.int k n)) (hc:k.wrap (m+n)=c) :
  Bo P o ρ ⟨.val (.int k c),[],[]⟩ :=
 Dn fun σ ι H a w h=>⟨_,Np b (C1 hx (h x (by simp [b,Op.operands]))) (C1 hy (h y (by simp [b,Op.operands]))) (by simp [binOp,Op.intArith,hc]),.of_val _⟩
theorem Ans {t f:TypeId} {x y:Operand} {k:IntKind} {m n c:Int} (b:o.op = .binOp .sub t x y f) (hx:ρ x = .val (.int k m)) (hy:ρ y = .val (.int k n)) (hc:k.wrap (m-n)=c) :
  Bo P o ρ ⟨.val (.int k c),[],[]⟩ :=
 Dn fun σ ι H a w h=>⟨_,Np b (C1 hx (h x (by simp [b,Op.operands]))) (C1 hy (h y (by simp [b,Op.operands]))) (by simp [binOp,Op.intArith,hc]),.of_val _⟩
theorem Ant {t f:TypeId} {x y:Operand} {k:IntKind} {m n c:Int} (b:o.op = .binOp .mul t x y f) (hx:ρ x = .val (.int k m)) (hy:ρ y = .val (.int k n)) (hc:k.wrap (m*n)=c) :
  Bo P o ρ ⟨.val (.int k c),[],[]⟩ :=
 Dn fun σ ι H a w h=>⟨_,Np b (C1 hx (h x (by simp [b,Op.operands]))) (C1 hy (h y (by simp [b,Op.operands]))) (by simp [binOp,Op.intArith,hc]),.of_val _⟩
theorem Anu {t f:TypeId} {x y:Operand} {k:IntKind} {m n c:Int} (b:o.op = .binOp .quo t x y f) (hx:ρ x = .val (.int k m)) (hy:ρ y = .val (.int k n)) (g:n≠0) (hc:k.wrap (m.tdiv n)=c) :
  Bo P o ρ ⟨.val (.int k c),[],[]⟩ :=
 Dn fun σ ι H a w h=>⟨_,Np b (C1 hx (h x (by simp [b,Op.operands]))) (C1 hy (h y (by simp [b,Op.operands]))) (by simp [binOp,Op.intDiv,g,hc]),.of_val _⟩
theorem Anv {t f:TypeId} {x y:Operand} {k:IntKind} {m n c:Int} (b:o.op = .binOp .rem t x y f) (hx:ρ x = .val (.int k m)) (hy:ρ y = .val (.int k n)) (g:n≠0) (hc:m.tmod n=c) :
  Bo P o ρ ⟨.val (.int k c),[],[]⟩ :=
 Dn fun σ ι H a w h=>⟨_,Np b (C1 hx (h x (by simp [b,Op.operands]))) (C1 hy (h y (by simp [b,Op.operands]))) (by simp [binOp,Op.intDiv,g,hc]),.of_val _⟩
theorem Anw {op:BinOp} {t f:TypeId} {x y:Operand} {k:IntKind} {m n:Int} {b:Bool} (c:o.op = .binOp op t x y f) (hx:ρ x = .val (.int k m)) (hy:ρ y = .val (.int k n)) (hc:Zc op m n=some b) :
  Bo P o ρ ⟨.val (.bool b),[],[]⟩ :=
 Dn fun σ ι H a w h=>by
  refine ⟨.bool b,Np c (C1 hx (h x (by simp [c,Op.operands]))) (C1 hy (h y (by simp [c,Op.operands]))) ?_,.of_val _⟩
  cases op <;> simp only [Zc] at hc <;> first | (cases hc; done) | (cases hc; simp [binOp,Op.intCmp])
def Zi (op:BinOp) (k:IntKind) (m n:Int):Option Int :=
 match op with
 | .and=>some (k.wrap (BitVec.ofInt k.bits m &&& BitVec.ofInt k.bits n).toNat)
 | .or=>some (k.wrap (BitVec.ofInt k.bits m ||| BitVec.ofInt k.bits n).toNat)
 | .xor=>some (k.wrap (BitVec.ofInt k.bits m ^^^ BitVec.ofInt k.bits n).toNat)
 | _=>none
theorem Anx {op:BinOp} {t f:TypeId} {x y:Operand} {k:IntKind} {m n c:Int} (b:o.op = .binOp op t x y f) (hx:ρ x = .val (.int k m)) (hy:ρ y = .val (.int k n)) (hc:Zi op k m n=some c) :
  Bo P o ρ ⟨.val (.int k c),[],[]⟩ :=
 Dn fun σ ι H a w h=>by
  refine ⟨.int k c,Np b (C1 hx (h x (by simp [b,Op.operands]))) (C1 hy (h y (by simp [b,Op.operands]))) ?_,.of_val _⟩
  cases op <;> simp only [Zi] at hc <;> first | (cases hc; done) | (cases hc; simp [binOp,Op.intBits])
theorem Anz {t i:TypeId} {x y:Operand} {k g:IntKind} {m n c:Int} (b:o.op = .binOp .shr t x y i) (hx:ρ x = .val (.int k m)) (hy:ρ y = .val (.int g n)) (j:0<=n) (hc:m.fdiv (2 ^ (min n.toNat k.bits))=c) :
  Bo P o ρ ⟨.val (.int k c),[],[]⟩ :=
 Dn fun σ ι H a w h=>by
  refine ⟨.int k c,?_,.of_val _⟩
  have h1:=C1 hx (h x (by simp [b,Op.operands]))
  have h2:=C1 hy (h y (by simp [b,Op.operands]))
  have he:(eqGuard .shr t x y (.int k m) (.int g n)).run P w = .ok () w:=by unfold eqGuard; simp
  have f:¬n<0:=by omega
  simp only [execOp,b,h1,h2,Sem.run_bind,he,Result.andThen_ok,binOp,Op.shift,if_neg f,hc,Sem.run_pure]
theorem An0 {t i:TypeId} {x y:Operand} {k g:IntKind} {m n c:Int} (b:o.op = .binOp .shl t x y i) (hx:ρ x = .val (.int k m)) (hy:ρ y = .val (.int g n)) (j:0<=n) (hc:k.wrap (m*2 ^ (min n.toNat k.bits))=c) :
  Bo P o ρ ⟨.val (.int k c),[],[]⟩ :=
 Dn fun σ ι H a w h=>by
  refine ⟨.int k c,?_,.of_val _⟩
  have h1:=C1 hx (h x (by simp [b,Op.operands]))
  have h2:=C1 hy (h y (by simp [b,Op.operands]))
  have he:(eqGuard .shl t x y (.int k m) (.int g n)).run P w = .ok () w:=by unfold eqGuard; simp
  have f:¬n<0:=by omega
  simp only [execOp,b,h1,h2,Sem.run_bind,he,Result.andThen_ok,binOp,Op.shift,if_neg f,hc,Sem.run_pure]
def Zj (op:BinOp) (m n:Bool):Option Bool :=
 match op with
 | .eql=>some (m==n)
 | .neq=>some (m != n)
 | _=>none
theorem An1 {t:TypeId} (ht:P.underlying t=some .bool) (d:Nat) (m n:Bool) (w:World):(Op.equalIn (d+1) t (.bool m) (.bool n)).run P w = .ok (m==n) w:=by
 simp [Op.equalIn,run_underlying ht]
theorem An2 {t:TypeId} (ht:P.underlying t=some .bool) (m n:Bool) (w:World):(Op.equal t (.bool m) (.bool n)).run P w = .ok (m==n) w:=by
 exact An1 ht 9999 m n w
theorem An3 {T:Cg} (l:Ch P T) {op:BinOp} {t j:TypeId} {i:TI} {x y:Operand} {m n b:Bool} (c:o.op = .binOp op t x y j) (ht:T t=some i) (hd:i.d = .bool) (hx:ρ x = .val (.bool m)) (hy:ρ y = .val (.bool n)) (hc:Zj op m n=some b) :
  Bo P o ρ ⟨.val (.bool b),[],[]⟩ :=
 Dn fun σ ι H a w h=>by
  refine ⟨.bool b,?_,.of_val _⟩
  have h1:=C1 hx (h x (by simp [c,Op.operands]))
  have h2:=C1 hy (h y (by simp [c,Op.operands]))
  obtain ⟨g,u,z,D,k,B,A,s,q,f⟩:=Dc (l t i ht)
  rw [hd] at f; subst f
  have he:(eqGuard op t x y (.bool m) (.bool n)).run P w = .ok () w:=by unfold eqGuard; cases op <;> simp
  cases op <;> simp only [Zj] at hc <;> first | (cases hc; done) | skip
  all_goals
   cases hc
   simp only [execOp,c,h1,h2,Sem.run_bind,he,Result.andThen_ok,binOp,An2 k,Sem.run_pure]
   try rfl
theorem An4 {T:Cg} (s:Ch P T) {t l e:TypeId} {i:TI} {x y:Operand} {p:Option Addr} {n c b g:Nat} (f:o.op = .binOp .eql t x y l) (ht:T t=some i) (hd:i.d = .slice e) (hx:ρ x = .val (.slice p n c)) (hy:ρ y = .val (.slice none b g)) :
  Bo P o ρ ⟨.val (.bool p.isNone),[],[]⟩ :=
 Dn fun σ ι H a w h=>by
  refine ⟨.bool p.isNone,?_,.of_val _⟩
  have h1:=C1 hx (h x (by simp [f,Op.operands]))
  have h2:=C1 hy (h y (by simp [f,Op.operands]))
  obtain ⟨k,u,z,G,q,E,D,B,A,j⟩:=Dc (s t i ht)
  rw [hd] at j; subst j
  have he:(eqGuard .eql t x y (.slice p n c) (.slice none b g)).run P w = .ok () w:=by unfold eqGuard; simp
  simp only [execOp,f,h1,h2,Sem.run_bind,he,Result.andThen_ok,Lib.run_eql_slice_nil w t e p n c b g q,Sem.run_pure]
def Zk (op:BinOp) (m n:ByteArray):Option Bool :=
 match op with
 | .eql=>some (m.toList==n.toList)
 | .neq=>some (!(m.toList==n.toList))
 | .lss=>some (Op.bytesLess m.toList n.toList)
 | _=>none
theorem An5 {op:BinOp} {t f:TypeId} {x y:Operand} {m n:ByteArray} {b:Bool} (c:o.op = .binOp op t x y f) (hx:ρ x = .val (.string m)) (hy:ρ y = .val (.string n)) (hc:Zk op m n=some b) :
  Bo P o ρ ⟨.val (.bool b),[],[]⟩ :=
 Dn fun σ ι H a w h=>by
  refine ⟨.bool b,?_,.of_val _⟩
  have h1:=C1 hx (h x (by simp [c,Op.operands]))
  have h2:=C1 hy (h y (by simp [c,Op.operands]))
  have he:(eqGuard op t x y (.string m) (.string n)).run P w = .ok () w:=by unfold eqGuard; cases op <;> simp
  cases op <;> simp only [Zk] at hc <;> first | (cases hc; done) | skip
  all_goals
   cases hc
   simp only [execOp,c,h1,h2,Sem.run_bind,he,Result.andThen_ok,binOp,Op.stringOp,Sem.run_pure]
theorem An6 {t c:TypeId} {x y:Operand} {m n:ByteArray} (b:o.op = .binOp .add t x y c) (hx:ρ x = .val (.string m)) (hy:ρ y = .val (.string n)) (i:m.size+n.size<=9223372036854775807) :
  Bo P o ρ ⟨.val (.string (m++n)),[],[]⟩ :=
 Dn fun σ ι H a w h=>by
  refine ⟨.string (m++n),?_,.of_val _⟩
  have h1:=C1 hx (h x (by simp [b,Op.operands]))
  have h2:=C1 hy (h y (by simp [b,Op.operands]))
  have he:(eqGuard .add t x y (.string m) (.string n)).run P w = .ok () w:=by unfold eqGuard; simp
  have g:IntKind.i64.max=9223372036854775807:=by decide
  have f:¬((m.size+n.size:Nat):Int)>IntKind.i64.max:=by rw [g]; omega
  simp only [execOp,b,h1,h2,Sem.run_bind,he,Result.andThen_ok,binOp,Op.stringOp,if_neg f,Sem.run_pure]
theorem An7 {t:TypeId} {x:Operand} {b:Bool} (c:o.op = .unOp .not t x) (hx:ρ x = .val (.bool b)):Bo P o ρ ⟨.val (.bool !b),[],[]⟩ :=
 Dn fun σ ι H a w h=>⟨.bool !b,by simp [execOp,c,C1 hx (h x (by simp [c,Op.operands])),Op.unary],.of_val _⟩
theorem An8 {t:TypeId} {x:Operand} {k:IntKind} {m c:Int} (b:o.op = .unOp .neg t x) (hx:ρ x = .val (.int k m)) (hc:k.wrap (0-m)=c):Bo P o ρ ⟨.val (.int k c),[],[]⟩ :=
 Dn fun σ ι H a w h=>⟨.int k c,by simp only [execOp,b,C1 hx (h x (by simp [b,Op.operands])),Op.unary,Op.intArith,hc,Sem.run_bind,Sem.run_pure,Result.andThen_ok],.of_val _⟩
theorem An9 {T:Cg} (s:Ch P T) {t d:TypeId} {x:Operand} {i j:TI} {k I:IntKind} {m c:Int} (q:o.op = .convert t d x) (ht:T t=some i) (hd:T d=some j) (hj:j.d = .int k) (hx:ρ x = .val (.int I m)) (hc:k.wrap m=c) :
  Bo P o ρ ⟨.val (.int k c),[],[]⟩ :=
 Dn fun σ ι H a w h=>by
  refine ⟨.int k c,?_,.of_val _⟩
  have h1:=C1 hx (h x (by simp [q,Op.operands]))
  obtain ⟨l,u,z,V,E,U,S,R,N,M⟩:=Dc (s t i ht)
  obtain ⟨g,L,J,G,f,D,B,A,y,b⟩:=Dc (s d j hd)
  rw [hj] at b; subst b
  simp only [execOp,q,h1,convert,Sem.run_bind,run_underlying E,run_underlying f,Result.andThen_ok,Conv.intToInt,hc,Sem.run_pure]
theorem Aoa {op:BinOp} {t f:TypeId} {x y:Operand} {k:FloatKind} {m n c:Nat} (b:o.op = .binOp op t x y f) (hx:ρ x = .val (.float k m)) (hy:ρ y = .val (.float k n)) (hc:floatBits op k m n=some c) :
  Bo P o ρ ⟨.val (.float k c),[],[]⟩ :=
 Dn fun σ ι H a w h=>by
  refine ⟨.float k c,?_,.of_val _⟩
  have h1:=C1 hx (h x (by simp [b,Op.operands]))
  have h2:=C1 hy (h y (by simp [b,Op.operands]))
  have he:(eqGuard op t x y (.float k m) (.float k n)).run P w = .ok () w:=by
   cases op <;> first | (unfold eqGuard; simp; done) | (simp [floatBits] at hc)
  simp only [execOp,b,h1,h2,Sem.run_bind,he,Result.andThen_ok,run_float_arith w op t k m n c hc,Sem.run_pure]
theorem Aob {T:Cg} (s:Ch P T) {t d:TypeId} {x:Operand} {i j:TI} {k:FloatKind} {g:IntKind} {m:Int} (q:o.op = .convert t d x) (ht:T t=some i) (hd:T d=some j) (hj:j.d = .float k) (hx:ρ x = .val (.int g m)) :
  Bo P o ρ ⟨.val (.float k (floatOfInt k m)),[],[]⟩ :=
 Dn fun σ ι H a w h=>by
  refine ⟨.float k (floatOfInt k m),?_,.of_val _⟩
  have h1:=C1 hx (h x (by simp [q,Op.operands]))
  obtain ⟨l,u,z,U,E,S,R,N,M,L⟩:=Dc (s t i ht)
  obtain ⟨f,J,I,G,c,D,B,A,y,b⟩:=Dc (s d j hd)
  rw [hj] at b; subst b
  have:=run_convert_int_float (P:=P) w t d g k m (by rw [E]; rfl) c
  simp only [execOp,q,h1,Sem.run_bind,this,Result.andThen_ok,Sem.run_pure]
theorem Aoc {T:Cg} (y:Ch P T) {t d:TypeId} {x:Operand} {i j:TI} {k:FloatKind} {f:IntKind} {m:Nat} {c:Int} (s:o.op = .convert t d x) (ht:T t=some i) (hd:T d=some j) (hj:j.d = .int f) (hx:ρ x = .val (.float k m)) (hc:floatToIntVal k m f=some c) :
  Bo P o ρ ⟨.val (.int f c),[],[]⟩ :=
 Dn fun σ ι H a w h=>by
  refine ⟨.int f c,?_,.of_val _⟩
  have h1:=C1 hx (h x (by simp [s,Op.operands]))
  obtain ⟨q,u,z,V,G,U,S,R,N,M⟩:=Dc (y t i ht)
  obtain ⟨l,L,J,I,g,E,D,B,A,b⟩:=Dc (y d j hd)
  rw [hj] at b; subst b
  have:=run_convert_float_int (P:=P) w t d k f m c (by rw [G]; rfl) g hc
  simp only [execOp,s,h1,Sem.run_bind,this,Result.andThen_ok,Sem.run_pure]
theorem Aod {x:Operand} {n:Nat} {cs:List AV} {c:AV} (f:o.op = .extract x n) (hx:ρ x = .tup cs) (hc:cs[n]? = some c):Bo P o ρ ⟨c,[],[]⟩ :=
 Dn fun σ ι H a w h=>by
  have h1:=h x (by simp [f,Op.operands])
  rw [hx] at h1
  obtain ⟨vs,e,i,g⟩:=h1.tup_inv
  have b:n<vs.size:=by rw [i]; exact (List.getElem?_eq_some_iff.1 hc).1
  refine ⟨vs[n],?_,g n c _ hc (by simp [b])⟩
  simp [execOp,f,e,Instr.extract,b]
theorem Zl {s:TypeId} {i:TI} {fs:List (Nat×Nat)} {f:Nat} {q:Nat×Nat} (hi:F7 P s=some i) (hd:i.d = .struct fs) (c:fs[f]? = some q) (b off:Nat) (w:World) :
  (Instr.fieldAt s (.pointer (some ⟨b,off,none⟩)) f).run P w = .ok (.pointer (some ⟨b,off+q.1,none⟩)) w:=by
 obtain ⟨A,u,z,J,B,I,G,E,D,y⟩:=Dc hi
 rw [hd] at y
 obtain ⟨fields,rfl,rfl,hpos⟩:=y
 rw [List.getElem?_map] at c
 cases j:fields.toList[f]? with
 | none=>rw [j] at c; simp at c
 | some fd=>
  rw [j] at c; simp at c; subst c
  have x:fields[f]? = some fd:=by rw [<-Array.getElem?_toList]; exact j
  have hp:=hpos fd (List.mem_of_getElem? j)
  have k:∃inf,P.info? fd.type=some inf/\inf.size≠0:=by
   unfold Program.cellsOf at hp
   cases h:P.info? fd.type with
   | none=>rw [h] at hp; simp at hp
   | some inf=>rw [h] at hp; simp at hp; exact ⟨inf,rfl,by omega⟩
  obtain ⟨inf,g,l⟩:=k
  have hs:(sizeOf fd.type).run P w = .ok inf.size w:=by simp [sizeOf,typeInfo,program,Sem.run,g]
  simp [Instr.fieldAt,run_underlying B,x,Instr.sureAddr,fieldPlace,hs,l,Hu]
theorem Aoe {T:Cg} (l:Ch P T) {s:TypeId} {x:Operand} {f:Nat} {i:TI} {fs:List (Nat×Nat)} {q:Nat×Nat} {h off:Nat} (g:o.op = .fieldAddr s x f) (ht:T s=some i) (hd:i.d = .struct fs) (k:fs[f]? = some q)
  (hx:ρ x = .loc h off):Bo P o ρ ⟨.loc h (off+q.1),[],[]⟩ :=
 Dn fun σ ι H a w c=>by
  have h1:=c x (by simp [g,Op.operands])
  rw [hx] at h1
  obtain ⟨b,hb,j⟩:=h1.loc_inv
  exact ⟨_,by simp [execOp,g,j,Zl (l s i ht) hd k],.loc h (off+q.1) b hb⟩
theorem Aof {T:Cg} (z:Ch P T) {s:TypeId} {x:Operand} {f:Nat} {i:TI} {fs:List (Nat×Nat)} {q:Nat×Nat} {cs:List AV} (k:o.op = .fieldAddr s x f) (ht:T s=some i) (hd:i.d = .struct fs) (y:fs[f]? = some q)
  (hx:ρ x = .ref cs):Bo P o ρ ⟨.ref (cs.drop q.1),[],[]⟩ :=
 Dn fun σ ι H a w h=>by
  have h1:=h x (by simp [k,Op.operands])
  rw [hx] at h1
  obtain ⟨b,off,C,E,fr,g,u,l,hc,A⟩:=h1.ref_inv
  refine ⟨_,by simp [execOp,k,u,Zl (z s i ht) hd y],.ref _ b (off+q.1) C E fr (fun j=>g (q.1+j)) l ?_ ?_ ?_⟩
  .intro j c hj; rw [List.getElem?_drop] at hj; exact (hc _ c hj).1
  .intro j c hj; rw [List.getElem?_drop] at hj; exact (hc _ c hj).2
  .intro j hj; rw [List.length_drop] at hj; rw [Nat.add_assoc]; exact A (q.1+j) (by omega)
theorem Aog {T:Cg} (I:Ch P T) {s:TypeId} {x:Operand} {f:Nat} {i:TI} {fs:List (Nat×Nat)} {q:Nat×Nat} {h k n j:Nat} {E:TypeId} {sz:Nat} {xs:List AV} (A:o.op = .fieldAddr s x f) (ht:T s=some i) (hd:i.d = .struct fs) (G:fs[f]? = some q)
  (hx:ρ x = .el h k n j) (y:xs.length=k):Bo P o ρ ⟨.el h k n (j+q.1),[(h,.rows E sz xs)],[]⟩:=by
 intro σ ι H F W w a next Q s u l hk
 have z:H h = .rows E sz xs:=l (h,.rows E sz xs) (by simp)
 have hp:=u x (by simp [A,Op.operands])
 rw [hx] at hp
 obtain ⟨b,B,hb,D⟩:=hp.el_inv z y
 refine D1 (v:=.pointer (some ⟨b,n*sz+j+q.1,none⟩)) (by simp [execOp,A,D,Zl (I _ i ht) hd G]) (hk σ ι _ w (Le.refl _ _ _) s ?_)
 refine .el h k n (j+q.1) _ (by show H h≠_; rw [z]; intro e; cases e) (fun J g c e=>?_) rfl
 have e:H h = .rows J g c:=e
 rw [z] at e; cases e
 refine ⟨by omega,fun _=>?_⟩
 rw [hb]; show _=_
 rw [Nat.add_assoc]
theorem CC.sl_inv {σ:Aw} {sz:Nat} {xs:List AV} {v:Value} (h:CC σ (.sl sz xs) v) :
  (xs = []/\∃p f,v = .slice p 0 f)\/∃(b off f:Nat) (C:Array Value) (E:TypeId) (l:Nat×Nat) (g:Nat->Nat->Value),v = .slice (some ⟨b,off,none⟩) xs.length f/\σ b=some (.cells C E l) /\
   (∀(i:Nat) (x:AV),xs[i]? = some x->x.cells.length=sz)/\(∀(i:Nat) (x:AV) (j:Nat) (c:AV),xs[i]? = some x->x.cells[j]? = some c->CC σ c (g i j)/\Du (g i j)=true) /\
   (∀(i j:Nat),i<xs.length->j<sz->C[off+i*sz+j]? = some (g i j))/\xs.length<=140737488355328/\xs.length<=f:=by
 cases h with
 | nil _ p f=>exact .inl ⟨rfl,p,f,rfl⟩
 | sl _ b off f _ C E l g q hs hc h1 u s k=>exact .inr ⟨b,off,f,C,E,l,g,rfl,q,hs,fun i x j c hx hj=>⟨hc i x j c hx hj,h1 i x j c hx hj⟩,u,s,k⟩
theorem CC.sl_len {σ:Aw} {sz:Nat} {xs:List AV} {v:Value} (h:CC σ (.sl sz xs) v):xs.length<=140737488355328/\∃p cap,v = .slice p xs.length cap:=by
 rcases h.sl_inv with ⟨rfl,p,cap,e⟩ | ⟨b,off,cap,C,E,fr,g,e,_,_,_,_,c,_⟩
 .exact ⟨by simp,p,cap,e⟩
 .exact ⟨c,_,cap,e⟩
theorem Aez {T:Cg} (k:Ch P T) {t:TypeId} {x:Operand} {i:TI} {e:TypeId} {sz:Nat} {xs:List AV} (g:o.op = .call {callee:=.builtin .len,args:=#[x],argTypes:=#[t]}) (ht:T t=some i) (hd:i.d = .slice e) (hx:ρ x = .sl sz xs) :
  Bo P o ρ ⟨.val (.int .i64 xs.length),[],[]⟩ :=
 Dn fun σ ι H a w b=>by
  have h1:=b x (by simp [g,Op.operands,Call.operands])
  rw [hx] at h1
  obtain ⟨_,p,cap,j⟩:=h1.sl_inv.sl_len
  obtain ⟨f,u,z,A,h,y,s,q,l,c⟩:=Dc (k t i ht)
  rw [hd] at c; subst c
  refine ⟨.int .i64 xs.length,?_,.of_val _⟩
  simp [execOp,g,resolve,invoke,builtin,Builtin.len_,j,run_underlying h,goInt]
theorem Aoh {T:Cg} (l:Ch P T) {t:TypeId} {x:Operand} {i:TI} {e:TypeId} {p:Option Addr} {n c:Nat} (h:o.op = .call {callee:=.builtin .len,args:=#[x],argTypes:=#[t]}) (ht:T t=some i) (hd:i.d = .slice e) (hx:ρ x = .val (.slice p n c)) :
  Bo P o ρ ⟨.val (.int .i64 n),[],[]⟩ :=
 Dn fun σ ι H a w b=>by
  have k:=C1 hx (b x (by simp [h,Op.operands,Call.operands]))
  obtain ⟨g,u,z,B,j,A,y,s,q,f⟩:=Dc (l t i ht)
  rw [hd] at f; subst f
  refine ⟨.int .i64 n,?_,.of_val _⟩
  simp [execOp,h,resolve,invoke,builtin,Builtin.len_,k,run_underlying j,goInt]
theorem Aoi {T:Cg} (l:Ch P T) {t:TypeId} {x:Operand} {i:TI} {e:TypeId} {p:Option Addr} {n b:Nat} (h:o.op = .call {callee:=.builtin .cap,args:=#[x],argTypes:=#[t]}) (ht:T t=some i) (hd:i.d = .slice e) (hx:ρ x = .val (.slice p n b)) :
  Bo P o ρ ⟨.val (.int .i64 b),[],[]⟩ :=
 Dn fun σ ι H a w c=>by
  have k:=C1 hx (c x (by simp [h,Op.operands,Call.operands]))
  obtain ⟨g,u,z,B,j,A,y,s,q,f⟩:=Dc (l t i ht)
  rw [hd] at f; subst f
  refine ⟨.int .i64 b,?_,.of_val _⟩
  simp [execOp,h,resolve,invoke,builtin,Builtin.cap_,k,run_underlying j,goInt]
theorem Aoj {T:Cg} (k:Ch P T) {t:TypeId} {x:Operand} {i:TI} {s:ByteArray} (g:o.op = .call {callee:=.builtin .len,args:=#[x],argTypes:=#[t]}) (ht:T t=some i) (hd:i.d = .string) (hx:ρ x = .val (.string s)) :
  Bo P o ρ ⟨.val (.int .i64 s.size),[],[]⟩ :=
 Dn fun σ ι H a w b=>by
  have j:=C1 hx (b x (by simp [g,Op.operands,Call.operands]))
  obtain ⟨f,u,z,B,h,A,y,q,l,c⟩:=Dc (k t i ht)
  rw [hd] at c; subst c
  refine ⟨.int .i64 s.size,?_,.of_val _⟩
  simp [execOp,g,resolve,invoke,builtin,Builtin.len_,j,run_underlying h,goInt]
theorem Aok {T:Cg} (B:Ch P T) {t:TypeId} {x:Operand} {i:TI} {e:TypeId} {h k off len:Nat} {E:TypeId} {sz:Nat} {xs:List AV} (q:o.op = .call {callee:=.builtin .len,args:=#[x],argTypes:=#[t]}) (ht:T t=some i) (hd:i.d = .slice e)
  (hx:ρ x = .arr h k off len) (g:xs.length=k):Bo P o ρ ⟨.val (.int .i64 len),[(h,.rows E sz xs)],[]⟩:=by
 intro σ ι H F W w a next Q s f c hk
 have A:H h = .rows E sz xs:=c (h,.rows E sz xs) (by simp)
 have hp:=f x (by simp [q,Op.operands,Call.operands])
 rw [hx] at hp
 have b:=hp.arr_inv A g
 obtain ⟨l,u,z,N,y,M,L,J,I,j⟩:=Dc (B t i ht)
 rw [hd] at j; subst j
 have:∃p cap,a.eval x = .slice p len cap:=by
  unfold E5 at b
  split at b
  .obtain ⟨G,_,D⟩:=b; exact ⟨none,0,by rw [G,D]⟩
  .exact ⟨_,_,b.2⟩
  .exact b.elim
 obtain ⟨p,cap,b⟩:=this
 refine D1 (v:=.int .i64 len) ?_ (hk σ ι _ w (Le.refl _ _ _) s (.of_val _))
 simp [execOp,q,resolve,invoke,builtin,Builtin.len_,b,run_underlying y,goInt]
theorem Ae0 {t:TypeId} {i j:TI} {e:TypeId} (hi:F7 P t=some i) (hd:i.d = .slice e) (he:F7 P e=some j) {b off len f n:Nat} (k:IntKind) (B:n<len) (w:World) :
  (Instr.indexAt t (.slice (some ⟨b,off,none⟩) len f) (.int k (n:Int))).run P w = .ok (.pointer (some ⟨b,off+n*j.size,none⟩)) w:=by
 obtain ⟨h,u,z,A,l,y,x,s,q,g⟩:=Dc hi
 rw [hd] at g; subst g
 have hs:=Jt he w
 have c:0<=(n:Int)/\(n:Int)<(len:Int):=by omega
 simp only [Instr.indexAt,asIntOf,Sem.run_bind,Sem.run_pure,Result.andThen_ok,run_underlying l,if_pos c,hs,Hu,Int.toNat_natCast]
theorem Aol {T:Cg} (J:Ch P T) {t d e:TypeId} {x:Operand} {i D j:TI} {xs:List AV} {bs:List UInt8} (N:o.op = .convert t d x) (ht:T t=some i) (hi:i.d = .slice e) (he:T e=some D) (I:D.d = .int .u8) (hd:T d=some j) (hj:j.d = .string) (hx:ρ x = .sl 1 xs) (c:xs=bs.map fun b=>.val (.int .u8 b.toNat)) :
  Bo P o ρ ⟨.val (.string ⟨bs.toArray⟩),[],[]⟩:=by
 intro σ ι H F W w a next Q s G _ hk
 have h1:=G x (by simp [N,Op.operands])
 rw [hx] at h1
 obtain ⟨M,u,z,k1,y,k3,k4,k5,k6,L⟩:=Dc (J t i ht)
 obtain ⟨B,u',z',Z,f,Y,X,V,U,h⟩:=Dc (J d j hd)
 obtain ⟨A,u2,z2,m1,m2,m3,m4,m5,m6,m7⟩:=Dc (J e D he)
 rw [hi] at L; subst L
 rw [hj] at h; subst h
 rw [I] at m7; subst m7
 have l:∃p cap,a.eval x = .slice p bs.length cap/\(convert t d (.slice p bs.length cap)).run P w = .ok (.string ⟨bs.toArray⟩) w:=by
  rcases h1.sl_inv.sl_inv with ⟨h0,p,cap,k⟩ | ⟨b,off,cap,C,E,fr,g,k,hσ,hs,hc,hC,_⟩
  .have hb:bs = []:=by
    rw [h0] at c
    exact List.map_eq_nil_iff.1 c.symm
   subst hb
   refine ⟨p,cap,k,?_⟩
   cases p with
   | none=>
    show (convert t d (.slice none 0 cap)).run P w=_
    rw [run_convert_bytes_string w t d e none 0 cap y m2 f]
    simp [Conv.bytesToString]
    rfl
   | some p=>exact run_convert_bytes_back w t d e p cap [] y m2 f (fun q hq=>by simp at hq)
  .have hl:xs.length=bs.length:=by rw [c,List.length_map]
   refine ⟨some ⟨b,off,none⟩,cap,by rw [k,hl],run_convert_bytes_back w t d e ⟨b,off,none⟩ cap bs y m2 f (fun q hq=>?_)⟩
   rw [Hu,Hi (s.sto _ _ hσ)]
   have hq':q<xs.length:=by omega
   have S:=hC q 0 hq' (by omega)
   have e2:xs[q]? = some (.val (.int .u8 (bs[q]'hq).toNat)):=by rw [c,List.getElem?_map,List.getElem?_eq_getElem hq]; rfl
   have R:=(hc q _ 0 (.val (.int .u8 (bs[q]'hq).toNat)) e2 rfl).1
   have e4:g q 0 = .int .u8 (bs[q]'hq).toNat:=by
    generalize g q 0=v at R
    cases R; rfl
   rw [Nat.mul_one,Nat.add_zero,e4] at S
   exact S
 obtain ⟨p,cap,k,hr⟩:=l
 refine D1 (v:=.string ⟨bs.toArray⟩) ?_ (hk σ ι _ w (Le.refl _ _ _) s (.of_val _))
 simp only [execOp,N,k,Sem.run_bind,hr,Result.andThen_ok,Sem.run_pure]
theorem Aom {T:Cg} (A:Ch P T) {t:TypeId} {x y:Operand} {i f:TI} {e:TypeId} {sz:Nat} {xs:List AV} {k:IntKind} {n:Nat} {z:AV} (s:o.op = .indexAddr t x y) (ht:T t=some i) (hd:i.d = .slice e) (he:T e=some f) (q:sz=f.size) (hx:ρ x = .sl sz xs) (hy:ρ y = .val (.int k (n:Int))) (l:xs[n]? = some z) :
  Bo P o ρ ⟨.ref z.cells,[],[]⟩ :=
 Dn fun σ ι H a w h=>by
  have h1:=h x (by simp [s,Op.operands])
  have h2:=C1 hy (h y (by simp [s,Op.operands]))
  rw [hx] at h1
  have u:=(List.getElem?_eq_some_iff.1 l).1
  rcases h1.sl_inv.sl_inv with ⟨rfl,_⟩ | ⟨b,off,cap,C,E,fr,g,G,B,hs,hc,I,_⟩
  .simp at u
  .have D:=hs n z l
   refine ⟨.pointer (some ⟨b,off+n*f.size,none⟩),?_,.ref z.cells b (off+n*f.size) C E fr (g n) B (fun j c hj=>(hc n z j c l hj).1) (fun j c hj=>(hc n z j c l hj).2) (fun j hj=>?_)⟩
   .simp [execOp,s,G,h2,Ae0 (A t i ht) hd (A e f he) k u]
   .have:=I n j u (by omega)
    rw [<-q]; exact this
theorem Aon {T:Cg} (G:Ch P T) {t:TypeId} {x y:Operand} {i l:TI} {e:TypeId} {h k off len:Nat} {E:TypeId} {sz:Nat} {xs:List AV} {D:IntKind} {n:Nat} (z:o.op = .indexAddr t x y) (ht:T t=some i) (hd:i.d = .slice e) (he:T e=some l) (hx:ρ x = .arr h k off len) (A:xs.length=k)
  (hy:ρ y = .val (.int D (n:Int))) (J:n<len) (q:sz=l.size):Bo P o ρ ⟨.el h k (off+n) 0,[(h,.rows E sz xs)],[]⟩:=by
 intro σ ι H F W w a next Q s f u hk
 have B:H h = .rows E sz xs:=u (h,.rows E sz xs) (by simp)
 have hp:=f x (by simp [z,Op.operands])
 have h2:=C1 hy (f y (by simp [z,Op.operands]))
 rw [hx] at hp
 have c:=hp.arr_inv B A
 unfold E5 at c
 split at c
 .omega
 .rename_i b I hb
  obtain ⟨L,c⟩:=c
  refine D1 (v:=.pointer (some ⟨b,(off+n)*sz,none⟩)) ?_ (hk σ ι _ w (Le.refl _ _ _) s ?_)
  .simp [execOp,z,c,h2,Ae0 (G t i ht) hd (G e l he) D J,q,Nat.add_mul]
  .refine .el h k (off+n) 0 _ (by show H h≠_; rw [B]; intro e; cases e) (fun M j g e=>?_) rfl
   have e:H h = .rows M j g:=e
   rw [B] at e; cases e
   refine ⟨by omega,fun _=>?_⟩
   rw [hb]; rfl
 .exact c.elim
theorem Aoo {T:Cg} (l:Ch P T) {t:TypeId} {x y:Operand} {i:TI} {s:ByteArray} {k:IntKind} {n:Nat} {c:UInt8} (f:o.op = .index t x y) (ht:T t=some i) (hd:i.d = .string) (hx:ρ x = .val (.string s)) (hy:ρ y = .val (.int k (n:Int))) (hc:s[n]? = some c) :
  Bo P o ρ ⟨.val (.int .u8 c.toNat),[],[]⟩ :=
 Dn fun σ ι H a w b=>by
  have h1:=C1 hx (b x (by simp [f,Op.operands]))
  have h2:=C1 hy (b y (by simp [f,Op.operands]))
  obtain ⟨h,u,z,E,j,D,B,A,q,g⟩:=Dc (l t i ht)
  rw [hd] at g; subst g
  refine ⟨.int .u8 c.toNat,?_,.of_val _⟩
  simp [execOp,f,h1,h2,Instr.index,asIntOf,run_underlying j,hc]
theorem Aop {f:FuncId} {b:Array Operand} (h:o.op = .makeFunc (.func f) #[] b):Bo P o ρ ⟨.fn f (b.toList.map ρ),[],[]⟩ :=
 Dn fun σ ι H a w g=>by
  refine ⟨.func (.func f) #[] (b.map a.eval),by simp [execOp,h,Instr.makeFunc],.fn f _ _ (by simp) (fun i c v h1 h2=>?_)⟩
  rw [List.getElem?_map] at h1
  rw [Array.getElem?_map] at h2
  cases hc:b[i]? with
  | none=>rw [hc] at h2; simp at h2
  | some x=>
   rw [hc] at h2; rw [Array.getElem?_toList,hc] at h1
   simp at h1 h2; subst h1; subst h2
   exact g x (by simp [h,Op.operands]; exact Array.mem_of_getElem? hc)
end
end Go.Ab
namespace Go.Ab
section
variable {P:Program} {o:Oper} {ρ:Operand->AV} {a:Act} {w w':World} {next:Act->World->Prop} {Q:Exit->Act->World->Prop}
def F8 (ρ:Operand->AV) (d:Int):Option Operand->Option Int
 | none=>some d
 | some x=>match ρ x with
  | .val (.int _ n)=>some n
  | _=>none
theorem Zm {k:IntKind} {n y:Nat} (h:n<=y) (c:BoundsCode) (w:World):(Instr.sliceBound (.int k (n:Int)) y c).run P w = .ok n w:=by
 have:0<=(n:Int)/\(n:Int)<=(y:Int):=by omega
 simp only [Instr.sliceBound,asIntOf,Sem.run_bind,Sem.run_pure,Result.andThen_ok,if_pos this,Int.toNat_natCast]
theorem Zn {σ:Aw} {ι:Bi} {H:Hp} {x:Operand} {n:Nat} {d:Int} (hb:F8 ρ d (some x)=some (n:Int)) (hc:Conc σ ι H (ρ x) (a.eval x)):∃k,a.eval x = .int k (n:Int):=by
 unfold F8 at hb
 simp only [] at hb
 split at hb
 .rename_i k m e
  rw [e] at hc
  cases hb
  exact ⟨k,hc.val_inv⟩
 .cases hb
theorem U8 {σ:Aw} {ι:Bi} {H:Hp} {j:Bool} {len f l h:Nat} {lo hi:Option Operand} (b:F8 ρ 0 lo=some (l:Int)) (g:F8 ρ (len:Int) hi=some (h:Int))
  (hx:∀x,lo=some x\/hi=some x->Conc σ ι H (ρ x) (a.eval x)) (h1:l<=h) (h2:h<=f) (w:World) :
  (Instr.sliceBounds j len f (lo.map a.eval) (hi.map a.eval) none).run P w = .ok (l,h,f) w:=by
 unfold Instr.sliceBounds
 cases hi with
 | none=>
  simp [F8] at g
  cases lo with
  | none=>
   simp [F8] at b
   simp; omega
  | some x=>
   obtain ⟨k,e⟩:=Zn b (hx x (.inl rfl))
   have:=fun c=>Zm (P:=P) (k:=k) (n:=l) (y:=len) (by omega) c w
   simp [e,this]; omega
 | some y=>
  obtain ⟨q,e'⟩:=Zn g (hx y (.inr rfl))
  have i:=fun c=>Zm (P:=P) (k:=q) h2 c w
  cases lo with
  | none=>
   simp [F8] at b
   simp [e',i]; omega
  | some x=>
   obtain ⟨k,e⟩:=Zn b (hx x (.inl rfl))
   have:=fun c=>Zm (P:=P) (k:=k) h1 c w
   simp [e,e',this,i]
theorem U9 {t:TypeId} {x:Operand} {lo hi:Option Operand} {y:Operand} (h:lo=some y\/hi=some y):y∈(Op.slice t x lo hi none).operands.toList:=by
 rcases h with rfl | rfl <;> simp [Op.operands]
theorem Aoq {T:Cg} (Z:Ch P T) {t:TypeId} {x:Operand} {lo hi:Option Operand} {i A:TI} {e:TypeId} {sz:Nat} {xs:List AV} {l h:Nat} (I:o.op = .slice t x lo hi none) (ht:T t=some i) (hd:i.d = .slice e) (he:T e=some A) (B:sz=A.size)
  (hx:ρ x = .sl sz xs) (M:F8 ρ 0 lo=some (l:Int)) (S:F8 ρ (xs.length:Int) hi=some (h:Int)) (h1:l<=h) (h2:h<=xs.length):Bo P o ρ ⟨.sl sz ((xs.take h).drop l),[],[]⟩ :=
 Dn fun σ ι H a w D=>by
  have s:=D x (by simp [I,Op.operands])
  rw [hx] at s
  obtain ⟨Y,u,z,k1,X,k3,k4,k5,k6,V⟩:=Dc (Z t i ht)
  rw [hd] at V; subst V
  have hs:=Jt (Z e A he)
  have G:∀(cap:Nat),xs.length<=cap->∀w,(Instr.sliceBounds true xs.length cap (lo.map a.eval) (hi.map a.eval) none).run P w = .ok (l,h,cap) w :=
   fun cap q w=>U8 M S (fun y hy=>D y (by rw [I]; exact U9 hy)) h1 (by omega) w
  rcases s.sl_inv.sl_inv with ⟨rfl,p,cap,s⟩ | ⟨b,off,cap,C,E,fr,g,s,hσ,J,hc,hC,hl,q⟩
  .have R:l=0:=by simp at h2; omega
   have U:h=0:=by simpa using h2
   subst R; subst U
   refine ⟨.slice (if cap=0 then p else p.map (·.add (0*A.size))) (0-0) (cap-0),?_,?_⟩
   .simp only [execOp,I,s,Instr.sliceAt,Instr.slice,Sem.run_bind,run_underlying X,Result.andThen_ok,Option.map_none]
    have:=G cap (by simp) w
    simp only [List.length_nil] at this
    simp only [this,Result.andThen_ok,hs w,Sem.run_pure]
   .exact .cc (.nil sz _ _)
  .refine ⟨.slice (if cap=l then some ⟨b,off,none⟩ else some ⟨b,off+l*A.size,none⟩) (h-l) (cap-l),?_,?_⟩
   .simp only [execOp,I,s,Instr.sliceAt,Instr.slice,Sem.run_bind,run_underlying X,Result.andThen_ok,Option.map_none,G cap q w,hs w,Sem.run_pure,Option.map_some,Hu]
   .by_cases N:l=h
    .subst N
     have:(xs.take l).drop l = []:=by simp
     rw [this,Nat.sub_self]
     exact .cc (.nil sz _ _)
    .rw [if_neg (by omega)]
     have f:((xs.take h).drop l).length=h-l:=by simp; omega
     have k:∀(n:Nat) (y:AV),((xs.take h).drop l)[n]? = some y->xs[l+n]? = some y:=by
      intro n y hy
      rw [List.getElem?_drop] at hy
      by_cases L:l+n<h
      .rwa [List.getElem?_take_of_lt L] at hy
      .rw [List.getElem?_eq_none (by simp; omega)] at hy; cases hy
     have:=CC.sl (σ:=σ) ((xs.take h).drop l) b (off+l*sz) (cap-l) sz C E fr (fun n j=>g (l+n) j) hσ (fun n y hy=>J _ y (k n y hy))
      (fun n y j c hy hj=>(hc _ y j c (k n y hy) hj).1) (fun n y j c hy hj=>(hc _ y j c (k n y hy) hj).2)
      (fun n j hn hj=>by
       rw [f] at hn
       have:=hC (l+n) j (by omega) hj
       rw [Nat.add_mul] at this
       rw [<-this]; congr 1; omega) (by rw [f]; omega) (by rw [f]; omega)
     rw [f,B] at this
     rw [B]
     exact .cc this
theorem Aor {T:Cg} (D:Ch P T) {t:TypeId} {x:Operand} {lo hi:Option Operand} {i:TI} {s:ByteArray} {l h:Nat} (c:o.op = .slice t x lo hi none) (ht:T t=some i) (hd:i.d = .string)
  (hx:ρ x = .val (.string s)) (f:F8 ρ 0 lo=some (l:Int)) (g:F8 ρ (s.size:Int) hi=some (h:Int)) (h1:l<=h) (h2:h<=s.size):Bo P o ρ ⟨.val (.string (s.extract l h)),[],[]⟩ :=
 Dn fun σ ι H a w b=>by
  have B:=C1 hx (b x (by simp [c,Op.operands]))
  obtain ⟨q,u,z,L,A,J,I,G,E,k⟩:=Dc (D t i ht)
  rw [hd] at k; subst k
  have j:(Instr.sliceBounds false s.size s.size (lo.map a.eval) (hi.map a.eval) none).run P w = .ok (l,h,s.size) w :=
   U8 f g (fun y hy=>b y (by rw [c]; exact U9 hy)) h1 (by omega) w
  refine ⟨.string (s.extract l h),?_,.of_val _⟩
  simp [execOp,c,B,Instr.sliceAt,Instr.slice,run_underlying A,j]
theorem Aos {T:Cg} (hT:Ch P T) {t:TypeId} {x:Operand} {lo hi:Option Operand} {i J:TI} {e:TypeId} {c k off len:Nat} {E:TypeId} {sz:Nat} {xs:List AV} {l h:Nat} (I:o.op = .slice t x lo hi none) (ht:T t=some i) (hd:i.d = .slice e) (he:T e=some J) (L:sz=J.size)
  (hx:ρ x = .arr c k off len) (U:xs.length=k) (R:F8 ρ 0 lo=some (l:Int)) (V:F8 ρ (len:Int) hi=some (h:Int)) (h1:l<=h) (h2:h<=len) (h3:l=0\/l<h) :
  Bo P o ρ ⟨.arr c k (off+l) (h-l),[(c,.rows E sz xs)],[]⟩:=by
 intro σ ι H F W w a next Q s A M hk
 have D:H c = .rows E sz xs:=M (c,.rows E sz xs) (by simp)
 have hp:=A x (by simp [I,Op.operands])
 rw [hx] at hp
 have f:=hp.arr_inv D U
 obtain ⟨a1,u,z,k1,Z,k3,k4,k5,k6,Y⟩:=Dc (hT t i ht)
 rw [hd] at Y; subst Y
 have hs:=Jt (hT e J he)
 have G:∀(cap:Nat),len<=cap->∀w,(Instr.sliceBounds true len cap (lo.map a.eval) (hi.map a.eval) none).run P w = .ok (l,h,cap) w :=
  fun cap a6 w=>U8 R V (fun y hy=>A y (by rw [I]; exact U9 hy)) h1 (by omega) w
 unfold E5 at f
 split at f
 .rename_i B
  obtain ⟨f,N,S⟩:=f
  subst S; subst N
  have e1:l=0:=by omega
  have e2:h=0:=by omega
  subst e1; subst e2
  refine D1 (v:=.slice none 0 0) ?_ (hk σ ι _ w (Le.refl _ _ _) s ?_)
  .simp only [execOp,I,f,Instr.sliceAt,Instr.slice,Sem.run_bind,run_underlying Z,Result.andThen_ok,Option.map_none]
   have:=G 0 (by omega) w
   simp only [this,Result.andThen_ok,hs w,Sem.run_pure]
   rfl
  .refine .arr _ _ _ _ _ (by show H c≠_; rw [D]; intro e; cases e) (fun X j g e=>?_) rfl
   have e:H c = .rows X j g:=e
   rw [D] at e; cases e
   exact ⟨by omega,fun _=>by rw [B]; exact ⟨rfl,rfl,rfl⟩⟩
 .rename_i b q hb
  obtain ⟨a7,f⟩:=f
  refine D1 (v:=.slice (some ⟨b,(off+l)*sz,none⟩) (h-l) (q-(off+l))) ?_ (hk σ ι _ w (Le.refl _ _ _) s ?_)
  .simp only [execOp,I,f,Instr.sliceAt,Instr.slice,Sem.run_bind,run_underlying Z,Result.andThen_ok,Option.map_none]
   have:=G (q-off) (by omega) w
   simp only [this,Result.andThen_ok,hs w,Sem.run_pure,Option.map_some,Hu]
   rcases h3 with rfl | h3
   .simp
   .rw [if_neg (by omega),Nat.add_mul,L,Nat.sub_sub]
  .refine .arr _ _ _ _ _ (by show H c≠_; rw [D]; intro e; cases e) (fun X j g e=>?_) rfl
   have e:H c = .rows X j g:=e
   rw [D] at e; cases e
   refine ⟨by omega,fun _=>?_⟩
   rw [hb]; exact ⟨by omega,rfl⟩
 .exact f.elim
def Va (σ:Aw) (ι:Bi) (H:Hp) (cs:List AV) (C:Array Value):Prop :=
 C.size=cs.length/\∀(i:Nat) (c:AV) (v:Value),cs[i]? = some c->C[i]? = some v->Conc σ ι H c v
theorem Zo (off:Nat):∀(l:List Value) (m:Nat) (cells:Array Value),off+m+l.length<=cells.size ->
  ((l.zipIdx m).foldl (fun cs p=>cs.setIfInBounds (off+p.2) p.1) cells).size=cells.size /\
  ∀k:Nat,((l.zipIdx m).foldl (fun cs p=>cs.setIfInBounds (off+p.2) p.1) cells)[k]? = if off+m<=k/\k<off+m+l.length then l[k-(off+m)]? else cells[k]?
 | [],m,cells,_=>by
  refine ⟨rfl,fun k=>?_⟩
  rw [if_neg (by simp only [List.length_nil]; omega)]; rfl
 | v::rest,m,cells,h=>by
  simp only [List.length_cons] at h
  obtain ⟨c,b⟩:=Zo off rest (m+1) (cells.setIfInBounds (off+m) v) (by simp; omega)
  simp only [List.zipIdx_cons,List.foldl_cons]
  refine ⟨by rw [c]; simp,fun k=>?_⟩
  rw [b k]
  by_cases h1:k=off+m
  .subst h1
   rw [if_neg (by omega),if_pos (by simp)]
   rw [Array.getElem?_setIfInBounds_self_of_lt (by omega)]
   simp
  .by_cases h2:off+m<=k/\k<off+m+(rest.length+1)
   .rw [if_pos (by omega),List.length_cons,if_pos h2]
    rw [show k-(off+m)=(k-(off+(m+1)))+1 by omega]
    simp
   .rw [if_neg (by omega),List.length_cons,if_neg h2,Array.getElem?_setIfInBounds_ne (by omega)]
theorem Ae1 {σ:Aw} {ι:Bi} {H:Hp} {fs:List (Nat×Nat)} {place:Nat->Option (Nat×Nat)} (hp:∀n,place n=fs[n]?):∀(j:List (Nat×Operand)) (cs:List AV) (C:Array Value) (b:List AV),Va σ ι H cs C ->
  (∀p∈j,Conc σ ι H (ρ p.2) (a.eval p.2))->Pt fs cs (j.map fun p=>(p.1,ρ p.2))=some b ->
  ∃l,Instr.fill place C (j.map fun p=>(p.1,a.eval p.2))=some l/\Va σ ι H b l
 | [],cs,C,b,g,_,h=>by
  simp only [List.map_nil,Pt] at h; cases h
  exact ⟨C,rfl,g⟩
 | p::j,cs,C,b,g,hx,h=>by
  simp only [List.map_cons,Pt] at h
  cases hq:fs[p.1]? with
  | none=>rw [hq] at h; cases h
  | some q=>
   rw [hq] at h
   simp only [] at h
   cases hb:(Nat.beq (ρ p.2).cells.length q.2&&Nat.ble (q.1+q.2) cs.length) with
   | false=>rw [hb] at h; cases h
   | true=>
    rw [hb] at h
    simp only [cond_true] at h
    simp only [Bool.and_eq_true] at hb
    have D:(ρ p.2).cells.length=q.2:=Nat.eq_of_beq_eq_true hb.1
    have B:q.1+q.2<=cs.length:=Nat.le_of_ble_eq_true hb.2
    have hc:=(hx p (by simp)).cells
    have A:=g.1
    have k:=Zo q.1 (a.eval p.2).cells.toList 0 C (by simp; omega)
    have u:Va σ ι H (Js cs q.1 (ρ p.2).cells) (((a.eval p.2).cells.toList.zipIdx 0).foldl (fun cs p=>cs.setIfInBounds (q.1+p.2) p.1) C):=by
     refine ⟨by rw [k.1,Zh _ _ _ (by omega)]; exact g.1,fun i c v h1 h2=>?_⟩
     rw [Zg _ _ _ (by omega)] at h1
     rw [k.2 i] at h2
     simp only [Array.length_toList,hc.1,Nat.add_zero] at h2
     by_cases g1:i<q.1
     .rw [if_pos g1] at h1; rw [if_neg (by omega)] at h2; exact g.2 i c v h1 h2
     .rw [if_neg g1] at h1
      by_cases g2:i<q.1+(ρ p.2).cells.length
      .rw [if_pos g2] at h1; rw [if_pos (by omega),Array.getElem?_toList] at h2; exact hc.2 _ c v h1 h2
      .rw [if_neg g2] at h1; rw [if_neg (by omega)] at h2; exact g.2 i c v h1 h2
    obtain ⟨l,y,x⟩:=Ae1 hp j _ _ b u (fun z s=>hx z (by simp [s])) h
    refine ⟨l,?_,x⟩
    simp only [List.map_cons,Instr.fill,hp,hq]
    have f:((a.eval p.2).cells.size≠q.2||decide (q.1+(a.eval p.2).cells.size>C.size))=false:=by
     have:=g.1
     simp
     omega
    rw [f]
    simp only [Bool.false_eq_true,if_false]
    rw [<-Array.foldl_toList,Array.toList_zipIdx]
    exact y
theorem Aot {T:Cg} (S:Ch P T) {t:TypeId} {b:Array (Nat×Operand)} {i:TI} {fs:List (Nat×Nat)} {cs:List AV} (I:o.op = .build t b) (ht:T t=some i) (hd:i.d = .struct fs)
  (hc:Pt fs (i.zero.map .val) (b.toList.map fun p=>(p.1,ρ p.2))=some cs):Bo P o ρ ⟨.agg cs,[],[]⟩ :=
 Dn fun σ ι H a w s=>by
  obtain ⟨G,u,z,N,M,L,X,V,E,D⟩:=Dc (S t i ht)
  rw [hd] at D
  obtain ⟨fields,rfl,y,hpos⟩:=D
  have q:∀(h:List Field),(∀f∈h,0<P.cellsOf f.type)->h.mapM (fun f=>(P.info? f.type).map fun i=>(f.offset,i.size))=some (h.map fun f=>(f.offset,P.cellsOf f.type)):=by
   intro h
   induction h with
   | nil=>intro _; rfl
   | cons f h ih=>
    intro hp
    have h0:=hp f (by simp)
    have k:=ih (fun U A=>hp U (by simp [A]))
    unfold Program.cellsOf at h0 ⊢
    cases g:P.info? f.type with
    | none=>rw [g] at h0; simp at h0
    | some inf=>
     unfold Program.cellsOf at k
     rw [List.mapM_cons,k,g]
     simp [g]
  have R:Va σ ι H (i.zero.map .val) z.cells:=by
   refine ⟨by simp [E],fun j c v h1 h2=>?_⟩
   rw [E,List.getElem?_map,Array.getElem?_toList,h2] at h1
   simp at h1; subst h1; exact .of_val v
  obtain ⟨l,J,B⟩:=Ae1 (a:=a) (place:=fun n=>((fields.toList.map fun f=>(f.offset,P.cellsOf f.type)).toArray)[n]?) (fs:=fs) (fun n=>by rw [y]; simp) b.toList _ _ cs R
   (fun p hp=>s p.2 (by simp only [I,Op.operands]; simpa using ⟨p.1,by simpa using hp⟩)) hc
  refine ⟨.agg l,?_,.agg cs l B.1 B.2⟩
  have hb:P.built t ((b.map fun (i,x)=>(i,a.eval x)).toList)=some l:=by
   unfold Program.built
   rw [N,M]
   simp only [L,q fields.toList hpos]
   rw [<-J]
   simp
  simp only [execOp,I,Sem.run_bind,run_build w t _ l hb,Result.andThen_ok,Sem.run_pure]
end
end Go.Ab
namespace Go.Ab
section
variable {P:Program} {o:Oper} {ρ:Operand->AV} {a:Act} {w w':World} {next:Act->World->Prop} {Q:Exit->Act->World->Prop}
theorem Kn {sz:Nat} {x:AV} (h:It sz x=true):x.cells.length=sz/\∀c∈x.cells,c.cl1=true:=by
 unfold It at h
 simp only [Bool.and_eq_true] at h
 exact ⟨Nat.eq_of_beq_eq_true h.1,List.all_eq_true.1 h.2⟩
def Hv (vs:List Value):List Value:=vs.flatMap fun v=>v.cells.toList
theorem Zp {σ:Aw} {ι:Bi} {H:Hp} {sz:Nat}:∀(xs:List AV) (vs:List Value),xs.length=vs.length->(∀x∈xs,It sz x=true) ->
  (∀(i:Nat) (x:AV) (v:Value),xs[i]? = some x->vs[i]? = some v->Conc σ ι H x v) ->
  (Hv vs).length=xs.length*sz/\∃g:Nat->Nat->Value,(∀(i:Nat) (x:AV) (j:Nat) (c:AV),xs[i]? = some x->x.cells[j]? = some c->CC σ c (g i j)/\Du (g i j)=true) /\
   (∀(i j:Nat),i<xs.length->j<sz->(Hv vs)[i*sz+j]? = some (g i j))
 | [],[],_,_,_=>⟨by simp [Hv],fun _ _=>undef,by simp,by simp⟩
 | x::xs,v::vs,B,k,hc=>by
  obtain ⟨z,g,s,q⟩:=Zp xs vs (by simpa using B) (fun y hy=>k y (by simp [hy])) (fun i y u h1 h2=>hc (i+1) y u (by simpa using h1) (by simpa using h2))
  have h0:=hc 0 x v (by simp) (by simp)
  have hx:=Kn (k x (by simp))
  have f:=h0.cells
  have h:v.cells.toList.length=sz:=by simp [f.1,hx.1]
  have l:Hv (v::vs)=v.cells.toList++Hv vs:=by simp [Hv]
  refine ⟨by rw [l,List.length_append,z,h,List.length_cons,Nat.add_mul]; omega,fun i j=>if i=0 then (v.cells[j]?).getD undef else g (i-1) j,?_,?_⟩
  .intro i y j c hy hj
   cases i with
   | zero=>
    simp at hy; subst hy
    have b:j<v.cells.size:=by rw [f.1]; exact (List.getElem?_eq_some_iff.1 hj).1
    have:(v.cells[j]?).getD undef=v.cells[j]:=by simp [b]
    simp only [if_pos]
    rw [this]
    exact (f.2 j c _ hj (by simp [b])).cc_of (hx.2 c (List.mem_of_getElem? hj))
   | succ i=>
    have A:xs[i]? = some y:=by simpa using hy
    simpa using s i y j c A hj
  .intro i j hi hj
   rw [l]
   cases i with
   | zero=>
    rw [List.getElem?_append_left (by omega),Nat.zero_mul,Nat.zero_add,Array.getElem?_toList]
    have b:j<v.cells.size:=by rw [f.1,hx.1]; exact hj
    simp [b]
   | succ i=>
    rw [List.getElem?_append_right (by rw [h,Nat.add_mul]; omega),h,show (i+1)*sz+j-sz=i*sz+j by rw [Nat.add_mul]; omega]
    rw [q i j (by simpa using hi) hj]
    simp
theorem Ae2 {sz:Nat}:∀(vs:List Value) (m:Nat) (C:Array Value),(∀v∈vs,v.cells.size=sz)->C.size=(m+vs.length)*sz ->
  ∃f,Instr.fill (fun i=>some (i*sz,sz)) C ((vs.zipIdx m).map fun p=>(p.2,p.1))=some f/\f.size=C.size/\(∀k:Nat,k<m*sz->f[k]? = C[k]?) /\
   ∀k:Nat,m*sz<=k->f[k]? = (Hv vs)[k-m*sz]?
 | [],m,C,_,g=>by
  refine ⟨C,rfl,rfl,fun _ _=>rfl,fun k hk=>?_⟩
  simp only [List.length_nil,Nat.add_zero] at g
  simp [Hv]
  omega
 | v::vs,m,C,l,g=>by
  simp only [List.length_cons] at g
  have h0:=l v (by simp)
  have q:(m+(vs.length+1))*sz=m*sz+sz+vs.length*sz:=by rw [Nat.add_mul,Nat.add_mul]; omega
  have b:=Zo (m*sz) v.cells.toList 0 C (by simp; omega)
  simp only [Nat.add_zero,Array.length_toList,h0] at b
  obtain ⟨f,y,x,j,s⟩:=Ae2 vs (m+1) (((v.cells.toList.zipIdx 0).foldl (fun cs p=>cs.setIfInBounds (m*sz+p.2) p.1) C)) (fun u hu=>l u (by simp [hu]))
   (by rw [b.1,g,show m+1+vs.length=m+(vs.length+1) by omega])
  refine ⟨f,?_,by rw [x,b.1],?_,?_⟩
  .simp only [List.zipIdx_cons,List.map_cons,Instr.fill]
   have c:(v.cells.size≠sz||decide (m*sz+v.cells.size>C.size))=false:=by
    simp; omega
   rw [c]
   simp only [Bool.false_eq_true,if_false]
   rw [<-Array.foldl_toList,Array.toList_zipIdx]
   exact y
  .intro k hk
   rw [j k (by rw [Nat.add_mul]; omega),b.2 k,if_neg (by omega)]
  .intro k hk
   have h:Hv (v::vs)=v.cells.toList++Hv vs:=by simp [Hv]
   rw [h]
   by_cases h1:k<m*sz+sz
   .rw [j k (by rw [Nat.add_mul]; omega),b.2 k,if_pos (by omega),List.getElem?_append_left (by simp; omega)]
   .rw [s k (by rw [Nat.add_mul]; omega),List.getElem?_append_right (by simp; omega)]
    congr 1
    simp only [Array.length_toList,h0]
    rw [Nat.add_mul]; omega
theorem Aou (b:List (Nat×Operand)) (f:Operand->Value) (m:Nat) (h:b.map (·.1)=List.range' m b.length):b.map (fun p=>(p.1,f p.2))=((b.map fun p=>f p.2).zipIdx m).map fun p=>(p.2,p.1):=by
 induction b generalizing m with
 | nil=>rfl
 | cons p b ih=>
  simp only [List.map_cons,List.length_cons,List.range'_succ,List.cons.injEq] at h
  simp only [List.map_cons,List.zipIdx_cons,List.cons.injEq]
  exact ⟨by rw [h.1],ih (m+1) h.2⟩
theorem Ae3 {t:TypeId} {len:Nat} {b:Array (Nat×Operand)} {i c:TI} {e:TypeId} (R:o.op = .buildSlice t len b) (hi:F7 P t=some i) (hd:i.d = .slice e) (he:F7 P e=some c) (Y:0<c.size)
  (hp:b.toList.map (·.1)=List.range' 0 len) (a1:len*c.size<=16777216) (Z:∀p∈b.toList,(a.eval p.2).cells.size=c.size) :
  ∃C:Array Value,C.toList=Hv (b.toList.map fun p=>a.eval p.2)/\(execOp a.eval o).run P w = .ok (.value (.slice (some ⟨w.heap.size,0,none⟩) len len)) (w.alloc (.cells C e)):=by
 obtain ⟨N,u,z,k1,M,k3,k4,k5,k6,L⟩:=Dc hi
 rw [hd] at L; subst L
 obtain ⟨l,X,A⟩:=Aex he w
 have hs:=Jt he w
 have f:b.toList.length=len:=by have:=congrArg List.length hp; simpa using this
 have B:∀v∈(b.toList.map fun p=>a.eval p.2),v.cells.size=c.size:=by
  intro v q
  simp only [List.mem_map] at q
  obtain ⟨p,E,rfl⟩:=q
  exact Z p E
 have I:∀(vs:List Value),(∀v∈vs,v.cells.size=c.size)->(Hv vs).length=vs.length*c.size:=by
  intro vs
  induction vs with
  | nil=>intro _; simp [Hv]
  | cons v vs ih=>
   intro h
   have:=ih (fun u hu=>h u (by simp [hu]))
   have h0:=h v (by simp)
   simp only [Hv,List.flatMap_cons,List.length_append,Array.length_toList,h0,List.length_cons] at this ⊢
   rw [this,Nat.add_mul]; omega
 obtain ⟨y,V,U,r3,S⟩:=Ae2 (sz:=c.size) (b.toList.map fun p=>a.eval p.2) 0 ((Array.range (len*c.size)).map (l.cells[· % l.cells.size]!)) B (by simp [f])
 refine ⟨y,?_,?_⟩
 .apply List.ext_getElem?
  intro k
  rw [Array.getElem?_toList,S k (by omega)]
  simp
 .have hpos:0<len\/len=0:=by omega
  have j:Instr.fill (fun i=>some (i*c.size,c.size)) ((Array.range (len*c.size)).map (l.cells[· % l.cells.size]!)) ((b.map fun (i,x)=>(i,a.eval x)).toList)=some y:=by
   rw [<-V,<-Aou b.toList a.eval 0 (by rw [hp,f])]
   simp
  rcases hpos with hpos | hpos
  .have G:¬len*c.size=0:=by
    have:=Nat.mul_pos hpos Y; omega
   have s:¬len*c.size>2 ^ 24:=by omega
   have g:Instr.fill (fun i=>some (i*c.size,c.size)) ((Array.range (len*c.size)).map (l.cells[· % l.cells.size]!)) (b.toList.map fun x=>(x.1,a.eval x.2))=some y:=by
    rw [<-j]; simp
   simp [execOp,R,Instr.buildSlice,run_underlying M,hs,s,G,A,g,newRow,newObj,Sem.run]
  .subst hpos
   have J:y = #[]:=by
    apply Array.eq_empty_of_size_eq_zero
    rw [U]; simp
   subst J
   have D:b = #[]:=by
    apply Array.eq_empty_of_size_eq_zero
    simpa using f
   subst D
   have:(Array.map (fun _:Nat=>(default:Value)) (Array.range 0)) = #[]:=by simp
   simp [execOp,R,Instr.buildSlice,run_underlying M,hs,newRow,newObj,Sem.run,Instr.fill,this]
theorem Vb {t:TypeId} {len:Nat} {b:Array (Nat×Operand)} {p:Nat×Operand} (h:p∈b.toList):p.2∈(Op.buildSlice t len b).operands.toList:=by
 simp only [Op.operands]
 simpa using ⟨p.1,by simpa using h⟩
theorem Ae4 {T:Cg} (D:Ch P T) {t:TypeId} {len:Nat} {b:Array (Nat×Operand)} {i f:TI} {e:TypeId} (A:o.op = .buildSlice t len b) (ht:T t=some i) (hd:i.d = .slice e) (he:T e=some f) (B:0<f.size)
    (hp:b.toList.map (·.1)=List.range' 0 len) (z:len*f.size<=16777216) (k:∀p∈b.toList,It f.size (ρ p.2)=true) :
    Bo P o ρ ⟨.sl f.size (b.toList.map fun p=>ρ p.2),[],[]⟩:=by
  intro σ ι H F W w a next Q s l _ hk
  have u:b.toList.length=len:=by have:=congrArg List.length hp; simpa using this
  have y:∀p∈b.toList,(a.eval p.2).cells.size=f.size:=by
    intro p h
    rw [((l p.2 (by rw [A]; exact Vb h)).cells).1]
    exact (Kn (k p h)).1
  obtain ⟨C,J,E⟩:=Ae3 (P:=P) (a:=a) (w:=w) A (D t i ht) hd (D e f he) B hp z y
  obtain ⟨I,g,g1,g2⟩:=Zp (σ:=σ) (ι:=ι) (H:=H) (sz:=f.size) (b.toList.map fun p=>ρ p.2) (b.toList.map fun p=>a.eval p.2) (by simp)
    (by intro x hx; simp only [List.mem_map] at hx; obtain ⟨p,h,rfl⟩:=hx; exact k p h)
    (by
      intro j x v h1 h2
      rw [List.getElem?_map] at h1 h2
      cases hj:b.toList[j]? with
      | none=>rw [hj] at h1; simp at h1
      | some p=>
        rw [hj] at h1 h2; simp at h1 h2; subst h1; subst h2
        exact l p.2 (by rw [A]; exact Vb (List.mem_of_getElem? hj)))
  obtain ⟨s',le⟩:=s.newFrozen (.cells C e)
  refine D1 E (hk _ ι _ _ le s' (.cc ?_))
  have G:len<=140737488355328:=by
    have:len*1<=len*f.size:=Nat.mul_le_mul_left len B
    omega
  have:=CC.sl (σ:=A3 σ w.heap.size (some (.cells C e))) (b.toList.map fun p=>ρ p.2) w.heap.size 0 len f.size C e (0,0) g (B5 _ _ _)
    (by intro j x hj
        rw [List.getElem?_map] at hj
        cases hj':b.toList[j]? with
        | none=>rw [hj'] at hj; simp at hj
        | some p=>rw [hj'] at hj; simp at hj; subst hj; exact (Kn (k p (List.mem_of_getElem? hj'))).1)
    (fun j x q c h1 h2=>((g1 j x q c h1 h2).1).mono le.sto) (fun j x q c h1 h2=>(g1 j x q c h1 h2).2)
    (by intro j q hj hq; rw [Nat.zero_add,<-Array.getElem?_toList,J]; exact g2 j q hj hq) (by rw [List.length_map]; omega) (by rw [List.length_map]; omega)
  rw [List.length_map,u] at this
  exact this
theorem Aov {T:Cg} (J:Ch P T) {t:TypeId} {len:Nat} {b:Array (Nat×Operand)} {i c:TI} {e:TypeId} (h:Nat) (G:o.op = .buildSlice t len b) (ht:T t=some i) (hd:i.d = .slice e) (he:T e=some c) (A:0<c.size)
  (hp:b.toList.map (·.1)=List.range' 0 len) (D:len*c.size<=16777216) (k:∀p∈b.toList,It c.size (ρ p.2)=true) :
  Bo P o ρ ⟨.arr h len 0 len,[(h,.none)],[(h,.rows e c.size (b.toList.map fun p=>ρ p.2))]⟩:=by
 intro σ ι H F W w a next Q s l E hk
 have N:H h = .none:=E (h,.none) (by simp)
 have u:b.toList.length=len:=by have:=congrArg List.length hp; simpa using this
 have B:∀p∈b.toList,(a.eval p.2).cells.size=c.size:=by
  intro p f
  rw [((l p.2 (by rw [G]; exact Vb f)).cells).1]
  exact (Kn (k p f)).1
 obtain ⟨C,L,M⟩:=Ae3 (P:=P) (a:=a) (w:=w) G (J t i ht) hd (J e c he) A hp D B
 obtain ⟨I,g,g1,g2⟩:=Zp (σ:=σ) (ι:=ι) (H:=H) (sz:=c.size) (b.toList.map fun p=>ρ p.2) (b.toList.map fun p=>a.eval p.2) (by simp)
  (by intro x hx; simp only [List.mem_map] at hx; obtain ⟨p,f,rfl⟩:=hx; exact k p f)
  (by
   intro j x v h1 h2
   rw [List.getElem?_map] at h1 h2
   cases hj:b.toList[j]? with
   | none=>rw [hj] at h1; simp at h1
   | some p=>
    rw [hj] at h1 h2; simp at h1 h2; subst h1; subst h2
    exact l p.2 (by rw [G]; exact Vb (List.mem_of_getElem? hj)))
 have R:len<=140737488355328:=by
  have:len*1<=len*c.size:=Nat.mul_le_mul_left len A
  omega
 obtain ⟨s',le⟩:=s.newRows h e c.size (b.toList.map fun p=>ρ p.2) len C (.inl N) A (by rw [List.length_map]; omega) (by rw [List.length_map]; omega)
  (by rw [<-Array.length_toList,L,I,List.length_map,u]) ⟨g,(by
    intro j x hj
    rw [List.getElem?_map] at hj
    cases hj':b.toList[j]? with
    | none=>rw [hj'] at hj; simp at hj
    | some p=>rw [hj'] at hj; simp at hj; subst hj; exact (Kn (k p (List.mem_of_getElem? hj'))).1),g1,(by
    intro j q hj hq; rw [<-Array.getElem?_toList,L]; exact g2 j q hj hq)⟩
 refine D1 M (hk _ _ _ _ le s' ?_)
 refine .arr h len 0 len _ (by show A3 H h _ h≠_; rw [B5]; intro e; cases e) (fun S z y e'=>?_) rfl
 have e':A3 H h _ h = .rows S z y:=e'
 rw [B5] at e'; cases e'
 refine ⟨by rw [List.length_map]; omega,fun _=>?_⟩
 rw [B5]
 exact ⟨by omega,by rw [Nat.zero_mul]; rfl⟩
def D2 (i:TI):AV :=
 match i.d,i.zero with
 | .struct _,z=>.agg (z.map .val)
 | _,[v]=>.val v
 | _,z=>.agg (z.map .val)
theorem Ae5 {T:Cg} (hT:Ch P T) {t:TypeId} {x y:Operand} {i b:TI} {e:TypeId} {k k':IntKind} {l c:Nat} (J:AV) (h:Nat) (Z:o.op = .makeSlice t x y) (ht:T t=some i) (hd:i.d = .slice e) (he:T e=some b) (hz:0<b.size)
  (hx:ρ x = .val (.int k (l:Int))) (hy:ρ y = .val (.int k' (c:Int))) (a7:l<=c) (hb:b.bytes*c<=281474976710656) (hc:c<=140737488355328) (aa:J.cells.length=b.size) (a8:b.zero.length=b.size) (V:∀(q:Nat) (c:AV) (v:Value),J.cells[q]? = some c->b.zero[q]? = some v->(∀σ,CC σ c v)/\Du v=true) :
  Bo P o ρ ⟨.arr h l 0 l,[(h,.none)],[(h,.rows e b.size (List.replicate l J))]⟩:=by
 intro σ ι H F W w a next Q s G X hk
 have hn:H h = .none:=X (h,.none) (by simp)
 have h1:=C1 hx (G x (by simp [Z,Op.operands]))
 have h2:=C1 hy (G y (by simp [Z,Op.operands]))
 obtain ⟨ab,u,z,k1,k2,k3,k4,k5,k6,k7⟩:=Dc (hT t i ht)
 rw [hd] at k7; subst k7
 obtain ⟨B,u',f,U,ad,S,R,N,E,ac⟩:=Dc (hT e b he)
 have A:=run_make (P:=P) w t e B f k2 U S k k' (l:Int) (c:Int) (by omega) (by omega) (by
   have h':((b.bytes*c:Nat):Int)<=281474976710656:=by omega
   rw [Int.natCast_mul] at h'; rw [N]; exact h') (by omega)
 rw [Int.toNat_natCast,Int.toNat_natCast,R] at A
 have g:f.cells.size=b.size:=by
  rw [<-a8,E,Array.length_toList]
 have D:∀q,q<c*b.size->(madeCells f.cells (c*b.size))[q]? = f.cells[q % b.size]?:=by
  intro q hq
  unfold madeCells
  have hm:q % b.size<f.cells.size:=by rw [g]; exact Nat.mod_lt _ hz
  have a1:f.cells[q % b.size]! = f.cells[q % b.size]:=by simp [hm]
  simp [hq,g,a1]
 obtain ⟨s',le⟩:=s.newRows h e b.size (List.replicate l J) c (madeCells f.cells (c*b.size)) (.inl hn) hz (by simp; omega) (by simpa using a7) (by simp [madeCells])
  ⟨fun _ j=>(f.cells[j]?).getD undef,(by
   intro j x' hj
   have:=List.mem_of_getElem? hj
   simp at this
   rw [this.2]; exact aa),(by
   intro j x' q c' hj hq
   have:=List.mem_of_getElem? hj
   simp at this
   rw [this.2] at hq
   have Y:q<f.cells.size:=by
    have:=(List.getElem?_eq_some_iff.1 hq).1
    omega
   have hv:f.cells[q]? = some f.cells[q]:=Array.getElem?_eq_getElem Y
   have:=V q c' f.cells[q] hq (by rw [E,Array.getElem?_toList,hv])
   show CC σ c' ((f.cells[q]?).getD undef)/\Du ((f.cells[q]?).getD undef)=true
   rw [hv]
   exact ⟨this.1 σ,this.2⟩),(by
   intro j q hj hq
   have hj':j<l:=by simpa using hj
   have a6:j*b.size+q<c*b.size:=by
    have:(j+1)*b.size<=c*b.size:=Nat.mul_le_mul_right _ (by omega)
    rw [Nat.add_mul] at this; omega
   rw [D _ a6]
   have:(j*b.size+q) % b.size=q:=by rw [Nat.mul_comm,Nat.mul_add_mod,Nat.mod_eq_of_lt hq]
   rw [this]
   have I:q<f.cells.size:=by omega
   simp [I])⟩
 refine D1 (v:=.slice (some ⟨w.heap.size,0,none⟩) l c) ?_ (hk _ _ _ _ le s' ?_)
 .simp [execOp,Z,h1,h2,A]
 .refine .arr h l 0 l _ (by show A3 H h _ h≠_; rw [B5]; intro e; cases e) (fun E' M L e'=>?_) rfl
  have e':A3 H h _ h = .rows E' M L:=e'
  rw [B5] at e'; cases e'
  refine ⟨by simp,fun _=>?_⟩
  rw [B5]
  exact ⟨by omega,by rw [Nat.zero_mul]; rfl⟩
theorem Aow {T:Cg} (E:Ch P T) {t:TypeId} {x y:Operand} {i b:TI} {e:TypeId} {k z:IntKind} {l c:Nat} (h:Nat) (D:o.op = .makeSlice t x y) (ht:T t=some i) (hd:i.d = .slice e) (he:T e=some b) (A:0<b.size)
  (hx:ρ x = .val (.int k (l:Int))) (hy:ρ y = .val (.int z (c:Int))) (g:l<=c) (hb:b.bytes*c<=281474976710656) (hc:c<=140737488355328) (j:It b.size (D2 b)=true) (f:(D2 b).cells=b.zero.map .val) :
  Bo P o ρ ⟨.arr h l 0 l,[(h,.none)],[(h,.rows e b.size (List.replicate l (D2 b)))]⟩:=by
 obtain ⟨u,G⟩:=Kn j
 refine Ae5 E (D2 b) h D ht hd he A hx hy g hb hc u (by rw [<-u,f,List.length_map]) ?_
 intro q I v hq B
 have s:=G I (List.mem_of_getElem? hq)
 rw [f,List.getElem?_map,B] at hq
 simp at hq; subst hq
 exact ⟨fun σ=>.val v,s⟩
inductive Ev:List AV->List AV->Prop
 | nil:Ev [] []
 | same (c:AV) {l l':List AV} (h:Ev l l'):Ev (c::l) (c::l')
 | sl (s:Nat) {l l':List AV} (h:Ev l l'):Ev (.val (.slice none 0 0)::l) (.sl s []::l')
theorem Ev.spec {l g:List AV} (h:Ev l g):g.length=l.length/\∀(q:Nat) (c f:AV),l[q]? = some c->g[q]? = some f->f=c\/∃s,c = .val (.slice none 0 0)/\f = .sl s []:=by
 induction h with
 | nil=>exact ⟨rfl,fun q c f h=>by simp at h⟩
 | same c h ih=>
  refine ⟨by simp [ih.1],fun q a b h1 h2=>?_⟩
  cases q with
  | zero=>cases h1; cases h2; exact .inl rfl
  | succ q=>exact ih.2 q a b h1 h2
 | sl s h ih=>
  refine ⟨by simp [ih.1],fun q a b h1 h2=>?_⟩
  cases q with
  | zero=>cases h1; cases h2; exact .inr ⟨s,rfl,rfl⟩
  | succ q=>exact ih.2 q a b h1 h2
theorem Aox {T:Cg} (L:Ch P T) {t:TypeId} {x y:Operand} {i b:TI} {e:TypeId} {k D:IntKind} {l c:Nat} (j:AV) (h:Nat) (I:o.op = .makeSlice t x y) (ht:T t=some i) (hd:i.d = .slice e) (he:T e=some b) (E:0<b.size)
  (hx:ρ x = .val (.int k (l:Int))) (hy:ρ y = .val (.int D (c:Int))) (u:l<=c) (hb:b.bytes*c<=281474976710656) (hc:c<=140737488355328) (z:It b.size (D2 b)=true) (f:(D2 b).cells=b.zero.map .val) (J:Ev (D2 b).cells j.cells) :
  Bo P o ρ ⟨.arr h l 0 l,[(h,.none)],[(h,.rows e b.size (List.replicate l j))]⟩:=by
 obtain ⟨N,M⟩:=Kn z
 obtain ⟨S,B⟩:=J.spec
 refine Ae5 L j h I ht hd he E hx hy u hb hc (by omega) (by rw [<-N,f,List.length_map]) ?_
 intro q R v hq G
 have g:(D2 b).cells[q]? = some (.val v):=by rw [f,List.getElem?_map,G]; rfl
 have A:=M _ (List.mem_of_getElem? g)
 rcases B q _ R g hq with rfl | ⟨s,h1,rfl⟩
 .exact ⟨fun σ=>.val v,A⟩
 .cases h1
  exact ⟨fun σ=>.nil s _ _,rfl⟩
end
end Go.Ab
namespace Go.Ab
section
variable {P:Program} {o:Oper} {ρ:Operand->AV} {a:Act} {w w':World} {next:Act->World->Prop} {Q:Exit->Act->World->Prop}
structure Iu (P:Program) (w:World) (src:Value) (sz n:Nat) (Bs:List Value):Prop where
 len:∀d,(Builtin.lenOf src).run P {w with drawn:=d} = .ok n {w with drawn:=d}
 cells:∀d,(Builtin.firstCells sz n src).run P {w with drawn:=d} = .ok Bs.toArray {w with drawn:=d}
 size:Bs.length=n*sz
theorem Hw {t:TypeId} {i:TI} {e:TypeId} (h:F7 P t=some i) (hd:i.d = .slice e):∃u,P.underlying t=some u/\u = .slice e:=by
 obtain ⟨c,u,z,q,f,l,k,j,g,b⟩:=Dc h
 rw [hd] at b
 exact ⟨u,f,b⟩
theorem Ae6 {t s ty e:TypeId} {i:TypeInfo} {j:TypeDesc} (ht:P.underlying t=some (.slice e)) (l:P.underlying s=some j) (k:(∃e',j = .slice e')\/j = .string) (hi:P.info? e=some i) (b:Addr) (c f n:Nat) (g:Value) (Bs:List Value)
  (hs:Iu P w g i.size n Bs) (h:c+n<=f) (q:(storeCells (b.add (c*i.size)) Bs).run P w = .ok () w') :
  (Builtin.append_ #[t,s] ty #[.slice (some b) c f,g]).run P w = .ok (.slice (some b) (c+n) f) w':=by
 have h1:=hs.len w.drawn
 have h2:=hs.cells w.drawn
 have u:({w with drawn:=w.drawn}:World)=w:=rfl
 rw [u] at h1 h2
 rcases k with ⟨e',rfl⟩ | rfl <;>
 simp [Builtin.append_,run_underlying ht,run_underlying l,sizeOf,typeInfo,hi,h1,h,h2,q]
theorem Aoy {t h ty e:TypeId} {i:TypeInfo} {c:TypeDesc} (ht:P.underlying t=some (.slice e)) (g:P.underlying h=some c) (f:(∃e',c = .slice e')\/c = .string) (hi:P.info? e=some i) (b:Value)
  (hs:Iu P w b i.size 0 []) :
  (Builtin.append_ #[t,h] ty #[.slice none 0 0,b]).run P w = .ok (.slice none 0 0) w:=by
 have h1:=hs.len w.drawn
 have h2:=hs.cells w.drawn
 have j:({w with drawn:=w.drawn}:World)=w:=rfl
 rw [j] at h1 h2
 rcases f with ⟨e',rfl⟩ | rfl <;>
 simp [Builtin.append_,run_underlying ht,run_underlying g,sizeOf,typeInfo,hi,h1,h2]
theorem Zq {t s ty e:TypeId} {i:TypeInfo} {k:TypeDesc} {z:Value} (ht:P.underlying t=some (.slice e)) (q:P.underlying s=some k) (l:(∃e',k = .slice e')\/k = .string) (hi:P.info? e=some i) (u:i.zero=some z) (p:Option Addr) (b c n:Nat) (g:Value) (f Bs:List Value)
  (hs:Iu P w g i.size n Bs) (x:Iu P w (.slice p b c) i.size b f) (A:c<b+n) (B:b+n<=9223372036854775807) (hb:(b+n)*i.bytes<=140737488355328) :
  (Builtin.append_ #[t,s] ty #[.slice p b c,g]).run P w =
   .ok (.slice (some ⟨w.heap.size,0,none⟩) (b+n) (grownCap w (b+n) c e))
    (w.drew.alloc (.cells ((f++Bs).toArray++Builtin.zeroCells z.cells (grownCap w (b+n) c e-(b+n))) e)):=by
 have h1:=hs.len w.drawn
 have h2:=hs.cells (w.drawn+1)
 have h3:=x.cells (w.drawn+1)
 have E:({w with drawn:=w.drawn}:World)=w:=rfl
 have D:({w with drawn:=w.drawn+1}:World)=w.drew:=rfl
 rw [E] at h1
 rw [D] at h2 h3
 have y:¬(b+n<=c):=by omega
 have h:¬(9223372036854775807<((b:Int)+(n:Int))):=by omega
 have j:¬(281474976710656<Builtin.nextslicecap (b+n) c*i.bytes):=by
  have:=growslice_fits A hb; omega
 rcases l with ⟨e',rfl⟩ | rfl <;>
 simp [Builtin.append_,run_underlying ht,run_underlying q,sizeOf,typeInfo,zeroValue,hi,u,h1,y,h,j,Question.forced,h2,h3,newRow,grownCap] <;>
 (congr 2; apply Array.ext'; simp [List.append_assoc])
theorem Vc (w:World) (b c:Nat) (e:TypeId):b<=grownCap w b c e:=by
 unfold grownCap; show b<=b+_; omega
theorem Vd {σ:Aw} {ι:Bi} {H:Hp} {F:Aw} {W:World} (s:St σ ι H F W w) {sz:Nat} (u:0<sz) {ys:List AV} {v:Value} (hc:CC σ (.sl sz ys) v) :
  ∃(Bs:List Value) (g:Nat->Nat->Value),Iu P w v sz ys.length Bs/\(∀(i:Nat) (x:AV),ys[i]? = some x->x.cells.length=sz) /\
   (∀(i:Nat) (x:AV) (j:Nat) (c:AV),ys[i]? = some x->x.cells[j]? = some c->CC σ c (g i j)/\Du (g i j)=true)/\(∀(i j:Nat),i<ys.length->j<sz->Bs[i*sz+j]? = some (g i j)):=by
 rcases hc.sl_inv with ⟨rfl,p,cap,rfl⟩ | ⟨b,off,cap,C,E,fr,g,rfl,z,hs,l,A,G,y⟩
 .refine ⟨[],fun _ _=>undef,⟨fun d=>by simp [Builtin.lenOf],fun d=>?_,by simp⟩,by simp,by simp,by simp⟩
  cases p with
  | none=>simp [Builtin.firstCells]
  | some a=>simp [Builtin.firstCells,loadCells,loadCellsFrom]
 .refine ⟨(List.range (ys.length*sz)).map fun q=>g (q / sz) (q % sz),g,⟨fun d=>by simp [Builtin.lenOf],fun d=>?_,by simp⟩,hs,l,fun i j hi hj=>?_⟩
  .have hb:({w with drawn:=d}:World).heap[b]? = some (.cells C E fr):=s.sto _ _ z
   have:=run_loadCells (P:=P) {w with drawn:=d} ⟨b,off,none⟩ (ys.length*sz) (fun q=>g (q / sz) (q % sz)) (by
    intro q hq
    rw [Hu,Hi hb]
    have h:q / sz<ys.length:=Nat.div_lt_of_lt_mul (by rwa [Nat.mul_comm] at hq)
    have f:q % sz<sz:=Nat.mod_lt _ u
    have:=A (q / sz) (q % sz) h f
    rw [<-this]
    congr 1
    have:=Nat.div_add_mod q sz
    rw [Nat.mul_comm] at this; omega)
   simp only [Builtin.firstCells]
   exact this
  .have k:i*sz+j<ys.length*sz:=by
    have:(i+1)*sz<=ys.length*sz:=Nat.mul_le_mul_right _ (by omega)
    rw [Nat.add_mul] at this; omega
   rw [List.getElem?_map,List.getElem?_range k]
   have D:(i*sz+j) / sz=i:=by rw [Nat.mul_comm,Nat.mul_add_div u,Nat.div_eq_of_lt hj]; omega
   have B:(i*sz+j) % sz=j:=by rw [Nat.mul_comm,Nat.mul_add_mod,Nat.mod_eq_of_lt hj]
   simp [D,B]
theorem F6.append {σ:Aw} {sz:Nat} {xs ys:List AV} {C q:Array Value} (hx:F6 σ sz xs C) (f:Nat->Nat->Value) (h1:∀(i:Nat) (x:AV),ys[i]? = some x->x.cells.length=sz)
  (h2:∀(i:Nat) (x:AV) (j:Nat) (c:AV),ys[i]? = some x->x.cells[j]? = some c->CC σ c (f i j)/\Du (f i j)=true)
  (l:∀k:Nat,k<xs.length*sz->q[k]? = C[k]?) (h:∀(i j:Nat),i<ys.length->j<sz->q[(xs.length+i)*sz+j]? = some (f i j)):F6 σ sz (xs++ys) q:=by
 obtain ⟨g,y,u,s⟩:=hx
 refine ⟨fun i j=>if i<xs.length then g i j else f (i-xs.length) j,?_,?_,?_⟩
 .intro i x hi
  by_cases b:i<xs.length
  .rw [List.getElem?_append_left b] at hi; exact y i x hi
  .rw [List.getElem?_append_right (by omega)] at hi; exact h1 _ x hi
 .intro i x j c hi hj
  by_cases b:i<xs.length
  .rw [List.getElem?_append_left b] at hi
   simp only [if_pos b]; exact u i x j c hi hj
  .rw [List.getElem?_append_right (by omega)] at hi
   simp only [if_neg b]; exact h2 _ x j c hi hj
 .intro i j hi hj
  by_cases b:i<xs.length
  .simp only [if_pos b]
   rw [l _ (by
    have:(i+1)*sz<=xs.length*sz:=Nat.mul_le_mul_right _ (by omega)
    rw [Nat.add_mul] at this; omega)]
   exact s i j b hj
  .simp only [if_neg b]
   have:=h (i-xs.length) j (by simp at hi; omega) hj
   rwa [show xs.length+(i-xs.length)=i by omega] at this
theorem Ve {σ:Aw} {ι:Bi} {H:Hp} {F:Aw} {W:World} (s:St σ ι H F W w) {t t' ty e:TypeId} {i:TI} {u':TypeDesc} (ht:P.underlying t=some (.slice e)) (M:P.underlying t'=some u') (L:(∃e',u' = .slice e')\/u' = .string) (he:F7 P e=some i) (hz:0<i.size) (ab:i.zero.length=i.size)
  {h:Nat} {xs ys:List AV} (X:H h = .rows e i.size xs) {v y:Value} (Y:E5 (ι h) i.size 0 xs.length v) (ag:1<=i.bytes) (hb:(xs.length+ys.length)*i.bytes<=140737488355328)
  {Bs:List Value} {g:Nat->Nat->Value} (hs:Iu P w y i.size ys.length Bs) (h1:∀(l:Nat) (x:AV),ys[l]? = some x->x.cells.length=i.size)
  (h2:∀(l:Nat) (x:AV) (j:Nat) (c:AV),ys[l]? = some x->x.cells[j]? = some c->CC σ c (g l j)/\Du (g l j)=true) (h3:∀(l j:Nat),l<ys.length->j<i.size->Bs[l*i.size+j]? = some (g l j))
  (a1:∀u∈Bs,Du u=true) :
  ∃(ι':Bi) (v':Value) (w':World),(Builtin.append_ #[t,t'] ty #[v,y]).run P w = .ok v' w'/\Le σ ι H σ ι' (A3 H h (.rows e i.size (xs++ys)))/\St σ ι' (A3 H h (.rows e i.size (xs++ys))) F W w' /\
   E5 (ι' h) i.size 0 (xs.length+ys.length) v':=by
 obtain ⟨N,u,z,k1,k2,k3,R,k5,k6,k7⟩:=Dc he
 have q:xs.length+ys.length<=140737488355328:=by
  have:(xs.length+ys.length)*1<=(xs.length+ys.length)*i.bytes:=Nat.mul_le_mul_left _ ag
  omega
 have ac:z.cells.size=i.size:=by rw [<-ab,k6]; simp
 have B:∀n,(Builtin.zeroCells z.cells n).size=n*i.size:=by intro n; simp [Builtin.zeroCells,ac]
 have E:=s.obj h
 unfold Ca at E; rw [X] at E
 obtain ⟨_,_,E⟩:=E
 unfold E5 at Y
 split at Y
 .
  rename_i a7
  obtain ⟨rfl,_,ae⟩:=Y
  have ad:xs = []:=List.eq_nil_of_length_eq_zero ae
  subst ad
  by_cases hy:ys = []
  .subst hy
   have V:Bs = []:=List.eq_nil_of_length_eq_zero (by rw [hs.size]; simp)
   subst V
   refine ⟨ι,.slice none 0 0,w,Aoy ht M L k1 y (by rw [R]; exact hs),?_,?_,?_⟩
   .rw [List.append_nil,<-X,Gl]; exact Le.refl _ _ _
   .rw [List.append_nil,<-X,Gl]; exact s
   .rw [a7]; exact ⟨rfl,rfl,rfl⟩
  .have hpos:0<ys.length:=List.length_pos_iff.2 hy
   have ho:Iu P w (.slice none 0 0) N.size 0 []:=⟨fun d=>by simp [Builtin.lenOf],fun d=>by simp [Builtin.firstCells],by simp⟩
   have U:=Zq (P:=P) (ty:=ty) (w:=w) ht M L k1 k3 none 0 0 ys.length y [] Bs (by rw [R]; exact hs) ho (by omega) (by simp at q; omega) (by rw [k5]; simpa using hb)
   rw [Nat.zero_add,List.nil_append] at U
   have hge:=Vc w ys.length 0 e
   obtain ⟨s',le⟩:=(s.drew (w.drawn+1)).newRows h e i.size ([]++ys) (grownCap w ys.length 0 e) (Bs.toArray++Builtin.zeroCells z.cells (grownCap w ys.length 0 e-ys.length))
    (.inr ⟨e,i.size,[],X,by simpa using hpos⟩) hz (by simpa using q) (by simpa using hge)
    (by rw [Array.size_append,B]; simp [hs.size,<-Nat.add_mul]; rw [Nat.add_sub_cancel' hge]) ⟨g,(by simpa using h1),(by simpa using h2),(by
     intro l j hi hj
     simp only [List.nil_append] at hi
     have G:l*i.size+j<Bs.length:=by
      have:(l+1)*i.size<=ys.length*i.size:=Nat.mul_le_mul_right _ (by omega)
      rw [Nat.add_mul] at this; rw [hs.size]; omega
     rw [Array.getElem?_append_left (by simpa using G),List.getElem?_toArray]
     exact h3 l j hi hj)⟩
   refine ⟨_,_,_,U,le,s',?_⟩
   rw [B5]
   simp only [List.length_nil,Nat.zero_add]
   exact ⟨by omega,by rw [Nat.zero_mul]; rfl⟩
 .
  rename_i b f A
  obtain ⟨af,rfl⟩:=Y
  rcases E with ⟨e1,_⟩ | ⟨b',ah,C,e1,p1,p2,p3,p4,p5,p6⟩
  .rw [A] at e1; cases e1
  rw [A] at e1; cases e1
  by_cases J:xs.length+ys.length<=f
  .
   have S:xs.length*i.size+Bs.length<=C.size:=by
    rw [hs.size,<-Nat.add_mul,p4]; exact Nat.mul_le_mul_right _ J
   have Z:=run_storeCells_at (P:=P) b (xs.length*i.size) e Bs 0 C w p3 (by simpa using S) (fun u hu=>by rw [Zf]; exact a1 u hu)
   simp only [Nat.add_zero] at Z
   have U:=Ae6 (P:=P) (ty:=ty) (w:=w) ht M L k1 ⟨b,0,none⟩ xs.length f ys.length y Bs (by rw [R]; exact hs) J (by rw [Hu,Nat.zero_add,R]; exact Z)
   have D:F6 σ i.size (xs++ys) (C.toList.take (xs.length*i.size)++Bs++C.toList.drop (xs.length*i.size+Bs.length)).toArray:=by
    refine F6.append p6 g h1 h2 ?_ ?_
    .intro k hk
     rw [Pu _ _ _ S,if_pos hk]
    .intro l j hi hj
     have G:l*i.size+j<Bs.length:=by
      have:(l+1)*i.size<=ys.length*i.size:=Nat.mul_le_mul_right _ (by omega)
      rw [Nat.add_mul] at this; rw [hs.size]; omega
     have e2:(xs.length+l)*i.size+j=xs.length*i.size+(l*i.size+j):=by rw [Nat.add_mul]; omega
     rw [Pu _ _ _ S,e2,if_neg (by omega),if_pos (by omega),Nat.add_sub_cancel_left]
     exact h3 l j hi hj
   have aa:(C.toList.take (xs.length*i.size)++Bs++C.toList.drop (xs.length*i.size+Bs.length)).toArray.size=f*i.size:=by
    simp; omega
   by_cases hy:ys = []
   .subst hy
    obtain ⟨s',le⟩:=s.setRows h e i.size xs (xs++[]) X b f A (by simp) _ aa D
    refine ⟨ι,_,_,by simpa using U,le,s',?_⟩
    rw [A]
    exact ⟨by simpa using af,by simp⟩
   .have hpos:0<ys.length:=List.length_pos_iff.2 hy
    obtain ⟨s',le⟩:=s.growIn h e i.size xs (xs++ys) X b f A (by simp; omega) (by simpa using q) (by simpa using J) _ aa D
    refine ⟨ι,_,_,by simpa using U,le,s',?_⟩
    rw [A]
    exact ⟨by omega,by simp⟩
  .
   have a6:Iu P w (.slice (some ⟨b,0*i.size,none⟩) xs.length (f-0)) N.size xs.length (C.toList.take (xs.length*i.size)):=by
    refine ⟨fun d=>by simp [Builtin.lenOf],fun d=>?_,?_⟩
    .have hb':({w with drawn:=d}:World).heap[b]? = some (.cells C e (0,0)):=p3
     have I:(C.toList.take (xs.length*i.size)).length=xs.length*i.size:=by
      have:C.toList.length=f*i.size:=by rw [Array.length_toList,p4]
      rw [List.length_take,this]
      exact Nat.min_eq_left (Nat.mul_le_mul_right _ p5)
     have:=run_loadCells_list (P:=P) {w with drawn:=d} ⟨b,0,none⟩ (C.toList.take (xs.length*i.size)) (by
      intro j u hj
      have G:j<xs.length*i.size:=by
       have:=(List.getElem?_eq_some_iff.1 hj).1; omega
      rw [List.getElem?_take_of_lt G,Array.getElem?_toList] at hj
      rw [Hu,Nat.zero_add,Hi hb']; exact hj)
     rw [I] at this
     simp only [Builtin.firstCells,Nat.zero_mul,R]
     exact this
    .have:C.toList.length=f*i.size:=by rw [Array.length_toList,p4]
     rw [R,List.length_take,this]
     exact Nat.min_eq_left (Nat.mul_le_mul_right _ p5)
   have U:=Zq (P:=P) (ty:=ty) (w:=w) ht M L k1 k3 (some ⟨b,0*i.size,none⟩) xs.length (f-0) ys.length y _ Bs (by rw [R]; exact hs) a6 (by omega) (by omega) (by rw [k5]; exact hb)
   have hge:=Vc w (xs.length+ys.length) (f-0) e
   have I:(C.toList.take (xs.length*i.size)).length=xs.length*i.size:=by
    have:C.toList.length=f*i.size:=by rw [Array.length_toList,p4]
    rw [List.length_take,this]
    exact Nat.min_eq_left (Nat.mul_le_mul_right _ p5)
   have hpos:0<ys.length:=by omega
   have a8:(C.toList.take (xs.length*i.size)++Bs).length=(xs.length+ys.length)*i.size:=by rw [List.length_append,I,hs.size,Nat.add_mul]
   obtain ⟨s',le⟩:=(s.drew (w.drawn+1)).newRows h e i.size (xs++ys) (grownCap w (xs.length+ys.length) (f-0) e)
    ((C.toList.take (xs.length*i.size)++Bs).toArray++Builtin.zeroCells z.cells (grownCap w (xs.length+ys.length) (f-0) e-(xs.length+ys.length)))
    (.inr ⟨e,i.size,xs,X,by simp; omega⟩) hz (by simpa using q) (by simpa using hge)
    (by rw [Array.size_append,B,List.size_toArray,a8,<-Nat.add_mul,Nat.add_sub_cancel' hge]) (by
     refine F6.append p6 g h1 h2 ?_ ?_
     .intro k hk
      rw [Array.getElem?_append_left (by rw [List.size_toArray,a8,Nat.add_mul]; omega),List.getElem?_toArray,List.getElem?_append_left (by omega),List.getElem?_take_of_lt hk,Array.getElem?_toList]
     .intro l j hi hj
      have G:l*i.size+j<Bs.length:=by
       have:(l+1)*i.size<=ys.length*i.size:=Nat.mul_le_mul_right _ (by omega)
       rw [Nat.add_mul] at this; rw [hs.size]; omega
      have e2:(xs.length+l)*i.size+j=xs.length*i.size+(l*i.size+j):=by rw [Nat.add_mul]; omega
      rw [Array.getElem?_append_left (by rw [List.size_toArray,List.length_append,I]; omega),List.getElem?_toArray,e2,List.getElem?_append_right (by omega),I,Nat.add_sub_cancel_left]
      exact h3 l j hi hj)
   refine ⟨_,_,_,U,le,s',?_⟩
   rw [B5]
   exact ⟨by omega,by rw [Nat.zero_mul]; rfl⟩
 .exact Y.elim
end
end Go.Ab
namespace Go.Ab
section
variable {P:Program} {o:Oper} {ρ:Operand->AV} {a:Act} {w w':World} {next:Act->World->Prop} {Q:Exit->Act->World->Prop}
theorem Vf {sz n:Nat} {Bs:List Value} {g:Nat->Nat->Value} (k:0<sz) (s:Bs.length=n*sz) {ys:List AV} (l:ys.length=n) (h1:∀(b:Nat) (x:AV),ys[b]? = some x->x.cells.length=sz)
  {σ:Aw} (h2:∀(b:Nat) (x:AV) (j:Nat) (c:AV),ys[b]? = some x->x.cells[j]? = some c->CC σ c (g b j)/\Du (g b j)=true) (h3:∀(b j:Nat),b<ys.length->j<sz->Bs[b*sz+j]? = some (g b j)) :
  ∀u∈Bs,Du u=true:=by
 intro u hu
 obtain ⟨q,hq⟩:=List.getElem?_of_mem hu
 have i:=(List.getElem?_eq_some_iff.1 hq).1
 have h:q / sz<ys.length:=by rw [l]; exact Nat.div_lt_of_lt_mul (by rw [s,Nat.mul_comm] at i; exact i)
 have f:q % sz<sz:=Nat.mod_lt _ k
 have e:=h3 (q / sz) (q % sz) h f
 rw [show q / sz*sz+q % sz=q by have:=Nat.div_add_mod q sz; rw [Nat.mul_comm] at this; omega,hq] at e
 cases e
 have hx:=List.getElem?_eq_getElem h
 have hc:(q % sz)<(ys[q / sz]).cells.length:=by rw [h1 _ _ hx]; exact f
 exact (h2 _ _ _ _ hx (List.getElem?_eq_getElem hc)).2
theorem Pv {t f ty:TypeId} {x y:Operand} (h:o.op = .call {callee:=.builtin .append,args:=#[x,y],argTypes:=#[t,f]}) (b:o.type=ty) {c:Value} (g:(Builtin.append_ #[t,f] ty #[a.eval x,a.eval y]).run P w = .ok c w') :
  (execOp a.eval o).run P w = .ok (.value c) w':=by
 subst b
 simp [execOp,h,resolve,invoke,builtin,g]
theorem Aoz {T:Cg} (V:Ch P T) {t B:TypeId} {x y:Operand} {i c E:TI} {e e':TypeId} {h k:Nat} {xs ys:List AV} (R:o.op = .call {callee:=.builtin .append,args:=#[x,y],argTypes:=#[t,B]})
  (ht:T t=some i) (hd:i.d = .slice e) (M:T B=some E) (S:E.d = .slice e') (he:T e=some c) (I:0<c.size) (G:c.zero.length=c.size) (U:1<=c.bytes)
  (hx:ρ x = .arr h k 0 k) (f:xs.length=k) (hy:ρ y = .sl c.size ys) (hb:(xs.length+ys.length)*c.bytes<=140737488355328) :
  Bo P o ρ ⟨.arr h (k+ys.length) 0 (k+ys.length),[(h,.rows e c.size xs)],[(h,.rows e c.size (xs++ys))]⟩:=by
 intro σ ι H F W w a next Q s q N hk
 have Y:H h = .rows e c.size xs:=N (h,.rows e c.size xs) (by simp)
 have l:=q x (by simp [R,Op.operands,Call.operands])
 have j:=q y (by simp [R,Op.operands,Call.operands])
 rw [hx] at l; rw [hy] at j
 have X:=l.arr_inv Y f
 rw [<-f] at X
 obtain ⟨u1,L,e1⟩:=Hw (V t i ht) hd
 obtain ⟨u2,J,e2⟩:=Hw (V B E M) S
 subst e1; subst e2
 obtain ⟨Bs,g,hs,h1,h2,h3⟩:=Vd (P:=P) s I j.sl_inv
 obtain ⟨Z,A,w',hr,le,s',b⟩:=Ve (P:=P) (ty:=o.type) s L J (.inl ⟨_,rfl⟩) (V e c he) I G Y X U hb hs h1 h2 h3 (Vf I hs.size rfl h1 h2 h3)
 refine D1 (Pv R rfl hr) (hk σ Z A w' le s' ?_)
 have u:Du A=true:=by
  unfold E5 at b
  split at b
  .rw [b.1]; rfl
  .rw [b.2]; rfl
  .exact b.elim
 refine .arr _ _ _ _ A (by show A3 H h _ h≠_; rw [B5]; intro e; cases e) (fun E' D z e'=>?_) u
 have e':A3 H h _ h = .rows E' D z:=e'
 rw [B5] at e'; cases e'
 refine ⟨by rw [List.length_append]; omega,fun _=>?_⟩
 rw [f] at b
 exact b
def G3 (s:ByteArray):List AV:=s.data.toList.map fun b=>.val (.int .u8 b.toNat)
theorem Ao0 (s:ByteArray):(G3 s).length=s.size:=by
 unfold G3
 rw [List.length_map,Array.length_toList]; rfl
theorem Ao1 (s:ByteArray):∃(Bs:List Value) (g:Nat->Nat->Value),Iu P w (.string s) 1 (G3 s).length Bs/\(∀(i:Nat) (x:AV),(G3 s)[i]? = some x->x.cells.length=1) /\
  (∀(σ:Aw) (i:Nat) (x:AV) (j:Nat) (c:AV),(G3 s)[i]? = some x->x.cells[j]? = some c->CC σ c (g i j)/\Du (g i j)=true)/\∀(i j:Nat),i<(G3 s).length->j<1->Bs[i*1+j]? = some (g i j):=by
 have f:=Ao0 s
 refine ⟨Lib.strCells s,fun i _=>.int .u8 ((s.data.toList.getD i 0).toNat),⟨fun d=>?_,fun d=>?_,?_⟩,?_,?_,?_⟩
 .rw [f]; simp [Builtin.lenOf]
 .rw [f]; exact Lib.run_firstCells_string _ 1 s
 .rw [f,Lib.strCells_length]; omega
 .intro i x hx
  simp only [G3,List.getElem?_map,Option.map_eq_some_iff] at hx
  obtain ⟨b,_,rfl⟩:=hx
  rfl
 .intro σ i x j c hx hc
  simp only [G3,List.getElem?_map,Option.map_eq_some_iff] at hx
  obtain ⟨b,hb,rfl⟩:=hx
  simp only [AV.cells] at hc
  cases j with
  | zero=>
   simp at hc; subst hc
   have e:s.data.toList.getD i 0=b:=by rw [List.getD_eq_getElem?_getD,hb]; rfl
   dsimp only
   rw [e]
   exact ⟨.val _,rfl⟩
  | succ j=>simp at hc
 .intro i j hi hj
  have hj:j=0:=by omega
  subst hj
  have hi:i<s.data.toList.length:=by unfold G3 at hi; rwa [List.length_map] at hi
  have e:s.data.toList.getD i 0=s.data.toList[i]:=by rw [List.getD_eq_getElem?_getD,List.getElem?_eq_getElem hi]; rfl
  dsimp only
  rw [e]
  unfold Lib.strCells
  rw [Nat.mul_one,Nat.add_zero,List.getElem?_map,List.getElem?_eq_getElem hi]; rfl
theorem Ao2 {T:Cg} (U:Ch P T) {t A:TypeId} {x y:Operand} {i c D:TI} {e:TypeId} {h k:Nat} {xs:List AV} {s:ByteArray} (N:o.op = .call {callee:=.builtin .append,args:=#[x,y],argTypes:=#[t,A]})
  (ht:T t=some i) (hd:i.d = .slice e) (L:T A=some D) (R:D.d = .string) (he:T e=some c) (hz:c.size=1) (E:c.zero.length=c.size) (S:1<=c.bytes)
  (hx:ρ x = .arr h k 0 k) (f:xs.length=k) (hy:ρ y = .val (.string s)) (hb:(xs.length+(G3 s).length)*c.bytes<=140737488355328) :
  Bo P o ρ ⟨.arr h (k+(G3 s).length) 0 (k+(G3 s).length),[(h,.rows e c.size xs)],[(h,.rows e c.size (xs++G3 s))]⟩:=by
 intro σ ι H F W w a next Q st l M hk
 have X:H h = .rows e c.size xs:=M (h,.rows e c.size xs) (by simp)
 have j:=l x (by simp [N,Op.operands,Call.operands])
 have G:=C1 hy (l y (by simp [N,Op.operands,Call.operands]))
 rw [hx] at j
 have V:=j.arr_inv X f
 rw [<-f] at V
 obtain ⟨u1,J,e1⟩:=Hw (U t i ht) hd
 obtain ⟨_,u2,_,_,I,_,_,_,_,Y⟩:=Dc (U A D L)
 rw [R] at Y
 subst e1; subst Y
 obtain ⟨Bs,g,hs,h1,h2,h3⟩:=Ao1 (P:=P) (w:=w) s
 rw [<-hz] at hs h1 h3
 obtain ⟨Z,z,w',hr,le,s',b⟩:=Ve (P:=P) (ty:=o.type) st J I (.inr rfl) (U e c he) (by omega) E X V S hb hs h1 (h2 σ) h3 (Vf (by omega) hs.size rfl h1 (h2 σ) h3)
 refine D1 (Pv N rfl (by rw [G]; exact hr)) (hk σ Z z w' le s' ?_)
 have q:Du z=true:=by
  unfold E5 at b
  split at b
  .rw [b.1]; rfl
  .rw [b.2]; rfl
  .exact b.elim
 refine .arr _ _ _ _ z (by show A3 H h _ h≠_; rw [B5]; intro e; cases e) (fun E' B u e'=>?_) q
 have e':A3 H h _ h = .rows E' B u:=e'
 rw [B5] at e'; cases e'
 refine ⟨by rw [List.length_append]; omega,fun _=>?_⟩
 rw [f] at b
 exact b
theorem Ao3 {T:Cg} (V:Ch P T) {t A:TypeId} {x y:Operand} {i c E:TI} {e e':TypeId} (h:Nat) {ys:List AV} (R:o.op = .call {callee:=.builtin .append,args:=#[x,y],argTypes:=#[t,A]})
  (ht:T t=some i) (hd:i.d = .slice e) (L:T A=some E) (S:E.d = .slice e') (he:T e=some c) (l:0<c.size) (G:c.zero.length=c.size) (U:1<=c.bytes)
  (hx:ρ x = .val (.slice none 0 0)) (hy:ρ y = .sl c.size ys) (hb:ys.length*c.bytes<=140737488355328) :
  Bo P o ρ ⟨.arr h ys.length 0 ys.length,[(h,.none)],[(h,.rows e c.size ys)]⟩:=by
 intro σ ι H F W w a next Q s j M hk
 have Z:H h = .none:=M (h,.none) (by simp)
 have N:=C1 hx (j x (by simp [R,Op.operands,Call.operands]))
 have f:=j y (by simp [R,Op.operands,Call.operands])
 rw [hy] at f
 obtain ⟨u1,J,e1⟩:=Hw (V t i ht) hd
 obtain ⟨u2,I,e2⟩:=Hw (V A E L) S
 subst e1; subst e2
 obtain ⟨s0,D⟩:=s.newNil h Z e c.size l
 obtain ⟨Bs,g,hs,h1,h2,h3⟩:=Vd (P:=P) s0 l f.sl_inv
 obtain ⟨X,z,w',Y,le,s',b⟩:=Ve (P:=P) (ty:=o.type) (v:=.slice none 0 0) (xs:=[]) s0 J I (.inl ⟨_,rfl⟩) (V e c he) l G (B5 _ _ _) (by rw [B5]; exact ⟨rfl,rfl,rfl⟩) U (by simpa using hb) hs h1 h2 h3 (Vf l hs.size rfl h1 h2 h3)
 have hH:A3 (A3 H h (.rows e c.size [])) h (.rows e c.size ([]++ys))=A3 H h (.rows e c.size ys):=by
  funext m
  by_cases q:m=h
  .subst q; rw [B5,B5]; rfl
  .rw [Cp _ _ q,Cp _ _ q,Cp _ _ q]
 rw [hH] at le s'
 simp only [List.length_nil,Nat.zero_add] at b
 refine D1 (Pv R rfl (by rw [N]; exact Y)) (hk σ X z w' (D.trans le) s' ?_)
 have k:Du z=true:=by
  unfold E5 at b
  split at b
  .rw [b.1]; rfl
  .rw [b.2]; rfl
  .exact b.elim
 refine .arr _ _ _ _ z (by show A3 H h _ h≠_; rw [B5]; intro e; cases e) (fun E' B u e'=>?_) k
 have e':A3 H h _ h = .rows E' B u:=e'
 rw [B5] at e'; cases e'
 exact ⟨Nat.le_refl _,fun _=>b⟩
theorem St.freeze {σ:Aw} {ι:Bi} {H:Hp} {F:Aw} {W:World} (s:St σ ι H F W w) {h:Nat} {E:TypeId} {sz:Nat} {xs:List AV} (L:H h = .rows E sz xs) :
  ∃u,Le σ ι H u ι (A3 H h .dead)/\St u ι (A3 H h .dead) F W w /\
   ∀off len v,off+len<=xs.length->E5 (ι h) sz off len v->CC u (.sl sz ((xs.drop off).take len)) v:=by
 have k:=s.obj h
 unfold Ca at k; rw [L] at k
 obtain ⟨hz,hm,k⟩:=k
 have f:∀u,σ.le u->Le σ ι H u ι (A3 H h .dead):=by
  intro u hs
  have:=Le.upd (ι:=ι) (H:=H) hs h (ι h) .dead ⟨fun _ e=>e,(fun _ e=>by cases e),(fun _ E1 N M e=>by cases e)⟩
  rwa [Gl] at this
 rcases k with ⟨D,Z⟩ | ⟨b,G,C,D,X,V,U,p4,p5,g,S,I,R⟩
 .subst Z
  refine ⟨σ,f σ (Aw.le_refl _),?_,?_⟩
  .obtain ⟨f1,f2⟩:=s.fresh
   exact s.touch h w.heap.size (fun _ _=>rfl) (fun x e=>Cp _ _ e) (f σ (Aw.le_refl _)) (fun _ _=>rfl) (fun _ _=>rfl) (fun o A=>by rw [f1] at A; cases A)
    (fun x e i hb=>by have:=(s.block i hb).1; omega) f2 (fun b i hb=>by rw [B5] at i; cases i) (by unfold Ca; rw [B5]; trivial) rfl rfl rfl
  .intro off len v q z
   rw [D] at z
   obtain ⟨rfl,rfl,rfl⟩:=z
   simp only [List.drop_nil,List.take_nil]
   exact .nil sz none 0
 .have q:σ.le (A3 σ b (some (.cells C E))):=by
   intro b' o' hb'
   rw [Cp _ _ (by intro e; subst e; rw [X] at hb'; cases hb')]; exact hb'
  refine ⟨A3 σ b (some (.cells C E)),f _ q,?_,?_⟩
  .refine s.touch h b (fun _ _=>rfl) (fun x e=>Cp _ _ e) (f _ q) (fun _ _=>rfl) (fun x e=>Cp _ _ e) (fun o A=>by rw [B5] at A; cases A; exact U)
    (fun x e i hb=>e (s.inj x h b i (by rw [L]; rfl) hb (by rw [D]; rfl))) V (fun b' i hb=>by rw [B5] at i; cases i) (by unfold Ca; rw [B5]; trivial) rfl rfl rfl
  .intro off len v J z
   rw [D] at z
   obtain ⟨_,rfl⟩:=z
   have i:((xs.drop off).take len).length=len:=by simp; omega
   have l:∀(n:Nat) (y:AV),((xs.drop off).take len)[n]? = some y->n<len/\xs[off+n]? = some y:=by
    intro n y hy
    have B:n<len:=by have:=(List.getElem?_eq_some_iff.1 hy).1; omega
    rw [List.getElem?_take_of_lt B,List.getElem?_drop] at hy
    exact ⟨B,hy⟩
   have:=CC.sl (σ:=A3 σ b (some (.cells C E))) ((xs.drop off).take len) b (off*sz) (G-off) sz C E (0,0) (fun n j=>g (off+n) j) (B5 _ _ _)
    (fun n y hy=>S _ y (l n y hy).2) (fun n y j c hy hj=>((I _ y j c (l n y hy).2 hj).1).mono q) (fun n y j c hy hj=>(I _ y j c (l n y hy).2 hj).2)
    (fun n j Y hj=>by
     rw [i] at Y
     have:=R (off+n) j (by omega) hj
     rw [Nat.add_mul] at this; exact this) (by rw [i]; omega) (by rw [i]; omega)
   rw [i] at this
   exact this
theorem Ao4 {T:Cg} (z:Ch P T) {x:Operand} {i b:TI} {e:TypeId} (h:Nat) (q:o.op = .assign x) (hx:ρ x = .val (.slice none 0 0)) (ht:T o.type=some i) (_hd:i.d = .slice e) (he:T e=some b) (u:0<b.size) :
  Bo P o ρ ⟨.arr h 0 0 0,[(h,.none)],[(h,.rows e b.size [])]⟩:=by
 intro σ ι H F W w a next Q s l j hk
 have _:=z; have _:=ht; have _:=he
 have y:H h = .none:=j (h,.none) (by simp)
 have k:=C1 hx (l x (by simp [q,Op.operands]))
 obtain ⟨s0,g⟩:=s.newNil h y e b.size u
 refine D1 (v:=.slice none 0 0) (by simp [execOp,q,k]) (hk σ _ _ w g s0 ?_)
 refine .arr _ _ _ _ _ (by show A3 H h _ h≠_; rw [B5]; intro e; cases e) (fun A f c e'=>?_) rfl
 have e':A3 H h _ h = .rows A f c:=e'
 rw [B5] at e'; cases e'
 exact ⟨by simp,fun _=>by rw [B5]; exact ⟨rfl,rfl,rfl⟩⟩
theorem Ao5 {x y:Operand} {t f:TypeId} {k g:IntKind} {m n:Int} (c:o.op = .call {callee:=.builtin .max,args:=#[x,y],argTypes:=#[t,f]}) (hx:ρ x = .val (.int k m)) (hy:ρ y = .val (.int g n)) :
  Bo P o ρ ⟨.val (.int k (if n>m then n else m)),[],[]⟩ :=
 Dn fun σ ι H a w b=>by
  have h1:=C1 hx (b x (by simp [c,Op.operands,Call.operands]))
  have h2:=C1 hy (b y (by simp [c,Op.operands,Call.operands]))
  exact ⟨_,by simp [execOp,c,resolve,invoke,builtin,Builtin.max_,Builtin.max2,h1,h2],.of_val _⟩
theorem Ao6 {x y:Operand} {t f:TypeId} {k g:IntKind} {m n:Int} (c:o.op = .call {callee:=.builtin .min,args:=#[x,y],argTypes:=#[t,f]}) (hx:ρ x = .val (.int k m)) (hy:ρ y = .val (.int g n)) :
  Bo P o ρ ⟨.val (.int k (if n<m then n else m)),[],[]⟩ :=
 Dn fun σ ι H a w b=>by
  have h1:=C1 hx (b x (by simp [c,Op.operands,Call.operands]))
  have h2:=C1 hy (b y (by simp [c,Op.operands,Call.operands]))
  exact ⟨_,by simp [execOp,c,resolve,invoke,builtin,Builtin.min_,Builtin.min2,h1,h2],.of_val _⟩
end
end Go.Ab
namespace Go.Ab
section
variable {P:Program} {o:Oper} {ρ:Operand->AV} {a:Act} {w w':World} {next:Act->World->Prop} {Q:Exit->Act->World->Prop}
def Eh {α:Type} (xs:List α) (d:Nat) (ys:List α):List α:=xs.take d++ys++xs.drop (d+ys.length)
theorem Ae7 {α:Type} {xs ys:List α} {d:Nat} (hd:d<=xs.length) (i:Nat):(Eh xs d ys)[i]? = if i<d then xs[i]? else if i<d+ys.length then ys[i-d]? else xs[i]?:=by
 unfold Eh
 have b:(xs.take d).length=d:=by rw [List.length_take]; omega
 rw [List.append_assoc]
 by_cases h1:i<d
 .rw [if_pos h1,List.getElem?_append_left (by omega),List.getElem?_take_of_lt h1]
 .rw [if_neg h1,List.getElem?_append_right (by omega),b]
  by_cases h2:i<d+ys.length
  .rw [if_pos h2,List.getElem?_append_left (by omega)]
  .rw [if_neg h2,List.getElem?_append_right (by omega),List.getElem?_drop]
   congr 1; omega
theorem Vg {α:Type} {xs ys:List α} {d:Nat} (hd:d<=xs.length):(Eh xs d ys).length=max xs.length (d+ys.length):=by
 unfold Eh
 simp only [List.length_append,List.length_take,List.length_drop]; omega
structure Nq (σ:Aw) (sz:Nat) (ys:List AV) (Bs:List Value) (g:Nat->Nat->Value):Prop where
 len:Bs.length=ys.length*sz
 el:∀(i:Nat) (x:AV),ys[i]? = some x->x.cells.length=sz
 cc:∀(i:Nat) (x:AV) (j:Nat) (c:AV),ys[i]? = some x->x.cells[j]? = some c->CC σ c (g i j)/\Du (g i j)=true
 at_:∀(i j:Nat),i<ys.length->j<sz->Bs[i*sz+j]? = some (g i j)
theorem F6.patch {σ:Aw} {sz d:Nat} {xs ys:List AV} {C l:Array Value} {Bs:List Value} {z:Nat->Nat->Value} (hx:F6 σ sz xs C) (hd:d<=xs.length) (f:Nq σ sz ys Bs z)
  (b:∀q:Nat,q<d*sz\/(d+ys.length)*sz<=q->l[q]? = C[q]?) (k:∀q,q<ys.length*sz->l[d*sz+q]? = Bs[q]?):F6 σ sz (Eh xs d ys) l:=by
 obtain ⟨g,y,u,s⟩:=hx
 refine ⟨fun i j=>if i<d then g i j else if i<d+ys.length then z (i-d) j else g i j,?_,?_,?_⟩
 .intro i x hi
  rw [Ae7 hd] at hi
  split at hi
  .exact y i x hi
  .split at hi
   .exact f.el _ x hi
   .exact y i x hi
 .intro i x j c hi hj
  rw [Ae7 hd] at hi
  dsimp only
  split at hi
  .rename_i h; rw [if_pos h]; exact u i x j c hi hj
  .rename_i h
   rw [if_neg h]
   split at hi
   .rename_i h2; rw [if_pos h2]; exact f.cc _ x j c hi hj
   .rename_i h2; rw [if_neg h2]; exact u i x j c hi hj
 .intro i j hi hj
  rw [Vg hd] at hi
  dsimp only
  by_cases h:i<d
  .rw [if_pos h]
   have:(i+1)*sz<=d*sz:=Nat.mul_le_mul_right _ (by omega)
   rw [Nat.add_mul] at this
   rw [b _ (.inl (by omega))]; exact s i j (by omega) hj
  .rw [if_neg h]
   by_cases h2:i<d+ys.length
   .rw [if_pos h2]
    have e:i*sz+j=d*sz+((i-d)*sz+j):=by
     have:i=d+(i-d):=by omega
     conv=>lhs; rw [this,Nat.add_mul]
     omega
    have:(i-d+1)*sz<=ys.length*sz:=Nat.mul_le_mul_right _ (by omega)
    rw [Nat.add_mul] at this
    rw [e,k _ (by omega)]
    exact f.at_ _ j (by omega) hj
   .rw [if_neg h2]
    have:(d+ys.length)*sz<=i*sz:=Nat.mul_le_mul_right _ (by omega)
    rw [b _ (.inr (by omega))]; exact s i j (by omega) hj
theorem Nq.one {σ:Aw} {sz:Nat} (b:0<sz) {ys:List AV} {Bs:List Value} {g:Nat->Nat->Value} (h:Nq σ sz ys Bs g):∀u∈Bs,Du u=true:=Vf b h.len rfl h.el h.cc h.at_
theorem Zr {σ:Aw} {ι:Bi} {H:Hp} {F:Aw} {W:World} (s:St σ ι H F W w) {h:Nat} {e:TypeId} {sz:Nat} {xs ys:List AV} (z:H h = .rows e sz xs) {b c:Nat} (hb:ι h = .blk b c) {d:Nat} (hd:d<=xs.length) (x:d+ys.length<=c)
  (J:d+ys.length<=140737488355328) (G:0<sz) {Bs:List Value} {g:Nat->Nat->Value} (l:Nq σ sz ys Bs g) :
  ∃w',(storeCells (⟨b,d*sz,none⟩:Addr) Bs).run P w = .ok () w'/\Le σ ι H σ ι (A3 H h (.rows e sz (Eh xs d ys)))/\St σ ι (A3 H h (.rows e sz (Eh xs d ys))) F W w':=by
 obtain ⟨C,E,D,I,B⟩:=s.rowsAt z hb
 have A:xs.length<=140737488355328:=by
  have:=s.obj h
  unfold Ca at this; rw [z] at this
  exact this.2.1
 have j:d*sz+Bs.length<=C.size:=by
  rw [l.len,<-Nat.add_mul,D]; exact Nat.mul_le_mul_right _ x
 have k:=run_storeCells_at (P:=P) b (d*sz) e Bs 0 C w E (by simpa using j) (fun u hu=>by rw [Zf]; exact l.one G u hu)
 simp only [Nat.add_zero] at k
 have f:F6 σ sz (Eh xs d ys) (C.toList.take (d*sz)++Bs++C.toList.drop (d*sz+Bs.length)).toArray:=by
  refine F6.patch B hd l ?_ ?_
  .intro q hq
   rw [Pu _ _ _ j]
   rcases hq with hq | hq
   .rw [if_pos hq]
   .rw [Nat.add_mul] at hq
    rw [if_neg (by omega),if_neg (by rw [l.len]; omega)]
  .intro q hq
   rw [Pu _ _ _ j,if_neg (by omega),if_pos (by rw [l.len]; omega),Nat.add_sub_cancel_left]
 have y:(C.toList.take (d*sz)++Bs++C.toList.drop (d*sz+Bs.length)).toArray.size=c*sz:=by
  simp; omega
 have i:=Vg (ys:=ys) hd
 by_cases L:d+ys.length<=xs.length
 .obtain ⟨s',le⟩:=s.setRows h e sz xs (Eh xs d ys) z b c hb (by rw [i]; omega) _ y f
  exact ⟨_,k,le,s'⟩
 .obtain ⟨s',le⟩:=s.growIn h e sz xs (Eh xs d ys) z b c hb (by rw [i]; omega) (by rw [i]; omega) (by rw [i]; omega) _ y f
  exact ⟨_,k,le,s'⟩
theorem Ae8 {σ:Aw} {ι:Bi} {H:Hp} {F:Aw} {W:World} (s:St σ ι H F W w) {h:Nat} {e:TypeId} {sz:Nat} {xs:List AV} (J:H h = .rows e sz xs) {off len:Nat} {v:Value} (q:E5 (ι h) sz off len v) (N:off+len<=xs.length) (n:Nat) (M:n<=len) :
  ∃(Bs:List Value) (g:Nat->Nat->Value),(∃p c,v = .slice p len c)/\(∀d,(Builtin.firstCells sz n v).run P {w with drawn:=d} = .ok Bs.toArray {w with drawn:=d})/\Nq σ sz ((xs.drop off).take n) Bs g:=by
 have l:((xs.drop off).take n).length=n:=by simp; omega
 unfold E5 at q
 split at q
 .obtain ⟨rfl,rfl,rfl⟩:=q
  obtain rfl:n=0:=by omega
  refine ⟨[],fun _ _=>undef,⟨none,0,rfl⟩,fun d=>by simp [Builtin.firstCells],⟨by simp,(fun i x h=>by simp at h),(fun i x j c h=>by simp at h),(fun i j h=>by simp at h)⟩⟩
 .rename_i b z hb
  obtain ⟨I,rfl⟩:=q
  obtain ⟨C,G,E,L,g,D,B,A⟩:=s.rowsAt J hb
  have k:((C.toList.drop (off*sz)).take (n*sz)).length=n*sz:=by
   have h1:(off+n)*sz<=z*sz:=Nat.mul_le_mul_right _ (by omega)
   rw [Nat.add_mul] at h1
   rw [List.length_take,List.length_drop,Array.length_toList,E]; omega
  have y:∀(i:Nat) (x:AV),((xs.drop off).take n)[i]? = some x->i<n/\xs[off+i]? = some x:=by
   intro i x hx
   have f:i<n:=by have:=(List.getElem?_eq_some_iff.1 hx).1; omega
   rw [List.getElem?_take_of_lt f,List.getElem?_drop] at hx
   exact ⟨f,hx⟩
  refine ⟨(C.toList.drop (off*sz)).take (n*sz),fun i j=>g (off+i) j,⟨_,_,rfl⟩,fun d=>?_,⟨by rw [k,l],?_,?_,?_⟩⟩
  .have hb':({w with drawn:=d}:World).heap[b]? = some (.cells C e (0,0)):=G
   have:=run_loadCells_list (P:=P) {w with drawn:=d} ⟨b,off*sz,none⟩ ((C.toList.drop (off*sz)).take (n*sz)) (by
    intro j u hj
    have f:j<n*sz:=by have:=(List.getElem?_eq_some_iff.1 hj).1; omega
    rw [List.getElem?_take_of_lt f,List.getElem?_drop,Array.getElem?_toList] at hj
    rw [Hu,Hi hb']; exact hj)
   rw [k] at this
   simp only [Builtin.firstCells]
   exact this
  .intro i x hx; exact D _ x (y i x hx).2
  .intro i x j c hx hj; exact B _ x j c (y i x hx).2 hj
  .intro i j hi hj
   rw [l] at hi
   have h1:(i+1)*sz<=n*sz:=Nat.mul_le_mul_right _ (by omega)
   rw [Nat.add_mul] at h1
   rw [List.getElem?_take_of_lt (by omega),List.getElem?_drop,Array.getElem?_toList]
   have:=A (off+i) j (by omega) hj
   rw [Nat.add_mul] at this
   rw [<-this]; congr 1; omega
 .exact q.elim
theorem Ae9 {σ:Aw} {ι:Bi} {H:Hp} {F:Aw} {W:World} (s:St σ ι H F W w) {t t' ty e:TypeId} {i:TI} {u':TypeDesc} (ht:P.underlying t=some (.slice e)) (M:P.underlying t'=some u') (L:(∃e',u' = .slice e')\/u' = .string) (he:F7 P e=some i) (hz:0<i.size) (U:i.zero.length=i.size)
  {h:Nat} {xs ys:List AV} (hh:H h = .rows e i.size xs) {len:Nat} (hl:len<=xs.length) {v E:Value} (hv:E5 (ι h) i.size 0 len v) (Z:1<=i.bytes) (hb:(xs.length+ys.length)*i.bytes<=140737488355328)
  {Bs:List Value} {g:Nat->Nat->Value} (hs:Iu P w E i.size ys.length Bs) (D:Nq σ i.size ys Bs g) :
  ∃(ι':Bi) (v':Value) (w':World),(Builtin.append_ #[t,t'] ty #[v,E]).run P w = .ok v' w'/\Le σ ι H σ ι' (A3 H h (.rows e i.size (Eh xs len ys)))/\St σ ι' (A3 H h (.rows e i.size (Eh xs len ys))) F W w' /\
   E5 (ι' h) i.size 0 (len+ys.length) v':=by
 obtain ⟨R,u,z,k1,k2,k3,N,k5,k6,k7⟩:=Dc he
 have a8:xs.length+ys.length<=140737488355328:=by
  have:(xs.length+ys.length)*1<=(xs.length+ys.length)*i.bytes:=Nat.mul_le_mul_left _ Z
  omega
 by_cases B:len=xs.length
 .subst B
  have e0:Eh xs xs.length ys=xs++ys:=by
   unfold Eh
   rw [List.take_length,List.drop_eq_nil_of_le (by omega),List.append_nil]
  rw [e0]
  exact Ve (P:=P) (ty:=ty) s ht M L he hz U hh hv Z hb hs D.el D.cc D.at_ (D.one hz)
 have l:=s.obj h
 unfold Ca at l; rw [hh] at l
 obtain ⟨_,_,l⟩:=l
 rcases l with ⟨_,e2⟩ | ⟨b,f,C,e1,p1,p2,p3,p4,p5,p6⟩
 .subst e2; simp only [List.length_nil,Nat.le_zero] at hl; exact (B (by rw [hl]; rfl)).elim
 rw [e1] at hv
 obtain ⟨aa,rfl⟩:=hv
 by_cases I:len+ys.length<=f
 .obtain ⟨w',a6,le,s'⟩:=Zr (P:=P) s hh e1 hl I (by omega) hz D
  have hr:=Ae6 (P:=P) (ty:=ty) (w:=w) ht M L k1 ⟨b,0,none⟩ len f ys.length E Bs (by rw [N]; exact hs) I (by rw [Hu,Nat.zero_add,N]; exact a6)
  refine ⟨ι,_,_,by simpa using hr,le,s',?_⟩
  rw [e1]
  exact ⟨by omega,by simp⟩
 .have A:(C.toList.take (len*i.size)).length=len*i.size:=by
   have:C.toList.length=f*i.size:=by rw [Array.length_toList,p4]
   rw [List.length_take,this]
   exact Nat.min_eq_left (Nat.mul_le_mul_right _ (by omega))
  have V:Iu P w (.slice (some ⟨b,0*i.size,none⟩) len (f-0)) R.size len (C.toList.take (len*i.size)):=by
   refine ⟨fun d=>by simp [Builtin.lenOf],fun d=>?_,by rw [N]; exact A⟩
   have hb':({w with drawn:=d}:World).heap[b]? = some (.cells C e (0,0)):=p3
   have:=run_loadCells_list (P:=P) {w with drawn:=d} ⟨b,0,none⟩ (C.toList.take (len*i.size)) (by
    intro j u hj
    have y:j<len*i.size:=by
     have:=(List.getElem?_eq_some_iff.1 hj).1; omega
    rw [List.getElem?_take_of_lt y,Array.getElem?_toList] at hj
    rw [Hu,Nat.zero_add,Hi hb']; exact hj)
   rw [A] at this
   simp only [Builtin.firstCells,Nat.zero_mul,N]
   exact this
  have hr:=Zq (P:=P) (ty:=ty) (w:=w) ht M L k1 k3 (some ⟨b,0*i.size,none⟩) len (f-0) ys.length E _ Bs (by rw [N]; exact hs) V (by omega) (by omega) (by
   rw [k5]
   exact Nat.le_trans (Nat.mul_le_mul_right _ (by omega)) hb)
  have hge:=Vc w (len+ys.length) (f-0) e
  have a1:z.cells.size=i.size:=by rw [<-U,k6]; simp
  have J:∀n,(Builtin.zeroCells z.cells n).size=n*i.size:=by intro n; simp [Builtin.zeroCells,a1]
  have X:(C.toList.take (len*i.size)++Bs).length=(len+ys.length)*i.size:=by rw [List.length_append,A,D.len,Nat.add_mul]
  have e0:Eh xs len ys=xs.take len++ys:=by
   unfold Eh
   rw [List.drop_eq_nil_of_le (by omega),List.append_nil]
  have G:(xs.take len).length=len:=by rw [List.length_take]; omega
  have a7:F6 σ i.size (xs.take len) C:=by
   obtain ⟨g,r1,r2,r3⟩:=p6
   have Y:∀(q:Nat) (x:AV),(xs.take len)[q]? = some x->q<len/\xs[q]? = some x:=by
    intro q x hx
    have y:q<len:=by have:=(List.getElem?_eq_some_iff.1 hx).1; omega
    rw [List.getElem?_take_of_lt y] at hx
    exact ⟨y,hx⟩
   exact ⟨g,fun q x hx=>r1 q x (Y q x hx).2,fun q x j c hx hj=>r2 q x j c (Y q x hx).2 hj,fun q j hq hj=>r3 q j (by omega) hj⟩
  obtain ⟨s',le⟩:=(s.drew (w.drawn+1)).newRows h e i.size (xs.take len++ys) (grownCap w (len+ys.length) (f-0) e)
   ((C.toList.take (len*i.size)++Bs).toArray++Builtin.zeroCells z.cells (grownCap w (len+ys.length) (f-0) e-(len+ys.length)))
   (.inr ⟨e,i.size,xs,hh,by simp; omega⟩) hz (by rw [List.length_append,G]; omega) (by rw [List.length_append,G]; exact hge)
   (by rw [Array.size_append,J,List.size_toArray,X,<-Nat.add_mul,Nat.add_sub_cancel' hge]) (by
    refine F6.append a7 g D.el D.cc ?_ ?_
    .intro k hk
     rw [G] at hk
     rw [Array.getElem?_append_left (by rw [List.size_toArray,X,Nat.add_mul]; omega),List.getElem?_toArray,List.getElem?_append_left (by omega),List.getElem?_take_of_lt hk,Array.getElem?_toList]
    .intro S j hi hj
     rw [G]
     have y:S*i.size+j<Bs.length:=by
      have:(S+1)*i.size<=ys.length*i.size:=Nat.mul_le_mul_right _ (by omega)
      rw [Nat.add_mul] at this; rw [D.len]; omega
     have e2:(len+S)*i.size+j=len*i.size+(S*i.size+j):=by rw [Nat.add_mul]; omega
     rw [Array.getElem?_append_left (by rw [List.size_toArray,List.length_append,A]; omega),List.getElem?_toArray,e2,List.getElem?_append_right (by omega),A,Nat.add_sub_cancel_left]
     exact D.at_ S j hi hj)
  rw [e0]
  refine ⟨_,_,_,hr,le,s',?_⟩
  rw [B5]
  exact ⟨by omega,by rw [Nat.zero_mul]; rfl⟩
theorem Afa {σ:Aw} {ι:Bi} {H:Hp} {h:Nat} {e:TypeId} {sz:Nat} {xs:List AV} {len:Nat} {v:Value} (i:len<=xs.length) (b:E5 (ι h) sz 0 len v):Conc σ ι (A3 H h (.rows e sz xs)) (.arr h xs.length 0 len) v:=by
 have c:Du v=true:=by
  unfold E5 at b
  split at b
  .rw [b.1]; rfl
  .rw [b.2]; rfl
  .exact b.elim
 refine .arr _ _ _ _ v (by rw [B5]; intro e; cases e) (fun j g f e'=>?_) c
 rw [B5] at e'; cases e'
 exact ⟨Nat.le_refl _,fun _=>b⟩
theorem Ao7 {T:Cg} (M:Ch P T) {t l:TypeId} {x y:Operand} {i b q:TI} {e e':TypeId} {h k len:Nat} {xs ys:List AV} (G:o.op = .call {callee:=.builtin .append,args:=#[x,y],argTypes:=#[t,l]})
  (ht:T t=some i) (hd:i.d = .slice e) (D:T l=some q) (J:q.d = .slice e') (he:T e=some b) (N:0<b.size) (u:b.zero.length=b.size) (L:1<=b.bytes)
  (hx:ρ x = .arr h k 0 len) (I:xs.length=k) (hl:len<=k) (hy:ρ y = .sl b.size ys) (hb:(xs.length+ys.length)*b.bytes<=140737488355328) :
  Bo P o ρ ⟨.arr h (Eh xs len ys).length 0 (len+ys.length),[(h,.rows e b.size xs)],[(h,.rows e b.size (Eh xs len ys))]⟩:=by
 intro σ ι H F W w a next Q s j E hk
 have R:H h = .rows e b.size xs:=E (h,.rows e b.size xs) (by simp)
 have f:=j x (by simp [G,Op.operands,Call.operands])
 have c:=j y (by simp [G,Op.operands,Call.operands])
 rw [hx] at f; rw [hy] at c
 have V:=f.arr_inv R I
 obtain ⟨u1,B,Z⟩:=Hw (M t i ht) hd
 obtain ⟨u2,A,Y⟩:=Hw (M l q D) J
 subst Z; subst Y
 obtain ⟨Bs,g,hs,h1,h2,h3⟩:=Vd (P:=P) s N c.sl_inv
 obtain ⟨S,U,w',X,le,s',z⟩:=Ae9 (P:=P) (ty:=o.type) s B A (.inl ⟨_,rfl⟩) (M e b he) N u R (by omega) V L hb hs ⟨hs.size,h1,h2,h3⟩
 exact D1 (Pv G rfl X) (hk σ S U w' le s' (Afa (by rw [Vg (by omega)]; omega) z))
theorem Ao8 {t s ty e:TypeId} {i:TypeInfo} {l:TypeDesc} (ht:P.underlying t=some (.slice e)) (j:P.underlying s=some l) (h:(∃e',l = .slice e')\/l = .string) (hi:P.info? e=some i) (p:Option Addr) (c f:Nat) (g:Value)
  (hs:Iu P w g i.size 0 []) (k:c<=f) :
  (Builtin.append_ #[t,s] ty #[.slice p c f,g]).run P w = .ok (.slice p c f) w:=by
 have h1:=hs.len w.drawn
 have h2:=hs.cells w.drawn
 have u:({w with drawn:=w.drawn}:World)=w:=rfl
 rw [u] at h1 h2
 cases p with
 | none=>
  rcases h with ⟨e',rfl⟩ | rfl <;>
  simp [Builtin.append_,run_underlying ht,run_underlying j,sizeOf,typeInfo,hi,h1,k,h2]
 | some b=>
  have q:(storeCells (b.add (c*i.size)) []).run P w = .ok () w:=by rw [storeCells]; rfl
  rcases h with ⟨e',rfl⟩ | rfl <;>
  simp [Builtin.append_,run_underlying ht,run_underlying j,sizeOf,typeInfo,hi,h1,k,h2,q]
theorem Ao9 {T:Cg} (R:Ch P T) {t q:TypeId} {x y:Operand} {i l B:TI} {e e':TypeId} {sz:Nat} {xs:List AV} (J:o.op = .call {callee:=.builtin .append,args:=#[x,y],argTypes:=#[t,q]})
  (ht:T t=some i) (hd:i.d = .slice e) (I:T q=some B) (N:B.d = .slice e') (he:T e=some l) (hz:0<l.size)
  (hx:ρ x = .sl sz xs) (hy:ρ y = .sl l.size []) :
  Bo P o ρ ⟨.sl sz xs,[],[]⟩:=by
 intro σ ι H F W w a next Q s j a1 hk
 have c:=j x (by simp [J,Op.operands,Call.operands])
 have h:=j y (by simp [J,Op.operands,Call.operands])
 rw [hx] at c; rw [hy] at h
 obtain ⟨u1,G,e1⟩:=Hw (R t i ht) hd
 obtain ⟨u2,D,e2⟩:=Hw (R q B I) N
 subst e1; subst e2
 obtain ⟨Bs,g,hs,_,_,_⟩:=Vd (P:=P) s hz h.sl_inv
 have L:Bs = []:=by
  have:=hs.size
  simp at this
  exact this
 subst L
 obtain ⟨p,n,cap,f,M⟩:∃p n cap,a.eval x = .slice p n cap/\n<=cap:=by
  rcases c.sl_inv.sl_inv with ⟨rfl,p,cap,f⟩ | ⟨b,off,cap,C,E,fr,g,f,hσ,hs,a6,hC,hl,k⟩
  .exact ⟨_,_,_,f,Nat.zero_le _⟩
  .exact ⟨_,_,_,f,k⟩
 obtain ⟨A,u',z',z,Z,Y,u,X,V,U⟩:=Dc (R e l he)
 have S:=Ao8 (P:=P) (w:=w) (ty:=o.type) G D (.inl ⟨_,rfl⟩) z p n cap (a.eval y) (by rw [u]; exact hs) M
 rw [<-f] at S
 exact D1 (Pv J rfl S) (hk σ ι _ w (Le.refl _ _ _) s c)
theorem Apa {T:Cg} (Z:Ch P T) {t D:TypeId} {x y:Operand} {i j E:TI} {e e':TypeId} {h k len k2 f b:Nat} {xs:List AV} (S:o.op = .call {callee:=.builtin .append,args:=#[x,y],argTypes:=#[t,D]})
  (ht:T t=some i) (hd:i.d = .slice e) (M:T D=some E) (X:E.d = .slice e') (he:T e=some j) (hz:0<j.size) (G:j.zero.length=j.size) (Y:1<=j.bytes)
  (hx:ρ x = .arr h k 0 len) (V:xs.length=k) (hl:len<=k) (hy:ρ y = .arr h k2 f b) (U:xs.length=k2) (a1:f+b<=k) (hb:(xs.length+b)*j.bytes<=140737488355328) :
  Bo P o ρ ⟨.arr h (Eh xs len ((xs.drop f).take b)).length 0 (len+b),[(h,.rows e j.size xs)],[(h,.rows e j.size (Eh xs len ((xs.drop f).take b)))]⟩:=by
 intro σ ι H F W w a next Q s A N hk
 have B:H h = .rows e j.size xs:=N (h,.rows e j.size xs) (by simp)
 have z:=A x (by simp [S,Op.operands,Call.operands])
 have u:=A y (by simp [S,Op.operands,Call.operands])
 rw [hx] at z; rw [hy] at u
 have hv:=z.arr_inv B V
 have I:=u.arr_inv B U
 obtain ⟨u1,L,e1⟩:=Hw (Z t i ht) hd
 obtain ⟨u2,J,e2⟩:=Hw (Z D E M) X
 subst e1; subst e2
 have l:((xs.drop f).take b).length=b:=by simp; omega
 obtain ⟨Bs,g,⟨p,c,R⟩,hf,hn⟩:=Ae8 (P:=P) s B I (by omega) b (Nat.le_refl _)
 have hs:Iu P w (a.eval y) j.size ((xs.drop f).take b).length Bs:=by
  refine ⟨fun d=>?_,fun d=>?_,hn.len⟩
  .rw [R,l]; simp [Builtin.lenOf]
  .rw [l]; exact hf d
 obtain ⟨ι',v',w',hr,le,s',q⟩:=Ae9 (P:=P) (ty:=o.type) s L J (.inl ⟨_,rfl⟩) (Z e j he) hz G B (by omega) hv Y (by rw [l]; exact hb) hs hn
 rw [l] at q
 exact D1 (Pv S rfl hr) (hk σ ι' v' w' le s' (Afa (by rw [Vg (by omega),l]; omega) q))
theorem Zs {t f ty:TypeId} {x y:Operand} (h:o.op = .call {callee:=.builtin .copy,args:=#[x,y],argTypes:=#[t,f]}) (b:o.type=ty) {c:Value} (g:(Builtin.copy_ #[t,f] ty #[a.eval x,a.eval y]).run P w = .ok c w') :
  (execOp a.eval o).run P w = .ok (.value c) w':=by
 subst b
 simp [execOp,h,resolve,invoke,builtin,g]
theorem Apb {T:Cg} (hT:Ch P T) {t t':TypeId} {x y:Operand} {i l:TI} {e:TypeId} {h k off len Y j f:Nat} {xs:List AV} (N:o.op = .call {callee:=.builtin .copy,args:=#[x,y],argTypes:=#[t,t']})
  (ht:T t=some i) (hd:i.d = .slice e) (he:T e=some l) (hz:0<l.size)
  (hx:ρ x = .arr h k off len) (X:xs.length=k) (hl:off+len<=k) (hy:ρ y = .arr h Y j f) (V:xs.length=Y) (a7:j+f<=k) :
  Bo P o ρ ⟨.val (.int .i64 (min f len:Nat)),[(h,.rows e l.size xs)],[(h,.rows e l.size (Eh xs off ((xs.drop j).take (min f len))))]⟩:=by
 intro σ ι H F W w a next Q s J U hk
 have z:H h = .rows e l.size xs:=U (h,.rows e l.size xs) (by simp)
 have I:=J x (by simp [N,Op.operands,Call.operands])
 have G:=J y (by simp [N,Op.operands,Call.operands])
 rw [hx] at I; rw [hy] at G
 have q:=I.arr_inv z X
 have R:=G.arr_inv z V
 obtain ⟨u1,D,e1⟩:=Hw (hT t i ht) hd
 subst e1
 have E:=Jt (hT e l he)
 have B:((xs.drop j).take (min f len)).length=min f len:=by simp; omega
 obtain ⟨Bs,g,⟨p,c,u⟩,A,hn⟩:=Ae8 (P:=P) s z R (by omega) (min f len) (by omega)
 have A:=A w.drawn
 have ew:({w with drawn:=w.drawn}:World)=w:=rfl
 rw [ew,u] at A
 have Z:xs.length<=140737488355328:=by
  have:=s.obj h
  unfold Ca at this; rw [z] at this
  exact this.2.1
 have L:Nat.min f len=min f len:=rfl
 unfold E5 at q
 split at q
 .obtain ⟨q,rfl,rfl⟩:=q
  have e0:Eh xs 0 ((xs.drop j).take (min f 0))=xs:=by simp [Eh]
  refine D1 (v:=.int .i64 ((min f 0:Nat):Int)) (Zs N rfl ?_) (hk σ ι _ w ?_ ?_ (.of_val _))
  .simp only [Builtin.copy_,q,u]
   simp [run_underlying D,Builtin.lenOf,E,A,goInt]
   have M:=A
   simp at M
   simp [M]
  .show Le σ ι H σ ι (A3 H h (.rows e l.size _)); rw [e0,<-z,Gl]; exact Le.refl _ _ _
  .show St σ ι (A3 H h (.rows e l.size _)) F W w; rw [e0,<-z,Gl]; exact s
 .rename_i b a1 hb
  obtain ⟨a6,q⟩:=q
  obtain ⟨w',S,le,s'⟩:=Zr (P:=P) s z hb (d:=off) (by omega) (by rw [B]; omega) (by rw [B]; omega) hz hn
  refine D1 (v:=.int .i64 ((min f len:Nat):Int)) (Zs N rfl ?_) (hk σ ι _ w' le s' (.of_val _))
  simp only [Builtin.copy_,q,u]
  simp [run_underlying D,Builtin.lenOf,E,A,S,goInt,L]
 .exact q.elim
theorem Apc {T:Cg} (M:Ch P T) {t N:TypeId} {x y:Operand} {i f:TI} {e:TypeId} {sz h J g j:Nat} {E:TypeId} {xs:List AV} (G:o.op = .call {callee:=.builtin .copy,args:=#[x,y],argTypes:=#[t,N]})
  (ht:T t=some i) (hd:i.d = .slice e) (he:T e=some f) (hx:ρ x = .sl sz []) (hy:ρ y = .arr h J g j) (I:xs.length=J) :
  Bo P o ρ ⟨.val (.int .i64 0),[(h,.rows E f.size xs)],[]⟩:=by
 intro σ ι H F W w a next Q s A B hk
 have S:H h = .rows E f.size xs:=B (h,.rows E f.size xs) (by simp)
 have z:=A x (by simp [G,Op.operands,Call.operands])
 have u:=A y (by simp [G,Op.operands,Call.operands])
 rw [hx] at z; rw [hy] at u
 have b:=u.arr_inv S I
 obtain ⟨_,q,cap,R⟩:=z.sl_inv.sl_len
 obtain ⟨V,k,U⟩:=Hw (M t i ht) hd
 subst U
 have l:=Jt (M e f he)
 obtain ⟨p,c,m,D⟩:∃p c m,a.eval y = .slice p m c:=by
  unfold E5 at b
  split at b
  .exact ⟨_,_,_,b.1⟩
  .exact ⟨_,_,_,b.2⟩
  .exact b.elim
 have L:(Builtin.firstCells f.size 0 (.slice p m c)).run P w = .ok #[] w:=by
  cases p with
  | none=>simp [Builtin.firstCells]
  | some a=>simp [Builtin.firstCells,loadCells,loadCellsFrom]
 refine D1 (v:=.int .i64 0) (Zs G rfl ?_) (hk σ ι _ w (Le.refl _ _ _) s (.of_val _))
 simp only [Builtin.copy_,R,D]
 cases q with
 | none=>simp [run_underlying k,Builtin.lenOf,l,L,goInt]
 | some a=>simp [run_underlying k,Builtin.lenOf,l,L,goInt,storeCells]
theorem Apd {T:Cg} (S:Ch P T) {t:TypeId} {x:Operand} {lo hi:Option Operand} {i R:TI} {e:TypeId} {f k off len:Nat} {E:TypeId} {sz j:Nat} {xs:List AV} {l:Nat} (B:o.op = .slice t x lo hi none) (ht:T t=some i) (hd:i.d = .slice e) (he:T e=some R)
  (hx:ρ x = .arr f k off len) (I:xs.length=k) (D:F8 ρ 0 lo=some (l:Int)) (J:F8 ρ (len:Int) hi=some (l:Int)) (h2:l<=len) :
  Bo P o ρ ⟨.sl j [],[(f,.rows E sz xs)],[]⟩:=by
 intro σ ι H F W w a next Q s h A hk
 have Y:H f = .rows E sz xs:=A (f,.rows E sz xs) (by simp)
 have hp:=h x (by simp [B,Op.operands])
 rw [hx] at hp
 have b:=hp.arr_inv Y I
 obtain ⟨N,u,z,k1,U,k3,k4,k5,Z,M⟩:=Dc (S t i ht)
 rw [hd] at M; subst M
 have hs:=Jt (S e R he)
 have L:∀(cap:Nat),len<=cap->∀w,(Instr.sliceBounds true len cap (lo.map a.eval) (hi.map a.eval) none).run P w = .ok (l,l,cap) w :=
  fun cap g w=>U8 D J (fun y hy=>h y (by rw [B]; exact U9 hy)) (Nat.le_refl _) (by omega) w
 have key:∀(p:Option Addr) (cap:Nat),len<=cap->a.eval x = .slice p len cap->∃q c,(execOp a.eval o).run P w = .ok (.value (.slice q 0 c)) w:=by
  intro p cap g b
  have:=L cap g w
  simp only [execOp,B,b,Instr.sliceAt,Instr.slice,Sem.run_bind,run_underlying U,Result.andThen_ok,Option.map_none,this,hs w,Sem.run_pure,Nat.sub_self]
  exact ⟨_,_,rfl⟩
 have:∃q c,(execOp a.eval o).run P w = .ok (.value (.slice q 0 c)) w:=by
  unfold E5 at b
  split at b
  .obtain ⟨b,_,G⟩:=b
   exact key none 0 (by omega) (by rw [G]; exact b)
  .obtain ⟨X,b⟩:=b
   exact key _ _ (by omega) b
  .exact b.elim
 obtain ⟨q,c,V⟩:=this
 exact D1 V (hk σ ι _ w (Le.refl _ _ _) s (.cc (.nil _ _ _)))
theorem Vh {t ty:TypeId} {x:Operand} (g:o.op = .call {callee:=.builtin .clear,args:=#[x],argTypes:=#[t]}) (b:o.type=ty) {c:Value} (f:(Builtin.clear_ #[t] ty #[a.eval x]).run P w = .ok c w') :
  (execOp a.eval o).run P w = .ok (.value c) w':=by
 subst b
 simp [execOp,g,resolve,invoke,builtin,f]
theorem Ape {T:Cg} (hT:Ch P T) {t:TypeId} {x:Operand} {i f:TI} {e:TypeId} {h k off len:Nat} {xs:List AV} (M:o.op = .call {callee:=.builtin .clear,args:=#[x],argTypes:=#[t]})
  (ht:T t=some i) (hd:i.d = .slice e) (he:T e=some f) (hz:0<f.size) (B:It f.size (D2 f)=true) (G:(D2 f).cells=f.zero.map .val)
  (hx:ρ x = .arr h k off len) (a8:xs.length=k) (hl:off+len<=k) :
  Bo P o ρ ⟨.tup [],[(h,.rows e f.size xs)],[(h,.rows e f.size (Eh xs off (List.replicate len (D2 f))))]⟩:=by
 intro σ ι H F W w a next Q s Y X hk
 have A:H h = .rows e f.size xs:=X (h,.rows e f.size xs) (by simp)
 have I:=Y x (by simp [M,Op.operands,Call.operands])
 rw [hx] at I
 have g:=I.arr_inv A a8
 obtain ⟨u1,z,e1⟩:=Hw (hT t i ht) hd
 subst e1
 obtain ⟨S,u',l,R,ag,N,af,ae,E,ad⟩:=Dc (hT e f he)
 have U:(zeroValue e).run P w = .ok l w:=by simp [zeroValue,typeInfo,R,N]
 have u:l.cells.size=f.size:=by
  have:=congrArg List.length G
  rw [(Kn B).1,List.length_map,E,Array.length_toList] at this
  exact this.symm
 have ab:xs.length<=140737488355328:=by
  have:=s.obj h
  unfold Ca at this; rw [A] at this
  exact this.2.1
 have y:∀(σ:Aw) (ι:Bi) (H:Hp),Conc σ ι H (.tup []) (.tuple #[]):=fun σ ι H=>.tup [] #[] rfl (fun i c v h _=>by simp at h)
 unfold E5 at g
 split at g
 .obtain ⟨g,rfl,rfl⟩:=g
  have L:Eh xs 0 (List.replicate 0 (D2 f))=xs:=by simp [Eh]
  refine D1 (v:=.tuple #[]) (Vh M rfl ?_) (hk σ ι _ w ?_ ?_ (y _ _ _))
  .simp only [Builtin.clear_,g]
   simp [run_underlying z]
  .show Le σ ι H σ ι (A3 H h (.rows e f.size _)); rw [L,<-A,Gl]; exact Le.refl _ _ _
  .show St σ ι (A3 H h (.rows e f.size _)) F W w; rw [L,<-A,Gl]; exact s
 .rename_i b ac hb
  obtain ⟨ah,g⟩:=g
  by_cases a7:len=0
  .subst a7
   have L:Eh xs off (List.replicate 0 (D2 f))=xs:=by simp [Eh]
   refine D1 (v:=.tuple #[]) (Vh M rfl ?_) (hk σ ι _ w ?_ ?_ (y _ _ _))
   .simp only [Builtin.clear_,g]
    simp [run_underlying z]
   .show Le σ ι H σ ι (A3 H h (.rows e f.size _)); rw [L,<-A,Gl]; exact Le.refl _ _ _
   .show St σ ι (A3 H h (.rows e f.size _)) F W w; rw [L,<-A,Gl]; exact s
  .have D:∀q,q<len*f.size->(Builtin.zeroCells l.cells len).toList[q]? = l.cells[q % f.size]?:=by
    intro q hq
    have hm:q % f.size<l.cells.size:=by rw [u]; exact Nat.mod_lt _ hz
    have Z:l.cells[q % f.size]! = l.cells[q % f.size]:=by simp [hm]
    simp [Builtin.zeroCells,hq,u,Z,hm]
   have hn:Nq σ f.size (List.replicate len (D2 f)) (Builtin.zeroCells l.cells len).toList (fun _ j=>(l.cells[j]?).getD undef):=by
    refine ⟨by simp [Builtin.zeroCells,u],?_,?_,?_⟩
    .intro j x' hj
     have:=List.mem_of_getElem? hj
     simp at this
     rw [this.2]; exact (Kn B).1
    .intro j x' q c' hj hq
     have:=List.mem_of_getElem? hj
     simp at this
     rw [this.2] at hq
     have aa:=(Kn B).2 c' (List.mem_of_getElem? hq)
     rw [G,List.getElem?_map,E,Array.getElem?_toList] at hq
     cases g:l.cells[q]? with
     | none=>rw [g] at hq; simp at hq
     | some v=>
      rw [g] at hq; simp at hq; subst hq
      exact ⟨.val v,aa⟩
    .intro j q hj hq
     have hj':j<len:=by simpa using hj
     have a1:j*f.size+q<len*f.size:=by
      have:(j+1)*f.size<=len*f.size:=Nat.mul_le_mul_right _ (by omega)
      rw [Nat.add_mul] at this; omega
     rw [D _ a1]
     have:(j*f.size+q) % f.size=q:=by rw [Nat.mul_comm,Nat.mul_add_mod,Nat.mod_eq_of_lt hq]
     rw [this]
     have J:q<l.cells.size:=by omega
     simp [J]
   obtain ⟨w',V,le,s'⟩:=Zr (P:=P) s A hb (d:=off) (by omega) (by rw [List.length_replicate]; omega) (by rw [List.length_replicate]; omega) hz hn
   refine D1 (v:=.tuple #[]) (Vh M rfl ?_) (hk σ ι _ w' le s' (y _ _ _))
   have a6:∃m,len=m+1:=⟨len-1,by omega⟩
   obtain ⟨m,rfl⟩:=a6
   simp only [Builtin.clear_,g]
   simp [run_underlying z,U,V]
 .exact g.elim
theorem Apf {T:Cg} (u:Ch P T) {t:TypeId} {x:Operand} {i:TI} {e:TypeId} {sz:Nat} (j:o.op = .call {callee:=.builtin .clear,args:=#[x],argTypes:=#[t]})
  (ht:T t=some i) (hd:i.d = .slice e) (hx:ρ x = .sl sz []):Bo P o ρ ⟨.tup [],[],[]⟩:=by
 intro σ ι H F W w a next Q s g l hk
 have b:=g x (by simp [j,Op.operands,Call.operands])
 rw [hx] at b
 obtain ⟨_,q,cap,k⟩:=b.sl_inv.sl_len
 obtain ⟨z,f,y⟩:=Hw (u t i ht) hd
 subst y
 refine D1 (v:=.tuple #[]) (Vh j rfl ?_) (hk σ ι _ w (Le.refl _ _ _) s (.tup [] #[] rfl (fun i c v h _=>by simp at h)))
 simp only [Builtin.clear_,k]
 cases q <;> simp [run_underlying f]
end
end Go.Ab
namespace Go.Ab
theorem St.newMap {σ:Aw} {ι:Bi} {H:Hp} {F:Aw} {W w:World} (s:St σ ι H F W w) (h:Nat) (j:H h = .none) :
  St σ (A3 ι h (.box w.heap.size)) (A3 H h (.map [])) F W (w.alloc (.map #[] 0))/\Le σ ι H σ (A3 ι h (.box w.heap.size)) (A3 H h (.map [])):=by
 have g:ι h = .none:=by have:=s.obj h; unfold Ca at this; rw [j] at this; exact this
 have le:Le σ ι H σ (A3 ι h (.box w.heap.size)) (A3 H h (.map [])):=Le.upd (Aw.le_refl σ) h _ _ (by rw [g,j]; exact HLe.of_none)
 obtain ⟨c,f⟩:=s.fresh
 refine ⟨s.touch h w.heap.size (fun x e=>Cp _ _ e) (fun x e=>Cp _ _ e) le ?_ (fun _ _=>rfl) (fun o i=>by rw [c] at i; cases i) ?_ f ?_ ?_ rfl rfl rfl,le⟩
 .intro b hb
  show (w.heap.push _)[b]? = _
  rw [Array.getElem?_push,if_neg hb]
 .intro x e k hb
  have:=(s.block k hb).1
  omega
 .intro b _ hb
  rw [B5] at hb; simp [Loc.block?] at hb
  exact .inl hb.symm
 .unfold Ca
  rw [B5]
  refine ⟨w.heap.size,#[],0,B5 _ _ _,c,f,?_,rfl,by simp⟩
  show (w.heap.push _)[w.heap.size]? = _
  simp
theorem St.setMap {σ:Aw} {ι:Bi} {H:Hp} {F:Aw} {W w:World} (s:St σ ι H F W w) (h:Nat) (es c:List (AV×AV)) (g:H h = .map es) (b:Nat) (hb:ι h = .box b)
  (i:Array MapEntry) (j:Nat) (z:No σ c i) :
  St σ ι (A3 H h (.map c)) F W {w with heap:=w.heap.setIfInBounds b (.map i j)}/\Le σ ι H σ ι (A3 H h (.map c)):=by
 have k:=s.obj h
 unfold Ca at k
 rw [g] at k
 obtain ⟨B,M,t,u,h1,h2,h3,h4⟩:=k
 rw [hb] at u; cases u
 have le:Le σ ι H σ ι (A3 H h (.map c)):=by
  have:=Le.upd (ι:=ι) (H:=H) (Aw.le_refl σ) h (ι h) (.map c) (by rw [g]; exact ⟨fun _ e=>e,(fun _ e=>by cases e),(fun _ _ _ _ e=>by cases e)⟩)
  rwa [Gl] at this
 have f:=Go.MapKept.heap_set (w:=w) (o':=.map i j) h3
 refine ⟨s.touch h b (fun _ _=>rfl) (fun x e=>Cp _ _ e) le (fun x e=>f.2 x e) (fun _ _=>rfl) (fun o e=>by rw [h1] at e; cases e) ?_ h2 ?_ ?_ rfl rfl rfl,le⟩
 .intro x e y l
  exact e (s.inj x h b y (by rw [g]; rfl) l (by rw [hb]; rfl))
 .intro A _ q
  exact .inr ⟨by rw [g]; rfl,q⟩
 .unfold Ca
  rw [B5]
  exact ⟨b,i,j,hb,h1,h2,f.1,z⟩
def G4 (s:ByteArray):List (AV×AV)->Nat->Option (Option (Nat×AV))
 | [],_=>some none
 | p::es,i=>
  match p.1 with
  | .val (.string t)=>bif s==t then some (some (i,p.2)) else G4 s es (i+1)
  | _=>none
def Vi (s:ByteArray) (v:AV) (es:List (AV×AV)):Option (List (AV×AV)) :=
 match G4 s es 0 with
 | none=>none
 | some none=>some (es++[(.val (.string s),v)])
 | some (some p)=>some (es.set p.1 (.val (.string s),v))
theorem Zt {σ:Aw} {s:ByteArray}:∀(es:List (AV×AV)) (L:List MapEntry) (i:Nat) (r:Option (Nat×AV)),L.length=es.length ->
  (∀(j:Nat) (p:AV×AV) (e:MapEntry),es[j]? = some p->L[j]? = some e->CC σ p.1 e.key/\CC σ p.2 e.val)->G4 s es i=some r ->
  (r=none/\Instr.findNow .string (.string s) L i=some none)\/∃j v e,r=some (i+j,v)/\Instr.findNow .string (.string s) L i=some (some (i+j,e.val))/\L[j]? = some e/\e.key = .string s/\CC σ v e.val/\j<es.length
 | [],[],i,r,g,h,b=>by
  simp only [G4] at b; cases b
  exact .inl ⟨rfl,rfl⟩
 | [],e::L,i,r,g,h,b=>by simp at g
 | p::es,[],i,r,g,h,b=>by simp at g
 | p::es,e::L,i,r,g,h,b=>by
  obtain ⟨hk,l⟩:=h 0 p e rfl rfl
  simp only [G4] at b
  split at b
  .rename_i t hp
   rw [hp] at hk
   have f:e.key = .string t:=by
    generalize e.key=q at hk
    cases hk; rfl
   cases c:s==t with
   | true=>
    rw [c] at b
    cases b
    have hs:s=t:=(Go.MapKept.bytes_beq s t).1 c
    refine .inr ⟨0,p.2,e,rfl,?_,rfl,?_,l,by simp⟩
    .unfold Instr.findNow
     rw [f]
     simp [Instr.sameNow,c]
    .rw [f,hs]
   | false=>
    rw [c] at b
    have step:Instr.findNow .string (.string s) (e::L) i=Instr.findNow .string (.string s) L (i+1):=by
     conv=>lhs; unfold Instr.findNow
     rw [f]
     simp [Instr.sameNow,c]
    rcases Zt es L (i+1) r (by simpa using g) (fun j k e' h1 h2=>h (j+1) k e' (by simpa using h1) (by simpa using h2)) b with ⟨h1,h2⟩ | ⟨j,v,e',h1,h2,h3,h4,x,u⟩
    .exact .inl ⟨h1,by rw [step]; exact h2⟩
    .exact .inr ⟨j+1,v,e',by rw [h1]; congr 2; omega,by rw [step,h2]; congr 3; omega,by simpa using h3,h4,x,by simpa using u⟩
  .cases b
section
variable {P:Program} {o:Oper} {ρ:Operand->AV} {a:Act} {w w':World} {next:Act->World->Prop} {Q:Exit->Act->World->Prop}
def Gm:List AV->Option (List Value)
 | []=>some []
 | .val v::xs=>(Gm xs).map (v :: ·)
 | _::_=>none
theorem Nr {σ:Aw} {ι:Bi} {H:Hp}:∀{xs:List AV} {b:List Value} {vs:List Value},Gm xs=some b->vs.length=xs.length->(∀(i:Nat) (c:AV) (v:Value),xs[i]? = some c->vs[i]? = some v->Conc σ ι H c v)->vs=b
 | [],b,vs,h,f,_=>by
  simp only [Gm] at h; cases h
  exact List.length_eq_zero_iff.1 f
 | .val v::xs,b,[],h,f,_=>by simp at f
 | .val v::xs,b,w::vs,h,f,hc=>by
  simp only [Gm,Option.map_eq_some_iff] at h
  obtain ⟨g,h1,rfl⟩:=h
  have k:=(hc 0 _ w rfl rfl).val_inv
  have j:=Nr (vs:=vs) h1 (by simpa using f) (fun i c u g1 g2=>hc (i+1) c u (by simpa using g1) (by simpa using g2))
  rw [k,j]
 | .loc .. :: _,_,_,h,_,_ | .arr .. :: _,_,_,h,_,_ | .el .. :: _,_,_,h,_,_ | .mp .. :: _,_,_,h,_,_ | .ref .. :: _,_,_,h,_,_
 | .sl .. :: _,_,_,h,_,_ | .agg .. :: _,_,_,h,_,_ | .tup .. :: _,_,_,h,_,_ | .fn .. :: _,_,_,h,_,_=>by simp [Gm] at h
def Vk (P:Program) (t:TypeId) (c vs:List Value) (b:Bool):Prop :=
 ∀(w:World) (op:BinOp) (x y:Operand),(eqGuard op t x y (.agg c.toArray) (.agg vs.toArray)).run P w = .ok () w/\(Op.equal t (.agg c.toArray) (.agg vs.toArray)).run P w = .ok b w
theorem Afb {op:BinOp} {t s:TypeId} {x y:Operand} {xs ys:List AV} {f vs:List Value} {b c:Bool} (g:o.op = .binOp op t x y s) (hx:ρ x = .agg xs) (hy:ρ y = .agg ys) (h1:Gm xs=some f) (h2:Gm ys=some vs)
  (hb:Vk P t f vs b) (hc:(op = .eql/\c=b)\/(op = .neq/\c = !b)):Bo P o ρ ⟨.val (.bool c),[],[]⟩ :=
 Dn fun σ ι H a w h=>by
  refine ⟨.bool c,?_,.of_val _⟩
  have q:=h x (by simp [g,Op.operands])
  have l:=h y (by simp [g,Op.operands])
  rw [hx] at q; rw [hy] at l
  obtain ⟨k,E,B,I⟩:=q.agg_inv
  obtain ⟨j,D,A,G⟩:=l.agg_inv
  have g1:k=f.toArray:=by
   have:=Nr (vs:=k.toList) h1 (by simpa using B) (fun i c v m1 m2=>I i c v m1 (by simpa using m2))
   rw [<-this]
  have g2:j=vs.toArray:=by
   have:=Nr (vs:=j.toList) h2 (by simpa using A) (fun i c v m1 m2=>G i c v m1 (by simpa using m2))
   rw [<-this]
  subst g1; subst g2
  obtain ⟨z,u⟩:=hb w op x y
  rcases hc with ⟨rfl,rfl⟩ | ⟨rfl,rfl⟩
  all_goals
   simp only [execOp,g,E,D,Sem.run_bind,z,Result.andThen_ok,binOp,u,Sem.run_pure]
def Zu (P:Program) (s:TypeId) (f:Nat):Option TypeId :=
 match P.underlying s with
 | some (.struct fields)=>(fields[f]?).map (·.type)
 | _=>none
theorem Afc {T:Cg} (I:Ch P T) {t z:TypeId} {x:Operand} {f:Nat} {i g:TI} {fs:List (Nat×Nat)} {q:Nat×Nat} {cs:List AV} {r:AV} (G:o.op = .field t x f) (ht:T t=some i) (hd:i.d = .struct fs) (hq:fs[f]? = some q) (y:Zu P t f=some z)
  (he:T z=some g) (hx:ρ x = .agg cs) (U:(g.isAgg=true/\q.1+g.size<=cs.length/\r = .agg ((cs.drop q.1).take g.size))\/(g.isAgg=false/\cs[q.1]? = some r)):Bo P o ρ ⟨r,[],[]⟩ :=
 Dn fun σ ι H a w h=>by
  have hc:=h x (by simp [G,Op.operands])
  rw [hx] at hc
  obtain ⟨vs,L,N,M⟩:=hc.agg_inv
  obtain ⟨_,u,_,_,D,_,_,_,_,J⟩:=Dc (I t i ht)
  rw [hd] at J
  obtain ⟨fields,rfl,R,_⟩:=J
  unfold Zu at y
  rw [D] at y
  simp only [Option.map_eq_some_iff] at y
  obtain ⟨A,g1,g2⟩:=y
  have b:q.1=A.offset:=by
   rw [R,List.getElem?_map,Array.getElem?_toList,g1] at hq
   simp at hq; rw [<-hq]
  have l:=U7 (I z g he) w
  have E:=Jt (I z g he) w
  subst g2
  rcases U with ⟨B,s,rfl⟩ | ⟨B,s⟩
  .refine ⟨.agg (vs.extract A.offset (A.offset+g.size)),?_,.agg _ _ (by simp [b] at s ⊢; omega) fun j c u m1 m2=>?_⟩
   .simp [execOp,G,L,Instr.field,run_underlying D,g1,asAgg,part,l,B,E,Result.andThen]
   .rw [b] at m1
    have hj:j<g.size:=by
     have:=(List.getElem?_eq_some_iff.1 m1).1; simp at this; omega
    rw [List.getElem?_take_of_lt hj,List.getElem?_drop] at m1
    rw [Array.getElem?_extract] at m2
    split at m2
    .exact M _ c u m1 m2
    .cases m2
  .have k:q.1<vs.size:=by rw [N]; exact (List.getElem?_eq_some_iff.1 s).1
   have S:vs[A.offset]? = some vs[q.1]:=by rw [<-b]; simp [k]
   refine ⟨vs[q.1],?_,M q.1 r _ s (by simp [k])⟩
   simp [execOp,G,L,Instr.field,run_underlying D,g1,asAgg,part,l,B,S,Result.andThen]
theorem Apg {t:TypeId} (h:Nat) (c:o.op = .makeMap t none):Bo P o ρ ⟨.mp h,[(h,.none)],[(h,.map [])]⟩:=by
 intro σ ι H F W w a next Q s hx b hk
 have f:H h = .none:=b (h,.none) (by simp)
 obtain ⟨s',le⟩:=s.newMap h f
 refine D1 (v:=.map (some w.heap.size)) (w':=w.alloc (.map #[] 0)) ?_ (hk σ _ _ _ le s' (.mp h w.heap.size (B5 _ _ _)))
 simp [execOp,c,Instr.makeMap,newObj,Sem.run]
theorem Conc.mp_inv {σ:Aw} {ι:Bi} {H:Hp} {h:Nat} {v:Value} (hc:Conc σ ι H (.mp h) v):∃b,ι h = .box b/\v = .map (some b):=by
 cases hc with
 | cc h=>cases h
 | mp _ b hb=>exact ⟨b,hb,rfl⟩
def Pw (b:Bool) (i:TI):Option (Nat×AV)->AV
 | none=>bif b then .tup [D2 i,.val (.bool false)] else D2 i
 | some p=>bif b then .tup [p.2,.val (.bool true)] else p.2
theorem Afd {σ:Aw} {ι:Bi} {H:Hp} {i:TI} {z:Value} (h1:z.cells.toList=i.zero) (h2:i.isAgg=true->∃vs,z = .agg vs) (h3:i.isAgg=false->Du z=true):Conc σ ι H (D2 i) z:=by
 cases b:i.isAgg with
 | true=>
  obtain ⟨vs,rfl⟩:=h2 b
  have f:D2 i = .agg (i.zero.map .val):=by
   unfold TI.isAgg at b
   unfold D2
   cases hd:i.d <;> rw [hd] at b <;> first | rfl | cases b
  rw [f,<-h1]
  refine .agg _ vs (by simp [Value.cells]) fun j c v g1 g2=>?_
  simp only [Value.cells,List.getElem?_map,Array.getElem?_toList,g2] at g1
  simp at g1; subst g1; exact .of_val v
 | false=>
  have h3:=h3 b
  have f:z.cells = #[z]:=by cases z <;> first | rfl | cases h3
  rw [f] at h1
  have:D2 i = .val z:=by
   unfold TI.isAgg at b
   unfold D2
   rw [<-h1]
   cases hd:i.d <;> rw [hd] at b <;> first | rfl | cases b
  rw [this]; exact .of_val z
theorem Aph {T:Cg} (hT:Ch P T) {t V et:TypeId} {x y:Operand} {D:Bool} {i X G:TI} {h:Nat} {es:List (AV×AV)} {s:ByteArray} {r:Option (Nat×AV)} (B:o.op = .lookup t x y D) (ht:T t=some i) (hd:i.d = .map V et)
  (hk:T V=some X) (a1:X.d = .string) (he:T et=some G) (hx:ρ x = .mp h) (hy:ρ y = .val (.string s)) (hr:G4 s es 0=some r) :
  Bo P o ρ ⟨Pw D G r,[(h,.map es)],[]⟩:=by
 intro σ ι H F W w a next Q st L Y Z
 have hh:H h = .map es:=Y (h,.map es) (by simp)
 have R:=L x (by simp [B,Op.operands])
 rw [hx] at R
 obtain ⟨b,hb,U⟩:=R.mp_inv
 have g:=C1 hy (L y (by simp [B,Op.operands]))
 have A:=st.obj h
 unfold Ca at A; rw [hh] at A
 obtain ⟨b',M,q,e1,_,_,h3,h4⟩:=A
 rw [hb] at e1; cases e1
 obtain ⟨_,u,_,_,S,_,_,_,_,k7⟩:=Dc (hT t i ht)
 rw [hd] at k7; subst k7
 obtain ⟨_,u',_,_,f,_,_,_,_,E⟩:=Dc (hT V X hk)
 rw [a1] at E; subst E
 have k:Go.MapKept.IsKey .string (.string s):=trivial
 have l:∀v,Conc σ ι H (Pw D G r) v->(execOp a.eval o).run P w = .ok (.value v) w->o.wp P a w next Q:=by
  intro v hc J
  exact D1 J (Z σ ι v w (Le.refl _ _ _) st hc)
 rcases Zt es M.toList 0 r (by simpa using h4.1) (fun j p e g1 g2=>h4.2 j p e g1 (by simpa using g2)) hr with ⟨rfl,N⟩ | ⟨j,v,e,rfl,N,g1,g2,g3,_⟩
 .obtain ⟨z,hz,c1,c2,c3⟩:=Aew (hT et G he) w
  have I:Conc σ ι H (D2 G) z:=Afd c1 c2 c3
  cases D with
  | true=>
   refine l (.tuple #[z,.bool false]) (.tup _ _ (by simp) fun i c u m1 m2=>?_) ?_
   .match i with
    | 0=>simp at m1 m2; subst m1; subst m2; exact I
    | 1=>simp at m1 m2; subst m1; subst m2; exact .of_val _
    | i+2=>simp at m1
   .simp [execOp,B,U,g,Instr.lookup,run_underlying S,Go.MapKept.run_getObj_map h3,Go.MapKept.run_checkKey f k,Go.MapKept.run_findKey f N,hz,Result.andThen]
  | false=>
   refine l z I ?_
   simp [execOp,B,U,g,Instr.lookup,run_underlying S,Go.MapKept.run_getObj_map h3,Go.MapKept.run_checkKey f k,Go.MapKept.run_findKey f N,hz,Result.andThen]
 .cases D with
  | true=>
   refine l (.tuple #[e.val,.bool true]) (.tup _ _ (by simp) fun i c u m1 m2=>?_) ?_
   .match i with
    | 0=>simp at m1 m2; subst m1; subst m2; exact .cc g3
    | 1=>simp at m1 m2; subst m1; subst m2; exact .of_val _
    | i+2=>simp at m1
   .simp [execOp,B,U,g,Instr.lookup,run_underlying S,Go.MapKept.run_getObj_map h3,Go.MapKept.run_checkKey f k,Go.MapKept.run_findKey f N,Result.andThen]
  | false=>
   refine l e.val (.cc g3) ?_
   simp [execOp,B,U,g,Instr.lookup,run_underlying S,Go.MapKept.run_getObj_map h3,Go.MapKept.run_checkKey f k,Go.MapKept.run_findKey f N,Result.andThen]
theorem Conc.cc_free1 {σ:Aw} {ι:Bi} {H:Hp} {x:AV} {v:Value} (hx:x.free1=true) (h:Conc σ ι H x v):CC σ x v:=by
 cases x with
 | agg cs=>
  obtain ⟨vs,rfl,b,h⟩:=h.agg_inv
  exact .agg cs vs b fun i c u h1 h2=>((h i c u h1 h2).cc_of (List.all_eq_true.1 hx c (List.mem_of_getElem? h1))).1
 | val u=>exact (h.cc_of (x:=.val u) hx).1
 | sl sz xs=>exact (h.cc_of (x:=.sl sz xs) hx).1
 | _=>cases hx
theorem Api {T:Cg} (hT:Ch P T) {t Y et:TypeId} {x y z:Operand} {i Z:TI} {h:Nat} {es f:List (AV×AV)} {s:ByteArray} (N:o.op = .mapUpdate t x y z) (ht:T t=some i) (hd:i.d = .map Y et)
  (hk:T Y=some Z) (a7:Z.d = .string) (hx:ρ x = .mp h) (hy:ρ y = .val (.string s)) (hz:(ρ z).free1=true) (g:Vi s (ρ z) es=some f) :
  Bo P o ρ ⟨.val undef,[(h,.map es)],[(h,.map f)]⟩:=by
 intro σ ι H F W w a next Q st k a1 a6
 have hh:H h = .map es:=a1 (h,.map es) (by simp)
 have U:=k x (by simp [N,Op.operands])
 rw [hx] at U
 obtain ⟨b,hb,hv⟩:=U.mp_inv
 have J:=C1 hy (k y (by simp [N,Op.operands]))
 have S:=(k z (by simp [N,Op.operands])).cc_free1 hz
 have l:=st.obj h
 unfold Ca at l; rw [hh] at l
 obtain ⟨b',M,q,e1,_,_,h3,h4⟩:=l
 rw [hb] at e1; cases e1
 obtain ⟨_,u,_,_,k2,_,_,_,_,k7⟩:=Dc (hT t i ht)
 rw [hd] at k7; subst k7
 obtain ⟨_,u',_,_,c,_,_,_,_,I⟩:=Dc (hT Y Z hk)
 rw [a7] at I; subst I
 have B:Go.MapKept.IsKey .string (.string s):=trivial
 have R:∀V X,No σ f V->(execOp a.eval o).run P w = .ok .skip {w with heap:=w.heap.setIfInBounds b (.map V X)}->o.wp P a w next Q:=by
  intro V X hM L
  obtain ⟨s',le⟩:=st.setMap h es f hh b hb V X hM
  exact U6 L (a6 σ ι undef _ le s' (.of_val _))
 unfold Vi at g
 cases E:G4 s es 0 with
 | none=>rw [E] at g; cases g
 | some r=>
  rw [E] at g
  rcases Zt es M.toList 0 r (by simpa using h4.1) (fun j p e g1 g2=>h4.2 j p e g1 (by simpa using g2)) E with ⟨rfl,hf⟩ | ⟨j,v,e,rfl,hf,g1,g2,g3,g4⟩
  .simp only [Option.some.injEq] at g
   subst g
   refine R (M.push {key:=.string s,val:=a.eval z,born:=q}) (q+1) ⟨by simp [h4.1],fun G p e m1 m2=>?_⟩ ?_
   .rcases Nat.lt_or_ge G es.length with A | hge
    .rw [List.getElem?_append_left A] at m1
     rw [Array.getElem?_push_lt (by rw [h4.1]; exact A)] at m2
     exact h4.2 G p e m1 (by rw [Array.getElem?_eq_getElem (by rw [h4.1]; exact A)]; exact m2)
    .rw [List.getElem?_append_right hge] at m1
     have a8:G=es.length:=by
      have:=(List.getElem?_eq_some_iff.1 m1).1; simp at this; omega
     subst a8
     simp at m1; subst m1
     rw [<-h4.1] at m2
     simp at m2; subst m2
     exact ⟨.val _,S⟩
   .simp [execOp,N,hv,J,Instr.mapUpdate,run_underlying k2,Go.MapKept.run_getObj_map h3,Go.MapKept.run_checkKey c B,Go.MapKept.run_findKey c hf,Go.MapKept.run_setObj_map _ h3,Result.andThen]
  .simp only [Option.some.injEq] at g
   subst g
   have hj:M[j]? = some e:=by simpa using g1
   refine R (M.modify j fun e=>{e with key:=.string s,val:=a.eval z}) q ⟨by simp [h4.1],fun G p e' m1 m2=>?_⟩ ?_
   .simp only [Nat.zero_add] at m1
    rw [List.getElem?_set] at m1
    rw [Array.getElem?_modify] at m2
    by_cases D:j=G
    .subst D
     simp only [if_true] at m1 m2
     rw [if_pos g4] at m1; cases m1
     rw [hj] at m2; simp at m2; subst m2
     exact ⟨.val _,S⟩
    .rw [if_neg D] at m1
     rw [if_neg D] at m2
     exact h4.2 G p e' m1 m2
   .simp [execOp,N,hv,J,Instr.mapUpdate,run_underlying k2,Go.MapKept.run_getObj_map h3,Go.MapKept.run_checkKey c B,Go.MapKept.run_findKey c hf,hj,g2,Go.MapKept.run_keyThatStays B,Go.MapKept.run_setObj_map _ h3,Result.andThen]
def Vl (P:Program) (b:TypeId) (c:List Value):Prop :=
 (∃fs,P.underlying b=some (.struct fs))/\∀(w:World) (e:Bool),(Instr.checkKey e 10000 b (.agg c.toArray)).run P w = .ok () w
inductive Ko (P:Program) (kt:TypeId) (us:List Value):List (AV×AV)->Nat->Option (Nat×AV)->Prop where
 | nil (i:Nat):Ko P kt us [] i none
 | hit {ys:List AV} {vs:List Value} {v:AV} {es:List (AV×AV)} {i:Nat} (h1:Gm ys=some vs) (h2:Vk P kt us vs true):Ko P kt us ((.agg ys,v)::es) i (some (i,v))
 | miss {ys:List AV} {vs:List Value} {v:AV} {es:List (AV×AV)} {i:Nat} {r:Option (Nat×AV)} (h1:Gm ys=some vs) (h2:Vk P kt us vs false) (h3:Ko P kt us es (i+1) r):Ko P kt us ((.agg ys,v)::es) i r
theorem Ko.sound {σ:Aw} {l:TypeId} {k:List Value} {es:List (AV×AV)} {i:Nat} {r:Option (Nat×AV)} (h:Ko P l k es i r):∀(L:List MapEntry),L.length=es.length ->
  (∀(j:Nat) (p:AV×AV) (e:MapEntry),es[j]? = some p->L[j]? = some e->CC σ p.1 e.key/\CC σ p.2 e.val)->∀w:World,
  (r=none/\(Instr.findAsking l (.agg k.toArray) L i).run P w = .ok none w)\/∃j v e,r=some (i+j,v)/\(Instr.findAsking l (.agg k.toArray) L i).run P w = .ok (some (i+j,e.val)) w/\L[j]? = some e/\CC σ v e.val/\j<es.length:=by
 induction h with
 | nil i=>
  intro L g _ w
  cases L with
  | nil=>exact .inl ⟨rfl,by simp [Instr.findAsking]⟩
  | cons e L=>simp at g
 | @hit ys vs v es i h1 h2=>
  intro L g hc w
  cases L with
  | nil=>simp at g
  | cons e L=>
   obtain ⟨s,y⟩:=hc 0 _ e rfl rfl
   have hk:e.key = .agg vs.toArray:=by
    generalize e.key=q at s
    cases s with
    | agg _ b f x=>
     have:=Nr (σ:=σ) (ι:=fun _=>.none) (H:=fun _=>.none) (vs:=b.toList) h1 (by simpa using f) (fun i c u g1 g2=>.cc (x i c u g1 (by simpa using g2)))
     rw [<-this]
   refine .inr ⟨0,v,e,rfl,?_,rfl,y,by simp⟩
   have:=(h2 w .eql default default).2
   simp [Instr.findAsking,hk,this]
 | @miss ys vs v es i r h1 h2 h3 ih=>
  intro L g hc w
  cases L with
  | nil=>simp at g
  | cons e L=>
   obtain ⟨s,y⟩:=hc 0 _ e rfl rfl
   have hk:e.key = .agg vs.toArray:=by
    generalize e.key=q at s
    cases s with
    | agg _ b f x=>
     have:=Nr (σ:=σ) (ι:=fun _=>.none) (H:=fun _=>.none) (vs:=b.toList) h1 (by simpa using f) (fun i c u g1 g2=>.cc (x i c u g1 (by simpa using g2)))
     rw [<-this]
   have:=(h2 w .eql default default).2
   have step:(Instr.findAsking l (.agg k.toArray) (e::L) i).run P w=(Instr.findAsking l (.agg k.toArray) L (i+1)).run P w:=by
    simp [Instr.findAsking,hk,this]
   rcases ih L (by simpa using g) (fun j A e' g1 g2=>hc (j+1) A e' (by simpa using g1) (by simpa using g2)) w with ⟨g1,g2⟩ | ⟨j,z,e',g1,g2,g3,g4,g5⟩
   .exact .inl ⟨g1,by rw [step]; exact g2⟩
   .exact .inr ⟨j+1,z,e',by rw [g1]; congr 2; omega,by rw [step,g2]; congr 3; omega,by simpa using g3,g4,by simpa using g5⟩
theorem Apj {T:Cg} (hT:Ch P T) {t G et:TypeId} {x y:Operand} {E:Bool} {i I:TI} {h:Nat} {es:List (AV×AV)} {ks:List AV} {A:List Value} {r:Option (Nat×AV)} (D:o.op = .lookup t x y E) (ht:T t=some i) (hd:i.d = .map G et)
  (he:T et=some I) (hx:ρ x = .mp h) (hy:ρ y = .agg ks) (hu:Gm ks=some A) (hc:Vl P G A) (hr:Ko P G A es 0 r) :
  Bo P o ρ ⟨Pw E I r,[(h,.map es)],[]⟩:=by
 intro σ ι H F W w a next Q st N a1 a6
 have hh:H h = .map es:=a1 (h,.map es) (by simp)
 have U:=N x (by simp [D,Op.operands])
 rw [hx] at U
 obtain ⟨b,hb,X⟩:=U.mp_inv
 have S:=N y (by simp [D,Op.operands])
 rw [hy] at S
 obtain ⟨Y,f,a7,aa⟩:=S.agg_inv
 have Z:Y.toList=A:=Nr hu (by simpa using a7) (fun i c u g1 g2=>aa i c u g1 (by simpa using g2))
 have f:a.eval y = .agg A.toArray:=by rw [f,<-Z]
 have B:=st.obj h
 unfold Ca at B; rw [hh] at B
 obtain ⟨b',M,q,e1,_,_,h3,h4⟩:=B
 rw [hb] at e1; cases e1
 obtain ⟨_,u,_,_,V,_,_,_,_,k7⟩:=Dc (hT t i ht)
 rw [hd] at k7; subst k7
 obtain ⟨⟨fs,a8⟩,s⟩:=hc
 have g:∀v,Conc σ ι H (Pw E I r) v->(execOp a.eval o).run P w = .ok (.value v) w->o.wp P a w next Q:=by
  intro v hc L
  exact D1 L (a6 σ ι v w (Le.refl _ _ _) st hc)
 have k:∀l,(Instr.findKey G (.agg A.toArray) l).run P w=(Instr.findAsking G (.agg A.toArray) l).run P w:=fun l=>run_findKey_eq w (by rw [a8]) _ l
 rcases hr.sound M.toList (by simpa using h4.1) (fun j p e g1 g2=>h4.2 j p e g1 (by simpa using g2)) w with ⟨rfl,R⟩ | ⟨j,v,e,rfl,R,g1,g3,_⟩
 .obtain ⟨z,hz,c1,c2,c3⟩:=Aew (hT et I he) w
  have J:Conc σ ι H (D2 I) z:=Afd c1 c2 c3
  cases E with
  | true=>
   refine g (.tuple #[z,.bool false]) (.tup _ _ (by simp) fun i c u m1 m2=>?_) ?_
   .match i with
    | 0=>simp at m1 m2; subst m1; subst m2; exact J
    | 1=>simp at m1 m2; subst m1; subst m2; exact .of_val _
    | i+2=>simp at m1
   .simp [execOp,D,X,f,Instr.lookup,run_underlying V,Go.MapKept.run_getObj_map h3,s,k,R,hz,Result.andThen]
  | false=>
   refine g z J ?_
   simp [execOp,D,X,f,Instr.lookup,run_underlying V,Go.MapKept.run_getObj_map h3,s,k,R,hz,Result.andThen]
 .cases E with
  | true=>
   refine g (.tuple #[e.val,.bool true]) (.tup _ _ (by simp) fun i c u m1 m2=>?_) ?_
   .match i with
    | 0=>simp at m1 m2; subst m1; subst m2; exact .cc g3
    | 1=>simp at m1 m2; subst m1; subst m2; exact .of_val _
    | i+2=>simp at m1
   .simp [execOp,D,X,f,Instr.lookup,run_underlying V,Go.MapKept.run_getObj_map h3,s,k,R,Result.andThen]
  | false=>
   refine g e.val (.cc g3) ?_
   simp [execOp,D,X,f,Instr.lookup,run_underlying V,Go.MapKept.run_getObj_map h3,s,k,R,Result.andThen]
theorem Apk {T:Cg} (hT:Ch P T) {t E et:TypeId} {x y z:Operand} {i:TI} {h:Nat} {es:List (AV×AV)} {g:List AV} {f:List Value} (J:o.op = .mapUpdate t x y z) (ht:T t=some i) (hd:i.d = .map E et)
  (hx:ρ x = .mp h) (hy:ρ y = .agg g) (hu:Gm g=some f) (hz:(ρ z).free1=true) (hc:Vl P E f) (hr:Ko P E f es 0 none) :
  Bo P o ρ ⟨.val undef,[(h,.map es)],[(h,.map (es++[(.agg g,ρ z)]))]⟩:=by
 intro σ ι H F W w a next Q st A S U
 have hh:H h = .map es:=S (h,.map es) (by simp)
 have I:=A x (by simp [J,Op.operands])
 rw [hx] at I
 obtain ⟨b,hb,hv⟩:=I.mp_inv
 have G:=A y (by simp [J,Op.operands])
 rw [hy] at G
 obtain ⟨L,k,V,a8⟩:=G.agg_inv
 have R:L.toList=f:=Nr hu (by simpa using V) (fun i c u g1 g2=>a8 i c u g1 (by simpa using g2))
 have k:a.eval y = .agg f.toArray:=by rw [k,<-R]
 have X:CC σ (.agg g) (.agg f.toArray):=by
  have s:∀(g:List AV) (f:List Value),Gm g=some f->g=f.map .val:=by
   intro g
   induction g with
   | nil=>intro f h; simp only [Gm] at h; cases h; rfl
   | cons c g ih=>
    intro f h
    cases c with
    | val v=>
     simp only [Gm,Option.map_eq_some_iff] at h
     obtain ⟨aa,h1,rfl⟩:=h
     rw [ih _ h1]; rfl
    | _=>simp [Gm] at h
  have e:=s g f hu
  subst e
  refine .agg _ _ (by simp) fun i c v g1 g2=>?_
  simp only [List.getElem?_map] at g1
  have g2:f[i]? = some v:=by simpa using g2
  rw [g2] at g1; simp at g1; subst g1
  exact .val v
 have a6:=(A z (by simp [J,Op.operands])).cc_free1 hz
 have B:=st.obj h
 unfold Ca at B; rw [hh] at B
 obtain ⟨b',M,q,e1,_,_,h3,h4⟩:=B
 rw [hb] at e1; cases e1
 obtain ⟨_,u,_,_,k2,_,_,_,_,k7⟩:=Dc (hT t i ht)
 rw [hd] at k7; subst k7
 obtain ⟨⟨fs,Z⟩,a7⟩:=hc
 have a1:∀l,(Instr.findKey E (.agg f.toArray) l).run P w=(Instr.findAsking E (.agg f.toArray) l).run P w:=fun l=>run_findKey_eq w (by rw [Z]) _ l
 rcases hr.sound M.toList (by simpa using h4.1) (fun j p e g1 g2=>h4.2 j p e g1 (by simpa using g2)) w with ⟨_,hf⟩ | ⟨j,v,e,he,_⟩
 .have hM:No σ (es++[(.agg g,ρ z)]) (M.push {key:=.agg f.toArray,val:=a.eval z,born:=q}):=by
   refine ⟨by simp [h4.1],fun N p e m1 m2=>?_⟩
   rcases Nat.lt_or_ge N es.length with D | hge
   .rw [List.getElem?_append_left D] at m1
    rw [Array.getElem?_push_lt (by rw [h4.1]; exact D)] at m2
    exact h4.2 N p e m1 (by rw [Array.getElem?_eq_getElem (by rw [h4.1]; exact D)]; exact m2)
   .rw [List.getElem?_append_right hge] at m1
    have Y:N=es.length:=by
     have:=(List.getElem?_eq_some_iff.1 m1).1; simp at this; omega
    subst Y
    simp at m1; subst m1
    rw [<-h4.1] at m2
    simp at m2; subst m2
    exact ⟨X,a6⟩
  obtain ⟨s',le⟩:=st.setMap h es _ hh b hb _ (q+1) hM
  refine U6 ?_ (U σ ι undef _ le s' (.of_val _))
  simp [execOp,J,hv,k,Instr.mapUpdate,run_underlying k2,Go.MapKept.run_getObj_map h3,a7,a1,hf,Go.MapKept.run_setObj_map _ h3,Result.andThen]
 .cases he
end
end Go.Ab
namespace Go.Ab
def ev (e:Bf):Operand->AV
 | .tmp t=>e t
 | .const v=>.val v
 | .global g=>.val (.pointer (some ⟨g,0,none⟩))
 | .func f=>.fn f []
def put (e:Bf) (d:Option Nat) (v:AV):Bf :=
 match d with
 | none=>e
 | some n=>A3 e n v
def Zv:Operand->Option Nat
 | .tmp t=>some t
 | _=>none
def Px (ops:Array Oper) (o:Oper):Option Nat :=
 match o.guard with
 | none=>none
 | some p=>(ops[p.1]?).bind (·.dst)
def Iv (ops:Array Oper) (o:Oper):List Nat:=o.op.operands.toList.filterMap Zv++(Px ops o).toList
def Dq (σ:Aw) (ι:Bi) (H:Hp) (e:Bf) (a:Act):Prop:=∀s,s<a.tmps.size->Conc σ ι H (e s) (a.tmps.getD s undef)
section
variable {σ:Aw} {ι:Bi} {H:Hp} {e:Bf} {a:Act}
theorem Dq.eval (h:Dq σ ι H e a) {x:Operand} (hx:∀t,Zv x=some t->t<a.tmps.size):Conc σ ι H (ev e x) (a.eval x):=by
 cases x with
 | tmp t=>exact h t (hx t rfl)
 | const v=>exact .of_val v
 | global g=>exact .of_val _
 | func f=>exact .fn f [] #[] rfl (by simp)
theorem Dq.mono {b:Aw} {c:Bi} {H':Hp} (h:Dq σ ι H e a) (f:Le σ ι H b c H'):Dq b c H' e a:=fun s hs=>(h s hs).mono f
theorem Dq.put (h:Dq σ ι H e a) {d:Option Nat} {r:AV} {v:Value} (c:Conc σ ι H r v):Dq σ ι H (put e d r) (a.put d v):=by
 cases d with
 | none=>exact h
 | some n=>
  intro s hs
  simp only [Act.put,Array.size_setIfInBounds] at hs
  simp only [Ab.put,Act.put]
  by_cases b:s=n
  .subst b
   rw [B5]
   simpa [hs] using c
  .rw [Cp _ _ b]
   have:=h s hs
   simp only [Array.getD_eq_getD_getElem?] at this ⊢
   rw [Array.getElem?_setIfInBounds_ne (by omega)]
   exact this
end
def Ns:Value->Option Bool
 | .bool b=>some b
 | _=>none
def Gn (ops:Array Oper) (o:Oper) (e:Bf) (b:Bool):Prop :=
 match o.guard with
 | none=>b=true
 | some p=>∃s v,(ops[p.1]?).bind (·.dst)=some s/\e s = .val v/\b=(Ns v==some p.2)
theorem Afe {ops:Array Oper} {o:Oper} {e:Bf} {g:Bool} {σ:Aw} {ι:Bi} {H:Hp} {a:Act} (f:Gn ops o e g) (he:Dq σ ι H e a) (hs:∀s,Px ops o=some s->s<a.tmps.size) :
  Region.wanted o (yielded ops a.tmps)=g:=by
 unfold Gn at f
 unfold Region.wanted
 cases h:o.guard with
 | none=>rw [h] at f; exact f.symm
 | some p=>
  rw [h] at f
  obtain ⟨s,b,h1,h2,h3⟩:=f
  have c:=hs s (by unfold Px; rw [h]; exact h1)
  have hc:=he s c
  rw [h2] at hc
  have i:=hc.val_inv
  have:yielded ops a.tmps p.1=Ns b:=by
   unfold yielded
   rw [h1]
   simp only [Option.bind_some]
   have:a.tmps[s]? = some b:=by
    rw [Array.getD_eq_getD_getElem?] at i
    simp [c] at i ⊢; exact i
   rw [this]
   cases b <;> rfl
  show (yielded ops a.tmps p.1==some p.2)=g
  rw [this,h3]
abbrev Acc:=Nat->List Nat×List Nat
def L5 (P:Program) (ops:Array Oper) (acc:Acc) (i:Nat) (o:Oper) (e:Bf) (H:Hp) (r:AV) (c:List (Nat×Bc)):Prop :=
  ops[i]? = some o /\
  ((Gn ops o e true/\∃b,Bo P o (ev e) b/\(∀p∈b.rd,H p.1=p.2)/\(∀p∈b.rd,p.1∈(acc i).1)/\(∀p∈b.wr,p.1∈(acc i).2)/\r=b.r/\c=b.wr) \/
   (Gn ops o e false/\r = .val undef/\c = []))
inductive Run (P:Program) (ops:Array Oper) (acc:Acc):List Nat->Bf->Hp->Bf->Hp->Prop where
 | nil (e:Bf) (H:Hp):Run P ops acc [] e H e H
 | cons {i:Nat} {l:List Nat} {e e':Bf} {H H':Hp} (o:Oper) (r:AV) (wr:List (Nat×Bc)) (hd:L5 P ops acc i o e H r wr)
   (rest:Run P ops acc l (put e o.dst r) (B6 H wr) e' H'):Run P ops acc (i::l) e H e' H'
def D5 (b:List Nat) (a c:Act):Prop:=∀s,s ∉ b->c.tmps.getD s undef=a.tmps.getD s undef
theorem D5.refl (b:List Nat) (a:Act):D5 b a a:=fun _ _=>rfl
theorem D5.trans {f:List Nat} {a b c:Act} (h:D5 f a b) (h':D5 f b c):D5 f a c:=fun s hs=>(h' s hs).trans (h s hs)
theorem D5.mono {f c:List Nat} {a b:Act} (h:D5 f a b) (g:∀s∈f,s∈c):D5 c a b:=fun s hs=>h s (fun x=>hs (g s x))
theorem D5.put (a:Act) (d:Option Nat) (v:Value) (b:List Nat) (h:∀s,d=some s->s∈b):D5 b a (a.put d v):=by
 cases d with
 | none=>exact D5.refl _ _
 | some n=>
  intro s hs
  have c:s≠n:=fun e=>hs (e ▸ h n rfl)
  simp only [Act.put,Array.getD_eq_getD_getElem?]
  rw [Array.getElem?_setIfInBounds_ne (by omega)]
def R5 (ops:Array Oper):List Nat:=ops.toList.filterMap (·.dst)
theorem D5.step {ops:Array Oper} {i:Nat} {o:Oper} (b:ops[i]? = some o) (a:Act) (v:Value):D5 (R5 ops) a (a.put o.dst v):=by
 refine D5.put a o.dst v _ (fun s hs=>?_)
 unfold R5
 rw [List.mem_filterMap]
 exact ⟨o,by simpa using Array.mem_of_getElem? b,hs⟩
def Vm (ops:Array Oper) (n:Nat):Prop:=∀(i:Nat) (o:Oper),ops[i]? = some o->∀s∈Iv ops o,s<n
section
variable {P:Program} {ops:Array Oper} {acc:Acc} {F:Aw} {W:World} {Q:Exit->Act->World->Prop}
theorem Aff (a:Act) (d:Option Nat) (v:Value):(a.put d v).tmps.size=a.tmps.size:=by
 cases d <;> simp [Act.put]
theorem Run.wpOp {i:Nat} {l:List Nat} {e e':Bf} {H H':Hp} (h:Run P ops acc (i::l) e H e' H') {σ:Aw} {ι:Bi} {a:Act} {w:World} (s:St σ ι H F W w) (he:Dq σ ι H e a) (hs:Vm ops a.tmps.size)
  {K:Act->World->Prop} (hk:∀(B:Bf) (u:Hp),Run P ops acc l B u e' H'->∀g j q w',Le σ ι H g j u->St g j u F W w'->Dq g j u B q->q.tmps.size=a.tmps.size->q.defers=a.defers->D5 (R5 ops) a q->K q w') :
  wpOp P ops Q i K a w:=by
 have c:∀(d:Option Nat) (v:Value),(a.put d v).defers=a.defers:=by intro d v; cases d <;> rfl
 cases h with
 | cons o r wr hd rest=>
  obtain ⟨k,hd⟩:=hd
  unfold Go.wpOp
  have f:=hs i o k
  rcases hd with ⟨A,D,b,z,_,_,rfl,rfl⟩ | ⟨A,rfl,rfl⟩
  .have y:=Afe A he (fun s' h'=>f s' (by simp [Iv,h']))
   rw [k]
   simp only [y,if_true]
   refine .inl (b σ ι H F W w a K Q s (fun x hx=>he.eval (fun t ht=>f t ?_)) z ?_)
   .simp only [Iv,List.mem_append,List.mem_filterMap]
    exact .inl ⟨x,hx,ht⟩
   .intro g j v w' le s' hc
    exact hk _ _ rest g j _ w' le s' ((he.mono le).put hc) (Aff _ _ _) (c _ _) (D5.step k a v)
  .have y:=Afe A he (fun s' h'=>f s' (by simp [Iv,h']))
   rw [k]
   simp only [y,Bool.false_eq_true,if_false]
   exact hk _ _ rest σ ι _ w (Le.refl _ _ _) s (he.put (.of_val undef)) (Aff _ _ _) (c _ _) (D5.step k a undef)
theorem Run.wpOps {l:List Nat} {e e':Bf} {H H':Hp} (h:Run P ops acc l e H e' H'):∀{σ:Aw} {ι:Bi} {a:Act} {w:World},St σ ι H F W w->Dq σ ι H e a->Vm ops a.tmps.size ->
  (∀j k g w',Le σ ι H j k H'->St j k H' F W w'->Dq j k H' e' g->g.tmps.size=a.tmps.size->g.defers=a.defers->D5 (R5 ops) a g->Q .normal g w')->wpOps P ops Q l a w:=by
 induction l generalizing e H with
 | nil=>
  intro σ ι a w s he hs hk
  cases h
  exact hk σ ι a w (Le.refl _ _ _) s he rfl rfl (D5.refl _ _)
 | cons i l ih=>
  intro σ ι a w s he hs hk
  rw [wpOps_cons]
  refine h.wpOp s he hs ?_
  intro R S J L M a1 N u I z c A hu
  refine ih J I z (by rw [c]; exact hs) ?_
  intro B D a2 E q G y b f x
  exact hk B D a2 E (u.trans q) G y (b.trans c) (f.trans A) (hu.trans x)
theorem Bo.congr {o:Oper} {ρ f:Operand->AV} {b:Eff} (h:Bo P o ρ b) (he:∀x∈o.op.operands.toList,f x=ρ x):Bo P o f b :=
 fun σ ι H F W w a next Q s hx c hk=>h σ ι H F W w a next Q s (fun x g=>by rw [<-he x g]; exact hx x g) c hk
theorem Gn.congr {o:Oper} {e e':Bf} {f:Bool} (h:Gn ops o e f) (he:∀s,Px ops o=some s->e' s=e s):Gn ops o e' f:=by
 unfold Gn at *
 cases c:o.guard with
 | none=>rw [c] at h; exact h
 | some p=>
  rw [c] at h
  obtain ⟨s,b,h1,h2,h3⟩:=h
  exact ⟨s,b,h1,by rw [he s (by unfold Px; rw [c]; exact h1)]; exact h2,h3⟩
theorem Apl {e e':Bf} {x:Operand} (h:∀t,Zv x=some t->e' t=e t):ev e' x=ev e x:=by
 cases x with
 | tmp t=>exact h t rfl
 | _=>rfl
theorem L5.congr {i:Nat} {o:Oper} {e e':Bf} {H H':Hp} {r:AV} {c:List (Nat×Bc)} (h:L5 P ops acc i o e H r c) (he:∀s∈Iv ops o,e' s=e s) (j:∀x∈(acc i).1,H' x=H x):L5 P ops acc i o e' H' r c:=by
 obtain ⟨g,h⟩:=h
 refine ⟨g,?_⟩
 have f:∀s,Px ops o=some s->e' s=e s:=fun s hs=>he s (by simp [Iv,hs])
 rcases h with ⟨h1,b,h2,h3,h4,q,l,k⟩ | ⟨h1,h2,h3⟩
 .refine .inl ⟨h1.congr f,b,h2.congr (fun x hx=>Apl fun t ht=>he t ?_),fun p hp=>?_,h4,q,l,k⟩
  .simp only [Iv,List.mem_append,List.mem_filterMap]; exact .inl ⟨x,hx,ht⟩
  .rw [j p.1 (h4 p hp)]; exact h3 p hp
 .exact .inr ⟨h1.congr f,h2,h3⟩
theorem Py {H:Hp}:∀{b:List (Nat×Bc)} {x:Nat},(∀p∈b,p.1≠x)->B6 H b x=H x
 | [],_,_=>rfl
 | p::b,x,h=>by
  simp only [B6]
  rw [Py (fun q hq=>h q (by simp [hq])),Cp _ _ (fun e=>h p (by simp) e.symm)]
theorem Afg {H:Hp} {h:Nat} {o:Bc}:∀{b:List (Nat×Bc)},(∀p∈b,p.1≠h)->B6 (A3 H h o) b=A3 (B6 H b) h o
 | [],_=>rfl
 | p::b,hp=>by
  simp only [B6]
  rw [Aeu _ _ _ (fun e=>hp p (by simp) e),Afg (fun q hq=>hp q (by simp [hq]))]
theorem Afh {H:Hp}:∀{c b:List (Nat×Bc)},(∀p∈c,∀q∈b,p.1≠q.1)->B6 (B6 H c) b=B6 (B6 H b) c
 | [],_,_=>rfl
 | p::c,b,h=>by
  simp only [B6]
  rw [Afh (fun q hq f hq'=>h q (by simp [hq]) f hq'),Afg (fun q hq e=>h p (by simp) q hq e.symm)]
structure Ind (ops:Array Oper) (acc:Acc) (i j:Nat) (o o':Oper):Prop where
 d1:∀s,o.dst=some s->s ∉ Iv ops o'/\o'.dst≠some s
 d2:∀s,o'.dst=some s->s ∉ Iv ops o
 h1:∀x∈(acc i).2,x ∉ (acc j).1/\x ∉ (acc j).2
 h2:∀x∈(acc j).2,x ∉ (acc i).1
theorem Afi {e:Bf} {d:Option Nat} {r:AV} {s:Nat} (h:d≠some s):put e d r s=e s:=by
 cases d with
 | none=>rfl
 | some n=>exact Cp _ _ (fun e=>h (by rw [e]))
theorem Apm {e:Bf} {d b:Option Nat} {r c:AV} (h:∀s,d=some s->b≠some s):put (put e d r) b c=put (put e b c) d r:=by
 cases d with
 | none=>rfl
 | some n=>
  cases b with
  | none=>rfl
  | some m=>exact Aeu _ _ _ (fun e=>h n rfl (by rw [e]))
theorem L5.wr {i:Nat} {o:Oper} {e:Bf} {H:Hp} {r:AV} {b:List (Nat×Bc)} (h:L5 P ops acc i o e H r b):∀p∈b,p.1∈(acc i).2:=by
 obtain ⟨_,⟨_,g,_,_,_,f,_,c⟩ | ⟨_,_,h3⟩⟩:=h
 .subst c; exact f
 .subst h3; intro p hp; cases hp
theorem Run.swap {i j:Nat} {l:List Nat} {e e':Bf} {H H':Hp} (h:Run P ops acc (i::j::l) e H e' H') (hi:∀o o',ops[i]? = some o->ops[j]? = some o'->Ind ops acc i j o o'):Run P ops acc (j::i::l) e H e' H':=by
 cases h with
 | cons o r wr hd rest=>
  cases rest with
  | cons o' g f c rest=>
   have b:=hi o o' hd.1 c.1
   have a1:L5 P ops acc j o' e H g f:=c.congr (fun s hs=>(Afi (fun e=>(b.d1 s e).1 hs)).symm) (fun x hx=>(Py (fun p hp e=>(b.h1 p.1 (hd.wr p hp)).1 (e ▸ hx))).symm)
   have a2:L5 P ops acc i o (put e o'.dst g) (B6 H f) r wr:=hd.congr (fun s hs=>Afi (fun e=>b.d2 s e hs)) (fun x hx=>Py (fun p hp e=>b.h2 p.1 (c.wr p hp) (e ▸ hx)))
   refine .cons o' g f a1 (.cons o r wr a2 ?_)
   rw [Apm (fun s hs e=>(b.d1 s e).2 hs),Afh (fun p hp q hq e=>(b.h1 q.1 (hd.wr q hq)).2 (e ▸ c.wr p hp))]
   exact rest
theorem Run.bubble {i:Nat}:∀{b c:List Nat} {e e':Bf} {H H':Hp},Run P ops acc (b++i::c) e H e' H'->(∀j∈b,∀o o',ops[j]? = some o->ops[i]? = some o'->Ind ops acc j i o o')->Run P ops acc (i::(b++c)) e H e' H'
 | [],_,_,_,_,_,h,_=>h
 | j::b,c,e,e',H,H',h,hi=>by
  cases h with
  | cons o r wr hd rest=>
   exact Run.swap (.cons o r wr hd (rest.bubble (fun k hk=>hi k (by simp [hk])))) (hi j (by simp))
end
def L6 (ms:List Nat) (o:Oper):Nat:=o.after.toList.foldl (fun a x=>bif Region.binds .any x then a ||| ((1 <<< x.on) ||| ms.getD x.on 0) else a) 0
def Hj:List Oper->List Nat->List Nat
 | [],ms=>ms
 | o::os,ms=>Hj os (ms++[L6 ms o])
def R6 (l m:List Nat):Bool:=l.all fun x=>!m.contains x
def Zw (ops:Array Oper) (a b:List Nat×List Nat) (o o':Oper):Bool :=
  (match o.dst with
   | none=>true
   | some s=>!(Iv ops o').contains s && !(o'.dst==some s)) &&
  (match o'.dst with
   | none=>true
   | some s=>!(Iv ops o).contains s) &&
  R6 a.2 b.1&&R6 a.2 b.2&&R6 b.2 a.1
def Zx (ops:List Oper) (acc:List (List Nat×List Nat)):Bool :=
 let M:=Hj ops []
 (ops.zipIdx.all fun p=>p.1.after.toList.all fun x=>!Region.binds .any x||Nat.blt x.on p.2) &&
 ops.zipIdx.all fun p=>ops.zipIdx.all fun q=>!Nat.blt q.2 p.2||(M.getD p.2 0).testBit q.2||Zw ops.toArray (acc.getD q.2 ([],[])) (acc.getD p.2 ([],[])) q.1 p.1
section
variable {P:Program} {F:Aw} {W:World} {Q:Exit->Act->World->Prop}
theorem Afj:∀(os:List Oper) (ms:List Nat),(Hj os ms).take ms.length=ms/\(Hj os ms).length=ms.length+os.length /\
  ∀(k:Nat) (o:Oper),os[k]? = some o->(Hj os ms).getD (ms.length+k) 0=L6 ((Hj os ms).take (ms.length+k)) o
 | [],ms=>⟨by simp [Hj],by simp [Hj],by simp⟩
 | o::os,ms=>by
  obtain ⟨h1,h2,h3⟩:=Afj os (ms++[L6 ms o])
  simp only [Hj]
  simp only [List.length_append,List.length_cons,List.length_nil] at h1 h2 h3
  have b:(Hj os (ms++[L6 ms o])).take ms.length=ms:=by
   have:=congrArg (List.take ms.length) h1
   rw [List.take_take] at this
   simpa using this
  refine ⟨b,by simp only [List.length_cons]; omega,fun k o' hk=>?_⟩
  cases k with
  | zero=>
   simp at hk; subst hk
   rw [Nat.add_zero,b]
   have c:(Hj os (ms++[L6 ms o]))[ms.length]? = some (L6 ms o):=by
    have f:((Hj os (ms++[L6 ms o])).take (ms.length+1))[ms.length]? = (Hj os (ms++[L6 ms o]))[ms.length]?:=List.getElem?_take_of_lt (by omega)
    rw [<-f,h1]; simp
   simp [List.getD,c]
  | succ k=>
   have:=h3 k o' (by simpa using hk)
   rwa [show ms.length+1+k=ms.length+(k+1) by omega] at this
theorem Afk (ms:List Nat) (j:Nat):∀(l:List Edge) (a:Nat),(l.foldl (fun a x=>bif Region.binds .any x then a ||| ((1 <<< x.on) ||| ms.getD x.on 0) else a) a).testBit j=true ->
  a.testBit j=true\/∃x∈l,Region.binds .any x=true/\(x.on=j\/(ms.getD x.on 0).testBit j=true)
 | [],a,h=>.inl h
 | x::l,a,h=>by
  simp only [List.foldl_cons] at h
  rcases Afk ms j l _ h with h' | ⟨y,hy,hb⟩
  .cases hb:Region.binds .any x with
   | false=>rw [hb] at h'; exact .inl h'
   | true=>
    rw [hb] at h'
    simp only [cond_true,Nat.testBit_or,Bool.or_eq_true] at h'
    rcases h' with h' | h' | h'
    .exact .inl h'
    .refine .inr ⟨x,by simp,hb,.inl ?_⟩
     rw [Nat.one_shiftLeft,Nat.testBit_two_pow] at h'
     simpa using h'
    .exact .inr ⟨x,by simp,hb,.inr h'⟩
  .exact .inr ⟨y,by simp [hy],hb⟩
theorem Zy {l m:List Nat} (h:R6 l m=true):∀x∈l,x ∉ m:=by
 intro x hx b
 unfold R6 at h
 rw [List.all_eq_true] at h
 have:=h x hx
 simp [b] at this
theorem Apn {ops:Array Oper} {acc:Acc} {i j:Nat} {o o':Oper} (h:Zw ops (acc i) (acc j) o o'=true):Ind ops acc i j o o':=by
 unfold Zw at h
 simp only [Bool.and_eq_true] at h
 obtain ⟨⟨⟨⟨h1,h2⟩,h3⟩,h4⟩,b⟩:=h
 refine ⟨fun s hs=>?_,fun s hs=>?_,fun x hx=>⟨Zy h3 x hx,Zy h4 x hx⟩,Zy b⟩
 .rw [hs] at h1
  simpa using h1
 .rw [hs] at h2
  simpa using h2
def Apo (ops:Array Oper) (b:Array Bool):Prop :=
 ∀(k:Nat) (o:Oper),ops[k]? = some o->b.getD k false=true->∀x∈o.after.toList,Region.binds .any x=true->b.getD x.on false=true
theorem Afl {ops:Array Oper} {b:Array Bool} {i:Nat} (h:i∈Region.ready .any ops b) :
  i<ops.size/\b.getD i true=false/\∀o,ops[i]? = some o->∀x∈o.after.toList,Region.binds .any x=true->b.getD x.on false=true:=by
 unfold Region.ready at h
 rw [List.mem_filter] at h
 obtain ⟨h1,h2⟩:=h
 simp only [Bool.and_eq_true,Bool.not_eq_true'] at h2
 refine ⟨by simpa using h1,h2.1,fun o c x hx hb=>?_⟩
 have h3:=h2.2
 rw [c] at h3
 simp only [Option.map_some,Option.getD_some] at h3
 rw [<-Array.all_toList,List.all_eq_true] at h3
 have:=h3 x hx
 simpa [hb] using this
theorem Zz {ops:List Oper} {accs:List (List Nat×List Nat)} (N:Zx ops accs=true) {e':Bf} {H':Hp}:∀(fuel:Nat) (b:Array Bool) (l:List Nat) (e:Bf) (H:Hp) (σ:Aw) (ι:Bi) (a:Act) (w:World),
  Run P ops.toArray (fun i=>accs.getD i ([],[])) l e H e' H'->l.Pairwise (· < ·)->(∀i,i∈l↔i<ops.length/\b.getD i true=false)->b.size=ops.length->Apo ops.toArray b->l.length=fuel ->
  St σ ι H F W w->Dq σ ι H e a->Vm ops.toArray a.tmps.size ->
  (∀σ' ι' a' w',Le σ ι H σ' ι' H'->St σ' ι' H' F W w'->Dq σ' ι' H' e' a'->a'.tmps.size=a.tmps.size->a'.defers=a.defers->D5 (R5 ops.toArray) a a'->Q .normal a' w') ->
  wpAny P .any ops.toArray Q fuel b a w
 | 0,b,l,e,H,σ,ι,a,w,hr,hp,J,a6,U,f,s,he,hs,hk=>by
  have D:l = []:=List.eq_nil_of_length_eq_zero f
  subst D
  cases hr
  refine ⟨?_,hk σ ι a w (Le.refl _ _ _) s he rfl rfl (D5.refl _ _)⟩
  apply List.eq_nil_iff_forall_not_mem.2
  intro i hi
  obtain ⟨h1,h2,_⟩:=Afl hi
  have:=(J i).2 ⟨by simpa using h1,h2⟩
  cases this
 | fuel+1,b,l,e,H,σ,ι,a,w,hr,hp,J,a6,U,f,s,he,hs,hk=>by
  unfold Zx at N
  have I:=N
  simp only [Bool.and_eq_true,List.all_eq_true] at I
  obtain ⟨S,M⟩:=I
  have u:∀(i:Nat) (o:Oper),ops[i]? = some o->(o,i)∈ops.zipIdx:=by
   intro i o h
   rw [List.mem_iff_getElem?]
   exact ⟨i,by simp [List.getElem?_zipIdx,h]⟩
  have A:∀(i:Nat) (o:Oper),ops[i]? = some o->∀x∈o.after.toList,Region.binds .any x=true->x.on<i:=by
   intro i o h x hx hb
   have:=S (o,i) (u i o h) x hx
   simp only [hb,Bool.not_true,Bool.false_or] at this
   exact Nat.le_of_ble_eq_true this
  refine ⟨fun aa=>?_,fun i hi=>?_⟩
  .
   exfalso
   cases l with
   | nil=>simp at f
   | cons i l=>
    have R:=(J i).1 (by simp)
    have:i∈Region.ready .any ops.toArray b:=by
     unfold Region.ready
     rw [List.mem_filter]
     refine ⟨by simpa using R.1,?_⟩
     simp only [Bool.and_eq_true,Bool.not_eq_true']
     refine ⟨R.2,?_⟩
     have ab:i<ops.length:=R.1
     have ho:ops[i]? = some ops[i]:=List.getElem?_eq_getElem ab
     have aq:ops.toArray[i]? = some ops[i]:=by simp [ab]
     rw [aq]
     simp only [Option.map_some,Option.getD_some]
     rw [<-Array.all_toList,List.all_eq_true]
     intro x hx
     cases hb:Region.binds .any x with
     | false=>rfl
     | true=>
      simp only [Bool.not_true,Bool.false_or]
      have b6:=A i _ ho x hx hb
      cases D:b.getD x.on true with
      | true=>
       have g:x.on<b.size:=by omega
       simp only [Array.getD_eq_getD_getElem?] at D ⊢
       simpa [g] using D
      | false=>
       have hxm:=(J x.on).2 ⟨by omega,D⟩
       simp only [List.mem_cons] at hxm
       rcases hxm with hxm | hxm
       .omega
       .have:=(List.pairwise_cons.1 hp).1 _ hxm; omega
    rw [aa] at this
    cases this
  .obtain ⟨b0,az,ae⟩:=Afl hi
   have q:i<ops.length:=by simpa using b0
   have ay:=(J i).2 ⟨q,az⟩
   obtain ⟨l1,l2,rfl⟩:=List.append_of_mem ay
   have b7:ops[i]? = some ops[i]:=List.getElem?_eq_getElem q
   have b5:ops.toArray[i]? = some ops[i]:=by simp [q]
   have z:∀(k:Nat) (o:Oper),ops[k]? = some o->(b.getD k false=true\/k=i)->∀j,((Hj ops []).getD k 0).testBit j=true->b.getD j false=true:=by
    intro k
    induction k using Nat.strongRecOn with
    | _ k ih=>
     intro o hk hor j hj
     have a7:=(Afj ops []).2.2 k o hk
     simp only [List.length_nil,Nat.zero_add] at a7
     rw [a7] at hj
     rcases Afk _ j _ _ hj with h0 | ⟨x,hx,hb,a8⟩
     .simp at h0
     .have V:b.getD x.on false=true:=by
       rcases hor with hor | hor
       .exact U k o (by simpa using hk) hor x hx hb
       .subst hor; exact ae o (by simpa using hk) x hx hb
      rcases a8 with rfl | hj'
      .exact V
      .have X:=A k o hk x hx hb
       have am:x.on<ops.length:=by
        have:=(List.getElem?_eq_some_iff.1 hk).1; omega
       have e1:((Hj ops []).take k).getD x.on 0=(Hj ops []).getD x.on 0:=by
        simp only [List.getD_eq_getElem?_getD]
        rw [List.getElem?_take_of_lt X]
       rw [e1] at hj'
       exact ih x.on X _ (List.getElem?_eq_getElem am) (.inl V) j hj'
   have ad:∀j∈l1,∀o o',ops.toArray[j]? = some o->ops.toArray[i]? = some o'->Ind ops.toArray (fun i=>accs.getD i ([],[])) j i o o':=by
    intro j hj o o' ar ax
    have av:j<i:=by
     have:=(List.pairwise_append.1 hp).2.2 j hj i (by simp)
     exact this
    have au:=(J j).1 (by simp [hj])
    have ac:ops[j]? = some o:=by simpa using ar
    have L:ops[i]? = some o':=by simpa using ax
    have:=M (o',i) (u i o' L) (o,j) (u j o ac)
    simp only [Bool.or_eq_true,Bool.not_eq_true'] at this
    rcases this with (h1 | h1) | h1
    .have:Nat.blt j i=true:=by unfold Nat.blt; exact Nat.ble_eq_true_of_le av
     rw [this] at h1; cases h1
    .have h2:=z i o' L (.inr rfl) j h1
     have g:j<b.size:=by omega
     have h3:=au.2
     simp only [Array.getD_eq_getD_getElem?] at h2 h3
     simp [g] at h2 h3
     rw [h2] at h3; cases h3
    .exact Apn (acc:=fun i=>accs.getD i ([],[])) h1
   have ai:=hr.bubble ad
   refine ai.wpOp s he hs ?_
   intro e1 H1 r1 σ1 ι1 a1 w1 ak s1 b4 E ag ap
   have G:∀(k:Nat) (d:Bool),(b.setIfInBounds i true).getD k d=if k=i then true else b.getD k d:=by
    intro k d
    simp only [Array.getD_eq_getD_getElem?]
    by_cases c:k=i
    .subst c
     rw [if_pos rfl,Array.getElem?_setIfInBounds_self_of_lt (by omega)]
     rfl
    .rw [if_neg c,Array.getElem?_setIfInBounds_ne (by omega)]
   have B:∀k∈l1++l2,k≠i:=by
    intro k hk e
    subst e
    rw [List.pairwise_append] at hp
    rcases List.mem_append.1 hk with hk | hk
    .have:=hp.2.2 k hk k (by simp); omega
    .have:=(List.pairwise_cons.1 hp.2.1).1 k hk; omega
   refine Zz N fuel _ (l1++l2) e1 H1 σ1 ι1 a1 w1 r1 ?_ ?_ (by simpa using a6) ?_ (by simp at f ⊢; omega) s1 b4 (by rw [E]; exact hs) ?_
   .rw [List.pairwise_append] at hp ⊢
    exact ⟨hp.1,(List.pairwise_cons.1 hp.2.1).2,fun x hx y hy=>hp.2.2 x hx y (by simp [hy])⟩
   .intro k
    rw [G]
    constructor
    .intro hk
     have h1:=(J k).1 (by
      rcases List.mem_append.1 hk with hk | hk
      .simp [hk]
      .simp [hk])
     rw [if_neg (B k hk)]; exact h1
    .rintro ⟨h1,h2⟩
     by_cases c:k=i
     .rw [if_pos c] at h2; cases h2
     .rw [if_neg c] at h2
      have:=(J k).2 ⟨h1,h2⟩
      simp only [List.mem_append,List.mem_cons] at this ⊢
      rcases this with h | h | h
      .exact .inl h
      .exact (c h).elim
      .exact .inr h
   .intro k o hk D x hx ah
    rw [G] at D ⊢
    by_cases Y:x.on=i
    .rw [if_pos Y]
    .rw [if_neg Y]
     by_cases c:k=i
     .subst c; exact ae o hk x hx ah
     .rw [if_neg c] at D; exact U k o hk D x hx ah
   .intro σ2 ι2 a2 w2 aj s2 b3 Z af ao
    exact hk σ2 ι2 a2 w2 (ak.trans aj) s2 b3 (Z.trans E) (af.trans ag) (ap.trans ao)
end
end Go.Ab
