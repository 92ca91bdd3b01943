/- A layer of abstract values over the model, and the conditions under which a function keeps its contract. -/
import Derived.Calls
import Derived.Orders
import Derived.Lib.ItoaNum
import Derived.Laws.CopyRow
import Derived.Laws.Cells
import Derived.Laws.Append
import Derived.Lib.SliceRun
import Derived.Laws.FloatArith
import Derived.Laws.Cover2
import Derived.Laws.MakeOwn
import Derived.Lib.AppendStr
import Derived.MapKept
import Derived.WideKeyRuns
import Derived.Scope
namespace Go.Ab
inductive AV where
 | val (v:Value)
 | loc (h off:Nat)
 | arr (h k off len:Nat)
 | el (h k i j:Nat)
 | mp (h:Nat)
 | ref (cs:List AV)
 | sl (sz:Nat) (xs:List AV)
 | agg (cs:List AV)
 | tup (cs:List AV)
 | fn (f:FuncId) (caps:List AV)
 | fb (s:ByteArray)
inductive Bf where
 | none
 | dead
 | cells (elem:TypeId) (cs:List AV)
 | rows (elem:TypeId) (sz:Nat) (xs:List AV)
 | map (es:List (AV×AV))
abbrev Bj:=Nat->AV
abbrev Hp:=Nat->Bf
abbrev Aq:=Nat->Option Obj
def Ax {α:Type} (e:Nat->α) (n:Nat) (v:α):Nat->α:=fun m=>bif Nat.beq m n then v else e m
theorem B8 {α:Type} (e:Nat->α) (n:Nat) (v:α):Ax e n v n=v:=by simp [Ax]
theorem Cr {α:Type} (e:Nat->α) {n m:Nat} (v:α) (h:m≠n):Ax e n v m=e m:=by
 have:Nat.beq m n=false:=by
  cases hb:Nat.beq m n
  .rfl
  .exact absurd (Nat.eq_of_beq_eq_true hb) h
 simp [Ax,this]
theorem Ad3 {α:Type} (e:Nat->α) {n m:Nat} (u v:α) (h:m≠n):Ax (Ax e n u) m v=Ax (Ax e m v) n u:=by
 funext k
 by_cases h1:k=n
 .subst h1
  rw [Cr _ _ (Ne.symm h),B8,B8]
 .by_cases h2:k=m
  .subst h2; rw [B8,Cr _ _ h1,B8]
  .rw [Cr _ _ h2,Cr _ _ h1,Cr _ _ h1,Cr _ _ h2]
def AV.cells:AV->List AV
 | .agg cs=>cs
 | .val (.agg vs)=>vs.toList.map .val
 | x=>[x]
def Ds:Value->Bool
 | .agg _ | .tuple _=>false
 | _=>true
def AV.one:AV->Bool
 | .agg _ | .tup _=>false
 | .val v=>Ds v
 | _=>true
inductive CC (σ:Aq):AV->Value->Prop where
 | val (v:Value):CC σ (.val v) v
 | nil (sz:Nat) (a:Option Addr) (cap:Nat):CC σ (.sl sz []) (.slice a 0 cap)
 | sl (xs:List AV) (b off cap sz:Nat) (C:Array Value) (E:TypeId) (fr:Nat×Nat) (g:Nat->Nat->Value) (hσ:σ b=some (.cells C E fr))
   (hs:∀(i:Nat) (x:AV),xs[i]? = some x->x.cells.length=sz)
   (hc:∀(i:Nat) (x:AV) (j:Nat) (c:AV),xs[i]? = some x->x.cells[j]? = some c->CC σ c (g i j))
   (h1:∀(i:Nat) (x:AV) (j:Nat) (c:AV),xs[i]? = some x->x.cells[j]? = some c->Ds (g i j)=true)
   (hC:∀(i j:Nat),i<xs.length->j<sz->C[off+i*sz+j]? = some (g i j))
   (hl:xs.length<=140737488355328) (hcap:xs.length<=cap):CC σ (.sl sz xs) (.slice (some ⟨b,off,Option.none⟩) xs.length cap)
 | agg (cs:List AV) (vs:Array Value) (hl:vs.size=cs.length) (h:∀(i:Nat) (c:AV) (v:Value),cs[i]? = some c->vs[i]? = some v->CC σ c v):CC σ (.agg cs) (.agg vs)
 | fbn (s:ByteArray) (a:Option Addr) (cap:Nat) (h0:s.size=0):CC σ (.fb s) (.slice a 0 cap)
 | fb (s:ByteArray) (b cap:Nat) (C:Array Value) (hσ:σ b=some (.cells C 5 (0,s.size))) (h0:s.size≠0) (hcap:s.size<=cap) (hC:s.size<=C.size) (hl:s.size<=140737488355328)
   (hb:∀(j:Nat) (x:UInt8),s.data[j]? = some x->C[j]? = some (Value.int .u8 x.toNat)):CC σ (.fb s) (.slice (some ⟨b,0,Option.none⟩) s.size cap)
inductive Loc where
 | none
 | box (b:Nat)
 | nil
 | blk (b tot:Nat)
abbrev Bm:=Nat->Loc
def Loc.block?:Loc->Option Nat
 | .box b=>some b
 | .blk b _=>some b
 | _=>Option.none
def E4 (l:Loc) (sz off len:Nat) (v:Value):Prop :=
 match l with
 | .nil=>v = .slice Option.none 0 0/\off=0/\len=0
 | .blk b c=>off+len<=c/\v = .slice (some ⟨b,off*sz,Option.none⟩) len (c-off)
 | _=>False
def Ad4 (l:Loc) (sz i j:Nat) (v:Value):Prop :=
 match l with
 | .blk b _=>v = .pointer (some ⟨b,i*sz+j,Option.none⟩)
 | _=>False
inductive Conc (σ:Aq) (ι:Bm) (H:Hp):AV->Value->Prop where
 | cc {a:AV} {v:Value} (h:CC σ a v):Conc σ ι H a v
 | loc (h off b:Nat) (hb:ι h = .box b):Conc σ ι H (.loc h off) (.pointer (some ⟨b,off,Option.none⟩))
 | mp (h b:Nat) (hb:ι h = .box b):Conc σ ι H (.mp h) (.map (some b))
 | arr (h k off len:Nat) (v:Value) (hn:H h≠.none) (hv:∀E sz xs,H h = .rows E sz xs->k<=xs.length/\(xs.length=k->E4 (ι h) sz off len v))
   (hone:Ds v=true):Conc σ ι H (.arr h k off len) v
 | el (h k i j:Nat) (v:Value) (hn:H h≠.none) (hv:∀E sz xs,H h = .rows E sz xs->k<=xs.length/\(xs.length=k->Ad4 (ι h) sz i j v))
   (hone:Ds v=true):Conc σ ι H (.el h k i j) v
 | ref (cs:List AV) (b off:Nat) (C:Array Value) (E:TypeId) (fr:Nat×Nat) (g:Nat->Value) (hσ:σ b=some (.cells C E fr))
   (hc:∀(j:Nat) (c:AV),cs[j]? = some c->CC σ c (g j)) (h1:∀(j:Nat) (c:AV),cs[j]? = some c->Ds (g j)=true)
   (hC:∀(j:Nat),j<cs.length->C[off+j]? = some (g j)):Conc σ ι H (.ref cs) (.pointer (some ⟨b,off,Option.none⟩))
 | agg (cs:List AV) (vs:Array Value) (hl:vs.size=cs.length) (h:∀(i:Nat) (c:AV) (v:Value),cs[i]? = some c->vs[i]? = some v->Conc σ ι H c v):Conc σ ι H (.agg cs) (.agg vs)
 | tup (cs:List AV) (vs:Array Value) (hl:vs.size=cs.length) (h:∀(i:Nat) (c:AV) (v:Value),cs[i]? = some c->vs[i]? = some v->Conc σ ι H c v):Conc σ ι H (.tup cs) (.tuple vs)
 | fn (f:FuncId) (caps:List AV) (vs:Array Value) (hl:vs.size=caps.length) (h:∀(i:Nat) (c:AV) (v:Value),caps[i]? = some c->vs[i]? = some v->Conc σ ι H c v) :
   Conc σ ι H (.fn f caps) (.func (.func f) #[] vs)
def Aq.le (σ c:Aq):Prop:=∀b o,σ b=some o->c b=some o
theorem Aq.le_refl (σ:Aq):σ.le σ:=fun _ _ h=>h
theorem Aq.le_trans {σ f c:Aq} (h:Aq.le σ f) (h':Aq.le f c):Aq.le σ c:=fun b o e=>h' b o (h b o e)
structure HLe (l:Loc) (o:Bf) (l':Loc) (o':Bf):Prop where
 box:∀b,l = .box b->l' = .box b
 some:o≠.none->o'≠.none
 rows:o≠.none->∀E' sz' xs',o' = .rows E' sz' xs'->∃E sz xs,o = .rows E sz xs/\(xs.length<xs'.length\/(xs.length=xs'.length/\sz=sz'/\l=l'))
theorem HLe.refl (l:Loc) (o:Bf):HLe l o l o :=
 ⟨fun _ h=>h,fun h=>h,fun _ E sz xs h=>⟨E,sz,xs,h,.inr ⟨rfl,rfl,rfl⟩⟩⟩
theorem HLe.trans {l y i:Loc} {o o' g:Bf} (h:HLe l o y o') (h':HLe y o' i g):HLe l o i g:=by
 refine ⟨fun b e=>h'.box b (h.box b e),fun e=>h'.some (h.some e),fun e u f c s=>?_⟩
 obtain ⟨G,k,j,e',x⟩:=h'.rows (h.some e) u f c s
 obtain ⟨E,sz,xs,D,r⟩:=h.rows e G k j e'
 refine ⟨E,sz,xs,D,?_⟩
 rcases r with r | ⟨J,I,z⟩ <;> rcases x with x | ⟨B,A,q⟩
 .left; omega
 .left; omega
 .left; omega
 .exact .inr ⟨by omega,by omega,z.trans q⟩
structure Le (σ:Aq) (ι:Bm) (H:Hp) (σ':Aq) (ι':Bm) (H':Hp):Prop where
 sto:σ.le σ'
 obj:∀h,HLe (ι h) (H h) (ι' h) (H' h)
theorem Le.refl (σ:Aq) (ι:Bm) (H:Hp):Le σ ι H σ ι H:=⟨Aq.le_refl σ,fun _=>HLe.refl _ _⟩
theorem Le.trans {σ g b:Aq} {ι i c:Bm} {H H' f:Hp} (h:Le σ ι H g i H') (h':Le g i H' b c f):Le σ ι H b c f :=
 ⟨Aq.le_trans h.sto h'.sto,fun x=>(h.obj x).trans (h'.obj x)⟩
theorem CC.mono {σ l:Aq} (q:σ.le l) {a:AV} {v:Value} (h:CC σ a v):CC l a v:=by
 induction h with
 | val v=>exact .val v
 | nil sz a cap=>exact .nil sz a cap
 | sl xs b off cap sz C E fr g i j _ h1 k f c ih=>exact .sl xs b off cap sz C E fr g (q _ _ i) j ih h1 k f c
 | agg cs vs f _ ih=>exact .agg cs vs f ih
 | fbn s a cap h0=>exact .fbn s a cap h0
 | fb s b cap C i h0 c k f hb=>exact .fb s b cap C (q _ _ i) h0 c k f hb
theorem Conc.mono {σ L:Aq} {ι M:Bm} {H H':Hp} (q:Le σ ι H L M H') {a:AV} {v:Value} (h:Conc σ ι H a v):Conc L M H' a v:=by
 induction h with
 | cc h=>exact .cc (h.mono q.sto)
 | loc h off b hb=>exact .loc h off b ((q.obj h).box b hb)
 | mp h b hb=>exact .mp h b ((q.obj h).box b hb)
 | arr h k off len v z x l=>
  refine .arr h k off len v ((q.obj h).some z) (fun J u s e=>?_) l
  obtain ⟨E,sz,xs,I,r⟩:=(q.obj h).rows z J u s e
  obtain ⟨hk,x⟩:=x E sz xs I
  rcases r with r | ⟨N,G,D⟩
  .exact ⟨by omega,fun y=>by omega⟩
  .rw [<-G,<-D]; exact ⟨by omega,fun y=>x (by omega)⟩
 | el h k i j v z x l=>
  refine .el h k i j v ((q.obj h).some z) (fun J u s e=>?_) l
  obtain ⟨E,sz,xs,I,r⟩:=(q.obj h).rows z J u s e
  obtain ⟨hk,x⟩:=x E sz xs I
  rcases r with r | ⟨N,G,D⟩
  .exact ⟨by omega,fun y=>by omega⟩
  .rw [<-G,<-D]; exact ⟨by omega,fun y=>x (by omega)⟩
 | ref cs b off C E fr g R hc h1 S=>exact .ref cs b off C E fr g (q.sto _ _ R) (fun j c h=>(hc j c h).mono q.sto) h1 S
 | agg cs vs A _ ih=>exact .agg cs vs A ih
 | tup cs vs A _ ih=>exact .tup cs vs A ih
 | fn f B vs A _ ih=>exact .fn f B vs A ih
end Go.Ab
namespace Go.Ab
def F1 (σ:Aq) (sz:Nat) (xs:List AV) (C:Array Value):Prop :=
 ∃g:Nat->Nat->Value,(∀(i:Nat) (x:AV),xs[i]? = some x->x.cells.length=sz) /\
  (∀(i:Nat) (x:AV) (j:Nat) (c:AV),xs[i]? = some x->x.cells[j]? = some c->CC σ c (g i j)/\Ds (g i j)=true) /\
  (∀(i j:Nat),i<xs.length->j<sz->C[i*sz+j]? = some (g i j))
def No (σ:Aq) (es:List (AV×AV)) (M:Array MapEntry):Prop :=
 M.size=es.length/\∀(i:Nat) (p:AV×AV) (e:MapEntry),es[i]? = some p->M[i]? = some e->CC σ p.1 e.key/\CC σ p.2 e.val
theorem No.mono {σ b:Aq} (c:σ.le b) {es:List (AV×AV)} {M:Array MapEntry} (h:No σ es M):No b es M :=
 ⟨h.1,fun i p e h1 h2=>⟨(h.2 i p e h1 h2).1.mono c,(h.2 i p e h1 h2).2.mono c⟩⟩
def Cf (σ:Aq) (ι:Bm) (H:Hp) (F:Aq) (w:World) (h:Nat):Prop :=
 match H h with
 | .none=>ι h = .none
 | .dead=>True
 | .cells E cs=>∃(b:Nat) (C:Array Value),ι h = .box b/\σ b=none/\F b=none/\w.heap[b]? = some (.cells C E (0,0))/\C.size=cs.length /\
   ∀(i:Nat) (c:AV) (v:Value),cs[i]? = some c->C[i]? = some v->Conc σ ι H c v
 | .rows E sz xs=>0<sz/\xs.length<=140737488355328/\((ι h = .nil/\xs = [])\/∃(b f:Nat) (C:Array Value),ι h = .blk b f/\σ b=none/\F b=none /\
   w.heap[b]? = some (.cells C E (0,0))/\C.size=f*sz/\xs.length<=f/\F1 σ sz xs C)
 | .map es=>∃(b:Nat) (M:Array MapEntry) (t:Nat),ι h = .box b/\σ b=none/\F b=none/\w.heap[b]? = some (.map M t)/\No σ es M
def Bf.live:Bf->Bool
 | .none | .dead=>false
 | _=>true
def Ph (σ:Aq):Prop:=∃(E:TypeId) (fr:Nat×Nat),σ 0=some (.cells (Lib.pow10Tab.map fun z=>Value.int .u64 z).toArray E fr)
theorem Ph.mono {σ b:Aq} (h:σ.le b) (g:Ph σ):Ph b:=by
 obtain ⟨E,fr,e⟩:=g
 exact ⟨E,fr,h _ _ e⟩
structure St (σ:Aq) (ι:Bm) (H:Hp) (F:Aq) (W w:World):Prop where
 sto:∀b o,σ b=some o->w.heap[b]? = some o
 fra:∀b o,F b=some o->w.heap[b]? = some o/\σ b=none
 obj:∀h,Cf σ ι H F w h
 inj:∀h h' b,(H h).live=true->(H h').live=true->(ι h).block? = some b->(ι h').block? = some b->h=h'
 os:w.os=W.os
 tape:w.tape=W.tape
 output:w.output=W.output
 glo:Ph σ
 drw:W.drawn<=w.drawn
theorem F1.mono {σ b:Aq} (f:σ.le b) {sz:Nat} {xs:List AV} {C:Array Value} (h:F1 σ sz xs C):F1 b sz xs C:=by
 obtain ⟨g,h1,h2,h3⟩:=h
 exact ⟨g,h1,fun i x j c hx hc=>⟨((h2 i x j c hx hc).1).mono f,(h2 i x j c hx hc).2⟩,h3⟩
theorem St.block {σ:Aq} {ι:Bm} {H:Hp} {F:Aq} {W w:World} (s:St σ ι H F W w) {h b:Nat} (f:(H h).live=true) (hb:(ι h).block? = some b) :
  b<w.heap.size/\σ b=none/\F b=none:=by
 have c:=s.obj h
 unfold Cf at c
 cases hh:H h with
 | none=>rw [hh] at f; cases f
 | dead=>rw [hh] at f; cases f
 | cells E cs=>
  rw [hh] at c
  obtain ⟨g,C,e,h1,h2,h3,_⟩:=c
  rw [e] at hb; simp [Loc.block?] at hb; subst hb
  refine ⟨?_,h1,h2⟩
  exact (Array.getElem?_eq_some_iff.1 h3).1
 | rows E sz xs=>
  rw [hh] at c
  obtain ⟨_,_,⟨e,_⟩ | ⟨g,i,C,e,h1,h2,h3,_⟩⟩:=c
  .rw [e] at hb; simp [Loc.block?] at hb
  .rw [e] at hb; simp [Loc.block?] at hb; subst hb
   exact ⟨(Array.getElem?_eq_some_iff.1 h3).1,h1,h2⟩
 | map es=>
  rw [hh] at c
  obtain ⟨g,M,t,e,h1,h2,h3,_⟩:=c
  rw [e] at hb; simp [Loc.block?] at hb; subst hb
  exact ⟨(Array.getElem?_eq_some_iff.1 h3).1,h1,h2⟩
theorem St.touch {σ I:Aq} {ι J:Bm} {H H':Hp} {F:Aq} {W w w':World} (s:St σ ι H F W w) (h t:Nat)
  (X:∀x,x≠h->J x=ι x) (Y:∀x,x≠h->H' x=H x) (le:Le σ ι H I J H')
  (f:∀b,b≠t->w'.heap[b]? = w.heap[b]?) (N:∀b,b≠t->I b=σ b)
  (a1:∀o,I t=some o->w'.heap[t]? = some o)
  (j:∀x,x≠h->(H x).live=true->(ι x).block?≠some t) (hF:F t=none)
  (A:∀b,(H' h).live=true->(J h).block? = some b->b=t\/((H h).live=true/\(ι h).block? = some b))
  (S:Cf I J H' F w' h) (a6:w'.os=w.os) (D:w'.tape=w.tape) (R:w'.output=w.output) (hdrw:w.drawn<=w'.drawn:=by exact Nat.le_refl _):St I J H' F W w':=by
 refine ⟨?_,?_,?_,?_,a6.trans s.os,D.trans s.tape,R.trans s.output,s.glo.mono le.sto,Nat.le_trans s.drw hdrw⟩
 .intro b o hb
  by_cases e:b=t
  .subst e; exact a1 o hb
  .rw [f b e]; exact s.sto b o (by rw [<-N b e]; exact hb)
 .intro b o hb
  have e:b≠t:=by intro e; subst e; rw [hF] at hb; cases hb
  rw [f b e,N b e]; exact s.fra b o hb
 .intro x
  by_cases e:x=h
  .subst e; exact S
  .have z:=s.obj x
   unfold Cf at z ⊢
   rw [Y x e,X x e]
   cases hx:H x with
   | none=>rw [hx] at z; exact z
   | dead=>trivial
   | cells E cs=>
    rw [hx] at z
    obtain ⟨b,C,u,h1,h2,h3,U,h5⟩:=z
    have g:b≠t:=by
     intro l; subst l
     exact j x e (by rw [hx]; rfl) (by rw [u]; rfl)
    exact ⟨b,C,u,by rw [N b g]; exact h1,h2,by rw [f b g]; exact h3,U,fun i c v hc hv=>(h5 i c v hc hv).mono le⟩
   | rows E sz xs=>
    rw [hx] at z
    obtain ⟨z1,z2,⟨u,e2⟩ | ⟨b,Z,C,u,h1,h2,h3,U,h5,h6⟩⟩:=z
    .exact ⟨z1,z2,.inl ⟨u,e2⟩⟩
    .have g:b≠t:=by
      intro l; subst l
      exact j x e (by rw [hx]; rfl) (by rw [u]; rfl)
     exact ⟨z1,z2,.inr ⟨b,Z,C,u,by rw [N b g]; exact h1,h2,by rw [f b g]; exact h3,U,h5,h6.mono le.sto⟩⟩
   | map es=>
    rw [hx] at z
    obtain ⟨b,M,q,u,h1,h2,h3,U⟩:=z
    have g:b≠t:=by
     intro l; subst l
     exact j x e (by rw [hx]; rfl) (by rw [u]; rfl)
    exact ⟨b,M,q,u,by rw [N b g]; exact h1,h2,by rw [f b g]; exact h3,U.mono le.sto⟩
 .intro x y b L G V k
  by_cases ex:x=h
  .subst ex
   by_cases B:y=x
   .exact B.symm
   .rw [Y y B] at G; rw [X y B] at k
    rcases A b L V with e | ⟨l0,b0⟩
    .subst e; exact (j y B G k).elim
    .exact s.inj x y b l0 G b0 k
  .rw [Y x ex] at L; rw [X x ex] at V
   by_cases B:y=h
   .subst B
    rcases A b G k with e | ⟨l0,b0⟩
    .subst e; exact (j x ex L V).elim
    .exact s.inj x y b L l0 V b0
   .rw [Y y B] at G; rw [X y B] at k
    exact s.inj x y b L G V k
theorem HLe.of_none {b:Loc} {o':Bf}:HLe .none .none b o':=⟨(fun _ h=>by cases h),(fun h=>(h rfl).elim),(fun h=>(h rfl).elim)⟩
theorem Le.upd {σ:Aq} {ι:Bm} {H:Hp} {b:Aq} (c:σ.le b) (h:Nat) (l:Loc) (o:Bf) (hh:HLe (ι h) (H h) l o):Le σ ι H b (Ax ι h l) (Ax H h o):=by
 refine ⟨c,fun x=>?_⟩
 by_cases e:x=h
 .subst e; rw [B8,B8]; exact hh
 .rw [Cr _ _ e,Cr _ _ e]; exact HLe.refl _ _
theorem Gf {α:Type} (e:Nat->α) (n:Nat):Ax e n (e n)=e:=by
 funext m
 by_cases h:m=n
 .subst h; rw [B8]
 .rw [Cr _ _ h]
theorem St.newBox {σ:Aq} {ι:Bm} {H:Hp} {F:Aq} {W w:World} (s:St σ ι H F W w) (h:Nat) (u:H h = .none) (E:TypeId) (cs:List AV) (C:Array Value)
  (l:C.size=cs.length) (hc:∀(i:Nat) (c:AV) (v:Value),cs[i]? = some c->C[i]? = some v->Conc σ ι H c v) :
  St σ (Ax ι h (.box w.heap.size)) (Ax H h (.cells E cs)) F W (w.alloc (.cells C E))/\Le σ ι H σ (Ax ι h (.box w.heap.size)) (Ax H h (.cells E cs)):=by
 have k:ι h = .none:=by have:=s.obj h; unfold Cf at this; rw [u] at this; exact this
 have le:Le σ ι H σ (Ax ι h (.box w.heap.size)) (Ax H h (.cells E cs)):=Le.upd (Aq.le_refl σ) h _ _ (by rw [k,u]; exact HLe.of_none)
 have f:∀(S:Aq),(∀b o,S b=some o->w.heap[b]? = some o)->S w.heap.size=none:=by
  intro S y
  cases e:S w.heap.size with
  | none=>rfl
  | some o=>have:=y _ _ e; simp at this
 have g:=f σ s.sto
 have j:=f F (fun b o hb=>(s.fra b o hb).1)
 refine ⟨s.touch h w.heap.size (fun x e=>Cr _ _ e) (fun x e=>Cr _ _ e) le ?_ (fun _ _=>rfl) (fun o q=>by rw [g] at q; cases q) ?_ j ?_ ?_ rfl rfl rfl,le⟩
 .intro b hb
  show (w.heap.push _)[b]? = _
  rw [Array.getElem?_push,if_neg hb]
 .intro x e l hb
  have:=(s.block l hb).1
  omega
 .intro b _ hb
  rw [B8] at hb; simp [Loc.block?] at hb
  exact .inl hb.symm
 .unfold Cf
  rw [B8]
  refine ⟨w.heap.size,C,B8 _ _ _,g,j,?_,l,fun i c v h1 h2=>(hc i c v h1 h2).mono le⟩
  show (w.heap.push _)[w.heap.size]? = _
  simp
theorem St.newFrozen {σ:Aq} {ι:Bm} {H:Hp} {F:Aq} {W w:World} (s:St σ ι H F W w) (o:Obj) :
  St (Ax σ w.heap.size (some o)) ι H F W (w.alloc o)/\Le σ ι H (Ax σ w.heap.size (some o)) ι H:=by
 have k:∀(S:Aq),(∀b o,S b=some o->w.heap[b]? = some o)->S w.heap.size=none:=by
  intro S I
  cases e:S w.heap.size with
  | none=>rfl
  | some o=>have:=I _ _ e; simp at this
 have z:=k σ s.sto
 have A:=k F (fun b o hb=>(s.fra b o hb).1)
 have j:σ.le (Ax σ w.heap.size (some o)):=by
  intro b o' hb
  rw [Cr _ _ (by intro e; subst e; rw [z] at hb; cases hb)]; exact hb
 have le:Le σ ι H (Ax σ w.heap.size (some o)) ι H:=⟨j,fun _=>HLe.refl _ _⟩
 have f:∀b,b≠w.heap.size->(w.alloc o).heap[b]? = w.heap[b]?:=by
  intro b hb
  show (w.heap.push _)[b]? = _
  rw [Array.getElem?_push,if_neg hb]
 refine ⟨⟨?_,?_,?_,s.inj,s.os,s.tape,s.output,s.glo.mono j,s.drw⟩,le⟩
 .intro b o' hb
  by_cases e:b=w.heap.size
  .subst e; rw [B8] at hb; cases hb
   show (w.heap.push _)[w.heap.size]? = _
   simp
  .rw [Cr _ _ e] at hb; rw [f b e]; exact s.sto b o' hb
 .intro b o' hb
  have e:b≠w.heap.size:=by intro e; subst e; rw [A] at hb; cases hb
  rw [f b e,Cr _ _ e]; exact s.fra b o' hb
 .intro x
  have h:=s.obj x
  unfold Cf at h ⊢
  cases hx:H x with
  | none=>rw [hx] at h; exact h
  | dead=>trivial
  | cells E cs=>
   rw [hx] at h
   obtain ⟨b,C,l,h1,h2,h3,u,B⟩:=h
   have g:b≠w.heap.size:=by
    have:=(Array.getElem?_eq_some_iff.1 h3).1; omega
   exact ⟨b,C,l,by rw [Cr _ _ g]; exact h1,h2,by rw [f b g]; exact h3,u,fun i c v hc G=>(B i c v hc G).mono le⟩
  | rows E sz xs=>
   rw [hx] at h
   obtain ⟨D,z2,⟨l,L⟩ | ⟨b,y,C,l,h1,h2,h3,u,B,J⟩⟩:=h
   .exact ⟨D,z2,.inl ⟨l,L⟩⟩
   .have g:b≠w.heap.size:=by
     have:=(Array.getElem?_eq_some_iff.1 h3).1; omega
    exact ⟨D,z2,.inr ⟨b,y,C,l,by rw [Cr _ _ g]; exact h1,h2,by rw [f b g]; exact h3,u,B,J.mono j⟩⟩
  | map es=>
   rw [hx] at h
   obtain ⟨b,M,q,l,h1,h2,h3,u⟩:=h
   have g:b≠w.heap.size:=by
    have:=(Array.getElem?_eq_some_iff.1 h3).1; omega
   exact ⟨b,M,q,l,by rw [Cr _ _ g]; exact h1,h2,by rw [f b g]; exact h3,u.mono j⟩
theorem St.drew {σ:Aq} {ι:Bm} {H:Hp} {F:Aq} {W w:World} (s:St σ ι H F W w) (n:Nat) (b:w.drawn<=n:=by first | exact Nat.le_succ _ | exact Nat.le_refl _ | omega):St σ ι H F W {w with drawn:=n}:=by
 refine ⟨s.sto,s.fra,fun h=>?_,s.inj,s.os,s.tape,s.output,s.glo,Nat.le_trans s.drw b⟩
 have:=s.obj h
 unfold Cf at this ⊢
 exact this
theorem Ze (w:World) (g b:Nat) (C:Array Value) (h:b≠g):(w.setRow g C).heap[b]? = w.heap[b]?:=by
 simp only [World.setRow,Array.getElem?_modify]
 rw [if_neg (by omega)]
theorem St.setBox {σ:Aq} {ι:Bm} {H:Hp} {F:Aq} {W w:World} (s:St σ ι H F W w) (h:Nat) (E:TypeId) (cs f:List AV) (hh:H h = .cells E cs) (b:Nat) (hb:ι h = .box b)
  (g:Array Value) (k:g.size=f.length) (hc:∀(i:Nat) (c:AV) (v:Value),f[i]? = some c->g[i]? = some v->Conc σ ι H c v) :
  St σ ι (Ax H h (.cells E f)) F W (w.setRow b g)/\Le σ ι H σ ι (Ax H h (.cells E f)):=by
 have j:=s.obj h
 unfold Cf at j
 rw [hh] at j
 obtain ⟨D,C,u,h1,h2,h3,A,z⟩:=j
 rw [hb] at u; cases u
 have le:Le σ ι H σ ι (Ax H h (.cells E f)):=by
  have:=Le.upd (ι:=ι) (H:=H) (Aq.le_refl σ) h (ι h) (.cells E f) (by rw [hh]; exact ⟨fun _ e=>e,(fun _ e=>by cases e),(fun _ _ _ _ e=>by cases e)⟩)
  rwa [Gf] at this
 refine ⟨s.touch h b (fun _ _=>rfl) (fun x e=>Cr _ _ e) le (fun x e=>Ze w b x g e) (fun _ _=>rfl) (fun o e=>by rw [h1] at e; cases e) ?_ h2 ?_ ?_ rfl rfl rfl,le⟩
 .intro x e k l
  exact e (s.inj x h b k (by rw [hh]; rfl) l (by rw [hb]; rfl))
 .intro B _ q
  exact .inr ⟨by rw [hh]; rfl,q⟩
 .unfold Cf
  rw [B8]
  exact ⟨b,g,hb,h1,h2,setRow_heap w b C g E (0,0) h3,k,fun i c v x y=>(hc i c v x y).mono le⟩
theorem St.setRows {σ:Aq} {ι:Bm} {H:Hp} {F:Aq} {W w:World} (s:St σ ι H F W w) (h:Nat) (E:TypeId) (sz:Nat) (xs c:List AV) (hh:H h = .rows E sz xs) (b f:Nat) (hb:ι h = .blk b f)
  (k:c.length=xs.length) (g:Array Value) (D:g.size=f*sz) (B:F1 σ sz c g) :
  St σ ι (Ax H h (.rows E sz c)) F W (w.setRow b g)/\Le σ ι H σ ι (Ax H h (.rows E sz c)):=by
 have j:=s.obj h
 unfold Cf at j
 rw [hh] at j
 obtain ⟨y,z2,⟨i,L⟩ | ⟨N,u,C,i,h1,h2,h3,J,I,G⟩⟩:=j
 .rw [hb] at i; cases i
 rw [hb] at i; cases i
 have le:Le σ ι H σ ι (Ax H h (.rows E sz c)):=by
  have:=Le.upd (ι:=ι) (H:=H) (Aq.le_refl σ) h (ι h) (.rows E sz c) (by
   rw [hh]; exact ⟨fun _ e=>e,(fun _ e=>by cases e),fun _ R A z e=>by cases e; exact ⟨E,sz,xs,rfl,.inr ⟨k.symm,rfl,rfl⟩⟩⟩)
  rwa [Gf] at this
 refine ⟨s.touch h b (fun _ _=>rfl) (fun x e=>Cr _ _ e) le (fun x e=>Ze w b x g e) (fun _ _=>rfl) (fun o e=>by rw [h1] at e; cases e) ?_ h2 ?_ ?_ rfl rfl rfl,le⟩
 .intro x e k l
  exact e (s.inj x h b k (by rw [hh]; rfl) l (by rw [hb]; rfl))
 .intro M _ q
  exact .inr ⟨by rw [hh]; rfl,q⟩
 .unfold Cf
  rw [B8]
  exact ⟨y,by omega,.inr ⟨b,f,g,hb,h1,h2,setRow_heap w b C g E (0,0) h3,D,by omega,B⟩⟩
theorem St.growIn {σ:Aq} {ι:Bm} {H:Hp} {F:Aq} {W w:World} (s:St σ ι H F W w) (h:Nat) (E:TypeId) (sz:Nat) (xs c:List AV) (hh:H h = .rows E sz xs) (b f:Nat) (hb:ι h = .blk b f)
  (k:xs.length<c.length) (D:c.length<=140737488355328) (ht:c.length<=f) (g:Array Value) (G:g.size=f*sz) (B:F1 σ sz c g) :
  St σ ι (Ax H h (.rows E sz c)) F W (w.setRow b g)/\Le σ ι H σ ι (Ax H h (.rows E sz c)):=by
 have j:=s.obj h
 unfold Cf at j
 rw [hh] at j
 obtain ⟨y,z2,⟨i,M⟩ | ⟨R,u,C,i,h1,h2,h3,L,J,I⟩⟩:=j
 .rw [hb] at i; cases i
 rw [hb] at i; cases i
 have le:Le σ ι H σ ι (Ax H h (.rows E sz c)):=by
  have:=Le.upd (ι:=ι) (H:=H) (Aq.le_refl σ) h (ι h) (.rows E sz c) (by
   rw [hh]; exact ⟨fun _ e=>e,(fun _ e=>by cases e),fun _ S A z e=>by cases e; exact ⟨E,sz,xs,rfl,.inl k⟩⟩)
  rwa [Gf] at this
 refine ⟨s.touch h b (fun _ _=>rfl) (fun x e=>Cr _ _ e) le (fun x e=>Ze w b x g e) (fun _ _=>rfl) (fun o e=>by rw [h1] at e; cases e) ?_ h2 ?_ ?_ rfl rfl rfl,le⟩
 .intro x e k l
  exact e (s.inj x h b k (by rw [hh]; rfl) l (by rw [hb]; rfl))
 .intro N _ q
  exact .inr ⟨by rw [hh]; rfl,q⟩
 .unfold Cf
  rw [B8]
  exact ⟨y,D,.inr ⟨b,f,g,hb,h1,h2,setRow_heap w b C g E (0,0) h3,G,ht,B⟩⟩
theorem St.fresh {σ:Aq} {ι:Bm} {H:Hp} {F:Aq} {W w:World} (s:St σ ι H F W w):σ w.heap.size=none/\F w.heap.size=none:=by
 have c:∀(S:Aq),(∀b o,S b=some o->w.heap[b]? = some o)->S w.heap.size=none:=by
  intro S f
  cases e:S w.heap.size with
  | none=>rfl
  | some o=>have:=f _ _ e; simp at this
 exact ⟨c σ s.sto,c F (fun b o hb=>(s.fra b o hb).1)⟩
theorem St.newRows {σ:Aq} {ι:Bm} {H:Hp} {F:Aq} {W w:World} (s:St σ ι H F W w) (h:Nat) (E:TypeId) (sz:Nat) (xs:List AV) (c:Nat) (C:Array Value)
  (hh:H h = .none\/∃y g f,H h = .rows y g f/\f.length<xs.length)
  (G:0<sz) (J:xs.length<=140737488355328) (ht:xs.length<=c) (M:C.size=c*sz) (I:F1 σ sz xs C) :
  St σ (Ax ι h (.blk w.heap.size c)) (Ax H h (.rows E sz xs)) F W (w.alloc (.cells C E))/\Le σ ι H σ (Ax ι h (.blk w.heap.size c)) (Ax H h (.rows E sz xs)):=by
 obtain ⟨i,k⟩:=s.fresh
 have le:Le σ ι H σ (Ax ι h (.blk w.heap.size c)) (Ax H h (.rows E sz xs)):=by
  refine Le.upd (Aq.le_refl σ) h _ _ ?_
  rcases hh with j | ⟨y,g,f,j,q⟩
  .have l:ι h = .none:=by have:=s.obj h; unfold Cf at this; rw [j] at this; exact this
   rw [l,j]; exact HLe.of_none
  .rw [j]
   refine ⟨fun b e=>?_,(fun _ e=>by cases e),fun _ R D B e=>by cases e; exact ⟨y,g,f,rfl,.inl q⟩⟩
   have:=s.obj h; unfold Cf at this; rw [j] at this
   obtain ⟨_,_,⟨u,_⟩ | ⟨N,z,C,u,_⟩⟩:=this <;> rw [e] at u <;> cases u
 refine ⟨s.touch h w.heap.size (fun x e=>Cr _ _ e) (fun x e=>Cr _ _ e) le ?_ (fun _ _=>rfl) (fun o A=>by rw [i] at A; cases A) ?_ k ?_ ?_ rfl rfl rfl,le⟩
 .intro b hb
  show (w.heap.push _)[b]? = _
  rw [Array.getElem?_push,if_neg hb]
 .intro x e L hb
  have:=(s.block L hb).1
  omega
 .intro b _ hb
  rw [B8] at hb; simp [Loc.block?] at hb
  exact .inl hb.symm
 .unfold Cf
  rw [B8]
  refine ⟨G,J,.inr ⟨w.heap.size,c,C,B8 _ _ _,i,k,?_,M,ht,I⟩⟩
  show (w.heap.push _)[w.heap.size]? = _
  simp
theorem St.newNil {σ:Aq} {ι:Bm} {H:Hp} {F:Aq} {W w:World} (s:St σ ι H F W w) (h:Nat) (j:H h = .none) (E:TypeId) (sz:Nat) (k:0<sz) :
  St σ (Ax ι h .nil) (Ax H h (.rows E sz [])) F W w/\Le σ ι H σ (Ax ι h .nil) (Ax H h (.rows E sz [])):=by
 obtain ⟨c,g⟩:=s.fresh
 have f:ι h = .none:=by have:=s.obj h; unfold Cf at this; rw [j] at this; exact this
 have le:Le σ ι H σ (Ax ι h .nil) (Ax H h (.rows E sz [])):=Le.upd (Aq.le_refl σ) h _ _ (by rw [f,j]; exact HLe.of_none)
 refine ⟨s.touch h w.heap.size (fun x e=>Cr _ _ e) (fun x e=>Cr _ _ e) le (fun _ _=>rfl) (fun _ _=>rfl) (fun o i=>by rw [c] at i; cases i) ?_ g ?_ ?_ rfl rfl rfl,le⟩
 .intro x e l hb
  have:=(s.block l hb).1
  omega
 .intro b _ hb
  rw [B8] at hb; simp [Loc.block?] at hb
 .unfold Cf
  rw [B8]
  exact ⟨k,by simp,.inl ⟨B8 _ _ _,rfl⟩⟩
end Go.Ab
namespace Go.Ab
inductive TD where
 | int (k:IntKind)
 | bool
 | string
 | slice (e:TypeId)
 | struct (fs:List (Nat×Nat))
 | map (k e:TypeId)
 | float (k:FloatKind)
 | other
structure TI where
 d:TD
 size:Nat
 bytes:Nat
 zero:List Value
def TI.isAgg (i:TI):Bool :=
 match i.d with
 | .struct _=>true
 | _=>false
def zok (u:TypeDesc) (z:Value):Bool :=
 match u with
 | .struct _=>(match z with | .agg _=>true | _=>false)
 | _=>Ds z
def F2 (P:Program) (t:TypeId):Option TI :=
 match P.info? t,P.underlying t with
 | some b,some u=>
  match b.zero with
  | none=>none
  | some z=>
   bif !(zok u z) then none else
   match u with
   | .int k=>some ⟨.int k,b.size,b.bytes,z.cells.toList⟩
   | .bool=>some ⟨.bool,b.size,b.bytes,z.cells.toList⟩
   | .string=>some ⟨.string,b.size,b.bytes,z.cells.toList⟩
   | .slice e=>some ⟨.slice e,b.size,b.bytes,z.cells.toList⟩
   | .map k e=>some ⟨.map k e,b.size,b.bytes,z.cells.toList⟩
   | .float k=>some ⟨.float k,b.size,b.bytes,z.cells.toList⟩
   | .struct fields=>
    if (fields.toList.all fun f=>decide (0<P.cellsOf f.type)) then some ⟨.struct (fields.toList.map fun f=>(f.offset,P.cellsOf f.type)),b.size,b.bytes,z.cells.toList⟩ else none
   | .array _ _=>none
   | _=>some ⟨.other,b.size,b.bytes,z.cells.toList⟩
 | _,_=>none
abbrev Cj:=Nat->Option TI
def Ck (P:Program) (T:Cj):Prop:=∀t i,T t=some i->F2 P t=some i
structure Eff where
 r:AV
 rd:List (Nat×Bf)
 wr:List (Nat×Bf)
def Cd (H:Hp):List (Nat×Bf)->Hp
 | []=>H
 | p::l=>Cd (Ax H p.1 p.2) l
def J2 (cs:List AV) (off:Nat) (new:List AV):List AV:=cs.take off++(new++cs.drop (off+new.length))
def Pi (fs:List (Nat×Nat)):List AV->List (Nat×AV)->Option (List AV)
 | cs,[]=>some cs
 | cs,p::rest=>
  match fs[p.1]? with
  | none=>none
  | some q=>bif Nat.beq p.2.cells.length q.2&&Nat.ble (q.1+q.2) cs.length then Pi fs (J2 cs q.1 p.2.cells) rest else none
def AV.cl1:AV->Bool
 | .val v=>Ds v
 | .sl _ _=>true
 | _=>false
def Ir (sz:Nat) (x:AV):Bool:=Nat.beq x.cells.length sz&&x.cells.all AV.cl1
def AV.isPtr:AV->Bool
 | .loc .. | .ref _ | .fn ..=>true
 | _=>false
def AV.free1:AV->Bool
 | .agg cs=>cs.all AV.cl1
 | x=>x.cl1
def AV.free:AV->Bool
 | .val _ | .sl _ _ | .ref _=>true
 | .agg cs=>cs.all AV.cl1
 | .tup cs=>cs.all AV.free1
 | .fn _ cs=>cs.all AV.cl1
 | _=>false
def Zf (op:BinOp) (a b:Int):Option Bool :=
 match op with
 | .eql=>some (a==b)
 | .neq=>some (a != b)
 | .lss=>some (decide (a<b))
 | .leq=>some (decide (a<=b))
 | .gtr=>some (decide (a>b))
 | .geq=>some (decide (a>=b))
 | _=>none
section conc
variable {σ:Aq} {ι:Bm} {H:Hp}
theorem Conc.val_inv {u v:Value} (h:Conc σ ι H (.val u) v):v=u:=by
 cases h with
 | cc h=>cases h; rfl
theorem Conc.of_val (v:Value):Conc σ ι H (.val v) v:=.cc (.val v)
theorem Conc.sl_inv {sz:Nat} {xs:List AV} {v:Value} (h:Conc σ ι H (.sl sz xs) v):CC σ (.sl sz xs) v:=by
 cases h with
 | cc h=>exact h
theorem Conc.agg_inv {cs:List AV} {v:Value} (h:Conc σ ι H (.agg cs) v) :
  ∃vs:Array Value,v = .agg vs/\vs.size=cs.length/\∀(i:Nat) (c:AV) (u:Value),cs[i]? = some c->vs[i]? = some u->Conc σ ι H c u:=by
 cases h with
 | cc h=>cases h with
  | agg cs vs b h=>exact ⟨vs,rfl,b,fun i c u h1 h2=>.cc (h i c u h1 h2)⟩
 | agg cs vs b h=>exact ⟨vs,rfl,b,h⟩
theorem Conc.tup_inv {cs:List AV} {v:Value} (h:Conc σ ι H (.tup cs) v) :
  ∃vs:Array Value,v = .tuple vs/\vs.size=cs.length/\∀(i:Nat) (c:AV) (u:Value),cs[i]? = some c->vs[i]? = some u->Conc σ ι H c u:=by
 cases h with
 | cc h=>cases h
 | tup cs vs b h=>exact ⟨vs,rfl,b,h⟩
theorem Conc.loc_inv {x off:Nat} {v:Value} (h:Conc σ ι H (.loc x off) v):∃b,ι x = .box b/\v = .pointer (some ⟨b,off,none⟩):=by
 cases h with
 | cc h=>cases h
 | loc _ _ b hb=>exact ⟨b,hb,rfl⟩
theorem Conc.one_of {x:AV} {v:Value} (hx:x.one=true) (h:Conc σ ι H x v):Ds v=true:=by
 cases h with
 | cc h=>cases h with
  | val v=>exact hx
  | nil=>rfl
  | sl=>rfl
  | fbn=>rfl
  | fb=>rfl
  | agg=>cases hx
 | loc=>rfl
 | mp=>rfl
 | arr _ _ _ _ _ _ _ h=>exact h
 | el _ _ _ _ _ _ _ h=>exact h
 | ref=>rfl
 | agg=>cases hx
 | tup=>cases hx
 | fn=>rfl
theorem Al5 {α:Type} {x y:α} {i:Nat} (h:[x][i]? = some y):i=0/\y=x:=by
 cases i with
 | zero=>simp at h; exact ⟨rfl,h.symm⟩
 | succ n=>simp at h
theorem Conc.cells {x:AV} {v:Value} (h:Conc σ ι H x v) :
  v.cells.size=x.cells.length/\∀(i:Nat) (c:AV) (u:Value),x.cells[i]? = some c->v.cells[i]? = some u->Conc σ ι H c u:=by
 have single:∀(x:AV) (v:Value),Conc σ ι H x v->x.cells = [x]->v.cells = #[v] ->
   v.cells.size=x.cells.length/\∀(i:Nat) (c:AV) (u:Value),x.cells[i]? = some c->v.cells[i]? = some u->Conc σ ι H c u:=by
  intro x v h L J
  rw [L,J]
  refine ⟨rfl,fun i c u h1 h2=>?_⟩
  obtain ⟨rfl,rfl⟩:=Al5 h1
  simp at h2; subst h2; exact h
 cases h with
 | cc hc=>
  cases hc with
  | val v=>
   cases v with
   | agg vs=>
    refine ⟨by simp [Value.cells,AV.cells],fun i c u h1 h2=>?_⟩
    simp only [AV.cells,Value.cells,List.getElem?_map] at h1 h2
    rw [Array.getElem?_toList,h2] at h1
    simp at h1; subst h1
    exact .of_val u
   | _=>exact single _ _ (.of_val _) rfl rfl
  | nil sz a cap=>exact single _ _ (.cc (.nil sz a cap)) rfl rfl
  | sl xs b off cap sz C E fr g z I hc h1 A q y=>exact single _ _ (.cc (.sl xs b off cap sz C E fr g z I hc h1 A q y)) rfl rfl
  | agg cs vs q h=>exact ⟨q,fun i c u h1 h2=>.cc (h i c u h1 h2)⟩
  | fbn s a cap h0=>exact single _ _ (.cc (.fbn s a cap h0)) rfl rfl
  | fb s b cap C z h0 y A q hb=>exact single _ _ (.cc (.fb s b cap C z h0 y A q hb)) rfl rfl
 | loc x off b hb=>exact single _ _ (.loc x off b hb) rfl rfl
 | mp x b hb=>exact single _ _ (.mp x b hb) rfl rfl
 | arr x k off len v G D l=>exact single _ _ (.arr x k off len v G D l) rfl (by cases v <;> first | rfl | cases l)
 | el x k i j v G D l=>exact single _ _ (.el x k i j v G D l) rfl (by cases v <;> first | rfl | cases l)
 | ref cs b off C E fr g z hc h1 A=>exact single _ _ (.ref cs b off C E fr g z hc h1 A) rfl rfl
 | agg cs vs q h=>exact ⟨q,h⟩
 | tup cs vs q h=>exact single _ _ (.tup cs vs q h) rfl rfl
 | fn f B vs q h=>exact single _ _ (.fn f B vs q h) rfl rfl
theorem Conc.cc_of {x:AV} {v:Value} (hx:x.cl1=true) (h:Conc σ ι H x v):CC σ x v/\Ds v=true:=by
 cases h with
 | cc h=>cases h with
  | val v=>exact ⟨.val v,hx⟩
  | nil sz a cap=>exact ⟨.nil sz a cap,rfl⟩
  | sl xs b off cap sz C E fr g f i hc h1 k j c=>exact ⟨.sl xs b off cap sz C E fr g f i hc h1 k j c,rfl⟩
  | agg=>cases hx
  | fbn=>cases hx
  | fb=>cases hx
 | _=>cases hx
end conc
end Go.Ab
namespace Go.Ab
def Bv (P:Program) (o:Oper) (ρ:Operand->AV) (b:Eff):Prop :=
 ∀(σ:Aq) (ι:Bm) (H:Hp) (F:Aq) (W w:World) (a:Act) (next:Act->World->Prop) (Q:Exit->Act->World->Prop),
  St σ ι H F W w->(∀x∈o.op.operands.toList,Conc σ ι H (ρ x) (a.eval x))->(∀p∈b.rd,H p.1=p.2) ->
  (∀c f v w',Le σ ι H c f (Cd H b.wr)->St c f (Cd H b.wr) F W w'->Conc c f (Cd H b.wr) b.r v->next (a.put o.dst v) w')->o.wp P a w next Q
section
variable {P:Program} {o:Oper} {ρ:Operand->AV} {a:Act} {w w':World} {next:Act->World->Prop} {Q:Exit->Act->World->Prop}
theorem Ea {v:Value} (h:(execOp a.eval o).run P w = .ok (.value v) w') (b:next (a.put o.dst v) w'):o.wp P a w next Q:=by
 unfold Oper.wp; rw [h]; exact b
theorem Vb (h:(execOp a.eval o).run P w = .ok .skip w') (b:next (a.put o.dst undef) w'):o.wp P a w next Q:=by
 unfold Oper.wp; rw [h]; exact b
theorem Dt {r:AV} (h:∀σ ι H a w,(∀x∈o.op.operands.toList,Conc σ ι H (ρ x) (Act.eval a x))->∃v,(execOp a.eval o).run P w = .ok (.value v) w/\Conc σ ι H r v) :
  Bv P o ρ ⟨r,[],[]⟩:=by
 intro σ ι H F W w a next Q s hx _ hk
 obtain ⟨v,b,hc⟩:=h σ ι H a w hx
 exact Ea b (hk σ ι v w (Le.refl _ _ _) s hc)
theorem Al6 {x:Operand} (b:o.op = .move x):Bv P o ρ ⟨ρ x,[],[]⟩ :=
 Dt fun σ ι H a w hx=>⟨a.eval x,by simp [execOp,b],hx x (by simp [b,Op.operands])⟩
theorem R6 {x:Operand} (b:o.op = .assign x):Bv P o ρ ⟨ρ x,[],[]⟩ :=
 Dt fun σ ι H a w hx=>⟨a.eval x,by simp [execOp,b],hx x (by simp [b,Op.operands])⟩
theorem Al7 {c x y:Operand} {t:Bool} (b:o.op = .pick c x y) (hc:ρ c = .val (.bool t)):Bv P o ρ ⟨bif t then ρ x else ρ y,[],[]⟩ :=
 Dt fun σ ι H a w hx=>by
  have h1:=hx c (by simp [b,Op.operands])
  rw [hc] at h1
  have h1:=h1.val_inv
  cases t with
  | true=>exact ⟨a.eval x,by simp [execOp,b,h1,asBool],hx x (by simp [b,Op.operands])⟩
  | false=>exact ⟨a.eval y,by simp [execOp,b,h1,asBool],hx y (by simp [b,Op.operands])⟩
theorem Dq {t:TypeId} {i:TI} (h:F2 P t=some i) :
    ∃b u z,P.info? t=some b/\P.underlying t=some u/\b.zero=some z/\b.size=i.size/\b.bytes=i.bytes/\i.zero=z.cells.toList /\
      (match i.d with
       | .int k=>u = .int k
       | .bool=>u = .bool
       | .string=>u = .string
       | .slice e=>u = .slice e
       | .map k e=>u = .map k e
       | .float k=>u = .float k
       | .struct fs=>∃fields,u = .struct fields/\fs=fields.toList.map (fun f=>(f.offset,P.cellsOf f.type))/\∀f∈fields.toList,0<P.cellsOf f.type
       | .other=>(∀fs,u≠.struct fs)/\(∀n e,u≠.array n e)):=by
  unfold F2 at h
  split at h
  . rename_i b u l hu
    split at h
    . cases h
    . rename_i z j
      refine ⟨b,u,z,l,hu,j,?_⟩
      cases g:zok u z with
      | false=>rw [g] at h; cases h
      | true=>
      rw [g] at h
      simp only [Bool.not_true,cond_false] at h
      split at h
      all_goals first
        | (cases h; done)
        | (cases h; refine ⟨rfl,rfl,rfl,?_⟩; first | rfl | exact ⟨(by intro fs e; simp_all),(by intro n e' e; simp_all)⟩)
        | skip
      . split at h
        . rename_i c
          cases h
          refine ⟨rfl,rfl,rfl,_,rfl,rfl,?_⟩
          intro f hf
          simp only [List.all_eq_true,decide_eq_true_eq] at c
          exact c f hf
        . cases h
  . cases h
theorem Ad5 {t:TypeId} {i:TI} (h:F2 P t=some i) (w:World) :
    ∃z,(zeroValue t).run P w = .ok z w/\z.cells.toList=i.zero/\(i.isAgg=true->∃vs,z = .agg vs)/\(i.isAgg=false->Ds z=true):=by
  obtain ⟨j,u,z,h1,h2,h3,x,s,l,c⟩:=Dq h
  refine ⟨z,by simp [zeroValue,typeInfo,program,Sem.run,h1,h3],l.symm,?_⟩
  have b:zok u z=true:=by
    unfold F2 at h
    rw [h1,h2] at h
    simp only [h3] at h
    cases g:zok u z with
    | false=>rw [g] at h; cases h
    | true=>rfl
  unfold TI.isAgg
  cases hd:i.d <;> rw [hd] at c <;> simp only [] at c ⊢
  all_goals first
    | (subst c; exact ⟨(fun h=>by cases h),fun _=>b⟩)
    | (obtain ⟨f,rfl,_⟩:=c
       refine ⟨fun _=>?_,fun h=>by cases h⟩
       unfold zok at b
       cases z <;> first | exact ⟨_,rfl⟩ | cases b)
    | (obtain ⟨k,q⟩:=c
       refine ⟨(fun h=>by cases h),fun _=>?_⟩
       unfold zok at b
       cases u <;> first | exact b | exact (k _ rfl).elim)
theorem Vc {t:TypeId} {i:TI} (h:F2 P t=some i) (w:World):(isAgg t).run P w = .ok i.isAgg w:=by
 obtain ⟨c,u,z,h1,h2,h3,q,l,k,b⟩:=Dq h
 unfold isAgg TI.isAgg
 rw [Sem.run_bind,run_underlying h2]
 cases hd:i.d <;> rw [hd] at b <;> simp only [Result.andThen_ok]
 all_goals first
  | (subst b; rfl)
  | (obtain ⟨f,rfl,_⟩:=b; rfl)
  | (obtain ⟨j,g⟩:=b; cases u <;> first | rfl | exact (j _ rfl).elim | exact (g _ _ rfl).elim)
theorem J3 {t:TypeId} {i:TI} (h:F2 P t=some i) (w:World):(sizeOf t).run P w = .ok i.size w:=by
 obtain ⟨b,u,z,h1,h2,h3,c,j,g,f⟩:=Dq h
 simp [sizeOf,typeInfo,program,Sem.run,h1,c]
theorem Ad6 {t:TypeId} {i:TI} (h:F2 P t=some i) (w:World):∃z:Value,z.cells.toList=i.zero/\(zeroValue t).run P w = .ok z w:=by
 obtain ⟨b,u,z,h1,h2,h3,j,g,c,f⟩:=Dq h
 exact ⟨z,c.symm,by simp [zeroValue,typeInfo,program,Sem.run,h1,h3]⟩
theorem Al8 {T:Cj} (q:Ck P T) {t:TypeId} {i:TI} (h:Nat) (k:o.op = .alloc t) (ht:T t=some i) :
  Bv P o ρ ⟨.loc h 0,[(h,.none)],[(h,.cells t (i.zero.map .val))]⟩:=by
 intro σ ι H F W w a next Q s hx b hk
 have l:H h = .none:=b (h,.none) (by simp)
 obtain ⟨z,f,g⟩:=Ad6 (q t i ht) w
 obtain ⟨s',le⟩:=s.newBox h l t (i.zero.map .val) z.cells (by simp [<-f]) (by
  intro j c v h1 h2
  rw [<-f,List.getElem?_map,Array.getElem?_toList,h2] at h1
  simp at h1; subst h1; exact .of_val v)
 refine Ea (v:=.pointer (some ⟨w.heap.size,0,none⟩)) (w':=w.alloc (.cells z.cells t)) ?_ (hk σ _ _ _ le s' (.loc h 0 w.heap.size (B8 _ _ _)))
 simp [execOp,k,Instr.alloc,g,newVar,newRow,newObj,Sem.run]
theorem Al9 {t:TypeId} {x:Operand} (h:Nat) (c:o.op = .box t x) :
  Bv P o ρ ⟨.loc h 0,[(h,.none)],[(h,.cells t (ρ x).cells)]⟩:=by
 intro σ ι H F W w a next Q s hx b hk
 have f:H h = .none:=b (h,.none) (by simp)
 have hc:=(hx x (by simp [c,Op.operands])).cells
 obtain ⟨s',le⟩:=s.newBox h f t (ρ x).cells (a.eval x).cells hc.1 hc.2
 refine Ea (v:=.pointer (some ⟨w.heap.size,0,none⟩)) (w':=w.alloc (.cells (a.eval x).cells t)) ?_ (hk σ _ _ _ le s' (.loc h 0 w.heap.size (B8 _ _ _)))
 simp [execOp,c,Instr.box,newVar,newRow,newObj,Sem.run]
theorem Hf {b off:Nat} {C:Array Value} {E:TypeId} {c:Nat×Nat} (h:w.heap[b]? = some (.cells C E c)):w.cell? ⟨b,off,none⟩=C[off]?:=by
 simp [World.cell?,h]
theorem H3 (b off n:Nat):(⟨b,off,none⟩:Addr).add n=⟨b,off+n,none⟩:=by
 unfold Addr.add; split <;> simp_all
theorem Zg {t:TypeId} {x:Operand} {i:TI} (f:o.op = .load t x) (g:F2 P t=some i) (b:i.isAgg=false) {p:Addr} (hp:a.eval x = .pointer (some p)) {v:Value} (c:w.cell? p=some v) :
  (execOp a.eval o).run P w = .ok (.value v) w:=by
 have h1:=Vc g w
 rw [b] at h1
 simp [execOp,f,Instr.loadAt,hp,Instr.sureAddr,loadVar,h1,c]
theorem Zh {t:TypeId} {x:Operand} {i:TI} (g:o.op = .load t x) (c:F2 P t=some i) (b:i.isAgg=true) {p:Addr} (hp:a.eval x = .pointer (some p)) (cs:List Value)
  (h:cs.length=i.size) (f:∀(j:Nat) (v:Value),cs[j]? = some v->w.cell? (p.add j)=some v) :
  (execOp a.eval o).run P w = .ok (.value (.agg cs.toArray)) w:=by
 have h1:=Vc c w
 rw [b] at h1
 have h2:=J3 c w
 have h3:=run_loadCells_list (P:=P) w p cs f
 rw [h] at h3
 simp [execOp,g,Instr.loadAt,hp,Instr.sureAddr,loadVar,h1,h2,h3]
theorem Conc.ref_inv {σ:Aq} {ι:Bm} {H:Hp} {cs:List AV} {v:Value} (h:Conc σ ι H (.ref cs) v):∃(b off:Nat) (C:Array Value) (E:TypeId) (f:Nat×Nat) (g:Nat->Value),
  v = .pointer (some ⟨b,off,none⟩)/\σ b=some (.cells C E f)/\(∀(j:Nat) (c:AV),cs[j]? = some c->CC σ c (g j)/\Ds (g j)=true)/\(∀(j:Nat),j<cs.length->C[off+j]? = some (g j)):=by
 cases h with
 | cc h=>cases h
 | ref cs b off C E f g i hc h1 k=>exact ⟨b,off,C,E,f,g,rfl,i,fun j c h=>⟨hc j c h,h1 j c h⟩,k⟩
theorem Ama {T:Cj} (y:Ck P T) {t:TypeId} {x:Operand} {i:TI} {c:AV} {cs:List AV} (l:o.op = .load t x) (ht:T t=some i) (k:i.isAgg=false) (hx:ρ x = .ref (c::cs)) :
  Bv P o ρ ⟨c,[],[]⟩:=by
 intro σ ι H F W w a next Q s j _ hk
 have h:=j x (by simp [l,Op.operands])
 rw [hx] at h
 obtain ⟨b,off,C,E,fr,g,u,q,hc,z⟩:=h.ref_inv
 have f:w.cell? ⟨b,off,none⟩=some (g 0):=by
  rw [Hf (s.sto _ _ q)]; exact z 0 (by simp)
 exact Ea (Zg l (y t i ht) k u f) (hk σ ι _ w (Le.refl _ _ _) s (.cc (hc 0 c (by simp)).1))
theorem Amb {T:Cj} (B:Ck P T) {t:TypeId} {x:Operand} {i:TI} {cs:List AV} (y:o.op = .load t x) (ht:T t=some i) (q:i.isAgg=true) (hx:ρ x = .ref cs) (G:i.size<=cs.length) :
  Bv P o ρ ⟨.agg (cs.take i.size),[],[]⟩:=by
 intro σ ι H F W w a next Q s l _ hk
 have h:=l x (by simp [y,Op.operands])
 rw [hx] at h
 obtain ⟨b,off,C,E,fr,g,A,z,hc,D⟩:=h.ref_inv
 refine Ea (Zh y (B t i ht) q A ((List.range i.size).map g) (by simp) ?_) (hk σ ι _ w (Le.refl _ _ _) s ?_)
 .intro j v k
  rw [List.getElem?_map] at k
  by_cases f:j<i.size
  .rw [List.getElem?_range f] at k
   simp at k; subst k
   rw [H3,Hf (s.sto _ _ z)]; exact D j (by omega)
  .rw [List.getElem?_eq_none (by simp; omega)] at k; cases k
 .refine .agg _ _ (by simp; omega) (fun j c u h1 h2=>?_)
  have f:j<i.size:=by
   have:=(List.getElem?_eq_some_iff.1 h1).1; simp at this; omega
  rw [List.getElem?_take_of_lt f] at h1
  simp [f] at h2
  subst h2
  exact .cc (hc j c h1).1
theorem Amc {T:Cj} (A:Ck P T) {t:TypeId} {x:Operand} {i:TI} {h off:Nat} {E:TypeId} {cs:List AV} {c:AV} (u:o.op = .load t x) (ht:T t=some i) (q:i.isAgg=false)
  (hx:ρ x = .loc h off) (hc:cs[off]? = some c):Bv P o ρ ⟨c,[(h,.cells E cs)],[]⟩:=by
 intro σ ι H F W w a next Q s l k hk
 have hh:H h = .cells E cs:=k (h,.cells E cs) (by simp)
 have hp:=l x (by simp [u,Op.operands])
 rw [hx] at hp
 obtain ⟨b,hb,z⟩:=hp.loc_inv
 have f:=s.obj h
 unfold Cf at f; rw [hh] at f
 obtain ⟨G,C,y,_,_,h3,D,B⟩:=f
 rw [hb] at y; cases y
 have j:off<C.size:=by rw [D]; exact (List.getElem?_eq_some_iff.1 hc).1
 have g:w.cell? ⟨b,off,none⟩=some C[off]:=by rw [Hf h3]; simp [j]
 exact Ea (Zg u (A t i ht) q z g) (hk σ ι _ w (Le.refl _ _ _) s (B off c _ hc (by simp [j])))
theorem Amd {T:Cj} (D:Ck P T) {t:TypeId} {x:Operand} {i:TI} {h off:Nat} {E:TypeId} {cs:List AV} (z:o.op = .load t x) (ht:T t=some i) (y:i.isAgg=true)
  (hx:ρ x = .loc h off) (I:off+i.size<=cs.length):Bv P o ρ ⟨.agg ((cs.drop off).take i.size),[(h,.cells E cs)],[]⟩:=by
 intro σ ι H F W w a next Q s l k hk
 have hh:H h = .cells E cs:=k (h,.cells E cs) (by simp)
 have hp:=l x (by simp [z,Op.operands])
 rw [hx] at hp
 obtain ⟨b,hb,B⟩:=hp.loc_inv
 have g:=s.obj h
 unfold Cf at g; rw [hh] at g
 obtain ⟨L,C,A,_,_,h3,J,G⟩:=g
 rw [hb] at A; cases A
 refine Ea (Zh z (D t i ht) y B ((C.toList.drop off).take i.size) (by simp; omega) ?_) (hk σ ι _ w (Le.refl _ _ _) s ?_)
 .intro j v q
  have f:j<i.size:=by
   have:=(List.getElem?_eq_some_iff.1 q).1; simp at this; omega
  rw [List.getElem?_take_of_lt f,List.getElem?_drop,Array.getElem?_toList] at q
  rw [H3,Hf h3]; exact q
 .refine .agg _ _ (by simp; omega) (fun j c u h1 h2=>?_)
  have f:j<i.size:=by
   have:=(List.getElem?_eq_some_iff.1 h1).1; simp at this; omega
  rw [List.getElem?_take_of_lt f,List.getElem?_drop] at h1
  rw [List.getElem?_toArray,List.getElem?_take_of_lt f,List.getElem?_drop,Array.getElem?_toList] at h2
  exact G _ c u h1 h2
end
end Go.Ab
namespace Go.Ab
section
variable {P:Program} {o:Oper} {ρ:Operand->AV} {a:Act} {w w':World} {next:Act->World->Prop} {Q:Exit->Act->World->Prop}
theorem Conc.el_inv {σ:Aq} {ι:Bm} {H:Hp} {h k i j:Nat} {v:Value} {E:TypeId} {sz:Nat} {xs:List AV} (hh:H h = .rows E sz xs) (hk:xs.length=k) (hc:Conc σ ι H (.el h k i j) v) :
  ∃b c,ι h = .blk b c/\v = .pointer (some ⟨b,i*sz+j,none⟩):=by
 cases hc with
 | cc h=>cases h
 | el _ _ _ _ _ l g f=>
  have:=(g E sz xs hh).2 hk
  unfold Ad4 at this
  split at this
  .rename_i b c e; exact ⟨b,c,e,this⟩
  .exact this.elim
theorem Conc.arr_inv {σ:Aq} {ι:Bm} {H:Hp} {h k off len:Nat} {v:Value} {E:TypeId} {sz:Nat} {xs:List AV} (hh:H h = .rows E sz xs) (hk:xs.length=k) (hc:Conc σ ι H (.arr h k off len) v) :
  E4 (ι h) sz off len v:=by
 cases hc with
 | cc h=>cases h
 | arr _ _ _ _ _ f c b=>exact (c E sz xs hh).2 hk
theorem St.rowsAt {σ:Aq} {ι:Bm} {H:Hp} {F:Aq} {W w:World} (s:St σ ι H F W w) {h:Nat} {E:TypeId} {sz:Nat} {xs:List AV} (hh:H h = .rows E sz xs) {b c:Nat} (hb:ι h = .blk b c) :
  ∃C,w.heap[b]? = some (.cells C E (0,0))/\C.size=c*sz/\xs.length<=c/\F1 σ sz xs C:=by
 have g:=s.obj h
 unfold Cf at g
 rw [hh] at g
 obtain ⟨_,_,⟨f,_⟩ | ⟨q,i,C,f,h1,h2,h3,l,k,j⟩⟩:=g
 .rw [hb] at f; cases f
 .rw [hb] at f; cases f
  exact ⟨C,h3,l,k,j⟩
theorem Ame {T:Cj} (N:Ck P T) {t:TypeId} {x:Operand} {i:TI} {h k n j:Nat} {E:TypeId} {sz:Nat} {xs:List AV} {y c:AV} (A:o.op = .load t x) (ht:T t=some i) (z:i.isAgg=false)
  (hx:ρ x = .el h k n j) (u:xs.length=k) (hy:xs[n]? = some y) (hc:y.cells[j]? = some c):Bv P o ρ ⟨c,[(h,.rows E sz xs)],[]⟩:=by
 intro σ ι H F W w a next Q s q l hk
 have hh:H h = .rows E sz xs:=l (h,.rows E sz xs) (by simp)
 have hp:=q x (by simp [A,Op.operands])
 rw [hx] at hp
 obtain ⟨b,D,hb,L⟩:=hp.el_inv hh u
 obtain ⟨C,h3,S,R,g,J,I,G⟩:=s.rowsAt hh hb
 have M:=(List.getElem?_eq_some_iff.1 hy).1
 have B:=(List.getElem?_eq_some_iff.1 hc).1
 rw [J n y hy] at B
 have f:w.cell? ⟨b,n*sz+j,none⟩=some (g n j):=by rw [Hf h3]; exact G n j M B
 exact Ea (Zg A (N t i ht) z L f) (hk σ ι _ w (Le.refl _ _ _) s (.cc (I n y j c hy hc).1))
theorem Amf {T:Cj} (S:Ck P T) {t:TypeId} {x:Operand} {i:TI} {h k n j:Nat} {E:TypeId} {sz:Nat} {xs:List AV} {y:AV} (D:o.op = .load t x) (ht:T t=some i) (B:i.isAgg=true)
  (hx:ρ x = .el h k n j) (A:xs.length=k) (hy:xs[n]? = some y) (U:j+i.size<=y.cells.length):Bv P o ρ ⟨.agg ((y.cells.drop j).take i.size),[(h,.rows E sz xs)],[]⟩:=by
 intro σ ι H F W w a next Q s z l hk
 have hh:H h = .rows E sz xs:=l (h,.rows E sz xs) (by simp)
 have hp:=z x (by simp [D,Op.operands])
 rw [hx] at hp
 obtain ⟨b,G,hb,M⟩:=hp.el_inv hh A
 obtain ⟨C,h3,X,V,g,L,J,I⟩:=s.rowsAt hh hb
 have R:=(List.getElem?_eq_some_iff.1 hy).1
 have N:=L n y hy
 refine Ea (Zh D (S t i ht) B M ((List.range i.size).map fun q=>g n (j+q)) (by simp) ?_) (hk σ ι _ w (Le.refl _ _ _) s ?_)
 .intro q v hq
  rw [List.getElem?_map] at hq
  by_cases f:q<i.size
  .rw [List.getElem?_range f] at hq
   simp at hq; subst hq
   rw [H3,Hf h3,Nat.add_assoc]; exact I n (j+q) R (by omega)
  .rw [List.getElem?_eq_none (by simp; omega)] at hq; cases hq
 .refine .agg _ _ (by simp; omega) (fun q c u h1 h2=>?_)
  have f:q<i.size:=by
   have:=(List.getElem?_eq_some_iff.1 h1).1; simp at this; omega
  rw [List.getElem?_take_of_lt f,List.getElem?_drop] at h1
  simp [f] at h2
  subst h2
  exact .cc (J n y (j+q) c hy h1).1
theorem Zi (v:Value):v.oneCell'=Ds v:=by cases v <;> rfl
theorem Ad7 {t:TypeId} {i:TI} (g:F2 P t=some i) {b off:Nat} {v:Value} {C:Array Value} {E:TypeId} (hb:w.heap[b]? = some (.cells C E (0,0))) (c:v.cells.size=i.size)
  (f:off+v.cells.size<=C.size) (h1:∀u∈v.cells.toList,Ds u=true) :
  (Instr.storeAt t (.pointer (some ⟨b,off,none⟩)) v).run P w = .ok () (w.setRow b (C.toList.take off++v.cells.toList++C.toList.drop (off+v.cells.toList.length)).toArray):=by
 have h2:=J3 g w
 have h3:=run_storeCells_at (P:=P) b off E v.cells.toList 0 C w hb (by simpa using f) (fun u hu=>by rw [Zi]; exact h1 u hu)
 simp only [Nat.add_zero] at h3
 simp [Instr.storeAt,Instr.sureAddr,storeVar,h2,c,h3]
theorem Zj (cs:List AV) (off:Nat) (new:List AV) (b:off+new.length<=cs.length) (i:Nat) :
  (J2 cs off new)[i]? = if i<off then cs[i]? else if i<off+new.length then new[i-off]? else cs[i]?:=by
 unfold J2
 by_cases h1:i<off
 .rw [if_pos h1,List.getElem?_append_left (by simp; omega),List.getElem?_take_of_lt h1]
 .rw [if_neg h1,List.getElem?_append_right (by simp; omega)]
  have:(cs.take off).length=off:=by simp; omega
  rw [this]
  by_cases h2:i<off+new.length
  .rw [if_pos h2,List.getElem?_append_left (by omega)]
  .rw [if_neg h2,List.getElem?_append_right (by omega),List.getElem?_drop]
   congr 1; omega
theorem Zk (cs:List AV) (off:Nat) (new:List AV) (b:off+new.length<=cs.length):(J2 cs off new).length=cs.length:=by
 unfold J2; simp; omega
theorem Pj (C:Array Value) (off:Nat) (new:List Value) (c:off+new.length<=C.size) (i:Nat) :
  ((C.toList.take off++new++C.toList.drop (off+new.length)).toArray)[i]? = if i<off then C[i]? else if i<off+new.length then new[i-off]? else C[i]?:=by
 rw [List.getElem?_toArray,List.append_assoc]
 have b:off+new.length<=C.toList.length:=by simpa using c
 by_cases h1:i<off
 .rw [if_pos h1,List.getElem?_append_left (by simp at b ⊢; omega),List.getElem?_take_of_lt h1,Array.getElem?_toList]
 .rw [if_neg h1,List.getElem?_append_right (by simp at b ⊢; omega)]
  have:(C.toList.take off).length=off:=by simp at b ⊢; omega
  rw [this]
  by_cases h2:i<off+new.length
  .rw [if_pos h2,List.getElem?_append_left (by omega)]
  .rw [if_neg h2,List.getElem?_append_right (by omega),List.getElem?_drop,Array.getElem?_toList]
   congr 1; omega
theorem Amg {σ:Aq} {ι:Bm} {H:Hp} {x:AV} {v:Value} (hc:Conc σ ι H x v) (h1:x.cells.all AV.one=true):∀u∈v.cells.toList,Ds u=true:=by
 intro u hu
 obtain ⟨n,c⟩:=List.getElem?_of_mem hu
 have f:=hc.cells
 rw [Array.getElem?_toList] at c
 have b:n<x.cells.length:=by rw [<-f.1]; exact (Array.getElem?_eq_some_iff.1 c).1
 have:=f.2 n x.cells[n] u (List.getElem?_eq_getElem b) c
 exact this.one_of (List.all_eq_true.1 h1 _ (List.getElem_mem b))
theorem Amh {T:Cj} (I:Ck P T) {t:TypeId} {x y:Operand} {i:TI} {h off:Nat} {E:TypeId} {cs:List AV} (A:o.op = .store t x y) (ht:T t=some i)
  (hx:ρ x = .loc h off) (J:(ρ y).cells.length=i.size) (L:off+i.size<=cs.length) (h1:(ρ y).cells.all AV.one=true) :
  Bv P o ρ ⟨.val undef,[(h,.cells E cs)],[(h,.cells E (J2 cs off (ρ y).cells))]⟩:=by
 intro σ ι H F W w a next Q s u z hk
 have hh:H h = .cells E cs:=z (h,.cells E cs) (by simp)
 have hp:=u x (by simp [A,Op.operands])
 have hy:=u y (by simp [A,Op.operands])
 rw [hx] at hp
 obtain ⟨b,hb,G⟩:=hp.loc_inv
 have k:=s.obj h
 unfold Cf at k; rw [hh] at k
 obtain ⟨N,C,D,_,_,h3,M,B⟩:=k
 rw [hb] at D; cases D
 have l:=hy.cells
 have q:=Ad7 (P:=P) (w:=w) (I t i ht) (off:=off) (v:=a.eval y) h3 (by omega) (by omega) (Amg hy h1)
 obtain ⟨s',le⟩:=s.setBox h E cs (J2 cs off (ρ y).cells) hh b hb
  (C.toList.take off++(a.eval y).cells.toList++C.toList.drop (off+(a.eval y).cells.toList.length)).toArray
  (by rw [Zk _ _ _ (by omega)]; simp; omega) (by
   intro j c v g f
   rw [Zj _ _ _ (by omega)] at g
   rw [Pj _ _ _ (by simp; omega)] at f
   simp only [Array.length_toList,l.1] at f
   by_cases g1:j<off
   .rw [if_pos g1] at g f; exact B j c v g f
   .rw [if_neg g1] at g f
    by_cases g2:j<off+(ρ y).cells.length
    .rw [if_pos g2] at g f
     rw [Array.getElem?_toList] at f
     exact l.2 _ c v g f
    .rw [if_neg g2] at g f; exact B j c v g f)
 refine Vb (w':=_) ?_ (hk σ ι undef _ le s' (.of_val _))
 simp [execOp,A,G,q]
def R7 (x:AV) (j:Nat) (new:List AV):AV :=
 match x with
 | .agg cs=>.agg (J2 cs j new)
 | _=>new.headD x
theorem Ami {x:AV} {j:Nat} {new:List AV} (f:j+new.length<=x.cells.length) (i:new≠[]) (h1:∀c∈new,c.cl1=true) (g:∀vs,x≠.val (.agg vs)) :
  (R7 x j new).cells=J2 x.cells j new:=by
 unfold R7
 split
 .rfl
 .rename_i hx
  have b:x.cells = [x]:=by
   cases x with
   | val v=>cases v <;> first | rfl | exact (g _ rfl).elim
   | agg cs=>exact (hx cs rfl).elim
   | _=>rfl
  rw [b] at f ⊢
  cases new with
  | nil=>exact (i rfl).elim
  | cons c rest=>
   simp at f
   have k:j=0:=by omega
   have h:rest = []:=List.eq_nil_of_length_eq_zero (by omega)
   subst k h
   have hc:=h1 c (by simp)
   cases c with
   | val v=>cases v <;> first | rfl | cases hc
   | sl _ _=>rfl
   | _=>cases hc
theorem Amj {T:Cj} (hT:Ck P T) {t:TypeId} {x y:Operand} {i:TI} {h k n j:Nat} {E:TypeId} {sz:Nat} {xs:List AV} {z:AV} (ho:o.op = .store t x y) (ht:T t=some i)
  (hx:ρ x = .el h k n j) (aa:xs.length=k) (X:xs[n]? = some z) (hs:(ρ y).cells.length=i.size) (ad:0<i.size) (hl:j+i.size<=z.cells.length) (h1:(ρ y).cells.all AV.cl1=true)
  (a1:∀vs,z≠.val (.agg vs)) :
  Bv P o ρ ⟨.val undef,[(h,.rows E sz xs)],[(h,.rows E sz (xs.set n (R7 z j (ρ y).cells)))]⟩:=by
 intro σ ι H F W w a next Q s R a7 hk
 have hh:H h = .rows E sz xs:=a7 (h,.rows E sz xs) (by simp)
 have hp:=R x (by simp [ho,Op.operands])
 have hy:=R y (by simp [ho,Op.operands])
 rw [hx] at hp
 obtain ⟨b,L,hb,hv⟩:=hp.el_inv hh aa
 obtain ⟨C,h3,h4,h5,g,r1,Z,V⟩:=s.rowsAt hh hb
 have hn:=(List.getElem?_eq_some_iff.1 X).1
 have a6:=r1 n z X
 have J:=hy.cells
 have a8:(ρ y).cells≠[]:=by intro e; rw [e] at hs; simp at hs; omega
 have N:=Ami (x:=z) (j:=j) (new:=(ρ y).cells) (by omega) a8 (fun c hc=>List.all_eq_true.1 h1 c hc) a1
 have ab:∀u∈(a.eval y).cells.toList,Ds u=true:=by
  intro u hu
  obtain ⟨q,hq⟩:=List.getElem?_of_mem hu
  rw [Array.getElem?_toList] at hq
  have A:q<(ρ y).cells.length:=by rw [<-J.1]; exact (Array.getElem?_eq_some_iff.1 hq).1
  exact ((J.2 q _ u (List.getElem?_eq_getElem A) hq).cc_of (List.all_eq_true.1 h1 _ (List.getElem_mem A))).2
 have ac:n*sz+sz<=C.size:=by
  rw [h4]
  have:(n+1)*sz<=L*sz:=Nat.mul_le_mul_right sz (by omega)
  rw [Nat.add_mul] at this; omega
 have M:=Ad7 (P:=P) (w:=w) (hT t i ht) (off:=n*sz+j) (v:=a.eval y) h3 (by omega) (by omega) ab
 let I:Nat->Nat->Value:=fun n' f=>if n'=n/\j<=f/\f<j+(ρ y).cells.length then ((a.eval y).cells[f-j]?).getD undef else g n' f
 obtain ⟨s',le⟩:=s.setRows h E sz xs (xs.set n (R7 z j (ρ y).cells)) hh b L hb (by simp)
  (C.toList.take (n*sz+j)++(a.eval y).cells.toList++C.toList.drop (n*sz+j+(a.eval y).cells.toList.length)).toArray
  (by simp; omega) (by
   refine ⟨I,?_,?_,?_⟩
   .intro l Y D
    by_cases e:l=n
    .subst e
     rw [List.getElem?_set_self hn] at D
     cases D
     rw [N,Zk _ _ _ (by omega)]; exact a6
    .rw [List.getElem?_set_ne (by omega)] at D; exact r1 l Y D
   .intro l Y f U D B
    by_cases e:l=n
    .subst e
     rw [List.getElem?_set_self hn] at D
     cases D
     rw [N,Zj _ _ _ (by omega)] at B
     show CC σ U (I l f)/\Ds (I l f)=true
     by_cases g1:f<j
     .rw [if_pos g1] at B
      have:I l f=g l f:=if_neg (by omega)
      rw [this]; exact Z l z f U X B
     .rw [if_neg g1] at B
      by_cases g2:f<j+(ρ y).cells.length
      .rw [if_pos g2] at B
       have A:f-j<(a.eval y).cells.size:=by omega
       have:I l f=(a.eval y).cells[f-j]:=by
        show (if _ then _ else _)=_
        rw [if_pos ⟨rfl,by omega,g2⟩]; simp [A]
       rw [this]
       exact (J.2 (f-j) U _ B (by simp [A])).cc_of (List.all_eq_true.1 h1 _ (List.mem_of_getElem? B))
      .rw [if_neg g2] at B
       have:I l f=g l f:=if_neg (by omega)
       rw [this]; exact Z l z f U X B
    .rw [List.getElem?_set_ne (by omega)] at D
     have:I l f=g l f:=if_neg (by omega)
     rw [this]; exact Z l Y f U D B
   .intro l f G hj'
    simp at G
    rw [Pj _ _ _ (by simp; omega)]
    simp only [Array.length_toList,J.1]
    by_cases g0:l=n
    .subst g0
     by_cases g1:f<j
     .rw [if_pos (by omega)]
      have:I l f=g l f:=if_neg (by omega)
      rw [this]; exact V l f G hj'
     .rw [if_neg (by omega)]
      by_cases g2:f<j+(ρ y).cells.length
      .rw [if_pos (by omega),Array.getElem?_toList]
       have A:f-j<(a.eval y).cells.size:=by omega
       have:I l f=(a.eval y).cells[f-j]:=by
        show (if _ then _ else _)=_
        rw [if_pos ⟨rfl,by omega,g2⟩]; simp [A]
       rw [this,show l*sz+f-(l*sz+j)=f-j by omega]
       simp [A]
      .rw [if_neg (by omega)]
       have:I l f=g l f:=if_neg (by omega)
       rw [this]; exact V l f G hj'
    .have:I l f=g l f:=if_neg (by omega)
     rw [this]
     have S:l*sz+f<n*sz+j\/n*sz+j+(ρ y).cells.length<=l*sz+f:=by
      rcases Nat.lt_or_gt_of_ne g0 with A | hgt
      .left
       have:(l+1)*sz<=n*sz:=Nat.mul_le_mul_right sz (by omega)
       rw [Nat.add_mul] at this; omega
      .right
       have:(n+1)*sz<=l*sz:=Nat.mul_le_mul_right sz (by omega)
       rw [Nat.add_mul] at this; omega
     rcases S with A | hge
     .rw [if_pos A]; exact V l f G hj'
     .rw [if_neg (by omega),if_neg (by omega)]; exact V l f G hj')
 refine Vb (w':=_) ?_ (hk σ ι undef _ le s' (.of_val _))
 simp [execOp,ho,hv,M]
end
end Go.Ab
namespace Go.Ab
section
variable {P:Program} {o:Oper} {ρ:Operand->AV} {a:Act} {w w':World} {next:Act->World->Prop} {Q:Exit->Act->World->Prop}
theorem C3 {σ:Aq} {ι:Bm} {H:Hp} {x:Operand} {v:Value} (h:ρ x = .val v) (hc:Conc σ ι H (ρ x) (a.eval x)):a.eval x=v:=by
 rw [h] at hc; exact hc.val_inv
theorem Amk {x:Operand} (b:o.op = .nilCheck x) (hp:(ρ x).isPtr=true):Bv P o ρ ⟨ρ x,[],[]⟩ :=
 Dt fun σ ι H a w hx=>by
  have h:=hx x (by simp [b,Op.operands])
  refine ⟨a.eval x,?_,h⟩
  have:(∃p,a.eval x = .pointer (some p))\/∃f vs,a.eval x = .func (.func f) #[] vs:=by
   generalize ρ x=y at h hp
   generalize a.eval x=v at h
   cases h with
   | cc h=>cases h <;> cases hp
   | loc=>exact .inl ⟨_,rfl⟩
   | mp=>cases hp
   | arr=>cases hp
   | el=>cases hp
   | ref=>exact .inl ⟨_,rfl⟩
   | agg=>cases hp
   | tup=>cases hp
   | fn=>exact .inr ⟨_,_,rfl⟩
  rcases this with ⟨p,hp⟩ | ⟨f,vs,hp⟩ <;> simp [execOp,b,hp]
theorem Nq {op:BinOp} {t b:TypeId} {x y:Operand} {k:IntKind} {m n:Int} (f:o.op = .binOp op t x y b) (hx:a.eval x = .int k m) (hy:a.eval y = .int k n)
  {r:Value} (c:(binOp op t (.int k m) (.int k n)).run P w = .ok r w):(execOp a.eval o).run P w = .ok (.value r) w:=by
 have g:(eqGuard op t x y (.int k m) (.int k n)).run P w = .ok () w:=by
  unfold eqGuard; cases op <;> simp
 simp only [execOp,f,hx,hy,Sem.run_bind,g,Result.andThen_ok,c,Sem.run_pure]
theorem Aml {t f:TypeId} {x y:Operand} {k:IntKind} {m n c:Int} (b:o.op = .binOp .add t x y f) (hx:ρ x = .val (.int k m)) (hy:ρ y = .val (.int k n)) (hc:k.wrap (m+n)=c) :
  Bv P o ρ ⟨.val (.int k c),[],[]⟩ :=
 Dt fun σ ι H a w h=>⟨_,Nq b (C3 hx (h x (by simp [b,Op.operands]))) (C3 hy (h y (by simp [b,Op.operands]))) (by simp [binOp,Op.intArith,hc]),.of_val _⟩
theorem Amm {t f:TypeId} {x y:Operand} {k:IntKind} {m n c:Int} (b:o.op = .binOp .sub t x y f) (hx:ρ x = .val (.int k m)) (hy:ρ y = .val (.int k n)) (hc:k.wrap (m-n)=c) :
  Bv P o ρ ⟨.val (.int k c),[],[]⟩ :=
 Dt fun σ ι H a w h=>⟨_,Nq b (C3 hx (h x (by simp [b,Op.operands]))) (C3 hy (h y (by simp [b,Op.operands]))) (by simp [binOp,Op.intArith,hc]),.of_val _⟩
theorem Amn {t f:TypeId} {x y:Operand} {k:IntKind} {m n c:Int} (b:o.op = .binOp .mul t x y f) (hx:ρ x = .val (.int k m)) (hy:ρ y = .val (.int k n)) (hc:k.wrap (m*n)=c) :
  Bv P o ρ ⟨.val (.int k c),[],[]⟩ :=
 Dt fun σ ι H a w h=>⟨_,Nq b (C3 hx (h x (by simp [b,Op.operands]))) (C3 hy (h y (by simp [b,Op.operands]))) (by simp [binOp,Op.intArith,hc]),.of_val _⟩
theorem Amo {t f:TypeId} {x y:Operand} {k:IntKind} {m n c:Int} (b:o.op = .binOp .quo t x y f) (hx:ρ x = .val (.int k m)) (hy:ρ y = .val (.int k n)) (g:n≠0) (hc:k.wrap (m.tdiv n)=c) :
  Bv P o ρ ⟨.val (.int k c),[],[]⟩ :=
 Dt fun σ ι H a w h=>⟨_,Nq b (C3 hx (h x (by simp [b,Op.operands]))) (C3 hy (h y (by simp [b,Op.operands]))) (by simp [binOp,Op.intDiv,g,hc]),.of_val _⟩
theorem Amp {t f:TypeId} {x y:Operand} {k:IntKind} {m n c:Int} (b:o.op = .binOp .rem t x y f) (hx:ρ x = .val (.int k m)) (hy:ρ y = .val (.int k n)) (g:n≠0) (hc:m.tmod n=c) :
  Bv P o ρ ⟨.val (.int k c),[],[]⟩ :=
 Dt fun σ ι H a w h=>⟨_,Nq b (C3 hx (h x (by simp [b,Op.operands]))) (C3 hy (h y (by simp [b,Op.operands]))) (by simp [binOp,Op.intDiv,g,hc]),.of_val _⟩
theorem Amq {op:BinOp} {t f:TypeId} {x y:Operand} {k:IntKind} {m n:Int} {b:Bool} (c:o.op = .binOp op t x y f) (hx:ρ x = .val (.int k m)) (hy:ρ y = .val (.int k n)) (hc:Zf op m n=some b) :
  Bv P o ρ ⟨.val (.bool b),[],[]⟩ :=
 Dt fun σ ι H a w h=>by
  refine ⟨.bool b,Nq c (C3 hx (h x (by simp [c,Op.operands]))) (C3 hy (h y (by simp [c,Op.operands]))) ?_,.of_val _⟩
  cases op <;> simp only [Zf] at hc <;> first | (cases hc; done) | (cases hc; simp [binOp,Op.intCmp])
def Zl (op:BinOp) (k:IntKind) (m n:Int):Option Int :=
 match op with
 | .and=>some (k.wrap (BitVec.ofInt k.bits m &&& BitVec.ofInt k.bits n).toNat)
 | .or=>some (k.wrap (BitVec.ofInt k.bits m ||| BitVec.ofInt k.bits n).toNat)
 | .xor=>some (k.wrap (BitVec.ofInt k.bits m ^^^ BitVec.ofInt k.bits n).toNat)
 | _=>none
theorem Amr {op:BinOp} {t f:TypeId} {x y:Operand} {k:IntKind} {m n c:Int} (b:o.op = .binOp op t x y f) (hx:ρ x = .val (.int k m)) (hy:ρ y = .val (.int k n)) (hc:Zl op k m n=some c) :
  Bv P o ρ ⟨.val (.int k c),[],[]⟩ :=
 Dt fun σ ι H a w h=>by
  refine ⟨.int k c,Nq b (C3 hx (h x (by simp [b,Op.operands]))) (C3 hy (h y (by simp [b,Op.operands]))) ?_,.of_val _⟩
  cases op <;> simp only [Zl] at hc <;> first | (cases hc; done) | (cases hc; simp [binOp,Op.intBits])
theorem Ams {t i:TypeId} {x y:Operand} {k g:IntKind} {m n c:Int} (b:o.op = .binOp .shr t x y i) (hx:ρ x = .val (.int k m)) (hy:ρ y = .val (.int g n)) (l:0<=n) (hc:m.fdiv (2 ^ (min n.toNat k.bits))=c) :
  Bv P o ρ ⟨.val (.int k c),[],[]⟩ :=
 Dt fun σ ι H a w h=>by
  refine ⟨.int k c,?_,.of_val _⟩
  have h1:=C3 hx (h x (by simp [b,Op.operands]))
  have h2:=C3 hy (h y (by simp [b,Op.operands]))
  have j:(eqGuard .shr t x y (.int k m) (.int g n)).run P w = .ok () w:=by unfold eqGuard; simp
  have f:¬n<0:=by omega
  simp only [execOp,b,h1,h2,Sem.run_bind,j,Result.andThen_ok,binOp,Op.shift,if_neg f,hc,Sem.run_pure]
theorem Amt {t i:TypeId} {x y:Operand} {k g:IntKind} {m n c:Int} (b:o.op = .binOp .shl t x y i) (hx:ρ x = .val (.int k m)) (hy:ρ y = .val (.int g n)) (l:0<=n) (hc:k.wrap (m*2 ^ (min n.toNat k.bits))=c) :
  Bv P o ρ ⟨.val (.int k c),[],[]⟩ :=
 Dt fun σ ι H a w h=>by
  refine ⟨.int k c,?_,.of_val _⟩
  have h1:=C3 hx (h x (by simp [b,Op.operands]))
  have h2:=C3 hy (h y (by simp [b,Op.operands]))
  have j:(eqGuard .shl t x y (.int k m) (.int g n)).run P w = .ok () w:=by unfold eqGuard; simp
  have f:¬n<0:=by omega
  simp only [execOp,b,h1,h2,Sem.run_bind,j,Result.andThen_ok,binOp,Op.shift,if_neg f,hc,Sem.run_pure]
def Zm (op:BinOp) (m n:Bool):Option Bool :=
 match op with
 | .eql=>some (m==n)
 | .neq=>some (m != n)
 | _=>none
theorem Amu {t:TypeId} (ht:P.underlying t=some .bool) (d:Nat) (m n:Bool) (w:World):(Op.equalIn (d+1) t (.bool m) (.bool n)).run P w = .ok (m==n) w:=by
 simp [Op.equalIn,run_underlying ht]
theorem Amv {t:TypeId} (ht:P.underlying t=some .bool) (m n:Bool) (w:World):(Op.equal t (.bool m) (.bool n)).run P w = .ok (m==n) w:=by
 exact Amu ht 9999 m n w
theorem Amw {T:Cj} (q:Ck P T) {op:BinOp} {t j:TypeId} {i:TI} {x y:Operand} {m n b:Bool} (c:o.op = .binOp op t x y j) (ht:T t=some i) (hd:i.d = .bool) (hx:ρ x = .val (.bool m)) (hy:ρ y = .val (.bool n)) (hc:Zm op m n=some b) :
  Bv P o ρ ⟨.val (.bool b),[],[]⟩ :=
 Dt fun σ ι H a w h=>by
  refine ⟨.bool b,?_,.of_val _⟩
  have h1:=C3 hx (h x (by simp [c,Op.operands]))
  have h2:=C3 hy (h y (by simp [c,Op.operands]))
  obtain ⟨g,u,z,E,k,D,B,A,s,f⟩:=Dq (q t i ht)
  rw [hd] at f; subst f
  have l:(eqGuard op t x y (.bool m) (.bool n)).run P w = .ok () w:=by unfold eqGuard; cases op <;> simp
  cases op <;> simp only [Zm] at hc <;> first | (cases hc; done) | skip
  all_goals
   cases hc
   simp only [execOp,c,h1,h2,Sem.run_bind,l,Result.andThen_ok,binOp,Amv k,Sem.run_pure]
   try rfl
theorem Amx {T:Cj} (A:Ck P T) {t l e:TypeId} {i:TI} {x y:Operand} {p:Option Addr} {n c b g:Nat} (f:o.op = .binOp .eql t x y l) (ht:T t=some i) (hd:i.d = .slice e) (hx:ρ x = .val (.slice p n c)) (hy:ρ y = .val (.slice none b g)) :
  Bv P o ρ ⟨.val (.bool p.isNone),[],[]⟩ :=
 Dt fun σ ι H a w h=>by
  refine ⟨.bool p.isNone,?_,.of_val _⟩
  have h1:=C3 hx (h x (by simp [f,Op.operands]))
  have h2:=C3 hy (h y (by simp [f,Op.operands]))
  obtain ⟨k,u,z,I,q,G,E,D,B,j⟩:=Dq (A t i ht)
  rw [hd] at j; subst j
  have s:(eqGuard .eql t x y (.slice p n c) (.slice none b g)).run P w = .ok () w:=by unfold eqGuard; simp
  simp only [execOp,f,h1,h2,Sem.run_bind,s,Result.andThen_ok,Lib.run_eql_slice_nil w t e p n c b g q,Sem.run_pure]
def Zn (op:BinOp) (m n:ByteArray):Option Bool :=
 match op with
 | .eql=>some (m.toList==n.toList)
 | .neq=>some (!(m.toList==n.toList))
 | .lss=>some (Op.bytesLess m.toList n.toList)
 | _=>none
theorem Amy {op:BinOp} {t f:TypeId} {x y:Operand} {m n:ByteArray} {b:Bool} (c:o.op = .binOp op t x y f) (hx:ρ x = .val (.string m)) (hy:ρ y = .val (.string n)) (hc:Zn op m n=some b) :
  Bv P o ρ ⟨.val (.bool b),[],[]⟩ :=
 Dt fun σ ι H a w h=>by
  refine ⟨.bool b,?_,.of_val _⟩
  have h1:=C3 hx (h x (by simp [c,Op.operands]))
  have h2:=C3 hy (h y (by simp [c,Op.operands]))
  have g:(eqGuard op t x y (.string m) (.string n)).run P w = .ok () w:=by unfold eqGuard; cases op <;> simp
  cases op <;> simp only [Zn] at hc <;> first | (cases hc; done) | skip
  all_goals
   cases hc
   simp only [execOp,c,h1,h2,Sem.run_bind,g,Result.andThen_ok,binOp,Op.stringOp,Sem.run_pure]
theorem Amz {t c:TypeId} {x y:Operand} {m n:ByteArray} (b:o.op = .binOp .add t x y c) (hx:ρ x = .val (.string m)) (hy:ρ y = .val (.string n)) (j:m.size+n.size<=9223372036854775807) :
  Bv P o ρ ⟨.val (.string (m++n)),[],[]⟩ :=
 Dt fun σ ι H a w h=>by
  refine ⟨.string (m++n),?_,.of_val _⟩
  have h1:=C3 hx (h x (by simp [b,Op.operands]))
  have h2:=C3 hy (h y (by simp [b,Op.operands]))
  have i:(eqGuard .add t x y (.string m) (.string n)).run P w = .ok () w:=by unfold eqGuard; simp
  have g:IntKind.i64.max=9223372036854775807:=by decide
  have f:¬((m.size+n.size:Nat):Int)>IntKind.i64.max:=by rw [g]; omega
  simp only [execOp,b,h1,h2,Sem.run_bind,i,Result.andThen_ok,binOp,Op.stringOp,if_neg f,Sem.run_pure]
theorem Am0 {t:TypeId} {x:Operand} {b:Bool} (c:o.op = .unOp .not t x) (hx:ρ x = .val (.bool b)):Bv P o ρ ⟨.val (.bool !b),[],[]⟩ :=
 Dt fun σ ι H a w h=>⟨.bool !b,by simp [execOp,c,C3 hx (h x (by simp [c,Op.operands])),Op.unary],.of_val _⟩
theorem Am1 {t:TypeId} {x:Operand} {k:IntKind} {m c:Int} (b:o.op = .unOp .neg t x) (hx:ρ x = .val (.int k m)) (hc:k.wrap (0-m)=c):Bv P o ρ ⟨.val (.int k c),[],[]⟩ :=
 Dt fun σ ι H a w h=>⟨.int k c,by simp only [execOp,b,C3 hx (h x (by simp [b,Op.operands])),Op.unary,Op.intArith,hc,Sem.run_bind,Sem.run_pure,Result.andThen_ok],.of_val _⟩
theorem Am2 {T:Cj} (s:Ck P T) {t d:TypeId} {x:Operand} {i j:TI} {k I:IntKind} {m c:Int} (q:o.op = .convert t d x) (ht:T t=some i) (hd:T d=some j) (J:j.d = .int k) (hx:ρ x = .val (.int I m)) (hc:k.wrap m=c) :
  Bv P o ρ ⟨.val (.int k c),[],[]⟩ :=
 Dt fun σ ι H a w h=>by
  refine ⟨.int k c,?_,.of_val _⟩
  have h1:=C3 hx (h x (by simp [q,Op.operands]))
  obtain ⟨l,u,z,X,E,V,U,S,R,N⟩:=Dq (s t i ht)
  obtain ⟨g,M,L,G,f,D,B,A,y,b⟩:=Dq (s d j hd)
  rw [J] at b; subst b
  simp only [execOp,q,h1,convert,Sem.run_bind,run_underlying E,run_underlying f,Result.andThen_ok,Conv.intToInt,hc,Sem.run_pure]
theorem Am3 {op:BinOp} {t f:TypeId} {x y:Operand} {k:FloatKind} {m n c:Nat} (b:o.op = .binOp op t x y f) (hx:ρ x = .val (.float k m)) (hy:ρ y = .val (.float k n)) (hc:floatBits op k m n=some c) :
  Bv P o ρ ⟨.val (.float k c),[],[]⟩ :=
 Dt fun σ ι H a w h=>by
  refine ⟨.float k c,?_,.of_val _⟩
  have h1:=C3 hx (h x (by simp [b,Op.operands]))
  have h2:=C3 hy (h y (by simp [b,Op.operands]))
  have g:(eqGuard op t x y (.float k m) (.float k n)).run P w = .ok () w:=by
   cases op <;> first | (unfold eqGuard; simp; done) | (simp [floatBits] at hc)
  simp only [execOp,b,h1,h2,Sem.run_bind,g,Result.andThen_ok,run_float_arith w op t k m n c hc,Sem.run_pure]
theorem Am4 {T:Cj} (s:Ck P T) {t d:TypeId} {x:Operand} {i j:TI} {k:FloatKind} {g:IntKind} {m:Int} (q:o.op = .convert t d x) (ht:T t=some i) (hd:T d=some j) (I:j.d = .float k) (hx:ρ x = .val (.int g m)) :
  Bv P o ρ ⟨.val (.float k (floatOfInt k m)),[],[]⟩ :=
 Dt fun σ ι H a w h=>by
  refine ⟨.float k (floatOfInt k m),?_,.of_val _⟩
  have h1:=C3 hx (h x (by simp [q,Op.operands]))
  obtain ⟨l,u,z,V,E,U,S,R,N,M⟩:=Dq (s t i ht)
  obtain ⟨f,L,J,G,c,D,B,A,y,b⟩:=Dq (s d j hd)
  rw [I] at b; subst b
  have:=run_convert_int_float (P:=P) w t d g k m (by rw [E]; rfl) c
  simp only [execOp,q,h1,Sem.run_bind,this,Result.andThen_ok,Sem.run_pure]
theorem Am5 {T:Cj} (y:Ck P T) {t d:TypeId} {x:Operand} {i j:TI} {k:FloatKind} {f:IntKind} {m:Nat} {c:Int} (s:o.op = .convert t d x) (ht:T t=some i) (hd:T d=some j) (J:j.d = .int f) (hx:ρ x = .val (.float k m)) (hc:floatToIntVal k m f=some c) :
  Bv P o ρ ⟨.val (.int f c),[],[]⟩ :=
 Dt fun σ ι H a w h=>by
  refine ⟨.int f c,?_,.of_val _⟩
  have h1:=C3 hx (h x (by simp [s,Op.operands]))
  obtain ⟨q,u,z,X,G,V,U,S,R,N⟩:=Dq (y t i ht)
  obtain ⟨l,M,L,I,g,E,D,B,A,b⟩:=Dq (y d j hd)
  rw [J] at b; subst b
  have:=run_convert_float_int (P:=P) w t d k f m c (by rw [G]; rfl) g hc
  simp only [execOp,s,h1,Sem.run_bind,this,Result.andThen_ok,Sem.run_pure]
theorem Am6 {x:Operand} {n:Nat} {cs:List AV} {c:AV} (f:o.op = .extract x n) (hx:ρ x = .tup cs) (hc:cs[n]? = some c):Bv P o ρ ⟨c,[],[]⟩ :=
 Dt fun σ ι H a w h=>by
  have h1:=h x (by simp [f,Op.operands])
  rw [hx] at h1
  obtain ⟨vs,e,i,g⟩:=h1.tup_inv
  have b:n<vs.size:=by rw [i]; exact (List.getElem?_eq_some_iff.1 hc).1
  refine ⟨vs[n],?_,g n c _ hc (by simp [b])⟩
  simp [execOp,f,e,Instr.extract,b]
theorem Zo {s:TypeId} {i:TI} {fs:List (Nat×Nat)} {f:Nat} {q:Nat×Nat} (E:F2 P s=some i) (hd:i.d = .struct fs) (c:fs[f]? = some q) (b off:Nat) (w:World) :
  (Instr.fieldAt s (.pointer (some ⟨b,off,none⟩)) f).run P w = .ok (.pointer (some ⟨b,off+q.1,none⟩)) w:=by
 obtain ⟨A,u,z,M,B,L,J,I,G,y⟩:=Dq E
 rw [hd] at y
 obtain ⟨fields,rfl,rfl,hpos⟩:=y
 rw [List.getElem?_map] at c
 cases j:fields.toList[f]? with
 | none=>rw [j] at c; simp at c
 | some fd=>
  rw [j] at c; simp at c; subst c
  have x:fields[f]? = some fd:=by rw [<-Array.getElem?_toList]; exact j
  have hp:=hpos fd (List.mem_of_getElem? j)
  have k:∃inf,P.info? fd.type=some inf/\inf.size≠0:=by
   unfold Program.cellsOf at hp
   cases h:P.info? fd.type with
   | none=>rw [h] at hp; simp at hp
   | some inf=>rw [h] at hp; simp at hp; exact ⟨inf,rfl,by omega⟩
  obtain ⟨inf,g,l⟩:=k
  have D:(sizeOf fd.type).run P w = .ok inf.size w:=by simp [sizeOf,typeInfo,program,Sem.run,g]
  simp [Instr.fieldAt,run_underlying B,x,Instr.sureAddr,fieldPlace,D,l,H3]
theorem Am7 {T:Cj} (l:Ck P T) {s:TypeId} {x:Operand} {f:Nat} {i:TI} {fs:List (Nat×Nat)} {q:Nat×Nat} {h off:Nat} (g:o.op = .fieldAddr s x f) (ht:T s=some i) (hd:i.d = .struct fs) (k:fs[f]? = some q)
  (hx:ρ x = .loc h off):Bv P o ρ ⟨.loc h (off+q.1),[],[]⟩ :=
 Dt fun σ ι H a w c=>by
  have h1:=c x (by simp [g,Op.operands])
  rw [hx] at h1
  obtain ⟨b,hb,j⟩:=h1.loc_inv
  exact ⟨_,by simp [execOp,g,j,Zo (l s i ht) hd k],.loc h (off+q.1) b hb⟩
theorem Am8 {T:Cj} (A:Ck P T) {s:TypeId} {x:Operand} {f:Nat} {i:TI} {fs:List (Nat×Nat)} {q:Nat×Nat} {cs:List AV} (l:o.op = .fieldAddr s x f) (ht:T s=some i) (hd:i.d = .struct fs) (z:fs[f]? = some q)
  (hx:ρ x = .ref cs):Bv P o ρ ⟨.ref (cs.drop q.1),[],[]⟩ :=
 Dt fun σ ι H a w k=>by
  have h1:=k x (by simp [l,Op.operands])
  rw [hx] at h1
  obtain ⟨b,off,C,E,fr,g,y,u,hc,B⟩:=h1.ref_inv
  refine ⟨_,by simp [execOp,l,y,Zo (A s i ht) hd z],.ref _ b (off+q.1) C E fr (fun j=>g (q.1+j)) u ?_ ?_ ?_⟩
  .intro j c h; rw [List.getElem?_drop] at h; exact (hc _ c h).1
  .intro j c h; rw [List.getElem?_drop] at h; exact (hc _ c h).2
  .intro j h; rw [List.length_drop] at h; rw [Nat.add_assoc]; exact B (q.1+j) (by omega)
theorem Am9 {T:Cj} (G:Ck P T) {s:TypeId} {x:Operand} {f:Nat} {i:TI} {fs:List (Nat×Nat)} {q:Nat×Nat} {h k n j:Nat} {E:TypeId} {sz:Nat} {xs:List AV} (z:o.op = .fieldAddr s x f) (ht:T s=some i) (hd:i.d = .struct fs) (D:fs[f]? = some q)
  (hx:ρ x = .el h k n j) (y:xs.length=k):Bv P o ρ ⟨.el h k n (j+q.1),[(h,.rows E sz xs)],[]⟩:=by
 intro σ ι H F W w a next Q s u l hk
 have hh:H h = .rows E sz xs:=l (h,.rows E sz xs) (by simp)
 have hp:=u x (by simp [z,Op.operands])
 rw [hx] at hp
 obtain ⟨b,A,hb,B⟩:=hp.el_inv hh y
 refine Ea (v:=.pointer (some ⟨b,n*sz+j+q.1,none⟩)) (by simp [execOp,z,B,Zo (G _ i ht) hd D]) (hk σ ι _ w (Le.refl _ _ _) s ?_)
 refine .el h k n (j+q.1) _ (by show H h≠_; rw [hh]; intro e; cases e) (fun I g c e=>?_) rfl
 have e:H h = .rows I g c:=e
 rw [hh] at e; cases e
 refine ⟨by omega,fun _=>?_⟩
 rw [hb]; show _=_
 rw [Nat.add_assoc]
theorem CC.sl_inv {σ:Aq} {sz:Nat} {xs:List AV} {v:Value} (h:CC σ (.sl sz xs) v) :
  (xs = []/\∃p f,v = .slice p 0 f)\/∃(b off f:Nat) (C:Array Value) (E:TypeId) (l:Nat×Nat) (g:Nat->Nat->Value),v = .slice (some ⟨b,off,none⟩) xs.length f/\σ b=some (.cells C E l) /\
   (∀(i:Nat) (x:AV),xs[i]? = some x->x.cells.length=sz)/\(∀(i:Nat) (x:AV) (j:Nat) (c:AV),xs[i]? = some x->x.cells[j]? = some c->CC σ c (g i j)/\Ds (g i j)=true) /\
   (∀(i j:Nat),i<xs.length->j<sz->C[off+i*sz+j]? = some (g i j))/\xs.length<=140737488355328/\xs.length<=f:=by
 cases h with
 | nil _ p f=>exact .inl ⟨rfl,p,f,rfl⟩
 | sl _ b off f _ C E l g s u hc h1 z y k=>exact .inr ⟨b,off,f,C,E,l,g,rfl,s,u,fun i x j c hx q=>⟨hc i x j c hx q,h1 i x j c hx q⟩,z,y,k⟩
theorem CC.sl_len {σ:Aq} {sz:Nat} {xs:List AV} {v:Value} (h:CC σ (.sl sz xs) v):xs.length<=140737488355328/\∃p cap,v = .slice p xs.length cap:=by
 rcases h.sl_inv with ⟨rfl,p,cap,e⟩ | ⟨b,off,cap,C,E,fr,g,e,_,_,_,_,c,_⟩
 .exact ⟨by simp,p,cap,e⟩
 .exact ⟨c,_,cap,e⟩
theorem Ad8 {T:Cj} (k:Ck P T) {t:TypeId} {x:Operand} {i:TI} {e:TypeId} {sz:Nat} {xs:List AV} (g:o.op = .call {callee:=.builtin .len,args:=#[x],argTypes:=#[t]}) (ht:T t=some i) (hd:i.d = .slice e) (hx:ρ x = .sl sz xs) :
  Bv P o ρ ⟨.val (.int .i64 xs.length),[],[]⟩ :=
 Dt fun σ ι H a w b=>by
  have h1:=b x (by simp [g,Op.operands,Call.operands])
  rw [hx] at h1
  obtain ⟨_,p,cap,j⟩:=h1.sl_inv.sl_len
  obtain ⟨f,u,z,A,h,y,s,q,l,c⟩:=Dq (k t i ht)
  rw [hd] at c; subst c
  refine ⟨.int .i64 xs.length,?_,.of_val _⟩
  simp [execOp,g,resolve,invoke,builtin,Builtin.len_,j,run_underlying h,goInt]
theorem Ana {T:Cj} (l:Ck P T) {t:TypeId} {x:Operand} {i:TI} {e:TypeId} {p:Option Addr} {n c:Nat} (h:o.op = .call {callee:=.builtin .len,args:=#[x],argTypes:=#[t]}) (ht:T t=some i) (hd:i.d = .slice e) (hx:ρ x = .val (.slice p n c)) :
  Bv P o ρ ⟨.val (.int .i64 n),[],[]⟩ :=
 Dt fun σ ι H a w b=>by
  have k:=C3 hx (b x (by simp [h,Op.operands,Call.operands]))
  obtain ⟨g,u,z,B,j,A,y,s,q,f⟩:=Dq (l t i ht)
  rw [hd] at f; subst f
  refine ⟨.int .i64 n,?_,.of_val _⟩
  simp [execOp,h,resolve,invoke,builtin,Builtin.len_,k,run_underlying j,goInt]
theorem Anb {T:Cj} (l:Ck P T) {t:TypeId} {x:Operand} {i:TI} {e:TypeId} {p:Option Addr} {n b:Nat} (h:o.op = .call {callee:=.builtin .cap,args:=#[x],argTypes:=#[t]}) (ht:T t=some i) (hd:i.d = .slice e) (hx:ρ x = .val (.slice p n b)) :
  Bv P o ρ ⟨.val (.int .i64 b),[],[]⟩ :=
 Dt fun σ ι H a w c=>by
  have k:=C3 hx (c x (by simp [h,Op.operands,Call.operands]))
  obtain ⟨g,u,z,B,j,A,y,s,q,f⟩:=Dq (l t i ht)
  rw [hd] at f; subst f
  refine ⟨.int .i64 b,?_,.of_val _⟩
  simp [execOp,h,resolve,invoke,builtin,Builtin.cap_,k,run_underlying j,goInt]
theorem Anc {T:Cj} (k:Ck P T) {t:TypeId} {x:Operand} {i:TI} {s:ByteArray} (g:o.op = .call {callee:=.builtin .len,args:=#[x],argTypes:=#[t]}) (ht:T t=some i) (hd:i.d = .string) (hx:ρ x = .val (.string s)) :
  Bv P o ρ ⟨.val (.int .i64 s.size),[],[]⟩ :=
 Dt fun σ ι H a w b=>by
  have j:=C3 hx (b x (by simp [g,Op.operands,Call.operands]))
  obtain ⟨f,u,z,B,h,A,y,q,l,c⟩:=Dq (k t i ht)
  rw [hd] at c; subst c
  refine ⟨.int .i64 s.size,?_,.of_val _⟩
  simp [execOp,g,resolve,invoke,builtin,Builtin.len_,j,run_underlying h,goInt]
theorem Ane {T:Cj} (A:Ck P T) {t:TypeId} {x:Operand} {i:TI} {e:TypeId} {h k off len:Nat} {E:TypeId} {sz:Nat} {xs:List AV} (q:o.op = .call {callee:=.builtin .len,args:=#[x],argTypes:=#[t]}) (ht:T t=some i) (hd:i.d = .slice e)
  (hx:ρ x = .arr h k off len) (g:xs.length=k):Bv P o ρ ⟨.val (.int .i64 len),[(h,.rows E sz xs)],[]⟩:=by
 intro σ ι H F W w a next Q s f c hk
 have hh:H h = .rows E sz xs:=c (h,.rows E sz xs) (by simp)
 have hp:=f x (by simp [q,Op.operands,Call.operands])
 rw [hx] at hp
 have b:=hp.arr_inv hh g
 obtain ⟨l,u,z,M,y,L,J,I,G,j⟩:=Dq (A t i ht)
 rw [hd] at j; subst j
 have:∃p cap,a.eval x = .slice p len cap:=by
  unfold E4 at b
  split at b
  .obtain ⟨D,_,B⟩:=b; exact ⟨none,0,by rw [D,B]⟩
  .exact ⟨_,_,b.2⟩
  .exact b.elim
 obtain ⟨p,cap,b⟩:=this
 refine Ea (v:=.int .i64 len) ?_ (hk σ ι _ w (Le.refl _ _ _) s (.of_val _))
 simp [execOp,q,resolve,invoke,builtin,Builtin.len_,b,run_underlying y,goInt]
theorem Ad9 {t:TypeId} {i j:TI} {e:TypeId} (s:F2 P t=some i) (hd:i.d = .slice e) (x:F2 P e=some j) {b off len f n:Nat} (k:IntKind) (G:n<len) (w:World) :
  (Instr.indexAt t (.slice (some ⟨b,off,none⟩) len f) (.int k (n:Int))).run P w = .ok (.pointer (some ⟨b,off+n*j.size,none⟩)) w:=by
 obtain ⟨h,u,z,E,l,D,B,A,y,g⟩:=Dq s
 rw [hd] at g; subst g
 have q:=J3 x w
 have c:0<=(n:Int)/\(n:Int)<(len:Int):=by omega
 simp only [Instr.indexAt,asIntOf,Sem.run_bind,Sem.run_pure,Result.andThen_ok,run_underlying l,if_pos c,q,H3,Int.toNat_natCast]
theorem Anf {T:Cj} (B:Ck P T) {t:TypeId} {x y:Operand} {i f:TI} {e:TypeId} {sz:Nat} {xs:List AV} {k:IntKind} {n:Nat} {z:AV} (u:o.op = .indexAddr t x y) (ht:T t=some i) (hd:i.d = .slice e) (L:T e=some f) (s:sz=f.size) (hx:ρ x = .sl sz xs) (hy:ρ y = .val (.int k (n:Int))) (l:xs[n]? = some z) :
  Bv P o ρ ⟨.ref z.cells,[],[]⟩ :=
 Dt fun σ ι H a w h=>by
  have h1:=h x (by simp [u,Op.operands])
  have h2:=C3 hy (h y (by simp [u,Op.operands]))
  rw [hx] at h1
  have A:=(List.getElem?_eq_some_iff.1 l).1
  rcases h1.sl_inv.sl_inv with ⟨rfl,_⟩ | ⟨b,off,cap,C,E,fr,g,I,D,J,hc,M,_⟩
  .simp at A
  .have G:=J n z l
   refine ⟨.pointer (some ⟨b,off+n*f.size,none⟩),?_,.ref z.cells b (off+n*f.size) C E fr (g n) D (fun j c q=>(hc n z j c l q).1) (fun j c q=>(hc n z j c l q).2) (fun j q=>?_)⟩
   .simp [execOp,u,I,h2,Ad9 (B t i ht) hd (B e f L) k A]
   .have:=M n j A (by omega)
    rw [<-s]; exact this
theorem Ang {T:Cj} (D:Ck P T) {t:TypeId} {x y:Operand} {i l:TI} {e:TypeId} {h k off len:Nat} {E:TypeId} {sz:Nat} {xs:List AV} {B:IntKind} {n:Nat} (z:o.op = .indexAddr t x y) (ht:T t=some i) (hd:i.d = .slice e) (L:T e=some l) (hx:ρ x = .arr h k off len) (A:xs.length=k)
  (hy:ρ y = .val (.int B (n:Int))) (I:n<len) (q:sz=l.size):Bv P o ρ ⟨.el h k (off+n) 0,[(h,.rows E sz xs)],[]⟩:=by
 intro σ ι H F W w a next Q s f u hk
 have hh:H h = .rows E sz xs:=u (h,.rows E sz xs) (by simp)
 have hp:=f x (by simp [z,Op.operands])
 have h2:=C3 hy (f y (by simp [z,Op.operands]))
 rw [hx] at hp
 have c:=hp.arr_inv hh A
 unfold E4 at c
 split at c
 .omega
 .rename_i b G hb
  obtain ⟨J,c⟩:=c
  refine Ea (v:=.pointer (some ⟨b,(off+n)*sz,none⟩)) ?_ (hk σ ι _ w (Le.refl _ _ _) s ?_)
  .simp [execOp,z,c,h2,Ad9 (D t i ht) hd (D e l L) B I,q,Nat.add_mul]
  .refine .el h k (off+n) 0 _ (by show H h≠_; rw [hh]; intro e; cases e) (fun M j g e=>?_) rfl
   have e:H h = .rows M j g:=e
   rw [hh] at e; cases e
   refine ⟨by omega,fun _=>?_⟩
   rw [hb]; rfl
 .exact c.elim
theorem Anh {T:Cj} (l:Ck P T) {t:TypeId} {x y:Operand} {i:TI} {s:ByteArray} {k:IntKind} {n:Nat} {c:UInt8} (f:o.op = .index t x y) (ht:T t=some i) (hd:i.d = .string) (hx:ρ x = .val (.string s)) (hy:ρ y = .val (.int k (n:Int))) (hc:s[n]? = some c) :
  Bv P o ρ ⟨.val (.int .u8 c.toNat),[],[]⟩ :=
 Dt fun σ ι H a w b=>by
  have h1:=C3 hx (b x (by simp [f,Op.operands]))
  have h2:=C3 hy (b y (by simp [f,Op.operands]))
  obtain ⟨h,u,z,E,j,D,B,A,q,g⟩:=Dq (l t i ht)
  rw [hd] at g; subst g
  refine ⟨.int .u8 c.toNat,?_,.of_val _⟩
  simp [execOp,f,h1,h2,Instr.index,asIntOf,run_underlying j,hc]
theorem Ani {f:FuncId} {b:Array Operand} (h:o.op = .makeFunc (.func f) #[] b):Bv P o ρ ⟨.fn f (b.toList.map ρ),[],[]⟩ :=
 Dt fun σ ι H a w g=>by
  refine ⟨.func (.func f) #[] (b.map a.eval),by simp [execOp,h,Instr.makeFunc],.fn f _ _ (by simp) (fun i c v h1 h2=>?_)⟩
  rw [List.getElem?_map] at h1
  rw [Array.getElem?_map] at h2
  cases hc:b[i]? with
  | none=>rw [hc] at h2; simp at h2
  | some x=>
   rw [hc] at h2; rw [Array.getElem?_toList,hc] at h1
   simp at h1 h2; subst h1; subst h2
   exact g x (by simp [h,Op.operands]; exact Array.mem_of_getElem? hc)
end
end Go.Ab
namespace Go.Ab
section
variable {P:Program} {o:Oper} {ρ:Operand->AV} {a:Act} {w w':World} {next:Act->World->Prop} {Q:Exit->Act->World->Prop}
def F3 (ρ:Operand->AV) (d:Int):Option Operand->Option Int
 | none=>some d
 | some x=>match ρ x with
  | .val (.int _ n)=>some n
  | _=>none
theorem Zp {k:IntKind} {n y:Nat} (h:n<=y) (c:BoundsCode) (w:World):(Instr.sliceBound (.int k (n:Int)) y c).run P w = .ok n w:=by
 have:0<=(n:Int)/\(n:Int)<=(y:Int):=by omega
 simp only [Instr.sliceBound,asIntOf,Sem.run_bind,Sem.run_pure,Result.andThen_ok,if_pos this,Int.toNat_natCast]
theorem Zq {σ:Aq} {ι:Bm} {H:Hp} {x:Operand} {n:Nat} {d:Int} (hb:F3 ρ d (some x)=some (n:Int)) (hc:Conc σ ι H (ρ x) (a.eval x)):∃k,a.eval x = .int k (n:Int):=by
 unfold F3 at hb
 simp only [] at hb
 split at hb
 .rename_i k m e
  rw [e] at hc
  cases hb
  exact ⟨k,hc.val_inv⟩
 .cases hb
theorem Vd {σ:Aq} {ι:Bm} {H:Hp} {q:Bool} {len f l h:Nat} {lo j:Option Operand} (b:F3 ρ 0 lo=some (l:Int)) (g:F3 ρ (len:Int) j=some (h:Int))
  (hx:∀x,lo=some x\/j=some x->Conc σ ι H (ρ x) (a.eval x)) (h1:l<=h) (h2:h<=f) (w:World) :
  (Instr.sliceBounds q len f (lo.map a.eval) (j.map a.eval) none).run P w = .ok (l,h,f) w:=by
 unfold Instr.sliceBounds
 cases j with
 | none=>
  simp [F3] at g
  cases lo with
  | none=>
   simp [F3] at b
   simp; omega
  | some x=>
   obtain ⟨k,e⟩:=Zq b (hx x (.inl rfl))
   have:=fun c=>Zp (P:=P) (k:=k) (n:=l) (y:=len) (by omega) c w
   simp [e,this]; omega
 | some y=>
  obtain ⟨s,e'⟩:=Zq g (hx y (.inr rfl))
  have i:=fun c=>Zp (P:=P) (k:=s) h2 c w
  cases lo with
  | none=>
   simp [F3] at b
   simp [e',i]; omega
  | some x=>
   obtain ⟨k,e⟩:=Zq b (hx x (.inl rfl))
   have:=fun c=>Zp (P:=P) (k:=k) h1 c w
   simp [e,e',this,i]
theorem Ve {t:TypeId} {x:Operand} {lo b:Option Operand} {y:Operand} (h:lo=some y\/b=some y):y∈(Op.slice t x lo b none).operands.toList:=by
 rcases h with rfl | rfl <;> simp [Op.operands]
theorem Anj {T:Cj} (hT:Ck P T) {t:TypeId} {x:Operand} {lo U:Option Operand} {i A:TI} {e:TypeId} {sz:Nat} {xs:List AV} {l h:Nat} (J:o.op = .slice t x lo U none) (ht:T t=some i) (hd:i.d = .slice e) (he:T e=some A) (B:sz=A.size)
  (hx:ρ x = .sl sz xs) (N:F3 ρ 0 lo=some (l:Int)) (V:F3 ρ (xs.length:Int) U=some (h:Int)) (h1:l<=h) (h2:h<=xs.length):Bv P o ρ ⟨.sl sz ((xs.take h).drop l),[],[]⟩ :=
 Dt fun σ ι H a w D=>by
  have s:=D x (by simp [J,Op.operands])
  rw [hx] at s
  obtain ⟨a1,u,z,k1,Z,k3,k4,k5,k6,Y⟩:=Dq (hT t i ht)
  rw [hd] at Y; subst Y
  have hs:=J3 (hT e A he)
  have I:∀(cap:Nat),xs.length<=cap->∀w,(Instr.sliceBounds true xs.length cap (lo.map a.eval) (U.map a.eval) none).run P w = .ok (l,h,cap) w :=
   fun cap q w=>Vd N V (fun y hy=>D y (by rw [J]; exact Ve hy)) h1 (by omega) w
  rcases s.sl_inv.sl_inv with ⟨rfl,p,cap,s⟩ | ⟨b,off,cap,C,E,fr,g,s,hσ,L,hc,hC,hl,q⟩
  .have S:l=0:=by simp at h2; omega
   have X:h=0:=by simpa using h2
   subst S; subst X
   refine ⟨.slice (if cap=0 then p else p.map (·.add (0*A.size))) (0-0) (cap-0),?_,?_⟩
   .simp only [execOp,J,s,Instr.sliceAt,Instr.slice,Sem.run_bind,run_underlying Z,Result.andThen_ok,Option.map_none]
    have:=I cap (by simp) w
    simp only [List.length_nil] at this
    simp only [this,Result.andThen_ok,hs w,Sem.run_pure]
   .exact .cc (.nil sz _ _)
  .refine ⟨.slice (if cap=l then some ⟨b,off,none⟩ else some ⟨b,off+l*A.size,none⟩) (h-l) (cap-l),?_,?_⟩
   .simp only [execOp,J,s,Instr.sliceAt,Instr.slice,Sem.run_bind,run_underlying Z,Result.andThen_ok,Option.map_none,I cap q w,hs w,Sem.run_pure,Option.map_some,H3]
   .by_cases R:l=h
    .subst R
     have:(xs.take l).drop l = []:=by simp
     rw [this,Nat.sub_self]
     exact .cc (.nil sz _ _)
    .rw [if_neg (by omega)]
     have f:((xs.take h).drop l).length=h-l:=by simp; omega
     have k:∀(n:Nat) (y:AV),((xs.take h).drop l)[n]? = some y->xs[l+n]? = some y:=by
      intro n y hy
      rw [List.getElem?_drop] at hy
      by_cases M:l+n<h
      .rwa [List.getElem?_take_of_lt M] at hy
      .rw [List.getElem?_eq_none (by simp; omega)] at hy; cases hy
     have:=CC.sl (σ:=σ) ((xs.take h).drop l) b (off+l*sz) (cap-l) sz C E fr (fun n j=>g (l+n) j) hσ (fun n y hy=>L _ y (k n y hy))
      (fun n y j c hy G=>(hc _ y j c (k n y hy) G).1) (fun n y j c hy G=>(hc _ y j c (k n y hy) G).2)
      (fun n j hn G=>by
       rw [f] at hn
       have:=hC (l+n) j (by omega) G
       rw [Nat.add_mul] at this
       rw [<-this]; congr 1; omega) (by rw [f]; omega) (by rw [f]; omega)
     rw [f,B] at this
     rw [B]
     exact .cc this
theorem Ank {T:Cj} (E:Ck P T) {t:TypeId} {x:Operand} {lo g:Option Operand} {i:TI} {s:ByteArray} {l h:Nat} (c:o.op = .slice t x lo g none) (ht:T t=some i) (hd:i.d = .string)
  (hx:ρ x = .val (.string s)) (f:F3 ρ 0 lo=some (l:Int)) (j:F3 ρ (s.size:Int) g=some (h:Int)) (h1:l<=h) (h2:h<=s.size):Bv P o ρ ⟨.val (.string (s.extract l h)),[],[]⟩ :=
 Dt fun σ ι H a w b=>by
  have D:=C3 hx (b x (by simp [c,Op.operands]))
  obtain ⟨A,u,z,M,B,L,J,I,G,q⟩:=Dq (E t i ht)
  rw [hd] at q; subst q
  have k:(Instr.sliceBounds false s.size s.size (lo.map a.eval) (g.map a.eval) none).run P w = .ok (l,h,s.size) w :=
   Vd f j (fun y hy=>b y (by rw [c]; exact Ve hy)) h1 (by omega) w
  refine ⟨.string (s.extract l h),?_,.of_val _⟩
  simp [execOp,c,D,Instr.sliceAt,Instr.slice,run_underlying B,k]
theorem Anl {T:Cj} (hT:Ck P T) {t:TypeId} {x:Operand} {lo U:Option Operand} {i I:TI} {e:TypeId} {c k off len:Nat} {E:TypeId} {sz:Nat} {xs:List AV} {l h:Nat} (G:o.op = .slice t x lo U none) (ht:T t=some i) (hd:i.d = .slice e) (he:T e=some I) (J:sz=I.size)
  (hx:ρ x = .arr c k off len) (S:xs.length=k) (N:F3 ρ 0 lo=some (l:Int)) (V:F3 ρ (len:Int) U=some (h:Int)) (h1:l<=h) (h2:h<=len) (h3:l=0\/l<h) :
  Bv P o ρ ⟨.arr c k (off+l) (h-l),[(c,.rows E sz xs)],[]⟩:=by
 intro σ ι H F W w a next Q s A L hk
 have hh:H c = .rows E sz xs:=L (c,.rows E sz xs) (by simp)
 have hp:=A x (by simp [G,Op.operands])
 rw [hx] at hp
 have f:=hp.arr_inv hh S
 obtain ⟨a1,u,z,k1,Z,k3,k4,k5,k6,Y⟩:=Dq (hT t i ht)
 rw [hd] at Y; subst Y
 have hs:=J3 (hT e I he)
 have D:∀(cap:Nat),len<=cap->∀w,(Instr.sliceBounds true len cap (lo.map a.eval) (U.map a.eval) none).run P w = .ok (l,h,cap) w :=
  fun cap a6 w=>Vd N V (fun y hy=>A y (by rw [G]; exact Ve hy)) h1 (by omega) w
 unfold E4 at f
 split at f
 .rename_i B
  obtain ⟨f,M,R⟩:=f
  subst R; subst M
  have e1:l=0:=by omega
  have e2:h=0:=by omega
  subst e1; subst e2
  refine Ea (v:=.slice none 0 0) ?_ (hk σ ι _ w (Le.refl _ _ _) s ?_)
  .simp only [execOp,G,f,Instr.sliceAt,Instr.slice,Sem.run_bind,run_underlying Z,Result.andThen_ok,Option.map_none]
   have:=D 0 (by omega) w
   simp only [this,Result.andThen_ok,hs w,Sem.run_pure]
   rfl
  .refine .arr _ _ _ _ _ (by show H c≠_; rw [hh]; intro e; cases e) (fun X j g e=>?_) rfl
   have e:H c = .rows X j g:=e
   rw [hh] at e; cases e
   exact ⟨by omega,fun _=>by rw [B]; exact ⟨rfl,rfl,rfl⟩⟩
 .rename_i b q hb
  obtain ⟨a7,f⟩:=f
  refine Ea (v:=.slice (some ⟨b,(off+l)*sz,none⟩) (h-l) (q-(off+l))) ?_ (hk σ ι _ w (Le.refl _ _ _) s ?_)
  .simp only [execOp,G,f,Instr.sliceAt,Instr.slice,Sem.run_bind,run_underlying Z,Result.andThen_ok,Option.map_none]
   have:=D (q-off) (by omega) w
   simp only [this,Result.andThen_ok,hs w,Sem.run_pure,Option.map_some,H3]
   rcases h3 with rfl | h3
   .simp
   .rw [if_neg (by omega),Nat.add_mul,J,Nat.sub_sub]
  .refine .arr _ _ _ _ _ (by show H c≠_; rw [hh]; intro e; cases e) (fun X j g e=>?_) rfl
   have e:H c = .rows X j g:=e
   rw [hh] at e; cases e
   refine ⟨by omega,fun _=>?_⟩
   rw [hb]; exact ⟨by omega,rfl⟩
 .exact f.elim
def Vf (σ:Aq) (ι:Bm) (H:Hp) (cs:List AV) (C:Array Value):Prop :=
 C.size=cs.length/\∀(i:Nat) (c:AV) (v:Value),cs[i]? = some c->C[i]? = some v->Conc σ ι H c v
theorem Zr (off:Nat):∀(l:List Value) (m:Nat) (cells:Array Value),off+m+l.length<=cells.size ->
  ((l.zipIdx m).foldl (fun cs p=>cs.setIfInBounds (off+p.2) p.1) cells).size=cells.size /\
  ∀k:Nat,((l.zipIdx m).foldl (fun cs p=>cs.setIfInBounds (off+p.2) p.1) cells)[k]? = if off+m<=k/\k<off+m+l.length then l[k-(off+m)]? else cells[k]?
 | [],m,cells,_=>by
  refine ⟨rfl,fun k=>?_⟩
  rw [if_neg (by simp only [List.length_nil]; omega)]; rfl
 | v::rest,m,cells,h=>by
  simp only [List.length_cons] at h
  obtain ⟨c,b⟩:=Zr off rest (m+1) (cells.setIfInBounds (off+m) v) (by simp; omega)
  simp only [List.zipIdx_cons,List.foldl_cons]
  refine ⟨by rw [c]; simp,fun k=>?_⟩
  rw [b k]
  by_cases h1:k=off+m
  .subst h1
   rw [if_neg (by omega),if_pos (by simp)]
   rw [Array.getElem?_setIfInBounds_self_of_lt (by omega)]
   simp
  .by_cases h2:off+m<=k/\k<off+m+(rest.length+1)
   .rw [if_pos (by omega),List.length_cons,if_pos h2]
    rw [show k-(off+m)=(k-(off+(m+1)))+1 by omega]
    simp
   .rw [if_neg (by omega),List.length_cons,if_neg h2,Array.getElem?_setIfInBounds_ne (by omega)]
theorem Aea {σ:Aq} {ι:Bm} {H:Hp} {fs:List (Nat×Nat)} {place:Nat->Option (Nat×Nat)} (hp:∀n,place n=fs[n]?):∀(ps:List (Nat×Operand)) (cs:List AV) (C:Array Value) (b:List AV),Vf σ ι H cs C ->
  (∀p∈ps,Conc σ ι H (ρ p.2) (a.eval p.2))->Pi fs cs (ps.map fun p=>(p.1,ρ p.2))=some b ->
  ∃k,Instr.fill place C (ps.map fun p=>(p.1,a.eval p.2))=some k/\Vf σ ι H b k
 | [],cs,C,b,g,_,h=>by
  simp only [List.map_nil,Pi] at h; cases h
  exact ⟨C,rfl,g⟩
 | p::ps,cs,C,b,g,hx,h=>by
  simp only [List.map_cons,Pi] at h
  cases hq:fs[p.1]? with
  | none=>rw [hq] at h; cases h
  | some q=>
   rw [hq] at h
   simp only [] at h
   cases hb:(Nat.beq (ρ p.2).cells.length q.2&&Nat.ble (q.1+q.2) cs.length) with
   | false=>rw [hb] at h; cases h
   | true=>
    rw [hb] at h
    simp only [cond_true] at h
    simp only [Bool.and_eq_true] at hb
    have B:(ρ p.2).cells.length=q.2:=Nat.eq_of_beq_eq_true hb.1
    have A:q.1+q.2<=cs.length:=Nat.le_of_ble_eq_true hb.2
    have hc:=(hx p (by simp)).cells
    have z:=g.1
    have j:=Zr q.1 (a.eval p.2).cells.toList 0 C (by simp; omega)
    have s:Vf σ ι H (J2 cs q.1 (ρ p.2).cells) (((a.eval p.2).cells.toList.zipIdx 0).foldl (fun cs p=>cs.setIfInBounds (q.1+p.2) p.1) C):=by
     refine ⟨by rw [j.1,Zk _ _ _ (by omega)]; exact g.1,fun i c v h1 h2=>?_⟩
     rw [Zj _ _ _ (by omega)] at h1
     rw [j.2 i] at h2
     simp only [Array.length_toList,hc.1,Nat.add_zero] at h2
     by_cases g1:i<q.1
     .rw [if_pos g1] at h1; rw [if_neg (by omega)] at h2; exact g.2 i c v h1 h2
     .rw [if_neg g1] at h1
      by_cases g2:i<q.1+(ρ p.2).cells.length
      .rw [if_pos g2] at h1; rw [if_pos (by omega),Array.getElem?_toList] at h2; exact hc.2 _ c v h1 h2
      .rw [if_neg g2] at h1; rw [if_neg (by omega)] at h2; exact g.2 i c v h1 h2
    obtain ⟨k,x,u⟩:=Aea hp ps _ _ b s (fun y l=>hx y (by simp [l])) h
    refine ⟨k,?_,u⟩
    simp only [List.map_cons,Instr.fill,hp,hq]
    have f:((a.eval p.2).cells.size≠q.2||decide (q.1+(a.eval p.2).cells.size>C.size))=false:=by
     have:=g.1
     simp
     omega
    rw [f]
    simp only [Bool.false_eq_true,if_false]
    rw [<-Array.foldl_toList,Array.toList_zipIdx]
    exact x
theorem Anm {T:Cj} (S:Ck P T) {t:TypeId} {b:Array (Nat×Operand)} {i:TI} {fs:List (Nat×Nat)} {cs:List AV} (I:o.op = .build t b) (ht:T t=some i) (hd:i.d = .struct fs)
  (hc:Pi fs (i.zero.map .val) (b.toList.map fun p=>(p.1,ρ p.2))=some cs):Bv P o ρ ⟨.agg cs,[],[]⟩ :=
 Dt fun σ ι H a w s=>by
  obtain ⟨G,u,z,N,M,L,X,V,E,D⟩:=Dq (S t i ht)
  rw [hd] at D
  obtain ⟨fields,rfl,y,hpos⟩:=D
  have q:∀(h:List Field),(∀f∈h,0<P.cellsOf f.type)->h.mapM (fun f=>(P.info? f.type).map fun i=>(f.offset,i.size))=some (h.map fun f=>(f.offset,P.cellsOf f.type)):=by
   intro h
   induction h with
   | nil=>intro _; rfl
   | cons f h ih=>
    intro hp
    have h0:=hp f (by simp)
    have k:=ih (fun U A=>hp U (by simp [A]))
    unfold Program.cellsOf at h0 ⊢
    cases g:P.info? f.type with
    | none=>rw [g] at h0; simp at h0
    | some inf=>
     unfold Program.cellsOf at k
     rw [List.mapM_cons,k,g]
     simp [g]
  have R:Vf σ ι H (i.zero.map .val) z.cells:=by
   refine ⟨by simp [E],fun j c v h1 h2=>?_⟩
   rw [E,List.getElem?_map,Array.getElem?_toList,h2] at h1
   simp at h1; subst h1; exact .of_val v
  obtain ⟨l,J,B⟩:=Aea (a:=a) (place:=fun n=>((fields.toList.map fun f=>(f.offset,P.cellsOf f.type)).toArray)[n]?) (fs:=fs) (fun n=>by rw [y]; simp) b.toList _ _ cs R
   (fun p hp=>s p.2 (by simp only [I,Op.operands]; simpa using ⟨p.1,by simpa using hp⟩)) hc
  refine ⟨.agg l,?_,.agg cs l B.1 B.2⟩
  have hb:P.built t ((b.map fun (i,x)=>(i,a.eval x)).toList)=some l:=by
   unfold Program.built
   rw [N,M]
   simp only [L,q fields.toList hpos]
   rw [<-J]
   simp
  simp only [execOp,I,Sem.run_bind,run_build w t _ l hb,Result.andThen_ok,Sem.run_pure]
end
end Go.Ab
namespace Go.Ab
section
variable {P:Program} {o:Oper} {ρ:Operand->AV} {a:Act} {w w':World} {next:Act->World->Prop} {Q:Exit->Act->World->Prop}
theorem Kx {sz:Nat} {x:AV} (h:Ir sz x=true):x.cells.length=sz/\∀c∈x.cells,c.cl1=true:=by
 unfold Ir at h
 simp only [Bool.and_eq_true] at h
 exact ⟨Nat.eq_of_beq_eq_true h.1,List.all_eq_true.1 h.2⟩
def Hg (vs:List Value):List Value:=vs.flatMap fun v=>v.cells.toList
theorem Zs {σ:Aq} {ι:Bm} {H:Hp} {sz:Nat}:∀(xs:List AV) (vs:List Value),xs.length=vs.length->(∀x∈xs,Ir sz x=true) ->
  (∀(i:Nat) (x:AV) (v:Value),xs[i]? = some x->vs[i]? = some v->Conc σ ι H x v) ->
  (Hg vs).length=xs.length*sz/\∃g:Nat->Nat->Value,(∀(i:Nat) (x:AV) (j:Nat) (c:AV),xs[i]? = some x->x.cells[j]? = some c->CC σ c (g i j)/\Ds (g i j)=true) /\
   (∀(i j:Nat),i<xs.length->j<sz->(Hg vs)[i*sz+j]? = some (g i j))
 | [],[],_,_,_=>⟨by simp [Hg],fun _ _=>undef,by simp,by simp⟩
 | x::xs,v::vs,D,l,hc=>by
  obtain ⟨A,g,z,s⟩:=Zs xs vs (by simpa using D) (fun y hy=>l y (by simp [hy])) (fun i y u h1 h2=>hc (i+1) y u (by simpa using h1) (by simpa using h2))
  have h0:=hc 0 x v (by simp) (by simp)
  have hx:=Kx (l x (by simp))
  have f:=h0.cells
  have h:v.cells.toList.length=sz:=by simp [f.1,hx.1]
  have q:Hg (v::vs)=v.cells.toList++Hg vs:=by simp [Hg]
  refine ⟨by rw [q,List.length_append,A,h,List.length_cons,Nat.add_mul]; omega,fun i j=>if i=0 then (v.cells[j]?).getD undef else g (i-1) j,?_,?_⟩
  .intro i y j c hy k
   cases i with
   | zero=>
    simp at hy; subst hy
    have b:j<v.cells.size:=by rw [f.1]; exact (List.getElem?_eq_some_iff.1 k).1
    have:(v.cells[j]?).getD undef=v.cells[j]:=by simp [b]
    simp only [if_pos]
    rw [this]
    exact (f.2 j c _ k (by simp [b])).cc_of (hx.2 c (List.mem_of_getElem? k))
   | succ i=>
    have B:xs[i]? = some y:=by simpa using hy
    simpa using z i y j c B k
  .intro i j E k
   rw [q]
   cases i with
   | zero=>
    rw [List.getElem?_append_left (by omega),Nat.zero_mul,Nat.zero_add,Array.getElem?_toList]
    have b:j<v.cells.size:=by rw [f.1,hx.1]; exact k
    simp [b]
   | succ i=>
    rw [List.getElem?_append_right (by rw [h,Nat.add_mul]; omega),h,show (i+1)*sz+j-sz=i*sz+j by rw [Nat.add_mul]; omega]
    rw [s i j (by simpa using E) k]
    simp
theorem Aeb {sz:Nat}:∀(vs:List Value) (m:Nat) (C:Array Value),(∀v∈vs,v.cells.size=sz)->C.size=(m+vs.length)*sz ->
  ∃f,Instr.fill (fun i=>some (i*sz,sz)) C ((vs.zipIdx m).map fun p=>(p.2,p.1))=some f/\f.size=C.size/\(∀k:Nat,k<m*sz->f[k]? = C[k]?) /\
   ∀k:Nat,m*sz<=k->f[k]? = (Hg vs)[k-m*sz]?
 | [],m,C,_,g=>by
  refine ⟨C,rfl,rfl,fun _ _=>rfl,fun k hk=>?_⟩
  simp only [List.length_nil,Nat.add_zero] at g
  simp [Hg]
  omega
 | v::vs,m,C,l,g=>by
  simp only [List.length_cons] at g
  have h0:=l v (by simp)
  have q:(m+(vs.length+1))*sz=m*sz+sz+vs.length*sz:=by rw [Nat.add_mul,Nat.add_mul]; omega
  have b:=Zr (m*sz) v.cells.toList 0 C (by simp; omega)
  simp only [Nat.add_zero,Array.length_toList,h0] at b
  obtain ⟨f,y,x,j,s⟩:=Aeb vs (m+1) (((v.cells.toList.zipIdx 0).foldl (fun cs p=>cs.setIfInBounds (m*sz+p.2) p.1) C)) (fun u hu=>l u (by simp [hu]))
   (by rw [b.1,g,show m+1+vs.length=m+(vs.length+1) by omega])
  refine ⟨f,?_,by rw [x,b.1],?_,?_⟩
  .simp only [List.zipIdx_cons,List.map_cons,Instr.fill]
   have c:(v.cells.size≠sz||decide (m*sz+v.cells.size>C.size))=false:=by
    simp; omega
   rw [c]
   simp only [Bool.false_eq_true,if_false]
   rw [<-Array.foldl_toList,Array.toList_zipIdx]
   exact y
  .intro k hk
   rw [j k (by rw [Nat.add_mul]; omega),b.2 k,if_neg (by omega)]
  .intro k hk
   have h:Hg (v::vs)=v.cells.toList++Hg vs:=by simp [Hg]
   rw [h]
   by_cases h1:k<m*sz+sz
   .rw [j k (by rw [Nat.add_mul]; omega),b.2 k,if_pos (by omega),List.getElem?_append_left (by simp; omega)]
   .rw [s k (by rw [Nat.add_mul]; omega),List.getElem?_append_right (by simp; omega)]
    congr 1
    simp only [Array.length_toList,h0]
    rw [Nat.add_mul]; omega
theorem Ano (ps:List (Nat×Operand)) (f:Operand->Value) (m:Nat) (h:ps.map (·.1)=List.range' m ps.length):ps.map (fun p=>(p.1,f p.2))=((ps.map fun p=>f p.2).zipIdx m).map fun p=>(p.2,p.1):=by
 induction ps generalizing m with
 | nil=>rfl
 | cons p ps ih=>
  simp only [List.map_cons,List.length_cons,List.range'_succ,List.cons.injEq] at h
  simp only [List.map_cons,List.zipIdx_cons,List.cons.injEq]
  exact ⟨by rw [h.1],ih (m+1) h.2⟩
theorem Aec {t:TypeId} {len:Nat} {b:Array (Nat×Operand)} {i c:TI} {e:TypeId} (S:o.op = .buildSlice t len b) (hi:F2 P t=some i) (hd:i.d = .slice e) (U:F2 P e=some c) (hz:0<c.size)
  (hp:b.toList.map (·.1)=List.range' 0 len) (a1:len*c.size<=16777216) (hv:∀p∈b.toList,(a.eval p.2).cells.size=c.size) :
  ∃C:Array Value,C.toList=Hg (b.toList.map fun p=>a.eval p.2)/\(execOp a.eval o).run P w = .ok (.value (.slice (some ⟨w.heap.size,0,none⟩) len len)) (w.alloc (.cells C e)):=by
 obtain ⟨N,u,z,k1,M,k3,k4,k5,k6,L⟩:=Dq hi
 rw [hd] at L; subst L
 obtain ⟨l,Z,A⟩:=Ad6 U w
 have R:=J3 U w
 have f:b.toList.length=len:=by have:=congrArg List.length hp; simpa using this
 have B:∀v∈(b.toList.map fun p=>a.eval p.2),v.cells.size=c.size:=by
  intro v q
  simp only [List.mem_map] at q
  obtain ⟨p,E,rfl⟩:=q
  exact hv p E
 have I:∀(vs:List Value),(∀v∈vs,v.cells.size=c.size)->(Hg vs).length=vs.length*c.size:=by
  intro vs
  induction vs with
  | nil=>intro _; simp [Hg]
  | cons v vs ih=>
   intro h
   have:=ih (fun u hu=>h u (by simp [hu]))
   have h0:=h v (by simp)
   simp only [Hg,List.flatMap_cons,List.length_append,Array.length_toList,h0,List.length_cons] at this ⊢
   rw [this,Nat.add_mul]; omega
 obtain ⟨y,Y,X,r3,V⟩:=Aeb (sz:=c.size) (b.toList.map fun p=>a.eval p.2) 0 ((Array.range (len*c.size)).map (l.cells[· % l.cells.size]!)) B (by simp [f])
 refine ⟨y,?_,?_⟩
 .apply List.ext_getElem?
  intro k
  rw [Array.getElem?_toList,V k (by omega)]
  simp
 .have hpos:0<len\/len=0:=by omega
  have j:Instr.fill (fun i=>some (i*c.size,c.size)) ((Array.range (len*c.size)).map (l.cells[· % l.cells.size]!)) ((b.map fun (i,x)=>(i,a.eval x)).toList)=some y:=by
   rw [<-Y,<-Ano b.toList a.eval 0 (by rw [hp,f])]
   simp
  rcases hpos with hpos | hpos
  .have G:¬len*c.size=0:=by
    have:=Nat.mul_pos hpos hz; omega
   have s:¬len*c.size>2 ^ 24:=by omega
   have g:Instr.fill (fun i=>some (i*c.size,c.size)) ((Array.range (len*c.size)).map (l.cells[· % l.cells.size]!)) (b.toList.map fun x=>(x.1,a.eval x.2))=some y:=by
    rw [<-j]; simp
   simp [execOp,S,Instr.buildSlice,run_underlying M,R,s,G,A,g,newRow,newObj,Sem.run]
  .subst hpos
   have J:y = #[]:=by
    apply Array.eq_empty_of_size_eq_zero
    rw [X]; simp
   subst J
   have D:b = #[]:=by
    apply Array.eq_empty_of_size_eq_zero
    simpa using f
   subst D
   have:(Array.map (fun _:Nat=>(default:Value)) (Array.range 0)) = #[]:=by simp
   simp [execOp,S,Instr.buildSlice,run_underlying M,R,newRow,newObj,Sem.run,Instr.fill,this]
theorem Vg {t:TypeId} {len:Nat} {b:Array (Nat×Operand)} {p:Nat×Operand} (h:p∈b.toList):p.2∈(Op.buildSlice t len b).operands.toList:=by
 simp only [Op.operands]
 simpa using ⟨p.1,by simpa using h⟩
theorem Aed {T:Cj} (E:Ck P T) {t:TypeId} {len:Nat} {b:Array (Nat×Operand)} {i h:TI} {e:TypeId} (B:o.op = .buildSlice t len b) (ht:T t=some i) (hd:i.d = .slice e) (L:T e=some h) (D:0<h.size)
    (hp:b.toList.map (·.1)=List.range' 0 len) (A:len*h.size<=16777216) (l:∀p∈b.toList,Ir h.size (ρ p.2)=true) :
    Bv P o ρ ⟨.sl h.size (b.toList.map fun p=>ρ p.2),[],[]⟩:=by
  intro σ ι H F W w a next Q s u _ hk
  have y:b.toList.length=len:=by have:=congrArg List.length hp; simpa using this
  have z:∀p∈b.toList,(a.eval p.2).cells.size=h.size:=by
    intro p k
    rw [((u p.2 (by rw [B]; exact Vg k)).cells).1]
    exact (Kx (l p k)).1
  obtain ⟨C,M,G⟩:=Aec (P:=P) (a:=a) (w:=w) B (E t i ht) hd (E e h L) D hp A z
  obtain ⟨J,g,g1,g2⟩:=Zs (σ:=σ) (ι:=ι) (H:=H) (sz:=h.size) (b.toList.map fun p=>ρ p.2) (b.toList.map fun p=>a.eval p.2) (by simp)
    (by intro x hx; simp only [List.mem_map] at hx; obtain ⟨p,k,rfl⟩:=hx; exact l p k)
    (by
      intro j x v h1 h2
      rw [List.getElem?_map] at h1 h2
      cases f:b.toList[j]? with
      | none=>rw [f] at h1; simp at h1
      | some p=>
        rw [f] at h1 h2; simp at h1 h2; subst h1; subst h2
        exact u p.2 (by rw [B]; exact Vg (List.mem_of_getElem? f)))
  obtain ⟨s',le⟩:=s.newFrozen (.cells C e)
  refine Ea G (hk _ ι _ _ le s' (.cc ?_))
  have I:len<=140737488355328:=by
    have:len*1<=len*h.size:=Nat.mul_le_mul_left len D
    omega
  have:=CC.sl (σ:=Ax σ w.heap.size (some (.cells C e))) (b.toList.map fun p=>ρ p.2) w.heap.size 0 len h.size C e (0,0) g (B8 _ _ _)
    (by intro j x f
        rw [List.getElem?_map] at f
        cases hj':b.toList[j]? with
        | none=>rw [hj'] at f; simp at f
        | some p=>rw [hj'] at f; simp at f; subst f; exact (Kx (l p (List.mem_of_getElem? hj'))).1)
    (fun j x q c h1 h2=>((g1 j x q c h1 h2).1).mono le.sto) (fun j x q c h1 h2=>(g1 j x q c h1 h2).2)
    (by intro j q f hq; rw [Nat.zero_add,<-Array.getElem?_toList,M]; exact g2 j q f hq) (by rw [List.length_map]; omega) (by rw [List.length_map]; omega)
  rw [List.length_map,y] at this
  exact this
theorem Anp {T:Cj} (L:Ck P T) {t:TypeId} {len:Nat} {b:Array (Nat×Operand)} {i f:TI} {e:TypeId} (h:Nat) (I:o.op = .buildSlice t len b) (ht:T t=some i) (hd:i.d = .slice e) (U:T e=some f) (B:0<f.size)
  (hp:b.toList.map (·.1)=List.range' 0 len) (E:len*f.size<=16777216) (l:∀p∈b.toList,Ir f.size (ρ p.2)=true) :
  Bv P o ρ ⟨.arr h len 0 len,[(h,.none)],[(h,.rows e f.size (b.toList.map fun p=>ρ p.2))]⟩:=by
 intro σ ι H F W w a next Q s u G hk
 have R:H h = .none:=G (h,.none) (by simp)
 have y:b.toList.length=len:=by have:=congrArg List.length hp; simpa using this
 have D:∀p∈b.toList,(a.eval p.2).cells.size=f.size:=by
  intro p k
  rw [((u p.2 (by rw [I]; exact Vg k)).cells).1]
  exact (Kx (l p k)).1
 obtain ⟨C,M,N⟩:=Aec (P:=P) (a:=a) (w:=w) I (L t i ht) hd (L e f U) B hp E D
 obtain ⟨J,g,g1,g2⟩:=Zs (σ:=σ) (ι:=ι) (H:=H) (sz:=f.size) (b.toList.map fun p=>ρ p.2) (b.toList.map fun p=>a.eval p.2) (by simp)
  (by intro x hx; simp only [List.mem_map] at hx; obtain ⟨p,k,rfl⟩:=hx; exact l p k)
  (by
   intro j x v h1 h2
   rw [List.getElem?_map] at h1 h2
   cases c:b.toList[j]? with
   | none=>rw [c] at h1; simp at h1
   | some p=>
    rw [c] at h1 h2; simp at h1 h2; subst h1; subst h2
    exact u p.2 (by rw [I]; exact Vg (List.mem_of_getElem? c)))
 have S:len<=140737488355328:=by
  have:len*1<=len*f.size:=Nat.mul_le_mul_left len B
  omega
 obtain ⟨s',le⟩:=s.newRows h e f.size (b.toList.map fun p=>ρ p.2) len C (.inl R) B (by rw [List.length_map]; omega) (by rw [List.length_map]; omega)
  (by rw [<-Array.length_toList,M,J,List.length_map,y]) ⟨g,(by
    intro j x c
    rw [List.getElem?_map] at c
    cases hj':b.toList[j]? with
    | none=>rw [hj'] at c; simp at c
    | some p=>rw [hj'] at c; simp at c; subst c; exact (Kx (l p (List.mem_of_getElem? hj'))).1),g1,(by
    intro j q c hq; rw [<-Array.getElem?_toList,M]; exact g2 j q c hq)⟩
 refine Ea N (hk _ _ _ _ le s' ?_)
 refine .arr h len 0 len _ (by show Ax H h _ h≠_; rw [B8]; intro e; cases e) (fun V A z e'=>?_) rfl
 have e':Ax H h _ h = .rows V A z:=e'
 rw [B8] at e'; cases e'
 refine ⟨by rw [List.length_map]; omega,fun _=>?_⟩
 rw [B8]
 exact ⟨by omega,by rw [Nat.zero_mul]; rfl⟩
def D4 (i:TI):AV :=
 match i.d,i.zero with
 | .struct _,z=>.agg (z.map .val)
 | _,[v]=>.val v
 | _,z=>.agg (z.map .val)
theorem Aee {T:Cj} (hT:Ck P T) {t:TypeId} {x y:Operand} {i b:TI} {e:TypeId} {k k':IntKind} {l c:Nat} (L:AV) (h:Nat) (ho:o.op = .makeSlice t x y) (ht:T t=some i) (hd:i.d = .slice e) (he:T e=some b) (hz:0<b.size)
  (hx:ρ x = .val (.int k (l:Int))) (hy:ρ y = .val (.int k' (c:Int))) (a7:l<=c) (hb:b.bytes*c<=281474976710656) (hc:c<=140737488355328) (aa:L.cells.length=b.size) (a8:b.zero.length=b.size) (X:∀(q:Nat) (c:AV) (v:Value),L.cells[q]? = some c->b.zero[q]? = some v->(∀σ,CC σ c v)/\Ds v=true) :
  Bv P o ρ ⟨.arr h l 0 l,[(h,.none)],[(h,.rows e b.size (List.replicate l L))]⟩:=by
 intro σ ι H F W w a next Q s G Y hk
 have hn:H h = .none:=Y (h,.none) (by simp)
 have h1:=C3 hx (G x (by simp [ho,Op.operands]))
 have h2:=C3 hy (G y (by simp [ho,Op.operands]))
 obtain ⟨ab,u,z,k1,k2,k3,k4,k5,k6,k7⟩:=Dq (hT t i ht)
 rw [hd] at k7; subst k7
 obtain ⟨B,u',f,V,ad,U,S,R,E,ac⟩:=Dq (hT e b he)
 have A:=run_make (P:=P) w t e B f k2 V U k k' (l:Int) (c:Int) (by omega) (by omega) (by
   have h':((b.bytes*c:Nat):Int)<=281474976710656:=by omega
   rw [Int.natCast_mul] at h'; rw [R]; exact h') (by omega)
 rw [Int.toNat_natCast,Int.toNat_natCast,S] at A
 have g:f.cells.size=b.size:=by
  rw [<-a8,E,Array.length_toList]
 have D:∀q,q<c*b.size->(madeCells f.cells (c*b.size))[q]? = f.cells[q % b.size]?:=by
  intro q hq
  unfold madeCells
  have hm:q % b.size<f.cells.size:=by rw [g]; exact Nat.mod_lt _ hz
  have a1:f.cells[q % b.size]! = f.cells[q % b.size]:=by simp [hm]
  simp [hq,g,a1]
 obtain ⟨s',le⟩:=s.newRows h e b.size (List.replicate l L) c (madeCells f.cells (c*b.size)) (.inl hn) hz (by simp; omega) (by simpa using a7) (by simp [madeCells])
  ⟨fun _ j=>(f.cells[j]?).getD undef,(by
   intro j x' J
   have:=List.mem_of_getElem? J
   simp at this
   rw [this.2]; exact aa),(by
   intro j x' q c' J hq
   have:=List.mem_of_getElem? J
   simp at this
   rw [this.2] at hq
   have Z:q<f.cells.size:=by
    have:=(List.getElem?_eq_some_iff.1 hq).1
    omega
   have hv:f.cells[q]? = some f.cells[q]:=Array.getElem?_eq_getElem Z
   have:=X q c' f.cells[q] hq (by rw [E,Array.getElem?_toList,hv])
   show CC σ c' ((f.cells[q]?).getD undef)/\Ds ((f.cells[q]?).getD undef)=true
   rw [hv]
   exact ⟨this.1 σ,this.2⟩),(by
   intro j q J hq
   have hj':j<l:=by simpa using J
   have a6:j*b.size+q<c*b.size:=by
    have:(j+1)*b.size<=c*b.size:=Nat.mul_le_mul_right _ (by omega)
    rw [Nat.add_mul] at this; omega
   rw [D _ a6]
   have:(j*b.size+q) % b.size=q:=by rw [Nat.mul_comm,Nat.mul_add_mod,Nat.mod_eq_of_lt hq]
   rw [this]
   have I:q<f.cells.size:=by omega
   simp [I])⟩
 refine Ea (v:=.slice (some ⟨w.heap.size,0,none⟩) l c) ?_ (hk _ _ _ _ le s' ?_)
 .simp [execOp,ho,h1,h2,A]
 .refine .arr h l 0 l _ (by show Ax H h _ h≠_; rw [B8]; intro e; cases e) (fun E' N M e'=>?_) rfl
  have e':Ax H h _ h = .rows E' N M:=e'
  rw [B8] at e'; cases e'
  refine ⟨by simp,fun _=>?_⟩
  rw [B8]
  exact ⟨by omega,by rw [Nat.zero_mul]; rfl⟩
theorem Anq {T:Cj} (G:Ck P T) {t:TypeId} {x y:Operand} {i b:TI} {e:TypeId} {k z:IntKind} {l c:Nat} (h:Nat) (D:o.op = .makeSlice t x y) (ht:T t=some i) (hd:i.d = .slice e) (E:T e=some b) (A:0<b.size)
  (hx:ρ x = .val (.int k (l:Int))) (hy:ρ y = .val (.int z (c:Int))) (g:l<=c) (hb:b.bytes*c<=281474976710656) (hc:c<=140737488355328) (j:Ir b.size (D4 b)=true) (f:(D4 b).cells=b.zero.map .val) :
  Bv P o ρ ⟨.arr h l 0 l,[(h,.none)],[(h,.rows e b.size (List.replicate l (D4 b)))]⟩:=by
 obtain ⟨u,I⟩:=Kx j
 refine Aee G (D4 b) h D ht hd E A hx hy g hb hc u (by rw [<-u,f,List.length_map]) ?_
 intro q J v hq B
 have s:=I J (List.mem_of_getElem? hq)
 rw [f,List.getElem?_map,B] at hq
 simp at hq; subst hq
 exact ⟨fun σ=>.val v,s⟩
inductive E5:List AV->List AV->Prop
 | nil:E5 [] []
 | same (c:AV) {l l':List AV} (h:E5 l l'):E5 (c::l) (c::l')
 | sl (s:Nat) {l l':List AV} (h:E5 l l'):E5 (.val (.slice none 0 0)::l) (.sl s []::l')
theorem E5.spec {l g:List AV} (h:E5 l g):g.length=l.length/\∀(q:Nat) (c f:AV),l[q]? = some c->g[q]? = some f->f=c\/∃s,c = .val (.slice none 0 0)/\f = .sl s []:=by
 induction h with
 | nil=>exact ⟨rfl,fun q c f h=>by simp at h⟩
 | same c h ih=>
  refine ⟨by simp [ih.1],fun q a b h1 h2=>?_⟩
  cases q with
  | zero=>cases h1; cases h2; exact .inl rfl
  | succ q=>exact ih.2 q a b h1 h2
 | sl s h ih=>
  refine ⟨by simp [ih.1],fun q a b h1 h2=>?_⟩
  cases q with
  | zero=>cases h1; cases h2; exact .inr ⟨s,rfl,rfl⟩
  | succ q=>exact ih.2 q a b h1 h2
theorem Anr {T:Cj} (M:Ck P T) {t:TypeId} {x y:Operand} {i b:TI} {e:TypeId} {k D:IntKind} {l c:Nat} (j:AV) (h:Nat) (I:o.op = .makeSlice t x y) (ht:T t=some i) (hd:i.d = .slice e) (L:T e=some b) (E:0<b.size)
  (hx:ρ x = .val (.int k (l:Int))) (hy:ρ y = .val (.int D (c:Int))) (u:l<=c) (hb:b.bytes*c<=281474976710656) (hc:c<=140737488355328) (z:Ir b.size (D4 b)=true) (f:(D4 b).cells=b.zero.map .val) (J:E5 (D4 b).cells j.cells) :
  Bv P o ρ ⟨.arr h l 0 l,[(h,.none)],[(h,.rows e b.size (List.replicate l j))]⟩:=by
 obtain ⟨R,N⟩:=Kx z
 obtain ⟨U,B⟩:=J.spec
 refine Aee M j h I ht hd L E hx hy u hb hc (by omega) (by rw [<-R,f,List.length_map]) ?_
 intro q S v hq G
 have g:(D4 b).cells[q]? = some (.val v):=by rw [f,List.getElem?_map,G]; rfl
 have A:=N _ (List.mem_of_getElem? g)
 rcases B q _ S g hq with rfl | ⟨s,h1,rfl⟩
 .exact ⟨fun σ=>.val v,A⟩
 .cases h1
  exact ⟨fun σ=>.nil s _ _,rfl⟩
end
end Go.Ab
namespace Go.Ab
section
variable {P:Program} {o:Oper} {ρ:Operand->AV} {a:Act} {w w':World} {next:Act->World->Prop} {Q:Exit->Act->World->Prop}
structure Is (P:Program) (w:World) (src:Value) (sz n:Nat) (Bz:List Value):Prop where
 len:∀d,(Builtin.lenOf src).run P {w with drawn:=d} = .ok n {w with drawn:=d}
 cells:∀d,(Builtin.firstCells sz n src).run P {w with drawn:=d} = .ok Bz.toArray {w with drawn:=d}
 size:Bz.length=n*sz
theorem Hh {t:TypeId} {i:TI} {e:TypeId} (h:F2 P t=some i) (hd:i.d = .slice e):∃u,P.underlying t=some u/\u = .slice e:=by
 obtain ⟨c,u,z,q,f,l,k,j,g,b⟩:=Dq h
 rw [hd] at b
 exact ⟨u,f,b⟩
theorem Aef {t s ty e:TypeId} {i:TypeInfo} {j:TypeDesc} (ht:P.underlying t=some (.slice e)) (l:P.underlying s=some j) (k:(∃e',j = .slice e')\/j = .string) (x:P.info? e=some i) (b:Addr) (c f n:Nat) (g:Value) (Bz:List Value)
  (u:Is P w g i.size n Bz) (h:c+n<=f) (q:(storeCells (b.add (c*i.size)) Bz).run P w = .ok () w') :
  (Builtin.append_ #[t,s] ty #[.slice (some b) c f,g]).run P w = .ok (.slice (some b) (c+n) f) w':=by
 have h1:=u.len w.drawn
 have h2:=u.cells w.drawn
 have y:({w with drawn:=w.drawn}:World)=w:=rfl
 rw [y] at h1 h2
 rcases k with ⟨e',rfl⟩ | rfl <;>
 simp [Builtin.append_,run_underlying ht,run_underlying l,sizeOf,typeInfo,x,h1,h,h2,q]
theorem Ans {t h ty e:TypeId} {i:TypeInfo} {c:TypeDesc} (ht:P.underlying t=some (.slice e)) (g:P.underlying h=some c) (f:(∃e',c = .slice e')\/c = .string) (k:P.info? e=some i) (b:Value)
  (j:Is P w b i.size 0 []) :
  (Builtin.append_ #[t,h] ty #[.slice none 0 0,b]).run P w = .ok (.slice none 0 0) w:=by
 have h1:=j.len w.drawn
 have h2:=j.cells w.drawn
 have l:({w with drawn:=w.drawn}:World)=w:=rfl
 rw [l] at h1 h2
 rcases f with ⟨e',rfl⟩ | rfl <;>
 simp [Builtin.append_,run_underlying ht,run_underlying g,sizeOf,typeInfo,k,h1,h2]
theorem Zt {t s ty e:TypeId} {i:TypeInfo} {k:TypeDesc} {z:Value} (ht:P.underlying t=some (.slice e)) (q:P.underlying s=some k) (l:(∃e',k = .slice e')\/k = .string) (B:P.info? e=some i) (x:i.zero=some z) (p:Option Addr) (b c n:Nat) (g:Value) (f Bz:List Value)
  (u:Is P w g i.size n Bz) (y:Is P w (.slice p b c) i.size b f) (D:c<b+n) (E:b+n<=9223372036854775807) (hb:(b+n)*i.bytes<=140737488355328) :
  (Builtin.append_ #[t,s] ty #[.slice p b c,g]).run P w =
   .ok (.slice (some ⟨w.heap.size,0,none⟩) (b+n) (grownCap w (b+n) c e))
    (w.drew.alloc (.cells ((f++Bz).toArray++Builtin.zeroCells z.cells (grownCap w (b+n) c e-(b+n))) e)):=by
 have h1:=u.len w.drawn
 have h2:=u.cells (w.drawn+1)
 have h3:=y.cells (w.drawn+1)
 have I:({w with drawn:=w.drawn}:World)=w:=rfl
 have G:({w with drawn:=w.drawn+1}:World)=w.drew:=rfl
 rw [I] at h1
 rw [G] at h2 h3
 have A:¬(b+n<=c):=by omega
 have h:¬(9223372036854775807<((b:Int)+(n:Int))):=by omega
 have j:¬(281474976710656<Builtin.nextslicecap (b+n) c*i.bytes):=by
  have:=growslice_fits D hb; omega
 rcases l with ⟨e',rfl⟩ | rfl <;>
 simp [Builtin.append_,run_underlying ht,run_underlying q,sizeOf,typeInfo,zeroValue,B,x,h1,A,h,j,Question.forced,h2,h3,newRow,grownCap] <;>
 (congr 2; apply Array.ext'; simp [List.append_assoc])
theorem Vh (w:World) (b c:Nat) (e:TypeId):b<=grownCap w b c e:=by
 unfold grownCap; show b<=b+_; omega
theorem Vi {σ:Aq} {ι:Bm} {H:Hp} {F:Aq} {W:World} (s:St σ ι H F W w) {sz:Nat} (u:0<sz) {ys:List AV} {v:Value} (hc:CC σ (.sl sz ys) v) :
  ∃(Bz:List Value) (g:Nat->Nat->Value),Is P w v sz ys.length Bz/\(∀(i:Nat) (x:AV),ys[i]? = some x->x.cells.length=sz) /\
   (∀(i:Nat) (x:AV) (j:Nat) (c:AV),ys[i]? = some x->x.cells[j]? = some c->CC σ c (g i j)/\Ds (g i j)=true)/\(∀(i j:Nat),i<ys.length->j<sz->Bz[i*sz+j]? = some (g i j)):=by
 rcases hc.sl_inv with ⟨rfl,p,cap,rfl⟩ | ⟨b,off,cap,C,E,fr,g,rfl,A,B,l,D,J,z⟩
 .refine ⟨[],fun _ _=>undef,⟨fun d=>by simp [Builtin.lenOf],fun d=>?_,by simp⟩,by simp,by simp,by simp⟩
  cases p with
  | none=>simp [Builtin.firstCells]
  | some a=>simp [Builtin.firstCells,loadCells,loadCellsFrom]
 .refine ⟨(List.range (ys.length*sz)).map fun q=>g (q / sz) (q % sz),g,⟨fun d=>by simp [Builtin.lenOf],fun d=>?_,by simp⟩,B,l,fun i j L y=>?_⟩
  .have hb:({w with drawn:=d}:World).heap[b]? = some (.cells C E fr):=s.sto _ _ A
   have:=run_loadCells (P:=P) {w with drawn:=d} ⟨b,off,none⟩ (ys.length*sz) (fun q=>g (q / sz) (q % sz)) (by
    intro q hq
    rw [H3,Hf hb]
    have h:q / sz<ys.length:=Nat.div_lt_of_lt_mul (by rwa [Nat.mul_comm] at hq)
    have f:q % sz<sz:=Nat.mod_lt _ u
    have:=D (q / sz) (q % sz) h f
    rw [<-this]
    congr 1
    have:=Nat.div_add_mod q sz
    rw [Nat.mul_comm] at this; omega)
   simp only [Builtin.firstCells]
   exact this
  .have k:i*sz+j<ys.length*sz:=by
    have:(i+1)*sz<=ys.length*sz:=Nat.mul_le_mul_right _ (by omega)
    rw [Nat.add_mul] at this; omega
   rw [List.getElem?_map,List.getElem?_range k]
   have I:(i*sz+j) / sz=i:=by rw [Nat.mul_comm,Nat.mul_add_div u,Nat.div_eq_of_lt y]; omega
   have G:(i*sz+j) % sz=j:=by rw [Nat.mul_comm,Nat.mul_add_mod,Nat.mod_eq_of_lt y]
   simp [I,G]
theorem F1.append {σ:Aq} {sz:Nat} {xs ys:List AV} {C u:Array Value} (hx:F1 σ sz xs C) (l:Nat->Nat->Value) (h1:∀(i:Nat) (x:AV),ys[i]? = some x->x.cells.length=sz)
  (h2:∀(i:Nat) (x:AV) (j:Nat) (c:AV),ys[i]? = some x->x.cells[j]? = some c->CC σ c (l i j)/\Ds (l i j)=true)
  (s:∀k:Nat,k<xs.length*sz->u[k]? = C[k]?) (q:∀(i j:Nat),i<ys.length->j<sz->u[(xs.length+i)*sz+j]? = some (l i j)):F1 σ sz (xs++ys) u:=by
 obtain ⟨g,A,z,y⟩:=hx
 refine ⟨fun i j=>if i<xs.length then g i j else l (i-xs.length) j,?_,?_,?_⟩
 .intro i x f
  by_cases b:i<xs.length
  .rw [List.getElem?_append_left b] at f; exact A i x f
  .rw [List.getElem?_append_right (by omega)] at f; exact h1 _ x f
 .intro i x j c f h
  by_cases b:i<xs.length
  .rw [List.getElem?_append_left b] at f
   simp only [if_pos b]; exact z i x j c f h
  .rw [List.getElem?_append_right (by omega)] at f
   simp only [if_neg b]; exact h2 _ x j c f h
 .intro i j f h
  by_cases b:i<xs.length
  .simp only [if_pos b]
   rw [s _ (by
    have:(i+1)*sz<=xs.length*sz:=Nat.mul_le_mul_right _ (by omega)
    rw [Nat.add_mul] at this; omega)]
   exact y i j b h
  .simp only [if_neg b]
   have:=q (i-xs.length) j (by simp at f; omega) h
   rwa [show xs.length+(i-xs.length)=i by omega] at this
theorem Vj {σ:Aq} {ι:Bm} {H:Hp} {F:Aq} {W:World} (s:St σ ι H F W w) {t t' ty e:TypeId} {i:TI} {u':TypeDesc} (ht:P.underlying t=some (.slice e)) (N:P.underlying t'=some u') (M:(∃e',u' = .slice e')\/u' = .string) (he:F2 P e=some i) (hz:0<i.size) (ac:i.zero.length=i.size)
  {h:Nat} {xs ys:List AV} (hh:H h = .rows e i.size xs) {v y:Value} (hv:E4 (ι h) i.size 0 xs.length v) (ah:1<=i.bytes) (hb:(xs.length+ys.length)*i.bytes<=140737488355328)
  {Bz:List Value} {g:Nat->Nat->Value} (D:Is P w y i.size ys.length Bz) (h1:∀(l:Nat) (x:AV),ys[l]? = some x->x.cells.length=i.size)
  (h2:∀(l:Nat) (x:AV) (j:Nat) (c:AV),ys[l]? = some x->x.cells[j]? = some c->CC σ c (g l j)/\Ds (g l j)=true) (h3:∀(l j:Nat),l<ys.length->j<i.size->Bz[l*i.size+j]? = some (g l j))
  (a6:∀u∈Bz,Ds u=true) :
  ∃(ι':Bm) (v':Value) (w':World),(Builtin.append_ #[t,t'] ty #[v,y]).run P w = .ok v' w'/\Le σ ι H σ ι' (Ax H h (.rows e i.size (xs++ys)))/\St σ ι' (Ax H h (.rows e i.size (xs++ys))) F W w' /\
   E4 (ι' h) i.size 0 (xs.length+ys.length) v':=by
 obtain ⟨S,u,z,k1,k2,k3,U,k5,k6,k7⟩:=Dq he
 have q:xs.length+ys.length<=140737488355328:=by
  have:(xs.length+ys.length)*1<=(xs.length+ys.length)*i.bytes:=Nat.mul_le_mul_left _ ah
  omega
 have ad:z.cells.size=i.size:=by rw [<-ac,k6]; simp
 have B:∀n,(Builtin.zeroCells z.cells n).size=n*i.size:=by intro n; simp [Builtin.zeroCells,ad]
 have G:=s.obj h
 unfold Cf at G; rw [hh] at G
 obtain ⟨_,_,G⟩:=G
 unfold E4 at hv
 split at hv
 .
  rename_i a8
  obtain ⟨rfl,_,af⟩:=hv
  have ae:xs = []:=List.eq_nil_of_length_eq_zero af
  subst ae
  by_cases hy:ys = []
  .subst hy
   have Y:Bz = []:=List.eq_nil_of_length_eq_zero (by rw [D.size]; simp)
   subst Y
   refine ⟨ι,.slice none 0 0,w,Ans ht N M k1 y (by rw [U]; exact D),?_,?_,?_⟩
   .rw [List.append_nil,<-hh,Gf]; exact Le.refl _ _ _
   .rw [List.append_nil,<-hh,Gf]; exact s
   .rw [a8]; exact ⟨rfl,rfl,rfl⟩
  .have hpos:0<ys.length:=List.length_pos_iff.2 hy
   have ho:Is P w (.slice none 0 0) S.size 0 []:=⟨fun d=>by simp [Builtin.lenOf],fun d=>by simp [Builtin.firstCells],by simp⟩
   have X:=Zt (P:=P) (ty:=ty) (w:=w) ht N M k1 k3 none 0 0 ys.length y [] Bz (by rw [U]; exact D) ho (by omega) (by simp at q; omega) (by rw [k5]; simpa using hb)
   rw [Nat.zero_add,List.nil_append] at X
   have hge:=Vh w ys.length 0 e
   obtain ⟨s',le⟩:=(s.drew (w.drawn+1)).newRows h e i.size ([]++ys) (grownCap w ys.length 0 e) (Bz.toArray++Builtin.zeroCells z.cells (grownCap w ys.length 0 e-ys.length))
    (.inr ⟨e,i.size,[],hh,by simpa using hpos⟩) hz (by simpa using q) (by simpa using hge)
    (by rw [Array.size_append,B]; simp [D.size,<-Nat.add_mul]; rw [Nat.add_sub_cancel' hge]) ⟨g,(by simpa using h1),(by simpa using h2),(by
     intro l j Z R
     simp only [List.nil_append] at Z
     have I:l*i.size+j<Bz.length:=by
      have:(l+1)*i.size<=ys.length*i.size:=Nat.mul_le_mul_right _ (by omega)
      rw [Nat.add_mul] at this; rw [D.size]; omega
     rw [Array.getElem?_append_left (by simpa using I),List.getElem?_toArray]
     exact h3 l j Z R)⟩
   refine ⟨_,_,_,X,le,s',?_⟩
   rw [B8]
   simp only [List.length_nil,Nat.zero_add]
   exact ⟨by omega,by rw [Nat.zero_mul]; rfl⟩
 .
  rename_i b f A
  obtain ⟨ag,rfl⟩:=hv
  rcases G with ⟨e1,_⟩ | ⟨b',ai,C,e1,p1,p2,p3,p4,p5,p6⟩
  .rw [A] at e1; cases e1
  rw [A] at e1; cases e1
  by_cases L:xs.length+ys.length<=f
  .
   have V:xs.length*i.size+Bz.length<=C.size:=by
    rw [D.size,<-Nat.add_mul,p4]; exact Nat.mul_le_mul_right _ L
   have a1:=run_storeCells_at (P:=P) b (xs.length*i.size) e Bz 0 C w p3 (by simpa using V) (fun u hu=>by rw [Zi]; exact a6 u hu)
   simp only [Nat.add_zero] at a1
   have X:=Aef (P:=P) (ty:=ty) (w:=w) ht N M k1 ⟨b,0,none⟩ xs.length f ys.length y Bz (by rw [U]; exact D) L (by rw [H3,Nat.zero_add,U]; exact a1)
   have E:F1 σ i.size (xs++ys) (C.toList.take (xs.length*i.size)++Bz++C.toList.drop (xs.length*i.size+Bz.length)).toArray:=by
    refine F1.append p6 g h1 h2 ?_ ?_
    .intro k hk
     rw [Pj _ _ _ V,if_pos hk]
    .intro l j Z R
     have I:l*i.size+j<Bz.length:=by
      have:(l+1)*i.size<=ys.length*i.size:=Nat.mul_le_mul_right _ (by omega)
      rw [Nat.add_mul] at this; rw [D.size]; omega
     have e2:(xs.length+l)*i.size+j=xs.length*i.size+(l*i.size+j):=by rw [Nat.add_mul]; omega
     rw [Pj _ _ _ V,e2,if_neg (by omega),if_pos (by omega),Nat.add_sub_cancel_left]
     exact h3 l j Z R
   have ab:(C.toList.take (xs.length*i.size)++Bz++C.toList.drop (xs.length*i.size+Bz.length)).toArray.size=f*i.size:=by
    simp; omega
   by_cases hy:ys = []
   .subst hy
    obtain ⟨s',le⟩:=s.setRows h e i.size xs (xs++[]) hh b f A (by simp) _ ab E
    refine ⟨ι,_,_,by simpa using X,le,s',?_⟩
    rw [A]
    exact ⟨by simpa using ag,by simp⟩
   .have hpos:0<ys.length:=List.length_pos_iff.2 hy
    obtain ⟨s',le⟩:=s.growIn h e i.size xs (xs++ys) hh b f A (by simp; omega) (by simpa using q) (by simpa using L) _ ab E
    refine ⟨ι,_,_,by simpa using X,le,s',?_⟩
    rw [A]
    exact ⟨by omega,by simp⟩
  .
   have a7:Is P w (.slice (some ⟨b,0*i.size,none⟩) xs.length (f-0)) S.size xs.length (C.toList.take (xs.length*i.size)):=by
    refine ⟨fun d=>by simp [Builtin.lenOf],fun d=>?_,?_⟩
    .have hb':({w with drawn:=d}:World).heap[b]? = some (.cells C e (0,0)):=p3
     have J:(C.toList.take (xs.length*i.size)).length=xs.length*i.size:=by
      have:C.toList.length=f*i.size:=by rw [Array.length_toList,p4]
      rw [List.length_take,this]
      exact Nat.min_eq_left (Nat.mul_le_mul_right _ p5)
     have:=run_loadCells_list (P:=P) {w with drawn:=d} ⟨b,0,none⟩ (C.toList.take (xs.length*i.size)) (by
      intro j u R
      have I:j<xs.length*i.size:=by
       have:=(List.getElem?_eq_some_iff.1 R).1; omega
      rw [List.getElem?_take_of_lt I,Array.getElem?_toList] at R
      rw [H3,Nat.zero_add,Hf hb']; exact R)
     rw [J] at this
     simp only [Builtin.firstCells,Nat.zero_mul,U]
     exact this
    .have:C.toList.length=f*i.size:=by rw [Array.length_toList,p4]
     rw [U,List.length_take,this]
     exact Nat.min_eq_left (Nat.mul_le_mul_right _ p5)
   have X:=Zt (P:=P) (ty:=ty) (w:=w) ht N M k1 k3 (some ⟨b,0*i.size,none⟩) xs.length (f-0) ys.length y _ Bz (by rw [U]; exact D) a7 (by omega) (by omega) (by rw [k5]; exact hb)
   have hge:=Vh w (xs.length+ys.length) (f-0) e
   have J:(C.toList.take (xs.length*i.size)).length=xs.length*i.size:=by
    have:C.toList.length=f*i.size:=by rw [Array.length_toList,p4]
    rw [List.length_take,this]
    exact Nat.min_eq_left (Nat.mul_le_mul_right _ p5)
   have hpos:0<ys.length:=by omega
   have aa:(C.toList.take (xs.length*i.size)++Bz).length=(xs.length+ys.length)*i.size:=by rw [List.length_append,J,D.size,Nat.add_mul]
   obtain ⟨s',le⟩:=(s.drew (w.drawn+1)).newRows h e i.size (xs++ys) (grownCap w (xs.length+ys.length) (f-0) e)
    ((C.toList.take (xs.length*i.size)++Bz).toArray++Builtin.zeroCells z.cells (grownCap w (xs.length+ys.length) (f-0) e-(xs.length+ys.length)))
    (.inr ⟨e,i.size,xs,hh,by simp; omega⟩) hz (by simpa using q) (by simpa using hge)
    (by rw [Array.size_append,B,List.size_toArray,aa,<-Nat.add_mul,Nat.add_sub_cancel' hge]) (by
     refine F1.append p6 g h1 h2 ?_ ?_
     .intro k hk
      rw [Array.getElem?_append_left (by rw [List.size_toArray,aa,Nat.add_mul]; omega),List.getElem?_toArray,List.getElem?_append_left (by omega),List.getElem?_take_of_lt hk,Array.getElem?_toList]
     .intro l j Z R
      have I:l*i.size+j<Bz.length:=by
       have:(l+1)*i.size<=ys.length*i.size:=Nat.mul_le_mul_right _ (by omega)
       rw [Nat.add_mul] at this; rw [D.size]; omega
      have e2:(xs.length+l)*i.size+j=xs.length*i.size+(l*i.size+j):=by rw [Nat.add_mul]; omega
      rw [Array.getElem?_append_left (by rw [List.size_toArray,List.length_append,J]; omega),List.getElem?_toArray,e2,List.getElem?_append_right (by omega),J,Nat.add_sub_cancel_left]
      exact h3 l j Z R)
   refine ⟨_,_,_,X,le,s',?_⟩
   rw [B8]
   exact ⟨by omega,by rw [Nat.zero_mul]; rfl⟩
 .exact hv.elim
end
end Go.Ab
namespace Go.Ab
section
variable {P:Program} {o:Oper} {ρ:Operand->AV} {a:Act} {w w':World} {next:Act->World->Prop} {Q:Exit->Act->World->Prop}
theorem Vk {sz n:Nat} {Bz:List Value} {g:Nat->Nat->Value} (k:0<sz) (s:Bz.length=n*sz) {ys:List AV} (l:ys.length=n) (h1:∀(b:Nat) (x:AV),ys[b]? = some x->x.cells.length=sz)
  {σ:Aq} (h2:∀(b:Nat) (x:AV) (j:Nat) (c:AV),ys[b]? = some x->x.cells[j]? = some c->CC σ c (g b j)/\Ds (g b j)=true) (h3:∀(b j:Nat),b<ys.length->j<sz->Bz[b*sz+j]? = some (g b j)) :
  ∀u∈Bz,Ds u=true:=by
 intro u hu
 obtain ⟨q,hq⟩:=List.getElem?_of_mem hu
 have i:=(List.getElem?_eq_some_iff.1 hq).1
 have h:q / sz<ys.length:=by rw [l]; exact Nat.div_lt_of_lt_mul (by rw [s,Nat.mul_comm] at i; exact i)
 have f:q % sz<sz:=Nat.mod_lt _ k
 have e:=h3 (q / sz) (q % sz) h f
 rw [show q / sz*sz+q % sz=q by have:=Nat.div_add_mod q sz; rw [Nat.mul_comm] at this; omega,hq] at e
 cases e
 have hx:=List.getElem?_eq_getElem h
 have hc:(q % sz)<(ys[q / sz]).cells.length:=by rw [h1 _ _ hx]; exact f
 exact (h2 _ _ _ _ hx (List.getElem?_eq_getElem hc)).2
theorem Pk {t f ty:TypeId} {x y:Operand} (h:o.op = .call {callee:=.builtin .append,args:=#[x,y],argTypes:=#[t,f]}) (b:o.type=ty) {c:Value} (g:(Builtin.append_ #[t,f] ty #[a.eval x,a.eval y]).run P w = .ok c w') :
  (execOp a.eval o).run P w = .ok (.value c) w':=by
 subst b
 simp [execOp,h,resolve,invoke,builtin,g]
theorem Ant {T:Cj} (V:Ck P T) {t B:TypeId} {x y:Operand} {i c E:TI} {e e':TypeId} {h k:Nat} {xs ys:List AV} (R:o.op = .call {callee:=.builtin .append,args:=#[x,y],argTypes:=#[t,B]})
  (ht:T t=some i) (hd:i.d = .slice e) (M:T B=some E) (S:E.d = .slice e') (he:T e=some c) (I:0<c.size) (G:c.zero.length=c.size) (U:1<=c.bytes)
  (hx:ρ x = .arr h k 0 k) (f:xs.length=k) (hy:ρ y = .sl c.size ys) (hb:(xs.length+ys.length)*c.bytes<=140737488355328) :
  Bv P o ρ ⟨.arr h (k+ys.length) 0 (k+ys.length),[(h,.rows e c.size xs)],[(h,.rows e c.size (xs++ys))]⟩:=by
 intro σ ι H F W w a next Q s q N hk
 have hh:H h = .rows e c.size xs:=N (h,.rows e c.size xs) (by simp)
 have l:=q x (by simp [R,Op.operands,Call.operands])
 have j:=q y (by simp [R,Op.operands,Call.operands])
 rw [hx] at l; rw [hy] at j
 have X:=l.arr_inv hh f
 rw [<-f] at X
 obtain ⟨u1,L,e1⟩:=Hh (V t i ht) hd
 obtain ⟨u2,J,e2⟩:=Hh (V B E M) S
 subst e1; subst e2
 obtain ⟨Bz,g,Y,h1,h2,h3⟩:=Vi (P:=P) s I j.sl_inv
 obtain ⟨Z,A,w',hr,le,s',b⟩:=Vj (P:=P) (ty:=o.type) s L J (.inl ⟨_,rfl⟩) (V e c he) I G hh X U hb Y h1 h2 h3 (Vk I Y.size rfl h1 h2 h3)
 refine Ea (Pk R rfl hr) (hk σ Z A w' le s' ?_)
 have u:Ds A=true:=by
  unfold E4 at b
  split at b
  .rw [b.1]; rfl
  .rw [b.2]; rfl
  .exact b.elim
 refine .arr _ _ _ _ A (by show Ax H h _ h≠_; rw [B8]; intro e; cases e) (fun E' D z e'=>?_) u
 have e':Ax H h _ h = .rows E' D z:=e'
 rw [B8] at e'; cases e'
 refine ⟨by rw [List.length_append]; omega,fun _=>?_⟩
 rw [f] at b
 exact b
def G0 (s:ByteArray):List AV:=s.data.toList.map fun b=>.val (.int .u8 b.toNat)
theorem Anu (s:ByteArray):(G0 s).length=s.size:=by
 unfold G0
 rw [List.length_map,Array.length_toList]; rfl
theorem Anv (s:ByteArray):∃(Bz:List Value) (g:Nat->Nat->Value),Is P w (.string s) 1 (G0 s).length Bz/\(∀(i:Nat) (x:AV),(G0 s)[i]? = some x->x.cells.length=1) /\
  (∀(σ:Aq) (i:Nat) (x:AV) (j:Nat) (c:AV),(G0 s)[i]? = some x->x.cells[j]? = some c->CC σ c (g i j)/\Ds (g i j)=true)/\∀(i j:Nat),i<(G0 s).length->j<1->Bz[i*1+j]? = some (g i j):=by
 have h:=Anu s
 refine ⟨Lib.strCells s,fun i _=>.int .u8 ((s.data.toList.getD i 0).toNat),⟨fun d=>?_,fun d=>?_,?_⟩,?_,?_,?_⟩
 .rw [h]; simp [Builtin.lenOf]
 .rw [h]; exact Lib.run_firstCells_string _ 1 s
 .rw [h,Lib.strCells_length]; omega
 .intro i x hx
  simp only [G0,List.getElem?_map,Option.map_eq_some_iff] at hx
  obtain ⟨b,_,rfl⟩:=hx
  rfl
 .intro σ i x j c hx hc
  simp only [G0,List.getElem?_map,Option.map_eq_some_iff] at hx
  obtain ⟨b,hb,rfl⟩:=hx
  simp only [AV.cells] at hc
  cases j with
  | zero=>
   simp at hc; subst hc
   have e:s.data.toList.getD i 0=b:=by rw [List.getD_eq_getElem?_getD,hb]; rfl
   dsimp only
   rw [e]
   exact ⟨.val _,rfl⟩
  | succ j=>simp at hc
 .intro i j f k
  have k:j=0:=by omega
  subst k
  have f:i<s.data.toList.length:=by unfold G0 at f; rwa [List.length_map] at f
  have e:s.data.toList.getD i 0=s.data.toList[i]:=by rw [List.getD_eq_getElem?_getD,List.getElem?_eq_getElem f]; rfl
  dsimp only
  rw [e]
  unfold Lib.strCells
  rw [Nat.mul_one,Nat.add_zero,List.getElem?_map,List.getElem?_eq_getElem f]; rfl
theorem Anw {T:Cj} (V:Ck P T) {t A:TypeId} {x y:Operand} {i c D:TI} {e:TypeId} {h k:Nat} {xs:List AV} {s:ByteArray} (R:o.op = .call {callee:=.builtin .append,args:=#[x,y],argTypes:=#[t,A]})
  (ht:T t=some i) (hd:i.d = .slice e) (L:T A=some D) (S:D.d = .string) (he:T e=some c) (hz:c.size=1) (E:c.zero.length=c.size) (U:1<=c.bytes)
  (hx:ρ x = .arr h k 0 k) (f:xs.length=k) (hy:ρ y = .val (.string s)) (hb:(xs.length+(G0 s).length)*c.bytes<=140737488355328) :
  Bv P o ρ ⟨.arr h (k+(G0 s).length) 0 (k+(G0 s).length),[(h,.rows e c.size xs)],[(h,.rows e c.size (xs++G0 s))]⟩:=by
 intro σ ι H F W w a next Q st l N hk
 have hh:H h = .rows e c.size xs:=N (h,.rows e c.size xs) (by simp)
 have j:=l x (by simp [R,Op.operands,Call.operands])
 have G:=C3 hy (l y (by simp [R,Op.operands,Call.operands]))
 rw [hx] at j
 have X:=j.arr_inv hh f
 rw [<-f] at X
 obtain ⟨u1,J,e1⟩:=Hh (V t i ht) hd
 obtain ⟨_,u2,_,_,I,_,_,_,_,Y⟩:=Dq (V A D L)
 rw [S] at Y
 subst e1; subst Y
 obtain ⟨Bz,g,M,h1,h2,h3⟩:=Anv (P:=P) (w:=w) s
 rw [<-hz] at M h1 h3
 obtain ⟨Z,z,w',hr,le,s',b⟩:=Vj (P:=P) (ty:=o.type) st J I (.inr rfl) (V e c he) (by omega) E hh X U hb M h1 (h2 σ) h3 (Vk (by omega) M.size rfl h1 (h2 σ) h3)
 refine Ea (Pk R rfl (by rw [G]; exact hr)) (hk σ Z z w' le s' ?_)
 have q:Ds z=true:=by
  unfold E4 at b
  split at b
  .rw [b.1]; rfl
  .rw [b.2]; rfl
  .exact b.elim
 refine .arr _ _ _ _ z (by show Ax H h _ h≠_; rw [B8]; intro e; cases e) (fun E' B u e'=>?_) q
 have e':Ax H h _ h = .rows E' B u:=e'
 rw [B8] at e'; cases e'
 refine ⟨by rw [List.length_append]; omega,fun _=>?_⟩
 rw [f] at b
 exact b
theorem Anx {T:Cj} (V:Ck P T) {t A:TypeId} {x y:Operand} {i c E:TI} {e e':TypeId} (h:Nat) {ys:List AV} (R:o.op = .call {callee:=.builtin .append,args:=#[x,y],argTypes:=#[t,A]})
  (ht:T t=some i) (hd:i.d = .slice e) (L:T A=some E) (S:E.d = .slice e') (he:T e=some c) (l:0<c.size) (G:c.zero.length=c.size) (U:1<=c.bytes)
  (hx:ρ x = .val (.slice none 0 0)) (hy:ρ y = .sl c.size ys) (hb:ys.length*c.bytes<=140737488355328) :
  Bv P o ρ ⟨.arr h ys.length 0 ys.length,[(h,.none)],[(h,.rows e c.size ys)]⟩:=by
 intro σ ι H F W w a next Q s j M hk
 have hn:H h = .none:=M (h,.none) (by simp)
 have N:=C3 hx (j x (by simp [R,Op.operands,Call.operands]))
 have f:=j y (by simp [R,Op.operands,Call.operands])
 rw [hy] at f
 obtain ⟨u1,J,e1⟩:=Hh (V t i ht) hd
 obtain ⟨u2,I,e2⟩:=Hh (V A E L) S
 subst e1; subst e2
 obtain ⟨s0,D⟩:=s.newNil h hn e c.size l
 obtain ⟨Bz,g,X,h1,h2,h3⟩:=Vi (P:=P) s0 l f.sl_inv
 obtain ⟨Y,z,w',Z,le,s',b⟩:=Vj (P:=P) (ty:=o.type) (v:=.slice none 0 0) (xs:=[]) s0 J I (.inl ⟨_,rfl⟩) (V e c he) l G (B8 _ _ _) (by rw [B8]; exact ⟨rfl,rfl,rfl⟩) U (by simpa using hb) X h1 h2 h3 (Vk l X.size rfl h1 h2 h3)
 have hH:Ax (Ax H h (.rows e c.size [])) h (.rows e c.size ([]++ys))=Ax H h (.rows e c.size ys):=by
  funext m
  by_cases q:m=h
  .subst q; rw [B8,B8]; rfl
  .rw [Cr _ _ q,Cr _ _ q,Cr _ _ q]
 rw [hH] at le s'
 simp only [List.length_nil,Nat.zero_add] at b
 refine Ea (Pk R rfl (by rw [N]; exact Z)) (hk σ Y z w' (D.trans le) s' ?_)
 have k:Ds z=true:=by
  unfold E4 at b
  split at b
  .rw [b.1]; rfl
  .rw [b.2]; rfl
  .exact b.elim
 refine .arr _ _ _ _ z (by show Ax H h _ h≠_; rw [B8]; intro e; cases e) (fun E' B u e'=>?_) k
 have e':Ax H h _ h = .rows E' B u:=e'
 rw [B8] at e'; cases e'
 exact ⟨Nat.le_refl _,fun _=>b⟩
theorem St.freeze {σ:Aq} {ι:Bm} {H:Hp} {F:Aq} {W:World} (s:St σ ι H F W w) {h:Nat} {E:TypeId} {sz:Nat} {xs:List AV} (hh:H h = .rows E sz xs) :
  ∃u,Le σ ι H u ι (Ax H h .dead)/\St u ι (Ax H h .dead) F W w /\
   ∀off len v,off+len<=xs.length->E4 (ι h) sz off len v->CC u (.sl sz ((xs.drop off).take len)) v:=by
 have k:=s.obj h
 unfold Cf at k; rw [hh] at k
 obtain ⟨hz,hm,k⟩:=k
 have f:∀u,σ.le u->Le σ ι H u ι (Ax H h .dead):=by
  intro u Y
  have:=Le.upd (ι:=ι) (H:=H) Y h (ι h) .dead ⟨fun _ e=>e,(fun _ e=>by cases e),(fun _ E1 N M e=>by cases e)⟩
  rwa [Gf] at this
 rcases k with ⟨G,e2⟩ | ⟨b,I,C,G,X,V,U,p4,p5,g,S,J,R⟩
 .subst e2
  refine ⟨σ,f σ (Aq.le_refl _),?_,?_⟩
  .obtain ⟨f1,f2⟩:=s.fresh
   exact s.touch h w.heap.size (fun _ _=>rfl) (fun x e=>Cr _ _ e) (f σ (Aq.le_refl _)) (fun _ _=>rfl) (fun _ _=>rfl) (fun o A=>by rw [f1] at A; cases A)
    (fun x e i hb=>by have:=(s.block i hb).1; omega) f2 (fun b i hb=>by rw [B8] at i; cases i) (by unfold Cf; rw [B8]; trivial) rfl rfl rfl
  .intro off len v q z
   rw [G] at z
   obtain ⟨rfl,rfl,rfl⟩:=z
   simp only [List.drop_nil,List.take_nil]
   exact .nil sz none 0
 .have q:σ.le (Ax σ b (some (.cells C E))):=by
   intro b' o' hb'
   rw [Cr _ _ (by intro e; subst e; rw [X] at hb'; cases hb')]; exact hb'
  refine ⟨Ax σ b (some (.cells C E)),f _ q,?_,?_⟩
  .refine s.touch h b (fun _ _=>rfl) (fun x e=>Cr _ _ e) (f _ q) (fun _ _=>rfl) (fun x e=>Cr _ _ e) (fun o A=>by rw [B8] at A; cases A; exact U)
    (fun x e i hb=>e (s.inj x h b i (by rw [hh]; rfl) hb (by rw [G]; rfl))) V (fun b' i hb=>by rw [B8] at i; cases i) (by unfold Cf; rw [B8]; trivial) rfl rfl rfl
  .intro off len v L z
   rw [G] at z
   obtain ⟨_,rfl⟩:=z
   have i:((xs.drop off).take len).length=len:=by simp; omega
   have l:∀(n:Nat) (y:AV),((xs.drop off).take len)[n]? = some y->n<len/\xs[off+n]? = some y:=by
    intro n y hy
    have B:n<len:=by have:=(List.getElem?_eq_some_iff.1 hy).1; omega
    rw [List.getElem?_take_of_lt B,List.getElem?_drop] at hy
    exact ⟨B,hy⟩
   have:=CC.sl (σ:=Ax σ b (some (.cells C E))) ((xs.drop off).take len) b (off*sz) (I-off) sz C E (0,0) (fun n j=>g (off+n) j) (B8 _ _ _)
    (fun n y hy=>S _ y (l n y hy).2) (fun n y j c hy D=>((J _ y j c (l n y hy).2 D).1).mono q) (fun n y j c hy D=>(J _ y j c (l n y hy).2 D).2)
    (fun n j Z D=>by
     rw [i] at Z
     have:=R (off+n) j (by omega) D
     rw [Nat.add_mul] at this; exact this) (by rw [i]; omega) (by rw [i]; omega)
   rw [i] at this
   exact this
theorem Anz {T:Cj} (A:Ck P T) {x:Operand} {i b:TI} {e:TypeId} (h:Nat) (q:o.op = .assign x) (hx:ρ x = .val (.slice none 0 0)) (ht:T o.type=some i) (_hd:i.d = .slice e) (z:T e=some b) (u:0<b.size) :
  Bv P o ρ ⟨.arr h 0 0 0,[(h,.none)],[(h,.rows e b.size [])]⟩:=by
 intro σ ι H F W w a next Q s l j hk
 have _:=A; have _:=ht; have _:=z
 have y:H h = .none:=j (h,.none) (by simp)
 have k:=C3 hx (l x (by simp [q,Op.operands]))
 obtain ⟨s0,g⟩:=s.newNil h y e b.size u
 refine Ea (v:=.slice none 0 0) (by simp [execOp,q,k]) (hk σ _ _ w g s0 ?_)
 refine .arr _ _ _ _ _ (by show Ax H h _ h≠_; rw [B8]; intro e; cases e) (fun B f c e'=>?_) rfl
 have e':Ax H h _ h = .rows B f c:=e'
 rw [B8] at e'; cases e'
 exact ⟨by simp,fun _=>by rw [B8]; exact ⟨rfl,rfl,rfl⟩⟩
theorem An0 {x y:Operand} {t f:TypeId} {k g:IntKind} {m n:Int} (c:o.op = .call {callee:=.builtin .max,args:=#[x,y],argTypes:=#[t,f]}) (hx:ρ x = .val (.int k m)) (hy:ρ y = .val (.int g n)) :
  Bv P o ρ ⟨.val (.int k (if n>m then n else m)),[],[]⟩ :=
 Dt fun σ ι H a w b=>by
  have h1:=C3 hx (b x (by simp [c,Op.operands,Call.operands]))
  have h2:=C3 hy (b y (by simp [c,Op.operands,Call.operands]))
  exact ⟨_,by simp [execOp,c,resolve,invoke,builtin,Builtin.max_,Builtin.max2,h1,h2],.of_val _⟩
theorem An1 {x y:Operand} {t f:TypeId} {k g:IntKind} {m n:Int} (c:o.op = .call {callee:=.builtin .min,args:=#[x,y],argTypes:=#[t,f]}) (hx:ρ x = .val (.int k m)) (hy:ρ y = .val (.int g n)) :
  Bv P o ρ ⟨.val (.int k (if n<m then n else m)),[],[]⟩ :=
 Dt fun σ ι H a w b=>by
  have h1:=C3 hx (b x (by simp [c,Op.operands,Call.operands]))
  have h2:=C3 hy (b y (by simp [c,Op.operands,Call.operands]))
  exact ⟨_,by simp [execOp,c,resolve,invoke,builtin,Builtin.min_,Builtin.min2,h1,h2],.of_val _⟩
end
end Go.Ab
namespace Go.Ab
section
variable {P:Program} {o:Oper} {ρ:Operand->AV} {a:Act} {w w':World} {next:Act->World->Prop} {Q:Exit->Act->World->Prop}
def En {α:Type} (xs:List α) (d:Nat) (ys:List α):List α:=xs.take d++ys++xs.drop (d+ys.length)
theorem Aeg {α:Type} {xs ys:List α} {d:Nat} (hd:d<=xs.length) (i:Nat):(En xs d ys)[i]? = if i<d then xs[i]? else if i<d+ys.length then ys[i-d]? else xs[i]?:=by
 unfold En
 have b:(xs.take d).length=d:=by rw [List.length_take]; omega
 rw [List.append_assoc]
 by_cases h1:i<d
 .rw [if_pos h1,List.getElem?_append_left (by omega),List.getElem?_take_of_lt h1]
 .rw [if_neg h1,List.getElem?_append_right (by omega),b]
  by_cases h2:i<d+ys.length
  .rw [if_pos h2,List.getElem?_append_left (by omega)]
  .rw [if_neg h2,List.getElem?_append_right (by omega),List.getElem?_drop]
   congr 1; omega
theorem Vl {α:Type} {xs ys:List α} {d:Nat} (hd:d<=xs.length):(En xs d ys).length=max xs.length (d+ys.length):=by
 unfold En
 simp only [List.length_append,List.length_take,List.length_drop]; omega
structure Nr (σ:Aq) (sz:Nat) (ys:List AV) (Bz:List Value) (g:Nat->Nat->Value):Prop where
 len:Bz.length=ys.length*sz
 el:∀(i:Nat) (x:AV),ys[i]? = some x->x.cells.length=sz
 cc:∀(i:Nat) (x:AV) (j:Nat) (c:AV),ys[i]? = some x->x.cells[j]? = some c->CC σ c (g i j)/\Ds (g i j)=true
 at_:∀(i j:Nat),i<ys.length->j<sz->Bz[i*sz+j]? = some (g i j)
theorem F1.patch {σ:Aq} {sz d:Nat} {xs ys:List AV} {C u:Array Value} {Bz:List Value} {B:Nat->Nat->Value} (hx:F1 σ sz xs C) (hd:d<=xs.length) (l:Nr σ sz ys Bz B)
  (k:∀q:Nat,q<d*sz\/(d+ys.length)*sz<=q->u[q]? = C[q]?) (s:∀q,q<ys.length*sz->u[d*sz+q]? = Bz[q]?):F1 σ sz (En xs d ys) u:=by
 obtain ⟨g,A,z,y⟩:=hx
 refine ⟨fun i j=>if i<d then g i j else if i<d+ys.length then B (i-d) j else g i j,?_,?_,?_⟩
 .intro i x b
  rw [Aeg hd] at b
  split at b
  .exact A i x b
  .split at b
   .exact l.el _ x b
   .exact A i x b
 .intro i x j c b f
  rw [Aeg hd] at b
  dsimp only
  split at b
  .rename_i h; rw [if_pos h]; exact z i x j c b f
  .rename_i h
   rw [if_neg h]
   split at b
   .rename_i h2; rw [if_pos h2]; exact l.cc _ x j c b f
   .rename_i h2; rw [if_neg h2]; exact z i x j c b f
 .intro i j b f
  rw [Vl hd] at b
  dsimp only
  by_cases h:i<d
  .rw [if_pos h]
   have:(i+1)*sz<=d*sz:=Nat.mul_le_mul_right _ (by omega)
   rw [Nat.add_mul] at this
   rw [k _ (.inl (by omega))]; exact y i j (by omega) f
  .rw [if_neg h]
   by_cases h2:i<d+ys.length
   .rw [if_pos h2]
    have e:i*sz+j=d*sz+((i-d)*sz+j):=by
     have:i=d+(i-d):=by omega
     conv=>lhs; rw [this,Nat.add_mul]
     omega
    have:(i-d+1)*sz<=ys.length*sz:=Nat.mul_le_mul_right _ (by omega)
    rw [Nat.add_mul] at this
    rw [e,s _ (by omega)]
    exact l.at_ _ j (by omega) f
   .rw [if_neg h2]
    have:(d+ys.length)*sz<=i*sz:=Nat.mul_le_mul_right _ (by omega)
    rw [k _ (.inr (by omega))]; exact y i j (by omega) f
theorem Nr.one {σ:Aq} {sz:Nat} (b:0<sz) {ys:List AV} {Bz:List Value} {g:Nat->Nat->Value} (h:Nr σ sz ys Bz g):∀u∈Bz,Ds u=true:=Vk b h.len rfl h.el h.cc h.at_
theorem Zu {σ:Aq} {ι:Bm} {H:Hp} {F:Aq} {W:World} (s:St σ ι H F W w) {h:Nat} {e:TypeId} {sz:Nat} {xs ys:List AV} (hh:H h = .rows e sz xs) {b c:Nat} (hb:ι h = .blk b c) {d:Nat} (hd:d<=xs.length) (x:d+ys.length<=c)
  (I:d+ys.length<=140737488355328) (E:0<sz) {Bz:List Value} {g:Nat->Nat->Value} (l:Nr σ sz ys Bz g) :
  ∃w',(storeCells (⟨b,d*sz,none⟩:Addr) Bz).run P w = .ok () w'/\Le σ ι H σ ι (Ax H h (.rows e sz (En xs d ys)))/\St σ ι (Ax H h (.rows e sz (En xs d ys))) F W w':=by
 obtain ⟨C,D,B,G,A⟩:=s.rowsAt hh hb
 have z:xs.length<=140737488355328:=by
  have:=s.obj h
  unfold Cf at this; rw [hh] at this
  exact this.2.1
 have j:d*sz+Bz.length<=C.size:=by
  rw [l.len,<-Nat.add_mul,B]; exact Nat.mul_le_mul_right _ x
 have k:=run_storeCells_at (P:=P) b (d*sz) e Bz 0 C w D (by simpa using j) (fun u hu=>by rw [Zi]; exact l.one E u hu)
 simp only [Nat.add_zero] at k
 have f:F1 σ sz (En xs d ys) (C.toList.take (d*sz)++Bz++C.toList.drop (d*sz+Bz.length)).toArray:=by
  refine F1.patch A hd l ?_ ?_
  .intro q hq
   rw [Pj _ _ _ j]
   rcases hq with hq | hq
   .rw [if_pos hq]
   .rw [Nat.add_mul] at hq
    rw [if_neg (by omega),if_neg (by rw [l.len]; omega)]
  .intro q hq
   rw [Pj _ _ _ j,if_neg (by omega),if_pos (by rw [l.len]; omega),Nat.add_sub_cancel_left]
 have y:(C.toList.take (d*sz)++Bz++C.toList.drop (d*sz+Bz.length)).toArray.size=c*sz:=by
  simp; omega
 have i:=Vl (ys:=ys) hd
 by_cases J:d+ys.length<=xs.length
 .obtain ⟨s',le⟩:=s.setRows h e sz xs (En xs d ys) hh b c hb (by rw [i]; omega) _ y f
  exact ⟨_,k,le,s'⟩
 .obtain ⟨s',le⟩:=s.growIn h e sz xs (En xs d ys) hh b c hb (by rw [i]; omega) (by rw [i]; omega) (by rw [i]; omega) _ y f
  exact ⟨_,k,le,s'⟩
theorem Aeh {σ:Aq} {ι:Bm} {H:Hp} {F:Aq} {W:World} (s:St σ ι H F W w) {h:Nat} {e:TypeId} {sz:Nat} {xs:List AV} (hh:H h = .rows e sz xs) {off len:Nat} {v:Value} (y:E4 (ι h) sz off len v) (R:off+len<=xs.length) (n:Nat) (N:n<=len) :
  ∃(Bz:List Value) (g:Nat->Nat->Value),(∃p c,v = .slice p len c)/\(∀d,(Builtin.firstCells sz n v).run P {w with drawn:=d} = .ok Bz.toArray {w with drawn:=d})/\Nr σ sz ((xs.drop off).take n) Bz g:=by
 have q:((xs.drop off).take n).length=n:=by simp; omega
 unfold E4 at y
 split at y
 .obtain ⟨rfl,rfl,rfl⟩:=y
  obtain rfl:n=0:=by omega
  refine ⟨[],fun _ _=>undef,⟨none,0,rfl⟩,fun d=>by simp [Builtin.firstCells],⟨by simp,(fun i x h=>by simp at h),(fun i x j c h=>by simp at h),(fun i j h=>by simp at h)⟩⟩
 .rename_i b A hb
  obtain ⟨J,rfl⟩:=y
  obtain ⟨C,I,G,M,g,E,D,B⟩:=s.rowsAt hh hb
  have k:((C.toList.drop (off*sz)).take (n*sz)).length=n*sz:=by
   have h1:(off+n)*sz<=A*sz:=Nat.mul_le_mul_right _ (by omega)
   rw [Nat.add_mul] at h1
   rw [List.length_take,List.length_drop,Array.length_toList,G]; omega
  have z:∀(i:Nat) (x:AV),((xs.drop off).take n)[i]? = some x->i<n/\xs[off+i]? = some x:=by
   intro i x hx
   have f:i<n:=by have:=(List.getElem?_eq_some_iff.1 hx).1; omega
   rw [List.getElem?_take_of_lt f,List.getElem?_drop] at hx
   exact ⟨f,hx⟩
  refine ⟨(C.toList.drop (off*sz)).take (n*sz),fun i j=>g (off+i) j,⟨_,_,rfl⟩,fun d=>?_,⟨by rw [k,q],?_,?_,?_⟩⟩
  .have hb':({w with drawn:=d}:World).heap[b]? = some (.cells C e (0,0)):=I
   have:=run_loadCells_list (P:=P) {w with drawn:=d} ⟨b,off*sz,none⟩ ((C.toList.drop (off*sz)).take (n*sz)) (by
    intro j u l
    have f:j<n*sz:=by have:=(List.getElem?_eq_some_iff.1 l).1; omega
    rw [List.getElem?_take_of_lt f,List.getElem?_drop,Array.getElem?_toList] at l
    rw [H3,Hf hb']; exact l)
   rw [k] at this
   simp only [Builtin.firstCells]
   exact this
  .intro i x hx; exact E _ x (z i x hx).2
  .intro i x j c hx l; exact D _ x j c (z i x hx).2 l
  .intro i j L l
   rw [q] at L
   have h1:(i+1)*sz<=n*sz:=Nat.mul_le_mul_right _ (by omega)
   rw [Nat.add_mul] at h1
   rw [List.getElem?_take_of_lt (by omega),List.getElem?_drop,Array.getElem?_toList]
   have:=B (off+i) j (by omega) l
   rw [Nat.add_mul] at this
   rw [<-this]; congr 1; omega
 .exact y.elim
theorem Aei {σ:Aq} {ι:Bm} {H:Hp} {F:Aq} {W:World} (s:St σ ι H F W w) {t t' ty e:TypeId} {i:TI} {u':TypeDesc} (ht:P.underlying t=some (.slice e)) (N:P.underlying t'=some u') (M:(∃e',u' = .slice e')\/u' = .string) (he:F2 P e=some i) (hz:0<i.size) (V:i.zero.length=i.size)
  {h:Nat} {xs ys:List AV} (hh:H h = .rows e i.size xs) {len:Nat} (hl:len<=xs.length) {v E:Value} (hv:E4 (ι h) i.size 0 len v) (a1:1<=i.bytes) (hb:(xs.length+ys.length)*i.bytes<=140737488355328)
  {Bz:List Value} {g:Nat->Nat->Value} (hs:Is P w E i.size ys.length Bz) (D:Nr σ i.size ys Bz g) :
  ∃(ι':Bm) (v':Value) (w':World),(Builtin.append_ #[t,t'] ty #[v,E]).run P w = .ok v' w'/\Le σ ι H σ ι' (Ax H h (.rows e i.size (En xs len ys)))/\St σ ι' (Ax H h (.rows e i.size (En xs len ys))) F W w' /\
   E4 (ι' h) i.size 0 (len+ys.length) v':=by
 obtain ⟨S,u,z,k1,k2,k3,R,k5,k6,k7⟩:=Dq he
 have aa:xs.length+ys.length<=140737488355328:=by
  have:(xs.length+ys.length)*1<=(xs.length+ys.length)*i.bytes:=Nat.mul_le_mul_left _ a1
  omega
 by_cases B:len=xs.length
 .subst B
  have e0:En xs xs.length ys=xs++ys:=by
   unfold En
   rw [List.take_length,List.drop_eq_nil_of_le (by omega),List.append_nil]
  rw [e0]
  exact Vj (P:=P) (ty:=ty) s ht N M he hz V hh hv a1 hb hs D.el D.cc D.at_ (D.one hz)
 have l:=s.obj h
 unfold Cf at l; rw [hh] at l
 obtain ⟨_,_,l⟩:=l
 rcases l with ⟨_,e2⟩ | ⟨b,f,C,e1,p1,p2,p3,p4,p5,p6⟩
 .subst e2; simp only [List.length_nil,Nat.le_zero] at hl; exact (B (by rw [hl]; rfl)).elim
 rw [e1] at hv
 obtain ⟨ab,rfl⟩:=hv
 by_cases J:len+ys.length<=f
 .obtain ⟨w',a7,le,s'⟩:=Zu (P:=P) s hh e1 hl J (by omega) hz D
  have hr:=Aef (P:=P) (ty:=ty) (w:=w) ht N M k1 ⟨b,0,none⟩ len f ys.length E Bz (by rw [R]; exact hs) J (by rw [H3,Nat.zero_add,R]; exact a7)
  refine ⟨ι,_,_,by simpa using hr,le,s',?_⟩
  rw [e1]
  exact ⟨by omega,by simp⟩
 .have A:(C.toList.take (len*i.size)).length=len*i.size:=by
   have:C.toList.length=f*i.size:=by rw [Array.length_toList,p4]
   rw [List.length_take,this]
   exact Nat.min_eq_left (Nat.mul_le_mul_right _ (by omega))
  have X:Is P w (.slice (some ⟨b,0*i.size,none⟩) len (f-0)) S.size len (C.toList.take (len*i.size)):=by
   refine ⟨fun d=>by simp [Builtin.lenOf],fun d=>?_,by rw [R]; exact A⟩
   have hb':({w with drawn:=d}:World).heap[b]? = some (.cells C e (0,0)):=p3
   have:=run_loadCells_list (P:=P) {w with drawn:=d} ⟨b,0,none⟩ (C.toList.take (len*i.size)) (by
    intro j u I
    have y:j<len*i.size:=by
     have:=(List.getElem?_eq_some_iff.1 I).1; omega
    rw [List.getElem?_take_of_lt y,Array.getElem?_toList] at I
    rw [H3,Nat.zero_add,Hf hb']; exact I)
   rw [A] at this
   simp only [Builtin.firstCells,Nat.zero_mul,R]
   exact this
  have hr:=Zt (P:=P) (ty:=ty) (w:=w) ht N M k1 k3 (some ⟨b,0*i.size,none⟩) len (f-0) ys.length E _ Bz (by rw [R]; exact hs) X (by omega) (by omega) (by
   rw [k5]
   exact Nat.le_trans (Nat.mul_le_mul_right _ (by omega)) hb)
  have hge:=Vh w (len+ys.length) (f-0) e
  have a6:z.cells.size=i.size:=by rw [<-V,k6]; simp
  have L:∀n,(Builtin.zeroCells z.cells n).size=n*i.size:=by intro n; simp [Builtin.zeroCells,a6]
  have Y:(C.toList.take (len*i.size)++Bz).length=(len+ys.length)*i.size:=by rw [List.length_append,A,D.len,Nat.add_mul]
  have e0:En xs len ys=xs.take len++ys:=by
   unfold En
   rw [List.drop_eq_nil_of_le (by omega),List.append_nil]
  have G:(xs.take len).length=len:=by rw [List.length_take]; omega
  have a8:F1 σ i.size (xs.take len) C:=by
   obtain ⟨g,r1,r2,r3⟩:=p6
   have Z:∀(q:Nat) (x:AV),(xs.take len)[q]? = some x->q<len/\xs[q]? = some x:=by
    intro q x hx
    have y:q<len:=by have:=(List.getElem?_eq_some_iff.1 hx).1; omega
    rw [List.getElem?_take_of_lt y] at hx
    exact ⟨y,hx⟩
   exact ⟨g,fun q x hx=>r1 q x (Z q x hx).2,fun q x j c hx I=>r2 q x j c (Z q x hx).2 I,fun q j hq I=>r3 q j (by omega) I⟩
  obtain ⟨s',le⟩:=(s.drew (w.drawn+1)).newRows h e i.size (xs.take len++ys) (grownCap w (len+ys.length) (f-0) e)
   ((C.toList.take (len*i.size)++Bz).toArray++Builtin.zeroCells z.cells (grownCap w (len+ys.length) (f-0) e-(len+ys.length)))
   (.inr ⟨e,i.size,xs,hh,by simp; omega⟩) hz (by rw [List.length_append,G]; omega) (by rw [List.length_append,G]; exact hge)
   (by rw [Array.size_append,L,List.size_toArray,Y,<-Nat.add_mul,Nat.add_sub_cancel' hge]) (by
    refine F1.append a8 g D.el D.cc ?_ ?_
    .intro k hk
     rw [G] at hk
     rw [Array.getElem?_append_left (by rw [List.size_toArray,Y,Nat.add_mul]; omega),List.getElem?_toArray,List.getElem?_append_left (by omega),List.getElem?_take_of_lt hk,Array.getElem?_toList]
    .intro U j hi I
     rw [G]
     have y:U*i.size+j<Bz.length:=by
      have:(U+1)*i.size<=ys.length*i.size:=Nat.mul_le_mul_right _ (by omega)
      rw [Nat.add_mul] at this; rw [D.len]; omega
     have e2:(len+U)*i.size+j=len*i.size+(U*i.size+j):=by rw [Nat.add_mul]; omega
     rw [Array.getElem?_append_left (by rw [List.size_toArray,List.length_append,A]; omega),List.getElem?_toArray,e2,List.getElem?_append_right (by omega),A,Nat.add_sub_cancel_left]
     exact D.at_ U j hi I)
  rw [e0]
  refine ⟨_,_,_,hr,le,s',?_⟩
  rw [B8]
  exact ⟨by omega,by rw [Nat.zero_mul]; rfl⟩
theorem Aej {σ:Aq} {ι:Bm} {H:Hp} {h:Nat} {e:TypeId} {sz:Nat} {xs:List AV} {len:Nat} {v:Value} (i:len<=xs.length) (b:E4 (ι h) sz 0 len v):Conc σ ι (Ax H h (.rows e sz xs)) (.arr h xs.length 0 len) v:=by
 have c:Ds v=true:=by
  unfold E4 at b
  split at b
  .rw [b.1]; rfl
  .rw [b.2]; rfl
  .exact b.elim
 refine .arr _ _ _ _ v (by rw [B8]; intro e; cases e) (fun j g f e'=>?_) c
 rw [B8] at e'; cases e'
 exact ⟨Nat.le_refl _,fun _=>b⟩
theorem An2 {T:Cj} (M:Ck P T) {t l:TypeId} {x y:Operand} {i b q:TI} {e e':TypeId} {h k len:Nat} {xs ys:List AV} (G:o.op = .call {callee:=.builtin .append,args:=#[x,y],argTypes:=#[t,l]})
  (ht:T t=some i) (hd:i.d = .slice e) (D:T l=some q) (J:q.d = .slice e') (Y:T e=some b) (N:0<b.size) (u:b.zero.length=b.size) (L:1<=b.bytes)
  (hx:ρ x = .arr h k 0 len) (I:xs.length=k) (hl:len<=k) (hy:ρ y = .sl b.size ys) (hb:(xs.length+ys.length)*b.bytes<=140737488355328) :
  Bv P o ρ ⟨.arr h (En xs len ys).length 0 (len+ys.length),[(h,.rows e b.size xs)],[(h,.rows e b.size (En xs len ys))]⟩:=by
 intro σ ι H F W w a next Q s j E hk
 have hh:H h = .rows e b.size xs:=E (h,.rows e b.size xs) (by simp)
 have f:=j x (by simp [G,Op.operands,Call.operands])
 have c:=j y (by simp [G,Op.operands,Call.operands])
 rw [hx] at f; rw [hy] at c
 have V:=f.arr_inv hh I
 obtain ⟨u1,B,e1⟩:=Hh (M t i ht) hd
 obtain ⟨u2,A,Z⟩:=Hh (M l q D) J
 subst e1; subst Z
 obtain ⟨Bz,g,R,h1,h2,h3⟩:=Vi (P:=P) s N c.sl_inv
 obtain ⟨S,U,w',X,le,s',z⟩:=Aei (P:=P) (ty:=o.type) s B A (.inl ⟨_,rfl⟩) (M e b Y) N u hh (by omega) V L hb R ⟨R.size,h1,h2,h3⟩
 exact Ea (Pk G rfl X) (hk σ S U w' le s' (Aej (by rw [Vl (by omega)]; omega) z))
theorem An3 {t s ty e:TypeId} {i:TypeInfo} {l:TypeDesc} (ht:P.underlying t=some (.slice e)) (j:P.underlying s=some l) (h:(∃e',l = .slice e')\/l = .string) (x:P.info? e=some i) (p:Option Addr) (c f:Nat) (g:Value)
  (u:Is P w g i.size 0 []) (k:c<=f) :
  (Builtin.append_ #[t,s] ty #[.slice p c f,g]).run P w = .ok (.slice p c f) w:=by
 have h1:=u.len w.drawn
 have h2:=u.cells w.drawn
 have y:({w with drawn:=w.drawn}:World)=w:=rfl
 rw [y] at h1 h2
 cases p with
 | none=>
  rcases h with ⟨e',rfl⟩ | rfl <;>
  simp [Builtin.append_,run_underlying ht,run_underlying j,sizeOf,typeInfo,x,h1,k,h2]
 | some b=>
  have q:(storeCells (b.add (c*i.size)) []).run P w = .ok () w:=by rw [storeCells]; rfl
  rcases h with ⟨e',rfl⟩ | rfl <;>
  simp [Builtin.append_,run_underlying ht,run_underlying j,sizeOf,typeInfo,x,h1,k,h2,q]
theorem An4 {T:Cj} (S:Ck P T) {t q:TypeId} {x y:Operand} {i l B:TI} {e e':TypeId} {sz:Nat} {xs:List AV} (L:o.op = .call {callee:=.builtin .append,args:=#[x,y],argTypes:=#[t,q]})
  (ht:T t=some i) (hd:i.d = .slice e) (I:T q=some B) (R:B.d = .slice e') (he:T e=some l) (hz:0<l.size)
  (hx:ρ x = .sl sz xs) (hy:ρ y = .sl l.size []) :
  Bv P o ρ ⟨.sl sz xs,[],[]⟩:=by
 intro σ ι H F W w a next Q s j a6 hk
 have c:=j x (by simp [L,Op.operands,Call.operands])
 have h:=j y (by simp [L,Op.operands,Call.operands])
 rw [hx] at c; rw [hy] at h
 obtain ⟨u1,G,e1⟩:=Hh (S t i ht) hd
 obtain ⟨u2,D,e2⟩:=Hh (S q B I) R
 subst e1; subst e2
 obtain ⟨Bz,g,J,_,_,_⟩:=Vi (P:=P) s hz h.sl_inv
 have M:Bz = []:=by
  have:=J.size
  simp at this
  exact this
 subst M
 obtain ⟨p,n,cap,f,N⟩:∃p n cap,a.eval x = .slice p n cap/\n<=cap:=by
  rcases c.sl_inv.sl_inv with ⟨rfl,p,cap,f⟩ | ⟨b,off,cap,C,E,fr,g,f,hσ,J,a7,hC,hl,k⟩
  .exact ⟨_,_,_,f,Nat.zero_le _⟩
  .exact ⟨_,_,_,f,k⟩
 obtain ⟨A,u',z',z,a1,Z,u,Y,X,V⟩:=Dq (S e l he)
 have U:=An3 (P:=P) (w:=w) (ty:=o.type) G D (.inl ⟨_,rfl⟩) z p n cap (a.eval y) (by rw [u]; exact J) N
 rw [<-f] at U
 exact Ea (Pk L rfl U) (hk σ ι _ w (Le.refl _ _ _) s c)
theorem An5 {T:Cj} (Y:Ck P T) {t B:TypeId} {x y:Operand} {i j D:TI} {e e':TypeId} {h k len Z f b:Nat} {xs:List AV} (R:o.op = .call {callee:=.builtin .append,args:=#[x,y],argTypes:=#[t,B]})
  (ht:T t=some i) (hd:i.d = .slice e) (L:T B=some D) (V:D.d = .slice e') (he:T e=some j) (hz:0<j.size) (E:j.zero.length=j.size) (X:1<=j.bytes)
  (hx:ρ x = .arr h k 0 len) (U:xs.length=k) (hl:len<=k) (hy:ρ y = .arr h Z f b) (S:xs.length=Z) (a1:f+b<=k) (hb:(xs.length+b)*j.bytes<=140737488355328) :
  Bv P o ρ ⟨.arr h (En xs len ((xs.drop f).take b)).length 0 (len+b),[(h,.rows e j.size xs)],[(h,.rows e j.size (En xs len ((xs.drop f).take b)))]⟩:=by
 intro σ ι H F W w a next Q s A M hk
 have hh:H h = .rows e j.size xs:=M (h,.rows e j.size xs) (by simp)
 have z:=A x (by simp [R,Op.operands,Call.operands])
 have u:=A y (by simp [R,Op.operands,Call.operands])
 rw [hx] at z; rw [hy] at u
 have hv:=z.arr_inv hh U
 have G:=u.arr_inv hh S
 obtain ⟨u1,J,e1⟩:=Hh (Y t i ht) hd
 obtain ⟨u2,I,e2⟩:=Hh (Y B D L) V
 subst e1; subst e2
 have l:((xs.drop f).take b).length=b:=by simp; omega
 obtain ⟨Bz,g,⟨p,c,N⟩,hf,hn⟩:=Aeh (P:=P) s hh G (by omega) b (Nat.le_refl _)
 have hs:Is P w (a.eval y) j.size ((xs.drop f).take b).length Bz:=by
  refine ⟨fun d=>?_,fun d=>?_,hn.len⟩
  .rw [N,l]; simp [Builtin.lenOf]
  .rw [l]; exact hf d
 obtain ⟨ι',v',w',hr,le,s',q⟩:=Aei (P:=P) (ty:=o.type) s J I (.inl ⟨_,rfl⟩) (Y e j he) hz E hh (by omega) hv X (by rw [l]; exact hb) hs hn
 rw [l] at q
 exact Ea (Pk R rfl hr) (hk σ ι' v' w' le s' (Aej (by rw [Vl (by omega),l]; omega) q))
theorem Zv {t f ty:TypeId} {x y:Operand} (h:o.op = .call {callee:=.builtin .copy,args:=#[x,y],argTypes:=#[t,f]}) (b:o.type=ty) {c:Value} (g:(Builtin.copy_ #[t,f] ty #[a.eval x,a.eval y]).run P w = .ok c w') :
  (execOp a.eval o).run P w = .ok (.value c) w':=by
 subst b
 simp [execOp,h,resolve,invoke,builtin,g]
theorem An6 {T:Cj} (Y:Ck P T) {t t':TypeId} {x y:Operand} {i l:TI} {e:TypeId} {h k off len V j f:Nat} {xs:List AV} (L:o.op = .call {callee:=.builtin .copy,args:=#[x,y],argTypes:=#[t,t']})
  (ht:T t=some i) (hd:i.d = .slice e) (he:T e=some l) (hz:0<l.size)
  (hx:ρ x = .arr h k off len) (U:xs.length=k) (hl:off+len<=k) (hy:ρ y = .arr h V j f) (S:xs.length=V) (a7:j+f<=k) :
  Bv P o ρ ⟨.val (.int .i64 (min f len:Nat)),[(h,.rows e l.size xs)],[(h,.rows e l.size (En xs off ((xs.drop j).take (min f len))))]⟩:=by
 intro σ ι H F W w a next Q s G R hk
 have hh:H h = .rows e l.size xs:=R (h,.rows e l.size xs) (by simp)
 have E:=G x (by simp [L,Op.operands,Call.operands])
 have D:=G y (by simp [L,Op.operands,Call.operands])
 rw [hx] at E; rw [hy] at D
 have q:=E.arr_inv hh U
 have M:=D.arr_inv hh S
 obtain ⟨u1,A,e1⟩:=Hh (Y t i ht) hd
 subst e1
 have B:=J3 (Y e l he)
 have z:((xs.drop j).take (min f len)).length=min f len:=by simp; omega
 obtain ⟨Bz,g,⟨p,c,u⟩,hf,hn⟩:=Aeh (P:=P) s hh M (by omega) (min f len) (by omega)
 have hf:=hf w.drawn
 have ew:({w with drawn:=w.drawn}:World)=w:=rfl
 rw [ew,u] at hf
 have X:xs.length<=140737488355328:=by
  have:=s.obj h
  unfold Cf at this; rw [hh] at this
  exact this.2.1
 have I:Nat.min f len=min f len:=rfl
 unfold E4 at q
 split at q
 .obtain ⟨q,rfl,rfl⟩:=q
  have Z:En xs 0 ((xs.drop j).take (min f 0))=xs:=by simp [En]
  refine Ea (v:=.int .i64 ((min f 0:Nat):Int)) (Zv L rfl ?_) (hk σ ι _ w ?_ ?_ (.of_val _))
  .simp only [Builtin.copy_,q,u]
   simp [run_underlying A,Builtin.lenOf,B,hf,goInt]
   have J:=hf
   simp at J
   simp [J]
  .show Le σ ι H σ ι (Ax H h (.rows e l.size _)); rw [Z,<-hh,Gf]; exact Le.refl _ _ _
  .show St σ ι (Ax H h (.rows e l.size _)) F W w; rw [Z,<-hh,Gf]; exact s
 .rename_i b a1 hb
  obtain ⟨a6,q⟩:=q
  obtain ⟨w',N,le,s'⟩:=Zu (P:=P) s hh hb (d:=off) (by omega) (by rw [z]; omega) (by rw [z]; omega) hz hn
  refine Ea (v:=.int .i64 ((min f len:Nat):Int)) (Zv L rfl ?_) (hk σ ι _ w' le s' (.of_val _))
  simp only [Builtin.copy_,q,u]
  simp [run_underlying A,Builtin.lenOf,B,hf,N,goInt,I]
 .exact q.elim
theorem An7 {T:Cj} (L:Ck P T) {t M:TypeId} {x y:Operand} {i f:TI} {e:TypeId} {sz h J g j:Nat} {E:TypeId} {xs:List AV} (G:o.op = .call {callee:=.builtin .copy,args:=#[x,y],argTypes:=#[t,M]})
  (ht:T t=some i) (hd:i.d = .slice e) (R:T e=some f) (hx:ρ x = .sl sz []) (hy:ρ y = .arr h J g j) (I:xs.length=J) :
  Bv P o ρ ⟨.val (.int .i64 0),[(h,.rows E f.size xs)],[]⟩:=by
 intro σ ι H F W w a next Q s A B hk
 have hh:H h = .rows E f.size xs:=B (h,.rows E f.size xs) (by simp)
 have z:=A x (by simp [G,Op.operands,Call.operands])
 have u:=A y (by simp [G,Op.operands,Call.operands])
 rw [hx] at z; rw [hy] at u
 have b:=u.arr_inv hh I
 obtain ⟨_,q,cap,N⟩:=z.sl_inv.sl_len
 obtain ⟨U,k,S⟩:=Hh (L t i ht) hd
 subst S
 have l:=J3 (L e f R)
 obtain ⟨p,c,m,D⟩:∃p c m,a.eval y = .slice p m c:=by
  unfold E4 at b
  split at b
  .exact ⟨_,_,_,b.1⟩
  .exact ⟨_,_,_,b.2⟩
  .exact b.elim
 have hf:(Builtin.firstCells f.size 0 (.slice p m c)).run P w = .ok #[] w:=by
  cases p with
  | none=>simp [Builtin.firstCells]
  | some a=>simp [Builtin.firstCells,loadCells,loadCellsFrom]
 refine Ea (v:=.int .i64 0) (Zv G rfl ?_) (hk σ ι _ w (Le.refl _ _ _) s (.of_val _))
 simp only [Builtin.copy_,N,D]
 cases q with
 | none=>simp [run_underlying k,Builtin.lenOf,l,hf,goInt]
 | some a=>simp [run_underlying k,Builtin.lenOf,l,hf,goInt,storeCells]
theorem An8 {T:Cj} (U:Ck P T) {t:TypeId} {x:Operand} {lo J:Option Operand} {i S:TI} {e:TypeId} {f k off len:Nat} {E:TypeId} {sz j:Nat} {xs:List AV} {l:Nat} (B:o.op = .slice t x lo J none) (ht:T t=some i) (hd:i.d = .slice e) (he:T e=some S)
  (hx:ρ x = .arr f k off len) (I:xs.length=k) (D:F3 ρ 0 lo=some (l:Int)) (L:F3 ρ (len:Int) J=some (l:Int)) (h2:l<=len) :
  Bv P o ρ ⟨.sl j [],[(f,.rows E sz xs)],[]⟩:=by
 intro σ ι H F W w a next Q s h A hk
 have hh:H f = .rows E sz xs:=A (f,.rows E sz xs) (by simp)
 have hp:=h x (by simp [B,Op.operands])
 rw [hx] at hp
 have b:=hp.arr_inv hh I
 obtain ⟨R,u,z,k1,V,k3,k4,k5,k6,N⟩:=Dq (U t i ht)
 rw [hd] at N; subst N
 have X:=J3 (U e S he)
 have M:∀(cap:Nat),len<=cap->∀w,(Instr.sliceBounds true len cap (lo.map a.eval) (J.map a.eval) none).run P w = .ok (l,l,cap) w :=
  fun cap g w=>Vd D L (fun y hy=>h y (by rw [B]; exact Ve hy)) (Nat.le_refl _) (by omega) w
 have key:∀(p:Option Addr) (cap:Nat),len<=cap->a.eval x = .slice p len cap->∃q c,(execOp a.eval o).run P w = .ok (.value (.slice q 0 c)) w:=by
  intro p cap g b
  have:=M cap g w
  simp only [execOp,B,b,Instr.sliceAt,Instr.slice,Sem.run_bind,run_underlying V,Result.andThen_ok,Option.map_none,this,X w,Sem.run_pure,Nat.sub_self]
  exact ⟨_,_,rfl⟩
 have:∃q c,(execOp a.eval o).run P w = .ok (.value (.slice q 0 c)) w:=by
  unfold E4 at b
  split at b
  .obtain ⟨b,_,G⟩:=b
   exact key none 0 (by omega) (by rw [G]; exact b)
  .obtain ⟨Z,b⟩:=b
   exact key _ _ (by omega) b
  .exact b.elim
 obtain ⟨q,c,Y⟩:=this
 exact Ea Y (hk σ ι _ w (Le.refl _ _ _) s (.cc (.nil _ _ _)))
theorem Vm {t ty:TypeId} {x:Operand} (g:o.op = .call {callee:=.builtin .clear,args:=#[x],argTypes:=#[t]}) (b:o.type=ty) {c:Value} (f:(Builtin.clear_ #[t] ty #[a.eval x]).run P w = .ok c w') :
  (execOp a.eval o).run P w = .ok (.value c) w':=by
 subst b
 simp [execOp,g,resolve,invoke,builtin,f]
theorem An9 {T:Cj} (hT:Ck P T) {t:TypeId} {x:Operand} {i f:TI} {e:TypeId} {h k off len:Nat} {xs:List AV} (M:o.op = .call {callee:=.builtin .clear,args:=#[x],argTypes:=#[t]})
  (ht:T t=some i) (hd:i.d = .slice e) (he:T e=some f) (hz:0<f.size) (A:Ir f.size (D4 f)=true) (E:(D4 f).cells=f.zero.map .val)
  (hx:ρ x = .arr h k off len) (a8:xs.length=k) (hl:off+len<=k) :
  Bv P o ρ ⟨.tup [],[(h,.rows e f.size xs)],[(h,.rows e f.size (En xs off (List.replicate len (D4 f))))]⟩:=by
 intro σ ι H F W w a next Q s Y X hk
 have hh:H h = .rows e f.size xs:=X (h,.rows e f.size xs) (by simp)
 have G:=Y x (by simp [M,Op.operands,Call.operands])
 rw [hx] at G
 have g:=G.arr_inv hh a8
 obtain ⟨u1,z,e1⟩:=Hh (hT t i ht) hd
 subst e1
 obtain ⟨S,u',l,R,ag,N,af,ae,D,ad⟩:=Dq (hT e f he)
 have U:(zeroValue e).run P w = .ok l w:=by simp [zeroValue,typeInfo,R,N]
 have u:l.cells.size=f.size:=by
  have:=congrArg List.length E
  rw [(Kx A).1,List.length_map,D,Array.length_toList] at this
  exact this.symm
 have ab:xs.length<=140737488355328:=by
  have:=s.obj h
  unfold Cf at this; rw [hh] at this
  exact this.2.1
 have y:∀(σ:Aq) (ι:Bm) (H:Hp),Conc σ ι H (.tup []) (.tuple #[]):=fun σ ι H=>.tup [] #[] rfl (fun i c v h _=>by simp at h)
 unfold E4 at g
 split at g
 .obtain ⟨g,rfl,rfl⟩:=g
  have L:En xs 0 (List.replicate 0 (D4 f))=xs:=by simp [En]
  refine Ea (v:=.tuple #[]) (Vm M rfl ?_) (hk σ ι _ w ?_ ?_ (y _ _ _))
  .simp only [Builtin.clear_,g]
   simp [run_underlying z]
  .show Le σ ι H σ ι (Ax H h (.rows e f.size _)); rw [L,<-hh,Gf]; exact Le.refl _ _ _
  .show St σ ι (Ax H h (.rows e f.size _)) F W w; rw [L,<-hh,Gf]; exact s
 .rename_i b ac hb
  obtain ⟨ah,g⟩:=g
  by_cases a7:len=0
  .subst a7
   have L:En xs off (List.replicate 0 (D4 f))=xs:=by simp [En]
   refine Ea (v:=.tuple #[]) (Vm M rfl ?_) (hk σ ι _ w ?_ ?_ (y _ _ _))
   .simp only [Builtin.clear_,g]
    simp [run_underlying z]
   .show Le σ ι H σ ι (Ax H h (.rows e f.size _)); rw [L,<-hh,Gf]; exact Le.refl _ _ _
   .show St σ ι (Ax H h (.rows e f.size _)) F W w; rw [L,<-hh,Gf]; exact s
  .have B:∀q,q<len*f.size->(Builtin.zeroCells l.cells len).toList[q]? = l.cells[q % f.size]?:=by
    intro q hq
    have hm:q % f.size<l.cells.size:=by rw [u]; exact Nat.mod_lt _ hz
    have Z:l.cells[q % f.size]! = l.cells[q % f.size]:=by simp [hm]
    simp [Builtin.zeroCells,hq,u,Z,hm]
   have hn:Nr σ f.size (List.replicate len (D4 f)) (Builtin.zeroCells l.cells len).toList (fun _ j=>(l.cells[j]?).getD undef):=by
    refine ⟨by simp [Builtin.zeroCells,u],?_,?_,?_⟩
    .intro j x' J
     have:=List.mem_of_getElem? J
     simp at this
     rw [this.2]; exact (Kx A).1
    .intro j x' q c' J hq
     have:=List.mem_of_getElem? J
     simp at this
     rw [this.2] at hq
     have aa:=(Kx A).2 c' (List.mem_of_getElem? hq)
     rw [E,List.getElem?_map,D,Array.getElem?_toList] at hq
     cases g:l.cells[q]? with
     | none=>rw [g] at hq; simp at hq
     | some v=>
      rw [g] at hq; simp at hq; subst hq
      exact ⟨.val v,aa⟩
    .intro j q J hq
     have hj':j<len:=by simpa using J
     have a1:j*f.size+q<len*f.size:=by
      have:(j+1)*f.size<=len*f.size:=Nat.mul_le_mul_right _ (by omega)
      rw [Nat.add_mul] at this; omega
     rw [B _ a1]
     have:(j*f.size+q) % f.size=q:=by rw [Nat.mul_comm,Nat.mul_add_mod,Nat.mod_eq_of_lt hq]
     rw [this]
     have I:q<l.cells.size:=by omega
     simp [I]
   obtain ⟨w',V,le,s'⟩:=Zu (P:=P) s hh hb (d:=off) (by omega) (by rw [List.length_replicate]; omega) (by rw [List.length_replicate]; omega) hz hn
   refine Ea (v:=.tuple #[]) (Vm M rfl ?_) (hk σ ι _ w' le s' (y _ _ _))
   have a6:∃m,len=m+1:=⟨len-1,by omega⟩
   obtain ⟨m,rfl⟩:=a6
   simp only [Builtin.clear_,g]
   simp [run_underlying z,U,V]
 .exact g.elim
theorem Aoa {T:Cj} (u:Ck P T) {t:TypeId} {x:Operand} {i:TI} {e:TypeId} {sz:Nat} (j:o.op = .call {callee:=.builtin .clear,args:=#[x],argTypes:=#[t]})
  (ht:T t=some i) (hd:i.d = .slice e) (hx:ρ x = .sl sz []):Bv P o ρ ⟨.tup [],[],[]⟩:=by
 intro σ ι H F W w a next Q s g l hk
 have b:=g x (by simp [j,Op.operands,Call.operands])
 rw [hx] at b
 obtain ⟨_,q,cap,k⟩:=b.sl_inv.sl_len
 obtain ⟨z,f,y⟩:=Hh (u t i ht) hd
 subst y
 refine Ea (v:=.tuple #[]) (Vm j rfl ?_) (hk σ ι _ w (Le.refl _ _ _) s (.tup [] #[] rfl (fun i c v h _=>by simp at h)))
 simp only [Builtin.clear_,k]
 cases q <;> simp [run_underlying f]
end
end Go.Ab
namespace Go.Ab
theorem St.newMap {σ:Aq} {ι:Bm} {H:Hp} {F:Aq} {W w:World} (s:St σ ι H F W w) (h:Nat) (j:H h = .none) :
  St σ (Ax ι h (.box w.heap.size)) (Ax H h (.map [])) F W (w.alloc (.map #[] 0))/\Le σ ι H σ (Ax ι h (.box w.heap.size)) (Ax H h (.map [])):=by
 have g:ι h = .none:=by have:=s.obj h; unfold Cf at this; rw [j] at this; exact this
 have le:Le σ ι H σ (Ax ι h (.box w.heap.size)) (Ax H h (.map [])):=Le.upd (Aq.le_refl σ) h _ _ (by rw [g,j]; exact HLe.of_none)
 obtain ⟨c,f⟩:=s.fresh
 refine ⟨s.touch h w.heap.size (fun x e=>Cr _ _ e) (fun x e=>Cr _ _ e) le ?_ (fun _ _=>rfl) (fun o i=>by rw [c] at i; cases i) ?_ f ?_ ?_ rfl rfl rfl,le⟩
 .intro b hb
  show (w.heap.push _)[b]? = _
  rw [Array.getElem?_push,if_neg hb]
 .intro x e k hb
  have:=(s.block k hb).1
  omega
 .intro b _ hb
  rw [B8] at hb; simp [Loc.block?] at hb
  exact .inl hb.symm
 .unfold Cf
  rw [B8]
  refine ⟨w.heap.size,#[],0,B8 _ _ _,c,f,?_,rfl,by simp⟩
  show (w.heap.push _)[w.heap.size]? = _
  simp
theorem St.setMap {σ:Aq} {ι:Bm} {H:Hp} {F:Aq} {W w:World} (s:St σ ι H F W w) (h:Nat) (es c:List (AV×AV)) (hh:H h = .map es) (b:Nat) (hb:ι h = .box b)
  (g:Array MapEntry) (i:Nat) (y:No σ c g) :
  St σ ι (Ax H h (.map c)) F W {w with heap:=w.heap.setIfInBounds b (.map g i)}/\Le σ ι H σ ι (Ax H h (.map c)):=by
 have j:=s.obj h
 unfold Cf at j
 rw [hh] at j
 obtain ⟨B,M,t,q,h1,h2,h3,z⟩:=j
 rw [hb] at q; cases q
 have le:Le σ ι H σ ι (Ax H h (.map c)):=by
  have:=Le.upd (ι:=ι) (H:=H) (Aq.le_refl σ) h (ι h) (.map c) (by rw [hh]; exact ⟨fun _ e=>e,(fun _ e=>by cases e),(fun _ _ _ _ e=>by cases e)⟩)
  rwa [Gf] at this
 have f:=Go.MapKept.heap_set (w:=w) (o':=.map g i) h3
 refine ⟨s.touch h b (fun _ _=>rfl) (fun x e=>Cr _ _ e) le (fun x e=>f.2 x e) (fun _ _=>rfl) (fun o e=>by rw [h1] at e; cases e) ?_ h2 ?_ ?_ rfl rfl rfl,le⟩
 .intro x e u k
  exact e (s.inj x h b u (by rw [hh]; rfl) k (by rw [hb]; rfl))
 .intro A _ l
  exact .inr ⟨by rw [hh]; rfl,l⟩
 .unfold Cf
  rw [B8]
  exact ⟨b,g,i,hb,h1,h2,f.1,y⟩
def G1 (s:ByteArray):List (AV×AV)->Nat->Option (Option (Nat×AV))
 | [],_=>some none
 | p::es,i=>
  match p.1 with
  | .val (.string t)=>bif s==t then some (some (i,p.2)) else G1 s es (i+1)
  | _=>none
def Vn (s:ByteArray) (v:AV) (es:List (AV×AV)):Option (List (AV×AV)) :=
 match G1 s es 0 with
 | none=>none
 | some none=>some (es++[(.val (.string s),v)])
 | some (some p)=>some (es.set p.1 (.val (.string s),v))
theorem Zw {σ:Aq} {s:ByteArray}:∀(es:List (AV×AV)) (L:List MapEntry) (i:Nat) (r:Option (Nat×AV)),L.length=es.length ->
  (∀(j:Nat) (p:AV×AV) (e:MapEntry),es[j]? = some p->L[j]? = some e->CC σ p.1 e.key/\CC σ p.2 e.val)->G1 s es i=some r ->
  (r=none/\Instr.findNow .string (.string s) L i=some none)\/∃j v e,r=some (i+j,v)/\Instr.findNow .string (.string s) L i=some (some (i+j,e.val))/\L[j]? = some e/\e.key = .string s/\CC σ v e.val/\j<es.length
 | [],[],i,r,g,h,b=>by
  simp only [G1] at b; cases b
  exact .inl ⟨rfl,rfl⟩
 | [],e::L,i,r,g,h,b=>by simp at g
 | p::es,[],i,r,g,h,b=>by simp at g
 | p::es,e::L,i,r,g,h,b=>by
  obtain ⟨hk,l⟩:=h 0 p e rfl rfl
  simp only [G1] at b
  split at b
  .rename_i t hp
   rw [hp] at hk
   have f:e.key = .string t:=by
    generalize e.key=q at hk
    cases hk; rfl
   cases c:s==t with
   | true=>
    rw [c] at b
    cases b
    have u:s=t:=(Go.MapKept.bytes_beq s t).1 c
    refine .inr ⟨0,p.2,e,rfl,?_,rfl,?_,l,by simp⟩
    .unfold Instr.findNow
     rw [f]
     simp [Instr.sameNow,c]
    .rw [f,u]
   | false=>
    rw [c] at b
    have step:Instr.findNow .string (.string s) (e::L) i=Instr.findNow .string (.string s) L (i+1):=by
     conv=>lhs; unfold Instr.findNow
     rw [f]
     simp [Instr.sameNow,c]
    rcases Zw es L (i+1) r (by simpa using g) (fun j k e' h1 h2=>h (j+1) k e' (by simpa using h1) (by simpa using h2)) b with ⟨h1,h2⟩ | ⟨j,v,e',h1,h2,h3,z,y,x⟩
    .exact .inl ⟨h1,by rw [step]; exact h2⟩
    .exact .inr ⟨j+1,v,e',by rw [h1]; congr 2; omega,by rw [step,h2]; congr 3; omega,by simpa using h3,z,y,by simpa using x⟩
  .cases b
section
variable {P:Program} {o:Oper} {ρ:Operand->AV} {a:Act} {w w':World} {next:Act->World->Prop} {Q:Exit->Act->World->Prop}
def F4:List AV->Option (List Value)
 | []=>some []
 | .val v::xs=>(F4 xs).map (v :: ·)
 | _::_=>none
theorem Ns {σ:Aq} {ι:Bm} {H:Hp}:∀{xs:List AV} {b:List Value} {vs:List Value},F4 xs=some b->vs.length=xs.length->(∀(i:Nat) (c:AV) (v:Value),xs[i]? = some c->vs[i]? = some v->Conc σ ι H c v)->vs=b
 | [],b,vs,h,f,_=>by
  simp only [F4] at h; cases h
  exact List.length_eq_zero_iff.1 f
 | .val v::xs,b,[],h,f,_=>by simp at f
 | .val v::xs,b,w::vs,h,f,hc=>by
  simp only [F4,Option.map_eq_some_iff] at h
  obtain ⟨g,h1,rfl⟩:=h
  have k:=(hc 0 _ w rfl rfl).val_inv
  have j:=Ns (vs:=vs) h1 (by simpa using f) (fun i c u g1 g2=>hc (i+1) c u (by simpa using g1) (by simpa using g2))
  rw [k,j]
 | .loc .. :: _,_,_,h,_,_ | .arr .. :: _,_,_,h,_,_ | .el .. :: _,_,_,h,_,_ | .mp .. :: _,_,_,h,_,_ | .ref .. :: _,_,_,h,_,_
 | .sl .. :: _,_,_,h,_,_ | .agg .. :: _,_,_,h,_,_ | .tup .. :: _,_,_,h,_,_ | .fn .. :: _,_,_,h,_,_=>by simp [F4] at h
def Lk (P:Program) (t:TypeId) (c vs:List Value) (b:Bool):Prop :=
 ∀(w:World) (op:BinOp) (x y:Operand),(eqGuard op t x y (.agg c.toArray) (.agg vs.toArray)).run P w = .ok () w/\(Op.equal t (.agg c.toArray) (.agg vs.toArray)).run P w = .ok b w
theorem Aek {t:TypeId} {k:IntKind} {xs:Array Value} {off:Nat} {v:Value} (w:World) (ht:P.underlying t=some (.int k)) (hx:xs[off]? = some v):(part t xs off).run P w = .ok v w:=by
 simp [part,isAgg,run_underlying ht,hx]
theorem Aob {t:TypeId} {k b:IntKind} (w:World) (ht:P.underlying t=some (.int k)) (d:Nat) (m n:Int):(Op.equalIn (d+1) t (.int b m) (.int b n)).run P w = .ok (m==n) w:=by
 simp [Op.equalIn,run_underlying ht]
theorem Ael {op:BinOp} {t s:TypeId} {x y:Operand} {xs ys:List AV} {f vs:List Value} {b c:Bool} (g:o.op = .binOp op t x y s) (hx:ρ x = .agg xs) (hy:ρ y = .agg ys) (h1:F4 xs=some f) (h2:F4 ys=some vs)
  (hb:Lk P t f vs b) (hc:(op = .eql/\c=b)\/(op = .neq/\c = !b)):Bv P o ρ ⟨.val (.bool c),[],[]⟩ :=
 Dt fun σ ι H a w h=>by
  refine ⟨.bool c,?_,.of_val _⟩
  have q:=h x (by simp [g,Op.operands])
  have l:=h y (by simp [g,Op.operands])
  rw [hx] at q; rw [hy] at l
  obtain ⟨k,E,B,I⟩:=q.agg_inv
  obtain ⟨j,D,A,G⟩:=l.agg_inv
  have g1:k=f.toArray:=by
   have:=Ns (vs:=k.toList) h1 (by simpa using B) (fun i c v m1 m2=>I i c v m1 (by simpa using m2))
   rw [<-this]
  have g2:j=vs.toArray:=by
   have:=Ns (vs:=j.toList) h2 (by simpa using A) (fun i c v m1 m2=>G i c v m1 (by simpa using m2))
   rw [<-this]
  subst g1; subst g2
  obtain ⟨z,u⟩:=hb w op x y
  rcases hc with ⟨rfl,rfl⟩ | ⟨rfl,rfl⟩
  all_goals
   simp only [execOp,g,E,D,Sem.run_bind,z,Result.andThen_ok,binOp,u,Sem.run_pure]
def Zx (P:Program) (s:TypeId) (f:Nat):Option TypeId :=
 match P.underlying s with
 | some (.struct fields)=>(fields[f]?).map (·.type)
 | _=>none
theorem Aem {T:Cj} (I:Ck P T) {t z:TypeId} {x:Operand} {f:Nat} {i g:TI} {fs:List (Nat×Nat)} {q:Nat×Nat} {cs:List AV} {r:AV} (G:o.op = .field t x f) (ht:T t=some i) (hd:i.d = .struct fs) (hq:fs[f]? = some q) (y:Zx P t f=some z)
  (L:T z=some g) (hx:ρ x = .agg cs) (V:(g.isAgg=true/\q.1+g.size<=cs.length/\r = .agg ((cs.drop q.1).take g.size))\/(g.isAgg=false/\cs[q.1]? = some r)):Bv P o ρ ⟨r,[],[]⟩ :=
 Dt fun σ ι H a w h=>by
  have hc:=h x (by simp [G,Op.operands])
  rw [hx] at hc
  obtain ⟨vs,M,R,N⟩:=hc.agg_inv
  obtain ⟨_,u,_,_,D,_,_,_,_,J⟩:=Dq (I t i ht)
  rw [hd] at J
  obtain ⟨fields,rfl,S,_⟩:=J
  unfold Zx at y
  rw [D] at y
  simp only [Option.map_eq_some_iff] at y
  obtain ⟨A,g1,g2⟩:=y
  have b:q.1=A.offset:=by
   rw [S,List.getElem?_map,Array.getElem?_toList,g1] at hq
   simp at hq; rw [<-hq]
  have l:=Vc (I z g L) w
  have E:=J3 (I z g L) w
  subst g2
  rcases V with ⟨B,s,rfl⟩ | ⟨B,s⟩
  .refine ⟨.agg (vs.extract A.offset (A.offset+g.size)),?_,.agg _ _ (by simp [b] at s ⊢; omega) fun j c u m1 m2=>?_⟩
   .simp [execOp,G,M,Instr.field,run_underlying D,g1,asAgg,part,l,B,E,Result.andThen]
   .rw [b] at m1
    have X:j<g.size:=by
     have:=(List.getElem?_eq_some_iff.1 m1).1; simp at this; omega
    rw [List.getElem?_take_of_lt X,List.getElem?_drop] at m1
    rw [Array.getElem?_extract] at m2
    split at m2
    .exact N _ c u m1 m2
    .cases m2
  .have k:q.1<vs.size:=by rw [R]; exact (List.getElem?_eq_some_iff.1 s).1
   have U:vs[A.offset]? = some vs[q.1]:=by rw [<-b]; simp [k]
   refine ⟨vs[q.1],?_,N q.1 r _ s (by simp [k])⟩
   simp [execOp,G,M,Instr.field,run_underlying D,g1,asAgg,part,l,B,U,Result.andThen]
theorem Aoc {t:TypeId} (h:Nat) (c:o.op = .makeMap t none):Bv P o ρ ⟨.mp h,[(h,.none)],[(h,.map [])]⟩:=by
 intro σ ι H F W w a next Q s hx b hk
 have f:H h = .none:=b (h,.none) (by simp)
 obtain ⟨s',le⟩:=s.newMap h f
 refine Ea (v:=.map (some w.heap.size)) (w':=w.alloc (.map #[] 0)) ?_ (hk σ _ _ _ le s' (.mp h w.heap.size (B8 _ _ _)))
 simp [execOp,c,Instr.makeMap,newObj,Sem.run]
theorem Conc.mp_inv {σ:Aq} {ι:Bm} {H:Hp} {h:Nat} {v:Value} (hc:Conc σ ι H (.mp h) v):∃b,ι h = .box b/\v = .map (some b):=by
 cases hc with
 | cc h=>cases h
 | mp _ b hb=>exact ⟨b,hb,rfl⟩
def Pl (b:Bool) (i:TI):Option (Nat×AV)->AV
 | none=>bif b then .tup [D4 i,.val (.bool false)] else D4 i
 | some p=>bif b then .tup [p.2,.val (.bool true)] else p.2
theorem Aen {σ:Aq} {ι:Bm} {H:Hp} {i:TI} {z:Value} (h1:z.cells.toList=i.zero) (h2:i.isAgg=true->∃vs,z = .agg vs) (h3:i.isAgg=false->Ds z=true):Conc σ ι H (D4 i) z:=by
 cases b:i.isAgg with
 | true=>
  obtain ⟨vs,rfl⟩:=h2 b
  have f:D4 i = .agg (i.zero.map .val):=by
   unfold TI.isAgg at b
   unfold D4
   cases hd:i.d <;> rw [hd] at b <;> first | rfl | cases b
  rw [f,<-h1]
  refine .agg _ vs (by simp [Value.cells]) fun j c v g1 g2=>?_
  simp only [Value.cells,List.getElem?_map,Array.getElem?_toList,g2] at g1
  simp at g1; subst g1; exact .of_val v
 | false=>
  have h3:=h3 b
  have f:z.cells = #[z]:=by cases z <;> first | rfl | cases h3
  rw [f] at h1
  have:D4 i = .val z:=by
   unfold TI.isAgg at b
   unfold D4
   rw [<-h1]
   cases hd:i.d <;> rw [hd] at b <;> first | rfl | cases b
  rw [this]; exact .of_val z
theorem Aod {T:Cj} (hT:Ck P T) {t U et:TypeId} {x y:Operand} {D:Bool} {i V G:TI} {h:Nat} {es:List (AV×AV)} {s:ByteArray} {r:Option (Nat×AV)} (B:o.op = .lookup t x y D) (ht:T t=some i) (hd:i.d = .map U et)
  (hk:T U=some V) (Z:V.d = .string) (he:T et=some G) (hx:ρ x = .mp h) (hy:ρ y = .val (.string s)) (hr:G1 s es 0=some r) :
  Bv P o ρ ⟨Pl D G r,[(h,.map es)],[]⟩:=by
 intro σ ι H F W w a next Q st L X Y
 have hh:H h = .map es:=X (h,.map es) (by simp)
 have N:=L x (by simp [B,Op.operands])
 rw [hx] at N
 obtain ⟨b,hb,S⟩:=N.mp_inv
 have g:=C3 hy (L y (by simp [B,Op.operands]))
 have A:=st.obj h
 unfold Cf at A; rw [hh] at A
 obtain ⟨b',M,q,e1,_,_,h3,h4⟩:=A
 rw [hb] at e1; cases e1
 obtain ⟨_,u,_,_,R,_,_,_,_,k7⟩:=Dq (hT t i ht)
 rw [hd] at k7; subst k7
 obtain ⟨_,u',_,_,f,_,_,_,_,E⟩:=Dq (hT U V hk)
 rw [Z] at E; subst E
 have k:Go.MapKept.IsKey .string (.string s):=trivial
 have l:∀v,Conc σ ι H (Pl D G r) v->(execOp a.eval o).run P w = .ok (.value v) w->o.wp P a w next Q:=by
  intro v hc J
  exact Ea J (Y σ ι v w (Le.refl _ _ _) st hc)
 rcases Zw es M.toList 0 r (by simpa using h4.1) (fun j p e g1 g2=>h4.2 j p e g1 (by simpa using g2)) hr with ⟨rfl,hf⟩ | ⟨j,v,e,rfl,hf,g1,g2,g3,_⟩
 .obtain ⟨z,hz,c1,c2,c3⟩:=Ad5 (hT et G he) w
  have I:Conc σ ι H (D4 G) z:=Aen c1 c2 c3
  cases D with
  | true=>
   refine l (.tuple #[z,.bool false]) (.tup _ _ (by simp) fun i c u m1 m2=>?_) ?_
   .match i with
    | 0=>simp at m1 m2; subst m1; subst m2; exact I
    | 1=>simp at m1 m2; subst m1; subst m2; exact .of_val _
    | i+2=>simp at m1
   .simp [execOp,B,S,g,Instr.lookup,run_underlying R,Go.MapKept.run_getObj_map h3,Go.MapKept.run_checkKey f k,Go.MapKept.run_findKey f hf,hz,Result.andThen]
  | false=>
   refine l z I ?_
   simp [execOp,B,S,g,Instr.lookup,run_underlying R,Go.MapKept.run_getObj_map h3,Go.MapKept.run_checkKey f k,Go.MapKept.run_findKey f hf,hz,Result.andThen]
 .cases D with
  | true=>
   refine l (.tuple #[e.val,.bool true]) (.tup _ _ (by simp) fun i c u m1 m2=>?_) ?_
   .match i with
    | 0=>simp at m1 m2; subst m1; subst m2; exact .cc g3
    | 1=>simp at m1 m2; subst m1; subst m2; exact .of_val _
    | i+2=>simp at m1
   .simp [execOp,B,S,g,Instr.lookup,run_underlying R,Go.MapKept.run_getObj_map h3,Go.MapKept.run_checkKey f k,Go.MapKept.run_findKey f hf,Result.andThen]
  | false=>
   refine l e.val (.cc g3) ?_
   simp [execOp,B,S,g,Instr.lookup,run_underlying R,Go.MapKept.run_getObj_map h3,Go.MapKept.run_checkKey f k,Go.MapKept.run_findKey f hf,Result.andThen]
theorem Conc.cc_free1 {σ:Aq} {ι:Bm} {H:Hp} {x:AV} {v:Value} (hx:x.free1=true) (h:Conc σ ι H x v):CC σ x v:=by
 cases x with
 | agg cs=>
  obtain ⟨vs,rfl,b,h⟩:=h.agg_inv
  exact .agg cs vs b fun i c u h1 h2=>((h i c u h1 h2).cc_of (List.all_eq_true.1 hx c (List.mem_of_getElem? h1))).1
 | val u=>exact (h.cc_of (x:=.val u) hx).1
 | sl sz xs=>exact (h.cc_of (x:=.sl sz xs) hx).1
 | _=>cases hx
theorem Aoe {T:Cj} (hT:Ck P T) {t Z et:TypeId} {x y z:Operand} {i ik:TI} {h:Nat} {es g:List (AV×AV)} {s:ByteArray} (R:o.op = .mapUpdate t x y z) (ht:T t=some i) (hd:i.d = .map Z et)
  (hk:T Z=some ik) (a7:ik.d = .string) (hx:ρ x = .mp h) (hy:ρ y = .val (.string s)) (hz:(ρ z).free1=true) (k:Vn s (ρ z) es=some g) :
  Bv P o ρ ⟨.val undef,[(h,.map es)],[(h,.map g)]⟩:=by
 intro σ ι H F W w a next Q st l a1 a6
 have hh:H h = .map es:=a1 (h,.map es) (by simp)
 have V:=l x (by simp [R,Op.operands])
 rw [hx] at V
 obtain ⟨b,hb,hv⟩:=V.mp_inv
 have L:=C3 hy (l y (by simp [R,Op.operands]))
 have U:=(l z (by simp [R,Op.operands])).cc_free1 hz
 have A:=st.obj h
 unfold Cf at A; rw [hh] at A
 obtain ⟨b',M,q,e1,_,_,h3,f⟩:=A
 rw [hb] at e1; cases e1
 obtain ⟨_,u,_,_,k2,_,_,_,_,k7⟩:=Dq (hT t i ht)
 rw [hd] at k7; subst k7
 obtain ⟨_,u',_,_,c,_,_,_,_,J⟩:=Dq (hT Z ik hk)
 rw [a7] at J; subst J
 have D:Go.MapKept.IsKey .string (.string s):=trivial
 have S:∀X Y,No σ g X->(execOp a.eval o).run P w = .ok .skip {w with heap:=w.heap.setIfInBounds b (.map X Y)}->o.wp P a w next Q:=by
  intro X Y hM N
  obtain ⟨s',le⟩:=st.setMap h es g hh b hb X Y hM
  exact Vb N (a6 σ ι undef _ le s' (.of_val _))
 unfold Vn at k
 cases G:G1 s es 0 with
 | none=>rw [G] at k; cases k
 | some r=>
  rw [G] at k
  rcases Zw es M.toList 0 r (by simpa using f.1) (fun j p e g1 g2=>f.2 j p e g1 (by simpa using g2)) G with ⟨rfl,hf⟩ | ⟨j,v,e,rfl,hf,g1,g2,g3,g4⟩
  .simp only [Option.some.injEq] at k
   subst k
   refine S (M.push {key:=.string s,val:=a.eval z,born:=q}) (q+1) ⟨by simp [f.1],fun I p e m1 m2=>?_⟩ ?_
   .rcases Nat.lt_or_ge I es.length with B | hge
    .rw [List.getElem?_append_left B] at m1
     rw [Array.getElem?_push_lt (by rw [f.1]; exact B)] at m2
     exact f.2 I p e m1 (by rw [Array.getElem?_eq_getElem (by rw [f.1]; exact B)]; exact m2)
    .rw [List.getElem?_append_right hge] at m1
     have a8:I=es.length:=by
      have:=(List.getElem?_eq_some_iff.1 m1).1; simp at this; omega
     subst a8
     simp at m1; subst m1
     rw [<-f.1] at m2
     simp at m2; subst m2
     exact ⟨.val _,U⟩
   .simp [execOp,R,hv,L,Instr.mapUpdate,run_underlying k2,Go.MapKept.run_getObj_map h3,Go.MapKept.run_checkKey c D,Go.MapKept.run_findKey c hf,Go.MapKept.run_setObj_map _ h3,Result.andThen]
  .simp only [Option.some.injEq] at k
   subst k
   have hj:M[j]? = some e:=by simpa using g1
   refine S (M.modify j fun e=>{e with key:=.string s,val:=a.eval z}) q ⟨by simp [f.1],fun I p e' m1 m2=>?_⟩ ?_
   .simp only [Nat.zero_add] at m1
    rw [List.getElem?_set] at m1
    rw [Array.getElem?_modify] at m2
    by_cases E:j=I
    .subst E
     simp only [if_true] at m1 m2
     rw [if_pos g4] at m1; cases m1
     rw [hj] at m2; simp at m2; subst m2
     exact ⟨.val _,U⟩
    .rw [if_neg E] at m1
     rw [if_neg E] at m2
     exact f.2 I p e' m1 m2
   .simp [execOp,R,hv,L,Instr.mapUpdate,run_underlying k2,Go.MapKept.run_getObj_map h3,Go.MapKept.run_checkKey c D,Go.MapKept.run_findKey c hf,hj,g2,Go.MapKept.run_keyThatStays D,Go.MapKept.run_setObj_map _ h3,Result.andThen]
def Nt (P:Program) (b:TypeId) (c:List Value):Prop :=
 (∃fs,P.underlying b=some (.struct fs))/\∀(w:World) (e:Bool),(Instr.checkKey e 10000 b (.agg c.toArray)).run P w = .ok () w
inductive Jj (P:Program) (kt:TypeId) (us:List Value):List (AV×AV)->Nat->Option (Nat×AV)->Prop where
 | nil (i:Nat):Jj P kt us [] i none
 | hit {ys:List AV} {vs:List Value} {v:AV} {es:List (AV×AV)} {i:Nat} (h1:F4 ys=some vs) (h2:Lk P kt us vs true):Jj P kt us ((.agg ys,v)::es) i (some (i,v))
 | miss {ys:List AV} {vs:List Value} {v:AV} {es:List (AV×AV)} {i:Nat} {r:Option (Nat×AV)} (h1:F4 ys=some vs) (h2:Lk P kt us vs false) (h3:Jj P kt us es (i+1) r):Jj P kt us ((.agg ys,v)::es) i r
theorem Jj.sound {σ:Aq} {l:TypeId} {k:List Value} {es:List (AV×AV)} {i:Nat} {r:Option (Nat×AV)} (h:Jj P l k es i r):∀(L:List MapEntry),L.length=es.length ->
  (∀(j:Nat) (p:AV×AV) (e:MapEntry),es[j]? = some p->L[j]? = some e->CC σ p.1 e.key/\CC σ p.2 e.val)->∀w:World,
  (r=none/\(Instr.findAsking l (.agg k.toArray) L i).run P w = .ok none w)\/∃j v e,r=some (i+j,v)/\(Instr.findAsking l (.agg k.toArray) L i).run P w = .ok (some (i+j,e.val)) w/\L[j]? = some e/\CC σ v e.val/\j<es.length:=by
 induction h with
 | nil i=>
  intro L g _ w
  cases L with
  | nil=>exact .inl ⟨rfl,by simp [Instr.findAsking]⟩
  | cons e L=>simp at g
 | @hit ys vs v es i h1 h2=>
  intro L g hc w
  cases L with
  | nil=>simp at g
  | cons e L=>
   obtain ⟨s,x⟩:=hc 0 _ e rfl rfl
   have hk:e.key = .agg vs.toArray:=by
    generalize e.key=q at s
    cases s with
    | agg _ b f hh=>
     have:=Ns (σ:=σ) (ι:=fun _=>.none) (H:=fun _=>.none) (vs:=b.toList) h1 (by simpa using f) (fun i c u g1 g2=>.cc (hh i c u g1 (by simpa using g2)))
     rw [<-this]
   refine .inr ⟨0,v,e,rfl,?_,rfl,x,by simp⟩
   have:=(h2 w .eql default default).2
   simp [Instr.findAsking,hk,this]
 | @miss ys vs v es i r h1 h2 h3 ih=>
  intro L g hc w
  cases L with
  | nil=>simp at g
  | cons e L=>
   obtain ⟨s,x⟩:=hc 0 _ e rfl rfl
   have hk:e.key = .agg vs.toArray:=by
    generalize e.key=q at s
    cases s with
    | agg _ b f hh=>
     have:=Ns (σ:=σ) (ι:=fun _=>.none) (H:=fun _=>.none) (vs:=b.toList) h1 (by simpa using f) (fun i c u g1 g2=>.cc (hh i c u g1 (by simpa using g2)))
     rw [<-this]
   have:=(h2 w .eql default default).2
   have step:(Instr.findAsking l (.agg k.toArray) (e::L) i).run P w=(Instr.findAsking l (.agg k.toArray) L (i+1)).run P w:=by
    simp [Instr.findAsking,hk,this]
   rcases ih L (by simpa using g) (fun j z e' g1 g2=>hc (j+1) z e' (by simpa using g1) (by simpa using g2)) w with ⟨g1,g2⟩ | ⟨j,y,e',g1,g2,g3,g4,g5⟩
   .exact .inl ⟨g1,by rw [step]; exact g2⟩
   .exact .inr ⟨j+1,y,e',by rw [g1]; congr 2; omega,by rw [step,g2]; congr 3; omega,by simpa using g3,g4,by simpa using g5⟩
theorem Aof {T:Cj} (hT:Ck P T) {t G et:TypeId} {x y:Operand} {E:Bool} {i I:TI} {h:Nat} {es:List (AV×AV)} {ks:List AV} {A:List Value} {r:Option (Nat×AV)} (D:o.op = .lookup t x y E) (ht:T t=some i) (hd:i.d = .map G et)
  (he:T et=some I) (hx:ρ x = .mp h) (hy:ρ y = .agg ks) (hu:F4 ks=some A) (hc:Nt P G A) (hr:Jj P G A es 0 r) :
  Bv P o ρ ⟨Pl E I r,[(h,.map es)],[]⟩:=by
 intro σ ι H F W w a next Q st N Z a1
 have hh:H h = .map es:=Z (h,.map es) (by simp)
 have S:=N x (by simp [D,Op.operands])
 rw [hx] at S
 obtain ⟨b,hb,V⟩:=S.mp_inv
 have R:=N y (by simp [D,Op.operands])
 rw [hy] at R
 obtain ⟨X,f,a6,a8⟩:=R.agg_inv
 have Y:X.toList=A:=Ns hu (by simpa using a6) (fun i c u g1 g2=>a8 i c u g1 (by simpa using g2))
 have f:a.eval y = .agg A.toArray:=by rw [f,<-Y]
 have B:=st.obj h
 unfold Cf at B; rw [hh] at B
 obtain ⟨b',M,q,e1,_,_,h3,h4⟩:=B
 rw [hb] at e1; cases e1
 obtain ⟨_,u,_,_,U,_,_,_,_,k7⟩:=Dq (hT t i ht)
 rw [hd] at k7; subst k7
 obtain ⟨⟨fs,a7⟩,s⟩:=hc
 have g:∀v,Conc σ ι H (Pl E I r) v->(execOp a.eval o).run P w = .ok (.value v) w->o.wp P a w next Q:=by
  intro v hc L
  exact Ea L (a1 σ ι v w (Le.refl _ _ _) st hc)
 have k:∀l,(Instr.findKey G (.agg A.toArray) l).run P w=(Instr.findAsking G (.agg A.toArray) l).run P w:=fun l=>run_findKey_eq w (by rw [a7]) _ l
 rcases hr.sound M.toList (by simpa using h4.1) (fun j p e g1 g2=>h4.2 j p e g1 (by simpa using g2)) w with ⟨rfl,hf⟩ | ⟨j,v,e,rfl,hf,g1,g3,_⟩
 .obtain ⟨z,hz,c1,c2,c3⟩:=Ad5 (hT et I he) w
  have J:Conc σ ι H (D4 I) z:=Aen c1 c2 c3
  cases E with
  | true=>
   refine g (.tuple #[z,.bool false]) (.tup _ _ (by simp) fun i c u m1 m2=>?_) ?_
   .match i with
    | 0=>simp at m1 m2; subst m1; subst m2; exact J
    | 1=>simp at m1 m2; subst m1; subst m2; exact .of_val _
    | i+2=>simp at m1
   .simp [execOp,D,V,f,Instr.lookup,run_underlying U,Go.MapKept.run_getObj_map h3,s,k,hf,hz,Result.andThen]
  | false=>
   refine g z J ?_
   simp [execOp,D,V,f,Instr.lookup,run_underlying U,Go.MapKept.run_getObj_map h3,s,k,hf,hz,Result.andThen]
 .cases E with
  | true=>
   refine g (.tuple #[e.val,.bool true]) (.tup _ _ (by simp) fun i c u m1 m2=>?_) ?_
   .match i with
    | 0=>simp at m1 m2; subst m1; subst m2; exact .cc g3
    | 1=>simp at m1 m2; subst m1; subst m2; exact .of_val _
    | i+2=>simp at m1
   .simp [execOp,D,V,f,Instr.lookup,run_underlying U,Go.MapKept.run_getObj_map h3,s,k,hf,Result.andThen]
  | false=>
   refine g e.val (.cc g3) ?_
   simp [execOp,D,V,f,Instr.lookup,run_underlying U,Go.MapKept.run_getObj_map h3,s,k,hf,Result.andThen]
theorem Aog {T:Cj} (hT:Ck P T) {t G et:TypeId} {x y z:Operand} {i:TI} {h:Nat} {es:List (AV×AV)} {g:List AV} {f:List Value} (L:o.op = .mapUpdate t x y z) (ht:T t=some i) (hd:i.d = .map G et)
  (hx:ρ x = .mp h) (hy:ρ y = .agg g) (hu:F4 g=some f) (hz:(ρ z).free1=true) (hc:Nt P G f) (hr:Jj P G f es 0 none) :
  Bv P o ρ ⟨.val undef,[(h,.map es)],[(h,.map (es++[(.agg g,ρ z)]))]⟩:=by
 intro σ ι H F W w a next Q st A U V
 have hh:H h = .map es:=U (h,.map es) (by simp)
 have J:=A x (by simp [L,Op.operands])
 rw [hx] at J
 obtain ⟨b,hb,hv⟩:=J.mp_inv
 have I:=A y (by simp [L,Op.operands])
 rw [hy] at I
 obtain ⟨N,k,X,aa⟩:=I.agg_inv
 have S:N.toList=f:=Ns hu (by simpa using X) (fun i c u g1 g2=>aa i c u g1 (by simpa using g2))
 have k:a.eval y = .agg f.toArray:=by rw [k,<-S]
 have Y:CC σ (.agg g) (.agg f.toArray):=by
  have s:∀(g:List AV) (f:List Value),F4 g=some f->g=f.map .val:=by
   intro g
   induction g with
   | nil=>intro f h; simp only [F4] at h; cases h; rfl
   | cons c g ih=>
    intro f h
    cases c with
    | val v=>
     simp only [F4,Option.map_eq_some_iff] at h
     obtain ⟨ab,h1,rfl⟩:=h
     rw [ih _ h1]; rfl
    | _=>simp [F4] at h
  have e:=s g f hu
  subst e
  refine .agg _ _ (by simp) fun i c v g1 g2=>?_
  simp only [List.getElem?_map] at g1
  have g2:f[i]? = some v:=by simpa using g2
  rw [g2] at g1; simp at g1; subst g1
  exact .val v
 have a7:=(A z (by simp [L,Op.operands])).cc_free1 hz
 have B:=st.obj h
 unfold Cf at B; rw [hh] at B
 obtain ⟨b',M,q,e1,_,_,h3,E⟩:=B
 rw [hb] at e1; cases e1
 obtain ⟨_,u,_,_,k2,_,_,_,_,k7⟩:=Dq (hT t i ht)
 rw [hd] at k7; subst k7
 obtain ⟨⟨fs,a1⟩,a8⟩:=hc
 have a6:∀l,(Instr.findKey G (.agg f.toArray) l).run P w=(Instr.findAsking G (.agg f.toArray) l).run P w:=fun l=>run_findKey_eq w (by rw [a1]) _ l
 rcases hr.sound M.toList (by simpa using E.1) (fun j p e g1 g2=>E.2 j p e g1 (by simpa using g2)) w with ⟨_,hf⟩ | ⟨j,v,e,he,_⟩
 .have hM:No σ (es++[(.agg g,ρ z)]) (M.push {key:=.agg f.toArray,val:=a.eval z,born:=q}):=by
   refine ⟨by simp [E.1],fun R p e m1 m2=>?_⟩
   rcases Nat.lt_or_ge R es.length with D | hge
   .rw [List.getElem?_append_left D] at m1
    rw [Array.getElem?_push_lt (by rw [E.1]; exact D)] at m2
    exact E.2 R p e m1 (by rw [Array.getElem?_eq_getElem (by rw [E.1]; exact D)]; exact m2)
   .rw [List.getElem?_append_right hge] at m1
    have Z:R=es.length:=by
     have:=(List.getElem?_eq_some_iff.1 m1).1; simp at this; omega
    subst Z
    simp at m1; subst m1
    rw [<-E.1] at m2
    simp at m2; subst m2
    exact ⟨Y,a7⟩
  obtain ⟨s',le⟩:=st.setMap h es _ hh b hb _ (q+1) hM
  refine Vb ?_ (V σ ι undef _ le s' (.of_val _))
  simp [execOp,L,hv,k,Instr.mapUpdate,run_underlying k2,Go.MapKept.run_getObj_map h3,a8,a6,hf,Go.MapKept.run_setObj_map _ h3,Result.andThen]
 .cases he
end
end Go.Ab
namespace Go.Ab
def ev (e:Bj):Operand->AV
 | .tmp t=>e t
 | .const v=>.val v
 | .global g=>.val (.pointer (some ⟨g,0,none⟩))
 | .func f=>.fn f []
def put (e:Bj) (d:Option Nat) (v:AV):Bj :=
 match d with
 | none=>e
 | some n=>Ax e n v
def Zy:Operand->Option Nat
 | .tmp t=>some t
 | _=>none
def Pm (ops:Array Oper) (o:Oper):Option Nat :=
 match o.guard with
 | none=>none
 | some p=>(ops[p.1]?).bind (·.dst)
def It (ops:Array Oper) (o:Oper):List Nat:=o.op.operands.toList.filterMap Zy++(Pm ops o).toList
def Dv (σ:Aq) (ι:Bm) (H:Hp) (e:Bj) (a:Act):Prop:=∀s,s<a.tmps.size->Conc σ ι H (e s) (a.tmps.getD s undef)
section
variable {σ:Aq} {ι:Bm} {H:Hp} {e:Bj} {a:Act}
theorem Dv.eval (h:Dv σ ι H e a) {x:Operand} (hx:∀t,Zy x=some t->t<a.tmps.size):Conc σ ι H (ev e x) (a.eval x):=by
 cases x with
 | tmp t=>exact h t (hx t rfl)
 | const v=>exact .of_val v
 | global g=>exact .of_val _
 | func f=>exact .fn f [] #[] rfl (by simp)
theorem Dv.mono {b:Aq} {c:Bm} {H':Hp} (h:Dv σ ι H e a) (le:Le σ ι H b c H'):Dv b c H' e a:=fun s f=>(h s f).mono le
theorem Dv.put (h:Dv σ ι H e a) {d:Option Nat} {r:AV} {v:Value} (f:Conc σ ι H r v):Dv σ ι H (put e d r) (a.put d v):=by
 cases d with
 | none=>exact h
 | some n=>
  intro s b
  simp only [Act.put,Array.size_setIfInBounds] at b
  simp only [Ab.put,Act.put]
  by_cases c:s=n
  .subst c
   rw [B8]
   simpa [b] using f
  .rw [Cr _ _ c]
   have:=h s b
   simp only [Array.getD_eq_getD_getElem?] at this ⊢
   rw [Array.getElem?_setIfInBounds_ne (by omega)]
   exact this
end
def Nu:Value->Option Bool
 | .bool b=>some b
 | _=>none
def Gg (ops:Array Oper) (o:Oper) (e:Bj) (b:Bool):Prop :=
 match o.guard with
 | none=>b=true
 | some p=>∃s v,(ops[p.1]?).bind (·.dst)=some s/\e s = .val v/\b=(Nu v==some p.2)
theorem Aeo {ops:Array Oper} {o:Oper} {e:Bj} {g:Bool} {σ:Aq} {ι:Bm} {H:Hp} {a:Act} (f:Gg ops o e g) (k:Dv σ ι H e a) (j:∀s,Pm ops o=some s->s<a.tmps.size) :
  Region.wanted o (yielded ops a.tmps)=g:=by
 unfold Gg at f
 unfold Region.wanted
 cases h:o.guard with
 | none=>rw [h] at f; exact f.symm
 | some p=>
  rw [h] at f
  obtain ⟨s,b,h1,h2,h3⟩:=f
  have c:=j s (by unfold Pm; rw [h]; exact h1)
  have hc:=k s c
  rw [h2] at hc
  have i:=hc.val_inv
  have:yielded ops a.tmps p.1=Nu b:=by
   unfold yielded
   rw [h1]
   simp only [Option.bind_some]
   have:a.tmps[s]? = some b:=by
    rw [Array.getD_eq_getD_getElem?] at i
    simp [c] at i ⊢; exact i
   rw [this]
   cases b <;> rfl
  show (yielded ops a.tmps p.1==some p.2)=g
  rw [this,h3]
abbrev Acc:=Nat->List Nat×List Nat
def Mb (P:Program) (ops:Array Oper) (acc:Acc) (i:Nat) (o:Oper) (e:Bj) (H:Hp) (r:AV) (c:List (Nat×Bf)):Prop :=
  ops[i]? = some o /\
  ((Gg ops o e true/\∃b,Bv P o (ev e) b/\(∀p∈b.rd,H p.1=p.2)/\(∀p∈b.rd,p.1∈(acc i).1)/\(∀p∈b.wr,p.1∈(acc i).2)/\r=b.r/\c=b.wr) \/
   (Gg ops o e false/\r = .val undef/\c = []))
inductive Run (P:Program) (ops:Array Oper) (acc:Acc):List Nat->Bj->Hp->Bj->Hp->Prop where
 | nil (e:Bj) (H:Hp):Run P ops acc [] e H e H
 | cons {i:Nat} {l:List Nat} {e e':Bj} {H H':Hp} (o:Oper) (r:AV) (wr:List (Nat×Bf)) (hd:Mb P ops acc i o e H r wr)
   (rest:Run P ops acc l (put e o.dst r) (Cd H wr) e' H'):Run P ops acc (i::l) e H e' H'
def Eb (b:List Nat) (a c:Act):Prop:=∀s,s ∉ b->c.tmps.getD s undef=a.tmps.getD s undef
theorem Eb.refl (b:List Nat) (a:Act):Eb b a a:=fun _ _=>rfl
theorem Eb.trans {f:List Nat} {a b c:Act} (h:Eb f a b) (h':Eb f b c):Eb f a c:=fun s g=>(h' s g).trans (h s g)
theorem Eb.mono {f c:List Nat} {a b:Act} (h:Eb f a b) (i:∀s∈f,s∈c):Eb c a b:=fun s g=>h s (fun x=>g (i s x))
theorem Eb.put (a:Act) (d:Option Nat) (v:Value) (b:List Nat) (h:∀s,d=some s->s∈b):Eb b a (a.put d v):=by
 cases d with
 | none=>exact Eb.refl _ _
 | some n=>
  intro s c
  have f:s≠n:=fun e=>c (e ▸ h n rfl)
  simp only [Act.put,Array.getD_eq_getD_getElem?]
  rw [Array.getElem?_setIfInBounds_ne (by omega)]
def R8 (ops:Array Oper):List Nat:=ops.toList.filterMap (·.dst)
theorem Eb.step {ops:Array Oper} {i:Nat} {o:Oper} (c:ops[i]? = some o) (a:Act) (v:Value):Eb (R8 ops) a (a.put o.dst v):=by
 refine Eb.put a o.dst v _ (fun s b=>?_)
 unfold R8
 rw [List.mem_filterMap]
 exact ⟨o,by simpa using Array.mem_of_getElem? c,b⟩
def Vp (ops:Array Oper) (n:Nat):Prop:=∀(i:Nat) (o:Oper),ops[i]? = some o->∀s∈It ops o,s<n
section
variable {P:Program} {ops:Array Oper} {acc:Acc} {F:Aq} {W:World} {Q:Exit->Act->World->Prop}
theorem Aep (a:Act) (d:Option Nat) (v:Value):(a.put d v).tmps.size=a.tmps.size:=by
 cases d <;> simp [Act.put]
theorem Run.wpOp {i:Nat} {l:List Nat} {e e':Bj} {H H':Hp} (h:Run P ops acc (i::l) e H e' H') {σ:Aq} {ι:Bm} {a:Act} {w:World} (s:St σ ι H F W w) (q:Dv σ ι H e a) (D:Vp ops a.tmps.size)
  {K:Act->World->Prop} (hk:∀(B:Bj) (y:Hp),Run P ops acc l B y e' H'->∀g j u w',Le σ ι H g j y->St g j y F W w'->Dv g j y B u->u.tmps.size=a.tmps.size->u.defers=a.defers->Eb (R8 ops) a u->K u w') :
  wpOp P ops Q i K a w:=by
 have c:∀(d:Option Nat) (v:Value),(a.put d v).defers=a.defers:=by intro d v; cases d <;> rfl
 cases h with
 | cons o r wr hd rest=>
  obtain ⟨k,hd⟩:=hd
  unfold Go.wpOp
  have f:=D i o k
  rcases hd with ⟨A,E,b,z,_,_,rfl,rfl⟩ | ⟨A,rfl,rfl⟩
  .have hw:=Aeo A q (fun s' h'=>f s' (by simp [It,h']))
   rw [k]
   simp only [hw,if_true]
   refine .inl (b σ ι H F W w a K Q s (fun x hx=>q.eval (fun t ht=>f t ?_)) z ?_)
   .simp only [It,List.mem_append,List.mem_filterMap]
    exact .inl ⟨x,hx,ht⟩
   .intro g j v w' le s' hc
    exact hk _ _ rest g j _ w' le s' ((q.mono le).put hc) (Aep _ _ _) (c _ _) (Eb.step k a v)
  .have hw:=Aeo A q (fun s' h'=>f s' (by simp [It,h']))
   rw [k]
   simp only [hw,Bool.false_eq_true,if_false]
   exact hk _ _ rest σ ι _ w (Le.refl _ _ _) s (q.put (.of_val undef)) (Aep _ _ _) (c _ _) (Eb.step k a undef)
theorem Run.wpOps {l:List Nat} {e e':Bj} {H H':Hp} (h:Run P ops acc l e H e' H'):∀{σ:Aq} {ι:Bm} {a:Act} {w:World},St σ ι H F W w->Dv σ ι H e a->Vp ops a.tmps.size ->
  (∀j k g w',Le σ ι H j k H'->St j k H' F W w'->Dv j k H' e' g->g.tmps.size=a.tmps.size->g.defers=a.defers->Eb (R8 ops) a g->Q .normal g w')->wpOps P ops Q l a w:=by
 induction l generalizing e H with
 | nil=>
  intro σ ι a w s B y hk
  cases h
  exact hk σ ι a w (Le.refl _ _ _) s B rfl rfl (Eb.refl _ _)
 | cons i l ih=>
  intro σ ι a w s B y hk
  rw [wpOps_cons]
  refine h.wpOp s B y ?_
  intro U V M N R a1 S u L A c D hu
  refine ih M L A (by rw [c]; exact y) ?_
  intro E G a2 I q J z b f x
  exact hk E G a2 I (u.trans q) J z (b.trans c) (f.trans D) (hu.trans x)
theorem Bv.congr {o:Oper} {ρ f:Operand->AV} {b:Eff} (h:Bv P o ρ b) (i:∀x∈o.op.operands.toList,f x=ρ x):Bv P o f b :=
 fun σ ι H F W w a next Q s hx c hk=>h σ ι H F W w a next Q s (fun x g=>by rw [<-i x g]; exact hx x g) c hk
theorem Gg.congr {o:Oper} {e e':Bj} {f:Bool} (h:Gg ops o e f) (g:∀s,Pm ops o=some s->e' s=e s):Gg ops o e' f:=by
 unfold Gg at *
 cases c:o.guard with
 | none=>rw [c] at h; exact h
 | some p=>
  rw [c] at h
  obtain ⟨s,b,h1,h2,h3⟩:=h
  exact ⟨s,b,h1,by rw [g s (by unfold Pm; rw [c]; exact h1)]; exact h2,h3⟩
theorem Aoh {e e':Bj} {x:Operand} (h:∀t,Zy x=some t->e' t=e t):ev e' x=ev e x:=by
 cases x with
 | tmp t=>exact h t rfl
 | _=>rfl
theorem Mb.congr {i:Nat} {o:Oper} {e e':Bj} {H H':Hp} {r:AV} {c:List (Nat×Bf)} (h:Mb P ops acc i o e H r c) (g:∀s∈It ops o,e' s=e s) (q:∀x∈(acc i).1,H' x=H x):Mb P ops acc i o e' H' r c:=by
 obtain ⟨l,h⟩:=h
 refine ⟨l,?_⟩
 have f:∀s,Pm ops o=some s->e' s=e s:=fun s k=>g s (by simp [It,k])
 rcases h with ⟨h1,b,h2,h3,j,z,y,u⟩ | ⟨h1,h2,h3⟩
 .refine .inl ⟨h1.congr f,b,h2.congr (fun x hx=>Aoh fun t ht=>g t ?_),fun p hp=>?_,j,z,y,u⟩
  .simp only [It,List.mem_append,List.mem_filterMap]; exact .inl ⟨x,hx,ht⟩
  .rw [q p.1 (j p hp)]; exact h3 p hp
 .exact .inr ⟨h1.congr f,h2,h3⟩
theorem Pn {H:Hp}:∀{b:List (Nat×Bf)} {x:Nat},(∀p∈b,p.1≠x)->Cd H b x=H x
 | [],_,_=>rfl
 | p::b,x,h=>by
  simp only [Cd]
  rw [Pn (fun q hq=>h q (by simp [hq])),Cr _ _ (fun e=>h p (by simp) e.symm)]
theorem Aeq {H:Hp} {h:Nat} {o:Bf}:∀{b:List (Nat×Bf)},(∀p∈b,p.1≠h)->Cd (Ax H h o) b=Ax (Cd H b) h o
 | [],_=>rfl
 | p::b,hp=>by
  simp only [Cd]
  rw [Ad3 _ _ _ (fun e=>hp p (by simp) e),Aeq (fun q hq=>hp q (by simp [hq]))]
theorem Aer {H:Hp}:∀{c b:List (Nat×Bf)},(∀p∈c,∀q∈b,p.1≠q.1)->Cd (Cd H c) b=Cd (Cd H b) c
 | [],_,_=>rfl
 | p::c,b,h=>by
  simp only [Cd]
  rw [Aer (fun q hq f hq'=>h q (by simp [hq]) f hq'),Aeq (fun q hq e=>h p (by simp) q hq e.symm)]
structure Ind (ops:Array Oper) (acc:Acc) (i j:Nat) (o o':Oper):Prop where
 d1:∀s,o.dst=some s->s ∉ It ops o'/\o'.dst≠some s
 d2:∀s,o'.dst=some s->s ∉ It ops o
 h1:∀x∈(acc i).2,x ∉ (acc j).1/\x ∉ (acc j).2
 h2:∀x∈(acc j).2,x ∉ (acc i).1
theorem Aes {e:Bj} {d:Option Nat} {r:AV} {s:Nat} (h:d≠some s):put e d r s=e s:=by
 cases d with
 | none=>rfl
 | some n=>exact Cr _ _ (fun e=>h (by rw [e]))
theorem Aoi {e:Bj} {d b:Option Nat} {r c:AV} (h:∀s,d=some s->b≠some s):put (put e d r) b c=put (put e b c) d r:=by
 cases d with
 | none=>rfl
 | some n=>
  cases b with
  | none=>rfl
  | some m=>exact Ad3 _ _ _ (fun e=>h n rfl (by rw [e]))
theorem Mb.wr {i:Nat} {o:Oper} {e:Bj} {H:Hp} {r:AV} {b:List (Nat×Bf)} (h:Mb P ops acc i o e H r b):∀p∈b,p.1∈(acc i).2:=by
 obtain ⟨_,⟨_,g,_,_,_,f,_,c⟩ | ⟨_,_,h3⟩⟩:=h
 .subst c; exact f
 .subst h3; intro p hp; cases hp
theorem Run.swap {i j:Nat} {l:List Nat} {e e':Bj} {H H':Hp} (h:Run P ops acc (i::j::l) e H e' H') (u:∀o o',ops[i]? = some o->ops[j]? = some o'->Ind ops acc i j o o'):Run P ops acc (j::i::l) e H e' H':=by
 cases h with
 | cons o r wr hd rest=>
  cases rest with
  | cons o' k f c rest=>
   have b:=u o o' hd.1 c.1
   have a1:Mb P ops acc j o' e H k f:=c.congr (fun s g=>(Aes (fun e=>(b.d1 s e).1 g)).symm) (fun x hx=>(Pn (fun p hp e=>(b.h1 p.1 (hd.wr p hp)).1 (e ▸ hx))).symm)
   have a2:Mb P ops acc i o (put e o'.dst k) (Cd H f) r wr:=hd.congr (fun s g=>Aes (fun e=>b.d2 s e g)) (fun x hx=>Pn (fun p hp e=>b.h2 p.1 (c.wr p hp) (e ▸ hx)))
   refine .cons o' k f a1 (.cons o r wr a2 ?_)
   rw [Aoi (fun s g e=>(b.d1 s e).2 g),Aer (fun p hp q hq e=>(b.h1 q.1 (hd.wr q hq)).2 (e ▸ c.wr p hp))]
   exact rest
theorem Run.bubble {i:Nat}:∀{b c:List Nat} {e e':Bj} {H H':Hp},Run P ops acc (b++i::c) e H e' H'->(∀j∈b,∀o o',ops[j]? = some o->ops[i]? = some o'->Ind ops acc j i o o')->Run P ops acc (i::(b++c)) e H e' H'
 | [],_,_,_,_,_,h,_=>h
 | j::b,c,e,e',H,H',h,f=>by
  cases h with
  | cons o r wr hd rest=>
   exact Run.swap (.cons o r wr hd (rest.bubble (fun k hk=>f k (by simp [hk])))) (f j (by simp))
end
def Mc (ms:List Nat) (o:Oper):Nat:=o.after.toList.foldl (fun a x=>bif Region.binds .any x then a ||| ((1 <<< x.on) ||| ms.getD x.on 0) else a) 0
def Hb:List Oper->List Nat->List Nat
 | [],ms=>ms
 | o::os,ms=>Hb os (ms++[Mc ms o])
def R9 (l m:List Nat):Bool:=l.all fun x=>!m.contains x
def Zz (ops:Array Oper) (a b:List Nat×List Nat) (o o':Oper):Bool :=
  (match o.dst with
   | none=>true
   | some s=>!(It ops o').contains s && !(o'.dst==some s)) &&
  (match o'.dst with
   | none=>true
   | some s=>!(It ops o).contains s) &&
  R9 a.2 b.1&&R9 a.2 b.2&&R9 b.2 a.1
def Z0 (ops:List Oper) (acc:List (List Nat×List Nat)):Bool :=
 let M:=Hb ops []
 (ops.zipIdx.all fun p=>p.1.after.toList.all fun x=>!Region.binds .any x||Nat.blt x.on p.2) &&
 ops.zipIdx.all fun p=>ops.zipIdx.all fun q=>!Nat.blt q.2 p.2||(M.getD p.2 0).testBit q.2||Zz ops.toArray (acc.getD q.2 ([],[])) (acc.getD p.2 ([],[])) q.1 p.1
section
variable {P:Program} {F:Aq} {W:World} {Q:Exit->Act->World->Prop}
theorem Aet:∀(os:List Oper) (ms:List Nat),(Hb os ms).take ms.length=ms/\(Hb os ms).length=ms.length+os.length /\
  ∀(k:Nat) (o:Oper),os[k]? = some o->(Hb os ms).getD (ms.length+k) 0=Mc ((Hb os ms).take (ms.length+k)) o
 | [],ms=>⟨by simp [Hb],by simp [Hb],by simp⟩
 | o::os,ms=>by
  obtain ⟨h1,h2,h3⟩:=Aet os (ms++[Mc ms o])
  simp only [Hb]
  simp only [List.length_append,List.length_cons,List.length_nil] at h1 h2 h3
  have b:(Hb os (ms++[Mc ms o])).take ms.length=ms:=by
   have:=congrArg (List.take ms.length) h1
   rw [List.take_take] at this
   simpa using this
  refine ⟨b,by simp only [List.length_cons]; omega,fun k o' hk=>?_⟩
  cases k with
  | zero=>
   simp at hk; subst hk
   rw [Nat.add_zero,b]
   have c:(Hb os (ms++[Mc ms o]))[ms.length]? = some (Mc ms o):=by
    have f:((Hb os (ms++[Mc ms o])).take (ms.length+1))[ms.length]? = (Hb os (ms++[Mc ms o]))[ms.length]?:=List.getElem?_take_of_lt (by omega)
    rw [<-f,h1]; simp
   simp [List.getD,c]
  | succ k=>
   have:=h3 k o' (by simpa using hk)
   rwa [show ms.length+1+k=ms.length+(k+1) by omega] at this
theorem Aeu (ms:List Nat) (j:Nat):∀(l:List Edge) (a:Nat),(l.foldl (fun a x=>bif Region.binds .any x then a ||| ((1 <<< x.on) ||| ms.getD x.on 0) else a) a).testBit j=true ->
  a.testBit j=true\/∃x∈l,Region.binds .any x=true/\(x.on=j\/(ms.getD x.on 0).testBit j=true)
 | [],a,h=>.inl h
 | x::l,a,h=>by
  simp only [List.foldl_cons] at h
  rcases Aeu ms j l _ h with h' | ⟨y,hy,hb⟩
  .cases hb:Region.binds .any x with
   | false=>rw [hb] at h'; exact .inl h'
   | true=>
    rw [hb] at h'
    simp only [cond_true,Nat.testBit_or,Bool.or_eq_true] at h'
    rcases h' with h' | h' | h'
    .exact .inl h'
    .refine .inr ⟨x,by simp,hb,.inl ?_⟩
     rw [Nat.one_shiftLeft,Nat.testBit_two_pow] at h'
     simpa using h'
    .exact .inr ⟨x,by simp,hb,.inr h'⟩
  .exact .inr ⟨y,by simp [hy],hb⟩
theorem Z1 {l m:List Nat} (h:R9 l m=true):∀x∈l,x ∉ m:=by
 intro x hx b
 unfold R9 at h
 rw [List.all_eq_true] at h
 have:=h x hx
 simp [b] at this
theorem Aoj {ops:Array Oper} {acc:Acc} {i j:Nat} {o o':Oper} (h:Zz ops (acc i) (acc j) o o'=true):Ind ops acc i j o o':=by
 unfold Zz at h
 simp only [Bool.and_eq_true] at h
 obtain ⟨⟨⟨⟨h1,h2⟩,h3⟩,f⟩,c⟩:=h
 refine ⟨fun s b=>?_,fun s b=>?_,fun x hx=>⟨Z1 h3 x hx,Z1 f x hx⟩,Z1 c⟩
 .rw [b] at h1
  simpa using h1
 .rw [b] at h2
  simpa using h2
def Aok (ops:Array Oper) (b:Array Bool):Prop :=
 ∀(k:Nat) (o:Oper),ops[k]? = some o->b.getD k false=true->∀x∈o.after.toList,Region.binds .any x=true->b.getD x.on false=true
theorem Aev {ops:Array Oper} {b:Array Bool} {i:Nat} (h:i∈Region.ready .any ops b) :
  i<ops.size/\b.getD i true=false/\∀o,ops[i]? = some o->∀x∈o.after.toList,Region.binds .any x=true->b.getD x.on false=true:=by
 unfold Region.ready at h
 rw [List.mem_filter] at h
 obtain ⟨h1,h2⟩:=h
 simp only [Bool.and_eq_true,Bool.not_eq_true'] at h2
 refine ⟨by simpa using h1,h2.1,fun o c x hx hb=>?_⟩
 have h3:=h2.2
 rw [c] at h3
 simp only [Option.map_some,Option.getD_some] at h3
 rw [<-Array.all_toList,List.all_eq_true] at h3
 have:=h3 x hx
 simpa [hb] using this
theorem Z2 {ops:List Oper} {accs:List (List Nat×List Nat)} (N:Z0 ops accs=true) {e':Bj} {H':Hp}:∀(fuel:Nat) (b:Array Bool) (l:List Nat) (e:Bj) (H:Hp) (σ:Aq) (ι:Bm) (a:Act) (w:World),
  Run P ops.toArray (fun i=>accs.getD i ([],[])) l e H e' H'->l.Pairwise (· < ·)->(∀i,i∈l↔i<ops.length/\b.getD i true=false)->b.size=ops.length->Aok ops.toArray b->l.length=fuel ->
  St σ ι H F W w->Dv σ ι H e a->Vp ops.toArray a.tmps.size ->
  (∀σ' ι' a' w',Le σ ι H σ' ι' H'->St σ' ι' H' F W w'->Dv σ' ι' H' e' a'->a'.tmps.size=a.tmps.size->a'.defers=a.defers->Eb (R8 ops.toArray) a a'->Q .normal a' w') ->
  wpAny P .any ops.toArray Q fuel b a w
 | 0,b,l,e,H,σ,ι,a,w,hr,hp,J,a6,U,f,s,he,hs,hk=>by
  have D:l = []:=List.eq_nil_of_length_eq_zero f
  subst D
  cases hr
  refine ⟨?_,hk σ ι a w (Le.refl _ _ _) s he rfl rfl (Eb.refl _ _)⟩
  apply List.eq_nil_iff_forall_not_mem.2
  intro i hi
  obtain ⟨h1,h2,_⟩:=Aev hi
  have:=(J i).2 ⟨by simpa using h1,h2⟩
  cases this
 | fuel+1,b,l,e,H,σ,ι,a,w,hr,hp,J,a6,U,f,s,he,hs,hk=>by
  unfold Z0 at N
  have I:=N
  simp only [Bool.and_eq_true,List.all_eq_true] at I
  obtain ⟨S,M⟩:=I
  have u:∀(i:Nat) (o:Oper),ops[i]? = some o->(o,i)∈ops.zipIdx:=by
   intro i o h
   rw [List.mem_iff_getElem?]
   exact ⟨i,by simp [List.getElem?_zipIdx,h]⟩
  have A:∀(i:Nat) (o:Oper),ops[i]? = some o->∀x∈o.after.toList,Region.binds .any x=true->x.on<i:=by
   intro i o h x hx hb
   have:=S (o,i) (u i o h) x hx
   simp only [hb,Bool.not_true,Bool.false_or] at this
   exact Nat.le_of_ble_eq_true this
  refine ⟨fun aa=>?_,fun i hi=>?_⟩
  .
   exfalso
   cases l with
   | nil=>simp at f
   | cons i l=>
    have R:=(J i).1 (by simp)
    have:i∈Region.ready .any ops.toArray b:=by
     unfold Region.ready
     rw [List.mem_filter]
     refine ⟨by simpa using R.1,?_⟩
     simp only [Bool.and_eq_true,Bool.not_eq_true']
     refine ⟨R.2,?_⟩
     have ab:i<ops.length:=R.1
     have ho:ops[i]? = some ops[i]:=List.getElem?_eq_getElem ab
     have aq:ops.toArray[i]? = some ops[i]:=by simp [ab]
     rw [aq]
     simp only [Option.map_some,Option.getD_some]
     rw [<-Array.all_toList,List.all_eq_true]
     intro x hx
     cases hb:Region.binds .any x with
     | false=>rfl
     | true=>
      simp only [Bool.not_true,Bool.false_or]
      have b6:=A i _ ho x hx hb
      cases D:b.getD x.on true with
      | true=>
       have g:x.on<b.size:=by omega
       simp only [Array.getD_eq_getD_getElem?] at D ⊢
       simpa [g] using D
      | false=>
       have hxm:=(J x.on).2 ⟨by omega,D⟩
       simp only [List.mem_cons] at hxm
       rcases hxm with hxm | hxm
       .omega
       .have:=(List.pairwise_cons.1 hp).1 _ hxm; omega
    rw [aa] at this
    cases this
  .obtain ⟨b0,az,ae⟩:=Aev hi
   have q:i<ops.length:=by simpa using b0
   have ay:=(J i).2 ⟨q,az⟩
   obtain ⟨l1,l2,rfl⟩:=List.append_of_mem ay
   have b7:ops[i]? = some ops[i]:=List.getElem?_eq_getElem q
   have b5:ops.toArray[i]? = some ops[i]:=by simp [q]
   have z:∀(k:Nat) (o:Oper),ops[k]? = some o->(b.getD k false=true\/k=i)->∀j,((Hb ops []).getD k 0).testBit j=true->b.getD j false=true:=by
    intro k
    induction k using Nat.strongRecOn with
    | _ k ih=>
     intro o hk hor j hj
     have a7:=(Aet ops []).2.2 k o hk
     simp only [List.length_nil,Nat.zero_add] at a7
     rw [a7] at hj
     rcases Aeu _ j _ _ hj with h0 | ⟨x,hx,hb,a8⟩
     .simp at h0
     .have V:b.getD x.on false=true:=by
       rcases hor with hor | hor
       .exact U k o (by simpa using hk) hor x hx hb
       .subst hor; exact ae o (by simpa using hk) x hx hb
      rcases a8 with rfl | hj'
      .exact V
      .have X:=A k o hk x hx hb
       have am:x.on<ops.length:=by
        have:=(List.getElem?_eq_some_iff.1 hk).1; omega
       have e1:((Hb ops []).take k).getD x.on 0=(Hb ops []).getD x.on 0:=by
        simp only [List.getD_eq_getElem?_getD]
        rw [List.getElem?_take_of_lt X]
       rw [e1] at hj'
       exact ih x.on X _ (List.getElem?_eq_getElem am) (.inl V) j hj'
   have ad:∀j∈l1,∀o o',ops.toArray[j]? = some o->ops.toArray[i]? = some o'->Ind ops.toArray (fun i=>accs.getD i ([],[])) j i o o':=by
    intro j hj o o' ar ax
    have av:j<i:=by
     have:=(List.pairwise_append.1 hp).2.2 j hj i (by simp)
     exact this
    have au:=(J j).1 (by simp [hj])
    have ac:ops[j]? = some o:=by simpa using ar
    have L:ops[i]? = some o':=by simpa using ax
    have:=M (o',i) (u i o' L) (o,j) (u j o ac)
    simp only [Bool.or_eq_true,Bool.not_eq_true'] at this
    rcases this with (h1 | h1) | h1
    .have:Nat.blt j i=true:=by unfold Nat.blt; exact Nat.ble_eq_true_of_le av
     rw [this] at h1; cases h1
    .have h2:=z i o' L (.inr rfl) j h1
     have g:j<b.size:=by omega
     have h3:=au.2
     simp only [Array.getD_eq_getD_getElem?] at h2 h3
     simp [g] at h2 h3
     rw [h2] at h3; cases h3
    .exact Aoj (acc:=fun i=>accs.getD i ([],[])) h1
   have ai:=hr.bubble ad
   refine ai.wpOp s he hs ?_
   intro e1 H1 r1 σ1 ι1 a1 w1 ak s1 b4 E ag ap
   have G:∀(k:Nat) (d:Bool),(b.setIfInBounds i true).getD k d=if k=i then true else b.getD k d:=by
    intro k d
    simp only [Array.getD_eq_getD_getElem?]
    by_cases c:k=i
    .subst c
     rw [if_pos rfl,Array.getElem?_setIfInBounds_self_of_lt (by omega)]
     rfl
    .rw [if_neg c,Array.getElem?_setIfInBounds_ne (by omega)]
   have B:∀k∈l1++l2,k≠i:=by
    intro k hk e
    subst e
    rw [List.pairwise_append] at hp
    rcases List.mem_append.1 hk with hk | hk
    .have:=hp.2.2 k hk k (by simp); omega
    .have:=(List.pairwise_cons.1 hp.2.1).1 k hk; omega
   refine Z2 N fuel _ (l1++l2) e1 H1 σ1 ι1 a1 w1 r1 ?_ ?_ (by simpa using a6) ?_ (by simp at f ⊢; omega) s1 b4 (by rw [E]; exact hs) ?_
   .rw [List.pairwise_append] at hp ⊢
    exact ⟨hp.1,(List.pairwise_cons.1 hp.2.1).2,fun x hx y hy=>hp.2.2 x hx y (by simp [hy])⟩
   .intro k
    rw [G]
    constructor
    .intro hk
     have h1:=(J k).1 (by
      rcases List.mem_append.1 hk with hk | hk
      .simp [hk]
      .simp [hk])
     rw [if_neg (B k hk)]; exact h1
    .rintro ⟨h1,h2⟩
     by_cases c:k=i
     .rw [if_pos c] at h2; cases h2
     .rw [if_neg c] at h2
      have:=(J k).2 ⟨h1,h2⟩
      simp only [List.mem_append,List.mem_cons] at this ⊢
      rcases this with h | h | h
      .exact .inl h
      .exact (c h).elim
      .exact .inr h
   .intro k o hk D x hx ah
    rw [G] at D ⊢
    by_cases Y:x.on=i
    .rw [if_pos Y]
    .rw [if_neg Y]
     by_cases c:k=i
     .subst c; exact ae o hk x hx ah
     .rw [if_neg c] at D; exact U k o hk D x hx ah
   .intro σ2 ι2 a2 w2 aj s2 b3 Z af ao
    exact hk σ2 ι2 a2 w2 (ak.trans aj) s2 b3 (Z.trans E) (af.trans ag) (ap.trans ao)
end
end Go.Ab
