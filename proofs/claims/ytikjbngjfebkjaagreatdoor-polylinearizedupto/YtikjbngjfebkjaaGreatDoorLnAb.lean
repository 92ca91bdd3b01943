/- Abstract values. -/
import Derived.Calls
import Derived.Orders
import Derived.Lib.ItoaNum
import Derived.Laws.CopyRow
import Derived.Laws.Cells
import Derived.Laws.Append
import Derived.Laws.IdiomStrings
import Derived.Lib.SliceRun
import Derived.Laws.FloatArith
import Derived.Laws.Cover2
import Derived.Laws.MakeOwn
import Derived.Lib.AppendStr
import Derived.MapKept
import Derived.WideKeyRuns
import Derived.Scope
open List
namespace Go.Ab
variable {i m n:Nat} {p:Prop} {α:Type _} {l:List α} {a:α}
abbrev OB:=Option Bool
theorem ζ (h:p:=by simp;omega):p:=h
theorem ω (h:p:=by omega):p:=h
theorem δ (h:p:=by decide):p:=h
theorem ψ (h:p:=by simp):p:=h
theorem Ha:l[i]? = some a↔∃h:i<l.length,l[i]=a:=List.getElem?_eq_some_iff
theorem Et {p:α->Bool}:l.all p=true↔∀x,x∈l->p x=true:=all_eq_true
theorem Fw (h:l[i]? = some a):a∈l:=mem_of_getElem? h
theorem Hj {xs:Array α}:xs.toList[i]? = xs[i]?:=Array.getElem?_toList
theorem Hb (h:n.ble m=true):n<=m:=Nat.le_of_ble_eq_true h
theorem Hn (h:n.beq m=true):n=m:=Nat.eq_of_beq_eq_true h
theorem Il {j:Nat} (h:i<j):(l.take j)[i]? = l[i]?:=getElem?_take_of_lt h
variable {m n:Nat} {α:Type}
theorem F3 (a b:Bool):((a&&b)=true)=(a=true/\b=true):=Bool.and_eq_true a b
theorem E8 (a b c:Nat):(a+b)*c=a*c+b*c:=Nat.add_mul a b c
inductive AV where
 | val (v:Value)
 | loc (h off:Nat)
 | arr (h k off len:Nat)
 | el (h k i j:Nat)
 | mp (h:Nat)
 | ref (cs:List AV)
 | sl (sz:Nat) (xs:List AV)
 | agg (cs:List AV)
 | tup (cs:List AV)
 | fn (f:FuncId) (caps:List AV)
 | fb (s:ByteArray)
 | vec (h n:Nat)
inductive Bo where
 | none
 | dead
 | cells (elem:TypeId) (cs:List AV)
 | rows (elem:TypeId) (sz:Nat) (xs:List AV)
 | map (es:List (AV×AV))
abbrev Cd:=Nat->AV
abbrev Hp:=Nat->Bo
abbrev A8:=Nat->Option Obj
def A3 (e:Nat->α) (n:Nat) (v:α):Nat->α:=λm=>bif Nat.beq m n then v else e m
theorem Cn (e:Nat->α) (n:Nat) (v:α):A3 e n v n=v:=by simp[A3]
theorem C2 (e:Nat->α) (v:α) (h:m≠n):A3 e n v m=e m:=by
 have:Nat.beq m n=false:=by
  cases u:Nat.beq m n
  .rfl
  .exact absurd (Hn u) h
 simp[A3,this]
theorem Aoz (e:Nat->α) (u v:α) (h:m≠n):A3 (A3 e n u) m v=A3 (A3 e m v) n u:=by
 funext k;by_cases B:k=n
 .subst B;rw[C2 _ _ (Ne.symm h),Cn,Cn]
 .by_cases C:k=m
  .subst C;rw[Cn,C2 _ _ B,Cn]
  .rw[C2 _ _ C,C2 _ _ B,C2 _ _ B,C2 _ _ C]
def AV.cells:AV->List AV
 | .agg cs=>cs
 | .val (.agg vs)=>vs.toList.map .val
 | x=>[x]
def Fm:Value->Bool
 | .agg _ | .tuple _=>false
 | _=>true
def AV.one:AV->Bool
 | .agg _ | .tup _=>false
 | .val v=>Fm v
 | _=>true
inductive CC (σ:A8):AV->Value->Prop where
 | val (v:Value):CC σ (.val v) v
 | nil (sz:Nat) (a:Option Addr) (cap:Nat):CC σ (.sl sz []) (.slice a 0 cap)
 | sl (xs:List AV) (b off cap sz:Nat) (C:Array Value) (E:TypeId) (fr:Nat×Nat) (g:Nat->Nat->Value) (hσ:σ b=some (.cells C E fr))
   (hs:∀(i:Nat) (x:AV),xs[i]? = some x->x.cells.length=sz)
   (hc:∀(i:Nat) (x:AV) (j:Nat) (c:AV),xs[i]? = some x->x.cells[j]? = some c->CC σ c (g i j))
   (h1:∀(i:Nat) (x:AV) (j:Nat) (c:AV),xs[i]? = some x->x.cells[j]? = some c->Fm (g i j)=true)
   (hC:∀(i j:Nat),i<xs.length->j<sz->C[off+i*sz+j]? = some (g i j))
   (hl:xs.length<=140737488355328) (hcap:xs.length<=cap):CC σ (.sl sz xs) (.slice (some ⟨b,off,Option.none⟩) xs.length cap)
 | agg (cs:List AV) (vs:Array Value) (hl:vs.size=cs.length) (h:∀(i:Nat) (c:AV) (v:Value),cs[i]? = some c->vs[i]? = some v->CC σ c v):CC σ (.agg cs) (.agg vs)
 | fbn (s:ByteArray) (a:Option Addr) (cap:Nat) (h0:s.size=0):CC σ (.fb s) (.slice a 0 cap)
 | fb (s:ByteArray) (b cap:Nat) (C:Array Value) (hσ:σ b=some (.cells C 5 (0,s.size))) (h0:s.size≠0) (hcap:s.size<=cap) (hC:s.size<=C.size) (hl:s.size<=140737488355328)
   (hb:∀(j:Nat) (x:UInt8),s.data[j]? = some x->C[j]? = some (Value.int .u8 x.toNat)):CC σ (.fb s) (.slice (some ⟨b,0,Option.none⟩) s.size cap)
inductive Loc where
 | none
 | box (b:Nat)
 | nil
 | blk (b tot:Nat)
abbrev Ch:=Nat->Loc
def Loc.block?:Loc->Option Nat
 | .box b=>some b
 | .blk b _=>some b
 | _=>Option.none
def H6 (l:Loc) (sz off len:Nat) (v:Value):Prop := match l with
 | .nil=>v = .slice Option.none 0 0/\off=0/\len=0
 | .blk b c=>off+len<=c/\v = .slice (some ⟨b,off*sz,Option.none⟩) len (c-off)
 | _=>False
def Ao0 (l:Loc) (sz i j:Nat) (v:Value):Prop := match l with
 | .blk b _=>v = .pointer (some ⟨b,i*sz+j,Option.none⟩)
 | _=>False
inductive Conc (σ:A8) (ι:Ch) (H:Hp):AV->Value->Prop where
 | cc {a:AV} {v:Value} (h:CC σ a v):Conc σ ι H a v
 | loc (h off b:Nat) (hb:ι h = .box b):Conc σ ι H (.loc h off) (.pointer (some ⟨b,off,Option.none⟩))
 | mp (h b:Nat) (hb:ι h = .box b):Conc σ ι H (.mp h) (.map (some b))
 | vec (h n b:Nat) (hb:ι h = .box b):Conc σ ι H (.vec h n) (.slice (some ⟨b,0,Option.none⟩) n n)
 | arr (h k off len:Nat) (v:Value) (hn:H h≠.none) (hv:∀E sz xs,H h = .rows E sz xs->k<=xs.length/\(xs.length=k->H6 (ι h) sz off len v))
   (hone:Fm v=true):Conc σ ι H (.arr h k off len) v
 | el (h k i j:Nat) (v:Value) (hn:H h≠.none) (hv:∀E sz xs,H h = .rows E sz xs->k<=xs.length/\(xs.length=k->Ao0 (ι h) sz i j v))
   (hone:Fm v=true):Conc σ ι H (.el h k i j) v
 | ref (cs:List AV) (b off:Nat) (C:Array Value) (E:TypeId) (fr:Nat×Nat) (g:Nat->Value) (hσ:σ b=some (.cells C E fr))
   (hc:∀(j:Nat) (c:AV),cs[j]? = some c->CC σ c (g j)) (h1:∀(j:Nat) (c:AV),cs[j]? = some c->Fm (g j)=true)
   (hC:∀(j:Nat),j<cs.length->C[off+j]? = some (g j)):Conc σ ι H (.ref cs) (.pointer (some ⟨b,off,Option.none⟩))
 | agg (cs:List AV) (vs:Array Value) (hl:vs.size=cs.length) (h:∀(i:Nat) (c:AV) (v:Value),cs[i]? = some c->vs[i]? = some v->Conc σ ι H c v):Conc σ ι H (.agg cs) (.agg vs)
 | tup (cs:List AV) (vs:Array Value) (hl:vs.size=cs.length) (h:∀(i:Nat) (c:AV) (v:Value),cs[i]? = some c->vs[i]? = some v->Conc σ ι H c v):Conc σ ι H (.tup cs) (.tuple vs)
 | fn (f:FuncId) (caps:List AV) (vs:Array Value) (hl:vs.size=caps.length) (h:∀(i:Nat) (c:AV) (v:Value),caps[i]? = some c->vs[i]? = some v->Conc σ ι H c v) :
   Conc σ ι H (.fn f caps) (.func (.func f) #[] vs)
def A8.le (σ c:A8):Prop:=∀b o,σ b=some o->c b=some o
theorem A8.le_refl (σ:A8):σ.le σ:=λ_ _ h=>h
theorem A8.le_trans {σ f c:A8} (h:A8.le σ f) (h':A8.le f c):A8.le σ c:=λb o e=>h' b o (h b o e)
variable {σ:A8} {ι:Ch} {H H':Hp} {v:Value}
structure HLe (l:Loc) (o:Bo) (l':Loc) (o':Bo):Prop where
 box:∀b,l = .box b->l' = .box b
 some:o≠.none->o'≠.none
 rows:o≠.none->∀E' sz' xs',o' = .rows E' sz' xs'->∃E sz xs,o = .rows E sz xs/\(xs.length<xs'.length\/(xs.length=xs'.length/\sz=sz'/\l=l'))
theorem HLe.refl (l:Loc) (o:Bo):HLe l o l o := ⟨λ_ h=>h,λh=>h,λ_ E sz xs h=>⟨E,sz,xs,h,.inr ⟨rfl,rfl,rfl⟩⟩⟩
theorem HLe.trans {l y i:Loc} {o o' g:Bo} (h:HLe l o y o') (h':HLe y o' i g):HLe l o i g:=by
 refine⟨λb e=>h'.box b (h.box b e),λe=>h'.some (h.some e),λe u f c s=>?_⟩;obtain⟨G,k,j,e',x⟩:=h'.rows (h.some e) u f c s;obtain⟨E,sz,xs,D,r⟩:=h.rows e G k j e';refine⟨E,sz,xs,D,?_⟩;rcases r with r|⟨J,I,z⟩ <;> rcases x with x|⟨B,A,q⟩
 .left;omega
 .left;omega
 .left;omega
 .exact .inr ⟨ω,ω,z.trans q⟩
structure Le (σ:A8) (ι:Ch) (H:Hp) (σ':A8) (ι':Ch) (H':Hp):Prop where
 sto:σ.le σ'
 obj:∀h,HLe (ι h) (H h) (ι' h) (H' h)
theorem Le.refl (σ:A8) (ι:Ch) (H:Hp):Le σ ι H σ ι H:=⟨A8.le_refl σ,λ_=>HLe.refl _ _⟩
theorem Le.trans {g b:A8} {i c:Ch} {f:Hp} (h:Le σ ι H g i H') (h':Le g i H' b c f):Le σ ι H b c f := ⟨A8.le_trans h.sto h'.sto,λx=>(h.obj x).trans (h'.obj x)⟩
theorem CC.mono {l:A8} (q:σ.le l) {a:AV} (h:CC σ a v):CC l a v:=by induction h with| val v=>exact .val v| nil sz a cap=>exact .nil sz a cap| sl xs b off cap sz C E fr g i j _ h1 k f c ih=>exact .sl xs b off cap sz C E fr g (q _ _ i) j ih h1 k f c| agg cs vs f _ ih=>exact .agg cs vs f ih| fbn s a cap h0=>exact .fbn s a cap h0| fb s b cap C i h0 c k f hb=>exact .fb s b cap C (q _ _ i) h0 c k f hb
theorem Conc.mono {J:A8} {L:Ch} (q:Le σ ι H J L H') {a:AV} (h:Conc σ ι H a v):Conc J L H' a v:=by
 induction h with
 | cc h=>exact .cc (h.mono q.sto)
 | loc h off b hb=>exact .loc h off b ((q.obj h).box b hb)
 | mp h b hb=>exact .mp h b ((q.obj h).box b hb)
 | vec h n b hb=>exact .vec h n b ((q.obj h).box b hb)
 | arr h k off len v y hv l=>
  refine .arr h k off len v ((q.obj h).some y) (λI u s e=>?_) l;obtain⟨E,sz,xs,G,r⟩:=(q.obj h).rows y I u s e;obtain⟨hk,hv⟩:=hv E sz xs G;rcases r with r|⟨M,D,B⟩
  .exact⟨ω,λx=>ω⟩
  .rw[<-D,<-B];exact⟨ω,λx=>hv ω⟩
 | el h k i j v y hv l=>
  refine .el h k i j v ((q.obj h).some y) (λI u s e=>?_) l;obtain⟨E,sz,xs,G,r⟩:=(q.obj h).rows y I u s e;obtain⟨hk,hv⟩:=hv E sz xs G;rcases r with r|⟨M,D,B⟩
  .exact⟨ω,λx=>ω⟩
  .rw[<-D,<-B];exact⟨ω,λx=>hv ω⟩
 | ref cs b off C E fr g N hc h1 R=>exact .ref cs b off C E fr g (q.sto _ _ N) (λj c h=>(hc j c h).mono q.sto) h1 R
 | agg cs vs z _ ih=>exact .agg cs vs z ih
 | tup cs vs z _ ih=>exact .tup cs vs z ih
 | fn f A vs z _ ih=>exact .fn f A vs z ih
variable {F b σ:A8} {ι:Ch} {H:Hp} {W w:World}
def Je (σ:A8) (sz:Nat) (xs:List AV) (C:Array Value):Prop := ∃g:Nat->Nat->Value,(∀(i:Nat) (x:AV),xs[i]? = some x->x.cells.length=sz) /\ (∀(i:Nat) (x:AV) (j:Nat) (c:AV),xs[i]? = some x->x.cells[j]? = some c->CC σ c (g i j)/\Fm (g i j)=true) /\ (∀(i j:Nat),i<xs.length->j<sz->C[i*sz+j]? = some (g i j))
def V8 (σ:A8) (es:List (AV×AV)) (M:Array MapEntry):Prop := M.size=es.length/\∀(i:Nat) (p:AV×AV) (e:MapEntry),es[i]? = some p->M[i]? = some e->CC σ p.1 e.key/\CC σ p.2 e.val
theorem V8.mono (c:σ.le b) {es:List (AV×AV)} {M:Array MapEntry} (h:V8 σ es M):V8 b es M := ⟨h.1,λi p e h1 h2=>⟨(h.2 i p e h1 h2).1.mono c,(h.2 i p e h1 h2).2.mono c⟩⟩
def C8 (σ:A8) (ι:Ch) (H:Hp) (F:A8) (w:World) (h:Nat):Prop := match H h with
 | .none=>ι h = .none
 | .dead=>True
 | .cells E cs=>∃(b:Nat) (C:Array Value),ι h = .box b/\σ b=none/\F b=none/\w.heap[b]? = some (.cells C E (0,0))/\C.size=cs.length /\ ∀(i:Nat) (c:AV) (v:Value),cs[i]? = some c->C[i]? = some v->Conc σ ι H c v
 | .rows E sz xs=>0<sz/\xs.length<=140737488355328/\((ι h = .nil/\xs = [])\/∃(b f:Nat) (C:Array Value),ι h = .blk b f/\σ b=none/\F b=none /\ w.heap[b]? = some (.cells C E (0,0))/\C.size=f*sz/\xs.length<=f/\Je σ sz xs C)
 | .map es=>∃(b:Nat) (M:Array MapEntry) (t:Nat),ι h = .box b/\σ b=none/\F b=none/\w.heap[b]? = some (.map M t)/\V8 σ es M
def Bo.live:Bo->Bool
 | .none | .dead=>false
 | _=>true
def V9 (σ:A8):Prop:=∃(E:TypeId) (u:Nat×Nat),σ 0=some (.cells (Lib.pow10Tab.map λz=>Value.int .u64 z).toArray E u)
theorem V9.mono (h:σ.le b) (g:V9 σ):V9 b:=by obtain⟨E,fr,e⟩:=g;exact⟨E,fr,h _ _ e⟩
structure St (σ:A8) (ι:Ch) (H:Hp) (F:A8) (W w:World):Prop where
 sto:∀b o,σ b=some o->w.heap[b]? = some o
 fra:∀b o,F b=some o->w.heap[b]? = some o/\σ b=none
 obj:∀h,C8 σ ι H F w h
 inj:∀h h' b,(H h).live=true->(H h').live=true->(ι h).block? = some b->(ι h').block? = some b->h=h'
 os:w.os=W.os
 tape:w.tape=W.tape
 output:w.output=W.output
 glo:V9 σ
 drw:W.drawn<=w.drawn
theorem Je.mono (f:σ.le b) {sz:Nat} {xs:List AV} {C:Array Value} (h:Je σ sz xs C):Je b sz xs C:=by obtain⟨g,h1,h2,h3⟩:=h;exact⟨g,h1,λi x j c hx hc=>⟨((h2 i x j c hx hc).1).mono f,(h2 i x j c hx hc).2⟩,h3⟩
theorem St.block (s:St σ ι H F W w) {h b:Nat} (f:(H h).live=true) (hb:(ι h).block? = some b) : b<w.heap.size/\σ b=none/\F b=none:=by
 have c:=s.obj h;unfold C8 at c;cases hh:H h with
 | none=>rw[hh]at f;cases f
 | dead=>rw[hh]at f;cases f
 | cells E cs=>rw[hh]at c;obtain⟨g,C,e,h1,h2,h3,_⟩:=c;rw[e]at hb;simp[Loc.block?]at hb;subst hb;refine⟨?_,h1,h2⟩;exact (Array.getElem?_eq_some_iff.1 h3).1
 | rows E sz xs=>
  rw[hh]at c;obtain⟨_,_,⟨e,_⟩|⟨g,i,C,e,h1,h2,h3,_⟩⟩:=c
  .rw[e]at hb;simp[Loc.block?]at hb
  .rw[e]at hb;simp[Loc.block?]at hb;subst hb;exact⟨(Array.getElem?_eq_some_iff.1 h3).1,h1,h2⟩
 | map es=>rw[hh]at c;obtain⟨g,M,t,e,h1,h2,h3,_⟩:=c;rw[e]at hb;simp[Loc.block?]at hb;subst hb;exact⟨(Array.getElem?_eq_some_iff.1 h3).1,h1,h2⟩
theorem St.touch {I:A8} {J:Ch} {H':Hp} {w':World} (s:St σ ι H F W w) (h t:Nat) (V:∀x,x≠h->J x=ι x) (X:∀x,x≠h->H' x=H x) (le:Le σ ι H I J H') (f:∀b,b≠t->w'.heap[b]? = w.heap[b]?) (N:∀b,b≠t->I b=σ b) (a1:∀o,I t=some o->w'.heap[t]? = some o) (j:∀x,x≠h->(H x).live=true->(ι x).block?≠some t) (hF:F t=none) (A:∀b,(H' h).live=true->(J h).block? = some b->b=t\/((H h).live=true/\(ι h).block? = some b)) (S:C8 I J H' F w' h) (a6:w'.os=w.os) (D:w'.tape=w.tape) (R:w'.output=w.output) (hdrw:w.drawn<=w'.drawn:=by exact Nat.le_refl _):St I J H' F W w':=by
 refine⟨?_,?_,?_,?_,a6.trans s.os,D.trans s.tape,R.trans s.output,s.glo.mono le.sto,Nat.le_trans s.drw hdrw⟩
 .intro b o hb;by_cases e:b=t
  .subst e;exact a1 o hb
  .rw[f b e];exact s.sto b o (by rw[<-N b e];exact hb)
 .intro b o hb;have e:b≠t:=(by intro e;subst e;rw[hF]at hb;cases hb);rw[f b e,N b e];exact s.fra b o hb
 .intro x;by_cases e:x=h
  .subst e;exact S
  .have z:=s.obj x;unfold C8 at z ⊢;rw[X x e,V x e];cases hx:H x with
   | none=>rw[hx]at z;exact z
   | dead=>trivial
   | cells E cs=>rw[hx]at z;obtain⟨b,C,u,h1,h2,h3,K,h5⟩:=z;have g:b≠t:=(by intro l;subst l;exact j x e (by rw[hx];rfl) (by rw[u];rfl));exact⟨b,C,u,by rw[N b g];exact h1,h2,by rw[f b g];exact h3,K,λi c v hc hv=>(h5 i c v hc hv).mono le⟩
   | rows E sz xs=>
    rw[hx]at z;obtain⟨z1,z2,⟨u,e2⟩|⟨b,Y,C,u,h1,h2,h3,K,h5,h6⟩⟩:=z
    .exact⟨z1,z2,.inl ⟨u,e2⟩⟩
    .have g:b≠t:=(by intro l;subst l;exact j x e (by rw[hx];rfl) (by rw[u];rfl));exact⟨z1,z2,.inr ⟨b,Y,C,u,by rw[N b g];exact h1,h2,by rw[f b g];exact h3,K,h5,h6.mono le.sto⟩⟩
   | map es=>rw[hx]at z;obtain⟨b,M,q,u,h1,h2,h3,K⟩:=z;have g:b≠t:=(by intro l;subst l;exact j x e (by rw[hx];rfl) (by rw[u];rfl));exact⟨b,M,q,u,by rw[N b g];exact h1,h2,by rw[f b g];exact h3,K.mono le.sto⟩
 .intro x y b L G U k;by_cases ex:x=h
  .subst ex;by_cases B:y=x
   .exact B.symm
   .rw[X y B]at G;rw[V y B]at k;rcases A b L U with e|⟨Z,b0⟩
    .subst e;exact (j y B G k).elim
    .exact s.inj x y b Z G b0 k
  .rw[X x ex]at L;rw[V x ex]at U;by_cases B:y=h
   .subst B;rcases A b G k with e|⟨Z,b0⟩
    .subst e;exact (j x ex L U).elim
    .exact s.inj x y b L Z U b0
   .rw[X y B]at G;rw[V y B]at k;exact s.inj x y b L G U k
theorem HLe.of_none {b:Loc} {o':Bo}:HLe .none .none b o':=⟨nofun,λh=>(h rfl).elim,λh=>(h rfl).elim⟩
theorem Le.upd (c:σ.le b) (h:Nat) (l:Loc) (o:Bo) (hh:HLe (ι h) (H h) l o):Le σ ι H b (A3 ι h l) (A3 H h o):=by
 refine⟨c,λx=>?_⟩;by_cases e:x=h
 .subst e;rw[Cn,Cn];exact hh
 .rw[C2 _ _ e,C2 _ _ e];exact HLe.refl _ _
theorem Kd {α:Type} (e:Nat->α) (n:Nat):A3 e n (e n)=e:=by
 funext m;by_cases h:m=n
 .subst h;rw[Cn]
 .rw[C2 _ _ h]
theorem St.newBox (s:St σ ι H F W w) (h:Nat) (u:H h = .none) (E:TypeId) (cs:List AV) (C:Array Value) (l:C.size=cs.length) (hc:∀(i:Nat) (c:AV) (v:Value),cs[i]? = some c->C[i]? = some v->Conc σ ι H c v) : St σ (A3 ι h (.box w.heap.size)) (A3 H h (.cells E cs)) F W (w.alloc (.cells C E))/\Le σ ι H σ (A3 ι h (.box w.heap.size)) (A3 H h (.cells E cs)):=by
 have k:ι h = .none:=by have:=s.obj h;unfold C8 at this;rw[u]at this;exact this
 have le:Le σ ι H σ (A3 ι h (.box w.heap.size)) (A3 H h (.cells E cs)):=Le.upd (A8.le_refl σ) h _ _ (by rw[k,u];exact HLe.of_none);have f:∀(S:A8),(∀b o,S b=some o->w.heap[b]? = some o)->S w.heap.size=none:=by intro S y;cases e:S w.heap.size with| none=>rfl| some o=>have:=y _ _ e;simp at this
 have g:=f σ s.sto;have j:=f F λb o hb=>(s.fra b o hb).1;refine⟨s.touch h w.heap.size (λx e=>C2 _ _ e) (λx e=>C2 _ _ e) le ?_ (λ_ _=>rfl) (λo q=>by rw[g]at q;cases q) ?_ j ?_ ?_ rfl rfl rfl,le⟩
 .intro b hb;show (w.heap.push _)[b]? = _;rw[Array.getElem?_push,if_neg hb]
 .intro x e l hb;have:=(s.block l hb).1;omega
 .intro b _ hb;rw[Cn]at hb;simp[Loc.block?]at hb;exact .inl hb.symm
 .unfold C8;rw[Cn];refine⟨w.heap.size,C,Cn _ _ _,g,j,?_,l,λi c v h1 h2=>(hc i c v h1 h2).mono le⟩;show (w.heap.push _)[w.heap.size]? = _;simp
theorem St.newFrozen (s:St σ ι H F W w) (o:Obj) : St (A3 σ w.heap.size (some o)) ι H F W (w.alloc o)/\Le σ ι H (A3 σ w.heap.size (some o)) ι H:=by
 have k:∀(S:A8),(∀b o,S b=some o->w.heap[b]? = some o)->S w.heap.size=none:=by intro S D;cases e:S w.heap.size with| none=>rfl| some o=>have:=D _ _ e;simp at this
 have y:=k σ s.sto;have z:=k F λb o hb=>(s.fra b o hb).1;have j:σ.le (A3 σ w.heap.size (some o)):=by intro b o' hb;rw[C2 _ _ (by intro e;subst e;rw[y]at hb;cases hb)];exact hb
 have le:Le σ ι H (A3 σ w.heap.size (some o)) ι H:=⟨j,λ_=>HLe.refl _ _⟩;have f:∀b,b≠w.heap.size->(w.alloc o).heap[b]? = w.heap[b]?:=by intro b hb;show (w.heap.push _)[b]? = _;rw[Array.getElem?_push,if_neg hb]
 refine⟨⟨?_,?_,?_,s.inj,s.os,s.tape,s.output,s.glo.mono j,s.drw⟩,le⟩
 .intro b o' hb;by_cases e:b=w.heap.size
  .subst e;rw[Cn]at hb;cases hb;show (w.heap.push _)[w.heap.size]? = _;simp
  .rw[C2 _ _ e]at hb;rw[f b e];exact s.sto b o' hb
 .intro b o' hb;have e:b≠w.heap.size:=(by intro e;subst e;rw[z]at hb;cases hb);rw[f b e,C2 _ _ e];exact s.fra b o' hb
 .intro x;have h:=s.obj x;unfold C8 at h ⊢;cases hx:H x with
  | none=>rw[hx]at h;exact h
  | dead=>trivial
  | cells E cs=>rw[hx]at h;obtain⟨b,C,l,h1,h2,h3,J,A⟩:=h;have g:b≠w.heap.size:=(by have:=(Array.getElem?_eq_some_iff.1 h3).1;omega);exact⟨b,C,l,by rw[C2 _ _ g];exact h1,h2,by rw[f b g];exact h3,J,λi c v hc hv=>(A i c v hc hv).mono le⟩
  | rows E sz xs=>
   rw[hx]at h;obtain⟨B,K,⟨l,I⟩|⟨b,u,C,l,h1,h2,h3,J,A,G⟩⟩:=h
   .exact⟨B,K,.inl ⟨l,I⟩⟩
   .have g:b≠w.heap.size:=(by have:=(Array.getElem?_eq_some_iff.1 h3).1;omega);exact⟨B,K,.inr ⟨b,u,C,l,by rw[C2 _ _ g];exact h1,h2,by rw[f b g];exact h3,J,A,G.mono j⟩⟩
  | map es=>rw[hx]at h;obtain⟨b,M,q,l,h1,h2,h3,J⟩:=h;have g:b≠w.heap.size:=(by have:=(Array.getElem?_eq_some_iff.1 h3).1;omega);exact⟨b,M,q,l,by rw[C2 _ _ g];exact h1,h2,by rw[f b g];exact h3,J.mono j⟩
theorem St.drew (s:St σ ι H F W w) (n:Nat) (b:w.drawn<=n:=by first|exact Nat.le_succ _|exact Nat.le_refl _|omega):St σ ι H F W {w with drawn:=n}:=by refine⟨s.sto,s.fra,λh=>?_,s.inj,s.os,s.tape,s.output,s.glo,Nat.le_trans s.drw b⟩;have:=s.obj h;unfold C8 at this ⊢;exact this
theorem Ai4 (w:World) (g b:Nat) (C:Array Value) (h:b≠g):(w.setRow g C).heap[b]? = w.heap[b]?:=by simp only[World.setRow,Array.getElem?_modify];rw[if_neg ω]
theorem St.setBox (s:St σ ι H F W w) (h:Nat) (E:TypeId) (cs f:List AV) (hh:H h = .cells E cs) (b:Nat) (hb:ι h = .box b) (g:Array Value) (k:g.size=f.length) (hc:∀(i:Nat) (c:AV) (v:Value),f[i]? = some c->g[i]? = some v->Conc σ ι H c v) : St σ ι (A3 H h (.cells E f)) F W (w.setRow b g)/\Le σ ι H σ ι (A3 H h (.cells E f)):=by
 have j:=s.obj h;unfold C8 at j;rw[hh]at j;obtain⟨B,C,u,h1,h2,h3,D,z⟩:=j;rw[hb]at u;cases u;have le:Le σ ι H σ ι (A3 H h (.cells E f)):=by have:=Le.upd (ι:=ι) (H:=H) (A8.le_refl σ) h (ι h) (.cells E f) (by rw[hh];exact⟨λ_ e=>e,(λ_ e=>by cases e),(λ_ _ _ _ e=>by cases e)⟩);rwa [Kd]at this
 refine⟨s.touch h b (λ_ _=>rfl) (λx e=>C2 _ _ e) le (λx e=>Ai4 w b x g e) (λ_ _=>rfl) (λo e=>by rw[h1]at e;cases e) ?_ h2 ?_ ?_ rfl rfl rfl,le⟩
 .intro x e k l;exact e (s.inj x h b k (by rw[hh];rfl) l (by rw[hb];rfl))
 .intro A _ q;exact .inr ⟨by rw[hh];rfl,q⟩
 .unfold C8;rw[Cn];exact⟨b,g,hb,h1,h2,setRow_heap w b C g E (0,0) h3,k,λi c v x y=>(hc i c v x y).mono le⟩
theorem St.setRows (s:St σ ι H F W w) (h:Nat) (E:TypeId) (sz:Nat) (xs c:List AV) (hh:H h = .rows E sz xs) (b f:Nat) (hb:ι h = .blk b f) (k:c.length=xs.length) (g:Array Value) (D:g.size=f*sz) (B:Je σ sz c g) : St σ ι (A3 H h (.rows E sz c)) F W (w.setRow b g)/\Le σ ι H σ ι (A3 H h (.rows E sz c)):=by
 have j:=s.obj h;unfold C8 at j;rw[hh]at j;obtain⟨y,K,⟨i,J⟩|⟨M,u,C,i,h1,h2,h3,R,I,G⟩⟩:=j
 .rw[hb]at i;cases i
 rw[hb]at i;cases i;have le:Le σ ι H σ ι (A3 H h (.rows E sz c)):=by have:=Le.upd (ι:=ι) (H:=H) (A8.le_refl σ) h (ι h) (.rows E sz c) (by rw[hh];exact⟨λ_ e=>e,(λ_ e=>by cases e),λ_ N A z e=>by cases e;exact⟨E,sz,xs,rfl,.inr ⟨k.symm,rfl,rfl⟩⟩⟩);rwa [Kd]at this
 refine⟨s.touch h b (λ_ _=>rfl) (λx e=>C2 _ _ e) le (λx e=>Ai4 w b x g e) (λ_ _=>rfl) (λo e=>by rw[h1]at e;cases e) ?_ h2 ?_ ?_ rfl rfl rfl,le⟩
 .intro x e k l;exact e (s.inj x h b k (by rw[hh];rfl) l (by rw[hb];rfl))
 .intro L _ q;exact .inr ⟨by rw[hh];rfl,q⟩
 .unfold C8;rw[Cn];exact⟨y,ω,.inr ⟨b,f,g,hb,h1,h2,setRow_heap w b C g E (0,0) h3,D,ω,B⟩⟩
theorem St.growIn (s:St σ ι H F W w) (h:Nat) (E:TypeId) (sz:Nat) (xs c:List AV) (hh:H h = .rows E sz xs) (b f:Nat) (hb:ι h = .blk b f) (k:xs.length<c.length) (D:c.length<=140737488355328) (ht:c.length<=f) (g:Array Value) (G:g.size=f*sz) (B:Je σ sz c g) : St σ ι (A3 H h (.rows E sz c)) F W (w.setRow b g)/\Le σ ι H σ ι (A3 H h (.rows E sz c)):=by
 have j:=s.obj h;unfold C8 at j;rw[hh]at j;obtain⟨y,K,⟨i,L⟩|⟨N,u,C,i,h1,h2,h3,S,J,I⟩⟩:=j
 .rw[hb]at i;cases i
 rw[hb]at i;cases i;have le:Le σ ι H σ ι (A3 H h (.rows E sz c)):=by have:=Le.upd (ι:=ι) (H:=H) (A8.le_refl σ) h (ι h) (.rows E sz c) (by rw[hh];exact⟨λ_ e=>e,(λ_ e=>by cases e),λ_ R A z e=>by cases e;exact⟨E,sz,xs,rfl,.inl k⟩⟩);rwa [Kd]at this
 refine⟨s.touch h b (λ_ _=>rfl) (λx e=>C2 _ _ e) le (λx e=>Ai4 w b x g e) (λ_ _=>rfl) (λo e=>by rw[h1]at e;cases e) ?_ h2 ?_ ?_ rfl rfl rfl,le⟩
 .intro x e k l;exact e (s.inj x h b k (by rw[hh];rfl) l (by rw[hb];rfl))
 .intro M _ q;exact .inr ⟨by rw[hh];rfl,q⟩
 .unfold C8;rw[Cn];exact⟨y,D,.inr ⟨b,f,g,hb,h1,h2,setRow_heap w b C g E (0,0) h3,G,ht,B⟩⟩
theorem St.fresh (s:St σ ι H F W w):σ w.heap.size=none/\F w.heap.size=none:=by
 have c:∀(S:A8),(∀b o,S b=some o->w.heap[b]? = some o)->S w.heap.size=none:=by intro S f;cases e:S w.heap.size with| none=>rfl| some o=>have:=f _ _ e;simp at this
 exact⟨c σ s.sto,c F λb o hb=>(s.fra b o hb).1⟩
theorem St.newRows (s:St σ ι H F W w) (h:Nat) (E:TypeId) (sz:Nat) (xs:List AV) (c:Nat) (C:Array Value) (hh:H h = .none\/∃y g f,H h = .rows y g f/\f.length<xs.length) (hz:0<sz) (I:xs.length<=140737488355328) (ht:xs.length<=c) (L:C.size=c*sz) (G:Je σ sz xs C) : St σ (A3 ι h (.blk w.heap.size c)) (A3 H h (.rows E sz xs)) F W (w.alloc (.cells C E))/\Le σ ι H σ (A3 ι h (.blk w.heap.size c)) (A3 H h (.rows E sz xs)):=by
 obtain⟨i,k⟩:=s.fresh;have le:Le σ ι H σ (A3 ι h (.blk w.heap.size c)) (A3 H h (.rows E sz xs)):=by
  refine Le.upd (A8.le_refl σ) h _ _ ?_;rcases hh with j|⟨y,g,f,j,q⟩
  .have l:ι h = .none:=(by have:=s.obj h;unfold C8 at this;rw[j]at this;exact this);rw[l,j];exact HLe.of_none
  .rw[j];refine⟨λb e=>?_,(λ_ e=>by cases e),λ_ N D B e=>by cases e;exact⟨y,g,f,rfl,.inl q⟩⟩;have:=s.obj h;unfold C8 at this;rw[j]at this;obtain⟨_,_,⟨u,_⟩|⟨M,z,C,u,_⟩⟩:=this <;> rw[e]at u <;> cases u
 refine⟨s.touch h w.heap.size (λx e=>C2 _ _ e) (λx e=>C2 _ _ e) le ?_ (λ_ _=>rfl) (λo A=>by rw[i]at A;cases A) ?_ k ?_ ?_ rfl rfl rfl,le⟩
 .intro b hb;show (w.heap.push _)[b]? = _;rw[Array.getElem?_push,if_neg hb]
 .intro x e J hb;have:=(s.block J hb).1;omega
 .intro b _ hb;rw[Cn]at hb;simp[Loc.block?]at hb;exact .inl hb.symm
 .unfold C8;rw[Cn];refine⟨hz,I,.inr ⟨w.heap.size,c,C,Cn _ _ _,i,k,?_,L,ht,G⟩⟩;show (w.heap.push _)[w.heap.size]? = _;simp
theorem St.newNil (s:St σ ι H F W w) (h:Nat) (j:H h = .none) (E:TypeId) (sz:Nat) (hz:0<sz) : St σ (A3 ι h .nil) (A3 H h (.rows E sz [])) F W w/\Le σ ι H σ (A3 ι h .nil) (A3 H h (.rows E sz [])):=by
 obtain⟨c,g⟩:=s.fresh;have f:ι h = .none:=by have:=s.obj h;unfold C8 at this;rw[j]at this;exact this
 have le:Le σ ι H σ (A3 ι h .nil) (A3 H h (.rows E sz [])):=Le.upd (A8.le_refl σ) h _ _ (by rw[f,j];exact HLe.of_none);refine⟨s.touch h w.heap.size (λx e=>C2 _ _ e) (λx e=>C2 _ _ e) le (λ_ _=>rfl) (λ_ _=>rfl) (λo i=>by rw[c]at i;cases i) ?_ g ?_ ?_ rfl rfl rfl,le⟩
 .intro x e k hb;have:=(s.block k hb).1;omega
 .intro b _ hb;rw[Cn]at hb;simp[Loc.block?]at hb
 .unfold C8;rw[Cn];exact⟨hz,ψ,.inl ⟨Cn _ _ _,rfl⟩⟩
inductive TD where
 | int (k:IntKind)
 | bool
 | string
 | slice (e:TypeId)
 | struct (fs:List (Nat×Nat))
 | map (k e:TypeId)
 | float (k:FloatKind)
 | other
structure TI where
 d:TD
 size:Nat
 bytes:Nat
 zero:List Value
def TI.isAgg (i:TI):Bool := match i.d with
 | .struct _=>true
 | _=>false
def zok (u:TypeDesc) (z:Value):Bool := match u with
 | .struct _=>(match z with|.agg _=>true|_=>false)
 | _=>Fm z
def Jf (P:Program) (t:TypeId):Option TI := match P.info? t,P.underlying t with
 | some b,some u=> match b.zero with
  | none=>none
  | some z=> bif !(zok u z) then none else match u with
   | .int k=>some ⟨.int k,b.size,b.bytes,z.cells.toList⟩
   | .bool=>some ⟨.bool,b.size,b.bytes,z.cells.toList⟩
   | .string=>some ⟨.string,b.size,b.bytes,z.cells.toList⟩
   | .slice e=>some ⟨.slice e,b.size,b.bytes,z.cells.toList⟩
   | .map k e=>some ⟨.map k e,b.size,b.bytes,z.cells.toList⟩
   | .float k=>some ⟨.float k,b.size,b.bytes,z.cells.toList⟩
   | .struct B=> if (B.toList.all λf=>decide (0<P.cellsOf f.type)) then some ⟨.struct (B.toList.map λf=>(f.offset,P.cellsOf f.type)),b.size,b.bytes,z.cells.toList⟩ else none
   | .array _ _=>none
   | _=>some ⟨.other,b.size,b.bytes,z.cells.toList⟩
 | _,_=>none
abbrev Dq:=Nat->Option TI
def Ds (P:Program) (T:Dq):Prop:=∀t i,T t=some i->Jf P t=some i
structure Eff where
 r:AV
 rd:List (Nat×Bo)
 wr:List (Nat×Bo)
def Cr (H:Hp):List (Nat×Bo)->Hp
 | []=>H
 | p::l=>Cr (A3 H p.1 p.2) l
def N6 (cs:List AV) (off:Nat) (new:List AV):List AV:=cs.take off++(new++cs.drop (off+new.length))
def Wa (fs:List (Nat×Nat)):List AV->List (Nat×AV)->Option (List AV)
 | cs,[]=>some cs
 | cs,p::u=> match fs[p.1]? with
  | none=>none
  | some q=>bif Nat.beq p.2.cells.length q.2&&Nat.ble (q.1+q.2) cs.length then Wa fs (N6 cs q.1 p.2.cells) u else none
def AV.cl1:AV->Bool
 | .val v=>Fm v
 | .sl _ _=>true
 | _=>false
def Mp (sz:Nat) (x:AV):Bool:=Nat.beq x.cells.length sz&&x.cells.all AV.cl1
def AV.isPtr:AV->Bool
 | .loc .. | .ref _ | .fn ..=>true
 | _=>false
def AV.free1:AV->Bool
 | .agg cs=>cs.all AV.cl1
 | x=>x.cl1
def AV.free:AV->Bool
 | .val _ | .sl _ _ | .ref _=>true
 | .agg cs=>cs.all AV.cl1
 | .tup cs=>cs.all AV.free1
 | .fn _ cs=>cs.all AV.cl1
 | _=>false
def Ai5 (op:BinOp) (a b:Int):Option Bool := match op with
 | .eql=>some (a==b)
 | .neq=>some (a != b)
 | .lss=>some (decide (a<b))
 | .leq=>some (decide (a<=b))
 | .gtr=>some (decide (a>b))
 | .geq=>some (decide (a>=b))
 | _=>none
section conc
variable {σ:A8} {ι:Ch} {H:Hp}
variable {x:AV} {v:Value}
theorem Conc.val_inv {u:Value} (h:Conc σ ι H (.val u) v):v=u:=by cases h with| cc h=>cases h;rfl
theorem Conc.of_val (v:Value):Conc σ ι H (.val v) v:=.cc (.val v)
theorem Conc.sl_inv {sz:Nat} {xs:List AV} (h:Conc σ ι H (.sl sz xs) v):CC σ (.sl sz xs) v:=by cases h with| cc h=>exact h
theorem Conc.agg_inv {cs:List AV} (h:Conc σ ι H (.agg cs) v) : ∃vs:Array Value,v = .agg vs/\vs.size=cs.length/\∀(i:Nat) (c:AV) (u:Value),cs[i]? = some c->vs[i]? = some u->Conc σ ι H c u:=by
 cases h with
 | cc h=>cases h with
  | agg cs vs b h=>exact⟨vs,rfl,b,λi c u h1 h2=>.cc (h i c u h1 h2)⟩
 | agg cs vs b h=>exact⟨vs,rfl,b,h⟩
theorem Conc.tup_inv {cs:List AV} (h:Conc σ ι H (.tup cs) v) : ∃vs:Array Value,v = .tuple vs/\vs.size=cs.length/\∀(i:Nat) (c:AV) (u:Value),cs[i]? = some c->vs[i]? = some u->Conc σ ι H c u:=by cases h with| cc h=>cases h| tup cs vs b h=>exact⟨vs,rfl,b,h⟩
theorem Conc.loc_inv {x off:Nat} (h:Conc σ ι H (.loc x off) v):∃b,ι x = .box b/\v = .pointer (some ⟨b,off,none⟩):=by cases h with| cc h=>cases h| loc _ _ b hb=>exact⟨b,hb,rfl⟩
theorem Conc.vec_inv {x n:Nat} (h:Conc σ ι H (.vec x n) v):∃b,ι x = .box b/\v = .slice (some ⟨b,0,none⟩) n n:=by cases h with| cc h=>cases h| vec _ _ b hb=>exact⟨b,hb,rfl⟩
theorem Conc.one_of (hx:x.one=true) (h:Conc σ ι H x v):Fm v=true:=by
 cases h with
 | cc h=>cases h with
  | val v=>exact hx
  | nil=>rfl
  | sl=>rfl
  | fbn=>rfl
  | fb=>rfl
  | agg=>cases hx
 | loc=>rfl
 | mp=>rfl
 | vec=>rfl
 | arr _ _ _ _ _ _ _ h=>exact h
 | el _ _ _ _ _ _ _ h=>exact h
 | ref=>rfl
 | agg=>cases hx
 | tup=>cases hx
 | fn=>rfl
theorem Ai6 {α:Type} {x y:α} {i:Nat} (h:[x][i]? = some y):i=0/\y=x:=by cases i with| zero=>simp at h;exact⟨rfl,h.symm⟩| succ n=>simp at h
theorem Conc.cells (h:Conc σ ι H x v) : v.cells.size=x.cells.length/\∀(i:Nat) (c:AV) (u:Value),x.cells[i]? = some c->v.cells[i]? = some u->Conc σ ι H c u:=by
 have single:∀(x:AV) (v:Value),Conc σ ι H x v->x.cells = [x]->v.cells = #[v] ->
   v.cells.size=x.cells.length/\∀(i:Nat) (c:AV) (u:Value),x.cells[i]? = some c->v.cells[i]? = some u->Conc σ ι H c u:=by intro x v h J I;rw[J,I];refine⟨rfl,λi c u h1 h2=>?_⟩;obtain⟨rfl,rfl⟩:=Ai6 h1;simp at h2;subst h2;exact h
 cases h with
 | cc hc=>
  cases hc with
  | val v=>cases v with| agg vs=>refine⟨by simp[Value.cells,AV.cells],λi c u h1 h2=>?_⟩;simp only[AV.cells,Value.cells,getElem?_map]at h1 h2;rw[Hj,h2]at h1;simp at h1;subst h1;exact .of_val u| _=>exact single _ _ (.of_val _) rfl rfl
  | nil sz a cap=>exact single _ _ (.cc (.nil sz a cap)) rfl rfl
  | sl xs b off cap sz C E fr g z G hc h1 A q y=>exact single _ _ (.cc (.sl xs b off cap sz C E fr g z G hc h1 A q y)) rfl rfl
  | agg cs vs q h=>exact⟨q,λi c u h1 h2=>.cc (h i c u h1 h2)⟩
  | fbn s a cap h0=>exact single _ _ (.cc (.fbn s a cap h0)) rfl rfl
  | fb s b cap C z h0 y A q hb=>exact single _ _ (.cc (.fb s b cap C z h0 y A q hb)) rfl rfl
 | loc x off b hb=>exact single _ _ (.loc x off b hb) rfl rfl
 | mp x b hb=>exact single _ _ (.mp x b hb) rfl rfl
 | vec x n b hb=>exact single _ _ (.vec x n b hb) rfl rfl
 | arr x k off len v D hv l=>exact single _ _ (.arr x k off len v D hv l) rfl (by cases v <;> first|rfl|cases l)
 | el x k i j v D hv l=>exact single _ _ (.el x k i j v D hv l) rfl (by cases v <;> first|rfl|cases l)
 | ref cs b off C E fr g z hc h1 A=>exact single _ _ (.ref cs b off C E fr g z hc h1 A) rfl rfl
 | agg cs vs q h=>exact⟨q,h⟩
 | tup cs vs q h=>exact single _ _ (.tup cs vs q h) rfl rfl
 | fn f B vs q h=>exact single _ _ (.fn f B vs q h) rfl rfl
theorem Conc.cc_of (hx:x.cl1=true) (h:Conc σ ι H x v):CC σ x v/\Fm v=true:=by
 cases h with
 | cc h=>cases h with
  | val v=>exact⟨.val v,hx⟩
  | nil sz a cap=>exact⟨.nil sz a cap,rfl⟩
  | sl xs b off cap sz C E fr g f i hc h1 k j c=>exact⟨.sl xs b off cap sz C E fr g f i hc h1 k j c,rfl⟩
  | agg=>cases hx
  | fbn=>cases hx
  | fb=>cases hx
 | _=>cases hx
end conc
def Cp (P:Program) (o:Oper) (ρ:Operand->AV) (b:Eff):Prop := ∀(σ:A8) (ι:Ch) (H:Hp) (F:A8) (W w:World) (a:Act) (next:Act->World->Prop) (Q:Exit->Act->World->Prop), St σ ι H F W w->(∀x∈o.op.operands.toList,Conc σ ι H (ρ x) (a.eval x))->(∀p∈b.rd,H p.1=p.2) -> (∀c f v w',Le σ ι H c f (Cr H b.wr)->St c f (Cr H b.wr) F W w'->Conc c f (Cr H b.wr) b.r v->next (a.put o.dst v) w')->o.wp P a w next Q
section
variable {P:Program} {o:Oper} {ρ:Operand->AV} {a:Act} {w w':World} {next:Act->World->Prop} {Q:Exit->Act->World->Prop}
variable {p:Addr} {T:Dq} {h off:Nat} {x:Operand} {i:TI} {E t:TypeId} {v:Value}
theorem G6 (h:(execOp a.eval o).run P w = .ok (.value v) w') (b:next (a.put o.dst v) w'):o.wp P a w next Q:=by unfold Oper.wp;rw[h];exact b
theorem Ai7 (h:(execOp a.eval o).run P w = .ok .skip w') (b:next (a.put o.dst undef) w'):o.wp P a w next Q:=by unfold Oper.wp;rw[h];exact b
theorem Fo {r:AV} (h:∀σ ι H a w,(∀x∈o.op.operands.toList,Conc σ ι H (ρ x) (Act.eval a x))->∃v,(execOp a.eval o).run P w = .ok (.value v) w/\Conc σ ι H r v) : Cp P o ρ ⟨r,[],[]⟩:=by
 intro σ ι H F W w a next Q s u _ B
 obtain⟨v,b,C⟩:=h σ ι H a w u;exact G6 b (B σ ι v w (Le.refl _ _ _) s C)
theorem Azj (b:o.op = .move x):Cp P o ρ ⟨ρ x,[],[]⟩ := Fo λσ ι H a w u=>⟨a.eval x,by simp[execOp,b],u x (by simp[b,Op.operands])⟩
theorem Wb (b:o.op = .assign x):Cp P o ρ ⟨ρ x,[],[]⟩ := Fo λσ ι H a w u=>⟨a.eval x,by simp[execOp,b],u x (by simp[b,Op.operands])⟩
theorem Azk {c y:Operand} {t:Bool} (b:o.op = .pick c x y) (C:ρ c = .val (.bool t)):Cp P o ρ ⟨bif t then ρ x else ρ y,[],[]⟩ := Fo λσ ι H a w B=>by have u:=B c (by simp[b,Op.operands]);rw[C]at u;have u:=u.val_inv;cases t with| true=>exact⟨a.eval x,by simp[execOp,b,u,asBool],B x (by simp[b,Op.operands])⟩| false=>exact⟨a.eval y,by simp[execOp,b,u,asBool],B y (by simp[b,Op.operands])⟩
theorem Fj (h:Jf P t=some i) : ∃b u z,P.info? t=some b/\P.underlying t=some u/\b.zero=some z/\b.size=i.size/\b.bytes=i.bytes/\i.zero=z.cells.toList /\ (match i.d with
       | .int k=>u = .int k
       | .bool=>u = .bool
       | .string=>u = .string
       | .slice e=>u = .slice e
       | .map k e=>u = .map k e
       | .float k=>u = .float k
       | .struct fs=>∃B,u = .struct B/\fs=B.toList.map (λf=>(f.offset,P.cellsOf f.type))/\∀f∈B.toList,0<P.cellsOf f.type
       | .other=>(∀fs,u≠.struct fs)/\(∀n e,u≠.array n e)):=by
  unfold Jf at h;split at h
  . rename_i b u hi C;split at h
    . cases h
    . rename_i z D;refine⟨b,u,z,hi,C,D,?_⟩;cases g:zok u z with
      | false=>rw[g]at h;cases h
      | true=>
      rw[g]at h;simp only[Bool.not_true,cond_false]at h;split at h;all_goals first
        | (cases h;done)
        | (cases h;refine⟨rfl,rfl,rfl,?_⟩;first|rfl|exact⟨(by intro fs e;simp_all),(by intro n e' e;simp_all)⟩)
        | skip
      . split at h
        . rename_i c;cases h;refine⟨rfl,rfl,rfl,_,rfl,rfl,?_⟩;intro f G;simp only[Et,decide_eq_true_eq]at c;exact c f G
        . cases h
  . cases h
theorem Azl (h:Jf P t=some i) (w:World) : ∃z,(zeroValue t).run P w = .ok z w/\z.cells.toList=i.zero/\(i.isAgg=true->∃G,z = .agg G)/\(i.isAgg=false->Fm z=true):=by
  obtain⟨g,u,z,C,I,D,K,q,k,b⟩:=Fj h;refine⟨z,by simp[zeroValue,typeInfo,program,Sem.run,C,D],k.symm,?_⟩;have B:zok u z=true:=(by unfold Jf at h;rw[C,I]at h;simp only[D]at h;cases c:zok u z with| false=>rw[c]at h;cases h| true=>rfl);unfold TI.isAgg;cases J:i.d <;> rw[J]at b <;> simp only[]at b ⊢;all_goals first
    | (subst b;exact⟨nofun,λ_=>B⟩)
    | (obtain⟨f,rfl,_⟩:=b
       refine⟨λ_=>?_,λh=>by cases h⟩
       unfold zok at B
       cases z <;> first|exact⟨_,rfl⟩|cases B)
    | (obtain⟨j,l⟩:=b
       refine⟨nofun,λ_=>?_⟩
       unfold zok at B
       cases u <;> first|exact B|exact (j _ rfl).elim)
theorem Ad1 (h:Jf P t=some i) (w:World):(isAgg t).run P w = .ok i.isAgg w:=by
 obtain⟨c,u,z,D,B,G,I,l,k,b⟩:=Fj h;unfold isAgg TI.isAgg;rw[Sem.run_bind,run_underlying B];cases C:i.d <;> rw[C]at b <;> simp only[Result.andThen_ok];all_goals first
  | (subst b;rfl)
  | (obtain⟨f,rfl,_⟩:=b;rfl)
  | (obtain⟨j,g⟩:=b;cases u <;> first|rfl|exact (j _ rfl).elim|exact (g _ _ rfl).elim)
theorem Qc (h:Jf P t=some i) (w:World):(sizeOf t).run P w = .ok i.size w:=by obtain⟨b,u,z,B,D,G,C,g,f,c⟩:=Fj h;simp[sizeOf,typeInfo,program,Sem.run,B,C]
theorem Ao1 (h:Jf P t=some i) (w:World):∃z:Value,z.cells.toList=i.zero/\(zeroValue t).run P w = .ok z w:=by obtain⟨b,u,z,B,D,C,G,g,c,f⟩:=Fj h;exact⟨z,c.symm,by simp[zeroValue,typeInfo,program,Sem.run,B,C]⟩
theorem Azm (l:Ds P T) (h:Nat) (g:o.op = .alloc t) (ht:T t=some i) : Cp P o ρ ⟨.loc h 0,[(h,.none)],[(h,.cells t (i.zero.map .val))]⟩:=by
 intro σ ι H F W w a next Q s I b C
 have k:H h = .none:=b (h,.none) ψ;obtain⟨z,B,f⟩:=Ao1 (l t i ht) w;obtain⟨D,le⟩:=s.newBox h k t (i.zero.map .val) z.cells (by simp[<-B]) (by intro j c v u G;rw[<-B,getElem?_map,Hj,G]at u;simp at u;subst u;exact .of_val v);refine G6 (v:=.pointer (some ⟨w.heap.size,0,none⟩)) (w':=w.alloc (.cells z.cells t)) ?_ (C σ _ _ _ le D (.loc h 0 w.heap.size (Cn _ _ _)));simp[execOp,g,Instr.alloc,f,newVar,newRow,newObj,Sem.run]
theorem Azn (h:Nat) (c:o.op = .box t x) : Cp P o ρ ⟨.loc h 0,[(h,.none)],[(h,.cells t (ρ x).cells)]⟩:=by
 intro σ ι H F W w a next Q s B b C
 have f:H h = .none:=b (h,.none) ψ;have u:=(B x (by simp[c,Op.operands])).cells;obtain⟨D,le⟩:=s.newBox h f t (ρ x).cells (a.eval x).cells u.1 u.2;refine G6 (v:=.pointer (some ⟨w.heap.size,0,none⟩)) (w':=w.alloc (.cells (a.eval x).cells t)) ?_ (C σ _ _ _ le D (.loc h 0 w.heap.size (Cn _ _ _)));simp[execOp,c,Instr.box,newVar,newRow,newObj,Sem.run]
theorem K8 {b:Nat} {C:Array Value} {c:Nat×Nat} (h:w.heap[b]? = some (.cells C E c)):w.cell? ⟨b,off,none⟩=C[off]?:=by simp[World.cell?,h]
theorem L6 (b off n:Nat):(⟨b,off,none⟩:Addr).add n=⟨b,off+n,none⟩:=by unfold Addr.add;split <;> simp_all
theorem Ai8 (c:o.op = .load t x) (hi:Jf P t=some i) (b:i.isAgg=false) (hp:a.eval x = .pointer (some p)) (B:w.cell? p=some v) : (execOp a.eval o).run P w = .ok (.value v) w:=by have u:=Ad1 hi w;rw[b]at u;simp[execOp,c,Instr.loadAt,hp,Instr.sureAddr,loadVar,u,B]
theorem Ai9 (c:o.op = .load t x) (hi:Jf P t=some i) (b:i.isAgg=true) (hp:a.eval x = .pointer (some p)) (cs:List Value) (f:cs.length=i.size) (C:∀(j:Nat) (v:Value),cs[j]? = some v->w.cell? (p.add j)=some v) : (execOp a.eval o).run P w = .ok (.value (.agg cs.toArray)) w:=by have u:=Ad1 hi w;rw[b]at u;have D:=Qc hi w;have B:=run_loadCells_list (P:=P) w p cs C;rw[f]at B;simp[execOp,c,Instr.loadAt,hp,Instr.sureAddr,loadVar,u,D,B]
theorem Conc.ref_inv {σ:A8} {ι:Ch} {H:Hp} {cs:List AV} (h:Conc σ ι H (.ref cs) v):∃(b off:Nat) (C:Array Value) (E:TypeId) (f:Nat×Nat) (g:Nat->Value), v = .pointer (some ⟨b,off,none⟩)/\σ b=some (.cells C E f)/\(∀(j:Nat) (c:AV),cs[j]? = some c->CC σ c (g j)/\Fm (g j)=true)/\(∀(j:Nat),j<cs.length->C[off+j]? = some (g j)):=by cases h with| cc h=>cases h| ref cs b off C E f g i hc h1 k=>exact⟨b,off,C,E,f,g,rfl,i,λj c h=>⟨hc j c h,h1 j c h⟩,k⟩
theorem Azo (u:Ds P T) {c:AV} {cs:List AV} (l:o.op = .load t x) (ht:T t=some i) (k:i.isAgg=false) (B:ρ x = .ref (c::cs)) : Cp P o ρ ⟨c,[],[]⟩:=by
 intro σ ι H F W w a next Q s j _ D
 have h:=j x (by simp[l,Op.operands]);rw[B]at h;obtain⟨b,off,C,E,J,g,G,q,I,y⟩:=h.ref_inv;have f:w.cell? ⟨b,off,none⟩=some (g 0):=by rw[K8 (s.sto _ _ q)];exact y 0 ψ
 exact G6 (Ai8 l (u t i ht) k G f) (D σ ι _ w (Le.refl _ _ _) s (.cc (I 0 c ψ).1))
theorem Azp (z:Ds P T) {cs:List AV} (q:o.op = .load t x) (ht:T t=some i) (l:i.isAgg=true) (J:ρ x = .ref cs) (B:i.size<=cs.length) : Cp P o ρ ⟨.agg (cs.take i.size),[],[]⟩:=by
 intro σ ι H F W w a next Q s k _ K
 have h:=k x (by simp[q,Op.operands]);rw[J]at h;obtain⟨b,off,C,E,N,g,L,y,M,A⟩:=h.ref_inv;refine G6 (Ai9 q (z t i ht) l L ((range i.size).map g) ψ ?_) (K σ ι _ w (Le.refl _ _ _) s ?_)
 .intro j v D;rw[getElem?_map]at D;by_cases f:j<i.size
  .rw[getElem?_range f]at D;simp at D;subst D;rw[L6,K8 (s.sto _ _ y)];exact A j ω
  .rw[getElem?_eq_none ζ]at D;cases D
 .refine .agg _ _ ζ λj c u G I=>?_;have f:j<i.size:=(by have:=(Ha.1 G).1;simp at this;omega);rw[Il f]at G;simp[f]at I;subst I;exact .cc (M j c G).1
theorem Azq (z:Ds P T) {cs:List AV} {c:AV} (u:o.op = .load t x) (ht:T t=some i) (q:i.isAgg=false) (G:ρ x = .loc h off) (D:cs[off]? = some c):Cp P o ρ ⟨c,[(h,.cells E cs)],[]⟩:=by
 intro σ ι H F W w a next Q s l k I
 have J:H h = .cells E cs:=k (h,.cells E cs) ψ;have hp:=l x (by simp[u,Op.operands]);rw[G]at hp;obtain⟨b,K,L⟩:=hp.loc_inv;have f:=s.obj h;unfold C8 at f;rw[J]at f;obtain⟨B,C,y,_,_,M,N,A⟩:=f;rw[K]at y;cases y;have j:off<C.size:=by rw[N];exact (Ha.1 D).1
 have g:w.cell? ⟨b,off,none⟩=some C[off]:=by rw[K8 M];simp[j]
 exact G6 (Ai8 u (z t i ht) q L g) (I σ ι _ w (Le.refl _ _ _) s (A off c _ D (by simp[j])))
theorem Azr (A:Ds P T) {cs:List AV} (y:o.op = .load t x) (ht:T t=some i) (q:i.isAgg=true) (L:ρ x = .loc h off) (D:off+i.size<=cs.length):Cp P o ρ ⟨.agg ((cs.drop off).take i.size),[(h,.cells E cs)],[]⟩:=by
 intro σ ι H F W w a next Q s l k M
 have N:H h = .cells E cs:=k (h,.cells E cs) ψ;have hp:=l x (by simp[y,Op.operands]);rw[L]at hp;obtain⟨b,R,S⟩:=hp.loc_inv;have g:=s.obj h;unfold C8 at g;rw[N]at g;obtain⟨G,C,z,_,_,U,V,B⟩:=g;rw[R]at z;cases z;refine G6 (Ai9 y (A t i ht) q S ((C.toList.drop off).take i.size) ζ ?_) (M σ ι _ w (Le.refl _ _ _) s ?_)
 .intro j v I;have f:j<i.size:=(by have:=(Ha.1 I).1;simp at this;omega);rw[Il f,getElem?_drop,Hj]at I;rw[L6,K8 U];exact I
 .refine .agg _ _ ζ λj c u J K=>?_;have f:j<i.size:=(by have:=(Ha.1 J).1;simp at this;omega);rw[Il f,getElem?_drop]at J;rw[getElem?_toArray,Il f,getElem?_drop,Hj]at K;exact B _ c u J K
end
section
variable {P:Program} {o:Oper} {ρ:Operand->AV} {a:Act} {w w':World} {next:Act->World->Prop} {Q:Exit->Act->World->Prop}
variable {σ:A8} {ι:Ch} {T:Dq} {H:Hp} {xs:List AV} {b h j k n off sz:Nat} {x y:Operand} {i:TI} {E t:TypeId} {v:Value}
theorem Conc.el_inv {i:Nat} (hh:H h = .rows E sz xs) (hk:xs.length=k) (hc:Conc σ ι H (.el h k i j) v) : ∃b c,ι h = .blk b c/\v = .pointer (some ⟨b,i*sz+j,none⟩):=by
 cases hc with
 | cc h=>cases h
 | el _ _ _ _ _ g hv f=>
  have:=(hv E sz xs hh).2 hk;unfold Ao0 at this;split at this
  .rename_i b c e;exact⟨b,c,e,this⟩
  .exact this.elim
theorem Conc.arr_inv {len:Nat} (hh:H h = .rows E sz xs) (hk:xs.length=k) (hc:Conc σ ι H (.arr h k off len) v) : H6 (ι h) sz off len v:=by cases hc with| cc h=>cases h| arr _ _ _ _ _ c hv b=>exact (hv E sz xs hh).2 hk
theorem St.rowsAt {F:A8} {W w:World} (s:St σ ι H F W w) (hh:H h = .rows E sz xs) {c:Nat} (hb:ι h = .blk b c) : ∃C,w.heap[b]? = some (.cells C E (0,0))/\C.size=c*sz/\xs.length<=c/\Je σ sz xs C:=by
 have g:=s.obj h;unfold C8 at g;rw[hh]at g;obtain⟨_,_,⟨f,_⟩|⟨l,i,C,f,h1,h2,h3,u,k,j⟩⟩:=g
 .rw[hb]at f;cases f
 .rw[hb]at f;cases f;exact⟨C,h3,u,k,j⟩
theorem Azs (L:Ds P T) {y c:AV} (A:o.op = .load t x) (ht:T t=some i) (z:i.isAgg=false) (U:ρ x = .el h k n j) (u:xs.length=k) (K:xs[n]? = some y) (N:y.cells[j]? = some c):Cp P o ρ ⟨c,[(h,.rows E sz xs)],[]⟩:=by
 intro σ ι H F W w a next Q s q l V
 have R:H h = .rows E sz xs:=l (h,.rows E sz xs) ψ;have hp:=q x (by simp[A,Op.operands]);rw[U]at hp;obtain⟨b,B,X,hv⟩:=hp.el_inv R u;obtain⟨C,h3,h4,M,g,I,G,D⟩:=s.rowsAt R X;have J:=(Ha.1 K).1;have S:=(Ha.1 N).1;rw[I n y K]at S;have f:w.cell? ⟨b,n*sz+j,none⟩=some (g n j):=by rw[K8 h3];exact D n j J S
 exact G6 (Ai8 A (L t i ht) z hv f) (V σ ι _ w (Le.refl _ _ _) s (.cc (G n y j c K N).1))
theorem Azt (R:Ds P T) {y:AV} (D:o.op = .load t x) (ht:T t=some i) (B:i.isAgg=true) (hx:ρ x = .el h k n j) (A:xs.length=k) (V:xs[n]? = some y) (S:j+i.size<=y.cells.length):Cp P o ρ ⟨.agg ((y.cells.drop j).take i.size),[(h,.rows E sz xs)],[]⟩:=by
 intro σ ι H F W w a next Q s z l hk
 have hh:H h = .rows E sz xs:=l (h,.rows E sz xs) ψ;have hp:=z x (by simp[D,Op.operands]);rw[hx]at hp;obtain⟨b,G,hb,hv⟩:=hp.el_inv hh A;obtain⟨C,h3,h4,U,g,L,J,I⟩:=s.rowsAt hh hb;have N:=(Ha.1 V).1;have M:=L n y V;refine G6 (Ai9 D (R t i ht) B hv ((range i.size).map λq=>g n (j+q)) ψ ?_) (hk σ ι _ w (Le.refl _ _ _) s ?_)
 .intro q v K;rw[getElem?_map]at K;by_cases f:q<i.size
  .rw[getElem?_range f]at K;simp at K;subst K;rw[L6,K8 h3,Nat.add_assoc];exact I n (j+q) N ω
  .rw[getElem?_eq_none ζ]at K;cases K
 .refine .agg _ _ ζ λq c u X h2=>?_;have f:q<i.size:=(by have:=(Ha.1 X).1;simp at this;omega);rw[Il f,getElem?_drop]at X;simp[f]at h2;subst h2;exact .cc (J n y (j+q) c V X).1
theorem Aja (v:Value):v.oneCell'=Fm v:=by cases v <;> rfl
theorem Ao2 (hi:Jf P t=some i) {C:Array Value} (hb:w.heap[b]? = some (.cells C E (0,0))) (c:v.cells.size=i.size) (f:off+v.cells.size<=C.size) (D:∀u∈v.cells.toList,Fm u=true) : (Instr.storeAt t (.pointer (some ⟨b,off,none⟩)) v).run P w = .ok () (w.setRow b (C.toList.take off++v.cells.toList++C.toList.drop (off+v.cells.toList.length)).toArray):=by have G:=Qc hi w;have B:=run_storeCells_at (P:=P) b off E v.cells.toList 0 C w hb (by simpa using f) (λu I=>by rw[Aja];exact D u I);simp only[Nat.add_zero]at B;simp[Instr.storeAt,Instr.sureAddr,storeVar,G,c,B]
theorem Ajb (cs:List AV) (off:Nat) (new:List AV) (b:off+new.length<=cs.length) (i:Nat) : (N6 cs off new)[i]? = if i<off then cs[i]? else if i<off+new.length then new[i-off]? else cs[i]?:=by
 unfold N6;by_cases u:i<off
 .rw[if_pos u,getElem?_append_left ζ,Il u]
 .rw[if_neg u,getElem?_append_right ζ];have:(cs.take off).length=off:=ζ;rw[this];by_cases B:i<off+new.length
  .rw[if_pos B,getElem?_append_left ω]
  .rw[if_neg B,getElem?_append_right ω,getElem?_drop];congr 1;omega
theorem Ajc (cs:List AV) (off:Nat) (new:List AV) (b:off+new.length<=cs.length):(N6 cs off new).length=cs.length:=by unfold N6;simp;omega
theorem Wc (C:Array Value) (off:Nat) (new:List Value) (c:off+new.length<=C.size) (i:Nat) : ((C.toList.take off++new++C.toList.drop (off+new.length)).toArray)[i]? = if i<off then C[i]? else if i<off+new.length then new[i-off]? else C[i]?:=by
 rw[getElem?_toArray,append_assoc];have b:off+new.length<=C.toList.length:=by simpa using c
 by_cases u:i<off
 .rw[if_pos u,getElem?_append_left (by simp at b ⊢;omega),Il u,Hj]
 .rw[if_neg u,getElem?_append_right (by simp at b ⊢;omega)];have:(C.toList.take off).length=off:=(by simp at b ⊢;omega);rw[this];by_cases B:i<off+new.length
  .rw[if_pos B,getElem?_append_left ω]
  .rw[if_neg B,getElem?_append_right ω,getElem?_drop,Hj];congr 1;omega
theorem Azu {x:AV} (B:Conc σ ι H x v) (C:x.cells.all AV.one=true):∀u∈v.cells.toList,Fm u=true:=by
 intro u D;obtain⟨n,c⟩:=getElem?_of_mem D;have f:=B.cells;rw[Hj]at c;have b:n<x.cells.length:=by rw[<-f.1];exact (Array.getElem?_eq_some_iff.1 c).1
 have:=f.2 n x.cells[n] u (getElem?_eq_getElem b) c;exact this.one_of (Et.1 C _ (getElem_mem b))
theorem Azv (D:Ds P T) {cs:List AV} (z:o.op = .store t x y) (ht:T t=some i) (U:ρ x = .loc h off) (G:(ρ y).cells.length=i.size) (I:off+i.size<=cs.length) (V:(ρ y).cells.all AV.one=true) : Cp P o ρ ⟨.val undef,[(h,.cells E cs)],[(h,.cells E (N6 cs off (ρ y).cells))]⟩:=by
 intro σ ι H F W w a next Q s q u X
 have L:H h = .cells E cs:=u (h,.cells E cs) ψ;have hp:=q x (by simp[z,Op.operands]);have M:=q y (by simp[z,Op.operands]);rw[U]at hp;obtain⟨b,N,hv⟩:=hp.loc_inv;have g:=s.obj h;unfold C8 at g;rw[L]at g;obtain⟨J,C,B,_,_,h3,h4,A⟩:=g;rw[N]at B;cases B;have k:=M.cells;have l:=Ao2 (P:=P) (w:=w) (D t i ht) (off:=off) (v:=a.eval y) h3 ω ω (Azu M V);obtain⟨s',le⟩:=s.setBox h E cs (N6 cs off (ρ y).cells) L b N (C.toList.take off++(a.eval y).cells.toList++C.toList.drop (off+(a.eval y).cells.toList.length)).toArray (by rw[Ajc _ _ _ ω];simp;omega) (by
   intro j c v K f;rw[Ajb _ _ _ ω]at K;rw[Wc _ _ _ ζ]at f;simp only[Array.length_toList,k.1]at f;by_cases R:j<off
   .rw[if_pos R]at K f;exact A j c v K f
   .rw[if_neg R]at K f;by_cases S:j<off+(ρ y).cells.length
    .rw[if_pos S]at K f;rw[Hj]at f;exact k.2 _ c v K f
    .rw[if_neg S]at K f;exact A j c v K f);refine Ai7 (w':=_) ?_ (X σ ι undef _ le s' (.of_val _));simp[execOp,z,hv,l]
def Y4 (x:AV) (j:Nat) (new:List AV):AV := match x with
 | .agg cs=>.agg (N6 cs j new)
 | _=>new.headD x
theorem Azw {x:AV} {new:List AV} (f:j+new.length<=x.cells.length) (h:new≠[]) (C:∀c∈new,c.cl1=true) (D:∀G,x≠.val (.agg G)) : (Y4 x j new).cells=N6 x.cells j new:=by
 unfold Y4;split
 .rfl
 .rename_i I;have b:x.cells = [x]:=by
   cases x with
   | val v=>cases v <;> first|rfl|exact (D _ rfl).elim
   | agg cs=>exact (I cs rfl).elim
   | _=>rfl
  rw[b]at f ⊢;cases new with
  | nil=>exact (h rfl).elim
  | cons c u=>
   simp at f;have J:j=0:=ω;have g:u = []:=eq_nil_of_length_eq_zero ω;subst J g;have B:=C c ψ;cases c with
   | val v=>cases v <;> first|rfl|cases B
   | sl _ _=>rfl
   | _=>cases B
theorem Azx (hT:Ds P T) {z:AV} (ho:o.op = .store t x y) (ht:T t=some i) (hx:ρ x = .el h k n j) (a7:xs.length=k) (hz:xs[n]? = some z) (hs:(ρ y).cells.length=i.size) (ab:0<i.size) (hl:j+i.size<=z.cells.length) (h1:(ρ y).cells.all AV.cl1=true) (Y:∀vs,z≠.val (.agg vs)) : Cp P o ρ ⟨.val undef,[(h,.rows E sz xs)],[(h,.rows E sz (xs.set n (Y4 z j (ρ y).cells)))]⟩:=by
 intro σ ι H F W w a next Q s N a1 hk
 have hh:H h = .rows E sz xs:=a1 (h,.rows E sz xs) ψ;have hp:=N x (by simp[ho,Op.operands]);have hy:=N y (by simp[ho,Op.operands]);rw[hx]at hp;obtain⟨b,J,hb,hv⟩:=hp.el_inv hh a7;obtain⟨C,h3,h4,h5,g,r1,X,U⟩:=s.rowsAt hh hb;have hn:=(Ha.1 hz).1;have Z:=r1 n z hz;have I:=hy.cells;have a6:(ρ y).cells≠[]:=by intro e;rw[e]at hs;simp at hs;omega
 have M:=Azw (x:=z) (j:=j) (new:=(ρ y).cells) ω a6 (λc hc=>Et.1 h1 c hc) Y;have a8:∀u∈(a.eval y).cells.toList,Fm u=true:=by intro u hu;obtain⟨q,hq⟩:=getElem?_of_mem hu;rw[Hj]at hq;have l:q<(ρ y).cells.length:=(by rw[<-I.1];exact (Array.getElem?_eq_some_iff.1 hq).1);exact ((I.2 q _ u (getElem?_eq_getElem l) hq).cc_of (Et.1 h1 _ (getElem_mem l))).2
 have aa:n*sz+sz<=C.size:=by rw[h4];have:(n+1)*sz<=J*sz:=Nat.mul_le_mul_right sz ω;rw[E8]at this;omega
 have L:=Ao2 (P:=P) (w:=w) (hT t i ht) (off:=n*sz+j) (v:=a.eval y) h3 ω ω a8;let G:Nat->Nat->Value:=λn' f=>if n'=n/\j<=f/\f<j+(ρ y).cells.length then ((a.eval y).cells[f-j]?).getD undef else g n' f
 obtain⟨s',le⟩:=s.setRows h E sz xs (xs.set n (Y4 z j (ρ y).cells)) hh b J hb ψ (C.toList.take (n*sz+j)++(a.eval y).cells.toList++C.toList.drop (n*sz+j+(a.eval y).cells.toList.length)).toArray ζ (by
   refine⟨G,?_,?_,?_⟩
   .intro i' V B;by_cases e:i'=n
    .subst e;rw[getElem?_set_self hn]at B;cases B;rw[M,Ajc _ _ _ ω];exact Z
    .rw[getElem?_set_ne ω]at B;exact r1 i' V B
   .intro i' V f S B A;by_cases e:i'=n
    .subst e;rw[getElem?_set_self hn]at B;cases B;rw[M,Ajb _ _ _ ω]at A;show CC σ S (G i' f)/\Fm (G i' f)=true;by_cases g1:f<j
     .rw[if_pos g1]at A;have:G i' f=g i' f:=if_neg ω;rw[this];exact X i' z f S hz A
     .rw[if_neg g1]at A;by_cases g2:f<j+(ρ y).cells.length
      .rw[if_pos g2]at A;have l:f-j<(a.eval y).cells.size:=ω;have:G i' f=(a.eval y).cells[f-j]:=(by show (if _ then _ else _)=_;rw[if_pos ⟨rfl,ω,g2⟩];simp[l]);rw[this];exact (I.2 (f-j) S _ A (by simp[l])).cc_of (Et.1 h1 _ (Fw A))
      .rw[if_neg g2]at A;have:G i' f=g i' f:=if_neg ω;rw[this];exact X i' z f S hz A
    .rw[getElem?_set_ne ω]at B;have:G i' f=g i' f:=if_neg ω;rw[this];exact X i' V f S B A
   .intro i' f D K;simp at D;rw[Wc _ _ _ ζ];simp only[Array.length_toList,I.1];by_cases g0:i'=n
    .subst g0;by_cases g1:f<j
     .rw[if_pos ω];have:G i' f=g i' f:=if_neg ω;rw[this];exact U i' f D K
     .rw[if_neg ω];by_cases g2:f<j+(ρ y).cells.length
      .rw[if_pos ω,Hj];have l:f-j<(a.eval y).cells.size:=ω;have:G i' f=(a.eval y).cells[f-j]:=(by show (if _ then _ else _)=_;rw[if_pos ⟨rfl,ω,g2⟩];simp[l]);rw[this,show i' * sz+f-(i' * sz+j)=f-j by omega];simp[l]
      .rw[if_neg ω];have:G i' f=g i' f:=if_neg ω;rw[this];exact U i' f D K
    .have:G i' f=g i' f:=if_neg ω;rw[this];have R:i' * sz+f<n*sz+j\/n*sz+j+(ρ y).cells.length<=i' * sz+f:=by
      rcases Nat.lt_or_gt_of_ne g0 with l|a0
      .left;have:(i' + 1)*sz<=n*sz:=Nat.mul_le_mul_right sz ω;rw[E8]at this;omega
      .right;have:(n+1)*sz<=i' * sz:=Nat.mul_le_mul_right sz ω;rw[E8]at this;omega
     rcases R with l|a2
     .rw[if_pos l];exact U i' f D K
     .rw[if_neg ω,if_neg ω];exact U i' f D K);refine Ai7 (w':=_) ?_ (hk σ ι undef _ le s' (.of_val _));simp[execOp,ho,hv,L]
end
section
variable {P:Program} {o:Oper} {ρ:Operand->AV} {a:Act} {w w':World} {next:Act->World->Prop} {Q:Exit->Act->World->Prop}
variable {σ:A8} {op:BinOp} {b:Bool} {T:Dq} {m:Int} {g k:IntKind} {fs:List (Nat×Nat)} {xs:List AV} {h n off sz:Nat} {q:Nat×Nat} {x y:Operand} {p:Option Addr} {i i' j:TI} {E d e s t:TypeId} {v:Value}
theorem Ea {ι:Ch} {H:Hp} (h:ρ x = .val v) (u:Conc σ ι H (ρ x) (a.eval x)):a.eval x=v:=by rw[h]at u;exact u.val_inv
theorem Azy (b:o.op = .nilCheck x) (hp:(ρ x).isPtr=true):Cp P o ρ ⟨ρ x,[],[]⟩ := Fo λσ ι H a w B=>by have h:=B x (by simp[b,Op.operands]);refine⟨a.eval x,?_,h⟩;have:(∃p,a.eval x = .pointer (some p))\/∃f u,a.eval x = .func (.func f) #[] u:=(by generalize ρ x=y at h hp;generalize a.eval x=v at h;cases h with| cc h=>cases h <;> cases hp| loc=>exact .inl ⟨_,rfl⟩| mp=>cases hp| vec=>cases hp| arr=>cases hp| el=>cases hp| ref=>exact .inl ⟨_,rfl⟩| agg=>cases hp| tup=>cases hp| fn=>exact .inr ⟨_,_,rfl⟩);rcases this with⟨p,hp⟩|⟨f,u,hp⟩ <;> simp[execOp,b,hp]
theorem Ts {b:TypeId} {n:Int} (f:o.op = .binOp op t x y b) (u:a.eval x = .int k m) (B:a.eval y = .int k n) {r:Value} (c:(binOp op t (.int k m) (.int k n)).run P w = .ok r w):(execOp a.eval o).run P w = .ok (.value r) w:=by
 have g:(eqGuard op t x y (.int k m) (.int k n)).run P w = .ok () w:=by unfold eqGuard;cases op <;> simp
 simp only[execOp,f,u,B,Sem.run_bind,g,Result.andThen_ok,c,Sem.run_pure]
theorem Azz {f:TypeId} {n c:Int} (b:o.op = .binOp .add t x y f) (u:ρ x = .val (.int k m)) (B:ρ y = .val (.int k n)) (C:k.wrap (m+n)=c) : Cp P o ρ ⟨.val (.int k c),[],[]⟩ := Fo λσ ι H a w h=>⟨_,Ts b (Ea u (h x (by simp[b,Op.operands]))) (Ea B (h y (by simp[b,Op.operands]))) (by simp[binOp,Op.intArith,C]),.of_val _⟩
theorem Az0 {f:TypeId} {n c:Int} (b:o.op = .binOp .sub t x y f) (u:ρ x = .val (.int k m)) (B:ρ y = .val (.int k n)) (C:k.wrap (m-n)=c) : Cp P o ρ ⟨.val (.int k c),[],[]⟩ := Fo λσ ι H a w h=>⟨_,Ts b (Ea u (h x (by simp[b,Op.operands]))) (Ea B (h y (by simp[b,Op.operands]))) (by simp[binOp,Op.intArith,C]),.of_val _⟩
theorem Az1 {f:TypeId} {n c:Int} (b:o.op = .binOp .mul t x y f) (u:ρ x = .val (.int k m)) (B:ρ y = .val (.int k n)) (C:k.wrap (m*n)=c) : Cp P o ρ ⟨.val (.int k c),[],[]⟩ := Fo λσ ι H a w h=>⟨_,Ts b (Ea u (h x (by simp[b,Op.operands]))) (Ea B (h y (by simp[b,Op.operands]))) (by simp[binOp,Op.intArith,C]),.of_val _⟩
theorem Az2 {f:TypeId} {n c:Int} (b:o.op = .binOp .quo t x y f) (u:ρ x = .val (.int k m)) (B:ρ y = .val (.int k n)) (g:n≠0) (C:k.wrap (m.tdiv n)=c) : Cp P o ρ ⟨.val (.int k c),[],[]⟩ := Fo λσ ι H a w h=>⟨_,Ts b (Ea u (h x (by simp[b,Op.operands]))) (Ea B (h y (by simp[b,Op.operands]))) (by simp[binOp,Op.intDiv,g,C]),.of_val _⟩
theorem Az3 {f:TypeId} {n c:Int} (b:o.op = .binOp .rem t x y f) (u:ρ x = .val (.int k m)) (B:ρ y = .val (.int k n)) (g:n≠0) (C:m.tmod n=c) : Cp P o ρ ⟨.val (.int k c),[],[]⟩ := Fo λσ ι H a w h=>⟨_,Ts b (Ea u (h x (by simp[b,Op.operands]))) (Ea B (h y (by simp[b,Op.operands]))) (by simp[binOp,Op.intDiv,g,C]),.of_val _⟩
theorem Az4 {f:TypeId} {n:Int} (c:o.op = .binOp op t x y f) (B:ρ x = .val (.int k m)) (C:ρ y = .val (.int k n)) (u:Ai5 op m n=some b) : Cp P o ρ ⟨.val (.bool b),[],[]⟩ := Fo λσ ι H a w h=>by refine⟨.bool b,Ts c (Ea B (h x (by simp[c,Op.operands]))) (Ea C (h y (by simp[c,Op.operands]))) ?_,.of_val _⟩;cases op <;> simp only[Ai5]at u <;> first | (cases u;done) | (cases u;simp[binOp,Op.intCmp])
def Ajd (op:BinOp) (k:IntKind) (m n:Int):Option Int := match op with
 | .and=>some (k.wrap (BitVec.ofInt k.bits m &&& BitVec.ofInt k.bits n).toNat)
 | .or=>some (k.wrap (BitVec.ofInt k.bits m ||| BitVec.ofInt k.bits n).toNat)
 | .xor=>some (k.wrap (BitVec.ofInt k.bits m ^^^ BitVec.ofInt k.bits n).toNat)
 | _=>none
theorem Az5 {f:TypeId} {n c:Int} (b:o.op = .binOp op t x y f) (B:ρ x = .val (.int k m)) (C:ρ y = .val (.int k n)) (u:Ajd op k m n=some c) : Cp P o ρ ⟨.val (.int k c),[],[]⟩ := Fo λσ ι H a w h=>by refine⟨.int k c,Ts b (Ea B (h x (by simp[b,Op.operands]))) (Ea C (h y (by simp[b,Op.operands]))) ?_,.of_val _⟩;cases op <;> simp only[Ajd]at u <;> first | (cases u;done) | (cases u;simp[binOp,Op.intBits])
theorem Az6 {i:TypeId} {n c:Int} (b:o.op = .binOp .shr t x y i) (u:ρ x = .val (.int k m)) (B:ρ y = .val (.int g n)) (l:0<=n) (C:m.fdiv (2 ^ (min n.toNat k.bits))=c) : Cp P o ρ ⟨.val (.int k c),[],[]⟩ := Fo λσ ι H a w h=>by refine⟨.int k c,?_,.of_val _⟩;have D:=Ea u (h x (by simp[b,Op.operands]));have G:=Ea B (h y (by simp[b,Op.operands]));have j:(eqGuard .shr t x y (.int k m) (.int g n)).run P w = .ok () w:=(by unfold eqGuard;simp);have f:¬n<0:=ω;simp only[execOp,b,D,G,Sem.run_bind,j,Result.andThen_ok,binOp,Op.shift,if_neg f,C,Sem.run_pure]
theorem Az7 {i:TypeId} {n c:Int} (b:o.op = .binOp .shl t x y i) (u:ρ x = .val (.int k m)) (B:ρ y = .val (.int g n)) (l:0<=n) (C:k.wrap (m*2 ^ (min n.toNat k.bits))=c) : Cp P o ρ ⟨.val (.int k c),[],[]⟩ := Fo λσ ι H a w h=>by refine⟨.int k c,?_,.of_val _⟩;have D:=Ea u (h x (by simp[b,Op.operands]));have G:=Ea B (h y (by simp[b,Op.operands]));have j:(eqGuard .shl t x y (.int k m) (.int g n)).run P w = .ok () w:=(by unfold eqGuard;simp);have f:¬n<0:=ω;simp only[execOp,b,D,G,Sem.run_bind,j,Result.andThen_ok,binOp,Op.shift,if_neg f,C,Sem.run_pure]
def Aje (op:BinOp) (m n:Bool):Option Bool := match op with
 | .eql=>some (m==n)
 | .neq=>some (m != n)
 | _=>none
theorem Az8 (ht:P.underlying t=some .bool) (d:Nat) (m n:Bool) (w:World):(Op.equalIn (d+1) t (.bool m) (.bool n)).run P w = .ok (m==n) w:=by simp[Op.equalIn,run_underlying ht]
theorem Az9 (ht:P.underlying t=some .bool) (m n:Bool) (w:World):(Op.equal t (.bool m) (.bool n)).run P w = .ok (m==n) w:=by exact Az8 ht 9999 m n w
theorem A0a (q:Ds P T) {j:TypeId} {m n:Bool} (c:o.op = .binOp op t x y j) (ht:T t=some i) (G:i.d = .bool) (I:ρ x = .val (.bool m)) (J:ρ y = .val (.bool n)) (C:Aje op m n=some b) : Cp P o ρ ⟨.val (.bool b),[],[]⟩ := Fo λσ ι H a w h=>by
  refine⟨.bool b,?_,.of_val _⟩;have K:=Ea I (h x (by simp[c,Op.operands]));have L:=Ea J (h y (by simp[c,Op.operands]));obtain⟨g,u,z,E,k,D,B,A,s,f⟩:=Fj (q t i ht);rw[G]at f;subst f;have l:(eqGuard op t x y (.bool m) (.bool n)).run P w = .ok () w:=(by unfold eqGuard;cases op <;> simp);cases op <;> simp only[Aje]at C <;> first | (cases C;done) | skip
  all_goals
   cases C
   simp only[execOp,c,K,L,Sem.run_bind,l,Result.andThen_ok,binOp,Az9 k,Sem.run_pure]
   try rfl
theorem A0b (A:Ds P T) {l:TypeId} {c b g:Nat} (f:o.op = .binOp .eql t x y l) (ht:T t=some i) (C:i.d = .slice e) (J:ρ x = .val (.slice p n c)) (K:ρ y = .val (.slice none b g)) : Cp P o ρ ⟨.val (.bool p.isNone),[],[]⟩ := Fo λσ ι H a w h=>by refine⟨.bool p.isNone,?_,.of_val _⟩;have L:=Ea J (h x (by simp[f,Op.operands]));have M:=Ea K (h y (by simp[f,Op.operands]));obtain⟨k,u,z,I,q,G,E,D,B,j⟩:=Fj (A t i ht);rw[C]at j;subst j;have s:(eqGuard .eql t x y (.slice p n c) (.slice none b g)).run P w = .ok () w:=(by unfold eqGuard;simp);simp only[execOp,f,L,M,Sem.run_bind,s,Result.andThen_ok,Lib.run_eql_slice_nil w t e p n c b g q,Sem.run_pure]
def Ajf (op:BinOp) (m n:ByteArray):Option Bool := match op with
 | .eql=>some (m.toList==n.toList)
 | .neq=>some (!(m.toList==n.toList))
 | .lss=>some (Op.bytesLess m.toList n.toList)
 | _=>none
theorem A0c {f:TypeId} {m n:ByteArray} (c:o.op = .binOp op t x y f) (B:ρ x = .val (.string m)) (C:ρ y = .val (.string n)) (u:Ajf op m n=some b) : Cp P o ρ ⟨.val (.bool b),[],[]⟩ := Fo λσ ι H a w h=>by
  refine⟨.bool b,?_,.of_val _⟩;have D:=Ea B (h x (by simp[c,Op.operands]));have G:=Ea C (h y (by simp[c,Op.operands]));have g:(eqGuard op t x y (.string m) (.string n)).run P w = .ok () w:=(by unfold eqGuard;cases op <;> simp);cases op <;> simp only[Ajf]at u <;> first | (cases u;done) | skip
  all_goals
   cases u
   simp only[execOp,c,D,G,Sem.run_bind,g,Result.andThen_ok,binOp,Op.stringOp,Sem.run_pure]
theorem A0d {c:TypeId} {m n:ByteArray} (b:o.op = .binOp .add t x y c) (u:ρ x = .val (.string m)) (B:ρ y = .val (.string n)) (j:m.size+n.size<=9223372036854775807) : Cp P o ρ ⟨.val (.string (m++n)),[],[]⟩ := Fo λσ ι H a w h=>by refine⟨.string (m++n),?_,.of_val _⟩;have C:=Ea u (h x (by simp[b,Op.operands]));have D:=Ea B (h y (by simp[b,Op.operands]));have i:(eqGuard .add t x y (.string m) (.string n)).run P w = .ok () w:=(by unfold eqGuard;simp);have g:IntKind.i64.max=9223372036854775807:=δ;have f:¬((m.size+n.size:Nat):Int)>IntKind.i64.max:=(by rw[g];omega);simp only[execOp,b,C,D,Sem.run_bind,i,Result.andThen_ok,binOp,Op.stringOp,if_neg f,Sem.run_pure]
theorem A0e (c:o.op = .unOp .not t x) (u:ρ x = .val (.bool b)):Cp P o ρ ⟨.val (.bool !b),[],[]⟩ := Fo λσ ι H a w h=>⟨.bool !b,by simp[execOp,c,Ea u (h x (by simp[c,Op.operands])),Op.unary],.of_val _⟩
theorem A0f {c:Int} (b:o.op = .unOp .neg t x) (u:ρ x = .val (.int k m)) (B:k.wrap (0-m)=c):Cp P o ρ ⟨.val (.int k c),[],[]⟩ := Fo λσ ι H a w h=>⟨.int k c,by simp only[execOp,b,Ea u (h x (by simp[b,Op.operands])),Op.unary,Op.intArith,B,Sem.run_bind,Sem.run_pure,Result.andThen_ok],.of_val _⟩
theorem A0g (s:Ds P T) {I:IntKind} {c:Int} (q:o.op = .convert t d x) (ht:T t=some i) (C:T d=some j) (K:j.d = .int k) (X:ρ x = .val (.int I m)) (hc:k.wrap m=c) : Cp P o ρ ⟨.val (.int k c),[],[]⟩ := Fo λσ ι H a w h=>by refine⟨.int k c,?_,.of_val _⟩;have h1:=Ea X (h x (by simp[q,Op.operands]));obtain⟨l,u,z,V,E,U,S,R,N,M⟩:=Fj (s t i ht);obtain⟨g,L,J,G,f,D,B,A,y,b⟩:=Fj (s d j C);rw[K]at b;subst b;simp only[execOp,q,h1,convert,Sem.run_bind,run_underlying E,run_underlying f,Result.andThen_ok,Conv.intToInt,hc,Sem.run_pure]
theorem A0h {f:TypeId} {k:FloatKind} {m c:Nat} (b:o.op = .binOp op t x y f) (B:ρ x = .val (.float k m)) (C:ρ y = .val (.float k n)) (u:floatBits op k m n=some c) : Cp P o ρ ⟨.val (.float k c),[],[]⟩ := Fo λσ ι H a w h=>by refine⟨.float k c,?_,.of_val _⟩;have D:=Ea B (h x (by simp[b,Op.operands]));have G:=Ea C (h y (by simp[b,Op.operands]));have g:(eqGuard op t x y (.float k m) (.float k n)).run P w = .ok () w:=(by cases op <;> first | (unfold eqGuard;simp;done) | (simp[floatBits]at u));simp only[execOp,b,D,G,Sem.run_bind,g,Result.andThen_ok,run_float_arith w op t k m n c u,Sem.run_pure]
theorem A0i (s:Ds P T) {k:FloatKind} (q:o.op = .convert t d x) (ht:T t=some i) (C:T d=some j) (K:j.d = .float k) (V:ρ x = .val (.int g m)) : Cp P o ρ ⟨.val (.float k (floatOfInt k m)),[],[]⟩ := Fo λσ ι H a w h=>by refine⟨.float k (floatOfInt k m),?_,.of_val _⟩;have X:=Ea V (h x (by simp[q,Op.operands]));obtain⟨l,u,z,U,E,S,R,N,M,L⟩:=Fj (s t i ht);obtain⟨f,J,I,G,c,D,B,A,y,b⟩:=Fj (s d j C);rw[K]at b;subst b;have:=run_convert_int_float (P:=P) w t d g k m (by rw[E];rfl) c;simp only[execOp,q,X,Sem.run_bind,this,Result.andThen_ok,Sem.run_pure]
theorem A0j (y:Ds P T) {k:FloatKind} {f:IntKind} {m:Nat} {c:Int} (s:o.op = .convert t d x) (ht:T t=some i) (C:T d=some j) (K:j.d = .int f) (X:ρ x = .val (.float k m)) (hc:floatToIntVal k m f=some c) : Cp P o ρ ⟨.val (.int f c),[],[]⟩ := Fo λσ ι H a w h=>by refine⟨.int f c,?_,.of_val _⟩;have h1:=Ea X (h x (by simp[s,Op.operands]));obtain⟨q,u,z,V,G,U,S,R,N,M⟩:=Fj (y t i ht);obtain⟨l,L,J,I,g,E,D,B,A,b⟩:=Fj (y d j C);rw[K]at b;subst b;have:=run_convert_float_int (P:=P) w t d k f m c (by rw[G];rfl) g hc;simp only[execOp,s,h1,Sem.run_bind,this,Result.andThen_ok,Sem.run_pure]
theorem A0k {cs:List AV} {c:AV} (f:o.op = .extract x n) (D:ρ x = .tup cs) (u:cs[n]? = some c):Cp P o ρ ⟨c,[],[]⟩ := Fo λσ ι H a w h=>by have B:=h x (by simp[f,Op.operands]);rw[D]at B;obtain⟨C,e,g,G⟩:=B.tup_inv;have b:n<C.size:=(by rw[g];exact (Ha.1 u).1);refine⟨C[n],?_,G n c _ u (by simp[b])⟩;simp[execOp,f,e,Instr.extract,b]
theorem Ajg {f:Nat} (hi:Jf P s=some i) (R:i.d = .struct fs) (K:fs[f]? = some q) (b off:Nat) (w:World) : (Instr.fieldAt s (.pointer (some ⟨b,off,none⟩)) f).run P w = .ok (.pointer (some ⟨b,off+q.1,none⟩)) w:=by
 obtain⟨x,u,z,I,y,G,E,D,B,l⟩:=Fj hi;rw[R]at l;obtain⟨C,rfl,rfl,L⟩:=l;rw[getElem?_map]at K;cases N:C.toList[f]? with
 | none=>rw[N]at K;simp at K
 | some M=>rw[N]at K;simp at K;subst K;have k:C[f]? = some M:=(by rw[<-Hj];exact N);have hp:=L M (Fw N);have h:∃J,P.info? M.type=some J/\J.size≠0:=(by unfold Program.cellsOf at hp;cases g:P.info? M.type with| none=>rw[g]at hp;simp at hp| some J=>rw[g]at hp;simp at hp;exact⟨J,rfl,ω⟩);obtain⟨J,c,j⟩:=h;have A:(sizeOf M.type).run P w = .ok J.size w:=(by simp[sizeOf,typeInfo,program,Sem.run,c]);simp[Instr.fieldAt,run_underlying y,k,Instr.sureAddr,fieldPlace,A,j,L6]
theorem A0l (j:Ds P T) {f:Nat} (g:o.op = .fieldAddr s x f) (ht:T s=some i) (B:i.d = .struct fs) (C:fs[f]? = some q) (D:ρ x = .loc h off):Cp P o ρ ⟨.loc h (off+q.1),[],[]⟩ := Fo λσ ι H a w c=>by have u:=c x (by simp[g,Op.operands]);rw[D]at u;obtain⟨b,G,I⟩:=u.loc_inv;exact⟨_,by simp[execOp,g,I,Ajg (j s i ht) B C],.loc h (off+q.1) b G⟩
theorem A0m (u:Ds P T) {f:Nat} {cs:List AV} (k:o.op = .fieldAddr s x f) (ht:T s=some i) (I:i.d = .struct fs) (J:fs[f]? = some q) (K:ρ x = .ref cs):Cp P o ρ ⟨.ref (cs.drop q.1),[],[]⟩ := Fo λσ ι H a w h=>by
  have D:=h x (by simp[k,Op.operands]);rw[K]at D;obtain⟨b,off,C,E,L,g,M,l,G,y⟩:=D.ref_inv;refine⟨_,by simp[execOp,k,M,Ajg (u s i ht) I J],.ref _ b (off+q.1) C E L (λj=>g (q.1+j)) l ?_ ?_ ?_⟩
  .intro j c B;rw[getElem?_drop]at B;exact (G _ c B).1
  .intro j c B;rw[getElem?_drop]at B;exact (G _ c B).2
  .intro j B;rw[length_drop]at B;rw[Nat.add_assoc];exact y (q.1+j) ω
theorem A0n (B:Ds P T) {f:Nat} {k j:Nat} (z:o.op = .fieldAddr s x f) (ht:T s=some i) (G:i.d = .struct fs) (I:fs[f]? = some q) (J:ρ x = .el h k n j) (y:xs.length=k):Cp P o ρ ⟨.el h k n (j+q.1),[(h,.rows E sz xs)],[]⟩:=by
 intro σ ι H F W w a next Q s u l K
 have C:H h = .rows E sz xs:=l (h,.rows E sz xs) ψ;have hp:=u x (by simp[z,Op.operands]);rw[J]at hp;obtain⟨b,A,L,M⟩:=hp.el_inv C y;refine G6 (v:=.pointer (some ⟨b,n*sz+j+q.1,none⟩)) (by simp[execOp,z,M,Ajg (B _ i ht) G I]) (K σ ι _ w (Le.refl _ _ _) s ?_);refine .el h k n (j+q.1) _ (by show H h≠_;rw[C];intro e;cases e) (λD g c e=>?_) rfl;have e:H h = .rows D g c:=e;rw[C]at e;cases e;refine⟨ω,λ_=>?_⟩;rw[L];show _=_
 rw[Nat.add_assoc]
theorem CC.sl_inv (h:CC σ (.sl sz xs) v) : (xs = []/\∃p f,v = .slice p 0 f)\/∃(b off f:Nat) (C:Array Value) (E:TypeId) (l:Nat×Nat) (g:Nat->Nat->Value),v = .slice (some ⟨b,off,none⟩) xs.length f/\σ b=some (.cells C E l) /\ (∀(i:Nat) (x:AV),xs[i]? = some x->x.cells.length=sz)/\(∀(i:Nat) (x:AV) (j:Nat) (c:AV),xs[i]? = some x->x.cells[j]? = some c->CC σ c (g i j)/\Fm (g i j)=true) /\ (∀(i j:Nat),i<xs.length->j<sz->C[off+i*sz+j]? = some (g i j))/\xs.length<=140737488355328/\xs.length<=f:=by cases h with| nil _ p f=>exact .inl ⟨rfl,p,f,rfl⟩| sl _ b off f _ C E l g q s hc h1 y u k=>exact .inr ⟨b,off,f,C,E,l,g,rfl,q,s,λi x j c hx B=>⟨hc i x j c hx B,h1 i x j c hx B⟩,y,u,k⟩
theorem CC.sl_len (h:CC σ (.sl sz xs) v):xs.length<=140737488355328/\∃p cap,v = .slice p xs.length cap:=by
 rcases h.sl_inv with⟨rfl,p,cap,e⟩|⟨b,off,cap,C,E,fr,g,e,_,_,_,_,c,_⟩
 .exact⟨ψ,p,cap,e⟩
 .exact⟨c,_,cap,e⟩
theorem Ao3 (j:Ds P T) (g:o.op = .call {callee:=.builtin .len,args:=#[x],argTypes:=#[t]}) (ht:T t=some i) (C:i.d = .slice e) (D:ρ x = .sl sz xs) : Cp P o ρ ⟨.val (.int .i64 xs.length),[],[]⟩ := Fo λσ ι H a w b=>by have B:=b x (by simp[g,Op.operands,Call.operands]);rw[D]at B;obtain⟨_,p,G,I⟩:=B.sl_inv.sl_len;obtain⟨f,u,z,y,h,s,q,l,k,c⟩:=Fj (j t i ht);rw[C]at c;subst c;refine⟨.int .i64 xs.length,?_,.of_val _⟩;simp[execOp,g,resolve,invoke,builtin,Builtin.len_,I,run_underlying h,goInt]
theorem A0o (k:Ds P T) {c:Nat} (h:o.op = .call {callee:=.builtin .len,args:=#[x],argTypes:=#[t]}) (ht:T t=some i) (B:i.d = .slice e) (C:ρ x = .val (.slice p n c)) : Cp P o ρ ⟨.val (.int .i64 n),[],[]⟩ := Fo λσ ι H a w b=>by have D:=Ea C (b x (by simp[h,Op.operands,Call.operands]));obtain⟨g,u,z,A,j,y,s,q,l,f⟩:=Fj (k t i ht);rw[B]at f;subst f;refine⟨.int .i64 n,?_,.of_val _⟩;simp[execOp,h,resolve,invoke,builtin,Builtin.len_,D,run_underlying j,goInt]
theorem A0p (k:Ds P T) {b:Nat} (h:o.op = .call {callee:=.builtin .cap,args:=#[x],argTypes:=#[t]}) (ht:T t=some i) (B:i.d = .slice e) (C:ρ x = .val (.slice p n b)) : Cp P o ρ ⟨.val (.int .i64 b),[],[]⟩ := Fo λσ ι H a w c=>by have D:=Ea C (c x (by simp[h,Op.operands,Call.operands]));obtain⟨g,u,z,A,j,y,s,q,l,f⟩:=Fj (k t i ht);rw[B]at f;subst f;refine⟨.int .i64 b,?_,.of_val _⟩;simp[execOp,h,resolve,invoke,builtin,Builtin.cap_,D,run_underlying j,goInt]
theorem A0q (j:Ds P T) {s:ByteArray} (g:o.op = .call {callee:=.builtin .len,args:=#[x],argTypes:=#[t]}) (ht:T t=some i) (B:i.d = .string) (C:ρ x = .val (.string s)) : Cp P o ρ ⟨.val (.int .i64 s.size),[],[]⟩ := Fo λσ ι H a w b=>by have D:=Ea C (b x (by simp[g,Op.operands,Call.operands]));obtain⟨f,u,z,A,h,y,q,l,k,c⟩:=Fj (j t i ht);rw[B]at c;subst c;refine⟨.int .i64 s.size,?_,.of_val _⟩;simp[execOp,g,resolve,invoke,builtin,Builtin.len_,D,run_underlying h,goInt]
theorem A0r (y:Ds P T) {k len:Nat} (l:o.op = .call {callee:=.builtin .len,args:=#[x],argTypes:=#[t]}) (ht:T t=some i) (M:i.d = .slice e) (N:ρ x = .arr h k off len) (f:xs.length=k):Cp P o ρ ⟨.val (.int .i64 len),[(h,.rows E sz xs)],[]⟩:=by
 intro σ ι H F W w a next Q s c b R
 have S:H h = .rows E sz xs:=b (h,.rows E sz xs) ψ;have hp:=c x (by simp[l,Op.operands,Call.operands]);rw[N]at hp;have C:=hp.arr_inv S f;obtain⟨j,u,z,L,q,J,I,G,D,g⟩:=Fj (y t i ht);rw[M]at g;subst g;have:∃p K,a.eval x = .slice p len K:=by
  unfold H6 at C;split at C
  .obtain⟨B,_,A⟩:=C;exact⟨none,0,by rw[B,A]⟩
  .exact⟨_,_,C.2⟩
  .exact C.elim
 obtain⟨p,K,C⟩:=this;refine G6 (v:=.int .i64 len) ?_ (R σ ι _ w (Le.refl _ _ _) s (.of_val _));simp[execOp,l,resolve,invoke,builtin,Builtin.len_,C,run_underlying q,goInt]
theorem Ajh (hi:Jf P t=some i) (C:i.d = .slice e) (q:Jf P e=some i') {b len f:Nat} (k:IntKind) (D:n<len) (w:World) : (Instr.indexAt t (.slice (some ⟨b,off,none⟩) len f) (.int k (n:Int))).run P w = .ok (.pointer (some ⟨b,off+n*i'.size,none⟩)) w:=by obtain⟨h,u,z,B,j,A,y,x,s,g⟩:=Fj hi;rw[C]at g;subst g;have l:=Qc q w;have c:0<=(n:Int)/\(n:Int)<(len:Int):=ω;simp only[Instr.indexAt,asIntOf,Sem.run_bind,Sem.run_pure,Result.andThen_ok,run_underlying j,if_pos c,l,L6,Int.toNat_natCast]
theorem A0s (s:Ds P T) {z:AV} (l:o.op = .indexAddr t x y) (ht:T t=some i) (M:i.d = .slice e) (D:T e=some i') (h:sz=i'.size) (N:ρ x = .sl sz xs) (R:ρ y = .val (.int k (n:Int))) (I:xs[n]? = some z) : Cp P o ρ ⟨.ref z.cells,[],[]⟩ := Fo λσ ι H a w f=>by
  have K:=f x (by simp[l,Op.operands]);have S:=Ea R (f y (by simp[l,Op.operands]));rw[N]at K;have q:=(Ha.1 I).1;rcases K.sl_inv.sl_inv with⟨rfl,_⟩|⟨b,off,U,C,E,V,g,X,u,B,L,G,_⟩
  .simp at q
  .have A:=B n z I;refine⟨.pointer (some ⟨b,off+n*i'.size,none⟩),?_,.ref z.cells b (off+n*i'.size) C E V (g n) u (λj c J=>(L n z j c I J).1) (λj c J=>(L n z j c I J).2) λj J=>?_⟩
   .simp[execOp,l,X,S,Ajh (s t i ht) M (s e i' D) k q]
   .have:=G n j q ω;rw[<-h];exact this
theorem A0t (g:Ds P T) {m:Nat} (f:o.op = .indexAddr t x y) (ht:T t=some i) (B:i.d = .slice e) (l:T e=some i') (C:i'.size=1) (D:ρ x = .vec h m) (G:ρ y = .val (.int k (n:Int))) (j:n<m) : Cp P o ρ ⟨.loc h n,[],[]⟩ := Fo λσ ι H a w c=>by have u:=c x (by simp[f,Op.operands]);have I:=Ea G (c y (by simp[f,Op.operands]));rw[D]at u;obtain⟨b,J,K⟩:=u.vec_inv;refine⟨.pointer (some ⟨b,n,none⟩),?_,.loc h n b J⟩;simp[execOp,f,K,I,Ajh (g t i ht) B (g e i' l) k j,C]
theorem A0u (l:Ds P T) {m:Nat} (j:o.op = .call {callee:=.builtin .len,args:=#[x],argTypes:=#[t]}) (ht:T t=some i) (D:i.d = .slice e) (G:ρ x = .vec h m) : Cp P o ρ ⟨.val (.int .i64 m),[],[]⟩ := Fo λσ ι H a w c=>by have C:=c x (by simp[j,Op.operands,Call.operands]);rw[G]at C;obtain⟨b,J,I⟩:=C.vec_inv;obtain⟨g,u,z,B,k,A,y,s,q,f⟩:=Fj (l t i ht);rw[D]at f;subst f;refine⟨.int .i64 m,?_,.of_val _⟩;simp[execOp,j,resolve,invoke,builtin,Builtin.len_,I,run_underlying k,goInt]
theorem A0v (A:Ds P T) {k len:Nat} {z:IntKind} (q:o.op = .indexAddr t x y) (ht:T t=some i) (L:i.d = .slice e) (I:T e=some i') (M:ρ x = .arr h k off len) (u:xs.length=k) (N:ρ y = .val (.int z (n:Int))) (D:n<len) (j:sz=i'.size):Cp P o ρ ⟨.el h k (off+n) 0,[(h,.rows E sz xs)],[]⟩:=by
 intro σ ι H F W w a next Q s c l R
 have K:H h = .rows E sz xs:=l (h,.rows E sz xs) ψ;have hp:=c x (by simp[q,Op.operands]);have S:=Ea N (c y (by simp[q,Op.operands]));rw[M]at hp;have C:=hp.arr_inv K u;unfold H6 at C;split at C
 .omega
 .rename_i b B U;obtain⟨G,C⟩:=C;refine G6 (v:=.pointer (some ⟨b,(off+n)*sz,none⟩)) ?_ (R σ ι _ w (Le.refl _ _ _) s ?_)
  .simp[execOp,q,C,S,Ajh (A t i ht) L (A e i' I) z D,j,E8]
  .refine .el h k (off+n) 0 _ (by show H h≠_;rw[K];intro e;cases e) (λJ g f e=>?_) rfl;have e:H h = .rows J g f:=e;rw[K]at e;cases e;refine⟨ω,λ_=>?_⟩;rw[U];rfl
 .exact C.elim
theorem A0w (l:Ds P T) {s:ByteArray} {c:UInt8} (f:o.op = .index t x y) (ht:T t=some i) (C:i.d = .string) (G:ρ x = .val (.string s)) (I:ρ y = .val (.int k (n:Int))) (J:s[n]? = some c) : Cp P o ρ ⟨.val (.int .u8 c.toNat),[],[]⟩ := Fo λσ ι H a w b=>by have K:=Ea G (b x (by simp[f,Op.operands]));have L:=Ea I (b y (by simp[f,Op.operands]));obtain⟨h,u,z,E,j,D,B,A,q,g⟩:=Fj (l t i ht);rw[C]at g;subst g;refine⟨.int .u8 c.toNat,?_,.of_val _⟩;simp[execOp,f,K,L,Instr.index,asIntOf,run_underlying j,J]
theorem A0x {f:FuncId} {b:Array Operand} (h:o.op = .makeFunc (.func f) #[] b):Cp P o ρ ⟨.fn f (b.toList.map ρ),[],[]⟩ := Fo λσ ι H a w g=>by refine⟨.func (.func f) #[] (b.map a.eval),by simp[execOp,h,Instr.makeFunc],.fn f _ _ ψ λi c v B u=>?_⟩;rw[getElem?_map]at B;rw[Array.getElem?_map]at u;cases C:b[i]? with| none=>rw[C]at u;simp at u| some x=>rw[C]at u;rw[Hj,C]at B;simp at B u;subst B;subst u;exact g x (by simp[h,Op.operands];exact Array.mem_of_getElem? C)
end
section
variable {P:Program} {o:Oper} {ρ:Operand->AV} {a:Act} {w w':World} {next:Act->World->Prop} {Q:Exit->Act->World->Prop}
variable {σ:A8} {ι:Ch} {T:Dq} {H:Hp} {xs:List AV} {h l n sz:Nat} {x:Operand} {hi lo:Option Operand} {i i':TI} {e t:TypeId}
def Jg (ρ:Operand->AV) (d:Int):Option Operand->Option Int
 | none=>some d
 | some x=>match ρ x with
  | .val (.int _ n)=>some n
  | _=>none
theorem Aji {k:IntKind} {y:Nat} (h:n<=y) (c:BoundsCode) (w:World):(Instr.sliceBound (.int k (n:Int)) y c).run P w = .ok n w:=by have:0<=(n:Int)/\(n:Int)<=(y:Int):=ω;simp only[Instr.sliceBound,asIntOf,Sem.run_bind,Sem.run_pure,Result.andThen_ok,if_pos this,Int.toNat_natCast]
theorem Ajj {d:Int} (hb:Jg ρ d (some x)=some (n:Int)) (u:Conc σ ι H (ρ x) (a.eval x)):∃k,a.eval x = .int k (n:Int):=by
 unfold Jg at hb;simp only[]at hb;split at hb
 .rename_i k m e;rw[e]at u;cases hb;exact⟨k,u.val_inv⟩
 .cases hb
theorem Ad2 {j:Bool} {len f:Nat} (b:Jg ρ 0 lo=some (l:Int)) (g:Jg ρ (len:Int) hi=some (h:Int)) (u:∀x,lo=some x\/hi=some x->Conc σ ι H (ρ x) (a.eval x)) (B:l<=h) (C:h<=f) (w:World) : (Instr.sliceBounds j len f (lo.map a.eval) (hi.map a.eval) none).run P w = .ok (l,h,f) w:=by
 unfold Instr.sliceBounds;cases hi with
 | none=>simp[Jg]at g;cases lo with| none=>simp[Jg]at b;simp;omega| some x=>obtain⟨k,e⟩:=Ajj b (u x (.inl rfl));have:=λc=>Aji (P:=P) (k:=k) (n:=l) (y:=len) ω c w;simp[e,this];omega
 | some y=>obtain⟨q,e'⟩:=Ajj g (u y (.inr rfl));have i:=λc=>Aji (P:=P) (k:=q) C c w;cases lo with| none=>simp[Jg]at b;simp[e',i];omega| some x=>obtain⟨k,e⟩:=Ajj b (u x (.inl rfl));have:=λc=>Aji (P:=P) (k:=k) B c w;simp[e,e',this,i]
theorem Ad3 {y:Operand} (h:lo=some y\/hi=some y):y∈(Op.slice t x lo hi none).operands.toList:=by rcases h with rfl|rfl <;> simp[Op.operands]
theorem A0y (Y:Ds P T) (D:o.op = .slice t x lo hi none) (ht:T t=some i) (hd:i.d = .slice e) (he:T e=some i') (s:sz=i'.size) (hx:ρ x = .sl sz xs) (J:Jg ρ 0 lo=some (l:Int)) (N:Jg ρ (xs.length:Int) hi=some (h:Int)) (h1:l<=h) (h2:h<=xs.length):Cp P o ρ ⟨.sl sz ((xs.take h).drop l),[],[]⟩ := Fo λσ ι H a w A=>by
  have hv:=A x (by simp[D,Op.operands]);rw[hx]at hv;obtain⟨V,u,z,k1,U,k3,k4,k5,k6,S⟩:=Fj (Y t i ht);rw[hd]at S;subst S;have X:=Qc (Y e i' he);have B:∀(K:Nat),xs.length<=K->∀w,(Instr.sliceBounds true xs.length K (lo.map a.eval) (hi.map a.eval) none).run P w = .ok (l,h,K) w :=
   λK q w=>Ad2 J N (λy hy=>A y (by rw[D];exact Ad3 hy)) h1 ω w
  rcases hv.sl_inv.sl_inv with⟨rfl,p,K,hv⟩|⟨b,off,K,C,E,fr,g,hv,Z,G,hc,hC,hl,q⟩
  .have M:l=0:=(by simp at h2;omega);have R:h=0:=(by simpa using h2);subst M;subst R;refine⟨.slice (if K=0 then p else p.map (·.add (0*i'.size))) (0-0) (K-0),?_,?_⟩
   .simp only[execOp,D,hv,Instr.sliceAt,Instr.slice,Sem.run_bind,run_underlying U,Result.andThen_ok,Option.map_none];have:=B K ψ w;simp only[length_nil]at this;simp only[this,Result.andThen_ok,X w,Sem.run_pure]
   .exact .cc (.nil sz _ _)
  .refine⟨.slice (if K=l then some ⟨b,off,none⟩ else some ⟨b,off+l*i'.size,none⟩) (h-l) (K-l),?_,?_⟩
   .simp only[execOp,D,hv,Instr.sliceAt,Instr.slice,Sem.run_bind,run_underlying U,Result.andThen_ok,Option.map_none,B K q w,X w,Sem.run_pure,Option.map_some,L6]
   .by_cases L:l=h
    .subst L;have:(xs.take l).drop l = []:=ψ;rw[this,Nat.sub_self];exact .cc (.nil sz _ _)
    .rw[if_neg ω];have f:((xs.take h).drop l).length=h-l:=ζ;have k:∀(n:Nat) (y:AV),((xs.take h).drop l)[n]? = some y->xs[l+n]? = some y:=by
      intro n y hy;rw[getElem?_drop]at hy;by_cases I:l+n<h
      .rwa [Il I]at hy
      .rw[getElem?_eq_none ζ]at hy;cases hy
     have:=CC.sl (σ:=σ) ((xs.take h).drop l) b (off+l*sz) (K-l) sz C E fr (λn j=>g (l+n) j) Z (λn y hy=>G _ y (k n y hy))
      (λn y j c hy hj=>(hc _ y j c (k n y hy) hj).1) (λn y j c hy hj=>(hc _ y j c (k n y hy) hj).2) (λn j hn hj=>by rw[f]at hn;have:=hC (l+n) j ω hj;rw[E8]at this;rw[<-this];congr 1;omega) (by rw[f];omega) (by rw[f];omega);rw[f,s]at this;rw[s];exact .cc this
theorem A0z (B:Ds P T) {s:ByteArray} (c:o.op = .slice t x lo hi none) (ht:T t=some i) (C:i.d = .string) (K:ρ x = .val (.string s)) (f:Jg ρ 0 lo=some (l:Int)) (g:Jg ρ (s.size:Int) hi=some (h:Int)) (L:l<=h) (R:h<=s.size):Cp P o ρ ⟨.val (.string (s.extract l h)),[],[]⟩ := Fo λσ ι H a w b=>by
  have M:=Ea K (b x (by simp[c,Op.operands]));obtain⟨q,u,z,J,A,I,G,E,D,k⟩:=Fj (B t i ht);rw[C]at k;subst k;have j:(Instr.sliceBounds false s.size s.size (lo.map a.eval) (hi.map a.eval) none).run P w = .ok (l,h,s.size) w :=
   Ad2 f g (λy N=>b y (by rw[c];exact Ad3 N)) L ω w
  refine⟨.string (s.extract l h),?_,.of_val _⟩;simp[execOp,c,M,Instr.sliceAt,Instr.slice,run_underlying A,j]
theorem A00 (hT:Ds P T) {c k off len:Nat} {E:TypeId} (D:o.op = .slice t x lo hi none) (ht:T t=some i) (hd:i.d = .slice e) (he:T e=some i') (G:sz=i'.size) (hx:ρ x = .arr c k off len) (N:xs.length=k) (L:Jg ρ 0 lo=some (l:Int)) (R:Jg ρ (len:Int) hi=some (h:Int)) (h1:l<=h) (h2:h<=len) (h3:l=0\/l<h) : Cp P o ρ ⟨.arr c k (off+l) (h-l),[(c,.rows E sz xs)],[]⟩:=by
 intro σ ι H F W w a next Q s q I hk
 have hh:H c = .rows E sz xs:=I (c,.rows E sz xs) ψ;have hp:=q x (by simp[D,Op.operands]);rw[hx]at hp;have C:=hp.arr_inv hh N;obtain⟨X,u,z,k1,V,k3,k4,k5,k6,U⟩:=Fj (hT t i ht);rw[hd]at U;subst U;have Y:=Qc (hT e i' he);have B:∀(K:Nat),len<=K->∀w,(Instr.sliceBounds true len K (lo.map a.eval) (hi.map a.eval) none).run P w = .ok (l,h,K) w :=
  λK Z w=>Ad2 L R (λy hy=>q y (by rw[D];exact Ad3 hy)) h1 ω w
 unfold H6 at C;split at C
 .rename_i A;obtain⟨C,J,M⟩:=C;subst M;subst J;have e1:l=0:=ω;have e2:h=0:=ω;subst e1;subst e2;refine G6 (v:=.slice none 0 0) ?_ (hk σ ι _ w (Le.refl _ _ _) s ?_)
  .simp only[execOp,D,C,Instr.sliceAt,Instr.slice,Sem.run_bind,run_underlying V,Result.andThen_ok,Option.map_none];have:=B 0 ω w;simp only[this,Result.andThen_ok,Y w,Sem.run_pure];rfl
  .refine .arr _ _ _ _ _ (by show H c≠_;rw[hh];intro e;cases e) (λS g f e=>?_) rfl;have e:H c = .rows S g f:=e;rw[hh]at e;cases e;exact⟨ω,λ_=>by rw[A];exact⟨rfl,rfl,rfl⟩⟩
 .rename_i b j hb;obtain⟨a1,C⟩:=C;refine G6 (v:=.slice (some ⟨b,(off+l)*sz,none⟩) (h-l) (j-(off+l))) ?_ (hk σ ι _ w (Le.refl _ _ _) s ?_)
  .simp only[execOp,D,C,Instr.sliceAt,Instr.slice,Sem.run_bind,run_underlying V,Result.andThen_ok,Option.map_none];have:=B (j-off) ω w;simp only[this,Result.andThen_ok,Y w,Sem.run_pure,Option.map_some,L6];rcases h3 with rfl|h3
   .simp
   .rw[if_neg ω,E8,G,Nat.sub_sub]
  .refine .arr _ _ _ _ _ (by show H c≠_;rw[hh];intro e;cases e) (λS g f e=>?_) rfl;have e:H c = .rows S g f:=e;rw[hh]at e;cases e;refine⟨ω,λ_=>?_⟩;rw[hb];exact⟨ω,rfl⟩
 .exact C.elim
def Ad4 (σ:A8) (ι:Ch) (H:Hp) (cs:List AV) (C:Array Value):Prop := C.size=cs.length/\∀(i:Nat) (c:AV) (v:Value),cs[i]? = some c->C[i]? = some v->Conc σ ι H c v
theorem Ajk (off:Nat):∀(l:List Value) (m:Nat) (cells:Array Value),off+m+l.length<=cells.size -> ((l.zipIdx m).foldl (λcs p=>cs.setIfInBounds (off+p.2) p.1) cells).size=cells.size /\ ∀k:Nat,((l.zipIdx m).foldl (λcs p=>cs.setIfInBounds (off+p.2) p.1) cells)[k]? = if off+m<=k/\k<off+m+l.length then l[k-(off+m)]? else cells[k]?
 | [],m,cells,_=>by refine⟨rfl,λk=>?_⟩;rw[if_neg (by simp only[length_nil];omega)];rfl
 | v::u,m,cells,h=>by
  simp only[length_cons]at h;obtain⟨c,b⟩:=Ajk off u (m+1) (cells.setIfInBounds (off+m) v) ζ;simp only[zipIdx_cons,foldl_cons];refine⟨by rw[c];simp,λk=>?_⟩;rw[b k];by_cases C:k=off+m
  .subst C;rw[if_neg ω,if_pos ψ];rw[Array.getElem?_setIfInBounds_self_of_lt ω];simp
  .by_cases B:off+m<=k/\k<off+m+(u.length+1)
   .rw[if_pos ω,length_cons,if_pos B];rw[show k-(off+m)=(k-(off+(m+1)))+1 by omega];simp
   .rw[if_neg ω,length_cons,if_neg B,Array.getElem?_setIfInBounds_ne ω]
theorem Ao4 {σ:A8} {ι:Ch} {H:Hp} {fs:List (Nat×Nat)} {place:Nat->Option (Nat×Nat)} (hp:∀n,place n=fs[n]?):∀(ps:List (Nat×Operand)) (cs:List AV) (C:Array Value) (b:List AV),Ad4 σ ι H cs C -> (∀p∈ps,Conc σ ι H (ρ p.2) (a.eval p.2))->Wa fs cs (ps.map λp=>(p.1,ρ p.2))=some b -> ∃k,Instr.fill place C (ps.map λp=>(p.1,a.eval p.2))=some k/\Ad4 σ ι H b k
 | [],cs,C,b,g,_,h=>by simp only[map_nil,Wa]at h;cases h;exact⟨C,rfl,g⟩
 | p::ps,cs,C,b,g,K,h=>by
  simp only[map_cons,Wa]at h;cases J:fs[p.1]? with
  | none=>rw[J]at h;cases h
  | some q=>
   rw[J]at h;simp only[]at h;cases I:(Nat.beq (ρ p.2).cells.length q.2&&Nat.ble (q.1+q.2) cs.length) with
   | false=>rw[I]at h;cases h
   | true=>
    rw[I]at h;simp only[cond_true]at h;simp only[F3]at I;have B:(ρ p.2).cells.length=q.2:=Hn I.1;have A:q.1+q.2<=cs.length:=Hb I.2;have L:=(K p ψ).cells;have z:=g.1;have j:=Ajk q.1 (a.eval p.2).cells.toList 0 C ζ;have s:Ad4 σ ι H (N6 cs q.1 (ρ p.2).cells) (((a.eval p.2).cells.toList.zipIdx 0).foldl (λcs p=>cs.setIfInBounds (q.1+p.2) p.1) C):=by
     refine⟨by rw[j.1,Ajc _ _ _ ω];exact g.1,λi c v D G=>?_⟩;rw[Ajb _ _ _ ω]at D;rw[j.2 i]at G;simp only[Array.length_toList,L.1,Nat.add_zero]at G;by_cases M:i<q.1
     .rw[if_pos M]at D;rw[if_neg ω]at G;exact g.2 i c v D G
     .rw[if_neg M]at D;by_cases N:i<q.1+(ρ p.2).cells.length
      .rw[if_pos N]at D;rw[if_pos ω,Hj]at G;exact L.2 _ c v D G
      .rw[if_neg N]at D;rw[if_neg ω]at G;exact g.2 i c v D G
    obtain⟨k,x,u⟩:=Ao4 hp ps _ _ b s (λy l=>K y (by simp[l])) h;refine⟨k,?_,u⟩;simp only[map_cons,Instr.fill,hp,J];have f:((a.eval p.2).cells.size≠q.2||decide (q.1+(a.eval p.2).cells.size>C.size))=false:=by have:=g.1;simp;omega
    rw[f];simp only[Bool.false_eq_true,if_false];rw[<-Array.foldl_toList,Array.toList_zipIdx];exact x
theorem A01 (N:Ds P T) {b:Array (Nat×Operand)} {fs:List (Nat×Nat)} {cs:List AV} (G:o.op = .build t b) (ht:T t=some i) (hd:i.d = .struct fs) (hc:Wa fs (i.zero.map .val) (b.toList.map λp=>(p.1,ρ p.2))=some cs):Cp P o ρ ⟨.agg cs,[],[]⟩ := Fo λσ ι H a w q=>by
  obtain⟨E,u,z,M,L,J,U,S,D,B⟩:=Fj (N t i ht);rw[hd]at B;obtain⟨C,rfl,s,K⟩:=B;have l:∀(fl:List Field),(∀f∈fl,0<P.cellsOf f.type)->fl.mapM (λf=>(P.info? f.type).map λi=>(f.offset,i.size))=some (fl.map λf=>(f.offset,P.cellsOf f.type)):=by
   intro fl;induction fl with
   | nil=>intro _;rfl
   | cons f fl ih=>intro hp;have V:=hp f ψ;have h:=ih λR y=>hp R (by simp[y]);unfold Program.cellsOf at V ⊢;cases g:P.info? f.type with| none=>rw[g]at V;simp at V| some a0=>unfold Program.cellsOf at h;rw[mapM_cons,h,g];simp[g]
  have hz:Ad4 σ ι H (i.zero.map .val) z.cells:=(by refine⟨by simp[D],λj c v X h2=>?_⟩;rw[D,getElem?_map,Hj,h2]at X;simp at X;subst X;exact .of_val v);obtain⟨k,I,A⟩:=Ao4 (a:=a) (place:=λn=>((C.toList.map λf=>(f.offset,P.cellsOf f.type)).toArray)[n]?) (fs:=fs) (λn=>by rw[s];simp) b.toList _ _ cs hz (λp hp=>q p.2 (by simp only[G,Op.operands];simpa using ⟨p.1,by simpa using hp⟩)) hc;refine⟨.agg k,?_,.agg cs k A.1 A.2⟩;have hb:P.built t ((b.map λ(i,x)=>(i,a.eval x)).toList)=some k:=(by unfold Program.built;rw[M,L];simp only[J,l C.toList K];rw[<-I];simp);simp only[execOp,G,Sem.run_bind,run_build w t _ k hb,Result.andThen_ok,Sem.run_pure]
end
section
variable {P:Program} {o:Oper} {ρ:Operand->AV} {a:Act} {w w':World} {next:Act->World->Prop} {Q:Exit->Act->World->Prop}
variable {b:Array (Nat×Operand)} {T:Dq} {k:IntKind} {l:Nat} {x y:Operand} {i i':TI} {e t:TypeId}
theorem O4 {sz:Nat} {x:AV} (h:Mp sz x=true):x.cells.length=sz/\∀c∈x.cells,c.cl1=true:=by unfold Mp at h;simp only[F3]at h;exact⟨Hn h.1,Et.1 h.2⟩
def Lk (vs:List Value):List Value:=vs.flatMap λv=>v.cells.toList
theorem Ajl {σ:A8} {ι:Ch} {H:Hp} {sz:Nat}:∀(xs:List AV) (vs:List Value),xs.length=vs.length->(∀x∈xs,Mp sz x=true) -> (∀(i:Nat) (x:AV) (v:Value),xs[i]? = some x->vs[i]? = some v->Conc σ ι H x v) -> (Lk vs).length=xs.length*sz/\∃g:Nat->Nat->Value,(∀(i:Nat) (x:AV) (j:Nat) (c:AV),xs[i]? = some x->x.cells[j]? = some c->CC σ c (g i j)/\Fm (g i j)=true) /\ (∀(i j:Nat),i<xs.length->j<sz->(Lk vs)[i*sz+j]? = some (g i j))
 | [],[],_,_,_=>⟨by simp[Lk],λ_ _=>undef,ψ,ψ⟩
 | x::xs,v::vs,B,k,I=>by
  obtain⟨z,g,s,q⟩:=Ajl xs vs (by simpa using B) (λy D=>k y (by simp[D])) λi y u J K=>I (i+1) y u (by simpa using J) (by simpa using K);have L:=I 0 x v ψ ψ;have G:=O4 (k x ψ);have f:=L.cells;have h:v.cells.toList.length=sz:=(by simp[f.1,G.1]);have l:Lk (v::vs)=v.cells.toList++Lk vs:=(by simp[Lk]);refine⟨by rw[l,length_append,z,h,length_cons,E8];omega,λi j=>if i=0 then (v.cells[j]?).getD undef else g (i-1) j,?_,?_⟩
  .intro i y j c D C;cases i with
   | zero=>simp at D;subst D;have b:j<v.cells.size:=(by rw[f.1];exact (Ha.1 C).1);have:(v.cells[j]?).getD undef=v.cells[j]:=(by simp[b]);simp only[if_pos];rw[this];exact (f.2 j c _ C (by simp[b])).cc_of (G.2 c (Fw C))
   | succ i=>have A:xs[i]? = some y:=(by simpa using D);simpa using s i y j c A C
  .intro i j hi C;rw[l];cases i with
   | zero=>rw[getElem?_append_left ω,Nat.zero_mul,Nat.zero_add,Hj];have b:j<v.cells.size:=(by rw[f.1,G.1];exact C);simp[b]
   | succ i=>rw[getElem?_append_right (by rw[h,E8];omega),h,show (i+1)*sz+j-sz=i*sz+j by rw[E8];omega];rw[q i j (by simpa using hi) C];simp
theorem Ao5 {sz:Nat}:∀(vs:List Value) (m:Nat) (C:Array Value),(∀v∈vs,v.cells.size=sz)->C.size=(m+vs.length)*sz -> ∃f,Instr.fill (λi=>some (i*sz,sz)) C ((vs.zipIdx m).map λp=>(p.2,p.1))=some f/\f.size=C.size/\(∀k:Nat,k<m*sz->f[k]? = C[k]?) /\ ∀k:Nat,m*sz<=k->f[k]? = (Lk vs)[k-m*sz]?
 | [],m,C,_,g=>by refine⟨C,rfl,rfl,λ_ _=>rfl,λk B=>?_⟩;simp only[length_nil,Nat.add_zero]at g;simp[Lk];omega
 | v::vs,m,C,D,g=>by
  simp only[length_cons]at g;have G:=D v ψ;have l:(m+(vs.length+1))*sz=m*sz+sz+vs.length*sz:=(by rw[E8,E8];omega);have b:=Ajk (m*sz) v.cells.toList 0 C ζ;simp only[Nat.add_zero,Array.length_toList,G]at b;obtain⟨f,x,s,j,q⟩:=Ao5 vs (m+1) (((v.cells.toList.zipIdx 0).foldl (λcs p=>cs.setIfInBounds (m*sz+p.2) p.1) C)) (λu I=>D u (by simp[I])) (by rw[b.1,g,show m+1+vs.length=m+(vs.length+1) by omega]);refine⟨f,?_,by rw[s,b.1],?_,?_⟩
  .simp only[zipIdx_cons,map_cons,Instr.fill];have c:(v.cells.size≠sz||decide (m*sz+v.cells.size>C.size))=false:=by simp;omega
   rw[c];simp only[Bool.false_eq_true,if_false];rw[<-Array.foldl_toList,Array.toList_zipIdx];exact x
  .intro k B;rw[j k (by rw[E8];omega),b.2 k,if_neg ω]
  .intro k B;have h:Lk (v::vs)=v.cells.toList++Lk vs:=(by simp[Lk]);rw[h];by_cases J:k<m*sz+sz
   .rw[j k (by rw[E8];omega),b.2 k,if_pos ω,getElem?_append_left ζ]
   .rw[q k (by rw[E8];omega),getElem?_append_right ζ];congr 1;simp only[Array.length_toList,G];rw[E8];omega
theorem A02 (ps:List (Nat×Operand)) (f:Operand->Value) (m:Nat) (h:ps.map (·.1)=range' m ps.length):ps.map (λp=>(p.1,f p.2))=((ps.map λp=>f p.2).zipIdx m).map λp=>(p.2,p.1):=by induction ps generalizing m with| nil=>rfl| cons p ps ih=>simp only[map_cons,length_cons,range'_succ,List.cons.injEq]at h;simp only[map_cons,zipIdx_cons,List.cons.injEq];exact⟨by rw[h.1],ih (m+1) h.2⟩
theorem Ao6 {len:Nat} (R:o.op = .buildSlice t len b) (hi:Jf P t=some i) (hd:i.d = .slice e) (S:Jf P e=some i') (hz:0<i'.size) (hp:b.toList.map (·.1)=range' 0 len) (Z:len*i'.size<=16777216) (hv:∀p∈b.toList,(a.eval p.2).cells.size=i'.size) : ∃C:Array Value,C.toList=Lk (b.toList.map λp=>a.eval p.2)/\(execOp a.eval o).run P w = .ok (.value (.slice (some ⟨w.heap.size,0,none⟩) len len)) (w.alloc (.cells C e)):=by
 obtain⟨M,u,z,k1,L,k3,k4,k5,k6,J⟩:=Fj hi;rw[hd]at J;subst J;obtain⟨j,Y,y⟩:=Ao1 S w;have N:=Qc S w;have c:b.toList.length=len:=by have:=congrArg length hp;simpa using this
 have A:∀v∈(b.toList.map λp=>a.eval p.2),v.cells.size=i'.size:=by intro v l;simp only[mem_map]at l;obtain⟨p,D,rfl⟩:=l;exact hv p D
 have G:∀(vs:List Value),(∀v∈vs,v.cells.size=i'.size)->(Lk vs).length=vs.length*i'.size:=by intro vs;induction vs with| nil=>intro _;simp[Lk]| cons v vs ih=>intro h;have:=ih λu hu=>h u (by simp[hu]);have h0:=h v ψ;simp only[Lk,flatMap_cons,length_append,Array.length_toList,h0,length_cons]at this ⊢;rw[this,E8];omega
 obtain⟨s,X,V,r3,U⟩:=Ao5 (sz:=i'.size) (b.toList.map λp=>a.eval p.2) 0 ((Array.range (len*i'.size)).map (j.cells[· % j.cells.size]!)) A (by simp[c]);refine⟨s,?_,?_⟩
 .apply ext_getElem?;intro k;rw[Hj,U k ω];simp
 .have K:0<len\/len=0:=ω;have g:Instr.fill (λi=>some (i*i'.size,i'.size)) ((Array.range (len*i'.size)).map (j.cells[· % j.cells.size]!)) ((b.map λ(i,x)=>(i,a.eval x)).toList)=some s:=(by rw[<-X,<-A02 b.toList a.eval 0 (by rw[hp,c])];simp);rcases K with K|K
  .have E:¬len*i'.size=0:=(by have:=Nat.mul_pos K hz;omega);have q:¬len*i'.size>2 ^ 24:=ω;have f:Instr.fill (λi=>some (i*i'.size,i'.size)) ((Array.range (len*i'.size)).map (j.cells[· % j.cells.size]!)) (b.toList.map λx=>(x.1,a.eval x.2))=some s:=(by rw[<-g];simp);simp[execOp,R,Instr.buildSlice,run_underlying L,N,q,E,y,f,newRow,newObj,Sem.run]
  .subst K;have I:s = #[]:=(by apply Array.eq_empty_of_size_eq_zero;rw[V];simp);subst I;have B:b = #[]:=(by apply Array.eq_empty_of_size_eq_zero;simpa using c);subst B;have:(Array.map (λ_:Nat=>(default:Value)) (Array.range 0)) = #[]:=ψ;simp[execOp,R,Instr.buildSlice,run_underlying L,N,newRow,newObj,Sem.run,Instr.fill,this]
theorem Ad5 {len:Nat} {p:Nat×Operand} (h:p∈b.toList):p.2∈(Op.buildSlice t len b).operands.toList:=by simp only[Op.operands];simpa using ⟨p.1,by simpa using h⟩
theorem Ao7 (A:Ds P T) {len:Nat} (z:o.op = .buildSlice t len b) (ht:T t=some i) (U:i.d = .slice e) (G:T e=some i') (N:0<i'.size) (hp:b.toList.map (·.1)=range' 0 len) (y:len*i'.size<=16777216) (h:∀p∈b.toList,Mp i'.size (ρ p.2)=true) : Cp P o ρ ⟨.sl i'.size (b.toList.map λp=>ρ p.2),[],[]⟩:=by
  intro σ ι H F W w a next Q s k _ V
  have l:b.toList.length=len:=(by have:=congrArg length hp;simpa using this);have u:∀p∈b.toList,(a.eval p.2).cells.size=i'.size:=(by intro p f;rw[((k p.2 (by rw[z];exact Ad5 f)).cells).1];exact (O4 (h p f)).1);obtain⟨C,I,B⟩:=Ao6 (P:=P) (a:=a) (w:=w) z (A t i ht) U (A e i' G) N hp y u;obtain⟨E,g,R,X⟩:=Ajl (σ:=σ) (ι:=ι) (H:=H) (sz:=i'.size) (b.toList.map λp=>ρ p.2) (b.toList.map λp=>a.eval p.2) ψ (by intro x S;simp only[mem_map]at S;obtain⟨p,f,rfl⟩:=S;exact h p f) (by intro j x v K L;rw[getElem?_map]at K L;cases J:b.toList[j]? with| none=>rw[J]at K;simp at K| some p=>rw[J]at K L;simp at K L;subst K;subst L;exact k p.2 (by rw[z];exact Ad5 (Fw J)))
  obtain⟨s',le⟩:=s.newFrozen (.cells C e);refine G6 B (V _ ι _ _ le s' (.cc ?_));have D:len<=140737488355328:=(by have:len*1<=len*i'.size:=Nat.mul_le_mul_left len N;omega);have:=CC.sl (σ:=A3 σ w.heap.size (some (.cells C e))) (b.toList.map λp=>ρ p.2) w.heap.size 0 len i'.size C e (0,0) g (Cn _ _ _)
    (by intro j x J
        rw[getElem?_map]at J
        cases M:b.toList[j]? with
        | none=>rw[M]at J;simp at J
        | some p=>rw[M]at J;simp at J;subst J;exact (O4 (h p (Fw M))).1) (λj x q c K L=>((R j x q c K L).1).mono le.sto) (λj x q c K L=>(R j x q c K L).2) (by intro j q J hq;rw[Nat.zero_add,<-Hj,I];exact X j q J hq) (by rw[length_map];omega) (by rw[length_map];omega)
  rw[length_map,l]at this;exact this
theorem A03 (G:Ds P T) {len:Nat} (h:Nat) (D:o.op = .buildSlice t len b) (ht:T t=some i) (hd:i.d = .slice e) (N:T e=some i') (X:0<i'.size) (hp:b.toList.map (·.1)=range' 0 len) (A:len*i'.size<=16777216) (f:∀p∈b.toList,Mp i'.size (ρ p.2)=true) :
  Cp P o ρ ⟨.arr h len 0 len,[(h,.none)],[(h,.rows e i'.size (b.toList.map λp=>ρ p.2))]⟩:=by
 intro σ ι H F W w a next Q s k B hk
 have L:H h = .none:=B (h,.none) ψ
 have l:b.toList.length=len:=by have:=congrArg length hp;simpa using this
 have z:∀p∈b.toList,(a.eval p.2).cells.size=i'.size:=by
  intro p c
  rw[((k p.2 (by rw[D];exact Ad5 c)).cells).1]
  exact (O4 (f p c)).1
 obtain⟨C,I,J⟩:=Ao6 (P:=P) (a:=a) (w:=w) D (G t i ht) hd (G e i' N) X hp A z
 obtain⟨E,g,g1,g2⟩:=Ajl (σ:=σ) (ι:=ι) (H:=H) (sz:=i'.size) (b.toList.map λp=>ρ p.2) (b.toList.map λp=>a.eval p.2) ψ
  (by intro x hx;simp only[mem_map]at hx;obtain⟨p,c,rfl⟩:=hx;exact f p c)
  (by
   intro j x v U V
   rw[getElem?_map]at U V
   cases K:b.toList[j]? with
   | none=>rw[K]at U;simp at U
   | some p=>
    rw[K]at U V;simp at U V;subst U;subst V
    exact k p.2 (by rw[D];exact Ad5 (Fw K)))
 have M:len<=140737488355328:=by
  have:len*1<=len*i'.size:=Nat.mul_le_mul_left len X
  omega
 obtain⟨s',le⟩:=s.newRows h e i'.size (b.toList.map λp=>ρ p.2) len C (.inl L) X (by rw[length_map];omega) (by rw[length_map];omega)
  (by rw[<-Array.length_toList,I,E,length_map,l]) ⟨g,(by
    intro j x K
    rw[getElem?_map]at K
    cases S:b.toList[j]? with
    | none=>rw[S]at K;simp at K
    | some p=>rw[S]at K;simp at K;subst K;exact (O4 (f p (Fw S))).1),g1,(by
    intro j q K hq;rw[<-Hj,I];exact g2 j q K hq)⟩
 refine G6 J (hk _ _ _ _ le s' ?_)
 refine .arr h len 0 len _ (by show A3 H h _ h≠_;rw[Cn];intro e;cases e) (λR y u e'=>?_) rfl
 have e':A3 H h _ h = .rows R y u:=e'
 rw[Cn]at e';cases e'
 refine⟨by rw[length_map];omega,λ_=>?_⟩
 rw[Cn]
 exact⟨ω,by rw[Nat.zero_mul];rfl⟩
def Gv (i:TI):AV := match i.d,i.zero with
 | .struct _,z=>.agg (z.map .val)
 | _,[v]=>.val v
 | _,z=>.agg (z.map .val)
theorem Ao8 (hT:Ds P T) {k':IntKind} {c:Nat} (I:AV) (h:Nat) (Y:o.op = .makeSlice t x y) (ht:T t=some i) (hd:i.d = .slice e) (he:T e=some i') (hz:0<i'.size) (hx:ρ x = .val (.int k (l:Int))) (hy:ρ y = .val (.int k' (c:Int))) (a6:l<=c) (hb:i'.bytes*c<=281474976710656) (hc:c<=140737488355328) (a8:I.cells.length=i'.size) (a7:i'.zero.length=i'.size) (U:∀(q:Nat) (c:AV) (v:Value),I.cells[q]? = some c->i'.zero[q]? = some v->(∀σ,CC σ c v)/\Fm v=true) :
  Cp P o ρ ⟨.arr h l 0 l,[(h,.none)],[(h,.rows e i'.size (replicate l I))]⟩:=by
 intro σ ι H F W w a next Q s E V hk
 have hn:H h = .none:=V (h,.none) ψ
 have h1:=Ea hx (E x (by simp[Y,Op.operands]))
 have h2:=Ea hy (E y (by simp[Y,Op.operands]))
 obtain⟨aa,u,z,k1,k2,k3,k4,k5,k6,k7⟩:=Fj (hT t i ht)
 rw[hd]at k7;subst k7
 obtain⟨A,u',b,S,ac,R,N,M,D,ab⟩:=Fj (hT e i' he)
 have g:=run_make (P:=P) w t e A b k2 S R k k' (l:Int) (c:Int) ω ω (by
   have h':((i'.bytes*c:Nat):Int)<=281474976710656:=ω
   rw[Int.natCast_mul]at h';rw[M];exact h') ω
 rw[Int.toNat_natCast,Int.toNat_natCast,N]at g
 have f:b.cells.size=i'.size:=by
  rw[<-a7,D,Array.length_toList]
 have B:∀q,q<c*i'.size->(madeCells b.cells (c*i'.size))[q]? = b.cells[q % i'.size]?:=by
  intro q C
  unfold madeCells
  have hm:q % i'.size<b.cells.size:=by rw[f];exact Nat.mod_lt _ hz
  have Z:b.cells[q % i'.size]! = b.cells[q % i'.size]:=by simp[hm]
  simp[C,f,Z]
 obtain⟨s',le⟩:=s.newRows h e i'.size (replicate l I) c (madeCells b.cells (c*i'.size)) (.inl hn) hz ζ (by simpa using a6) (by simp[madeCells])
  ⟨λ_ j=>(b.cells[j]?).getD undef,(by
   intro j x' K
   have:=Fw K
   simp at this
   rw[this.2];exact a8),(by
   intro j x' q c' K C
   have:=Fw K
   simp at this
   rw[this.2]at C
   have X:q<b.cells.size:=by
    have:=(Ha.1 C).1
    omega
   have hv:b.cells[q]? = some b.cells[q]:=Array.getElem?_eq_getElem X
   have:=U q c' b.cells[q] C (by rw[D,Hj,hv])
   show CC σ c' ((b.cells[q]?).getD undef)/\Fm ((b.cells[q]?).getD undef)=true
   rw[hv]
   exact⟨this.1 σ,this.2⟩),(by
   intro j q K C
   have a0:j<l:=by simpa using K
   have a1:j*i'.size+q<c*i'.size:=by
    have:(j+1)*i'.size<=c*i'.size:=Nat.mul_le_mul_right _ ω
    rw[E8]at this;omega
   rw[B _ a1]
   have:(j*i'.size+q) % i'.size=q:=by rw[Nat.mul_comm,Nat.mul_add_mod,Nat.mod_eq_of_lt C]
   rw[this]
   have G:q<b.cells.size:=ω
   simp[G])⟩
 refine G6 (v:=.slice (some ⟨w.heap.size,0,none⟩) l c) ?_ (hk _ _ _ _ le s' ?_)
 .simp[execOp,Y,h1,h2,g]
 .refine .arr h l 0 l _ (by show A3 H h _ h≠_;rw[Cn];intro e;cases e) (λE' L J e'=>?_) rfl
  have e':A3 H h _ h = .rows E' L J:=e'
  rw[Cn]at e';cases e'
  refine⟨ψ,λ_=>?_⟩
  rw[Cn]
  exact⟨ω,by rw[Nat.zero_mul];rfl⟩
theorem A04 (U:Ds P T) {R:IntKind} {m:Nat} {v:Value} (h:Nat) (L:o.op = .makeSlice t x y) (ht:T t=some i) (hd:i.d = .slice e) (he:T e=some i') (hz:i'.size=1) (hv:i'.zero = [v]) (hx:ρ x = .val (.int k (m:Int))) (hy:ρ y = .val (.int R (m:Int))) (hb:i'.bytes*m<=281474976710656) (hm:m<=16) : Cp P o ρ ⟨.vec h m,[(h,.none)],[(h,.cells e (replicate m (.val v)))]⟩:=by
 intro σ ι H F W w a next Q s g I hk
 have Z:H h = .none:=I (h,.none) ψ;have h1:=Ea hx (g x (by simp[L,Op.operands]));have h2:=Ea hy (g y (by simp[L,Op.operands]));obtain⟨S,u,z,k1,Y,k3,k4,k5,k6,N⟩:=Fj (U t i ht);rw[hd]at N;subst N;obtain⟨f,u',M,D,X,B,A,l,j,V⟩:=Fj (U e i' he);have b:=run_make (P:=P) w t e f M Y D B k R (m:Int) (m:Int) ω ω (by have K:((i'.bytes*m:Nat):Int)<=281474976710656:=ω;rw[Int.natCast_mul]at K;rw[l];exact K) ω;rw[Int.toNat_natCast,A,hz,Nat.mul_one]at b;have E:M.cells = #[v]:=by apply Array.ext';rw[<-j,hv]
 rw[E]at b;obtain⟨s',le⟩:=s.newBox h Z e (replicate m (.val v)) (madeCells #[v] m) (by simp[madeCells]) (by intro q c u hq C;have hc:=Fw hq;simp at hc;have J:q<m:=(by have:=(Ha.1 hq).1;simpa using this);have G:u=v:=(by unfold madeCells at C;simp[J]at C;rw[<-C,Nat.mod_one];rfl);rw[hc.2,G];exact .of_val v);refine G6 (v:=.slice (some ⟨w.heap.size,0,none⟩) m m) ?_ (hk _ _ _ _ le s' ?_)
 .simp[execOp,L,h1,h2,b]
 .exact .vec h m _ (Cn _ _ _)
theorem A05 (B:Ds P T) {u:IntKind} {c:Nat} (h:Nat) (z:o.op = .makeSlice t x y) (ht:T t=some i) (G:i.d = .slice e) (A:T e=some i') (I:0<i'.size) (J:ρ x = .val (.int k (l:Int))) (K:ρ y = .val (.int u (c:Int))) (f:l<=c) (hb:i'.bytes*c<=281474976710656) (L:c<=140737488355328) (g:Mp i'.size (Gv i')=true) (b:(Gv i').cells=i'.zero.map .val) : Cp P o ρ ⟨.arr h l 0 l,[(h,.none)],[(h,.rows e i'.size (replicate l (Gv i')))]⟩:=by obtain⟨s,D⟩:=O4 g;refine Ao8 B (Gv i') h z ht G A I J K f hb L s (by rw[<-s,b,length_map]) ?_;intro q E v C M;have j:=D E (Fw C);rw[b,getElem?_map,M]at C;simp at C;subst C;exact⟨λσ=>.val v,j⟩
inductive Hk:List AV->List AV->Prop
 | nil:Hk [] []
 | same (c:AV) {l l':List AV} (h:Hk l l'):Hk (c::l) (c::l')
 | sl (s:Nat) {l l':List AV} (h:Hk l l'):Hk (.val (.slice none 0 0)::l) (.sl s []::l')
theorem Hk.spec {l g:List AV} (h:Hk l g):g.length=l.length/\∀(q:Nat) (c f:AV),l[q]? = some c->g[q]? = some f->f=c\/∃s,c = .val (.slice none 0 0)/\f = .sl s []:=by
 induction h with
 | nil=>exact⟨rfl,λq c f h=>by simp at h⟩
 | same c h ih=>refine⟨by simp[ih.1],λq a b h1 h2=>?_⟩;cases q with| zero=>cases h1;cases h2;exact .inl rfl| succ q=>exact ih.2 q a b h1 h2
 | sl s h ih=>refine⟨by simp[ih.1],λq a b h1 h2=>?_⟩;cases q with| zero=>cases h1;cases h2;exact .inr ⟨s,rfl,rfl⟩| succ q=>exact ih.2 q a b h1 h2
theorem A06 (I:Ds P T) {B:IntKind} {c:Nat} (g:AV) (h:Nat) (D:o.op = .makeSlice t x y) (ht:T t=some i) (C:i.d = .slice e) (G:T e=some i') (K:0<i'.size) (R:ρ x = .val (.int k (l:Int))) (S:ρ y = .val (.int B (c:Int))) (j:l<=c) (hb:i'.bytes*c<=281474976710656) (U:c<=140737488355328) (u:Mp i'.size (Gv i')=true) (b:(Gv i').cells=i'.zero.map .val) (E:Hk (Gv i').cells g.cells) : Cp P o ρ ⟨.arr h l 0 l,[(h,.none)],[(h,.rows e i'.size (replicate l g))]⟩:=by
 obtain⟨L,J⟩:=O4 u;obtain⟨N,A⟩:=E.spec;refine Ao8 I g h D ht C G K R S j hb U ω (by rw[<-L,b,length_map]) ?_;intro q M v V X;have f:(Gv i').cells[q]? = some (.val v):=by rw[b,getElem?_map,X];rfl
 have z:=J _ (Fw f);rcases A q _ M f V with rfl|⟨s,h1,rfl⟩
 .exact⟨λσ=>.val v,z⟩
 .cases h1;exact⟨λσ=>.nil s _ _,rfl⟩
end
section
variable {P:Program} {o:Oper} {ρ:Operand->AV} {a:Act} {w w':World} {next:Act->World->Prop} {Q:Exit->Act->World->Prop}
variable {F σ:A8} {ι:Ch} {H:Hp} {xs ys:List AV} {sz:Nat} {e t t' ty:TypeId} {i:TypeInfo} {v:Value} {W:World}
structure Mq (P:Program) (w:World) (src:Value) (sz n:Nat) (Cs:List Value):Prop where
 len:∀d,(Builtin.lenOf src).run P {w with drawn:=d} = .ok n {w with drawn:=d}
 cells:∀d,(Builtin.firstCells sz n src).run P {w with drawn:=d} = .ok Cs.toArray {w with drawn:=d}
 size:Cs.length=n*sz
theorem Mr {i:TI} (h:Jf P t=some i) (B:i.d = .slice e):∃u,P.underlying t=some u/\u = .slice e:=by obtain⟨c,u,z,q,f,l,k,j,g,b⟩:=Fj h;rw[B]at b;exact⟨u,f,b⟩
theorem Ao9 {j:TypeDesc} (ht:P.underlying t=some (.slice e)) (u:P.underlying t'=some j) (k:(∃e',j = .slice e')\/j = .string) (hi:P.info? e=some i) (b:Addr) (c f n:Nat) (g:Value) (Cs:List Value) (q:Mq P w g i.size n Cs) (h:c+n<=f) (l:(storeCells (b.add (c*i.size)) Cs).run P w = .ok () w') : (Builtin.append_ #[t,t'] ty #[.slice (some b) c f,g]).run P w = .ok (.slice (some b) (c+n) f) w':=by have B:=q.len w.drawn;have C:=q.cells w.drawn;have s:({w with drawn:=w.drawn}:World)=w:=rfl;rw[s]at B C;rcases k with⟨e',rfl⟩|rfl <;> simp[Builtin.append_,run_underlying ht,run_underlying u,sizeOf,typeInfo,hi,B,h,C,l]
theorem A07 {c:TypeDesc} (ht:P.underlying t=some (.slice e)) (u:P.underlying t'=some c) (f:(∃e',c = .slice e')\/c = .string) (hi:P.info? e=some i) (b:Value) (g:Mq P w b i.size 0 []) : (Builtin.append_ #[t,t'] ty #[.slice none 0 0,b]).run P w = .ok (.slice none 0 0) w:=by have B:=g.len w.drawn;have C:=g.cells w.drawn;have h:({w with drawn:=w.drawn}:World)=w:=rfl;rw[h]at B C;rcases f with⟨e',rfl⟩|rfl <;> simp[Builtin.append_,run_underlying ht,run_underlying u,sizeOf,typeInfo,hi,B,C]
theorem Ajm {k:TypeDesc} {z:Value} (ht:P.underlying t=some (.slice e)) (B:P.underlying t'=some k) (l:(∃e',k = .slice e')\/k = .string) (hi:P.info? e=some i) (I:i.zero=some z) (p:Option Addr) (b c n:Nat) (g:Value) (f Cs:List Value) (q:Mq P w g i.size n Cs) (s:Mq P w (.slice p b c) i.size b f) (hg:c<b+n) (x:b+n<=9223372036854775807) (hb:(b+n)*i.bytes<=140737488355328) : (Builtin.append_ #[t,t'] ty #[.slice p b c,g]).run P w =
   .ok (.slice (some ⟨w.heap.size,0,none⟩) (b+n) (grownCap w (b+n) c e)) (w.drew.alloc (.cells ((f++Cs).toArray++Builtin.zeroCells z.cells (grownCap w (b+n) c e-(b+n))) e)):=by
 have C:=q.len w.drawn;have D:=q.cells (w.drawn+1);have G:=s.cells (w.drawn+1);have A:({w with drawn:=w.drawn}:World)=w:=rfl;have y:({w with drawn:=w.drawn+1}:World)=w.drew:=rfl;rw[A]at C;rw[y]at D G;have u:¬(b+n<=c):=ω;have h:¬(9223372036854775807<((b:Int)+(n:Int))):=ω;have j:¬(281474976710656<Builtin.nextslicecap (b+n) c*i.bytes):=by have:=growslice_fits hg hb;omega
 rcases l with⟨e',rfl⟩|rfl <;> simp[Builtin.append_,run_underlying ht,run_underlying B,sizeOf,typeInfo,zeroValue,hi,I,C,u,h,j,Question.forced,D,G,newRow,grownCap] <;>
 (congr 2;apply Array.ext';simp[append_assoc])
theorem Ad6 (w:World) (b c:Nat) (e:TypeId):b<=grownCap w b c e:=by unfold grownCap;show b<=b+_;omega
theorem Ad7 (s:St σ ι H F W w) (J:0<sz) (L:CC σ (.sl sz ys) v) : ∃(Cs:List Value) (g:Nat->Nat->Value),Mq P w v sz ys.length Cs/\(∀(i:Nat) (x:AV),ys[i]? = some x->x.cells.length=sz) /\ (∀(i:Nat) (x:AV) (j:Nat) (c:AV),ys[i]? = some x->x.cells[j]? = some c->CC σ c (g i j)/\Fm (g i j)=true)/\(∀(i j:Nat),i<ys.length->j<sz->Cs[i*sz+j]? = some (g i j)):=by
 rcases L.sl_inv with⟨rfl,p,I,rfl⟩|⟨b,off,I,C,E,M,g,rfl,y,z,l,A,G,u⟩
 .refine⟨[],λ_ _=>undef,⟨λd=>by simp[Builtin.lenOf],λd=>?_,ψ⟩,ψ,ψ,ψ⟩;cases p with| none=>simp[Builtin.firstCells]| some a=>simp[Builtin.firstCells,loadCells,loadCellsFrom]
 .refine⟨(range (ys.length*sz)).map λq=>g (q / sz) (q % sz),g,⟨λd=>by simp[Builtin.lenOf],λd=>?_,ψ⟩,z,l,λi j hi K=>?_⟩
  .have N:({w with drawn:=d}:World).heap[b]? = some (.cells C E M):=s.sto _ _ y;have:=run_loadCells (P:=P) {w with drawn:=d} ⟨b,off,none⟩ (ys.length*sz) (λq=>g (q / sz) (q % sz)) (by intro q R;rw[L6,K8 N];have h:q / sz<ys.length:=Nat.div_lt_of_lt_mul (by rwa [Nat.mul_comm]at R);have f:q % sz<sz:=Nat.mod_lt _ J;have:=A (q / sz) (q % sz) h f;rw[<-this];congr 1;have:=Nat.div_add_mod q sz;rw[Nat.mul_comm]at this;omega);simp only[Builtin.firstCells];exact this
  .have k:i*sz+j<ys.length*sz:=(by have:(i+1)*sz<=ys.length*sz:=Nat.mul_le_mul_right _ ω;rw[E8]at this;omega);rw[getElem?_map,getElem?_range k];have D:(i*sz+j) / sz=i:=(by rw[Nat.mul_comm,Nat.mul_add_div J,Nat.div_eq_of_lt K];omega);have B:(i*sz+j) % sz=j:=(by rw[Nat.mul_comm,Nat.mul_add_mod,Nat.mod_eq_of_lt K]);simp[D,B]
theorem Je.append {C q:Array Value} (hx:Je σ sz xs C) (f:Nat->Nat->Value) (h1:∀(i:Nat) (x:AV),ys[i]? = some x->x.cells.length=sz) (h2:∀(i:Nat) (x:AV) (j:Nat) (c:AV),ys[i]? = some x->x.cells[j]? = some c->CC σ c (f i j)/\Fm (f i j)=true) (l:∀k:Nat,k<xs.length*sz->q[k]? = C[k]?) (h:∀(i j:Nat),i<ys.length->j<sz->q[(xs.length+i)*sz+j]? = some (f i j)):Je σ sz (xs++ys) q:=by
 obtain⟨g,y,u,s⟩:=hx;refine⟨λi j=>if i<xs.length then g i j else f (i-xs.length) j,?_,?_,?_⟩
 .intro i x hi;by_cases b:i<xs.length
  .rw[getElem?_append_left b]at hi;exact y i x hi
  .rw[getElem?_append_right ω]at hi;exact h1 _ x hi
 .intro i x j c hi B;by_cases b:i<xs.length
  .rw[getElem?_append_left b]at hi;simp only[if_pos b];exact u i x j c hi B
  .rw[getElem?_append_right ω]at hi;simp only[if_neg b];exact h2 _ x j c hi B
 .intro i j hi B;by_cases b:i<xs.length
  .simp only[if_pos b];rw[l _ (by have:(i+1)*sz<=xs.length*sz:=Nat.mul_le_mul_right _ ω;rw[E8]at this;omega)];exact s i j b B
  .simp only[if_neg b];have:=h (i-xs.length) j (by simp at hi;omega) B;rwa [show xs.length+(i-xs.length)=i by omega]at this
theorem Ad8 (s:St σ ι H F W w) {i:TI} {u':TypeDesc} (ht:P.underlying t=some (.slice e)) (a2:P.underlying t'=some u') (L:(∃e',u' = .slice e')\/u' = .string) (he:Jf P e=some i) (hz:0<i.size) (a7:i.zero.length=i.size) {h:Nat} (hh:H h = .rows e i.size xs) {q:Value} (hv:H6 (ι h) i.size 0 xs.length v) (ad:1<=i.bytes) (hb:(xs.length+ys.length)*i.bytes<=140737488355328) {Cs:List Value} {g:Nat->Nat->Value} (B:Mq P w q i.size ys.length Cs) (h1:∀(i':Nat) (x:AV),ys[i']? = some x->x.cells.length=i.size) (h2:∀(i':Nat) (x:AV) (j:Nat) (c:AV),ys[i']? = some x->x.cells[j]? = some c->CC σ c (g i' j)/\Fm (g i' j)=true) (h3:∀(i' j:Nat),i' < ys.length->j<i.size->Cs[i' * i.size+j]? = some (g i' j)) (X:∀u∈Cs,Fm u=true) : ∃(ι':Ch) (v':Value) (w':World),(Builtin.append_ #[t,t'] ty #[v,q]).run P w = .ok v' w'/\Le σ ι H σ ι' (A3 H h (.rows e i.size (xs++ys)))/\St σ ι' (A3 H h (.rows e i.size (xs++ys))) F W w' /\ H6 (ι' h) i.size 0 (xs.length+ys.length) v':=by
 obtain⟨M,u,z,k1,k2,k3,N,k5,k6,k7⟩:=Fj he;have l:xs.length+ys.length<=140737488355328:=by have:(xs.length+ys.length)*1<=(xs.length+ys.length)*i.bytes:=Nat.mul_le_mul_left _ ad;omega
 have a8:z.cells.size=i.size:=by rw[<-a7,k6];simp
 have A:∀n,(Builtin.zeroCells z.cells n).size=n*i.size:=by intro n;simp[Builtin.zeroCells,a8]
 have E:=s.obj h;unfold C8 at E;rw[hh]at E;obtain⟨_,_,E⟩:=E;unfold H6 at hv;split at hv
 .rename_i Z;obtain⟨rfl,_,ab⟩:=hv;have aa:xs = []:=eq_nil_of_length_eq_zero ab;subst aa;by_cases hy:ys = []
  .subst hy;have U:Cs = []:=eq_nil_of_length_eq_zero (by rw[B.size];simp);subst U;refine⟨ι,.slice none 0 0,w,A07 ht a2 L k1 q (by rw[N];exact B),?_,?_,?_⟩
   .rw[append_nil,<-hh,Kd];exact Le.refl _ _ _
   .rw[append_nil,<-hh,Kd];exact s
   .rw[Z];exact⟨rfl,rfl,rfl⟩
  .have K:0<ys.length:=length_pos_iff.2 hy;have ho:Mq P w (.slice none 0 0) M.size 0 []:=⟨λd=>by simp[Builtin.lenOf],λd=>by simp[Builtin.firstCells],ψ⟩;have S:=Ajm (P:=P) (ty:=ty) (w:=w) ht a2 L k1 k3 none 0 0 ys.length q [] Cs (by rw[N];exact B) ho ω (by simp at l;omega) (by rw[k5];simpa using hb);rw[Nat.zero_add,nil_append]at S;have a0:=Ad6 w ys.length 0 e;obtain⟨s',le⟩:=(s.drew (w.drawn+1)).newRows h e i.size ([]++ys) (grownCap w ys.length 0 e) (Cs.toArray++Builtin.zeroCells z.cells (grownCap w ys.length 0 e-ys.length)) (.inr ⟨e,i.size,[],hh,by simpa using K⟩) hz (by simpa using l) (by simpa using a0) (by rw[Array.size_append,A];simp[B.size,<-E8];rw[Nat.add_sub_cancel' a0]) ⟨g,(by simpa using h1),(by simpa using h2),(by intro i' j hi hj;simp only[nil_append]at hi;have G:i' * i.size+j<Cs.length:=(by have:(i' + 1)*i.size<=ys.length*i.size:=Nat.mul_le_mul_right _ ω;rw[E8]at this;rw[B.size];omega);rw[Array.getElem?_append_left (by simpa using G),getElem?_toArray];exact h3 i' j hi hj)⟩;refine⟨_,_,_,S,le,s',?_⟩;rw[Cn];simp only[length_nil,Nat.zero_add];exact⟨ω,by rw[Nat.zero_mul];rfl⟩
 .rename_i b f y;obtain⟨ac,rfl⟩:=hv;rcases E with⟨e1,_⟩|⟨b',ae,C,e1,p1,p2,p3,p4,p5,p6⟩
  .rw[y]at e1;cases e1
  rw[y]at e1;cases e1;by_cases J:xs.length+ys.length<=f
  .have R:xs.length*i.size+Cs.length<=C.size:=(by rw[B.size,<-E8,p4];exact Nat.mul_le_mul_right _ J);have V:=run_storeCells_at (P:=P) b (xs.length*i.size) e Cs 0 C w p3 (by simpa using R) (λu hu=>by rw[Aja];exact X u hu);simp only[Nat.add_zero]at V;have S:=Ao9 (P:=P) (ty:=ty) (w:=w) ht a2 L k1 ⟨b,0,none⟩ xs.length f ys.length q Cs (by rw[N];exact B) J (by rw[L6,Nat.zero_add,N];exact V);have D:Je σ i.size (xs++ys) (C.toList.take (xs.length*i.size)++Cs++C.toList.drop (xs.length*i.size+Cs.length)).toArray:=by
    refine Je.append p6 g h1 h2 ?_ ?_
    .intro k hk;rw[Wc _ _ _ R,if_pos hk]
    .intro i' j hi hj;have G:i' * i.size+j<Cs.length:=(by have:(i' + 1)*i.size<=ys.length*i.size:=Nat.mul_le_mul_right _ ω;rw[E8]at this;rw[B.size];omega);have e2:(xs.length+i')*i.size+j=xs.length*i.size+(i' * i.size+j):=(by rw[E8];omega);rw[Wc _ _ _ R,e2,if_neg ω,if_pos ω,Nat.add_sub_cancel_left];exact h3 i' j hi hj
   have a6:(C.toList.take (xs.length*i.size)++Cs++C.toList.drop (xs.length*i.size+Cs.length)).toArray.size=f*i.size:=ζ;by_cases hy:ys = []
   .subst hy;obtain⟨s',le⟩:=s.setRows h e i.size xs (xs++[]) hh b f y ψ _ a6 D;refine⟨ι,_,_,by simpa using S,le,s',?_⟩;rw[y];exact⟨by simpa using ac,ψ⟩
   .have K:0<ys.length:=length_pos_iff.2 hy;obtain⟨s',le⟩:=s.growIn h e i.size xs (xs++ys) hh b f y ζ (by simpa using l) (by simpa using J) _ a6 D;refine⟨ι,_,_,by simpa using S,le,s',?_⟩;rw[y];exact⟨ω,ψ⟩
  .have Y:Mq P w (.slice (some ⟨b,0*i.size,none⟩) xs.length (f-0)) M.size xs.length (C.toList.take (xs.length*i.size)):=by
    refine⟨λd=>by simp[Builtin.lenOf],λd=>?_,?_⟩
    .have a3:({w with drawn:=d}:World).heap[b]? = some (.cells C e (0,0)):=p3;have I:(C.toList.take (xs.length*i.size)).length=xs.length*i.size:=(by have:C.toList.length=f*i.size:=(by rw[Array.length_toList,p4]);rw[length_take,this];exact Nat.min_eq_left (Nat.mul_le_mul_right _ p5));have:=run_loadCells_list (P:=P) {w with drawn:=d} ⟨b,0,none⟩ (C.toList.take (xs.length*i.size)) (by intro j u hj;have G:j<xs.length*i.size:=(by have:=(Ha.1 hj).1;omega);rw[Il G,Hj]at hj;rw[L6,Nat.zero_add,K8 a3];exact hj);rw[I]at this;simp only[Builtin.firstCells,Nat.zero_mul,N];exact this
    .have:C.toList.length=f*i.size:=(by rw[Array.length_toList,p4]);rw[N,length_take,this];exact Nat.min_eq_left (Nat.mul_le_mul_right _ p5)
   have S:=Ajm (P:=P) (ty:=ty) (w:=w) ht a2 L k1 k3 (some ⟨b,0*i.size,none⟩) xs.length (f-0) ys.length q _ Cs (by rw[N];exact B) Y ω ω (by rw[k5];exact hb);have a0:=Ad6 w (xs.length+ys.length) (f-0) e;have I:(C.toList.take (xs.length*i.size)).length=xs.length*i.size:=(by have:C.toList.length=f*i.size:=(by rw[Array.length_toList,p4]);rw[length_take,this];exact Nat.min_eq_left (Nat.mul_le_mul_right _ p5));have K:0<ys.length:=ω;have a1:(C.toList.take (xs.length*i.size)++Cs).length=(xs.length+ys.length)*i.size:=(by rw[length_append,I,B.size,E8]);obtain⟨s',le⟩:=(s.drew (w.drawn+1)).newRows h e i.size (xs++ys) (grownCap w (xs.length+ys.length) (f-0) e) ((C.toList.take (xs.length*i.size)++Cs).toArray++Builtin.zeroCells z.cells (grownCap w (xs.length+ys.length) (f-0) e-(xs.length+ys.length))) (.inr ⟨e,i.size,xs,hh,ζ⟩) hz (by simpa using l) (by simpa using a0) (by rw[Array.size_append,A,size_toArray,a1,<-E8,Nat.add_sub_cancel' a0]) (by
     refine Je.append p6 g h1 h2 ?_ ?_
     .intro k hk;rw[Array.getElem?_append_left (by rw[size_toArray,a1,E8];omega),getElem?_toArray,getElem?_append_left ω,Il hk,Hj]
     .intro i' j hi hj;have G:i' * i.size+j<Cs.length:=(by have:(i' + 1)*i.size<=ys.length*i.size:=Nat.mul_le_mul_right _ ω;rw[E8]at this;rw[B.size];omega);have e2:(xs.length+i')*i.size+j=xs.length*i.size+(i' * i.size+j):=(by rw[E8];omega);rw[Array.getElem?_append_left (by rw[size_toArray,length_append,I];omega),getElem?_toArray,e2,getElem?_append_right ω,I,Nat.add_sub_cancel_left];exact h3 i' j hi hj);refine⟨_,_,_,S,le,s',?_⟩;rw[Cn];exact⟨ω,by rw[Nat.zero_mul];rfl⟩
 .exact hv.elim
end
section
variable {P:Program} {o:Oper} {ρ:Operand->AV} {a:Act} {w w':World} {next:Act->World->Prop} {Q:Exit->Act->World->Prop}
variable {σ:A8} {T:Dq} {m n:Int} {k:IntKind} {xs ys:List AV} {h sz:Nat} {x y:Operand} {A i i':TI} {e e' t t':TypeId}
theorem Ad9 {n:Nat} {Cs:List Value} {g:Nat->Nat->Value} (D:0<sz) (k:Cs.length=n*sz) (i:ys.length=n) (G:∀(i':Nat) (x:AV),ys[i']? = some x->x.cells.length=sz) (I:∀(i':Nat) (x:AV) (j:Nat) (c:AV),ys[i']? = some x->x.cells[j]? = some c->CC σ c (g i' j)/\Fm (g i' j)=true) (J:∀(i' j:Nat),i' < ys.length->j<sz->Cs[i' * sz+j]? = some (g i' j)) : ∀u∈Cs,Fm u=true:=by
 intro u K;obtain⟨q,B⟩:=getElem?_of_mem K;have h:=(Ha.1 B).1;have f:q / sz<ys.length:=by rw[i];exact Nat.div_lt_of_lt_mul (by rw[k,Nat.mul_comm]at h;exact h)
 have b:q % sz<sz:=Nat.mod_lt _ D;have e:=J (q / sz) (q % sz) f b;rw[show q / sz*sz+q % sz=q by have:=Nat.div_add_mod q sz;rw[Nat.mul_comm]at this;omega,B]at e;cases e;have C:=getElem?_eq_getElem f;have L:(q % sz)<(ys[q / sz]).cells.length:=by rw[G _ _ C];exact b
 exact (I _ _ _ _ C (getElem?_eq_getElem L)).2
theorem Wd {ty:TypeId} (g:o.op = .call {callee:=.builtin .append,args:=#[x,y],argTypes:=#[t,t']}) (b:o.type=ty) {c:Value} (f:(Builtin.append_ #[t,t'] ty #[a.eval x,a.eval y]).run P w = .ok c w') : (execOp a.eval o).run P w = .ok (.value c) w':=by subst b;simp[execOp,g,resolve,invoke,builtin,f]
theorem Apa (N:Ds P T) {B:TI} {k:Nat} (J:o.op = .call {callee:=.builtin .append,args:=#[x,y],argTypes:=#[t,t']}) (ht:T t=some i) (hd:i.d = .slice e) (C:T t'=some B) (L:B.d = .slice e') (V:T e=some i') (K:0<i'.size) (D:i'.zero.length=i'.size) (M:1<=i'.bytes) (hx:ρ x = .arr h k 0 k) (c:xs.length=k) (hy:ρ y = .sl i'.size ys) (hb:(xs.length+ys.length)*i'.bytes<=140737488355328) : Cp P o ρ ⟨.arr h (k+ys.length) 0 (k+ys.length),[(h,.rows e i'.size xs)],[(h,.rows e i'.size (xs++ys))]⟩:=by
 intro σ ι H F W w a next Q s l I hk
 have hh:H h = .rows e i'.size xs:=I (h,.rows e i'.size xs) ψ;have j:=l x (by simp[J,Op.operands,Call.operands]);have f:=l y (by simp[J,Op.operands,Call.operands]);rw[hx]at j;rw[hy]at f;have hv:=j.arr_inv hh c;rw[<-c]at hv;obtain⟨u1,G,Y⟩:=Mr (N t i ht) hd;obtain⟨u2,E,X⟩:=Mr (N t' B C) L;subst Y;subst X;obtain⟨Cs,g,R,h1,h2,h3⟩:=Ad7 (P:=P) s K f.sl_inv;obtain⟨S,z,w',U,le,s',b⟩:=Ad8 (P:=P) (ty:=o.type) s G E (.inl ⟨_,rfl⟩) (N e i' V) K D hh hv M hb R h1 h2 h3 (Ad9 K R.size rfl h1 h2 h3);refine G6 (Wd J rfl U) (hk σ S z w' le s' ?_);have q:Fm z=true:=by
  unfold H6 at b;split at b
  .rw[b.1];rfl
  .rw[b.2];rfl
  .exact b.elim
 refine .arr _ _ _ _ z (by show A3 H h _ h≠_;rw[Cn];intro e;cases e) (λZ A u e'=>?_) q;have e':A3 H h _ h = .rows Z A u:=e';rw[Cn]at e';cases e';refine⟨by rw[length_append];omega,λ_=>?_⟩;rw[c]at b;exact b
def Ks (s:ByteArray):List AV:=s.data.toList.map λb=>.val (.int .u8 b.toNat)
theorem A08 (s:ByteArray):(Ks s).length=s.size:=by unfold Ks;rw[length_map,Array.length_toList];rfl
theorem A09 (s:ByteArray):∃(Cs:List Value) (g:Nat->Nat->Value),Mq P w (.string s) 1 (Ks s).length Cs/\(∀(i:Nat) (x:AV),(Ks s)[i]? = some x->x.cells.length=1) /\ (∀(σ:A8) (i:Nat) (x:AV) (j:Nat) (c:AV),(Ks s)[i]? = some x->x.cells[j]? = some c->CC σ c (g i j)/\Fm (g i j)=true)/\∀(i j:Nat),i<(Ks s).length->j<1->Cs[i*1+j]? = some (g i j):=by
 have f:=A08 s;refine⟨Lib.strCells s,λi _=>.int .u8 ((s.data.toList.getD i 0).toNat),⟨λd=>?_,λd=>?_,?_⟩,?_,?_,?_⟩
 .rw[f];simp[Builtin.lenOf]
 .rw[f];exact Lib.run_firstCells_string _ 1 s
 .rw[f,Lib.strCells_length];omega
 .intro i x u;simp only[Ks,getElem?_map,Option.map_eq_some_iff]at u;obtain⟨b,_,rfl⟩:=u;rfl
 .intro σ i x j c u B;simp only[Ks,getElem?_map,Option.map_eq_some_iff]at u;obtain⟨b,D,rfl⟩:=u;simp only[AV.cells]at B;cases j with
  | zero=>simp at B;subst B;have e:s.data.toList.getD i 0=b:=(by rw[getD_eq_getElem?_getD,D];rfl);dsimp only;rw[e];exact⟨.val _,rfl⟩
  | succ j=>simp at B
 .intro i j hi C;have C:j=0:=ω;subst C;have hi:i<s.data.toList.length:=(by unfold Ks at hi;rwa [length_map]at hi);have e:s.data.toList.getD i 0=s.data.toList[i]:=(by rw[getD_eq_getElem?_getD,getElem?_eq_getElem hi];rfl);dsimp only;rw[e];unfold Lib.strCells;rw[Nat.mul_one,Nat.add_zero,getElem?_map,getElem?_eq_getElem hi];rfl
theorem A1a (R:Ds P T) {k:Nat} {s:ByteArray} (L:o.op = .call {callee:=.builtin .append,args:=#[x,y],argTypes:=#[t,t']}) (ht:T t=some i) (hd:i.d = .slice e) (C:T t'=some A) (M:A.d = .string) (Y:T e=some i') (hz:i'.size=1) (B:i'.zero.length=i'.size) (N:1<=i'.bytes) (hx:ρ x = .arr h k 0 k) (c:xs.length=k) (hy:ρ y = .val (.string s)) (hb:(xs.length+(Ks s).length)*i'.bytes<=140737488355328) : Cp P o ρ ⟨.arr h (k+(Ks s).length) 0 (k+(Ks s).length),[(h,.rows e i'.size xs)],[(h,.rows e i'.size (xs++Ks s))]⟩:=by
 intro σ ι H F W w a next Q V j J hk
 have hh:H h = .rows e i'.size xs:=J (h,.rows e i'.size xs) ψ;have f:=j x (by simp[L,Op.operands,Call.operands]);have D:=Ea hy (j y (by simp[L,Op.operands,Call.operands]));rw[hx]at f;have hv:=f.arr_inv hh c;rw[<-c]at hv;obtain⟨u1,G,Z⟩:=Mr (R t i ht) hd;obtain⟨_,u2,_,_,E,_,_,_,_,S⟩:=Fj (R t' A C);rw[M]at S;subst Z;subst S;obtain⟨Cs,g,I,K,h2,h3⟩:=A09 (P:=P) (w:=w) s;rw[<-hz]at I K h3;obtain⟨U,u,w',X,le,s',b⟩:=Ad8 (P:=P) (ty:=o.type) V G E (.inr rfl) (R e i' Y) ω B hh hv N hb I K (h2 σ) h3 (Ad9 ω I.size rfl K (h2 σ) h3);refine G6 (Wd L rfl (by rw[D];exact X)) (hk σ U u w' le s' ?_);have l:Fm u=true:=by
  unfold H6 at b;split at b
  .rw[b.1];rfl
  .rw[b.2];rfl
  .exact b.elim
 refine .arr _ _ _ _ u (by show A3 H h _ h≠_;rw[Cn];intro e;cases e) (λE' z q e'=>?_) l;have e':A3 H h _ h = .rows E' z q:=e';rw[Cn]at e';cases e';refine⟨by rw[length_append];omega,λ_=>?_⟩;rw[c]at b;exact b
theorem A1b (N:Ds P T) (h:Nat) (J:o.op = .call {callee:=.builtin .append,args:=#[x,y],argTypes:=#[t,t']}) (ht:T t=some i) (hd:i.d = .slice e) (K:T t'=some A) (L:A.d = .slice e') (X:T e=some i') (C:0<i'.size) (B:i'.zero.length=i'.size) (M:1<=i'.bytes) (hx:ρ x = .val (.slice none 0 0)) (hy:ρ y = .sl i'.size ys) (hb:ys.length*i'.bytes<=140737488355328) : Cp P o ρ ⟨.arr h ys.length 0 ys.length,[(h,.none)],[(h,.rows e i'.size ys)]⟩:=by
 intro σ ι H F W w a next Q s f G hk
 have V:H h = .none:=G (h,.none) ψ;have I:=Ea hx (f x (by simp[J,Op.operands,Call.operands]));have c:=f y (by simp[J,Op.operands,Call.operands]);rw[hy]at c;obtain⟨u1,E,Z⟩:=Mr (N t i ht) hd;obtain⟨u2,D,Y⟩:=Mr (N t' A K) L;subst Z;subst Y;obtain⟨s0,z⟩:=s.newNil h V e i'.size C;obtain⟨Cs,g,R,h1,h2,h3⟩:=Ad7 (P:=P) s0 C c.sl_inv;obtain⟨S,q,w',U,le,s',b⟩:=Ad8 (P:=P) (ty:=o.type) (v:=.slice none 0 0) (xs:=[]) s0 E D (.inl ⟨_,rfl⟩) (N e i' X) C B (Cn _ _ _) (by rw[Cn];exact⟨rfl,rfl,rfl⟩) M (by simpa using hb) R h1 h2 h3 (Ad9 C R.size rfl h1 h2 h3);have hH:A3 (A3 H h (.rows e i'.size [])) h (.rows e i'.size ([]++ys))=A3 H h (.rows e i'.size ys):=by
  funext m;by_cases k:m=h
  .subst k;rw[Cn,Cn];rfl
  .rw[C2 _ _ k,C2 _ _ k,C2 _ _ k]
 rw[hH]at le s';simp only[length_nil,Nat.zero_add]at b;refine G6 (Wd J rfl (by rw[I];exact U)) (hk σ S q w' (z.trans le) s' ?_);have j:Fm q=true:=by
  unfold H6 at b;split at b
  .rw[b.1];rfl
  .rw[b.2];rfl
  .exact b.elim
 refine .arr _ _ _ _ q (by show A3 H h _ h≠_;rw[Cn];intro e;cases e) (λE' u l e'=>?_) j;have e':A3 H h _ h = .rows E' u l:=e';rw[Cn]at e';cases e';exact⟨Nat.le_refl _,λ_=>b⟩
theorem St.freeze {ι:Ch} {H:Hp} {F:A8} {W:World} (s:St σ ι H F W w) {E:TypeId} (hh:H h = .rows E sz xs) : ∃u,Le σ ι H u ι (A3 H h .dead)/\St u ι (A3 H h .dead) F W w /\ ∀off len v,off+len<=xs.length->H6 (ι h) sz off len v->CC u (.sl sz ((xs.drop off).take len)) v:=by
 have k:=s.obj h;unfold C8 at k;rw[hh]at k;obtain⟨hz,hm,k⟩:=k;have f:∀u,σ.le u->Le σ ι H u ι (A3 H h .dead):=by intro u V;have:=Le.upd (ι:=ι) (H:=H) V h (ι h) .dead ⟨λ_ e=>e,(λ_ e=>by cases e),(λ_ E1 L J e=>by cases e)⟩;rwa [Kd]at this
 rcases k with⟨B,Y⟩|⟨b,D,C,B,U,S,R,p4,p5,g,N,G,M⟩
 .subst Y;refine⟨σ,f σ (A8.le_refl _),?_,?_⟩
  .obtain⟨f1,f2⟩:=s.fresh;exact s.touch h w.heap.size (λ_ _=>rfl) (λx e=>C2 _ _ e) (f σ (A8.le_refl _)) (λ_ _=>rfl) (λ_ _=>rfl) (λo z=>by rw[f1]at z;cases z) (λx e i hb=>by have:=(s.block i hb).1;omega) f2 (λb i hb=>by rw[Cn]at i;cases i) (by unfold C8;rw[Cn];trivial) rfl rfl rfl
  .intro off len v q hv;rw[B]at hv;obtain⟨rfl,rfl,rfl⟩:=hv;simp only[drop_nil,take_nil];exact .nil sz none 0
 .have q:σ.le (A3 σ b (some (.cells C E))):=(by intro Z o' K;rw[C2 _ _ (by intro e;subst e;rw[U]at K;cases K)];exact K);refine⟨A3 σ b (some (.cells C E)),f _ q,?_,?_⟩
  .refine s.touch h b (λ_ _=>rfl) (λx e=>C2 _ _ e) (f _ q) (λ_ _=>rfl) (λx e=>C2 _ _ e) (λo z=>by rw[Cn]at z;cases z;exact R)
    (λx e i hb=>e (s.inj x h b i (by rw[hh];rfl) hb (by rw[B];rfl))) S (λZ i hb=>by rw[Cn]at i;cases i) (by unfold C8;rw[Cn];trivial) rfl rfl rfl
  .intro off len v I hv;rw[B]at hv;obtain⟨_,rfl⟩:=hv;have i:((xs.drop off).take len).length=len:=ζ;have l:∀(n:Nat) (y:AV),((xs.drop off).take len)[n]? = some y->n<len/\xs[off+n]? = some y:=(by intro n y hy;have A:n<len:=(by have:=(Ha.1 hy).1;omega);rw[Il A,getElem?_drop]at hy;exact⟨A,hy⟩);have:=CC.sl (σ:=A3 σ b (some (.cells C E))) ((xs.drop off).take len) b (off*sz) (D-off) sz C E (0,0) (λn j=>g (off+n) j) (Cn _ _ _)
    (λn y hy=>N _ y (l n y hy).2) (λn y j c hy hj=>((G _ y j c (l n y hy).2 hj).1).mono q) (λn y j c hy hj=>(G _ y j c (l n y hy).2 hj).2) (λn j X hj=>by rw[i]at X;have:=M (off+n) j ω hj;rw[E8]at this;exact this) (by rw[i];omega) (by rw[i];omega);rw[i]at this;exact this
theorem A1c (y:Ds P T) (h:Nat) (l:o.op = .assign x) (B:ρ x = .val (.slice none 0 0)) (ht:T o.type=some i) (_hd:i.d = .slice e) (u:T e=some i') (C:0<i'.size) : Cp P o ρ ⟨.arr h 0 0 0,[(h,.none)],[(h,.rows e i'.size [])]⟩:=by
 intro σ ι H F W w a next Q s k g D
 have _:=y;have _:=ht;have _:=u
 have q:H h = .none:=g (h,.none) ψ;have j:=Ea B (k x (by simp[l,Op.operands]));obtain⟨G,f⟩:=s.newNil h q e i'.size C;refine G6 (v:=.slice none 0 0) (by simp[execOp,l,j]) (D σ _ _ w f G ?_);refine .arr _ _ _ _ _ (by show A3 H h _ h≠_;rw[Cn];intro e;cases e) (λz c b e'=>?_) rfl;have e':A3 H h _ h = .rows z c b:=e';rw[Cn]at e';cases e';exact⟨ψ,λ_=>by rw[Cn];exact⟨rfl,rfl,rfl⟩⟩
theorem A1d {f:IntKind} (c:o.op = .call {callee:=.builtin .max,args:=#[x,y],argTypes:=#[t,t']}) (u:ρ x = .val (.int k m)) (B:ρ y = .val (.int f n)) : Cp P o ρ ⟨.val (.int k (if n>m then n else m)),[],[]⟩ := Fo λσ ι H a w b=>by have C:=Ea u (b x (by simp[c,Op.operands,Call.operands]));have D:=Ea B (b y (by simp[c,Op.operands,Call.operands]));exact⟨_,by simp[execOp,c,resolve,invoke,builtin,Builtin.max_,Builtin.max2,C,D],.of_val _⟩
theorem A1e {f:IntKind} (c:o.op = .call {callee:=.builtin .min,args:=#[x,y],argTypes:=#[t,t']}) (u:ρ x = .val (.int k m)) (B:ρ y = .val (.int f n)) : Cp P o ρ ⟨.val (.int k (if n<m then n else m)),[],[]⟩ := Fo λσ ι H a w b=>by have C:=Ea u (b x (by simp[c,Op.operands,Call.operands]));have D:=Ea B (b y (by simp[c,Op.operands,Call.operands]));exact⟨_,by simp[execOp,c,resolve,invoke,builtin,Builtin.min_,Builtin.min2,C,D],.of_val _⟩
end
section
variable {P:Program} {o:Oper} {ρ:Operand->AV} {a:Act} {w w':World} {next:Act->World->Prop} {Q:Exit->Act->World->Prop}
variable {F σ:A8} {ι:Ch} {T:Dq} {H:Hp} {xs ys:List AV} {b d h k off sz:Nat} {g:Nat->Nat->Value} {x y:Operand} {i i':TI} {α:Type} {E e e' t t' ty:TypeId} {v:Value} {W:World}
def Gn (xs:List α) (d:Nat) (ys:List α):List α:=xs.take d++ys++xs.drop (d+ys.length)
theorem Apb {xs ys:List α} (C:d<=xs.length) (i:Nat):(Gn xs d ys)[i]? = if i<d then xs[i]? else if i<d+ys.length then ys[i-d]? else xs[i]?:=by
 unfold Gn;have b:(xs.take d).length=d:=by rw[length_take];omega
 rw[append_assoc];by_cases u:i<d
 .rw[if_pos u,getElem?_append_left ω,Il u]
 .rw[if_neg u,getElem?_append_right ω,b];by_cases B:i<d+ys.length
  .rw[if_pos B,getElem?_append_left ω]
  .rw[if_neg B,getElem?_append_right ω,getElem?_drop];congr 1;omega
theorem Y5 {xs ys:List α} (u:d<=xs.length):(Gn xs d ys).length=max xs.length (d+ys.length):=by unfold Gn;simp only[length_append,length_take,length_drop];omega
structure Tt (σ:A8) (sz:Nat) (ys:List AV) (Cs:List Value) (g:Nat->Nat->Value):Prop where
 len:Cs.length=ys.length*sz
 el:∀(i:Nat) (x:AV),ys[i]? = some x->x.cells.length=sz
 cc:∀(i:Nat) (x:AV) (j:Nat) (c:AV),ys[i]? = some x->x.cells[j]? = some c->CC σ c (g i j)/\Fm (g i j)=true
 at_:∀(i j:Nat),i<ys.length->j<sz->Cs[i*sz+j]? = some (g i j)
theorem Je.patch {C l:Array Value} {Cs:List Value} {z:Nat->Nat->Value} (hx:Je σ sz xs C) (hd:d<=xs.length) (f:Tt σ sz ys Cs z) (b:∀q:Nat,q<d*sz\/(d+ys.length)*sz<=q->l[q]? = C[q]?) (k:∀q,q<ys.length*sz->l[d*sz+q]? = Cs[q]?):Je σ sz (Gn xs d ys) l:=by
 obtain⟨g,y,u,s⟩:=hx
 refine⟨λi j=>if i<d then g i j else if i<d+ys.length then z (i-d) j else g i j,?_,?_,?_⟩
 .intro i x hi
  rw[Apb hd]at hi
  split at hi
  .exact y i x hi
  .split at hi
   .exact f.el _ x hi
   .exact y i x hi
 .intro i x j c hi B
  rw[Apb hd]at hi
  dsimp only
  split at hi
  .rename_i h;rw[if_pos h];exact u i x j c hi B
  .rename_i h
   rw[if_neg h]
   split at hi
   .rename_i h2;rw[if_pos h2];exact f.cc _ x j c hi B
   .rename_i h2;rw[if_neg h2];exact u i x j c hi B
 .intro i j hi B
  rw[Y5 hd]at hi
  dsimp only
  by_cases h:i<d
  .rw[if_pos h]
   have:(i+1)*sz<=d*sz:=Nat.mul_le_mul_right _ ω
   rw[E8]at this
   rw[b _ (.inl ω)];exact s i j ω B
  .rw[if_neg h]
   by_cases h2:i<d+ys.length
   .rw[if_pos h2]
    have e:i*sz+j=d*sz+((i-d)*sz+j):=by
     have:i=d+(i-d):=ω
     conv=>lhs;rw[this,E8]
     omega
    have:(i-d+1)*sz<=ys.length*sz:=Nat.mul_le_mul_right _ ω
    rw[E8]at this
    rw[e,k _ ω]
    exact f.at_ _ j ω B
   .rw[if_neg h2]
    have:(d+ys.length)*sz<=i*sz:=Nat.mul_le_mul_right _ ω
    rw[b _ (.inr ω)];exact s i j ω B
theorem Tt.one (hz:0<sz) {Cs:List Value} (h:Tt σ sz ys Cs g):∀u∈Cs,Fm u=true:=Ad9 hz h.len rfl h.el h.cc h.at_
theorem Apc (s:St σ ι H F W w) (hh:H h = .rows e sz xs) {c:Nat} (hb:ι h = .blk b c) (L:d<=xs.length) (x:d+ys.length<=c) (G:d+ys.length<=140737488355328) (M:0<sz) {Cs:List Value} (l:Tt σ sz ys Cs g) : ∃w',(storeCells (⟨b,d*sz,none⟩:Addr) Cs).run P w = .ok () w'/\Le σ ι H σ ι (A3 H h (.rows e sz (Gn xs d ys)))/\St σ ι (A3 H h (.rows e sz (Gn xs d ys))) F W w':=by
 obtain⟨C,D,B,E,A⟩:=s.rowsAt hh hb;have z:xs.length<=140737488355328:=by have:=s.obj h;unfold C8 at this;rw[hh]at this;exact this.2.1
 have j:d*sz+Cs.length<=C.size:=by rw[l.len,<-E8,B];exact Nat.mul_le_mul_right _ x
 have k:=run_storeCells_at (P:=P) b (d*sz) e Cs 0 C w D (by simpa using j) (λu N=>by rw[Aja];exact l.one M u N);simp only[Nat.add_zero]at k;have f:Je σ sz (Gn xs d ys) (C.toList.take (d*sz)++Cs++C.toList.drop (d*sz+Cs.length)).toArray:=by
  refine Je.patch A L l ?_ ?_
  .intro q J;rw[Wc _ _ _ j];rcases J with J|J
   .rw[if_pos J]
   .rw[E8]at J;rw[if_neg ω,if_neg (by rw[l.len];omega)]
  .intro q J;rw[Wc _ _ _ j,if_neg ω,if_pos (by rw[l.len];omega),Nat.add_sub_cancel_left]
 have y:(C.toList.take (d*sz)++Cs++C.toList.drop (d*sz+Cs.length)).toArray.size=c*sz:=by simp;omega
 have i:=Y5 (ys:=ys) L;by_cases I:d+ys.length<=xs.length
 .obtain⟨K,le⟩:=s.setRows h e sz xs (Gn xs d ys) hh b c hb (by rw[i];omega) _ y f;exact⟨_,k,le,K⟩
 .obtain⟨K,le⟩:=s.growIn h e sz xs (Gn xs d ys) hh b c hb (by rw[i];omega) (by rw[i];omega) (by rw[i];omega) _ y f;exact⟨_,k,le,K⟩
theorem A1f (s:St σ ι H F W w) (hh:H h = .rows e sz xs) {len:Nat} (N:H6 (ι h) sz off len v) (L:off+len<=xs.length) (n:Nat) (J:n<=len) : ∃(Cs:List Value) (g:Nat->Nat->Value),(∃p c,v = .slice p len c)/\(∀d,(Builtin.firstCells sz n v).run P {w with drawn:=d} = .ok Cs.toArray {w with drawn:=d})/\Tt σ sz ((xs.drop off).take n) Cs g:=by
 have l:((xs.drop off).take n).length=n:=by simp;omega
 unfold H6 at N;split at N
 .obtain⟨rfl,rfl,rfl⟩:=N;obtain rfl:n=0:=ω;refine⟨[],λ_ _=>undef,⟨none,0,rfl⟩,λd=>by simp[Builtin.firstCells],⟨ψ,(λi x h=>by simp at h),(λi x j c h=>by simp at h),(λi j h=>by simp at h)⟩⟩
 .rename_i b y U;obtain⟨G,rfl⟩:=N;obtain⟨C,E,D,I,g,B,A,z⟩:=s.rowsAt hh U;have k:((C.toList.drop (off*sz)).take (n*sz)).length=n*sz:=(by have R:(off+n)*sz<=y*sz:=Nat.mul_le_mul_right _ ω;rw[E8]at R;rw[length_take,length_drop,Array.length_toList,D];omega);have q:∀(i:Nat) (x:AV),((xs.drop off).take n)[i]? = some x->i<n/\xs[off+i]? = some x:=(by intro i x K;have f:i<n:=(by have:=(Ha.1 K).1;omega);rw[Il f,getElem?_drop]at K;exact⟨f,K⟩);refine⟨(C.toList.drop (off*sz)).take (n*sz),λi j=>g (off+i) j,⟨_,_,rfl⟩,λd=>?_,⟨by rw[k,l],?_,?_,?_⟩⟩
  .have S:({w with drawn:=d}:World).heap[b]? = some (.cells C e (0,0)):=E;have:=run_loadCells_list (P:=P) {w with drawn:=d} ⟨b,off*sz,none⟩ ((C.toList.drop (off*sz)).take (n*sz)) (by intro j u M;have f:j<n*sz:=(by have:=(Ha.1 M).1;omega);rw[Il f,getElem?_drop,Hj]at M;rw[L6,K8 S];exact M);rw[k]at this;simp only[Builtin.firstCells];exact this
  .intro i x K;exact B _ x (q i x K).2
  .intro i x j c K M;exact A _ x j c (q i x K).2 M
  .intro i j hi M;rw[l]at hi;have R:(i+1)*sz<=n*sz:=Nat.mul_le_mul_right _ ω;rw[E8]at R;rw[Il ω,getElem?_drop,Hj];have:=z (off+i) j ω M;rw[E8]at this;rw[<-this];congr 1;omega
 .exact N.elim
theorem Apd (s:St σ ι H F W w) {Z:TypeDesc} (ht:P.underlying t=some (.slice e)) (a0:P.underlying t'=some Z) (L:(∃e',Z = .slice e')\/Z = .string) (he:Jf P e=some i) (hz:0<i.size) (R:i.zero.length=i.size) (hh:H h = .rows e i.size xs) {len:Nat} (hl:len<=xs.length) {E:Value} (hv:H6 (ι h) i.size 0 len v) (X:1<=i.bytes) (hb:(xs.length+ys.length)*i.bytes<=140737488355328) {Cs:List Value} (hs:Mq P w E i.size ys.length Cs) (D:Tt σ i.size ys Cs g) : ∃(Y:Ch) (v':Value) (w':World),(Builtin.append_ #[t,t'] ty #[v,E]).run P w = .ok v' w'/\Le σ ι H σ Y (A3 H h (.rows e i.size (Gn xs len ys)))/\St σ Y (A3 H h (.rows e i.size (Gn xs len ys))) F W w' /\ H6 (Y h) i.size 0 (len+ys.length) v':=by
 obtain⟨N,u,z,k1,k2,k3,M,k5,k6,k7⟩:=Fj he;have a8:xs.length+ys.length<=140737488355328:=by have:(xs.length+ys.length)*1<=(xs.length+ys.length)*i.bytes:=Nat.mul_le_mul_left _ X;omega
 by_cases B:len=xs.length
 .subst B;have e0:Gn xs xs.length ys=xs++ys:=(by unfold Gn;rw[take_length,drop_eq_nil_of_le ω,append_nil]);rw[e0];exact Ad8 (P:=P) (ty:=ty) s ht a0 L he hz R hh hv X hb hs D.el D.cc D.at_ (D.one hz)
 have l:=s.obj h;unfold C8 at l;rw[hh]at l;obtain⟨_,_,l⟩:=l;rcases l with⟨_,e2⟩|⟨b,f,C,e1,p1,p2,p3,p4,p5,p6⟩
 .subst e2;simp only[length_nil,Nat.le_zero]at hl;exact (B (by rw[hl];rfl)).elim
 rw[e1]at hv;obtain⟨aa,rfl⟩:=hv;by_cases I:len+ys.length<=f
 .obtain⟨w',a6,le,s'⟩:=Apc (P:=P) s hh e1 hl I ω hz D;have hr:=Ao9 (P:=P) (ty:=ty) (w:=w) ht a0 L k1 ⟨b,0,none⟩ len f ys.length E Cs (by rw[M];exact hs) I (by rw[L6,Nat.zero_add,M];exact a6);refine⟨ι,_,_,by simpa using hr,le,s',?_⟩;rw[e1];exact⟨ω,ψ⟩
 .have A:(C.toList.take (len*i.size)).length=len*i.size:=(by have:C.toList.length=f*i.size:=(by rw[Array.length_toList,p4]);rw[length_take,this];exact Nat.min_eq_left (Nat.mul_le_mul_right _ ω));have S:Mq P w (.slice (some ⟨b,0*i.size,none⟩) len (f-0)) N.size len (C.toList.take (len*i.size)):=(by refine⟨λd=>by simp[Builtin.lenOf],λd=>?_,by rw[M];exact A⟩;have a3:({w with drawn:=d}:World).heap[b]? = some (.cells C e (0,0)):=p3;have:=run_loadCells_list (P:=P) {w with drawn:=d} ⟨b,0,none⟩ (C.toList.take (len*i.size)) (by intro j u K;have y:j<len*i.size:=(by have:=(Ha.1 K).1;omega);rw[Il y,Hj]at K;rw[L6,Nat.zero_add,K8 a3];exact K);rw[A]at this;simp only[Builtin.firstCells,Nat.zero_mul,M];exact this);have hr:=Ajm (P:=P) (ty:=ty) (w:=w) ht a0 L k1 k3 (some ⟨b,0*i.size,none⟩) len (f-0) ys.length E _ Cs (by rw[M];exact hs) S ω ω (by rw[k5];exact Nat.le_trans (Nat.mul_le_mul_right _ ω) hb);have a2:=Ad6 w (len+ys.length) (f-0) e;have a1:z.cells.size=i.size:=(by rw[<-R,k6];simp);have J:∀n,(Builtin.zeroCells z.cells n).size=n*i.size:=(by intro n;simp[Builtin.zeroCells,a1]);have U:(C.toList.take (len*i.size)++Cs).length=(len+ys.length)*i.size:=(by rw[length_append,A,D.len,E8]);have e0:Gn xs len ys=xs.take len++ys:=(by unfold Gn;rw[drop_eq_nil_of_le ω,append_nil]);have G:(xs.take len).length=len:=(by rw[length_take];omega);have a7:Je σ i.size (xs.take len) C:=(by obtain⟨g,r1,r2,r3⟩:=p6;have V:∀(q:Nat) (x:AV),(xs.take len)[q]? = some x->q<len/\xs[q]? = some x:=(by intro q x hx;have y:q<len:=(by have:=(Ha.1 hx).1;omega);rw[Il y]at hx;exact⟨y,hx⟩);exact⟨g,λq x hx=>r1 q x (V q x hx).2,λq x j c hx K=>r2 q x j c (V q x hx).2 K,λq j hq K=>r3 q j ω K⟩);obtain⟨s',le⟩:=(s.drew (w.drawn+1)).newRows h e i.size (xs.take len++ys) (grownCap w (len+ys.length) (f-0) e) ((C.toList.take (len*i.size)++Cs).toArray++Builtin.zeroCells z.cells (grownCap w (len+ys.length) (f-0) e-(len+ys.length))) (.inr ⟨e,i.size,xs,hh,ζ⟩) hz (by rw[length_append,G];omega) (by rw[length_append,G];exact a2) (by rw[Array.size_append,J,size_toArray,U,<-E8,Nat.add_sub_cancel' a2]) (by
    refine Je.append a7 g D.el D.cc ?_ ?_
    .intro k hk;rw[G]at hk;rw[Array.getElem?_append_left (by rw[size_toArray,U,E8];omega),getElem?_toArray,getElem?_append_left ω,Il hk,Hj]
    .intro i' j hi K;rw[G];have y:i' * i.size+j<Cs.length:=(by have:(i' + 1)*i.size<=ys.length*i.size:=Nat.mul_le_mul_right _ ω;rw[E8]at this;rw[D.len];omega);have e2:(len+i')*i.size+j=len*i.size+(i' * i.size+j):=(by rw[E8];omega);rw[Array.getElem?_append_left (by rw[size_toArray,length_append,A];omega),getElem?_toArray,e2,getElem?_append_right ω,A,Nat.add_sub_cancel_left];exact D.at_ i' j hi K);rw[e0];refine⟨_,_,_,hr,le,s',?_⟩;rw[Cn];exact⟨ω,by rw[Nat.zero_mul];rfl⟩
theorem Ape {len:Nat} (g:len<=xs.length) (u:H6 (ι h) sz 0 len v):Conc σ ι (A3 H h (.rows e sz xs)) (.arr h xs.length 0 len) v:=by
 have b:Fm v=true:=by
  unfold H6 at u;split at u
  .rw[u.1];rfl
  .rw[u.2];rfl
  .exact u.elim
 refine .arr _ _ _ _ v (by rw[Cn];intro e;cases e) (λi f c e'=>?_) b;rw[Cn]at e';cases e';exact⟨Nat.le_refl _,λ_=>u⟩
theorem A1g (I:Ds P T) {j:TI} {len:Nat} (B:o.op = .call {callee:=.builtin .append,args:=#[x,y],argTypes:=#[t,t']}) (ht:T t=some i) (hd:i.d = .slice e) (C:T t'=some j) (E:j.d = .slice e') (R:T e=some i') (K:0<i'.size) (l:i'.zero.length=i'.size) (G:1<=i'.bytes) (hx:ρ x = .arr h k 0 len) (D:xs.length=k) (Y:len<=k) (hy:ρ y = .sl i'.size ys) (hb:(xs.length+ys.length)*i'.bytes<=140737488355328) : Cp P o ρ ⟨.arr h (Gn xs len ys).length 0 (len+ys.length),[(h,.rows e i'.size xs)],[(h,.rows e i'.size (Gn xs len ys))]⟩:=by
 intro σ ι H F W w a next Q s f A hk
 have hh:H h = .rows e i'.size xs:=A (h,.rows e i'.size xs) ψ;have c:=f x (by simp[B,Op.operands,Call.operands]);have b:=f y (by simp[B,Op.operands,Call.operands]);rw[hx]at c;rw[hy]at b;have hv:=c.arr_inv hh D;obtain⟨X,z,U⟩:=Mr (I t i ht) hd;obtain⟨V,u,S⟩:=Mr (I t' j C) E;subst U;subst S;obtain⟨Cs,g,J,h1,h2,h3⟩:=Ad7 (P:=P) s K b.sl_inv;obtain⟨L,M,w',N,le,s',q⟩:=Apd (P:=P) (ty:=o.type) s z u (.inl ⟨_,rfl⟩) (I e i' R) K l hh ω hv G hb J ⟨J.size,h1,h2,h3⟩;exact G6 (Wd B rfl N) (hk σ L M w' le s' (Ape (by rw[Y5 ω];omega) q))
theorem A1h {i:TypeInfo} {k:TypeDesc} (ht:P.underlying t=some (.slice e)) (u:P.underlying t'=some k) (h:(∃e',k = .slice e')\/k = .string) (hi:P.info? e=some i) (p:Option Addr) (c f:Nat) (g:Value) (q:Mq P w g i.size 0 []) (j:c<=f) : (Builtin.append_ #[t,t'] ty #[.slice p c f,g]).run P w = .ok (.slice p c f) w:=by
 have B:=q.len w.drawn;have C:=q.cells w.drawn;have s:({w with drawn:=w.drawn}:World)=w:=rfl;rw[s]at B C;cases p with
 | none=>rcases h with⟨e',rfl⟩|rfl <;> simp[Builtin.append_,run_underlying ht,run_underlying u,sizeOf,typeInfo,hi,B,j,C]
 | some b=>have l:(storeCells (b.add (c*i.size)) []).run P w = .ok () w:=(by rw[storeCells];rfl);rcases h with⟨e',rfl⟩|rfl <;> simp[Builtin.append_,run_underlying ht,run_underlying u,sizeOf,typeInfo,hi,B,j,C,l]
theorem A1i (x:Cp P o ρ ⟨.arr h k 0 k,[(h,.rows E sz xs)],[(h,.rows E sz ys)]⟩) (C:ys.length=k):Cp P o ρ ⟨.sl sz ys,[(h,.rows E sz xs)],[(h,.dead)]⟩:=by
 intro σ ι H F W w a next Q s f c y
 refine x σ ι H F W w a next Q s f c ?_
 intro z l v w' le u D;have B:Cr H [(h,Bo.rows E sz ys)] h = .rows E sz ys:=Cn _ _ _;obtain⟨j,b,i,g⟩:=u.freeze B;have G:A3 (Cr H [(h,Bo.rows E sz ys)]) h .dead=Cr H [(h,.dead)]:=by
  funext q;by_cases e:q=h
  .subst e;rw[Cn];exact (Cn _ _ _).symm
  .rw[C2 _ _ e];show A3 H h _ q=A3 H h _ q;rw[C2 _ _ e,C2 _ _ e]
 rw[G]at b i;refine y j l v w' (le.trans b) i ?_;have:=g 0 k v ω (D.arr_inv B C);rw[drop_zero,take_of_length_le ω]at this;exact .cc this
theorem A1j (L:Ds P T) {u:TI} (D:o.op = .call {callee:=.builtin .append,args:=#[x,y],argTypes:=#[t,t']}) (ht:T t=some i) (hd:i.d = .slice e) (a0:T t'=some u) (J:u.d = .slice e') (Y:T e=some i') (hz:0<i'.size) (hx:ρ x = .sl sz xs) (hy:ρ y = .sl i'.size []) : Cp P o ρ ⟨.sl sz xs,[],[]⟩:=by
 intro σ ι H F W w a next Q s h X hk
 have c:=h x (by simp[D,Op.operands,Call.operands]);have f:=h y (by simp[D,Op.operands,Call.operands]);rw[hx]at c;rw[hy]at f;obtain⟨u1,A,e1⟩:=Mr (L t i ht) hd;obtain⟨u2,z,e2⟩:=Mr (L t' u a0) J;subst e1;subst e2;obtain⟨Cs,g,B,_,_,_⟩:=Ad7 (P:=P) s hz f.sl_inv;have G:Cs = []:=by have:=B.size;simp at this;exact this
 subst G;obtain⟨p,n,K,hv,I⟩:∃p n K,a.eval x = .slice p n K/\n<=K:=by
  rcases c.sl_inv.sl_inv with⟨rfl,p,K,hv⟩|⟨b,off,K,C,E,fr,g,hv,hσ,B,Z,hC,hl,j⟩
  .exact⟨_,_,_,hv,Nat.zero_le _⟩
  .exact⟨_,_,_,hv,j⟩
 obtain⟨q,u',z',l,V,U,k,S,R,N⟩:=Fj (L e i' Y);have M:=A1h (P:=P) (w:=w) (ty:=o.type) A z (.inl ⟨_,rfl⟩) l p n K (a.eval y) (by rw[k];exact B) I;rw[<-hv]at M;exact G6 (Wd D rfl M) (hk σ ι _ w (Le.refl _ _ _) s c)
theorem A1k (U:Ds P T) {A:TI} {len V f:Nat} (L:o.op = .call {callee:=.builtin .append,args:=#[x,y],argTypes:=#[t,t']}) (ht:T t=some i) (hd:i.d = .slice e) (K:T t'=some A) (R:A.d = .slice e') (he:T e=some i') (hz:0<i'.size) (B:i'.zero.length=i'.size) (S:1<=i'.bytes) (hx:ρ x = .arr h k 0 len) (N:xs.length=k) (hl:len<=k) (hy:ρ y = .arr h V f b) (M:xs.length=V) (a1:f+b<=k) (hb:(xs.length+b)*i'.bytes<=140737488355328) : Cp P o ρ ⟨.arr h (Gn xs len ((xs.drop f).take b)).length 0 (len+b),[(h,.rows e i'.size xs)],[(h,.rows e i'.size (Gn xs len ((xs.drop f).take b)))]⟩:=by
 intro σ ι H F W w a next Q s z I hk
 have C:H h = .rows e i'.size xs:=I (h,.rows e i'.size xs) ψ;have u:=z x (by simp[L,Op.operands,Call.operands]);have q:=z y (by simp[L,Op.operands,Call.operands]);rw[hx]at u;rw[hy]at q;have hv:=u.arr_inv C N;have D:=q.arr_inv C M;obtain⟨u1,G,e1⟩:=Mr (U t i ht) hd;obtain⟨u2,E,e2⟩:=Mr (U t' A K) R;subst e1;subst e2;have j:((xs.drop f).take b).length=b:=by simp;omega
 obtain⟨Cs,g,⟨p,c,J⟩,hf,X⟩:=A1f (P:=P) s C D ω b (Nat.le_refl _);have hs:Mq P w (a.eval y) i'.size ((xs.drop f).take b).length Cs:=by
  refine⟨λd=>?_,λd=>?_,X.len⟩
  .rw[J,j];simp[Builtin.lenOf]
  .rw[j];exact hf d
 obtain⟨Y,Z,w',hr,le,s',l⟩:=Apd (P:=P) (ty:=o.type) s G E (.inl ⟨_,rfl⟩) (U e i' he) hz B C ω hv S (by rw[j];exact hb) hs X;rw[j]at l;exact G6 (Wd L rfl hr) (hk σ Y Z w' le s' (Ape (by rw[Y5 ω,j];omega) l))
theorem A1l (N:Ds P T) {lo hi:Option Operand} {len:Nat} {l:Nat} (A:o.op = .slice t x lo hi none) (ht:T t=some i) (hd:i.d = .slice e) (X:T e=some i') (hx:ρ x = .arr b k off len) (G:xs.length=k) (B:Jg ρ 0 lo=some (l:Int)) (I:Jg ρ (len:Int) hi=some (l:Int)) (h2:l<=len) : Cp P o ρ ⟨.sl h [],[(b,.rows E sz xs)],[]⟩:=by
 intro σ ι H F W w a next Q s g j hk
 have hh:H b = .rows E sz xs:=j (b,.rows E sz xs) ψ;have hp:=g x (by simp[A,Op.operands]);rw[hx]at hp;have K:=hp.arr_inv hh G;obtain⟨M,u,z,k1,R,k3,k4,Z,Y,L⟩:=Fj (N t i ht);rw[hd]at L;subst L;have S:=Qc (N e i' X);have J:∀(C:Nat),len<=C->∀w,(Instr.sliceBounds true len C (lo.map a.eval) (hi.map a.eval) none).run P w = .ok (l,l,C) w :=
  λC f w=>Ad2 B I (λy hy=>g y (by rw[A];exact Ad3 hy)) (Nat.le_refl _) ω w
 have a0:∀(p:Option Addr) (C:Nat),len<=C->a.eval x = .slice p len C->∃q c,(execOp a.eval o).run P w = .ok (.value (.slice q 0 c)) w:=by intro p C f K;have:=J C f w;simp only[execOp,A,K,Instr.sliceAt,Instr.slice,Sem.run_bind,run_underlying R,Result.andThen_ok,Option.map_none,this,S w,Sem.run_pure,Nat.sub_self];exact⟨_,_,rfl⟩
 have:∃q c,(execOp a.eval o).run P w = .ok (.value (.slice q 0 c)) w:=by
  unfold H6 at K;split at K
  .obtain⟨K,_,D⟩:=K;exact a0 none 0 ω (by rw[D];exact K)
  .obtain⟨V,K⟩:=K;exact a0 _ _ ω K
  .exact K.elim
 obtain⟨q,c,U⟩:=this;exact G6 U (hk σ ι _ w (Le.refl _ _ _) s (.cc (.nil _ _ _)))
theorem Aea (g:o.op = .call {callee:=.builtin .clear,args:=#[x],argTypes:=#[t]}) (b:o.type=ty) {c:Value} (f:(Builtin.clear_ #[t] ty #[a.eval x]).run P w = .ok c w') : (execOp a.eval o).run P w = .ok (.value c) w':=by subst b;simp[execOp,g,resolve,invoke,builtin,f]
theorem A1m (hT:Ds P T) {len:Nat} (I:o.op = .call {callee:=.builtin .clear,args:=#[x],argTypes:=#[t]}) (ht:T t=some i) (hd:i.d = .slice e) (he:T e=some i') (hz:0<i'.size) (y:Mp i'.size (Gv i')=true) (B:(Gv i').cells=i'.zero.map .val) (hx:ρ x = .arr h k off len) (a1:xs.length=k) (hl:off+len<=k) : Cp P o ρ ⟨.tup [],[(h,.rows e i'.size xs)],[(h,.rows e i'.size (Gn xs off (replicate len (Gv i'))))]⟩:=by
 intro σ ι H F W w a next Q s U S hk
 have hh:H h = .rows e i'.size xs:=S (h,.rows e i'.size xs) ψ;have D:=U x (by simp[I,Op.operands,Call.operands]);rw[hx]at D;have C:=D.arr_inv hh a1;obtain⟨u1,u,e1⟩:=Mr (hT t i ht) hd;subst e1;obtain⟨M,u',f,L,ad,J,ac,ab,A,aa⟩:=Fj (hT e i' he);have N:(zeroValue e).run P w = .ok f w:=by simp[zeroValue,typeInfo,L,J]
 have g:f.cells.size=i'.size:=by have:=congrArg length B;rw[(O4 y).1,length_map,A,Array.length_toList]at this;exact this.symm
 have a7:xs.length<=140737488355328:=by have:=s.obj h;unfold C8 at this;rw[hh]at this;exact this.2.1
 have l:∀(σ:A8) (ι:Ch) (H:Hp),Conc σ ι H (.tup []) (.tuple #[]):=λσ ι H=>.tup [] #[] rfl (λi c v h _=>by simp at h);unfold H6 at C;split at C
 .obtain⟨C,rfl,rfl⟩:=C;have G:Gn xs 0 (replicate 0 (Gv i'))=xs:=(by simp[Gn]);refine G6 (v:=.tuple #[]) (Aea I rfl ?_) (hk σ ι _ w ?_ ?_ (l _ _ _))
  .simp only[Builtin.clear_,C];simp[run_underlying u]
  .show Le σ ι H σ ι (A3 H h (.rows e i'.size _));rw[G,<-hh,Kd];exact Le.refl _ _ _
  .show St σ ι (A3 H h (.rows e i'.size _)) F W w;rw[G,<-hh,Kd];exact s
 .rename_i b a8 hb;obtain⟨ae,C⟩:=C;by_cases Z:len=0
  .subst Z;have G:Gn xs off (replicate 0 (Gv i'))=xs:=(by simp[Gn]);refine G6 (v:=.tuple #[]) (Aea I rfl ?_) (hk σ ι _ w ?_ ?_ (l _ _ _))
   .simp only[Builtin.clear_,C];simp[run_underlying u]
   .show Le σ ι H σ ι (A3 H h (.rows e i'.size _));rw[G,<-hh,Kd];exact Le.refl _ _ _
   .show St σ ι (A3 H h (.rows e i'.size _)) F W w;rw[G,<-hh,Kd];exact s
  .have z:∀q,q<len*i'.size->(Builtin.zeroCells f.cells len).toList[q]? = f.cells[q % i'.size]?:=(by intro q K;have hm:q % i'.size<f.cells.size:=(by rw[g];exact Nat.mod_lt _ hz);have V:f.cells[q % i'.size]! = f.cells[q % i'.size]:=(by simp[hm]);simp[Builtin.zeroCells,K,g,V,hm]);have hn:Tt σ i'.size (replicate len (Gv i')) (Builtin.zeroCells f.cells len).toList (λ_ j=>(f.cells[j]?).getD undef):=by
    refine⟨by simp[Builtin.zeroCells,g],?_,?_,?_⟩
    .intro j x' hj;have:=Fw hj;simp at this;rw[this.2];exact (O4 y).1
    .intro j x' q c' hj K;have:=Fw hj;simp at this;rw[this.2]at K;have a6:=(O4 y).2 c' (Fw K);rw[B,getElem?_map,A,Hj]at K;cases C:f.cells[q]? with| none=>rw[C]at K;simp at K| some v=>rw[C]at K;simp at K;subst K;exact⟨.val v,a6⟩
    .intro j q hj K;have a0:j<len:=(by simpa using hj);have X:j*i'.size+q<len*i'.size:=(by have:(j+1)*i'.size<=len*i'.size:=Nat.mul_le_mul_right _ ω;rw[E8]at this;omega);rw[z _ X];have:(j*i'.size+q) % i'.size=q:=(by rw[Nat.mul_comm,Nat.mul_add_mod,Nat.mod_eq_of_lt K]);rw[this];have E:q<f.cells.size:=ω;simp[E]
   obtain⟨w',R,le,s'⟩:=Apc (P:=P) s hh hb (d:=off) ω (by rw[length_replicate];omega) (by rw[length_replicate];omega) hz hn;refine G6 (v:=.tuple #[]) (Aea I rfl ?_) (hk σ ι _ w' le s' (l _ _ _));have Y:∃m,len=m+1:=⟨len-1,ω⟩;obtain⟨m,rfl⟩:=Y;simp only[Builtin.clear_,C];simp[run_underlying u,N,R]
 .exact C.elim
theorem A1n (l:Ds P T) (j:o.op = .call {callee:=.builtin .clear,args:=#[x],argTypes:=#[t]}) (ht:T t=some i) (B:i.d = .slice e) (C:ρ x = .sl sz []):Cp P o ρ ⟨.tup [],[],[]⟩:=by
 intro σ ι H F W w a next Q s g k D
 have b:=g x (by simp[j,Op.operands,Call.operands]);rw[C]at b;obtain⟨_,q,G,I⟩:=b.sl_inv.sl_len;obtain⟨y,f,u⟩:=Mr (l t i ht) B;subst u;refine G6 (v:=.tuple #[]) (Aea j rfl ?_) (D σ ι _ w (Le.refl _ _ _) s (.tup [] #[] rfl (λi c v h _=>by simp at h)));simp only[Builtin.clear_,I];cases q <;> simp[run_underlying f]
end
variable {F σ:A8} {ι:Ch} {H:Hp} {W w:World}
theorem St.newMap (s:St σ ι H F W w) (h:Nat) (j:H h = .none) : St σ (A3 ι h (.box w.heap.size)) (A3 H h (.map [])) F W (w.alloc (.map #[] 0))/\Le σ ι H σ (A3 ι h (.box w.heap.size)) (A3 H h (.map [])):=by
 have g:ι h = .none:=by have:=s.obj h;unfold C8 at this;rw[j]at this;exact this
 have le:Le σ ι H σ (A3 ι h (.box w.heap.size)) (A3 H h (.map [])):=Le.upd (A8.le_refl σ) h _ _ (by rw[g,j];exact HLe.of_none);obtain⟨c,f⟩:=s.fresh;refine⟨s.touch h w.heap.size (λx e=>C2 _ _ e) (λx e=>C2 _ _ e) le ?_ (λ_ _=>rfl) (λo i=>by rw[c]at i;cases i) ?_ f ?_ ?_ rfl rfl rfl,le⟩
 .intro b hb;show (w.heap.push _)[b]? = _;rw[Array.getElem?_push,if_neg hb]
 .intro x e k hb;have:=(s.block k hb).1;omega
 .intro b _ hb;rw[Cn]at hb;simp[Loc.block?]at hb;exact .inl hb.symm
 .unfold C8;rw[Cn];refine⟨w.heap.size,#[],0,Cn _ _ _,c,f,?_,rfl,ψ⟩;show (w.heap.push _)[w.heap.size]? = _;simp
theorem St.setMap (s:St σ ι H F W w) (h:Nat) (es c:List (AV×AV)) (hh:H h = .map es) (b:Nat) (hb:ι h = .box b) (g:Array MapEntry) (t':Nat) (u:V8 σ c g) : St σ ι (A3 H h (.map c)) F W {w with heap:=w.heap.setIfInBounds b (.map g t')}/\Le σ ι H σ ι (A3 H h (.map c)):=by
 have i:=s.obj h;unfold C8 at i;rw[hh]at i;obtain⟨z,M,t,l,h1,h2,h3,B⟩:=i;rw[hb]at l;cases l;have le:Le σ ι H σ ι (A3 H h (.map c)):=by have:=Le.upd (ι:=ι) (H:=H) (A8.le_refl σ) h (ι h) (.map c) (by rw[hh];exact⟨λ_ e=>e,(λ_ e=>by cases e),(λ_ _ _ _ e=>by cases e)⟩);rwa [Kd]at this
 have f:=Go.MapKept.heap_set (w:=w) (o':=.map g t') h3;refine⟨s.touch h b (λ_ _=>rfl) (λx e=>C2 _ _ e) le (λx e=>f.2 x e) (λ_ _=>rfl) (λo e=>by rw[h1]at e;cases e) ?_ h2 ?_ ?_ rfl rfl rfl,le⟩
 .intro x e q j;exact e (s.inj x h b q (by rw[hh];rfl) j (by rw[hb];rfl))
 .intro y _ k;exact .inr ⟨by rw[hh];rfl,k⟩
 .unfold C8;rw[Cn];exact⟨b,g,t',hb,h1,h2,f.1,u⟩
def Kt (s:ByteArray):List (AV×AV)->Nat->Option (Option (Nat×AV))
 | [],_=>some none
 | p::es,i=> match p.1 with
  | .val (.string t)=>bif s==t then some (some (i,p.2)) else Kt s es (i+1)
  | _=>none
def Aeb (s:ByteArray) (v:AV) (es:List (AV×AV)):Option (List (AV×AV)) := match Kt s es 0 with
 | none=>none
 | some none=>some (es++[(.val (.string s),v)])
 | some (some p)=>some (es.set p.1 (.val (.string s),v))
theorem Ajn {σ:A8} {s:ByteArray}:∀(es:List (AV×AV)) (L:List MapEntry) (i:Nat) (r:Option (Nat×AV)),L.length=es.length ->
  (∀(j:Nat) (p:AV×AV) (e:MapEntry),es[j]? = some p->L[j]? = some e->CC σ p.1 e.key/\CC σ p.2 e.val)->Kt s es i=some r ->
  (r=none/\Instr.findNow .string (.string s) L i=some none)\/∃j v e,r=some (i+j,v)/\Instr.findNow .string (.string s) L i=some (some (i+j,e.val))/\L[j]? = some e/\e.key = .string s/\CC σ v e.val/\j<es.length
 | [],[],i,r,g,h,b=>by
  simp only[Kt]at b;cases b
  exact .inl ⟨rfl,rfl⟩
 | [],e::L,i,r,g,h,b=>by simp at g
 | p::es,[],i,r,g,h,b=>by simp at g
 | p::es,e::L,i,r,g,h,b=>by
  obtain⟨D,G⟩:=h 0 p e rfl rfl
  simp only[Kt]at b
  split at b
  .rename_i t hp
   rw[hp]at D
   have f:e.key = .string t:=by
    generalize e.key=q at D
    cases D;rfl
   cases c:s==t with
   | true=>
    rw[c]at b
    cases b
    have l:s=t:=(Go.MapKept.bytes_beq s t).1 c
    refine .inr ⟨0,p.2,e,rfl,?_,rfl,?_,G,ψ⟩
    .unfold Instr.findNow
     rw[f]
     simp[Instr.sameNow,c]
    .rw[f,l]
   | false=>
    rw[c]at b
    have step:Instr.findNow .string (.string s) (e::L) i=Instr.findNow .string (.string s) L (i+1):=by
     conv=>lhs;unfold Instr.findNow
     rw[f]
     simp[Instr.sameNow,c]
    rcases Ajn es L (i+1) r (by simpa using g) (λj k e' B C=>h (j+1) k e' (by simpa using B) (by simpa using C)) b with⟨B,C⟩|⟨j,v,e',B,C,I,J,x,u⟩
    .exact .inl ⟨B,by rw[step];exact C⟩
    .exact .inr ⟨j+1,v,e',by rw[B];congr 2;omega,by rw[step,C];congr 3;omega,by simpa using I,J,x,by simpa using u⟩
  .cases b
section
variable {P:Program} {o:Oper} {ρ:Operand->AV} {a:Act} {w w':World} {next:Act->World->Prop} {Q:Exit->Act->World->Prop}
variable {σ:A8} {s:ByteArray} {ι:Ch} {T:Dq} {H:Hp} {es:List (AV×AV)} {h:Nat} {x y:Operand} {i:TI} {G t:TypeId} {v:Value}
def Ajo (P:Program) (s:TypeId) (f:Nat):Option TypeId := match P.underlying s with
 | some (.struct u)=>(u[f]?).map (·.type)
 | _=>none
theorem Apf (E:Ds P T) {y:TypeId} {f:Nat} {g:TI} {fs:List (Nat×Nat)} {q:Nat×Nat} {cs:List AV} {r:AV} (D:o.op = .field t x f) (ht:T t=some i) (hd:i.d = .struct fs) (V:fs[f]? = some q) (K:Ajo P t f=some y) (I:T y=some g) (hx:ρ x = .agg cs) (N:(g.isAgg=true/\q.1+g.size<=cs.length/\r = .agg ((cs.drop q.1).take g.size))\/(g.isAgg=false/\cs[q.1]? = some r)):Cp P o ρ ⟨r,[],[]⟩ := Fo λσ ι H a w h=>by
  have hc:=h x (by simp[D,Op.operands]);rw[hx]at hc;obtain⟨C,J,L,c1⟩:=hc.agg_inv;obtain⟨_,u,_,_,A,_,_,_,_,G⟩:=Fj (E t i ht);rw[hd]at G;obtain⟨R,rfl,M,_⟩:=G;unfold Ajo at K;rw[A]at K;simp only[Option.map_eq_some_iff]at K;obtain⟨fl,X,g2⟩:=K;have b:q.1=fl.offset:=(by rw[M,getElem?_map,Hj,X]at V;simp at V;rw[<-V]);have l:=Ad1 (E y g I) w;have B:=Qc (E y g I) w;subst g2;rcases N with⟨z,s,rfl⟩|⟨z,s⟩
  .refine⟨.agg (C.extract fl.offset (fl.offset+g.size)),?_,.agg _ _ (by simp[b]at s ⊢;omega) λj c u S U=>?_⟩
   .simp[execOp,D,J,Instr.field,run_underlying A,X,asAgg,part,l,z,B,Result.andThen]
   .rw[b]at S;have hj:j<g.size:=(by have:=(Ha.1 S).1;simp at this;omega);rw[Il hj,getElem?_drop]at S;rw[Array.getElem?_extract]at U;split at U
    .exact c1 _ c u S U
    .cases U
  .have k:q.1<C.size:=(by rw[L];exact (Ha.1 s).1);have hv:C[fl.offset]? = some C[q.1]:=(by rw[<-b];simp[k]);refine⟨C[q.1],?_,c1 q.1 r _ s (by simp[k])⟩;simp[execOp,D,J,Instr.field,run_underlying A,X,asAgg,part,l,z,hv,Result.andThen]
theorem A1o (h:Nat) (c:o.op = .makeMap t none):Cp P o ρ ⟨.mp h,[(h,.none)],[(h,.map [])]⟩:=by
 intro σ ι H F W w a next Q s C b u
 have f:H h = .none:=b (h,.none) ψ;obtain⟨B,le⟩:=s.newMap h f;refine G6 (v:=.map (some w.heap.size)) (w':=w.alloc (.map #[] 0)) ?_ (u σ _ _ _ le B (.mp h w.heap.size (Cn _ _ _)));simp[execOp,c,Instr.makeMap,newObj,Sem.run]
theorem Conc.mp_inv (hc:Conc σ ι H (.mp h) v):∃b,ι h = .box b/\v = .map (some b):=by cases hc with| cc h=>cases h| mp _ b hb=>exact⟨b,hb,rfl⟩
def Ajp (b:Bool) (i:TI):Option (Nat×AV)->AV
 | none=>bif b then .tup [Gv i,.val (.bool false)] else Gv i
 | some p=>bif b then .tup [p.2,.val (.bool true)] else p.2
theorem A1p {z:Value} (u:z.cells.toList=i.zero) (J:i.isAgg=true->∃B,z = .agg B) (C:i.isAgg=false->Fm z=true):Conc σ ι H (Gv i) z:=by
 cases b:i.isAgg with
 | true=>obtain⟨B,rfl⟩:=J b;have D:Gv i = .agg (i.zero.map .val):=(by unfold TI.isAgg at b;unfold Gv;cases G:i.d <;> rw[G]at b <;> first|rfl|cases b);rw[D,<-u];refine .agg _ B (by simp[Value.cells]) λj c v I K=>?_;simp only[Value.cells,getElem?_map,Hj,K]at I;simp at I;subst I;exact .of_val v
 | false=>have C:=C b;have D:z.cells = #[z]:=(by cases z <;> first|rfl|cases C);rw[D]at u;have:Gv i = .val z:=(by unfold TI.isAgg at b;unfold Gv;rw[<-u];cases G:i.d <;> rw[G]at b <;> first|rfl|cases b);rw[this];exact .of_val z
theorem A1q (Z:Ds P T) {S:TypeId} {D:Bool} {U C:TI} {r:Option (Nat×AV)} (B:o.op = .lookup t x y D) (ht:T t=some i) (hd:i.d = .map S G) (hk:T S=some U) (Y:U.d = .string) (he:T G=some C) (hx:ρ x = .mp h) (hy:ρ y = .val (.string s)) (hr:Kt s es 0=some r) : Cp P o ρ ⟨Ajp D C r,[(h,.map es)],[]⟩:=by
 intro σ ι H F W w a next Q st L V X
 have hh:H h = .map es:=V (h,.map es) ψ;have N:=L x (by simp[B,Op.operands]);rw[hx]at N;obtain⟨b,hb,hv⟩:=N.mp_inv;have g:=Ea hy (L y (by simp[B,Op.operands]));have A:=st.obj h;unfold C8 at A;rw[hh]at A;obtain⟨b',M,q,e1,_,_,h3,h4⟩:=A;rw[hb]at e1;cases e1;obtain⟨_,u,_,_,R,_,_,_,_,k7⟩:=Fj (Z t i ht);rw[hd]at k7;subst k7;obtain⟨_,u',_,_,f,_,_,_,_,E⟩:=Fj (Z S U hk);rw[Y]at E;subst E;have k:Go.MapKept.IsKey .string (.string s):=trivial;have l:∀v,Conc σ ι H (Ajp D C r) v->(execOp a.eval o).run P w = .ok (.value v) w->o.wp P a w next Q:=by intro v hc J;exact G6 J (X σ ι v w (Le.refl _ _ _) st hc)
 rcases Ajn es M.toList 0 r (by simpa using h4.1) (λj p e g1 g2=>h4.2 j p e g1 (by simpa using g2)) hr with⟨rfl,hf⟩|⟨j,v,e,rfl,hf,g1,g2,g3,_⟩
 .obtain⟨z,hz,c1,c2,c3⟩:=Azl (Z G C he) w;have I:Conc σ ι H (Gv C) z:=A1p c1 c2 c3;cases D with
  | true=>
   refine l (.tuple #[z,.bool false]) (.tup _ _ ψ λi c u K m2=>?_) ?_
   .match i with| 0=>simp at K m2;subst K;subst m2;exact I| 1=>simp at K m2;subst K;subst m2;exact .of_val _| i+2=>simp at K
   .simp[execOp,B,hv,g,Instr.lookup,run_underlying R,Go.MapKept.run_getObj_map h3,Go.MapKept.run_checkKey f k,Go.MapKept.run_findKey f hf,hz,Result.andThen]
  | false=>refine l z I ?_;simp[execOp,B,hv,g,Instr.lookup,run_underlying R,Go.MapKept.run_getObj_map h3,Go.MapKept.run_checkKey f k,Go.MapKept.run_findKey f hf,hz,Result.andThen]
 .cases D with
  | true=>
   refine l (.tuple #[e.val,.bool true]) (.tup _ _ ψ λi c u K m2=>?_) ?_
   .match i with| 0=>simp at K m2;subst K;subst m2;exact .cc g3| 1=>simp at K m2;subst K;subst m2;exact .of_val _| i+2=>simp at K
   .simp[execOp,B,hv,g,Instr.lookup,run_underlying R,Go.MapKept.run_getObj_map h3,Go.MapKept.run_checkKey f k,Go.MapKept.run_findKey f hf,Result.andThen]
  | false=>refine l e.val (.cc g3) ?_;simp[execOp,B,hv,g,Instr.lookup,run_underlying R,Go.MapKept.run_getObj_map h3,Go.MapKept.run_checkKey f k,Go.MapKept.run_findKey f hf,Result.andThen]
theorem Conc.cc_free1 {x:AV} (hx:x.free1=true) (h:Conc σ ι H x v):CC σ x v:=by cases x with| agg cs=>obtain⟨vs,rfl,b,h⟩:=h.agg_inv;exact .agg cs vs b λi c u h1 h2=>((h i c u h1 h2).cc_of (Et.1 hx c (Fw h1))).1| val u=>exact (h.cc_of (x:=.val u) hx).1| sl sz xs=>exact (h.cc_of (x:=.sl sz xs) hx).1| _=>cases hx
theorem A1r (hT:Ds P T) {V:TypeId} {z:Operand} {X:TI} {f:List (AV×AV)} (L:o.op = .mapUpdate t x y z) (ht:T t=some i) (hd:i.d = .map V G) (hk:T V=some X) (a1:X.d = .string) (hx:ρ x = .mp h) (hy:ρ y = .val (.string s)) (hz:(ρ z).free1=true) (g:Aeb s (ρ z) es=some f) : Cp P o ρ ⟨.val undef,[(h,.map es)],[(h,.map f)]⟩:=by
 intro σ ι H F W w a next Q st k Y Z
 have hh:H h = .map es:=Y (h,.map es) ψ;have S:=k x (by simp[L,Op.operands]);rw[hx]at S;obtain⟨b,hb,hv⟩:=S.mp_inv;have I:=Ea hy (k y (by simp[L,Op.operands]));have R:=(k z (by simp[L,Op.operands])).cc_free1 hz;have l:=st.obj h;unfold C8 at l;rw[hh]at l;obtain⟨b',M,q,e1,_,_,h3,h4⟩:=l;rw[hb]at e1;cases e1;obtain⟨_,u,_,_,k2,_,_,_,_,k7⟩:=Fj (hT t i ht);rw[hd]at k7;subst k7;obtain⟨_,u',_,_,c,_,_,_,_,C⟩:=Fj (hT V X hk);rw[a1]at C;subst C;have B:Go.MapKept.IsKey .string (.string s):=trivial;have N:∀U t',V8 σ f U->(execOp a.eval o).run P w = .ok .skip {w with heap:=w.heap.setIfInBounds b (.map U t')}->o.wp P a w next Q:=by intro U t' hM J;obtain⟨s',le⟩:=st.setMap h es f hh b hb U t' hM;exact Ai7 J (Z σ ι undef _ le s' (.of_val _))
 unfold Aeb at g;cases E:Kt s es 0 with
 | none=>rw[E]at g;cases g
 | some r=>
  rw[E]at g;rcases Ajn es M.toList 0 r (by simpa using h4.1) (λj p e g1 g2=>h4.2 j p e g1 (by simpa using g2)) E with⟨rfl,hf⟩|⟨j,v,e,rfl,hf,g1,g2,g3,g4⟩
  .simp only[Option.some.injEq]at g;subst g;refine N (M.push {key:=.string s,val:=a.eval z,born:=q}) (q+1) ⟨by simp[h4.1],λi' p e K m2=>?_⟩ ?_
   .rcases Nat.lt_or_ge i' es.length with A|a0
    .rw[getElem?_append_left A]at K;rw[Array.getElem?_push_lt (by rw[h4.1];exact A)]at m2;exact h4.2 i' p e K (by rw[Array.getElem?_eq_getElem (by rw[h4.1];exact A)];exact m2)
    .rw[getElem?_append_right a0]at K;have a6:i'=es.length:=(by have:=(Ha.1 K).1;simp at this;omega);subst a6;simp at K;subst K;rw[<-h4.1]at m2;simp at m2;subst m2;exact⟨.val _,R⟩
   .simp[execOp,L,hv,I,Instr.mapUpdate,run_underlying k2,Go.MapKept.run_getObj_map h3,Go.MapKept.run_checkKey c B,Go.MapKept.run_findKey c hf,Go.MapKept.run_setObj_map _ h3,Result.andThen]
  .simp only[Option.some.injEq]at g;subst g;have hj:M[j]? = some e:=(by simpa using g1);refine N (M.modify j λe=>{e with key:=.string s,val:=a.eval z}) q ⟨by simp[h4.1],λi' p e' K m2=>?_⟩ ?_
   .simp only[Nat.zero_add]at K;rw[getElem?_set]at K;rw[Array.getElem?_modify]at m2;by_cases D:j=i'
    .subst D;simp only[if_true]at K m2;rw[if_pos g4]at K;cases K;rw[hj]at m2;simp at m2;subst m2;exact⟨.val _,R⟩
    .rw[if_neg D]at K;rw[if_neg D]at m2;exact h4.2 i' p e' K m2
   .simp[execOp,L,hv,I,Instr.mapUpdate,run_underlying k2,Go.MapKept.run_getObj_map h3,Go.MapKept.run_checkKey c B,Go.MapKept.run_findKey c hf,hj,g2,Go.MapKept.run_keyThatStays B,Go.MapKept.run_setObj_map _ h3,Result.andThen]
end
def ev (e:Cd):Operand->AV
 | .tmp t=>e t
 | .const v=>.val v
 | .global g=>.val (.pointer (some ⟨g,0,none⟩))
 | .func f=>.fn f []
def put (e:Cd) (d:Option Nat) (v:AV):Cd := match d with
 | none=>e
 | some n=>A3 e n v
def Ajq:Operand->Option Nat
 | .tmp t=>some t
 | _=>none
def We (ops:Array Oper) (o:Oper):Option Nat := match o.guard with
 | none=>none
 | some p=>(ops[p.1]?).bind (·.dst)
def L7 (ops:Array Oper) (o:Oper):List Nat:=o.op.operands.toList.filterMap Ajq++(We ops o).toList
def Fx (σ:A8) (ι:Ch) (H:Hp) (e:Cd) (a:Act):Prop:=∀s,s<a.tmps.size->Conc σ ι H (e s) (a.tmps.getD s undef)
section
variable {σ:A8} {ι:Ch} {H:Hp} {e:Cd} {a:Act}
theorem Fx.eval (h:Fx σ ι H e a) {x:Operand} (hx:∀t,Ajq x=some t->t<a.tmps.size):Conc σ ι H (ev e x) (a.eval x):=by cases x with| tmp t=>exact h t (hx t rfl)| const v=>exact .of_val v| global g=>exact .of_val _| func f=>exact .fn f [] #[] rfl ψ
theorem Fx.mono {b:A8} {c:Ch} {H':Hp} (h:Fx σ ι H e a) (le:Le σ ι H b c H'):Fx b c H' e a:=λs f=>(h s f).mono le
theorem Fx.put (h:Fx σ ι H e a) {d:Option Nat} {r:AV} {v:Value} (hv:Conc σ ι H r v):Fx σ ι H (put e d r) (a.put d v):=by
 cases d with
 | none=>exact h
 | some n=>
  intro s b;simp only[Act.put,Array.size_setIfInBounds]at b;simp only[Ab.put,Act.put];by_cases c:s=n
  .subst c;rw[Cn];simpa[b] using hv
  .rw[C2 _ _ c];have:=h s b;simp only[Array.getD_eq_getD_getElem?]at this ⊢;rw[Array.getElem?_setIfInBounds_ne ω];exact this
end
variable {a b:Act} {ops:Array Oper} {o:Oper}
def Tu:Value->Option Bool
 | .bool b=>some b
 | _=>none
def Ms (ops:Array Oper) (o:Oper) (e:Cd) (on:Bool):Prop := match o.guard with
 | none=>on=true
 | some p=>∃s v,(ops[p.1]?).bind (·.dst)=some s/\e s = .val v/\on=(Tu v==some p.2)
theorem Apg {e:Cd} {on:Bool} {σ:A8} {ι:Ch} {H:Hp} (hg:Ms ops o e on) (g:Fx σ ι H e a) (f:∀s,We ops o=some s->s<a.tmps.size) : Region.wanted o (yielded ops a.tmps)=on:=by unfold Ms at hg;unfold Region.wanted;cases h:o.guard with| none=>rw[h]at hg;exact hg.symm| some p=>rw[h]at hg;obtain⟨s,b,B,D,G⟩:=hg;have c:=f s (by unfold We;rw[h];exact B);have C:=g s c;rw[D]at C;have u:=C.val_inv;have:yielded ops a.tmps p.1=Tu b:=(by unfold yielded;rw[B];simp only[Option.bind_some];have:a.tmps[s]? = some b:=(by rw[Array.getD_eq_getD_getElem?]at u;simp[c]at u ⊢;exact u);rw[this];cases b <;> rfl);show (yielded ops a.tmps p.1==some p.2)=on;rw[this,G]
abbrev Acc:=Nat->List Nat×List Nat
def Rl (P:Program) (ops:Array Oper) (acc:Acc) (i:Nat) (o:Oper) (e:Cd) (H:Hp) (r:AV) (c:List (Nat×Bo)):Prop := ops[i]? = some o /\ ((Ms ops o e true/\∃b,Cp P o (ev e) b/\(∀p∈b.rd,H p.1=p.2)/\(∀p∈b.rd,p.1∈(acc i).1)/\(∀p∈b.wr,p.1∈(acc i).2)/\r=b.r/\c=b.wr) \/ (Ms ops o e false/\r = .val undef/\c = []))
inductive Run (P:Program) (ops:Array Oper) (acc:Acc):List Nat->Cd->Hp->Cd->Hp->Prop where
 | nil (e:Cd) (H:Hp):Run P ops acc [] e H e H
 | cons {i:Nat} {l:List Nat} {e e':Cd} {H H':Hp} (o:Oper) (r:AV) (wr:List (Nat×Bo)) (hd:Rl P ops acc i o e H r wr)
   (rest:Run P ops acc l (put e o.dst r) (Cr H wr) e' H'):Run P ops acc (i::l) e H e' H'
def Gj (b:List Nat) (a c:Act):Prop:=∀s,s ∉ b->c.tmps.getD s undef=a.tmps.getD s undef
theorem Gj.refl (b:List Nat) (a:Act):Gj b a a:=λ_ _=>rfl
theorem Gj.trans {f:List Nat} {c:Act} (h:Gj f a b) (h':Gj f b c):Gj f a c:=λs g=>(h' s g).trans (h s g)
theorem Gj.mono {f c:List Nat} (h:Gj f a b) (i:∀s∈f,s∈c):Gj c a b:=λs g=>h s (λx=>g (i s x))
theorem Gj.put (a:Act) (d:Option Nat) (v:Value) (b:List Nat) (h:∀s,d=some s->s∈b):Gj b a (a.put d v):=by cases d with| none=>exact Gj.refl _ _| some n=>intro s c;have f:s≠n:=λe=>c (e ▸ h n rfl);simp only[Act.put,Array.getD_eq_getD_getElem?];rw[Array.getElem?_setIfInBounds_ne ω]
def Y6 (ops:Array Oper):List Nat:=ops.toList.filterMap (·.dst)
theorem Gj.step {i:Nat} (c:ops[i]? = some o) (a:Act) (v:Value):Gj (Y6 ops) a (a.put o.dst v):=by refine Gj.put a o.dst v _ λs b=>?_;unfold Y6;rw[mem_filterMap];exact⟨o,by simpa using Array.mem_of_getElem? c,b⟩
def Aec (ops:Array Oper) (n:Nat):Prop:=∀(i:Nat) (o:Oper),ops[i]? = some o->∀s∈L7 ops o,s<n
section
variable {P:Program} {ops:Array Oper} {acc:Acc} {F:A8} {W:World} {Q:Exit->Act->World->Prop}
variable {r:AV} {e e':Cd} {H H':Hp} {l:List Nat} {i:Nat} {o:Oper} {d:Option Nat}
theorem Y7 (a:Act) (d:Option Nat) (v:Value):(a.put d v).tmps.size=a.tmps.size:=by cases d <;> simp[Act.put]
theorem Run.wpOp (h:Run P ops acc (i::l) e H e' H') {σ:A8} {ι:Ch} {a:Act} {w:World} (s:St σ ι H F W w) (q:Fx σ ι H e a) (B:Aec ops a.tmps.size) {K:Act->World->Prop} (hk:∀(A:Cd) (y:Hp),Run P ops acc l A y e' H'->∀g j u w',Le σ ι H g j y->St g j y F W w'->Fx g j y A u->u.tmps.size=a.tmps.size->u.defers=a.defers->Gj (Y6 ops) a u->K u w') : wpOp P ops Q i K a w:=by
 have c:∀(d:Option Nat) (v:Value),(a.put d v).defers=a.defers:=by intro d v;cases d <;> rfl
 cases h with
 | cons o r wr hd rest=>
  obtain⟨k,hd⟩:=hd;unfold Go.wpOp;have f:=B i o k;rcases hd with⟨G,D,b,z,_,_,rfl,rfl⟩|⟨G,rfl,rfl⟩
  .have I:=Apg G q λC h'=>f C (by simp[L7,h']);rw[k];simp only[I,if_true];refine .inl (b σ ι H F W w a K Q s (λx hx=>q.eval λt J=>f t ?_) z ?_)
   .simp only[L7,mem_append,mem_filterMap];exact .inl ⟨x,hx,J⟩
   .intro g j v w' le C hc;exact hk _ _ rest g j _ w' le C ((q.mono le).put hc) (Y7 _ _ _) (c _ _) (Gj.step k a v)
  .have I:=Apg G q λC h'=>f C (by simp[L7,h']);rw[k];simp only[I,Bool.false_eq_true,if_false];exact hk _ _ rest σ ι _ w (Le.refl _ _ _) s (q.put (.of_val undef)) (Y7 _ _ _) (c _ _) (Gj.step k a undef)
theorem Run.wpOps (h:Run P ops acc l e H e' H'):∀{σ:A8} {ι:Ch} {a:Act} {w:World},St σ ι H F W w->Fx σ ι H e a->Aec ops a.tmps.size -> (∀j k g w',Le σ ι H j k H'->St j k H' F W w'->Fx j k H' e' g->g.tmps.size=a.tmps.size->g.defers=a.defers->Gj (Y6 ops) a g->Q .normal g w')->wpOps P ops Q l a w:=by induction l generalizing e H with| nil=>intro σ ι a w s B y hk;cases h;exact hk σ ι a w (Le.refl _ _ _) s B rfl rfl (Gj.refl _ _)| cons i l ih=>intro σ ι a w s B y hk;rw[wpOps_cons];refine h.wpOp s B y ?_;intro U V M N R X S u L A c D C;refine ih M L A (by rw[c];exact y) ?_;intro E G K I q J z b f x;exact hk E G K I (u.trans q) J z (b.trans c) (f.trans D) (C.trans x)
theorem Cp.congr {ρ f:Operand->AV} {b:Eff} (h:Cp P o ρ b) (i:∀x∈o.op.operands.toList,f x=ρ x):Cp P o f b := λσ ι H F W w a next Q s hx c hk=>h σ ι H F W w a next Q s (λx g=>by rw[<-i x g];exact hx x g) c hk
theorem Ms.congr {on:Bool} (h:Ms ops o e on) (c:∀s,We ops o=some s->e' s=e s):Ms ops o e' on:=by unfold Ms at *;cases u:o.guard with| none=>rw[u]at h;exact h| some p=>rw[u]at h;obtain⟨s,b,h1,h2,h3⟩:=h;exact⟨s,b,h1,by rw[c s (by unfold We;rw[u];exact h1)];exact h2,h3⟩
theorem A1s {x:Operand} (h:∀t,Ajq x=some t->e' t=e t):ev e' x=ev e x:=by cases x with| tmp t=>exact h t rfl| _=>rfl
theorem Rl.congr {c:List (Nat×Bo)} (h:Rl P ops acc i o e H r c) (f:∀s∈L7 ops o,e' s=e s) (k:∀x∈(acc i).1,H' x=H x):Rl P ops acc i o e' H' r c:=by
 obtain⟨j,h⟩:=h;refine⟨j,?_⟩;have B:∀s,We ops o=some s->e' s=e s:=λs g=>f s (by simp[L7,g]);rcases h with⟨h1,b,h2,h3,C,u,q,l⟩|⟨h1,h2,h3⟩
 .refine .inl ⟨h1.congr B,b,h2.congr λx hx=>A1s λt D=>f t ?_,λp hp=>?_,C,u,q,l⟩
  .simp only[L7,mem_append,mem_filterMap];exact .inl ⟨x,hx,D⟩
  .rw[k p.1 (C p hp)];exact h3 p hp
 .exact .inr ⟨h1.congr B,h2,h3⟩
theorem Wf {H:Hp}:∀{b:List (Nat×Bo)} {x:Nat},(∀p∈b,p.1≠x)->Cr H b x=H x
 | [],_,_=>rfl
 | p::b,x,h=>by simp only[Cr];rw[Wf λq u=>h q (by simp[u]),C2 _ _ λe=>h p ψ e.symm]
theorem Aph {H:Hp} {h:Nat} {o:Bo}:∀{b:List (Nat×Bo)},(∀p∈b,p.1≠h)->Cr (A3 H h o) b=A3 (Cr H b) h o
 | [],_=>rfl
 | p::b,hp=>by simp only[Cr];rw[Aoz _ _ _ λe=>hp p ψ e,Aph λq u=>hp q (by simp[u])]
theorem Api {H:Hp}:∀{c b:List (Nat×Bo)},(∀p∈c,∀q∈b,p.1≠q.1)->Cr (Cr H c) b=Cr (Cr H b) c
 | [],_,_=>rfl
 | p::c,b,h=>by simp only[Cr];rw[Api λq u f B=>h q (by simp[u]) f B,Aph λq u e=>h p ψ q u e.symm]
structure Ind (ops:Array Oper) (acc:Acc) (i j:Nat) (o o':Oper):Prop where
 d1:∀s,o.dst=some s->s ∉ L7 ops o'/\o'.dst≠some s
 d2:∀s,o'.dst=some s->s ∉ L7 ops o
 h1:∀x∈(acc i).2,x ∉ (acc j).1/\x ∉ (acc j).2
 h2:∀x∈(acc j).2,x ∉ (acc i).1
theorem Apj {s:Nat} (h:d≠some s):put e d r s=e s:=by cases d with| none=>rfl| some n=>exact C2 _ _ (λe=>h (by rw[e]))
theorem A1t {b:Option Nat} {c:AV} (h:∀s,d=some s->b≠some s):put (put e d r) b c=put (put e b c) d r:=by
 cases d with
 | none=>rfl
 | some n=>cases b with| none=>rfl| some m=>exact Aoz _ _ _ (λe=>h n rfl (by rw[e]))
theorem Rl.wr {b:List (Nat×Bo)} (h:Rl P ops acc i o e H r b):∀p∈b,p.1∈(acc i).2:=by
 obtain⟨_,⟨_,g,_,_,_,f,_,c⟩|⟨_,_,h3⟩⟩:=h
 .subst c;exact f
 .subst h3;intro p hp;cases hp
theorem Run.swap {j:Nat} (h:Run P ops acc (i::j::l) e H e' H') (hi:∀o o',ops[i]? = some o->ops[j]? = some o'->Ind ops acc i j o o'):Run P ops acc (j::i::l) e H e' H':=by
 cases h with
 | cons o r wr hd rest=>cases rest with| cons o' g c b rest=>have ind:=hi o o' hd.1 b.1;have u:Rl P ops acc j o' e H g c:=b.congr (λs f=>(Apj λe=>(ind.d1 s e).1 f).symm) λx hx=>(Wf λp hp e=>(ind.h1 p.1 (hd.wr p hp)).1 (e ▸ hx)).symm;have B:Rl P ops acc i o (put e o'.dst g) (Cr H c) r wr:=hd.congr (λs f=>Apj λe=>ind.d2 s e f) λx hx=>Wf λp hp e=>ind.h2 p.1 (b.wr p hp) (e ▸ hx);refine .cons o' g c u (.cons o r wr B ?_);rw[A1t λs f e=>(ind.d1 s e).2 f,Api λp hp q C e=>(ind.h1 q.1 (hd.wr q C)).2 (e ▸ b.wr p hp)];exact rest
theorem Run.bubble:∀{b c:List Nat} {e e':Cd} {H H':Hp},Run P ops acc (b++i::c) e H e' H'->(∀j∈b,∀o o',ops[j]? = some o->ops[i]? = some o'->Ind ops acc j i o o')->Run P ops acc (i::(b++c)) e H e' H'
 | [],_,_,_,_,_,h,_=>h
 | j::b,c,e,e',H,H',h,hi=>by cases h with| cons o r wr hd rest=>exact Run.swap (.cons o r wr hd (rest.bubble λk hk=>hi k (by simp[hk]))) (hi j ψ)
end
def Rm (ms:List Nat) (o:Oper):Nat:=o.after.toList.foldl (λa x=>bif Region.binds .any x then a ||| ((1 <<< x.on) ||| ms.getD x.on 0) else a) 0
def K9:List Oper->List Nat->List Nat
 | [],u=>u
 | o::B,u=>K9 B (u++[Rm u o])
def Y8 (l m:List Nat):Bool:=l.all λx=>!m.contains x
def Ajr (ops:Array Oper) (a b:List Nat×List Nat) (o o':Oper):Bool := (match o.dst with
   | none=>true
   | some s=>!(L7 ops o').contains s && !(o'.dst==some s)) && (match o'.dst with
   | none=>true
   | some s=>!(L7 ops o).contains s) && Y8 a.2 b.1&&Y8 a.2 b.2&&Y8 b.2 a.1
def Ajs (ops:List Oper) (acc:List (List Nat×List Nat)):Bool :=
 let M:=K9 ops []
 (ops.zipIdx.all λp=>p.1.after.toList.all λx=>!Region.binds .any x||Nat.blt x.on p.2) && ops.zipIdx.all λp=>ops.zipIdx.all λq=>!Nat.blt q.2 p.2||(M.getD p.2 0).testBit q.2||Ajr ops.toArray (acc.getD q.2 ([],[])) (acc.getD p.2 ([],[])) q.1 p.1
section
variable {P:Program} {F:A8} {W:World} {Q:Exit->Act->World->Prop}
variable {ops:Array Oper} {i:Nat}
theorem Apk:∀(u:List Oper) (ms:List Nat),(K9 u ms).take ms.length=ms/\(K9 u ms).length=ms.length+u.length /\ ∀(k:Nat) (o:Oper),u[k]? = some o->(K9 u ms).getD (ms.length+k) 0=Rm ((K9 u ms).take (ms.length+k)) o
 | [],ms=>⟨by simp[K9],by simp[K9],ψ⟩
 | o::u,ms=>by
  obtain⟨B,G,D⟩:=Apk u (ms++[Rm ms o]);simp only[K9];simp only[length_append,length_cons,length_nil]at B G D;have b:(K9 u (ms++[Rm ms o])).take ms.length=ms:=(by have:=congrArg (take ms.length) B;rw[take_take]at this;simpa using this);refine⟨b,by simp only[length_cons];omega,λk I C=>?_⟩;cases k with
  | zero=>simp at C;subst C;rw[Nat.add_zero,b];have J:(K9 u (ms++[Rm ms o]))[ms.length]? = some (Rm ms o):=(by have c:((K9 u (ms++[Rm ms o])).take (ms.length+1))[ms.length]? = (K9 u (ms++[Rm ms o]))[ms.length]?:=Il ω;rw[<-c,B];simp);simp[getD,J]
  | succ k=>have:=D k I (by simpa using C);rwa [show ms.length+1+k=ms.length+(k+1) by omega]at this
theorem Apl (ms:List Nat) (j:Nat):∀(l:List Edge) (a:Nat),(l.foldl (λa x=>bif Region.binds .any x then a ||| ((1 <<< x.on) ||| ms.getD x.on 0) else a) a).testBit j=true -> a.testBit j=true\/∃x∈l,Region.binds .any x=true/\(x.on=j\/(ms.getD x.on 0).testBit j=true)
 | [],a,h=>.inl h
 | x::l,a,h=>by
  simp only[foldl_cons]at h;rcases Apl ms j l _ h with u|⟨y,C,B⟩
  .cases B:Region.binds .any x with
   | false=>rw[B]at u;exact .inl u
   | true=>
    rw[B]at u;simp only[cond_true,Nat.testBit_or,Bool.or_eq_true]at u;rcases u with u|u|u
    .exact .inl u
    .refine .inr ⟨x,ψ,B,.inl ?_⟩;rw[Nat.one_shiftLeft,Nat.testBit_two_pow]at u;simpa using u
    .exact .inr ⟨x,ψ,B,.inr u⟩
  .exact .inr ⟨y,by simp[C],B⟩
theorem Ajt {l m:List Nat} (h:Y8 l m=true):∀x∈l,x ∉ m:=by intro x u b;unfold Y8 at h;rw[Et]at h;have:=h x u;simp[b]at this
theorem A1u {acc:Acc} {j:Nat} {o o':Oper} (h:Ajr ops (acc i) (acc j) o o'=true):Ind ops acc i j o o':=by
 unfold Ajr at h;simp only[F3]at h;obtain⟨⟨⟨⟨u,B⟩,D⟩,G⟩,c⟩:=h;refine⟨λs b=>?_,λs b=>?_,λx C=>⟨Ajt D x C,Ajt G x C⟩,Ajt c⟩
 .rw[b]at u;simpa using u
 .rw[b]at B;simpa using B
def A1v (ops:Array Oper) (b:Array Bool):Prop := ∀(k:Nat) (o:Oper),ops[k]? = some o->b.getD k false=true->∀x∈o.after.toList,Region.binds .any x=true->b.getD x.on false=true
theorem Apm {b:Array Bool} (h:i∈Region.ready .any ops b) : i<ops.size/\b.getD i true=false/\∀o,ops[i]? = some o->∀x∈o.after.toList,Region.binds .any x=true->b.getD x.on false=true:=by unfold Region.ready at h;rw[mem_filter]at h;obtain⟨C,B⟩:=h;simp only[F3,Bool.not_eq_true']at B;refine⟨by simpa using C,B.1,λo c x D G=>?_⟩;have u:=B.2;rw[c]at u;simp only[Option.map_some,Option.getD_some]at u;rw[<-Array.all_toList,Et]at u;have:=u x D;simpa[G] using this
theorem Apn {ops:List Oper} {accs:List (List Nat×List Nat)} (N:Ajs ops accs=true) {e':Cd} {H':Hp}:∀(fuel:Nat) (b:Array Bool) (l:List Nat) (e:Cd) (H:Hp) (σ:A8) (ι:Ch) (a:Act) (w:World), Run P ops.toArray (λi=>accs.getD i ([],[])) l e H e' H'->l.Pairwise (· < ·)->(∀i,i∈l↔i<ops.length/\b.getD i true=false)->b.size=ops.length->A1v ops.toArray b->l.length=fuel -> St σ ι H F W w->Fx σ ι H e a->Aec ops.toArray a.tmps.size -> (∀σ' ι' a' w',Le σ ι H σ' ι' H'->St σ' ι' H' F W w'->Fx σ' ι' H' e' a'->a'.tmps.size=a.tmps.size->a'.defers=a.defers->Gj (Y6 ops.toArray) a a'->Q .normal a' w') -> wpAny P .any ops.toArray Q fuel b a w
 | 0,b,l,e,H,σ,ι,a,w,hr,hp,J,a6,U,f,s,he,hs,C=>by have D:l = []:=eq_nil_of_length_eq_zero f;subst D;cases hr;refine⟨?_,C σ ι a w (Le.refl _ _ _) s he rfl rfl (Gj.refl _ _)⟩;apply eq_nil_iff_forall_not_mem.2;intro i hi;obtain⟨K,h2,_⟩:=Apm hi;have:=(J i).2 ⟨by simpa using K,h2⟩;cases this
 | fuel+1,b,l,e,H,σ,ι,a,w,hr,hp,J,a6,U,f,s,he,hs,C=>by
  unfold Ajs at N;have I:=N;simp only[F3,Et]at I;obtain⟨S,M⟩:=I;have u:∀(i:Nat) (o:Oper),ops[i]? = some o->(o,i)∈ops.zipIdx:=(by intro i o h;rw[mem_iff_getElem?];exact⟨i,by simp[getElem?_zipIdx,h]⟩);have A:∀(i:Nat) (o:Oper),ops[i]? = some o->∀x∈o.after.toList,Region.binds .any x=true->x.on<i:=(by intro i o h x hx hb;have:=S (o,i) (u i o h) x hx;simp only[hb,Bool.not_true,Bool.false_or]at this;exact Hb this);refine⟨λaa=>?_,λi hi=>?_⟩
  .exfalso;cases l with
   | nil=>simp at f
   | cons i l=>
    have R:=(J i).1 ψ;have:i∈Region.ready .any ops.toArray b:=by
     unfold Region.ready;rw[mem_filter];refine⟨by simpa using R.1,?_⟩;simp only[F3,Bool.not_eq_true'];refine⟨R.2,?_⟩;have ab:i<ops.length:=R.1;have ho:ops[i]? = some ops[i]:=getElem?_eq_getElem ab;have aq:ops.toArray[i]? = some ops[i]:=(by simp[ab]);rw[aq];simp only[Option.map_some,Option.getD_some];rw[<-Array.all_toList,Et];intro x hx;cases hb:Region.binds .any x with
     | false=>rfl
     | true=>
      simp only[Bool.not_true,Bool.false_or];have b6:=A i _ ho x hx hb;cases D:b.getD x.on true with
      | true=>have g:x.on<b.size:=ω;simp only[Array.getD_eq_getD_getElem?]at D ⊢;simpa[g] using D
      | false=>
       have a0:=(J x.on).2 ⟨ω,D⟩;simp only[mem_cons]at a0;rcases a0 with a0|a0
       .omega
       .have:=(pairwise_cons.1 hp).1 _ a0;omega
    rw[aa]at this;cases this
  .obtain⟨b0,az,ae⟩:=Apm hi;have q:i<ops.length:=(by simpa using b0);have ay:=(J i).2 ⟨q,az⟩;obtain⟨l1,l2,rfl⟩:=append_of_mem ay;have b7:ops[i]? = some ops[i]:=getElem?_eq_getElem q;have b5:ops.toArray[i]? = some ops[i]:=(by simp[q]);have z:∀(k:Nat) (o:Oper),ops[k]? = some o->(b.getD k false=true\/k=i)->∀j,((K9 ops []).getD k 0).testBit j=true->b.getD j false=true:=by
    intro k;induction k using Nat.strongRecOn with
    | _ k ih=>
     intro o C a3 j hj;have a7:=(Apk ops []).2.2 k o C;simp only[length_nil,Nat.zero_add]at a7;rw[a7]at hj;rcases Apl _ j _ _ hj with h0|⟨x,hx,hb,a8⟩
     .simp at h0
     .have V:b.getD x.on false=true:=by
       rcases a3 with a3|a3
       .exact U k o (by simpa using C) a3 x hx hb
       .subst a3;exact ae o (by simpa using C) x hx hb
      rcases a8 with rfl|a4
      .exact V
      .have X:=A k o C x hx hb;have am:x.on<ops.length:=(by have:=(Ha.1 C).1;omega);have e1:((K9 ops []).take k).getD x.on 0=(K9 ops []).getD x.on 0:=(by simp only[getD_eq_getElem?_getD];rw[Il X]);rw[e1]at a4;exact ih x.on X _ (getElem?_eq_getElem am) (.inl V) j a4
   have ad:∀j∈l1,∀o o',ops.toArray[j]? = some o->ops.toArray[i]? = some o'->Ind ops.toArray (λi=>accs.getD i ([],[])) j i o o':=by
    intro j hj o o' ar ax;have av:j<i:=(by have:=(pairwise_append.1 hp).2.2 j hj i ψ;exact this);have au:=(J j).1 (by simp[hj]);have ac:ops[j]? = some o:=(by simpa using ar);have L:ops[i]? = some o':=(by simpa using ax);have:=M (o',i) (u i o' L) (o,j) (u j o ac);simp only[Bool.or_eq_true,Bool.not_eq_true']at this;rcases this with (K|K) | K
    .have:Nat.blt j i=true:=(by unfold Nat.blt;exact Nat.ble_eq_true_of_le av);rw[this]at K;cases K
    .have h2:=z i o' L (.inr rfl) j K;have g:j<b.size:=ω;have h3:=au.2;simp only[Array.getD_eq_getD_getElem?]at h2 h3;simp[g]at h2 h3;rw[h2]at h3;cases h3
    .exact A1u (acc:=λi=>accs.getD i ([],[])) K
   have ai:=hr.bubble ad;refine ai.wpOp s he hs ?_;intro e1 H1 r1 σ1 ι1 a1 w1 ak s1 b4 E ag ap;have G:∀(k:Nat) (d:Bool),(b.setIfInBounds i true).getD k d=if k=i then true else b.getD k d:=by
    intro k d;simp only[Array.getD_eq_getD_getElem?];by_cases c:k=i
    .subst c;rw[if_pos rfl,Array.getElem?_setIfInBounds_self_of_lt ω];rfl
    .rw[if_neg c,Array.getElem?_setIfInBounds_ne ω]
   have B:∀k∈l1++l2,k≠i:=by
    intro k C e;subst e;rw[pairwise_append]at hp;rcases mem_append.1 C with C|C
    .have:=hp.2.2 k C k ψ;omega
    .have:=(pairwise_cons.1 hp.2.1).1 k C;omega
   refine Apn N fuel _ (l1++l2) e1 H1 σ1 ι1 a1 w1 r1 ?_ ?_ (by simpa using a6) ?_ (by simp at f ⊢;omega) s1 b4 (by rw[E];exact hs) ?_
   .rw[pairwise_append]at hp ⊢;exact⟨hp.1,(pairwise_cons.1 hp.2.1).2,λx hx y hy=>hp.2.2 x hx y (by simp[hy])⟩
   .intro k;rw[G];constructor
    .intro C;have K:=(J k).1 (by
      rcases mem_append.1 C with C|C
      .simp[C]
      .simp[C])
     rw[if_neg (B k C)];exact K
    .rintro⟨K,h2⟩;by_cases c:k=i
     .rw[if_pos c]at h2;cases h2
     .rw[if_neg c]at h2;have:=(J k).2 ⟨K,h2⟩;simp only[mem_append,mem_cons]at this ⊢;rcases this with h|h|h
      .exact .inl h
      .exact (c h).elim
      .exact .inr h
   .intro k o C D x hx ah;rw[G]at D ⊢;by_cases Y:x.on=i
    .rw[if_pos Y]
    .rw[if_neg Y];by_cases c:k=i
     .subst c;exact ae o C x hx ah
     .rw[if_neg c]at D;exact U k o C D x hx ah
   .intro σ2 ι2 a2 w2 aj s2 b3 Z af ao;exact C σ2 ι2 a2 w2 (ak.trans aj) s2 b3 (Z.trans E) (af.trans ag) (ap.trans ao)
end
end Go.Ab
