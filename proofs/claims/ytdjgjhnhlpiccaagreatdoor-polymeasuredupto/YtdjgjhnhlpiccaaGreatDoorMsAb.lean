/- A layer of abstract values over the model, and the conditions under which a function keeps its contract. -/
import Derived.Calls
import Derived.Orders
import Derived.Lib.ItoaNum
import Derived.Laws.CopyRow
import Derived.Laws.Cells
import Derived.Laws.Append
import Derived.Laws.IdiomStrings
import Derived.Lib.SliceRun
import Derived.Laws.FloatArith
import Derived.Laws.Cover2
import Derived.Laws.MakeOwn
import Derived.Lib.AppendStr
import Derived.MapKept
import Derived.WideKeyRuns
import Derived.Scope
open List
namespace Go.Ab
variable {i m n:Nat} {p:Prop} {α:Type _} {l:List α} {a:α}
abbrev OB:=Option Bool
theorem ζ (h:p:=by simp;omega):p:=h
theorem ω (h:p:=by omega):p:=h
theorem δ (h:p:=by decide):p:=h
theorem ψ (h:p:=by simp):p:=h
theorem G1:l[i]? = some a↔∃h:i<l.length,l[i]=a:=List.getElem?_eq_some_iff
theorem D8 {p:α->Bool}:l.all p=true↔∀x,x∈l->p x=true:=all_eq_true
theorem Fi (h:l[i]? = some a):a∈l:=mem_of_getElem? h
theorem Ha {xs:Array α}:xs.toList[i]? = xs[i]?:=Array.getElem?_toList
theorem G2 (h:n.ble m=true):n<=m:=Nat.le_of_ble_eq_true h
theorem Gk (h:n.beq m=true):n=m:=Nat.eq_of_beq_eq_true h
theorem Hz {j:Nat} (h:i<j):(l.take j)[i]? = l[i]?:=getElem?_take_of_lt h
variable {m n:Nat} {α:Type}
theorem Fe (a b:Bool):((a&&b)=true)=(a=true/\b=true):=Bool.and_eq_true a b
theorem E2 (a b c:Nat):(a+b)*c=a*c+b*c:=Nat.add_mul a b c
inductive AV where
 | val (v:Value)
 | loc (h off:Nat)
 | arr (h k off len:Nat)
 | el (h k i j:Nat)
 | mp (h:Nat)
 | ref (cs:List AV)
 | sl (sz:Nat) (xs:List AV)
 | agg (cs:List AV)
 | tup (cs:List AV)
 | fn (f:FuncId) (caps:List AV)
 | fb (s:ByteArray)
 | vec (h n:Nat)
inductive Bq where
 | none
 | dead
 | cells (elem:TypeId) (cs:List AV)
 | rows (elem:TypeId) (sz:Nat) (xs:List AV)
 | map (es:List (AV×AV))
abbrev Bx:=Nat->AV
abbrev Hp:=Nat->Bq
abbrev A7:=Nat->Option Obj
def Ay (e:Nat->α) (n:Nat) (v:α):Nat->α:=λm=>bif Nat.beq m n then v else e m
theorem Ce (e:Nat->α) (n:Nat) (v:α):Ay e n v n=v:=by simp[Ay]
theorem Cq (e:Nat->α) (v:α) (h:m≠n):Ay e n v m=e m:=by
 have:Nat.beq m n=false:=by
  cases hb:Nat.beq m n
  .rfl
  .exact absurd (Gk hb) h
 simp[Ay,this]
theorem Anw (e:Nat->α) (u v:α) (h:m≠n):Ay (Ay e n u) m v=Ay (Ay e m v) n u:=by
 funext k;by_cases h1:k=n
 .subst h1;rw[Cq _ _ (Ne.symm h),Ce,Ce]
 .by_cases h2:k=m
  .subst h2;rw[Ce,Cq _ _ h1,Ce]
  .rw[Cq _ _ h2,Cq _ _ h1,Cq _ _ h1,Cq _ _ h2]
def AV.cells:AV->List AV
 | .agg cs=>cs
 | .val (.agg vs)=>vs.toList.map .val
 | x=>[x]
def Fj:Value->Bool
 | .agg _ | .tuple _=>false
 | _=>true
def AV.one:AV->Bool
 | .agg _ | .tup _=>false
 | .val v=>Fj v
 | _=>true
inductive CC (σ:A7):AV->Value->Prop where
 | val (v:Value):CC σ (.val v) v
 | nil (sz:Nat) (a:Option Addr) (cap:Nat):CC σ (.sl sz []) (.slice a 0 cap)
 | sl (xs:List AV) (b off cap sz:Nat) (C:Array Value) (E:TypeId) (fr:Nat×Nat) (g:Nat->Nat->Value) (hσ:σ b=some (.cells C E fr))
   (hs:∀(i:Nat) (x:AV),xs[i]? = some x->x.cells.length=sz)
   (hc:∀(i:Nat) (x:AV) (j:Nat) (c:AV),xs[i]? = some x->x.cells[j]? = some c->CC σ c (g i j))
   (h1:∀(i:Nat) (x:AV) (j:Nat) (c:AV),xs[i]? = some x->x.cells[j]? = some c->Fj (g i j)=true)
   (hC:∀(i j:Nat),i<xs.length->j<sz->C[off+i*sz+j]? = some (g i j))
   (hl:xs.length<=140737488355328) (hcap:xs.length<=cap):CC σ (.sl sz xs) (.slice (some ⟨b,off,Option.none⟩) xs.length cap)
 | agg (cs:List AV) (vs:Array Value) (hl:vs.size=cs.length) (h:∀(i:Nat) (c:AV) (v:Value),cs[i]? = some c->vs[i]? = some v->CC σ c v):CC σ (.agg cs) (.agg vs)
 | fbn (s:ByteArray) (a:Option Addr) (cap:Nat) (h0:s.size=0):CC σ (.fb s) (.slice a 0 cap)
 | fb (s:ByteArray) (b cap:Nat) (C:Array Value) (hσ:σ b=some (.cells C 5 (0,s.size))) (h0:s.size≠0) (hcap:s.size<=cap) (hC:s.size<=C.size) (hl:s.size<=140737488355328)
   (hb:∀(j:Nat) (x:UInt8),s.data[j]? = some x->C[j]? = some (Value.int .u8 x.toNat)):CC σ (.fb s) (.slice (some ⟨b,0,Option.none⟩) s.size cap)
inductive Loc where
 | none
 | box (b:Nat)
 | nil
 | blk (b tot:Nat)
abbrev Ca:=Nat->Loc
def Loc.block?:Loc->Option Nat
 | .box b=>some b
 | .blk b _=>some b
 | _=>Option.none
def Hk (l:Loc) (sz off len:Nat) (v:Value):Prop := match l with
 | .nil=>v = .slice Option.none 0 0/\off=0/\len=0
 | .blk b c=>off+len<=c/\v = .slice (some ⟨b,off*sz,Option.none⟩) len (c-off)
 | _=>False
def Anx (l:Loc) (sz i j:Nat) (v:Value):Prop := match l with
 | .blk b _=>v = .pointer (some ⟨b,i*sz+j,Option.none⟩)
 | _=>False
inductive Conc (σ:A7) (ι:Ca) (H:Hp):AV->Value->Prop where
 | cc {a:AV} {v:Value} (h:CC σ a v):Conc σ ι H a v
 | loc (h off b:Nat) (hb:ι h = .box b):Conc σ ι H (.loc h off) (.pointer (some ⟨b,off,Option.none⟩))
 | mp (h b:Nat) (hb:ι h = .box b):Conc σ ι H (.mp h) (.map (some b))
 | vec (h n b:Nat) (hb:ι h = .box b):Conc σ ι H (.vec h n) (.slice (some ⟨b,0,Option.none⟩) n n)
 | arr (h k off len:Nat) (v:Value) (hn:H h≠.none) (hv:∀E sz xs,H h = .rows E sz xs->k<=xs.length/\(xs.length=k->Hk (ι h) sz off len v))
   (hone:Fj v=true):Conc σ ι H (.arr h k off len) v
 | el (h k i j:Nat) (v:Value) (hn:H h≠.none) (hv:∀E sz xs,H h = .rows E sz xs->k<=xs.length/\(xs.length=k->Anx (ι h) sz i j v))
   (hone:Fj v=true):Conc σ ι H (.el h k i j) v
 | ref (cs:List AV) (b off:Nat) (C:Array Value) (E:TypeId) (fr:Nat×Nat) (g:Nat->Value) (hσ:σ b=some (.cells C E fr))
   (hc:∀(j:Nat) (c:AV),cs[j]? = some c->CC σ c (g j)) (h1:∀(j:Nat) (c:AV),cs[j]? = some c->Fj (g j)=true)
   (hC:∀(j:Nat),j<cs.length->C[off+j]? = some (g j)):Conc σ ι H (.ref cs) (.pointer (some ⟨b,off,Option.none⟩))
 | agg (cs:List AV) (vs:Array Value) (hl:vs.size=cs.length) (h:∀(i:Nat) (c:AV) (v:Value),cs[i]? = some c->vs[i]? = some v->Conc σ ι H c v):Conc σ ι H (.agg cs) (.agg vs)
 | tup (cs:List AV) (vs:Array Value) (hl:vs.size=cs.length) (h:∀(i:Nat) (c:AV) (v:Value),cs[i]? = some c->vs[i]? = some v->Conc σ ι H c v):Conc σ ι H (.tup cs) (.tuple vs)
 | fn (f:FuncId) (caps:List AV) (vs:Array Value) (hl:vs.size=caps.length) (h:∀(i:Nat) (c:AV) (v:Value),caps[i]? = some c->vs[i]? = some v->Conc σ ι H c v) :
   Conc σ ι H (.fn f caps) (.func (.func f) #[] vs)
def A7.le (σ c:A7):Prop:=∀b o,σ b=some o->c b=some o
theorem A7.le_refl (σ:A7):σ.le σ:=λ_ _ h=>h
theorem A7.le_trans {σ f c:A7} (h:A7.le σ f) (h':A7.le f c):A7.le σ c:=λb o e=>h' b o (h b o e)
variable {σ:A7} {ι:Ca} {H H':Hp} {v:Value}
structure HLe (l:Loc) (o:Bq) (l':Loc) (o':Bq):Prop where
 box:∀b,l = .box b->l' = .box b
 some:o≠.none->o'≠.none
 rows:o≠.none->∀E' sz' xs',o' = .rows E' sz' xs'->∃E sz xs,o = .rows E sz xs/\(xs.length<xs'.length\/(xs.length=xs'.length/\sz=sz'/\l=l'))
theorem HLe.refl (l:Loc) (o:Bq):HLe l o l o := ⟨λ_ h=>h,λh=>h,λ_ E sz xs h=>⟨E,sz,xs,h,.inr ⟨rfl,rfl,rfl⟩⟩⟩
theorem HLe.trans {l y i:Loc} {o o' g:Bq} (h:HLe l o y o') (h':HLe y o' i g):HLe l o i g:=by
 refine⟨λb e=>h'.box b (h.box b e),λe=>h'.some (h.some e),λe u f c s=>?_⟩;obtain⟨G,k,j,e',x⟩:=h'.rows (h.some e) u f c s;obtain⟨E,sz,xs,D,r⟩:=h.rows e G k j e';refine⟨E,sz,xs,D,?_⟩;rcases r with r|⟨J,I,z⟩ <;> rcases x with x|⟨B,A,q⟩
 .left;omega
 .left;omega
 .left;omega
 .exact .inr ⟨ω,ω,z.trans q⟩
structure Le (σ:A7) (ι:Ca) (H:Hp) (σ':A7) (ι':Ca) (H':Hp):Prop where
 sto:σ.le σ'
 obj:∀h,HLe (ι h) (H h) (ι' h) (H' h)
theorem Le.refl (σ:A7) (ι:Ca) (H:Hp):Le σ ι H σ ι H:=⟨A7.le_refl σ,λ_=>HLe.refl _ _⟩
theorem Le.trans {g b:A7} {i c:Ca} {f:Hp} (h:Le σ ι H g i H') (h':Le g i H' b c f):Le σ ι H b c f := ⟨A7.le_trans h.sto h'.sto,λx=>(h.obj x).trans (h'.obj x)⟩
theorem CC.mono {l:A7} (q:σ.le l) {a:AV} (h:CC σ a v):CC l a v:=by induction h with| val v=>exact .val v| nil sz a cap=>exact .nil sz a cap| sl xs b off cap sz C E fr g i j _ h1 k f c ih=>exact .sl xs b off cap sz C E fr g (q _ _ i) j ih h1 k f c| agg cs vs f _ ih=>exact .agg cs vs f ih| fbn s a cap h0=>exact .fbn s a cap h0| fb s b cap C i h0 c k f hb=>exact .fb s b cap C (q _ _ i) h0 c k f hb
theorem Conc.mono {J:A7} {L:Ca} (q:Le σ ι H J L H') {a:AV} (h:Conc σ ι H a v):Conc J L H' a v:=by
 induction h with
 | cc h=>exact .cc (h.mono q.sto)
 | loc h off b hb=>exact .loc h off b ((q.obj h).box b hb)
 | mp h b hb=>exact .mp h b ((q.obj h).box b hb)
 | vec h n b hb=>exact .vec h n b ((q.obj h).box b hb)
 | arr h k off len v y hv l=>
  refine .arr h k off len v ((q.obj h).some y) (λI u s e=>?_) l;obtain⟨E,sz,xs,G,r⟩:=(q.obj h).rows y I u s e;obtain⟨hk,hv⟩:=hv E sz xs G;rcases r with r|⟨M,D,B⟩
  .exact⟨ω,λx=>ω⟩
  .rw[<-D,<-B];exact⟨ω,λx=>hv ω⟩
 | el h k i j v y hv l=>
  refine .el h k i j v ((q.obj h).some y) (λI u s e=>?_) l;obtain⟨E,sz,xs,G,r⟩:=(q.obj h).rows y I u s e;obtain⟨hk,hv⟩:=hv E sz xs G;rcases r with r|⟨M,D,B⟩
  .exact⟨ω,λx=>ω⟩
  .rw[<-D,<-B];exact⟨ω,λx=>hv ω⟩
 | ref cs b off C E fr g N hc h1 R=>exact .ref cs b off C E fr g (q.sto _ _ N) (λj c h=>(hc j c h).mono q.sto) h1 R
 | agg cs vs z _ ih=>exact .agg cs vs z ih
 | tup cs vs z _ ih=>exact .tup cs vs z ih
 | fn f A vs z _ ih=>exact .fn f A vs z ih
variable {F b σ:A7} {ι:Ca} {H:Hp} {W w:World}
def I8 (σ:A7) (sz:Nat) (xs:List AV) (C:Array Value):Prop := ∃g:Nat->Nat->Value,(∀(i:Nat) (x:AV),xs[i]? = some x->x.cells.length=sz) /\ (∀(i:Nat) (x:AV) (j:Nat) (c:AV),xs[i]? = some x->x.cells[j]? = some c->CC σ c (g i j)/\Fj (g i j)=true) /\ (∀(i j:Nat),i<xs.length->j<sz->C[i*sz+j]? = some (g i j))
def Tb (σ:A7) (es:List (AV×AV)) (M:Array MapEntry):Prop := M.size=es.length/\∀(i:Nat) (p:AV×AV) (e:MapEntry),es[i]? = some p->M[i]? = some e->CC σ p.1 e.key/\CC σ p.2 e.val
theorem Tb.mono (c:σ.le b) {es:List (AV×AV)} {M:Array MapEntry} (h:Tb σ es M):Tb b es M := ⟨h.1,λi p e h1 h2=>⟨(h.2 i p e h1 h2).1.mono c,(h.2 i p e h1 h2).2.mono c⟩⟩
def Cr (σ:A7) (ι:Ca) (H:Hp) (F:A7) (w:World) (h:Nat):Prop := match H h with
 | .none=>ι h = .none
 | .dead=>True
 | .cells E cs=>∃(b:Nat) (C:Array Value),ι h = .box b/\σ b=none/\F b=none/\w.heap[b]? = some (.cells C E (0,0))/\C.size=cs.length /\ ∀(i:Nat) (c:AV) (v:Value),cs[i]? = some c->C[i]? = some v->Conc σ ι H c v
 | .rows E sz xs=>0<sz/\xs.length<=140737488355328/\((ι h = .nil/\xs = [])\/∃(b f:Nat) (C:Array Value),ι h = .blk b f/\σ b=none/\F b=none /\ w.heap[b]? = some (.cells C E (0,0))/\C.size=f*sz/\xs.length<=f/\I8 σ sz xs C)
 | .map es=>∃(b:Nat) (M:Array MapEntry) (t:Nat),ι h = .box b/\σ b=none/\F b=none/\w.heap[b]? = some (.map M t)/\Tb σ es M
def Bq.live:Bq->Bool
 | .none | .dead=>false
 | _=>true
def Vr (σ:A7):Prop:=∃(E:TypeId) (fr:Nat×Nat),σ 0=some (.cells (Lib.pow10Tab.map λz=>Value.int .u64 z).toArray E fr)
theorem Vr.mono (h:σ.le b) (g:Vr σ):Vr b:=by obtain⟨E,fr,e⟩:=g;exact⟨E,fr,h _ _ e⟩
structure St (σ:A7) (ι:Ca) (H:Hp) (F:A7) (W w:World):Prop where
 sto:∀b o,σ b=some o->w.heap[b]? = some o
 fra:∀b o,F b=some o->w.heap[b]? = some o/\σ b=none
 obj:∀h,Cr σ ι H F w h
 inj:∀h h' b,(H h).live=true->(H h').live=true->(ι h).block? = some b->(ι h').block? = some b->h=h'
 os:w.os=W.os
 tape:w.tape=W.tape
 output:w.output=W.output
 glo:Vr σ
 drw:W.drawn<=w.drawn
theorem I8.mono (f:σ.le b) {sz:Nat} {xs:List AV} {C:Array Value} (h:I8 σ sz xs C):I8 b sz xs C:=by obtain⟨g,h1,h2,h3⟩:=h;exact⟨g,h1,λi x j c hx hc=>⟨((h2 i x j c hx hc).1).mono f,(h2 i x j c hx hc).2⟩,h3⟩
theorem St.block (s:St σ ι H F W w) {h b:Nat} (f:(H h).live=true) (hb:(ι h).block? = some b) : b<w.heap.size/\σ b=none/\F b=none:=by
 have c:=s.obj h;unfold Cr at c;cases hh:H h with
 | none=>rw[hh]at f;cases f
 | dead=>rw[hh]at f;cases f
 | cells E cs=>rw[hh]at c;obtain⟨g,C,e,h1,h2,h3,_⟩:=c;rw[e]at hb;simp[Loc.block?]at hb;subst hb;refine⟨?_,h1,h2⟩;exact (Array.getElem?_eq_some_iff.1 h3).1
 | rows E sz xs=>
  rw[hh]at c;obtain⟨_,_,⟨e,_⟩|⟨g,i,C,e,h1,h2,h3,_⟩⟩:=c
  .rw[e]at hb;simp[Loc.block?]at hb
  .rw[e]at hb;simp[Loc.block?]at hb;subst hb;exact⟨(Array.getElem?_eq_some_iff.1 h3).1,h1,h2⟩
 | map es=>rw[hh]at c;obtain⟨g,M,t,e,h1,h2,h3,_⟩:=c;rw[e]at hb;simp[Loc.block?]at hb;subst hb;exact⟨(Array.getElem?_eq_some_iff.1 h3).1,h1,h2⟩
theorem St.touch {I:A7} {J:Ca} {H':Hp} {w':World} (s:St σ ι H F W w) (h t:Nat) (X:∀x,x≠h->J x=ι x) (Y:∀x,x≠h->H' x=H x) (le:Le σ ι H I J H') (f:∀b,b≠t->w'.heap[b]? = w.heap[b]?) (N:∀b,b≠t->I b=σ b) (a1:∀o,I t=some o->w'.heap[t]? = some o) (j:∀x,x≠h->(H x).live=true->(ι x).block?≠some t) (hF:F t=none) (A:∀b,(H' h).live=true->(J h).block? = some b->b=t\/((H h).live=true/\(ι h).block? = some b)) (S:Cr I J H' F w' h) (a6:w'.os=w.os) (D:w'.tape=w.tape) (R:w'.output=w.output) (hdrw:w.drawn<=w'.drawn:=by exact Nat.le_refl _):St I J H' F W w':=by
 refine⟨?_,?_,?_,?_,a6.trans s.os,D.trans s.tape,R.trans s.output,s.glo.mono le.sto,Nat.le_trans s.drw hdrw⟩
 .intro b o hb;by_cases e:b=t
  .subst e;exact a1 o hb
  .rw[f b e];exact s.sto b o (by rw[<-N b e];exact hb)
 .intro b o hb;have e:b≠t:=(by intro e;subst e;rw[hF]at hb;cases hb);rw[f b e,N b e];exact s.fra b o hb
 .intro x;by_cases e:x=h
  .subst e;exact S
  .have z:=s.obj x;unfold Cr at z ⊢;rw[Y x e,X x e];cases hx:H x with
   | none=>rw[hx]at z;exact z
   | dead=>trivial
   | cells E cs=>rw[hx]at z;obtain⟨b,C,u,h1,h2,h3,U,h5⟩:=z;have g:b≠t:=(by intro l;subst l;exact j x e (by rw[hx];rfl) (by rw[u];rfl));exact⟨b,C,u,by rw[N b g];exact h1,h2,by rw[f b g];exact h3,U,λi c v hc hv=>(h5 i c v hc hv).mono le⟩
   | rows E sz xs=>
    rw[hx]at z;obtain⟨z1,z2,⟨u,e2⟩|⟨b,Z,C,u,h1,h2,h3,U,h5,h6⟩⟩:=z
    .exact⟨z1,z2,.inl ⟨u,e2⟩⟩
    .have g:b≠t:=(by intro l;subst l;exact j x e (by rw[hx];rfl) (by rw[u];rfl));exact⟨z1,z2,.inr ⟨b,Z,C,u,by rw[N b g];exact h1,h2,by rw[f b g];exact h3,U,h5,h6.mono le.sto⟩⟩
   | map es=>rw[hx]at z;obtain⟨b,M,q,u,h1,h2,h3,U⟩:=z;have g:b≠t:=(by intro l;subst l;exact j x e (by rw[hx];rfl) (by rw[u];rfl));exact⟨b,M,q,u,by rw[N b g];exact h1,h2,by rw[f b g];exact h3,U.mono le.sto⟩
 .intro x y b L G V k;by_cases ex:x=h
  .subst ex;by_cases B:y=x
   .exact B.symm
   .rw[Y y B]at G;rw[X y B]at k;rcases A b L V with e|⟨l0,b0⟩
    .subst e;exact (j y B G k).elim
    .exact s.inj x y b l0 G b0 k
  .rw[Y x ex]at L;rw[X x ex]at V;by_cases B:y=h
   .subst B;rcases A b G k with e|⟨l0,b0⟩
    .subst e;exact (j x ex L V).elim
    .exact s.inj x y b L l0 V b0
   .rw[Y y B]at G;rw[X y B]at k;exact s.inj x y b L G V k
theorem HLe.of_none {b:Loc} {o':Bq}:HLe .none .none b o':=⟨nofun,(λh=>(h rfl).elim),(λh=>(h rfl).elim)⟩
theorem Le.upd (c:σ.le b) (h:Nat) (l:Loc) (o:Bq) (hh:HLe (ι h) (H h) l o):Le σ ι H b (Ay ι h l) (Ay H h o):=by
 refine⟨c,λx=>?_⟩;by_cases e:x=h
 .subst e;rw[Ce,Ce];exact hh
 .rw[Cq _ _ e,Cq _ _ e];exact HLe.refl _ _
theorem Jm {α:Type} (e:Nat->α) (n:Nat):Ay e n (e n)=e:=by
 funext m;by_cases h:m=n
 .subst h;rw[Ce]
 .rw[Cq _ _ h]
theorem St.newBox (s:St σ ι H F W w) (h:Nat) (u:H h = .none) (E:TypeId) (cs:List AV) (C:Array Value) (l:C.size=cs.length) (hc:∀(i:Nat) (c:AV) (v:Value),cs[i]? = some c->C[i]? = some v->Conc σ ι H c v) : St σ (Ay ι h (.box w.heap.size)) (Ay H h (.cells E cs)) F W (w.alloc (.cells C E))/\Le σ ι H σ (Ay ι h (.box w.heap.size)) (Ay H h (.cells E cs)):=by
 have k:ι h = .none:=by have:=s.obj h;unfold Cr at this;rw[u]at this;exact this
 have le:Le σ ι H σ (Ay ι h (.box w.heap.size)) (Ay H h (.cells E cs)):=Le.upd (A7.le_refl σ) h _ _ (by rw[k,u];exact HLe.of_none);have f:∀(S:A7),(∀b o,S b=some o->w.heap[b]? = some o)->S w.heap.size=none:=by intro S y;cases e:S w.heap.size with| none=>rfl| some o=>have:=y _ _ e;simp at this
 have g:=f σ s.sto;have j:=f F (λb o hb=>(s.fra b o hb).1);refine⟨s.touch h w.heap.size (λx e=>Cq _ _ e) (λx e=>Cq _ _ e) le ?_ (λ_ _=>rfl) (λo q=>by rw[g]at q;cases q) ?_ j ?_ ?_ rfl rfl rfl,le⟩
 .intro b hb;show (w.heap.push _)[b]? = _;rw[Array.getElem?_push,if_neg hb]
 .intro x e l hb;have:=(s.block l hb).1;omega
 .intro b _ hb;rw[Ce]at hb;simp[Loc.block?]at hb;exact .inl hb.symm
 .unfold Cr;rw[Ce];refine⟨w.heap.size,C,Ce _ _ _,g,j,?_,l,λi c v h1 h2=>(hc i c v h1 h2).mono le⟩;show (w.heap.push _)[w.heap.size]? = _;simp
theorem St.newFrozen (s:St σ ι H F W w) (o:Obj) : St (Ay σ w.heap.size (some o)) ι H F W (w.alloc o)/\Le σ ι H (Ay σ w.heap.size (some o)) ι H:=by
 have k:∀(S:A7),(∀b o,S b=some o->w.heap[b]? = some o)->S w.heap.size=none:=by intro S G;cases e:S w.heap.size with| none=>rfl| some o=>have:=G _ _ e;simp at this
 have z:=k σ s.sto;have A:=k F (λb o hb=>(s.fra b o hb).1);have j:σ.le (Ay σ w.heap.size (some o)):=by intro b o' hb;rw[Cq _ _ (by intro e;subst e;rw[z]at hb;cases hb)];exact hb
 have le:Le σ ι H (Ay σ w.heap.size (some o)) ι H:=⟨j,λ_=>HLe.refl _ _⟩;have f:∀b,b≠w.heap.size->(w.alloc o).heap[b]? = w.heap[b]?:=by intro b hb;show (w.heap.push _)[b]? = _;rw[Array.getElem?_push,if_neg hb]
 refine⟨⟨?_,?_,?_,s.inj,s.os,s.tape,s.output,s.glo.mono j,s.drw⟩,le⟩
 .intro b o' hb;by_cases e:b=w.heap.size
  .subst e;rw[Ce]at hb;cases hb;show (w.heap.push _)[w.heap.size]? = _;simp
  .rw[Cq _ _ e]at hb;rw[f b e];exact s.sto b o' hb
 .intro b o' hb;have e:b≠w.heap.size:=(by intro e;subst e;rw[A]at hb;cases hb);rw[f b e,Cq _ _ e];exact s.fra b o' hb
 .intro x;have h:=s.obj x;unfold Cr at h ⊢;cases hx:H x with
  | none=>rw[hx]at h;exact h
  | dead=>trivial
  | cells E cs=>rw[hx]at h;obtain⟨b,C,l,h1,h2,h3,u,B⟩:=h;have g:b≠w.heap.size:=(by have:=(Array.getElem?_eq_some_iff.1 h3).1;omega);exact⟨b,C,l,by rw[Cq _ _ g];exact h1,h2,by rw[f b g];exact h3,u,λi c v hc hv=>(B i c v hc hv).mono le⟩
  | rows E sz xs=>
   rw[hx]at h;obtain⟨D,z2,⟨l,J⟩|⟨b,y,C,l,h1,h2,h3,u,B,I⟩⟩:=h
   .exact⟨D,z2,.inl ⟨l,J⟩⟩
   .have g:b≠w.heap.size:=(by have:=(Array.getElem?_eq_some_iff.1 h3).1;omega);exact⟨D,z2,.inr ⟨b,y,C,l,by rw[Cq _ _ g];exact h1,h2,by rw[f b g];exact h3,u,B,I.mono j⟩⟩
  | map es=>rw[hx]at h;obtain⟨b,M,q,l,h1,h2,h3,u⟩:=h;have g:b≠w.heap.size:=(by have:=(Array.getElem?_eq_some_iff.1 h3).1;omega);exact⟨b,M,q,l,by rw[Cq _ _ g];exact h1,h2,by rw[f b g];exact h3,u.mono j⟩
theorem St.drew (s:St σ ι H F W w) (n:Nat) (b:w.drawn<=n:=by first|exact Nat.le_succ _|exact Nat.le_refl _|omega):St σ ι H F W {w with drawn:=n}:=by refine⟨s.sto,s.fra,λh=>?_,s.inj,s.os,s.tape,s.output,s.glo,Nat.le_trans s.drw b⟩;have:=s.obj h;unfold Cr at this ⊢;exact this
theorem Aib (w:World) (g b:Nat) (C:Array Value) (h:b≠g):(w.setRow g C).heap[b]? = w.heap[b]?:=by simp only[World.setRow,Array.getElem?_modify];rw[if_neg ω]
theorem St.setBox (s:St σ ι H F W w) (h:Nat) (E:TypeId) (cs f:List AV) (hh:H h = .cells E cs) (b:Nat) (hb:ι h = .box b) (g:Array Value) (k:g.size=f.length) (hc:∀(i:Nat) (c:AV) (v:Value),f[i]? = some c->g[i]? = some v->Conc σ ι H c v) : St σ ι (Ay H h (.cells E f)) F W (w.setRow b g)/\Le σ ι H σ ι (Ay H h (.cells E f)):=by
 have j:=s.obj h;unfold Cr at j;rw[hh]at j;obtain⟨D,C,u,h1,h2,h3,A,z⟩:=j;rw[hb]at u;cases u;have le:Le σ ι H σ ι (Ay H h (.cells E f)):=by have:=Le.upd (ι:=ι) (H:=H) (A7.le_refl σ) h (ι h) (.cells E f) (by rw[hh];exact⟨λ_ e=>e,(λ_ e=>by cases e),(λ_ _ _ _ e=>by cases e)⟩);rwa [Jm]at this
 refine⟨s.touch h b (λ_ _=>rfl) (λx e=>Cq _ _ e) le (λx e=>Aib w b x g e) (λ_ _=>rfl) (λo e=>by rw[h1]at e;cases e) ?_ h2 ?_ ?_ rfl rfl rfl,le⟩
 .intro x e k l;exact e (s.inj x h b k (by rw[hh];rfl) l (by rw[hb];rfl))
 .intro B _ q;exact .inr ⟨by rw[hh];rfl,q⟩
 .unfold Cr;rw[Ce];exact⟨b,g,hb,h1,h2,setRow_heap w b C g E (0,0) h3,k,λi c v x y=>(hc i c v x y).mono le⟩
theorem St.setRows (s:St σ ι H F W w) (h:Nat) (E:TypeId) (sz:Nat) (xs c:List AV) (hh:H h = .rows E sz xs) (b f:Nat) (hb:ι h = .blk b f) (k:c.length=xs.length) (g:Array Value) (D:g.size=f*sz) (B:I8 σ sz c g) : St σ ι (Ay H h (.rows E sz c)) F W (w.setRow b g)/\Le σ ι H σ ι (Ay H h (.rows E sz c)):=by
 have j:=s.obj h;unfold Cr at j;rw[hh]at j;obtain⟨y,z2,⟨i,L⟩|⟨N,u,C,i,h1,h2,h3,J,I,G⟩⟩:=j
 .rw[hb]at i;cases i
 rw[hb]at i;cases i;have le:Le σ ι H σ ι (Ay H h (.rows E sz c)):=by have:=Le.upd (ι:=ι) (H:=H) (A7.le_refl σ) h (ι h) (.rows E sz c) (by rw[hh];exact⟨λ_ e=>e,(λ_ e=>by cases e),λ_ R A z e=>by cases e;exact⟨E,sz,xs,rfl,.inr ⟨k.symm,rfl,rfl⟩⟩⟩);rwa [Jm]at this
 refine⟨s.touch h b (λ_ _=>rfl) (λx e=>Cq _ _ e) le (λx e=>Aib w b x g e) (λ_ _=>rfl) (λo e=>by rw[h1]at e;cases e) ?_ h2 ?_ ?_ rfl rfl rfl,le⟩
 .intro x e k l;exact e (s.inj x h b k (by rw[hh];rfl) l (by rw[hb];rfl))
 .intro M _ q;exact .inr ⟨by rw[hh];rfl,q⟩
 .unfold Cr;rw[Ce];exact⟨y,ω,.inr ⟨b,f,g,hb,h1,h2,setRow_heap w b C g E (0,0) h3,D,ω,B⟩⟩
theorem St.growIn (s:St σ ι H F W w) (h:Nat) (E:TypeId) (sz:Nat) (xs c:List AV) (hh:H h = .rows E sz xs) (b f:Nat) (hb:ι h = .blk b f) (k:xs.length<c.length) (D:c.length<=140737488355328) (ht:c.length<=f) (g:Array Value) (G:g.size=f*sz) (B:I8 σ sz c g) : St σ ι (Ay H h (.rows E sz c)) F W (w.setRow b g)/\Le σ ι H σ ι (Ay H h (.rows E sz c)):=by
 have j:=s.obj h;unfold Cr at j;rw[hh]at j;obtain⟨y,z2,⟨i,M⟩|⟨R,u,C,i,h1,h2,h3,L,J,I⟩⟩:=j
 .rw[hb]at i;cases i
 rw[hb]at i;cases i;have le:Le σ ι H σ ι (Ay H h (.rows E sz c)):=by have:=Le.upd (ι:=ι) (H:=H) (A7.le_refl σ) h (ι h) (.rows E sz c) (by rw[hh];exact⟨λ_ e=>e,(λ_ e=>by cases e),λ_ S A z e=>by cases e;exact⟨E,sz,xs,rfl,.inl k⟩⟩);rwa [Jm]at this
 refine⟨s.touch h b (λ_ _=>rfl) (λx e=>Cq _ _ e) le (λx e=>Aib w b x g e) (λ_ _=>rfl) (λo e=>by rw[h1]at e;cases e) ?_ h2 ?_ ?_ rfl rfl rfl,le⟩
 .intro x e k l;exact e (s.inj x h b k (by rw[hh];rfl) l (by rw[hb];rfl))
 .intro N _ q;exact .inr ⟨by rw[hh];rfl,q⟩
 .unfold Cr;rw[Ce];exact⟨y,D,.inr ⟨b,f,g,hb,h1,h2,setRow_heap w b C g E (0,0) h3,G,ht,B⟩⟩
theorem St.fresh (s:St σ ι H F W w):σ w.heap.size=none/\F w.heap.size=none:=by
 have c:∀(S:A7),(∀b o,S b=some o->w.heap[b]? = some o)->S w.heap.size=none:=by intro S f;cases e:S w.heap.size with| none=>rfl| some o=>have:=f _ _ e;simp at this
 exact⟨c σ s.sto,c F (λb o hb=>(s.fra b o hb).1)⟩
theorem St.newRows (s:St σ ι H F W w) (h:Nat) (E:TypeId) (sz:Nat) (xs:List AV) (c:Nat) (C:Array Value) (hh:H h = .none\/∃y g f,H h = .rows y g f/\f.length<xs.length) (G:0<sz) (J:xs.length<=140737488355328) (ht:xs.length<=c) (M:C.size=c*sz) (I:I8 σ sz xs C) : St σ (Ay ι h (.blk w.heap.size c)) (Ay H h (.rows E sz xs)) F W (w.alloc (.cells C E))/\Le σ ι H σ (Ay ι h (.blk w.heap.size c)) (Ay H h (.rows E sz xs)):=by
 obtain⟨i,k⟩:=s.fresh;have le:Le σ ι H σ (Ay ι h (.blk w.heap.size c)) (Ay H h (.rows E sz xs)):=by
  refine Le.upd (A7.le_refl σ) h _ _ ?_;rcases hh with j|⟨y,g,f,j,q⟩
  .have l:ι h = .none:=(by have:=s.obj h;unfold Cr at this;rw[j]at this;exact this);rw[l,j];exact HLe.of_none
  .rw[j];refine⟨λb e=>?_,(λ_ e=>by cases e),λ_ R D B e=>by cases e;exact⟨y,g,f,rfl,.inl q⟩⟩;have:=s.obj h;unfold Cr at this;rw[j]at this;obtain⟨_,_,⟨u,_⟩|⟨N,z,C,u,_⟩⟩:=this <;> rw[e]at u <;> cases u
 refine⟨s.touch h w.heap.size (λx e=>Cq _ _ e) (λx e=>Cq _ _ e) le ?_ (λ_ _=>rfl) (λo A=>by rw[i]at A;cases A) ?_ k ?_ ?_ rfl rfl rfl,le⟩
 .intro b hb;show (w.heap.push _)[b]? = _;rw[Array.getElem?_push,if_neg hb]
 .intro x e L hb;have:=(s.block L hb).1;omega
 .intro b _ hb;rw[Ce]at hb;simp[Loc.block?]at hb;exact .inl hb.symm
 .unfold Cr;rw[Ce];refine⟨G,J,.inr ⟨w.heap.size,c,C,Ce _ _ _,i,k,?_,M,ht,I⟩⟩;show (w.heap.push _)[w.heap.size]? = _;simp
theorem St.newNil (s:St σ ι H F W w) (h:Nat) (j:H h = .none) (E:TypeId) (sz:Nat) (k:0<sz) : St σ (Ay ι h .nil) (Ay H h (.rows E sz [])) F W w/\Le σ ι H σ (Ay ι h .nil) (Ay H h (.rows E sz [])):=by
 obtain⟨c,g⟩:=s.fresh;have f:ι h = .none:=by have:=s.obj h;unfold Cr at this;rw[j]at this;exact this
 have le:Le σ ι H σ (Ay ι h .nil) (Ay H h (.rows E sz [])):=Le.upd (A7.le_refl σ) h _ _ (by rw[f,j];exact HLe.of_none);refine⟨s.touch h w.heap.size (λx e=>Cq _ _ e) (λx e=>Cq _ _ e) le (λ_ _=>rfl) (λ_ _=>rfl) (λo i=>by rw[c]at i;cases i) ?_ g ?_ ?_ rfl rfl rfl,le⟩
 .intro x e l hb;have:=(s.block l hb).1;omega
 .intro b _ hb;rw[Ce]at hb;simp[Loc.block?]at hb
 .unfold Cr;rw[Ce];exact⟨k,ψ,.inl ⟨Ce _ _ _,rfl⟩⟩
inductive TD where
 | int (k:IntKind)
 | bool
 | string
 | slice (e:TypeId)
 | struct (fs:List (Nat×Nat))
 | map (k e:TypeId)
 | float (k:FloatKind)
 | other
structure TI where
 d:TD
 size:Nat
 bytes:Nat
 zero:List Value
def TI.isAgg (i:TI):Bool := match i.d with
 | .struct _=>true
 | _=>false
def zok (u:TypeDesc) (z:Value):Bool := match u with
 | .struct _=>(match z with|.agg _=>true|_=>false)
 | _=>Fj z
def I9 (P:Program) (t:TypeId):Option TI := match P.info? t,P.underlying t with
 | some b,some u=> match b.zero with
  | none=>none
  | some z=> bif !(zok u z) then none else match u with
   | .int k=>some ⟨.int k,b.size,b.bytes,z.cells.toList⟩
   | .bool=>some ⟨.bool,b.size,b.bytes,z.cells.toList⟩
   | .string=>some ⟨.string,b.size,b.bytes,z.cells.toList⟩
   | .slice e=>some ⟨.slice e,b.size,b.bytes,z.cells.toList⟩
   | .map k e=>some ⟨.map k e,b.size,b.bytes,z.cells.toList⟩
   | .float k=>some ⟨.float k,b.size,b.bytes,z.cells.toList⟩
   | .struct fields=> if (fields.toList.all λf=>decide (0<P.cellsOf f.type)) then some ⟨.struct (fields.toList.map λf=>(f.offset,P.cellsOf f.type)),b.size,b.bytes,z.cells.toList⟩ else none
   | .array _ _=>none
   | _=>some ⟨.other,b.size,b.bytes,z.cells.toList⟩
 | _,_=>none
abbrev Dc:=Nat->Option TI
def Dd (P:Program) (T:Dc):Prop:=∀t i,T t=some i->I9 P t=some i
structure Eff where
 r:AV
 rd:List (Nat×Bq)
 wr:List (Nat×Bq)
def Ci (H:Hp):List (Nat×Bq)->Hp
 | []=>H
 | p::l=>Ci (Ay H p.1 p.2) l
def Nx (cs:List AV) (off:Nat) (new:List AV):List AV:=cs.take off++(new++cs.drop (off+new.length))
def Vs (fs:List (Nat×Nat)):List AV->List (Nat×AV)->Option (List AV)
 | cs,[]=>some cs
 | cs,p::rest=> match fs[p.1]? with
  | none=>none
  | some q=>bif Nat.beq p.2.cells.length q.2&&Nat.ble (q.1+q.2) cs.length then Vs fs (Nx cs q.1 p.2.cells) rest else none
def AV.cl1:AV->Bool
 | .val v=>Fj v
 | .sl _ _=>true
 | _=>false
def Ma (sz:Nat) (x:AV):Bool:=Nat.beq x.cells.length sz&&x.cells.all AV.cl1
def AV.isPtr:AV->Bool
 | .loc .. | .ref _ | .fn ..=>true
 | _=>false
def AV.free1:AV->Bool
 | .agg cs=>cs.all AV.cl1
 | x=>x.cl1
def AV.free:AV->Bool
 | .val _ | .sl _ _ | .ref _=>true
 | .agg cs=>cs.all AV.cl1
 | .tup cs=>cs.all AV.free1
 | .fn _ cs=>cs.all AV.cl1
 | _=>false
def Aic (op:BinOp) (a b:Int):Option Bool := match op with
 | .eql=>some (a==b)
 | .neq=>some (a != b)
 | .lss=>some (decide (a<b))
 | .leq=>some (decide (a<=b))
 | .gtr=>some (decide (a>b))
 | .geq=>some (decide (a>=b))
 | _=>none
section conc
variable {σ:A7} {ι:Ca} {H:Hp}
variable {x:AV} {v:Value}
theorem Conc.val_inv {u:Value} (h:Conc σ ι H (.val u) v):v=u:=by cases h with| cc h=>cases h;rfl
theorem Conc.of_val (v:Value):Conc σ ι H (.val v) v:=.cc (.val v)
theorem Conc.sl_inv {sz:Nat} {xs:List AV} (h:Conc σ ι H (.sl sz xs) v):CC σ (.sl sz xs) v:=by cases h with| cc h=>exact h
theorem Conc.agg_inv {cs:List AV} (h:Conc σ ι H (.agg cs) v) : ∃vs:Array Value,v = .agg vs/\vs.size=cs.length/\∀(i:Nat) (c:AV) (u:Value),cs[i]? = some c->vs[i]? = some u->Conc σ ι H c u:=by
 cases h with
 | cc h=>cases h with
  | agg cs vs b h=>exact⟨vs,rfl,b,λi c u h1 h2=>.cc (h i c u h1 h2)⟩
 | agg cs vs b h=>exact⟨vs,rfl,b,h⟩
theorem Conc.tup_inv {cs:List AV} (h:Conc σ ι H (.tup cs) v) : ∃vs:Array Value,v = .tuple vs/\vs.size=cs.length/\∀(i:Nat) (c:AV) (u:Value),cs[i]? = some c->vs[i]? = some u->Conc σ ι H c u:=by cases h with| cc h=>cases h| tup cs vs b h=>exact⟨vs,rfl,b,h⟩
theorem Conc.loc_inv {x off:Nat} (h:Conc σ ι H (.loc x off) v):∃b,ι x = .box b/\v = .pointer (some ⟨b,off,none⟩):=by cases h with| cc h=>cases h| loc _ _ b hb=>exact⟨b,hb,rfl⟩
theorem Conc.vec_inv {x n:Nat} (h:Conc σ ι H (.vec x n) v):∃b,ι x = .box b/\v = .slice (some ⟨b,0,none⟩) n n:=by cases h with| cc h=>cases h| vec _ _ b hb=>exact⟨b,hb,rfl⟩
theorem Conc.one_of (hx:x.one=true) (h:Conc σ ι H x v):Fj v=true:=by
 cases h with
 | cc h=>cases h with
  | val v=>exact hx
  | nil=>rfl
  | sl=>rfl
  | fbn=>rfl
  | fb=>rfl
  | agg=>cases hx
 | loc=>rfl
 | mp=>rfl
 | vec=>rfl
 | arr _ _ _ _ _ _ _ h=>exact h
 | el _ _ _ _ _ _ _ h=>exact h
 | ref=>rfl
 | agg=>cases hx
 | tup=>cases hx
 | fn=>rfl
theorem Aid {α:Type} {x y:α} {i:Nat} (h:[x][i]? = some y):i=0/\y=x:=by cases i with| zero=>simp at h;exact⟨rfl,h.symm⟩| succ n=>simp at h
theorem Conc.cells (h:Conc σ ι H x v) : v.cells.size=x.cells.length/\∀(i:Nat) (c:AV) (u:Value),x.cells[i]? = some c->v.cells[i]? = some u->Conc σ ι H c u:=by
 have single:∀(x:AV) (v:Value),Conc σ ι H x v->x.cells = [x]->v.cells = #[v] ->
   v.cells.size=x.cells.length/\∀(i:Nat) (c:AV) (u:Value),x.cells[i]? = some c->v.cells[i]? = some u->Conc σ ι H c u:=by intro x v h J I;rw[J,I];refine⟨rfl,λi c u h1 h2=>?_⟩;obtain⟨rfl,rfl⟩:=Aid h1;simp at h2;subst h2;exact h
 cases h with
 | cc hc=>
  cases hc with
  | val v=>cases v with| agg vs=>refine⟨by simp[Value.cells,AV.cells],λi c u h1 h2=>?_⟩;simp only[AV.cells,Value.cells,getElem?_map]at h1 h2;rw[Ha,h2]at h1;simp at h1;subst h1;exact .of_val u| _=>exact single _ _ (.of_val _) rfl rfl
  | nil sz a cap=>exact single _ _ (.cc (.nil sz a cap)) rfl rfl
  | sl xs b off cap sz C E fr g z G hc h1 A q y=>exact single _ _ (.cc (.sl xs b off cap sz C E fr g z G hc h1 A q y)) rfl rfl
  | agg cs vs q h=>exact⟨q,λi c u h1 h2=>.cc (h i c u h1 h2)⟩
  | fbn s a cap h0=>exact single _ _ (.cc (.fbn s a cap h0)) rfl rfl
  | fb s b cap C z h0 y A q hb=>exact single _ _ (.cc (.fb s b cap C z h0 y A q hb)) rfl rfl
 | loc x off b hb=>exact single _ _ (.loc x off b hb) rfl rfl
 | mp x b hb=>exact single _ _ (.mp x b hb) rfl rfl
 | vec x n b hb=>exact single _ _ (.vec x n b hb) rfl rfl
 | arr x k off len v D hv l=>exact single _ _ (.arr x k off len v D hv l) rfl (by cases v <;> first|rfl|cases l)
 | el x k i j v D hv l=>exact single _ _ (.el x k i j v D hv l) rfl (by cases v <;> first|rfl|cases l)
 | ref cs b off C E fr g z hc h1 A=>exact single _ _ (.ref cs b off C E fr g z hc h1 A) rfl rfl
 | agg cs vs q h=>exact⟨q,h⟩
 | tup cs vs q h=>exact single _ _ (.tup cs vs q h) rfl rfl
 | fn f B vs q h=>exact single _ _ (.fn f B vs q h) rfl rfl
theorem Conc.cc_of (hx:x.cl1=true) (h:Conc σ ι H x v):CC σ x v/\Fj v=true:=by
 cases h with
 | cc h=>cases h with
  | val v=>exact⟨.val v,hx⟩
  | nil sz a cap=>exact⟨.nil sz a cap,rfl⟩
  | sl xs b off cap sz C E fr g f i hc h1 k j c=>exact⟨.sl xs b off cap sz C E fr g f i hc h1 k j c,rfl⟩
  | agg=>cases hx
  | fbn=>cases hx
  | fb=>cases hx
 | _=>cases hx
end conc
def Ch (P:Program) (o:Oper) (ρ:Operand->AV) (b:Eff):Prop := ∀(σ:A7) (ι:Ca) (H:Hp) (F:A7) (W w:World) (a:Act) (next:Act->World->Prop) (Q:Exit->Act->World->Prop), St σ ι H F W w->(∀x∈o.op.operands.toList,Conc σ ι H (ρ x) (a.eval x))->(∀p∈b.rd,H p.1=p.2) -> (∀c f v w',Le σ ι H c f (Ci H b.wr)->St c f (Ci H b.wr) F W w'->Conc c f (Ci H b.wr) b.r v->next (a.put o.dst v) w')->o.wp P a w next Q
section
variable {P:Program} {o:Oper} {ρ:Operand->AV} {a:Act} {w w':World} {next:Act->World->Prop} {Q:Exit->Act->World->Prop}
variable {p:Addr} {T:Dc} {h off:Nat} {x:Operand} {i:TI} {E t:TypeId} {v:Value}
theorem F4 (h:(execOp a.eval o).run P w = .ok (.value v) w') (b:next (a.put o.dst v) w'):o.wp P a w next Q:=by unfold Oper.wp;rw[h];exact b
theorem Ac1 (h:(execOp a.eval o).run P w = .ok .skip w') (b:next (a.put o.dst undef) w'):o.wp P a w next Q:=by unfold Oper.wp;rw[h];exact b
theorem Ff {r:AV} (h:∀σ ι H a w,(∀x∈o.op.operands.toList,Conc σ ι H (ρ x) (Act.eval a x))->∃v,(execOp a.eval o).run P w = .ok (.value v) w/\Conc σ ι H r v) : Ch P o ρ ⟨r,[],[]⟩:=by
 intro σ ι H F W w a next Q s hx _ hk
 obtain⟨v,b,hc⟩:=h σ ι H a w hx;exact F4 b (hk σ ι v w (Le.refl _ _ _) s hc)
theorem Ayw (b:o.op = .move x):Ch P o ρ ⟨ρ x,[],[]⟩ := Ff λσ ι H a w hx=>⟨a.eval x,by simp[execOp,b],hx x (by simp[b,Op.operands])⟩
theorem Vt (b:o.op = .assign x):Ch P o ρ ⟨ρ x,[],[]⟩ := Ff λσ ι H a w hx=>⟨a.eval x,by simp[execOp,b],hx x (by simp[b,Op.operands])⟩
theorem Ayx {c y:Operand} {t:Bool} (b:o.op = .pick c x y) (hc:ρ c = .val (.bool t)):Ch P o ρ ⟨bif t then ρ x else ρ y,[],[]⟩ := Ff λσ ι H a w hx=>by have h1:=hx c (by simp[b,Op.operands]);rw[hc]at h1;have h1:=h1.val_inv;cases t with| true=>exact⟨a.eval x,by simp[execOp,b,h1,asBool],hx x (by simp[b,Op.operands])⟩| false=>exact⟨a.eval y,by simp[execOp,b,h1,asBool],hx y (by simp[b,Op.operands])⟩
theorem En (h:I9 P t=some i) : ∃b u z,P.info? t=some b/\P.underlying t=some u/\b.zero=some z/\b.size=i.size/\b.bytes=i.bytes/\i.zero=z.cells.toList /\ (match i.d with
       | .int k=>u = .int k
       | .bool=>u = .bool
       | .string=>u = .string
       | .slice e=>u = .slice e
       | .map k e=>u = .map k e
       | .float k=>u = .float k
       | .struct fs=>∃fields,u = .struct fields/\fs=fields.toList.map (λf=>(f.offset,P.cellsOf f.type))/\∀f∈fields.toList,0<P.cellsOf f.type
       | .other=>(∀fs,u≠.struct fs)/\(∀n e,u≠.array n e)):=by
  unfold I9 at h;split at h
  . rename_i b u hi hu;split at h
    . cases h
    . rename_i z j;refine⟨b,u,z,hi,hu,j,?_⟩;cases g:zok u z with
      | false=>rw[g]at h;cases h
      | true=>
      rw[g]at h;simp only[Bool.not_true,cond_false]at h;split at h;all_goals first
        | (cases h;done)
        | (cases h;refine⟨rfl,rfl,rfl,?_⟩;first|rfl|exact⟨(by intro fs e;simp_all),(by intro n e' e;simp_all)⟩)
        | skip
      . split at h
        . rename_i c;cases h;refine⟨rfl,rfl,rfl,_,rfl,rfl,?_⟩;intro f hf;simp only[D8,decide_eq_true_eq]at c;exact c f hf
        . cases h
  . cases h
theorem Anz (h:I9 P t=some i) (w:World) : ∃z,(zeroValue t).run P w = .ok z w/\z.cells.toList=i.zero/\(i.isAgg=true->∃vs,z = .agg vs)/\(i.isAgg=false->Fj z=true):=by
  obtain⟨j,u,z,h1,h2,h3,x,s,l,c⟩:=En h;refine⟨z,by simp[zeroValue,typeInfo,program,Sem.run,h1,h3],l.symm,?_⟩;have b:zok u z=true:=(by unfold I9 at h;rw[h1,h2]at h;simp only[h3]at h;cases g:zok u z with| false=>rw[g]at h;cases h| true=>rfl);unfold TI.isAgg;cases hd:i.d <;> rw[hd]at c <;> simp only[]at c ⊢;all_goals first
    | (subst c;exact⟨nofun,λ_=>b⟩)
    | (obtain⟨f,rfl,_⟩:=c
       refine⟨λ_=>?_,λh=>by cases h⟩
       unfold zok at b
       cases z <;> first|exact⟨_,rfl⟩|cases b)
    | (obtain⟨k,q⟩:=c
       refine⟨nofun,λ_=>?_⟩
       unfold zok at b
       cases u <;> first|exact b|exact (k _ rfl).elim)
theorem Ac2 (h:I9 P t=some i) (w:World):(isAgg t).run P w = .ok i.isAgg w:=by
 obtain⟨c,u,z,h1,h2,h3,q,l,k,b⟩:=En h;unfold isAgg TI.isAgg;rw[Sem.run_bind,run_underlying h2];cases hd:i.d <;> rw[hd]at b <;> simp only[Result.andThen_ok];all_goals first
  | (subst b;rfl)
  | (obtain⟨f,rfl,_⟩:=b;rfl)
  | (obtain⟨j,g⟩:=b;cases u <;> first|rfl|exact (j _ rfl).elim|exact (g _ _ rfl).elim)
theorem Ny (h:I9 P t=some i) (w:World):(sizeOf t).run P w = .ok i.size w:=by obtain⟨b,u,z,h1,h2,h3,c,j,g,f⟩:=En h;simp[sizeOf,typeInfo,program,Sem.run,h1,c]
theorem An0 (h:I9 P t=some i) (w:World):∃z:Value,z.cells.toList=i.zero/\(zeroValue t).run P w = .ok z w:=by obtain⟨b,u,z,h1,h2,h3,j,g,c,f⟩:=En h;exact⟨z,c.symm,by simp[zeroValue,typeInfo,program,Sem.run,h1,h3]⟩
theorem Ayy (q:Dd P T) (h:Nat) (k:o.op = .alloc t) (ht:T t=some i) : Ch P o ρ ⟨.loc h 0,[(h,.none)],[(h,.cells t (i.zero.map .val))]⟩:=by
 intro σ ι H F W w a next Q s hx b hk
 have l:H h = .none:=b (h,.none) ψ;obtain⟨z,f,g⟩:=An0 (q t i ht) w;obtain⟨s',le⟩:=s.newBox h l t (i.zero.map .val) z.cells (by simp[<-f]) (by intro j c v h1 h2;rw[<-f,getElem?_map,Ha,h2]at h1;simp at h1;subst h1;exact .of_val v);refine F4 (v:=.pointer (some ⟨w.heap.size,0,none⟩)) (w':=w.alloc (.cells z.cells t)) ?_ (hk σ _ _ _ le s' (.loc h 0 w.heap.size (Ce _ _ _)));simp[execOp,k,Instr.alloc,g,newVar,newRow,newObj,Sem.run]
theorem Ayz (h:Nat) (c:o.op = .box t x) : Ch P o ρ ⟨.loc h 0,[(h,.none)],[(h,.cells t (ρ x).cells)]⟩:=by
 intro σ ι H F W w a next Q s hx b hk
 have f:H h = .none:=b (h,.none) ψ;have hc:=(hx x (by simp[c,Op.operands])).cells;obtain⟨s',le⟩:=s.newBox h f t (ρ x).cells (a.eval x).cells hc.1 hc.2;refine F4 (v:=.pointer (some ⟨w.heap.size,0,none⟩)) (w':=w.alloc (.cells (a.eval x).cells t)) ?_ (hk σ _ _ _ le s' (.loc h 0 w.heap.size (Ce _ _ _)));simp[execOp,c,Instr.box,newVar,newRow,newObj,Sem.run]
theorem Ki {b:Nat} {C:Array Value} {c:Nat×Nat} (h:w.heap[b]? = some (.cells C E c)):w.cell? ⟨b,off,none⟩=C[off]?:=by simp[World.cell?,h]
theorem La (b off n:Nat):(⟨b,off,none⟩:Addr).add n=⟨b,off+n,none⟩:=by unfold Addr.add;split <;> simp_all
theorem Aie (c:o.op = .load t x) (hi:I9 P t=some i) (b:i.isAgg=false) (hp:a.eval x = .pointer (some p)) (hv:w.cell? p=some v) : (execOp a.eval o).run P w = .ok (.value v) w:=by have h1:=Ac2 hi w;rw[b]at h1;simp[execOp,c,Instr.loadAt,hp,Instr.sureAddr,loadVar,h1,hv]
theorem Aif (c:o.op = .load t x) (hi:I9 P t=some i) (b:i.isAgg=true) (hp:a.eval x = .pointer (some p)) (cs:List Value) (f:cs.length=i.size) (hv:∀(j:Nat) (v:Value),cs[j]? = some v->w.cell? (p.add j)=some v) : (execOp a.eval o).run P w = .ok (.value (.agg cs.toArray)) w:=by have h1:=Ac2 hi w;rw[b]at h1;have h2:=Ny hi w;have h3:=run_loadCells_list (P:=P) w p cs hv;rw[f]at h3;simp[execOp,c,Instr.loadAt,hp,Instr.sureAddr,loadVar,h1,h2,h3]
theorem Conc.ref_inv {σ:A7} {ι:Ca} {H:Hp} {cs:List AV} (h:Conc σ ι H (.ref cs) v):∃(b off:Nat) (C:Array Value) (E:TypeId) (f:Nat×Nat) (g:Nat->Value), v = .pointer (some ⟨b,off,none⟩)/\σ b=some (.cells C E f)/\(∀(j:Nat) (c:AV),cs[j]? = some c->CC σ c (g j)/\Fj (g j)=true)/\(∀(j:Nat),j<cs.length->C[off+j]? = some (g j)):=by cases h with| cc h=>cases h| ref cs b off C E f g i hc h1 k=>exact⟨b,off,C,E,f,g,rfl,i,λj c h=>⟨hc j c h,h1 j c h⟩,k⟩
theorem Ay0 (u:Dd P T) {c:AV} {cs:List AV} (l:o.op = .load t x) (ht:T t=some i) (k:i.isAgg=false) (hx:ρ x = .ref (c::cs)) : Ch P o ρ ⟨c,[],[]⟩:=by
 intro σ ι H F W w a next Q s j _ hk
 have h:=j x (by simp[l,Op.operands]);rw[hx]at h;obtain⟨b,off,C,E,fr,g,hv,q,hc,y⟩:=h.ref_inv;have f:w.cell? ⟨b,off,none⟩=some (g 0):=by rw[Ki (s.sto _ _ q)];exact y 0 ψ
 exact F4 (Aie l (u t i ht) k hv f) (hk σ ι _ w (Le.refl _ _ _) s (.cc (hc 0 c ψ).1))
theorem Ay1 (z:Dd P T) {cs:List AV} (q:o.op = .load t x) (ht:T t=some i) (l:i.isAgg=true) (hx:ρ x = .ref cs) (B:i.size<=cs.length) : Ch P o ρ ⟨.agg (cs.take i.size),[],[]⟩:=by
 intro σ ι H F W w a next Q s k _ hk
 have h:=k x (by simp[q,Op.operands]);rw[hx]at h;obtain⟨b,off,C,E,fr,g,hv,y,hc,A⟩:=h.ref_inv;refine F4 (Aif q (z t i ht) l hv ((range i.size).map g) ψ ?_) (hk σ ι _ w (Le.refl _ _ _) s ?_)
 .intro j v hj;rw[getElem?_map]at hj;by_cases f:j<i.size
  .rw[getElem?_range f]at hj;simp at hj;subst hj;rw[La,Ki (s.sto _ _ y)];exact A j ω
  .rw[getElem?_eq_none ζ]at hj;cases hj
 .refine .agg _ _ ζ (λj c u h1 h2=>?_);have f:j<i.size:=(by have:=(G1.1 h1).1;simp at this;omega);rw[Hz f]at h1;simp[f]at h2;subst h2;exact .cc (hc j c h1).1
theorem Ay2 (z:Dd P T) {cs:List AV} {c:AV} (u:o.op = .load t x) (ht:T t=some i) (q:i.isAgg=false) (hx:ρ x = .loc h off) (hc:cs[off]? = some c):Ch P o ρ ⟨c,[(h,.cells E cs)],[]⟩:=by
 intro σ ι H F W w a next Q s l k hk
 have hh:H h = .cells E cs:=k (h,.cells E cs) ψ;have hp:=l x (by simp[u,Op.operands]);rw[hx]at hp;obtain⟨b,hb,hv⟩:=hp.loc_inv;have f:=s.obj h;unfold Cr at f;rw[hh]at f;obtain⟨D,C,y,_,_,h3,B,A⟩:=f;rw[hb]at y;cases y;have j:off<C.size:=by rw[B];exact (G1.1 hc).1
 have g:w.cell? ⟨b,off,none⟩=some C[off]:=by rw[Ki h3];simp[j]
 exact F4 (Aie u (z t i ht) q hv g) (hk σ ι _ w (Le.refl _ _ _) s (A off c _ hc (by simp[j])))
theorem Ay3 (A:Dd P T) {cs:List AV} (y:o.op = .load t x) (ht:T t=some i) (q:i.isAgg=true) (hx:ρ x = .loc h off) (D:off+i.size<=cs.length):Ch P o ρ ⟨.agg ((cs.drop off).take i.size),[(h,.cells E cs)],[]⟩:=by
 intro σ ι H F W w a next Q s l k hk
 have hh:H h = .cells E cs:=k (h,.cells E cs) ψ;have hp:=l x (by simp[y,Op.operands]);rw[hx]at hp;obtain⟨b,hb,hv⟩:=hp.loc_inv;have g:=s.obj h;unfold Cr at g;rw[hh]at g;obtain⟨I,C,z,_,_,h3,G,B⟩:=g;rw[hb]at z;cases z;refine F4 (Aif y (A t i ht) q hv ((C.toList.drop off).take i.size) ζ ?_) (hk σ ι _ w (Le.refl _ _ _) s ?_)
 .intro j v hj;have f:j<i.size:=(by have:=(G1.1 hj).1;simp at this;omega);rw[Hz f,getElem?_drop,Ha]at hj;rw[La,Ki h3];exact hj
 .refine .agg _ _ ζ (λj c u h1 h2=>?_);have f:j<i.size:=(by have:=(G1.1 h1).1;simp at this;omega);rw[Hz f,getElem?_drop]at h1;rw[getElem?_toArray,Hz f,getElem?_drop,Ha]at h2;exact B _ c u h1 h2
end
section
variable {P:Program} {o:Oper} {ρ:Operand->AV} {a:Act} {w w':World} {next:Act->World->Prop} {Q:Exit->Act->World->Prop}
variable {σ:A7} {ι:Ca} {T:Dc} {H:Hp} {xs:List AV} {b h j k n off sz:Nat} {x y:Operand} {i:TI} {E t:TypeId} {v:Value}
theorem Conc.el_inv {i:Nat} (hh:H h = .rows E sz xs) (hk:xs.length=k) (hc:Conc σ ι H (.el h k i j) v) : ∃b c,ι h = .blk b c/\v = .pointer (some ⟨b,i*sz+j,none⟩):=by
 cases hc with
 | cc h=>cases h
 | el _ _ _ _ _ g hv f=>
  have:=(hv E sz xs hh).2 hk;unfold Anx at this;split at this
  .rename_i b c e;exact⟨b,c,e,this⟩
  .exact this.elim
theorem Conc.arr_inv {len:Nat} (hh:H h = .rows E sz xs) (hk:xs.length=k) (hc:Conc σ ι H (.arr h k off len) v) : Hk (ι h) sz off len v:=by cases hc with| cc h=>cases h| arr _ _ _ _ _ c hv b=>exact (hv E sz xs hh).2 hk
theorem St.rowsAt {F:A7} {W w:World} (s:St σ ι H F W w) (hh:H h = .rows E sz xs) {c:Nat} (hb:ι h = .blk b c) : ∃C,w.heap[b]? = some (.cells C E (0,0))/\C.size=c*sz/\xs.length<=c/\I8 σ sz xs C:=by
 have g:=s.obj h;unfold Cr at g;rw[hh]at g;obtain⟨_,_,⟨f,_⟩|⟨q,i,C,f,h1,h2,h3,l,k,j⟩⟩:=g
 .rw[hb]at f;cases f
 .rw[hb]at f;cases f;exact⟨C,h3,l,k,j⟩
theorem Ay4 (L:Dd P T) {y c:AV} (A:o.op = .load t x) (ht:T t=some i) (z:i.isAgg=false) (hx:ρ x = .el h k n j) (u:xs.length=k) (hy:xs[n]? = some y) (hc:y.cells[j]? = some c):Ch P o ρ ⟨c,[(h,.rows E sz xs)],[]⟩:=by
 intro σ ι H F W w a next Q s q l hk
 have hh:H h = .rows E sz xs:=l (h,.rows E sz xs) ψ;have hp:=q x (by simp[A,Op.operands]);rw[hx]at hp;obtain⟨b,B,hb,hv⟩:=hp.el_inv hh u;obtain⟨C,h3,N,M,g,I,G,D⟩:=s.rowsAt hh hb;have J:=(G1.1 hy).1;have hj:=(G1.1 hc).1;rw[I n y hy]at hj;have f:w.cell? ⟨b,n*sz+j,none⟩=some (g n j):=by rw[Ki h3];exact D n j J hj
 exact F4 (Aie A (L t i ht) z hv f) (hk σ ι _ w (Le.refl _ _ _) s (.cc (G n y j c hy hc).1))
theorem Ay5 (R:Dd P T) {y:AV} (D:o.op = .load t x) (ht:T t=some i) (B:i.isAgg=true) (hx:ρ x = .el h k n j) (A:xs.length=k) (hy:xs[n]? = some y) (S:j+i.size<=y.cells.length):Ch P o ρ ⟨.agg ((y.cells.drop j).take i.size),[(h,.rows E sz xs)],[]⟩:=by
 intro σ ι H F W w a next Q s z l hk
 have hh:H h = .rows E sz xs:=l (h,.rows E sz xs) ψ;have hp:=z x (by simp[D,Op.operands]);rw[hx]at hp;obtain⟨b,G,hb,hv⟩:=hp.el_inv hh A;obtain⟨C,h3,V,U,g,L,J,I⟩:=s.rowsAt hh hb;have N:=(G1.1 hy).1;have M:=L n y hy;refine F4 (Aif D (R t i ht) B hv ((range i.size).map λq=>g n (j+q)) ψ ?_) (hk σ ι _ w (Le.refl _ _ _) s ?_)
 .intro q v hq;rw[getElem?_map]at hq;by_cases f:q<i.size
  .rw[getElem?_range f]at hq;simp at hq;subst hq;rw[La,Ki h3,Nat.add_assoc];exact I n (j+q) N ω
  .rw[getElem?_eq_none ζ]at hq;cases hq
 .refine .agg _ _ ζ (λq c u h1 h2=>?_);have f:q<i.size:=(by have:=(G1.1 h1).1;simp at this;omega);rw[Hz f,getElem?_drop]at h1;simp[f]at h2;subst h2;exact .cc (J n y (j+q) c hy h1).1
theorem Aig (v:Value):v.oneCell'=Fj v:=by cases v <;> rfl
theorem An1 (hi:I9 P t=some i) {C:Array Value} (hb:w.heap[b]? = some (.cells C E (0,0))) (c:v.cells.size=i.size) (f:off+v.cells.size<=C.size) (h1:∀u∈v.cells.toList,Fj u=true) : (Instr.storeAt t (.pointer (some ⟨b,off,none⟩)) v).run P w = .ok () (w.setRow b (C.toList.take off++v.cells.toList++C.toList.drop (off+v.cells.toList.length)).toArray):=by have h2:=Ny hi w;have h3:=run_storeCells_at (P:=P) b off E v.cells.toList 0 C w hb (by simpa using f) (λu hu=>by rw[Aig];exact h1 u hu);simp only[Nat.add_zero]at h3;simp[Instr.storeAt,Instr.sureAddr,storeVar,h2,c,h3]
theorem Aih (cs:List AV) (off:Nat) (new:List AV) (b:off+new.length<=cs.length) (i:Nat) : (Nx cs off new)[i]? = if i<off then cs[i]? else if i<off+new.length then new[i-off]? else cs[i]?:=by
 unfold Nx;by_cases h1:i<off
 .rw[if_pos h1,getElem?_append_left ζ,Hz h1]
 .rw[if_neg h1,getElem?_append_right ζ];have:(cs.take off).length=off:=ζ;rw[this];by_cases h2:i<off+new.length
  .rw[if_pos h2,getElem?_append_left ω]
  .rw[if_neg h2,getElem?_append_right ω,getElem?_drop];congr 1;omega
theorem Aii (cs:List AV) (off:Nat) (new:List AV) (b:off+new.length<=cs.length):(Nx cs off new).length=cs.length:=by unfold Nx;simp;omega
theorem Vu (C:Array Value) (off:Nat) (new:List Value) (c:off+new.length<=C.size) (i:Nat) : ((C.toList.take off++new++C.toList.drop (off+new.length)).toArray)[i]? = if i<off then C[i]? else if i<off+new.length then new[i-off]? else C[i]?:=by
 rw[getElem?_toArray,append_assoc];have b:off+new.length<=C.toList.length:=by simpa using c
 by_cases h1:i<off
 .rw[if_pos h1,getElem?_append_left (by simp at b ⊢;omega),Hz h1,Ha]
 .rw[if_neg h1,getElem?_append_right (by simp at b ⊢;omega)];have:(C.toList.take off).length=off:=(by simp at b ⊢;omega);rw[this];by_cases h2:i<off+new.length
  .rw[if_pos h2,getElem?_append_left ω]
  .rw[if_neg h2,getElem?_append_right ω,getElem?_drop,Ha];congr 1;omega
theorem Ay6 {x:AV} (hc:Conc σ ι H x v) (h1:x.cells.all AV.one=true):∀u∈v.cells.toList,Fj u=true:=by
 intro u hu;obtain⟨n,c⟩:=getElem?_of_mem hu;have f:=hc.cells;rw[Ha]at c;have b:n<x.cells.length:=by rw[<-f.1];exact (Array.getElem?_eq_some_iff.1 c).1
 have:=f.2 n x.cells[n] u (getElem?_eq_getElem b) c;exact this.one_of (D8.1 h1 _ (getElem_mem b))
theorem Ay7 (D:Dd P T) {cs:List AV} (z:o.op = .store t x y) (ht:T t=some i) (hx:ρ x = .loc h off) (G:(ρ y).cells.length=i.size) (I:off+i.size<=cs.length) (h1:(ρ y).cells.all AV.one=true) : Ch P o ρ ⟨.val undef,[(h,.cells E cs)],[(h,.cells E (Nx cs off (ρ y).cells))]⟩:=by
 intro σ ι H F W w a next Q s q u hk
 have hh:H h = .cells E cs:=u (h,.cells E cs) ψ;have hp:=q x (by simp[z,Op.operands]);have hy:=q y (by simp[z,Op.operands]);rw[hx]at hp;obtain⟨b,hb,hv⟩:=hp.loc_inv;have g:=s.obj h;unfold Cr at g;rw[hh]at g;obtain⟨L,C,B,_,_,h3,J,A⟩:=g;rw[hb]at B;cases B;have k:=hy.cells;have l:=An1 (P:=P) (w:=w) (D t i ht) (off:=off) (v:=a.eval y) h3 ω ω (Ay6 hy h1);obtain⟨s',le⟩:=s.setBox h E cs (Nx cs off (ρ y).cells) hh b hb (C.toList.take off++(a.eval y).cells.toList++C.toList.drop (off+(a.eval y).cells.toList.length)).toArray (by rw[Aii _ _ _ ω];simp;omega) (by
   intro j c v hj f;rw[Aih _ _ _ ω]at hj;rw[Vu _ _ _ ζ]at f;simp only[Array.length_toList,k.1]at f;by_cases g1:j<off
   .rw[if_pos g1]at hj f;exact A j c v hj f
   .rw[if_neg g1]at hj f;by_cases g2:j<off+(ρ y).cells.length
    .rw[if_pos g2]at hj f;rw[Ha]at f;exact k.2 _ c v hj f
    .rw[if_neg g2]at hj f;exact A j c v hj f);refine Ac1 (w':=_) ?_ (hk σ ι undef _ le s' (.of_val _));simp[execOp,z,hv,l]
def Ym (x:AV) (j:Nat) (new:List AV):AV := match x with
 | .agg cs=>.agg (Nx cs j new)
 | _=>new.headD x
theorem Ay8 {x:AV} {new:List AV} (f:j+new.length<=x.cells.length) (h:new≠[]) (h1:∀c∈new,c.cl1=true) (hv:∀vs,x≠.val (.agg vs)) : (Ym x j new).cells=Nx x.cells j new:=by
 unfold Ym;split
 .rfl
 .rename_i hx;have b:x.cells = [x]:=by
   cases x with
   | val v=>cases v <;> first|rfl|exact (hv _ rfl).elim
   | agg cs=>exact (hx cs rfl).elim
   | _=>rfl
  rw[b]at f ⊢;cases new with
  | nil=>exact (h rfl).elim
  | cons c rest=>
   simp at f;have hj:j=0:=ω;have g:rest = []:=eq_nil_of_length_eq_zero ω;subst hj g;have hc:=h1 c ψ;cases c with
   | val v=>cases v <;> first|rfl|cases hc
   | sl _ _=>rfl
   | _=>cases hc
theorem Ay9 (hT:Dd P T) {z:AV} (ho:o.op = .store t x y) (ht:T t=some i) (hx:ρ x = .el h k n j) (a8:xs.length=k) (V:xs[n]? = some z) (hs:(ρ y).cells.length=i.size) (ac:0<i.size) (hl:j+i.size<=z.cells.length) (h1:(ρ y).cells.all AV.cl1=true) (Z:∀vs,z≠.val (.agg vs)) : Ch P o ρ ⟨.val undef,[(h,.rows E sz xs)],[(h,.rows E sz (xs.set n (Ym z j (ρ y).cells)))]⟩:=by
 intro σ ι H F W w a next Q s N a6 hk
 have hh:H h = .rows E sz xs:=a6 (h,.rows E sz xs) ψ;have hp:=N x (by simp[ho,Op.operands]);have hy:=N y (by simp[ho,Op.operands]);rw[hx]at hp;obtain⟨b,J,hb,hv⟩:=hp.el_inv hh a8;obtain⟨C,h3,h4,h5,g,r1,Y,U⟩:=s.rowsAt hh hb;have hn:=(G1.1 V).1;have a1:=r1 n z V;have I:=hy.cells;have a7:(ρ y).cells≠[]:=by intro e;rw[e]at hs;simp at hs;omega
 have M:=Ay8 (x:=z) (j:=j) (new:=(ρ y).cells) ω a7 (λc hc=>D8.1 h1 c hc) Z;have aa:∀u∈(a.eval y).cells.toList,Fj u=true:=by intro u hu;obtain⟨q,hq⟩:=getElem?_of_mem hu;rw[Ha]at hq;have l:q<(ρ y).cells.length:=(by rw[<-I.1];exact (Array.getElem?_eq_some_iff.1 hq).1);exact ((I.2 q _ u (getElem?_eq_getElem l) hq).cc_of (D8.1 h1 _ (getElem_mem l))).2
 have ab:n*sz+sz<=C.size:=by rw[h4];have:(n+1)*sz<=J*sz:=Nat.mul_le_mul_right sz ω;rw[E2]at this;omega
 have L:=An1 (P:=P) (w:=w) (hT t i ht) (off:=n*sz+j) (v:=a.eval y) h3 ω ω aa;let G:Nat->Nat->Value:=λn' f=>if n'=n/\j<=f/\f<j+(ρ y).cells.length then ((a.eval y).cells[f-j]?).getD undef else g n' f
 obtain⟨s',le⟩:=s.setRows h E sz xs (xs.set n (Ym z j (ρ y).cells)) hh b J hb ψ (C.toList.take (n*sz+j)++(a.eval y).cells.toList++C.toList.drop (n*sz+j+(a.eval y).cells.toList.length)).toArray ζ (by
   refine⟨G,?_,?_,?_⟩
   .intro i' X B;by_cases e:i'=n
    .subst e;rw[getElem?_set_self hn]at B;cases B;rw[M,Aii _ _ _ ω];exact a1
    .rw[getElem?_set_ne ω]at B;exact r1 i' X B
   .intro i' X f S B A;by_cases e:i'=n
    .subst e;rw[getElem?_set_self hn]at B;cases B;rw[M,Aih _ _ _ ω]at A;show CC σ S (G i' f)/\Fj (G i' f)=true;by_cases g1:f<j
     .rw[if_pos g1]at A;have:G i' f=g i' f:=if_neg ω;rw[this];exact Y i' z f S V A
     .rw[if_neg g1]at A;by_cases g2:f<j+(ρ y).cells.length
      .rw[if_pos g2]at A;have l:f-j<(a.eval y).cells.size:=ω;have:G i' f=(a.eval y).cells[f-j]:=(by show (if _ then _ else _)=_;rw[if_pos ⟨rfl,ω,g2⟩];simp[l]);rw[this];exact (I.2 (f-j) S _ A (by simp[l])).cc_of (D8.1 h1 _ (Fi A))
      .rw[if_neg g2]at A;have:G i' f=g i' f:=if_neg ω;rw[this];exact Y i' z f S V A
    .rw[getElem?_set_ne ω]at B;have:G i' f=g i' f:=if_neg ω;rw[this];exact Y i' X f S B A
   .intro i' f D hj';simp at D;rw[Vu _ _ _ ζ];simp only[Array.length_toList,I.1];by_cases g0:i'=n
    .subst g0;by_cases g1:f<j
     .rw[if_pos ω];have:G i' f=g i' f:=if_neg ω;rw[this];exact U i' f D hj'
     .rw[if_neg ω];by_cases g2:f<j+(ρ y).cells.length
      .rw[if_pos ω,Ha];have l:f-j<(a.eval y).cells.size:=ω;have:G i' f=(a.eval y).cells[f-j]:=(by show (if _ then _ else _)=_;rw[if_pos ⟨rfl,ω,g2⟩];simp[l]);rw[this,show i' * sz+f-(i' * sz+j)=f-j by omega];simp[l]
      .rw[if_neg ω];have:G i' f=g i' f:=if_neg ω;rw[this];exact U i' f D hj'
    .have:G i' f=g i' f:=if_neg ω;rw[this];have R:i' * sz+f<n*sz+j\/n*sz+j+(ρ y).cells.length<=i' * sz+f:=by
      rcases Nat.lt_or_gt_of_ne g0 with l|hgt
      .left;have:(i' + 1)*sz<=n*sz:=Nat.mul_le_mul_right sz ω;rw[E2]at this;omega
      .right;have:(n+1)*sz<=i' * sz:=Nat.mul_le_mul_right sz ω;rw[E2]at this;omega
     rcases R with l|hge
     .rw[if_pos l];exact U i' f D hj'
     .rw[if_neg ω,if_neg ω];exact U i' f D hj');refine Ac1 (w':=_) ?_ (hk σ ι undef _ le s' (.of_val _));simp[execOp,ho,hv,L]
end
section
variable {P:Program} {o:Oper} {ρ:Operand->AV} {a:Act} {w w':World} {next:Act->World->Prop} {Q:Exit->Act->World->Prop}
variable {σ:A7} {op:BinOp} {b:Bool} {T:Dc} {m:Int} {g k:IntKind} {fs:List (Nat×Nat)} {xs:List AV} {h n off sz:Nat} {q:Nat×Nat} {x y:Operand} {p:Option Addr} {i i' j:TI} {E d e s t:TypeId} {v:Value}
theorem D5 {ι:Ca} {H:Hp} (h:ρ x = .val v) (hc:Conc σ ι H (ρ x) (a.eval x)):a.eval x=v:=by rw[h]at hc;exact hc.val_inv
theorem Aza (b:o.op = .nilCheck x) (hp:(ρ x).isPtr=true):Ch P o ρ ⟨ρ x,[],[]⟩ := Ff λσ ι H a w hx=>by have h:=hx x (by simp[b,Op.operands]);refine⟨a.eval x,?_,h⟩;have:(∃p,a.eval x = .pointer (some p))\/∃f vs,a.eval x = .func (.func f) #[] vs:=(by generalize ρ x=y at h hp;generalize a.eval x=v at h;cases h with| cc h=>cases h <;> cases hp| loc=>exact .inl ⟨_,rfl⟩| mp=>cases hp| vec=>cases hp| arr=>cases hp| el=>cases hp| ref=>exact .inl ⟨_,rfl⟩| agg=>cases hp| tup=>cases hp| fn=>exact .inr ⟨_,_,rfl⟩);rcases this with⟨p,hp⟩|⟨f,vs,hp⟩ <;> simp[execOp,b,hp]
theorem Tc {b:TypeId} {n:Int} (f:o.op = .binOp op t x y b) (hx:a.eval x = .int k m) (hy:a.eval y = .int k n) {r:Value} (c:(binOp op t (.int k m) (.int k n)).run P w = .ok r w):(execOp a.eval o).run P w = .ok (.value r) w:=by
 have g:(eqGuard op t x y (.int k m) (.int k n)).run P w = .ok () w:=by unfold eqGuard;cases op <;> simp
 simp only[execOp,f,hx,hy,Sem.run_bind,g,Result.andThen_ok,c,Sem.run_pure]
theorem Azb {f:TypeId} {n c:Int} (b:o.op = .binOp .add t x y f) (hx:ρ x = .val (.int k m)) (hy:ρ y = .val (.int k n)) (hc:k.wrap (m+n)=c) : Ch P o ρ ⟨.val (.int k c),[],[]⟩ := Ff λσ ι H a w h=>⟨_,Tc b (D5 hx (h x (by simp[b,Op.operands]))) (D5 hy (h y (by simp[b,Op.operands]))) (by simp[binOp,Op.intArith,hc]),.of_val _⟩
theorem Azc {f:TypeId} {n c:Int} (b:o.op = .binOp .sub t x y f) (hx:ρ x = .val (.int k m)) (hy:ρ y = .val (.int k n)) (hc:k.wrap (m-n)=c) : Ch P o ρ ⟨.val (.int k c),[],[]⟩ := Ff λσ ι H a w h=>⟨_,Tc b (D5 hx (h x (by simp[b,Op.operands]))) (D5 hy (h y (by simp[b,Op.operands]))) (by simp[binOp,Op.intArith,hc]),.of_val _⟩
theorem Azd {f:TypeId} {n c:Int} (b:o.op = .binOp .mul t x y f) (hx:ρ x = .val (.int k m)) (hy:ρ y = .val (.int k n)) (hc:k.wrap (m*n)=c) : Ch P o ρ ⟨.val (.int k c),[],[]⟩ := Ff λσ ι H a w h=>⟨_,Tc b (D5 hx (h x (by simp[b,Op.operands]))) (D5 hy (h y (by simp[b,Op.operands]))) (by simp[binOp,Op.intArith,hc]),.of_val _⟩
theorem Aze {f:TypeId} {n c:Int} (b:o.op = .binOp .quo t x y f) (hx:ρ x = .val (.int k m)) (hy:ρ y = .val (.int k n)) (g:n≠0) (hc:k.wrap (m.tdiv n)=c) : Ch P o ρ ⟨.val (.int k c),[],[]⟩ := Ff λσ ι H a w h=>⟨_,Tc b (D5 hx (h x (by simp[b,Op.operands]))) (D5 hy (h y (by simp[b,Op.operands]))) (by simp[binOp,Op.intDiv,g,hc]),.of_val _⟩
theorem Azf {f:TypeId} {n c:Int} (b:o.op = .binOp .rem t x y f) (hx:ρ x = .val (.int k m)) (hy:ρ y = .val (.int k n)) (g:n≠0) (hc:m.tmod n=c) : Ch P o ρ ⟨.val (.int k c),[],[]⟩ := Ff λσ ι H a w h=>⟨_,Tc b (D5 hx (h x (by simp[b,Op.operands]))) (D5 hy (h y (by simp[b,Op.operands]))) (by simp[binOp,Op.intDiv,g,hc]),.of_val _⟩
theorem Azg {f:TypeId} {n:Int} (c:o.op = .binOp op t x y f) (hx:ρ x = .val (.int k m)) (hy:ρ y = .val (.int k n)) (hc:Aic op m n=some b) : Ch P o ρ ⟨.val (.bool b),[],[]⟩ := Ff λσ ι H a w h=>by refine⟨.bool b,Tc c (D5 hx (h x (by simp[c,Op.operands]))) (D5 hy (h y (by simp[c,Op.operands]))) ?_,.of_val _⟩;cases op <;> simp only[Aic]at hc <;> first | (cases hc;done) | (cases hc;simp[binOp,Op.intCmp])
def Aij (op:BinOp) (k:IntKind) (m n:Int):Option Int := match op with
 | .and=>some (k.wrap (BitVec.ofInt k.bits m &&& BitVec.ofInt k.bits n).toNat)
 | .or=>some (k.wrap (BitVec.ofInt k.bits m ||| BitVec.ofInt k.bits n).toNat)
 | .xor=>some (k.wrap (BitVec.ofInt k.bits m ^^^ BitVec.ofInt k.bits n).toNat)
 | _=>none
theorem Azh {f:TypeId} {n c:Int} (b:o.op = .binOp op t x y f) (hx:ρ x = .val (.int k m)) (hy:ρ y = .val (.int k n)) (hc:Aij op k m n=some c) : Ch P o ρ ⟨.val (.int k c),[],[]⟩ := Ff λσ ι H a w h=>by refine⟨.int k c,Tc b (D5 hx (h x (by simp[b,Op.operands]))) (D5 hy (h y (by simp[b,Op.operands]))) ?_,.of_val _⟩;cases op <;> simp only[Aij]at hc <;> first | (cases hc;done) | (cases hc;simp[binOp,Op.intBits])
theorem Azi {i:TypeId} {n c:Int} (b:o.op = .binOp .shr t x y i) (hx:ρ x = .val (.int k m)) (hy:ρ y = .val (.int g n)) (l:0<=n) (hc:m.fdiv (2 ^ (min n.toNat k.bits))=c) : Ch P o ρ ⟨.val (.int k c),[],[]⟩ := Ff λσ ι H a w h=>by refine⟨.int k c,?_,.of_val _⟩;have h1:=D5 hx (h x (by simp[b,Op.operands]));have h2:=D5 hy (h y (by simp[b,Op.operands]));have j:(eqGuard .shr t x y (.int k m) (.int g n)).run P w = .ok () w:=(by unfold eqGuard;simp);have f:¬n<0:=ω;simp only[execOp,b,h1,h2,Sem.run_bind,j,Result.andThen_ok,binOp,Op.shift,if_neg f,hc,Sem.run_pure]
theorem Azj {i:TypeId} {n c:Int} (b:o.op = .binOp .shl t x y i) (hx:ρ x = .val (.int k m)) (hy:ρ y = .val (.int g n)) (l:0<=n) (hc:k.wrap (m*2 ^ (min n.toNat k.bits))=c) : Ch P o ρ ⟨.val (.int k c),[],[]⟩ := Ff λσ ι H a w h=>by refine⟨.int k c,?_,.of_val _⟩;have h1:=D5 hx (h x (by simp[b,Op.operands]));have h2:=D5 hy (h y (by simp[b,Op.operands]));have j:(eqGuard .shl t x y (.int k m) (.int g n)).run P w = .ok () w:=(by unfold eqGuard;simp);have f:¬n<0:=ω;simp only[execOp,b,h1,h2,Sem.run_bind,j,Result.andThen_ok,binOp,Op.shift,if_neg f,hc,Sem.run_pure]
def Aik (op:BinOp) (m n:Bool):Option Bool := match op with
 | .eql=>some (m==n)
 | .neq=>some (m != n)
 | _=>none
theorem Azk (ht:P.underlying t=some .bool) (d:Nat) (m n:Bool) (w:World):(Op.equalIn (d+1) t (.bool m) (.bool n)).run P w = .ok (m==n) w:=by simp[Op.equalIn,run_underlying ht]
theorem Azl (ht:P.underlying t=some .bool) (m n:Bool) (w:World):(Op.equal t (.bool m) (.bool n)).run P w = .ok (m==n) w:=by exact Azk ht 9999 m n w
theorem Azm (q:Dd P T) {j:TypeId} {m n:Bool} (c:o.op = .binOp op t x y j) (ht:T t=some i) (hd:i.d = .bool) (hx:ρ x = .val (.bool m)) (hy:ρ y = .val (.bool n)) (hc:Aik op m n=some b) : Ch P o ρ ⟨.val (.bool b),[],[]⟩ := Ff λσ ι H a w h=>by
  refine⟨.bool b,?_,.of_val _⟩;have h1:=D5 hx (h x (by simp[c,Op.operands]));have h2:=D5 hy (h y (by simp[c,Op.operands]));obtain⟨g,u,z,E,k,D,B,A,s,f⟩:=En (q t i ht);rw[hd]at f;subst f;have l:(eqGuard op t x y (.bool m) (.bool n)).run P w = .ok () w:=(by unfold eqGuard;cases op <;> simp);cases op <;> simp only[Aik]at hc <;> first | (cases hc;done) | skip
  all_goals
   cases hc
   simp only[execOp,c,h1,h2,Sem.run_bind,l,Result.andThen_ok,binOp,Azl k,Sem.run_pure]
   try rfl
theorem Azn (A:Dd P T) {l:TypeId} {c b g:Nat} (f:o.op = .binOp .eql t x y l) (ht:T t=some i) (hd:i.d = .slice e) (hx:ρ x = .val (.slice p n c)) (hy:ρ y = .val (.slice none b g)) : Ch P o ρ ⟨.val (.bool p.isNone),[],[]⟩ := Ff λσ ι H a w h=>by refine⟨.bool p.isNone,?_,.of_val _⟩;have h1:=D5 hx (h x (by simp[f,Op.operands]));have h2:=D5 hy (h y (by simp[f,Op.operands]));obtain⟨k,u,z,I,q,G,E,D,B,j⟩:=En (A t i ht);rw[hd]at j;subst j;have s:(eqGuard .eql t x y (.slice p n c) (.slice none b g)).run P w = .ok () w:=(by unfold eqGuard;simp);simp only[execOp,f,h1,h2,Sem.run_bind,s,Result.andThen_ok,Lib.run_eql_slice_nil w t e p n c b g q,Sem.run_pure]
def Ail (op:BinOp) (m n:ByteArray):Option Bool := match op with
 | .eql=>some (m.toList==n.toList)
 | .neq=>some (!(m.toList==n.toList))
 | .lss=>some (Op.bytesLess m.toList n.toList)
 | _=>none
theorem Azo {f:TypeId} {m n:ByteArray} (c:o.op = .binOp op t x y f) (hx:ρ x = .val (.string m)) (hy:ρ y = .val (.string n)) (hc:Ail op m n=some b) : Ch P o ρ ⟨.val (.bool b),[],[]⟩ := Ff λσ ι H a w h=>by
  refine⟨.bool b,?_,.of_val _⟩;have h1:=D5 hx (h x (by simp[c,Op.operands]));have h2:=D5 hy (h y (by simp[c,Op.operands]));have g:(eqGuard op t x y (.string m) (.string n)).run P w = .ok () w:=(by unfold eqGuard;cases op <;> simp);cases op <;> simp only[Ail]at hc <;> first | (cases hc;done) | skip
  all_goals
   cases hc
   simp only[execOp,c,h1,h2,Sem.run_bind,g,Result.andThen_ok,binOp,Op.stringOp,Sem.run_pure]
theorem Azp {c:TypeId} {m n:ByteArray} (b:o.op = .binOp .add t x y c) (hx:ρ x = .val (.string m)) (hy:ρ y = .val (.string n)) (j:m.size+n.size<=9223372036854775807) : Ch P o ρ ⟨.val (.string (m++n)),[],[]⟩ := Ff λσ ι H a w h=>by refine⟨.string (m++n),?_,.of_val _⟩;have h1:=D5 hx (h x (by simp[b,Op.operands]));have h2:=D5 hy (h y (by simp[b,Op.operands]));have i:(eqGuard .add t x y (.string m) (.string n)).run P w = .ok () w:=(by unfold eqGuard;simp);have g:IntKind.i64.max=9223372036854775807:=δ;have f:¬((m.size+n.size:Nat):Int)>IntKind.i64.max:=(by rw[g];omega);simp only[execOp,b,h1,h2,Sem.run_bind,i,Result.andThen_ok,binOp,Op.stringOp,if_neg f,Sem.run_pure]
theorem Azq (c:o.op = .unOp .not t x) (hx:ρ x = .val (.bool b)):Ch P o ρ ⟨.val (.bool !b),[],[]⟩ := Ff λσ ι H a w h=>⟨.bool !b,by simp[execOp,c,D5 hx (h x (by simp[c,Op.operands])),Op.unary],.of_val _⟩
theorem Azr {c:Int} (b:o.op = .unOp .neg t x) (hx:ρ x = .val (.int k m)) (hc:k.wrap (0-m)=c):Ch P o ρ ⟨.val (.int k c),[],[]⟩ := Ff λσ ι H a w h=>⟨.int k c,by simp only[execOp,b,D5 hx (h x (by simp[b,Op.operands])),Op.unary,Op.intArith,hc,Sem.run_bind,Sem.run_pure,Result.andThen_ok],.of_val _⟩
theorem Azs (s:Dd P T) {I:IntKind} {c:Int} (q:o.op = .convert t d x) (ht:T t=some i) (hd:T d=some j) (hj:j.d = .int k) (hx:ρ x = .val (.int I m)) (hc:k.wrap m=c) : Ch P o ρ ⟨.val (.int k c),[],[]⟩ := Ff λσ ι H a w h=>by refine⟨.int k c,?_,.of_val _⟩;have h1:=D5 hx (h x (by simp[q,Op.operands]));obtain⟨l,u,z,V,E,U,S,R,N,M⟩:=En (s t i ht);obtain⟨g,L,J,G,f,D,B,A,y,b⟩:=En (s d j hd);rw[hj]at b;subst b;simp only[execOp,q,h1,convert,Sem.run_bind,run_underlying E,run_underlying f,Result.andThen_ok,Conv.intToInt,hc,Sem.run_pure]
theorem Azt {f:TypeId} {k:FloatKind} {m c:Nat} (b:o.op = .binOp op t x y f) (hx:ρ x = .val (.float k m)) (hy:ρ y = .val (.float k n)) (hc:floatBits op k m n=some c) : Ch P o ρ ⟨.val (.float k c),[],[]⟩ := Ff λσ ι H a w h=>by refine⟨.float k c,?_,.of_val _⟩;have h1:=D5 hx (h x (by simp[b,Op.operands]));have h2:=D5 hy (h y (by simp[b,Op.operands]));have g:(eqGuard op t x y (.float k m) (.float k n)).run P w = .ok () w:=(by cases op <;> first | (unfold eqGuard;simp;done) | (simp[floatBits]at hc));simp only[execOp,b,h1,h2,Sem.run_bind,g,Result.andThen_ok,run_float_arith w op t k m n c hc,Sem.run_pure]
theorem Azu (s:Dd P T) {k:FloatKind} (q:o.op = .convert t d x) (ht:T t=some i) (hd:T d=some j) (hj:j.d = .float k) (hx:ρ x = .val (.int g m)) : Ch P o ρ ⟨.val (.float k (floatOfInt k m)),[],[]⟩ := Ff λσ ι H a w h=>by refine⟨.float k (floatOfInt k m),?_,.of_val _⟩;have h1:=D5 hx (h x (by simp[q,Op.operands]));obtain⟨l,u,z,U,E,S,R,N,M,L⟩:=En (s t i ht);obtain⟨f,J,I,G,c,D,B,A,y,b⟩:=En (s d j hd);rw[hj]at b;subst b;have:=run_convert_int_float (P:=P) w t d g k m (by rw[E];rfl) c;simp only[execOp,q,h1,Sem.run_bind,this,Result.andThen_ok,Sem.run_pure]
theorem Azv (y:Dd P T) {k:FloatKind} {f:IntKind} {m:Nat} {c:Int} (s:o.op = .convert t d x) (ht:T t=some i) (hd:T d=some j) (hj:j.d = .int f) (hx:ρ x = .val (.float k m)) (hc:floatToIntVal k m f=some c) : Ch P o ρ ⟨.val (.int f c),[],[]⟩ := Ff λσ ι H a w h=>by refine⟨.int f c,?_,.of_val _⟩;have h1:=D5 hx (h x (by simp[s,Op.operands]));obtain⟨q,u,z,V,G,U,S,R,N,M⟩:=En (y t i ht);obtain⟨l,L,J,I,g,E,D,B,A,b⟩:=En (y d j hd);rw[hj]at b;subst b;have:=run_convert_float_int (P:=P) w t d k f m c (by rw[G];rfl) g hc;simp only[execOp,s,h1,Sem.run_bind,this,Result.andThen_ok,Sem.run_pure]
theorem Azw {cs:List AV} {c:AV} (f:o.op = .extract x n) (hx:ρ x = .tup cs) (hc:cs[n]? = some c):Ch P o ρ ⟨c,[],[]⟩ := Ff λσ ι H a w h=>by have h1:=h x (by simp[f,Op.operands]);rw[hx]at h1;obtain⟨vs,e,g,hv⟩:=h1.tup_inv;have b:n<vs.size:=(by rw[g];exact (G1.1 hc).1);refine⟨vs[n],?_,hv n c _ hc (by simp[b])⟩;simp[execOp,f,e,Instr.extract,b]
theorem Aim {f:Nat} (hi:I9 P s=some i) (hd:i.d = .struct fs) (hf:fs[f]? = some q) (b off:Nat) (w:World) : (Instr.fieldAt s (.pointer (some ⟨b,off,none⟩)) f).run P w = .ok (.pointer (some ⟨b,off+q.1,none⟩)) w:=by
 obtain⟨x,u,z,I,y,G,E,D,B,l⟩:=En hi;rw[hd]at l;obtain⟨fields,rfl,rfl,hpos⟩:=l;rw[getElem?_map]at hf;cases hg:fields.toList[f]? with
 | none=>rw[hg]at hf;simp at hf
 | some fd=>rw[hg]at hf;simp at hf;subst hf;have k:fields[f]? = some fd:=(by rw[<-Ha];exact hg);have hp:=hpos fd (Fi hg);have h:∃inf,P.info? fd.type=some inf/\inf.size≠0:=(by unfold Program.cellsOf at hp;cases g:P.info? fd.type with| none=>rw[g]at hp;simp at hp| some inf=>rw[g]at hp;simp at hp;exact⟨inf,rfl,ω⟩);obtain⟨inf,c,j⟩:=h;have A:(sizeOf fd.type).run P w = .ok inf.size w:=(by simp[sizeOf,typeInfo,program,Sem.run,c]);simp[Instr.fieldAt,run_underlying y,k,Instr.sureAddr,fieldPlace,A,j,La]
theorem Azx (j:Dd P T) {f:Nat} (g:o.op = .fieldAddr s x f) (ht:T s=some i) (hd:i.d = .struct fs) (hf:fs[f]? = some q) (hx:ρ x = .loc h off):Ch P o ρ ⟨.loc h (off+q.1),[],[]⟩ := Ff λσ ι H a w c=>by have h1:=c x (by simp[g,Op.operands]);rw[hx]at h1;obtain⟨b,hb,hv⟩:=h1.loc_inv;exact⟨_,by simp[execOp,g,hv,Aim (j s i ht) hd hf],.loc h (off+q.1) b hb⟩
theorem Azy (u:Dd P T) {f:Nat} {cs:List AV} (k:o.op = .fieldAddr s x f) (ht:T s=some i) (hd:i.d = .struct fs) (hf:fs[f]? = some q) (hx:ρ x = .ref cs):Ch P o ρ ⟨.ref (cs.drop q.1),[],[]⟩ := Ff λσ ι H a w h=>by
  have h1:=h x (by simp[k,Op.operands]);rw[hx]at h1;obtain⟨b,off,C,E,fr,g,hv,l,hc,y⟩:=h1.ref_inv;refine⟨_,by simp[execOp,k,hv,Aim (u s i ht) hd hf],.ref _ b (off+q.1) C E fr (λj=>g (q.1+j)) l ?_ ?_ ?_⟩
  .intro j c hj;rw[getElem?_drop]at hj;exact (hc _ c hj).1
  .intro j c hj;rw[getElem?_drop]at hj;exact (hc _ c hj).2
  .intro j hj;rw[length_drop]at hj;rw[Nat.add_assoc];exact y (q.1+j) ω
theorem Azz (B:Dd P T) {f:Nat} {k j:Nat} (z:o.op = .fieldAddr s x f) (ht:T s=some i) (hd:i.d = .struct fs) (hf:fs[f]? = some q) (hx:ρ x = .el h k n j) (y:xs.length=k):Ch P o ρ ⟨.el h k n (j+q.1),[(h,.rows E sz xs)],[]⟩:=by
 intro σ ι H F W w a next Q s u l hk
 have hh:H h = .rows E sz xs:=l (h,.rows E sz xs) ψ;have hp:=u x (by simp[z,Op.operands]);rw[hx]at hp;obtain⟨b,A,hb,hv⟩:=hp.el_inv hh y;refine F4 (v:=.pointer (some ⟨b,n*sz+j+q.1,none⟩)) (by simp[execOp,z,hv,Aim (B _ i ht) hd hf]) (hk σ ι _ w (Le.refl _ _ _) s ?_);refine .el h k n (j+q.1) _ (by show H h≠_;rw[hh];intro e;cases e) (λD g c e=>?_) rfl;have e:H h = .rows D g c:=e;rw[hh]at e;cases e;refine⟨ω,λ_=>?_⟩;rw[hb];show _=_
 rw[Nat.add_assoc]
theorem CC.sl_inv (h:CC σ (.sl sz xs) v) : (xs = []/\∃p f,v = .slice p 0 f)\/∃(b off f:Nat) (C:Array Value) (E:TypeId) (l:Nat×Nat) (g:Nat->Nat->Value),v = .slice (some ⟨b,off,none⟩) xs.length f/\σ b=some (.cells C E l) /\ (∀(i:Nat) (x:AV),xs[i]? = some x->x.cells.length=sz)/\(∀(i:Nat) (x:AV) (j:Nat) (c:AV),xs[i]? = some x->x.cells[j]? = some c->CC σ c (g i j)/\Fj (g i j)=true) /\ (∀(i j:Nat),i<xs.length->j<sz->C[off+i*sz+j]? = some (g i j))/\xs.length<=140737488355328/\xs.length<=f:=by cases h with| nil _ p f=>exact .inl ⟨rfl,p,f,rfl⟩| sl _ b off f _ C E l g q s hc h1 y u k=>exact .inr ⟨b,off,f,C,E,l,g,rfl,q,s,λi x j c hx hj=>⟨hc i x j c hx hj,h1 i x j c hx hj⟩,y,u,k⟩
theorem CC.sl_len (h:CC σ (.sl sz xs) v):xs.length<=140737488355328/\∃p cap,v = .slice p xs.length cap:=by
 rcases h.sl_inv with⟨rfl,p,cap,e⟩|⟨b,off,cap,C,E,fr,g,e,_,_,_,_,c,_⟩
 .exact⟨ψ,p,cap,e⟩
 .exact⟨c,_,cap,e⟩
theorem An2 (j:Dd P T) (g:o.op = .call {callee:=.builtin .len,args:=#[x],argTypes:=#[t]}) (ht:T t=some i) (hd:i.d = .slice e) (hx:ρ x = .sl sz xs) : Ch P o ρ ⟨.val (.int .i64 xs.length),[],[]⟩ := Ff λσ ι H a w b=>by have h1:=b x (by simp[g,Op.operands,Call.operands]);rw[hx]at h1;obtain⟨_,p,cap,hv⟩:=h1.sl_inv.sl_len;obtain⟨f,u,z,y,h,s,q,l,k,c⟩:=En (j t i ht);rw[hd]at c;subst c;refine⟨.int .i64 xs.length,?_,.of_val _⟩;simp[execOp,g,resolve,invoke,builtin,Builtin.len_,hv,run_underlying h,goInt]
theorem Az0 (k:Dd P T) {c:Nat} (h:o.op = .call {callee:=.builtin .len,args:=#[x],argTypes:=#[t]}) (ht:T t=some i) (hd:i.d = .slice e) (hx:ρ x = .val (.slice p n c)) : Ch P o ρ ⟨.val (.int .i64 n),[],[]⟩ := Ff λσ ι H a w b=>by have hv:=D5 hx (b x (by simp[h,Op.operands,Call.operands]));obtain⟨g,u,z,A,j,y,s,q,l,f⟩:=En (k t i ht);rw[hd]at f;subst f;refine⟨.int .i64 n,?_,.of_val _⟩;simp[execOp,h,resolve,invoke,builtin,Builtin.len_,hv,run_underlying j,goInt]
theorem Az1 (k:Dd P T) {b:Nat} (h:o.op = .call {callee:=.builtin .cap,args:=#[x],argTypes:=#[t]}) (ht:T t=some i) (hd:i.d = .slice e) (hx:ρ x = .val (.slice p n b)) : Ch P o ρ ⟨.val (.int .i64 b),[],[]⟩ := Ff λσ ι H a w c=>by have hv:=D5 hx (c x (by simp[h,Op.operands,Call.operands]));obtain⟨g,u,z,A,j,y,s,q,l,f⟩:=En (k t i ht);rw[hd]at f;subst f;refine⟨.int .i64 b,?_,.of_val _⟩;simp[execOp,h,resolve,invoke,builtin,Builtin.cap_,hv,run_underlying j,goInt]
theorem Az2 (j:Dd P T) {s:ByteArray} (g:o.op = .call {callee:=.builtin .len,args:=#[x],argTypes:=#[t]}) (ht:T t=some i) (hd:i.d = .string) (hx:ρ x = .val (.string s)) : Ch P o ρ ⟨.val (.int .i64 s.size),[],[]⟩ := Ff λσ ι H a w b=>by have hv:=D5 hx (b x (by simp[g,Op.operands,Call.operands]));obtain⟨f,u,z,A,h,y,q,l,k,c⟩:=En (j t i ht);rw[hd]at c;subst c;refine⟨.int .i64 s.size,?_,.of_val _⟩;simp[execOp,g,resolve,invoke,builtin,Builtin.len_,hv,run_underlying h,goInt]
theorem Az3 (y:Dd P T) {k len:Nat} (l:o.op = .call {callee:=.builtin .len,args:=#[x],argTypes:=#[t]}) (ht:T t=some i) (hd:i.d = .slice e) (hx:ρ x = .arr h k off len) (f:xs.length=k):Ch P o ρ ⟨.val (.int .i64 len),[(h,.rows E sz xs)],[]⟩:=by
 intro σ ι H F W w a next Q s c b hk
 have hh:H h = .rows E sz xs:=b (h,.rows E sz xs) ψ;have hp:=c x (by simp[l,Op.operands,Call.operands]);rw[hx]at hp;have hv:=hp.arr_inv hh f;obtain⟨j,u,z,L,q,J,I,G,D,g⟩:=En (y t i ht);rw[hd]at g;subst g;have:∃p cap,a.eval x = .slice p len cap:=by
  unfold Hk at hv;split at hv
  .obtain⟨B,_,A⟩:=hv;exact⟨none,0,by rw[B,A]⟩
  .exact⟨_,_,hv.2⟩
  .exact hv.elim
 obtain⟨p,cap,hv⟩:=this;refine F4 (v:=.int .i64 len) ?_ (hk σ ι _ w (Le.refl _ _ _) s (.of_val _));simp[execOp,l,resolve,invoke,builtin,Builtin.len_,hv,run_underlying q,goInt]
theorem Ain (hi:I9 P t=some i) (hd:i.d = .slice e) (q:I9 P e=some i') {b len f:Nat} (k:IntKind) (D:n<len) (w:World) : (Instr.indexAt t (.slice (some ⟨b,off,none⟩) len f) (.int k (n:Int))).run P w = .ok (.pointer (some ⟨b,off+n*i'.size,none⟩)) w:=by obtain⟨h,u,z,B,j,A,y,x,s,g⟩:=En hi;rw[hd]at g;subst g;have l:=Ny q w;have c:0<=(n:Int)/\(n:Int)<(len:Int):=ω;simp only[Instr.indexAt,asIntOf,Sem.run_bind,Sem.run_pure,Result.andThen_ok,run_underlying j,if_pos c,l,La,Int.toNat_natCast]
theorem Az4 (G:Dd P T) {bs:List UInt8} (L:o.op = .convert t d x) (ht:T t=some i) (hi:i.d = .slice e) (he:T e=some i') (D:i'.d = .int .u8) (hd:T d=some j) (hj:j.d = .string) (hx:ρ x = .sl 1 xs) (c:xs=bs.map λb=>.val (.int .u8 b.toNat)) : Ch P o ρ ⟨.val (.string ⟨bs.toArray⟩),[],[]⟩:=by
 intro σ ι H F W w a next Q s B _ hk
 have h1:=B x (by simp[L,Op.operands]);rw[hx]at h1;obtain⟨J,u,z,k1,l,k3,k4,k5,k6,I⟩:=En (G t i ht);obtain⟨A,u',z',X,f,V,U,S,R,h⟩:=En (G d j hd);obtain⟨y,u2,z2,m1,m2,m3,m4,m5,m6,m7⟩:=En (G e i' he);rw[hi]at I;subst I;rw[hj]at h;subst h;rw[D]at m7;subst m7;have k:∃p cap,a.eval x = .slice p bs.length cap/\(convert t d (.slice p bs.length cap)).run P w = .ok (.string ⟨bs.toArray⟩) w:=by
  rcases h1.sl_inv.sl_inv with⟨h0,p,cap,hv⟩|⟨b,off,cap,C,E,fr,g,hv,Y,hs,hc,hC,_⟩
  .have hb:bs = []:=(by rw[h0]at c;exact map_eq_nil_iff.1 c.symm);subst hb;refine⟨p,cap,hv,?_⟩;cases p with| none=>show (convert t d (.slice none 0 cap)).run P w=_;rw[run_convert_bytes_string w t d e none 0 cap l m2 f];simp[Conv.bytesToString];rfl| some p=>exact run_convert_bytes_back w t d e p cap [] l m2 f (λq hq=>by simp at hq)
  .have hl:xs.length=bs.length:=(by rw[c,length_map]);refine⟨some ⟨b,off,none⟩,cap,by rw[hv,hl],run_convert_bytes_back w t d e ⟨b,off,none⟩ cap bs l m2 f (λq hq=>?_)⟩;rw[La,Ki (s.sto _ _ Y)];have hq':q<xs.length:=ω;have N:=hC q 0 hq' ω;have e2:xs[q]? = some (.val (.int .u8 (bs[q]'hq).toNat)):=(by rw[c,getElem?_map,getElem?_eq_getElem hq];rfl);have M:=(hc q _ 0 (.val (.int .u8 (bs[q]'hq).toNat)) e2 rfl).1;have e4:g q 0 = .int .u8 (bs[q]'hq).toNat:=(by generalize g q 0=v at M;cases M;rfl);rw[Nat.mul_one,Nat.add_zero,e4]at N;exact N
 obtain⟨p,cap,hv,Z⟩:=k;refine F4 (v:=.string ⟨bs.toArray⟩) ?_ (hk σ ι _ w (Le.refl _ _ _) s (.of_val _));simp only[execOp,L,hv,Sem.run_bind,Z,Result.andThen_ok,Sem.run_pure]
theorem Az5 (u:Dd P T) {z:AV} (q:o.op = .indexAddr t x y) (ht:T t=some i) (hd:i.d = .slice e) (G:T e=some i') (l:sz=i'.size) (hx:ρ x = .sl sz xs) (hy:ρ y = .val (.int k (n:Int))) (h:xs[n]? = some z) : Ch P o ρ ⟨.ref z.cells,[],[]⟩ := Ff λσ ι H a w f=>by
  have h1:=f x (by simp[q,Op.operands]);have h2:=D5 hy (f y (by simp[q,Op.operands]));rw[hx]at h1;have s:=(G1.1 h).1;rcases h1.sl_inv.sl_inv with⟨rfl,_⟩|⟨b,off,cap,C,E,fr,g,hv,A,D,hc,I,_⟩
  .simp at s
  .have B:=D n z h;refine⟨.pointer (some ⟨b,off+n*i'.size,none⟩),?_,.ref z.cells b (off+n*i'.size) C E fr (g n) A (λj c hj=>(hc n z j c h hj).1) (λj c hj=>(hc n z j c h hj).2) (λj hj=>?_)⟩
   .simp[execOp,q,hv,h2,Ain (u t i ht) hd (u e i' G) k s]
   .have:=I n j s ω;rw[<-l];exact this
theorem Az6 (g:Dd P T) {m:Nat} (f:o.op = .indexAddr t x y) (ht:T t=some i) (hd:i.d = .slice e) (q:T e=some i') (j:i'.size=1) (hx:ρ x = .vec h m) (hy:ρ y = .val (.int k (n:Int))) (l:n<m) : Ch P o ρ ⟨.loc h n,[],[]⟩ := Ff λσ ι H a w c=>by have h1:=c x (by simp[f,Op.operands]);have h2:=D5 hy (c y (by simp[f,Op.operands]));rw[hx]at h1;obtain⟨b,hb,hv⟩:=h1.vec_inv;refine⟨.pointer (some ⟨b,n,none⟩),?_,.loc h n b hb⟩;simp[execOp,f,hv,h2,Ain (g t i ht) hd (g e i' q) k l,j]
theorem Az7 (l:Dd P T) {m:Nat} (j:o.op = .call {callee:=.builtin .len,args:=#[x],argTypes:=#[t]}) (ht:T t=some i) (hd:i.d = .slice e) (hx:ρ x = .vec h m) : Ch P o ρ ⟨.val (.int .i64 m),[],[]⟩ := Ff λσ ι H a w c=>by have h1:=c x (by simp[j,Op.operands,Call.operands]);rw[hx]at h1;obtain⟨b,hb,hv⟩:=h1.vec_inv;obtain⟨g,u,z,B,k,A,y,s,q,f⟩:=En (l t i ht);rw[hd]at f;subst f;refine⟨.int .i64 m,?_,.of_val _⟩;simp[execOp,j,resolve,invoke,builtin,Builtin.len_,hv,run_underlying k,goInt]
theorem Az8 (A:Dd P T) {k len:Nat} {z:IntKind} (q:o.op = .indexAddr t x y) (ht:T t=some i) (hd:i.d = .slice e) (I:T e=some i') (hx:ρ x = .arr h k off len) (u:xs.length=k) (hy:ρ y = .val (.int z (n:Int))) (D:n<len) (j:sz=i'.size):Ch P o ρ ⟨.el h k (off+n) 0,[(h,.rows E sz xs)],[]⟩:=by
 intro σ ι H F W w a next Q s c l hk
 have hh:H h = .rows E sz xs:=l (h,.rows E sz xs) ψ;have hp:=c x (by simp[q,Op.operands]);have h2:=D5 hy (c y (by simp[q,Op.operands]));rw[hx]at hp;have hv:=hp.arr_inv hh u;unfold Hk at hv;split at hv
 .omega
 .rename_i b B hb;obtain⟨G,hv⟩:=hv;refine F4 (v:=.pointer (some ⟨b,(off+n)*sz,none⟩)) ?_ (hk σ ι _ w (Le.refl _ _ _) s ?_)
  .simp[execOp,q,hv,h2,Ain (A t i ht) hd (A e i' I) z D,j,E2]
  .refine .el h k (off+n) 0 _ (by show H h≠_;rw[hh];intro e;cases e) (λJ g f e=>?_) rfl;have e:H h = .rows J g f:=e;rw[hh]at e;cases e;refine⟨ω,λ_=>?_⟩;rw[hb];rfl
 .exact hv.elim
theorem Az9 (l:Dd P T) {s:ByteArray} {c:UInt8} (f:o.op = .index t x y) (ht:T t=some i) (hd:i.d = .string) (hx:ρ x = .val (.string s)) (hy:ρ y = .val (.int k (n:Int))) (hc:s[n]? = some c) : Ch P o ρ ⟨.val (.int .u8 c.toNat),[],[]⟩ := Ff λσ ι H a w b=>by have h1:=D5 hx (b x (by simp[f,Op.operands]));have h2:=D5 hy (b y (by simp[f,Op.operands]));obtain⟨h,u,z,E,j,D,B,A,q,g⟩:=En (l t i ht);rw[hd]at g;subst g;refine⟨.int .u8 c.toNat,?_,.of_val _⟩;simp[execOp,f,h1,h2,Instr.index,asIntOf,run_underlying j,hc]
theorem A0a {f:FuncId} {b:Array Operand} (h:o.op = .makeFunc (.func f) #[] b):Ch P o ρ ⟨.fn f (b.toList.map ρ),[],[]⟩ := Ff λσ ι H a w g=>by refine⟨.func (.func f) #[] (b.map a.eval),by simp[execOp,h,Instr.makeFunc],.fn f _ _ ψ (λi c v h1 h2=>?_)⟩;rw[getElem?_map]at h1;rw[Array.getElem?_map]at h2;cases hc:b[i]? with| none=>rw[hc]at h2;simp at h2| some x=>rw[hc]at h2;rw[Ha,hc]at h1;simp at h1 h2;subst h1;subst h2;exact g x (by simp[h,Op.operands];exact Array.mem_of_getElem? hc)
end
section
variable {P:Program} {o:Oper} {ρ:Operand->AV} {a:Act} {w w':World} {next:Act->World->Prop} {Q:Exit->Act->World->Prop}
variable {σ:A7} {ι:Ca} {T:Dc} {H:Hp} {xs:List AV} {h l n sz:Nat} {x:Operand} {hi lo:Option Operand} {i i':TI} {e t:TypeId}
def Ja (ρ:Operand->AV) (d:Int):Option Operand->Option Int
 | none=>some d
 | some x=>match ρ x with
  | .val (.int _ n)=>some n
  | _=>none
theorem Aio {k:IntKind} {y:Nat} (h:n<=y) (c:BoundsCode) (w:World):(Instr.sliceBound (.int k (n:Int)) y c).run P w = .ok n w:=by have:0<=(n:Int)/\(n:Int)<=(y:Int):=ω;simp only[Instr.sliceBound,asIntOf,Sem.run_bind,Sem.run_pure,Result.andThen_ok,if_pos this,Int.toNat_natCast]
theorem Aip {d:Int} (hb:Ja ρ d (some x)=some (n:Int)) (hc:Conc σ ι H (ρ x) (a.eval x)):∃k,a.eval x = .int k (n:Int):=by
 unfold Ja at hb;simp only[]at hb;split at hb
 .rename_i k m e;rw[e]at hc;cases hb;exact⟨k,hc.val_inv⟩
 .cases hb
theorem Ac3 {j:Bool} {len f:Nat} (b:Ja ρ 0 lo=some (l:Int)) (g:Ja ρ (len:Int) hi=some (h:Int)) (hx:∀x,lo=some x\/hi=some x->Conc σ ι H (ρ x) (a.eval x)) (h1:l<=h) (h2:h<=f) (w:World) : (Instr.sliceBounds j len f (lo.map a.eval) (hi.map a.eval) none).run P w = .ok (l,h,f) w:=by
 unfold Instr.sliceBounds;cases hi with
 | none=>simp[Ja]at g;cases lo with| none=>simp[Ja]at b;simp;omega| some x=>obtain⟨k,e⟩:=Aip b (hx x (.inl rfl));have:=λc=>Aio (P:=P) (k:=k) (n:=l) (y:=len) ω c w;simp[e,this];omega
 | some y=>obtain⟨q,e'⟩:=Aip g (hx y (.inr rfl));have i:=λc=>Aio (P:=P) (k:=q) h2 c w;cases lo with| none=>simp[Ja]at b;simp[e',i];omega| some x=>obtain⟨k,e⟩:=Aip b (hx x (.inl rfl));have:=λc=>Aio (P:=P) (k:=k) h1 c w;simp[e,e',this,i]
theorem Ac4 {y:Operand} (h:lo=some y\/hi=some y):y∈(Op.slice t x lo hi none).operands.toList:=by rcases h with rfl|rfl <;> simp[Op.operands]
theorem A0b (Y:Dd P T) (D:o.op = .slice t x lo hi none) (ht:T t=some i) (hd:i.d = .slice e) (he:T e=some i') (s:sz=i'.size) (hx:ρ x = .sl sz xs) (J:Ja ρ 0 lo=some (l:Int)) (N:Ja ρ (xs.length:Int) hi=some (h:Int)) (h1:l<=h) (h2:h<=xs.length):Ch P o ρ ⟨.sl sz ((xs.take h).drop l),[],[]⟩ := Ff λσ ι H a w A=>by
  have hv:=A x (by simp[D,Op.operands]);rw[hx]at hv;obtain⟨V,u,z,k1,U,k3,k4,k5,k6,S⟩:=En (Y t i ht);rw[hd]at S;subst S;have X:=Ny (Y e i' he);have B:∀(cap:Nat),xs.length<=cap->∀w,(Instr.sliceBounds true xs.length cap (lo.map a.eval) (hi.map a.eval) none).run P w = .ok (l,h,cap) w :=
   λcap q w=>Ac3 J N (λy hy=>A y (by rw[D];exact Ac4 hy)) h1 ω w
  rcases hv.sl_inv.sl_inv with⟨rfl,p,cap,hv⟩|⟨b,off,cap,C,E,fr,g,hv,Z,G,hc,hC,hl,q⟩
  .have M:l=0:=(by simp at h2;omega);have R:h=0:=(by simpa using h2);subst M;subst R;refine⟨.slice (if cap=0 then p else p.map (·.add (0*i'.size))) (0-0) (cap-0),?_,?_⟩
   .simp only[execOp,D,hv,Instr.sliceAt,Instr.slice,Sem.run_bind,run_underlying U,Result.andThen_ok,Option.map_none];have:=B cap ψ w;simp only[length_nil]at this;simp only[this,Result.andThen_ok,X w,Sem.run_pure]
   .exact .cc (.nil sz _ _)
  .refine⟨.slice (if cap=l then some ⟨b,off,none⟩ else some ⟨b,off+l*i'.size,none⟩) (h-l) (cap-l),?_,?_⟩
   .simp only[execOp,D,hv,Instr.sliceAt,Instr.slice,Sem.run_bind,run_underlying U,Result.andThen_ok,Option.map_none,B cap q w,X w,Sem.run_pure,Option.map_some,La]
   .by_cases L:l=h
    .subst L;have:(xs.take l).drop l = []:=ψ;rw[this,Nat.sub_self];exact .cc (.nil sz _ _)
    .rw[if_neg ω];have f:((xs.take h).drop l).length=h-l:=ζ;have k:∀(n:Nat) (y:AV),((xs.take h).drop l)[n]? = some y->xs[l+n]? = some y:=by
      intro n y hy;rw[getElem?_drop]at hy;by_cases I:l+n<h
      .rwa [Hz I]at hy
      .rw[getElem?_eq_none ζ]at hy;cases hy
     have:=CC.sl (σ:=σ) ((xs.take h).drop l) b (off+l*sz) (cap-l) sz C E fr (λn j=>g (l+n) j) Z (λn y hy=>G _ y (k n y hy))
      (λn y j c hy hj=>(hc _ y j c (k n y hy) hj).1) (λn y j c hy hj=>(hc _ y j c (k n y hy) hj).2) (λn j hn hj=>by rw[f]at hn;have:=hC (l+n) j ω hj;rw[E2]at this;rw[<-this];congr 1;omega) (by rw[f];omega) (by rw[f];omega);rw[f,s]at this;rw[s];exact .cc this
theorem A0c (B:Dd P T) {s:ByteArray} (c:o.op = .slice t x lo hi none) (ht:T t=some i) (hd:i.d = .string) (hx:ρ x = .val (.string s)) (f:Ja ρ 0 lo=some (l:Int)) (g:Ja ρ (s.size:Int) hi=some (h:Int)) (h1:l<=h) (h2:h<=s.size):Ch P o ρ ⟨.val (.string (s.extract l h)),[],[]⟩ := Ff λσ ι H a w b=>by
  have hv:=D5 hx (b x (by simp[c,Op.operands]));obtain⟨q,u,z,J,A,I,G,E,D,k⟩:=En (B t i ht);rw[hd]at k;subst k;have j:(Instr.sliceBounds false s.size s.size (lo.map a.eval) (hi.map a.eval) none).run P w = .ok (l,h,s.size) w :=
   Ac3 f g (λy hy=>b y (by rw[c];exact Ac4 hy)) h1 ω w
  refine⟨.string (s.extract l h),?_,.of_val _⟩;simp[execOp,c,hv,Instr.sliceAt,Instr.slice,run_underlying A,j]
theorem A0d (hT:Dd P T) {c k off len:Nat} {E:TypeId} (D:o.op = .slice t x lo hi none) (ht:T t=some i) (hd:i.d = .slice e) (he:T e=some i') (G:sz=i'.size) (hx:ρ x = .arr c k off len) (N:xs.length=k) (L:Ja ρ 0 lo=some (l:Int)) (R:Ja ρ (len:Int) hi=some (h:Int)) (h1:l<=h) (h2:h<=len) (h3:l=0\/l<h) : Ch P o ρ ⟨.arr c k (off+l) (h-l),[(c,.rows E sz xs)],[]⟩:=by
 intro σ ι H F W w a next Q s q I hk
 have hh:H c = .rows E sz xs:=I (c,.rows E sz xs) ψ;have hp:=q x (by simp[D,Op.operands]);rw[hx]at hp;have hv:=hp.arr_inv hh N;obtain⟨X,u,z,k1,V,k3,k4,k5,k6,U⟩:=En (hT t i ht);rw[hd]at U;subst U;have Y:=Ny (hT e i' he);have B:∀(cap:Nat),len<=cap->∀w,(Instr.sliceBounds true len cap (lo.map a.eval) (hi.map a.eval) none).run P w = .ok (l,h,cap) w :=
  λcap Z w=>Ac3 L R (λy hy=>q y (by rw[D];exact Ac4 hy)) h1 ω w
 unfold Hk at hv;split at hv
 .rename_i A;obtain⟨hv,J,M⟩:=hv;subst M;subst J;have e1:l=0:=ω;have e2:h=0:=ω;subst e1;subst e2;refine F4 (v:=.slice none 0 0) ?_ (hk σ ι _ w (Le.refl _ _ _) s ?_)
  .simp only[execOp,D,hv,Instr.sliceAt,Instr.slice,Sem.run_bind,run_underlying V,Result.andThen_ok,Option.map_none];have:=B 0 ω w;simp only[this,Result.andThen_ok,Y w,Sem.run_pure];rfl
  .refine .arr _ _ _ _ _ (by show H c≠_;rw[hh];intro e;cases e) (λS g f e=>?_) rfl;have e:H c = .rows S g f:=e;rw[hh]at e;cases e;exact⟨ω,λ_=>by rw[A];exact⟨rfl,rfl,rfl⟩⟩
 .rename_i b j hb;obtain⟨a1,hv⟩:=hv;refine F4 (v:=.slice (some ⟨b,(off+l)*sz,none⟩) (h-l) (j-(off+l))) ?_ (hk σ ι _ w (Le.refl _ _ _) s ?_)
  .simp only[execOp,D,hv,Instr.sliceAt,Instr.slice,Sem.run_bind,run_underlying V,Result.andThen_ok,Option.map_none];have:=B (j-off) ω w;simp only[this,Result.andThen_ok,Y w,Sem.run_pure,Option.map_some,La];rcases h3 with rfl|h3
   .simp
   .rw[if_neg ω,E2,G,Nat.sub_sub]
  .refine .arr _ _ _ _ _ (by show H c≠_;rw[hh];intro e;cases e) (λS g f e=>?_) rfl;have e:H c = .rows S g f:=e;rw[hh]at e;cases e;refine⟨ω,λ_=>?_⟩;rw[hb];exact⟨ω,rfl⟩
 .exact hv.elim
def Ac5 (σ:A7) (ι:Ca) (H:Hp) (cs:List AV) (C:Array Value):Prop := C.size=cs.length/\∀(i:Nat) (c:AV) (v:Value),cs[i]? = some c->C[i]? = some v->Conc σ ι H c v
theorem Aiq (off:Nat):∀(l:List Value) (m:Nat) (cells:Array Value),off+m+l.length<=cells.size -> ((l.zipIdx m).foldl (λcs p=>cs.setIfInBounds (off+p.2) p.1) cells).size=cells.size /\ ∀k:Nat,((l.zipIdx m).foldl (λcs p=>cs.setIfInBounds (off+p.2) p.1) cells)[k]? = if off+m<=k/\k<off+m+l.length then l[k-(off+m)]? else cells[k]?
 | [],m,cells,_=>by refine⟨rfl,λk=>?_⟩;rw[if_neg (by simp only[length_nil];omega)];rfl
 | v::rest,m,cells,h=>by
  simp only[length_cons]at h;obtain⟨c,b⟩:=Aiq off rest (m+1) (cells.setIfInBounds (off+m) v) ζ;simp only[zipIdx_cons,foldl_cons];refine⟨by rw[c];simp,λk=>?_⟩;rw[b k];by_cases h1:k=off+m
  .subst h1;rw[if_neg ω,if_pos ψ];rw[Array.getElem?_setIfInBounds_self_of_lt ω];simp
  .by_cases h2:off+m<=k/\k<off+m+(rest.length+1)
   .rw[if_pos ω,length_cons,if_pos h2];rw[show k-(off+m)=(k-(off+(m+1)))+1 by omega];simp
   .rw[if_neg ω,length_cons,if_neg h2,Array.getElem?_setIfInBounds_ne ω]
theorem An3 {σ:A7} {ι:Ca} {H:Hp} {fs:List (Nat×Nat)} {place:Nat->Option (Nat×Nat)} (hp:∀n,place n=fs[n]?):∀(ps:List (Nat×Operand)) (cs:List AV) (C:Array Value) (b:List AV),Ac5 σ ι H cs C -> (∀p∈ps,Conc σ ι H (ρ p.2) (a.eval p.2))->Vs fs cs (ps.map λp=>(p.1,ρ p.2))=some b -> ∃k,Instr.fill place C (ps.map λp=>(p.1,a.eval p.2))=some k/\Ac5 σ ι H b k
 | [],cs,C,b,g,_,h=>by simp only[map_nil,Vs]at h;cases h;exact⟨C,rfl,g⟩
 | p::ps,cs,C,b,g,hx,h=>by
  simp only[map_cons,Vs]at h;cases hq:fs[p.1]? with
  | none=>rw[hq]at h;cases h
  | some q=>
   rw[hq]at h;simp only[]at h;cases hb:(Nat.beq (ρ p.2).cells.length q.2&&Nat.ble (q.1+q.2) cs.length) with
   | false=>rw[hb]at h;cases h
   | true=>
    rw[hb]at h;simp only[cond_true]at h;simp only[Fe]at hb;have B:(ρ p.2).cells.length=q.2:=Gk hb.1;have A:q.1+q.2<=cs.length:=G2 hb.2;have hc:=(hx p ψ).cells;have z:=g.1;have j:=Aiq q.1 (a.eval p.2).cells.toList 0 C ζ;have s:Ac5 σ ι H (Nx cs q.1 (ρ p.2).cells) (((a.eval p.2).cells.toList.zipIdx 0).foldl (λcs p=>cs.setIfInBounds (q.1+p.2) p.1) C):=by
     refine⟨by rw[j.1,Aii _ _ _ ω];exact g.1,λi c v h1 h2=>?_⟩;rw[Aih _ _ _ ω]at h1;rw[j.2 i]at h2;simp only[Array.length_toList,hc.1,Nat.add_zero]at h2;by_cases g1:i<q.1
     .rw[if_pos g1]at h1;rw[if_neg ω]at h2;exact g.2 i c v h1 h2
     .rw[if_neg g1]at h1;by_cases g2:i<q.1+(ρ p.2).cells.length
      .rw[if_pos g2]at h1;rw[if_pos ω,Ha]at h2;exact hc.2 _ c v h1 h2
      .rw[if_neg g2]at h1;rw[if_neg ω]at h2;exact g.2 i c v h1 h2
    obtain⟨k,x,u⟩:=An3 hp ps _ _ b s (λy l=>hx y (by simp[l])) h;refine⟨k,?_,u⟩;simp only[map_cons,Instr.fill,hp,hq];have f:((a.eval p.2).cells.size≠q.2||decide (q.1+(a.eval p.2).cells.size>C.size))=false:=by have:=g.1;simp;omega
    rw[f];simp only[Bool.false_eq_true,if_false];rw[<-Array.foldl_toList,Array.toList_zipIdx];exact x
theorem A0e (R:Dd P T) {b:Array (Nat×Operand)} {fs:List (Nat×Nat)} {cs:List AV} (G:o.op = .build t b) (ht:T t=some i) (hd:i.d = .struct fs) (hc:Vs fs (i.zero.map .val) (b.toList.map λp=>(p.1,ρ p.2))=some cs):Ch P o ρ ⟨.agg cs,[],[]⟩ := Ff λσ ι H a w q=>by
  obtain⟨E,u,z,M,L,J,V,U,D,B⟩:=En (R t i ht);rw[hd]at B;obtain⟨fields,rfl,s,hpos⟩:=B;have l:∀(fl:List Field),(∀f∈fl,0<P.cellsOf f.type)->fl.mapM (λf=>(P.info? f.type).map λi=>(f.offset,i.size))=some (fl.map λf=>(f.offset,P.cellsOf f.type)):=by
   intro fl;induction fl with
   | nil=>intro _;rfl
   | cons f fl ih=>intro hp;have h0:=hp f ψ;have h:=ih (λS y=>hp S (by simp[y]));unfold Program.cellsOf at h0 ⊢;cases g:P.info? f.type with| none=>rw[g]at h0;simp at h0| some inf=>unfold Program.cellsOf at h;rw[mapM_cons,h,g];simp[g]
  have N:Ac5 σ ι H (i.zero.map .val) z.cells:=(by refine⟨by simp[D],λj c v h1 h2=>?_⟩;rw[D,getElem?_map,Ha,h2]at h1;simp at h1;subst h1;exact .of_val v);obtain⟨k,I,A⟩:=An3 (a:=a) (place:=λn=>((fields.toList.map λf=>(f.offset,P.cellsOf f.type)).toArray)[n]?) (fs:=fs) (λn=>by rw[s];simp) b.toList _ _ cs N (λp hp=>q p.2 (by simp only[G,Op.operands];simpa using ⟨p.1,by simpa using hp⟩)) hc;refine⟨.agg k,?_,.agg cs k A.1 A.2⟩;have hb:P.built t ((b.map λ(i,x)=>(i,a.eval x)).toList)=some k:=(by unfold Program.built;rw[M,L];simp only[J,l fields.toList hpos];rw[<-I];simp);simp only[execOp,G,Sem.run_bind,run_build w t _ k hb,Result.andThen_ok,Sem.run_pure]
end
section
variable {P:Program} {o:Oper} {ρ:Operand->AV} {a:Act} {w w':World} {next:Act->World->Prop} {Q:Exit->Act->World->Prop}
variable {b:Array (Nat×Operand)} {T:Dc} {k:IntKind} {l:Nat} {x y:Operand} {i i':TI} {e t:TypeId}
theorem Oo {sz:Nat} {x:AV} (h:Ma sz x=true):x.cells.length=sz/\∀c∈x.cells,c.cl1=true:=by unfold Ma at h;simp only[Fe]at h;exact⟨Gk h.1,D8.1 h.2⟩
def Lb (vs:List Value):List Value:=vs.flatMap λv=>v.cells.toList
theorem Air {σ:A7} {ι:Ca} {H:Hp} {sz:Nat}:∀(xs:List AV) (vs:List Value),xs.length=vs.length->(∀x∈xs,Ma sz x=true) -> (∀(i:Nat) (x:AV) (v:Value),xs[i]? = some x->vs[i]? = some v->Conc σ ι H x v) -> (Lb vs).length=xs.length*sz/\∃g:Nat->Nat->Value,(∀(i:Nat) (x:AV) (j:Nat) (c:AV),xs[i]? = some x->x.cells[j]? = some c->CC σ c (g i j)/\Fj (g i j)=true) /\ (∀(i j:Nat),i<xs.length->j<sz->(Lb vs)[i*sz+j]? = some (g i j))
 | [],[],_,_,_=>⟨by simp[Lb],λ_ _=>undef,ψ,ψ⟩
 | x::xs,v::vs,B,k,hc=>by
  obtain⟨z,g,s,q⟩:=Air xs vs (by simpa using B) (λy hy=>k y (by simp[hy])) (λi y u h1 h2=>hc (i+1) y u (by simpa using h1) (by simpa using h2));have h0:=hc 0 x v ψ ψ;have hx:=Oo (k x ψ);have f:=h0.cells;have h:v.cells.toList.length=sz:=(by simp[f.1,hx.1]);have l:Lb (v::vs)=v.cells.toList++Lb vs:=(by simp[Lb]);refine⟨by rw[l,length_append,z,h,length_cons,E2];omega,λi j=>if i=0 then (v.cells[j]?).getD undef else g (i-1) j,?_,?_⟩
  .intro i y j c hy hj;cases i with
   | zero=>simp at hy;subst hy;have b:j<v.cells.size:=(by rw[f.1];exact (G1.1 hj).1);have:(v.cells[j]?).getD undef=v.cells[j]:=(by simp[b]);simp only[if_pos];rw[this];exact (f.2 j c _ hj (by simp[b])).cc_of (hx.2 c (Fi hj))
   | succ i=>have A:xs[i]? = some y:=(by simpa using hy);simpa using s i y j c A hj
  .intro i j hi hj;rw[l];cases i with
   | zero=>rw[getElem?_append_left ω,Nat.zero_mul,Nat.zero_add,Ha];have b:j<v.cells.size:=(by rw[f.1,hx.1];exact hj);simp[b]
   | succ i=>rw[getElem?_append_right (by rw[h,E2];omega),h,show (i+1)*sz+j-sz=i*sz+j by rw[E2];omega];rw[q i j (by simpa using hi) hj];simp
theorem An4 {sz:Nat}:∀(vs:List Value) (m:Nat) (C:Array Value),(∀v∈vs,v.cells.size=sz)->C.size=(m+vs.length)*sz -> ∃f,Instr.fill (λi=>some (i*sz,sz)) C ((vs.zipIdx m).map λp=>(p.2,p.1))=some f/\f.size=C.size/\(∀k:Nat,k<m*sz->f[k]? = C[k]?) /\ ∀k:Nat,m*sz<=k->f[k]? = (Lb vs)[k-m*sz]?
 | [],m,C,_,g=>by refine⟨C,rfl,rfl,λ_ _=>rfl,λk hk=>?_⟩;simp only[length_nil,Nat.add_zero]at g;simp[Lb];omega
 | v::vs,m,C,hv,g=>by
  simp only[length_cons]at g;have h0:=hv v ψ;have l:(m+(vs.length+1))*sz=m*sz+sz+vs.length*sz:=(by rw[E2,E2];omega);have b:=Aiq (m*sz) v.cells.toList 0 C ζ;simp only[Nat.add_zero,Array.length_toList,h0]at b;obtain⟨f,x,s,j,q⟩:=An4 vs (m+1) (((v.cells.toList.zipIdx 0).foldl (λcs p=>cs.setIfInBounds (m*sz+p.2) p.1) C)) (λu hu=>hv u (by simp[hu])) (by rw[b.1,g,show m+1+vs.length=m+(vs.length+1) by omega]);refine⟨f,?_,by rw[s,b.1],?_,?_⟩
  .simp only[zipIdx_cons,map_cons,Instr.fill];have c:(v.cells.size≠sz||decide (m*sz+v.cells.size>C.size))=false:=by simp;omega
   rw[c];simp only[Bool.false_eq_true,if_false];rw[<-Array.foldl_toList,Array.toList_zipIdx];exact x
  .intro k hk;rw[j k (by rw[E2];omega),b.2 k,if_neg ω]
  .intro k hk;have h:Lb (v::vs)=v.cells.toList++Lb vs:=(by simp[Lb]);rw[h];by_cases h1:k<m*sz+sz
   .rw[j k (by rw[E2];omega),b.2 k,if_pos ω,getElem?_append_left ζ]
   .rw[q k (by rw[E2];omega),getElem?_append_right ζ];congr 1;simp only[Array.length_toList,h0];rw[E2];omega
theorem A0f (ps:List (Nat×Operand)) (f:Operand->Value) (m:Nat) (h:ps.map (·.1)=range' m ps.length):ps.map (λp=>(p.1,f p.2))=((ps.map λp=>f p.2).zipIdx m).map λp=>(p.2,p.1):=by induction ps generalizing m with| nil=>rfl| cons p ps ih=>simp only[map_cons,length_cons,range'_succ,List.cons.injEq]at h;simp only[map_cons,zipIdx_cons,List.cons.injEq];exact⟨by rw[h.1],ih (m+1) h.2⟩
theorem An5 {len:Nat} (R:o.op = .buildSlice t len b) (hi:I9 P t=some i) (hd:i.d = .slice e) (S:I9 P e=some i') (Z:0<i'.size) (hp:b.toList.map (·.1)=range' 0 len) (a1:len*i'.size<=16777216) (hv:∀p∈b.toList,(a.eval p.2).cells.size=i'.size) : ∃C:Array Value,C.toList=Lb (b.toList.map λp=>a.eval p.2)/\(execOp a.eval o).run P w = .ok (.value (.slice (some ⟨w.heap.size,0,none⟩) len len)) (w.alloc (.cells C e)):=by
 obtain⟨M,u,z,k1,L,k3,k4,k5,k6,J⟩:=En hi;rw[hd]at J;subst J;obtain⟨j,Y,y⟩:=An0 S w;have N:=Ny S w;have c:b.toList.length=len:=by have:=congrArg length hp;simpa using this
 have A:∀v∈(b.toList.map λp=>a.eval p.2),v.cells.size=i'.size:=by intro v l;simp only[mem_map]at l;obtain⟨p,D,rfl⟩:=l;exact hv p D
 have G:∀(vs:List Value),(∀v∈vs,v.cells.size=i'.size)->(Lb vs).length=vs.length*i'.size:=by intro vs;induction vs with| nil=>intro _;simp[Lb]| cons v vs ih=>intro h;have:=ih (λu hu=>h u (by simp[hu]));have h0:=h v ψ;simp only[Lb,flatMap_cons,length_append,Array.length_toList,h0,length_cons]at this ⊢;rw[this,E2];omega
 obtain⟨s,X,V,r3,U⟩:=An4 (sz:=i'.size) (b.toList.map λp=>a.eval p.2) 0 ((Array.range (len*i'.size)).map (j.cells[· % j.cells.size]!)) A (by simp[c]);refine⟨s,?_,?_⟩
 .apply ext_getElem?;intro k;rw[Ha,U k ω];simp
 .have hpos:0<len\/len=0:=ω;have g:Instr.fill (λi=>some (i*i'.size,i'.size)) ((Array.range (len*i'.size)).map (j.cells[· % j.cells.size]!)) ((b.map λ(i,x)=>(i,a.eval x)).toList)=some s:=(by rw[<-X,<-A0f b.toList a.eval 0 (by rw[hp,c])];simp);rcases hpos with hpos|hpos
  .have E:¬len*i'.size=0:=(by have:=Nat.mul_pos hpos Z;omega);have q:¬len*i'.size>2 ^ 24:=ω;have f:Instr.fill (λi=>some (i*i'.size,i'.size)) ((Array.range (len*i'.size)).map (j.cells[· % j.cells.size]!)) (b.toList.map λx=>(x.1,a.eval x.2))=some s:=(by rw[<-g];simp);simp[execOp,R,Instr.buildSlice,run_underlying L,N,q,E,y,f,newRow,newObj,Sem.run]
  .subst hpos;have I:s = #[]:=(by apply Array.eq_empty_of_size_eq_zero;rw[V];simp);subst I;have B:b = #[]:=(by apply Array.eq_empty_of_size_eq_zero;simpa using c);subst B;have:(Array.map (λ_:Nat=>(default:Value)) (Array.range 0)) = #[]:=ψ;simp[execOp,R,Instr.buildSlice,run_underlying L,N,newRow,newObj,Sem.run,Instr.fill,this]
theorem Ac6 {len:Nat} {p:Nat×Operand} (h:p∈b.toList):p.2∈(Op.buildSlice t len b).operands.toList:=by simp only[Op.operands];simpa using ⟨p.1,by simpa using h⟩
theorem An6 (B:Dd P T) {len:Nat} (z:o.op = .buildSlice t len b) (ht:T t=some i) (hd:i.d = .slice e) (I:T e=some i') (A:0<i'.size) (hp:b.toList.map (·.1)=range' 0 len) (y:len*i'.size<=16777216) (h:∀p∈b.toList,Ma i'.size (ρ p.2)=true) : Ch P o ρ ⟨.sl i'.size (b.toList.map λp=>ρ p.2),[],[]⟩:=by
  intro σ ι H F W w a next Q s k _ hk
  have l:b.toList.length=len:=(by have:=congrArg length hp;simpa using this);have u:∀p∈b.toList,(a.eval p.2).cells.size=i'.size:=(by intro p f;rw[((k p.2 (by rw[z];exact Ac6 f)).cells).1];exact (Oo (h p f)).1);obtain⟨C,J,D⟩:=An5 (P:=P) (a:=a) (w:=w) z (B t i ht) hd (B e i' I) A hp y u;obtain⟨G,g,g1,g2⟩:=Air (σ:=σ) (ι:=ι) (H:=H) (sz:=i'.size) (b.toList.map λp=>ρ p.2) (b.toList.map λp=>a.eval p.2) ψ (by intro x hx;simp only[mem_map]at hx;obtain⟨p,f,rfl⟩:=hx;exact h p f) (by intro j x v h1 h2;rw[getElem?_map]at h1 h2;cases hj:b.toList[j]? with| none=>rw[hj]at h1;simp at h1| some p=>rw[hj]at h1 h2;simp at h1 h2;subst h1;subst h2;exact k p.2 (by rw[z];exact Ac6 (Fi hj)))
  obtain⟨s',le⟩:=s.newFrozen (.cells C e);refine F4 D (hk _ ι _ _ le s' (.cc ?_));have E:len<=140737488355328:=(by have:len*1<=len*i'.size:=Nat.mul_le_mul_left len A;omega);have:=CC.sl (σ:=Ay σ w.heap.size (some (.cells C e))) (b.toList.map λp=>ρ p.2) w.heap.size 0 len i'.size C e (0,0) g (Ce _ _ _)
    (by intro j x hj
        rw[getElem?_map]at hj
        cases hj':b.toList[j]? with
        | none=>rw[hj']at hj;simp at hj
        | some p=>rw[hj']at hj;simp at hj;subst hj;exact (Oo (h p (Fi hj'))).1) (λj x q c h1 h2=>((g1 j x q c h1 h2).1).mono le.sto) (λj x q c h1 h2=>(g1 j x q c h1 h2).2) (by intro j q hj hq;rw[Nat.zero_add,<-Ha,J];exact g2 j q hj hq) (by rw[length_map];omega) (by rw[length_map];omega)
  rw[length_map,l]at this;exact this
theorem A0g (I:Dd P T) {len:Nat} (h:Nat) (E:o.op = .buildSlice t len b) (ht:T t=some i) (hd:i.d = .slice e) (R:T e=some i') (z:0<i'.size) (hp:b.toList.map (·.1)=range' 0 len) (B:len*i'.size<=16777216) (f:∀p∈b.toList,Ma i'.size (ρ p.2)=true) :
  Ch P o ρ ⟨.arr h len 0 len,[(h,.none)],[(h,.rows e i'.size (b.toList.map λp=>ρ p.2))]⟩:=by
 intro σ ι H F W w a next Q s k D hk
 have M:H h = .none:=D (h,.none) ψ
 have l:b.toList.length=len:=by have:=congrArg length hp;simpa using this
 have A:∀p∈b.toList,(a.eval p.2).cells.size=i'.size:=by
  intro p c
  rw[((k p.2 (by rw[E];exact Ac6 c)).cells).1]
  exact (Oo (f p c)).1
 obtain⟨C,J,L⟩:=An5 (P:=P) (a:=a) (w:=w) E (I t i ht) hd (I e i' R) z hp B A
 obtain⟨G,g,g1,g2⟩:=Air (σ:=σ) (ι:=ι) (H:=H) (sz:=i'.size) (b.toList.map λp=>ρ p.2) (b.toList.map λp=>a.eval p.2) ψ
  (by intro x hx;simp only[mem_map]at hx;obtain⟨p,c,rfl⟩:=hx;exact f p c)
  (by
   intro j x v h1 h2
   rw[getElem?_map]at h1 h2
   cases hj:b.toList[j]? with
   | none=>rw[hj]at h1;simp at h1
   | some p=>
    rw[hj]at h1 h2;simp at h1 h2;subst h1;subst h2
    exact k p.2 (by rw[E];exact Ac6 (Fi hj)))
 have N:len<=140737488355328:=by
  have:len*1<=len*i'.size:=Nat.mul_le_mul_left len z
  omega
 obtain⟨s',le⟩:=s.newRows h e i'.size (b.toList.map λp=>ρ p.2) len C (.inl M) z (by rw[length_map];omega) (by rw[length_map];omega)
  (by rw[<-Array.length_toList,J,G,length_map,l]) ⟨g,(by
    intro j x hj
    rw[getElem?_map]at hj
    cases hj':b.toList[j]? with
    | none=>rw[hj']at hj;simp at hj
    | some p=>rw[hj']at hj;simp at hj;subst hj;exact (Oo (f p (Fi hj'))).1),g1,(by
    intro j q hj hq;rw[<-Ha,J];exact g2 j q hj hq)⟩
 refine F4 L (hk _ _ _ _ le s' ?_)
 refine .arr h len 0 len _ (by show Ay H h _ h≠_;rw[Ce];intro e;cases e) (λS y u e'=>?_) rfl
 have e':Ay H h _ h = .rows S y u:=e'
 rw[Ce]at e';cases e'
 refine⟨by rw[length_map];omega,λ_=>?_⟩
 rw[Ce]
 exact⟨ω,by rw[Nat.zero_mul];rfl⟩
def Gd (i:TI):AV := match i.d,i.zero with
 | .struct _,z=>.agg (z.map .val)
 | _,[v]=>.val v
 | _,z=>.agg (z.map .val)
theorem An7 (hT:Dd P T) {k':IntKind} {c:Nat} (I:AV) (h:Nat) (Y:o.op = .makeSlice t x y) (ht:T t=some i) (hd:i.d = .slice e) (he:T e=some i') (hz:0<i'.size) (hx:ρ x = .val (.int k (l:Int))) (hy:ρ y = .val (.int k' (c:Int))) (a6:l<=c) (hb:i'.bytes*c<=281474976710656) (hc:c<=140737488355328) (a8:I.cells.length=i'.size) (a7:i'.zero.length=i'.size) (U:∀(q:Nat) (c:AV) (v:Value),I.cells[q]? = some c->i'.zero[q]? = some v->(∀σ,CC σ c v)/\Fj v=true) :
  Ch P o ρ ⟨.arr h l 0 l,[(h,.none)],[(h,.rows e i'.size (replicate l I))]⟩:=by
 intro σ ι H F W w a next Q s E V hk
 have hn:H h = .none:=V (h,.none) ψ
 have h1:=D5 hx (E x (by simp[Y,Op.operands]))
 have h2:=D5 hy (E y (by simp[Y,Op.operands]))
 obtain⟨aa,u,z,k1,k2,k3,k4,k5,k6,k7⟩:=En (hT t i ht)
 rw[hd]at k7;subst k7
 obtain⟨A,u',b,S,ac,R,N,M,D,ab⟩:=En (hT e i' he)
 have g:=run_make (P:=P) w t e A b k2 S R k k' (l:Int) (c:Int) ω ω (by
   have h':((i'.bytes*c:Nat):Int)<=281474976710656:=ω
   rw[Int.natCast_mul]at h';rw[M];exact h') ω
 rw[Int.toNat_natCast,Int.toNat_natCast,N]at g
 have f:b.cells.size=i'.size:=by
  rw[<-a7,D,Array.length_toList]
 have B:∀q,q<c*i'.size->(madeCells b.cells (c*i'.size))[q]? = b.cells[q % i'.size]?:=by
  intro q hq
  unfold madeCells
  have hm:q % i'.size<b.cells.size:=by rw[f];exact Nat.mod_lt _ hz
  have Z:b.cells[q % i'.size]! = b.cells[q % i'.size]:=by simp[hm]
  simp[hq,f,Z]
 obtain⟨s',le⟩:=s.newRows h e i'.size (replicate l I) c (madeCells b.cells (c*i'.size)) (.inl hn) hz ζ (by simpa using a6) (by simp[madeCells])
  ⟨λ_ j=>(b.cells[j]?).getD undef,(by
   intro j x' hj
   have:=Fi hj
   simp at this
   rw[this.2];exact a8),(by
   intro j x' q c' hj hq
   have:=Fi hj
   simp at this
   rw[this.2]at hq
   have X:q<b.cells.size:=by
    have:=(G1.1 hq).1
    omega
   have hv:b.cells[q]? = some b.cells[q]:=Array.getElem?_eq_getElem X
   have:=U q c' b.cells[q] hq (by rw[D,Ha,hv])
   show CC σ c' ((b.cells[q]?).getD undef)/\Fj ((b.cells[q]?).getD undef)=true
   rw[hv]
   exact⟨this.1 σ,this.2⟩),(by
   intro j q hj hq
   have hj':j<l:=by simpa using hj
   have a1:j*i'.size+q<c*i'.size:=by
    have:(j+1)*i'.size<=c*i'.size:=Nat.mul_le_mul_right _ ω
    rw[E2]at this;omega
   rw[B _ a1]
   have:(j*i'.size+q) % i'.size=q:=by rw[Nat.mul_comm,Nat.mul_add_mod,Nat.mod_eq_of_lt hq]
   rw[this]
   have G:q<b.cells.size:=ω
   simp[G])⟩
 refine F4 (v:=.slice (some ⟨w.heap.size,0,none⟩) l c) ?_ (hk _ _ _ _ le s' ?_)
 .simp[execOp,Y,h1,h2,g]
 .refine .arr h l 0 l _ (by show Ay H h _ h≠_;rw[Ce];intro e;cases e) (λE' L J e'=>?_) rfl
  have e':Ay H h _ h = .rows E' L J:=e'
  rw[Ce]at e';cases e'
  refine⟨ψ,λ_=>?_⟩
  rw[Ce]
  exact⟨ω,by rw[Nat.zero_mul];rfl⟩
theorem A0h (U:Dd P T) {R:IntKind} {m:Nat} {v:Value} (h:Nat) (L:o.op = .makeSlice t x y) (ht:T t=some i) (hd:i.d = .slice e) (he:T e=some i') (Z:i'.size=1) (hv:i'.zero = [v]) (hx:ρ x = .val (.int k (m:Int))) (hy:ρ y = .val (.int R (m:Int))) (hb:i'.bytes*m<=281474976710656) (hm:m<=16) : Ch P o ρ ⟨.vec h m,[(h,.none)],[(h,.cells e (replicate m (.val v)))]⟩:=by
 intro σ ι H F W w a next Q s g I hk
 have hn:H h = .none:=I (h,.none) ψ;have h1:=D5 hx (g x (by simp[L,Op.operands]));have h2:=D5 hy (g y (by simp[L,Op.operands]));obtain⟨S,u,z,k1,Y,k3,k4,k5,k6,N⟩:=En (U t i ht);rw[hd]at N;subst N;obtain⟨f,u',M,D,X,B,A,l,j,V⟩:=En (U e i' he);have b:=run_make (P:=P) w t e f M Y D B k R (m:Int) (m:Int) ω ω (by have h':((i'.bytes*m:Nat):Int)<=281474976710656:=ω;rw[Int.natCast_mul]at h';rw[l];exact h') ω;rw[Int.toNat_natCast,A,Z,Nat.mul_one]at b;have E:M.cells = #[v]:=by apply Array.ext';rw[<-j,hv]
 rw[E]at b;obtain⟨s',le⟩:=s.newBox h hn e (replicate m (.val v)) (madeCells #[v] m) (by simp[madeCells]) (by intro q c u hq hu;have hc:=Fi hq;simp at hc;have J:q<m:=(by have:=(G1.1 hq).1;simpa using this);have G:u=v:=(by unfold madeCells at hu;simp[J]at hu;rw[<-hu,Nat.mod_one];rfl);rw[hc.2,G];exact .of_val v);refine F4 (v:=.slice (some ⟨w.heap.size,0,none⟩) m m) ?_ (hk _ _ _ _ le s' ?_)
 .simp[execOp,L,h1,h2,b]
 .exact .vec h m _ (Ce _ _ _)
theorem A0i (D:Dd P T) {u:IntKind} {c:Nat} (h:Nat) (A:o.op = .makeSlice t x y) (ht:T t=some i) (hd:i.d = .slice e) (B:T e=some i') (z:0<i'.size) (hx:ρ x = .val (.int k (l:Int))) (hy:ρ y = .val (.int u (c:Int))) (f:l<=c) (hb:i'.bytes*c<=281474976710656) (hc:c<=140737488355328) (g:Ma i'.size (Gd i')=true) (b:(Gd i').cells=i'.zero.map .val) : Ch P o ρ ⟨.arr h l 0 l,[(h,.none)],[(h,.rows e i'.size (replicate l (Gd i')))]⟩:=by obtain⟨s,E⟩:=Oo g;refine An7 D (Gd i') h A ht hd B z hx hy f hb hc s (by rw[<-s,b,length_map]) ?_;intro q G v hq hv;have j:=E G (Fi hq);rw[b,getElem?_map,hv]at hq;simp at hq;subst hq;exact⟨λσ=>.val v,j⟩
inductive Hb:List AV->List AV->Prop
 | nil:Hb [] []
 | same (c:AV) {l l':List AV} (h:Hb l l'):Hb (c::l) (c::l')
 | sl (s:Nat) {l l':List AV} (h:Hb l l'):Hb (.val (.slice none 0 0)::l) (.sl s []::l')
theorem Hb.spec {l g:List AV} (h:Hb l g):g.length=l.length/\∀(q:Nat) (c f:AV),l[q]? = some c->g[q]? = some f->f=c\/∃s,c = .val (.slice none 0 0)/\f = .sl s []:=by
 induction h with
 | nil=>exact⟨rfl,λq c f h=>by simp at h⟩
 | same c h ih=>refine⟨by simp[ih.1],λq a b h1 h2=>?_⟩;cases q with| zero=>cases h1;cases h2;exact .inl rfl| succ q=>exact ih.2 q a b h1 h2
 | sl s h ih=>refine⟨by simp[ih.1],λq a b h1 h2=>?_⟩;cases q with| zero=>cases h1;cases h2;exact .inr ⟨s,rfl,rfl⟩| succ q=>exact ih.2 q a b h1 h2
theorem A0j (J:Dd P T) {B:IntKind} {c:Nat} (g:AV) (h:Nat) (E:o.op = .makeSlice t x y) (ht:T t=some i) (hd:i.d = .slice e) (I:T e=some i') (D:0<i'.size) (hx:ρ x = .val (.int k (l:Int))) (hy:ρ y = .val (.int B (c:Int))) (j:l<=c) (hb:i'.bytes*c<=281474976710656) (hc:c<=140737488355328) (u:Ma i'.size (Gd i')=true) (b:(Gd i').cells=i'.zero.map .val) (G:Hb (Gd i').cells g.cells) : Ch P o ρ ⟨.arr h l 0 l,[(h,.none)],[(h,.rows e i'.size (replicate l g))]⟩:=by
 obtain⟨M,L⟩:=Oo u;obtain⟨R,A⟩:=G.spec;refine An7 J g h E ht hd I D hx hy j hb hc ω (by rw[<-M,b,length_map]) ?_;intro q N v hq hv;have f:(Gd i').cells[q]? = some (.val v):=by rw[b,getElem?_map,hv];rfl
 have z:=L _ (Fi f);rcases A q _ N f hq with rfl|⟨s,h1,rfl⟩
 .exact⟨λσ=>.val v,z⟩
 .cases h1;exact⟨λσ=>.nil s _ _,rfl⟩
end
section
variable {P:Program} {o:Oper} {ρ:Operand->AV} {a:Act} {w w':World} {next:Act->World->Prop} {Q:Exit->Act->World->Prop}
variable {F σ:A7} {ι:Ca} {H:Hp} {xs ys:List AV} {sz:Nat} {e t t' ty:TypeId} {i:TypeInfo} {v:Value} {W:World}
structure Mb (P:Program) (w:World) (src:Value) (sz n:Nat) (Cn:List Value):Prop where
 len:∀d,(Builtin.lenOf src).run P {w with drawn:=d} = .ok n {w with drawn:=d}
 cells:∀d,(Builtin.firstCells sz n src).run P {w with drawn:=d} = .ok Cn.toArray {w with drawn:=d}
 size:Cn.length=n*sz
theorem Lc {i:TI} (h:I9 P t=some i) (hd:i.d = .slice e):∃u,P.underlying t=some u/\u = .slice e:=by obtain⟨c,u,z,q,f,l,k,j,g,b⟩:=En h;rw[hd]at b;exact⟨u,f,b⟩
theorem An8 {j:TypeDesc} (ht:P.underlying t=some (.slice e)) (l:P.underlying t'=some j) (k:(∃e',j = .slice e')\/j = .string) (hi:P.info? e=some i) (b:Addr) (c f n:Nat) (g:Value) (Cn:List Value) (s:Mb P w g i.size n Cn) (h:c+n<=f) (q:(storeCells (b.add (c*i.size)) Cn).run P w = .ok () w') : (Builtin.append_ #[t,t'] ty #[.slice (some b) c f,g]).run P w = .ok (.slice (some b) (c+n) f) w':=by have h1:=s.len w.drawn;have h2:=s.cells w.drawn;have u:({w with drawn:=w.drawn}:World)=w:=rfl;rw[u]at h1 h2;rcases k with⟨e',rfl⟩|rfl <;> simp[Builtin.append_,run_underlying ht,run_underlying l,sizeOf,typeInfo,hi,h1,h,h2,q]
theorem A0k {c:TypeDesc} (ht:P.underlying t=some (.slice e)) (g:P.underlying t'=some c) (f:(∃e',c = .slice e')\/c = .string) (hi:P.info? e=some i) (b:Value) (h:Mb P w b i.size 0 []) : (Builtin.append_ #[t,t'] ty #[.slice none 0 0,b]).run P w = .ok (.slice none 0 0) w:=by have h1:=h.len w.drawn;have h2:=h.cells w.drawn;have j:({w with drawn:=w.drawn}:World)=w:=rfl;rw[j]at h1 h2;rcases f with⟨e',rfl⟩|rfl <;> simp[Builtin.append_,run_underlying ht,run_underlying g,sizeOf,typeInfo,hi,h1,h2]
theorem Ais {k:TypeDesc} {z:Value} (ht:P.underlying t=some (.slice e)) (q:P.underlying t'=some k) (l:(∃e',k = .slice e')\/k = .string) (hi:P.info? e=some i) (u:i.zero=some z) (p:Option Addr) (b c n:Nat) (g:Value) (f Cn:List Value) (s:Mb P w g i.size n Cn) (x:Mb P w (.slice p b c) i.size b f) (hg:c<b+n) (A:b+n<=9223372036854775807) (hb:(b+n)*i.bytes<=140737488355328) : (Builtin.append_ #[t,t'] ty #[.slice p b c,g]).run P w =
   .ok (.slice (some ⟨w.heap.size,0,none⟩) (b+n) (grownCap w (b+n) c e)) (w.drew.alloc (.cells ((f++Cn).toArray++Builtin.zeroCells z.cells (grownCap w (b+n) c e-(b+n))) e)):=by
 have h1:=s.len w.drawn;have h2:=s.cells (w.drawn+1);have h3:=x.cells (w.drawn+1);have D:({w with drawn:=w.drawn}:World)=w:=rfl;have B:({w with drawn:=w.drawn+1}:World)=w.drew:=rfl;rw[D]at h1;rw[B]at h2 h3;have y:¬(b+n<=c):=ω;have h:¬(9223372036854775807<((b:Int)+(n:Int))):=ω;have j:¬(281474976710656<Builtin.nextslicecap (b+n) c*i.bytes):=by have:=growslice_fits hg hb;omega
 rcases l with⟨e',rfl⟩|rfl <;> simp[Builtin.append_,run_underlying ht,run_underlying q,sizeOf,typeInfo,zeroValue,hi,u,h1,y,h,j,Question.forced,h2,h3,newRow,grownCap] <;>
 (congr 2;apply Array.ext';simp[append_assoc])
theorem Ac7 (w:World) (b c:Nat) (e:TypeId):b<=grownCap w b c e:=by unfold grownCap;show b<=b+_;omega
theorem Ac8 (s:St σ ι H F W w) (u:0<sz) (hc:CC σ (.sl sz ys) v) : ∃(Cn:List Value) (g:Nat->Nat->Value),Mb P w v sz ys.length Cn/\(∀(i:Nat) (x:AV),ys[i]? = some x->x.cells.length=sz) /\ (∀(i:Nat) (x:AV) (j:Nat) (c:AV),ys[i]? = some x->x.cells[j]? = some c->CC σ c (g i j)/\Fj (g i j)=true)/\(∀(i j:Nat),i<ys.length->j<sz->Cn[i*sz+j]? = some (g i j)):=by
 rcases hc.sl_inv with⟨rfl,p,cap,rfl⟩|⟨b,off,cap,C,E,fr,g,rfl,z,A,l,B,I,y⟩
 .refine⟨[],λ_ _=>undef,⟨λd=>by simp[Builtin.lenOf],λd=>?_,ψ⟩,ψ,ψ,ψ⟩;cases p with| none=>simp[Builtin.firstCells]| some a=>simp[Builtin.firstCells,loadCells,loadCellsFrom]
 .refine⟨(range (ys.length*sz)).map λq=>g (q / sz) (q % sz),g,⟨λd=>by simp[Builtin.lenOf],λd=>?_,ψ⟩,A,l,λi j hi hj=>?_⟩
  .have hb:({w with drawn:=d}:World).heap[b]? = some (.cells C E fr):=s.sto _ _ z;have:=run_loadCells (P:=P) {w with drawn:=d} ⟨b,off,none⟩ (ys.length*sz) (λq=>g (q / sz) (q % sz)) (by intro q hq;rw[La,Ki hb];have h:q / sz<ys.length:=Nat.div_lt_of_lt_mul (by rwa [Nat.mul_comm]at hq);have f:q % sz<sz:=Nat.mod_lt _ u;have:=B (q / sz) (q % sz) h f;rw[<-this];congr 1;have:=Nat.div_add_mod q sz;rw[Nat.mul_comm]at this;omega);simp only[Builtin.firstCells];exact this
  .have k:i*sz+j<ys.length*sz:=(by have:(i+1)*sz<=ys.length*sz:=Nat.mul_le_mul_right _ ω;rw[E2]at this;omega);rw[getElem?_map,getElem?_range k];have G:(i*sz+j) / sz=i:=(by rw[Nat.mul_comm,Nat.mul_add_div u,Nat.div_eq_of_lt hj];omega);have D:(i*sz+j) % sz=j:=(by rw[Nat.mul_comm,Nat.mul_add_mod,Nat.mod_eq_of_lt hj]);simp[G,D]
theorem I8.append {C q:Array Value} (hx:I8 σ sz xs C) (f:Nat->Nat->Value) (h1:∀(i:Nat) (x:AV),ys[i]? = some x->x.cells.length=sz) (h2:∀(i:Nat) (x:AV) (j:Nat) (c:AV),ys[i]? = some x->x.cells[j]? = some c->CC σ c (f i j)/\Fj (f i j)=true) (l:∀k:Nat,k<xs.length*sz->q[k]? = C[k]?) (h:∀(i j:Nat),i<ys.length->j<sz->q[(xs.length+i)*sz+j]? = some (f i j)):I8 σ sz (xs++ys) q:=by
 obtain⟨g,y,u,s⟩:=hx;refine⟨λi j=>if i<xs.length then g i j else f (i-xs.length) j,?_,?_,?_⟩
 .intro i x hi;by_cases b:i<xs.length
  .rw[getElem?_append_left b]at hi;exact y i x hi
  .rw[getElem?_append_right ω]at hi;exact h1 _ x hi
 .intro i x j c hi hj;by_cases b:i<xs.length
  .rw[getElem?_append_left b]at hi;simp only[if_pos b];exact u i x j c hi hj
  .rw[getElem?_append_right ω]at hi;simp only[if_neg b];exact h2 _ x j c hi hj
 .intro i j hi hj;by_cases b:i<xs.length
  .simp only[if_pos b];rw[l _ (by have:(i+1)*sz<=xs.length*sz:=Nat.mul_le_mul_right _ ω;rw[E2]at this;omega)];exact s i j b hj
  .simp only[if_neg b];have:=h (i-xs.length) j (by simp at hi;omega) hj;rwa [show xs.length+(i-xs.length)=i by omega]at this
theorem Ac9 (s:St σ ι H F W w) {i:TI} {u':TypeDesc} (ht:P.underlying t=some (.slice e)) (M:P.underlying t'=some u') (L:(∃e',u' = .slice e')\/u' = .string) (he:I9 P e=some i) (hz:0<i.size) (a8:i.zero.length=i.size) {h:Nat} (hh:H h = .rows e i.size xs) {q:Value} (hv:Hk (ι h) i.size 0 xs.length v) (ae:1<=i.bytes) (hb:(xs.length+ys.length)*i.bytes<=140737488355328) {Cn:List Value} {g:Nat->Nat->Value} (B:Mb P w q i.size ys.length Cn) (h1:∀(i':Nat) (x:AV),ys[i']? = some x->x.cells.length=i.size) (h2:∀(i':Nat) (x:AV) (j:Nat) (c:AV),ys[i']? = some x->x.cells[j]? = some c->CC σ c (g i' j)/\Fj (g i' j)=true) (h3:∀(i' j:Nat),i' < ys.length->j<i.size->Cn[i' * i.size+j]? = some (g i' j)) (Y:∀u∈Cn,Fj u=true) : ∃(ι':Ca) (v':Value) (w':World),(Builtin.append_ #[t,t'] ty #[v,q]).run P w = .ok v' w'/\Le σ ι H σ ι' (Ay H h (.rows e i.size (xs++ys)))/\St σ ι' (Ay H h (.rows e i.size (xs++ys))) F W w' /\ Hk (ι' h) i.size 0 (xs.length+ys.length) v':=by
 obtain⟨N,u,z,k1,k2,k3,R,k5,k6,k7⟩:=En he;have l:xs.length+ys.length<=140737488355328:=by have:(xs.length+ys.length)*1<=(xs.length+ys.length)*i.bytes:=Nat.mul_le_mul_left _ ae;omega
 have aa:z.cells.size=i.size:=by rw[<-a8,k6];simp
 have A:∀n,(Builtin.zeroCells z.cells n).size=n*i.size:=by intro n;simp[Builtin.zeroCells,aa]
 have E:=s.obj h;unfold Cr at E;rw[hh]at E;obtain⟨_,_,E⟩:=E;unfold Hk at hv;split at hv
 .rename_i a1;obtain⟨rfl,_,ac⟩:=hv;have ab:xs = []:=eq_nil_of_length_eq_zero ac;subst ab;by_cases hy:ys = []
  .subst hy;have V:Cn = []:=eq_nil_of_length_eq_zero (by rw[B.size];simp);subst V;refine⟨ι,.slice none 0 0,w,A0k ht M L k1 q (by rw[R];exact B),?_,?_,?_⟩
   .rw[append_nil,<-hh,Jm];exact Le.refl _ _ _
   .rw[append_nil,<-hh,Jm];exact s
   .rw[a1];exact⟨rfl,rfl,rfl⟩
  .have hpos:0<ys.length:=length_pos_iff.2 hy;have ho:Mb P w (.slice none 0 0) N.size 0 []:=⟨λd=>by simp[Builtin.lenOf],λd=>by simp[Builtin.firstCells],ψ⟩;have U:=Ais (P:=P) (ty:=ty) (w:=w) ht M L k1 k3 none 0 0 ys.length q [] Cn (by rw[R];exact B) ho ω (by simp at l;omega) (by rw[k5];simpa using hb);rw[Nat.zero_add,nil_append]at U;have hge:=Ac7 w ys.length 0 e;obtain⟨s',le⟩:=(s.drew (w.drawn+1)).newRows h e i.size ([]++ys) (grownCap w ys.length 0 e) (Cn.toArray++Builtin.zeroCells z.cells (grownCap w ys.length 0 e-ys.length)) (.inr ⟨e,i.size,[],hh,by simpa using hpos⟩) hz (by simpa using l) (by simpa using hge) (by rw[Array.size_append,A];simp[B.size,<-E2];rw[Nat.add_sub_cancel' hge]) ⟨g,(by simpa using h1),(by simpa using h2),(by intro i' j hi hj;simp only[nil_append]at hi;have G:i' * i.size+j<Cn.length:=(by have:(i' + 1)*i.size<=ys.length*i.size:=Nat.mul_le_mul_right _ ω;rw[E2]at this;rw[B.size];omega);rw[Array.getElem?_append_left (by simpa using G),getElem?_toArray];exact h3 i' j hi hj)⟩;refine⟨_,_,_,U,le,s',?_⟩;rw[Ce];simp only[length_nil,Nat.zero_add];exact⟨ω,by rw[Nat.zero_mul];rfl⟩
 .rename_i b f y;obtain⟨ad,rfl⟩:=hv;rcases E with⟨e1,_⟩|⟨b',af,C,e1,p1,p2,p3,p4,p5,p6⟩
  .rw[y]at e1;cases e1
  rw[y]at e1;cases e1;by_cases J:xs.length+ys.length<=f
  .have S:xs.length*i.size+Cn.length<=C.size:=(by rw[B.size,<-E2,p4];exact Nat.mul_le_mul_right _ J);have X:=run_storeCells_at (P:=P) b (xs.length*i.size) e Cn 0 C w p3 (by simpa using S) (λu hu=>by rw[Aig];exact Y u hu);simp only[Nat.add_zero]at X;have U:=An8 (P:=P) (ty:=ty) (w:=w) ht M L k1 ⟨b,0,none⟩ xs.length f ys.length q Cn (by rw[R];exact B) J (by rw[La,Nat.zero_add,R];exact X);have D:I8 σ i.size (xs++ys) (C.toList.take (xs.length*i.size)++Cn++C.toList.drop (xs.length*i.size+Cn.length)).toArray:=by
    refine I8.append p6 g h1 h2 ?_ ?_
    .intro k hk;rw[Vu _ _ _ S,if_pos hk]
    .intro i' j hi hj;have G:i' * i.size+j<Cn.length:=(by have:(i' + 1)*i.size<=ys.length*i.size:=Nat.mul_le_mul_right _ ω;rw[E2]at this;rw[B.size];omega);have e2:(xs.length+i')*i.size+j=xs.length*i.size+(i' * i.size+j):=(by rw[E2];omega);rw[Vu _ _ _ S,e2,if_neg ω,if_pos ω,Nat.add_sub_cancel_left];exact h3 i' j hi hj
   have a7:(C.toList.take (xs.length*i.size)++Cn++C.toList.drop (xs.length*i.size+Cn.length)).toArray.size=f*i.size:=ζ;by_cases hy:ys = []
   .subst hy;obtain⟨s',le⟩:=s.setRows h e i.size xs (xs++[]) hh b f y ψ _ a7 D;refine⟨ι,_,_,by simpa using U,le,s',?_⟩;rw[y];exact⟨by simpa using ad,ψ⟩
   .have hpos:0<ys.length:=length_pos_iff.2 hy;obtain⟨s',le⟩:=s.growIn h e i.size xs (xs++ys) hh b f y ζ (by simpa using l) (by simpa using J) _ a7 D;refine⟨ι,_,_,by simpa using U,le,s',?_⟩;rw[y];exact⟨ω,ψ⟩
  .have Z:Mb P w (.slice (some ⟨b,0*i.size,none⟩) xs.length (f-0)) N.size xs.length (C.toList.take (xs.length*i.size)):=by
    refine⟨λd=>by simp[Builtin.lenOf],λd=>?_,?_⟩
    .have hb':({w with drawn:=d}:World).heap[b]? = some (.cells C e (0,0)):=p3;have I:(C.toList.take (xs.length*i.size)).length=xs.length*i.size:=(by have:C.toList.length=f*i.size:=(by rw[Array.length_toList,p4]);rw[length_take,this];exact Nat.min_eq_left (Nat.mul_le_mul_right _ p5));have:=run_loadCells_list (P:=P) {w with drawn:=d} ⟨b,0,none⟩ (C.toList.take (xs.length*i.size)) (by intro j u hj;have G:j<xs.length*i.size:=(by have:=(G1.1 hj).1;omega);rw[Hz G,Ha]at hj;rw[La,Nat.zero_add,Ki hb'];exact hj);rw[I]at this;simp only[Builtin.firstCells,Nat.zero_mul,R];exact this
    .have:C.toList.length=f*i.size:=(by rw[Array.length_toList,p4]);rw[R,length_take,this];exact Nat.min_eq_left (Nat.mul_le_mul_right _ p5)
   have U:=Ais (P:=P) (ty:=ty) (w:=w) ht M L k1 k3 (some ⟨b,0*i.size,none⟩) xs.length (f-0) ys.length q _ Cn (by rw[R];exact B) Z ω ω (by rw[k5];exact hb);have hge:=Ac7 w (xs.length+ys.length) (f-0) e;have I:(C.toList.take (xs.length*i.size)).length=xs.length*i.size:=(by have:C.toList.length=f*i.size:=(by rw[Array.length_toList,p4]);rw[length_take,this];exact Nat.min_eq_left (Nat.mul_le_mul_right _ p5));have hpos:0<ys.length:=ω;have a6:(C.toList.take (xs.length*i.size)++Cn).length=(xs.length+ys.length)*i.size:=(by rw[length_append,I,B.size,E2]);obtain⟨s',le⟩:=(s.drew (w.drawn+1)).newRows h e i.size (xs++ys) (grownCap w (xs.length+ys.length) (f-0) e) ((C.toList.take (xs.length*i.size)++Cn).toArray++Builtin.zeroCells z.cells (grownCap w (xs.length+ys.length) (f-0) e-(xs.length+ys.length))) (.inr ⟨e,i.size,xs,hh,ζ⟩) hz (by simpa using l) (by simpa using hge) (by rw[Array.size_append,A,size_toArray,a6,<-E2,Nat.add_sub_cancel' hge]) (by
     refine I8.append p6 g h1 h2 ?_ ?_
     .intro k hk;rw[Array.getElem?_append_left (by rw[size_toArray,a6,E2];omega),getElem?_toArray,getElem?_append_left ω,Hz hk,Ha]
     .intro i' j hi hj;have G:i' * i.size+j<Cn.length:=(by have:(i' + 1)*i.size<=ys.length*i.size:=Nat.mul_le_mul_right _ ω;rw[E2]at this;rw[B.size];omega);have e2:(xs.length+i')*i.size+j=xs.length*i.size+(i' * i.size+j):=(by rw[E2];omega);rw[Array.getElem?_append_left (by rw[size_toArray,length_append,I];omega),getElem?_toArray,e2,getElem?_append_right ω,I,Nat.add_sub_cancel_left];exact h3 i' j hi hj);refine⟨_,_,_,U,le,s',?_⟩;rw[Ce];exact⟨ω,by rw[Nat.zero_mul];rfl⟩
 .exact hv.elim
end
section
variable {P:Program} {o:Oper} {ρ:Operand->AV} {a:Act} {w w':World} {next:Act->World->Prop} {Q:Exit->Act->World->Prop}
variable {σ:A7} {T:Dc} {m n:Int} {k:IntKind} {xs ys:List AV} {h sz:Nat} {x y:Operand} {B i i':TI} {e e' t t':TypeId}
theorem Ada {n:Nat} {Cn:List Value} {g:Nat->Nat->Value} (i:0<sz) (l:Cn.length=n*sz) (k:ys.length=n) (h1:∀(i':Nat) (x:AV),ys[i']? = some x->x.cells.length=sz) (h2:∀(i':Nat) (x:AV) (j:Nat) (c:AV),ys[i']? = some x->x.cells[j]? = some c->CC σ c (g i' j)/\Fj (g i' j)=true) (h3:∀(i' j:Nat),i' < ys.length->j<sz->Cn[i' * sz+j]? = some (g i' j)) : ∀u∈Cn,Fj u=true:=by
 intro u hu;obtain⟨q,hq⟩:=getElem?_of_mem hu;have h:=(G1.1 hq).1;have f:q / sz<ys.length:=by rw[k];exact Nat.div_lt_of_lt_mul (by rw[l,Nat.mul_comm]at h;exact h)
 have b:q % sz<sz:=Nat.mod_lt _ i;have e:=h3 (q / sz) (q % sz) f b;rw[show q / sz*sz+q % sz=q by have:=Nat.div_add_mod q sz;rw[Nat.mul_comm]at this;omega,hq]at e;cases e;have hx:=getElem?_eq_getElem f;have hc:(q % sz)<(ys[q / sz]).cells.length:=by rw[h1 _ _ hx];exact b
 exact (h2 _ _ _ _ hx (getElem?_eq_getElem hc)).2
theorem Vv {ty:TypeId} (g:o.op = .call {callee:=.builtin .append,args:=#[x,y],argTypes:=#[t,t']}) (b:o.type=ty) {c:Value} (f:(Builtin.append_ #[t,t'] ty #[a.eval x,a.eval y]).run P w = .ok c w') : (execOp a.eval o).run P w = .ok (.value c) w':=by subst b;simp[execOp,g,resolve,invoke,builtin,f]
theorem An9 (S:Dd P T) {k:Nat} (M:o.op = .call {callee:=.builtin .append,args:=#[x,y],argTypes:=#[t,t']}) (ht:T t=some i) (hd:i.d = .slice e) (J:T t'=some B) (N:B.d = .slice e') (Y:T e=some i') (E:0<i'.size) (D:i'.zero.length=i'.size) (R:1<=i'.bytes) (hx:ρ x = .arr h k 0 k) (c:xs.length=k) (hy:ρ y = .sl i'.size ys) (hb:(xs.length+ys.length)*i'.bytes<=140737488355328) : Ch P o ρ ⟨.arr h (k+ys.length) 0 (k+ys.length),[(h,.rows e i'.size xs)],[(h,.rows e i'.size (xs++ys))]⟩:=by
 intro σ ι H F W w a next Q s l L hk
 have hh:H h = .rows e i'.size xs:=L (h,.rows e i'.size xs) ψ;have j:=l x (by simp[M,Op.operands,Call.operands]);have f:=l y (by simp[M,Op.operands,Call.operands]);rw[hx]at j;rw[hy]at f;have hv:=j.arr_inv hh c;rw[<-c]at hv;obtain⟨u1,I,e1⟩:=Lc (S t i ht) hd;obtain⟨u2,G,Z⟩:=Lc (S t' B J) N;subst e1;subst Z;obtain⟨Cn,g,U,h1,h2,h3⟩:=Ac8 (P:=P) s E f.sl_inv;obtain⟨V,z,w',X,le,s',b⟩:=Ac9 (P:=P) (ty:=o.type) s I G (.inl ⟨_,rfl⟩) (S e i' Y) E D hh hv R hb U h1 h2 h3 (Ada E U.size rfl h1 h2 h3);refine F4 (Vv M rfl X) (hk σ V z w' le s' ?_);have q:Fj z=true:=by
  unfold Hk at b;split at b
  .rw[b.1];rfl
  .rw[b.2];rfl
  .exact b.elim
 refine .arr _ _ _ _ z (by show Ay H h _ h≠_;rw[Ce];intro e;cases e) (λE' A u e'=>?_) q;have e':Ay H h _ h = .rows E' A u:=e';rw[Ce]at e';cases e';refine⟨by rw[length_append];omega,λ_=>?_⟩;rw[c]at b;exact b
def Kj (s:ByteArray):List AV:=s.data.toList.map λb=>.val (.int .u8 b.toNat)
theorem A0l (s:ByteArray):(Kj s).length=s.size:=by unfold Kj;rw[length_map,Array.length_toList];rfl
theorem A0m (s:ByteArray):∃(Cn:List Value) (g:Nat->Nat->Value),Mb P w (.string s) 1 (Kj s).length Cn/\(∀(i:Nat) (x:AV),(Kj s)[i]? = some x->x.cells.length=1) /\ (∀(σ:A7) (i:Nat) (x:AV) (j:Nat) (c:AV),(Kj s)[i]? = some x->x.cells[j]? = some c->CC σ c (g i j)/\Fj (g i j)=true)/\∀(i j:Nat),i<(Kj s).length->j<1->Cn[i*1+j]? = some (g i j):=by
 have f:=A0l s;refine⟨Lib.strCells s,λi _=>.int .u8 ((s.data.toList.getD i 0).toNat),⟨λd=>?_,λd=>?_,?_⟩,?_,?_,?_⟩
 .rw[f];simp[Builtin.lenOf]
 .rw[f];exact Lib.run_firstCells_string _ 1 s
 .rw[f,Lib.strCells_length];omega
 .intro i x hx;simp only[Kj,getElem?_map,Option.map_eq_some_iff]at hx;obtain⟨b,_,rfl⟩:=hx;rfl
 .intro σ i x j c hx hc;simp only[Kj,getElem?_map,Option.map_eq_some_iff]at hx;obtain⟨b,hb,rfl⟩:=hx;simp only[AV.cells]at hc;cases j with
  | zero=>simp at hc;subst hc;have e:s.data.toList.getD i 0=b:=(by rw[getD_eq_getElem?_getD,hb];rfl);dsimp only;rw[e];exact⟨.val _,rfl⟩
  | succ j=>simp at hc
 .intro i j hi hj;have hj:j=0:=ω;subst hj;have hi:i<s.data.toList.length:=(by unfold Kj at hi;rwa [length_map]at hi);have e:s.data.toList.getD i 0=s.data.toList[i]:=(by rw[getD_eq_getElem?_getD,getElem?_eq_getElem hi];rfl);dsimp only;rw[e];unfold Lib.strCells;rw[Nat.mul_one,Nat.add_zero,getElem?_map,getElem?_eq_getElem hi];rfl
theorem A0n (S:Dd P T) {A:TI} {k:Nat} {s:ByteArray} (M:o.op = .call {callee:=.builtin .append,args:=#[x,y],argTypes:=#[t,t']}) (ht:T t=some i) (hd:i.d = .slice e) (I:T t'=some A) (N:A.d = .string) (he:T e=some i') (Y:i'.size=1) (B:i'.zero.length=i'.size) (R:1<=i'.bytes) (hx:ρ x = .arr h k 0 k) (c:xs.length=k) (hy:ρ y = .val (.string s)) (hb:(xs.length+(Kj s).length)*i'.bytes<=140737488355328) : Ch P o ρ ⟨.arr h (k+(Kj s).length) 0 (k+(Kj s).length),[(h,.rows e i'.size xs)],[(h,.rows e i'.size (xs++Kj s))]⟩:=by
 intro σ ι H F W w a next Q X j L hk
 have hh:H h = .rows e i'.size xs:=L (h,.rows e i'.size xs) ψ;have f:=j x (by simp[M,Op.operands,Call.operands]);have D:=D5 hy (j y (by simp[M,Op.operands,Call.operands]));rw[hx]at f;have hv:=f.arr_inv hh c;rw[<-c]at hv;obtain⟨u1,G,e1⟩:=Lc (S t i ht) hd;obtain⟨_,u2,_,_,E,_,_,_,_,U⟩:=En (S t' A I);rw[N]at U;subst e1;subst U;obtain⟨Cn,g,J,h1,h2,h3⟩:=A0m (P:=P) (w:=w) s;rw[<-Y]at J h1 h3;obtain⟨V,u,w',Z,le,s',b⟩:=Ac9 (P:=P) (ty:=o.type) X G E (.inr rfl) (S e i' he) ω B hh hv R hb J h1 (h2 σ) h3 (Ada ω J.size rfl h1 (h2 σ) h3);refine F4 (Vv M rfl (by rw[D];exact Z)) (hk σ V u w' le s' ?_);have l:Fj u=true:=by
  unfold Hk at b;split at b
  .rw[b.1];rfl
  .rw[b.2];rfl
  .exact b.elim
 refine .arr _ _ _ _ u (by show Ay H h _ h≠_;rw[Ce];intro e;cases e) (λE' z q e'=>?_) l;have e':Ay H h _ h = .rows E' z q:=e';rw[Ce]at e';cases e';refine⟨by rw[length_append];omega,λ_=>?_⟩;rw[c]at b;exact b
theorem A0o (S:Dd P T) (h:Nat) (M:o.op = .call {callee:=.builtin .append,args:=#[x,y],argTypes:=#[t,t']}) (ht:T t=some i) (hd:i.d = .slice e) (I:T t'=some B) (N:B.d = .slice e') (Z:T e=some i') (k:0<i'.size) (D:i'.zero.length=i'.size) (R:1<=i'.bytes) (hx:ρ x = .val (.slice none 0 0)) (hy:ρ y = .sl i'.size ys) (hb:ys.length*i'.bytes<=140737488355328) : Ch P o ρ ⟨.arr h ys.length 0 ys.length,[(h,.none)],[(h,.rows e i'.size ys)]⟩:=by
 intro σ ι H F W w a next Q s f J hk
 have Y:H h = .none:=J (h,.none) ψ;have L:=D5 hx (f x (by simp[M,Op.operands,Call.operands]));have c:=f y (by simp[M,Op.operands,Call.operands]);rw[hy]at c;obtain⟨u1,G,e1⟩:=Lc (S t i ht) hd;obtain⟨u2,E,e2⟩:=Lc (S t' B I) N;subst e1;subst e2;obtain⟨s0,A⟩:=s.newNil h Y e i'.size k;obtain⟨Cn,g,U,h1,h2,h3⟩:=Ac8 (P:=P) s0 k c.sl_inv;obtain⟨V,u,w',X,le,s',b⟩:=Ac9 (P:=P) (ty:=o.type) (v:=.slice none 0 0) (xs:=[]) s0 G E (.inl ⟨_,rfl⟩) (S e i' Z) k D (Ce _ _ _) (by rw[Ce];exact⟨rfl,rfl,rfl⟩) R (by simpa using hb) U h1 h2 h3 (Ada k U.size rfl h1 h2 h3);have hH:Ay (Ay H h (.rows e i'.size [])) h (.rows e i'.size ([]++ys))=Ay H h (.rows e i'.size ys):=by
  funext m;by_cases l:m=h
  .subst l;rw[Ce,Ce];rfl
  .rw[Cq _ _ l,Cq _ _ l,Cq _ _ l]
 rw[hH]at le s';simp only[length_nil,Nat.zero_add]at b;refine F4 (Vv M rfl (by rw[L];exact X)) (hk σ V u w' (A.trans le) s' ?_);have j:Fj u=true:=by
  unfold Hk at b;split at b
  .rw[b.1];rfl
  .rw[b.2];rfl
  .exact b.elim
 refine .arr _ _ _ _ u (by show Ay H h _ h≠_;rw[Ce];intro e;cases e) (λE' z q e'=>?_) j;have e':Ay H h _ h = .rows E' z q:=e';rw[Ce]at e';cases e';exact⟨Nat.le_refl _,λ_=>b⟩
theorem St.freeze {ι:Ca} {H:Hp} {F:A7} {W:World} (s:St σ ι H F W w) {E:TypeId} (hh:H h = .rows E sz xs) : ∃u,Le σ ι H u ι (Ay H h .dead)/\St u ι (Ay H h .dead) F W w /\ ∀off len v,off+len<=xs.length->Hk (ι h) sz off len v->CC u (.sl sz ((xs.drop off).take len)) v:=by
 have k:=s.obj h;unfold Cr at k;rw[hh]at k;obtain⟨hz,hm,k⟩:=k;have f:∀u,σ.le u->Le σ ι H u ι (Ay H h .dead):=by intro u V;have:=Le.upd (ι:=ι) (H:=H) V h (ι h) .dead ⟨λ_ e=>e,(λ_ e=>by cases e),(λ_ E1 L J e=>by cases e)⟩;rwa [Jm]at this
 rcases k with⟨B,Y⟩|⟨b,D,C,B,U,S,R,p4,p5,g,N,G,M⟩
 .subst Y;refine⟨σ,f σ (A7.le_refl _),?_,?_⟩
  .obtain⟨f1,f2⟩:=s.fresh;exact s.touch h w.heap.size (λ_ _=>rfl) (λx e=>Cq _ _ e) (f σ (A7.le_refl _)) (λ_ _=>rfl) (λ_ _=>rfl) (λo z=>by rw[f1]at z;cases z) (λx e i hb=>by have:=(s.block i hb).1;omega) f2 (λb i hb=>by rw[Ce]at i;cases i) (by unfold Cr;rw[Ce];trivial) rfl rfl rfl
  .intro off len v q hv;rw[B]at hv;obtain⟨rfl,rfl,rfl⟩:=hv;simp only[drop_nil,take_nil];exact .nil sz none 0
 .have q:σ.le (Ay σ b (some (.cells C E))):=(by intro Z o' hb';rw[Cq _ _ (by intro e;subst e;rw[U]at hb';cases hb')];exact hb');refine⟨Ay σ b (some (.cells C E)),f _ q,?_,?_⟩
  .refine s.touch h b (λ_ _=>rfl) (λx e=>Cq _ _ e) (f _ q) (λ_ _=>rfl) (λx e=>Cq _ _ e) (λo z=>by rw[Ce]at z;cases z;exact R)
    (λx e i hb=>e (s.inj x h b i (by rw[hh];rfl) hb (by rw[B];rfl))) S (λZ i hb=>by rw[Ce]at i;cases i) (by unfold Cr;rw[Ce];trivial) rfl rfl rfl
  .intro off len v I hv;rw[B]at hv;obtain⟨_,rfl⟩:=hv;have i:((xs.drop off).take len).length=len:=ζ;have l:∀(n:Nat) (y:AV),((xs.drop off).take len)[n]? = some y->n<len/\xs[off+n]? = some y:=(by intro n y hy;have A:n<len:=(by have:=(G1.1 hy).1;omega);rw[Hz A,getElem?_drop]at hy;exact⟨A,hy⟩);have:=CC.sl (σ:=Ay σ b (some (.cells C E))) ((xs.drop off).take len) b (off*sz) (D-off) sz C E (0,0) (λn j=>g (off+n) j) (Ce _ _ _)
    (λn y hy=>N _ y (l n y hy).2) (λn y j c hy hj=>((G _ y j c (l n y hy).2 hj).1).mono q) (λn y j c hy hj=>(G _ y j c (l n y hy).2 hj).2) (λn j X hj=>by rw[i]at X;have:=M (off+n) j ω hj;rw[E2]at this;exact this) (by rw[i];omega) (by rw[i];omega);rw[i]at this;exact this
theorem A0p (z:Dd P T) (h:Nat) (l:o.op = .assign x) (hx:ρ x = .val (.slice none 0 0)) (ht:T o.type=some i) (_hd:i.d = .slice e) (y:T e=some i') (q:0<i'.size) : Ch P o ρ ⟨.arr h 0 0 0,[(h,.none)],[(h,.rows e i'.size [])]⟩:=by
 intro σ ι H F W w a next Q s k g hk
 have _:=z;have _:=ht;have _:=y
 have u:H h = .none:=g (h,.none) ψ;have j:=D5 hx (k x (by simp[l,Op.operands]));obtain⟨s0,f⟩:=s.newNil h u e i'.size q;refine F4 (v:=.slice none 0 0) (by simp[execOp,l,j]) (hk σ _ _ w f s0 ?_);refine .arr _ _ _ _ _ (by show Ay H h _ h≠_;rw[Ce];intro e;cases e) (λA c b e'=>?_) rfl;have e':Ay H h _ h = .rows A c b:=e';rw[Ce]at e';cases e';exact⟨ψ,λ_=>by rw[Ce];exact⟨rfl,rfl,rfl⟩⟩
theorem A0q {f:IntKind} (c:o.op = .call {callee:=.builtin .max,args:=#[x,y],argTypes:=#[t,t']}) (hx:ρ x = .val (.int k m)) (hy:ρ y = .val (.int f n)) : Ch P o ρ ⟨.val (.int k (if n>m then n else m)),[],[]⟩ := Ff λσ ι H a w b=>by have h1:=D5 hx (b x (by simp[c,Op.operands,Call.operands]));have h2:=D5 hy (b y (by simp[c,Op.operands,Call.operands]));exact⟨_,by simp[execOp,c,resolve,invoke,builtin,Builtin.max_,Builtin.max2,h1,h2],.of_val _⟩
theorem A0r {f:IntKind} (c:o.op = .call {callee:=.builtin .min,args:=#[x,y],argTypes:=#[t,t']}) (hx:ρ x = .val (.int k m)) (hy:ρ y = .val (.int f n)) : Ch P o ρ ⟨.val (.int k (if n<m then n else m)),[],[]⟩ := Ff λσ ι H a w b=>by have h1:=D5 hx (b x (by simp[c,Op.operands,Call.operands]));have h2:=D5 hy (b y (by simp[c,Op.operands,Call.operands]));exact⟨_,by simp[execOp,c,resolve,invoke,builtin,Builtin.min_,Builtin.min2,h1,h2],.of_val _⟩
end
section
variable {P:Program} {o:Oper} {ρ:Operand->AV} {a:Act} {w w':World} {next:Act->World->Prop} {Q:Exit->Act->World->Prop}
variable {F σ:A7} {ι:Ca} {T:Dc} {H:Hp} {xs ys:List AV} {b d h k off sz:Nat} {g:Nat->Nat->Value} {x y:Operand} {i i':TI} {α:Type} {E e e' t t' ty:TypeId} {v:Value} {W:World}
def Fu (xs:List α) (d:Nat) (ys:List α):List α:=xs.take d++ys++xs.drop (d+ys.length)
theorem Aoa {xs ys:List α} (hd:d<=xs.length) (i:Nat):(Fu xs d ys)[i]? = if i<d then xs[i]? else if i<d+ys.length then ys[i-d]? else xs[i]?:=by
 unfold Fu;have b:(xs.take d).length=d:=by rw[length_take];omega
 rw[append_assoc];by_cases h1:i<d
 .rw[if_pos h1,getElem?_append_left ω,Hz h1]
 .rw[if_neg h1,getElem?_append_right ω,b];by_cases h2:i<d+ys.length
  .rw[if_pos h2,getElem?_append_left ω]
  .rw[if_neg h2,getElem?_append_right ω,getElem?_drop];congr 1;omega
theorem Yn {xs ys:List α} (hd:d<=xs.length):(Fu xs d ys).length=max xs.length (d+ys.length):=by unfold Fu;simp only[length_append,length_take,length_drop];omega
structure Td (σ:A7) (sz:Nat) (ys:List AV) (Cn:List Value) (g:Nat->Nat->Value):Prop where
 len:Cn.length=ys.length*sz
 el:∀(i:Nat) (x:AV),ys[i]? = some x->x.cells.length=sz
 cc:∀(i:Nat) (x:AV) (j:Nat) (c:AV),ys[i]? = some x->x.cells[j]? = some c->CC σ c (g i j)/\Fj (g i j)=true
 at_:∀(i j:Nat),i<ys.length->j<sz->Cn[i*sz+j]? = some (g i j)
theorem I8.patch {C l:Array Value} {Cn:List Value} {z:Nat->Nat->Value} (hx:I8 σ sz xs C) (hd:d<=xs.length) (f:Td σ sz ys Cn z) (b:∀q:Nat,q<d*sz\/(d+ys.length)*sz<=q->l[q]? = C[q]?) (k:∀q,q<ys.length*sz->l[d*sz+q]? = Cn[q]?):I8 σ sz (Fu xs d ys) l:=by
 obtain⟨g,y,u,s⟩:=hx
 refine⟨λi j=>if i<d then g i j else if i<d+ys.length then z (i-d) j else g i j,?_,?_,?_⟩
 .intro i x hi
  rw[Aoa hd]at hi
  split at hi
  .exact y i x hi
  .split at hi
   .exact f.el _ x hi
   .exact y i x hi
 .intro i x j c hi hj
  rw[Aoa hd]at hi
  dsimp only
  split at hi
  .rename_i h;rw[if_pos h];exact u i x j c hi hj
  .rename_i h
   rw[if_neg h]
   split at hi
   .rename_i h2;rw[if_pos h2];exact f.cc _ x j c hi hj
   .rename_i h2;rw[if_neg h2];exact u i x j c hi hj
 .intro i j hi hj
  rw[Yn hd]at hi
  dsimp only
  by_cases h:i<d
  .rw[if_pos h]
   have:(i+1)*sz<=d*sz:=Nat.mul_le_mul_right _ ω
   rw[E2]at this
   rw[b _ (.inl ω)];exact s i j ω hj
  .rw[if_neg h]
   by_cases h2:i<d+ys.length
   .rw[if_pos h2]
    have e:i*sz+j=d*sz+((i-d)*sz+j):=by
     have:i=d+(i-d):=ω
     conv=>lhs;rw[this,E2]
     omega
    have:(i-d+1)*sz<=ys.length*sz:=Nat.mul_le_mul_right _ ω
    rw[E2]at this
    rw[e,k _ ω]
    exact f.at_ _ j ω hj
   .rw[if_neg h2]
    have:(d+ys.length)*sz<=i*sz:=Nat.mul_le_mul_right _ ω
    rw[b _ (.inr ω)];exact s i j ω hj
theorem Td.one (b:0<sz) {Cn:List Value} (h:Td σ sz ys Cn g):∀u∈Cn,Fj u=true:=Ada b h.len rfl h.el h.cc h.at_
theorem Ait (s:St σ ι H F W w) (hh:H h = .rows e sz xs) {c:Nat} (hb:ι h = .blk b c) (hd:d<=xs.length) (x:d+ys.length<=c) (I:d+ys.length<=140737488355328) (E:0<sz) {Cn:List Value} (l:Td σ sz ys Cn g) : ∃w',(storeCells (⟨b,d*sz,none⟩:Addr) Cn).run P w = .ok () w'/\Le σ ι H σ ι (Ay H h (.rows e sz (Fu xs d ys)))/\St σ ι (Ay H h (.rows e sz (Fu xs d ys))) F W w':=by
 obtain⟨C,D,B,G,A⟩:=s.rowsAt hh hb;have z:xs.length<=140737488355328:=by have:=s.obj h;unfold Cr at this;rw[hh]at this;exact this.2.1
 have j:d*sz+Cn.length<=C.size:=by rw[l.len,<-E2,B];exact Nat.mul_le_mul_right _ x
 have k:=run_storeCells_at (P:=P) b (d*sz) e Cn 0 C w D (by simpa using j) (λu hu=>by rw[Aig];exact l.one E u hu);simp only[Nat.add_zero]at k;have f:I8 σ sz (Fu xs d ys) (C.toList.take (d*sz)++Cn++C.toList.drop (d*sz+Cn.length)).toArray:=by
  refine I8.patch A hd l ?_ ?_
  .intro q hq;rw[Vu _ _ _ j];rcases hq with hq|hq
   .rw[if_pos hq]
   .rw[E2]at hq;rw[if_neg ω,if_neg (by rw[l.len];omega)]
  .intro q hq;rw[Vu _ _ _ j,if_neg ω,if_pos (by rw[l.len];omega),Nat.add_sub_cancel_left]
 have y:(C.toList.take (d*sz)++Cn++C.toList.drop (d*sz+Cn.length)).toArray.size=c*sz:=by simp;omega
 have i:=Yn (ys:=ys) hd;by_cases J:d+ys.length<=xs.length
 .obtain⟨s',le⟩:=s.setRows h e sz xs (Fu xs d ys) hh b c hb (by rw[i];omega) _ y f;exact⟨_,k,le,s'⟩
 .obtain⟨s',le⟩:=s.growIn h e sz xs (Fu xs d ys) hh b c hb (by rw[i];omega) (by rw[i];omega) (by rw[i];omega) _ y f;exact⟨_,k,le,s'⟩
theorem Aob (s:St σ ι H F W w) (hh:H h = .rows e sz xs) {len:Nat} (hv:Hk (ι h) sz off len v) (L:off+len<=xs.length) (n:Nat) (J:n<=len) : ∃(Cn:List Value) (g:Nat->Nat->Value),(∃p c,v = .slice p len c)/\(∀d,(Builtin.firstCells sz n v).run P {w with drawn:=d} = .ok Cn.toArray {w with drawn:=d})/\Td σ sz ((xs.drop off).take n) Cn g:=by
 have l:((xs.drop off).take n).length=n:=by simp;omega
 unfold Hk at hv;split at hv
 .obtain⟨rfl,rfl,rfl⟩:=hv;obtain rfl:n=0:=ω;refine⟨[],λ_ _=>undef,⟨none,0,rfl⟩,λd=>by simp[Builtin.firstCells],⟨ψ,(λi x h=>by simp at h),(λi x j c h=>by simp at h),(λi j h=>by simp at h)⟩⟩
 .rename_i b y hb;obtain⟨G,rfl⟩:=hv;obtain⟨C,E,D,I,g,B,A,z⟩:=s.rowsAt hh hb;have k:((C.toList.drop (off*sz)).take (n*sz)).length=n*sz:=(by have h1:(off+n)*sz<=y*sz:=Nat.mul_le_mul_right _ ω;rw[E2]at h1;rw[length_take,length_drop,Array.length_toList,D];omega);have q:∀(i:Nat) (x:AV),((xs.drop off).take n)[i]? = some x->i<n/\xs[off+i]? = some x:=(by intro i x hx;have f:i<n:=(by have:=(G1.1 hx).1;omega);rw[Hz f,getElem?_drop]at hx;exact⟨f,hx⟩);refine⟨(C.toList.drop (off*sz)).take (n*sz),λi j=>g (off+i) j,⟨_,_,rfl⟩,λd=>?_,⟨by rw[k,l],?_,?_,?_⟩⟩
  .have hb':({w with drawn:=d}:World).heap[b]? = some (.cells C e (0,0)):=E;have:=run_loadCells_list (P:=P) {w with drawn:=d} ⟨b,off*sz,none⟩ ((C.toList.drop (off*sz)).take (n*sz)) (by intro j u hj;have f:j<n*sz:=(by have:=(G1.1 hj).1;omega);rw[Hz f,getElem?_drop,Ha]at hj;rw[La,Ki hb'];exact hj);rw[k]at this;simp only[Builtin.firstCells];exact this
  .intro i x hx;exact B _ x (q i x hx).2
  .intro i x j c hx hj;exact A _ x j c (q i x hx).2 hj
  .intro i j hi hj;rw[l]at hi;have h1:(i+1)*sz<=n*sz:=Nat.mul_le_mul_right _ ω;rw[E2]at h1;rw[Hz ω,getElem?_drop,Ha];have:=z (off+i) j ω hj;rw[E2]at this;rw[<-this];congr 1;omega
 .exact hv.elim
theorem Aoc (s:St σ ι H F W w) {u':TypeDesc} (ht:P.underlying t=some (.slice e)) (M:P.underlying t'=some u') (L:(∃e',u' = .slice e')\/u' = .string) (he:I9 P e=some i) (Z:0<i.size) (S:i.zero.length=i.size) (hh:H h = .rows e i.size xs) {len:Nat} (hl:len<=xs.length) {E:Value} (hv:Hk (ι h) i.size 0 len v) (Y:1<=i.bytes) (hb:(xs.length+ys.length)*i.bytes<=140737488355328) {Cn:List Value} (hs:Mb P w E i.size ys.length Cn) (D:Td σ i.size ys Cn g) : ∃(ι':Ca) (v':Value) (w':World),(Builtin.append_ #[t,t'] ty #[v,E]).run P w = .ok v' w'/\Le σ ι H σ ι' (Ay H h (.rows e i.size (Fu xs len ys)))/\St σ ι' (Ay H h (.rows e i.size (Fu xs len ys))) F W w' /\ Hk (ι' h) i.size 0 (len+ys.length) v':=by
 obtain⟨R,u,z,k1,k2,k3,N,k5,k6,k7⟩:=En he;have a8:xs.length+ys.length<=140737488355328:=by have:(xs.length+ys.length)*1<=(xs.length+ys.length)*i.bytes:=Nat.mul_le_mul_left _ Y;omega
 by_cases B:len=xs.length
 .subst B;have e0:Fu xs xs.length ys=xs++ys:=(by unfold Fu;rw[take_length,drop_eq_nil_of_le ω,append_nil]);rw[e0];exact Ac9 (P:=P) (ty:=ty) s ht M L he Z S hh hv Y hb hs D.el D.cc D.at_ (D.one Z)
 have l:=s.obj h;unfold Cr at l;rw[hh]at l;obtain⟨_,_,l⟩:=l;rcases l with⟨_,e2⟩|⟨b,f,C,e1,p1,p2,p3,p4,p5,p6⟩
 .subst e2;simp only[length_nil,Nat.le_zero]at hl;exact (B (by rw[hl];rfl)).elim
 rw[e1]at hv;obtain⟨aa,rfl⟩:=hv;by_cases I:len+ys.length<=f
 .obtain⟨w',a6,le,s'⟩:=Ait (P:=P) s hh e1 hl I ω Z D;have hr:=An8 (P:=P) (ty:=ty) (w:=w) ht M L k1 ⟨b,0,none⟩ len f ys.length E Cn (by rw[N];exact hs) I (by rw[La,Nat.zero_add,N];exact a6);refine⟨ι,_,_,by simpa using hr,le,s',?_⟩;rw[e1];exact⟨ω,ψ⟩
 .have A:(C.toList.take (len*i.size)).length=len*i.size:=(by have:C.toList.length=f*i.size:=(by rw[Array.length_toList,p4]);rw[length_take,this];exact Nat.min_eq_left (Nat.mul_le_mul_right _ ω));have U:Mb P w (.slice (some ⟨b,0*i.size,none⟩) len (f-0)) R.size len (C.toList.take (len*i.size)):=(by refine⟨λd=>by simp[Builtin.lenOf],λd=>?_,by rw[N];exact A⟩;have hb':({w with drawn:=d}:World).heap[b]? = some (.cells C e (0,0)):=p3;have:=run_loadCells_list (P:=P) {w with drawn:=d} ⟨b,0,none⟩ (C.toList.take (len*i.size)) (by intro j u hj;have y:j<len*i.size:=(by have:=(G1.1 hj).1;omega);rw[Hz y,Ha]at hj;rw[La,Nat.zero_add,Ki hb'];exact hj);rw[A]at this;simp only[Builtin.firstCells,Nat.zero_mul,N];exact this);have hr:=Ais (P:=P) (ty:=ty) (w:=w) ht M L k1 k3 (some ⟨b,0*i.size,none⟩) len (f-0) ys.length E _ Cn (by rw[N];exact hs) U ω ω (by rw[k5];exact Nat.le_trans (Nat.mul_le_mul_right _ ω) hb);have hge:=Ac7 w (len+ys.length) (f-0) e;have a1:z.cells.size=i.size:=(by rw[<-S,k6];simp);have J:∀n,(Builtin.zeroCells z.cells n).size=n*i.size:=(by intro n;simp[Builtin.zeroCells,a1]);have V:(C.toList.take (len*i.size)++Cn).length=(len+ys.length)*i.size:=(by rw[length_append,A,D.len,E2]);have e0:Fu xs len ys=xs.take len++ys:=(by unfold Fu;rw[drop_eq_nil_of_le ω,append_nil]);have G:(xs.take len).length=len:=(by rw[length_take];omega);have a7:I8 σ i.size (xs.take len) C:=(by obtain⟨g,r1,r2,r3⟩:=p6;have X:∀(q:Nat) (x:AV),(xs.take len)[q]? = some x->q<len/\xs[q]? = some x:=(by intro q x hx;have y:q<len:=(by have:=(G1.1 hx).1;omega);rw[Hz y]at hx;exact⟨y,hx⟩);exact⟨g,λq x hx=>r1 q x (X q x hx).2,λq x j c hx hj=>r2 q x j c (X q x hx).2 hj,λq j hq hj=>r3 q j ω hj⟩);obtain⟨s',le⟩:=(s.drew (w.drawn+1)).newRows h e i.size (xs.take len++ys) (grownCap w (len+ys.length) (f-0) e) ((C.toList.take (len*i.size)++Cn).toArray++Builtin.zeroCells z.cells (grownCap w (len+ys.length) (f-0) e-(len+ys.length))) (.inr ⟨e,i.size,xs,hh,ζ⟩) Z (by rw[length_append,G];omega) (by rw[length_append,G];exact hge) (by rw[Array.size_append,J,size_toArray,V,<-E2,Nat.add_sub_cancel' hge]) (by
    refine I8.append a7 g D.el D.cc ?_ ?_
    .intro k hk;rw[G]at hk;rw[Array.getElem?_append_left (by rw[size_toArray,V,E2];omega),getElem?_toArray,getElem?_append_left ω,Hz hk,Ha]
    .intro i' j hi hj;rw[G];have y:i' * i.size+j<Cn.length:=(by have:(i' + 1)*i.size<=ys.length*i.size:=Nat.mul_le_mul_right _ ω;rw[E2]at this;rw[D.len];omega);have e2:(len+i')*i.size+j=len*i.size+(i' * i.size+j):=(by rw[E2];omega);rw[Array.getElem?_append_left (by rw[size_toArray,length_append,A];omega),getElem?_toArray,e2,getElem?_append_right ω,A,Nat.add_sub_cancel_left];exact D.at_ i' j hi hj);rw[e0];refine⟨_,_,_,hr,le,s',?_⟩;rw[Ce];exact⟨ω,by rw[Nat.zero_mul];rfl⟩
theorem Aod {len:Nat} (g:len<=xs.length) (hv:Hk (ι h) sz 0 len v):Conc σ ι (Ay H h (.rows e sz xs)) (.arr h xs.length 0 len) v:=by
 have b:Fj v=true:=by
  unfold Hk at hv;split at hv
  .rw[hv.1];rfl
  .rw[hv.2];rfl
  .exact hv.elim
 refine .arr _ _ _ _ v (by rw[Ce];intro e;cases e) (λi f c e'=>?_) b;rw[Ce]at e';cases e';exact⟨Nat.le_refl _,λ_=>hv⟩
theorem A0s (J:Dd P T) {j:TI} {len:Nat} (D:o.op = .call {callee:=.builtin .append,args:=#[x,y],argTypes:=#[t,t']}) (ht:T t=some i) (hd:i.d = .slice e) (A:T t'=some j) (G:j.d = .slice e') (U:T e=some i') (L:0<i'.size) (l:i'.zero.length=i'.size) (I:1<=i'.bytes) (hx:ρ x = .arr h k 0 len) (E:xs.length=k) (hl:len<=k) (hy:ρ y = .sl i'.size ys) (hb:(xs.length+ys.length)*i'.bytes<=140737488355328) : Ch P o ρ ⟨.arr h (Fu xs len ys).length 0 (len+ys.length),[(h,.rows e i'.size xs)],[(h,.rows e i'.size (Fu xs len ys))]⟩:=by
 intro σ ι H F W w a next Q s f B hk
 have hh:H h = .rows e i'.size xs:=B (h,.rows e i'.size xs) ψ;have c:=f x (by simp[D,Op.operands,Call.operands]);have b:=f y (by simp[D,Op.operands,Call.operands]);rw[hx]at c;rw[hy]at b;have hv:=c.arr_inv hh E;obtain⟨Z,z,X⟩:=Lc (J t i ht) hd;obtain⟨Y,u,V⟩:=Lc (J t' j A) G;subst X;subst V;obtain⟨Cn,g,M,h1,h2,h3⟩:=Ac8 (P:=P) s L b.sl_inv;obtain⟨N,R,w',S,le,s',q⟩:=Aoc (P:=P) (ty:=o.type) s z u (.inl ⟨_,rfl⟩) (J e i' U) L l hh ω hv I hb M ⟨M.size,h1,h2,h3⟩;exact F4 (Vv D rfl S) (hk σ N R w' le s' (Aod (by rw[Yn ω];omega) q))
theorem A0t {i:TypeInfo} {l:TypeDesc} (ht:P.underlying t=some (.slice e)) (j:P.underlying t'=some l) (h:(∃e',l = .slice e')\/l = .string) (hi:P.info? e=some i) (p:Option Addr) (c f:Nat) (g:Value) (s:Mb P w g i.size 0 []) (k:c<=f) : (Builtin.append_ #[t,t'] ty #[.slice p c f,g]).run P w = .ok (.slice p c f) w:=by
 have h1:=s.len w.drawn;have h2:=s.cells w.drawn;have u:({w with drawn:=w.drawn}:World)=w:=rfl;rw[u]at h1 h2;cases p with
 | none=>rcases h with⟨e',rfl⟩|rfl <;> simp[Builtin.append_,run_underlying ht,run_underlying j,sizeOf,typeInfo,hi,h1,k,h2]
 | some b=>have q:(storeCells (b.add (c*i.size)) []).run P w = .ok () w:=(by rw[storeCells];rfl);rcases h with⟨e',rfl⟩|rfl <;> simp[Builtin.append_,run_underlying ht,run_underlying j,sizeOf,typeInfo,hi,h1,k,h2,q]
theorem A0u (x:Ch P o ρ ⟨.arr h k 0 k,[(h,.rows E sz xs)],[(h,.rows E sz ys)]⟩) (hk:ys.length=k):Ch P o ρ ⟨.sl sz ys,[(h,.rows E sz xs)],[(h,.dead)]⟩:=by
 intro σ ι H F W w a next Q s f c y
 refine x σ ι H F W w a next Q s f c ?_
 intro z l v w' le u hc;have hh:Ci H [(h,Bq.rows E sz ys)] h = .rows E sz ys:=Ce _ _ _;obtain⟨j,b,i,g⟩:=u.freeze hh;have hu:Ay (Ci H [(h,Bq.rows E sz ys)]) h .dead=Ci H [(h,.dead)]:=by
  funext q;by_cases e:q=h
  .subst e;rw[Ce];exact (Ce _ _ _).symm
  .rw[Cq _ _ e];show Ay H h _ q=Ay H h _ q;rw[Cq _ _ e,Cq _ _ e]
 rw[hu]at b i;refine y j l v w' (le.trans b) i ?_;have:=g 0 k v ω (hc.arr_inv hh hk);rw[drop_zero,take_of_length_le ω]at this;exact .cc this
theorem A0v (M:Dd P T) {u:TI} (G:o.op = .call {callee:=.builtin .append,args:=#[x,y],argTypes:=#[t,t']}) (ht:T t=some i) (hd:i.d = .slice e) (B:T t'=some u) (L:u.d = .slice e') (he:T e=some i') (Y:0<i'.size) (hx:ρ x = .sl sz xs) (hy:ρ y = .sl i'.size []) : Ch P o ρ ⟨.sl sz xs,[],[]⟩:=by
 intro σ ι H F W w a next Q s h Z hk
 have c:=h x (by simp[G,Op.operands,Call.operands]);have f:=h y (by simp[G,Op.operands,Call.operands]);rw[hx]at c;rw[hy]at f;obtain⟨u1,A,e1⟩:=Lc (M t i ht) hd;obtain⟨u2,z,e2⟩:=Lc (M t' u B) L;subst e1;subst e2;obtain⟨Cn,g,D,_,_,_⟩:=Ac8 (P:=P) s Y f.sl_inv;have I:Cn = []:=by have:=D.size;simp at this;exact this
 subst I;obtain⟨p,n,cap,hv,J⟩:∃p n cap,a.eval x = .slice p n cap/\n<=cap:=by
  rcases c.sl_inv.sl_inv with⟨rfl,p,cap,hv⟩|⟨b,off,cap,C,E,fr,g,hv,hσ,D,a1,hC,hl,j⟩
  .exact⟨_,_,_,hv,Nat.zero_le _⟩
  .exact⟨_,_,_,hv,j⟩
 obtain⟨q,u',z',l,X,V,k,U,S,R⟩:=En (M e i' he);have N:=A0t (P:=P) (w:=w) (ty:=o.type) A z (.inl ⟨_,rfl⟩) l p n cap (a.eval y) (by rw[k];exact D) J;rw[<-hv]at N;exact F4 (Vv G rfl N) (hk σ ι _ w (Le.refl _ _ _) s c)
theorem A0w (V:Dd P T) {A:TI} {len X f:Nat} (M:o.op = .call {callee:=.builtin .append,args:=#[x,y],argTypes:=#[t,t']}) (ht:T t=some i) (hd:i.d = .slice e) (I:T t'=some A) (S:A.d = .slice e') (he:T e=some i') (hz:0<i'.size) (B:i'.zero.length=i'.size) (U:1<=i'.bytes) (hx:ρ x = .arr h k 0 len) (R:xs.length=k) (hl:len<=k) (hy:ρ y = .arr h X f b) (N:xs.length=X) (a1:f+b<=k) (hb:(xs.length+b)*i'.bytes<=140737488355328) : Ch P o ρ ⟨.arr h (Fu xs len ((xs.drop f).take b)).length 0 (len+b),[(h,.rows e i'.size xs)],[(h,.rows e i'.size (Fu xs len ((xs.drop f).take b)))]⟩:=by
 intro σ ι H F W w a next Q s z J hk
 have hh:H h = .rows e i'.size xs:=J (h,.rows e i'.size xs) ψ;have u:=z x (by simp[M,Op.operands,Call.operands]);have q:=z y (by simp[M,Op.operands,Call.operands]);rw[hx]at u;rw[hy]at q;have hv:=u.arr_inv hh R;have D:=q.arr_inv hh N;obtain⟨u1,G,e1⟩:=Lc (V t i ht) hd;obtain⟨u2,E,e2⟩:=Lc (V t' A I) S;subst e1;subst e2;have j:((xs.drop f).take b).length=b:=by simp;omega
 obtain⟨Cn,g,⟨p,c,L⟩,hf,Y⟩:=Aob (P:=P) s hh D ω b (Nat.le_refl _);have hs:Mb P w (a.eval y) i'.size ((xs.drop f).take b).length Cn:=by
  refine⟨λd=>?_,λd=>?_,Y.len⟩
  .rw[L,j];simp[Builtin.lenOf]
  .rw[j];exact hf d
 obtain⟨Z,v',w',hr,le,s',l⟩:=Aoc (P:=P) (ty:=o.type) s G E (.inl ⟨_,rfl⟩) (V e i' he) hz B hh ω hv U (by rw[j];exact hb) hs Y;rw[j]at l;exact F4 (Vv M rfl hr) (hk σ Z v' w' le s' (Aod (by rw[Yn ω,j];omega) l))
theorem Aiu (g:o.op = .call {callee:=.builtin .copy,args:=#[x,y],argTypes:=#[t,t']}) (b:o.type=ty) {c:Value} (f:(Builtin.copy_ #[t,t'] ty #[a.eval x,a.eval y]).run P w = .ok c w') : (execOp a.eval o).run P w = .ok (.value c) w':=by subst b;simp[execOp,g,resolve,invoke,builtin,f]
theorem A0x (V:Dd P T) {len S j f:Nat} (I:o.op = .call {callee:=.builtin .copy,args:=#[x,y],argTypes:=#[t,t']}) (ht:T t=some i) (hd:i.d = .slice e) (he:T e=some i') (Z:0<i'.size) (hx:ρ x = .arr h k off len) (R:xs.length=k) (hl:off+len<=k) (hy:ρ y = .arr h S j f) (N:xs.length=S) (a6:j+f<=k) : Ch P o ρ ⟨.val (.int .i64 (min f len:Nat)),[(h,.rows e i'.size xs)],[(h,.rows e i'.size (Fu xs off ((xs.drop j).take (min f len))))]⟩:=by
 intro σ ι H F W w a next Q s D M hk
 have hh:H h = .rows e i'.size xs:=M (h,.rows e i'.size xs) ψ;have B:=D x (by simp[I,Op.operands,Call.operands]);have A:=D y (by simp[I,Op.operands,Call.operands]);rw[hx]at B;rw[hy]at A;have hv:=B.arr_inv hh R;have J:=A.arr_inv hh N;obtain⟨u1,u,e1⟩:=Lc (V t i ht) hd;subst e1;have z:=Ny (V e i' he);have q:((xs.drop j).take (min f len)).length=min f len:=by simp;omega
 obtain⟨Cn,g,⟨p,c,l⟩,hf,hn⟩:=Aob (P:=P) s hh J ω (min f len) ω;have hf:=hf w.drawn;have ew:({w with drawn:=w.drawn}:World)=w:=rfl;rw[ew,l]at hf;have U:xs.length<=140737488355328:=by have:=s.obj h;unfold Cr at this;rw[hh]at this;exact this.2.1
 have E:Nat.min f len=min f len:=rfl;unfold Hk at hv;split at hv
 .obtain⟨hv,rfl,rfl⟩:=hv;have X:Fu xs 0 ((xs.drop j).take (min f 0))=xs:=(by simp[Fu]);refine F4 (v:=.int .i64 ((min f 0:Nat):Int)) (Aiu I rfl ?_) (hk σ ι _ w ?_ ?_ (.of_val _))
  .simp only[Builtin.copy_,hv,l];simp[run_underlying u,Builtin.lenOf,z,hf,goInt];have G:=hf;simp at G;simp[G]
  .show Le σ ι H σ ι (Ay H h (.rows e i'.size _));rw[X,<-hh,Jm];exact Le.refl _ _ _
  .show St σ ι (Ay H h (.rows e i'.size _)) F W w;rw[X,<-hh,Jm];exact s
 .rename_i b Y hb;obtain⟨a1,hv⟩:=hv;obtain⟨w',L,le,s'⟩:=Ait (P:=P) s hh hb (d:=off) ω (by rw[q];omega) (by rw[q];omega) Z hn;refine F4 (v:=.int .i64 ((min f len:Nat):Int)) (Aiu I rfl ?_) (hk σ ι _ w' le s' (.of_val _));simp only[Builtin.copy_,hv,l];simp[run_underlying u,Builtin.lenOf,z,hf,L,goInt,E]
 .exact hv.elim
theorem A0y (J:Dd P T) {I f g:Nat} (D:o.op = .call {callee:=.builtin .copy,args:=#[x,y],argTypes:=#[t,t']}) (ht:T t=some i) (hd:i.d = .slice e) (L:T e=some i') (hx:ρ x = .sl sz []) (hy:ρ y = .arr h I f g) (G:xs.length=I) : Ch P o ρ ⟨.val (.int .i64 0),[(h,.rows E i'.size xs)],[]⟩:=by
 intro σ ι H F W w a next Q s z A hk
 have hh:H h = .rows E i'.size xs:=A (h,.rows E i'.size xs) ψ;have u:=z x (by simp[D,Op.operands,Call.operands]);have l:=z y (by simp[D,Op.operands,Call.operands]);rw[hx]at u;rw[hy]at l;have b:=l.arr_inv hh G;obtain⟨_,q,cap,hv⟩:=u.sl_inv.sl_len;obtain⟨N,j,M⟩:=Lc (J t i ht) hd;subst M;have k:=Ny (J e i' L);obtain⟨p,c,m,B⟩:∃p c m,a.eval y = .slice p m c:=by
  unfold Hk at b;split at b
  .exact⟨_,_,_,b.1⟩
  .exact⟨_,_,_,b.2⟩
  .exact b.elim
 have hf:(Builtin.firstCells i'.size 0 (.slice p m c)).run P w = .ok #[] w:=by cases p with| none=>simp[Builtin.firstCells]| some a=>simp[Builtin.firstCells,loadCells,loadCellsFrom]
 refine F4 (v:=.int .i64 0) (Aiu D rfl ?_) (hk σ ι _ w (Le.refl _ _ _) s (.of_val _));simp only[Builtin.copy_,hv,B];cases q with| none=>simp[run_underlying j,Builtin.lenOf,k,hf,goInt]| some a=>simp[run_underlying j,Builtin.lenOf,k,hf,goInt,storeCells]
theorem A0z (N:Dd P T) {lo hi:Option Operand} {len:Nat} {l:Nat} (A:o.op = .slice t x lo hi none) (ht:T t=some i) (hd:i.d = .slice e) (X:T e=some i') (hx:ρ x = .arr b k off len) (G:xs.length=k) (B:Ja ρ 0 lo=some (l:Int)) (I:Ja ρ (len:Int) hi=some (l:Int)) (h2:l<=len) : Ch P o ρ ⟨.sl h [],[(b,.rows E sz xs)],[]⟩:=by
 intro σ ι H F W w a next Q s g j hk
 have hh:H b = .rows E sz xs:=j (b,.rows E sz xs) ψ;have hp:=g x (by simp[A,Op.operands]);rw[hx]at hp;have hv:=hp.arr_inv hh G;obtain⟨M,u,z,k1,R,k3,k4,Z,Y,L⟩:=En (N t i ht);rw[hd]at L;subst L;have S:=Ny (N e i' X);have J:∀(cap:Nat),len<=cap->∀w,(Instr.sliceBounds true len cap (lo.map a.eval) (hi.map a.eval) none).run P w = .ok (l,l,cap) w :=
  λcap f w=>Ac3 B I (λy hy=>g y (by rw[A];exact Ac4 hy)) (Nat.le_refl _) ω w
 have key:∀(p:Option Addr) (cap:Nat),len<=cap->a.eval x = .slice p len cap->∃q c,(execOp a.eval o).run P w = .ok (.value (.slice q 0 c)) w:=by intro p cap f hv;have:=J cap f w;simp only[execOp,A,hv,Instr.sliceAt,Instr.slice,Sem.run_bind,run_underlying R,Result.andThen_ok,Option.map_none,this,S w,Sem.run_pure,Nat.sub_self];exact⟨_,_,rfl⟩
 have:∃q c,(execOp a.eval o).run P w = .ok (.value (.slice q 0 c)) w:=by
  unfold Hk at hv;split at hv
  .obtain⟨hv,_,D⟩:=hv;exact key none 0 ω (by rw[D];exact hv)
  .obtain⟨V,hv⟩:=hv;exact key _ _ ω hv
  .exact hv.elim
 obtain⟨q,c,U⟩:=this;exact F4 U (hk σ ι _ w (Le.refl _ _ _) s (.cc (.nil _ _ _)))
theorem Adb (g:o.op = .call {callee:=.builtin .clear,args:=#[x],argTypes:=#[t]}) (b:o.type=ty) {c:Value} (f:(Builtin.clear_ #[t] ty #[a.eval x]).run P w = .ok c w') : (execOp a.eval o).run P w = .ok (.value c) w':=by subst b;simp[execOp,g,resolve,invoke,builtin,f]
theorem A00 (hT:Dd P T) {len:Nat} (I:o.op = .call {callee:=.builtin .clear,args:=#[x],argTypes:=#[t]}) (ht:T t=some i) (hd:i.d = .slice e) (he:T e=some i') (hz:0<i'.size) (y:Ma i'.size (Gd i')=true) (B:(Gd i').cells=i'.zero.map .val) (hx:ρ x = .arr h k off len) (a1:xs.length=k) (hl:off+len<=k) : Ch P o ρ ⟨.tup [],[(h,.rows e i'.size xs)],[(h,.rows e i'.size (Fu xs off (replicate len (Gd i'))))]⟩:=by
 intro σ ι H F W w a next Q s U S hk
 have hh:H h = .rows e i'.size xs:=S (h,.rows e i'.size xs) ψ;have D:=U x (by simp[I,Op.operands,Call.operands]);rw[hx]at D;have hv:=D.arr_inv hh a1;obtain⟨u1,u,e1⟩:=Lc (hT t i ht) hd;subst e1;obtain⟨M,u',f,L,ad,J,ac,ab,A,aa⟩:=En (hT e i' he);have N:(zeroValue e).run P w = .ok f w:=by simp[zeroValue,typeInfo,L,J]
 have g:f.cells.size=i'.size:=by have:=congrArg length B;rw[(Oo y).1,length_map,A,Array.length_toList]at this;exact this.symm
 have a7:xs.length<=140737488355328:=by have:=s.obj h;unfold Cr at this;rw[hh]at this;exact this.2.1
 have l:∀(σ:A7) (ι:Ca) (H:Hp),Conc σ ι H (.tup []) (.tuple #[]):=λσ ι H=>.tup [] #[] rfl (λi c v h _=>by simp at h);unfold Hk at hv;split at hv
 .obtain⟨hv,rfl,rfl⟩:=hv;have G:Fu xs 0 (replicate 0 (Gd i'))=xs:=(by simp[Fu]);refine F4 (v:=.tuple #[]) (Adb I rfl ?_) (hk σ ι _ w ?_ ?_ (l _ _ _))
  .simp only[Builtin.clear_,hv];simp[run_underlying u]
  .show Le σ ι H σ ι (Ay H h (.rows e i'.size _));rw[G,<-hh,Jm];exact Le.refl _ _ _
  .show St σ ι (Ay H h (.rows e i'.size _)) F W w;rw[G,<-hh,Jm];exact s
 .rename_i b a8 hb;obtain⟨ae,hv⟩:=hv;by_cases Z:len=0
  .subst Z;have G:Fu xs off (replicate 0 (Gd i'))=xs:=(by simp[Fu]);refine F4 (v:=.tuple #[]) (Adb I rfl ?_) (hk σ ι _ w ?_ ?_ (l _ _ _))
   .simp only[Builtin.clear_,hv];simp[run_underlying u]
   .show Le σ ι H σ ι (Ay H h (.rows e i'.size _));rw[G,<-hh,Jm];exact Le.refl _ _ _
   .show St σ ι (Ay H h (.rows e i'.size _)) F W w;rw[G,<-hh,Jm];exact s
  .have z:∀q,q<len*i'.size->(Builtin.zeroCells f.cells len).toList[q]? = f.cells[q % i'.size]?:=(by intro q hq;have hm:q % i'.size<f.cells.size:=(by rw[g];exact Nat.mod_lt _ hz);have V:f.cells[q % i'.size]! = f.cells[q % i'.size]:=(by simp[hm]);simp[Builtin.zeroCells,hq,g,V,hm]);have hn:Td σ i'.size (replicate len (Gd i')) (Builtin.zeroCells f.cells len).toList (λ_ j=>(f.cells[j]?).getD undef):=by
    refine⟨by simp[Builtin.zeroCells,g],?_,?_,?_⟩
    .intro j x' hj;have:=Fi hj;simp at this;rw[this.2];exact (Oo y).1
    .intro j x' q c' hj hq;have:=Fi hj;simp at this;rw[this.2]at hq;have a6:=(Oo y).2 c' (Fi hq);rw[B,getElem?_map,A,Ha]at hq;cases hv:f.cells[q]? with| none=>rw[hv]at hq;simp at hq| some v=>rw[hv]at hq;simp at hq;subst hq;exact⟨.val v,a6⟩
    .intro j q hj hq;have hj':j<len:=(by simpa using hj);have X:j*i'.size+q<len*i'.size:=(by have:(j+1)*i'.size<=len*i'.size:=Nat.mul_le_mul_right _ ω;rw[E2]at this;omega);rw[z _ X];have:(j*i'.size+q) % i'.size=q:=(by rw[Nat.mul_comm,Nat.mul_add_mod,Nat.mod_eq_of_lt hq]);rw[this];have E:q<f.cells.size:=ω;simp[E]
   obtain⟨w',R,le,s'⟩:=Ait (P:=P) s hh hb (d:=off) ω (by rw[length_replicate];omega) (by rw[length_replicate];omega) hz hn;refine F4 (v:=.tuple #[]) (Adb I rfl ?_) (hk σ ι _ w' le s' (l _ _ _));have Y:∃m,len=m+1:=⟨len-1,ω⟩;obtain⟨m,rfl⟩:=Y;simp only[Builtin.clear_,hv];simp[run_underlying u,N,R]
 .exact hv.elim
theorem A01 (l:Dd P T) (j:o.op = .call {callee:=.builtin .clear,args:=#[x],argTypes:=#[t]}) (ht:T t=some i) (hd:i.d = .slice e) (hx:ρ x = .sl sz []):Ch P o ρ ⟨.tup [],[],[]⟩:=by
 intro σ ι H F W w a next Q s g k hk
 have b:=g x (by simp[j,Op.operands,Call.operands]);rw[hx]at b;obtain⟨_,q,cap,hv⟩:=b.sl_inv.sl_len;obtain⟨y,f,u⟩:=Lc (l t i ht) hd;subst u;refine F4 (v:=.tuple #[]) (Adb j rfl ?_) (hk σ ι _ w (Le.refl _ _ _) s (.tup [] #[] rfl (λi c v h _=>by simp at h)));simp only[Builtin.clear_,hv];cases q <;> simp[run_underlying f]
end
variable {F σ:A7} {ι:Ca} {H:Hp} {W w:World}
theorem St.newMap (s:St σ ι H F W w) (h:Nat) (j:H h = .none) : St σ (Ay ι h (.box w.heap.size)) (Ay H h (.map [])) F W (w.alloc (.map #[] 0))/\Le σ ι H σ (Ay ι h (.box w.heap.size)) (Ay H h (.map [])):=by
 have g:ι h = .none:=by have:=s.obj h;unfold Cr at this;rw[j]at this;exact this
 have le:Le σ ι H σ (Ay ι h (.box w.heap.size)) (Ay H h (.map [])):=Le.upd (A7.le_refl σ) h _ _ (by rw[g,j];exact HLe.of_none);obtain⟨c,f⟩:=s.fresh;refine⟨s.touch h w.heap.size (λx e=>Cq _ _ e) (λx e=>Cq _ _ e) le ?_ (λ_ _=>rfl) (λo i=>by rw[c]at i;cases i) ?_ f ?_ ?_ rfl rfl rfl,le⟩
 .intro b hb;show (w.heap.push _)[b]? = _;rw[Array.getElem?_push,if_neg hb]
 .intro x e k hb;have:=(s.block k hb).1;omega
 .intro b _ hb;rw[Ce]at hb;simp[Loc.block?]at hb;exact .inl hb.symm
 .unfold Cr;rw[Ce];refine⟨w.heap.size,#[],0,Ce _ _ _,c,f,?_,rfl,ψ⟩;show (w.heap.push _)[w.heap.size]? = _;simp
theorem St.setMap (s:St σ ι H F W w) (h:Nat) (es c:List (AV×AV)) (hh:H h = .map es) (b:Nat) (hb:ι h = .box b) (g:Array MapEntry) (t':Nat) (u:Tb σ c g) : St σ ι (Ay H h (.map c)) F W {w with heap:=w.heap.setIfInBounds b (.map g t')}/\Le σ ι H σ ι (Ay H h (.map c)):=by
 have i:=s.obj h;unfold Cr at i;rw[hh]at i;obtain⟨A,M,t,l,h1,h2,h3,y⟩:=i;rw[hb]at l;cases l;have le:Le σ ι H σ ι (Ay H h (.map c)):=by have:=Le.upd (ι:=ι) (H:=H) (A7.le_refl σ) h (ι h) (.map c) (by rw[hh];exact⟨λ_ e=>e,(λ_ e=>by cases e),(λ_ _ _ _ e=>by cases e)⟩);rwa [Jm]at this
 have f:=Go.MapKept.heap_set (w:=w) (o':=.map g t') h3;refine⟨s.touch h b (λ_ _=>rfl) (λx e=>Cq _ _ e) le (λx e=>f.2 x e) (λ_ _=>rfl) (λo e=>by rw[h1]at e;cases e) ?_ h2 ?_ ?_ rfl rfl rfl,le⟩
 .intro x e q j;exact e (s.inj x h b q (by rw[hh];rfl) j (by rw[hb];rfl))
 .intro z _ k;exact .inr ⟨by rw[hh];rfl,k⟩
 .unfold Cr;rw[Ce];exact⟨b,g,t',hb,h1,h2,f.1,u⟩
def Kk (s:ByteArray):List (AV×AV)->Nat->Option (Option (Nat×AV))
 | [],_=>some none
 | p::es,i=> match p.1 with
  | .val (.string t)=>bif s==t then some (some (i,p.2)) else Kk s es (i+1)
  | _=>none
def Adc (s:ByteArray) (v:AV) (es:List (AV×AV)):Option (List (AV×AV)) := match Kk s es 0 with
 | none=>none
 | some none=>some (es++[(.val (.string s),v)])
 | some (some p)=>some (es.set p.1 (.val (.string s),v))
theorem Aiv {σ:A7} {s:ByteArray}:∀(es:List (AV×AV)) (L:List MapEntry) (i:Nat) (r:Option (Nat×AV)),L.length=es.length ->
  (∀(j:Nat) (p:AV×AV) (e:MapEntry),es[j]? = some p->L[j]? = some e->CC σ p.1 e.key/\CC σ p.2 e.val)->Kk s es i=some r ->
  (r=none/\Instr.findNow .string (.string s) L i=some none)\/∃j v e,r=some (i+j,v)/\Instr.findNow .string (.string s) L i=some (some (i+j,e.val))/\L[j]? = some e/\e.key = .string s/\CC σ v e.val/\j<es.length
 | [],[],i,r,g,h,b=>by
  simp only[Kk]at b;cases b
  exact .inl ⟨rfl,rfl⟩
 | [],e::L,i,r,g,h,b=>by simp at g
 | p::es,[],i,r,g,h,b=>by simp at g
 | p::es,e::L,i,r,g,h,b=>by
  obtain⟨hk,hv⟩:=h 0 p e rfl rfl
  simp only[Kk]at b
  split at b
  .rename_i t hp
   rw[hp]at hk
   have f:e.key = .string t:=by
    generalize e.key=q at hk
    cases hk;rfl
   cases c:s==t with
   | true=>
    rw[c]at b
    cases b
    have l:s=t:=(Go.MapKept.bytes_beq s t).1 c
    refine .inr ⟨0,p.2,e,rfl,?_,rfl,?_,hv,ψ⟩
    .unfold Instr.findNow
     rw[f]
     simp[Instr.sameNow,c]
    .rw[f,l]
   | false=>
    rw[c]at b
    have step:Instr.findNow .string (.string s) (e::L) i=Instr.findNow .string (.string s) L (i+1):=by
     conv=>lhs;unfold Instr.findNow
     rw[f]
     simp[Instr.sameNow,c]
    rcases Aiv es L (i+1) r (by simpa using g) (λj k e' h1 h2=>h (j+1) k e' (by simpa using h1) (by simpa using h2)) b with⟨h1,h2⟩|⟨j,v,e',h1,h2,h3,y,x,u⟩
    .exact .inl ⟨h1,by rw[step];exact h2⟩
    .exact .inr ⟨j+1,v,e',by rw[h1];congr 2;omega,by rw[step,h2];congr 3;omega,by simpa using h3,y,x,by simpa using u⟩
  .cases b
section
variable {P:Program} {o:Oper} {ρ:Operand->AV} {a:Act} {w w':World} {next:Act->World->Prop} {Q:Exit->Act->World->Prop}
variable {σ:A7} {s:ByteArray} {ι:Ca} {T:Dc} {H:Hp} {es:List (AV×AV)} {h:Nat} {x y:Operand} {r:Option (Nat×AV)} {i:TI} {G et t:TypeId} {v:Value}
def Jv:List AV->Option (List Value)
 | []=>some []
 | .val v::xs=>(Jv xs).map (v :: ·)
 | _::_=>none
theorem Te {σ:A7} {ι:Ca} {H:Hp}:∀{xs:List AV} {b:List Value} {vs:List Value},Jv xs=some b->vs.length=xs.length->(∀(i:Nat) (c:AV) (v:Value),xs[i]? = some c->vs[i]? = some v->Conc σ ι H c v)->vs=b
 | [],b,vs,h,f,_=>by simp only[Jv]at h;cases h;exact length_eq_zero_iff.1 f
 | .val v::xs,b,[],h,f,_=>by simp at f
 | .val v::xs,b,w::vs,h,f,hc=>by simp only[Jv,Option.map_eq_some_iff]at h;obtain⟨g,h1,rfl⟩:=h;have k:=(hc 0 _ w rfl rfl).val_inv;have j:=Te (vs:=vs) h1 (by simpa using f) (λi c u g1 g2=>hc (i+1) c u (by simpa using g1) (by simpa using g2));rw[k,j]
 | .loc .. :: _,_,_,h,_,_ | .arr .. :: _,_,_,h,_,_ | .el .. :: _,_,_,h,_,_ | .mp .. :: _,_,_,h,_,_ | .ref .. :: _,_,_,h,_,_
 | .sl .. :: _,_,_,h,_,_ | .agg .. :: _,_,_,h,_,_ | .tup .. :: _,_,_,h,_,_ | .fn .. :: _,_,_,h,_,_=>by simp[Jv]at h
def Ade (P:Program) (t:TypeId) (c vs:List Value) (b:Bool):Prop := ∀(w:World) (op:BinOp) (x y:Operand),(eqGuard op t x y (.agg c.toArray) (.agg vs.toArray)).run P w = .ok () w/\(Op.equal t (.agg c.toArray) (.agg vs.toArray)).run P w = .ok b w
theorem Aoe {op:BinOp} {s:TypeId} {xs ys:List AV} {f vs:List Value} {b c:Bool} (g:o.op = .binOp op t x y s) (hx:ρ x = .agg xs) (hy:ρ y = .agg ys) (h1:Jv xs=some f) (h2:Jv ys=some vs) (hb:Ade P t f vs b) (hc:(op = .eql/\c=b)\/(op = .neq/\c = !b)):Ch P o ρ ⟨.val (.bool c),[],[]⟩ := Ff λσ ι H a w h=>by
  refine⟨.bool c,?_,.of_val _⟩;have q:=h x (by simp[g,Op.operands]);have l:=h y (by simp[g,Op.operands]);rw[hx]at q;rw[hy]at l;obtain⟨k,E,B,c1⟩:=q.agg_inv;obtain⟨j,D,A,c2⟩:=l.agg_inv;have g1:k=f.toArray:=(by have:=Te (vs:=k.toList) h1 (by simpa using B) (λi c v m1 m2=>c1 i c v m1 (by simpa using m2));rw[<-this]);have g2:j=vs.toArray:=(by have:=Te (vs:=j.toList) h2 (by simpa using A) (λi c v m1 m2=>c2 i c v m1 (by simpa using m2));rw[<-this]);subst g1;subst g2;obtain⟨z,u⟩:=hb w op x y;rcases hc with⟨rfl,rfl⟩|⟨rfl,rfl⟩;all_goals
   simp only[execOp,g,E,D,Sem.run_bind,z,Result.andThen_ok,binOp,u,Sem.run_pure]
def Aiw (P:Program) (s:TypeId) (f:Nat):Option TypeId := match P.underlying s with
 | some (.struct fields)=>(fields[f]?).map (·.type)
 | _=>none
theorem Aof (E:Dd P T) {y:TypeId} {f:Nat} {g:TI} {fs:List (Nat×Nat)} {q:Nat×Nat} {cs:List AV} {r:AV} (D:o.op = .field t x f) (ht:T t=some i) (hd:i.d = .struct fs) (hq:fs[f]? = some q) (hf:Aiw P t f=some y) (I:T y=some g) (hx:ρ x = .agg cs) (N:(g.isAgg=true/\q.1+g.size<=cs.length/\r = .agg ((cs.drop q.1).take g.size))\/(g.isAgg=false/\cs[q.1]? = some r)):Ch P o ρ ⟨r,[],[]⟩ := Ff λσ ι H a w h=>by
  have hc:=h x (by simp[D,Op.operands]);rw[hx]at hc;obtain⟨vs,J,L,c1⟩:=hc.agg_inv;obtain⟨_,u,_,_,A,_,_,_,_,G⟩:=En (E t i ht);rw[hd]at G;obtain⟨fields,rfl,M,_⟩:=G;unfold Aiw at hf;rw[A]at hf;simp only[Option.map_eq_some_iff]at hf;obtain⟨fl,g1,g2⟩:=hf;have b:q.1=fl.offset:=(by rw[M,getElem?_map,Ha,g1]at hq;simp at hq;rw[<-hq]);have l:=Ac2 (E y g I) w;have B:=Ny (E y g I) w;subst g2;rcases N with⟨z,s,rfl⟩|⟨z,s⟩
  .refine⟨.agg (vs.extract fl.offset (fl.offset+g.size)),?_,.agg _ _ (by simp[b]at s ⊢;omega) λj c u m1 m2=>?_⟩
   .simp[execOp,D,J,Instr.field,run_underlying A,g1,asAgg,part,l,z,B,Result.andThen]
   .rw[b]at m1;have hj:j<g.size:=(by have:=(G1.1 m1).1;simp at this;omega);rw[Hz hj,getElem?_drop]at m1;rw[Array.getElem?_extract]at m2;split at m2
    .exact c1 _ c u m1 m2
    .cases m2
  .have k:q.1<vs.size:=(by rw[L];exact (G1.1 s).1);have hv:vs[fl.offset]? = some vs[q.1]:=(by rw[<-b];simp[k]);refine⟨vs[q.1],?_,c1 q.1 r _ s (by simp[k])⟩;simp[execOp,D,J,Instr.field,run_underlying A,g1,asAgg,part,l,z,hv,Result.andThen]
theorem A02 (h:Nat) (c:o.op = .makeMap t none):Ch P o ρ ⟨.mp h,[(h,.none)],[(h,.map [])]⟩:=by
 intro σ ι H F W w a next Q s hx b hk
 have f:H h = .none:=b (h,.none) ψ;obtain⟨s',le⟩:=s.newMap h f;refine F4 (v:=.map (some w.heap.size)) (w':=w.alloc (.map #[] 0)) ?_ (hk σ _ _ _ le s' (.mp h w.heap.size (Ce _ _ _)));simp[execOp,c,Instr.makeMap,newObj,Sem.run]
theorem Conc.mp_inv (hc:Conc σ ι H (.mp h) v):∃b,ι h = .box b/\v = .map (some b):=by cases hc with| cc h=>cases h| mp _ b hb=>exact⟨b,hb,rfl⟩
def Vx (b:Bool) (i:TI):Option (Nat×AV)->AV
 | none=>bif b then .tup [Gd i,.val (.bool false)] else Gd i
 | some p=>bif b then .tup [p.2,.val (.bool true)] else p.2
theorem Aog {z:Value} (h1:z.cells.toList=i.zero) (h2:i.isAgg=true->∃vs,z = .agg vs) (h3:i.isAgg=false->Fj z=true):Conc σ ι H (Gd i) z:=by
 cases b:i.isAgg with
 | true=>obtain⟨vs,rfl⟩:=h2 b;have f:Gd i = .agg (i.zero.map .val):=(by unfold TI.isAgg at b;unfold Gd;cases hd:i.d <;> rw[hd]at b <;> first|rfl|cases b);rw[f,<-h1];refine .agg _ vs (by simp[Value.cells]) λj c v g1 g2=>?_;simp only[Value.cells,getElem?_map,Ha,g2]at g1;simp at g1;subst g1;exact .of_val v
 | false=>have h3:=h3 b;have f:z.cells = #[z]:=(by cases z <;> first|rfl|cases h3);rw[f]at h1;have:Gd i = .val z:=(by unfold TI.isAgg at b;unfold Gd;rw[<-h1];cases hd:i.d <;> rw[hd]at b <;> first|rfl|cases b);rw[this];exact .of_val z
theorem A03 (Z:Dd P T) {S:TypeId} {D:Bool} {U G:TI} (B:o.op = .lookup t x y D) (ht:T t=some i) (hd:i.d = .map S et) (hk:T S=some U) (Y:U.d = .string) (he:T et=some G) (hx:ρ x = .mp h) (hy:ρ y = .val (.string s)) (hr:Kk s es 0=some r) : Ch P o ρ ⟨Vx D G r,[(h,.map es)],[]⟩:=by
 intro σ ι H F W w a next Q st L V X
 have hh:H h = .map es:=V (h,.map es) ψ;have N:=L x (by simp[B,Op.operands]);rw[hx]at N;obtain⟨b,hb,hv⟩:=N.mp_inv;have g:=D5 hy (L y (by simp[B,Op.operands]));have A:=st.obj h;unfold Cr at A;rw[hh]at A;obtain⟨b',M,q,e1,_,_,h3,h4⟩:=A;rw[hb]at e1;cases e1;obtain⟨_,u,_,_,R,_,_,_,_,k7⟩:=En (Z t i ht);rw[hd]at k7;subst k7;obtain⟨_,u',_,_,f,_,_,_,_,E⟩:=En (Z S U hk);rw[Y]at E;subst E;have k:Go.MapKept.IsKey .string (.string s):=trivial;have l:∀v,Conc σ ι H (Vx D G r) v->(execOp a.eval o).run P w = .ok (.value v) w->o.wp P a w next Q:=by intro v hc J;exact F4 J (X σ ι v w (Le.refl _ _ _) st hc)
 rcases Aiv es M.toList 0 r (by simpa using h4.1) (λj p e g1 g2=>h4.2 j p e g1 (by simpa using g2)) hr with⟨rfl,hf⟩|⟨j,v,e,rfl,hf,g1,g2,g3,_⟩
 .obtain⟨z,hz,c1,c2,c3⟩:=Anz (Z et G he) w;have I:Conc σ ι H (Gd G) z:=Aog c1 c2 c3;cases D with
  | true=>
   refine l (.tuple #[z,.bool false]) (.tup _ _ ψ λi c u m1 m2=>?_) ?_
   .match i with| 0=>simp at m1 m2;subst m1;subst m2;exact I| 1=>simp at m1 m2;subst m1;subst m2;exact .of_val _| i+2=>simp at m1
   .simp[execOp,B,hv,g,Instr.lookup,run_underlying R,Go.MapKept.run_getObj_map h3,Go.MapKept.run_checkKey f k,Go.MapKept.run_findKey f hf,hz,Result.andThen]
  | false=>refine l z I ?_;simp[execOp,B,hv,g,Instr.lookup,run_underlying R,Go.MapKept.run_getObj_map h3,Go.MapKept.run_checkKey f k,Go.MapKept.run_findKey f hf,hz,Result.andThen]
 .cases D with
  | true=>
   refine l (.tuple #[e.val,.bool true]) (.tup _ _ ψ λi c u m1 m2=>?_) ?_
   .match i with| 0=>simp at m1 m2;subst m1;subst m2;exact .cc g3| 1=>simp at m1 m2;subst m1;subst m2;exact .of_val _| i+2=>simp at m1
   .simp[execOp,B,hv,g,Instr.lookup,run_underlying R,Go.MapKept.run_getObj_map h3,Go.MapKept.run_checkKey f k,Go.MapKept.run_findKey f hf,Result.andThen]
  | false=>refine l e.val (.cc g3) ?_;simp[execOp,B,hv,g,Instr.lookup,run_underlying R,Go.MapKept.run_getObj_map h3,Go.MapKept.run_checkKey f k,Go.MapKept.run_findKey f hf,Result.andThen]
theorem Conc.cc_free1 {x:AV} (hx:x.free1=true) (h:Conc σ ι H x v):CC σ x v:=by cases x with| agg cs=>obtain⟨vs,rfl,b,h⟩:=h.agg_inv;exact .agg cs vs b λi c u h1 h2=>((h i c u h1 h2).cc_of (D8.1 hx c (Fi h1))).1| val u=>exact (h.cc_of (x:=.val u) hx).1| sl sz xs=>exact (h.cc_of (x:=.sl sz xs) hx).1| _=>cases hx
theorem A04 (hT:Dd P T) {X:TypeId} {z:Operand} {Y:TI} {g:List (AV×AV)} (N:o.op = .mapUpdate t x y z) (ht:T t=some i) (hd:i.d = .map X et) (hk:T X=some Y) (a6:Y.d = .string) (hx:ρ x = .mp h) (hy:ρ y = .val (.string s)) (hz:(ρ z).free1=true) (k:Adc s (ρ z) es=some g) : Ch P o ρ ⟨.val undef,[(h,.map es)],[(h,.map g)]⟩:=by
 intro σ ι H F W w a next Q st l Z a1
 have hh:H h = .map es:=Z (h,.map es) ψ;have U:=l x (by simp[N,Op.operands]);rw[hx]at U;obtain⟨b,hb,hv⟩:=U.mp_inv;have J:=D5 hy (l y (by simp[N,Op.operands]));have S:=(l z (by simp[N,Op.operands])).cc_free1 hz;have A:=st.obj h;unfold Cr at A;rw[hh]at A;obtain⟨b',M,q,e1,_,_,h3,f⟩:=A;rw[hb]at e1;cases e1;obtain⟨_,u,_,_,k2,_,_,_,_,k7⟩:=En (hT t i ht);rw[hd]at k7;subst k7;obtain⟨_,u',_,_,c,_,_,_,_,I⟩:=En (hT X Y hk);rw[a6]at I;subst I;have D:Go.MapKept.IsKey .string (.string s):=trivial;have R:∀V t',Tb σ g V->(execOp a.eval o).run P w = .ok .skip {w with heap:=w.heap.setIfInBounds b (.map V t')}->o.wp P a w next Q:=by intro V t' hM L;obtain⟨s',le⟩:=st.setMap h es g hh b hb V t' hM;exact Ac1 L (a1 σ ι undef _ le s' (.of_val _))
 unfold Adc at k;cases G:Kk s es 0 with
 | none=>rw[G]at k;cases k
 | some r=>
  rw[G]at k;rcases Aiv es M.toList 0 r (by simpa using f.1) (λj p e g1 g2=>f.2 j p e g1 (by simpa using g2)) G with⟨rfl,hf⟩|⟨j,v,e,rfl,hf,g1,g2,g3,g4⟩
  .simp only[Option.some.injEq]at k;subst k;refine R (M.push {key:=.string s,val:=a.eval z,born:=q}) (q+1) ⟨by simp[f.1],λi' p e m1 m2=>?_⟩ ?_
   .rcases Nat.lt_or_ge i' es.length with B|hge
    .rw[getElem?_append_left B]at m1;rw[Array.getElem?_push_lt (by rw[f.1];exact B)]at m2;exact f.2 i' p e m1 (by rw[Array.getElem?_eq_getElem (by rw[f.1];exact B)];exact m2)
    .rw[getElem?_append_right hge]at m1;have a7:i'=es.length:=(by have:=(G1.1 m1).1;simp at this;omega);subst a7;simp at m1;subst m1;rw[<-f.1]at m2;simp at m2;subst m2;exact⟨.val _,S⟩
   .simp[execOp,N,hv,J,Instr.mapUpdate,run_underlying k2,Go.MapKept.run_getObj_map h3,Go.MapKept.run_checkKey c D,Go.MapKept.run_findKey c hf,Go.MapKept.run_setObj_map _ h3,Result.andThen]
  .simp only[Option.some.injEq]at k;subst k;have hj:M[j]? = some e:=(by simpa using g1);refine R (M.modify j λe=>{e with key:=.string s,val:=a.eval z}) q ⟨by simp[f.1],λi' p e' m1 m2=>?_⟩ ?_
   .simp only[Nat.zero_add]at m1;rw[getElem?_set]at m1;rw[Array.getElem?_modify]at m2;by_cases E:j=i'
    .subst E;simp only[if_true]at m1 m2;rw[if_pos g4]at m1;cases m1;rw[hj]at m2;simp at m2;subst m2;exact⟨.val _,S⟩
    .rw[if_neg E]at m1;rw[if_neg E]at m2;exact f.2 i' p e' m1 m2
   .simp[execOp,N,hv,J,Instr.mapUpdate,run_underlying k2,Go.MapKept.run_getObj_map h3,Go.MapKept.run_checkKey c D,Go.MapKept.run_findKey c hf,hj,g2,Go.MapKept.run_keyThatStays D,Go.MapKept.run_setObj_map _ h3,Result.andThen]
def Adf (P:Program) (b:TypeId) (c:List Value):Prop := (∃fs,P.underlying b=some (.struct fs))/\∀(w:World) (e:Bool),(Instr.checkKey e 10000 b (.agg c.toArray)).run P w = .ok () w
inductive Oq (P:Program) (kt:TypeId) (us:List Value):List (AV×AV)->Nat->Option (Nat×AV)->Prop where
 | nil (i:Nat):Oq P kt us [] i none
 | hit {ys:List AV} {vs:List Value} {v:AV} {es:List (AV×AV)} {i:Nat} (h1:Jv ys=some vs) (h2:Ade P kt us vs true):Oq P kt us ((.agg ys,v)::es) i (some (i,v))
 | miss {ys:List AV} {vs:List Value} {v:AV} {es:List (AV×AV)} {i:Nat} {r:Option (Nat×AV)} (h1:Jv ys=some vs) (h2:Ade P kt us vs false) (h3:Oq P kt us es (i+1) r):Oq P kt us ((.agg ys,v)::es) i r
theorem Oq.sound {l:TypeId} {k:List Value} {i:Nat} (h:Oq P l k es i r):∀(L:List MapEntry),L.length=es.length -> (∀(j:Nat) (p:AV×AV) (e:MapEntry),es[j]? = some p->L[j]? = some e->CC σ p.1 e.key/\CC σ p.2 e.val)->∀w:World, (r=none/\(Instr.findAsking l (.agg k.toArray) L i).run P w = .ok none w)\/∃j v e,r=some (i+j,v)/\(Instr.findAsking l (.agg k.toArray) L i).run P w = .ok (some (i+j,e.val)) w/\L[j]? = some e/\CC σ v e.val/\j<es.length:=by
 induction h with
 | nil i=>intro L g _ w;cases L with| nil=>exact .inl ⟨rfl,by simp[Instr.findAsking]⟩| cons e L=>simp at g
 | @hit ys vs v es i h1 h2=>
  intro L g hc w;cases L with
  | nil=>simp at g
  | cons e L=>obtain⟨c1,c2⟩:=hc 0 _ e rfl rfl;have hk:e.key = .agg vs.toArray:=(by generalize e.key=q at c1;cases c1 with| agg _ b f hh=>have:=Te (σ:=σ) (ι:=λ_=>.none) (H:=λ_=>.none) (vs:=b.toList) h1 (by simpa using f) (λi c u g1 g2=>.cc (hh i c u g1 (by simpa using g2)));rw[<-this]);refine .inr ⟨0,v,e,rfl,?_,rfl,c2,ψ⟩;have:=(h2 w .eql default default).2;simp[Instr.findAsking,hk,this]
 | @miss ys vs v es i r h1 h2 h3 ih=>
  intro L g hc w;cases L with
  | nil=>simp at g
  | cons e L=>
   obtain⟨c1,c2⟩:=hc 0 _ e rfl rfl;have hk:e.key = .agg vs.toArray:=(by generalize e.key=q at c1;cases c1 with| agg _ b f hh=>have:=Te (σ:=σ) (ι:=λ_=>.none) (H:=λ_=>.none) (vs:=b.toList) h1 (by simpa using f) (λi c u g1 g2=>.cc (hh i c u g1 (by simpa using g2)));rw[<-this]);have:=(h2 w .eql default default).2;have step:(Instr.findAsking l (.agg k.toArray) (e::L) i).run P w=(Instr.findAsking l (.agg k.toArray) L (i+1)).run P w:=(by simp[Instr.findAsking,hk,this]);rcases ih L (by simpa using g) (λj x e' g1 g2=>hc (j+1) x e' (by simpa using g1) (by simpa using g2)) w with⟨g1,g2⟩|⟨j,s,e',g1,g2,g3,g4,g5⟩
   .exact .inl ⟨g1,by rw[step];exact g2⟩
   .exact .inr ⟨j+1,s,e',by rw[g1];congr 2;omega,by rw[step,g2];congr 3;omega,by simpa using g3,g4,by simpa using g5⟩
theorem A05 (hT:Dd P T) {E:Bool} {I:TI} {ks:List AV} {A:List Value} (D:o.op = .lookup t x y E) (ht:T t=some i) (hd:i.d = .map G et) (he:T et=some I) (hx:ρ x = .mp h) (hy:ρ y = .agg ks) (hu:Jv ks=some A) (hc:Adf P G A) (hr:Oq P G A es 0 r) : Ch P o ρ ⟨Vx E I r,[(h,.map es)],[]⟩:=by
 intro σ ι H F W w a next Q st N Y Z
 have hh:H h = .map es:=Y (h,.map es) ψ;have S:=N x (by simp[D,Op.operands]);rw[hx]at S;obtain⟨b,hb,hv⟩:=S.mp_inv;have R:=N y (by simp[D,Op.operands]);rw[hy]at R;obtain⟨V,f,a1,a7⟩:=R.agg_inv;have X:V.toList=A:=Te hu (by simpa using a1) (λi c u g1 g2=>a7 i c u g1 (by simpa using g2));have f:a.eval y = .agg A.toArray:=by rw[f,<-X]
 have B:=st.obj h;unfold Cr at B;rw[hh]at B;obtain⟨b',M,q,e1,_,_,h3,h4⟩:=B;rw[hb]at e1;cases e1;obtain⟨_,u,_,_,U,_,_,_,_,k7⟩:=En (hT t i ht);rw[hd]at k7;subst k7;obtain⟨⟨fs,a6⟩,s⟩:=hc;have g:∀v,Conc σ ι H (Vx E I r) v->(execOp a.eval o).run P w = .ok (.value v) w->o.wp P a w next Q:=by intro v hc L;exact F4 L (Z σ ι v w (Le.refl _ _ _) st hc)
 have k:∀l,(Instr.findKey G (.agg A.toArray) l).run P w=(Instr.findAsking G (.agg A.toArray) l).run P w:=λl=>run_findKey_eq w (by rw[a6]) _ l;rcases hr.sound M.toList (by simpa using h4.1) (λj p e g1 g2=>h4.2 j p e g1 (by simpa using g2)) w with⟨rfl,hf⟩|⟨j,v,e,rfl,hf,g1,g3,_⟩
 .obtain⟨z,hz,c1,c2,c3⟩:=Anz (hT et I he) w;have J:Conc σ ι H (Gd I) z:=Aog c1 c2 c3;cases E with
  | true=>
   refine g (.tuple #[z,.bool false]) (.tup _ _ ψ λi c u m1 m2=>?_) ?_
   .match i with| 0=>simp at m1 m2;subst m1;subst m2;exact J| 1=>simp at m1 m2;subst m1;subst m2;exact .of_val _| i+2=>simp at m1
   .simp[execOp,D,hv,f,Instr.lookup,run_underlying U,Go.MapKept.run_getObj_map h3,s,k,hf,hz,Result.andThen]
  | false=>refine g z J ?_;simp[execOp,D,hv,f,Instr.lookup,run_underlying U,Go.MapKept.run_getObj_map h3,s,k,hf,hz,Result.andThen]
 .cases E with
  | true=>
   refine g (.tuple #[e.val,.bool true]) (.tup _ _ ψ λi c u m1 m2=>?_) ?_
   .match i with| 0=>simp at m1 m2;subst m1;subst m2;exact .cc g3| 1=>simp at m1 m2;subst m1;subst m2;exact .of_val _| i+2=>simp at m1
   .simp[execOp,D,hv,f,Instr.lookup,run_underlying U,Go.MapKept.run_getObj_map h3,s,k,hf,Result.andThen]
  | false=>refine g e.val (.cc g3) ?_;simp[execOp,D,hv,f,Instr.lookup,run_underlying U,Go.MapKept.run_getObj_map h3,s,k,hf,Result.andThen]
theorem A06 (hT:Dd P T) {z:Operand} {g:List AV} {f:List Value} (L:o.op = .mapUpdate t x y z) (ht:T t=some i) (hd:i.d = .map G et) (hx:ρ x = .mp h) (hy:ρ y = .agg g) (hu:Jv g=some f) (hz:(ρ z).free1=true) (hc:Adf P G f) (hr:Oq P G f es 0 none) : Ch P o ρ ⟨.val undef,[(h,.map es)],[(h,.map (es++[(.agg g,ρ z)]))]⟩:=by
 intro σ ι H F W w a next Q st A S U
 have hh:H h = .map es:=S (h,.map es) ψ;have J:=A x (by simp[L,Op.operands]);rw[hx]at J;obtain⟨b,hb,hv⟩:=J.mp_inv;have I:=A y (by simp[L,Op.operands]);rw[hy]at I;obtain⟨N,k,V,a8⟩:=I.agg_inv;have R:N.toList=f:=Te hu (by simpa using V) (λi c u g1 g2=>a8 i c u g1 (by simpa using g2));have k:a.eval y = .agg f.toArray:=by rw[k,<-R]
 have X:CC σ (.agg g) (.agg f.toArray):=by
  have s:∀(g:List AV) (f:List Value),Jv g=some f->g=f.map .val:=by
   intro g;induction g with
   | nil=>intro f h;simp only[Jv]at h;cases h;rfl
   | cons c g ih=>intro f h;cases c with| val v=>simp only[Jv,Option.map_eq_some_iff]at h;obtain⟨aa,h1,rfl⟩:=h;rw[ih _ h1];rfl| _=>simp[Jv]at h
  have e:=s g f hu;subst e;refine .agg _ _ ψ λi c v g1 g2=>?_;simp only[getElem?_map]at g1;have g2:f[i]? = some v:=(by simpa using g2);rw[g2]at g1;simp at g1;subst g1;exact .val v
 have a6:=(A z (by simp[L,Op.operands])).cc_free1 hz;have B:=st.obj h;unfold Cr at B;rw[hh]at B;obtain⟨b',M,q,e1,_,_,h3,E⟩:=B;rw[hb]at e1;cases e1;obtain⟨_,u,_,_,k2,_,_,_,_,k7⟩:=En (hT t i ht);rw[hd]at k7;subst k7;obtain⟨⟨fs,Z⟩,a7⟩:=hc;have a1:∀l,(Instr.findKey G (.agg f.toArray) l).run P w=(Instr.findAsking G (.agg f.toArray) l).run P w:=λl=>run_findKey_eq w (by rw[Z]) _ l;rcases hr.sound M.toList (by simpa using E.1) (λj p e g1 g2=>E.2 j p e g1 (by simpa using g2)) w with⟨_,hf⟩|⟨j,v,e,he,_⟩
 .have hM:Tb σ (es++[(.agg g,ρ z)]) (M.push {key:=.agg f.toArray,val:=a.eval z,born:=q}):=by
   refine⟨by simp[E.1],λi' p e m1 m2=>?_⟩;rcases Nat.lt_or_ge i' es.length with D|hge
   .rw[getElem?_append_left D]at m1;rw[Array.getElem?_push_lt (by rw[E.1];exact D)]at m2;exact E.2 i' p e m1 (by rw[Array.getElem?_eq_getElem (by rw[E.1];exact D)];exact m2)
   .rw[getElem?_append_right hge]at m1;have Y:i'=es.length:=(by have:=(G1.1 m1).1;simp at this;omega);subst Y;simp at m1;subst m1;rw[<-E.1]at m2;simp at m2;subst m2;exact⟨X,a6⟩
  obtain⟨s',le⟩:=st.setMap h es _ hh b hb _ (q+1) hM;refine Ac1 ?_ (U σ ι undef _ le s' (.of_val _));simp[execOp,L,hv,k,Instr.mapUpdate,run_underlying k2,Go.MapKept.run_getObj_map h3,a7,a1,hf,Go.MapKept.run_setObj_map _ h3,Result.andThen]
 .cases he
end
def ev (e:Bx):Operand->AV
 | .tmp t=>e t
 | .const v=>.val v
 | .global g=>.val (.pointer (some ⟨g,0,none⟩))
 | .func f=>.fn f []
def put (e:Bx) (d:Option Nat) (v:AV):Bx := match d with
 | none=>e
 | some n=>Ay e n v
def Aix:Operand->Option Nat
 | .tmp t=>some t
 | _=>none
def Vy (ops:Array Oper) (o:Oper):Option Nat := match o.guard with
 | none=>none
 | some p=>(ops[p.1]?).bind (·.dst)
def Mc (ops:Array Oper) (o:Oper):List Nat:=o.op.operands.toList.filterMap Aix++(Vy ops o).toList
def Er (σ:A7) (ι:Ca) (H:Hp) (e:Bx) (a:Act):Prop:=∀s,s<a.tmps.size->Conc σ ι H (e s) (a.tmps.getD s undef)
section
variable {σ:A7} {ι:Ca} {H:Hp} {e:Bx} {a:Act}
theorem Er.eval (h:Er σ ι H e a) {x:Operand} (hx:∀t,Aix x=some t->t<a.tmps.size):Conc σ ι H (ev e x) (a.eval x):=by cases x with| tmp t=>exact h t (hx t rfl)| const v=>exact .of_val v| global g=>exact .of_val _| func f=>exact .fn f [] #[] rfl ψ
theorem Er.mono {b:A7} {c:Ca} {H':Hp} (h:Er σ ι H e a) (le:Le σ ι H b c H'):Er b c H' e a:=λs f=>(h s f).mono le
theorem Er.put (h:Er σ ι H e a) {d:Option Nat} {r:AV} {v:Value} (hv:Conc σ ι H r v):Er σ ι H (put e d r) (a.put d v):=by
 cases d with
 | none=>exact h
 | some n=>
  intro s b;simp only[Act.put,Array.size_setIfInBounds]at b;simp only[Ab.put,Act.put];by_cases c:s=n
  .subst c;rw[Ce];simpa[b] using hv
  .rw[Cq _ _ c];have:=h s b;simp only[Array.getD_eq_getD_getElem?]at this ⊢;rw[Array.getElem?_setIfInBounds_ne ω];exact this
end
variable {a b:Act} {ops:Array Oper} {o:Oper}
def Tf:Value->Option Bool
 | .bool b=>some b
 | _=>none
def Jw (ops:Array Oper) (o:Oper) (e:Bx) (on:Bool):Prop := match o.guard with
 | none=>on=true
 | some p=>∃s v,(ops[p.1]?).bind (·.dst)=some s/\e s = .val v/\on=(Tf v==some p.2)
theorem Aoh {e:Bx} {on:Bool} {σ:A7} {ι:Ca} {H:Hp} (hg:Jw ops o e on) (g:Er σ ι H e a) (f:∀s,Vy ops o=some s->s<a.tmps.size) : Region.wanted o (yielded ops a.tmps)=on:=by unfold Jw at hg;unfold Region.wanted;cases h:o.guard with| none=>rw[h]at hg;exact hg.symm| some p=>rw[h]at hg;obtain⟨s,b,h1,h2,h3⟩:=hg;have c:=f s (by unfold Vy;rw[h];exact h1);have hc:=g s c;rw[h2]at hc;have hv:=hc.val_inv;have:yielded ops a.tmps p.1=Tf b:=(by unfold yielded;rw[h1];simp only[Option.bind_some];have:a.tmps[s]? = some b:=(by rw[Array.getD_eq_getD_getElem?]at hv;simp[c]at hv ⊢;exact hv);rw[this];cases b <;> rfl);show (yielded ops a.tmps p.1==some p.2)=on;rw[this,h3]
abbrev Acc:=Nat->List Nat×List Nat
def Ra (P:Program) (ops:Array Oper) (acc:Acc) (i:Nat) (o:Oper) (e:Bx) (H:Hp) (r:AV) (c:List (Nat×Bq)):Prop := ops[i]? = some o /\ ((Jw ops o e true/\∃b,Ch P o (ev e) b/\(∀p∈b.rd,H p.1=p.2)/\(∀p∈b.rd,p.1∈(acc i).1)/\(∀p∈b.wr,p.1∈(acc i).2)/\r=b.r/\c=b.wr) \/ (Jw ops o e false/\r = .val undef/\c = []))
inductive Run (P:Program) (ops:Array Oper) (acc:Acc):List Nat->Bx->Hp->Bx->Hp->Prop where
 | nil (e:Bx) (H:Hp):Run P ops acc [] e H e H
 | cons {i:Nat} {l:List Nat} {e e':Bx} {H H':Hp} (o:Oper) (r:AV) (wr:List (Nat×Bq)) (hd:Ra P ops acc i o e H r wr)
   (rest:Run P ops acc l (put e o.dst r) (Ci H wr) e' H'):Run P ops acc (i::l) e H e' H'
def Fx (b:List Nat) (a c:Act):Prop:=∀s,s ∉ b->c.tmps.getD s undef=a.tmps.getD s undef
theorem Fx.refl (b:List Nat) (a:Act):Fx b a a:=λ_ _=>rfl
theorem Fx.trans {f:List Nat} {c:Act} (h:Fx f a b) (h':Fx f b c):Fx f a c:=λs g=>(h' s g).trans (h s g)
theorem Fx.mono {f c:List Nat} (h:Fx f a b) (i:∀s∈f,s∈c):Fx c a b:=λs g=>h s (λx=>g (i s x))
theorem Fx.put (a:Act) (d:Option Nat) (v:Value) (b:List Nat) (h:∀s,d=some s->s∈b):Fx b a (a.put d v):=by cases d with| none=>exact Fx.refl _ _| some n=>intro s c;have f:s≠n:=λe=>c (e ▸ h n rfl);simp only[Act.put,Array.getD_eq_getD_getElem?];rw[Array.getElem?_setIfInBounds_ne ω]
def Yo (ops:Array Oper):List Nat:=ops.toList.filterMap (·.dst)
theorem Fx.step {i:Nat} (c:ops[i]? = some o) (a:Act) (v:Value):Fx (Yo ops) a (a.put o.dst v):=by refine Fx.put a o.dst v _ (λs b=>?_);unfold Yo;rw[mem_filterMap];exact⟨o,by simpa using Array.mem_of_getElem? c,b⟩
def Adg (ops:Array Oper) (n:Nat):Prop:=∀(i:Nat) (o:Oper),ops[i]? = some o->∀s∈Mc ops o,s<n
section
variable {P:Program} {ops:Array Oper} {acc:Acc} {F:A7} {W:World} {Q:Exit->Act->World->Prop}
variable {r:AV} {e e':Bx} {H H':Hp} {l:List Nat} {i:Nat} {o:Oper} {d:Option Nat}
theorem Aoi (a:Act) (d:Option Nat) (v:Value):(a.put d v).tmps.size=a.tmps.size:=by cases d <;> simp[Act.put]
theorem Run.wpOp (h:Run P ops acc (i::l) e H e' H') {σ:A7} {ι:Ca} {a:Act} {w:World} (s:St σ ι H F W w) (q:Er σ ι H e a) (B:Adg ops a.tmps.size) {K:Act->World->Prop} (hk:∀(A:Bx) (y:Hp),Run P ops acc l A y e' H'->∀g j u w',Le σ ι H g j y->St g j y F W w'->Er g j y A u->u.tmps.size=a.tmps.size->u.defers=a.defers->Fx (Yo ops) a u->K u w') : wpOp P ops Q i K a w:=by
 have c:∀(d:Option Nat) (v:Value),(a.put d v).defers=a.defers:=by intro d v;cases d <;> rfl
 cases h with
 | cons o r wr hd rest=>
  obtain⟨k,hd⟩:=hd;unfold Go.wpOp;have f:=B i o k;rcases hd with⟨hg,D,b,z,_,_,rfl,rfl⟩|⟨hg,rfl,rfl⟩
  .have hw:=Aoh hg q (λs' h'=>f s' (by simp[Mc,h']));rw[k];simp only[hw,if_true];refine .inl (b σ ι H F W w a K Q s (λx hx=>q.eval (λt ht=>f t ?_)) z ?_)
   .simp only[Mc,mem_append,mem_filterMap];exact .inl ⟨x,hx,ht⟩
   .intro g j v w' le s' hc;exact hk _ _ rest g j _ w' le s' ((q.mono le).put hc) (Aoi _ _ _) (c _ _) (Fx.step k a v)
  .have hw:=Aoh hg q (λs' h'=>f s' (by simp[Mc,h']));rw[k];simp only[hw,Bool.false_eq_true,if_false];exact hk _ _ rest σ ι _ w (Le.refl _ _ _) s (q.put (.of_val undef)) (Aoi _ _ _) (c _ _) (Fx.step k a undef)
theorem Run.wpOps (h:Run P ops acc l e H e' H'):∀{σ:A7} {ι:Ca} {a:Act} {w:World},St σ ι H F W w->Er σ ι H e a->Adg ops a.tmps.size -> (∀j k g w',Le σ ι H j k H'->St j k H' F W w'->Er j k H' e' g->g.tmps.size=a.tmps.size->g.defers=a.defers->Fx (Yo ops) a g->Q .normal g w')->wpOps P ops Q l a w:=by induction l generalizing e H with| nil=>intro σ ι a w s B y hk;cases h;exact hk σ ι a w (Le.refl _ _ _) s B rfl rfl (Fx.refl _ _)| cons i l ih=>intro σ ι a w s B y hk;rw[wpOps_cons];refine h.wpOp s B y ?_;intro U V M N R a1 S u L A c D hu;refine ih M L A (by rw[c];exact y) ?_;intro E G a2 I q J z b f x;exact hk E G a2 I (u.trans q) J z (b.trans c) (f.trans D) (hu.trans x)
theorem Ch.congr {ρ f:Operand->AV} {b:Eff} (h:Ch P o ρ b) (i:∀x∈o.op.operands.toList,f x=ρ x):Ch P o f b := λσ ι H F W w a next Q s hx c hk=>h σ ι H F W w a next Q s (λx g=>by rw[<-i x g];exact hx x g) c hk
theorem Jw.congr {on:Bool} (h:Jw ops o e on) (c:∀s,Vy ops o=some s->e' s=e s):Jw ops o e' on:=by unfold Jw at *;cases hg:o.guard with| none=>rw[hg]at h;exact h| some p=>rw[hg]at h;obtain⟨s,b,h1,h2,h3⟩:=h;exact⟨s,b,h1,by rw[c s (by unfold Vy;rw[hg];exact h1)];exact h2,h3⟩
theorem A07 {x:Operand} (h:∀t,Aix x=some t->e' t=e t):ev e' x=ev e x:=by cases x with| tmp t=>exact h t rfl| _=>rfl
theorem Ra.congr {c:List (Nat×Bq)} (h:Ra P ops acc i o e H r c) (f:∀s∈Mc ops o,e' s=e s) (l:∀x∈(acc i).1,H' x=H x):Ra P ops acc i o e' H' r c:=by
 obtain⟨k,h⟩:=h;refine⟨k,?_⟩;have hg:∀s,Vy ops o=some s->e' s=e s:=λs j=>f s (by simp[Mc,j]);rcases h with⟨h1,b,h2,h3,g,y,u,q⟩|⟨h1,h2,h3⟩
 .refine .inl ⟨h1.congr hg,b,h2.congr (λx hx=>A07 λt ht=>f t ?_),λp hp=>?_,g,y,u,q⟩
  .simp only[Mc,mem_append,mem_filterMap];exact .inl ⟨x,hx,ht⟩
  .rw[l p.1 (g p hp)];exact h3 p hp
 .exact .inr ⟨h1.congr hg,h2,h3⟩
theorem Tg {H:Hp}:∀{b:List (Nat×Bq)} {x:Nat},(∀p∈b,p.1≠x)->Ci H b x=H x
 | [],_,_=>rfl
 | p::b,x,h=>by simp only[Ci];rw[Tg (λq hq=>h q (by simp[hq])),Cq _ _ (λe=>h p ψ e.symm)]
theorem Aoj {H:Hp} {h:Nat} {o:Bq}:∀{b:List (Nat×Bq)},(∀p∈b,p.1≠h)->Ci (Ay H h o) b=Ay (Ci H b) h o
 | [],_=>rfl
 | p::b,hp=>by simp only[Ci];rw[Anw _ _ _ (λe=>hp p ψ e),Aoj (λq hq=>hp q (by simp[hq]))]
theorem Aok {H:Hp}:∀{c b:List (Nat×Bq)},(∀p∈c,∀q∈b,p.1≠q.1)->Ci (Ci H c) b=Ci (Ci H b) c
 | [],_,_=>rfl
 | p::c,b,h=>by simp only[Ci];rw[Aok (λq hq f hq'=>h q (by simp[hq]) f hq'),Aoj (λq hq e=>h p ψ q hq e.symm)]
structure Ind (ops:Array Oper) (acc:Acc) (i j:Nat) (o o':Oper):Prop where
 d1:∀s,o.dst=some s->s ∉ Mc ops o'/\o'.dst≠some s
 d2:∀s,o'.dst=some s->s ∉ Mc ops o
 h1:∀x∈(acc i).2,x ∉ (acc j).1/\x ∉ (acc j).2
 h2:∀x∈(acc j).2,x ∉ (acc i).1
theorem Aol {s:Nat} (h:d≠some s):put e d r s=e s:=by cases d with| none=>rfl| some n=>exact Cq _ _ (λe=>h (by rw[e]))
theorem A08 {b:Option Nat} {c:AV} (h:∀s,d=some s->b≠some s):put (put e d r) b c=put (put e b c) d r:=by
 cases d with
 | none=>rfl
 | some n=>cases b with| none=>rfl| some m=>exact Anw _ _ _ (λe=>h n rfl (by rw[e]))
theorem Ra.wr {b:List (Nat×Bq)} (h:Ra P ops acc i o e H r b):∀p∈b,p.1∈(acc i).2:=by
 obtain⟨_,⟨_,g,_,_,_,f,_,c⟩|⟨_,_,h3⟩⟩:=h
 .subst c;exact f
 .subst h3;intro p hp;cases hp
theorem Run.swap {j:Nat} (h:Run P ops acc (i::j::l) e H e' H') (hi:∀o o',ops[i]? = some o->ops[j]? = some o'->Ind ops acc i j o o'):Run P ops acc (j::i::l) e H e' H':=by
 cases h with
 | cons o r wr hd rest=>cases rest with| cons o' g c b rest=>have ind:=hi o o' hd.1 b.1;have a1:Ra P ops acc j o' e H g c:=b.congr (λs f=>(Aol (λe=>(ind.d1 s e).1 f)).symm) (λx hx=>(Tg (λp hp e=>(ind.h1 p.1 (hd.wr p hp)).1 (e ▸ hx))).symm);have a2:Ra P ops acc i o (put e o'.dst g) (Ci H c) r wr:=hd.congr (λs f=>Aol (λe=>ind.d2 s e f)) (λx hx=>Tg (λp hp e=>ind.h2 p.1 (b.wr p hp) (e ▸ hx)));refine .cons o' g c a1 (.cons o r wr a2 ?_);rw[A08 (λs f e=>(ind.d1 s e).2 f),Aok (λp hp q hq e=>(ind.h1 q.1 (hd.wr q hq)).2 (e ▸ b.wr p hp))];exact rest
theorem Run.bubble:∀{b c:List Nat} {e e':Bx} {H H':Hp},Run P ops acc (b++i::c) e H e' H'->(∀j∈b,∀o o',ops[j]? = some o->ops[i]? = some o'->Ind ops acc j i o o')->Run P ops acc (i::(b++c)) e H e' H'
 | [],_,_,_,_,_,h,_=>h
 | j::b,c,e,e',H,H',h,hi=>by cases h with| cons o r wr hd rest=>exact Run.swap (.cons o r wr hd (rest.bubble (λk hk=>hi k (by simp[hk])))) (hi j ψ)
end
def Rb (ms:List Nat) (o:Oper):Nat:=o.after.toList.foldl (λa x=>bif Region.binds .any x then a ||| ((1 <<< x.on) ||| ms.getD x.on 0) else a) 0
def Ky:List Oper->List Nat->List Nat
 | [],ms=>ms
 | o::os,ms=>Ky os (ms++[Rb ms o])
def Yp (l m:List Nat):Bool:=l.all λx=>!m.contains x
def Aiy (ops:Array Oper) (a b:List Nat×List Nat) (o o':Oper):Bool := (match o.dst with
   | none=>true
   | some s=>!(Mc ops o').contains s && !(o'.dst==some s)) && (match o'.dst with
   | none=>true
   | some s=>!(Mc ops o).contains s) && Yp a.2 b.1&&Yp a.2 b.2&&Yp b.2 a.1
def Aiz (ops:List Oper) (acc:List (List Nat×List Nat)):Bool :=
 let M:=Ky ops []
 (ops.zipIdx.all λp=>p.1.after.toList.all λx=>!Region.binds .any x||Nat.blt x.on p.2) && ops.zipIdx.all λp=>ops.zipIdx.all λq=>!Nat.blt q.2 p.2||(M.getD p.2 0).testBit q.2||Aiy ops.toArray (acc.getD q.2 ([],[])) (acc.getD p.2 ([],[])) q.1 p.1
section
variable {P:Program} {F:A7} {W:World} {Q:Exit->Act->World->Prop}
variable {ops:Array Oper} {i:Nat}
theorem Aom:∀(os:List Oper) (ms:List Nat),(Ky os ms).take ms.length=ms/\(Ky os ms).length=ms.length+os.length /\ ∀(k:Nat) (o:Oper),os[k]? = some o->(Ky os ms).getD (ms.length+k) 0=Rb ((Ky os ms).take (ms.length+k)) o
 | [],ms=>⟨by simp[Ky],by simp[Ky],ψ⟩
 | o::os,ms=>by
  obtain⟨h1,h2,h3⟩:=Aom os (ms++[Rb ms o]);simp only[Ky];simp only[length_append,length_cons,length_nil]at h1 h2 h3;have b:(Ky os (ms++[Rb ms o])).take ms.length=ms:=(by have:=congrArg (take ms.length) h1;rw[take_take]at this;simpa using this);refine⟨b,by simp only[length_cons];omega,λk o' hk=>?_⟩;cases k with
  | zero=>simp at hk;subst hk;rw[Nat.add_zero,b];have hg:(Ky os (ms++[Rb ms o]))[ms.length]? = some (Rb ms o):=(by have c:((Ky os (ms++[Rb ms o])).take (ms.length+1))[ms.length]? = (Ky os (ms++[Rb ms o]))[ms.length]?:=Hz ω;rw[<-c,h1];simp);simp[getD,hg]
  | succ k=>have:=h3 k o' (by simpa using hk);rwa [show ms.length+1+k=ms.length+(k+1) by omega]at this
theorem Aon (ms:List Nat) (j:Nat):∀(l:List Edge) (a:Nat),(l.foldl (λa x=>bif Region.binds .any x then a ||| ((1 <<< x.on) ||| ms.getD x.on 0) else a) a).testBit j=true -> a.testBit j=true\/∃x∈l,Region.binds .any x=true/\(x.on=j\/(ms.getD x.on 0).testBit j=true)
 | [],a,h=>.inl h
 | x::l,a,h=>by
  simp only[foldl_cons]at h;rcases Aon ms j l _ h with h'|⟨y,hy,hb⟩
  .cases hb:Region.binds .any x with
   | false=>rw[hb]at h';exact .inl h'
   | true=>
    rw[hb]at h';simp only[cond_true,Nat.testBit_or,Bool.or_eq_true]at h';rcases h' with h'|h'|h'
    .exact .inl h'
    .refine .inr ⟨x,ψ,hb,.inl ?_⟩;rw[Nat.one_shiftLeft,Nat.testBit_two_pow]at h';simpa using h'
    .exact .inr ⟨x,ψ,hb,.inr h'⟩
  .exact .inr ⟨y,by simp[hy],hb⟩
theorem Ai0 {l m:List Nat} (h:Yp l m=true):∀x∈l,x ∉ m:=by intro x hx b;unfold Yp at h;rw[D8]at h;have:=h x hx;simp[b]at this
theorem A09 {acc:Acc} {j:Nat} {o o':Oper} (h:Aiy ops (acc i) (acc j) o o'=true):Ind ops acc i j o o':=by
 unfold Aiy at h;simp only[Fe]at h;obtain⟨⟨⟨⟨h1,h2⟩,h3⟩,f⟩,c⟩:=h;refine⟨λs b=>?_,λs b=>?_,λx hx=>⟨Ai0 h3 x hx,Ai0 f x hx⟩,Ai0 c⟩
 .rw[b]at h1;simpa using h1
 .rw[b]at h2;simpa using h2
def A1a (ops:Array Oper) (b:Array Bool):Prop := ∀(k:Nat) (o:Oper),ops[k]? = some o->b.getD k false=true->∀x∈o.after.toList,Region.binds .any x=true->b.getD x.on false=true
theorem Aoo {b:Array Bool} (h:i∈Region.ready .any ops b) : i<ops.size/\b.getD i true=false/\∀o,ops[i]? = some o->∀x∈o.after.toList,Region.binds .any x=true->b.getD x.on false=true:=by unfold Region.ready at h;rw[mem_filter]at h;obtain⟨h1,h2⟩:=h;simp only[Fe,Bool.not_eq_true']at h2;refine⟨by simpa using h1,h2.1,λo c x hx hb=>?_⟩;have h3:=h2.2;rw[c]at h3;simp only[Option.map_some,Option.getD_some]at h3;rw[<-Array.all_toList,D8]at h3;have:=h3 x hx;simpa[hb] using this
theorem Ai1 {ops:List Oper} {accs:List (List Nat×List Nat)} (N:Aiz ops accs=true) {e':Bx} {H':Hp}:∀(fuel:Nat) (b:Array Bool) (l:List Nat) (e:Bx) (H:Hp) (σ:A7) (ι:Ca) (a:Act) (w:World), Run P ops.toArray (λi=>accs.getD i ([],[])) l e H e' H'->l.Pairwise (· < ·)->(∀i,i∈l↔i<ops.length/\b.getD i true=false)->b.size=ops.length->A1a ops.toArray b->l.length=fuel -> St σ ι H F W w->Er σ ι H e a->Adg ops.toArray a.tmps.size -> (∀σ' ι' a' w',Le σ ι H σ' ι' H'->St σ' ι' H' F W w'->Er σ' ι' H' e' a'->a'.tmps.size=a.tmps.size->a'.defers=a.defers->Fx (Yo ops.toArray) a a'->Q .normal a' w') -> wpAny P .any ops.toArray Q fuel b a w
 | 0,b,l,e,H,σ,ι,a,w,hr,hp,J,a6,U,f,s,he,hs,hk=>by have D:l = []:=eq_nil_of_length_eq_zero f;subst D;cases hr;refine⟨?_,hk σ ι a w (Le.refl _ _ _) s he rfl rfl (Fx.refl _ _)⟩;apply eq_nil_iff_forall_not_mem.2;intro i hi;obtain⟨h1,h2,_⟩:=Aoo hi;have:=(J i).2 ⟨by simpa using h1,h2⟩;cases this
 | fuel+1,b,l,e,H,σ,ι,a,w,hr,hp,J,a6,U,f,s,he,hs,hk=>by
  unfold Aiz at N;have I:=N;simp only[Fe,D8]at I;obtain⟨S,M⟩:=I;have u:∀(i:Nat) (o:Oper),ops[i]? = some o->(o,i)∈ops.zipIdx:=(by intro i o h;rw[mem_iff_getElem?];exact⟨i,by simp[getElem?_zipIdx,h]⟩);have A:∀(i:Nat) (o:Oper),ops[i]? = some o->∀x∈o.after.toList,Region.binds .any x=true->x.on<i:=(by intro i o h x hx hb;have:=S (o,i) (u i o h) x hx;simp only[hb,Bool.not_true,Bool.false_or]at this;exact G2 this);refine⟨λaa=>?_,λi hi=>?_⟩
  .exfalso;cases l with
   | nil=>simp at f
   | cons i l=>
    have R:=(J i).1 ψ;have:i∈Region.ready .any ops.toArray b:=by
     unfold Region.ready;rw[mem_filter];refine⟨by simpa using R.1,?_⟩;simp only[Fe,Bool.not_eq_true'];refine⟨R.2,?_⟩;have ab:i<ops.length:=R.1;have ho:ops[i]? = some ops[i]:=getElem?_eq_getElem ab;have aq:ops.toArray[i]? = some ops[i]:=(by simp[ab]);rw[aq];simp only[Option.map_some,Option.getD_some];rw[<-Array.all_toList,D8];intro x hx;cases hb:Region.binds .any x with
     | false=>rfl
     | true=>
      simp only[Bool.not_true,Bool.false_or];have b6:=A i _ ho x hx hb;cases D:b.getD x.on true with
      | true=>have g:x.on<b.size:=ω;simp only[Array.getD_eq_getD_getElem?]at D ⊢;simpa[g] using D
      | false=>
       have hxm:=(J x.on).2 ⟨ω,D⟩;simp only[mem_cons]at hxm;rcases hxm with hxm|hxm
       .omega
       .have:=(pairwise_cons.1 hp).1 _ hxm;omega
    rw[aa]at this;cases this
  .obtain⟨b0,az,ae⟩:=Aoo hi;have q:i<ops.length:=(by simpa using b0);have ay:=(J i).2 ⟨q,az⟩;obtain⟨l1,l2,rfl⟩:=append_of_mem ay;have b7:ops[i]? = some ops[i]:=getElem?_eq_getElem q;have b5:ops.toArray[i]? = some ops[i]:=(by simp[q]);have z:∀(k:Nat) (o:Oper),ops[k]? = some o->(b.getD k false=true\/k=i)->∀j,((Ky ops []).getD k 0).testBit j=true->b.getD j false=true:=by
    intro k;induction k using Nat.strongRecOn with
    | _ k ih=>
     intro o hk hor j hj;have a7:=(Aom ops []).2.2 k o hk;simp only[length_nil,Nat.zero_add]at a7;rw[a7]at hj;rcases Aon _ j _ _ hj with h0|⟨x,hx,hb,a8⟩
     .simp at h0
     .have V:b.getD x.on false=true:=by
       rcases hor with hor|hor
       .exact U k o (by simpa using hk) hor x hx hb
       .subst hor;exact ae o (by simpa using hk) x hx hb
      rcases a8 with rfl|hj'
      .exact V
      .have X:=A k o hk x hx hb;have am:x.on<ops.length:=(by have:=(G1.1 hk).1;omega);have e1:((Ky ops []).take k).getD x.on 0=(Ky ops []).getD x.on 0:=(by simp only[getD_eq_getElem?_getD];rw[Hz X]);rw[e1]at hj';exact ih x.on X _ (getElem?_eq_getElem am) (.inl V) j hj'
   have ad:∀j∈l1,∀o o',ops.toArray[j]? = some o->ops.toArray[i]? = some o'->Ind ops.toArray (λi=>accs.getD i ([],[])) j i o o':=by
    intro j hj o o' ar ax;have av:j<i:=(by have:=(pairwise_append.1 hp).2.2 j hj i ψ;exact this);have au:=(J j).1 (by simp[hj]);have ac:ops[j]? = some o:=(by simpa using ar);have L:ops[i]? = some o':=(by simpa using ax);have:=M (o',i) (u i o' L) (o,j) (u j o ac);simp only[Bool.or_eq_true,Bool.not_eq_true']at this;rcases this with (h1|h1) | h1
    .have:Nat.blt j i=true:=(by unfold Nat.blt;exact Nat.ble_eq_true_of_le av);rw[this]at h1;cases h1
    .have h2:=z i o' L (.inr rfl) j h1;have g:j<b.size:=ω;have h3:=au.2;simp only[Array.getD_eq_getD_getElem?]at h2 h3;simp[g]at h2 h3;rw[h2]at h3;cases h3
    .exact A09 (acc:=λi=>accs.getD i ([],[])) h1
   have ai:=hr.bubble ad;refine ai.wpOp s he hs ?_;intro e1 H1 r1 σ1 ι1 a1 w1 ak s1 b4 E ag ap;have G:∀(k:Nat) (d:Bool),(b.setIfInBounds i true).getD k d=if k=i then true else b.getD k d:=by
    intro k d;simp only[Array.getD_eq_getD_getElem?];by_cases c:k=i
    .subst c;rw[if_pos rfl,Array.getElem?_setIfInBounds_self_of_lt ω];rfl
    .rw[if_neg c,Array.getElem?_setIfInBounds_ne ω]
   have B:∀k∈l1++l2,k≠i:=by
    intro k hk e;subst e;rw[pairwise_append]at hp;rcases mem_append.1 hk with hk|hk
    .have:=hp.2.2 k hk k ψ;omega
    .have:=(pairwise_cons.1 hp.2.1).1 k hk;omega
   refine Ai1 N fuel _ (l1++l2) e1 H1 σ1 ι1 a1 w1 r1 ?_ ?_ (by simpa using a6) ?_ (by simp at f ⊢;omega) s1 b4 (by rw[E];exact hs) ?_
   .rw[pairwise_append]at hp ⊢;exact⟨hp.1,(pairwise_cons.1 hp.2.1).2,λx hx y hy=>hp.2.2 x hx y (by simp[hy])⟩
   .intro k;rw[G];constructor
    .intro hk;have h1:=(J k).1 (by
      rcases mem_append.1 hk with hk|hk
      .simp[hk]
      .simp[hk])
     rw[if_neg (B k hk)];exact h1
    .rintro⟨h1,h2⟩;by_cases c:k=i
     .rw[if_pos c]at h2;cases h2
     .rw[if_neg c]at h2;have:=(J k).2 ⟨h1,h2⟩;simp only[mem_append,mem_cons]at this ⊢;rcases this with h|h|h
      .exact .inl h
      .exact (c h).elim
      .exact .inr h
   .intro k o hk D x hx ah;rw[G]at D ⊢;by_cases Y:x.on=i
    .rw[if_pos Y]
    .rw[if_neg Y];by_cases c:k=i
     .subst c;exact ae o hk x hx ah
     .rw[if_neg c]at D;exact U k o hk D x hx ah
   .intro σ2 ι2 a2 w2 aj s2 b3 Z af ao;exact hk σ2 ι2 a2 w2 (ak.trans aj) s2 b3 (Z.trans E) (af.trans ag) (ap.trans ao)
end
end Go.Ab
