/- A layer of abstract values over the model, and the conditions under which a function keeps its contract. -/
import Derived.Calls
import Derived.Orders
import Derived.Lib.ItoaNum
import Derived.Laws.CopyRow
import Derived.Laws.Cells
import Derived.Laws.Append
import Derived.Laws.IdiomStrings
import Derived.Lib.SliceRun
import Derived.Laws.FloatArith
import Derived.Laws.Cover2
import Derived.Laws.MakeOwn
import Derived.Lib.AppendStr
import Derived.MapKept
import Derived.WideKeyRuns
import Derived.Scope
open List
namespace Go.Ab
variable {i m n:Nat} {p:Prop} {α:Type _} {l:List α} {a:α}
abbrev OB:=Option Bool
theorem ζ (h:p:=by simp;omega):p:=h
theorem ω (h:p:=by omega):p:=h
theorem δ (h:p:=by decide):p:=h
theorem ψ (h:p:=by simp):p:=h
theorem Gx:l[i]? = some a↔∃h:i<l.length,l[i]=a:=List.getElem?_eq_some_iff
theorem Ej {p:α->Bool}:l.all p=true↔∀x,x∈l->p x=true:=all_eq_true
theorem Fw (h:l[i]? = some a):a∈l:=mem_of_getElem? h
theorem Ha {xs:Array α}:xs.toList[i]? = xs[i]?:=Array.getElem?_toList
theorem Gy (h:n.ble m=true):n<=m:=Nat.le_of_ble_eq_true h
theorem Gg (h:n.beq m=true):n=m:=Nat.eq_of_beq_eq_true h
theorem H8 {j:Nat} (h:i<j):(l.take j)[i]? = l[i]?:=getElem?_take_of_lt h
variable {m n:Nat} {α:Type}
theorem Fr (a b:Bool):((a&&b)=true)=(a=true/\b=true):=Bool.and_eq_true a b
theorem E2 (a b c:Nat):(a+b)*c=a*c+b*c:=Nat.add_mul a b c
inductive AV where
 | val (v:Value)
 | loc (h off:Nat)
 | arr (h k off len:Nat)
 | el (h k i j:Nat)
 | mp (h:Nat)
 | ref (cs:List AV)
 | sl (sz:Nat) (xs:List AV)
 | agg (cs:List AV)
 | tup (cs:List AV)
 | fn (f:FuncId) (caps:List AV)
 | fb (s:ByteArray)
 | vec (h n:Nat)
inductive Bn where
 | none
 | dead
 | cells (elem:TypeId) (cs:List AV)
 | rows (elem:TypeId) (sz:Nat) (xs:List AV)
 | map (es:List (AV×AV))
abbrev B5:=Nat->AV
abbrev Hp:=Nat->Bn
abbrev A5:=Nat->Option Obj
def Ba (e:Nat->α) (n:Nat) (v:α):Nat->α:=λm=>bif Nat.beq m n then v else e m
theorem Co (e:Nat->α) (n:Nat) (v:α):Ba e n v n=v:=by simp[Ba]
theorem Dh (e:Nat->α) (v:α) (h:m≠n):Ba e n v m=e m:=by
 have:Nat.beq m n=false:=by
  cases hb:Nat.beq m n
  .rfl
  .exact absurd (Gg hb) h
 simp[Ba,this]
theorem Am5 (e:Nat->α) (u v:α) (h:m≠n):Ba (Ba e n u) m v=Ba (Ba e m v) n u:=by
 funext k;by_cases h1:k=n
 .subst h1;rw[Dh _ _ (Ne.symm h),Co,Co]
 .by_cases h2:k=m
  .subst h2;rw[Co,Dh _ _ h1,Co]
  .rw[Dh _ _ h2,Dh _ _ h1,Dh _ _ h1,Dh _ _ h2]
def AV.cells:AV->List AV
 | .agg cs=>cs
 | .val (.agg vs)=>vs.toList.map .val
 | x=>[x]
def Fj:Value->Bool
 | .agg _ | .tuple _=>false
 | _=>true
def AV.one:AV->Bool
 | .agg _ | .tup _=>false
 | .val v=>Fj v
 | _=>true
inductive CC (σ:A5):AV->Value->Prop where
 | val (v:Value):CC σ (.val v) v
 | nil (sz:Nat) (a:Option Addr) (cap:Nat):CC σ (.sl sz []) (.slice a 0 cap)
 | sl (xs:List AV) (b off cap sz:Nat) (C:Array Value) (E:TypeId) (fr:Nat×Nat) (g:Nat->Nat->Value) (hσ:σ b=some (.cells C E fr))
   (hs:∀(i:Nat) (x:AV),xs[i]? = some x->x.cells.length=sz)
   (hc:∀(i:Nat) (x:AV) (j:Nat) (c:AV),xs[i]? = some x->x.cells[j]? = some c->CC σ c (g i j))
   (h1:∀(i:Nat) (x:AV) (j:Nat) (c:AV),xs[i]? = some x->x.cells[j]? = some c->Fj (g i j)=true)
   (hC:∀(i j:Nat),i<xs.length->j<sz->C[off+i*sz+j]? = some (g i j))
   (hl:xs.length<=140737488355328) (hcap:xs.length<=cap):CC σ (.sl sz xs) (.slice (some ⟨b,off,Option.none⟩) xs.length cap)
 | agg (cs:List AV) (vs:Array Value) (hl:vs.size=cs.length) (h:∀(i:Nat) (c:AV) (v:Value),cs[i]? = some c->vs[i]? = some v->CC σ c v):CC σ (.agg cs) (.agg vs)
 | fbn (s:ByteArray) (a:Option Addr) (cap:Nat) (h0:s.size=0):CC σ (.fb s) (.slice a 0 cap)
 | fb (s:ByteArray) (b cap:Nat) (C:Array Value) (hσ:σ b=some (.cells C 5 (0,s.size))) (h0:s.size≠0) (hcap:s.size<=cap) (hC:s.size<=C.size) (hl:s.size<=140737488355328)
   (hb:∀(j:Nat) (x:UInt8),s.data[j]? = some x->C[j]? = some (Value.int .u8 x.toNat)):CC σ (.fb s) (.slice (some ⟨b,0,Option.none⟩) s.size cap)
inductive Loc where
 | none
 | box (b:Nat)
 | nil
 | blk (b tot:Nat)
abbrev Cd:=Nat->Loc
def Loc.block?:Loc->Option Nat
 | .box b=>some b
 | .blk b _=>some b
 | _=>Option.none
def Hs (l:Loc) (sz off len:Nat) (v:Value):Prop := match l with
 | .nil=>v = .slice Option.none 0 0/\off=0/\len=0
 | .blk b c=>off+len<=c/\v = .slice (some ⟨b,off*sz,Option.none⟩) len (c-off)
 | _=>False
def Am6 (l:Loc) (sz i j:Nat) (v:Value):Prop := match l with
 | .blk b _=>v = .pointer (some ⟨b,i*sz+j,Option.none⟩)
 | _=>False
inductive Conc (σ:A5) (ι:Cd) (H:Hp):AV->Value->Prop where
 | cc {a:AV} {v:Value} (h:CC σ a v):Conc σ ι H a v
 | loc (h off b:Nat) (hb:ι h = .box b):Conc σ ι H (.loc h off) (.pointer (some ⟨b,off,Option.none⟩))
 | mp (h b:Nat) (hb:ι h = .box b):Conc σ ι H (.mp h) (.map (some b))
 | vec (h n b:Nat) (hb:ι h = .box b):Conc σ ι H (.vec h n) (.slice (some ⟨b,0,Option.none⟩) n n)
 | arr (h k off len:Nat) (v:Value) (hn:H h≠.none) (hv:∀E sz xs,H h = .rows E sz xs->k<=xs.length/\(xs.length=k->Hs (ι h) sz off len v))
   (hone:Fj v=true):Conc σ ι H (.arr h k off len) v
 | el (h k i j:Nat) (v:Value) (hn:H h≠.none) (hv:∀E sz xs,H h = .rows E sz xs->k<=xs.length/\(xs.length=k->Am6 (ι h) sz i j v))
   (hone:Fj v=true):Conc σ ι H (.el h k i j) v
 | ref (cs:List AV) (b off:Nat) (C:Array Value) (E:TypeId) (fr:Nat×Nat) (g:Nat->Value) (hσ:σ b=some (.cells C E fr))
   (hc:∀(j:Nat) (c:AV),cs[j]? = some c->CC σ c (g j)) (h1:∀(j:Nat) (c:AV),cs[j]? = some c->Fj (g j)=true)
   (hC:∀(j:Nat),j<cs.length->C[off+j]? = some (g j)):Conc σ ι H (.ref cs) (.pointer (some ⟨b,off,Option.none⟩))
 | agg (cs:List AV) (vs:Array Value) (hl:vs.size=cs.length) (h:∀(i:Nat) (c:AV) (v:Value),cs[i]? = some c->vs[i]? = some v->Conc σ ι H c v):Conc σ ι H (.agg cs) (.agg vs)
 | tup (cs:List AV) (vs:Array Value) (hl:vs.size=cs.length) (h:∀(i:Nat) (c:AV) (v:Value),cs[i]? = some c->vs[i]? = some v->Conc σ ι H c v):Conc σ ι H (.tup cs) (.tuple vs)
 | fn (f:FuncId) (caps:List AV) (vs:Array Value) (hl:vs.size=caps.length) (h:∀(i:Nat) (c:AV) (v:Value),caps[i]? = some c->vs[i]? = some v->Conc σ ι H c v) :
   Conc σ ι H (.fn f caps) (.func (.func f) #[] vs)
def A5.le (σ c:A5):Prop:=∀b o,σ b=some o->c b=some o
theorem A5.le_refl (σ:A5):σ.le σ:=λ_ _ h=>h
theorem A5.le_trans {σ f c:A5} (h:A5.le σ f) (h':A5.le f c):A5.le σ c:=λb o e=>h' b o (h b o e)
variable {σ:A5} {ι:Cd} {H H':Hp} {v:Value}
structure HLe (l:Loc) (o:Bn) (l':Loc) (o':Bn):Prop where
 box:∀b,l = .box b->l' = .box b
 some:o≠.none->o'≠.none
 rows:o≠.none->∀E' sz' xs',o' = .rows E' sz' xs'->∃E sz xs,o = .rows E sz xs/\(xs.length<xs'.length\/(xs.length=xs'.length/\sz=sz'/\l=l'))
theorem HLe.refl (l:Loc) (o:Bn):HLe l o l o := ⟨λ_ h=>h,λh=>h,λ_ E sz xs h=>⟨E,sz,xs,h,.inr ⟨rfl,rfl,rfl⟩⟩⟩
theorem HLe.trans {l y i:Loc} {o o' g:Bn} (h:HLe l o y o') (h':HLe y o' i g):HLe l o i g:=by
 refine⟨λb e=>h'.box b (h.box b e),λe=>h'.some (h.some e),λe u f c s=>?_⟩;obtain⟨G,k,j,e',x⟩:=h'.rows (h.some e) u f c s;obtain⟨E,sz,xs,D,r⟩:=h.rows e G k j e';refine⟨E,sz,xs,D,?_⟩;rcases r with r|⟨J,I,z⟩ <;> rcases x with x|⟨B,A,q⟩
 .left;omega
 .left;omega
 .left;omega
 .exact .inr ⟨ω,ω,z.trans q⟩
structure Le (σ:A5) (ι:Cd) (H:Hp) (σ':A5) (ι':Cd) (H':Hp):Prop where
 sto:σ.le σ'
 obj:∀h,HLe (ι h) (H h) (ι' h) (H' h)
theorem Le.refl (σ:A5) (ι:Cd) (H:Hp):Le σ ι H σ ι H:=⟨A5.le_refl σ,λ_=>HLe.refl _ _⟩
theorem Le.trans {g b:A5} {i c:Cd} {f:Hp} (h:Le σ ι H g i H') (h':Le g i H' b c f):Le σ ι H b c f := ⟨A5.le_trans h.sto h'.sto,λx=>(h.obj x).trans (h'.obj x)⟩
theorem CC.mono {l:A5} (q:σ.le l) {a:AV} (h:CC σ a v):CC l a v:=by induction h with| val v=>exact .val v| nil sz a cap=>exact .nil sz a cap| sl xs b off cap sz C E fr g i j _ h1 k f c ih=>exact .sl xs b off cap sz C E fr g (q _ _ i) j ih h1 k f c| agg cs vs f _ ih=>exact .agg cs vs f ih| fbn s a cap h0=>exact .fbn s a cap h0| fb s b cap C i h0 c k f hb=>exact .fb s b cap C (q _ _ i) h0 c k f hb
theorem Conc.mono {L:A5} {M:Cd} (q:Le σ ι H L M H') {a:AV} (h:Conc σ ι H a v):Conc L M H' a v:=by
 induction h with
 | cc h=>exact .cc (h.mono q.sto)
 | loc h off b hb=>exact .loc h off b ((q.obj h).box b hb)
 | mp h b hb=>exact .mp h b ((q.obj h).box b hb)
 | vec h n b hb=>exact .vec h n b ((q.obj h).box b hb)
 | arr h k off len v z x l=>
  refine .arr h k off len v ((q.obj h).some z) (λJ u s e=>?_) l;obtain⟨E,sz,xs,I,r⟩:=(q.obj h).rows z J u s e;obtain⟨hk,x⟩:=x E sz xs I;rcases r with r|⟨N,G,D⟩
  .exact⟨ω,λy=>ω⟩
  .rw[<-G,<-D];exact⟨ω,λy=>x ω⟩
 | el h k i j v z x l=>
  refine .el h k i j v ((q.obj h).some z) (λJ u s e=>?_) l;obtain⟨E,sz,xs,I,r⟩:=(q.obj h).rows z J u s e;obtain⟨hk,x⟩:=x E sz xs I;rcases r with r|⟨N,G,D⟩
  .exact⟨ω,λy=>ω⟩
  .rw[<-G,<-D];exact⟨ω,λy=>x ω⟩
 | ref cs b off C E fr g R hc h1 S=>exact .ref cs b off C E fr g (q.sto _ _ R) (λj c h=>(hc j c h).mono q.sto) h1 S
 | agg cs vs A _ ih=>exact .agg cs vs A ih
 | tup cs vs A _ ih=>exact .tup cs vs A ih
 | fn f B vs A _ ih=>exact .fn f B vs A ih
variable {F b σ:A5} {ι:Cd} {H:Hp} {W w:World}
def I8 (σ:A5) (sz:Nat) (xs:List AV) (C:Array Value):Prop := ∃g:Nat->Nat->Value,(∀(i:Nat) (x:AV),xs[i]? = some x->x.cells.length=sz) /\ (∀(i:Nat) (x:AV) (j:Nat) (c:AV),xs[i]? = some x->x.cells[j]? = some c->CC σ c (g i j)/\Fj (g i j)=true) /\ (∀(i j:Nat),i<xs.length->j<sz->C[i*sz+j]? = some (g i j))
def S3 (σ:A5) (es:List (AV×AV)) (M:Array MapEntry):Prop := M.size=es.length/\∀(i:Nat) (p:AV×AV) (e:MapEntry),es[i]? = some p->M[i]? = some e->CC σ p.1 e.key/\CC σ p.2 e.val
theorem S3.mono (c:σ.le b) {es:List (AV×AV)} {M:Array MapEntry} (h:S3 σ es M):S3 b es M := ⟨h.1,λi p e h1 h2=>⟨(h.2 i p e h1 h2).1.mono c,(h.2 i p e h1 h2).2.mono c⟩⟩
def C2 (σ:A5) (ι:Cd) (H:Hp) (F:A5) (w:World) (h:Nat):Prop := match H h with
 | .none=>ι h = .none
 | .dead=>True
 | .cells E cs=>∃(b:Nat) (C:Array Value),ι h = .box b/\σ b=none/\F b=none/\w.heap[b]? = some (.cells C E (0,0))/\C.size=cs.length /\ ∀(i:Nat) (c:AV) (v:Value),cs[i]? = some c->C[i]? = some v->Conc σ ι H c v
 | .rows E sz xs=>0<sz/\xs.length<=140737488355328/\((ι h = .nil/\xs = [])\/∃(b f:Nat) (C:Array Value),ι h = .blk b f/\σ b=none/\F b=none /\ w.heap[b]? = some (.cells C E (0,0))/\C.size=f*sz/\xs.length<=f/\I8 σ sz xs C)
 | .map es=>∃(b:Nat) (M:Array MapEntry) (t:Nat),ι h = .box b/\σ b=none/\F b=none/\w.heap[b]? = some (.map M t)/\S3 σ es M
def Bn.live:Bn->Bool
 | .none | .dead=>false
 | _=>true
def Vl (σ:A5):Prop:=∃(E:TypeId) (fr:Nat×Nat),σ 0=some (.cells (Lib.pow10Tab.map λz=>Value.int .u64 z).toArray E fr)
theorem Vl.mono (h:σ.le b) (g:Vl σ):Vl b:=by obtain⟨E,fr,e⟩:=g;exact⟨E,fr,h _ _ e⟩
structure St (σ:A5) (ι:Cd) (H:Hp) (F:A5) (W w:World):Prop where
 sto:∀b o,σ b=some o->w.heap[b]? = some o
 fra:∀b o,F b=some o->w.heap[b]? = some o/\σ b=none
 obj:∀h,C2 σ ι H F w h
 inj:∀h h' b,(H h).live=true->(H h').live=true->(ι h).block? = some b->(ι h').block? = some b->h=h'
 os:w.os=W.os
 tape:w.tape=W.tape
 output:w.output=W.output
 glo:Vl σ
 drw:W.drawn<=w.drawn
theorem I8.mono (f:σ.le b) {sz:Nat} {xs:List AV} {C:Array Value} (h:I8 σ sz xs C):I8 b sz xs C:=by obtain⟨g,h1,h2,h3⟩:=h;exact⟨g,h1,λi x j c hx hc=>⟨((h2 i x j c hx hc).1).mono f,(h2 i x j c hx hc).2⟩,h3⟩
theorem St.block (s:St σ ι H F W w) {h b:Nat} (g:(H h).live=true) (hb:(ι h).block? = some b) : b<w.heap.size/\σ b=none/\F b=none:=by
 have c:=s.obj h;unfold C2 at c;cases f:H h with
 | none=>rw[f]at g;cases g
 | dead=>rw[f]at g;cases g
 | cells E cs=>rw[f]at c;obtain⟨i,C,e,h1,h2,h3,_⟩:=c;rw[e]at hb;simp[Loc.block?]at hb;subst hb;refine⟨?_,h1,h2⟩;exact (Array.getElem?_eq_some_iff.1 h3).1
 | rows E sz xs=>
  rw[f]at c;obtain⟨_,_,⟨e,_⟩|⟨i,j,C,e,h1,h2,h3,_⟩⟩:=c
  .rw[e]at hb;simp[Loc.block?]at hb
  .rw[e]at hb;simp[Loc.block?]at hb;subst hb;exact⟨(Array.getElem?_eq_some_iff.1 h3).1,h1,h2⟩
 | map es=>rw[f]at c;obtain⟨i,M,t,e,h1,h2,h3,_⟩:=c;rw[e]at hb;simp[Loc.block?]at hb;subst hb;exact⟨(Array.getElem?_eq_some_iff.1 h3).1,h1,h2⟩
theorem St.touch {I:A5} {J:Cd} {H':Hp} {w':World} (s:St σ ι H F W w) (h t:Nat) (X:∀x,x≠h->J x=ι x) (Y:∀x,x≠h->H' x=H x) (le:Le σ ι H I J H') (f:∀b,b≠t->w'.heap[b]? = w.heap[b]?) (N:∀b,b≠t->I b=σ b) (a1:∀o,I t=some o->w'.heap[t]? = some o) (j:∀x,x≠h->(H x).live=true->(ι x).block?≠some t) (hF:F t=none) (A:∀b,(H' h).live=true->(J h).block? = some b->b=t\/((H h).live=true/\(ι h).block? = some b)) (S:C2 I J H' F w' h) (a6:w'.os=w.os) (D:w'.tape=w.tape) (R:w'.output=w.output) (hdrw:w.drawn<=w'.drawn:=by exact Nat.le_refl _):St I J H' F W w':=by
 refine⟨?_,?_,?_,?_,a6.trans s.os,D.trans s.tape,R.trans s.output,s.glo.mono le.sto,Nat.le_trans s.drw hdrw⟩
 .intro b o hb;by_cases e:b=t
  .subst e;exact a1 o hb
  .rw[f b e];exact s.sto b o (by rw[<-N b e];exact hb)
 .intro b o hb;have e:b≠t:=(by intro e;subst e;rw[hF]at hb;cases hb);rw[f b e,N b e];exact s.fra b o hb
 .intro x;by_cases e:x=h
  .subst e;exact S
  .have z:=s.obj x;unfold C2 at z ⊢;rw[Y x e,X x e];cases hx:H x with
   | none=>rw[hx]at z;exact z
   | dead=>trivial
   | cells E cs=>rw[hx]at z;obtain⟨b,C,u,h1,h2,h3,U,h5⟩:=z;have g:b≠t:=(by intro l;subst l;exact j x e (by rw[hx];rfl) (by rw[u];rfl));exact⟨b,C,u,by rw[N b g];exact h1,h2,by rw[f b g];exact h3,U,λi c v hc hv=>(h5 i c v hc hv).mono le⟩
   | rows E sz xs=>
    rw[hx]at z;obtain⟨z1,z2,⟨u,e2⟩|⟨b,Z,C,u,h1,h2,h3,U,h5,h6⟩⟩:=z
    .exact⟨z1,z2,.inl ⟨u,e2⟩⟩
    .have g:b≠t:=(by intro l;subst l;exact j x e (by rw[hx];rfl) (by rw[u];rfl));exact⟨z1,z2,.inr ⟨b,Z,C,u,by rw[N b g];exact h1,h2,by rw[f b g];exact h3,U,h5,h6.mono le.sto⟩⟩
   | map es=>rw[hx]at z;obtain⟨b,M,q,u,h1,h2,h3,U⟩:=z;have g:b≠t:=(by intro l;subst l;exact j x e (by rw[hx];rfl) (by rw[u];rfl));exact⟨b,M,q,u,by rw[N b g];exact h1,h2,by rw[f b g];exact h3,U.mono le.sto⟩
 .intro x y b L G V k;by_cases ex:x=h
  .subst ex;by_cases B:y=x
   .exact B.symm
   .rw[Y y B]at G;rw[X y B]at k;rcases A b L V with e|⟨l0,b0⟩
    .subst e;exact (j y B G k).elim
    .exact s.inj x y b l0 G b0 k
  .rw[Y x ex]at L;rw[X x ex]at V;by_cases B:y=h
   .subst B;rcases A b G k with e|⟨l0,b0⟩
    .subst e;exact (j x ex L V).elim
    .exact s.inj x y b L l0 V b0
   .rw[Y y B]at G;rw[X y B]at k;exact s.inj x y b L G V k
theorem HLe.of_none {b:Loc} {o':Bn}:HLe .none .none b o':=⟨nofun,(λh=>(h rfl).elim),(λh=>(h rfl).elim)⟩
theorem Le.upd (c:σ.le b) (h:Nat) (l:Loc) (o:Bn) (f:HLe (ι h) (H h) l o):Le σ ι H b (Ba ι h l) (Ba H h o):=by
 refine⟨c,λx=>?_⟩;by_cases e:x=h
 .subst e;rw[Co,Co];exact f
 .rw[Dh _ _ e,Dh _ _ e];exact HLe.refl _ _
theorem Je {α:Type} (e:Nat->α) (n:Nat):Ba e n (e n)=e:=by
 funext m;by_cases h:m=n
 .subst h;rw[Co]
 .rw[Dh _ _ h]
theorem St.newBox (s:St σ ι H F W w) (h:Nat) (u:H h = .none) (E:TypeId) (cs:List AV) (C:Array Value) (l:C.size=cs.length) (hc:∀(i:Nat) (c:AV) (v:Value),cs[i]? = some c->C[i]? = some v->Conc σ ι H c v) : St σ (Ba ι h (.box w.heap.size)) (Ba H h (.cells E cs)) F W (w.alloc (.cells C E))/\Le σ ι H σ (Ba ι h (.box w.heap.size)) (Ba H h (.cells E cs)):=by
 have k:ι h = .none:=by have:=s.obj h;unfold C2 at this;rw[u]at this;exact this
 have le:Le σ ι H σ (Ba ι h (.box w.heap.size)) (Ba H h (.cells E cs)):=Le.upd (A5.le_refl σ) h _ _ (by rw[k,u];exact HLe.of_none);have f:∀(S:A5),(∀b o,S b=some o->w.heap[b]? = some o)->S w.heap.size=none:=by intro S y;cases e:S w.heap.size with| none=>rfl| some o=>have:=y _ _ e;simp at this
 have g:=f σ s.sto;have j:=f F (λb o hb=>(s.fra b o hb).1);refine⟨s.touch h w.heap.size (λx e=>Dh _ _ e) (λx e=>Dh _ _ e) le ?_ (λ_ _=>rfl) (λo q=>by rw[g]at q;cases q) ?_ j ?_ ?_ rfl rfl rfl,le⟩
 .intro b hb;show (w.heap.push _)[b]? = _;rw[Array.getElem?_push,if_neg hb]
 .intro x e l hb;have:=(s.block l hb).1;omega
 .intro b _ hb;rw[Co]at hb;simp[Loc.block?]at hb;exact .inl hb.symm
 .unfold C2;rw[Co];refine⟨w.heap.size,C,Co _ _ _,g,j,?_,l,λi c v h1 h2=>(hc i c v h1 h2).mono le⟩;show (w.heap.push _)[w.heap.size]? = _;simp
theorem St.newFrozen (s:St σ ι H F W w) (o:Obj) : St (Ba σ w.heap.size (some o)) ι H F W (w.alloc o)/\Le σ ι H (Ba σ w.heap.size (some o)) ι H:=by
 have k:∀(S:A5),(∀b o,S b=some o->w.heap[b]? = some o)->S w.heap.size=none:=by intro S I;cases e:S w.heap.size with| none=>rfl| some o=>have:=I _ _ e;simp at this
 have z:=k σ s.sto;have A:=k F (λb o hb=>(s.fra b o hb).1);have j:σ.le (Ba σ w.heap.size (some o)):=by intro b o' hb;rw[Dh _ _ (by intro e;subst e;rw[z]at hb;cases hb)];exact hb
 have le:Le σ ι H (Ba σ w.heap.size (some o)) ι H:=⟨j,λ_=>HLe.refl _ _⟩;have f:∀b,b≠w.heap.size->(w.alloc o).heap[b]? = w.heap[b]?:=by intro b hb;show (w.heap.push _)[b]? = _;rw[Array.getElem?_push,if_neg hb]
 refine⟨⟨?_,?_,?_,s.inj,s.os,s.tape,s.output,s.glo.mono j,s.drw⟩,le⟩
 .intro b o' hb;by_cases e:b=w.heap.size
  .subst e;rw[Co]at hb;cases hb;show (w.heap.push _)[w.heap.size]? = _;simp
  .rw[Dh _ _ e]at hb;rw[f b e];exact s.sto b o' hb
 .intro b o' hb;have e:b≠w.heap.size:=(by intro e;subst e;rw[A]at hb;cases hb);rw[f b e,Dh _ _ e];exact s.fra b o' hb
 .intro x;have h:=s.obj x;unfold C2 at h ⊢;cases hx:H x with
  | none=>rw[hx]at h;exact h
  | dead=>trivial
  | cells E cs=>rw[hx]at h;obtain⟨b,C,l,h1,h2,h3,u,B⟩:=h;have g:b≠w.heap.size:=(by have:=(Array.getElem?_eq_some_iff.1 h3).1;omega);exact⟨b,C,l,by rw[Dh _ _ g];exact h1,h2,by rw[f b g];exact h3,u,λi c v hc G=>(B i c v hc G).mono le⟩
  | rows E sz xs=>
   rw[hx]at h;obtain⟨D,z2,⟨l,L⟩|⟨b,y,C,l,h1,h2,h3,u,B,J⟩⟩:=h
   .exact⟨D,z2,.inl ⟨l,L⟩⟩
   .have g:b≠w.heap.size:=(by have:=(Array.getElem?_eq_some_iff.1 h3).1;omega);exact⟨D,z2,.inr ⟨b,y,C,l,by rw[Dh _ _ g];exact h1,h2,by rw[f b g];exact h3,u,B,J.mono j⟩⟩
  | map es=>rw[hx]at h;obtain⟨b,M,q,l,h1,h2,h3,u⟩:=h;have g:b≠w.heap.size:=(by have:=(Array.getElem?_eq_some_iff.1 h3).1;omega);exact⟨b,M,q,l,by rw[Dh _ _ g];exact h1,h2,by rw[f b g];exact h3,u.mono j⟩
theorem St.drew (s:St σ ι H F W w) (n:Nat) (b:w.drawn<=n:=by first|exact Nat.le_succ _|exact Nat.le_refl _|omega):St σ ι H F W {w with drawn:=n}:=by refine⟨s.sto,s.fra,λh=>?_,s.inj,s.os,s.tape,s.output,s.glo,Nat.le_trans s.drw b⟩;have:=s.obj h;unfold C2 at this ⊢;exact this
theorem Aht (w:World) (g b:Nat) (C:Array Value) (h:b≠g):(w.setRow g C).heap[b]? = w.heap[b]?:=by simp only[World.setRow,Array.getElem?_modify];rw[if_neg ω]
theorem St.setBox (s:St σ ι H F W w) (h:Nat) (E:TypeId) (cs f:List AV) (j:H h = .cells E cs) (b:Nat) (hb:ι h = .box b) (g:Array Value) (l:g.size=f.length) (hc:∀(i:Nat) (c:AV) (v:Value),f[i]? = some c->g[i]? = some v->Conc σ ι H c v) : St σ ι (Ba H h (.cells E f)) F W (w.setRow b g)/\Le σ ι H σ ι (Ba H h (.cells E f)):=by
 have k:=s.obj h;unfold C2 at k;rw[j]at k;obtain⟨G,C,z,h1,h2,h3,B,A⟩:=k;rw[hb]at z;cases z;have le:Le σ ι H σ ι (Ba H h (.cells E f)):=by have:=Le.upd (ι:=ι) (H:=H) (A5.le_refl σ) h (ι h) (.cells E f) (by rw[j];exact⟨λ_ e=>e,(λ_ e=>by cases e),(λ_ _ _ _ e=>by cases e)⟩);rwa [Je]at this
 refine⟨s.touch h b (λ_ _=>rfl) (λx e=>Dh _ _ e) le (λx e=>Aht w b x g e) (λ_ _=>rfl) (λo e=>by rw[h1]at e;cases e) ?_ h2 ?_ ?_ rfl rfl rfl,le⟩
 .intro x e l q;exact e (s.inj x h b l (by rw[j];rfl) q (by rw[hb];rfl))
 .intro D _ u;exact .inr ⟨by rw[j];rfl,u⟩
 .unfold C2;rw[Co];exact⟨b,g,hb,h1,h2,setRow_heap w b C g E (0,0) h3,l,λi c v x y=>(hc i c v x y).mono le⟩
theorem St.setRows (s:St σ ι H F W w) (h:Nat) (E:TypeId) (sz:Nat) (xs c:List AV) (j:H h = .rows E sz xs) (b f:Nat) (hb:ι h = .blk b f) (l:c.length=xs.length) (g:Array Value) (G:g.size=f*sz) (D:I8 σ sz c g) : St σ ι (Ba H h (.rows E sz c)) F W (w.setRow b g)/\Le σ ι H σ ι (Ba H h (.rows E sz c)):=by
 have k:=s.obj h;unfold C2 at k;rw[j]at k;obtain⟨z,z2,⟨i,M⟩|⟨R,y,C,i,h1,h2,h3,L,J,I⟩⟩:=k
 .rw[hb]at i;cases i
 rw[hb]at i;cases i;have le:Le σ ι H σ ι (Ba H h (.rows E sz c)):=by have:=Le.upd (ι:=ι) (H:=H) (A5.le_refl σ) h (ι h) (.rows E sz c) (by rw[j];exact⟨λ_ e=>e,(λ_ e=>by cases e),λ_ S B A e=>by cases e;exact⟨E,sz,xs,rfl,.inr ⟨l.symm,rfl,rfl⟩⟩⟩);rwa [Je]at this
 refine⟨s.touch h b (λ_ _=>rfl) (λx e=>Dh _ _ e) le (λx e=>Aht w b x g e) (λ_ _=>rfl) (λo e=>by rw[h1]at e;cases e) ?_ h2 ?_ ?_ rfl rfl rfl,le⟩
 .intro x e l q;exact e (s.inj x h b l (by rw[j];rfl) q (by rw[hb];rfl))
 .intro N _ u;exact .inr ⟨by rw[j];rfl,u⟩
 .unfold C2;rw[Co];exact⟨z,ω,.inr ⟨b,f,g,hb,h1,h2,setRow_heap w b C g E (0,0) h3,G,ω,D⟩⟩
theorem St.growIn (s:St σ ι H F W w) (h:Nat) (E:TypeId) (sz:Nat) (xs c:List AV) (j:H h = .rows E sz xs) (b f:Nat) (hb:ι h = .blk b f) (l:xs.length<c.length) (G:c.length<=140737488355328) (ht:c.length<=f) (g:Array Value) (I:g.size=f*sz) (D:I8 σ sz c g) : St σ ι (Ba H h (.rows E sz c)) F W (w.setRow b g)/\Le σ ι H σ ι (Ba H h (.rows E sz c)):=by
 have k:=s.obj h;unfold C2 at k;rw[j]at k;obtain⟨z,z2,⟨i,N⟩|⟨S,y,C,i,h1,h2,h3,M,L,J⟩⟩:=k
 .rw[hb]at i;cases i
 rw[hb]at i;cases i;have le:Le σ ι H σ ι (Ba H h (.rows E sz c)):=by have:=Le.upd (ι:=ι) (H:=H) (A5.le_refl σ) h (ι h) (.rows E sz c) (by rw[j];exact⟨λ_ e=>e,(λ_ e=>by cases e),λ_ U B A e=>by cases e;exact⟨E,sz,xs,rfl,.inl l⟩⟩);rwa [Je]at this
 refine⟨s.touch h b (λ_ _=>rfl) (λx e=>Dh _ _ e) le (λx e=>Aht w b x g e) (λ_ _=>rfl) (λo e=>by rw[h1]at e;cases e) ?_ h2 ?_ ?_ rfl rfl rfl,le⟩
 .intro x e l q;exact e (s.inj x h b l (by rw[j];rfl) q (by rw[hb];rfl))
 .intro R _ u;exact .inr ⟨by rw[j];rfl,u⟩
 .unfold C2;rw[Co];exact⟨z,G,.inr ⟨b,f,g,hb,h1,h2,setRow_heap w b C g E (0,0) h3,I,ht,D⟩⟩
theorem St.fresh (s:St σ ι H F W w):σ w.heap.size=none/\F w.heap.size=none:=by
 have c:∀(S:A5),(∀b o,S b=some o->w.heap[b]? = some o)->S w.heap.size=none:=by intro S f;cases e:S w.heap.size with| none=>rfl| some o=>have:=f _ _ e;simp at this
 exact⟨c σ s.sto,c F (λb o hb=>(s.fra b o hb).1)⟩
theorem St.newRows (s:St σ ι H F W w) (h:Nat) (E:TypeId) (sz:Nat) (xs:List AV) (c:Nat) (C:Array Value) (M:H h = .none\/∃y g f,H h = .rows y g f/\f.length<xs.length) (G:0<sz) (J:xs.length<=140737488355328) (ht:xs.length<=c) (N:C.size=c*sz) (I:I8 σ sz xs C) : St σ (Ba ι h (.blk w.heap.size c)) (Ba H h (.rows E sz xs)) F W (w.alloc (.cells C E))/\Le σ ι H σ (Ba ι h (.blk w.heap.size c)) (Ba H h (.rows E sz xs)):=by
 obtain⟨i,k⟩:=s.fresh;have le:Le σ ι H σ (Ba ι h (.blk w.heap.size c)) (Ba H h (.rows E sz xs)):=by
  refine Le.upd (A5.le_refl σ) h _ _ ?_;rcases M with j|⟨y,g,f,j,q⟩
  .have l:ι h = .none:=(by have:=s.obj h;unfold C2 at this;rw[j]at this;exact this);rw[l,j];exact HLe.of_none
  .rw[j];refine⟨λb e=>?_,(λ_ e=>by cases e),λ_ S D B e=>by cases e;exact⟨y,g,f,rfl,.inl q⟩⟩;have:=s.obj h;unfold C2 at this;rw[j]at this;obtain⟨_,_,⟨u,_⟩|⟨R,z,C,u,_⟩⟩:=this <;> rw[e]at u <;> cases u
 refine⟨s.touch h w.heap.size (λx e=>Dh _ _ e) (λx e=>Dh _ _ e) le ?_ (λ_ _=>rfl) (λo A=>by rw[i]at A;cases A) ?_ k ?_ ?_ rfl rfl rfl,le⟩
 .intro b hb;show (w.heap.push _)[b]? = _;rw[Array.getElem?_push,if_neg hb]
 .intro x e L hb;have:=(s.block L hb).1;omega
 .intro b _ hb;rw[Co]at hb;simp[Loc.block?]at hb;exact .inl hb.symm
 .unfold C2;rw[Co];refine⟨G,J,.inr ⟨w.heap.size,c,C,Co _ _ _,i,k,?_,N,ht,I⟩⟩;show (w.heap.push _)[w.heap.size]? = _;simp
theorem St.newNil (s:St σ ι H F W w) (h:Nat) (j:H h = .none) (E:TypeId) (sz:Nat) (k:0<sz) : St σ (Ba ι h .nil) (Ba H h (.rows E sz [])) F W w/\Le σ ι H σ (Ba ι h .nil) (Ba H h (.rows E sz [])):=by
 obtain⟨c,g⟩:=s.fresh;have f:ι h = .none:=by have:=s.obj h;unfold C2 at this;rw[j]at this;exact this
 have le:Le σ ι H σ (Ba ι h .nil) (Ba H h (.rows E sz [])):=Le.upd (A5.le_refl σ) h _ _ (by rw[f,j];exact HLe.of_none);refine⟨s.touch h w.heap.size (λx e=>Dh _ _ e) (λx e=>Dh _ _ e) le (λ_ _=>rfl) (λ_ _=>rfl) (λo i=>by rw[c]at i;cases i) ?_ g ?_ ?_ rfl rfl rfl,le⟩
 .intro x e l hb;have:=(s.block l hb).1;omega
 .intro b _ hb;rw[Co]at hb;simp[Loc.block?]at hb
 .unfold C2;rw[Co];exact⟨k,ψ,.inl ⟨Co _ _ _,rfl⟩⟩
inductive TD where
 | int (k:IntKind)
 | bool
 | string
 | slice (e:TypeId)
 | struct (fs:List (Nat×Nat))
 | map (k e:TypeId)
 | float (k:FloatKind)
 | other
structure TI where
 d:TD
 size:Nat
 bytes:Nat
 zero:List Value
def TI.isAgg (i:TI):Bool := match i.d with
 | .struct _=>true
 | _=>false
def zok (u:TypeDesc) (z:Value):Bool := match u with
 | .struct _=>(match z with|.agg _=>true|_=>false)
 | _=>Fj z
def I9 (P:Program) (t:TypeId):Option TI := match P.info? t,P.underlying t with
 | some b,some u=> match b.zero with
  | none=>none
  | some z=> bif !(zok u z) then none else match u with
   | .int k=>some ⟨.int k,b.size,b.bytes,z.cells.toList⟩
   | .bool=>some ⟨.bool,b.size,b.bytes,z.cells.toList⟩
   | .string=>some ⟨.string,b.size,b.bytes,z.cells.toList⟩
   | .slice e=>some ⟨.slice e,b.size,b.bytes,z.cells.toList⟩
   | .map k e=>some ⟨.map k e,b.size,b.bytes,z.cells.toList⟩
   | .float k=>some ⟨.float k,b.size,b.bytes,z.cells.toList⟩
   | .struct fields=> if (fields.toList.all λf=>decide (0<P.cellsOf f.type)) then some ⟨.struct (fields.toList.map λf=>(f.offset,P.cellsOf f.type)),b.size,b.bytes,z.cells.toList⟩ else none
   | .array _ _=>none
   | _=>some ⟨.other,b.size,b.bytes,z.cells.toList⟩
 | _,_=>none
abbrev C9:=Nat->Option TI
def Da (P:Program) (T:C9):Prop:=∀t i,T t=some i->I9 P t=some i
structure Eff where
 r:AV
 rd:List (Nat×Bn)
 wr:List (Nat×Bn)
def Cq (H:Hp):List (Nat×Bn)->Hp
 | []=>H
 | p::l=>Cq (Ba H p.1 p.2) l
def Nu (cs:List AV) (off:Nat) (new:List AV):List AV:=cs.take off++(new++cs.drop (off+new.length))
def Vm (fs:List (Nat×Nat)):List AV->List (Nat×AV)->Option (List AV)
 | cs,[]=>some cs
 | cs,p::rest=> match fs[p.1]? with
  | none=>none
  | some q=>bif Nat.beq p.2.cells.length q.2&&Nat.ble (q.1+q.2) cs.length then Vm fs (Nu cs q.1 p.2.cells) rest else none
def AV.cl1:AV->Bool
 | .val v=>Fj v
 | .sl _ _=>true
 | _=>false
def Md (sz:Nat) (x:AV):Bool:=Nat.beq x.cells.length sz&&x.cells.all AV.cl1
def AV.isPtr:AV->Bool
 | .loc .. | .ref _ | .fn ..=>true
 | _=>false
def AV.free1:AV->Bool
 | .agg cs=>cs.all AV.cl1
 | x=>x.cl1
def AV.free:AV->Bool
 | .val _ | .sl _ _ | .ref _=>true
 | .agg cs=>cs.all AV.cl1
 | .tup cs=>cs.all AV.free1
 | .fn _ cs=>cs.all AV.cl1
 | _=>false
def Ahu (op:BinOp) (a b:Int):Option Bool := match op with
 | .eql=>some (a==b)
 | .neq=>some (a != b)
 | .lss=>some (decide (a<b))
 | .leq=>some (decide (a<=b))
 | .gtr=>some (decide (a>b))
 | .geq=>some (decide (a>=b))
 | _=>none
section conc
variable {σ:A5} {ι:Cd} {H:Hp}
variable {x:AV} {v:Value}
theorem Conc.val_inv {u:Value} (h:Conc σ ι H (.val u) v):v=u:=by cases h with| cc h=>cases h;rfl
theorem Conc.of_val (v:Value):Conc σ ι H (.val v) v:=.cc (.val v)
theorem Conc.sl_inv {sz:Nat} {xs:List AV} (h:Conc σ ι H (.sl sz xs) v):CC σ (.sl sz xs) v:=by cases h with| cc h=>exact h
theorem Conc.agg_inv {cs:List AV} (h:Conc σ ι H (.agg cs) v) : ∃vs:Array Value,v = .agg vs/\vs.size=cs.length/\∀(i:Nat) (c:AV) (u:Value),cs[i]? = some c->vs[i]? = some u->Conc σ ι H c u:=by
 cases h with
 | cc h=>cases h with
  | agg cs vs b h=>exact⟨vs,rfl,b,λi c u h1 h2=>.cc (h i c u h1 h2)⟩
 | agg cs vs b h=>exact⟨vs,rfl,b,h⟩
theorem Conc.tup_inv {cs:List AV} (h:Conc σ ι H (.tup cs) v) : ∃vs:Array Value,v = .tuple vs/\vs.size=cs.length/\∀(i:Nat) (c:AV) (u:Value),cs[i]? = some c->vs[i]? = some u->Conc σ ι H c u:=by cases h with| cc h=>cases h| tup cs vs b h=>exact⟨vs,rfl,b,h⟩
theorem Conc.loc_inv {x off:Nat} (h:Conc σ ι H (.loc x off) v):∃b,ι x = .box b/\v = .pointer (some ⟨b,off,none⟩):=by cases h with| cc h=>cases h| loc _ _ b hb=>exact⟨b,hb,rfl⟩
theorem Conc.vec_inv {x n:Nat} (h:Conc σ ι H (.vec x n) v):∃b,ι x = .box b/\v = .slice (some ⟨b,0,none⟩) n n:=by cases h with| cc h=>cases h| vec _ _ b hb=>exact⟨b,hb,rfl⟩
theorem Conc.one_of (hx:x.one=true) (h:Conc σ ι H x v):Fj v=true:=by
 cases h with
 | cc h=>cases h with
  | val v=>exact hx
  | nil=>rfl
  | sl=>rfl
  | fbn=>rfl
  | fb=>rfl
  | agg=>cases hx
 | loc=>rfl
 | mp=>rfl
 | vec=>rfl
 | arr _ _ _ _ _ _ _ h=>exact h
 | el _ _ _ _ _ _ _ h=>exact h
 | ref=>rfl
 | agg=>cases hx
 | tup=>cases hx
 | fn=>rfl
theorem Ahv {α:Type} {x y:α} {i:Nat} (h:[x][i]? = some y):i=0/\y=x:=by cases i with| zero=>simp at h;exact⟨rfl,h.symm⟩| succ n=>simp at h
theorem Conc.cells (h:Conc σ ι H x v) : v.cells.size=x.cells.length/\∀(i:Nat) (c:AV) (u:Value),x.cells[i]? = some c->v.cells[i]? = some u->Conc σ ι H c u:=by
 have single:∀(x:AV) (v:Value),Conc σ ι H x v->x.cells = [x]->v.cells = #[v] ->
   v.cells.size=x.cells.length/\∀(i:Nat) (c:AV) (u:Value),x.cells[i]? = some c->v.cells[i]? = some u->Conc σ ι H c u:=by intro x v h L J;rw[L,J];refine⟨rfl,λi c u h1 h2=>?_⟩;obtain⟨rfl,rfl⟩:=Ahv h1;simp at h2;subst h2;exact h
 cases h with
 | cc hc=>
  cases hc with
  | val v=>cases v with| agg vs=>refine⟨by simp[Value.cells,AV.cells],λi c u h1 h2=>?_⟩;simp only[AV.cells,Value.cells,getElem?_map]at h1 h2;rw[Ha,h2]at h1;simp at h1;subst h1;exact .of_val u| _=>exact single _ _ (.of_val _) rfl rfl
  | nil sz a cap=>exact single _ _ (.cc (.nil sz a cap)) rfl rfl
  | sl xs b off cap sz C E fr g z I hc h1 A q y=>exact single _ _ (.cc (.sl xs b off cap sz C E fr g z I hc h1 A q y)) rfl rfl
  | agg cs vs q h=>exact⟨q,λi c u h1 h2=>.cc (h i c u h1 h2)⟩
  | fbn s a cap h0=>exact single _ _ (.cc (.fbn s a cap h0)) rfl rfl
  | fb s b cap C z h0 y A q hb=>exact single _ _ (.cc (.fb s b cap C z h0 y A q hb)) rfl rfl
 | loc x off b hb=>exact single _ _ (.loc x off b hb) rfl rfl
 | mp x b hb=>exact single _ _ (.mp x b hb) rfl rfl
 | vec x n b hb=>exact single _ _ (.vec x n b hb) rfl rfl
 | arr x k off len v G D l=>exact single _ _ (.arr x k off len v G D l) rfl (by cases v <;> first|rfl|cases l)
 | el x k i j v G D l=>exact single _ _ (.el x k i j v G D l) rfl (by cases v <;> first|rfl|cases l)
 | ref cs b off C E fr g z hc h1 A=>exact single _ _ (.ref cs b off C E fr g z hc h1 A) rfl rfl
 | agg cs vs q h=>exact⟨q,h⟩
 | tup cs vs q h=>exact single _ _ (.tup cs vs q h) rfl rfl
 | fn f B vs q h=>exact single _ _ (.fn f B vs q h) rfl rfl
theorem Conc.cc_of (hx:x.cl1=true) (h:Conc σ ι H x v):CC σ x v/\Fj v=true:=by
 cases h with
 | cc h=>cases h with
  | val v=>exact⟨.val v,hx⟩
  | nil sz a cap=>exact⟨.nil sz a cap,rfl⟩
  | sl xs b off cap sz C E fr g f i hc h1 k j c=>exact⟨.sl xs b off cap sz C E fr g f i hc h1 k j c,rfl⟩
  | agg=>cases hx
  | fbn=>cases hx
  | fb=>cases hx
 | _=>cases hx
end conc
def Cl (P:Program) (o:Oper) (ρ:Operand->AV) (b:Eff):Prop := ∀(σ:A5) (ι:Cd) (H:Hp) (F:A5) (W w:World) (a:Act) (next:Act->World->Prop) (Q:Exit->Act->World->Prop), St σ ι H F W w->(∀x∈o.op.operands.toList,Conc σ ι H (ρ x) (a.eval x))->(∀p∈b.rd,H p.1=p.2) -> (∀c f v w',Le σ ι H c f (Cq H b.wr)->St c f (Cq H b.wr) F W w'->Conc c f (Cq H b.wr) b.r v->next (a.put o.dst v) w')->o.wp P a w next Q
section
variable {P:Program} {o:Oper} {ρ:Operand->AV} {a:Act} {w w':World} {next:Act->World->Prop} {Q:Exit->Act->World->Prop}
variable {p:Addr} {T:C9} {h off:Nat} {x:Operand} {i:TI} {E t:TypeId} {v:Value}
theorem F7 (h:(execOp a.eval o).run P w = .ok (.value v) w') (b:next (a.put o.dst v) w'):o.wp P a w next Q:=by unfold Oper.wp;rw[h];exact b
theorem Aci (h:(execOp a.eval o).run P w = .ok .skip w') (b:next (a.put o.dst undef) w'):o.wp P a w next Q:=by unfold Oper.wp;rw[h];exact b
theorem Fe {r:AV} (h:∀σ ι H a w,(∀x∈o.op.operands.toList,Conc σ ι H (ρ x) (Act.eval a x))->∃v,(execOp a.eval o).run P w = .ok (.value v) w/\Conc σ ι H r v) : Cl P o ρ ⟨r,[],[]⟩:=by
 intro σ ι H F W w a next Q s hx _ hk
 obtain⟨v,b,hc⟩:=h σ ι H a w hx;exact F7 b (hk σ ι v w (Le.refl _ _ _) s hc)
theorem Aw9 (b:o.op = .move x):Cl P o ρ ⟨ρ x,[],[]⟩ := Fe λσ ι H a w hx=>⟨a.eval x,by simp[execOp,b],hx x (by simp[b,Op.operands])⟩
theorem Vn (b:o.op = .assign x):Cl P o ρ ⟨ρ x,[],[]⟩ := Fe λσ ι H a w hx=>⟨a.eval x,by simp[execOp,b],hx x (by simp[b,Op.operands])⟩
theorem Axa {c y:Operand} {t:Bool} (b:o.op = .pick c x y) (hc:ρ c = .val (.bool t)):Cl P o ρ ⟨bif t then ρ x else ρ y,[],[]⟩ := Fe λσ ι H a w hx=>by have h1:=hx c (by simp[b,Op.operands]);rw[hc]at h1;have h1:=h1.val_inv;cases t with| true=>exact⟨a.eval x,by simp[execOp,b,h1,asBool],hx x (by simp[b,Op.operands])⟩| false=>exact⟨a.eval y,by simp[execOp,b,h1,asBool],hx y (by simp[b,Op.operands])⟩
theorem En (h:I9 P t=some i) : ∃b u z,P.info? t=some b/\P.underlying t=some u/\b.zero=some z/\b.size=i.size/\b.bytes=i.bytes/\i.zero=z.cells.toList /\ (match i.d with
       | .int k=>u = .int k
       | .bool=>u = .bool
       | .string=>u = .string
       | .slice e=>u = .slice e
       | .map k e=>u = .map k e
       | .float k=>u = .float k
       | .struct fs=>∃fields,u = .struct fields/\fs=fields.toList.map (λf=>(f.offset,P.cellsOf f.type))/\∀f∈fields.toList,0<P.cellsOf f.type
       | .other=>(∀fs,u≠.struct fs)/\(∀n e,u≠.array n e)):=by
  unfold I9 at h;split at h
  . rename_i b u hi hu;split at h
    . cases h
    . rename_i z j;refine⟨b,u,z,hi,hu,j,?_⟩;cases g:zok u z with
      | false=>rw[g]at h;cases h
      | true=>
      rw[g]at h;simp only[Bool.not_true,cond_false]at h;split at h;all_goals first
        | (cases h;done)
        | (cases h;refine⟨rfl,rfl,rfl,?_⟩;first|rfl|exact⟨(by intro fs e;simp_all),(by intro n e' e;simp_all)⟩)
        | skip
      . split at h
        . rename_i c;cases h;refine⟨rfl,rfl,rfl,_,rfl,rfl,?_⟩;intro f hf;simp only[Ej,decide_eq_true_eq]at c;exact c f hf
        . cases h
  . cases h
theorem Am7 (h:I9 P t=some i) (w:World) : ∃z,(zeroValue t).run P w = .ok z w/\z.cells.toList=i.zero/\(i.isAgg=true->∃vs,z = .agg vs)/\(i.isAgg=false->Fj z=true):=by
  obtain⟨j,u,z,h1,h2,h3,x,s,l,c⟩:=En h;refine⟨z,by simp[zeroValue,typeInfo,program,Sem.run,h1,h3],l.symm,?_⟩;have b:zok u z=true:=(by unfold I9 at h;rw[h1,h2]at h;simp only[h3]at h;cases g:zok u z with| false=>rw[g]at h;cases h| true=>rfl);unfold TI.isAgg;cases hd:i.d <;> rw[hd]at c <;> simp only[]at c ⊢;all_goals first
    | (subst c;exact⟨nofun,λ_=>b⟩)
    | (obtain⟨f,rfl,_⟩:=c
       refine⟨λ_=>?_,λh=>by cases h⟩
       unfold zok at b
       cases z <;> first|exact⟨_,rfl⟩|cases b)
    | (obtain⟨k,q⟩:=c
       refine⟨nofun,λ_=>?_⟩
       unfold zok at b
       cases u <;> first|exact b|exact (k _ rfl).elim)
theorem Acj (h:I9 P t=some i) (w:World):(isAgg t).run P w = .ok i.isAgg w:=by
 obtain⟨c,u,z,h1,h2,h3,q,l,k,b⟩:=En h;unfold isAgg TI.isAgg;rw[Sem.run_bind,run_underlying h2];cases hd:i.d <;> rw[hd]at b <;> simp only[Result.andThen_ok];all_goals first
  | (subst b;rfl)
  | (obtain⟨f,rfl,_⟩:=b;rfl)
  | (obtain⟨j,g⟩:=b;cases u <;> first|rfl|exact (j _ rfl).elim|exact (g _ _ rfl).elim)
theorem Nv (h:I9 P t=some i) (w:World):(sizeOf t).run P w = .ok i.size w:=by obtain⟨b,u,z,h1,h2,h3,c,j,g,f⟩:=En h;simp[sizeOf,typeInfo,program,Sem.run,h1,c]
theorem Am8 (h:I9 P t=some i) (w:World):∃z:Value,z.cells.toList=i.zero/\(zeroValue t).run P w = .ok z w:=by obtain⟨b,u,z,h1,h2,h3,j,g,c,f⟩:=En h;exact⟨z,c.symm,by simp[zeroValue,typeInfo,program,Sem.run,h1,h3]⟩
theorem Axb (q:Da P T) (h:Nat) (k:o.op = .alloc t) (ht:T t=some i) : Cl P o ρ ⟨.loc h 0,[(h,.none)],[(h,.cells t (i.zero.map .val))]⟩:=by
 intro σ ι H F W w a next Q s hx b hk
 have l:H h = .none:=b (h,.none) ψ;obtain⟨z,f,g⟩:=Am8 (q t i ht) w;obtain⟨s',le⟩:=s.newBox h l t (i.zero.map .val) z.cells (by simp[<-f]) (by intro j c v h1 h2;rw[<-f,getElem?_map,Ha,h2]at h1;simp at h1;subst h1;exact .of_val v);refine F7 (v:=.pointer (some ⟨w.heap.size,0,none⟩)) (w':=w.alloc (.cells z.cells t)) ?_ (hk σ _ _ _ le s' (.loc h 0 w.heap.size (Co _ _ _)));simp[execOp,k,Instr.alloc,g,newVar,newRow,newObj,Sem.run]
theorem Axc (h:Nat) (c:o.op = .box t x) : Cl P o ρ ⟨.loc h 0,[(h,.none)],[(h,.cells t (ρ x).cells)]⟩:=by
 intro σ ι H F W w a next Q s hx b hk
 have f:H h = .none:=b (h,.none) ψ;have hc:=(hx x (by simp[c,Op.operands])).cells;obtain⟨s',le⟩:=s.newBox h f t (ρ x).cells (a.eval x).cells hc.1 hc.2;refine F7 (v:=.pointer (some ⟨w.heap.size,0,none⟩)) (w':=w.alloc (.cells (a.eval x).cells t)) ?_ (hk σ _ _ _ le s' (.loc h 0 w.heap.size (Co _ _ _)));simp[execOp,c,Instr.box,newVar,newRow,newObj,Sem.run]
theorem Kp {b:Nat} {C:Array Value} {c:Nat×Nat} (h:w.heap[b]? = some (.cells C E c)):w.cell? ⟨b,off,none⟩=C[off]?:=by simp[World.cell?,h]
theorem K5 (b off n:Nat):(⟨b,off,none⟩:Addr).add n=⟨b,off+n,none⟩:=by unfold Addr.add;split <;> simp_all
theorem Ahw (f:o.op = .load t x) (hi:I9 P t=some i) (b:i.isAgg=false) (hp:a.eval x = .pointer (some p)) (c:w.cell? p=some v) : (execOp a.eval o).run P w = .ok (.value v) w:=by have h1:=Acj hi w;rw[b]at h1;simp[execOp,f,Instr.loadAt,hp,Instr.sureAddr,loadVar,h1,c]
theorem Ahx (f:o.op = .load t x) (hi:I9 P t=some i) (b:i.isAgg=true) (hp:a.eval x = .pointer (some p)) (cs:List Value) (g:cs.length=i.size) (c:∀(j:Nat) (v:Value),cs[j]? = some v->w.cell? (p.add j)=some v) : (execOp a.eval o).run P w = .ok (.value (.agg cs.toArray)) w:=by have h1:=Acj hi w;rw[b]at h1;have h2:=Nv hi w;have h3:=run_loadCells_list (P:=P) w p cs c;rw[g]at h3;simp[execOp,f,Instr.loadAt,hp,Instr.sureAddr,loadVar,h1,h2,h3]
theorem Conc.ref_inv {σ:A5} {ι:Cd} {H:Hp} {cs:List AV} (h:Conc σ ι H (.ref cs) v):∃(b off:Nat) (C:Array Value) (E:TypeId) (f:Nat×Nat) (g:Nat->Value), v = .pointer (some ⟨b,off,none⟩)/\σ b=some (.cells C E f)/\(∀(j:Nat) (c:AV),cs[j]? = some c->CC σ c (g j)/\Fj (g j)=true)/\(∀(j:Nat),j<cs.length->C[off+j]? = some (g j)):=by cases h with| cc h=>cases h| ref cs b off C E f g i hc h1 k=>exact⟨b,off,C,E,f,g,rfl,i,λj c h=>⟨hc j c h,h1 j c h⟩,k⟩
theorem Axd (y:Da P T) {c:AV} {cs:List AV} (l:o.op = .load t x) (ht:T t=some i) (k:i.isAgg=false) (hx:ρ x = .ref (c::cs)) : Cl P o ρ ⟨c,[],[]⟩:=by
 intro σ ι H F W w a next Q s j _ hk
 have h:=j x (by simp[l,Op.operands]);rw[hx]at h;obtain⟨b,off,C,E,fr,g,u,q,hc,z⟩:=h.ref_inv;have f:w.cell? ⟨b,off,none⟩=some (g 0):=by rw[Kp (s.sto _ _ q)];exact z 0 ψ
 exact F7 (Ahw l (y t i ht) k u f) (hk σ ι _ w (Le.refl _ _ _) s (.cc (hc 0 c ψ).1))
theorem Axe (A:Da P T) {cs:List AV} (q:o.op = .load t x) (ht:T t=some i) (l:i.isAgg=true) (hx:ρ x = .ref cs) (D:i.size<=cs.length) : Cl P o ρ ⟨.agg (cs.take i.size),[],[]⟩:=by
 intro σ ι H F W w a next Q s k _ hk
 have h:=k x (by simp[q,Op.operands]);rw[hx]at h;obtain⟨b,off,C,E,fr,g,z,y,hc,B⟩:=h.ref_inv;refine F7 (Ahx q (A t i ht) l z ((range i.size).map g) ψ ?_) (hk σ ι _ w (Le.refl _ _ _) s ?_)
 .intro j v hj;rw[getElem?_map]at hj;by_cases f:j<i.size
  .rw[getElem?_range f]at hj;simp at hj;subst hj;rw[K5,Kp (s.sto _ _ y)];exact B j ω
  .rw[getElem?_eq_none ζ]at hj;cases hj
 .refine .agg _ _ ζ (λj c u h1 h2=>?_);have f:j<i.size:=(by have:=(Gx.1 h1).1;simp at this;omega);rw[H8 f]at h1;simp[f]at h2;subst h2;exact .cc (hc j c h1).1
theorem Axf (B:Da P T) {cs:List AV} {c:AV} (u:o.op = .load t x) (ht:T t=some i) (q:i.isAgg=false) (hx:ρ x = .loc h off) (hc:cs[off]? = some c):Cl P o ρ ⟨c,[(h,.cells E cs)],[]⟩:=by
 intro σ ι H F W w a next Q s l k hk
 have A:H h = .cells E cs:=k (h,.cells E cs) ψ;have hp:=l x (by simp[u,Op.operands]);rw[hx]at hp;obtain⟨b,hb,z⟩:=hp.loc_inv;have f:=s.obj h;unfold C2 at f;rw[A]at f;obtain⟨I,C,y,_,_,h3,G,D⟩:=f;rw[hb]at y;cases y;have j:off<C.size:=by rw[G];exact (Gx.1 hc).1
 have g:w.cell? ⟨b,off,none⟩=some C[off]:=by rw[Kp h3];simp[j]
 exact F7 (Ahw u (B t i ht) q z g) (hk σ ι _ w (Le.refl _ _ _) s (D off c _ hc (by simp[j])))
theorem Axg (D:Da P T) {cs:List AV} (y:o.op = .load t x) (ht:T t=some i) (q:i.isAgg=true) (hx:ρ x = .loc h off) (I:off+i.size<=cs.length):Cl P o ρ ⟨.agg ((cs.drop off).take i.size),[(h,.cells E cs)],[]⟩:=by
 intro σ ι H F W w a next Q s l k hk
 have B:H h = .cells E cs:=k (h,.cells E cs) ψ;have hp:=l x (by simp[y,Op.operands]);rw[hx]at hp;obtain⟨b,hb,A⟩:=hp.loc_inv;have g:=s.obj h;unfold C2 at g;rw[B]at g;obtain⟨L,C,z,_,_,h3,J,G⟩:=g;rw[hb]at z;cases z;refine F7 (Ahx y (D t i ht) q A ((C.toList.drop off).take i.size) ζ ?_) (hk σ ι _ w (Le.refl _ _ _) s ?_)
 .intro j v hj;have f:j<i.size:=(by have:=(Gx.1 hj).1;simp at this;omega);rw[H8 f,getElem?_drop,Ha]at hj;rw[K5,Kp h3];exact hj
 .refine .agg _ _ ζ (λj c u h1 h2=>?_);have f:j<i.size:=(by have:=(Gx.1 h1).1;simp at this;omega);rw[H8 f,getElem?_drop]at h1;rw[getElem?_toArray,H8 f,getElem?_drop,Ha]at h2;exact G _ c u h1 h2
end
section
variable {P:Program} {o:Oper} {ρ:Operand->AV} {a:Act} {w w':World} {next:Act->World->Prop} {Q:Exit->Act->World->Prop}
variable {σ:A5} {T:C9} {ι:Cd} {H:Hp} {xs:List AV} {b h j k n off sz:Nat} {x y:Operand} {i:TI} {E t:TypeId} {v:Value}
theorem Conc.el_inv {i:Nat} (l:H h = .rows E sz xs) (hk:xs.length=k) (hc:Conc σ ι H (.el h k i j) v) : ∃b c,ι h = .blk b c/\v = .pointer (some ⟨b,i*sz+j,none⟩):=by
 cases hc with
 | cc h=>cases h
 | el _ _ _ _ _ q g f=>
  have:=(g E sz xs l).2 hk;unfold Am6 at this;split at this
  .rename_i b c e;exact⟨b,c,e,this⟩
  .exact this.elim
theorem Conc.arr_inv {len:Nat} (f:H h = .rows E sz xs) (hk:xs.length=k) (hc:Conc σ ι H (.arr h k off len) v) : Hs (ι h) sz off len v:=by cases hc with| cc h=>cases h| arr _ _ _ _ _ g c b=>exact (c E sz xs f).2 hk
theorem St.rowsAt {F:A5} {W w:World} (s:St σ ι H F W w) (j:H h = .rows E sz xs) {c:Nat} (hb:ι h = .blk b c) : ∃C,w.heap[b]? = some (.cells C E (0,0))/\C.size=c*sz/\xs.length<=c/\I8 σ sz xs C:=by
 have g:=s.obj h;unfold C2 at g;rw[j]at g;obtain⟨_,_,⟨f,_⟩|⟨u,i,C,f,h1,h2,h3,q,l,k⟩⟩:=g
 .rw[hb]at f;cases f
 .rw[hb]at f;cases f;exact⟨C,h3,q,l,k⟩
theorem Axh (N:Da P T) {y c:AV} (A:o.op = .load t x) (ht:T t=some i) (z:i.isAgg=false) (hx:ρ x = .el h k n j) (u:xs.length=k) (hy:xs[n]? = some y) (hc:y.cells[j]? = some c):Cl P o ρ ⟨c,[(h,.rows E sz xs)],[]⟩:=by
 intro σ ι H F W w a next Q s q l hk
 have B:H h = .rows E sz xs:=l (h,.rows E sz xs) ψ;have hp:=q x (by simp[A,Op.operands]);rw[hx]at hp;obtain⟨b,D,hb,L⟩:=hp.el_inv B u;obtain⟨C,h3,S,R,g,J,I,G⟩:=s.rowsAt B hb;have M:=(Gx.1 hy).1;have hj:=(Gx.1 hc).1;rw[J n y hy]at hj;have f:w.cell? ⟨b,n*sz+j,none⟩=some (g n j):=by rw[Kp h3];exact G n j M hj
 exact F7 (Ahw A (N t i ht) z L f) (hk σ ι _ w (Le.refl _ _ _) s (.cc (I n y j c hy hc).1))
theorem Axi (U:Da P T) {y:AV} (D:o.op = .load t x) (ht:T t=some i) (B:i.isAgg=true) (hx:ρ x = .el h k n j) (A:xs.length=k) (hy:xs[n]? = some y) (V:j+i.size<=y.cells.length):Cl P o ρ ⟨.agg ((y.cells.drop j).take i.size),[(h,.rows E sz xs)],[]⟩:=by
 intro σ ι H F W w a next Q s z l hk
 have G:H h = .rows E sz xs:=l (h,.rows E sz xs) ψ;have hp:=z x (by simp[D,Op.operands]);rw[hx]at hp;obtain⟨b,I,hb,N⟩:=hp.el_inv G A;obtain⟨C,h3,Y,X,g,M,L,J⟩:=s.rowsAt G hb;have S:=(Gx.1 hy).1;have R:=M n y hy;refine F7 (Ahx D (U t i ht) B N ((range i.size).map λq=>g n (j+q)) ψ ?_) (hk σ ι _ w (Le.refl _ _ _) s ?_)
 .intro q v hq;rw[getElem?_map]at hq;by_cases f:q<i.size
  .rw[getElem?_range f]at hq;simp at hq;subst hq;rw[K5,Kp h3,Nat.add_assoc];exact J n (j+q) S ω
  .rw[getElem?_eq_none ζ]at hq;cases hq
 .refine .agg _ _ ζ (λq c u h1 h2=>?_);have f:q<i.size:=(by have:=(Gx.1 h1).1;simp at this;omega);rw[H8 f,getElem?_drop]at h1;simp[f]at h2;subst h2;exact .cc (L n y (j+q) c hy h1).1
theorem Ahy (v:Value):v.oneCell'=Fj v:=by cases v <;> rfl
theorem Am9 (hi:I9 P t=some i) {C:Array Value} (hb:w.heap[b]? = some (.cells C E (0,0))) (c:v.cells.size=i.size) (f:off+v.cells.size<=C.size) (h1:∀u∈v.cells.toList,Fj u=true) : (Instr.storeAt t (.pointer (some ⟨b,off,none⟩)) v).run P w = .ok () (w.setRow b (C.toList.take off++v.cells.toList++C.toList.drop (off+v.cells.toList.length)).toArray):=by have h2:=Nv hi w;have h3:=run_storeCells_at (P:=P) b off E v.cells.toList 0 C w hb (by simpa using f) (λu hu=>by rw[Ahy];exact h1 u hu);simp only[Nat.add_zero]at h3;simp[Instr.storeAt,Instr.sureAddr,storeVar,h2,c,h3]
theorem Ahz (cs:List AV) (off:Nat) (new:List AV) (b:off+new.length<=cs.length) (i:Nat) : (Nu cs off new)[i]? = if i<off then cs[i]? else if i<off+new.length then new[i-off]? else cs[i]?:=by
 unfold Nu;by_cases h1:i<off
 .rw[if_pos h1,getElem?_append_left ζ,H8 h1]
 .rw[if_neg h1,getElem?_append_right ζ];have:(cs.take off).length=off:=ζ;rw[this];by_cases h2:i<off+new.length
  .rw[if_pos h2,getElem?_append_left ω]
  .rw[if_neg h2,getElem?_append_right ω,getElem?_drop];congr 1;omega
theorem Ah0 (cs:List AV) (off:Nat) (new:List AV) (b:off+new.length<=cs.length):(Nu cs off new).length=cs.length:=by unfold Nu;simp;omega
theorem Vo (C:Array Value) (off:Nat) (new:List Value) (c:off+new.length<=C.size) (i:Nat) : ((C.toList.take off++new++C.toList.drop (off+new.length)).toArray)[i]? = if i<off then C[i]? else if i<off+new.length then new[i-off]? else C[i]?:=by
 rw[getElem?_toArray,append_assoc];have b:off+new.length<=C.toList.length:=by simpa using c
 by_cases h1:i<off
 .rw[if_pos h1,getElem?_append_left (by simp at b ⊢;omega),H8 h1,Ha]
 .rw[if_neg h1,getElem?_append_right (by simp at b ⊢;omega)];have:(C.toList.take off).length=off:=(by simp at b ⊢;omega);rw[this];by_cases h2:i<off+new.length
  .rw[if_pos h2,getElem?_append_left ω]
  .rw[if_neg h2,getElem?_append_right ω,getElem?_drop,Ha];congr 1;omega
theorem Axj {x:AV} (hc:Conc σ ι H x v) (h1:x.cells.all AV.one=true):∀u∈v.cells.toList,Fj u=true:=by
 intro u hu;obtain⟨n,c⟩:=getElem?_of_mem hu;have f:=hc.cells;rw[Ha]at c;have b:n<x.cells.length:=by rw[<-f.1];exact (Array.getElem?_eq_some_iff.1 c).1
 have:=f.2 n x.cells[n] u (getElem?_eq_getElem b) c;exact this.one_of (Ej.1 h1 _ (getElem_mem b))
theorem Axk (I:Da P T) {cs:List AV} (z:o.op = .store t x y) (ht:T t=some i) (hx:ρ x = .loc h off) (J:(ρ y).cells.length=i.size) (L:off+i.size<=cs.length) (h1:(ρ y).cells.all AV.one=true) : Cl P o ρ ⟨.val undef,[(h,.cells E cs)],[(h,.cells E (Nu cs off (ρ y).cells))]⟩:=by
 intro σ ι H F W w a next Q s q u hk
 have A:H h = .cells E cs:=u (h,.cells E cs) ψ;have hp:=q x (by simp[z,Op.operands]);have hy:=q y (by simp[z,Op.operands]);rw[hx]at hp;obtain⟨b,hb,G⟩:=hp.loc_inv;have g:=s.obj h;unfold C2 at g;rw[A]at g;obtain⟨N,C,D,_,_,h3,M,B⟩:=g;rw[hb]at D;cases D;have k:=hy.cells;have l:=Am9 (P:=P) (w:=w) (I t i ht) (off:=off) (v:=a.eval y) h3 ω ω (Axj hy h1);obtain⟨s',le⟩:=s.setBox h E cs (Nu cs off (ρ y).cells) A b hb (C.toList.take off++(a.eval y).cells.toList++C.toList.drop (off+(a.eval y).cells.toList.length)).toArray (by rw[Ah0 _ _ _ ω];simp;omega) (by
   intro j c v hj f;rw[Ahz _ _ _ ω]at hj;rw[Vo _ _ _ ζ]at f;simp only[Array.length_toList,k.1]at f;by_cases g1:j<off
   .rw[if_pos g1]at hj f;exact B j c v hj f
   .rw[if_neg g1]at hj f;by_cases g2:j<off+(ρ y).cells.length
    .rw[if_pos g2]at hj f;rw[Ha]at f;exact k.2 _ c v hj f
    .rw[if_neg g2]at hj f;exact B j c v hj f);refine Aci (w':=_) ?_ (hk σ ι undef _ le s' (.of_val _));simp[execOp,z,G,l]
def Yj (x:AV) (j:Nat) (new:List AV):AV := match x with
 | .agg cs=>.agg (Nu cs j new)
 | _=>new.headD x
theorem Axl {x:AV} {new:List AV} (f:j+new.length<=x.cells.length) (i:new≠[]) (h1:∀c∈new,c.cl1=true) (g:∀vs,x≠.val (.agg vs)) : (Yj x j new).cells=Nu x.cells j new:=by
 unfold Yj;split
 .rfl
 .rename_i hx;have b:x.cells = [x]:=by
   cases x with
   | val v=>cases v <;> first|rfl|exact (g _ rfl).elim
   | agg cs=>exact (hx cs rfl).elim
   | _=>rfl
  rw[b]at f ⊢;cases new with
  | nil=>exact (i rfl).elim
  | cons c rest=>
   simp at f;have hj:j=0:=ω;have h:rest = []:=eq_nil_of_length_eq_zero ω;subst hj h;have hc:=h1 c ψ;cases c with
   | val v=>cases v <;> first|rfl|cases hc
   | sl _ _=>rfl
   | _=>cases hc
theorem Axm (hT:Da P T) {z:AV} (ho:o.op = .store t x y) (ht:T t=some i) (hx:ρ x = .el h k n j) (aa:xs.length=k) (X:xs[n]? = some z) (hs:(ρ y).cells.length=i.size) (ad:0<i.size) (hl:j+i.size<=z.cells.length) (h1:(ρ y).cells.all AV.cl1=true) (a1:∀vs,z≠.val (.agg vs)) : Cl P o ρ ⟨.val undef,[(h,.rows E sz xs)],[(h,.rows E sz (xs.set n (Yj z j (ρ y).cells)))]⟩:=by
 intro σ ι H F W w a next Q s R a7 hk
 have hh:H h = .rows E sz xs:=a7 (h,.rows E sz xs) ψ;have hp:=R x (by simp[ho,Op.operands]);have hy:=R y (by simp[ho,Op.operands]);rw[hx]at hp;obtain⟨b,L,hb,hv⟩:=hp.el_inv hh aa;obtain⟨C,h3,h4,h5,g,r1,Z,V⟩:=s.rowsAt hh hb;have hn:=(Gx.1 X).1;have a6:=r1 n z X;have J:=hy.cells;have a8:(ρ y).cells≠[]:=by intro e;rw[e]at hs;simp at hs;omega
 have N:=Axl (x:=z) (j:=j) (new:=(ρ y).cells) ω a8 (λc hc=>Ej.1 h1 c hc) a1;have ab:∀u∈(a.eval y).cells.toList,Fj u=true:=by intro u hu;obtain⟨q,hq⟩:=getElem?_of_mem hu;rw[Ha]at hq;have A:q<(ρ y).cells.length:=(by rw[<-J.1];exact (Array.getElem?_eq_some_iff.1 hq).1);exact ((J.2 q _ u (getElem?_eq_getElem A) hq).cc_of (Ej.1 h1 _ (getElem_mem A))).2
 have ac:n*sz+sz<=C.size:=by rw[h4];have:(n+1)*sz<=L*sz:=Nat.mul_le_mul_right sz ω;rw[E2]at this;omega
 have M:=Am9 (P:=P) (w:=w) (hT t i ht) (off:=n*sz+j) (v:=a.eval y) h3 ω ω ab;let I:Nat->Nat->Value:=λn' f=>if n'=n/\j<=f/\f<j+(ρ y).cells.length then ((a.eval y).cells[f-j]?).getD undef else g n' f
 obtain⟨s',le⟩:=s.setRows h E sz xs (xs.set n (Yj z j (ρ y).cells)) hh b L hb ψ (C.toList.take (n*sz+j)++(a.eval y).cells.toList++C.toList.drop (n*sz+j+(a.eval y).cells.toList.length)).toArray ζ (by
   refine⟨I,?_,?_,?_⟩
   .intro l Y D;by_cases e:l=n
    .subst e;rw[getElem?_set_self hn]at D;cases D;rw[N,Ah0 _ _ _ ω];exact a6
    .rw[getElem?_set_ne ω]at D;exact r1 l Y D
   .intro l Y f U D B;by_cases e:l=n
    .subst e;rw[getElem?_set_self hn]at D;cases D;rw[N,Ahz _ _ _ ω]at B;show CC σ U (I l f)/\Fj (I l f)=true;by_cases g1:f<j
     .rw[if_pos g1]at B;have:I l f=g l f:=if_neg ω;rw[this];exact Z l z f U X B
     .rw[if_neg g1]at B;by_cases g2:f<j+(ρ y).cells.length
      .rw[if_pos g2]at B;have A:f-j<(a.eval y).cells.size:=ω;have:I l f=(a.eval y).cells[f-j]:=(by show (if _ then _ else _)=_;rw[if_pos ⟨rfl,ω,g2⟩];simp[A]);rw[this];exact (J.2 (f-j) U _ B (by simp[A])).cc_of (Ej.1 h1 _ (Fw B))
      .rw[if_neg g2]at B;have:I l f=g l f:=if_neg ω;rw[this];exact Z l z f U X B
    .rw[getElem?_set_ne ω]at D;have:I l f=g l f:=if_neg ω;rw[this];exact Z l Y f U D B
   .intro l f G hj';simp at G;rw[Vo _ _ _ ζ];simp only[Array.length_toList,J.1];by_cases g0:l=n
    .subst g0;by_cases g1:f<j
     .rw[if_pos ω];have:I l f=g l f:=if_neg ω;rw[this];exact V l f G hj'
     .rw[if_neg ω];by_cases g2:f<j+(ρ y).cells.length
      .rw[if_pos ω,Ha];have A:f-j<(a.eval y).cells.size:=ω;have:I l f=(a.eval y).cells[f-j]:=(by show (if _ then _ else _)=_;rw[if_pos ⟨rfl,ω,g2⟩];simp[A]);rw[this,show l*sz+f-(l*sz+j)=f-j by omega];simp[A]
      .rw[if_neg ω];have:I l f=g l f:=if_neg ω;rw[this];exact V l f G hj'
    .have:I l f=g l f:=if_neg ω;rw[this];have S:l*sz+f<n*sz+j\/n*sz+j+(ρ y).cells.length<=l*sz+f:=by
      rcases Nat.lt_or_gt_of_ne g0 with A|hgt
      .left;have:(l+1)*sz<=n*sz:=Nat.mul_le_mul_right sz ω;rw[E2]at this;omega
      .right;have:(n+1)*sz<=l*sz:=Nat.mul_le_mul_right sz ω;rw[E2]at this;omega
     rcases S with A|hge
     .rw[if_pos A];exact V l f G hj'
     .rw[if_neg ω,if_neg ω];exact V l f G hj');refine Aci (w':=_) ?_ (hk σ ι undef _ le s' (.of_val _));simp[execOp,ho,hv,M]
end
section
variable {P:Program} {o:Oper} {ρ:Operand->AV} {a:Act} {w w':World} {next:Act->World->Prop} {Q:Exit->Act->World->Prop}
variable {σ:A5} {op:BinOp} {b:Bool} {T:C9} {m:Int} {g k:IntKind} {fs:List (Nat×Nat)} {xs:List AV} {h n off sz:Nat} {q:Nat×Nat} {x y:Operand} {p:Option Addr} {i j:TI} {E d e s t:TypeId} {v:Value}
theorem D6 {ι:Cd} {H:Hp} (h:ρ x = .val v) (hc:Conc σ ι H (ρ x) (a.eval x)):a.eval x=v:=by rw[h]at hc;exact hc.val_inv
theorem Axn (b:o.op = .nilCheck x) (hp:(ρ x).isPtr=true):Cl P o ρ ⟨ρ x,[],[]⟩ := Fe λσ ι H a w hx=>by have h:=hx x (by simp[b,Op.operands]);refine⟨a.eval x,?_,h⟩;have:(∃p,a.eval x = .pointer (some p))\/∃f vs,a.eval x = .func (.func f) #[] vs:=(by generalize ρ x=y at h hp;generalize a.eval x=v at h;cases h with| cc h=>cases h <;> cases hp| loc=>exact .inl ⟨_,rfl⟩| mp=>cases hp| vec=>cases hp| arr=>cases hp| el=>cases hp| ref=>exact .inl ⟨_,rfl⟩| agg=>cases hp| tup=>cases hp| fn=>exact .inr ⟨_,_,rfl⟩);rcases this with⟨p,hp⟩|⟨f,vs,hp⟩ <;> simp[execOp,b,hp]
theorem S4 {b:TypeId} {n:Int} (f:o.op = .binOp op t x y b) (hx:a.eval x = .int k m) (hy:a.eval y = .int k n) {r:Value} (c:(binOp op t (.int k m) (.int k n)).run P w = .ok r w):(execOp a.eval o).run P w = .ok (.value r) w:=by
 have he:(eqGuard op t x y (.int k m) (.int k n)).run P w = .ok () w:=by unfold eqGuard;cases op <;> simp
 simp only[execOp,f,hx,hy,Sem.run_bind,he,Result.andThen_ok,c,Sem.run_pure]
theorem Axo {f:TypeId} {n c:Int} (b:o.op = .binOp .add t x y f) (hx:ρ x = .val (.int k m)) (hy:ρ y = .val (.int k n)) (hc:k.wrap (m+n)=c) : Cl P o ρ ⟨.val (.int k c),[],[]⟩ := Fe λσ ι H a w h=>⟨_,S4 b (D6 hx (h x (by simp[b,Op.operands]))) (D6 hy (h y (by simp[b,Op.operands]))) (by simp[binOp,Op.intArith,hc]),.of_val _⟩
theorem Axp {f:TypeId} {n c:Int} (b:o.op = .binOp .sub t x y f) (hx:ρ x = .val (.int k m)) (hy:ρ y = .val (.int k n)) (hc:k.wrap (m-n)=c) : Cl P o ρ ⟨.val (.int k c),[],[]⟩ := Fe λσ ι H a w h=>⟨_,S4 b (D6 hx (h x (by simp[b,Op.operands]))) (D6 hy (h y (by simp[b,Op.operands]))) (by simp[binOp,Op.intArith,hc]),.of_val _⟩
theorem Axq {f:TypeId} {n c:Int} (b:o.op = .binOp .mul t x y f) (hx:ρ x = .val (.int k m)) (hy:ρ y = .val (.int k n)) (hc:k.wrap (m*n)=c) : Cl P o ρ ⟨.val (.int k c),[],[]⟩ := Fe λσ ι H a w h=>⟨_,S4 b (D6 hx (h x (by simp[b,Op.operands]))) (D6 hy (h y (by simp[b,Op.operands]))) (by simp[binOp,Op.intArith,hc]),.of_val _⟩
theorem Axr {f:TypeId} {n c:Int} (b:o.op = .binOp .quo t x y f) (hx:ρ x = .val (.int k m)) (hy:ρ y = .val (.int k n)) (g:n≠0) (hc:k.wrap (m.tdiv n)=c) : Cl P o ρ ⟨.val (.int k c),[],[]⟩ := Fe λσ ι H a w h=>⟨_,S4 b (D6 hx (h x (by simp[b,Op.operands]))) (D6 hy (h y (by simp[b,Op.operands]))) (by simp[binOp,Op.intDiv,g,hc]),.of_val _⟩
theorem Axs {f:TypeId} {n c:Int} (b:o.op = .binOp .rem t x y f) (hx:ρ x = .val (.int k m)) (hy:ρ y = .val (.int k n)) (g:n≠0) (hc:m.tmod n=c) : Cl P o ρ ⟨.val (.int k c),[],[]⟩ := Fe λσ ι H a w h=>⟨_,S4 b (D6 hx (h x (by simp[b,Op.operands]))) (D6 hy (h y (by simp[b,Op.operands]))) (by simp[binOp,Op.intDiv,g,hc]),.of_val _⟩
theorem Axt {f:TypeId} {n:Int} (c:o.op = .binOp op t x y f) (hx:ρ x = .val (.int k m)) (hy:ρ y = .val (.int k n)) (hc:Ahu op m n=some b) : Cl P o ρ ⟨.val (.bool b),[],[]⟩ := Fe λσ ι H a w h=>by refine⟨.bool b,S4 c (D6 hx (h x (by simp[c,Op.operands]))) (D6 hy (h y (by simp[c,Op.operands]))) ?_,.of_val _⟩;cases op <;> simp only[Ahu]at hc <;> first | (cases hc;done) | (cases hc;simp[binOp,Op.intCmp])
def Ah1 (op:BinOp) (k:IntKind) (m n:Int):Option Int := match op with
 | .and=>some (k.wrap (BitVec.ofInt k.bits m &&& BitVec.ofInt k.bits n).toNat)
 | .or=>some (k.wrap (BitVec.ofInt k.bits m ||| BitVec.ofInt k.bits n).toNat)
 | .xor=>some (k.wrap (BitVec.ofInt k.bits m ^^^ BitVec.ofInt k.bits n).toNat)
 | _=>none
theorem Axu {f:TypeId} {n c:Int} (b:o.op = .binOp op t x y f) (hx:ρ x = .val (.int k m)) (hy:ρ y = .val (.int k n)) (hc:Ah1 op k m n=some c) : Cl P o ρ ⟨.val (.int k c),[],[]⟩ := Fe λσ ι H a w h=>by refine⟨.int k c,S4 b (D6 hx (h x (by simp[b,Op.operands]))) (D6 hy (h y (by simp[b,Op.operands]))) ?_,.of_val _⟩;cases op <;> simp only[Ah1]at hc <;> first | (cases hc;done) | (cases hc;simp[binOp,Op.intBits])
theorem Axv {i:TypeId} {n c:Int} (b:o.op = .binOp .shr t x y i) (hx:ρ x = .val (.int k m)) (hy:ρ y = .val (.int g n)) (j:0<=n) (hc:m.fdiv (2 ^ (min n.toNat k.bits))=c) : Cl P o ρ ⟨.val (.int k c),[],[]⟩ := Fe λσ ι H a w h=>by refine⟨.int k c,?_,.of_val _⟩;have h1:=D6 hx (h x (by simp[b,Op.operands]));have h2:=D6 hy (h y (by simp[b,Op.operands]));have he:(eqGuard .shr t x y (.int k m) (.int g n)).run P w = .ok () w:=(by unfold eqGuard;simp);have f:¬n<0:=ω;simp only[execOp,b,h1,h2,Sem.run_bind,he,Result.andThen_ok,binOp,Op.shift,if_neg f,hc,Sem.run_pure]
theorem Axw {i:TypeId} {n c:Int} (b:o.op = .binOp .shl t x y i) (hx:ρ x = .val (.int k m)) (hy:ρ y = .val (.int g n)) (j:0<=n) (hc:k.wrap (m*2 ^ (min n.toNat k.bits))=c) : Cl P o ρ ⟨.val (.int k c),[],[]⟩ := Fe λσ ι H a w h=>by refine⟨.int k c,?_,.of_val _⟩;have h1:=D6 hx (h x (by simp[b,Op.operands]));have h2:=D6 hy (h y (by simp[b,Op.operands]));have he:(eqGuard .shl t x y (.int k m) (.int g n)).run P w = .ok () w:=(by unfold eqGuard;simp);have f:¬n<0:=ω;simp only[execOp,b,h1,h2,Sem.run_bind,he,Result.andThen_ok,binOp,Op.shift,if_neg f,hc,Sem.run_pure]
def Ah2 (op:BinOp) (m n:Bool):Option Bool := match op with
 | .eql=>some (m==n)
 | .neq=>some (m != n)
 | _=>none
theorem Axx (ht:P.underlying t=some .bool) (d:Nat) (m n:Bool) (w:World):(Op.equalIn (d+1) t (.bool m) (.bool n)).run P w = .ok (m==n) w:=by simp[Op.equalIn,run_underlying ht]
theorem Axy (ht:P.underlying t=some .bool) (m n:Bool) (w:World):(Op.equal t (.bool m) (.bool n)).run P w = .ok (m==n) w:=by exact Axx ht 9999 m n w
theorem Axz (l:Da P T) {j:TypeId} {m n:Bool} (c:o.op = .binOp op t x y j) (ht:T t=some i) (hd:i.d = .bool) (hx:ρ x = .val (.bool m)) (hy:ρ y = .val (.bool n)) (hc:Ah2 op m n=some b) : Cl P o ρ ⟨.val (.bool b),[],[]⟩ := Fe λσ ι H a w h=>by
  refine⟨.bool b,?_,.of_val _⟩;have h1:=D6 hx (h x (by simp[c,Op.operands]));have h2:=D6 hy (h y (by simp[c,Op.operands]));obtain⟨g,u,z,D,k,B,A,s,q,f⟩:=En (l t i ht);rw[hd]at f;subst f;have he:(eqGuard op t x y (.bool m) (.bool n)).run P w = .ok () w:=(by unfold eqGuard;cases op <;> simp);cases op <;> simp only[Ah2]at hc <;> first | (cases hc;done) | skip
  all_goals
   cases hc
   simp only[execOp,c,h1,h2,Sem.run_bind,he,Result.andThen_ok,binOp,Axy k,Sem.run_pure]
   try rfl
theorem Ax0 (s:Da P T) {l:TypeId} {c b g:Nat} (f:o.op = .binOp .eql t x y l) (ht:T t=some i) (hd:i.d = .slice e) (hx:ρ x = .val (.slice p n c)) (hy:ρ y = .val (.slice none b g)) : Cl P o ρ ⟨.val (.bool p.isNone),[],[]⟩ := Fe λσ ι H a w h=>by refine⟨.bool p.isNone,?_,.of_val _⟩;have h1:=D6 hx (h x (by simp[f,Op.operands]));have h2:=D6 hy (h y (by simp[f,Op.operands]));obtain⟨k,u,z,G,q,E,D,B,A,j⟩:=En (s t i ht);rw[hd]at j;subst j;have he:(eqGuard .eql t x y (.slice p n c) (.slice none b g)).run P w = .ok () w:=(by unfold eqGuard;simp);simp only[execOp,f,h1,h2,Sem.run_bind,he,Result.andThen_ok,Lib.run_eql_slice_nil w t e p n c b g q,Sem.run_pure]
def Ah3 (op:BinOp) (m n:ByteArray):Option Bool := match op with
 | .eql=>some (m.toList==n.toList)
 | .neq=>some (!(m.toList==n.toList))
 | .lss=>some (Op.bytesLess m.toList n.toList)
 | _=>none
theorem Ax1 {f:TypeId} {m n:ByteArray} (c:o.op = .binOp op t x y f) (hx:ρ x = .val (.string m)) (hy:ρ y = .val (.string n)) (hc:Ah3 op m n=some b) : Cl P o ρ ⟨.val (.bool b),[],[]⟩ := Fe λσ ι H a w h=>by
  refine⟨.bool b,?_,.of_val _⟩;have h1:=D6 hx (h x (by simp[c,Op.operands]));have h2:=D6 hy (h y (by simp[c,Op.operands]));have he:(eqGuard op t x y (.string m) (.string n)).run P w = .ok () w:=(by unfold eqGuard;cases op <;> simp);cases op <;> simp only[Ah3]at hc <;> first | (cases hc;done) | skip
  all_goals
   cases hc
   simp only[execOp,c,h1,h2,Sem.run_bind,he,Result.andThen_ok,binOp,Op.stringOp,Sem.run_pure]
theorem Ax2 {c:TypeId} {m n:ByteArray} (b:o.op = .binOp .add t x y c) (hx:ρ x = .val (.string m)) (hy:ρ y = .val (.string n)) (i:m.size+n.size<=9223372036854775807) : Cl P o ρ ⟨.val (.string (m++n)),[],[]⟩ := Fe λσ ι H a w h=>by refine⟨.string (m++n),?_,.of_val _⟩;have h1:=D6 hx (h x (by simp[b,Op.operands]));have h2:=D6 hy (h y (by simp[b,Op.operands]));have he:(eqGuard .add t x y (.string m) (.string n)).run P w = .ok () w:=(by unfold eqGuard;simp);have g:IntKind.i64.max=9223372036854775807:=δ;have f:¬((m.size+n.size:Nat):Int)>IntKind.i64.max:=(by rw[g];omega);simp only[execOp,b,h1,h2,Sem.run_bind,he,Result.andThen_ok,binOp,Op.stringOp,if_neg f,Sem.run_pure]
theorem Ax3 (c:o.op = .unOp .not t x) (hx:ρ x = .val (.bool b)):Cl P o ρ ⟨.val (.bool !b),[],[]⟩ := Fe λσ ι H a w h=>⟨.bool !b,by simp[execOp,c,D6 hx (h x (by simp[c,Op.operands])),Op.unary],.of_val _⟩
theorem Ax4 {c:Int} (b:o.op = .unOp .neg t x) (hx:ρ x = .val (.int k m)) (hc:k.wrap (0-m)=c):Cl P o ρ ⟨.val (.int k c),[],[]⟩ := Fe λσ ι H a w h=>⟨.int k c,by simp only[execOp,b,D6 hx (h x (by simp[b,Op.operands])),Op.unary,Op.intArith,hc,Sem.run_bind,Sem.run_pure,Result.andThen_ok],.of_val _⟩
theorem Ax5 (s:Da P T) {I:IntKind} {c:Int} (q:o.op = .convert t d x) (ht:T t=some i) (hd:T d=some j) (hj:j.d = .int k) (hx:ρ x = .val (.int I m)) (hc:k.wrap m=c) : Cl P o ρ ⟨.val (.int k c),[],[]⟩ := Fe λσ ι H a w h=>by refine⟨.int k c,?_,.of_val _⟩;have h1:=D6 hx (h x (by simp[q,Op.operands]));obtain⟨l,u,z,V,E,U,S,R,N,M⟩:=En (s t i ht);obtain⟨g,L,J,G,f,D,B,A,y,b⟩:=En (s d j hd);rw[hj]at b;subst b;simp only[execOp,q,h1,convert,Sem.run_bind,run_underlying E,run_underlying f,Result.andThen_ok,Conv.intToInt,hc,Sem.run_pure]
theorem Ax6 {f:TypeId} {k:FloatKind} {m c:Nat} (b:o.op = .binOp op t x y f) (hx:ρ x = .val (.float k m)) (hy:ρ y = .val (.float k n)) (hc:floatBits op k m n=some c) : Cl P o ρ ⟨.val (.float k c),[],[]⟩ := Fe λσ ι H a w h=>by refine⟨.float k c,?_,.of_val _⟩;have h1:=D6 hx (h x (by simp[b,Op.operands]));have h2:=D6 hy (h y (by simp[b,Op.operands]));have he:(eqGuard op t x y (.float k m) (.float k n)).run P w = .ok () w:=(by cases op <;> first | (unfold eqGuard;simp;done) | (simp[floatBits]at hc));simp only[execOp,b,h1,h2,Sem.run_bind,he,Result.andThen_ok,run_float_arith w op t k m n c hc,Sem.run_pure]
theorem Ax7 (s:Da P T) {k:FloatKind} (q:o.op = .convert t d x) (ht:T t=some i) (hd:T d=some j) (hj:j.d = .float k) (hx:ρ x = .val (.int g m)) : Cl P o ρ ⟨.val (.float k (floatOfInt k m)),[],[]⟩ := Fe λσ ι H a w h=>by refine⟨.float k (floatOfInt k m),?_,.of_val _⟩;have h1:=D6 hx (h x (by simp[q,Op.operands]));obtain⟨l,u,z,U,E,S,R,N,M,L⟩:=En (s t i ht);obtain⟨f,J,I,G,c,D,B,A,y,b⟩:=En (s d j hd);rw[hj]at b;subst b;have:=run_convert_int_float (P:=P) w t d g k m (by rw[E];rfl) c;simp only[execOp,q,h1,Sem.run_bind,this,Result.andThen_ok,Sem.run_pure]
theorem Ax8 (y:Da P T) {k:FloatKind} {f:IntKind} {m:Nat} {c:Int} (s:o.op = .convert t d x) (ht:T t=some i) (hd:T d=some j) (hj:j.d = .int f) (hx:ρ x = .val (.float k m)) (hc:floatToIntVal k m f=some c) : Cl P o ρ ⟨.val (.int f c),[],[]⟩ := Fe λσ ι H a w h=>by refine⟨.int f c,?_,.of_val _⟩;have h1:=D6 hx (h x (by simp[s,Op.operands]));obtain⟨q,u,z,V,G,U,S,R,N,M⟩:=En (y t i ht);obtain⟨l,L,J,I,g,E,D,B,A,b⟩:=En (y d j hd);rw[hj]at b;subst b;have:=run_convert_float_int (P:=P) w t d k f m c (by rw[G];rfl) g hc;simp only[execOp,s,h1,Sem.run_bind,this,Result.andThen_ok,Sem.run_pure]
theorem Ax9 {cs:List AV} {c:AV} (f:o.op = .extract x n) (hx:ρ x = .tup cs) (hc:cs[n]? = some c):Cl P o ρ ⟨c,[],[]⟩ := Fe λσ ι H a w h=>by have h1:=h x (by simp[f,Op.operands]);rw[hx]at h1;obtain⟨vs,e,i,g⟩:=h1.tup_inv;have b:n<vs.size:=(by rw[i];exact (Gx.1 hc).1);refine⟨vs[n],?_,g n c _ hc (by simp[b])⟩;simp[execOp,f,e,Instr.extract,b]
theorem Ah4 {f:Nat} (hi:I9 P s=some i) (hd:i.d = .struct fs) (hf:fs[f]? = some q) (b off:Nat) (w:World) : (Instr.fieldAt s (.pointer (some ⟨b,off,none⟩)) f).run P w = .ok (.pointer (some ⟨b,off+q.1,none⟩)) w:=by
 obtain⟨x,u,z,I,y,G,E,D,B,l⟩:=En hi;rw[hd]at l;obtain⟨fields,rfl,rfl,hpos⟩:=l;rw[getElem?_map]at hf;cases hg:fields.toList[f]? with
 | none=>rw[hg]at hf;simp at hf
 | some fd=>rw[hg]at hf;simp at hf;subst hf;have k:fields[f]? = some fd:=(by rw[<-Ha];exact hg);have hp:=hpos fd (Fw hg);have h:∃inf,P.info? fd.type=some inf/\inf.size≠0:=(by unfold Program.cellsOf at hp;cases g:P.info? fd.type with| none=>rw[g]at hp;simp at hp| some inf=>rw[g]at hp;simp at hp;exact⟨inf,rfl,ω⟩);obtain⟨inf,c,j⟩:=h;have A:(sizeOf fd.type).run P w = .ok inf.size w:=(by simp[sizeOf,typeInfo,program,Sem.run,c]);simp[Instr.fieldAt,run_underlying y,k,Instr.sureAddr,fieldPlace,A,j,K5]
theorem Aya (k:Da P T) {f:Nat} (g:o.op = .fieldAddr s x f) (ht:T s=some i) (hd:i.d = .struct fs) (hf:fs[f]? = some q) (hx:ρ x = .loc h off):Cl P o ρ ⟨.loc h (off+q.1),[],[]⟩ := Fe λσ ι H a w c=>by have h1:=c x (by simp[g,Op.operands]);rw[hx]at h1;obtain⟨b,hb,j⟩:=h1.loc_inv;exact⟨_,by simp[execOp,g,j,Ah4 (k s i ht) hd hf],.loc h (off+q.1) b hb⟩
theorem Ayb (y:Da P T) {f:Nat} {cs:List AV} (k:o.op = .fieldAddr s x f) (ht:T s=some i) (hd:i.d = .struct fs) (hf:fs[f]? = some q) (hx:ρ x = .ref cs):Cl P o ρ ⟨.ref (cs.drop q.1),[],[]⟩ := Fe λσ ι H a w h=>by
  have h1:=h x (by simp[k,Op.operands]);rw[hx]at h1;obtain⟨b,off,C,E,fr,g,u,l,hc,z⟩:=h1.ref_inv;refine⟨_,by simp[execOp,k,u,Ah4 (y s i ht) hd hf],.ref _ b (off+q.1) C E fr (λj=>g (q.1+j)) l ?_ ?_ ?_⟩
  .intro j c hj;rw[getElem?_drop]at hj;exact (hc _ c hj).1
  .intro j c hj;rw[getElem?_drop]at hj;exact (hc _ c hj).2
  .intro j hj;rw[length_drop]at hj;rw[Nat.add_assoc];exact z (q.1+j) ω
theorem Ayc (G:Da P T) {f:Nat} {k j:Nat} (A:o.op = .fieldAddr s x f) (ht:T s=some i) (hd:i.d = .struct fs) (hf:fs[f]? = some q) (hx:ρ x = .el h k n j) (y:xs.length=k):Cl P o ρ ⟨.el h k n (j+q.1),[(h,.rows E sz xs)],[]⟩:=by
 intro σ ι H F W w a next Q s u l hk
 have z:H h = .rows E sz xs:=l (h,.rows E sz xs) ψ;have hp:=u x (by simp[A,Op.operands]);rw[hx]at hp;obtain⟨b,B,hb,D⟩:=hp.el_inv z y;refine F7 (v:=.pointer (some ⟨b,n*sz+j+q.1,none⟩)) (by simp[execOp,A,D,Ah4 (G _ i ht) hd hf]) (hk σ ι _ w (Le.refl _ _ _) s ?_);refine .el h k n (j+q.1) _ (by show H h≠_;rw[z];intro e;cases e) (λI g c e=>?_) rfl;have e:H h = .rows I g c:=e;rw[z]at e;cases e;refine⟨ω,λ_=>?_⟩;rw[hb];show _=_
 rw[Nat.add_assoc]
theorem CC.sl_inv (h:CC σ (.sl sz xs) v) : (xs = []/\∃p f,v = .slice p 0 f)\/∃(b off f:Nat) (C:Array Value) (E:TypeId) (l:Nat×Nat) (g:Nat->Nat->Value),v = .slice (some ⟨b,off,none⟩) xs.length f/\σ b=some (.cells C E l) /\ (∀(i:Nat) (x:AV),xs[i]? = some x->x.cells.length=sz)/\(∀(i:Nat) (x:AV) (j:Nat) (c:AV),xs[i]? = some x->x.cells[j]? = some c->CC σ c (g i j)/\Fj (g i j)=true) /\ (∀(i j:Nat),i<xs.length->j<sz->C[off+i*sz+j]? = some (g i j))/\xs.length<=140737488355328/\xs.length<=f:=by cases h with| nil _ p f=>exact .inl ⟨rfl,p,f,rfl⟩| sl _ b off f _ C E l g q s hc h1 y u k=>exact .inr ⟨b,off,f,C,E,l,g,rfl,q,s,λi x j c hx hj=>⟨hc i x j c hx hj,h1 i x j c hx hj⟩,y,u,k⟩
theorem CC.sl_len (h:CC σ (.sl sz xs) v):xs.length<=140737488355328/\∃p cap,v = .slice p xs.length cap:=by
 rcases h.sl_inv with⟨rfl,p,cap,e⟩|⟨b,off,cap,C,E,fr,g,e,_,_,_,_,c,_⟩
 .exact⟨ψ,p,cap,e⟩
 .exact⟨c,_,cap,e⟩
theorem Ana (k:Da P T) (g:o.op = .call {callee:=.builtin .len,args:=#[x],argTypes:=#[t]}) (ht:T t=some i) (hd:i.d = .slice e) (hx:ρ x = .sl sz xs) : Cl P o ρ ⟨.val (.int .i64 xs.length),[],[]⟩ := Fe λσ ι H a w b=>by have h1:=b x (by simp[g,Op.operands,Call.operands]);rw[hx]at h1;obtain⟨_,p,cap,j⟩:=h1.sl_inv.sl_len;obtain⟨f,u,z,A,h,y,s,q,l,c⟩:=En (k t i ht);rw[hd]at c;subst c;refine⟨.int .i64 xs.length,?_,.of_val _⟩;simp[execOp,g,resolve,invoke,builtin,Builtin.len_,j,run_underlying h,goInt]
theorem Ayd (l:Da P T) {c:Nat} (h:o.op = .call {callee:=.builtin .len,args:=#[x],argTypes:=#[t]}) (ht:T t=some i) (hd:i.d = .slice e) (hx:ρ x = .val (.slice p n c)) : Cl P o ρ ⟨.val (.int .i64 n),[],[]⟩ := Fe λσ ι H a w b=>by have k:=D6 hx (b x (by simp[h,Op.operands,Call.operands]));obtain⟨g,u,z,B,j,A,y,s,q,f⟩:=En (l t i ht);rw[hd]at f;subst f;refine⟨.int .i64 n,?_,.of_val _⟩;simp[execOp,h,resolve,invoke,builtin,Builtin.len_,k,run_underlying j,goInt]
theorem Aye (l:Da P T) {b:Nat} (h:o.op = .call {callee:=.builtin .cap,args:=#[x],argTypes:=#[t]}) (ht:T t=some i) (hd:i.d = .slice e) (hx:ρ x = .val (.slice p n b)) : Cl P o ρ ⟨.val (.int .i64 b),[],[]⟩ := Fe λσ ι H a w c=>by have k:=D6 hx (c x (by simp[h,Op.operands,Call.operands]));obtain⟨g,u,z,B,j,A,y,s,q,f⟩:=En (l t i ht);rw[hd]at f;subst f;refine⟨.int .i64 b,?_,.of_val _⟩;simp[execOp,h,resolve,invoke,builtin,Builtin.cap_,k,run_underlying j,goInt]
theorem Ayf (k:Da P T) {s:ByteArray} (g:o.op = .call {callee:=.builtin .len,args:=#[x],argTypes:=#[t]}) (ht:T t=some i) (hd:i.d = .string) (hx:ρ x = .val (.string s)) : Cl P o ρ ⟨.val (.int .i64 s.size),[],[]⟩ := Fe λσ ι H a w b=>by have j:=D6 hx (b x (by simp[g,Op.operands,Call.operands]));obtain⟨f,u,z,B,h,A,y,q,l,c⟩:=En (k t i ht);rw[hd]at c;subst c;refine⟨.int .i64 s.size,?_,.of_val _⟩;simp[execOp,g,resolve,invoke,builtin,Builtin.len_,j,run_underlying h,goInt]
theorem Ayg (B:Da P T) {k len:Nat} (q:o.op = .call {callee:=.builtin .len,args:=#[x],argTypes:=#[t]}) (ht:T t=some i) (hd:i.d = .slice e) (hx:ρ x = .arr h k off len) (g:xs.length=k):Cl P o ρ ⟨.val (.int .i64 len),[(h,.rows E sz xs)],[]⟩:=by
 intro σ ι H F W w a next Q s f c hk
 have A:H h = .rows E sz xs:=c (h,.rows E sz xs) ψ;have hp:=f x (by simp[q,Op.operands,Call.operands]);rw[hx]at hp;have b:=hp.arr_inv A g;obtain⟨l,u,z,N,y,M,L,J,I,j⟩:=En (B t i ht);rw[hd]at j;subst j;have:∃p cap,a.eval x = .slice p len cap:=by
  unfold Hs at b;split at b
  .obtain⟨G,_,D⟩:=b;exact⟨none,0,by rw[G,D]⟩
  .exact⟨_,_,b.2⟩
  .exact b.elim
 obtain⟨p,cap,b⟩:=this;refine F7 (v:=.int .i64 len) ?_ (hk σ ι _ w (Le.refl _ _ _) s (.of_val _));simp[execOp,q,resolve,invoke,builtin,Builtin.len_,b,run_underlying y,goInt]
theorem Ah5 (hi:I9 P t=some i) (hd:i.d = .slice e) (he:I9 P e=some j) {b len f:Nat} (k:IntKind) (D:n<len) (w:World) : (Instr.indexAt t (.slice (some ⟨b,off,none⟩) len f) (.int k (n:Int))).run P w = .ok (.pointer (some ⟨b,off+n*j.size,none⟩)) w:=by obtain⟨h,u,z,B,l,A,y,x,s,g⟩:=En hi;rw[hd]at g;subst g;have q:=Nv he w;have c:0<=(n:Int)/\(n:Int)<(len:Int):=ω;simp only[Instr.indexAt,asIntOf,Sem.run_bind,Sem.run_pure,Result.andThen_ok,run_underlying l,if_pos c,q,K5,Int.toNat_natCast]
theorem Ayh (J:Da P T) {D:TI} {bs:List UInt8} (N:o.op = .convert t d x) (ht:T t=some i) (hi:i.d = .slice e) (he:T e=some D) (I:D.d = .int .u8) (hd:T d=some j) (hj:j.d = .string) (hx:ρ x = .sl 1 xs) (c:xs=bs.map λb=>.val (.int .u8 b.toNat)) : Cl P o ρ ⟨.val (.string ⟨bs.toArray⟩),[],[]⟩:=by
 intro σ ι H F W w a next Q s G _ hk
 have h1:=G x (by simp[N,Op.operands]);rw[hx]at h1;obtain⟨M,u,z,k1,y,k3,k4,k5,k6,L⟩:=En (J t i ht);obtain⟨B,u',z',Z,f,Y,X,V,U,h⟩:=En (J d j hd);obtain⟨A,u2,z2,m1,m2,m3,m4,m5,m6,m7⟩:=En (J e D he);rw[hi]at L;subst L;rw[hj]at h;subst h;rw[I]at m7;subst m7;have l:∃p cap,a.eval x = .slice p bs.length cap/\(convert t d (.slice p bs.length cap)).run P w = .ok (.string ⟨bs.toArray⟩) w:=by
  rcases h1.sl_inv.sl_inv with⟨h0,p,cap,k⟩|⟨b,off,cap,C,E,fr,g,k,hσ,hs,hc,hC,_⟩
  .have hb:bs = []:=(by rw[h0]at c;exact map_eq_nil_iff.1 c.symm);subst hb;refine⟨p,cap,k,?_⟩;cases p with| none=>show (convert t d (.slice none 0 cap)).run P w=_;rw[run_convert_bytes_string w t d e none 0 cap y m2 f];simp[Conv.bytesToString];rfl| some p=>exact run_convert_bytes_back w t d e p cap [] y m2 f (λq hq=>by simp at hq)
  .have hl:xs.length=bs.length:=(by rw[c,length_map]);refine⟨some ⟨b,off,none⟩,cap,by rw[k,hl],run_convert_bytes_back w t d e ⟨b,off,none⟩ cap bs y m2 f (λq hq=>?_)⟩;rw[K5,Kp (s.sto _ _ hσ)];have hq':q<xs.length:=ω;have S:=hC q 0 hq' ω;have e2:xs[q]? = some (.val (.int .u8 (bs[q]'hq).toNat)):=(by rw[c,getElem?_map,getElem?_eq_getElem hq];rfl);have R:=(hc q _ 0 (.val (.int .u8 (bs[q]'hq).toNat)) e2 rfl).1;have e4:g q 0 = .int .u8 (bs[q]'hq).toNat:=(by generalize g q 0=v at R;cases R;rfl);rw[Nat.mul_one,Nat.add_zero,e4]at S;exact S
 obtain⟨p,cap,k,hr⟩:=l;refine F7 (v:=.string ⟨bs.toArray⟩) ?_ (hk σ ι _ w (Le.refl _ _ _) s (.of_val _));simp only[execOp,N,k,Sem.run_bind,hr,Result.andThen_ok,Sem.run_pure]
theorem Ayi (A:Da P T) {f:TI} {z:AV} (s:o.op = .indexAddr t x y) (ht:T t=some i) (hd:i.d = .slice e) (he:T e=some f) (q:sz=f.size) (hx:ρ x = .sl sz xs) (hy:ρ y = .val (.int k (n:Int))) (l:xs[n]? = some z) : Cl P o ρ ⟨.ref z.cells,[],[]⟩ := Fe λσ ι H a w h=>by
  have h1:=h x (by simp[s,Op.operands]);have h2:=D6 hy (h y (by simp[s,Op.operands]));rw[hx]at h1;have u:=(Gx.1 l).1;rcases h1.sl_inv.sl_inv with⟨rfl,_⟩|⟨b,off,cap,C,E,fr,g,G,B,I,hc,J,_⟩
  .simp at u
  .have D:=I n z l;refine⟨.pointer (some ⟨b,off+n*f.size,none⟩),?_,.ref z.cells b (off+n*f.size) C E fr (g n) B (λj c hj=>(hc n z j c l hj).1) (λj c hj=>(hc n z j c l hj).2) (λj hj=>?_)⟩
   .simp[execOp,s,G,h2,Ah5 (A t i ht) hd (A e f he) k u]
   .have:=J n j u ω;rw[<-q];exact this
theorem Ayj (j:Da P T) {f:TI} {m:Nat} (g:o.op = .indexAddr t x y) (ht:T t=some i) (hd:i.d = .slice e) (he:T e=some f) (l:f.size=1) (hx:ρ x = .vec h m) (hy:ρ y = .val (.int k (n:Int))) (s:n<m) : Cl P o ρ ⟨.loc h n,[],[]⟩ := Fe λσ ι H a w c=>by have h1:=c x (by simp[g,Op.operands]);have h2:=D6 hy (c y (by simp[g,Op.operands]));rw[hx]at h1;obtain⟨b,hb,q⟩:=h1.vec_inv;refine⟨.pointer (some ⟨b,n,none⟩),?_,.loc h n b hb⟩;simp[execOp,g,q,h2,Ah5 (j t i ht) hd (j e f he) k s,l]
theorem Ayk (q:Da P T) {m:Nat} (j:o.op = .call {callee:=.builtin .len,args:=#[x],argTypes:=#[t]}) (ht:T t=some i) (hd:i.d = .slice e) (hx:ρ x = .vec h m) : Cl P o ρ ⟨.val (.int .i64 m),[],[]⟩ := Fe λσ ι H a w c=>by have h1:=c x (by simp[j,Op.operands,Call.operands]);rw[hx]at h1;obtain⟨b,hb,l⟩:=h1.vec_inv;obtain⟨g,u,z,D,k,B,A,y,s,f⟩:=En (q t i ht);rw[hd]at f;subst f;refine⟨.int .i64 m,?_,.of_val _⟩;simp[execOp,j,resolve,invoke,builtin,Builtin.len_,l,run_underlying k,goInt]
theorem Ayl (G:Da P T) {l:TI} {k len:Nat} {D:IntKind} (z:o.op = .indexAddr t x y) (ht:T t=some i) (hd:i.d = .slice e) (he:T e=some l) (hx:ρ x = .arr h k off len) (A:xs.length=k) (hy:ρ y = .val (.int D (n:Int))) (J:n<len) (q:sz=l.size):Cl P o ρ ⟨.el h k (off+n) 0,[(h,.rows E sz xs)],[]⟩:=by
 intro σ ι H F W w a next Q s f u hk
 have B:H h = .rows E sz xs:=u (h,.rows E sz xs) ψ;have hp:=f x (by simp[z,Op.operands]);have h2:=D6 hy (f y (by simp[z,Op.operands]));rw[hx]at hp;have c:=hp.arr_inv B A;unfold Hs at c;split at c
 .omega
 .rename_i b I hb;obtain⟨L,c⟩:=c;refine F7 (v:=.pointer (some ⟨b,(off+n)*sz,none⟩)) ?_ (hk σ ι _ w (Le.refl _ _ _) s ?_)
  .simp[execOp,z,c,h2,Ah5 (G t i ht) hd (G e l he) D J,q,E2]
  .refine .el h k (off+n) 0 _ (by show H h≠_;rw[B];intro e;cases e) (λM j g e=>?_) rfl;have e:H h = .rows M j g:=e;rw[B]at e;cases e;refine⟨ω,λ_=>?_⟩;rw[hb];rfl
 .exact c.elim
theorem Aym (l:Da P T) {s:ByteArray} {c:UInt8} (f:o.op = .index t x y) (ht:T t=some i) (hd:i.d = .string) (hx:ρ x = .val (.string s)) (hy:ρ y = .val (.int k (n:Int))) (hc:s[n]? = some c) : Cl P o ρ ⟨.val (.int .u8 c.toNat),[],[]⟩ := Fe λσ ι H a w b=>by have h1:=D6 hx (b x (by simp[f,Op.operands]));have h2:=D6 hy (b y (by simp[f,Op.operands]));obtain⟨h,u,z,E,j,D,B,A,q,g⟩:=En (l t i ht);rw[hd]at g;subst g;refine⟨.int .u8 c.toNat,?_,.of_val _⟩;simp[execOp,f,h1,h2,Instr.index,asIntOf,run_underlying j,hc]
theorem Ayn {f:FuncId} {b:Array Operand} (h:o.op = .makeFunc (.func f) #[] b):Cl P o ρ ⟨.fn f (b.toList.map ρ),[],[]⟩ := Fe λσ ι H a w g=>by refine⟨.func (.func f) #[] (b.map a.eval),by simp[execOp,h,Instr.makeFunc],.fn f _ _ ψ (λi c v h1 h2=>?_)⟩;rw[getElem?_map]at h1;rw[Array.getElem?_map]at h2;cases hc:b[i]? with| none=>rw[hc]at h2;simp at h2| some x=>rw[hc]at h2;rw[Ha,hc]at h1;simp at h1 h2;subst h1;subst h2;exact g x (by simp[h,Op.operands];exact Array.mem_of_getElem? hc)
end
section
variable {P:Program} {o:Oper} {ρ:Operand->AV} {a:Act} {w w':World} {next:Act->World->Prop} {Q:Exit->Act->World->Prop}
variable {σ:A5} {T:C9} {ι:Cd} {H:Hp} {xs:List AV} {h l n sz:Nat} {x:Operand} {hi lo:Option Operand} {i:TI} {e t:TypeId}
def Ja (ρ:Operand->AV) (d:Int):Option Operand->Option Int
 | none=>some d
 | some x=>match ρ x with
  | .val (.int _ n)=>some n
  | _=>none
theorem Ah6 {k:IntKind} {y:Nat} (h:n<=y) (c:BoundsCode) (w:World):(Instr.sliceBound (.int k (n:Int)) y c).run P w = .ok n w:=by have:0<=(n:Int)/\(n:Int)<=(y:Int):=ω;simp only[Instr.sliceBound,asIntOf,Sem.run_bind,Sem.run_pure,Result.andThen_ok,if_pos this,Int.toNat_natCast]
theorem Ah7 {d:Int} (hb:Ja ρ d (some x)=some (n:Int)) (hc:Conc σ ι H (ρ x) (a.eval x)):∃k,a.eval x = .int k (n:Int):=by
 unfold Ja at hb;simp only[]at hb;split at hb
 .rename_i k m e;rw[e]at hc;cases hb;exact⟨k,hc.val_inv⟩
 .cases hb
theorem Ack {j:Bool} {len f:Nat} (b:Ja ρ 0 lo=some (l:Int)) (g:Ja ρ (len:Int) hi=some (h:Int)) (hx:∀x,lo=some x\/hi=some x->Conc σ ι H (ρ x) (a.eval x)) (h1:l<=h) (h2:h<=f) (w:World) : (Instr.sliceBounds j len f (lo.map a.eval) (hi.map a.eval) none).run P w = .ok (l,h,f) w:=by
 unfold Instr.sliceBounds;cases hi with
 | none=>simp[Ja]at g;cases lo with| none=>simp[Ja]at b;simp;omega| some x=>obtain⟨k,e⟩:=Ah7 b (hx x (.inl rfl));have:=λc=>Ah6 (P:=P) (k:=k) (n:=l) (y:=len) ω c w;simp[e,this];omega
 | some y=>obtain⟨q,e'⟩:=Ah7 g (hx y (.inr rfl));have i:=λc=>Ah6 (P:=P) (k:=q) h2 c w;cases lo with| none=>simp[Ja]at b;simp[e',i];omega| some x=>obtain⟨k,e⟩:=Ah7 b (hx x (.inl rfl));have:=λc=>Ah6 (P:=P) (k:=k) h1 c w;simp[e,e',this,i]
theorem Acl {y:Operand} (h:lo=some y\/hi=some y):y∈(Op.slice t x lo hi none).operands.toList:=by rcases h with rfl|rfl <;> simp[Op.operands]
theorem Ayo (hT:Da P T) {A:TI} (I:o.op = .slice t x lo hi none) (ht:T t=some i) (hd:i.d = .slice e) (he:T e=some A) (B:sz=A.size) (hx:ρ x = .sl sz xs) (M:Ja ρ 0 lo=some (l:Int)) (S:Ja ρ (xs.length:Int) hi=some (h:Int)) (h1:l<=h) (h2:h<=xs.length):Cl P o ρ ⟨.sl sz ((xs.take h).drop l),[],[]⟩ := Fe λσ ι H a w D=>by
  have s:=D x (by simp[I,Op.operands]);rw[hx]at s;obtain⟨Y,u,z,k1,X,k3,k4,k5,k6,V⟩:=En (hT t i ht);rw[hd]at V;subst V;have Z:=Nv (hT e A he);have G:∀(cap:Nat),xs.length<=cap->∀w,(Instr.sliceBounds true xs.length cap (lo.map a.eval) (hi.map a.eval) none).run P w = .ok (l,h,cap) w :=
   λcap q w=>Ack M S (λy hy=>D y (by rw[I];exact Acl hy)) h1 ω w
  rcases s.sl_inv.sl_inv with⟨rfl,p,cap,s⟩|⟨b,off,cap,C,E,fr,g,s,hσ,J,hc,hC,hl,q⟩
  .have R:l=0:=(by simp at h2;omega);have U:h=0:=(by simpa using h2);subst R;subst U;refine⟨.slice (if cap=0 then p else p.map (·.add (0*A.size))) (0-0) (cap-0),?_,?_⟩
   .simp only[execOp,I,s,Instr.sliceAt,Instr.slice,Sem.run_bind,run_underlying X,Result.andThen_ok,Option.map_none];have:=G cap ψ w;simp only[length_nil]at this;simp only[this,Result.andThen_ok,Z w,Sem.run_pure]
   .exact .cc (.nil sz _ _)
  .refine⟨.slice (if cap=l then some ⟨b,off,none⟩ else some ⟨b,off+l*A.size,none⟩) (h-l) (cap-l),?_,?_⟩
   .simp only[execOp,I,s,Instr.sliceAt,Instr.slice,Sem.run_bind,run_underlying X,Result.andThen_ok,Option.map_none,G cap q w,Z w,Sem.run_pure,Option.map_some,K5]
   .by_cases N:l=h
    .subst N;have:(xs.take l).drop l = []:=ψ;rw[this,Nat.sub_self];exact .cc (.nil sz _ _)
    .rw[if_neg ω];have f:((xs.take h).drop l).length=h-l:=ζ;have k:∀(n:Nat) (y:AV),((xs.take h).drop l)[n]? = some y->xs[l+n]? = some y:=by
      intro n y hy;rw[getElem?_drop]at hy;by_cases L:l+n<h
      .rwa [H8 L]at hy
      .rw[getElem?_eq_none ζ]at hy;cases hy
     have:=CC.sl (σ:=σ) ((xs.take h).drop l) b (off+l*sz) (cap-l) sz C E fr (λn j=>g (l+n) j) hσ (λn y hy=>J _ y (k n y hy))
      (λn y j c hy hj=>(hc _ y j c (k n y hy) hj).1) (λn y j c hy hj=>(hc _ y j c (k n y hy) hj).2) (λn j hn hj=>by rw[f]at hn;have:=hC (l+n) j ω hj;rw[E2]at this;rw[<-this];congr 1;omega) (by rw[f];omega) (by rw[f];omega);rw[f,B]at this;rw[B];exact .cc this
theorem Ayp (D:Da P T) {s:ByteArray} (c:o.op = .slice t x lo hi none) (ht:T t=some i) (hd:i.d = .string) (hx:ρ x = .val (.string s)) (f:Ja ρ 0 lo=some (l:Int)) (g:Ja ρ (s.size:Int) hi=some (h:Int)) (h1:l<=h) (h2:h<=s.size):Cl P o ρ ⟨.val (.string (s.extract l h)),[],[]⟩ := Fe λσ ι H a w b=>by
  have B:=D6 hx (b x (by simp[c,Op.operands]));obtain⟨q,u,z,L,A,J,I,G,E,k⟩:=En (D t i ht);rw[hd]at k;subst k;have j:(Instr.sliceBounds false s.size s.size (lo.map a.eval) (hi.map a.eval) none).run P w = .ok (l,h,s.size) w :=
   Ack f g (λy hy=>b y (by rw[c];exact Acl hy)) h1 ω w
  refine⟨.string (s.extract l h),?_,.of_val _⟩;simp[execOp,c,B,Instr.sliceAt,Instr.slice,run_underlying A,j]
theorem Ayq (hT:Da P T) {J:TI} {c k off len:Nat} {E:TypeId} (I:o.op = .slice t x lo hi none) (ht:T t=some i) (hd:i.d = .slice e) (he:T e=some J) (L:sz=J.size) (hx:ρ x = .arr c k off len) (U:xs.length=k) (R:Ja ρ 0 lo=some (l:Int)) (V:Ja ρ (len:Int) hi=some (h:Int)) (h1:l<=h) (h2:h<=len) (h3:l=0\/l<h) : Cl P o ρ ⟨.arr c k (off+l) (h-l),[(c,.rows E sz xs)],[]⟩:=by
 intro σ ι H F W w a next Q s A M hk
 have D:H c = .rows E sz xs:=M (c,.rows E sz xs) ψ;have hp:=A x (by simp[I,Op.operands]);rw[hx]at hp;have f:=hp.arr_inv D U;obtain⟨a1,u,z,k1,Z,k3,k4,k5,k6,Y⟩:=En (hT t i ht);rw[hd]at Y;subst Y;have hs:=Nv (hT e J he);have G:∀(cap:Nat),len<=cap->∀w,(Instr.sliceBounds true len cap (lo.map a.eval) (hi.map a.eval) none).run P w = .ok (l,h,cap) w :=
  λcap a6 w=>Ack R V (λy hy=>A y (by rw[I];exact Acl hy)) h1 ω w
 unfold Hs at f;split at f
 .rename_i B;obtain⟨f,N,S⟩:=f;subst S;subst N;have e1:l=0:=ω;have e2:h=0:=ω;subst e1;subst e2;refine F7 (v:=.slice none 0 0) ?_ (hk σ ι _ w (Le.refl _ _ _) s ?_)
  .simp only[execOp,I,f,Instr.sliceAt,Instr.slice,Sem.run_bind,run_underlying Z,Result.andThen_ok,Option.map_none];have:=G 0 ω w;simp only[this,Result.andThen_ok,hs w,Sem.run_pure];rfl
  .refine .arr _ _ _ _ _ (by show H c≠_;rw[D];intro e;cases e) (λX j g e=>?_) rfl;have e:H c = .rows X j g:=e;rw[D]at e;cases e;exact⟨ω,λ_=>by rw[B];exact⟨rfl,rfl,rfl⟩⟩
 .rename_i b q hb;obtain⟨a7,f⟩:=f;refine F7 (v:=.slice (some ⟨b,(off+l)*sz,none⟩) (h-l) (q-(off+l))) ?_ (hk σ ι _ w (Le.refl _ _ _) s ?_)
  .simp only[execOp,I,f,Instr.sliceAt,Instr.slice,Sem.run_bind,run_underlying Z,Result.andThen_ok,Option.map_none];have:=G (q-off) ω w;simp only[this,Result.andThen_ok,hs w,Sem.run_pure,Option.map_some,K5];rcases h3 with rfl|h3
   .simp
   .rw[if_neg ω,E2,L,Nat.sub_sub]
  .refine .arr _ _ _ _ _ (by show H c≠_;rw[D];intro e;cases e) (λX j g e=>?_) rfl;have e:H c = .rows X j g:=e;rw[D]at e;cases e;refine⟨ω,λ_=>?_⟩;rw[hb];exact⟨ω,rfl⟩
 .exact f.elim
def Acm (σ:A5) (ι:Cd) (H:Hp) (cs:List AV) (C:Array Value):Prop := C.size=cs.length/\∀(i:Nat) (c:AV) (v:Value),cs[i]? = some c->C[i]? = some v->Conc σ ι H c v
theorem Ah8 (off:Nat):∀(l:List Value) (m:Nat) (cells:Array Value),off+m+l.length<=cells.size -> ((l.zipIdx m).foldl (λcs p=>cs.setIfInBounds (off+p.2) p.1) cells).size=cells.size /\ ∀k:Nat,((l.zipIdx m).foldl (λcs p=>cs.setIfInBounds (off+p.2) p.1) cells)[k]? = if off+m<=k/\k<off+m+l.length then l[k-(off+m)]? else cells[k]?
 | [],m,cells,_=>by refine⟨rfl,λk=>?_⟩;rw[if_neg (by simp only[length_nil];omega)];rfl
 | v::rest,m,cells,h=>by
  simp only[length_cons]at h;obtain⟨c,b⟩:=Ah8 off rest (m+1) (cells.setIfInBounds (off+m) v) ζ;simp only[zipIdx_cons,foldl_cons];refine⟨by rw[c];simp,λk=>?_⟩;rw[b k];by_cases h1:k=off+m
  .subst h1;rw[if_neg ω,if_pos ψ];rw[Array.getElem?_setIfInBounds_self_of_lt ω];simp
  .by_cases h2:off+m<=k/\k<off+m+(rest.length+1)
   .rw[if_pos ω,length_cons,if_pos h2];rw[show k-(off+m)=(k-(off+(m+1)))+1 by omega];simp
   .rw[if_neg ω,length_cons,if_neg h2,Array.getElem?_setIfInBounds_ne ω]
theorem Anb {σ:A5} {ι:Cd} {H:Hp} {fs:List (Nat×Nat)} {place:Nat->Option (Nat×Nat)} (hp:∀n,place n=fs[n]?):∀(ps:List (Nat×Operand)) (cs:List AV) (C:Array Value) (b:List AV),Acm σ ι H cs C -> (∀p∈ps,Conc σ ι H (ρ p.2) (a.eval p.2))->Vm fs cs (ps.map λp=>(p.1,ρ p.2))=some b -> ∃k,Instr.fill place C (ps.map λp=>(p.1,a.eval p.2))=some k/\Acm σ ι H b k
 | [],cs,C,b,g,_,h=>by simp only[map_nil,Vm]at h;cases h;exact⟨C,rfl,g⟩
 | p::ps,cs,C,b,g,hx,h=>by
  simp only[map_cons,Vm]at h;cases hq:fs[p.1]? with
  | none=>rw[hq]at h;cases h
  | some q=>
   rw[hq]at h;simp only[]at h;cases hb:(Nat.beq (ρ p.2).cells.length q.2&&Nat.ble (q.1+q.2) cs.length) with
   | false=>rw[hb]at h;cases h
   | true=>
    rw[hb]at h;simp only[cond_true]at h;simp only[Fr]at hb;have B:(ρ p.2).cells.length=q.2:=Gg hb.1;have A:q.1+q.2<=cs.length:=Gy hb.2;have hc:=(hx p ψ).cells;have z:=g.1;have j:=Ah8 q.1 (a.eval p.2).cells.toList 0 C ζ;have s:Acm σ ι H (Nu cs q.1 (ρ p.2).cells) (((a.eval p.2).cells.toList.zipIdx 0).foldl (λcs p=>cs.setIfInBounds (q.1+p.2) p.1) C):=by
     refine⟨by rw[j.1,Ah0 _ _ _ ω];exact g.1,λi c v h1 h2=>?_⟩;rw[Ahz _ _ _ ω]at h1;rw[j.2 i]at h2;simp only[Array.length_toList,hc.1,Nat.add_zero]at h2;by_cases g1:i<q.1
     .rw[if_pos g1]at h1;rw[if_neg ω]at h2;exact g.2 i c v h1 h2
     .rw[if_neg g1]at h1;by_cases g2:i<q.1+(ρ p.2).cells.length
      .rw[if_pos g2]at h1;rw[if_pos ω,Ha]at h2;exact hc.2 _ c v h1 h2
      .rw[if_neg g2]at h1;rw[if_neg ω]at h2;exact g.2 i c v h1 h2
    obtain⟨k,x,u⟩:=Anb hp ps _ _ b s (λy l=>hx y (by simp[l])) h;refine⟨k,?_,u⟩;simp only[map_cons,Instr.fill,hp,hq];have f:((a.eval p.2).cells.size≠q.2||decide (q.1+(a.eval p.2).cells.size>C.size))=false:=by have:=g.1;simp;omega
    rw[f];simp only[Bool.false_eq_true,if_false];rw[<-Array.foldl_toList,Array.toList_zipIdx];exact x
theorem Ayr (R:Da P T) {b:Array (Nat×Operand)} {fs:List (Nat×Nat)} {cs:List AV} (G:o.op = .build t b) (ht:T t=some i) (hd:i.d = .struct fs) (hc:Vm fs (i.zero.map .val) (b.toList.map λp=>(p.1,ρ p.2))=some cs):Cl P o ρ ⟨.agg cs,[],[]⟩ := Fe λσ ι H a w q=>by
  obtain⟨E,u,z,M,L,J,V,U,D,B⟩:=En (R t i ht);rw[hd]at B;obtain⟨fields,rfl,s,hpos⟩:=B;have l:∀(fl:List Field),(∀f∈fl,0<P.cellsOf f.type)->fl.mapM (λf=>(P.info? f.type).map λi=>(f.offset,i.size))=some (fl.map λf=>(f.offset,P.cellsOf f.type)):=by
   intro fl;induction fl with
   | nil=>intro _;rfl
   | cons f fl ih=>intro hp;have h0:=hp f ψ;have h:=ih (λS y=>hp S (by simp[y]));unfold Program.cellsOf at h0 ⊢;cases g:P.info? f.type with| none=>rw[g]at h0;simp at h0| some inf=>unfold Program.cellsOf at h;rw[mapM_cons,h,g];simp[g]
  have N:Acm σ ι H (i.zero.map .val) z.cells:=(by refine⟨by simp[D],λj c v h1 h2=>?_⟩;rw[D,getElem?_map,Ha,h2]at h1;simp at h1;subst h1;exact .of_val v);obtain⟨k,I,A⟩:=Anb (a:=a) (place:=λn=>((fields.toList.map λf=>(f.offset,P.cellsOf f.type)).toArray)[n]?) (fs:=fs) (λn=>by rw[s];simp) b.toList _ _ cs N (λp hp=>q p.2 (by simp only[G,Op.operands];simpa using ⟨p.1,by simpa using hp⟩)) hc;refine⟨.agg k,?_,.agg cs k A.1 A.2⟩;have hb:P.built t ((b.map λ(i,x)=>(i,a.eval x)).toList)=some k:=(by unfold Program.built;rw[M,L];simp only[J,l fields.toList hpos];rw[<-I];simp);simp only[execOp,G,Sem.run_bind,run_build w t _ k hb,Result.andThen_ok,Sem.run_pure]
end
section
variable {P:Program} {o:Oper} {ρ:Operand->AV} {a:Act} {w w':World} {next:Act->World->Prop} {Q:Exit->Act->World->Prop}
variable {b:Array (Nat×Operand)} {T:C9} {k:IntKind} {l:Nat} {x y:Operand} {i:TI} {e t:TypeId}
theorem Ov {sz:Nat} {x:AV} (h:Md sz x=true):x.cells.length=sz/\∀c∈x.cells,c.cl1=true:=by unfold Md at h;simp only[Fr]at h;exact⟨Gg h.1,Ej.1 h.2⟩
def K6 (vs:List Value):List Value:=vs.flatMap λv=>v.cells.toList
theorem Ah9 {σ:A5} {ι:Cd} {H:Hp} {sz:Nat}:∀(xs:List AV) (vs:List Value),xs.length=vs.length->(∀x∈xs,Md sz x=true) -> (∀(i:Nat) (x:AV) (v:Value),xs[i]? = some x->vs[i]? = some v->Conc σ ι H x v) -> (K6 vs).length=xs.length*sz/\∃g:Nat->Nat->Value,(∀(i:Nat) (x:AV) (j:Nat) (c:AV),xs[i]? = some x->x.cells[j]? = some c->CC σ c (g i j)/\Fj (g i j)=true) /\ (∀(i j:Nat),i<xs.length->j<sz->(K6 vs)[i*sz+j]? = some (g i j))
 | [],[],_,_,_=>⟨by simp[K6],λ_ _=>undef,ψ,ψ⟩
 | x::xs,v::vs,B,k,hc=>by
  obtain⟨z,g,s,q⟩:=Ah9 xs vs (by simpa using B) (λy hy=>k y (by simp[hy])) (λi y u h1 h2=>hc (i+1) y u (by simpa using h1) (by simpa using h2));have h0:=hc 0 x v ψ ψ;have hx:=Ov (k x ψ);have f:=h0.cells;have h:v.cells.toList.length=sz:=(by simp[f.1,hx.1]);have l:K6 (v::vs)=v.cells.toList++K6 vs:=(by simp[K6]);refine⟨by rw[l,length_append,z,h,length_cons,E2];omega,λi j=>if i=0 then (v.cells[j]?).getD undef else g (i-1) j,?_,?_⟩
  .intro i y j c hy hj;cases i with
   | zero=>simp at hy;subst hy;have b:j<v.cells.size:=(by rw[f.1];exact (Gx.1 hj).1);have:(v.cells[j]?).getD undef=v.cells[j]:=(by simp[b]);simp only[if_pos];rw[this];exact (f.2 j c _ hj (by simp[b])).cc_of (hx.2 c (Fw hj))
   | succ i=>have A:xs[i]? = some y:=(by simpa using hy);simpa using s i y j c A hj
  .intro i j hi hj;rw[l];cases i with
   | zero=>rw[getElem?_append_left ω,Nat.zero_mul,Nat.zero_add,Ha];have b:j<v.cells.size:=(by rw[f.1,hx.1];exact hj);simp[b]
   | succ i=>rw[getElem?_append_right (by rw[h,E2];omega),h,show (i+1)*sz+j-sz=i*sz+j by rw[E2];omega];rw[q i j (by simpa using hi) hj];simp
theorem Anc {sz:Nat}:∀(vs:List Value) (m:Nat) (C:Array Value),(∀v∈vs,v.cells.size=sz)->C.size=(m+vs.length)*sz -> ∃f,Instr.fill (λi=>some (i*sz,sz)) C ((vs.zipIdx m).map λp=>(p.2,p.1))=some f/\f.size=C.size/\(∀k:Nat,k<m*sz->f[k]? = C[k]?) /\ ∀k:Nat,m*sz<=k->f[k]? = (K6 vs)[k-m*sz]?
 | [],m,C,_,g=>by refine⟨C,rfl,rfl,λ_ _=>rfl,λk hk=>?_⟩;simp only[length_nil,Nat.add_zero]at g;simp[K6];omega
 | v::vs,m,C,l,g=>by
  simp only[length_cons]at g;have h0:=l v ψ;have q:(m+(vs.length+1))*sz=m*sz+sz+vs.length*sz:=(by rw[E2,E2];omega);have b:=Ah8 (m*sz) v.cells.toList 0 C ζ;simp only[Nat.add_zero,Array.length_toList,h0]at b;obtain⟨f,y,x,j,s⟩:=Anc vs (m+1) (((v.cells.toList.zipIdx 0).foldl (λcs p=>cs.setIfInBounds (m*sz+p.2) p.1) C)) (λu hu=>l u (by simp[hu])) (by rw[b.1,g,show m+1+vs.length=m+(vs.length+1) by omega]);refine⟨f,?_,by rw[x,b.1],?_,?_⟩
  .simp only[zipIdx_cons,map_cons,Instr.fill];have c:(v.cells.size≠sz||decide (m*sz+v.cells.size>C.size))=false:=by simp;omega
   rw[c];simp only[Bool.false_eq_true,if_false];rw[<-Array.foldl_toList,Array.toList_zipIdx];exact y
  .intro k hk;rw[j k (by rw[E2];omega),b.2 k,if_neg ω]
  .intro k hk;have h:K6 (v::vs)=v.cells.toList++K6 vs:=(by simp[K6]);rw[h];by_cases h1:k<m*sz+sz
   .rw[j k (by rw[E2];omega),b.2 k,if_pos ω,getElem?_append_left ζ]
   .rw[s k (by rw[E2];omega),getElem?_append_right ζ];congr 1;simp only[Array.length_toList,h0];rw[E2];omega
theorem Ays (ps:List (Nat×Operand)) (f:Operand->Value) (m:Nat) (h:ps.map (·.1)=range' m ps.length):ps.map (λp=>(p.1,f p.2))=((ps.map λp=>f p.2).zipIdx m).map λp=>(p.2,p.1):=by induction ps generalizing m with| nil=>rfl| cons p ps ih=>simp only[map_cons,length_cons,range'_succ,List.cons.injEq]at h;simp only[map_cons,zipIdx_cons,List.cons.injEq];exact⟨by rw[h.1],ih (m+1) h.2⟩
theorem Ane {len:Nat} {c:TI} (S:o.op = .buildSlice t len b) (hi:I9 P t=some i) (hd:i.d = .slice e) (he:I9 P e=some c) (Z:0<c.size) (hp:b.toList.map (·.1)=range' 0 len) (a1:len*c.size<=16777216) (hv:∀p∈b.toList,(a.eval p.2).cells.size=c.size) : ∃C:Array Value,C.toList=K6 (b.toList.map λp=>a.eval p.2)/\(execOp a.eval o).run P w = .ok (.value (.slice (some ⟨w.heap.size,0,none⟩) len len)) (w.alloc (.cells C e)):=by
 obtain⟨N,u,z,k1,M,k3,k4,k5,k6,L⟩:=En hi;rw[hd]at L;subst L;obtain⟨l,Y,A⟩:=Am8 he w;have R:=Nv he w;have f:b.toList.length=len:=by have:=congrArg length hp;simpa using this
 have B:∀v∈(b.toList.map λp=>a.eval p.2),v.cells.size=c.size:=by intro v q;simp only[mem_map]at q;obtain⟨p,E,rfl⟩:=q;exact hv p E
 have I:∀(vs:List Value),(∀v∈vs,v.cells.size=c.size)->(K6 vs).length=vs.length*c.size:=by intro vs;induction vs with| nil=>intro _;simp[K6]| cons v vs ih=>intro h;have:=ih (λu hu=>h u (by simp[hu]));have h0:=h v ψ;simp only[K6,flatMap_cons,length_append,Array.length_toList,h0,length_cons]at this ⊢;rw[this,E2];omega
 obtain⟨y,X,V,r3,U⟩:=Anc (sz:=c.size) (b.toList.map λp=>a.eval p.2) 0 ((Array.range (len*c.size)).map (l.cells[· % l.cells.size]!)) B (by simp[f]);refine⟨y,?_,?_⟩
 .apply ext_getElem?;intro k;rw[Ha,U k ω];simp
 .have hpos:0<len\/len=0:=ω;have j:Instr.fill (λi=>some (i*c.size,c.size)) ((Array.range (len*c.size)).map (l.cells[· % l.cells.size]!)) ((b.map λ(i,x)=>(i,a.eval x)).toList)=some y:=(by rw[<-X,<-Ays b.toList a.eval 0 (by rw[hp,f])];simp);rcases hpos with hpos|hpos
  .have G:¬len*c.size=0:=(by have:=Nat.mul_pos hpos Z;omega);have s:¬len*c.size>2 ^ 24:=ω;have g:Instr.fill (λi=>some (i*c.size,c.size)) ((Array.range (len*c.size)).map (l.cells[· % l.cells.size]!)) (b.toList.map λx=>(x.1,a.eval x.2))=some y:=(by rw[<-j];simp);simp[execOp,S,Instr.buildSlice,run_underlying M,R,s,G,A,g,newRow,newObj,Sem.run]
  .subst hpos;have J:y = #[]:=(by apply Array.eq_empty_of_size_eq_zero;rw[V];simp);subst J;have D:b = #[]:=(by apply Array.eq_empty_of_size_eq_zero;simpa using f);subst D;have:(Array.map (λ_:Nat=>(default:Value)) (Array.range 0)) = #[]:=ψ;simp[execOp,S,Instr.buildSlice,run_underlying M,R,newRow,newObj,Sem.run,Instr.fill,this]
theorem Acn {len:Nat} {p:Nat×Operand} (h:p∈b.toList):p.2∈(Op.buildSlice t len b).operands.toList:=by simp only[Op.operands];simpa using ⟨p.1,by simpa using h⟩
theorem Anf (D:Da P T) {len:Nat} {f:TI} (A:o.op = .buildSlice t len b) (ht:T t=some i) (hd:i.d = .slice e) (he:T e=some f) (B:0<f.size) (hp:b.toList.map (·.1)=range' 0 len) (z:len*f.size<=16777216) (k:∀p∈b.toList,Md f.size (ρ p.2)=true) : Cl P o ρ ⟨.sl f.size (b.toList.map λp=>ρ p.2),[],[]⟩:=by
  intro σ ι H F W w a next Q s l _ hk
  have u:b.toList.length=len:=(by have:=congrArg length hp;simpa using this);have y:∀p∈b.toList,(a.eval p.2).cells.size=f.size:=(by intro p h;rw[((l p.2 (by rw[A];exact Acn h)).cells).1];exact (Ov (k p h)).1);obtain⟨C,J,E⟩:=Ane (P:=P) (a:=a) (w:=w) A (D t i ht) hd (D e f he) B hp z y;obtain⟨I,g,g1,g2⟩:=Ah9 (σ:=σ) (ι:=ι) (H:=H) (sz:=f.size) (b.toList.map λp=>ρ p.2) (b.toList.map λp=>a.eval p.2) ψ (by intro x hx;simp only[mem_map]at hx;obtain⟨p,h,rfl⟩:=hx;exact k p h) (by intro j x v h1 h2;rw[getElem?_map]at h1 h2;cases hj:b.toList[j]? with| none=>rw[hj]at h1;simp at h1| some p=>rw[hj]at h1 h2;simp at h1 h2;subst h1;subst h2;exact l p.2 (by rw[A];exact Acn (Fw hj)))
  obtain⟨s',le⟩:=s.newFrozen (.cells C e);refine F7 E (hk _ ι _ _ le s' (.cc ?_));have G:len<=140737488355328:=(by have:len*1<=len*f.size:=Nat.mul_le_mul_left len B;omega);have:=CC.sl (σ:=Ba σ w.heap.size (some (.cells C e))) (b.toList.map λp=>ρ p.2) w.heap.size 0 len f.size C e (0,0) g (Co _ _ _)
    (by intro j x hj
        rw[getElem?_map]at hj
        cases hj':b.toList[j]? with
        | none=>rw[hj']at hj;simp at hj
        | some p=>rw[hj']at hj;simp at hj;subst hj;exact (Ov (k p (Fw hj'))).1) (λj x q c h1 h2=>((g1 j x q c h1 h2).1).mono le.sto) (λj x q c h1 h2=>(g1 j x q c h1 h2).2) (by intro j q hj hq;rw[Nat.zero_add,<-Ha,J];exact g2 j q hj hq) (by rw[length_map];omega) (by rw[length_map];omega)
  rw[length_map,u]at this;exact this
theorem Ayt (J:Da P T) {len:Nat} {c:TI} (h:Nat) (G:o.op = .buildSlice t len b) (ht:T t=some i) (hd:i.d = .slice e) (he:T e=some c) (A:0<c.size) (hp:b.toList.map (·.1)=range' 0 len) (D:len*c.size<=16777216) (k:∀p∈b.toList,Md c.size (ρ p.2)=true) :
  Cl P o ρ ⟨.arr h len 0 len,[(h,.none)],[(h,.rows e c.size (b.toList.map λp=>ρ p.2))]⟩:=by
 intro σ ι H F W w a next Q s l E hk
 have N:H h = .none:=E (h,.none) ψ
 have u:b.toList.length=len:=by have:=congrArg length hp;simpa using this
 have B:∀p∈b.toList,(a.eval p.2).cells.size=c.size:=by
  intro p f
  rw[((l p.2 (by rw[G];exact Acn f)).cells).1]
  exact (Ov (k p f)).1
 obtain⟨C,L,M⟩:=Ane (P:=P) (a:=a) (w:=w) G (J t i ht) hd (J e c he) A hp D B
 obtain⟨I,g,g1,g2⟩:=Ah9 (σ:=σ) (ι:=ι) (H:=H) (sz:=c.size) (b.toList.map λp=>ρ p.2) (b.toList.map λp=>a.eval p.2) ψ
  (by intro x hx;simp only[mem_map]at hx;obtain⟨p,f,rfl⟩:=hx;exact k p f)
  (by
   intro j x v h1 h2
   rw[getElem?_map]at h1 h2
   cases hj:b.toList[j]? with
   | none=>rw[hj]at h1;simp at h1
   | some p=>
    rw[hj]at h1 h2;simp at h1 h2;subst h1;subst h2
    exact l p.2 (by rw[G];exact Acn (Fw hj)))
 have R:len<=140737488355328:=by
  have:len*1<=len*c.size:=Nat.mul_le_mul_left len A
  omega
 obtain⟨s',le⟩:=s.newRows h e c.size (b.toList.map λp=>ρ p.2) len C (.inl N) A (by rw[length_map];omega) (by rw[length_map];omega)
  (by rw[<-Array.length_toList,L,I,length_map,u]) ⟨g,(by
    intro j x hj
    rw[getElem?_map]at hj
    cases hj':b.toList[j]? with
    | none=>rw[hj']at hj;simp at hj
    | some p=>rw[hj']at hj;simp at hj;subst hj;exact (Ov (k p (Fw hj'))).1),g1,(by
    intro j q hj hq;rw[<-Ha,L];exact g2 j q hj hq)⟩
 refine F7 M (hk _ _ _ _ le s' ?_)
 refine .arr h len 0 len _ (by show Ba H h _ h≠_;rw[Co];intro e;cases e) (λS z y e'=>?_) rfl
 have e':Ba H h _ h = .rows S z y:=e'
 rw[Co]at e';cases e'
 refine⟨by rw[length_map];omega,λ_=>?_⟩
 rw[Co]
 exact⟨ω,by rw[Nat.zero_mul];rfl⟩
def Gb (i:TI):AV := match i.d,i.zero with
 | .struct _,z=>.agg (z.map .val)
 | _,[v]=>.val v
 | _,z=>.agg (z.map .val)
theorem Ang (hT:Da P T) {b:TI} {k':IntKind} {c:Nat} (J:AV) (h:Nat) (Z:o.op = .makeSlice t x y) (ht:T t=some i) (hd:i.d = .slice e) (he:T e=some b) (hz:0<b.size) (hx:ρ x = .val (.int k (l:Int))) (hy:ρ y = .val (.int k' (c:Int))) (a7:l<=c) (hb:b.bytes*c<=281474976710656) (hc:c<=140737488355328) (aa:J.cells.length=b.size) (a8:b.zero.length=b.size) (V:∀(q:Nat) (c:AV) (v:Value),J.cells[q]? = some c->b.zero[q]? = some v->(∀σ,CC σ c v)/\Fj v=true) :
  Cl P o ρ ⟨.arr h l 0 l,[(h,.none)],[(h,.rows e b.size (replicate l J))]⟩:=by
 intro σ ι H F W w a next Q s G X hk
 have hn:H h = .none:=X (h,.none) ψ
 have h1:=D6 hx (G x (by simp[Z,Op.operands]))
 have h2:=D6 hy (G y (by simp[Z,Op.operands]))
 obtain⟨ab,u,z,k1,k2,k3,k4,k5,k6,k7⟩:=En (hT t i ht)
 rw[hd]at k7;subst k7
 obtain⟨B,u',f,U,ad,S,R,N,E,ac⟩:=En (hT e b he)
 have A:=run_make (P:=P) w t e B f k2 U S k k' (l:Int) (c:Int) ω ω (by
   have h':((b.bytes*c:Nat):Int)<=281474976710656:=ω
   rw[Int.natCast_mul]at h';rw[N];exact h') ω
 rw[Int.toNat_natCast,Int.toNat_natCast,R]at A
 have g:f.cells.size=b.size:=by
  rw[<-a8,E,Array.length_toList]
 have D:∀q,q<c*b.size->(madeCells f.cells (c*b.size))[q]? = f.cells[q % b.size]?:=by
  intro q hq
  unfold madeCells
  have hm:q % b.size<f.cells.size:=by rw[g];exact Nat.mod_lt _ hz
  have a1:f.cells[q % b.size]! = f.cells[q % b.size]:=by simp[hm]
  simp[hq,g,a1]
 obtain⟨s',le⟩:=s.newRows h e b.size (replicate l J) c (madeCells f.cells (c*b.size)) (.inl hn) hz ζ (by simpa using a7) (by simp[madeCells])
  ⟨λ_ j=>(f.cells[j]?).getD undef,(by
   intro j x' hj
   have:=Fw hj
   simp at this
   rw[this.2];exact aa),(by
   intro j x' q c' hj hq
   have:=Fw hj
   simp at this
   rw[this.2]at hq
   have Y:q<f.cells.size:=by
    have:=(Gx.1 hq).1
    omega
   have hv:f.cells[q]? = some f.cells[q]:=Array.getElem?_eq_getElem Y
   have:=V q c' f.cells[q] hq (by rw[E,Ha,hv])
   show CC σ c' ((f.cells[q]?).getD undef)/\Fj ((f.cells[q]?).getD undef)=true
   rw[hv]
   exact⟨this.1 σ,this.2⟩),(by
   intro j q hj hq
   have hj':j<l:=by simpa using hj
   have a6:j*b.size+q<c*b.size:=by
    have:(j+1)*b.size<=c*b.size:=Nat.mul_le_mul_right _ ω
    rw[E2]at this;omega
   rw[D _ a6]
   have:(j*b.size+q) % b.size=q:=by rw[Nat.mul_comm,Nat.mul_add_mod,Nat.mod_eq_of_lt hq]
   rw[this]
   have I:q<f.cells.size:=ω
   simp[I])⟩
 refine F7 (v:=.slice (some ⟨w.heap.size,0,none⟩) l c) ?_ (hk _ _ _ _ le s' ?_)
 .simp[execOp,Z,h1,h2,A]
 .refine .arr h l 0 l _ (by show Ba H h _ h≠_;rw[Co];intro e;cases e) (λE' M L e'=>?_) rfl
  have e':Ba H h _ h = .rows E' M L:=e'
  rw[Co]at e';cases e'
  refine⟨ψ,λ_=>?_⟩
  rw[Co]
  exact⟨ω,by rw[Nat.zero_mul];rfl⟩
theorem Ayu (V:Da P T) {g:TI} {S:IntKind} {m:Nat} {v:Value} (h:Nat) (M:o.op = .makeSlice t x y) (ht:T t=some i) (hd:i.d = .slice e) (he:T e=some g) (hz:g.size=1) (hv:g.zero = [v]) (hx:ρ x = .val (.int k (m:Int))) (hy:ρ y = .val (.int S (m:Int))) (hb:g.bytes*m<=281474976710656) (hm:m<=16) : Cl P o ρ ⟨.vec h m,[(h,.none)],[(h,.cells e (replicate m (.val v)))]⟩:=by
 intro σ ι H F W w a next Q s j J hk
 have hn:H h = .none:=J (h,.none) ψ;have h1:=D6 hx (j x (by simp[M,Op.operands]));have h2:=D6 hy (j y (by simp[M,Op.operands]));obtain⟨U,u,z,k1,Z,k3,k4,k5,k6,R⟩:=En (V t i ht);rw[hd]at R;subst R;obtain⟨f,u',N,E,Y,D,B,A,l,X⟩:=En (V e g he);have b:=run_make (P:=P) w t e f N Z E D k S (m:Int) (m:Int) ω ω (by have h':((g.bytes*m:Nat):Int)<=281474976710656:=ω;rw[Int.natCast_mul]at h';rw[A];exact h') ω;rw[Int.toNat_natCast,B,hz,Nat.mul_one]at b;have G:N.cells = #[v]:=by apply Array.ext';rw[<-l,hv]
 rw[G]at b;obtain⟨s',le⟩:=s.newBox h hn e (replicate m (.val v)) (madeCells #[v] m) (by simp[madeCells]) (by intro q c u hq hu;have hc:=Fw hq;simp at hc;have L:q<m:=(by have:=(Gx.1 hq).1;simpa using this);have I:u=v:=(by unfold madeCells at hu;simp[L]at hu;rw[<-hu,Nat.mod_one];rfl);rw[hc.2,I];exact .of_val v);refine F7 (v:=.slice (some ⟨w.heap.size,0,none⟩) m m) ?_ (hk _ _ _ _ le s' ?_)
 .simp[execOp,M,h1,h2,b]
 .exact .vec h m _ (Co _ _ _)
theorem Ayv (E:Da P T) {b:TI} {z:IntKind} {c:Nat} (h:Nat) (D:o.op = .makeSlice t x y) (ht:T t=some i) (hd:i.d = .slice e) (he:T e=some b) (A:0<b.size) (hx:ρ x = .val (.int k (l:Int))) (hy:ρ y = .val (.int z (c:Int))) (g:l<=c) (hb:b.bytes*c<=281474976710656) (hc:c<=140737488355328) (j:Md b.size (Gb b)=true) (f:(Gb b).cells=b.zero.map .val) : Cl P o ρ ⟨.arr h l 0 l,[(h,.none)],[(h,.rows e b.size (replicate l (Gb b)))]⟩:=by obtain⟨u,G⟩:=Ov j;refine Ang E (Gb b) h D ht hd he A hx hy g hb hc u (by rw[<-u,f,length_map]) ?_;intro q I v hq B;have s:=G I (Fw hq);rw[f,getElem?_map,B]at hq;simp at hq;subst hq;exact⟨λσ=>.val v,s⟩
inductive Ht:List AV->List AV->Prop
 | nil:Ht [] []
 | same (c:AV) {l l':List AV} (h:Ht l l'):Ht (c::l) (c::l')
 | sl (s:Nat) {l l':List AV} (h:Ht l l'):Ht (.val (.slice none 0 0)::l) (.sl s []::l')
theorem Ht.spec {l g:List AV} (h:Ht l g):g.length=l.length/\∀(q:Nat) (c f:AV),l[q]? = some c->g[q]? = some f->f=c\/∃s,c = .val (.slice none 0 0)/\f = .sl s []:=by
 induction h with
 | nil=>exact⟨rfl,λq c f h=>by simp at h⟩
 | same c h ih=>refine⟨by simp[ih.1],λq a b h1 h2=>?_⟩;cases q with| zero=>cases h1;cases h2;exact .inl rfl| succ q=>exact ih.2 q a b h1 h2
 | sl s h ih=>refine⟨by simp[ih.1],λq a b h1 h2=>?_⟩;cases q with| zero=>cases h1;cases h2;exact .inr ⟨s,rfl,rfl⟩| succ q=>exact ih.2 q a b h1 h2
theorem Ayw (L:Da P T) {b:TI} {D:IntKind} {c:Nat} (j:AV) (h:Nat) (I:o.op = .makeSlice t x y) (ht:T t=some i) (hd:i.d = .slice e) (he:T e=some b) (E:0<b.size) (hx:ρ x = .val (.int k (l:Int))) (hy:ρ y = .val (.int D (c:Int))) (u:l<=c) (hb:b.bytes*c<=281474976710656) (hc:c<=140737488355328) (z:Md b.size (Gb b)=true) (f:(Gb b).cells=b.zero.map .val) (J:Ht (Gb b).cells j.cells) : Cl P o ρ ⟨.arr h l 0 l,[(h,.none)],[(h,.rows e b.size (replicate l j))]⟩:=by
 obtain⟨N,M⟩:=Ov z;obtain⟨S,B⟩:=J.spec;refine Ang L j h I ht hd he E hx hy u hb hc ω (by rw[<-N,f,length_map]) ?_;intro q R v hq G;have g:(Gb b).cells[q]? = some (.val v):=by rw[f,getElem?_map,G];rfl
 have A:=M _ (Fw g);rcases B q _ R g hq with rfl|⟨s,h1,rfl⟩
 .exact⟨λσ=>.val v,A⟩
 .cases h1;exact⟨λσ=>.nil s _ _,rfl⟩
end
section
variable {P:Program} {o:Oper} {ρ:Operand->AV} {a:Act} {w w':World} {next:Act->World->Prop} {Q:Exit->Act->World->Prop}
variable {F σ:A5} {ι:Cd} {H:Hp} {xs ys:List AV} {sz:Nat} {e t t' ty:TypeId} {i:TypeInfo} {v:Value} {W:World}
structure Me (P:Program) (w:World) (src:Value) (sz n:Nat) (Cm:List Value):Prop where
 len:∀d,(Builtin.lenOf src).run P {w with drawn:=d} = .ok n {w with drawn:=d}
 cells:∀d,(Builtin.firstCells sz n src).run P {w with drawn:=d} = .ok Cm.toArray {w with drawn:=d}
 size:Cm.length=n*sz
theorem K7 {i:TI} (h:I9 P t=some i) (hd:i.d = .slice e):∃u,P.underlying t=some u/\u = .slice e:=by obtain⟨c,u,z,q,f,l,k,j,g,b⟩:=En h;rw[hd]at b;exact⟨u,f,b⟩
theorem Anh {j:TypeDesc} (ht:P.underlying t=some (.slice e)) (l:P.underlying t'=some j) (k:(∃e',j = .slice e')\/j = .string) (hi:P.info? e=some i) (b:Addr) (c f n:Nat) (g:Value) (Cm:List Value) (s:Me P w g i.size n Cm) (h:c+n<=f) (q:(storeCells (b.add (c*i.size)) Cm).run P w = .ok () w') : (Builtin.append_ #[t,t'] ty #[.slice (some b) c f,g]).run P w = .ok (.slice (some b) (c+n) f) w':=by have h1:=s.len w.drawn;have h2:=s.cells w.drawn;have u:({w with drawn:=w.drawn}:World)=w:=rfl;rw[u]at h1 h2;rcases k with⟨e',rfl⟩|rfl <;> simp[Builtin.append_,run_underlying ht,run_underlying l,sizeOf,typeInfo,hi,h1,h,h2,q]
theorem Ayx {c:TypeDesc} (ht:P.underlying t=some (.slice e)) (g:P.underlying t'=some c) (f:(∃e',c = .slice e')\/c = .string) (hi:P.info? e=some i) (b:Value) (h:Me P w b i.size 0 []) : (Builtin.append_ #[t,t'] ty #[.slice none 0 0,b]).run P w = .ok (.slice none 0 0) w:=by have h1:=h.len w.drawn;have h2:=h.cells w.drawn;have j:({w with drawn:=w.drawn}:World)=w:=rfl;rw[j]at h1 h2;rcases f with⟨e',rfl⟩|rfl <;> simp[Builtin.append_,run_underlying ht,run_underlying g,sizeOf,typeInfo,hi,h1,h2]
theorem Aia {k:TypeDesc} {z:Value} (ht:P.underlying t=some (.slice e)) (q:P.underlying t'=some k) (l:(∃e',k = .slice e')\/k = .string) (hi:P.info? e=some i) (u:i.zero=some z) (p:Option Addr) (b c n:Nat) (g:Value) (f Cm:List Value) (s:Me P w g i.size n Cm) (x:Me P w (.slice p b c) i.size b f) (hg:c<b+n) (A:b+n<=9223372036854775807) (hb:(b+n)*i.bytes<=140737488355328) : (Builtin.append_ #[t,t'] ty #[.slice p b c,g]).run P w =
   .ok (.slice (some ⟨w.heap.size,0,none⟩) (b+n) (grownCap w (b+n) c e)) (w.drew.alloc (.cells ((f++Cm).toArray++Builtin.zeroCells z.cells (grownCap w (b+n) c e-(b+n))) e)):=by
 have h1:=s.len w.drawn;have h2:=s.cells (w.drawn+1);have h3:=x.cells (w.drawn+1);have D:({w with drawn:=w.drawn}:World)=w:=rfl;have B:({w with drawn:=w.drawn+1}:World)=w.drew:=rfl;rw[D]at h1;rw[B]at h2 h3;have y:¬(b+n<=c):=ω;have h:¬(9223372036854775807<((b:Int)+(n:Int))):=ω;have j:¬(281474976710656<Builtin.nextslicecap (b+n) c*i.bytes):=by have:=growslice_fits hg hb;omega
 rcases l with⟨e',rfl⟩|rfl <;> simp[Builtin.append_,run_underlying ht,run_underlying q,sizeOf,typeInfo,zeroValue,hi,u,h1,y,h,j,Question.forced,h2,h3,newRow,grownCap] <;>
 (congr 2;apply Array.ext';simp[append_assoc])
theorem Aco (w:World) (b c:Nat) (e:TypeId):b<=grownCap w b c e:=by unfold grownCap;show b<=b+_;omega
theorem Acp (s:St σ ι H F W w) (u:0<sz) (hc:CC σ (.sl sz ys) v) : ∃(Cm:List Value) (g:Nat->Nat->Value),Me P w v sz ys.length Cm/\(∀(i:Nat) (x:AV),ys[i]? = some x->x.cells.length=sz) /\ (∀(i:Nat) (x:AV) (j:Nat) (c:AV),ys[i]? = some x->x.cells[j]? = some c->CC σ c (g i j)/\Fj (g i j)=true)/\(∀(i j:Nat),i<ys.length->j<sz->Cm[i*sz+j]? = some (g i j)):=by
 rcases hc.sl_inv with⟨rfl,p,cap,rfl⟩|⟨b,off,cap,C,E,fr,g,rfl,z,A,l,B,I,y⟩
 .refine⟨[],λ_ _=>undef,⟨λd=>by simp[Builtin.lenOf],λd=>?_,ψ⟩,ψ,ψ,ψ⟩;cases p with| none=>simp[Builtin.firstCells]| some a=>simp[Builtin.firstCells,loadCells,loadCellsFrom]
 .refine⟨(range (ys.length*sz)).map λq=>g (q / sz) (q % sz),g,⟨λd=>by simp[Builtin.lenOf],λd=>?_,ψ⟩,A,l,λi j hi hj=>?_⟩
  .have hb:({w with drawn:=d}:World).heap[b]? = some (.cells C E fr):=s.sto _ _ z;have:=run_loadCells (P:=P) {w with drawn:=d} ⟨b,off,none⟩ (ys.length*sz) (λq=>g (q / sz) (q % sz)) (by intro q hq;rw[K5,Kp hb];have h:q / sz<ys.length:=Nat.div_lt_of_lt_mul (by rwa [Nat.mul_comm]at hq);have f:q % sz<sz:=Nat.mod_lt _ u;have:=B (q / sz) (q % sz) h f;rw[<-this];congr 1;have:=Nat.div_add_mod q sz;rw[Nat.mul_comm]at this;omega);simp only[Builtin.firstCells];exact this
  .have k:i*sz+j<ys.length*sz:=(by have:(i+1)*sz<=ys.length*sz:=Nat.mul_le_mul_right _ ω;rw[E2]at this;omega);rw[getElem?_map,getElem?_range k];have G:(i*sz+j) / sz=i:=(by rw[Nat.mul_comm,Nat.mul_add_div u,Nat.div_eq_of_lt hj];omega);have D:(i*sz+j) % sz=j:=(by rw[Nat.mul_comm,Nat.mul_add_mod,Nat.mod_eq_of_lt hj]);simp[G,D]
theorem I8.append {C q:Array Value} (hx:I8 σ sz xs C) (f:Nat->Nat->Value) (h1:∀(i:Nat) (x:AV),ys[i]? = some x->x.cells.length=sz) (h2:∀(i:Nat) (x:AV) (j:Nat) (c:AV),ys[i]? = some x->x.cells[j]? = some c->CC σ c (f i j)/\Fj (f i j)=true) (l:∀k:Nat,k<xs.length*sz->q[k]? = C[k]?) (h:∀(i j:Nat),i<ys.length->j<sz->q[(xs.length+i)*sz+j]? = some (f i j)):I8 σ sz (xs++ys) q:=by
 obtain⟨g,y,u,s⟩:=hx;refine⟨λi j=>if i<xs.length then g i j else f (i-xs.length) j,?_,?_,?_⟩
 .intro i x hi;by_cases b:i<xs.length
  .rw[getElem?_append_left b]at hi;exact y i x hi
  .rw[getElem?_append_right ω]at hi;exact h1 _ x hi
 .intro i x j c hi hj;by_cases b:i<xs.length
  .rw[getElem?_append_left b]at hi;simp only[if_pos b];exact u i x j c hi hj
  .rw[getElem?_append_right ω]at hi;simp only[if_neg b];exact h2 _ x j c hi hj
 .intro i j hi hj;by_cases b:i<xs.length
  .simp only[if_pos b];rw[l _ (by have:(i+1)*sz<=xs.length*sz:=Nat.mul_le_mul_right _ ω;rw[E2]at this;omega)];exact s i j b hj
  .simp only[if_neg b];have:=h (i-xs.length) j (by simp at hi;omega) hj;rwa [show xs.length+(i-xs.length)=i by omega]at this
theorem Acq (s:St σ ι H F W w) {i:TI} {u':TypeDesc} (ht:P.underlying t=some (.slice e)) (N:P.underlying t'=some u') (M:(∃e',u' = .slice e')\/u' = .string) (he:I9 P e=some i) (hz:0<i.size) (ac:i.zero.length=i.size) {h:Nat} (Y:H h = .rows e i.size xs) {y:Value} (Z:Hs (ι h) i.size 0 xs.length v) (ah:1<=i.bytes) (hb:(xs.length+ys.length)*i.bytes<=140737488355328) {Cm:List Value} {g:Nat->Nat->Value} (D:Me P w y i.size ys.length Cm) (h1:∀(l:Nat) (x:AV),ys[l]? = some x->x.cells.length=i.size) (h2:∀(l:Nat) (x:AV) (j:Nat) (c:AV),ys[l]? = some x->x.cells[j]? = some c->CC σ c (g l j)/\Fj (g l j)=true) (h3:∀(l j:Nat),l<ys.length->j<i.size->Cm[l*i.size+j]? = some (g l j)) (a6:∀u∈Cm,Fj u=true) : ∃(ι':Cd) (v':Value) (w':World),(Builtin.append_ #[t,t'] ty #[v,y]).run P w = .ok v' w'/\Le σ ι H σ ι' (Ba H h (.rows e i.size (xs++ys)))/\St σ ι' (Ba H h (.rows e i.size (xs++ys))) F W w' /\ Hs (ι' h) i.size 0 (xs.length+ys.length) v':=by
 obtain⟨R,u,z,k1,k2,k3,S,k5,k6,k7⟩:=En he;have q:xs.length+ys.length<=140737488355328:=by have:(xs.length+ys.length)*1<=(xs.length+ys.length)*i.bytes:=Nat.mul_le_mul_left _ ah;omega
 have ad:z.cells.size=i.size:=by rw[<-ac,k6];simp
 have B:∀n,(Builtin.zeroCells z.cells n).size=n*i.size:=by intro n;simp[Builtin.zeroCells,ad]
 have G:=s.obj h;unfold C2 at G;rw[Y]at G;obtain⟨_,_,G⟩:=G;unfold Hs at Z;split at Z
 .rename_i a8;obtain⟨rfl,_,af⟩:=Z;have ae:xs = []:=eq_nil_of_length_eq_zero af;subst ae;by_cases hy:ys = []
  .subst hy;have X:Cm = []:=eq_nil_of_length_eq_zero (by rw[D.size];simp);subst X;refine⟨ι,.slice none 0 0,w,Ayx ht N M k1 y (by rw[S];exact D),?_,?_,?_⟩
   .rw[append_nil,<-Y,Je];exact Le.refl _ _ _
   .rw[append_nil,<-Y,Je];exact s
   .rw[a8];exact⟨rfl,rfl,rfl⟩
  .have hpos:0<ys.length:=length_pos_iff.2 hy;have ho:Me P w (.slice none 0 0) R.size 0 []:=⟨λd=>by simp[Builtin.lenOf],λd=>by simp[Builtin.firstCells],ψ⟩;have V:=Aia (P:=P) (ty:=ty) (w:=w) ht N M k1 k3 none 0 0 ys.length y [] Cm (by rw[S];exact D) ho ω (by simp at q;omega) (by rw[k5];simpa using hb);rw[Nat.zero_add,nil_append]at V;have hge:=Aco w ys.length 0 e;obtain⟨s',le⟩:=(s.drew (w.drawn+1)).newRows h e i.size ([]++ys) (grownCap w ys.length 0 e) (Cm.toArray++Builtin.zeroCells z.cells (grownCap w ys.length 0 e-ys.length)) (.inr ⟨e,i.size,[],Y,by simpa using hpos⟩) hz (by simpa using q) (by simpa using hge) (by rw[Array.size_append,B];simp[D.size,<-E2];rw[Nat.add_sub_cancel' hge]) ⟨g,(by simpa using h1),(by simpa using h2),(by intro l j hi hj;simp only[nil_append]at hi;have I:l*i.size+j<Cm.length:=(by have:(l+1)*i.size<=ys.length*i.size:=Nat.mul_le_mul_right _ ω;rw[E2]at this;rw[D.size];omega);rw[Array.getElem?_append_left (by simpa using I),getElem?_toArray];exact h3 l j hi hj)⟩;refine⟨_,_,_,V,le,s',?_⟩;rw[Co];simp only[length_nil,Nat.zero_add];exact⟨ω,by rw[Nat.zero_mul];rfl⟩
 .rename_i b f A;obtain⟨ag,rfl⟩:=Z;rcases G with⟨e1,_⟩|⟨b',ai,C,e1,p1,p2,p3,p4,p5,p6⟩
  .rw[A]at e1;cases e1
  rw[A]at e1;cases e1;by_cases L:xs.length+ys.length<=f
  .have U:xs.length*i.size+Cm.length<=C.size:=(by rw[D.size,<-E2,p4];exact Nat.mul_le_mul_right _ L);have a1:=run_storeCells_at (P:=P) b (xs.length*i.size) e Cm 0 C w p3 (by simpa using U) (λu hu=>by rw[Ahy];exact a6 u hu);simp only[Nat.add_zero]at a1;have V:=Anh (P:=P) (ty:=ty) (w:=w) ht N M k1 ⟨b,0,none⟩ xs.length f ys.length y Cm (by rw[S];exact D) L (by rw[K5,Nat.zero_add,S];exact a1);have E:I8 σ i.size (xs++ys) (C.toList.take (xs.length*i.size)++Cm++C.toList.drop (xs.length*i.size+Cm.length)).toArray:=by
    refine I8.append p6 g h1 h2 ?_ ?_
    .intro k hk;rw[Vo _ _ _ U,if_pos hk]
    .intro l j hi hj;have I:l*i.size+j<Cm.length:=(by have:(l+1)*i.size<=ys.length*i.size:=Nat.mul_le_mul_right _ ω;rw[E2]at this;rw[D.size];omega);have e2:(xs.length+l)*i.size+j=xs.length*i.size+(l*i.size+j):=(by rw[E2];omega);rw[Vo _ _ _ U,e2,if_neg ω,if_pos ω,Nat.add_sub_cancel_left];exact h3 l j hi hj
   have ab:(C.toList.take (xs.length*i.size)++Cm++C.toList.drop (xs.length*i.size+Cm.length)).toArray.size=f*i.size:=ζ;by_cases hy:ys = []
   .subst hy;obtain⟨s',le⟩:=s.setRows h e i.size xs (xs++[]) Y b f A ψ _ ab E;refine⟨ι,_,_,by simpa using V,le,s',?_⟩;rw[A];exact⟨by simpa using ag,ψ⟩
   .have hpos:0<ys.length:=length_pos_iff.2 hy;obtain⟨s',le⟩:=s.growIn h e i.size xs (xs++ys) Y b f A ζ (by simpa using q) (by simpa using L) _ ab E;refine⟨ι,_,_,by simpa using V,le,s',?_⟩;rw[A];exact⟨ω,ψ⟩
  .have a7:Me P w (.slice (some ⟨b,0*i.size,none⟩) xs.length (f-0)) R.size xs.length (C.toList.take (xs.length*i.size)):=by
    refine⟨λd=>by simp[Builtin.lenOf],λd=>?_,?_⟩
    .have hb':({w with drawn:=d}:World).heap[b]? = some (.cells C e (0,0)):=p3;have J:(C.toList.take (xs.length*i.size)).length=xs.length*i.size:=(by have:C.toList.length=f*i.size:=(by rw[Array.length_toList,p4]);rw[length_take,this];exact Nat.min_eq_left (Nat.mul_le_mul_right _ p5));have:=run_loadCells_list (P:=P) {w with drawn:=d} ⟨b,0,none⟩ (C.toList.take (xs.length*i.size)) (by intro j u hj;have I:j<xs.length*i.size:=(by have:=(Gx.1 hj).1;omega);rw[H8 I,Ha]at hj;rw[K5,Nat.zero_add,Kp hb'];exact hj);rw[J]at this;simp only[Builtin.firstCells,Nat.zero_mul,S];exact this
    .have:C.toList.length=f*i.size:=(by rw[Array.length_toList,p4]);rw[S,length_take,this];exact Nat.min_eq_left (Nat.mul_le_mul_right _ p5)
   have V:=Aia (P:=P) (ty:=ty) (w:=w) ht N M k1 k3 (some ⟨b,0*i.size,none⟩) xs.length (f-0) ys.length y _ Cm (by rw[S];exact D) a7 ω ω (by rw[k5];exact hb);have hge:=Aco w (xs.length+ys.length) (f-0) e;have J:(C.toList.take (xs.length*i.size)).length=xs.length*i.size:=(by have:C.toList.length=f*i.size:=(by rw[Array.length_toList,p4]);rw[length_take,this];exact Nat.min_eq_left (Nat.mul_le_mul_right _ p5));have hpos:0<ys.length:=ω;have aa:(C.toList.take (xs.length*i.size)++Cm).length=(xs.length+ys.length)*i.size:=(by rw[length_append,J,D.size,E2]);obtain⟨s',le⟩:=(s.drew (w.drawn+1)).newRows h e i.size (xs++ys) (grownCap w (xs.length+ys.length) (f-0) e) ((C.toList.take (xs.length*i.size)++Cm).toArray++Builtin.zeroCells z.cells (grownCap w (xs.length+ys.length) (f-0) e-(xs.length+ys.length))) (.inr ⟨e,i.size,xs,Y,ζ⟩) hz (by simpa using q) (by simpa using hge) (by rw[Array.size_append,B,size_toArray,aa,<-E2,Nat.add_sub_cancel' hge]) (by
     refine I8.append p6 g h1 h2 ?_ ?_
     .intro k hk;rw[Array.getElem?_append_left (by rw[size_toArray,aa,E2];omega),getElem?_toArray,getElem?_append_left ω,H8 hk,Ha]
     .intro l j hi hj;have I:l*i.size+j<Cm.length:=(by have:(l+1)*i.size<=ys.length*i.size:=Nat.mul_le_mul_right _ ω;rw[E2]at this;rw[D.size];omega);have e2:(xs.length+l)*i.size+j=xs.length*i.size+(l*i.size+j):=(by rw[E2];omega);rw[Array.getElem?_append_left (by rw[size_toArray,length_append,J];omega),getElem?_toArray,e2,getElem?_append_right ω,J,Nat.add_sub_cancel_left];exact h3 l j hi hj);refine⟨_,_,_,V,le,s',?_⟩;rw[Co];exact⟨ω,by rw[Nat.zero_mul];rfl⟩
 .exact Z.elim
end
section
variable {P:Program} {o:Oper} {ρ:Operand->AV} {a:Act} {w w':World} {next:Act->World->Prop} {Q:Exit->Act->World->Prop}
variable {σ:A5} {T:C9} {m n:Int} {k:IntKind} {xs ys:List AV} {h sz:Nat} {x y:Operand} {D i:TI} {e e' t t':TypeId}
theorem Acr {n:Nat} {Cm:List Value} {g:Nat->Nat->Value} (k:0<sz) (s:Cm.length=n*sz) (l:ys.length=n) (h1:∀(b:Nat) (x:AV),ys[b]? = some x->x.cells.length=sz) (h2:∀(b:Nat) (x:AV) (j:Nat) (c:AV),ys[b]? = some x->x.cells[j]? = some c->CC σ c (g b j)/\Fj (g b j)=true) (h3:∀(b j:Nat),b<ys.length->j<sz->Cm[b*sz+j]? = some (g b j)) : ∀u∈Cm,Fj u=true:=by
 intro u hu;obtain⟨q,hq⟩:=getElem?_of_mem hu;have i:=(Gx.1 hq).1;have h:q / sz<ys.length:=by rw[l];exact Nat.div_lt_of_lt_mul (by rw[s,Nat.mul_comm]at i;exact i)
 have f:q % sz<sz:=Nat.mod_lt _ k;have e:=h3 (q / sz) (q % sz) h f;rw[show q / sz*sz+q % sz=q by have:=Nat.div_add_mod q sz;rw[Nat.mul_comm]at this;omega,hq]at e;cases e;have hx:=getElem?_eq_getElem h;have hc:(q % sz)<(ys[q / sz]).cells.length:=by rw[h1 _ _ hx];exact f
 exact (h2 _ _ _ _ hx (getElem?_eq_getElem hc)).2
theorem Vp {ty:TypeId} (g:o.op = .call {callee:=.builtin .append,args:=#[x,y],argTypes:=#[t,t']}) (b:o.type=ty) {c:Value} (f:(Builtin.append_ #[t,t'] ty #[a.eval x,a.eval y]).run P w = .ok c w') : (execOp a.eval o).run P w = .ok (.value c) w':=by subst b;simp[execOp,g,resolve,invoke,builtin,f]
theorem Ani (U:Da P T) {c:TI} {k:Nat} (N:o.op = .call {callee:=.builtin .append,args:=#[x,y],argTypes:=#[t,t']}) (ht:T t=some i) (hd:i.d = .slice e) (L:T t'=some D) (R:D.d = .slice e') (he:T e=some c) (G:0<c.size) (E:c.zero.length=c.size) (S:1<=c.bytes) (hx:ρ x = .arr h k 0 k) (f:xs.length=k) (hy:ρ y = .sl c.size ys) (hb:(xs.length+ys.length)*c.bytes<=140737488355328) : Cl P o ρ ⟨.arr h (k+ys.length) 0 (k+ys.length),[(h,.rows e c.size xs)],[(h,.rows e c.size (xs++ys))]⟩:=by
 intro σ ι H F W w a next Q s q M hk
 have Y:H h = .rows e c.size xs:=M (h,.rows e c.size xs) ψ;have l:=q x (by simp[N,Op.operands,Call.operands]);have j:=q y (by simp[N,Op.operands,Call.operands]);rw[hx]at l;rw[hy]at j;have V:=l.arr_inv Y f;rw[<-f]at V;obtain⟨u1,J,e1⟩:=K7 (U t i ht) hd;obtain⟨u2,I,e2⟩:=K7 (U t' D L) R;subst e1;subst e2;obtain⟨Cm,g,X,h1,h2,h3⟩:=Acp (P:=P) s G j.sl_inv;obtain⟨Z,A,w',hr,le,s',b⟩:=Acq (P:=P) (ty:=o.type) s J I (.inl ⟨_,rfl⟩) (U e c he) G E Y V S hb X h1 h2 h3 (Acr G X.size rfl h1 h2 h3);refine F7 (Vp N rfl hr) (hk σ Z A w' le s' ?_);have u:Fj A=true:=by
  unfold Hs at b;split at b
  .rw[b.1];rfl
  .rw[b.2];rfl
  .exact b.elim
 refine .arr _ _ _ _ A (by show Ba H h _ h≠_;rw[Co];intro e;cases e) (λE' B z e'=>?_) u;have e':Ba H h _ h = .rows E' B z:=e';rw[Co]at e';cases e';refine⟨by rw[length_append];omega,λ_=>?_⟩;rw[f]at b;exact b
def Kb (s:ByteArray):List AV:=s.data.toList.map λb=>.val (.int .u8 b.toNat)
theorem Ayy (s:ByteArray):(Kb s).length=s.size:=by unfold Kb;rw[length_map,Array.length_toList];rfl
theorem Ayz (s:ByteArray):∃(Cm:List Value) (g:Nat->Nat->Value),Me P w (.string s) 1 (Kb s).length Cm/\(∀(i:Nat) (x:AV),(Kb s)[i]? = some x->x.cells.length=1) /\ (∀(σ:A5) (i:Nat) (x:AV) (j:Nat) (c:AV),(Kb s)[i]? = some x->x.cells[j]? = some c->CC σ c (g i j)/\Fj (g i j)=true)/\∀(i j:Nat),i<(Kb s).length->j<1->Cm[i*1+j]? = some (g i j):=by
 have f:=Ayy s;refine⟨Lib.strCells s,λi _=>.int .u8 ((s.data.toList.getD i 0).toNat),⟨λd=>?_,λd=>?_,?_⟩,?_,?_,?_⟩
 .rw[f];simp[Builtin.lenOf]
 .rw[f];exact Lib.run_firstCells_string _ 1 s
 .rw[f,Lib.strCells_length];omega
 .intro i x hx;simp only[Kb,getElem?_map,Option.map_eq_some_iff]at hx;obtain⟨b,_,rfl⟩:=hx;rfl
 .intro σ i x j c hx hc;simp only[Kb,getElem?_map,Option.map_eq_some_iff]at hx;obtain⟨b,hb,rfl⟩:=hx;simp only[AV.cells]at hc;cases j with
  | zero=>simp at hc;subst hc;have e:s.data.toList.getD i 0=b:=(by rw[getD_eq_getElem?_getD,hb];rfl);dsimp only;rw[e];exact⟨.val _,rfl⟩
  | succ j=>simp at hc
 .intro i j hi hj;have hj:j=0:=ω;subst hj;have hi:i<s.data.toList.length:=(by unfold Kb at hi;rwa [length_map]at hi);have e:s.data.toList.getD i 0=s.data.toList[i]:=(by rw[getD_eq_getElem?_getD,getElem?_eq_getElem hi];rfl);dsimp only;rw[e];unfold Lib.strCells;rw[Nat.mul_one,Nat.add_zero,getElem?_map,getElem?_eq_getElem hi];rfl
theorem Ay0 (U:Da P T) {c B:TI} {k:Nat} {s:ByteArray} (N:o.op = .call {callee:=.builtin .append,args:=#[x,y],argTypes:=#[t,t']}) (ht:T t=some i) (hd:i.d = .slice e) (J:T t'=some B) (R:B.d = .string) (he:T e=some c) (hz:c.size=1) (D:c.zero.length=c.size) (S:1<=c.bytes) (hx:ρ x = .arr h k 0 k) (f:xs.length=k) (hy:ρ y = .val (.string s)) (hb:(xs.length+(Kb s).length)*c.bytes<=140737488355328) : Cl P o ρ ⟨.arr h (k+(Kb s).length) 0 (k+(Kb s).length),[(h,.rows e c.size xs)],[(h,.rows e c.size (xs++Kb s))]⟩:=by
 intro σ ι H F W w a next Q st l M hk
 have X:H h = .rows e c.size xs:=M (h,.rows e c.size xs) ψ;have j:=l x (by simp[N,Op.operands,Call.operands]);have E:=D6 hy (l y (by simp[N,Op.operands,Call.operands]));rw[hx]at j;have V:=j.arr_inv X f;rw[<-f]at V;obtain⟨u1,I,e1⟩:=K7 (U t i ht) hd;obtain⟨_,u2,_,_,G,_,_,_,_,Y⟩:=En (U t' B J);rw[R]at Y;subst e1;subst Y;obtain⟨Cm,g,L,h1,h2,h3⟩:=Ayz (P:=P) (w:=w) s;rw[<-hz]at L h1 h3;obtain⟨Z,z,w',hr,le,s',b⟩:=Acq (P:=P) (ty:=o.type) st I G (.inr rfl) (U e c he) ω D X V S hb L h1 (h2 σ) h3 (Acr ω L.size rfl h1 (h2 σ) h3);refine F7 (Vp N rfl (by rw[E];exact hr)) (hk σ Z z w' le s' ?_);have q:Fj z=true:=by
  unfold Hs at b;split at b
  .rw[b.1];rfl
  .rw[b.2];rfl
  .exact b.elim
 refine .arr _ _ _ _ z (by show Ba H h _ h≠_;rw[Co];intro e;cases e) (λE' A u e'=>?_) q;have e':Ba H h _ h = .rows E' A u:=e';rw[Co]at e';cases e';refine⟨by rw[length_append];omega,λ_=>?_⟩;rw[f]at b;exact b
theorem Ay1 (U:Da P T) {c:TI} (h:Nat) (N:o.op = .call {callee:=.builtin .append,args:=#[x,y],argTypes:=#[t,t']}) (ht:T t=some i) (hd:i.d = .slice e) (J:T t'=some D) (R:D.d = .slice e') (he:T e=some c) (l:0<c.size) (E:c.zero.length=c.size) (S:1<=c.bytes) (hx:ρ x = .val (.slice none 0 0)) (hy:ρ y = .sl c.size ys) (hb:ys.length*c.bytes<=140737488355328) : Cl P o ρ ⟨.arr h ys.length 0 ys.length,[(h,.none)],[(h,.rows e c.size ys)]⟩:=by
 intro σ ι H F W w a next Q s j L hk
 have Z:H h = .none:=L (h,.none) ψ;have M:=D6 hx (j x (by simp[N,Op.operands,Call.operands]));have f:=j y (by simp[N,Op.operands,Call.operands]);rw[hy]at f;obtain⟨u1,I,e1⟩:=K7 (U t i ht) hd;obtain⟨u2,G,e2⟩:=K7 (U t' D J) R;subst e1;subst e2;obtain⟨s0,B⟩:=s.newNil h Z e c.size l;obtain⟨Cm,g,V,h1,h2,h3⟩:=Acp (P:=P) s0 l f.sl_inv;obtain⟨X,z,w',Y,le,s',b⟩:=Acq (P:=P) (ty:=o.type) (v:=.slice none 0 0) (xs:=[]) s0 I G (.inl ⟨_,rfl⟩) (U e c he) l E (Co _ _ _) (by rw[Co];exact⟨rfl,rfl,rfl⟩) S (by simpa using hb) V h1 h2 h3 (Acr l V.size rfl h1 h2 h3);have hH:Ba (Ba H h (.rows e c.size [])) h (.rows e c.size ([]++ys))=Ba H h (.rows e c.size ys):=by
  funext m;by_cases q:m=h
  .subst q;rw[Co,Co];rfl
  .rw[Dh _ _ q,Dh _ _ q,Dh _ _ q]
 rw[hH]at le s';simp only[length_nil,Nat.zero_add]at b;refine F7 (Vp N rfl (by rw[M];exact Y)) (hk σ X z w' (B.trans le) s' ?_);have k:Fj z=true:=by
  unfold Hs at b;split at b
  .rw[b.1];rfl
  .rw[b.2];rfl
  .exact b.elim
 refine .arr _ _ _ _ z (by show Ba H h _ h≠_;rw[Co];intro e;cases e) (λE' A u e'=>?_) k;have e':Ba H h _ h = .rows E' A u:=e';rw[Co]at e';cases e';exact⟨Nat.le_refl _,λ_=>b⟩
theorem St.freeze {ι:Cd} {H:Hp} {F:A5} {W:World} (s:St σ ι H F W w) {E:TypeId} (L:H h = .rows E sz xs) : ∃u,Le σ ι H u ι (Ba H h .dead)/\St u ι (Ba H h .dead) F W w /\ ∀off len v,off+len<=xs.length->Hs (ι h) sz off len v->CC u (.sl sz ((xs.drop off).take len)) v:=by
 have k:=s.obj h;unfold C2 at k;rw[L]at k;obtain⟨hz,hm,k⟩:=k;have f:∀u,σ.le u->Le σ ι H u ι (Ba H h .dead):=by intro u Y;have:=Le.upd (ι:=ι) (H:=H) Y h (ι h) .dead ⟨λ_ e=>e,(λ_ e=>by cases e),(λ_ E1 N M e=>by cases e)⟩;rwa [Je]at this
 rcases k with⟨D,e2⟩|⟨b,G,C,D,X,V,U,p4,p5,g,S,I,R⟩
 .subst e2;refine⟨σ,f σ (A5.le_refl _),?_,?_⟩
  .obtain⟨f1,f2⟩:=s.fresh;exact s.touch h w.heap.size (λ_ _=>rfl) (λx e=>Dh _ _ e) (f σ (A5.le_refl _)) (λ_ _=>rfl) (λ_ _=>rfl) (λo A=>by rw[f1]at A;cases A) (λx e i hb=>by have:=(s.block i hb).1;omega) f2 (λb i hb=>by rw[Co]at i;cases i) (by unfold C2;rw[Co];trivial) rfl rfl rfl
  .intro off len v q z;rw[D]at z;obtain⟨rfl,rfl,rfl⟩:=z;simp only[drop_nil,take_nil];exact .nil sz none 0
 .have q:σ.le (Ba σ b (some (.cells C E))):=(by intro b' o' hb';rw[Dh _ _ (by intro e;subst e;rw[X]at hb';cases hb')];exact hb');refine⟨Ba σ b (some (.cells C E)),f _ q,?_,?_⟩
  .refine s.touch h b (λ_ _=>rfl) (λx e=>Dh _ _ e) (f _ q) (λ_ _=>rfl) (λx e=>Dh _ _ e) (λo A=>by rw[Co]at A;cases A;exact U)
    (λx e i hb=>e (s.inj x h b i (by rw[L];rfl) hb (by rw[D];rfl))) V (λb' i hb=>by rw[Co]at i;cases i) (by unfold C2;rw[Co];trivial) rfl rfl rfl
  .intro off len v J z;rw[D]at z;obtain⟨_,rfl⟩:=z;have i:((xs.drop off).take len).length=len:=ζ;have l:∀(n:Nat) (y:AV),((xs.drop off).take len)[n]? = some y->n<len/\xs[off+n]? = some y:=(by intro n y hy;have B:n<len:=(by have:=(Gx.1 hy).1;omega);rw[H8 B,getElem?_drop]at hy;exact⟨B,hy⟩);have:=CC.sl (σ:=Ba σ b (some (.cells C E))) ((xs.drop off).take len) b (off*sz) (G-off) sz C E (0,0) (λn j=>g (off+n) j) (Co _ _ _)
    (λn y hy=>S _ y (l n y hy).2) (λn y j c hy hj=>((I _ y j c (l n y hy).2 hj).1).mono q) (λn y j c hy hj=>(I _ y j c (l n y hy).2 hj).2) (λn j Z hj=>by rw[i]at Z;have:=R (off+n) j ω hj;rw[E2]at this;exact this) (by rw[i];omega) (by rw[i];omega);rw[i]at this;exact this
theorem Ay2 (z:Da P T) {b:TI} (h:Nat) (q:o.op = .assign x) (hx:ρ x = .val (.slice none 0 0)) (ht:T o.type=some i) (_hd:i.d = .slice e) (he:T e=some b) (u:0<b.size) : Cl P o ρ ⟨.arr h 0 0 0,[(h,.none)],[(h,.rows e b.size [])]⟩:=by
 intro σ ι H F W w a next Q s l j hk
 have _:=z;have _:=ht;have _:=he
 have y:H h = .none:=j (h,.none) ψ;have k:=D6 hx (l x (by simp[q,Op.operands]));obtain⟨s0,g⟩:=s.newNil h y e b.size u;refine F7 (v:=.slice none 0 0) (by simp[execOp,q,k]) (hk σ _ _ w g s0 ?_);refine .arr _ _ _ _ _ (by show Ba H h _ h≠_;rw[Co];intro e;cases e) (λA f c e'=>?_) rfl;have e':Ba H h _ h = .rows A f c:=e';rw[Co]at e';cases e';exact⟨ψ,λ_=>by rw[Co];exact⟨rfl,rfl,rfl⟩⟩
theorem Ay3 {f:IntKind} (c:o.op = .call {callee:=.builtin .max,args:=#[x,y],argTypes:=#[t,t']}) (hx:ρ x = .val (.int k m)) (hy:ρ y = .val (.int f n)) : Cl P o ρ ⟨.val (.int k (if n>m then n else m)),[],[]⟩ := Fe λσ ι H a w b=>by have h1:=D6 hx (b x (by simp[c,Op.operands,Call.operands]));have h2:=D6 hy (b y (by simp[c,Op.operands,Call.operands]));exact⟨_,by simp[execOp,c,resolve,invoke,builtin,Builtin.max_,Builtin.max2,h1,h2],.of_val _⟩
theorem Ay4 {f:IntKind} (c:o.op = .call {callee:=.builtin .min,args:=#[x,y],argTypes:=#[t,t']}) (hx:ρ x = .val (.int k m)) (hy:ρ y = .val (.int f n)) : Cl P o ρ ⟨.val (.int k (if n<m then n else m)),[],[]⟩ := Fe λσ ι H a w b=>by have h1:=D6 hx (b x (by simp[c,Op.operands,Call.operands]));have h2:=D6 hy (b y (by simp[c,Op.operands,Call.operands]));exact⟨_,by simp[execOp,c,resolve,invoke,builtin,Builtin.min_,Builtin.min2,h1,h2],.of_val _⟩
end
section
variable {P:Program} {o:Oper} {ρ:Operand->AV} {a:Act} {w w':World} {next:Act->World->Prop} {Q:Exit->Act->World->Prop}
variable {F σ:A5} {T:C9} {ι:Cd} {H:Hp} {xs ys:List AV} {b d h j k off sz:Nat} {g:Nat->Nat->Value} {x y:Operand} {i l:TI} {α:Type} {E e e' t t' ty:TypeId} {v:Value} {W:World}
def G5 (xs:List α) (d:Nat) (ys:List α):List α:=xs.take d++ys++xs.drop (d+ys.length)
theorem Anj {xs ys:List α} (hd:d<=xs.length) (i:Nat):(G5 xs d ys)[i]? = if i<d then xs[i]? else if i<d+ys.length then ys[i-d]? else xs[i]?:=by
 unfold G5;have b:(xs.take d).length=d:=by rw[length_take];omega
 rw[append_assoc];by_cases h1:i<d
 .rw[if_pos h1,getElem?_append_left ω,H8 h1]
 .rw[if_neg h1,getElem?_append_right ω,b];by_cases h2:i<d+ys.length
  .rw[if_pos h2,getElem?_append_left ω]
  .rw[if_neg h2,getElem?_append_right ω,getElem?_drop];congr 1;omega
theorem Acs {xs ys:List α} (hd:d<=xs.length):(G5 xs d ys).length=max xs.length (d+ys.length):=by unfold G5;simp only[length_append,length_take,length_drop];omega
structure S5 (σ:A5) (sz:Nat) (ys:List AV) (Cm:List Value) (g:Nat->Nat->Value):Prop where
 len:Cm.length=ys.length*sz
 el:∀(i:Nat) (x:AV),ys[i]? = some x->x.cells.length=sz
 cc:∀(i:Nat) (x:AV) (j:Nat) (c:AV),ys[i]? = some x->x.cells[j]? = some c->CC σ c (g i j)/\Fj (g i j)=true
 at_:∀(i j:Nat),i<ys.length->j<sz->Cm[i*sz+j]? = some (g i j)
theorem I8.patch {C l:Array Value} {Cm:List Value} {z:Nat->Nat->Value} (hx:I8 σ sz xs C) (hd:d<=xs.length) (f:S5 σ sz ys Cm z) (b:∀q:Nat,q<d*sz\/(d+ys.length)*sz<=q->l[q]? = C[q]?) (k:∀q,q<ys.length*sz->l[d*sz+q]? = Cm[q]?):I8 σ sz (G5 xs d ys) l:=by
 obtain⟨g,y,u,s⟩:=hx
 refine⟨λi j=>if i<d then g i j else if i<d+ys.length then z (i-d) j else g i j,?_,?_,?_⟩
 .intro i x hi
  rw[Anj hd]at hi
  split at hi
  .exact y i x hi
  .split at hi
   .exact f.el _ x hi
   .exact y i x hi
 .intro i x j c hi hj
  rw[Anj hd]at hi
  dsimp only
  split at hi
  .rename_i h;rw[if_pos h];exact u i x j c hi hj
  .rename_i h
   rw[if_neg h]
   split at hi
   .rename_i h2;rw[if_pos h2];exact f.cc _ x j c hi hj
   .rename_i h2;rw[if_neg h2];exact u i x j c hi hj
 .intro i j hi hj
  rw[Acs hd]at hi
  dsimp only
  by_cases h:i<d
  .rw[if_pos h]
   have:(i+1)*sz<=d*sz:=Nat.mul_le_mul_right _ ω
   rw[E2]at this
   rw[b _ (.inl ω)];exact s i j ω hj
  .rw[if_neg h]
   by_cases h2:i<d+ys.length
   .rw[if_pos h2]
    have e:i*sz+j=d*sz+((i-d)*sz+j):=by
     have:i=d+(i-d):=ω
     conv=>lhs;rw[this,E2]
     omega
    have:(i-d+1)*sz<=ys.length*sz:=Nat.mul_le_mul_right _ ω
    rw[E2]at this
    rw[e,k _ ω]
    exact f.at_ _ j ω hj
   .rw[if_neg h2]
    have:(d+ys.length)*sz<=i*sz:=Nat.mul_le_mul_right _ ω
    rw[b _ (.inr ω)];exact s i j ω hj
theorem S5.one (b:0<sz) {Cm:List Value} (h:S5 σ sz ys Cm g):∀u∈Cm,Fj u=true:=Acr b h.len rfl h.el h.cc h.at_
theorem Aib (s:St σ ι H F W w) (z:H h = .rows e sz xs) {c:Nat} (hb:ι h = .blk b c) (hd:d<=xs.length) (x:d+ys.length<=c) (J:d+ys.length<=140737488355328) (G:0<sz) {Cm:List Value} (l:S5 σ sz ys Cm g) : ∃w',(storeCells (⟨b,d*sz,none⟩:Addr) Cm).run P w = .ok () w'/\Le σ ι H σ ι (Ba H h (.rows e sz (G5 xs d ys)))/\St σ ι (Ba H h (.rows e sz (G5 xs d ys))) F W w':=by
 obtain⟨C,E,D,I,B⟩:=s.rowsAt z hb;have A:xs.length<=140737488355328:=by have:=s.obj h;unfold C2 at this;rw[z]at this;exact this.2.1
 have j:d*sz+Cm.length<=C.size:=by rw[l.len,<-E2,D];exact Nat.mul_le_mul_right _ x
 have k:=run_storeCells_at (P:=P) b (d*sz) e Cm 0 C w E (by simpa using j) (λu hu=>by rw[Ahy];exact l.one G u hu);simp only[Nat.add_zero]at k;have f:I8 σ sz (G5 xs d ys) (C.toList.take (d*sz)++Cm++C.toList.drop (d*sz+Cm.length)).toArray:=by
  refine I8.patch B hd l ?_ ?_
  .intro q hq;rw[Vo _ _ _ j];rcases hq with hq|hq
   .rw[if_pos hq]
   .rw[E2]at hq;rw[if_neg ω,if_neg (by rw[l.len];omega)]
  .intro q hq;rw[Vo _ _ _ j,if_neg ω,if_pos (by rw[l.len];omega),Nat.add_sub_cancel_left]
 have y:(C.toList.take (d*sz)++Cm++C.toList.drop (d*sz+Cm.length)).toArray.size=c*sz:=by simp;omega
 have i:=Acs (ys:=ys) hd;by_cases L:d+ys.length<=xs.length
 .obtain⟨s',le⟩:=s.setRows h e sz xs (G5 xs d ys) z b c hb (by rw[i];omega) _ y f;exact⟨_,k,le,s'⟩
 .obtain⟨s',le⟩:=s.growIn h e sz xs (G5 xs d ys) z b c hb (by rw[i];omega) (by rw[i];omega) (by rw[i];omega) _ y f;exact⟨_,k,le,s'⟩
theorem Ank (s:St σ ι H F W w) (J:H h = .rows e sz xs) {len:Nat} (q:Hs (ι h) sz off len v) (N:off+len<=xs.length) (n:Nat) (M:n<=len) : ∃(Cm:List Value) (g:Nat->Nat->Value),(∃p c,v = .slice p len c)/\(∀d,(Builtin.firstCells sz n v).run P {w with drawn:=d} = .ok Cm.toArray {w with drawn:=d})/\S5 σ sz ((xs.drop off).take n) Cm g:=by
 have l:((xs.drop off).take n).length=n:=by simp;omega
 unfold Hs at q;split at q
 .obtain⟨rfl,rfl,rfl⟩:=q;obtain rfl:n=0:=ω;refine⟨[],λ_ _=>undef,⟨none,0,rfl⟩,λd=>by simp[Builtin.firstCells],⟨ψ,(λi x h=>by simp at h),(λi x j c h=>by simp at h),(λi j h=>by simp at h)⟩⟩
 .rename_i b z hb;obtain⟨I,rfl⟩:=q;obtain⟨C,G,E,L,g,D,B,A⟩:=s.rowsAt J hb;have k:((C.toList.drop (off*sz)).take (n*sz)).length=n*sz:=(by have h1:(off+n)*sz<=z*sz:=Nat.mul_le_mul_right _ ω;rw[E2]at h1;rw[length_take,length_drop,Array.length_toList,E];omega);have y:∀(i:Nat) (x:AV),((xs.drop off).take n)[i]? = some x->i<n/\xs[off+i]? = some x:=(by intro i x hx;have f:i<n:=(by have:=(Gx.1 hx).1;omega);rw[H8 f,getElem?_drop]at hx;exact⟨f,hx⟩);refine⟨(C.toList.drop (off*sz)).take (n*sz),λi j=>g (off+i) j,⟨_,_,rfl⟩,λd=>?_,⟨by rw[k,l],?_,?_,?_⟩⟩
  .have hb':({w with drawn:=d}:World).heap[b]? = some (.cells C e (0,0)):=G;have:=run_loadCells_list (P:=P) {w with drawn:=d} ⟨b,off*sz,none⟩ ((C.toList.drop (off*sz)).take (n*sz)) (by intro j u hj;have f:j<n*sz:=(by have:=(Gx.1 hj).1;omega);rw[H8 f,getElem?_drop,Ha]at hj;rw[K5,Kp hb'];exact hj);rw[k]at this;simp only[Builtin.firstCells];exact this
  .intro i x hx;exact D _ x (y i x hx).2
  .intro i x j c hx hj;exact B _ x j c (y i x hx).2 hj
  .intro i j hi hj;rw[l]at hi;have h1:(i+1)*sz<=n*sz:=Nat.mul_le_mul_right _ ω;rw[E2]at h1;rw[H8 ω,getElem?_drop,Ha];have:=A (off+i) j ω hj;rw[E2]at this;rw[<-this];congr 1;omega
 .exact q.elim
theorem Anl (s:St σ ι H F W w) {u':TypeDesc} (ht:P.underlying t=some (.slice e)) (M:P.underlying t'=some u') (L:(∃e',u' = .slice e')\/u' = .string) (he:I9 P e=some i) (hz:0<i.size) (U:i.zero.length=i.size) (hh:H h = .rows e i.size xs) {len:Nat} (hl:len<=xs.length) {E:Value} (hv:Hs (ι h) i.size 0 len v) (Z:1<=i.bytes) (hb:(xs.length+ys.length)*i.bytes<=140737488355328) {Cm:List Value} (hs:Me P w E i.size ys.length Cm) (D:S5 σ i.size ys Cm g) : ∃(ι':Cd) (v':Value) (w':World),(Builtin.append_ #[t,t'] ty #[v,E]).run P w = .ok v' w'/\Le σ ι H σ ι' (Ba H h (.rows e i.size (G5 xs len ys)))/\St σ ι' (Ba H h (.rows e i.size (G5 xs len ys))) F W w' /\ Hs (ι' h) i.size 0 (len+ys.length) v':=by
 obtain⟨R,u,z,k1,k2,k3,N,k5,k6,k7⟩:=En he;have a8:xs.length+ys.length<=140737488355328:=by have:(xs.length+ys.length)*1<=(xs.length+ys.length)*i.bytes:=Nat.mul_le_mul_left _ Z;omega
 by_cases B:len=xs.length
 .subst B;have e0:G5 xs xs.length ys=xs++ys:=(by unfold G5;rw[take_length,drop_eq_nil_of_le ω,append_nil]);rw[e0];exact Acq (P:=P) (ty:=ty) s ht M L he hz U hh hv Z hb hs D.el D.cc D.at_ (D.one hz)
 have l:=s.obj h;unfold C2 at l;rw[hh]at l;obtain⟨_,_,l⟩:=l;rcases l with⟨_,e2⟩|⟨b,f,C,e1,p1,p2,p3,p4,p5,p6⟩
 .subst e2;simp only[length_nil,Nat.le_zero]at hl;exact (B (by rw[hl];rfl)).elim
 rw[e1]at hv;obtain⟨aa,rfl⟩:=hv;by_cases I:len+ys.length<=f
 .obtain⟨w',a6,le,s'⟩:=Aib (P:=P) s hh e1 hl I ω hz D;have hr:=Anh (P:=P) (ty:=ty) (w:=w) ht M L k1 ⟨b,0,none⟩ len f ys.length E Cm (by rw[N];exact hs) I (by rw[K5,Nat.zero_add,N];exact a6);refine⟨ι,_,_,by simpa using hr,le,s',?_⟩;rw[e1];exact⟨ω,ψ⟩
 .have A:(C.toList.take (len*i.size)).length=len*i.size:=(by have:C.toList.length=f*i.size:=(by rw[Array.length_toList,p4]);rw[length_take,this];exact Nat.min_eq_left (Nat.mul_le_mul_right _ ω));have V:Me P w (.slice (some ⟨b,0*i.size,none⟩) len (f-0)) R.size len (C.toList.take (len*i.size)):=(by refine⟨λd=>by simp[Builtin.lenOf],λd=>?_,by rw[N];exact A⟩;have hb':({w with drawn:=d}:World).heap[b]? = some (.cells C e (0,0)):=p3;have:=run_loadCells_list (P:=P) {w with drawn:=d} ⟨b,0,none⟩ (C.toList.take (len*i.size)) (by intro j u hj;have y:j<len*i.size:=(by have:=(Gx.1 hj).1;omega);rw[H8 y,Ha]at hj;rw[K5,Nat.zero_add,Kp hb'];exact hj);rw[A]at this;simp only[Builtin.firstCells,Nat.zero_mul,N];exact this);have hr:=Aia (P:=P) (ty:=ty) (w:=w) ht M L k1 k3 (some ⟨b,0*i.size,none⟩) len (f-0) ys.length E _ Cm (by rw[N];exact hs) V ω ω (by rw[k5];exact Nat.le_trans (Nat.mul_le_mul_right _ ω) hb);have hge:=Aco w (len+ys.length) (f-0) e;have a1:z.cells.size=i.size:=(by rw[<-U,k6];simp);have J:∀n,(Builtin.zeroCells z.cells n).size=n*i.size:=(by intro n;simp[Builtin.zeroCells,a1]);have X:(C.toList.take (len*i.size)++Cm).length=(len+ys.length)*i.size:=(by rw[length_append,A,D.len,E2]);have e0:G5 xs len ys=xs.take len++ys:=(by unfold G5;rw[drop_eq_nil_of_le ω,append_nil]);have G:(xs.take len).length=len:=(by rw[length_take];omega);have a7:I8 σ i.size (xs.take len) C:=(by obtain⟨g,r1,r2,r3⟩:=p6;have Y:∀(q:Nat) (x:AV),(xs.take len)[q]? = some x->q<len/\xs[q]? = some x:=(by intro q x hx;have y:q<len:=(by have:=(Gx.1 hx).1;omega);rw[H8 y]at hx;exact⟨y,hx⟩);exact⟨g,λq x hx=>r1 q x (Y q x hx).2,λq x j c hx hj=>r2 q x j c (Y q x hx).2 hj,λq j hq hj=>r3 q j ω hj⟩);obtain⟨s',le⟩:=(s.drew (w.drawn+1)).newRows h e i.size (xs.take len++ys) (grownCap w (len+ys.length) (f-0) e) ((C.toList.take (len*i.size)++Cm).toArray++Builtin.zeroCells z.cells (grownCap w (len+ys.length) (f-0) e-(len+ys.length))) (.inr ⟨e,i.size,xs,hh,ζ⟩) hz (by rw[length_append,G];omega) (by rw[length_append,G];exact hge) (by rw[Array.size_append,J,size_toArray,X,<-E2,Nat.add_sub_cancel' hge]) (by
    refine I8.append a7 g D.el D.cc ?_ ?_
    .intro k hk;rw[G]at hk;rw[Array.getElem?_append_left (by rw[size_toArray,X,E2];omega),getElem?_toArray,getElem?_append_left ω,H8 hk,Ha]
    .intro S j hi hj;rw[G];have y:S*i.size+j<Cm.length:=(by have:(S+1)*i.size<=ys.length*i.size:=Nat.mul_le_mul_right _ ω;rw[E2]at this;rw[D.len];omega);have e2:(len+S)*i.size+j=len*i.size+(S*i.size+j):=(by rw[E2];omega);rw[Array.getElem?_append_left (by rw[size_toArray,length_append,A];omega),getElem?_toArray,e2,getElem?_append_right ω,A,Nat.add_sub_cancel_left];exact D.at_ S j hi hj);rw[e0];refine⟨_,_,_,hr,le,s',?_⟩;rw[Co];exact⟨ω,by rw[Nat.zero_mul];rfl⟩
theorem Anm {len:Nat} (i:len<=xs.length) (b:Hs (ι h) sz 0 len v):Conc σ ι (Ba H h (.rows e sz xs)) (.arr h xs.length 0 len) v:=by
 have c:Fj v=true:=by
  unfold Hs at b;split at b
  .rw[b.1];rfl
  .rw[b.2];rfl
  .exact b.elim
 refine .arr _ _ _ _ v (by rw[Co];intro e;cases e) (λj g f e'=>?_) c;rw[Co]at e';cases e';exact⟨Nat.le_refl _,λ_=>b⟩
theorem Ay5 (L:Da P T) {b:TI} {len:Nat} (E:o.op = .call {callee:=.builtin .append,args:=#[x,y],argTypes:=#[t,t']}) (ht:T t=some i) (hd:i.d = .slice e) (B:T t'=some l) (I:l.d = .slice e') (he:T e=some b) (M:0<b.size) (q:b.zero.length=b.size) (J:1<=b.bytes) (hx:ρ x = .arr h k 0 len) (G:xs.length=k) (hl:len<=k) (hy:ρ y = .sl b.size ys) (hb:(xs.length+ys.length)*b.bytes<=140737488355328) : Cl P o ρ ⟨.arr h (G5 xs len ys).length 0 (len+ys.length),[(h,.rows e b.size xs)],[(h,.rows e b.size (G5 xs len ys))]⟩:=by
 intro σ ι H F W w a next Q s j D hk
 have R:H h = .rows e b.size xs:=D (h,.rows e b.size xs) ψ;have f:=j x (by simp[E,Op.operands,Call.operands]);have c:=j y (by simp[E,Op.operands,Call.operands]);rw[hx]at f;rw[hy]at c;have V:=f.arr_inv R G;obtain⟨u1,A,Z⟩:=K7 (L t i ht) hd;obtain⟨u2,z,Y⟩:=K7 (L t' l B) I;subst Z;subst Y;obtain⟨Cm,g,N,h1,h2,h3⟩:=Acp (P:=P) s M c.sl_inv;obtain⟨S,U,w',X,le,s',u⟩:=Anl (P:=P) (ty:=o.type) s A z (.inl ⟨_,rfl⟩) (L e b he) M q R ω V J hb N ⟨N.size,h1,h2,h3⟩;exact F7 (Vp E rfl X) (hk σ S U w' le s' (Anm (by rw[Acs ω];omega) u))
theorem Ay6 {i:TypeInfo} {l:TypeDesc} (ht:P.underlying t=some (.slice e)) (j:P.underlying t'=some l) (h:(∃e',l = .slice e')\/l = .string) (hi:P.info? e=some i) (p:Option Addr) (c f:Nat) (g:Value) (s:Me P w g i.size 0 []) (k:c<=f) : (Builtin.append_ #[t,t'] ty #[.slice p c f,g]).run P w = .ok (.slice p c f) w:=by
 have h1:=s.len w.drawn;have h2:=s.cells w.drawn;have u:({w with drawn:=w.drawn}:World)=w:=rfl;rw[u]at h1 h2;cases p with
 | none=>rcases h with⟨e',rfl⟩|rfl <;> simp[Builtin.append_,run_underlying ht,run_underlying j,sizeOf,typeInfo,hi,h1,k,h2]
 | some b=>have q:(storeCells (b.add (c*i.size)) []).run P w = .ok () w:=(by rw[storeCells];rfl);rcases h with⟨e',rfl⟩|rfl <;> simp[Builtin.append_,run_underlying ht,run_underlying j,sizeOf,typeInfo,hi,h1,k,h2,q]
theorem Ay7 (y:Cl P o ρ ⟨.arr h k 0 k,[(h,.rows E sz xs)],[(h,.rows E sz ys)]⟩) (hk:ys.length=k):Cl P o ρ ⟨.sl sz ys,[(h,.rows E sz xs)],[(h,.dead)]⟩:=by
 intro σ ι H F W w a next Q s f c z
 refine y σ ι H F W w a next Q s f c ?_
 intro A u v w' le x hc;have j:Cq H [(h,Bn.rows E sz ys)] h = .rows E sz ys:=Co _ _ _;obtain⟨l,b,i,g⟩:=x.freeze j;have hu:Ba (Cq H [(h,Bn.rows E sz ys)]) h .dead=Cq H [(h,.dead)]:=by
  funext q;by_cases e:q=h
  .subst e;rw[Co];exact (Co _ _ _).symm
  .rw[Dh _ _ e];show Ba H h _ q=Ba H h _ q;rw[Dh _ _ e,Dh _ _ e]
 rw[hu]at b i;refine z l u v w' (le.trans b) i ?_;have:=g 0 k v ω (hc.arr_inv j hk);rw[drop_zero,take_of_length_le ω]at this;exact .cc this
theorem Ay8 (R:Da P T) {A:TI} (J:o.op = .call {callee:=.builtin .append,args:=#[x,y],argTypes:=#[t,t']}) (ht:T t=some i) (hd:i.d = .slice e) (G:T t'=some A) (N:A.d = .slice e') (he:T e=some l) (hz:0<l.size) (hx:ρ x = .sl sz xs) (hy:ρ y = .sl l.size []) : Cl P o ρ ⟨.sl sz xs,[],[]⟩:=by
 intro σ ι H F W w a next Q s j a1 hk
 have c:=j x (by simp[J,Op.operands,Call.operands]);have h:=j y (by simp[J,Op.operands,Call.operands]);rw[hx]at c;rw[hy]at h;obtain⟨u1,D,e1⟩:=K7 (R t i ht) hd;obtain⟨u2,B,e2⟩:=K7 (R t' A G) N;subst e1;subst e2;obtain⟨Cm,g,I,_,_,_⟩:=Acp (P:=P) s hz h.sl_inv;have L:Cm = []:=by have:=I.size;simp at this;exact this
 subst L;obtain⟨p,n,cap,f,M⟩:∃p n cap,a.eval x = .slice p n cap/\n<=cap:=by
  rcases c.sl_inv.sl_inv with⟨rfl,p,cap,f⟩|⟨b,off,cap,C,E,fr,g,f,hσ,I,a6,hC,hl,k⟩
  .exact⟨_,_,_,f,Nat.zero_le _⟩
  .exact⟨_,_,_,f,k⟩
 obtain⟨z,u',z',u,Z,Y,q,X,V,U⟩:=En (R e l he);have S:=Ay6 (P:=P) (w:=w) (ty:=o.type) D B (.inl ⟨_,rfl⟩) u p n cap (a.eval y) (by rw[q];exact I) M;rw[<-f]at S;exact F7 (Vp J rfl S) (hk σ ι _ w (Le.refl _ _ _) s c)
theorem Ay9 (Y:Da P T) {j D:TI} {len Z f:Nat} (R:o.op = .call {callee:=.builtin .append,args:=#[x,y],argTypes:=#[t,t']}) (ht:T t=some i) (hd:i.d = .slice e) (L:T t'=some D) (V:D.d = .slice e') (he:T e=some j) (hz:0<j.size) (E:j.zero.length=j.size) (X:1<=j.bytes) (hx:ρ x = .arr h k 0 len) (U:xs.length=k) (hl:len<=k) (hy:ρ y = .arr h Z f b) (S:xs.length=Z) (a1:f+b<=k) (hb:(xs.length+b)*j.bytes<=140737488355328) : Cl P o ρ ⟨.arr h (G5 xs len ((xs.drop f).take b)).length 0 (len+b),[(h,.rows e j.size xs)],[(h,.rows e j.size (G5 xs len ((xs.drop f).take b)))]⟩:=by
 intro σ ι H F W w a next Q s A M hk
 have B:H h = .rows e j.size xs:=M (h,.rows e j.size xs) ψ;have z:=A x (by simp[R,Op.operands,Call.operands]);have u:=A y (by simp[R,Op.operands,Call.operands]);rw[hx]at z;rw[hy]at u;have hv:=z.arr_inv B U;have G:=u.arr_inv B S;obtain⟨u1,J,e1⟩:=K7 (Y t i ht) hd;obtain⟨u2,I,e2⟩:=K7 (Y t' D L) V;subst e1;subst e2;have l:((xs.drop f).take b).length=b:=by simp;omega
 obtain⟨Cm,g,⟨p,c,N⟩,hf,hn⟩:=Ank (P:=P) s B G ω b (Nat.le_refl _);have hs:Me P w (a.eval y) j.size ((xs.drop f).take b).length Cm:=by
  refine⟨λd=>?_,λd=>?_,hn.len⟩
  .rw[N,l];simp[Builtin.lenOf]
  .rw[l];exact hf d
 obtain⟨ι',v',w',hr,le,s',q⟩:=Anl (P:=P) (ty:=o.type) s J I (.inl ⟨_,rfl⟩) (Y e j he) hz E B ω hv X (by rw[l];exact hb) hs hn;rw[l]at q;exact F7 (Vp R rfl hr) (hk σ ι' v' w' le s' (Anm (by rw[Acs ω,l];omega) q))
theorem Aic (g:o.op = .call {callee:=.builtin .copy,args:=#[x,y],argTypes:=#[t,t']}) (b:o.type=ty) {c:Value} (f:(Builtin.copy_ #[t,t'] ty #[a.eval x,a.eval y]).run P w = .ok c w') : (execOp a.eval o).run P w = .ok (.value c) w':=by subst b;simp[execOp,g,resolve,invoke,builtin,f]
theorem Aza (Z:Da P T) {len X f:Nat} (M:o.op = .call {callee:=.builtin .copy,args:=#[x,y],argTypes:=#[t,t']}) (ht:T t=some i) (hd:i.d = .slice e) (he:T e=some l) (hz:0<l.size) (hx:ρ x = .arr h k off len) (V:xs.length=k) (hl:off+len<=k) (hy:ρ y = .arr h X j f) (U:xs.length=X) (a7:j+f<=k) : Cl P o ρ ⟨.val (.int .i64 (min f len:Nat)),[(h,.rows e l.size xs)],[(h,.rows e l.size (G5 xs off ((xs.drop j).take (min f len))))]⟩:=by
 intro σ ι H F W w a next Q s I S hk
 have z:H h = .rows e l.size xs:=S (h,.rows e l.size xs) ψ;have G:=I x (by simp[M,Op.operands,Call.operands]);have E:=I y (by simp[M,Op.operands,Call.operands]);rw[hx]at G;rw[hy]at E;have q:=G.arr_inv z V;have N:=E.arr_inv z U;obtain⟨u1,B,e1⟩:=K7 (Z t i ht) hd;subst e1;have D:=Nv (Z e l he);have A:((xs.drop j).take (min f len)).length=min f len:=by simp;omega
 obtain⟨Cm,g,⟨p,c,u⟩,hf,hn⟩:=Ank (P:=P) s z N ω (min f len) ω;have hf:=hf w.drawn;have ew:({w with drawn:=w.drawn}:World)=w:=rfl;rw[ew,u]at hf;have Y:xs.length<=140737488355328:=by have:=s.obj h;unfold C2 at this;rw[z]at this;exact this.2.1
 have J:Nat.min f len=min f len:=rfl;unfold Hs at q;split at q
 .obtain⟨q,rfl,rfl⟩:=q;have e0:G5 xs 0 ((xs.drop j).take (min f 0))=xs:=(by simp[G5]);refine F7 (v:=.int .i64 ((min f 0:Nat):Int)) (Aic M rfl ?_) (hk σ ι _ w ?_ ?_ (.of_val _))
  .simp only[Builtin.copy_,q,u];simp[run_underlying B,Builtin.lenOf,D,hf,goInt];have L:=hf;simp at L;simp[L]
  .show Le σ ι H σ ι (Ba H h (.rows e l.size _));rw[e0,<-z,Je];exact Le.refl _ _ _
  .show St σ ι (Ba H h (.rows e l.size _)) F W w;rw[e0,<-z,Je];exact s
 .rename_i b a1 hb;obtain⟨a6,q⟩:=q;obtain⟨w',R,le,s'⟩:=Aib (P:=P) s z hb (d:=off) ω (by rw[A];omega) (by rw[A];omega) hz hn;refine F7 (v:=.int .i64 ((min f len:Nat):Int)) (Aic M rfl ?_) (hk σ ι _ w' le s' (.of_val _));simp only[Builtin.copy_,q,u];simp[run_underlying B,Builtin.lenOf,D,hf,R,goInt,J]
 .exact q.elim
theorem Azb (L:Da P T) {f:TI} {J g:Nat} (G:o.op = .call {callee:=.builtin .copy,args:=#[x,y],argTypes:=#[t,t']}) (ht:T t=some i) (hd:i.d = .slice e) (he:T e=some f) (hx:ρ x = .sl sz []) (hy:ρ y = .arr h J g j) (I:xs.length=J) : Cl P o ρ ⟨.val (.int .i64 0),[(h,.rows E f.size xs)],[]⟩:=by
 intro σ ι H F W w a next Q s A B hk
 have N:H h = .rows E f.size xs:=B (h,.rows E f.size xs) ψ;have z:=A x (by simp[G,Op.operands,Call.operands]);have u:=A y (by simp[G,Op.operands,Call.operands]);rw[hx]at z;rw[hy]at u;have b:=u.arr_inv N I;obtain⟨_,q,cap,M⟩:=z.sl_inv.sl_len;obtain⟨S,k,R⟩:=K7 (L t i ht) hd;subst R;have l:=Nv (L e f he);obtain⟨p,c,m,D⟩:∃p c m,a.eval y = .slice p m c:=by
  unfold Hs at b;split at b
  .exact⟨_,_,_,b.1⟩
  .exact⟨_,_,_,b.2⟩
  .exact b.elim
 have hf:(Builtin.firstCells f.size 0 (.slice p m c)).run P w = .ok #[] w:=by cases p with| none=>simp[Builtin.firstCells]| some a=>simp[Builtin.firstCells,loadCells,loadCellsFrom]
 refine F7 (v:=.int .i64 0) (Aic G rfl ?_) (hk σ ι _ w (Le.refl _ _ _) s (.of_val _));simp only[Builtin.copy_,M,D];cases q with| none=>simp[run_underlying k,Builtin.lenOf,l,hf,goInt]| some a=>simp[run_underlying k,Builtin.lenOf,l,hf,goInt,storeCells]
theorem Azc (S:Da P T) {lo hi:Option Operand} {R:TI} {f len:Nat} {l:Nat} (B:o.op = .slice t x lo hi none) (ht:T t=some i) (hd:i.d = .slice e) (he:T e=some R) (hx:ρ x = .arr f k off len) (I:xs.length=k) (D:Ja ρ 0 lo=some (l:Int)) (J:Ja ρ (len:Int) hi=some (l:Int)) (h2:l<=len) : Cl P o ρ ⟨.sl j [],[(f,.rows E sz xs)],[]⟩:=by
 intro σ ι H F W w a next Q s h A hk
 have Z:H f = .rows E sz xs:=A (f,.rows E sz xs) ψ;have hp:=h x (by simp[B,Op.operands]);rw[hx]at hp;have b:=hp.arr_inv Z I;obtain⟨N,u,z,k1,U,k3,k4,k5,k6,M⟩:=En (S t i ht);rw[hd]at M;subst M;have V:=Nv (S e R he);have L:∀(cap:Nat),len<=cap->∀w,(Instr.sliceBounds true len cap (lo.map a.eval) (hi.map a.eval) none).run P w = .ok (l,l,cap) w :=
  λcap g w=>Ack D J (λy hy=>h y (by rw[B];exact Acl hy)) (Nat.le_refl _) ω w
 have key:∀(p:Option Addr) (cap:Nat),len<=cap->a.eval x = .slice p len cap->∃q c,(execOp a.eval o).run P w = .ok (.value (.slice q 0 c)) w:=by intro p cap g b;have:=L cap g w;simp only[execOp,B,b,Instr.sliceAt,Instr.slice,Sem.run_bind,run_underlying U,Result.andThen_ok,Option.map_none,this,V w,Sem.run_pure,Nat.sub_self];exact⟨_,_,rfl⟩
 have:∃q c,(execOp a.eval o).run P w = .ok (.value (.slice q 0 c)) w:=by
  unfold Hs at b;split at b
  .obtain⟨b,_,G⟩:=b;exact key none 0 ω (by rw[G];exact b)
  .obtain⟨Y,b⟩:=b;exact key _ _ ω b
  .exact b.elim
 obtain⟨q,c,X⟩:=this;exact F7 X (hk σ ι _ w (Le.refl _ _ _) s (.cc (.nil _ _ _)))
theorem Acu (g:o.op = .call {callee:=.builtin .clear,args:=#[x],argTypes:=#[t]}) (b:o.type=ty) {c:Value} (f:(Builtin.clear_ #[t] ty #[a.eval x]).run P w = .ok c w') : (execOp a.eval o).run P w = .ok (.value c) w':=by subst b;simp[execOp,g,resolve,invoke,builtin,f]
theorem Azd (hT:Da P T) {f:TI} {len:Nat} (M:o.op = .call {callee:=.builtin .clear,args:=#[x],argTypes:=#[t]}) (ht:T t=some i) (hd:i.d = .slice e) (he:T e=some f) (hz:0<f.size) (B:Md f.size (Gb f)=true) (G:(Gb f).cells=f.zero.map .val) (hx:ρ x = .arr h k off len) (a8:xs.length=k) (hl:off+len<=k) : Cl P o ρ ⟨.tup [],[(h,.rows e f.size xs)],[(h,.rows e f.size (G5 xs off (replicate len (Gb f))))]⟩:=by
 intro σ ι H F W w a next Q s Y X hk
 have A:H h = .rows e f.size xs:=X (h,.rows e f.size xs) ψ;have I:=Y x (by simp[M,Op.operands,Call.operands]);rw[hx]at I;have g:=I.arr_inv A a8;obtain⟨u1,z,e1⟩:=K7 (hT t i ht) hd;subst e1;obtain⟨S,u',l,R,ag,N,af,ae,E,ad⟩:=En (hT e f he);have U:(zeroValue e).run P w = .ok l w:=by simp[zeroValue,typeInfo,R,N]
 have u:l.cells.size=f.size:=by have:=congrArg length G;rw[(Ov B).1,length_map,E,Array.length_toList]at this;exact this.symm
 have ab:xs.length<=140737488355328:=by have:=s.obj h;unfold C2 at this;rw[A]at this;exact this.2.1
 have y:∀(σ:A5) (ι:Cd) (H:Hp),Conc σ ι H (.tup []) (.tuple #[]):=λσ ι H=>.tup [] #[] rfl (λi c v h _=>by simp at h);unfold Hs at g;split at g
 .obtain⟨g,rfl,rfl⟩:=g;have L:G5 xs 0 (replicate 0 (Gb f))=xs:=(by simp[G5]);refine F7 (v:=.tuple #[]) (Acu M rfl ?_) (hk σ ι _ w ?_ ?_ (y _ _ _))
  .simp only[Builtin.clear_,g];simp[run_underlying z]
  .show Le σ ι H σ ι (Ba H h (.rows e f.size _));rw[L,<-A,Je];exact Le.refl _ _ _
  .show St σ ι (Ba H h (.rows e f.size _)) F W w;rw[L,<-A,Je];exact s
 .rename_i b ac hb;obtain⟨ah,g⟩:=g;by_cases a7:len=0
  .subst a7;have L:G5 xs off (replicate 0 (Gb f))=xs:=(by simp[G5]);refine F7 (v:=.tuple #[]) (Acu M rfl ?_) (hk σ ι _ w ?_ ?_ (y _ _ _))
   .simp only[Builtin.clear_,g];simp[run_underlying z]
   .show Le σ ι H σ ι (Ba H h (.rows e f.size _));rw[L,<-A,Je];exact Le.refl _ _ _
   .show St σ ι (Ba H h (.rows e f.size _)) F W w;rw[L,<-A,Je];exact s
  .have D:∀q,q<len*f.size->(Builtin.zeroCells l.cells len).toList[q]? = l.cells[q % f.size]?:=(by intro q hq;have hm:q % f.size<l.cells.size:=(by rw[u];exact Nat.mod_lt _ hz);have Z:l.cells[q % f.size]! = l.cells[q % f.size]:=(by simp[hm]);simp[Builtin.zeroCells,hq,u,Z,hm]);have hn:S5 σ f.size (replicate len (Gb f)) (Builtin.zeroCells l.cells len).toList (λ_ j=>(l.cells[j]?).getD undef):=by
    refine⟨by simp[Builtin.zeroCells,u],?_,?_,?_⟩
    .intro j x' hj;have:=Fw hj;simp at this;rw[this.2];exact (Ov B).1
    .intro j x' q c' hj hq;have:=Fw hj;simp at this;rw[this.2]at hq;have aa:=(Ov B).2 c' (Fw hq);rw[G,getElem?_map,E,Ha]at hq;cases g:l.cells[q]? with| none=>rw[g]at hq;simp at hq| some v=>rw[g]at hq;simp at hq;subst hq;exact⟨.val v,aa⟩
    .intro j q hj hq;have hj':j<len:=(by simpa using hj);have a1:j*f.size+q<len*f.size:=(by have:(j+1)*f.size<=len*f.size:=Nat.mul_le_mul_right _ ω;rw[E2]at this;omega);rw[D _ a1];have:(j*f.size+q) % f.size=q:=(by rw[Nat.mul_comm,Nat.mul_add_mod,Nat.mod_eq_of_lt hq]);rw[this];have J:q<l.cells.size:=ω;simp[J]
   obtain⟨w',V,le,s'⟩:=Aib (P:=P) s A hb (d:=off) ω (by rw[length_replicate];omega) (by rw[length_replicate];omega) hz hn;refine F7 (v:=.tuple #[]) (Acu M rfl ?_) (hk σ ι _ w' le s' (y _ _ _));have a6:∃m,len=m+1:=⟨len-1,ω⟩;obtain⟨m,rfl⟩:=a6;simp only[Builtin.clear_,g];simp[run_underlying z,U,V]
 .exact g.elim
theorem Aze (u:Da P T) (j:o.op = .call {callee:=.builtin .clear,args:=#[x],argTypes:=#[t]}) (ht:T t=some i) (hd:i.d = .slice e) (hx:ρ x = .sl sz []):Cl P o ρ ⟨.tup [],[],[]⟩:=by
 intro σ ι H F W w a next Q s g l hk
 have b:=g x (by simp[j,Op.operands,Call.operands]);rw[hx]at b;obtain⟨_,q,cap,k⟩:=b.sl_inv.sl_len;obtain⟨z,f,y⟩:=K7 (u t i ht) hd;subst y;refine F7 (v:=.tuple #[]) (Acu j rfl ?_) (hk σ ι _ w (Le.refl _ _ _) s (.tup [] #[] rfl (λi c v h _=>by simp at h)));simp only[Builtin.clear_,k];cases q <;> simp[run_underlying f]
end
variable {F σ:A5} {ι:Cd} {H:Hp} {W w:World}
theorem St.newMap (s:St σ ι H F W w) (h:Nat) (j:H h = .none) : St σ (Ba ι h (.box w.heap.size)) (Ba H h (.map [])) F W (w.alloc (.map #[] 0))/\Le σ ι H σ (Ba ι h (.box w.heap.size)) (Ba H h (.map [])):=by
 have g:ι h = .none:=by have:=s.obj h;unfold C2 at this;rw[j]at this;exact this
 have le:Le σ ι H σ (Ba ι h (.box w.heap.size)) (Ba H h (.map [])):=Le.upd (A5.le_refl σ) h _ _ (by rw[g,j];exact HLe.of_none);obtain⟨c,f⟩:=s.fresh;refine⟨s.touch h w.heap.size (λx e=>Dh _ _ e) (λx e=>Dh _ _ e) le ?_ (λ_ _=>rfl) (λo i=>by rw[c]at i;cases i) ?_ f ?_ ?_ rfl rfl rfl,le⟩
 .intro b hb;show (w.heap.push _)[b]? = _;rw[Array.getElem?_push,if_neg hb]
 .intro x e k hb;have:=(s.block k hb).1;omega
 .intro b _ hb;rw[Co]at hb;simp[Loc.block?]at hb;exact .inl hb.symm
 .unfold C2;rw[Co];refine⟨w.heap.size,#[],0,Co _ _ _,c,f,?_,rfl,ψ⟩;show (w.heap.push _)[w.heap.size]? = _;simp
theorem St.setMap (s:St σ ι H F W w) (h:Nat) (es c:List (AV×AV)) (g:H h = .map es) (b:Nat) (hb:ι h = .box b) (i:Array MapEntry) (t':Nat) (y:S3 σ c i) : St σ ι (Ba H h (.map c)) F W {w with heap:=w.heap.setIfInBounds b (.map i t')}/\Le σ ι H σ ι (Ba H h (.map c)):=by
 have j:=s.obj h;unfold C2 at j;rw[g]at j;obtain⟨B,M,t,q,h1,h2,h3,z⟩:=j;rw[hb]at q;cases q;have le:Le σ ι H σ ι (Ba H h (.map c)):=by have:=Le.upd (ι:=ι) (H:=H) (A5.le_refl σ) h (ι h) (.map c) (by rw[g];exact⟨λ_ e=>e,(λ_ e=>by cases e),(λ_ _ _ _ e=>by cases e)⟩);rwa [Je]at this
 have f:=Go.MapKept.heap_set (w:=w) (o':=.map i t') h3;refine⟨s.touch h b (λ_ _=>rfl) (λx e=>Dh _ _ e) le (λx e=>f.2 x e) (λ_ _=>rfl) (λo e=>by rw[h1]at e;cases e) ?_ h2 ?_ ?_ rfl rfl rfl,le⟩
 .intro x e u k;exact e (s.inj x h b u (by rw[g];rfl) k (by rw[hb];rfl))
 .intro A _ l;exact .inr ⟨by rw[g];rfl,l⟩
 .unfold C2;rw[Co];exact⟨b,i,t',hb,h1,h2,f.1,y⟩
def Kc (s:ByteArray):List (AV×AV)->Nat->Option (Option (Nat×AV))
 | [],_=>some none
 | p::es,i=> match p.1 with
  | .val (.string t)=>bif s==t then some (some (i,p.2)) else Kc s es (i+1)
  | _=>none
def Acv (s:ByteArray) (v:AV) (es:List (AV×AV)):Option (List (AV×AV)) := match Kc s es 0 with
 | none=>none
 | some none=>some (es++[(.val (.string s),v)])
 | some (some p)=>some (es.set p.1 (.val (.string s),v))
theorem Aid {σ:A5} {s:ByteArray}:∀(es:List (AV×AV)) (L:List MapEntry) (i:Nat) (r:Option (Nat×AV)),L.length=es.length ->
  (∀(j:Nat) (p:AV×AV) (e:MapEntry),es[j]? = some p->L[j]? = some e->CC σ p.1 e.key/\CC σ p.2 e.val)->Kc s es i=some r ->
  (r=none/\Instr.findNow .string (.string s) L i=some none)\/∃j v e,r=some (i+j,v)/\Instr.findNow .string (.string s) L i=some (some (i+j,e.val))/\L[j]? = some e/\e.key = .string s/\CC σ v e.val/\j<es.length
 | [],[],i,r,g,h,b=>by
  simp only[Kc]at b;cases b
  exact .inl ⟨rfl,rfl⟩
 | [],e::L,i,r,g,h,b=>by simp at g
 | p::es,[],i,r,g,h,b=>by simp at g
 | p::es,e::L,i,r,g,h,b=>by
  obtain⟨hk,l⟩:=h 0 p e rfl rfl
  simp only[Kc]at b
  split at b
  .rename_i t hp
   rw[hp]at hk
   have f:e.key = .string t:=by
    generalize e.key=q at hk
    cases hk;rfl
   cases c:s==t with
   | true=>
    rw[c]at b
    cases b
    have u:s=t:=(Go.MapKept.bytes_beq s t).1 c
    refine .inr ⟨0,p.2,e,rfl,?_,rfl,?_,l,ψ⟩
    .unfold Instr.findNow
     rw[f]
     simp[Instr.sameNow,c]
    .rw[f,u]
   | false=>
    rw[c]at b
    have step:Instr.findNow .string (.string s) (e::L) i=Instr.findNow .string (.string s) L (i+1):=by
     conv=>lhs;unfold Instr.findNow
     rw[f]
     simp[Instr.sameNow,c]
    rcases Aid es L (i+1) r (by simpa using g) (λj k e' h1 h2=>h (j+1) k e' (by simpa using h1) (by simpa using h2)) b with⟨h1,h2⟩|⟨j,v,e',h1,h2,h3,z,y,x⟩
    .exact .inl ⟨h1,by rw[step];exact h2⟩
    .exact .inr ⟨j+1,v,e',by rw[h1];congr 2;omega,by rw[step,h2];congr 3;omega,by simpa using h3,z,y,by simpa using x⟩
  .cases b
section
variable {P:Program} {o:Oper} {ρ:Operand->AV} {a:Act} {w w':World} {next:Act->World->Prop} {Q:Exit->Act->World->Prop}
variable {σ:A5} {s:ByteArray} {T:C9} {ι:Cd} {H:Hp} {k:IntKind} {es:List (AV×AV)} {h:Nat} {x y:Operand} {r:Option (Nat×AV)} {i:TI} {G et t:TypeId} {v:Value}
def Jk:List AV->Option (List Value)
 | []=>some []
 | .val v::xs=>(Jk xs).map (v :: ·)
 | _::_=>none
theorem S6 {σ:A5} {ι:Cd} {H:Hp}:∀{xs:List AV} {b:List Value} {vs:List Value},Jk xs=some b->vs.length=xs.length->(∀(i:Nat) (c:AV) (v:Value),xs[i]? = some c->vs[i]? = some v->Conc σ ι H c v)->vs=b
 | [],b,vs,h,f,_=>by simp only[Jk]at h;cases h;exact length_eq_zero_iff.1 f
 | .val v::xs,b,[],h,f,_=>by simp at f
 | .val v::xs,b,w::vs,h,f,hc=>by simp only[Jk,Option.map_eq_some_iff]at h;obtain⟨g,h1,rfl⟩:=h;have k:=(hc 0 _ w rfl rfl).val_inv;have j:=S6 (vs:=vs) h1 (by simpa using f) (λi c u g1 g2=>hc (i+1) c u (by simpa using g1) (by simpa using g2));rw[k,j]
 | .loc .. :: _,_,_,h,_,_ | .arr .. :: _,_,_,h,_,_ | .el .. :: _,_,_,h,_,_ | .mp .. :: _,_,_,h,_,_ | .ref .. :: _,_,_,h,_,_
 | .sl .. :: _,_,_,h,_,_ | .agg .. :: _,_,_,h,_,_ | .tup .. :: _,_,_,h,_,_ | .fn .. :: _,_,_,h,_,_=>by simp[Jk]at h
def Yk (P:Program) (t:TypeId) (c vs:List Value) (b:Bool):Prop := ∀(w:World) (op:BinOp) (x y:Operand),(eqGuard op t x y (.agg c.toArray) (.agg vs.toArray)).run P w = .ok () w/\(Op.equal t (.agg c.toArray) (.agg vs.toArray)).run P w = .ok b w
theorem Ano {xs:Array Value} {off:Nat} (w:World) (ht:P.underlying t=some (.int k)) (hx:xs[off]? = some v):(part t xs off).run P w = .ok v w:=by simp[part,isAgg,run_underlying ht,hx]
theorem Anp {b:IntKind} (w:World) (ht:P.underlying t=some (.int k)) (d:Nat) (m n:Int):(Op.equalIn (d+1) t (.int b m) (.int b n)).run P w = .ok (m==n) w:=by simp[Op.equalIn,run_underlying ht]
theorem Anq {op:BinOp} {s:TypeId} {xs ys:List AV} {f vs:List Value} {b c:Bool} (g:o.op = .binOp op t x y s) (hx:ρ x = .agg xs) (hy:ρ y = .agg ys) (h1:Jk xs=some f) (h2:Jk ys=some vs) (hb:Yk P t f vs b) (hc:(op = .eql/\c=b)\/(op = .neq/\c = !b)):Cl P o ρ ⟨.val (.bool c),[],[]⟩ := Fe λσ ι H a w h=>by
  refine⟨.bool c,?_,.of_val _⟩;have q:=h x (by simp[g,Op.operands]);have l:=h y (by simp[g,Op.operands]);rw[hx]at q;rw[hy]at l;obtain⟨k,E,B,c1⟩:=q.agg_inv;obtain⟨j,D,A,c2⟩:=l.agg_inv;have g1:k=f.toArray:=(by have:=S6 (vs:=k.toList) h1 (by simpa using B) (λi c v m1 m2=>c1 i c v m1 (by simpa using m2));rw[<-this]);have g2:j=vs.toArray:=(by have:=S6 (vs:=j.toList) h2 (by simpa using A) (λi c v m1 m2=>c2 i c v m1 (by simpa using m2));rw[<-this]);subst g1;subst g2;obtain⟨z,u⟩:=hb w op x y;rcases hc with⟨rfl,rfl⟩|⟨rfl,rfl⟩;all_goals
   simp only[execOp,g,E,D,Sem.run_bind,z,Result.andThen_ok,binOp,u,Sem.run_pure]
def Aie (P:Program) (s:TypeId) (f:Nat):Option TypeId := match P.underlying s with
 | some (.struct fields)=>(fields[f]?).map (·.type)
 | _=>none
theorem Anr (E:Da P T) {y:TypeId} {f:Nat} {g:TI} {fs:List (Nat×Nat)} {q:Nat×Nat} {cs:List AV} {r:AV} (D:o.op = .field t x f) (ht:T t=some i) (hd:i.d = .struct fs) (hq:fs[f]? = some q) (hf:Aie P t f=some y) (he:T y=some g) (hx:ρ x = .agg cs) (N:(g.isAgg=true/\q.1+g.size<=cs.length/\r = .agg ((cs.drop q.1).take g.size))\/(g.isAgg=false/\cs[q.1]? = some r)):Cl P o ρ ⟨r,[],[]⟩ := Fe λσ ι H a w h=>by
  have hc:=h x (by simp[D,Op.operands]);rw[hx]at hc;obtain⟨vs,I,J,c1⟩:=hc.agg_inv;obtain⟨_,u,_,_,A,_,_,_,_,G⟩:=En (E t i ht);rw[hd]at G;obtain⟨fields,rfl,L,_⟩:=G;unfold Aie at hf;rw[A]at hf;simp only[Option.map_eq_some_iff]at hf;obtain⟨fl,g1,g2⟩:=hf;have b:q.1=fl.offset:=(by rw[L,getElem?_map,Ha,g1]at hq;simp at hq;rw[<-hq]);have l:=Acj (E y g he) w;have B:=Nv (E y g he) w;subst g2;rcases N with⟨z,s,rfl⟩|⟨z,s⟩
  .refine⟨.agg (vs.extract fl.offset (fl.offset+g.size)),?_,.agg _ _ (by simp[b]at s ⊢;omega) λj c u m1 m2=>?_⟩
   .simp[execOp,D,I,Instr.field,run_underlying A,g1,asAgg,part,l,z,B,Result.andThen]
   .rw[b]at m1;have hj:j<g.size:=(by have:=(Gx.1 m1).1;simp at this;omega);rw[H8 hj,getElem?_drop]at m1;rw[Array.getElem?_extract]at m2;split at m2
    .exact c1 _ c u m1 m2
    .cases m2
  .have k:q.1<vs.size:=(by rw[J];exact (Gx.1 s).1);have M:vs[fl.offset]? = some vs[q.1]:=(by rw[<-b];simp[k]);refine⟨vs[q.1],?_,c1 q.1 r _ s (by simp[k])⟩;simp[execOp,D,I,Instr.field,run_underlying A,g1,asAgg,part,l,z,M,Result.andThen]
theorem Azf (h:Nat) (c:o.op = .makeMap t none):Cl P o ρ ⟨.mp h,[(h,.none)],[(h,.map [])]⟩:=by
 intro σ ι H F W w a next Q s hx b hk
 have f:H h = .none:=b (h,.none) ψ;obtain⟨s',le⟩:=s.newMap h f;refine F7 (v:=.map (some w.heap.size)) (w':=w.alloc (.map #[] 0)) ?_ (hk σ _ _ _ le s' (.mp h w.heap.size (Co _ _ _)));simp[execOp,c,Instr.makeMap,newObj,Sem.run]
theorem Conc.mp_inv (hc:Conc σ ι H (.mp h) v):∃b,ι h = .box b/\v = .map (some b):=by cases hc with| cc h=>cases h| mp _ b hb=>exact⟨b,hb,rfl⟩
def Vq (b:Bool) (i:TI):Option (Nat×AV)->AV
 | none=>bif b then .tup [Gb i,.val (.bool false)] else Gb i
 | some p=>bif b then .tup [p.2,.val (.bool true)] else p.2
theorem Ans {z:Value} (h1:z.cells.toList=i.zero) (h2:i.isAgg=true->∃vs,z = .agg vs) (h3:i.isAgg=false->Fj z=true):Conc σ ι H (Gb i) z:=by
 cases b:i.isAgg with
 | true=>obtain⟨vs,rfl⟩:=h2 b;have f:Gb i = .agg (i.zero.map .val):=(by unfold TI.isAgg at b;unfold Gb;cases hd:i.d <;> rw[hd]at b <;> first|rfl|cases b);rw[f,<-h1];refine .agg _ vs (by simp[Value.cells]) λj c v g1 g2=>?_;simp only[Value.cells,getElem?_map,Ha,g2]at g1;simp at g1;subst g1;exact .of_val v
 | false=>have h3:=h3 b;have f:z.cells = #[z]:=(by cases z <;> first|rfl|cases h3);rw[f]at h1;have:Gb i = .val z:=(by unfold TI.isAgg at b;unfold Gb;rw[<-h1];cases hd:i.d <;> rw[hd]at b <;> first|rfl|cases b);rw[this];exact .of_val z
theorem Azg (hT:Da P T) {U:TypeId} {D:Bool} {V G:TI} (B:o.op = .lookup t x y D) (ht:T t=some i) (hd:i.d = .map U et) (hk:T U=some V) (Z:V.d = .string) (he:T et=some G) (hx:ρ x = .mp h) (hy:ρ y = .val (.string s)) (hr:Kc s es 0=some r) : Cl P o ρ ⟨Vq D G r,[(h,.map es)],[]⟩:=by
 intro σ ι H F W w a next Q st L X Y
 have hh:H h = .map es:=X (h,.map es) ψ;have N:=L x (by simp[B,Op.operands]);rw[hx]at N;obtain⟨b,hb,S⟩:=N.mp_inv;have g:=D6 hy (L y (by simp[B,Op.operands]));have A:=st.obj h;unfold C2 at A;rw[hh]at A;obtain⟨b',M,q,e1,_,_,h3,h4⟩:=A;rw[hb]at e1;cases e1;obtain⟨_,u,_,_,R,_,_,_,_,k7⟩:=En (hT t i ht);rw[hd]at k7;subst k7;obtain⟨_,u',_,_,f,_,_,_,_,E⟩:=En (hT U V hk);rw[Z]at E;subst E;have k:Go.MapKept.IsKey .string (.string s):=trivial;have l:∀v,Conc σ ι H (Vq D G r) v->(execOp a.eval o).run P w = .ok (.value v) w->o.wp P a w next Q:=by intro v hc J;exact F7 J (Y σ ι v w (Le.refl _ _ _) st hc)
 rcases Aid es M.toList 0 r (by simpa using h4.1) (λj p e g1 g2=>h4.2 j p e g1 (by simpa using g2)) hr with⟨rfl,hf⟩|⟨j,v,e,rfl,hf,g1,g2,g3,_⟩
 .obtain⟨z,hz,c1,c2,c3⟩:=Am7 (hT et G he) w;have I:Conc σ ι H (Gb G) z:=Ans c1 c2 c3;cases D with
  | true=>
   refine l (.tuple #[z,.bool false]) (.tup _ _ ψ λi c u m1 m2=>?_) ?_
   .match i with| 0=>simp at m1 m2;subst m1;subst m2;exact I| 1=>simp at m1 m2;subst m1;subst m2;exact .of_val _| i+2=>simp at m1
   .simp[execOp,B,S,g,Instr.lookup,run_underlying R,Go.MapKept.run_getObj_map h3,Go.MapKept.run_checkKey f k,Go.MapKept.run_findKey f hf,hz,Result.andThen]
  | false=>refine l z I ?_;simp[execOp,B,S,g,Instr.lookup,run_underlying R,Go.MapKept.run_getObj_map h3,Go.MapKept.run_checkKey f k,Go.MapKept.run_findKey f hf,hz,Result.andThen]
 .cases D with
  | true=>
   refine l (.tuple #[e.val,.bool true]) (.tup _ _ ψ λi c u m1 m2=>?_) ?_
   .match i with| 0=>simp at m1 m2;subst m1;subst m2;exact .cc g3| 1=>simp at m1 m2;subst m1;subst m2;exact .of_val _| i+2=>simp at m1
   .simp[execOp,B,S,g,Instr.lookup,run_underlying R,Go.MapKept.run_getObj_map h3,Go.MapKept.run_checkKey f k,Go.MapKept.run_findKey f hf,Result.andThen]
  | false=>refine l e.val (.cc g3) ?_;simp[execOp,B,S,g,Instr.lookup,run_underlying R,Go.MapKept.run_getObj_map h3,Go.MapKept.run_checkKey f k,Go.MapKept.run_findKey f hf,Result.andThen]
theorem Conc.cc_free1 {x:AV} (hx:x.free1=true) (h:Conc σ ι H x v):CC σ x v:=by cases x with| agg cs=>obtain⟨vs,rfl,b,h⟩:=h.agg_inv;exact .agg cs vs b λi c u h1 h2=>((h i c u h1 h2).cc_of (Ej.1 hx c (Fw h1))).1| val u=>exact (h.cc_of (x:=.val u) hx).1| sl sz xs=>exact (h.cc_of (x:=.sl sz xs) hx).1| _=>cases hx
theorem Azh (hT:Da P T) {Y:TypeId} {z:Operand} {Z:TI} {g:List (AV×AV)} (R:o.op = .mapUpdate t x y z) (ht:T t=some i) (hd:i.d = .map Y et) (hk:T Y=some Z) (a7:Z.d = .string) (hx:ρ x = .mp h) (hy:ρ y = .val (.string s)) (hz:(ρ z).free1=true) (k:Acv s (ρ z) es=some g) : Cl P o ρ ⟨.val undef,[(h,.map es)],[(h,.map g)]⟩:=by
 intro σ ι H F W w a next Q st l a1 a6
 have hh:H h = .map es:=a1 (h,.map es) ψ;have V:=l x (by simp[R,Op.operands]);rw[hx]at V;obtain⟨b,hb,hv⟩:=V.mp_inv;have L:=D6 hy (l y (by simp[R,Op.operands]));have U:=(l z (by simp[R,Op.operands])).cc_free1 hz;have A:=st.obj h;unfold C2 at A;rw[hh]at A;obtain⟨b',M,q,e1,_,_,h3,f⟩:=A;rw[hb]at e1;cases e1;obtain⟨_,u,_,_,k2,_,_,_,_,k7⟩:=En (hT t i ht);rw[hd]at k7;subst k7;obtain⟨_,u',_,_,c,_,_,_,_,J⟩:=En (hT Y Z hk);rw[a7]at J;subst J;have D:Go.MapKept.IsKey .string (.string s):=trivial;have S:∀X t',S3 σ g X->(execOp a.eval o).run P w = .ok .skip {w with heap:=w.heap.setIfInBounds b (.map X t')}->o.wp P a w next Q:=by intro X t' hM N;obtain⟨s',le⟩:=st.setMap h es g hh b hb X t' hM;exact Aci N (a6 σ ι undef _ le s' (.of_val _))
 unfold Acv at k;cases G:Kc s es 0 with
 | none=>rw[G]at k;cases k
 | some r=>
  rw[G]at k;rcases Aid es M.toList 0 r (by simpa using f.1) (λj p e g1 g2=>f.2 j p e g1 (by simpa using g2)) G with⟨rfl,hf⟩|⟨j,v,e,rfl,hf,g1,g2,g3,g4⟩
  .simp only[Option.some.injEq]at k;subst k;refine S (M.push {key:=.string s,val:=a.eval z,born:=q}) (q+1) ⟨by simp[f.1],λI p e m1 m2=>?_⟩ ?_
   .rcases Nat.lt_or_ge I es.length with B|hge
    .rw[getElem?_append_left B]at m1;rw[Array.getElem?_push_lt (by rw[f.1];exact B)]at m2;exact f.2 I p e m1 (by rw[Array.getElem?_eq_getElem (by rw[f.1];exact B)];exact m2)
    .rw[getElem?_append_right hge]at m1;have a8:I=es.length:=(by have:=(Gx.1 m1).1;simp at this;omega);subst a8;simp at m1;subst m1;rw[<-f.1]at m2;simp at m2;subst m2;exact⟨.val _,U⟩
   .simp[execOp,R,hv,L,Instr.mapUpdate,run_underlying k2,Go.MapKept.run_getObj_map h3,Go.MapKept.run_checkKey c D,Go.MapKept.run_findKey c hf,Go.MapKept.run_setObj_map _ h3,Result.andThen]
  .simp only[Option.some.injEq]at k;subst k;have hj:M[j]? = some e:=(by simpa using g1);refine S (M.modify j λe=>{e with key:=.string s,val:=a.eval z}) q ⟨by simp[f.1],λI p e' m1 m2=>?_⟩ ?_
   .simp only[Nat.zero_add]at m1;rw[getElem?_set]at m1;rw[Array.getElem?_modify]at m2;by_cases E:j=I
    .subst E;simp only[if_true]at m1 m2;rw[if_pos g4]at m1;cases m1;rw[hj]at m2;simp at m2;subst m2;exact⟨.val _,U⟩
    .rw[if_neg E]at m1;rw[if_neg E]at m2;exact f.2 I p e' m1 m2
   .simp[execOp,R,hv,L,Instr.mapUpdate,run_underlying k2,Go.MapKept.run_getObj_map h3,Go.MapKept.run_checkKey c D,Go.MapKept.run_findKey c hf,hj,g2,Go.MapKept.run_keyThatStays D,Go.MapKept.run_setObj_map _ h3,Result.andThen]
def Acx (P:Program) (b:TypeId) (c:List Value):Prop := (∃fs,P.underlying b=some (.struct fs))/\∀(w:World) (e:Bool),(Instr.checkKey e 10000 b (.agg c.toArray)).run P w = .ok () w
inductive Ow (P:Program) (kt:TypeId) (us:List Value):List (AV×AV)->Nat->Option (Nat×AV)->Prop where
 | nil (i:Nat):Ow P kt us [] i none
 | hit {ys:List AV} {vs:List Value} {v:AV} {es:List (AV×AV)} {i:Nat} (h1:Jk ys=some vs) (h2:Yk P kt us vs true):Ow P kt us ((.agg ys,v)::es) i (some (i,v))
 | miss {ys:List AV} {vs:List Value} {v:AV} {es:List (AV×AV)} {i:Nat} {r:Option (Nat×AV)} (h1:Jk ys=some vs) (h2:Yk P kt us vs false) (h3:Ow P kt us es (i+1) r):Ow P kt us ((.agg ys,v)::es) i r
theorem Ow.sound {l:TypeId} {k:List Value} {i:Nat} (h:Ow P l k es i r):∀(L:List MapEntry),L.length=es.length -> (∀(j:Nat) (p:AV×AV) (e:MapEntry),es[j]? = some p->L[j]? = some e->CC σ p.1 e.key/\CC σ p.2 e.val)->∀w:World, (r=none/\(Instr.findAsking l (.agg k.toArray) L i).run P w = .ok none w)\/∃j v e,r=some (i+j,v)/\(Instr.findAsking l (.agg k.toArray) L i).run P w = .ok (some (i+j,e.val)) w/\L[j]? = some e/\CC σ v e.val/\j<es.length:=by
 induction h with
 | nil i=>intro L g _ w;cases L with| nil=>exact .inl ⟨rfl,by simp[Instr.findAsking]⟩| cons e L=>simp at g
 | @hit ys vs v es i h1 h2=>
  intro L g hc w;cases L with
  | nil=>simp at g
  | cons e L=>obtain⟨c1,c2⟩:=hc 0 _ e rfl rfl;have hk:e.key = .agg vs.toArray:=(by generalize e.key=q at c1;cases c1 with| agg _ b f s=>have:=S6 (σ:=σ) (ι:=λ_=>.none) (H:=λ_=>.none) (vs:=b.toList) h1 (by simpa using f) (λi c u g1 g2=>.cc (s i c u g1 (by simpa using g2)));rw[<-this]);refine .inr ⟨0,v,e,rfl,?_,rfl,c2,ψ⟩;have:=(h2 w .eql default default).2;simp[Instr.findAsking,hk,this]
 | @miss ys vs v es i r h1 h2 h3 ih=>
  intro L g hc w;cases L with
  | nil=>simp at g
  | cons e L=>
   obtain⟨c1,c2⟩:=hc 0 _ e rfl rfl;have hk:e.key = .agg vs.toArray:=(by generalize e.key=q at c1;cases c1 with| agg _ b f s=>have:=S6 (σ:=σ) (ι:=λ_=>.none) (H:=λ_=>.none) (vs:=b.toList) h1 (by simpa using f) (λi c u g1 g2=>.cc (s i c u g1 (by simpa using g2)));rw[<-this]);have:=(h2 w .eql default default).2;have step:(Instr.findAsking l (.agg k.toArray) (e::L) i).run P w=(Instr.findAsking l (.agg k.toArray) L (i+1)).run P w:=(by simp[Instr.findAsking,hk,this]);rcases ih L (by simpa using g) (λj y e' g1 g2=>hc (j+1) y e' (by simpa using g1) (by simpa using g2)) w with⟨g1,g2⟩|⟨j,x,e',g1,g2,g3,g4,g5⟩
   .exact .inl ⟨g1,by rw[step];exact g2⟩
   .exact .inr ⟨j+1,x,e',by rw[g1];congr 2;omega,by rw[step,g2];congr 3;omega,by simpa using g3,g4,by simpa using g5⟩
theorem Azi (hT:Da P T) {E:Bool} {I:TI} {ks:List AV} {A:List Value} (D:o.op = .lookup t x y E) (ht:T t=some i) (hd:i.d = .map G et) (he:T et=some I) (hx:ρ x = .mp h) (hy:ρ y = .agg ks) (hu:Jk ks=some A) (hc:Acx P G A) (hr:Ow P G A es 0 r) : Cl P o ρ ⟨Vq E I r,[(h,.map es)],[]⟩:=by
 intro σ ι H F W w a next Q st N Z a1
 have hh:H h = .map es:=Z (h,.map es) ψ;have S:=N x (by simp[D,Op.operands]);rw[hx]at S;obtain⟨b,hb,V⟩:=S.mp_inv;have R:=N y (by simp[D,Op.operands]);rw[hy]at R;obtain⟨X,f,a6,a8⟩:=R.agg_inv;have Y:X.toList=A:=S6 hu (by simpa using a6) (λi c u g1 g2=>a8 i c u g1 (by simpa using g2));have f:a.eval y = .agg A.toArray:=by rw[f,<-Y]
 have B:=st.obj h;unfold C2 at B;rw[hh]at B;obtain⟨b',M,q,e1,_,_,h3,h4⟩:=B;rw[hb]at e1;cases e1;obtain⟨_,u,_,_,U,_,_,_,_,k7⟩:=En (hT t i ht);rw[hd]at k7;subst k7;obtain⟨⟨fs,a7⟩,s⟩:=hc;have g:∀v,Conc σ ι H (Vq E I r) v->(execOp a.eval o).run P w = .ok (.value v) w->o.wp P a w next Q:=by intro v hc L;exact F7 L (a1 σ ι v w (Le.refl _ _ _) st hc)
 have k:∀l,(Instr.findKey G (.agg A.toArray) l).run P w=(Instr.findAsking G (.agg A.toArray) l).run P w:=λl=>run_findKey_eq w (by rw[a7]) _ l;rcases hr.sound M.toList (by simpa using h4.1) (λj p e g1 g2=>h4.2 j p e g1 (by simpa using g2)) w with⟨rfl,hf⟩|⟨j,v,e,rfl,hf,g1,g3,_⟩
 .obtain⟨z,hz,c1,c2,c3⟩:=Am7 (hT et I he) w;have J:Conc σ ι H (Gb I) z:=Ans c1 c2 c3;cases E with
  | true=>
   refine g (.tuple #[z,.bool false]) (.tup _ _ ψ λi c u m1 m2=>?_) ?_
   .match i with| 0=>simp at m1 m2;subst m1;subst m2;exact J| 1=>simp at m1 m2;subst m1;subst m2;exact .of_val _| i+2=>simp at m1
   .simp[execOp,D,V,f,Instr.lookup,run_underlying U,Go.MapKept.run_getObj_map h3,s,k,hf,hz,Result.andThen]
  | false=>refine g z J ?_;simp[execOp,D,V,f,Instr.lookup,run_underlying U,Go.MapKept.run_getObj_map h3,s,k,hf,hz,Result.andThen]
 .cases E with
  | true=>
   refine g (.tuple #[e.val,.bool true]) (.tup _ _ ψ λi c u m1 m2=>?_) ?_
   .match i with| 0=>simp at m1 m2;subst m1;subst m2;exact .cc g3| 1=>simp at m1 m2;subst m1;subst m2;exact .of_val _| i+2=>simp at m1
   .simp[execOp,D,V,f,Instr.lookup,run_underlying U,Go.MapKept.run_getObj_map h3,s,k,hf,Result.andThen]
  | false=>refine g e.val (.cc g3) ?_;simp[execOp,D,V,f,Instr.lookup,run_underlying U,Go.MapKept.run_getObj_map h3,s,k,hf,Result.andThen]
theorem Azj (hT:Da P T) {z:Operand} {g:List AV} {f:List Value} (L:o.op = .mapUpdate t x y z) (ht:T t=some i) (hd:i.d = .map G et) (hx:ρ x = .mp h) (hy:ρ y = .agg g) (hu:Jk g=some f) (hz:(ρ z).free1=true) (hc:Acx P G f) (hr:Ow P G f es 0 none) : Cl P o ρ ⟨.val undef,[(h,.map es)],[(h,.map (es++[(.agg g,ρ z)]))]⟩:=by
 intro σ ι H F W w a next Q st A U V
 have hh:H h = .map es:=U (h,.map es) ψ;have J:=A x (by simp[L,Op.operands]);rw[hx]at J;obtain⟨b,hb,hv⟩:=J.mp_inv;have I:=A y (by simp[L,Op.operands]);rw[hy]at I;obtain⟨N,k,X,aa⟩:=I.agg_inv;have S:N.toList=f:=S6 hu (by simpa using X) (λi c u g1 g2=>aa i c u g1 (by simpa using g2));have k:a.eval y = .agg f.toArray:=by rw[k,<-S]
 have Y:CC σ (.agg g) (.agg f.toArray):=by
  have s:∀(g:List AV) (f:List Value),Jk g=some f->g=f.map .val:=by
   intro g;induction g with
   | nil=>intro f h;simp only[Jk]at h;cases h;rfl
   | cons c g ih=>intro f h;cases c with| val v=>simp only[Jk,Option.map_eq_some_iff]at h;obtain⟨ab,h1,rfl⟩:=h;rw[ih _ h1];rfl| _=>simp[Jk]at h
  have e:=s g f hu;subst e;refine .agg _ _ ψ λi c v g1 g2=>?_;simp only[getElem?_map]at g1;have g2:f[i]? = some v:=(by simpa using g2);rw[g2]at g1;simp at g1;subst g1;exact .val v
 have a7:=(A z (by simp[L,Op.operands])).cc_free1 hz;have B:=st.obj h;unfold C2 at B;rw[hh]at B;obtain⟨b',M,q,e1,_,_,h3,E⟩:=B;rw[hb]at e1;cases e1;obtain⟨_,u,_,_,k2,_,_,_,_,k7⟩:=En (hT t i ht);rw[hd]at k7;subst k7;obtain⟨⟨fs,a1⟩,a8⟩:=hc;have a6:∀l,(Instr.findKey G (.agg f.toArray) l).run P w=(Instr.findAsking G (.agg f.toArray) l).run P w:=λl=>run_findKey_eq w (by rw[a1]) _ l;rcases hr.sound M.toList (by simpa using E.1) (λj p e g1 g2=>E.2 j p e g1 (by simpa using g2)) w with⟨_,hf⟩|⟨j,v,e,he,_⟩
 .have hM:S3 σ (es++[(.agg g,ρ z)]) (M.push {key:=.agg f.toArray,val:=a.eval z,born:=q}):=by
   refine⟨by simp[E.1],λR p e m1 m2=>?_⟩;rcases Nat.lt_or_ge R es.length with D|hge
   .rw[getElem?_append_left D]at m1;rw[Array.getElem?_push_lt (by rw[E.1];exact D)]at m2;exact E.2 R p e m1 (by rw[Array.getElem?_eq_getElem (by rw[E.1];exact D)];exact m2)
   .rw[getElem?_append_right hge]at m1;have Z:R=es.length:=(by have:=(Gx.1 m1).1;simp at this;omega);subst Z;simp at m1;subst m1;rw[<-E.1]at m2;simp at m2;subst m2;exact⟨Y,a7⟩
  obtain⟨s',le⟩:=st.setMap h es _ hh b hb _ (q+1) hM;refine Aci ?_ (V σ ι undef _ le s' (.of_val _));simp[execOp,L,hv,k,Instr.mapUpdate,run_underlying k2,Go.MapKept.run_getObj_map h3,a8,a6,hf,Go.MapKept.run_setObj_map _ h3,Result.andThen]
 .cases he
end
def ev (e:B5):Operand->AV
 | .tmp t=>e t
 | .const v=>.val v
 | .global g=>.val (.pointer (some ⟨g,0,none⟩))
 | .func f=>.fn f []
def put (e:B5) (d:Option Nat) (v:AV):B5 := match d with
 | none=>e
 | some n=>Ba e n v
def Aif:Operand->Option Nat
 | .tmp t=>some t
 | _=>none
def Vr (ops:Array Oper) (o:Oper):Option Nat := match o.guard with
 | none=>none
 | some p=>(ops[p.1]?).bind (·.dst)
def Mf (ops:Array Oper) (o:Oper):List Nat:=o.op.operands.toList.filterMap Aif++(Vr ops o).toList
def Ft (σ:A5) (ι:Cd) (H:Hp) (e:B5) (a:Act):Prop:=∀s,s<a.tmps.size->Conc σ ι H (e s) (a.tmps.getD s undef)
section
variable {σ:A5} {ι:Cd} {H:Hp} {e:B5} {a:Act}
theorem Ft.eval (h:Ft σ ι H e a) {x:Operand} (hx:∀t,Aif x=some t->t<a.tmps.size):Conc σ ι H (ev e x) (a.eval x):=by cases x with| tmp t=>exact h t (hx t rfl)| const v=>exact .of_val v| global g=>exact .of_val _| func f=>exact .fn f [] #[] rfl ψ
theorem Ft.mono {b:A5} {c:Cd} {H':Hp} (h:Ft σ ι H e a) (le:Le σ ι H b c H'):Ft b c H' e a:=λs f=>(h s f).mono le
theorem Ft.put (h:Ft σ ι H e a) {d:Option Nat} {r:AV} {v:Value} (f:Conc σ ι H r v):Ft σ ι H (put e d r) (a.put d v):=by
 cases d with
 | none=>exact h
 | some n=>
  intro s b;simp only[Act.put,Array.size_setIfInBounds]at b;simp only[Ab.put,Act.put];by_cases c:s=n
  .subst c;rw[Co];simpa[b] using f
  .rw[Dh _ _ c];have:=h s b;simp only[Array.getD_eq_getD_getElem?]at this ⊢;rw[Array.getElem?_setIfInBounds_ne ω];exact this
end
variable {a b:Act} {ops:Array Oper} {o:Oper}
def S7:Value->Option Bool
 | .bool b=>some b
 | _=>none
def Jl (ops:Array Oper) (o:Oper) (e:B5) (on:Bool):Prop := match o.guard with
 | none=>on=true
 | some p=>∃s v,(ops[p.1]?).bind (·.dst)=some s/\e s = .val v/\on=(S7 v==some p.2)
theorem Ant {e:B5} {on:Bool} {σ:A5} {ι:Cd} {H:Hp} (hg:Jl ops o e on) (he:Ft σ ι H e a) (g:∀s,Vr ops o=some s->s<a.tmps.size) : Region.wanted o (yielded ops a.tmps)=on:=by unfold Jl at hg;unfold Region.wanted;cases h:o.guard with| none=>rw[h]at hg;exact hg.symm| some p=>rw[h]at hg;obtain⟨s,b,h1,h2,h3⟩:=hg;have c:=g s (by unfold Vr;rw[h];exact h1);have hc:=he s c;rw[h2]at hc;have f:=hc.val_inv;have:yielded ops a.tmps p.1=S7 b:=(by unfold yielded;rw[h1];simp only[Option.bind_some];have:a.tmps[s]? = some b:=(by rw[Array.getD_eq_getD_getElem?]at f;simp[c]at f ⊢;exact f);rw[this];cases b <;> rfl);show (yielded ops a.tmps p.1==some p.2)=on;rw[this,h3]
abbrev Acc:=Nat->List Nat×List Nat
def Q8 (P:Program) (ops:Array Oper) (acc:Acc) (i:Nat) (o:Oper) (e:B5) (H:Hp) (r:AV) (c:List (Nat×Bn)):Prop := ops[i]? = some o /\ ((Jl ops o e true/\∃b,Cl P o (ev e) b/\(∀p∈b.rd,H p.1=p.2)/\(∀p∈b.rd,p.1∈(acc i).1)/\(∀p∈b.wr,p.1∈(acc i).2)/\r=b.r/\c=b.wr) \/ (Jl ops o e false/\r = .val undef/\c = []))
inductive Run (P:Program) (ops:Array Oper) (acc:Acc):List Nat->B5->Hp->B5->Hp->Prop where
 | nil (e:B5) (H:Hp):Run P ops acc [] e H e H
 | cons {i:Nat} {l:List Nat} {e e':B5} {H H':Hp} (o:Oper) (r:AV) (wr:List (Nat×Bn)) (hd:Q8 P ops acc i o e H r wr)
   (rest:Run P ops acc l (put e o.dst r) (Cq H wr) e' H'):Run P ops acc (i::l) e H e' H'
def Gi (b:List Nat) (a c:Act):Prop:=∀s,s ∉ b->c.tmps.getD s undef=a.tmps.getD s undef
theorem Gi.refl (b:List Nat) (a:Act):Gi b a a:=λ_ _=>rfl
theorem Gi.trans {f:List Nat} {c:Act} (h:Gi f a b) (h':Gi f b c):Gi f a c:=λs g=>(h' s g).trans (h s g)
theorem Gi.mono {f c:List Nat} (h:Gi f a b) (i:∀s∈f,s∈c):Gi c a b:=λs g=>h s (λx=>g (i s x))
theorem Gi.put (a:Act) (d:Option Nat) (v:Value) (b:List Nat) (h:∀s,d=some s->s∈b):Gi b a (a.put d v):=by cases d with| none=>exact Gi.refl _ _| some n=>intro s c;have f:s≠n:=λe=>c (e ▸ h n rfl);simp only[Act.put,Array.getD_eq_getD_getElem?];rw[Array.getElem?_setIfInBounds_ne ω]
def Yl (ops:Array Oper):List Nat:=ops.toList.filterMap (·.dst)
theorem Gi.step {i:Nat} (c:ops[i]? = some o) (a:Act) (v:Value):Gi (Yl ops) a (a.put o.dst v):=by refine Gi.put a o.dst v _ (λs b=>?_);unfold Yl;rw[mem_filterMap];exact⟨o,by simpa using Array.mem_of_getElem? c,b⟩
def Acy (ops:Array Oper) (n:Nat):Prop:=∀(i:Nat) (o:Oper),ops[i]? = some o->∀s∈Mf ops o,s<n
section
variable {P:Program} {ops:Array Oper} {acc:Acc} {F:A5} {W:World} {Q:Exit->Act->World->Prop}
variable {r:AV} {e e':B5} {H H':Hp} {l:List Nat} {i:Nat} {o:Oper} {d:Option Nat}
theorem Anu (a:Act) (d:Option Nat) (v:Value):(a.put d v).tmps.size=a.tmps.size:=by cases d <;> simp[Act.put]
theorem Run.wpOp (h:Run P ops acc (i::l) e H e' H') {σ:A5} {ι:Cd} {a:Act} {w:World} (s:St σ ι H F W w) (he:Ft σ ι H e a) (A:Acy ops a.tmps.size) {K:Act->World->Prop} (hk:∀(z:B5) (u:Hp),Run P ops acc l z u e' H'->∀g j q w',Le σ ι H g j u->St g j u F W w'->Ft g j u z q->q.tmps.size=a.tmps.size->q.defers=a.defers->Gi (Yl ops) a q->K q w') : wpOp P ops Q i K a w:=by
 have c:∀(d:Option Nat) (v:Value),(a.put d v).defers=a.defers:=by intro d v;cases d <;> rfl
 cases h with
 | cons o r wr hd rest=>
  obtain⟨k,hd⟩:=hd;unfold Go.wpOp;have f:=A i o k;rcases hd with⟨hg,B,b,y,_,_,rfl,rfl⟩|⟨hg,rfl,rfl⟩
  .have hw:=Ant hg he (λs' h'=>f s' (by simp[Mf,h']));rw[k];simp only[hw,if_true];refine .inl (b σ ι H F W w a K Q s (λx hx=>he.eval (λt ht=>f t ?_)) y ?_)
   .simp only[Mf,mem_append,mem_filterMap];exact .inl ⟨x,hx,ht⟩
   .intro g j v w' le s' hc;exact hk _ _ rest g j _ w' le s' ((he.mono le).put hc) (Anu _ _ _) (c _ _) (Gi.step k a v)
  .have hw:=Ant hg he (λs' h'=>f s' (by simp[Mf,h']));rw[k];simp only[hw,Bool.false_eq_true,if_false];exact hk _ _ rest σ ι _ w (Le.refl _ _ _) s (he.put (.of_val undef)) (Anu _ _ _) (c _ _) (Gi.step k a undef)
theorem Run.wpOps (h:Run P ops acc l e H e' H'):∀{σ:A5} {ι:Cd} {a:Act} {w:World},St σ ι H F W w->Ft σ ι H e a->Acy ops a.tmps.size -> (∀j k g w',Le σ ι H j k H'->St j k H' F W w'->Ft j k H' e' g->g.tmps.size=a.tmps.size->g.defers=a.defers->Gi (Yl ops) a g->Q .normal g w')->wpOps P ops Q l a w:=by induction l generalizing e H with| nil=>intro σ ι a w s he y hk;cases h;exact hk σ ι a w (Le.refl _ _ _) s he rfl rfl (Gi.refl _ _)| cons i l ih=>intro σ ι a w s he y hk;rw[wpOps_cons];refine h.wpOp s he y ?_;intro S U L M N a1 R u J A c B hu;refine ih L J A (by rw[c];exact y) ?_;intro D E a2 G q I z b f x;exact hk D E a2 G (u.trans q) I z (b.trans c) (f.trans B) (hu.trans x)
theorem Cl.congr {ρ f:Operand->AV} {b:Eff} (h:Cl P o ρ b) (he:∀x∈o.op.operands.toList,f x=ρ x):Cl P o f b := λσ ι H F W w a next Q s hx c hk=>h σ ι H F W w a next Q s (λx g=>by rw[<-he x g];exact hx x g) c hk
theorem Jl.congr {on:Bool} (h:Jl ops o e on) (he:∀s,Vr ops o=some s->e' s=e s):Jl ops o e' on:=by unfold Jl at *;cases hg:o.guard with| none=>rw[hg]at h;exact h| some p=>rw[hg]at h;obtain⟨s,b,h1,h2,h3⟩:=h;exact⟨s,b,h1,by rw[he s (by unfold Vr;rw[hg];exact h1)];exact h2,h3⟩
theorem Azk {x:Operand} (h:∀t,Aif x=some t->e' t=e t):ev e' x=ev e x:=by cases x with| tmp t=>exact h t rfl| _=>rfl
theorem Q8.congr {c:List (Nat×Bn)} (h:Q8 P ops acc i o e H r c) (he:∀s∈Mf ops o,e' s=e s) (k:∀x∈(acc i).1,H' x=H x):Q8 P ops acc i o e' H' r c:=by
 obtain⟨j,h⟩:=h;refine⟨j,?_⟩;have hg:∀s,Vr ops o=some s->e' s=e s:=λs g=>he s (by simp[Mf,g]);rcases h with⟨h1,b,h2,h3,f,u,q,l⟩|⟨h1,h2,h3⟩
 .refine .inl ⟨h1.congr hg,b,h2.congr (λx hx=>Azk λt ht=>he t ?_),λp hp=>?_,f,u,q,l⟩
  .simp only[Mf,mem_append,mem_filterMap];exact .inl ⟨x,hx,ht⟩
  .rw[k p.1 (f p hp)];exact h3 p hp
 .exact .inr ⟨h1.congr hg,h2,h3⟩
theorem Vs {H:Hp}:∀{b:List (Nat×Bn)} {x:Nat},(∀p∈b,p.1≠x)->Cq H b x=H x
 | [],_,_=>rfl
 | p::b,x,h=>by simp only[Cq];rw[Vs (λq hq=>h q (by simp[hq])),Dh _ _ (λe=>h p ψ e.symm)]
theorem Anv {H:Hp} {h:Nat} {o:Bn}:∀{b:List (Nat×Bn)},(∀p∈b,p.1≠h)->Cq (Ba H h o) b=Ba (Cq H b) h o
 | [],_=>rfl
 | p::b,hp=>by simp only[Cq];rw[Am5 _ _ _ (λe=>hp p ψ e),Anv (λq hq=>hp q (by simp[hq]))]
theorem Anw {H:Hp}:∀{c b:List (Nat×Bn)},(∀p∈c,∀q∈b,p.1≠q.1)->Cq (Cq H c) b=Cq (Cq H b) c
 | [],_,_=>rfl
 | p::c,b,h=>by simp only[Cq];rw[Anw (λq hq f hq'=>h q (by simp[hq]) f hq'),Anv (λq hq e=>h p ψ q hq e.symm)]
structure Ind (ops:Array Oper) (acc:Acc) (i j:Nat) (o o':Oper):Prop where
 d1:∀s,o.dst=some s->s ∉ Mf ops o'/\o'.dst≠some s
 d2:∀s,o'.dst=some s->s ∉ Mf ops o
 h1:∀x∈(acc i).2,x ∉ (acc j).1/\x ∉ (acc j).2
 h2:∀x∈(acc j).2,x ∉ (acc i).1
theorem Anx {s:Nat} (h:d≠some s):put e d r s=e s:=by cases d with| none=>rfl| some n=>exact Dh _ _ (λe=>h (by rw[e]))
theorem Azl {b:Option Nat} {c:AV} (h:∀s,d=some s->b≠some s):put (put e d r) b c=put (put e b c) d r:=by
 cases d with
 | none=>rfl
 | some n=>cases b with| none=>rfl| some m=>exact Am5 _ _ _ (λe=>h n rfl (by rw[e]))
theorem Q8.wr {b:List (Nat×Bn)} (h:Q8 P ops acc i o e H r b):∀p∈b,p.1∈(acc i).2:=by
 obtain⟨_,⟨_,g,_,_,_,f,_,c⟩|⟨_,_,h3⟩⟩:=h
 .subst c;exact f
 .subst h3;intro p hp;cases hp
theorem Run.swap {j:Nat} (h:Run P ops acc (i::j::l) e H e' H') (hi:∀o o',ops[i]? = some o->ops[j]? = some o'->Ind ops acc i j o o'):Run P ops acc (j::i::l) e H e' H':=by
 cases h with
 | cons o r wr hd rest=>cases rest with| cons o' g c b rest=>have ind:=hi o o' hd.1 b.1;have a1:Q8 P ops acc j o' e H g c:=b.congr (λs f=>(Anx (λe=>(ind.d1 s e).1 f)).symm) (λx hx=>(Vs (λp hp e=>(ind.h1 p.1 (hd.wr p hp)).1 (e ▸ hx))).symm);have a2:Q8 P ops acc i o (put e o'.dst g) (Cq H c) r wr:=hd.congr (λs f=>Anx (λe=>ind.d2 s e f)) (λx hx=>Vs (λp hp e=>ind.h2 p.1 (b.wr p hp) (e ▸ hx)));refine .cons o' g c a1 (.cons o r wr a2 ?_);rw[Azl (λs f e=>(ind.d1 s e).2 f),Anw (λp hp q hq e=>(ind.h1 q.1 (hd.wr q hq)).2 (e ▸ b.wr p hp))];exact rest
theorem Run.bubble:∀{b c:List Nat} {e e':B5} {H H':Hp},Run P ops acc (b++i::c) e H e' H'->(∀j∈b,∀o o',ops[j]? = some o->ops[i]? = some o'->Ind ops acc j i o o')->Run P ops acc (i::(b++c)) e H e' H'
 | [],_,_,_,_,_,h,_=>h
 | j::b,c,e,e',H,H',h,hi=>by cases h with| cons o r wr hd rest=>exact Run.swap (.cons o r wr hd (rest.bubble (λk hk=>hi k (by simp[hk])))) (hi j ψ)
end
def Q9 (ms:List Nat) (o:Oper):Nat:=o.after.toList.foldl (λa x=>bif Region.binds .any x then a ||| ((1 <<< x.on) ||| ms.getD x.on 0) else a) 0
def Kq:List Oper->List Nat->List Nat
 | [],ms=>ms
 | o::os,ms=>Kq os (ms++[Q9 ms o])
def Ym (l m:List Nat):Bool:=l.all λx=>!m.contains x
def Aig (ops:Array Oper) (a b:List Nat×List Nat) (o o':Oper):Bool := (match o.dst with
   | none=>true
   | some s=>!(Mf ops o').contains s && !(o'.dst==some s)) && (match o'.dst with
   | none=>true
   | some s=>!(Mf ops o).contains s) && Ym a.2 b.1&&Ym a.2 b.2&&Ym b.2 a.1
def Aih (ops:List Oper) (acc:List (List Nat×List Nat)):Bool :=
 let M:=Kq ops []
 (ops.zipIdx.all λp=>p.1.after.toList.all λx=>!Region.binds .any x||Nat.blt x.on p.2) && ops.zipIdx.all λp=>ops.zipIdx.all λq=>!Nat.blt q.2 p.2||(M.getD p.2 0).testBit q.2||Aig ops.toArray (acc.getD q.2 ([],[])) (acc.getD p.2 ([],[])) q.1 p.1
section
variable {P:Program} {F:A5} {W:World} {Q:Exit->Act->World->Prop}
variable {ops:Array Oper} {i:Nat}
theorem Anz:∀(os:List Oper) (ms:List Nat),(Kq os ms).take ms.length=ms/\(Kq os ms).length=ms.length+os.length /\ ∀(k:Nat) (o:Oper),os[k]? = some o->(Kq os ms).getD (ms.length+k) 0=Q9 ((Kq os ms).take (ms.length+k)) o
 | [],ms=>⟨by simp[Kq],by simp[Kq],ψ⟩
 | o::os,ms=>by
  obtain⟨h1,h2,h3⟩:=Anz os (ms++[Q9 ms o]);simp only[Kq];simp only[length_append,length_cons,length_nil]at h1 h2 h3;have b:(Kq os (ms++[Q9 ms o])).take ms.length=ms:=(by have:=congrArg (take ms.length) h1;rw[take_take]at this;simpa using this);refine⟨b,by simp only[length_cons];omega,λk o' hk=>?_⟩;cases k with
  | zero=>simp at hk;subst hk;rw[Nat.add_zero,b];have hg:(Kq os (ms++[Q9 ms o]))[ms.length]? = some (Q9 ms o):=(by have c:((Kq os (ms++[Q9 ms o])).take (ms.length+1))[ms.length]? = (Kq os (ms++[Q9 ms o]))[ms.length]?:=H8 ω;rw[<-c,h1];simp);simp[getD,hg]
  | succ k=>have:=h3 k o' (by simpa using hk);rwa [show ms.length+1+k=ms.length+(k+1) by omega]at this
theorem An0 (ms:List Nat) (j:Nat):∀(l:List Edge) (a:Nat),(l.foldl (λa x=>bif Region.binds .any x then a ||| ((1 <<< x.on) ||| ms.getD x.on 0) else a) a).testBit j=true -> a.testBit j=true\/∃x∈l,Region.binds .any x=true/\(x.on=j\/(ms.getD x.on 0).testBit j=true)
 | [],a,h=>.inl h
 | x::l,a,h=>by
  simp only[foldl_cons]at h;rcases An0 ms j l _ h with h'|⟨y,hy,hb⟩
  .cases hb:Region.binds .any x with
   | false=>rw[hb]at h';exact .inl h'
   | true=>
    rw[hb]at h';simp only[cond_true,Nat.testBit_or,Bool.or_eq_true]at h';rcases h' with h'|h'|h'
    .exact .inl h'
    .refine .inr ⟨x,ψ,hb,.inl ?_⟩;rw[Nat.one_shiftLeft,Nat.testBit_two_pow]at h';simpa using h'
    .exact .inr ⟨x,ψ,hb,.inr h'⟩
  .exact .inr ⟨y,by simp[hy],hb⟩
theorem Aii {l m:List Nat} (h:Ym l m=true):∀x∈l,x ∉ m:=by intro x hx b;unfold Ym at h;rw[Ej]at h;have:=h x hx;simp[b]at this
theorem Azm {acc:Acc} {j:Nat} {o o':Oper} (h:Aig ops (acc i) (acc j) o o'=true):Ind ops acc i j o o':=by
 unfold Aig at h;simp only[Fr]at h;obtain⟨⟨⟨⟨h1,h2⟩,h3⟩,f⟩,c⟩:=h;refine⟨λs b=>?_,λs b=>?_,λx hx=>⟨Aii h3 x hx,Aii f x hx⟩,Aii c⟩
 .rw[b]at h1;simpa using h1
 .rw[b]at h2;simpa using h2
def Azn (ops:Array Oper) (b:Array Bool):Prop := ∀(k:Nat) (o:Oper),ops[k]? = some o->b.getD k false=true->∀x∈o.after.toList,Region.binds .any x=true->b.getD x.on false=true
theorem An1 {b:Array Bool} (h:i∈Region.ready .any ops b) : i<ops.size/\b.getD i true=false/\∀o,ops[i]? = some o->∀x∈o.after.toList,Region.binds .any x=true->b.getD x.on false=true:=by unfold Region.ready at h;rw[mem_filter]at h;obtain⟨h1,h2⟩:=h;simp only[Fr,Bool.not_eq_true']at h2;refine⟨by simpa using h1,h2.1,λo c x hx hb=>?_⟩;have h3:=h2.2;rw[c]at h3;simp only[Option.map_some,Option.getD_some]at h3;rw[<-Array.all_toList,Ej]at h3;have:=h3 x hx;simpa[hb] using this
theorem Aij {ops:List Oper} {accs:List (List Nat×List Nat)} (N:Aih ops accs=true) {e':B5} {H':Hp}:∀(fuel:Nat) (b:Array Bool) (l:List Nat) (e:B5) (H:Hp) (σ:A5) (ι:Cd) (a:Act) (w:World), Run P ops.toArray (λi=>accs.getD i ([],[])) l e H e' H'->l.Pairwise (· < ·)->(∀i,i∈l↔i<ops.length/\b.getD i true=false)->b.size=ops.length->Azn ops.toArray b->l.length=fuel -> St σ ι H F W w->Ft σ ι H e a->Acy ops.toArray a.tmps.size -> (∀σ' ι' a' w',Le σ ι H σ' ι' H'->St σ' ι' H' F W w'->Ft σ' ι' H' e' a'->a'.tmps.size=a.tmps.size->a'.defers=a.defers->Gi (Yl ops.toArray) a a'->Q .normal a' w') -> wpAny P .any ops.toArray Q fuel b a w
 | 0,b,l,e,H,σ,ι,a,w,hr,hp,J,a6,U,f,s,he,hs,hk=>by have D:l = []:=eq_nil_of_length_eq_zero f;subst D;cases hr;refine⟨?_,hk σ ι a w (Le.refl _ _ _) s he rfl rfl (Gi.refl _ _)⟩;apply eq_nil_iff_forall_not_mem.2;intro i hi;obtain⟨h1,h2,_⟩:=An1 hi;have:=(J i).2 ⟨by simpa using h1,h2⟩;cases this
 | fuel+1,b,l,e,H,σ,ι,a,w,hr,hp,J,a6,U,f,s,he,hs,hk=>by
  unfold Aih at N;have I:=N;simp only[Fr,Ej]at I;obtain⟨S,M⟩:=I;have u:∀(i:Nat) (o:Oper),ops[i]? = some o->(o,i)∈ops.zipIdx:=(by intro i o h;rw[mem_iff_getElem?];exact⟨i,by simp[getElem?_zipIdx,h]⟩);have A:∀(i:Nat) (o:Oper),ops[i]? = some o->∀x∈o.after.toList,Region.binds .any x=true->x.on<i:=(by intro i o h x hx hb;have:=S (o,i) (u i o h) x hx;simp only[hb,Bool.not_true,Bool.false_or]at this;exact Gy this);refine⟨λaa=>?_,λi hi=>?_⟩
  .exfalso;cases l with
   | nil=>simp at f
   | cons i l=>
    have R:=(J i).1 ψ;have:i∈Region.ready .any ops.toArray b:=by
     unfold Region.ready;rw[mem_filter];refine⟨by simpa using R.1,?_⟩;simp only[Fr,Bool.not_eq_true'];refine⟨R.2,?_⟩;have ab:i<ops.length:=R.1;have ho:ops[i]? = some ops[i]:=getElem?_eq_getElem ab;have aq:ops.toArray[i]? = some ops[i]:=(by simp[ab]);rw[aq];simp only[Option.map_some,Option.getD_some];rw[<-Array.all_toList,Ej];intro x hx;cases hb:Region.binds .any x with
     | false=>rfl
     | true=>
      simp only[Bool.not_true,Bool.false_or];have b6:=A i _ ho x hx hb;cases D:b.getD x.on true with
      | true=>have g:x.on<b.size:=ω;simp only[Array.getD_eq_getD_getElem?]at D ⊢;simpa[g] using D
      | false=>
       have hxm:=(J x.on).2 ⟨ω,D⟩;simp only[mem_cons]at hxm;rcases hxm with hxm|hxm
       .omega
       .have:=(pairwise_cons.1 hp).1 _ hxm;omega
    rw[aa]at this;cases this
  .obtain⟨b0,az,ae⟩:=An1 hi;have q:i<ops.length:=(by simpa using b0);have ay:=(J i).2 ⟨q,az⟩;obtain⟨l1,l2,rfl⟩:=append_of_mem ay;have b7:ops[i]? = some ops[i]:=getElem?_eq_getElem q;have b5:ops.toArray[i]? = some ops[i]:=(by simp[q]);have z:∀(k:Nat) (o:Oper),ops[k]? = some o->(b.getD k false=true\/k=i)->∀j,((Kq ops []).getD k 0).testBit j=true->b.getD j false=true:=by
    intro k;induction k using Nat.strongRecOn with
    | _ k ih=>
     intro o hk hor j hj;have a7:=(Anz ops []).2.2 k o hk;simp only[length_nil,Nat.zero_add]at a7;rw[a7]at hj;rcases An0 _ j _ _ hj with h0|⟨x,hx,hb,a8⟩
     .simp at h0
     .have V:b.getD x.on false=true:=by
       rcases hor with hor|hor
       .exact U k o (by simpa using hk) hor x hx hb
       .subst hor;exact ae o (by simpa using hk) x hx hb
      rcases a8 with rfl|hj'
      .exact V
      .have X:=A k o hk x hx hb;have am:x.on<ops.length:=(by have:=(Gx.1 hk).1;omega);have e1:((Kq ops []).take k).getD x.on 0=(Kq ops []).getD x.on 0:=(by simp only[getD_eq_getElem?_getD];rw[H8 X]);rw[e1]at hj';exact ih x.on X _ (getElem?_eq_getElem am) (.inl V) j hj'
   have ad:∀j∈l1,∀o o',ops.toArray[j]? = some o->ops.toArray[i]? = some o'->Ind ops.toArray (λi=>accs.getD i ([],[])) j i o o':=by
    intro j hj o o' ar ax;have av:j<i:=(by have:=(pairwise_append.1 hp).2.2 j hj i ψ;exact this);have au:=(J j).1 (by simp[hj]);have ac:ops[j]? = some o:=(by simpa using ar);have L:ops[i]? = some o':=(by simpa using ax);have:=M (o',i) (u i o' L) (o,j) (u j o ac);simp only[Bool.or_eq_true,Bool.not_eq_true']at this;rcases this with (h1|h1) | h1
    .have:Nat.blt j i=true:=(by unfold Nat.blt;exact Nat.ble_eq_true_of_le av);rw[this]at h1;cases h1
    .have h2:=z i o' L (.inr rfl) j h1;have g:j<b.size:=ω;have h3:=au.2;simp only[Array.getD_eq_getD_getElem?]at h2 h3;simp[g]at h2 h3;rw[h2]at h3;cases h3
    .exact Azm (acc:=λi=>accs.getD i ([],[])) h1
   have ai:=hr.bubble ad;refine ai.wpOp s he hs ?_;intro e1 H1 r1 σ1 ι1 a1 w1 ak s1 b4 E ag ap;have G:∀(k:Nat) (d:Bool),(b.setIfInBounds i true).getD k d=if k=i then true else b.getD k d:=by
    intro k d;simp only[Array.getD_eq_getD_getElem?];by_cases c:k=i
    .subst c;rw[if_pos rfl,Array.getElem?_setIfInBounds_self_of_lt ω];rfl
    .rw[if_neg c,Array.getElem?_setIfInBounds_ne ω]
   have B:∀k∈l1++l2,k≠i:=by
    intro k hk e;subst e;rw[pairwise_append]at hp;rcases mem_append.1 hk with hk|hk
    .have:=hp.2.2 k hk k ψ;omega
    .have:=(pairwise_cons.1 hp.2.1).1 k hk;omega
   refine Aij N fuel _ (l1++l2) e1 H1 σ1 ι1 a1 w1 r1 ?_ ?_ (by simpa using a6) ?_ (by simp at f ⊢;omega) s1 b4 (by rw[E];exact hs) ?_
   .rw[pairwise_append]at hp ⊢;exact⟨hp.1,(pairwise_cons.1 hp.2.1).2,λx hx y hy=>hp.2.2 x hx y (by simp[hy])⟩
   .intro k;rw[G];constructor
    .intro hk;have h1:=(J k).1 (by
      rcases mem_append.1 hk with hk|hk
      .simp[hk]
      .simp[hk])
     rw[if_neg (B k hk)];exact h1
    .rintro⟨h1,h2⟩;by_cases c:k=i
     .rw[if_pos c]at h2;cases h2
     .rw[if_neg c]at h2;have:=(J k).2 ⟨h1,h2⟩;simp only[mem_append,mem_cons]at this ⊢;rcases this with h|h|h
      .exact .inl h
      .exact (c h).elim
      .exact .inr h
   .intro k o hk D x hx ah;rw[G]at D ⊢;by_cases Y:x.on=i
    .rw[if_pos Y]
    .rw[if_neg Y];by_cases c:k=i
     .subst c;exact ae o hk x hx ah
     .rw[if_neg c]at D;exact U k o hk D x hx ah
   .intro σ2 ι2 a2 w2 aj s2 b3 Z af ao;exact hk σ2 ι2 a2 w2 (ak.trans aj) s2 b3 (Z.trans E) (af.trans ag) (ap.trans ao)
end
end Go.Ab
