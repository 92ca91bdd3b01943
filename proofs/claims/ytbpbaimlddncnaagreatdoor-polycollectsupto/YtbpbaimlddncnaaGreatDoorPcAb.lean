/- Abstract values. -/
import Derived.Calls
import Derived.Orders
import Derived.Lib.ItoaNum
import Derived.Laws.CopyRow
import Derived.Laws.Cells
import Derived.Laws.Append
import Derived.Laws.IdiomStrings
import Derived.Lib.SliceRun
import Derived.Laws.FloatArith
import Derived.Laws.Cover2
import Derived.Laws.MakeOwn
import Derived.Lib.AppendStr
import Derived.MapKept
import Derived.WideKeyRuns
import Derived.Scope
open List
namespace Go.Ab
variable {i m n:Nat} {p:Prop} {α:Type _} {l:List α} {a:α}
abbrev OB:=Option Bool
theorem ζ (h:p:=by simp;omega):p:=h
theorem ω (h:p:=by omega):p:=h
theorem δ (h:p:=by decide):p:=h
theorem ψ (h:p:=by simp):p:=h
theorem F8:l[i]? = some a↔∃h:i<l.length,l[i]=a:=List.getElem?_eq_some_iff
theorem Ef {p:α->Bool}:l.all p=true↔∀x,x∈l->p x=true:=all_eq_true
theorem E7 (h:l[i]? = some a):a∈l:=mem_of_getElem? h
theorem Gi {xs:Array α}:xs.toList[i]? = xs[i]?:=Array.getElem?_toList
theorem F3 (h:n.ble m=true):n<=m:=Nat.le_of_ble_eq_true h
theorem Ft (h:n.beq m=true):n=m:=Nat.eq_of_beq_eq_true h
theorem He {j:Nat} (h:i<j):(l.take j)[i]? = l[i]?:=getElem?_take_of_lt h
variable {m n:Nat} {α:Type}
theorem Fc (a b:Bool):((a&&b)=true)=(a=true/\b=true):=Bool.and_eq_true a b
theorem Eg (a b c:Nat):(a+b)*c=a*c+b*c:=Nat.add_mul a b c
inductive AV where
 | val (v:Value)
 | loc (h off:Nat)
 | arr (h k off len:Nat)
 | el (h k i j:Nat)
 | mp (h:Nat)
 | ref (cs:List AV)
 | sl (sz:Nat) (xs:List AV)
 | agg (cs:List AV)
 | tup (cs:List AV)
 | fn (f:FuncId) (caps:List AV)
 | fb (s:ByteArray)
 | vec (h n:Nat)
inductive Bf where
 | none
 | dead
 | cells (elem:TypeId) (cs:List AV)
 | rows (elem:TypeId) (sz:Nat) (xs:List AV)
 | map (es:List (AV×AV))
abbrev Bv:=Nat->AV
abbrev Hp:=Nat->Bf
abbrev Ax:=Nat->Option Obj
def A4 (e:Nat->α) (n:Nat) (v:α):Nat->α:=λm=>bif Nat.beq m n then v else e m
theorem Cd (e:Nat->α) (n:Nat) (v:α):A4 e n v n=v:=by simp[A4]
theorem Cy (e:Nat->α) (v:α) (h:m≠n):A4 e n v m=e m:=by
 have:Nat.beq m n=false:=by
  cases u:Nat.beq m n
  .rfl
  .exact absurd (Ft u) h
 simp[A4,this]
theorem Aj4 (e:Nat->α) (u v:α) (h:m≠n):A4 (A4 e n u) m v=A4 (A4 e m v) n u:=by
 funext k;by_cases A:k=n
 .subst A;rw[Cy _ _ (Ne.symm h),Cd,Cd]
 .by_cases B:k=m
  .subst B;rw[Cd,Cy _ _ A,Cd]
  .rw[Cy _ _ B,Cy _ _ A,Cy _ _ A,Cy _ _ B]
def AV.cells:AV->List AV
 | .agg cs=>cs
 | .val (.agg vs)=>vs.toList.map .val
 | x=>[x]
def Ew:Value->Bool
 | .agg _ | .tuple _=>false
 | _=>true
def AV.one:AV->Bool
 | .agg _ | .tup _=>false
 | .val v=>Ew v
 | _=>true
inductive CC (σ:Ax):AV->Value->Prop where
 | val (v:Value):CC σ (.val v) v
 | nil (sz:Nat) (a:Option Addr) (cap:Nat):CC σ (.sl sz []) (.slice a 0 cap)
 | sl (xs:List AV) (b off cap sz:Nat) (C:Array Value) (E:TypeId) (fr:Nat×Nat) (g:Nat->Nat->Value) (hσ:σ b=some (.cells C E fr))
   (hs:∀(i:Nat) (x:AV),xs[i]? = some x->x.cells.length=sz)
   (hc:∀(i:Nat) (x:AV) (j:Nat) (c:AV),xs[i]? = some x->x.cells[j]? = some c->CC σ c (g i j))
   (h1:∀(i:Nat) (x:AV) (j:Nat) (c:AV),xs[i]? = some x->x.cells[j]? = some c->Ew (g i j)=true)
   (hC:∀(i j:Nat),i<xs.length->j<sz->C[off+i*sz+j]? = some (g i j))
   (hl:xs.length<=140737488355328) (hcap:xs.length<=cap):CC σ (.sl sz xs) (.slice (some ⟨b,off,Option.none⟩) xs.length cap)
 | agg (cs:List AV) (vs:Array Value) (hl:vs.size=cs.length) (h:∀(i:Nat) (c:AV) (v:Value),cs[i]? = some c->vs[i]? = some v->CC σ c v):CC σ (.agg cs) (.agg vs)
 | fbn (s:ByteArray) (a:Option Addr) (cap:Nat) (h0:s.size=0):CC σ (.fb s) (.slice a 0 cap)
 | fb (s:ByteArray) (b cap:Nat) (C:Array Value) (hσ:σ b=some (.cells C 5 (0,s.size))) (h0:s.size≠0) (hcap:s.size<=cap) (hC:s.size<=C.size) (hl:s.size<=140737488355328)
   (hb:∀(j:Nat) (x:UInt8),s.data[j]? = some x->C[j]? = some (Value.int .u8 x.toNat)):CC σ (.fb s) (.slice (some ⟨b,0,Option.none⟩) s.size cap)
inductive Loc where
 | none
 | box (b:Nat)
 | nil
 | blk (b tot:Nat)
abbrev Bx:=Nat->Loc
def Loc.block?:Loc->Option Nat
 | .box b=>some b
 | .blk b _=>some b
 | _=>Option.none
def Gz (l:Loc) (sz off len:Nat) (v:Value):Prop := match l with
 | .nil=>v = .slice Option.none 0 0/\off=0/\len=0
 | .blk b c=>off+len<=c/\v = .slice (some ⟨b,off*sz,Option.none⟩) len (c-off)
 | _=>False
def Aj5 (l:Loc) (sz i j:Nat) (v:Value):Prop := match l with
 | .blk b _=>v = .pointer (some ⟨b,i*sz+j,Option.none⟩)
 | _=>False
inductive Conc (σ:Ax) (ι:Bx) (H:Hp):AV->Value->Prop where
 | cc {a:AV} {v:Value} (h:CC σ a v):Conc σ ι H a v
 | loc (h off b:Nat) (hb:ι h = .box b):Conc σ ι H (.loc h off) (.pointer (some ⟨b,off,Option.none⟩))
 | mp (h b:Nat) (hb:ι h = .box b):Conc σ ι H (.mp h) (.map (some b))
 | vec (h n b:Nat) (hb:ι h = .box b):Conc σ ι H (.vec h n) (.slice (some ⟨b,0,Option.none⟩) n n)
 | arr (h k off len:Nat) (v:Value) (hn:H h≠.none) (hv:∀E sz xs,H h = .rows E sz xs->k<=xs.length/\(xs.length=k->Gz (ι h) sz off len v))
   (hone:Ew v=true):Conc σ ι H (.arr h k off len) v
 | el (h k i j:Nat) (v:Value) (hn:H h≠.none) (hv:∀E sz xs,H h = .rows E sz xs->k<=xs.length/\(xs.length=k->Aj5 (ι h) sz i j v))
   (hone:Ew v=true):Conc σ ι H (.el h k i j) v
 | ref (cs:List AV) (b off:Nat) (C:Array Value) (E:TypeId) (fr:Nat×Nat) (g:Nat->Value) (hσ:σ b=some (.cells C E fr))
   (hc:∀(j:Nat) (c:AV),cs[j]? = some c->CC σ c (g j)) (h1:∀(j:Nat) (c:AV),cs[j]? = some c->Ew (g j)=true)
   (hC:∀(j:Nat),j<cs.length->C[off+j]? = some (g j)):Conc σ ι H (.ref cs) (.pointer (some ⟨b,off,Option.none⟩))
 | agg (cs:List AV) (vs:Array Value) (hl:vs.size=cs.length) (h:∀(i:Nat) (c:AV) (v:Value),cs[i]? = some c->vs[i]? = some v->Conc σ ι H c v):Conc σ ι H (.agg cs) (.agg vs)
 | tup (cs:List AV) (vs:Array Value) (hl:vs.size=cs.length) (h:∀(i:Nat) (c:AV) (v:Value),cs[i]? = some c->vs[i]? = some v->Conc σ ι H c v):Conc σ ι H (.tup cs) (.tuple vs)
 | fn (f:FuncId) (caps:List AV) (vs:Array Value) (hl:vs.size=caps.length) (h:∀(i:Nat) (c:AV) (v:Value),caps[i]? = some c->vs[i]? = some v->Conc σ ι H c v) :
   Conc σ ι H (.fn f caps) (.func (.func f) #[] vs)
def Ax.le (σ c:Ax):Prop:=∀b o,σ b=some o->c b=some o
theorem Ax.le_refl (σ:Ax):σ.le σ:=λ_ _ h=>h
theorem Ax.le_trans {σ f c:Ax} (h:Ax.le σ f) (h':Ax.le f c):Ax.le σ c:=λb o e=>h' b o (h b o e)
variable {σ:Ax} {ι:Bx} {H H':Hp} {v:Value}
structure HLe (l:Loc) (o:Bf) (l':Loc) (o':Bf):Prop where
 box:∀b,l = .box b->l' = .box b
 some:o≠.none->o'≠.none
 rows:o≠.none->∀E' sz' xs',o' = .rows E' sz' xs'->∃E sz xs,o = .rows E sz xs/\(xs.length<xs'.length\/(xs.length=xs'.length/\sz=sz'/\l=l'))
theorem HLe.refl (l:Loc) (o:Bf):HLe l o l o := ⟨λ_ h=>h,λh=>h,λ_ E sz xs h=>⟨E,sz,xs,h,.inr ⟨rfl,rfl,rfl⟩⟩⟩
theorem HLe.trans {l y i:Loc} {o o' g:Bf} (h:HLe l o y o') (h':HLe y o' i g):HLe l o i g:=by
 refine⟨λb e=>h'.box b (h.box b e),λe=>h'.some (h.some e),λe u f c s=>?_⟩;obtain⟨G,k,j,e',x⟩:=h'.rows (h.some e) u f c s;obtain⟨E,sz,xs,D,r⟩:=h.rows e G k j e';refine⟨E,sz,xs,D,?_⟩;rcases r with r|⟨J,I,z⟩ <;> rcases x with x|⟨B,A,q⟩
 .left;omega
 .left;omega
 .left;omega
 .exact .inr ⟨ω,ω,z.trans q⟩
structure Le (σ:Ax) (ι:Bx) (H:Hp) (σ':Ax) (ι':Bx) (H':Hp):Prop where
 sto:σ.le σ'
 obj:∀h,HLe (ι h) (H h) (ι' h) (H' h)
theorem Le.refl (σ:Ax) (ι:Bx) (H:Hp):Le σ ι H σ ι H:=⟨Ax.le_refl σ,λ_=>HLe.refl _ _⟩
theorem Le.trans {g b:Ax} {i c:Bx} {f:Hp} (h:Le σ ι H g i H') (h':Le g i H' b c f):Le σ ι H b c f := ⟨Ax.le_trans h.sto h'.sto,λx=>(h.obj x).trans (h'.obj x)⟩
theorem CC.mono {l:Ax} (hs:σ.le l) {a:AV} (h:CC σ a v):CC l a v:=by induction h with| val v=>exact .val v| nil sz a cap=>exact .nil sz a cap| sl xs b off cap sz C E fr g i j _ h1 k f c ih=>exact .sl xs b off cap sz C E fr g (hs _ _ i) j ih h1 k f c| agg cs vs f _ ih=>exact .agg cs vs f ih| fbn s a cap h0=>exact .fbn s a cap h0| fb s b cap C i h0 c k f hb=>exact .fb s b cap C (hs _ _ i) h0 c k f hb
theorem Conc.mono {J:Ax} {L:Bx} (hs:Le σ ι H J L H') {a:AV} (h:Conc σ ι H a v):Conc J L H' a v:=by
 induction h with
 | cc h=>exact .cc (h.mono hs.sto)
 | loc h off b hb=>exact .loc h off b ((hs.obj h).box b hb)
 | mp h b hb=>exact .mp h b ((hs.obj h).box b hb)
 | vec h n b hb=>exact .vec h n b ((hs.obj h).box b hb)
 | arr h k off len v y u l=>
  refine .arr h k off len v ((hs.obj h).some y) (λI s q e=>?_) l;obtain⟨E,sz,xs,G,r⟩:=(hs.obj h).rows y I s q e;obtain⟨hk,u⟩:=u E sz xs G;rcases r with r|⟨M,D,B⟩
  .exact⟨ω,λx=>ω⟩
  .rw[<-D,<-B];exact⟨ω,λx=>u ω⟩
 | el h k i j v y u l=>
  refine .el h k i j v ((hs.obj h).some y) (λI s q e=>?_) l;obtain⟨E,sz,xs,G,r⟩:=(hs.obj h).rows y I s q e;obtain⟨hk,u⟩:=u E sz xs G;rcases r with r|⟨M,D,B⟩
  .exact⟨ω,λx=>ω⟩
  .rw[<-D,<-B];exact⟨ω,λx=>u ω⟩
 | ref cs b off C E fr g N hc h1 R=>exact .ref cs b off C E fr g (hs.sto _ _ N) (λj c h=>(hc j c h).mono hs.sto) h1 R
 | agg cs vs z _ ih=>exact .agg cs vs z ih
 | tup cs vs z _ ih=>exact .tup cs vs z ih
 | fn f A vs z _ ih=>exact .fn f A vs z ih
variable {F b σ:Ax} {ι:Bx} {H:Hp} {W w:World}
def Ic (σ:Ax) (sz:Nat) (xs:List AV) (C:Array Value):Prop := ∃g:Nat->Nat->Value,(∀(i:Nat) (x:AV),xs[i]? = some x->x.cells.length=sz) /\ (∀(i:Nat) (x:AV) (j:Nat) (c:AV),xs[i]? = some x->x.cells[j]? = some c->CC σ c (g i j)/\Ew (g i j)=true) /\ (∀(i j:Nat),i<xs.length->j<sz->C[i*sz+j]? = some (g i j))
def To (σ:Ax) (es:List (AV×AV)) (M:Array MapEntry):Prop := M.size=es.length/\∀(i:Nat) (p:AV×AV) (e:MapEntry),es[i]? = some p->M[i]? = some e->CC σ p.1 e.key/\CC σ p.2 e.val
theorem To.mono (hs:σ.le b) {es:List (AV×AV)} {M:Array MapEntry} (h:To σ es M):To b es M := ⟨h.1,λi p e h1 h2=>⟨(h.2 i p e h1 h2).1.mono hs,(h.2 i p e h1 h2).2.mono hs⟩⟩
def Cv (σ:Ax) (ι:Bx) (H:Hp) (F:Ax) (w:World) (h:Nat):Prop := match H h with
 | .none=>ι h = .none
 | .dead=>True
 | .cells E cs=>∃(b:Nat) (C:Array Value),ι h = .box b/\σ b=none/\F b=none/\w.heap[b]? = some (.cells C E (0,0))/\C.size=cs.length /\ ∀(i:Nat) (c:AV) (v:Value),cs[i]? = some c->C[i]? = some v->Conc σ ι H c v
 | .rows E sz xs=>0<sz/\xs.length<=140737488355328/\((ι h = .nil/\xs = [])\/∃(b f:Nat) (C:Array Value),ι h = .blk b f/\σ b=none/\F b=none /\ w.heap[b]? = some (.cells C E (0,0))/\C.size=f*sz/\xs.length<=f/\Ic σ sz xs C)
 | .map es=>∃(b:Nat) (M:Array MapEntry) (t:Nat),ι h = .box b/\σ b=none/\F b=none/\w.heap[b]? = some (.map M t)/\To σ es M
def Bf.live:Bf->Bool
 | .none | .dead=>false
 | _=>true
def Tp (σ:Ax):Prop:=∃(E:TypeId) (u:Nat×Nat),σ 0=some (.cells (Lib.pow10Tab.map λz=>Value.int .u64 z).toArray E u)
theorem Tp.mono (h:σ.le b) (g:Tp σ):Tp b:=by obtain⟨E,fr,e⟩:=g;exact⟨E,fr,h _ _ e⟩
structure St (σ:Ax) (ι:Bx) (H:Hp) (F:Ax) (W w:World):Prop where
 sto:∀b o,σ b=some o->w.heap[b]? = some o
 fra:∀b o,F b=some o->w.heap[b]? = some o/\σ b=none
 obj:∀h,Cv σ ι H F w h
 inj:∀h h' b,(H h).live=true->(H h').live=true->(ι h).block? = some b->(ι h').block? = some b->h=h'
 os:w.os=W.os
 tape:w.tape=W.tape
 output:w.output=W.output
 glo:Tp σ
 drw:W.drawn<=w.drawn
theorem Ic.mono (hs:σ.le b) {sz:Nat} {xs:List AV} {C:Array Value} (h:Ic σ sz xs C):Ic b sz xs C:=by obtain⟨g,h1,h2,h3⟩:=h;exact⟨g,h1,λi x j c hx hc=>⟨((h2 i x j c hx hc).1).mono hs,(h2 i x j c hx hc).2⟩,h3⟩
theorem St.block (s:St σ ι H F W w) {h b:Nat} (g:(H h).live=true) (hb:(ι h).block? = some b) : b<w.heap.size/\σ b=none/\F b=none:=by
 have c:=s.obj h;unfold Cv at c;cases f:H h with
 | none=>rw[f]at g;cases g
 | dead=>rw[f]at g;cases g
 | cells E cs=>rw[f]at c;obtain⟨i,C,e,h1,h2,h3,_⟩:=c;rw[e]at hb;simp[Loc.block?]at hb;subst hb;refine⟨?_,h1,h2⟩;exact (Array.getElem?_eq_some_iff.1 h3).1
 | rows E sz xs=>
  rw[f]at c;obtain⟨_,_,⟨e,_⟩|⟨i,j,C,e,h1,h2,h3,_⟩⟩:=c
  .rw[e]at hb;simp[Loc.block?]at hb
  .rw[e]at hb;simp[Loc.block?]at hb;subst hb;exact⟨(Array.getElem?_eq_some_iff.1 h3).1,h1,h2⟩
 | map es=>rw[f]at c;obtain⟨i,M,t,e,h1,h2,h3,_⟩:=c;rw[e]at hb;simp[Loc.block?]at hb;subst hb;exact⟨(Array.getElem?_eq_some_iff.1 h3).1,h1,h2⟩
theorem St.touch {I:Ax} {J:Bx} {H':Hp} {w':World} (s:St σ ι H F W w) (h t:Nat) (X:∀x,x≠h->J x=ι x) (Y:∀x,x≠h->H' x=H x) (le:Le σ ι H I J H') (f:∀b,b≠t->w'.heap[b]? = w.heap[b]?) (N:∀b,b≠t->I b=σ b) (a1:∀o,I t=some o->w'.heap[t]? = some o) (j:∀x,x≠h->(H x).live=true->(ι x).block?≠some t) (hF:F t=none) (A:∀b,(H' h).live=true->(J h).block? = some b->b=t\/((H h).live=true/\(ι h).block? = some b)) (S:Cv I J H' F w' h) (a6:w'.os=w.os) (D:w'.tape=w.tape) (R:w'.output=w.output) (hdrw:w.drawn<=w'.drawn:=by exact Nat.le_refl _):St I J H' F W w':=by
 refine⟨?_,?_,?_,?_,a6.trans s.os,D.trans s.tape,R.trans s.output,s.glo.mono le.sto,Nat.le_trans s.drw hdrw⟩
 .intro b o hb;by_cases e:b=t
  .subst e;exact a1 o hb
  .rw[f b e];exact s.sto b o (by rw[<-N b e];exact hb)
 .intro b o hb;have e:b≠t:=(by intro e;subst e;rw[hF]at hb;cases hb);rw[f b e,N b e];exact s.fra b o hb
 .intro x;by_cases e:x=h
  .subst e;exact S
  .have z:=s.obj x;unfold Cv at z ⊢;rw[Y x e,X x e];cases hx:H x with
   | none=>rw[hx]at z;exact z
   | dead=>trivial
   | cells E cs=>rw[hx]at z;obtain⟨b,C,u,h1,h2,h3,U,K⟩:=z;have g:b≠t:=(by intro l;subst l;exact j x e (by rw[hx];rfl) (by rw[u];rfl));exact⟨b,C,u,by rw[N b g];exact h1,h2,by rw[f b g];exact h3,U,λi c v hc hv=>(K i c v hc hv).mono le⟩
   | rows E sz xs=>
    rw[hx]at z;obtain⟨z1,z2,⟨u,e2⟩|⟨b,Z,C,u,h1,h2,h3,U,K,h6⟩⟩:=z
    .exact⟨z1,z2,.inl ⟨u,e2⟩⟩
    .have g:b≠t:=(by intro l;subst l;exact j x e (by rw[hx];rfl) (by rw[u];rfl));exact⟨z1,z2,.inr ⟨b,Z,C,u,by rw[N b g];exact h1,h2,by rw[f b g];exact h3,U,K,h6.mono le.sto⟩⟩
   | map es=>rw[hx]at z;obtain⟨b,M,q,u,h1,h2,h3,U⟩:=z;have g:b≠t:=(by intro l;subst l;exact j x e (by rw[hx];rfl) (by rw[u];rfl));exact⟨b,M,q,u,by rw[N b g];exact h1,h2,by rw[f b g];exact h3,U.mono le.sto⟩
 .intro x y b L G V k;by_cases ex:x=h
  .subst ex;by_cases B:y=x
   .exact B.symm
   .rw[Y y B]at G;rw[X y B]at k;rcases A b L V with e|⟨l0,b0⟩
    .subst e;exact (j y B G k).elim
    .exact s.inj x y b l0 G b0 k
  .rw[Y x ex]at L;rw[X x ex]at V;by_cases B:y=h
   .subst B;rcases A b G k with e|⟨l0,b0⟩
    .subst e;exact (j x ex L V).elim
    .exact s.inj x y b L l0 V b0
   .rw[Y y B]at G;rw[X y B]at k;exact s.inj x y b L G V k
theorem HLe.of_none {b:Loc} {o':Bf}:HLe .none .none b o':=⟨nofun,λh=>(h rfl).elim,λh=>(h rfl).elim⟩
theorem Le.upd (hs:σ.le b) (h:Nat) (l:Loc) (o:Bf) (c:HLe (ι h) (H h) l o):Le σ ι H b (A4 ι h l) (A4 H h o):=by
 refine⟨hs,λx=>?_⟩;by_cases e:x=h
 .subst e;rw[Cd,Cd];exact c
 .rw[Cy _ _ e,Cy _ _ e];exact HLe.refl _ _
theorem Iq {α:Type} (e:Nat->α) (n:Nat):A4 e n (e n)=e:=by
 funext m;by_cases h:m=n
 .subst h;rw[Cd]
 .rw[Cy _ _ h]
theorem St.newBox (s:St σ ι H F W w) (h:Nat) (u:H h = .none) (E:TypeId) (cs:List AV) (C:Array Value) (l:C.size=cs.length) (hc:∀(i:Nat) (c:AV) (v:Value),cs[i]? = some c->C[i]? = some v->Conc σ ι H c v) : St σ (A4 ι h (.box w.heap.size)) (A4 H h (.cells E cs)) F W (w.alloc (.cells C E))/\Le σ ι H σ (A4 ι h (.box w.heap.size)) (A4 H h (.cells E cs)):=by
 have k:ι h = .none:=by have:=s.obj h;unfold Cv at this;rw[u]at this;exact this
 have le:Le σ ι H σ (A4 ι h (.box w.heap.size)) (A4 H h (.cells E cs)):=Le.upd (Ax.le_refl σ) h _ _ (by rw[k,u];exact HLe.of_none);have f:∀(S:Ax),(∀b o,S b=some o->w.heap[b]? = some o)->S w.heap.size=none:=by intro S y;cases e:S w.heap.size with| none=>rfl| some o=>have:=y _ _ e;simp at this
 have g:=f σ s.sto;have j:=f F λb o hb=>(s.fra b o hb).1;refine⟨s.touch h w.heap.size (λx e=>Cy _ _ e) (λx e=>Cy _ _ e) le ?_ (λ_ _=>rfl) (λo q=>by rw[g]at q;cases q) ?_ j ?_ ?_ rfl rfl rfl,le⟩
 .intro b hb;show (w.heap.push _)[b]? = _;rw[Array.getElem?_push,if_neg hb]
 .intro x e l hb;have:=(s.block l hb).1;omega
 .intro b _ hb;rw[Cd]at hb;simp[Loc.block?]at hb;exact .inl hb.symm
 .unfold Cv;rw[Cd];refine⟨w.heap.size,C,Cd _ _ _,g,j,?_,l,λi c v h1 h2=>(hc i c v h1 h2).mono le⟩;show (w.heap.push _)[w.heap.size]? = _;simp
theorem St.newFrozen (s:St σ ι H F W w) (o:Obj) : St (A4 σ w.heap.size (some o)) ι H F W (w.alloc o)/\Le σ ι H (A4 σ w.heap.size (some o)) ι H:=by
 have k:∀(S:Ax),(∀b o,S b=some o->w.heap[b]? = some o)->S w.heap.size=none:=by intro S I;cases e:S w.heap.size with| none=>rfl| some o=>have:=I _ _ e;simp at this
 have z:=k σ s.sto;have A:=k F λb o hb=>(s.fra b o hb).1;have j:σ.le (A4 σ w.heap.size (some o)):=by intro b o' hb;rw[Cy _ _ (by intro e;subst e;rw[z]at hb;cases hb)];exact hb
 have le:Le σ ι H (A4 σ w.heap.size (some o)) ι H:=⟨j,λ_=>HLe.refl _ _⟩;have f:∀b,b≠w.heap.size->(w.alloc o).heap[b]? = w.heap[b]?:=by intro b hb;show (w.heap.push _)[b]? = _;rw[Array.getElem?_push,if_neg hb]
 refine⟨⟨?_,?_,?_,s.inj,s.os,s.tape,s.output,s.glo.mono j,s.drw⟩,le⟩
 .intro b o' hb;by_cases e:b=w.heap.size
  .subst e;rw[Cd]at hb;cases hb;show (w.heap.push _)[w.heap.size]? = _;simp
  .rw[Cy _ _ e]at hb;rw[f b e];exact s.sto b o' hb
 .intro b o' hb;have e:b≠w.heap.size:=(by intro e;subst e;rw[A]at hb;cases hb);rw[f b e,Cy _ _ e];exact s.fra b o' hb
 .intro x;have h:=s.obj x;unfold Cv at h ⊢;cases hx:H x with
  | none=>rw[hx]at h;exact h
  | dead=>trivial
  | cells E cs=>rw[hx]at h;obtain⟨b,C,l,h1,h2,h3,u,B⟩:=h;have g:b≠w.heap.size:=(by have:=(Array.getElem?_eq_some_iff.1 h3).1;omega);exact⟨b,C,l,by rw[Cy _ _ g];exact h1,h2,by rw[f b g];exact h3,u,λi c v hc G=>(B i c v hc G).mono le⟩
  | rows E sz xs=>
   rw[hx]at h;obtain⟨D,K,⟨l,L⟩|⟨b,y,C,l,h1,h2,h3,u,B,J⟩⟩:=h
   .exact⟨D,K,.inl ⟨l,L⟩⟩
   .have g:b≠w.heap.size:=(by have:=(Array.getElem?_eq_some_iff.1 h3).1;omega);exact⟨D,K,.inr ⟨b,y,C,l,by rw[Cy _ _ g];exact h1,h2,by rw[f b g];exact h3,u,B,J.mono j⟩⟩
  | map es=>rw[hx]at h;obtain⟨b,M,q,l,h1,h2,h3,u⟩:=h;have g:b≠w.heap.size:=(by have:=(Array.getElem?_eq_some_iff.1 h3).1;omega);exact⟨b,M,q,l,by rw[Cy _ _ g];exact h1,h2,by rw[f b g];exact h3,u.mono j⟩
theorem St.drew (s:St σ ι H F W w) (n:Nat) (b:w.drawn<=n:=by first|exact Nat.le_succ _|exact Nat.le_refl _|omega):St σ ι H F W {w with drawn:=n}:=by refine⟨s.sto,s.fra,λh=>?_,s.inj,s.os,s.tape,s.output,s.glo,Nat.le_trans s.drw b⟩;have:=s.obj h;unfold Cv at this ⊢;exact this
theorem Aep (w:World) (g b:Nat) (C:Array Value) (h:b≠g):(w.setRow g C).heap[b]? = w.heap[b]?:=by simp only[World.setRow,Array.getElem?_modify];rw[if_neg ω]
theorem St.setBox (s:St σ ι H F W w) (h:Nat) (E:TypeId) (cs f:List AV) (j:H h = .cells E cs) (b:Nat) (hb:ι h = .box b) (g:Array Value) (l:g.size=f.length) (hc:∀(i:Nat) (c:AV) (v:Value),f[i]? = some c->g[i]? = some v->Conc σ ι H c v) : St σ ι (A4 H h (.cells E f)) F W (w.setRow b g)/\Le σ ι H σ ι (A4 H h (.cells E f)):=by
 have k:=s.obj h;unfold Cv at k;rw[j]at k;obtain⟨G,C,z,h1,h2,h3,B,A⟩:=k;rw[hb]at z;cases z;have le:Le σ ι H σ ι (A4 H h (.cells E f)):=by have:=Le.upd (ι:=ι) (H:=H) (Ax.le_refl σ) h (ι h) (.cells E f) (by rw[j];exact⟨λ_ e=>e,(λ_ e=>by cases e),(λ_ _ _ _ e=>by cases e)⟩);rwa [Iq]at this
 refine⟨s.touch h b (λ_ _=>rfl) (λx e=>Cy _ _ e) le (λx e=>Aep w b x g e) (λ_ _=>rfl) (λo e=>by rw[h1]at e;cases e) ?_ h2 ?_ ?_ rfl rfl rfl,le⟩
 .intro x e l q;exact e (s.inj x h b l (by rw[j];rfl) q (by rw[hb];rfl))
 .intro D _ u;exact .inr ⟨by rw[j];rfl,u⟩
 .unfold Cv;rw[Cd];exact⟨b,g,hb,h1,h2,setRow_heap w b C g E (0,0) h3,l,λi c v x y=>(hc i c v x y).mono le⟩
theorem St.setRows (s:St σ ι H F W w) (h:Nat) (E:TypeId) (sz:Nat) (xs c:List AV) (j:H h = .rows E sz xs) (b f:Nat) (hb:ι h = .blk b f) (l:c.length=xs.length) (g:Array Value) (G:g.size=f*sz) (D:Ic σ sz c g) : St σ ι (A4 H h (.rows E sz c)) F W (w.setRow b g)/\Le σ ι H σ ι (A4 H h (.rows E sz c)):=by
 have k:=s.obj h;unfold Cv at k;rw[j]at k;obtain⟨z,K,⟨i,M⟩|⟨R,y,C,i,h1,h2,h3,L,J,I⟩⟩:=k
 .rw[hb]at i;cases i
 rw[hb]at i;cases i;have le:Le σ ι H σ ι (A4 H h (.rows E sz c)):=by have:=Le.upd (ι:=ι) (H:=H) (Ax.le_refl σ) h (ι h) (.rows E sz c) (by rw[j];exact⟨λ_ e=>e,(λ_ e=>by cases e),λ_ S B A e=>by cases e;exact⟨E,sz,xs,rfl,.inr ⟨l.symm,rfl,rfl⟩⟩⟩);rwa [Iq]at this
 refine⟨s.touch h b (λ_ _=>rfl) (λx e=>Cy _ _ e) le (λx e=>Aep w b x g e) (λ_ _=>rfl) (λo e=>by rw[h1]at e;cases e) ?_ h2 ?_ ?_ rfl rfl rfl,le⟩
 .intro x e l q;exact e (s.inj x h b l (by rw[j];rfl) q (by rw[hb];rfl))
 .intro N _ u;exact .inr ⟨by rw[j];rfl,u⟩
 .unfold Cv;rw[Cd];exact⟨z,ω,.inr ⟨b,f,g,hb,h1,h2,setRow_heap w b C g E (0,0) h3,G,ω,D⟩⟩
theorem St.growIn (s:St σ ι H F W w) (h:Nat) (E:TypeId) (sz:Nat) (xs c:List AV) (j:H h = .rows E sz xs) (b f:Nat) (hb:ι h = .blk b f) (l:xs.length<c.length) (G:c.length<=140737488355328) (K:c.length<=f) (g:Array Value) (I:g.size=f*sz) (D:Ic σ sz c g) : St σ ι (A4 H h (.rows E sz c)) F W (w.setRow b g)/\Le σ ι H σ ι (A4 H h (.rows E sz c)):=by
 have k:=s.obj h;unfold Cv at k;rw[j]at k;obtain⟨z,V,⟨i,N⟩|⟨S,y,C,i,h1,h2,h3,M,L,J⟩⟩:=k
 .rw[hb]at i;cases i
 rw[hb]at i;cases i;have le:Le σ ι H σ ι (A4 H h (.rows E sz c)):=by have:=Le.upd (ι:=ι) (H:=H) (Ax.le_refl σ) h (ι h) (.rows E sz c) (by rw[j];exact⟨λ_ e=>e,(λ_ e=>by cases e),λ_ U B A e=>by cases e;exact⟨E,sz,xs,rfl,.inl l⟩⟩);rwa [Iq]at this
 refine⟨s.touch h b (λ_ _=>rfl) (λx e=>Cy _ _ e) le (λx e=>Aep w b x g e) (λ_ _=>rfl) (λo e=>by rw[h1]at e;cases e) ?_ h2 ?_ ?_ rfl rfl rfl,le⟩
 .intro x e l q;exact e (s.inj x h b l (by rw[j];rfl) q (by rw[hb];rfl))
 .intro R _ u;exact .inr ⟨by rw[j];rfl,u⟩
 .unfold Cv;rw[Cd];exact⟨z,G,.inr ⟨b,f,g,hb,h1,h2,setRow_heap w b C g E (0,0) h3,I,K,D⟩⟩
theorem St.fresh (s:St σ ι H F W w):σ w.heap.size=none/\F w.heap.size=none:=by
 have c:∀(S:Ax),(∀b o,S b=some o->w.heap[b]? = some o)->S w.heap.size=none:=by intro S f;cases e:S w.heap.size with| none=>rfl| some o=>have:=f _ _ e;simp at this
 exact⟨c σ s.sto,c F λb o hb=>(s.fra b o hb).1⟩
theorem St.newRows (s:St σ ι H F W w) (h:Nat) (E:TypeId) (sz:Nat) (xs:List AV) (c:Nat) (C:Array Value) (M:H h = .none\/∃y g f,H h = .rows y g f/\f.length<xs.length) (G:0<sz) (J:xs.length<=140737488355328) (K:xs.length<=c) (N:C.size=c*sz) (I:Ic σ sz xs C) : St σ (A4 ι h (.blk w.heap.size c)) (A4 H h (.rows E sz xs)) F W (w.alloc (.cells C E))/\Le σ ι H σ (A4 ι h (.blk w.heap.size c)) (A4 H h (.rows E sz xs)):=by
 obtain⟨i,k⟩:=s.fresh;have le:Le σ ι H σ (A4 ι h (.blk w.heap.size c)) (A4 H h (.rows E sz xs)):=by
  refine Le.upd (Ax.le_refl σ) h _ _ ?_;rcases M with j|⟨y,g,f,j,q⟩
  .have l:ι h = .none:=(by have:=s.obj h;unfold Cv at this;rw[j]at this;exact this);rw[l,j];exact HLe.of_none
  .rw[j];refine⟨λb e=>?_,(λ_ e=>by cases e),λ_ S D B e=>by cases e;exact⟨y,g,f,rfl,.inl q⟩⟩;have:=s.obj h;unfold Cv at this;rw[j]at this;obtain⟨_,_,⟨u,_⟩|⟨R,z,C,u,_⟩⟩:=this <;> rw[e]at u <;> cases u
 refine⟨s.touch h w.heap.size (λx e=>Cy _ _ e) (λx e=>Cy _ _ e) le ?_ (λ_ _=>rfl) (λo A=>by rw[i]at A;cases A) ?_ k ?_ ?_ rfl rfl rfl,le⟩
 .intro b hb;show (w.heap.push _)[b]? = _;rw[Array.getElem?_push,if_neg hb]
 .intro x e L hb;have:=(s.block L hb).1;omega
 .intro b _ hb;rw[Cd]at hb;simp[Loc.block?]at hb;exact .inl hb.symm
 .unfold Cv;rw[Cd];refine⟨G,J,.inr ⟨w.heap.size,c,C,Cd _ _ _,i,k,?_,N,K,I⟩⟩;show (w.heap.push _)[w.heap.size]? = _;simp
theorem St.newNil (s:St σ ι H F W w) (h:Nat) (j:H h = .none) (E:TypeId) (sz:Nat) (k:0<sz) : St σ (A4 ι h .nil) (A4 H h (.rows E sz [])) F W w/\Le σ ι H σ (A4 ι h .nil) (A4 H h (.rows E sz [])):=by
 obtain⟨c,g⟩:=s.fresh;have f:ι h = .none:=by have:=s.obj h;unfold Cv at this;rw[j]at this;exact this
 have le:Le σ ι H σ (A4 ι h .nil) (A4 H h (.rows E sz [])):=Le.upd (Ax.le_refl σ) h _ _ (by rw[f,j];exact HLe.of_none);refine⟨s.touch h w.heap.size (λx e=>Cy _ _ e) (λx e=>Cy _ _ e) le (λ_ _=>rfl) (λ_ _=>rfl) (λo i=>by rw[c]at i;cases i) ?_ g ?_ ?_ rfl rfl rfl,le⟩
 .intro x e l hb;have:=(s.block l hb).1;omega
 .intro b _ hb;rw[Cd]at hb;simp[Loc.block?]at hb
 .unfold Cv;rw[Cd];exact⟨k,ψ,.inl ⟨Cd _ _ _,rfl⟩⟩
inductive TD where
 | int (k:IntKind)
 | bool
 | string
 | slice (e:TypeId)
 | struct (fs:List (Nat×Nat))
 | map (k e:TypeId)
 | float (k:FloatKind)
 | other
structure TI where
 d:TD
 size:Nat
 bytes:Nat
 zero:List Value
def TI.isAgg (i:TI):Bool := match i.d with
 | .struct _=>true
 | _=>false
def zok (u:TypeDesc) (z:Value):Bool := match u with
 | .struct _=>(match z with|.agg _=>true|_=>false)
 | _=>Ew z
def Ie (P:Program) (t:TypeId):Option TI := match P.info? t,P.underlying t with
 | some b,some u=> match b.zero with
  | none=>none
  | some z=> bif !(zok u z) then none else match u with
   | .int k=>some ⟨.int k,b.size,b.bytes,z.cells.toList⟩
   | .bool=>some ⟨.bool,b.size,b.bytes,z.cells.toList⟩
   | .string=>some ⟨.string,b.size,b.bytes,z.cells.toList⟩
   | .slice e=>some ⟨.slice e,b.size,b.bytes,z.cells.toList⟩
   | .map k e=>some ⟨.map k e,b.size,b.bytes,z.cells.toList⟩
   | .float k=>some ⟨.float k,b.size,b.bytes,z.cells.toList⟩
   | .struct A=> if (A.toList.all λf=>decide (0<P.cellsOf f.type)) then some ⟨.struct (A.toList.map λf=>(f.offset,P.cellsOf f.type)),b.size,b.bytes,z.cells.toList⟩ else none
   | .array _ _=>none
   | _=>some ⟨.other,b.size,b.bytes,z.cells.toList⟩
 | _,_=>none
abbrev C6:=Nat->Option TI
def C8 (P:Program) (T:C6):Prop:=∀t i,T t=some i->Ie P t=some i
structure Eff where
 r:AV
 rd:List (Nat×Bf)
 wr:List (Nat×Bf)
def Cq (H:Hp):List (Nat×Bf)->Hp
 | []=>H
 | p::l=>Cq (A4 H p.1 p.2) l
def Ml (cs:List AV) (off:Nat) (new:List AV):List AV:=cs.take off++(new++cs.drop (off+new.length))
def Tq (fs:List (Nat×Nat)):List AV->List (Nat×AV)->Option (List AV)
 | cs,[]=>some cs
 | cs,p::u=> match fs[p.1]? with
  | none=>none
  | some q=>bif Nat.beq p.2.cells.length q.2&&Nat.ble (q.1+q.2) cs.length then Tq fs (Ml cs q.1 p.2.cells) u else none
def AV.cl1:AV->Bool
 | .val v=>Ew v
 | .sl _ _=>true
 | _=>false
def La (sz:Nat) (x:AV):Bool:=Nat.beq x.cells.length sz&&x.cells.all AV.cl1
def AV.isPtr:AV->Bool
 | .loc .. | .ref _ | .fn ..=>true
 | _=>false
def AV.free1:AV->Bool
 | .agg cs=>cs.all AV.cl1
 | x=>x.cl1
def AV.free:AV->Bool
 | .val _ | .sl _ _ | .ref _=>true
 | .agg cs=>cs.all AV.cl1
 | .tup cs=>cs.all AV.free1
 | .fn _ cs=>cs.all AV.cl1
 | _=>false
def Aeq (op:BinOp) (a b:Int):Option Bool := match op with
 | .eql=>some (a==b)
 | .neq=>some (a != b)
 | .lss=>some (decide (a<b))
 | .leq=>some (decide (a<=b))
 | .gtr=>some (decide (a>b))
 | .geq=>some (decide (a>=b))
 | _=>none
section conc
variable {σ:Ax} {ι:Bx} {H:Hp}
variable {x:AV} {v:Value}
theorem Conc.val_inv {u:Value} (h:Conc σ ι H (.val u) v):v=u:=by cases h with| cc h=>cases h;rfl
theorem Conc.of_val (v:Value):Conc σ ι H (.val v) v:=.cc (.val v)
theorem Conc.sl_inv {sz:Nat} {xs:List AV} (h:Conc σ ι H (.sl sz xs) v):CC σ (.sl sz xs) v:=by cases h with| cc h=>exact h
theorem Conc.agg_inv {cs:List AV} (h:Conc σ ι H (.agg cs) v) : ∃vs:Array Value,v = .agg vs/\vs.size=cs.length/\∀(i:Nat) (c:AV) (u:Value),cs[i]? = some c->vs[i]? = some u->Conc σ ι H c u:=by
 cases h with
 | cc h=>cases h with
  | agg cs vs b h=>exact⟨vs,rfl,b,λi c u h1 h2=>.cc (h i c u h1 h2)⟩
 | agg cs vs b h=>exact⟨vs,rfl,b,h⟩
theorem Conc.tup_inv {cs:List AV} (h:Conc σ ι H (.tup cs) v) : ∃vs:Array Value,v = .tuple vs/\vs.size=cs.length/\∀(i:Nat) (c:AV) (u:Value),cs[i]? = some c->vs[i]? = some u->Conc σ ι H c u:=by cases h with| cc h=>cases h| tup cs vs b h=>exact⟨vs,rfl,b,h⟩
theorem Conc.loc_inv {x off:Nat} (h:Conc σ ι H (.loc x off) v):∃b,ι x = .box b/\v = .pointer (some ⟨b,off,none⟩):=by cases h with| cc h=>cases h| loc _ _ b hb=>exact⟨b,hb,rfl⟩
theorem Conc.vec_inv {x n:Nat} (h:Conc σ ι H (.vec x n) v):∃b,ι x = .box b/\v = .slice (some ⟨b,0,none⟩) n n:=by cases h with| cc h=>cases h| vec _ _ b hb=>exact⟨b,hb,rfl⟩
theorem Conc.one_of (hx:x.one=true) (h:Conc σ ι H x v):Ew v=true:=by
 cases h with
 | cc h=>cases h with
  | val v=>exact hx
  | nil=>rfl
  | sl=>rfl
  | fbn=>rfl
  | fb=>rfl
  | agg=>cases hx
 | loc=>rfl
 | mp=>rfl
 | vec=>rfl
 | arr _ _ _ _ _ _ _ h=>exact h
 | el _ _ _ _ _ _ _ h=>exact h
 | ref=>rfl
 | agg=>cases hx
 | tup=>cases hx
 | fn=>rfl
theorem Aer {α:Type} {x y:α} {i:Nat} (h:[x][i]? = some y):i=0/\y=x:=by cases i with| zero=>simp at h;exact⟨rfl,h.symm⟩| succ n=>simp at h
theorem Conc.cells (h:Conc σ ι H x v) : v.cells.size=x.cells.length/\∀(i:Nat) (c:AV) (u:Value),x.cells[i]? = some c->v.cells[i]? = some u->Conc σ ι H c u:=by
 have single:∀(x:AV) (v:Value),Conc σ ι H x v->x.cells = [x]->v.cells = #[v] ->
   v.cells.size=x.cells.length/\∀(i:Nat) (c:AV) (u:Value),x.cells[i]? = some c->v.cells[i]? = some u->Conc σ ι H c u:=by intro x v h J I;rw[J,I];refine⟨rfl,λi c u h1 h2=>?_⟩;obtain⟨rfl,rfl⟩:=Aer h1;simp at h2;subst h2;exact h
 cases h with
 | cc hc=>
  cases hc with
  | val v=>cases v with| agg vs=>refine⟨by simp[Value.cells,AV.cells],λi c u h1 h2=>?_⟩;simp only[AV.cells,Value.cells,getElem?_map]at h1 h2;rw[Gi,h2]at h1;simp at h1;subst h1;exact .of_val u| _=>exact single _ _ (.of_val _) rfl rfl
  | nil sz a cap=>exact single _ _ (.cc (.nil sz a cap)) rfl rfl
  | sl xs b off cap sz C E fr g z hs hc h1 A q y=>exact single _ _ (.cc (.sl xs b off cap sz C E fr g z hs hc h1 A q y)) rfl rfl
  | agg cs vs q h=>exact⟨q,λi c u h1 h2=>.cc (h i c u h1 h2)⟩
  | fbn s a cap h0=>exact single _ _ (.cc (.fbn s a cap h0)) rfl rfl
  | fb s b cap C z h0 y A q hb=>exact single _ _ (.cc (.fb s b cap C z h0 y A q hb)) rfl rfl
 | loc x off b hb=>exact single _ _ (.loc x off b hb) rfl rfl
 | mp x b hb=>exact single _ _ (.mp x b hb) rfl rfl
 | vec x n b hb=>exact single _ _ (.vec x n b hb) rfl rfl
 | arr x k off len v G D l=>exact single _ _ (.arr x k off len v G D l) rfl (by cases v <;> first|rfl|cases l)
 | el x k i j v G D l=>exact single _ _ (.el x k i j v G D l) rfl (by cases v <;> first|rfl|cases l)
 | ref cs b off C E fr g z hc h1 A=>exact single _ _ (.ref cs b off C E fr g z hc h1 A) rfl rfl
 | agg cs vs q h=>exact⟨q,h⟩
 | tup cs vs q h=>exact single _ _ (.tup cs vs q h) rfl rfl
 | fn f B vs q h=>exact single _ _ (.fn f B vs q h) rfl rfl
theorem Conc.cc_of (hx:x.cl1=true) (h:Conc σ ι H x v):CC σ x v/\Ew v=true:=by
 cases h with
 | cc h=>cases h with
  | val v=>exact⟨.val v,hx⟩
  | nil sz a cap=>exact⟨.nil sz a cap,rfl⟩
  | sl xs b off cap sz C E fr g f hs hc h1 j i c=>exact⟨.sl xs b off cap sz C E fr g f hs hc h1 j i c,rfl⟩
  | agg=>cases hx
  | fbn=>cases hx
  | fb=>cases hx
 | _=>cases hx
end conc
def Ca (P:Program) (o:Oper) (ρ:Operand->AV) (b:Eff):Prop := ∀(σ:Ax) (ι:Bx) (H:Hp) (F:Ax) (W w:World) (a:Act) (next:Act->World->Prop) (Q:Exit->Act->World->Prop), St σ ι H F W w->(∀x∈o.op.operands.toList,Conc σ ι H (ρ x) (a.eval x))->(∀p∈b.rd,H p.1=p.2) -> (∀c f v w',Le σ ι H c f (Cq H b.wr)->St c f (Cq H b.wr) F W w'->Conc c f (Cq H b.wr) b.r v->next (a.put o.dst v) w')->o.wp P a w next Q
section
variable {P:Program} {o:Oper} {ρ:Operand->AV} {a:Act} {w w':World} {next:Act->World->Prop} {Q:Exit->Act->World->Prop}
variable {p:Addr} {T:C6} {h off:Nat} {x:Operand} {i:TI} {E t:TypeId} {v:Value}
theorem Fj (h:(execOp a.eval o).run P w = .ok (.value v) w') (b:next (a.put o.dst v) w'):o.wp P a w next Q:=by unfold Oper.wp;rw[h];exact b
theorem Aes (h:(execOp a.eval o).run P w = .ok .skip w') (b:next (a.put o.dst undef) w'):o.wp P a w next Q:=by unfold Oper.wp;rw[h];exact b
theorem Ep {r:AV} (h:∀σ ι H a w,(∀x∈o.op.operands.toList,Conc σ ι H (ρ x) (Act.eval a x))->∃v,(execOp a.eval o).run P w = .ok (.value v) w/\Conc σ ι H r v) : Ca P o ρ ⟨r,[],[]⟩:=by
 intro σ ι H F W w a next Q s u _ A
 obtain⟨v,b,B⟩:=h σ ι H a w u;exact Fj b (A σ ι v w (Le.refl _ _ _) s B)
theorem Ate (b:o.op = .move x):Ca P o ρ ⟨ρ x,[],[]⟩ := Ep λσ ι H a w u=>⟨a.eval x,by simp[execOp,b],u x (by simp[b,Op.operands])⟩
theorem Ts (b:o.op = .assign x):Ca P o ρ ⟨ρ x,[],[]⟩ := Ep λσ ι H a w u=>⟨a.eval x,by simp[execOp,b],u x (by simp[b,Op.operands])⟩
theorem Atf {c y:Operand} {t:Bool} (b:o.op = .pick c x y) (B:ρ c = .val (.bool t)):Ca P o ρ ⟨bif t then ρ x else ρ y,[],[]⟩ := Ep λσ ι H a w A=>by have u:=A c (by simp[b,Op.operands]);rw[B]at u;have u:=u.val_inv;cases t with| true=>exact⟨a.eval x,by simp[execOp,b,u,asBool],A x (by simp[b,Op.operands])⟩| false=>exact⟨a.eval y,by simp[execOp,b,u,asBool],A y (by simp[b,Op.operands])⟩
theorem Er (h:Ie P t=some i) : ∃b u z,P.info? t=some b/\P.underlying t=some u/\b.zero=some z/\b.size=i.size/\b.bytes=i.bytes/\i.zero=z.cells.toList /\ (match i.d with
       | .int k=>u = .int k
       | .bool=>u = .bool
       | .string=>u = .string
       | .slice e=>u = .slice e
       | .map k e=>u = .map k e
       | .float k=>u = .float k
       | .struct fs=>∃A,u = .struct A/\fs=A.toList.map (λf=>(f.offset,P.cellsOf f.type))/\∀f∈A.toList,0<P.cellsOf f.type
       | .other=>(∀fs,u≠.struct fs)/\(∀n e,u≠.array n e)):=by
  unfold Ie at h;split at h
  . rename_i b u hi B;split at h
    . cases h
    . rename_i z j;refine⟨b,u,z,hi,B,j,?_⟩;cases g:zok u z with
      | false=>rw[g]at h;cases h
      | true=>
      rw[g]at h;simp only[Bool.not_true,cond_false]at h;split at h;all_goals first
        | (cases h;done)
        | (cases h;refine⟨rfl,rfl,rfl,?_⟩;first|rfl|exact⟨(by intro fs e;simp_all),(by intro n e' e;simp_all)⟩)
        | skip
      . split at h
        . rename_i c;cases h;refine⟨rfl,rfl,rfl,_,rfl,rfl,?_⟩;intro f C;simp only[Ef,decide_eq_true_eq]at c;exact c f C
        . cases h
  . cases h
theorem Atg (h:Ie P t=some i) (w:World) : ∃z,(zeroValue t).run P w = .ok z w/\z.cells.toList=i.zero/\(i.isAgg=true->∃C,z = .agg C)/\(i.isAgg=false->Ew z=true):=by
  obtain⟨j,u,z,A,G,B,x,s,l,c⟩:=Er h;refine⟨z,by simp[zeroValue,typeInfo,program,Sem.run,A,B],l.symm,?_⟩;have b:zok u z=true:=(by unfold Ie at h;rw[A,G]at h;simp only[B]at h;cases g:zok u z with| false=>rw[g]at h;cases h| true=>rfl);unfold TI.isAgg;cases I:i.d <;> rw[I]at c <;> simp only[]at c ⊢;all_goals first
    | (subst c;exact⟨nofun,λ_=>b⟩)
    | (obtain⟨f,rfl,_⟩:=c
       refine⟨λ_=>?_,λh=>by cases h⟩
       unfold zok at b
       cases z <;> first|exact⟨_,rfl⟩|cases b)
    | (obtain⟨k,q⟩:=c
       refine⟨nofun,λ_=>?_⟩
       unfold zok at b
       cases u <;> first|exact b|exact (k _ rfl).elim)
theorem Zv (h:Ie P t=some i) (w:World):(isAgg t).run P w = .ok i.isAgg w:=by
 obtain⟨c,u,z,C,A,G,q,l,k,b⟩:=Er h;unfold isAgg TI.isAgg;rw[Sem.run_bind,run_underlying A];cases B:i.d <;> rw[B]at b <;> simp only[Result.andThen_ok];all_goals first
  | (subst b;rfl)
  | (obtain⟨f,rfl,_⟩:=b;rfl)
  | (obtain⟨j,g⟩:=b;cases u <;> first|rfl|exact (j _ rfl).elim|exact (g _ _ rfl).elim)
theorem Mm (h:Ie P t=some i) (w:World):(sizeOf t).run P w = .ok i.size w:=by obtain⟨b,u,z,A,B,C,c,j,g,f⟩:=Er h;simp[sizeOf,typeInfo,program,Sem.run,A,c]
theorem Aj6 (h:Ie P t=some i) (w:World):∃z:Value,z.cells.toList=i.zero/\(zeroValue t).run P w = .ok z w:=by obtain⟨b,u,z,A,C,B,j,g,c,f⟩:=Er h;exact⟨z,c.symm,by simp[zeroValue,typeInfo,program,Sem.run,A,B]⟩
theorem Ath (q:C8 P T) (h:Nat) (k:o.op = .alloc t) (A:T t=some i) : Ca P o ρ ⟨.loc h 0,[(h,.none)],[(h,.cells t (i.zero.map .val))]⟩:=by
 intro σ ι H F W w a next Q s I b B
 have l:H h = .none:=b (h,.none) ψ;obtain⟨z,f,g⟩:=Aj6 (q t i A) w;obtain⟨C,le⟩:=s.newBox h l t (i.zero.map .val) z.cells (by simp[<-f]) (by intro j c v u G;rw[<-f,getElem?_map,Gi,G]at u;simp at u;subst u;exact .of_val v);refine Fj (v:=.pointer (some ⟨w.heap.size,0,none⟩)) (w':=w.alloc (.cells z.cells t)) ?_ (B σ _ _ _ le C (.loc h 0 w.heap.size (Cd _ _ _)));simp[execOp,k,Instr.alloc,g,newVar,newRow,newObj,Sem.run]
theorem Ati (h:Nat) (c:o.op = .box t x) : Ca P o ρ ⟨.loc h 0,[(h,.none)],[(h,.cells t (ρ x).cells)]⟩:=by
 intro σ ι H F W w a next Q s A b B
 have f:H h = .none:=b (h,.none) ψ;have u:=(A x (by simp[c,Op.operands])).cells;obtain⟨C,le⟩:=s.newBox h f t (ρ x).cells (a.eval x).cells u.1 u.2;refine Fj (v:=.pointer (some ⟨w.heap.size,0,none⟩)) (w':=w.alloc (.cells (a.eval x).cells t)) ?_ (B σ _ _ _ le C (.loc h 0 w.heap.size (Cd _ _ _)));simp[execOp,c,Instr.box,newVar,newRow,newObj,Sem.run]
theorem J9 {b:Nat} {C:Array Value} {c:Nat×Nat} (h:w.heap[b]? = some (.cells C E c)):w.cell? ⟨b,off,none⟩=C[off]?:=by simp[World.cell?,h]
theorem Kq (b off n:Nat):(⟨b,off,none⟩:Addr).add n=⟨b,off+n,none⟩:=by unfold Addr.add;split <;> simp_all
theorem Aet (f:o.op = .load t x) (hi:Ie P t=some i) (b:i.isAgg=false) (hp:a.eval x = .pointer (some p)) (c:w.cell? p=some v) : (execOp a.eval o).run P w = .ok (.value v) w:=by have u:=Zv hi w;rw[b]at u;simp[execOp,f,Instr.loadAt,hp,Instr.sureAddr,loadVar,u,c]
theorem Aeu (f:o.op = .load t x) (hi:Ie P t=some i) (b:i.isAgg=true) (hp:a.eval x = .pointer (some p)) (cs:List Value) (g:cs.length=i.size) (c:∀(j:Nat) (v:Value),cs[j]? = some v->w.cell? (p.add j)=some v) : (execOp a.eval o).run P w = .ok (.value (.agg cs.toArray)) w:=by have u:=Zv hi w;rw[b]at u;have B:=Mm hi w;have A:=run_loadCells_list (P:=P) w p cs c;rw[g]at A;simp[execOp,f,Instr.loadAt,hp,Instr.sureAddr,loadVar,u,B,A]
theorem Conc.ref_inv {σ:Ax} {ι:Bx} {H:Hp} {cs:List AV} (h:Conc σ ι H (.ref cs) v):∃(b off:Nat) (C:Array Value) (E:TypeId) (f:Nat×Nat) (g:Nat->Value), v = .pointer (some ⟨b,off,none⟩)/\σ b=some (.cells C E f)/\(∀(j:Nat) (c:AV),cs[j]? = some c->CC σ c (g j)/\Ew (g j)=true)/\(∀(j:Nat),j<cs.length->C[off+j]? = some (g j)):=by cases h with| cc h=>cases h| ref cs b off C E f g i hc h1 k=>exact⟨b,off,C,E,f,g,rfl,i,λj c h=>⟨hc j c h,h1 j c h⟩,k⟩
theorem Atj (y:C8 P T) {c:AV} {cs:List AV} (l:o.op = .load t x) (A:T t=some i) (k:i.isAgg=false) (B:ρ x = .ref (c::cs)) : Ca P o ρ ⟨c,[],[]⟩:=by
 intro σ ι H F W w a next Q s j _ G
 have h:=j x (by simp[l,Op.operands]);rw[B]at h;obtain⟨b,off,C,E,J,g,u,q,I,z⟩:=h.ref_inv;have f:w.cell? ⟨b,off,none⟩=some (g 0):=by rw[J9 (s.sto _ _ q)];exact z 0 ψ
 exact Fj (Aet l (y t i A) k u f) (G σ ι _ w (Le.refl _ _ _) s (.cc (I 0 c ψ).1))
theorem Atl (A:C8 P T) {cs:List AV} (q:o.op = .load t x) (K:T t=some i) (l:i.isAgg=true) (L:ρ x = .ref cs) (D:i.size<=cs.length) : Ca P o ρ ⟨.agg (cs.take i.size),[],[]⟩:=by
 intro σ ι H F W w a next Q s k _ M
 have h:=k x (by simp[q,Op.operands]);rw[L]at h;obtain⟨b,off,C,E,R,g,z,y,N,B⟩:=h.ref_inv;refine Fj (Aeu q (A t i K) l z ((range i.size).map g) ψ ?_) (M σ ι _ w (Le.refl _ _ _) s ?_)
 .intro j v G;rw[getElem?_map]at G;by_cases f:j<i.size
  .rw[getElem?_range f]at G;simp at G;subst G;rw[Kq,J9 (s.sto _ _ y)];exact B j ω
  .rw[getElem?_eq_none ζ]at G;cases G
 .refine .agg _ _ ζ λj c u I J=>?_;have f:j<i.size:=(by have:=(F8.1 I).1;simp at this;omega);rw[He f]at I;simp[f]at J;subst J;exact .cc (N j c I).1
theorem Atm (B:C8 P T) {cs:List AV} {c:AV} (u:o.op = .load t x) (K:T t=some i) (q:i.isAgg=false) (L:ρ x = .loc h off) (J:cs[off]? = some c):Ca P o ρ ⟨c,[(h,.cells E cs)],[]⟩:=by
 intro σ ι H F W w a next Q s l k M
 have A:H h = .cells E cs:=k (h,.cells E cs) ψ;have hp:=l x (by simp[u,Op.operands]);rw[L]at hp;obtain⟨b,N,z⟩:=hp.loc_inv;have f:=s.obj h;unfold Cv at f;rw[A]at f;obtain⟨I,C,y,_,_,R,G,D⟩:=f;rw[N]at y;cases y;have j:off<C.size:=by rw[G];exact (F8.1 J).1
 have g:w.cell? ⟨b,off,none⟩=some C[off]:=by rw[J9 R];simp[j]
 exact Fj (Aet u (B t i K) q z g) (M σ ι _ w (Le.refl _ _ _) s (D off c _ J (by simp[j])))
theorem Atn (D:C8 P T) {cs:List AV} (y:o.op = .load t x) (R:T t=some i) (q:i.isAgg=true) (S:ρ x = .loc h off) (I:off+i.size<=cs.length):Ca P o ρ ⟨.agg ((cs.drop off).take i.size),[(h,.cells E cs)],[]⟩:=by
 intro σ ι H F W w a next Q s l k U
 have B:H h = .cells E cs:=k (h,.cells E cs) ψ;have hp:=l x (by simp[y,Op.operands]);rw[S]at hp;obtain⟨b,V,A⟩:=hp.loc_inv;have g:=s.obj h;unfold Cv at g;rw[B]at g;obtain⟨L,C,z,_,_,X,J,G⟩:=g;rw[V]at z;cases z;refine Fj (Aeu y (D t i R) q A ((C.toList.drop off).take i.size) ζ ?_) (U σ ι _ w (Le.refl _ _ _) s ?_)
 .intro j v K;have f:j<i.size:=(by have:=(F8.1 K).1;simp at this;omega);rw[He f,getElem?_drop,Gi]at K;rw[Kq,J9 X];exact K
 .refine .agg _ _ ζ λj c u M N=>?_;have f:j<i.size:=(by have:=(F8.1 M).1;simp at this;omega);rw[He f,getElem?_drop]at M;rw[getElem?_toArray,He f,getElem?_drop,Gi]at N;exact G _ c u M N
end
section
variable {P:Program} {o:Oper} {ρ:Operand->AV} {a:Act} {w w':World} {next:Act->World->Prop} {Q:Exit->Act->World->Prop}
variable {σ:Ax} {ι:Bx} {T:C6} {H:Hp} {xs:List AV} {b h j k n off sz:Nat} {x y:Operand} {i:TI} {E t:TypeId} {v:Value}
theorem Conc.el_inv {i:Nat} (l:H h = .rows E sz xs) (hk:xs.length=k) (hc:Conc σ ι H (.el h k i j) v) : ∃b c,ι h = .blk b c/\v = .pointer (some ⟨b,i*sz+j,none⟩):=by
 cases hc with
 | cc h=>cases h
 | el _ _ _ _ _ q g f=>
  have:=(g E sz xs l).2 hk;unfold Aj5 at this;split at this
  .rename_i b c e;exact⟨b,c,e,this⟩
  .exact this.elim
theorem Conc.arr_inv {len:Nat} (f:H h = .rows E sz xs) (hk:xs.length=k) (hc:Conc σ ι H (.arr h k off len) v) : Gz (ι h) sz off len v:=by cases hc with| cc h=>cases h| arr _ _ _ _ _ g c b=>exact (c E sz xs f).2 hk
theorem St.rowsAt {F:Ax} {W w:World} (s:St σ ι H F W w) (j:H h = .rows E sz xs) {c:Nat} (hb:ι h = .blk b c) : ∃C,w.heap[b]? = some (.cells C E (0,0))/\C.size=c*sz/\xs.length<=c/\Ic σ sz xs C:=by
 have g:=s.obj h;unfold Cv at g;rw[j]at g;obtain⟨_,_,⟨f,_⟩|⟨u,i,C,f,h1,h2,h3,q,l,k⟩⟩:=g
 .rw[hb]at f;cases f
 .rw[hb]at f;cases f;exact⟨C,h3,q,l,k⟩
theorem Ato (N:C8 P T) {y c:AV} (A:o.op = .load t x) (X:T t=some i) (z:i.isAgg=false) (hx:ρ x = .el h k n j) (u:xs.length=k) (K:xs[n]? = some y) (U:y.cells[j]? = some c):Ca P o ρ ⟨c,[(h,.rows E sz xs)],[]⟩:=by
 intro σ ι H F W w a next Q s q l hk
 have B:H h = .rows E sz xs:=l (h,.rows E sz xs) ψ;have hp:=q x (by simp[A,Op.operands]);rw[hx]at hp;obtain⟨b,D,hb,L⟩:=hp.el_inv B u;obtain⟨C,h3,S,R,g,J,I,G⟩:=s.rowsAt B hb;have M:=(F8.1 K).1;have V:=(F8.1 U).1;rw[J n y K]at V;have f:w.cell? ⟨b,n*sz+j,none⟩=some (g n j):=by rw[J9 h3];exact G n j M V
 exact Fj (Aet A (N t i X) z L f) (hk σ ι _ w (Le.refl _ _ _) s (.cc (I n y j c K U).1))
theorem Atp (U:C8 P T) {y:AV} (D:o.op = .load t x) (ht:T t=some i) (B:i.isAgg=true) (hx:ρ x = .el h k n j) (A:xs.length=k) (hy:xs[n]? = some y) (V:j+i.size<=y.cells.length):Ca P o ρ ⟨.agg ((y.cells.drop j).take i.size),[(h,.rows E sz xs)],[]⟩:=by
 intro σ ι H F W w a next Q s z l hk
 have G:H h = .rows E sz xs:=l (h,.rows E sz xs) ψ;have hp:=z x (by simp[D,Op.operands]);rw[hx]at hp;obtain⟨b,I,hb,N⟩:=hp.el_inv G A;obtain⟨C,h3,Y,X,g,M,L,J⟩:=s.rowsAt G hb;have S:=(F8.1 hy).1;have R:=M n y hy;refine Fj (Aeu D (U t i ht) B N ((range i.size).map λq=>g n (j+q)) ψ ?_) (hk σ ι _ w (Le.refl _ _ _) s ?_)
 .intro q v K;rw[getElem?_map]at K;by_cases f:q<i.size
  .rw[getElem?_range f]at K;simp at K;subst K;rw[Kq,J9 h3,Nat.add_assoc];exact J n (j+q) S ω
  .rw[getElem?_eq_none ζ]at K;cases K
 .refine .agg _ _ ζ λq c u h1 h2=>?_;have f:q<i.size:=(by have:=(F8.1 h1).1;simp at this;omega);rw[He f,getElem?_drop]at h1;simp[f]at h2;subst h2;exact .cc (L n y (j+q) c hy h1).1
theorem Aev (v:Value):v.oneCell'=Ew v:=by cases v <;> rfl
theorem Aj7 (hi:Ie P t=some i) {C:Array Value} (hb:w.heap[b]? = some (.cells C E (0,0))) (B:v.cells.size=i.size) (c:off+v.cells.size<=C.size) (G:∀u∈v.cells.toList,Ew u=true) : (Instr.storeAt t (.pointer (some ⟨b,off,none⟩)) v).run P w = .ok () (w.setRow b (C.toList.take off++v.cells.toList++C.toList.drop (off+v.cells.toList.length)).toArray):=by have I:=Mm hi w;have A:=run_storeCells_at (P:=P) b off E v.cells.toList 0 C w hb (by simpa using c) (λu J=>by rw[Aev];exact G u J);simp only[Nat.add_zero]at A;simp[Instr.storeAt,Instr.sureAddr,storeVar,I,B,A]
theorem Aew (cs:List AV) (off:Nat) (new:List AV) (b:off+new.length<=cs.length) (i:Nat) : (Ml cs off new)[i]? = if i<off then cs[i]? else if i<off+new.length then new[i-off]? else cs[i]?:=by
 unfold Ml;by_cases u:i<off
 .rw[if_pos u,getElem?_append_left ζ,He u]
 .rw[if_neg u,getElem?_append_right ζ];have:(cs.take off).length=off:=ζ;rw[this];by_cases A:i<off+new.length
  .rw[if_pos A,getElem?_append_left ω]
  .rw[if_neg A,getElem?_append_right ω,getElem?_drop];congr 1;omega
theorem Aex (cs:List AV) (off:Nat) (new:List AV) (b:off+new.length<=cs.length):(Ml cs off new).length=cs.length:=by unfold Ml;simp;omega
theorem Tt (C:Array Value) (off:Nat) (new:List Value) (c:off+new.length<=C.size) (i:Nat) : ((C.toList.take off++new++C.toList.drop (off+new.length)).toArray)[i]? = if i<off then C[i]? else if i<off+new.length then new[i-off]? else C[i]?:=by
 rw[getElem?_toArray,append_assoc];have b:off+new.length<=C.toList.length:=by simpa using c
 by_cases u:i<off
 .rw[if_pos u,getElem?_append_left (by simp at b ⊢;omega),He u,Gi]
 .rw[if_neg u,getElem?_append_right (by simp at b ⊢;omega)];have:(C.toList.take off).length=off:=(by simp at b ⊢;omega);rw[this];by_cases A:i<off+new.length
  .rw[if_pos A,getElem?_append_left ω]
  .rw[if_neg A,getElem?_append_right ω,getElem?_drop,Gi];congr 1;omega
theorem Atq {x:AV} (A:Conc σ ι H x v) (B:x.cells.all AV.one=true):∀u∈v.cells.toList,Ew u=true:=by
 intro u C;obtain⟨n,c⟩:=getElem?_of_mem C;have f:=A.cells;rw[Gi]at c;have b:n<x.cells.length:=by rw[<-f.1];exact (Array.getElem?_eq_some_iff.1 c).1
 have:=f.2 n x.cells[n] u (getElem?_eq_getElem b) c;exact this.one_of (Ef.1 B _ (getElem_mem b))
theorem Atr (I:C8 P T) {cs:List AV} (z:o.op = .store t x y) (V:T t=some i) (X:ρ x = .loc h off) (hs:(ρ y).cells.length=i.size) (J:off+i.size<=cs.length) (h1:(ρ y).cells.all AV.one=true) : Ca P o ρ ⟨.val undef,[(h,.cells E cs)],[(h,.cells E (Ml cs off (ρ y).cells))]⟩:=by
 intro σ ι H F W w a next Q s q u hk
 have A:H h = .cells E cs:=u (h,.cells E cs) ψ;have hp:=q x (by simp[z,Op.operands]);have N:=q y (by simp[z,Op.operands]);rw[X]at hp;obtain⟨b,R,G⟩:=hp.loc_inv;have g:=s.obj h;unfold Cv at g;rw[A]at g;obtain⟨M,C,D,_,_,h3,L,B⟩:=g;rw[R]at D;cases D;have k:=N.cells;have l:=Aj7 (P:=P) (w:=w) (I t i V) (off:=off) (v:=a.eval y) h3 ω ω (Atq N h1);obtain⟨s',le⟩:=s.setBox h E cs (Ml cs off (ρ y).cells) A b R (C.toList.take off++(a.eval y).cells.toList++C.toList.drop (off+(a.eval y).cells.toList.length)).toArray (by rw[Aex _ _ _ ω];simp;omega) (by
   intro j c v K f;rw[Aew _ _ _ ω]at K;rw[Tt _ _ _ ζ]at f;simp only[Array.length_toList,k.1]at f;by_cases S:j<off
   .rw[if_pos S]at K f;exact B j c v K f
   .rw[if_neg S]at K f;by_cases U:j<off+(ρ y).cells.length
    .rw[if_pos U]at K f;rw[Gi]at f;exact k.2 _ c v K f
    .rw[if_neg U]at K f;exact B j c v K f);refine Aes (w':=_) ?_ (hk σ ι undef _ le s' (.of_val _));simp[execOp,z,G,l]
def V2 (x:AV) (j:Nat) (new:List AV):AV := match x with
 | .agg cs=>.agg (Ml cs j new)
 | _=>new.headD x
theorem Ats {x:AV} {new:List AV} (f:j+new.length<=x.cells.length) (i:new≠[]) (B:∀c∈new,c.cl1=true) (g:∀C,x≠.val (.agg C)) : (V2 x j new).cells=Ml x.cells j new:=by
 unfold V2;split
 .rfl
 .rename_i G;have b:x.cells = [x]:=by
   cases x with
   | val v=>cases v <;> first|rfl|exact (g _ rfl).elim
   | agg cs=>exact (G cs rfl).elim
   | _=>rfl
  rw[b]at f ⊢;cases new with
  | nil=>exact (i rfl).elim
  | cons c u=>
   simp at f;have I:j=0:=ω;have h:u = []:=eq_nil_of_length_eq_zero ω;subst I h;have A:=B c ψ;cases c with
   | val v=>cases v <;> first|rfl|cases A
   | sl _ _=>rfl
   | _=>cases A
theorem Att (hT:C8 P T) {z:AV} (ho:o.op = .store t x y) (ht:T t=some i) (hx:ρ x = .el h k n j) (aa:xs.length=k) (X:xs[n]? = some z) (hs:(ρ y).cells.length=i.size) (ad:0<i.size) (hl:j+i.size<=z.cells.length) (h1:(ρ y).cells.all AV.cl1=true) (a1:∀vs,z≠.val (.agg vs)) : Ca P o ρ ⟨.val undef,[(h,.rows E sz xs)],[(h,.rows E sz (xs.set n (V2 z j (ρ y).cells)))]⟩:=by
 intro σ ι H F W w a next Q s R a7 hk
 have hh:H h = .rows E sz xs:=a7 (h,.rows E sz xs) ψ;have hp:=R x (by simp[ho,Op.operands]);have hy:=R y (by simp[ho,Op.operands]);rw[hx]at hp;obtain⟨b,L,hb,hv⟩:=hp.el_inv hh aa;obtain⟨C,h3,h4,h5,g,r1,Z,V⟩:=s.rowsAt hh hb;have hn:=(F8.1 X).1;have a6:=r1 n z X;have J:=hy.cells;have a8:(ρ y).cells≠[]:=by intro e;rw[e]at hs;simp at hs;omega
 have N:=Ats (x:=z) (j:=j) (new:=(ρ y).cells) ω a8 (λc hc=>Ef.1 h1 c hc) a1;have ab:∀u∈(a.eval y).cells.toList,Ew u=true:=by intro u hu;obtain⟨q,hq⟩:=getElem?_of_mem hu;rw[Gi]at hq;have A:q<(ρ y).cells.length:=(by rw[<-J.1];exact (Array.getElem?_eq_some_iff.1 hq).1);exact ((J.2 q _ u (getElem?_eq_getElem A) hq).cc_of (Ef.1 h1 _ (getElem_mem A))).2
 have ac:n*sz+sz<=C.size:=by rw[h4];have:(n+1)*sz<=L*sz:=Nat.mul_le_mul_right sz ω;rw[Eg]at this;omega
 have M:=Aj7 (P:=P) (w:=w) (hT t i ht) (off:=n*sz+j) (v:=a.eval y) h3 ω ω ab;let I:Nat->Nat->Value:=λn' f=>if n'=n/\j<=f/\f<j+(ρ y).cells.length then ((a.eval y).cells[f-j]?).getD undef else g n' f
 obtain⟨s',le⟩:=s.setRows h E sz xs (xs.set n (V2 z j (ρ y).cells)) hh b L hb ψ (C.toList.take (n*sz+j)++(a.eval y).cells.toList++C.toList.drop (n*sz+j+(a.eval y).cells.toList.length)).toArray ζ (by
   refine⟨I,?_,?_,?_⟩
   .intro l Y D;by_cases e:l=n
    .subst e;rw[getElem?_set_self hn]at D;cases D;rw[N,Aex _ _ _ ω];exact a6
    .rw[getElem?_set_ne ω]at D;exact r1 l Y D
   .intro l Y f U D B;by_cases e:l=n
    .subst e;rw[getElem?_set_self hn]at D;cases D;rw[N,Aew _ _ _ ω]at B;show CC σ U (I l f)/\Ew (I l f)=true;by_cases g1:f<j
     .rw[if_pos g1]at B;have:I l f=g l f:=if_neg ω;rw[this];exact Z l z f U X B
     .rw[if_neg g1]at B;by_cases g2:f<j+(ρ y).cells.length
      .rw[if_pos g2]at B;have A:f-j<(a.eval y).cells.size:=ω;have:I l f=(a.eval y).cells[f-j]:=(by show (if _ then _ else _)=_;rw[if_pos ⟨rfl,ω,g2⟩];simp[A]);rw[this];exact (J.2 (f-j) U _ B (by simp[A])).cc_of (Ef.1 h1 _ (E7 B))
      .rw[if_neg g2]at B;have:I l f=g l f:=if_neg ω;rw[this];exact Z l z f U X B
    .rw[getElem?_set_ne ω]at D;have:I l f=g l f:=if_neg ω;rw[this];exact Z l Y f U D B
   .intro l f G K;simp at G;rw[Tt _ _ _ ζ];simp only[Array.length_toList,J.1];by_cases g0:l=n
    .subst g0;by_cases g1:f<j
     .rw[if_pos ω];have:I l f=g l f:=if_neg ω;rw[this];exact V l f G K
     .rw[if_neg ω];by_cases g2:f<j+(ρ y).cells.length
      .rw[if_pos ω,Gi];have A:f-j<(a.eval y).cells.size:=ω;have:I l f=(a.eval y).cells[f-j]:=(by show (if _ then _ else _)=_;rw[if_pos ⟨rfl,ω,g2⟩];simp[A]);rw[this,show l*sz+f-(l*sz+j)=f-j by omega];simp[A]
      .rw[if_neg ω];have:I l f=g l f:=if_neg ω;rw[this];exact V l f G K
    .have:I l f=g l f:=if_neg ω;rw[this];have S:l*sz+f<n*sz+j\/n*sz+j+(ρ y).cells.length<=l*sz+f:=by
      rcases Nat.lt_or_gt_of_ne g0 with A|a0
      .left;have:(l+1)*sz<=n*sz:=Nat.mul_le_mul_right sz ω;rw[Eg]at this;omega
      .right;have:(n+1)*sz<=l*sz:=Nat.mul_le_mul_right sz ω;rw[Eg]at this;omega
     rcases S with A|a2
     .rw[if_pos A];exact V l f G K
     .rw[if_neg ω,if_neg ω];exact V l f G K);refine Aes (w':=_) ?_ (hk σ ι undef _ le s' (.of_val _));simp[execOp,ho,hv,M]
end
section
variable {P:Program} {o:Oper} {ρ:Operand->AV} {a:Act} {w w':World} {next:Act->World->Prop} {Q:Exit->Act->World->Prop}
variable {σ:Ax} {op:BinOp} {b:Bool} {T:C6} {m:Int} {g k:IntKind} {fs:List (Nat×Nat)} {xs:List AV} {h n off sz:Nat} {q:Nat×Nat} {x y:Operand} {p:Option Addr} {i j:TI} {E d e s t:TypeId} {v:Value}
theorem Dz {ι:Bx} {H:Hp} (h:ρ x = .val v) (u:Conc σ ι H (ρ x) (a.eval x)):a.eval x=v:=by rw[h]at u;exact u.val_inv
theorem Atu (b:o.op = .nilCheck x) (hp:(ρ x).isPtr=true):Ca P o ρ ⟨ρ x,[],[]⟩ := Ep λσ ι H a w A=>by have h:=A x (by simp[b,Op.operands]);refine⟨a.eval x,?_,h⟩;have:(∃p,a.eval x = .pointer (some p))\/∃f u,a.eval x = .func (.func f) #[] u:=(by generalize ρ x=y at h hp;generalize a.eval x=v at h;cases h with| cc h=>cases h <;> cases hp| loc=>exact .inl ⟨_,rfl⟩| mp=>cases hp| vec=>cases hp| arr=>cases hp| el=>cases hp| ref=>exact .inl ⟨_,rfl⟩| agg=>cases hp| tup=>cases hp| fn=>exact .inr ⟨_,_,rfl⟩);rcases this with⟨p,hp⟩|⟨f,u,hp⟩ <;> simp[execOp,b,hp]
theorem Q5 {b:TypeId} {n:Int} (f:o.op = .binOp op t x y b) (u:a.eval x = .int k m) (A:a.eval y = .int k n) {r:Value} (c:(binOp op t (.int k m) (.int k n)).run P w = .ok r w):(execOp a.eval o).run P w = .ok (.value r) w:=by
 have g:(eqGuard op t x y (.int k m) (.int k n)).run P w = .ok () w:=by unfold eqGuard;cases op <;> simp
 simp only[execOp,f,u,A,Sem.run_bind,g,Result.andThen_ok,c,Sem.run_pure]
theorem Atv {f:TypeId} {n c:Int} (b:o.op = .binOp .add t x y f) (u:ρ x = .val (.int k m)) (A:ρ y = .val (.int k n)) (B:k.wrap (m+n)=c) : Ca P o ρ ⟨.val (.int k c),[],[]⟩ := Ep λσ ι H a w h=>⟨_,Q5 b (Dz u (h x (by simp[b,Op.operands]))) (Dz A (h y (by simp[b,Op.operands]))) (by simp[binOp,Op.intArith,B]),.of_val _⟩
theorem Atw {f:TypeId} {n c:Int} (b:o.op = .binOp .sub t x y f) (u:ρ x = .val (.int k m)) (A:ρ y = .val (.int k n)) (B:k.wrap (m-n)=c) : Ca P o ρ ⟨.val (.int k c),[],[]⟩ := Ep λσ ι H a w h=>⟨_,Q5 b (Dz u (h x (by simp[b,Op.operands]))) (Dz A (h y (by simp[b,Op.operands]))) (by simp[binOp,Op.intArith,B]),.of_val _⟩
theorem Atx {f:TypeId} {n c:Int} (b:o.op = .binOp .mul t x y f) (u:ρ x = .val (.int k m)) (A:ρ y = .val (.int k n)) (B:k.wrap (m*n)=c) : Ca P o ρ ⟨.val (.int k c),[],[]⟩ := Ep λσ ι H a w h=>⟨_,Q5 b (Dz u (h x (by simp[b,Op.operands]))) (Dz A (h y (by simp[b,Op.operands]))) (by simp[binOp,Op.intArith,B]),.of_val _⟩
theorem Aty {f:TypeId} {n c:Int} (b:o.op = .binOp .quo t x y f) (u:ρ x = .val (.int k m)) (A:ρ y = .val (.int k n)) (g:n≠0) (B:k.wrap (m.tdiv n)=c) : Ca P o ρ ⟨.val (.int k c),[],[]⟩ := Ep λσ ι H a w h=>⟨_,Q5 b (Dz u (h x (by simp[b,Op.operands]))) (Dz A (h y (by simp[b,Op.operands]))) (by simp[binOp,Op.intDiv,g,B]),.of_val _⟩
theorem Atz {f:TypeId} {n c:Int} (b:o.op = .binOp .rem t x y f) (u:ρ x = .val (.int k m)) (A:ρ y = .val (.int k n)) (g:n≠0) (B:m.tmod n=c) : Ca P o ρ ⟨.val (.int k c),[],[]⟩ := Ep λσ ι H a w h=>⟨_,Q5 b (Dz u (h x (by simp[b,Op.operands]))) (Dz A (h y (by simp[b,Op.operands]))) (by simp[binOp,Op.intDiv,g,B]),.of_val _⟩
theorem At0 {f:TypeId} {n:Int} (c:o.op = .binOp op t x y f) (A:ρ x = .val (.int k m)) (B:ρ y = .val (.int k n)) (u:Aeq op m n=some b) : Ca P o ρ ⟨.val (.bool b),[],[]⟩ := Ep λσ ι H a w h=>by refine⟨.bool b,Q5 c (Dz A (h x (by simp[c,Op.operands]))) (Dz B (h y (by simp[c,Op.operands]))) ?_,.of_val _⟩;cases op <;> simp only[Aeq]at u <;> first | (cases u;done) | (cases u;simp[binOp,Op.intCmp])
def Aey (op:BinOp) (k:IntKind) (m n:Int):Option Int := match op with
 | .and=>some (k.wrap (BitVec.ofInt k.bits m &&& BitVec.ofInt k.bits n).toNat)
 | .or=>some (k.wrap (BitVec.ofInt k.bits m ||| BitVec.ofInt k.bits n).toNat)
 | .xor=>some (k.wrap (BitVec.ofInt k.bits m ^^^ BitVec.ofInt k.bits n).toNat)
 | _=>none
theorem At1 {f:TypeId} {n c:Int} (b:o.op = .binOp op t x y f) (A:ρ x = .val (.int k m)) (B:ρ y = .val (.int k n)) (u:Aey op k m n=some c) : Ca P o ρ ⟨.val (.int k c),[],[]⟩ := Ep λσ ι H a w h=>by refine⟨.int k c,Q5 b (Dz A (h x (by simp[b,Op.operands]))) (Dz B (h y (by simp[b,Op.operands]))) ?_,.of_val _⟩;cases op <;> simp only[Aey]at u <;> first | (cases u;done) | (cases u;simp[binOp,Op.intBits])
theorem At2 {i:TypeId} {n c:Int} (b:o.op = .binOp .shr t x y i) (u:ρ x = .val (.int k m)) (A:ρ y = .val (.int g n)) (l:0<=n) (B:m.fdiv (2 ^ (min n.toNat k.bits))=c) : Ca P o ρ ⟨.val (.int k c),[],[]⟩ := Ep λσ ι H a w h=>by refine⟨.int k c,?_,.of_val _⟩;have C:=Dz u (h x (by simp[b,Op.operands]));have G:=Dz A (h y (by simp[b,Op.operands]));have j:(eqGuard .shr t x y (.int k m) (.int g n)).run P w = .ok () w:=(by unfold eqGuard;simp);have f:¬n<0:=ω;simp only[execOp,b,C,G,Sem.run_bind,j,Result.andThen_ok,binOp,Op.shift,if_neg f,B,Sem.run_pure]
theorem At3 {i:TypeId} {n c:Int} (b:o.op = .binOp .shl t x y i) (u:ρ x = .val (.int k m)) (A:ρ y = .val (.int g n)) (l:0<=n) (B:k.wrap (m*2 ^ (min n.toNat k.bits))=c) : Ca P o ρ ⟨.val (.int k c),[],[]⟩ := Ep λσ ι H a w h=>by refine⟨.int k c,?_,.of_val _⟩;have C:=Dz u (h x (by simp[b,Op.operands]));have G:=Dz A (h y (by simp[b,Op.operands]));have j:(eqGuard .shl t x y (.int k m) (.int g n)).run P w = .ok () w:=(by unfold eqGuard;simp);have f:¬n<0:=ω;simp only[execOp,b,C,G,Sem.run_bind,j,Result.andThen_ok,binOp,Op.shift,if_neg f,B,Sem.run_pure]
def Aez (op:BinOp) (m n:Bool):Option Bool := match op with
 | .eql=>some (m==n)
 | .neq=>some (m != n)
 | _=>none
theorem At4 (u:P.underlying t=some .bool) (d:Nat) (m n:Bool) (w:World):(Op.equalIn (d+1) t (.bool m) (.bool n)).run P w = .ok (m==n) w:=by simp[Op.equalIn,run_underlying u]
theorem At5 (u:P.underlying t=some .bool) (m n:Bool) (w:World):(Op.equal t (.bool m) (.bool n)).run P w = .ok (m==n) w:=by exact At4 u 9999 m n w
theorem At6 (q:C8 P T) {j:TypeId} {m n:Bool} (c:o.op = .binOp op t x y j) (G:T t=some i) (I:i.d = .bool) (J:ρ x = .val (.bool m)) (K:ρ y = .val (.bool n)) (C:Aez op m n=some b) : Ca P o ρ ⟨.val (.bool b),[],[]⟩ := Ep λσ ι H a w h=>by
  refine⟨.bool b,?_,.of_val _⟩;have L:=Dz J (h x (by simp[c,Op.operands]));have M:=Dz K (h y (by simp[c,Op.operands]));obtain⟨g,u,z,E,k,D,B,A,s,f⟩:=Er (q t i G);rw[I]at f;subst f;have l:(eqGuard op t x y (.bool m) (.bool n)).run P w = .ok () w:=(by unfold eqGuard;cases op <;> simp);cases op <;> simp only[Aez]at C <;> first | (cases C;done) | skip
  all_goals
   cases C
   simp only[execOp,c,L,M,Sem.run_bind,l,Result.andThen_ok,binOp,At5 k,Sem.run_pure]
   try rfl
theorem At7 (A:C8 P T) {l:TypeId} {c b g:Nat} (f:o.op = .binOp .eql t x y l) (C:T t=some i) (J:i.d = .slice e) (K:ρ x = .val (.slice p n c)) (L:ρ y = .val (.slice none b g)) : Ca P o ρ ⟨.val (.bool p.isNone),[],[]⟩ := Ep λσ ι H a w h=>by refine⟨.bool p.isNone,?_,.of_val _⟩;have M:=Dz K (h x (by simp[f,Op.operands]));have N:=Dz L (h y (by simp[f,Op.operands]));obtain⟨k,u,z,I,q,G,E,D,B,j⟩:=Er (A t i C);rw[J]at j;subst j;have s:(eqGuard .eql t x y (.slice p n c) (.slice none b g)).run P w = .ok () w:=(by unfold eqGuard;simp);simp only[execOp,f,M,N,Sem.run_bind,s,Result.andThen_ok,Lib.run_eql_slice_nil w t e p n c b g q,Sem.run_pure]
def Ae0 (op:BinOp) (m n:ByteArray):Option Bool := match op with
 | .eql=>some (m.toList==n.toList)
 | .neq=>some (!(m.toList==n.toList))
 | .lss=>some (Op.bytesLess m.toList n.toList)
 | _=>none
theorem At8 {f:TypeId} {m n:ByteArray} (c:o.op = .binOp op t x y f) (A:ρ x = .val (.string m)) (B:ρ y = .val (.string n)) (u:Ae0 op m n=some b) : Ca P o ρ ⟨.val (.bool b),[],[]⟩ := Ep λσ ι H a w h=>by
  refine⟨.bool b,?_,.of_val _⟩;have C:=Dz A (h x (by simp[c,Op.operands]));have G:=Dz B (h y (by simp[c,Op.operands]));have g:(eqGuard op t x y (.string m) (.string n)).run P w = .ok () w:=(by unfold eqGuard;cases op <;> simp);cases op <;> simp only[Ae0]at u <;> first | (cases u;done) | skip
  all_goals
   cases u
   simp only[execOp,c,C,G,Sem.run_bind,g,Result.andThen_ok,binOp,Op.stringOp,Sem.run_pure]
theorem At9 {c:TypeId} {m n:ByteArray} (b:o.op = .binOp .add t x y c) (u:ρ x = .val (.string m)) (A:ρ y = .val (.string n)) (j:m.size+n.size<=9223372036854775807) : Ca P o ρ ⟨.val (.string (m++n)),[],[]⟩ := Ep λσ ι H a w h=>by refine⟨.string (m++n),?_,.of_val _⟩;have B:=Dz u (h x (by simp[b,Op.operands]));have C:=Dz A (h y (by simp[b,Op.operands]));have i:(eqGuard .add t x y (.string m) (.string n)).run P w = .ok () w:=(by unfold eqGuard;simp);have g:IntKind.i64.max=9223372036854775807:=δ;have f:¬((m.size+n.size:Nat):Int)>IntKind.i64.max:=(by rw[g];omega);simp only[execOp,b,B,C,Sem.run_bind,i,Result.andThen_ok,binOp,Op.stringOp,if_neg f,Sem.run_pure]
theorem Aua (c:o.op = .unOp .not t x) (u:ρ x = .val (.bool b)):Ca P o ρ ⟨.val (.bool !b),[],[]⟩ := Ep λσ ι H a w h=>⟨.bool !b,by simp[execOp,c,Dz u (h x (by simp[c,Op.operands])),Op.unary],.of_val _⟩
theorem Aub {c:Int} (b:o.op = .unOp .neg t x) (u:ρ x = .val (.int k m)) (A:k.wrap (0-m)=c):Ca P o ρ ⟨.val (.int k c),[],[]⟩ := Ep λσ ι H a w h=>⟨.int k c,by simp only[execOp,b,Dz u (h x (by simp[b,Op.operands])),Op.unary,Op.intArith,A,Sem.run_bind,Sem.run_pure,Result.andThen_ok],.of_val _⟩
theorem Auc (s:C8 P T) {I:IntKind} {c:Int} (q:o.op = .convert t d x) (C:T t=some i) (K:T d=some j) (X:j.d = .int k) (hx:ρ x = .val (.int I m)) (hc:k.wrap m=c) : Ca P o ρ ⟨.val (.int k c),[],[]⟩ := Ep λσ ι H a w h=>by refine⟨.int k c,?_,.of_val _⟩;have h1:=Dz hx (h x (by simp[q,Op.operands]));obtain⟨l,u,z,V,E,U,S,R,N,M⟩:=Er (s t i C);obtain⟨g,L,J,G,f,D,B,A,y,b⟩:=Er (s d j K);rw[X]at b;subst b;simp only[execOp,q,h1,convert,Sem.run_bind,run_underlying E,run_underlying f,Result.andThen_ok,Conv.intToInt,hc,Sem.run_pure]
theorem Aud {f:TypeId} {k:FloatKind} {m c:Nat} (b:o.op = .binOp op t x y f) (A:ρ x = .val (.float k m)) (B:ρ y = .val (.float k n)) (u:floatBits op k m n=some c) : Ca P o ρ ⟨.val (.float k c),[],[]⟩ := Ep λσ ι H a w h=>by refine⟨.float k c,?_,.of_val _⟩;have C:=Dz A (h x (by simp[b,Op.operands]));have G:=Dz B (h y (by simp[b,Op.operands]));have g:(eqGuard op t x y (.float k m) (.float k n)).run P w = .ok () w:=(by cases op <;> first | (unfold eqGuard;simp;done) | (simp[floatBits]at u));simp only[execOp,b,C,G,Sem.run_bind,g,Result.andThen_ok,run_float_arith w op t k m n c u,Sem.run_pure]
theorem Aue (s:C8 P T) {k:FloatKind} (q:o.op = .convert t d x) (C:T t=some i) (K:T d=some j) (V:j.d = .float k) (X:ρ x = .val (.int g m)) : Ca P o ρ ⟨.val (.float k (floatOfInt k m)),[],[]⟩ := Ep λσ ι H a w h=>by refine⟨.float k (floatOfInt k m),?_,.of_val _⟩;have h1:=Dz X (h x (by simp[q,Op.operands]));obtain⟨l,u,z,U,E,S,R,N,M,L⟩:=Er (s t i C);obtain⟨f,J,I,G,c,D,B,A,y,b⟩:=Er (s d j K);rw[V]at b;subst b;have:=run_convert_int_float (P:=P) w t d g k m (by rw[E];rfl) c;simp only[execOp,q,h1,Sem.run_bind,this,Result.andThen_ok,Sem.run_pure]
theorem Auf (y:C8 P T) {k:FloatKind} {f:IntKind} {m:Nat} {c:Int} (s:o.op = .convert t d x) (C:T t=some i) (K:T d=some j) (X:j.d = .int f) (hx:ρ x = .val (.float k m)) (hc:floatToIntVal k m f=some c) : Ca P o ρ ⟨.val (.int f c),[],[]⟩ := Ep λσ ι H a w h=>by refine⟨.int f c,?_,.of_val _⟩;have h1:=Dz hx (h x (by simp[s,Op.operands]));obtain⟨q,u,z,V,G,U,S,R,N,M⟩:=Er (y t i C);obtain⟨l,L,J,I,g,E,D,B,A,b⟩:=Er (y d j K);rw[X]at b;subst b;have:=run_convert_float_int (P:=P) w t d k f m c (by rw[G];rfl) g hc;simp only[execOp,s,h1,Sem.run_bind,this,Result.andThen_ok,Sem.run_pure]
theorem Aug {cs:List AV} {c:AV} (f:o.op = .extract x n) (C:ρ x = .tup cs) (u:cs[n]? = some c):Ca P o ρ ⟨c,[],[]⟩ := Ep λσ ι H a w h=>by have A:=h x (by simp[f,Op.operands]);rw[C]at A;obtain⟨B,e,i,g⟩:=A.tup_inv;have b:n<B.size:=(by rw[i];exact (F8.1 u).1);refine⟨B[n],?_,g n c _ u (by simp[b])⟩;simp[execOp,f,e,Instr.extract,b]
theorem Ae1 {f:Nat} (hi:Ie P s=some i) (N:i.d = .struct fs) (J:fs[f]? = some q) (b off:Nat) (w:World) : (Instr.fieldAt s (.pointer (some ⟨b,off,none⟩)) f).run P w = .ok (.pointer (some ⟨b,off+q.1,none⟩)) w:=by
 obtain⟨x,u,z,G,y,E,D,B,A,l⟩:=Er hi;rw[N]at l;obtain⟨C,rfl,rfl,K⟩:=l;rw[getElem?_map]at J;cases M:C.toList[f]? with
 | none=>rw[M]at J;simp at J
 | some L=>rw[M]at J;simp at J;subst J;have k:C[f]? = some L:=(by rw[<-Gi];exact M);have hp:=K L (E7 M);have h:∃I,P.info? L.type=some I/\I.size≠0:=(by unfold Program.cellsOf at hp;cases g:P.info? L.type with| none=>rw[g]at hp;simp at hp| some I=>rw[g]at hp;simp at hp;exact⟨I,rfl,ω⟩);obtain⟨I,c,j⟩:=h;have R:(sizeOf L.type).run P w = .ok I.size w:=(by simp[sizeOf,typeInfo,program,Sem.run,c]);simp[Instr.fieldAt,run_underlying y,k,Instr.sureAddr,fieldPlace,R,j,Kq]
theorem Auh (k:C8 P T) {f:Nat} (g:o.op = .fieldAddr s x f) (A:T s=some i) (B:i.d = .struct fs) (C:fs[f]? = some q) (G:ρ x = .loc h off):Ca P o ρ ⟨.loc h (off+q.1),[],[]⟩ := Ep λσ ι H a w c=>by have u:=c x (by simp[g,Op.operands]);rw[G]at u;obtain⟨b,I,j⟩:=u.loc_inv;exact⟨_,by simp[execOp,g,j,Ae1 (k s i A) B C],.loc h (off+q.1) b I⟩
theorem Aui (y:C8 P T) {f:Nat} {cs:List AV} (k:o.op = .fieldAddr s x f) (I:T s=some i) (J:i.d = .struct fs) (K:fs[f]? = some q) (L:ρ x = .ref cs):Ca P o ρ ⟨.ref (cs.drop q.1),[],[]⟩ := Ep λσ ι H a w h=>by
  have B:=h x (by simp[k,Op.operands]);rw[L]at B;obtain⟨b,off,C,E,M,g,u,l,G,z⟩:=B.ref_inv;refine⟨_,by simp[execOp,k,u,Ae1 (y s i I) J K],.ref _ b (off+q.1) C E M (λj=>g (q.1+j)) l ?_ ?_ ?_⟩
  .intro j c A;rw[getElem?_drop]at A;exact (G _ c A).1
  .intro j c A;rw[getElem?_drop]at A;exact (G _ c A).2
  .intro j A;rw[length_drop]at A;rw[Nat.add_assoc];exact z (q.1+j) ω
theorem Auj (G:C8 P T) {f:Nat} {k j:Nat} (A:o.op = .fieldAddr s x f) (C:T s=some i) (J:i.d = .struct fs) (K:fs[f]? = some q) (L:ρ x = .el h k n j) (y:xs.length=k):Ca P o ρ ⟨.el h k n (j+q.1),[(h,.rows E sz xs)],[]⟩:=by
 intro σ ι H F W w a next Q s u l M
 have z:H h = .rows E sz xs:=l (h,.rows E sz xs) ψ;have hp:=u x (by simp[A,Op.operands]);rw[L]at hp;obtain⟨b,B,N,D⟩:=hp.el_inv z y;refine Fj (v:=.pointer (some ⟨b,n*sz+j+q.1,none⟩)) (by simp[execOp,A,D,Ae1 (G _ i C) J K]) (M σ ι _ w (Le.refl _ _ _) s ?_);refine .el h k n (j+q.1) _ (by show H h≠_;rw[z];intro e;cases e) (λI g c e=>?_) rfl;have e:H h = .rows I g c:=e;rw[z]at e;cases e;refine⟨ω,λ_=>?_⟩;rw[N];show _=_
 rw[Nat.add_assoc]
theorem CC.sl_inv (h:CC σ (.sl sz xs) v) : (xs = []/\∃p f,v = .slice p 0 f)\/∃(b off f:Nat) (C:Array Value) (E:TypeId) (l:Nat×Nat) (g:Nat->Nat->Value),v = .slice (some ⟨b,off,none⟩) xs.length f/\σ b=some (.cells C E l) /\ (∀(i:Nat) (x:AV),xs[i]? = some x->x.cells.length=sz)/\(∀(i:Nat) (x:AV) (j:Nat) (c:AV),xs[i]? = some x->x.cells[j]? = some c->CC σ c (g i j)/\Ew (g i j)=true) /\ (∀(i j:Nat),i<xs.length->j<sz->C[off+i*sz+j]? = some (g i j))/\xs.length<=140737488355328/\xs.length<=f:=by cases h with| nil _ p f=>exact .inl ⟨rfl,p,f,rfl⟩| sl _ b off f _ C E l g q hs hc h1 u s k=>exact .inr ⟨b,off,f,C,E,l,g,rfl,q,hs,λi x j c hx A=>⟨hc i x j c hx A,h1 i x j c hx A⟩,u,s,k⟩
theorem CC.sl_len (h:CC σ (.sl sz xs) v):xs.length<=140737488355328/\∃p cap,v = .slice p xs.length cap:=by
 rcases h.sl_inv with⟨rfl,p,cap,e⟩|⟨b,off,cap,C,E,fr,g,e,_,_,_,_,c,_⟩
 .exact⟨ψ,p,cap,e⟩
 .exact⟨c,_,cap,e⟩
theorem Aj8 (k:C8 P T) (g:o.op = .call {callee:=.builtin .len,args:=#[x],argTypes:=#[t]}) (C:T t=some i) (G:i.d = .slice e) (I:ρ x = .sl sz xs) : Ca P o ρ ⟨.val (.int .i64 xs.length),[],[]⟩ := Ep λσ ι H a w b=>by have B:=b x (by simp[g,Op.operands,Call.operands]);rw[I]at B;obtain⟨_,p,J,j⟩:=B.sl_inv.sl_len;obtain⟨f,u,z,A,h,y,s,q,l,c⟩:=Er (k t i C);rw[G]at c;subst c;refine⟨.int .i64 xs.length,?_,.of_val _⟩;simp[execOp,g,resolve,invoke,builtin,Builtin.len_,j,run_underlying h,goInt]
theorem Auk (l:C8 P T) {c:Nat} (h:o.op = .call {callee:=.builtin .len,args:=#[x],argTypes:=#[t]}) (C:T t=some i) (G:i.d = .slice e) (I:ρ x = .val (.slice p n c)) : Ca P o ρ ⟨.val (.int .i64 n),[],[]⟩ := Ep λσ ι H a w b=>by have k:=Dz I (b x (by simp[h,Op.operands,Call.operands]));obtain⟨g,u,z,B,j,A,y,s,q,f⟩:=Er (l t i C);rw[G]at f;subst f;refine⟨.int .i64 n,?_,.of_val _⟩;simp[execOp,h,resolve,invoke,builtin,Builtin.len_,k,run_underlying j,goInt]
theorem Aul (l:C8 P T) {b:Nat} (h:o.op = .call {callee:=.builtin .cap,args:=#[x],argTypes:=#[t]}) (C:T t=some i) (G:i.d = .slice e) (I:ρ x = .val (.slice p n b)) : Ca P o ρ ⟨.val (.int .i64 b),[],[]⟩ := Ep λσ ι H a w c=>by have k:=Dz I (c x (by simp[h,Op.operands,Call.operands]));obtain⟨g,u,z,B,j,A,y,s,q,f⟩:=Er (l t i C);rw[G]at f;subst f;refine⟨.int .i64 b,?_,.of_val _⟩;simp[execOp,h,resolve,invoke,builtin,Builtin.cap_,k,run_underlying j,goInt]
theorem Aum (k:C8 P T) {s:ByteArray} (g:o.op = .call {callee:=.builtin .len,args:=#[x],argTypes:=#[t]}) (C:T t=some i) (G:i.d = .string) (I:ρ x = .val (.string s)) : Ca P o ρ ⟨.val (.int .i64 s.size),[],[]⟩ := Ep λσ ι H a w b=>by have j:=Dz I (b x (by simp[g,Op.operands,Call.operands]));obtain⟨f,u,z,B,h,A,y,q,l,c⟩:=Er (k t i C);rw[G]at c;subst c;refine⟨.int .i64 s.size,?_,.of_val _⟩;simp[execOp,g,resolve,invoke,builtin,Builtin.len_,j,run_underlying h,goInt]
theorem Aun (B:C8 P T) {k len:Nat} (q:o.op = .call {callee:=.builtin .len,args:=#[x],argTypes:=#[t]}) (K:T t=some i) (R:i.d = .slice e) (S:ρ x = .arr h k off len) (g:xs.length=k):Ca P o ρ ⟨.val (.int .i64 len),[(h,.rows E sz xs)],[]⟩:=by
 intro σ ι H F W w a next Q s f c U
 have A:H h = .rows E sz xs:=c (h,.rows E sz xs) ψ;have hp:=f x (by simp[q,Op.operands,Call.operands]);rw[S]at hp;have b:=hp.arr_inv A g;obtain⟨l,u,z,N,y,M,L,J,I,j⟩:=Er (B t i K);rw[R]at j;subst j;have:∃p C,a.eval x = .slice p len C:=by
  unfold Gz at b;split at b
  .obtain⟨G,_,D⟩:=b;exact⟨none,0,by rw[G,D]⟩
  .exact⟨_,_,b.2⟩
  .exact b.elim
 obtain⟨p,C,b⟩:=this;refine Fj (v:=.int .i64 len) ?_ (U σ ι _ w (Le.refl _ _ _) s (.of_val _));simp[execOp,q,resolve,invoke,builtin,Builtin.len_,b,run_underlying y,goInt]
theorem Ae2 (hi:Ie P t=some i) (C:i.d = .slice e) (q:Ie P e=some j) {b len f:Nat} (k:IntKind) (D:n<len) (w:World) : (Instr.indexAt t (.slice (some ⟨b,off,none⟩) len f) (.int k (n:Int))).run P w = .ok (.pointer (some ⟨b,off+n*j.size,none⟩)) w:=by obtain⟨h,u,z,B,l,A,y,x,s,g⟩:=Er hi;rw[C]at g;subst g;have G:=Mm q w;have c:0<=(n:Int)/\(n:Int)<(len:Int):=ω;simp only[Instr.indexAt,asIntOf,Sem.run_bind,Sem.run_pure,Result.andThen_ok,run_underlying l,if_pos c,G,Kq,Int.toNat_natCast]
theorem Auo (A:C8 P T) {f:TI} {z:AV} (s:o.op = .indexAddr t x y) (N:T t=some i) (R:i.d = .slice e) (I:T e=some f) (q:sz=f.size) (S:ρ x = .sl sz xs) (U:ρ y = .val (.int k (n:Int))) (l:xs[n]? = some z) : Ca P o ρ ⟨.ref z.cells,[],[]⟩ := Ep λσ ι H a w h=>by
  have L:=h x (by simp[s,Op.operands]);have V:=Dz U (h y (by simp[s,Op.operands]));rw[S]at L;have u:=(F8.1 l).1;rcases L.sl_inv.sl_inv with⟨rfl,_⟩|⟨b,off,X,C,E,fr,g,G,B,hs,M,J,_⟩
  .simp at u
  .have D:=hs n z l;refine⟨.pointer (some ⟨b,off+n*f.size,none⟩),?_,.ref z.cells b (off+n*f.size) C E fr (g n) B (λj c K=>(M n z j c l K).1) (λj c K=>(M n z j c l K).2) λj K=>?_⟩
   .simp[execOp,s,G,V,Ae2 (A t i N) R (A e f I) k u]
   .have:=J n j u ω;rw[<-q];exact this
theorem Aup (j:C8 P T) {f:TI} {m:Nat} (g:o.op = .indexAddr t x y) (B:T t=some i) (C:i.d = .slice e) (u:T e=some f) (l:f.size=1) (G:ρ x = .vec h m) (I:ρ y = .val (.int k (n:Int))) (s:n<m) : Ca P o ρ ⟨.loc h n,[],[]⟩ := Ep λσ ι H a w c=>by have A:=c x (by simp[g,Op.operands]);have J:=Dz I (c y (by simp[g,Op.operands]));rw[G]at A;obtain⟨b,K,q⟩:=A.vec_inv;refine⟨.pointer (some ⟨b,n,none⟩),?_,.loc h n b K⟩;simp[execOp,g,q,J,Ae2 (j t i B) C (j e f u) k s,l]
theorem Auq (q:C8 P T) {m:Nat} (j:o.op = .call {callee:=.builtin .len,args:=#[x],argTypes:=#[t]}) (G:T t=some i) (I:i.d = .slice e) (J:ρ x = .vec h m) : Ca P o ρ ⟨.val (.int .i64 m),[],[]⟩ := Ep λσ ι H a w c=>by have C:=c x (by simp[j,Op.operands,Call.operands]);rw[J]at C;obtain⟨b,K,l⟩:=C.vec_inv;obtain⟨g,u,z,D,k,B,A,y,s,f⟩:=Er (q t i G);rw[I]at f;subst f;refine⟨.int .i64 m,?_,.of_val _⟩;simp[execOp,j,resolve,invoke,builtin,Builtin.len_,l,run_underlying k,goInt]
theorem Aur (G:C8 P T) {l:TI} {k len:Nat} {D:IntKind} (z:o.op = .indexAddr t x y) (C:T t=some i) (K:i.d = .slice e) (M:T e=some l) (R:ρ x = .arr h k off len) (A:xs.length=k) (S:ρ y = .val (.int D (n:Int))) (J:n<len) (q:sz=l.size):Ca P o ρ ⟨.el h k (off+n) 0,[(h,.rows E sz xs)],[]⟩:=by
 intro σ ι H F W w a next Q s f u U
 have B:H h = .rows E sz xs:=u (h,.rows E sz xs) ψ;have hp:=f x (by simp[z,Op.operands]);have V:=Dz S (f y (by simp[z,Op.operands]));rw[R]at hp;have c:=hp.arr_inv B A;unfold Gz at c;split at c
 .omega
 .rename_i b I X;obtain⟨L,c⟩:=c;refine Fj (v:=.pointer (some ⟨b,(off+n)*sz,none⟩)) ?_ (U σ ι _ w (Le.refl _ _ _) s ?_)
  .simp[execOp,z,c,V,Ae2 (G t i C) K (G e l M) D J,q,Eg]
  .refine .el h k (off+n) 0 _ (by show H h≠_;rw[B];intro e;cases e) (λN j g e=>?_) rfl;have e:H h = .rows N j g:=e;rw[B]at e;cases e;refine⟨ω,λ_=>?_⟩;rw[X];rfl
 .exact c.elim
theorem Aus (l:C8 P T) {s:ByteArray} {c:UInt8} (f:o.op = .index t x y) (C:T t=some i) (G:i.d = .string) (I:ρ x = .val (.string s)) (J:ρ y = .val (.int k (n:Int))) (K:s[n]? = some c) : Ca P o ρ ⟨.val (.int .u8 c.toNat),[],[]⟩ := Ep λσ ι H a w b=>by have L:=Dz I (b x (by simp[f,Op.operands]));have M:=Dz J (b y (by simp[f,Op.operands]));obtain⟨h,u,z,E,j,D,B,A,q,g⟩:=Er (l t i C);rw[G]at g;subst g;refine⟨.int .u8 c.toNat,?_,.of_val _⟩;simp[execOp,f,L,M,Instr.index,asIntOf,run_underlying j,K]
theorem Aut {f:FuncId} {b:Array Operand} (h:o.op = .makeFunc (.func f) #[] b):Ca P o ρ ⟨.fn f (b.toList.map ρ),[],[]⟩ := Ep λσ ι H a w g=>by refine⟨.func (.func f) #[] (b.map a.eval),by simp[execOp,h,Instr.makeFunc],.fn f _ _ ψ λi c v A u=>?_⟩;rw[getElem?_map]at A;rw[Array.getElem?_map]at u;cases B:b[i]? with| none=>rw[B]at u;simp at u| some x=>rw[B]at u;rw[Gi,B]at A;simp at A u;subst A;subst u;exact g x (by simp[h,Op.operands];exact Array.mem_of_getElem? B)
end
section
variable {P:Program} {o:Oper} {ρ:Operand->AV} {a:Act} {w w':World} {next:Act->World->Prop} {Q:Exit->Act->World->Prop}
variable {σ:Ax} {ι:Bx} {T:C6} {H:Hp} {xs:List AV} {h l n sz:Nat} {x:Operand} {hi lo:Option Operand} {i:TI} {e t:TypeId}
def Ig (ρ:Operand->AV) (d:Int):Option Operand->Option Int
 | none=>some d
 | some x=>match ρ x with
  | .val (.int _ n)=>some n
  | _=>none
theorem Ae3 {k:IntKind} {y:Nat} (h:n<=y) (c:BoundsCode) (w:World):(Instr.sliceBound (.int k (n:Int)) y c).run P w = .ok n w:=by have:0<=(n:Int)/\(n:Int)<=(y:Int):=ω;simp only[Instr.sliceBound,asIntOf,Sem.run_bind,Sem.run_pure,Result.andThen_ok,if_pos this,Int.toNat_natCast]
theorem Ae4 {d:Int} (hb:Ig ρ d (some x)=some (n:Int)) (u:Conc σ ι H (ρ x) (a.eval x)):∃k,a.eval x = .int k (n:Int):=by
 unfold Ig at hb;simp only[]at hb;split at hb
 .rename_i k m e;rw[e]at u;cases hb;exact⟨k,u.val_inv⟩
 .cases hb
theorem Zw {j:Bool} {len f:Nat} (b:Ig ρ 0 lo=some (l:Int)) (g:Ig ρ (len:Int) hi=some (h:Int)) (u:∀x,lo=some x\/hi=some x->Conc σ ι H (ρ x) (a.eval x)) (A:l<=h) (B:h<=f) (w:World) : (Instr.sliceBounds j len f (lo.map a.eval) (hi.map a.eval) none).run P w = .ok (l,h,f) w:=by
 unfold Instr.sliceBounds;cases hi with
 | none=>simp[Ig]at g;cases lo with| none=>simp[Ig]at b;simp;omega| some x=>obtain⟨k,e⟩:=Ae4 b (u x (.inl rfl));have:=λc=>Ae3 (P:=P) (k:=k) (n:=l) (y:=len) ω c w;simp[e,this];omega
 | some y=>obtain⟨q,e'⟩:=Ae4 g (u y (.inr rfl));have i:=λc=>Ae3 (P:=P) (k:=q) B c w;cases lo with| none=>simp[Ig]at b;simp[e',i];omega| some x=>obtain⟨k,e⟩:=Ae4 b (u x (.inl rfl));have:=λc=>Ae3 (P:=P) (k:=k) A c w;simp[e,e',this,i]
theorem Zx {y:Operand} (h:lo=some y\/hi=some y):y∈(Op.slice t x lo hi none).operands.toList:=by rcases h with rfl|rfl <;> simp[Op.operands]
theorem Auu (Z:C8 P T) {A:TI} (I:o.op = .slice t x lo hi none) (ht:T t=some i) (hd:i.d = .slice e) (he:T e=some A) (B:sz=A.size) (hx:ρ x = .sl sz xs) (M:Ig ρ 0 lo=some (l:Int)) (S:Ig ρ (xs.length:Int) hi=some (h:Int)) (h1:l<=h) (h2:h<=xs.length):Ca P o ρ ⟨.sl sz ((xs.take h).drop l),[],[]⟩ := Ep λσ ι H a w D=>by
  have s:=D x (by simp[I,Op.operands]);rw[hx]at s;obtain⟨Y,u,z,k1,X,k3,k4,k5,k6,V⟩:=Er (Z t i ht);rw[hd]at V;subst V;have hs:=Mm (Z e A he);have G:∀(K:Nat),xs.length<=K->∀w,(Instr.sliceBounds true xs.length K (lo.map a.eval) (hi.map a.eval) none).run P w = .ok (l,h,K) w :=
   λK q w=>Zw M S (λy hy=>D y (by rw[I];exact Zx hy)) h1 ω w
  rcases s.sl_inv.sl_inv with⟨rfl,p,K,s⟩|⟨b,off,K,C,E,fr,g,s,hσ,J,hc,hC,hl,q⟩
  .have R:l=0:=(by simp at h2;omega);have U:h=0:=(by simpa using h2);subst R;subst U;refine⟨.slice (if K=0 then p else p.map (·.add (0*A.size))) (0-0) (K-0),?_,?_⟩
   .simp only[execOp,I,s,Instr.sliceAt,Instr.slice,Sem.run_bind,run_underlying X,Result.andThen_ok,Option.map_none];have:=G K ψ w;simp only[length_nil]at this;simp only[this,Result.andThen_ok,hs w,Sem.run_pure]
   .exact .cc (.nil sz _ _)
  .refine⟨.slice (if K=l then some ⟨b,off,none⟩ else some ⟨b,off+l*A.size,none⟩) (h-l) (K-l),?_,?_⟩
   .simp only[execOp,I,s,Instr.sliceAt,Instr.slice,Sem.run_bind,run_underlying X,Result.andThen_ok,Option.map_none,G K q w,hs w,Sem.run_pure,Option.map_some,Kq]
   .by_cases N:l=h
    .subst N;have:(xs.take l).drop l = []:=ψ;rw[this,Nat.sub_self];exact .cc (.nil sz _ _)
    .rw[if_neg ω];have f:((xs.take h).drop l).length=h-l:=ζ;have k:∀(n:Nat) (y:AV),((xs.take h).drop l)[n]? = some y->xs[l+n]? = some y:=by
      intro n y hy;rw[getElem?_drop]at hy;by_cases L:l+n<h
      .rwa [He L]at hy
      .rw[getElem?_eq_none ζ]at hy;cases hy
     have:=CC.sl (σ:=σ) ((xs.take h).drop l) b (off+l*sz) (K-l) sz C E fr (λn j=>g (l+n) j) hσ (λn y hy=>J _ y (k n y hy))
      (λn y j c hy hj=>(hc _ y j c (k n y hy) hj).1) (λn y j c hy hj=>(hc _ y j c (k n y hy) hj).2) (λn j hn hj=>by rw[f]at hn;have:=hC (l+n) j ω hj;rw[Eg]at this;rw[<-this];congr 1;omega) (by rw[f];omega) (by rw[f];omega);rw[f,B]at this;rw[B];exact .cc this
theorem Auv (D:C8 P T) {s:ByteArray} (c:o.op = .slice t x lo hi none) (C:T t=some i) (K:i.d = .string) (M:ρ x = .val (.string s)) (f:Ig ρ 0 lo=some (l:Int)) (g:Ig ρ (s.size:Int) hi=some (h:Int)) (N:l<=h) (S:h<=s.size):Ca P o ρ ⟨.val (.string (s.extract l h)),[],[]⟩ := Ep λσ ι H a w b=>by
  have B:=Dz M (b x (by simp[c,Op.operands]));obtain⟨q,u,z,L,A,J,I,G,E,k⟩:=Er (D t i C);rw[K]at k;subst k;have j:(Instr.sliceBounds false s.size s.size (lo.map a.eval) (hi.map a.eval) none).run P w = .ok (l,h,s.size) w :=
   Zw f g (λy R=>b y (by rw[c];exact Zx R)) N ω w
  refine⟨.string (s.extract l h),?_,.of_val _⟩;simp[execOp,c,B,Instr.sliceAt,Instr.slice,run_underlying A,j]
theorem Auw (K:C8 P T) {J:TI} {c k off len:Nat} {E:TypeId} (I:o.op = .slice t x lo hi none) (ht:T t=some i) (hd:i.d = .slice e) (he:T e=some J) (L:sz=J.size) (hx:ρ x = .arr c k off len) (U:xs.length=k) (R:Ig ρ 0 lo=some (l:Int)) (V:Ig ρ (len:Int) hi=some (h:Int)) (h1:l<=h) (h2:h<=len) (h3:l=0\/l<h) : Ca P o ρ ⟨.arr c k (off+l) (h-l),[(c,.rows E sz xs)],[]⟩:=by
 intro σ ι H F W w a next Q s A M hk
 have D:H c = .rows E sz xs:=M (c,.rows E sz xs) ψ;have hp:=A x (by simp[I,Op.operands]);rw[hx]at hp;have f:=hp.arr_inv D U;obtain⟨a1,u,z,k1,Z,k3,k4,k5,k6,Y⟩:=Er (K t i ht);rw[hd]at Y;subst Y;have hs:=Mm (K e J he);have G:∀(C:Nat),len<=C->∀w,(Instr.sliceBounds true len C (lo.map a.eval) (hi.map a.eval) none).run P w = .ok (l,h,C) w :=
  λC a6 w=>Zw R V (λy hy=>A y (by rw[I];exact Zx hy)) h1 ω w
 unfold Gz at f;split at f
 .rename_i B;obtain⟨f,N,S⟩:=f;subst S;subst N;have e1:l=0:=ω;have e2:h=0:=ω;subst e1;subst e2;refine Fj (v:=.slice none 0 0) ?_ (hk σ ι _ w (Le.refl _ _ _) s ?_)
  .simp only[execOp,I,f,Instr.sliceAt,Instr.slice,Sem.run_bind,run_underlying Z,Result.andThen_ok,Option.map_none];have:=G 0 ω w;simp only[this,Result.andThen_ok,hs w,Sem.run_pure];rfl
  .refine .arr _ _ _ _ _ (by show H c≠_;rw[D];intro e;cases e) (λX j g e=>?_) rfl;have e:H c = .rows X j g:=e;rw[D]at e;cases e;exact⟨ω,λ_=>by rw[B];exact⟨rfl,rfl,rfl⟩⟩
 .rename_i b q hb;obtain⟨a7,f⟩:=f;refine Fj (v:=.slice (some ⟨b,(off+l)*sz,none⟩) (h-l) (q-(off+l))) ?_ (hk σ ι _ w (Le.refl _ _ _) s ?_)
  .simp only[execOp,I,f,Instr.sliceAt,Instr.slice,Sem.run_bind,run_underlying Z,Result.andThen_ok,Option.map_none];have:=G (q-off) ω w;simp only[this,Result.andThen_ok,hs w,Sem.run_pure,Option.map_some,Kq];rcases h3 with rfl|h3
   .simp
   .rw[if_neg ω,Eg,L,Nat.sub_sub]
  .refine .arr _ _ _ _ _ (by show H c≠_;rw[D];intro e;cases e) (λX j g e=>?_) rfl;have e:H c = .rows X j g:=e;rw[D]at e;cases e;refine⟨ω,λ_=>?_⟩;rw[hb];exact⟨ω,rfl⟩
 .exact f.elim
def Zy (σ:Ax) (ι:Bx) (H:Hp) (cs:List AV) (C:Array Value):Prop := C.size=cs.length/\∀(i:Nat) (c:AV) (v:Value),cs[i]? = some c->C[i]? = some v->Conc σ ι H c v
theorem Ae5 (off:Nat):∀(l:List Value) (m:Nat) (cells:Array Value),off+m+l.length<=cells.size -> ((l.zipIdx m).foldl (λcs p=>cs.setIfInBounds (off+p.2) p.1) cells).size=cells.size /\ ∀k:Nat,((l.zipIdx m).foldl (λcs p=>cs.setIfInBounds (off+p.2) p.1) cells)[k]? = if off+m<=k/\k<off+m+l.length then l[k-(off+m)]? else cells[k]?
 | [],m,cells,_=>by refine⟨rfl,λk=>?_⟩;rw[if_neg (by simp only[length_nil];omega)];rfl
 | v::u,m,cells,h=>by
  simp only[length_cons]at h;obtain⟨c,b⟩:=Ae5 off u (m+1) (cells.setIfInBounds (off+m) v) ζ;simp only[zipIdx_cons,foldl_cons];refine⟨by rw[c];simp,λk=>?_⟩;rw[b k];by_cases B:k=off+m
  .subst B;rw[if_neg ω,if_pos ψ];rw[Array.getElem?_setIfInBounds_self_of_lt ω];simp
  .by_cases A:off+m<=k/\k<off+m+(u.length+1)
   .rw[if_pos ω,length_cons,if_pos A];rw[show k-(off+m)=(k-(off+(m+1)))+1 by omega];simp
   .rw[if_neg ω,length_cons,if_neg A,Array.getElem?_setIfInBounds_ne ω]
theorem Aj9 {σ:Ax} {ι:Bx} {H:Hp} {fs:List (Nat×Nat)} {place:Nat->Option (Nat×Nat)} (hp:∀n,place n=fs[n]?):∀(ps:List (Nat×Operand)) (cs:List AV) (C:Array Value) (b:List AV),Zy σ ι H cs C -> (∀p∈ps,Conc σ ι H (ρ p.2) (a.eval p.2))->Tq fs cs (ps.map λp=>(p.1,ρ p.2))=some b -> ∃k,Instr.fill place C (ps.map λp=>(p.1,a.eval p.2))=some k/\Zy σ ι H b k
 | [],cs,C,b,g,_,h=>by simp only[map_nil,Tq]at h;cases h;exact⟨C,rfl,g⟩
 | p::ps,cs,C,b,g,L,h=>by
  simp only[map_cons,Tq]at h;cases K:fs[p.1]? with
  | none=>rw[K]at h;cases h
  | some q=>
   rw[K]at h;simp only[]at h;cases J:(Nat.beq (ρ p.2).cells.length q.2&&Nat.ble (q.1+q.2) cs.length) with
   | false=>rw[J]at h;cases h
   | true=>
    rw[J]at h;simp only[cond_true]at h;simp only[Fc]at J;have B:(ρ p.2).cells.length=q.2:=Ft J.1;have A:q.1+q.2<=cs.length:=F3 J.2;have M:=(L p ψ).cells;have z:=g.1;have j:=Ae5 q.1 (a.eval p.2).cells.toList 0 C ζ;have s:Zy σ ι H (Ml cs q.1 (ρ p.2).cells) (((a.eval p.2).cells.toList.zipIdx 0).foldl (λcs p=>cs.setIfInBounds (q.1+p.2) p.1) C):=by
     refine⟨by rw[j.1,Aex _ _ _ ω];exact g.1,λi c v G I=>?_⟩;rw[Aew _ _ _ ω]at G;rw[j.2 i]at I;simp only[Array.length_toList,M.1,Nat.add_zero]at I;by_cases N:i<q.1
     .rw[if_pos N]at G;rw[if_neg ω]at I;exact g.2 i c v G I
     .rw[if_neg N]at G;by_cases R:i<q.1+(ρ p.2).cells.length
      .rw[if_pos R]at G;rw[if_pos ω,Gi]at I;exact M.2 _ c v G I
      .rw[if_neg R]at G;rw[if_neg ω]at I;exact g.2 i c v G I
    obtain⟨k,x,u⟩:=Aj9 hp ps _ _ b s (λy l=>L y (by simp[l])) h;refine⟨k,?_,u⟩;simp only[map_cons,Instr.fill,hp,K];have f:((a.eval p.2).cells.size≠q.2||decide (q.1+(a.eval p.2).cells.size>C.size))=false:=by have:=g.1;simp;omega
    rw[f];simp only[Bool.false_eq_true,if_false];rw[<-Array.foldl_toList,Array.toList_zipIdx];exact x
theorem Aux (R:C8 P T) {b:Array (Nat×Operand)} {fs:List (Nat×Nat)} {cs:List AV} (G:o.op = .build t b) (ht:T t=some i) (hd:i.d = .struct fs) (hc:Tq fs (i.zero.map .val) (b.toList.map λp=>(p.1,ρ p.2))=some cs):Ca P o ρ ⟨.agg cs,[],[]⟩ := Ep λσ ι H a w q=>by
  obtain⟨E,u,z,M,L,J,V,U,D,B⟩:=Er (R t i ht);rw[hd]at B;obtain⟨C,rfl,s,K⟩:=B;have l:∀(fl:List Field),(∀f∈fl,0<P.cellsOf f.type)->fl.mapM (λf=>(P.info? f.type).map λi=>(f.offset,i.size))=some (fl.map λf=>(f.offset,P.cellsOf f.type)):=by
   intro fl;induction fl with
   | nil=>intro _;rfl
   | cons f fl ih=>intro hp;have X:=hp f ψ;have h:=ih λS y=>hp S (by simp[y]);unfold Program.cellsOf at X ⊢;cases g:P.info? f.type with| none=>rw[g]at X;simp at X| some a0=>unfold Program.cellsOf at h;rw[mapM_cons,h,g];simp[g]
  have N:Zy σ ι H (i.zero.map .val) z.cells:=(by refine⟨by simp[D],λj c v h1 h2=>?_⟩;rw[D,getElem?_map,Gi,h2]at h1;simp at h1;subst h1;exact .of_val v);obtain⟨k,I,A⟩:=Aj9 (a:=a) (place:=λn=>((C.toList.map λf=>(f.offset,P.cellsOf f.type)).toArray)[n]?) (fs:=fs) (λn=>by rw[s];simp) b.toList _ _ cs N (λp hp=>q p.2 (by simp only[G,Op.operands];simpa using ⟨p.1,by simpa using hp⟩)) hc;refine⟨.agg k,?_,.agg cs k A.1 A.2⟩;have hb:P.built t ((b.map λ(i,x)=>(i,a.eval x)).toList)=some k:=(by unfold Program.built;rw[M,L];simp only[J,l C.toList K];rw[<-I];simp);simp only[execOp,G,Sem.run_bind,run_build w t _ k hb,Result.andThen_ok,Sem.run_pure]
end
section
variable {P:Program} {o:Oper} {ρ:Operand->AV} {a:Act} {w w':World} {next:Act->World->Prop} {Q:Exit->Act->World->Prop}
variable {b:Array (Nat×Operand)} {T:C6} {k:IntKind} {l:Nat} {x y:Operand} {i:TI} {e t:TypeId}
theorem Nh {sz:Nat} {x:AV} (h:La sz x=true):x.cells.length=sz/\∀c∈x.cells,c.cl1=true:=by unfold La at h;simp only[Fc]at h;exact⟨Ft h.1,Ef.1 h.2⟩
def Ka (vs:List Value):List Value:=vs.flatMap λv=>v.cells.toList
theorem Ae6 {σ:Ax} {ι:Bx} {H:Hp} {sz:Nat}:∀(xs:List AV) (vs:List Value),xs.length=vs.length->(∀x∈xs,La sz x=true) -> (∀(i:Nat) (x:AV) (v:Value),xs[i]? = some x->vs[i]? = some v->Conc σ ι H x v) -> (Ka vs).length=xs.length*sz/\∃g:Nat->Nat->Value,(∀(i:Nat) (x:AV) (j:Nat) (c:AV),xs[i]? = some x->x.cells[j]? = some c->CC σ c (g i j)/\Ew (g i j)=true) /\ (∀(i j:Nat),i<xs.length->j<sz->(Ka vs)[i*sz+j]? = some (g i j))
 | [],[],_,_,_=>⟨by simp[Ka],λ_ _=>undef,ψ,ψ⟩
 | x::xs,v::vs,B,k,J=>by
  obtain⟨z,g,s,q⟩:=Ae6 xs vs (by simpa using B) (λy G=>k y (by simp[G])) λi y u K L=>J (i+1) y u (by simpa using K) (by simpa using L);have M:=J 0 x v ψ ψ;have I:=Nh (k x ψ);have f:=M.cells;have h:v.cells.toList.length=sz:=(by simp[f.1,I.1]);have l:Ka (v::vs)=v.cells.toList++Ka vs:=(by simp[Ka]);refine⟨by rw[l,length_append,z,h,length_cons,Eg];omega,λi j=>if i=0 then (v.cells[j]?).getD undef else g (i-1) j,?_,?_⟩
  .intro i y j c G C;cases i with
   | zero=>simp at G;subst G;have b:j<v.cells.size:=(by rw[f.1];exact (F8.1 C).1);have:(v.cells[j]?).getD undef=v.cells[j]:=(by simp[b]);simp only[if_pos];rw[this];exact (f.2 j c _ C (by simp[b])).cc_of (I.2 c (E7 C))
   | succ i=>have A:xs[i]? = some y:=(by simpa using G);simpa using s i y j c A C
  .intro i j hi C;rw[l];cases i with
   | zero=>rw[getElem?_append_left ω,Nat.zero_mul,Nat.zero_add,Gi];have b:j<v.cells.size:=(by rw[f.1,I.1];exact C);simp[b]
   | succ i=>rw[getElem?_append_right (by rw[h,Eg];omega),h,show (i+1)*sz+j-sz=i*sz+j by rw[Eg];omega];rw[q i j (by simpa using hi) C];simp
theorem Aka {sz:Nat}:∀(vs:List Value) (m:Nat) (C:Array Value),(∀v∈vs,v.cells.size=sz)->C.size=(m+vs.length)*sz -> ∃f,Instr.fill (λi=>some (i*sz,sz)) C ((vs.zipIdx m).map λp=>(p.2,p.1))=some f/\f.size=C.size/\(∀k:Nat,k<m*sz->f[k]? = C[k]?) /\ ∀k:Nat,m*sz<=k->f[k]? = (Ka vs)[k-m*sz]?
 | [],m,C,_,g=>by refine⟨C,rfl,rfl,λ_ _=>rfl,λk A=>?_⟩;simp only[length_nil,Nat.add_zero]at g;simp[Ka];omega
 | v::vs,m,C,l,g=>by
  simp only[length_cons]at g;have B:=l v ψ;have q:(m+(vs.length+1))*sz=m*sz+sz+vs.length*sz:=(by rw[Eg,Eg];omega);have b:=Ae5 (m*sz) v.cells.toList 0 C ζ;simp only[Nat.add_zero,Array.length_toList,B]at b;obtain⟨f,y,x,j,s⟩:=Aka vs (m+1) (((v.cells.toList.zipIdx 0).foldl (λcs p=>cs.setIfInBounds (m*sz+p.2) p.1) C)) (λu G=>l u (by simp[G])) (by rw[b.1,g,show m+1+vs.length=m+(vs.length+1) by omega]);refine⟨f,?_,by rw[x,b.1],?_,?_⟩
  .simp only[zipIdx_cons,map_cons,Instr.fill];have c:(v.cells.size≠sz||decide (m*sz+v.cells.size>C.size))=false:=by simp;omega
   rw[c];simp only[Bool.false_eq_true,if_false];rw[<-Array.foldl_toList,Array.toList_zipIdx];exact y
  .intro k A;rw[j k (by rw[Eg];omega),b.2 k,if_neg ω]
  .intro k A;have h:Ka (v::vs)=v.cells.toList++Ka vs:=(by simp[Ka]);rw[h];by_cases I:k<m*sz+sz
   .rw[j k (by rw[Eg];omega),b.2 k,if_pos ω,getElem?_append_left ζ]
   .rw[s k (by rw[Eg];omega),getElem?_append_right ζ];congr 1;simp only[Array.length_toList,B];rw[Eg];omega
theorem Auy (ps:List (Nat×Operand)) (f:Operand->Value) (m:Nat) (h:ps.map (·.1)=range' m ps.length):ps.map (λp=>(p.1,f p.2))=((ps.map λp=>f p.2).zipIdx m).map λp=>(p.2,p.1):=by induction ps generalizing m with| nil=>rfl| cons p ps ih=>simp only[map_cons,length_cons,range'_succ,List.cons.injEq]at h;simp only[map_cons,zipIdx_cons,List.cons.injEq];exact⟨by rw[h.1],ih (m+1) h.2⟩
theorem Akb {len:Nat} {c:TI} (R:o.op = .buildSlice t len b) (hi:Ie P t=some i) (hd:i.d = .slice e) (S:Ie P e=some c) (Z:0<c.size) (hp:b.toList.map (·.1)=range' 0 len) (a1:len*c.size<=16777216) (hv:∀p∈b.toList,(a.eval p.2).cells.size=c.size) : ∃C:Array Value,C.toList=Ka (b.toList.map λp=>a.eval p.2)/\(execOp a.eval o).run P w = .ok (.value (.slice (some ⟨w.heap.size,0,none⟩) len len)) (w.alloc (.cells C e)):=by
 obtain⟨N,u,z,k1,M,k3,k4,k5,k6,L⟩:=Er hi;rw[hd]at L;subst L;obtain⟨l,Y,A⟩:=Aj6 S w;have hs:=Mm S w;have f:b.toList.length=len:=by have:=congrArg length hp;simpa using this
 have B:∀v∈(b.toList.map λp=>a.eval p.2),v.cells.size=c.size:=by intro v q;simp only[mem_map]at q;obtain⟨p,E,rfl⟩:=q;exact hv p E
 have I:∀(vs:List Value),(∀v∈vs,v.cells.size=c.size)->(Ka vs).length=vs.length*c.size:=by intro vs;induction vs with| nil=>intro _;simp[Ka]| cons v vs ih=>intro h;have:=ih λu hu=>h u (by simp[hu]);have h0:=h v ψ;simp only[Ka,flatMap_cons,length_append,Array.length_toList,h0,length_cons]at this ⊢;rw[this,Eg];omega
 obtain⟨y,X,V,r3,U⟩:=Aka (sz:=c.size) (b.toList.map λp=>a.eval p.2) 0 ((Array.range (len*c.size)).map (l.cells[· % l.cells.size]!)) B (by simp[f]);refine⟨y,?_,?_⟩
 .apply ext_getElem?;intro k;rw[Gi,U k ω];simp
 .have K:0<len\/len=0:=ω;have j:Instr.fill (λi=>some (i*c.size,c.size)) ((Array.range (len*c.size)).map (l.cells[· % l.cells.size]!)) ((b.map λ(i,x)=>(i,a.eval x)).toList)=some y:=(by rw[<-X,<-Auy b.toList a.eval 0 (by rw[hp,f])];simp);rcases K with K|K
  .have G:¬len*c.size=0:=(by have:=Nat.mul_pos K Z;omega);have s:¬len*c.size>2 ^ 24:=ω;have g:Instr.fill (λi=>some (i*c.size,c.size)) ((Array.range (len*c.size)).map (l.cells[· % l.cells.size]!)) (b.toList.map λx=>(x.1,a.eval x.2))=some y:=(by rw[<-j];simp);simp[execOp,R,Instr.buildSlice,run_underlying M,hs,s,G,A,g,newRow,newObj,Sem.run]
  .subst K;have J:y = #[]:=(by apply Array.eq_empty_of_size_eq_zero;rw[V];simp);subst J;have D:b = #[]:=(by apply Array.eq_empty_of_size_eq_zero;simpa using f);subst D;have:(Array.map (λ_:Nat=>(default:Value)) (Array.range 0)) = #[]:=ψ;simp[execOp,R,Instr.buildSlice,run_underlying M,hs,newRow,newObj,Sem.run,Instr.fill,this]
theorem Zz {len:Nat} {p:Nat×Operand} (h:p∈b.toList):p.2∈(Op.buildSlice t len b).operands.toList:=by simp only[Op.operands];simpa using ⟨p.1,by simpa using h⟩
theorem Akc (D:C8 P T) {len:Nat} {f:TI} (A:o.op = .buildSlice t len b) (V:T t=some i) (X:i.d = .slice e) (J:T e=some f) (B:0<f.size) (hp:b.toList.map (·.1)=range' 0 len) (z:len*f.size<=16777216) (k:∀p∈b.toList,La f.size (ρ p.2)=true) : Ca P o ρ ⟨.sl f.size (b.toList.map λp=>ρ p.2),[],[]⟩:=by
  intro σ ι H F W w a next Q s l _ hk
  have u:b.toList.length=len:=(by have:=congrArg length hp;simpa using this);have y:∀p∈b.toList,(a.eval p.2).cells.size=f.size:=(by intro p h;rw[((l p.2 (by rw[A];exact Zz h)).cells).1];exact (Nh (k p h)).1);obtain⟨C,L,E⟩:=Akb (P:=P) (a:=a) (w:=w) A (D t i V) X (D e f J) B hp z y;obtain⟨I,g,S,g2⟩:=Ae6 (σ:=σ) (ι:=ι) (H:=H) (sz:=f.size) (b.toList.map λp=>ρ p.2) (b.toList.map λp=>a.eval p.2) ψ (by intro x U;simp only[mem_map]at U;obtain⟨p,h,rfl⟩:=U;exact k p h) (by intro j x v M N;rw[getElem?_map]at M N;cases K:b.toList[j]? with| none=>rw[K]at M;simp at M| some p=>rw[K]at M N;simp at M N;subst M;subst N;exact l p.2 (by rw[A];exact Zz (E7 K)))
  obtain⟨s',le⟩:=s.newFrozen (.cells C e);refine Fj E (hk _ ι _ _ le s' (.cc ?_));have G:len<=140737488355328:=(by have:len*1<=len*f.size:=Nat.mul_le_mul_left len B;omega);have:=CC.sl (σ:=A4 σ w.heap.size (some (.cells C e))) (b.toList.map λp=>ρ p.2) w.heap.size 0 len f.size C e (0,0) g (Cd _ _ _)
    (by intro j x K
        rw[getElem?_map]at K
        cases R:b.toList[j]? with
        | none=>rw[R]at K;simp at K
        | some p=>rw[R]at K;simp at K;subst K;exact (Nh (k p (E7 R))).1) (λj x q c M N=>((S j x q c M N).1).mono le.sto) (λj x q c M N=>(S j x q c M N).2) (by intro j q K hq;rw[Nat.zero_add,<-Gi,L];exact g2 j q K hq) (by rw[length_map];omega) (by rw[length_map];omega)
  rw[length_map,u]at this;exact this
theorem Auz (J:C8 P T) {len:Nat} {c:TI} (h:Nat) (G:o.op = .buildSlice t len b) (ht:T t=some i) (hd:i.d = .slice e) (S:T e=some c) (A:0<c.size) (hp:b.toList.map (·.1)=range' 0 len) (D:len*c.size<=16777216) (k:∀p∈b.toList,La c.size (ρ p.2)=true) :
  Ca P o ρ ⟨.arr h len 0 len,[(h,.none)],[(h,.rows e c.size (b.toList.map λp=>ρ p.2))]⟩:=by
 intro σ ι H F W w a next Q s l E hk
 have N:H h = .none:=E (h,.none) ψ
 have u:b.toList.length=len:=by have:=congrArg length hp;simpa using this
 have B:∀p∈b.toList,(a.eval p.2).cells.size=c.size:=by
  intro p f
  rw[((l p.2 (by rw[G];exact Zz f)).cells).1]
  exact (Nh (k p f)).1
 obtain⟨C,L,M⟩:=Akb (P:=P) (a:=a) (w:=w) G (J t i ht) hd (J e c S) A hp D B
 obtain⟨I,g,g1,g2⟩:=Ae6 (σ:=σ) (ι:=ι) (H:=H) (sz:=c.size) (b.toList.map λp=>ρ p.2) (b.toList.map λp=>a.eval p.2) ψ
  (by intro x hx;simp only[mem_map]at hx;obtain⟨p,f,rfl⟩:=hx;exact k p f)
  (by
   intro j x v X h2
   rw[getElem?_map]at X h2
   cases K:b.toList[j]? with
   | none=>rw[K]at X;simp at X
   | some p=>
    rw[K]at X h2;simp at X h2;subst X;subst h2
    exact l p.2 (by rw[G];exact Zz (E7 K)))
 have R:len<=140737488355328:=by
  have:len*1<=len*c.size:=Nat.mul_le_mul_left len A
  omega
 obtain⟨s',le⟩:=s.newRows h e c.size (b.toList.map λp=>ρ p.2) len C (.inl N) A (by rw[length_map];omega) (by rw[length_map];omega)
  (by rw[<-Array.length_toList,L,I,length_map,u]) ⟨g,(by
    intro j x K
    rw[getElem?_map]at K
    cases V:b.toList[j]? with
    | none=>rw[V]at K;simp at K
    | some p=>rw[V]at K;simp at K;subst K;exact (Nh (k p (E7 V))).1),g1,(by
    intro j q K hq;rw[<-Gi,L];exact g2 j q K hq)⟩
 refine Fj M (hk _ _ _ _ le s' ?_)
 refine .arr h len 0 len _ (by show A4 H h _ h≠_;rw[Cd];intro e;cases e) (λU z y e'=>?_) rfl
 have e':A4 H h _ h = .rows U z y:=e'
 rw[Cd]at e';cases e'
 refine⟨by rw[length_map];omega,λ_=>?_⟩
 rw[Cd]
 exact⟨ω,by rw[Nat.zero_mul];rfl⟩
def Fq (i:TI):AV := match i.d,i.zero with
 | .struct _,z=>.agg (z.map .val)
 | _,[v]=>.val v
 | _,z=>.agg (z.map .val)
theorem Akd (hT:C8 P T) {b:TI} {k':IntKind} {c:Nat} (J:AV) (h:Nat) (Z:o.op = .makeSlice t x y) (ht:T t=some i) (hd:i.d = .slice e) (he:T e=some b) (hz:0<b.size) (hx:ρ x = .val (.int k (l:Int))) (hy:ρ y = .val (.int k' (c:Int))) (a7:l<=c) (hb:b.bytes*c<=281474976710656) (hc:c<=140737488355328) (aa:J.cells.length=b.size) (a8:b.zero.length=b.size) (V:∀(q:Nat) (c:AV) (v:Value),J.cells[q]? = some c->b.zero[q]? = some v->(∀σ,CC σ c v)/\Ew v=true) :
  Ca P o ρ ⟨.arr h l 0 l,[(h,.none)],[(h,.rows e b.size (replicate l J))]⟩:=by
 intro σ ι H F W w a next Q s G X hk
 have hn:H h = .none:=X (h,.none) ψ
 have h1:=Dz hx (G x (by simp[Z,Op.operands]))
 have h2:=Dz hy (G y (by simp[Z,Op.operands]))
 obtain⟨ab,u,z,k1,k2,k3,k4,k5,k6,k7⟩:=Er (hT t i ht)
 rw[hd]at k7;subst k7
 obtain⟨B,u',f,U,ad,S,R,N,E,ac⟩:=Er (hT e b he)
 have A:=run_make (P:=P) w t e B f k2 U S k k' (l:Int) (c:Int) ω ω (by
   have h':((b.bytes*c:Nat):Int)<=281474976710656:=ω
   rw[Int.natCast_mul]at h';rw[N];exact h') ω
 rw[Int.toNat_natCast,Int.toNat_natCast,R]at A
 have g:f.cells.size=b.size:=by
  rw[<-a8,E,Array.length_toList]
 have D:∀q,q<c*b.size->(madeCells f.cells (c*b.size))[q]? = f.cells[q % b.size]?:=by
  intro q C
  unfold madeCells
  have hm:q % b.size<f.cells.size:=by rw[g];exact Nat.mod_lt _ hz
  have a1:f.cells[q % b.size]! = f.cells[q % b.size]:=by simp[hm]
  simp[C,g,a1]
 obtain⟨s',le⟩:=s.newRows h e b.size (replicate l J) c (madeCells f.cells (c*b.size)) (.inl hn) hz ζ (by simpa using a7) (by simp[madeCells])
  ⟨λ_ j=>(f.cells[j]?).getD undef,(by
   intro j x' K
   have:=E7 K
   simp at this
   rw[this.2];exact aa),(by
   intro j x' q c' K C
   have:=E7 K
   simp at this
   rw[this.2]at C
   have Y:q<f.cells.size:=by
    have:=(F8.1 C).1
    omega
   have hv:f.cells[q]? = some f.cells[q]:=Array.getElem?_eq_getElem Y
   have:=V q c' f.cells[q] C (by rw[E,Gi,hv])
   show CC σ c' ((f.cells[q]?).getD undef)/\Ew ((f.cells[q]?).getD undef)=true
   rw[hv]
   exact⟨this.1 σ,this.2⟩),(by
   intro j q K C
   have a0:j<l:=by simpa using K
   have a6:j*b.size+q<c*b.size:=by
    have:(j+1)*b.size<=c*b.size:=Nat.mul_le_mul_right _ ω
    rw[Eg]at this;omega
   rw[D _ a6]
   have:(j*b.size+q) % b.size=q:=by rw[Nat.mul_comm,Nat.mul_add_mod,Nat.mod_eq_of_lt C]
   rw[this]
   have I:q<f.cells.size:=ω
   simp[I])⟩
 refine Fj (v:=.slice (some ⟨w.heap.size,0,none⟩) l c) ?_ (hk _ _ _ _ le s' ?_)
 .simp[execOp,Z,h1,h2,A]
 .refine .arr h l 0 l _ (by show A4 H h _ h≠_;rw[Cd];intro e;cases e) (λE' M L e'=>?_) rfl
  have e':A4 H h _ h = .rows E' M L:=e'
  rw[Cd]at e';cases e'
  refine⟨ψ,λ_=>?_⟩
  rw[Cd]
  exact⟨ω,by rw[Nat.zero_mul];rfl⟩
theorem Au0 (V:C8 P T) {g:TI} {S:IntKind} {m:Nat} {v:Value} (h:Nat) (M:o.op = .makeSlice t x y) (ht:T t=some i) (hd:i.d = .slice e) (he:T e=some g) (hz:g.size=1) (hv:g.zero = [v]) (hx:ρ x = .val (.int k (m:Int))) (hy:ρ y = .val (.int S (m:Int))) (hb:g.bytes*m<=281474976710656) (hm:m<=16) : Ca P o ρ ⟨.vec h m,[(h,.none)],[(h,.cells e (replicate m (.val v)))]⟩:=by
 intro σ ι H F W w a next Q s j J hk
 have hn:H h = .none:=J (h,.none) ψ;have h1:=Dz hx (j x (by simp[M,Op.operands]));have h2:=Dz hy (j y (by simp[M,Op.operands]));obtain⟨U,u,z,k1,Z,k3,k4,k5,k6,R⟩:=Er (V t i ht);rw[hd]at R;subst R;obtain⟨f,u',N,E,Y,D,B,A,l,X⟩:=Er (V e g he);have b:=run_make (P:=P) w t e f N Z E D k S (m:Int) (m:Int) ω ω (by have K:((g.bytes*m:Nat):Int)<=281474976710656:=ω;rw[Int.natCast_mul]at K;rw[A];exact K) ω;rw[Int.toNat_natCast,B,hz,Nat.mul_one]at b;have G:N.cells = #[v]:=by apply Array.ext';rw[<-l,hv]
 rw[G]at b;obtain⟨s',le⟩:=s.newBox h hn e (replicate m (.val v)) (madeCells #[v] m) (by simp[madeCells]) (by intro q c u hq C;have hc:=E7 hq;simp at hc;have L:q<m:=(by have:=(F8.1 hq).1;simpa using this);have I:u=v:=(by unfold madeCells at C;simp[L]at C;rw[<-C,Nat.mod_one];rfl);rw[hc.2,I];exact .of_val v);refine Fj (v:=.slice (some ⟨w.heap.size,0,none⟩) m m) ?_ (hk _ _ _ _ le s' ?_)
 .simp[execOp,M,h1,h2,b]
 .exact .vec h m _ (Cd _ _ _)
theorem Au1 (G:C8 P T) {b:TI} {z:IntKind} {c:Nat} (h:Nat) (D:o.op = .makeSlice t x y) (K:T t=some i) (L:i.d = .slice e) (E:T e=some b) (A:0<b.size) (M:ρ x = .val (.int k (l:Int))) (N:ρ y = .val (.int z (c:Int))) (g:l<=c) (hb:b.bytes*c<=281474976710656) (R:c<=140737488355328) (j:La b.size (Fq b)=true) (f:(Fq b).cells=b.zero.map .val) : Ca P o ρ ⟨.arr h l 0 l,[(h,.none)],[(h,.rows e b.size (replicate l (Fq b)))]⟩:=by obtain⟨u,I⟩:=Nh j;refine Akd G (Fq b) h D K L E A M N g hb R u (by rw[<-u,f,length_map]) ?_;intro q J v C B;have s:=I J (E7 C);rw[f,getElem?_map,B]at C;simp at C;subst C;exact⟨λσ=>.val v,s⟩
inductive G0:List AV->List AV->Prop
 | nil:G0 [] []
 | same (c:AV) {l l':List AV} (h:G0 l l'):G0 (c::l) (c::l')
 | sl (s:Nat) {l l':List AV} (h:G0 l l'):G0 (.val (.slice none 0 0)::l) (.sl s []::l')
theorem G0.spec {l g:List AV} (h:G0 l g):g.length=l.length/\∀(q:Nat) (c f:AV),l[q]? = some c->g[q]? = some f->f=c\/∃s,c = .val (.slice none 0 0)/\f = .sl s []:=by
 induction h with
 | nil=>exact⟨rfl,λq c f h=>by simp at h⟩
 | same c h ih=>refine⟨by simp[ih.1],λq a b h1 h2=>?_⟩;cases q with| zero=>cases h1;cases h2;exact .inl rfl| succ q=>exact ih.2 q a b h1 h2
 | sl s h ih=>refine⟨by simp[ih.1],λq a b h1 h2=>?_⟩;cases q with| zero=>cases h1;cases h2;exact .inr ⟨s,rfl,rfl⟩| succ q=>exact ih.2 q a b h1 h2
theorem Au2 (M:C8 P T) {b:TI} {D:IntKind} {c:Nat} (j:AV) (h:Nat) (I:o.op = .makeSlice t x y) (C:T t=some i) (K:i.d = .slice e) (L:T e=some b) (E:0<b.size) (V:ρ x = .val (.int k (l:Int))) (X:ρ y = .val (.int D (c:Int))) (u:l<=c) (hb:b.bytes*c<=281474976710656) (hc:c<=140737488355328) (z:La b.size (Fq b)=true) (f:(Fq b).cells=b.zero.map .val) (J:G0 (Fq b).cells j.cells) : Ca P o ρ ⟨.arr h l 0 l,[(h,.none)],[(h,.rows e b.size (replicate l j))]⟩:=by
 obtain⟨R,N⟩:=Nh z;obtain⟨U,B⟩:=J.spec;refine Akd M j h I C K L E V X u hb hc ω (by rw[<-R,f,length_map]) ?_;intro q S v hq G;have g:(Fq b).cells[q]? = some (.val v):=by rw[f,getElem?_map,G];rfl
 have A:=N _ (E7 g);rcases B q _ S g hq with rfl|⟨s,h1,rfl⟩
 .exact⟨λσ=>.val v,A⟩
 .cases h1;exact⟨λσ=>.nil s _ _,rfl⟩
end
section
variable {P:Program} {o:Oper} {ρ:Operand->AV} {a:Act} {w w':World} {next:Act->World->Prop} {Q:Exit->Act->World->Prop}
variable {F σ:Ax} {ι:Bx} {H:Hp} {xs ys:List AV} {sz:Nat} {e t t' ty:TypeId} {i:TypeInfo} {v:Value} {W:World}
structure Lb (P:Program) (w:World) (src:Value) (sz n:Nat) (Ci:List Value):Prop where
 len:∀d,(Builtin.lenOf src).run P {w with drawn:=d} = .ok n {w with drawn:=d}
 cells:∀d,(Builtin.firstCells sz n src).run P {w with drawn:=d} = .ok Ci.toArray {w with drawn:=d}
 size:Ci.length=n*sz
theorem Kb {i:TI} (h:Ie P t=some i) (A:i.d = .slice e):∃u,P.underlying t=some u/\u = .slice e:=by obtain⟨c,u,z,q,f,l,k,j,g,b⟩:=Er h;rw[A]at b;exact⟨u,f,b⟩
theorem Ake {j:TypeDesc} (G:P.underlying t=some (.slice e)) (u:P.underlying t'=some j) (k:(∃e',j = .slice e')\/j = .string) (hi:P.info? e=some i) (b:Addr) (c f n:Nat) (g:Value) (Ci:List Value) (A:Lb P w g i.size n Ci) (h:c+n<=f) (l:(storeCells (b.add (c*i.size)) Ci).run P w = .ok () w') : (Builtin.append_ #[t,t'] ty #[.slice (some b) c f,g]).run P w = .ok (.slice (some b) (c+n) f) w':=by have B:=A.len w.drawn;have C:=A.cells w.drawn;have q:({w with drawn:=w.drawn}:World)=w:=rfl;rw[q]at B C;rcases k with⟨e',rfl⟩|rfl <;> simp[Builtin.append_,run_underlying G,run_underlying u,sizeOf,typeInfo,hi,B,h,C,l]
theorem Au3 {c:TypeDesc} (G:P.underlying t=some (.slice e)) (u:P.underlying t'=some c) (f:(∃e',c = .slice e')\/c = .string) (hi:P.info? e=some i) (b:Value) (A:Lb P w b i.size 0 []) : (Builtin.append_ #[t,t'] ty #[.slice none 0 0,b]).run P w = .ok (.slice none 0 0) w:=by have B:=A.len w.drawn;have C:=A.cells w.drawn;have g:({w with drawn:=w.drawn}:World)=w:=rfl;rw[g]at B C;rcases f with⟨e',rfl⟩|rfl <;> simp[Builtin.append_,run_underlying G,run_underlying u,sizeOf,typeInfo,hi,B,C]
theorem Ae7 {k:TypeDesc} {z:Value} (K:P.underlying t=some (.slice e)) (B:P.underlying t'=some k) (l:(∃e',k = .slice e')\/k = .string) (hi:P.info? e=some i) (q:i.zero=some z) (p:Option Addr) (b c n:Nat) (g:Value) (f Ci:List Value) (C:Lb P w g i.size n Ci) (s:Lb P w (.slice p b c) i.size b f) (hg:c<b+n) (x:b+n<=9223372036854775807) (hb:(b+n)*i.bytes<=140737488355328) : (Builtin.append_ #[t,t'] ty #[.slice p b c,g]).run P w =
   .ok (.slice (some ⟨w.heap.size,0,none⟩) (b+n) (grownCap w (b+n) c e)) (w.drew.alloc (.cells ((f++Ci).toArray++Builtin.zeroCells z.cells (grownCap w (b+n) c e-(b+n))) e)):=by
 have G:=C.len w.drawn;have I:=C.cells (w.drawn+1);have J:=s.cells (w.drawn+1);have A:({w with drawn:=w.drawn}:World)=w:=rfl;have y:({w with drawn:=w.drawn+1}:World)=w.drew:=rfl;rw[A]at G;rw[y]at I J;have u:¬(b+n<=c):=ω;have h:¬(9223372036854775807<((b:Int)+(n:Int))):=ω;have j:¬(281474976710656<Builtin.nextslicecap (b+n) c*i.bytes):=by have:=growslice_fits hg hb;omega
 rcases l with⟨e',rfl⟩|rfl <;> simp[Builtin.append_,run_underlying K,run_underlying B,sizeOf,typeInfo,zeroValue,hi,q,G,u,h,j,Question.forced,I,J,newRow,grownCap] <;>
 (congr 2;apply Array.ext';simp[append_assoc])
theorem Z0 (w:World) (b c:Nat) (e:TypeId):b<=grownCap w b c e:=by unfold grownCap;show b<=b+_;omega
theorem Z1 (s:St σ ι H F W w) (u:0<sz) (K:CC σ (.sl sz ys) v) : ∃(Ci:List Value) (g:Nat->Nat->Value),Lb P w v sz ys.length Ci/\(∀(i:Nat) (x:AV),ys[i]? = some x->x.cells.length=sz) /\ (∀(i:Nat) (x:AV) (j:Nat) (c:AV),ys[i]? = some x->x.cells[j]? = some c->CC σ c (g i j)/\Ew (g i j)=true)/\(∀(i j:Nat),i<ys.length->j<sz->Ci[i*sz+j]? = some (g i j)):=by
 rcases K.sl_inv with⟨rfl,p,I,rfl⟩|⟨b,off,I,C,E,L,g,rfl,z,M,l,A,G,y⟩
 .refine⟨[],λ_ _=>undef,⟨λd=>by simp[Builtin.lenOf],λd=>?_,ψ⟩,ψ,ψ,ψ⟩;cases p with| none=>simp[Builtin.firstCells]| some a=>simp[Builtin.firstCells,loadCells,loadCellsFrom]
 .refine⟨(range (ys.length*sz)).map λq=>g (q / sz) (q % sz),g,⟨λd=>by simp[Builtin.lenOf],λd=>?_,ψ⟩,M,l,λi j hi J=>?_⟩
  .have N:({w with drawn:=d}:World).heap[b]? = some (.cells C E L):=s.sto _ _ z;have:=run_loadCells (P:=P) {w with drawn:=d} ⟨b,off,none⟩ (ys.length*sz) (λq=>g (q / sz) (q % sz)) (by intro q R;rw[Kq,J9 N];have h:q / sz<ys.length:=Nat.div_lt_of_lt_mul (by rwa [Nat.mul_comm]at R);have f:q % sz<sz:=Nat.mod_lt _ u;have:=A (q / sz) (q % sz) h f;rw[<-this];congr 1;have:=Nat.div_add_mod q sz;rw[Nat.mul_comm]at this;omega);simp only[Builtin.firstCells];exact this
  .have k:i*sz+j<ys.length*sz:=(by have:(i+1)*sz<=ys.length*sz:=Nat.mul_le_mul_right _ ω;rw[Eg]at this;omega);rw[getElem?_map,getElem?_range k];have D:(i*sz+j) / sz=i:=(by rw[Nat.mul_comm,Nat.mul_add_div u,Nat.div_eq_of_lt J];omega);have B:(i*sz+j) % sz=j:=(by rw[Nat.mul_comm,Nat.mul_add_mod,Nat.mod_eq_of_lt J]);simp[D,B]
theorem Ic.append {C q:Array Value} (hx:Ic σ sz xs C) (f:Nat->Nat->Value) (h1:∀(i:Nat) (x:AV),ys[i]? = some x->x.cells.length=sz) (h2:∀(i:Nat) (x:AV) (j:Nat) (c:AV),ys[i]? = some x->x.cells[j]? = some c->CC σ c (f i j)/\Ew (f i j)=true) (l:∀k:Nat,k<xs.length*sz->q[k]? = C[k]?) (h:∀(i j:Nat),i<ys.length->j<sz->q[(xs.length+i)*sz+j]? = some (f i j)):Ic σ sz (xs++ys) q:=by
 obtain⟨g,y,u,s⟩:=hx;refine⟨λi j=>if i<xs.length then g i j else f (i-xs.length) j,?_,?_,?_⟩
 .intro i x hi;by_cases b:i<xs.length
  .rw[getElem?_append_left b]at hi;exact y i x hi
  .rw[getElem?_append_right ω]at hi;exact h1 _ x hi
 .intro i x j c hi A;by_cases b:i<xs.length
  .rw[getElem?_append_left b]at hi;simp only[if_pos b];exact u i x j c hi A
  .rw[getElem?_append_right ω]at hi;simp only[if_neg b];exact h2 _ x j c hi A
 .intro i j hi A;by_cases b:i<xs.length
  .simp only[if_pos b];rw[l _ (by have:(i+1)*sz<=xs.length*sz:=Nat.mul_le_mul_right _ ω;rw[Eg]at this;omega)];exact s i j b A
  .simp only[if_neg b];have:=h (i-xs.length) j (by simp at hi;omega) A;rwa [show xs.length+(i-xs.length)=i by omega]at this
theorem Z2 (s:St σ ι H F W w) {i:TI} {u':TypeDesc} (ht:P.underlying t=some (.slice e)) (a3:P.underlying t'=some u') (L:(∃e',u' = .slice e')\/u' = .string) (he:Ie P e=some i) (hz:0<i.size) (aa:i.zero.length=i.size) {h:Nat} (V:H h = .rows e i.size xs) {y:Value} (X:Gz (ι h) i.size 0 xs.length v) (af:1<=i.bytes) (hb:(xs.length+ys.length)*i.bytes<=140737488355328) {Ci:List Value} {g:Nat->Nat->Value} (K:Lb P w y i.size ys.length Ci) (h1:∀(l:Nat) (x:AV),ys[l]? = some x->x.cells.length=i.size) (h2:∀(l:Nat) (x:AV) (j:Nat) (c:AV),ys[l]? = some x->x.cells[j]? = some c->CC σ c (g l j)/\Ew (g l j)=true) (h3:∀(l j:Nat),l<ys.length->j<i.size->Ci[l*i.size+j]? = some (g l j)) (Z:∀u∈Ci,Ew u=true) : ∃(ι':Bx) (v':Value) (w':World),(Builtin.append_ #[t,t'] ty #[v,y]).run P w = .ok v' w'/\Le σ ι H σ ι' (A4 H h (.rows e i.size (xs++ys)))/\St σ ι' (A4 H h (.rows e i.size (xs++ys))) F W w' /\ Gz (ι' h) i.size 0 (xs.length+ys.length) v':=by
 obtain⟨M,u,z,k1,k2,k3,N,k5,k6,k7⟩:=Er he;have q:xs.length+ys.length<=140737488355328:=by have:(xs.length+ys.length)*1<=(xs.length+ys.length)*i.bytes:=Nat.mul_le_mul_left _ af;omega
 have ab:z.cells.size=i.size:=by rw[<-aa,k6];simp
 have B:∀n,(Builtin.zeroCells z.cells n).size=n*i.size:=by intro n;simp[Builtin.zeroCells,ab]
 have E:=s.obj h;unfold Cv at E;rw[V]at E;obtain⟨_,_,E⟩:=E;unfold Gz at X;split at X
 .rename_i a6;obtain⟨rfl,_,ad⟩:=X;have ac:xs = []:=eq_nil_of_length_eq_zero ad;subst ac;by_cases hy:ys = []
  .subst hy;have U:Ci = []:=eq_nil_of_length_eq_zero (by rw[K.size];simp);subst U;refine⟨ι,.slice none 0 0,w,Au3 ht a3 L k1 y (by rw[N];exact K),?_,?_,?_⟩
   .rw[append_nil,<-V,Iq];exact Le.refl _ _ _
   .rw[append_nil,<-V,Iq];exact s
   .rw[a6];exact⟨rfl,rfl,rfl⟩
  .have a0:0<ys.length:=length_pos_iff.2 hy;have ho:Lb P w (.slice none 0 0) M.size 0 []:=⟨λd=>by simp[Builtin.lenOf],λd=>by simp[Builtin.firstCells],ψ⟩;have S:=Ae7 (P:=P) (ty:=ty) (w:=w) ht a3 L k1 k3 none 0 0 ys.length y [] Ci (by rw[N];exact K) ho ω (by simp at q;omega) (by rw[k5];simpa using hb);rw[Nat.zero_add,nil_append]at S;have a2:=Z0 w ys.length 0 e;obtain⟨s',le⟩:=(s.drew (w.drawn+1)).newRows h e i.size ([]++ys) (grownCap w ys.length 0 e) (Ci.toArray++Builtin.zeroCells z.cells (grownCap w ys.length 0 e-ys.length)) (.inr ⟨e,i.size,[],V,by simpa using a0⟩) hz (by simpa using q) (by simpa using a2) (by rw[Array.size_append,B];simp[K.size,<-Eg];rw[Nat.add_sub_cancel' a2]) ⟨g,(by simpa using h1),(by simpa using h2),(by intro l j hi hj;simp only[nil_append]at hi;have G:l*i.size+j<Ci.length:=(by have:(l+1)*i.size<=ys.length*i.size:=Nat.mul_le_mul_right _ ω;rw[Eg]at this;rw[K.size];omega);rw[Array.getElem?_append_left (by simpa using G),getElem?_toArray];exact h3 l j hi hj)⟩;refine⟨_,_,_,S,le,s',?_⟩;rw[Cd];simp only[length_nil,Nat.zero_add];exact⟨ω,by rw[Nat.zero_mul];rfl⟩
 .rename_i b f A;obtain⟨ae,rfl⟩:=X;rcases E with⟨e1,_⟩|⟨b',ag,C,e1,p1,p2,p3,p4,p5,p6⟩
  .rw[A]at e1;cases e1
  rw[A]at e1;cases e1;by_cases J:xs.length+ys.length<=f
  .have R:xs.length*i.size+Ci.length<=C.size:=(by rw[K.size,<-Eg,p4];exact Nat.mul_le_mul_right _ J);have Y:=run_storeCells_at (P:=P) b (xs.length*i.size) e Ci 0 C w p3 (by simpa using R) (λu hu=>by rw[Aev];exact Z u hu);simp only[Nat.add_zero]at Y;have S:=Ake (P:=P) (ty:=ty) (w:=w) ht a3 L k1 ⟨b,0,none⟩ xs.length f ys.length y Ci (by rw[N];exact K) J (by rw[Kq,Nat.zero_add,N];exact Y);have D:Ic σ i.size (xs++ys) (C.toList.take (xs.length*i.size)++Ci++C.toList.drop (xs.length*i.size+Ci.length)).toArray:=by
    refine Ic.append p6 g h1 h2 ?_ ?_
    .intro k hk;rw[Tt _ _ _ R,if_pos hk]
    .intro l j hi hj;have G:l*i.size+j<Ci.length:=(by have:(l+1)*i.size<=ys.length*i.size:=Nat.mul_le_mul_right _ ω;rw[Eg]at this;rw[K.size];omega);have e2:(xs.length+l)*i.size+j=xs.length*i.size+(l*i.size+j):=(by rw[Eg];omega);rw[Tt _ _ _ R,e2,if_neg ω,if_pos ω,Nat.add_sub_cancel_left];exact h3 l j hi hj
   have a8:(C.toList.take (xs.length*i.size)++Ci++C.toList.drop (xs.length*i.size+Ci.length)).toArray.size=f*i.size:=ζ;by_cases hy:ys = []
   .subst hy;obtain⟨s',le⟩:=s.setRows h e i.size xs (xs++[]) V b f A ψ _ a8 D;refine⟨ι,_,_,by simpa using S,le,s',?_⟩;rw[A];exact⟨by simpa using ae,ψ⟩
   .have a0:0<ys.length:=length_pos_iff.2 hy;obtain⟨s',le⟩:=s.growIn h e i.size xs (xs++ys) V b f A ζ (by simpa using q) (by simpa using J) _ a8 D;refine⟨ι,_,_,by simpa using S,le,s',?_⟩;rw[A];exact⟨ω,ψ⟩
  .have a1:Lb P w (.slice (some ⟨b,0*i.size,none⟩) xs.length (f-0)) M.size xs.length (C.toList.take (xs.length*i.size)):=by
    refine⟨λd=>by simp[Builtin.lenOf],λd=>?_,?_⟩
    .have a4:({w with drawn:=d}:World).heap[b]? = some (.cells C e (0,0)):=p3;have I:(C.toList.take (xs.length*i.size)).length=xs.length*i.size:=(by have:C.toList.length=f*i.size:=(by rw[Array.length_toList,p4]);rw[length_take,this];exact Nat.min_eq_left (Nat.mul_le_mul_right _ p5));have:=run_loadCells_list (P:=P) {w with drawn:=d} ⟨b,0,none⟩ (C.toList.take (xs.length*i.size)) (by intro j u hj;have G:j<xs.length*i.size:=(by have:=(F8.1 hj).1;omega);rw[He G,Gi]at hj;rw[Kq,Nat.zero_add,J9 a4];exact hj);rw[I]at this;simp only[Builtin.firstCells,Nat.zero_mul,N];exact this
    .have:C.toList.length=f*i.size:=(by rw[Array.length_toList,p4]);rw[N,length_take,this];exact Nat.min_eq_left (Nat.mul_le_mul_right _ p5)
   have S:=Ae7 (P:=P) (ty:=ty) (w:=w) ht a3 L k1 k3 (some ⟨b,0*i.size,none⟩) xs.length (f-0) ys.length y _ Ci (by rw[N];exact K) a1 ω ω (by rw[k5];exact hb);have a2:=Z0 w (xs.length+ys.length) (f-0) e;have I:(C.toList.take (xs.length*i.size)).length=xs.length*i.size:=(by have:C.toList.length=f*i.size:=(by rw[Array.length_toList,p4]);rw[length_take,this];exact Nat.min_eq_left (Nat.mul_le_mul_right _ p5));have a0:0<ys.length:=ω;have a7:(C.toList.take (xs.length*i.size)++Ci).length=(xs.length+ys.length)*i.size:=(by rw[length_append,I,K.size,Eg]);obtain⟨s',le⟩:=(s.drew (w.drawn+1)).newRows h e i.size (xs++ys) (grownCap w (xs.length+ys.length) (f-0) e) ((C.toList.take (xs.length*i.size)++Ci).toArray++Builtin.zeroCells z.cells (grownCap w (xs.length+ys.length) (f-0) e-(xs.length+ys.length))) (.inr ⟨e,i.size,xs,V,ζ⟩) hz (by simpa using q) (by simpa using a2) (by rw[Array.size_append,B,size_toArray,a7,<-Eg,Nat.add_sub_cancel' a2]) (by
     refine Ic.append p6 g h1 h2 ?_ ?_
     .intro k hk;rw[Array.getElem?_append_left (by rw[size_toArray,a7,Eg];omega),getElem?_toArray,getElem?_append_left ω,He hk,Gi]
     .intro l j hi hj;have G:l*i.size+j<Ci.length:=(by have:(l+1)*i.size<=ys.length*i.size:=Nat.mul_le_mul_right _ ω;rw[Eg]at this;rw[K.size];omega);have e2:(xs.length+l)*i.size+j=xs.length*i.size+(l*i.size+j):=(by rw[Eg];omega);rw[Array.getElem?_append_left (by rw[size_toArray,length_append,I];omega),getElem?_toArray,e2,getElem?_append_right ω,I,Nat.add_sub_cancel_left];exact h3 l j hi hj);refine⟨_,_,_,S,le,s',?_⟩;rw[Cd];exact⟨ω,by rw[Nat.zero_mul];rfl⟩
 .exact X.elim
end
section
variable {P:Program} {o:Oper} {ρ:Operand->AV} {a:Act} {w w':World} {next:Act->World->Prop} {Q:Exit->Act->World->Prop}
variable {σ:Ax} {T:C6} {m n:Int} {k:IntKind} {xs ys:List AV} {h sz:Nat} {x y:Operand} {D i:TI} {e e' t t':TypeId}
theorem Z3 {n:Nat} {Ci:List Value} {g:Nat->Nat->Value} (k:0<sz) (s:Ci.length=n*sz) (l:ys.length=n) (C:∀(b:Nat) (x:AV),ys[b]? = some x->x.cells.length=sz) (G:∀(b:Nat) (x:AV) (j:Nat) (c:AV),ys[b]? = some x->x.cells[j]? = some c->CC σ c (g b j)/\Ew (g b j)=true) (I:∀(b j:Nat),b<ys.length->j<sz->Ci[b*sz+j]? = some (g b j)) : ∀u∈Ci,Ew u=true:=by
 intro u J;obtain⟨q,A⟩:=getElem?_of_mem J;have i:=(F8.1 A).1;have h:q / sz<ys.length:=by rw[l];exact Nat.div_lt_of_lt_mul (by rw[s,Nat.mul_comm]at i;exact i)
 have f:q % sz<sz:=Nat.mod_lt _ k;have e:=I (q / sz) (q % sz) h f;rw[show q / sz*sz+q % sz=q by have:=Nat.div_add_mod q sz;rw[Nat.mul_comm]at this;omega,A]at e;cases e;have B:=getElem?_eq_getElem h;have K:(q % sz)<(ys[q / sz]).cells.length:=by rw[C _ _ B];exact f
 exact (G _ _ _ _ B (getElem?_eq_getElem K)).2
theorem Tu {ty:TypeId} (g:o.op = .call {callee:=.builtin .append,args:=#[x,y],argTypes:=#[t,t']}) (b:o.type=ty) {c:Value} (f:(Builtin.append_ #[t,t'] ty #[a.eval x,a.eval y]).run P w = .ok c w') : (execOp a.eval o).run P w = .ok (.value c) w':=by subst b;simp[execOp,g,resolve,invoke,builtin,f]
theorem Akf (S:C8 P T) {c:TI} {k:Nat} (M:o.op = .call {callee:=.builtin .append,args:=#[x,y],argTypes:=#[t,t']}) (ht:T t=some i) (hd:i.d = .slice e) (C:T t'=some D) (N:D.d = .slice e') (Z:T e=some c) (G:0<c.size) (E:c.zero.length=c.size) (R:1<=c.bytes) (hx:ρ x = .arr h k 0 k) (f:xs.length=k) (hy:ρ y = .sl c.size ys) (hb:(xs.length+ys.length)*c.bytes<=140737488355328) : Ca P o ρ ⟨.arr h (k+ys.length) 0 (k+ys.length),[(h,.rows e c.size xs)],[(h,.rows e c.size (xs++ys))]⟩:=by
 intro σ ι H F W w a next Q s q L hk
 have V:H h = .rows e c.size xs:=L (h,.rows e c.size xs) ψ;have l:=q x (by simp[M,Op.operands,Call.operands]);have j:=q y (by simp[M,Op.operands,Call.operands]);rw[hx]at l;rw[hy]at j;have U:=l.arr_inv V f;rw[<-f]at U;obtain⟨u1,J,e1⟩:=Kb (S t i ht) hd;obtain⟨u2,I,e2⟩:=Kb (S t' D C) N;subst e1;subst e2;obtain⟨Ci,g,K,h1,h2,h3⟩:=Z1 (P:=P) s G j.sl_inv;obtain⟨X,A,w',Y,le,s',b⟩:=Z2 (P:=P) (ty:=o.type) s J I (.inl ⟨_,rfl⟩) (S e c Z) G E V U R hb K h1 h2 h3 (Z3 G K.size rfl h1 h2 h3);refine Fj (Tu M rfl Y) (hk σ X A w' le s' ?_);have u:Ew A=true:=by
  unfold Gz at b;split at b
  .rw[b.1];rfl
  .rw[b.2];rfl
  .exact b.elim
 refine .arr _ _ _ _ A (by show A4 H h _ h≠_;rw[Cd];intro e;cases e) (λE' B z e'=>?_) u;have e':A4 H h _ h = .rows E' B z:=e';rw[Cd]at e';cases e';refine⟨by rw[length_append];omega,λ_=>?_⟩;rw[f]at b;exact b
def Jf (s:ByteArray):List AV:=s.data.toList.map λb=>.val (.int .u8 b.toNat)
theorem Au4 (s:ByteArray):(Jf s).length=s.size:=by unfold Jf;rw[length_map,Array.length_toList];rfl
theorem Au5 (s:ByteArray):∃(Ci:List Value) (g:Nat->Nat->Value),Lb P w (.string s) 1 (Jf s).length Ci/\(∀(i:Nat) (x:AV),(Jf s)[i]? = some x->x.cells.length=1) /\ (∀(σ:Ax) (i:Nat) (x:AV) (j:Nat) (c:AV),(Jf s)[i]? = some x->x.cells[j]? = some c->CC σ c (g i j)/\Ew (g i j)=true)/\∀(i j:Nat),i<(Jf s).length->j<1->Ci[i*1+j]? = some (g i j):=by
 have f:=Au4 s;refine⟨Lib.strCells s,λi _=>.int .u8 ((s.data.toList.getD i 0).toNat),⟨λd=>?_,λd=>?_,?_⟩,?_,?_,?_⟩
 .rw[f];simp[Builtin.lenOf]
 .rw[f];exact Lib.run_firstCells_string _ 1 s
 .rw[f,Lib.strCells_length];omega
 .intro i x u;simp only[Jf,getElem?_map,Option.map_eq_some_iff]at u;obtain⟨b,_,rfl⟩:=u;rfl
 .intro σ i x j c u A;simp only[Jf,getElem?_map,Option.map_eq_some_iff]at u;obtain⟨b,C,rfl⟩:=u;simp only[AV.cells]at A;cases j with
  | zero=>simp at A;subst A;have e:s.data.toList.getD i 0=b:=(by rw[getD_eq_getElem?_getD,C];rfl);dsimp only;rw[e];exact⟨.val _,rfl⟩
  | succ j=>simp at A
 .intro i j hi B;have B:j=0:=ω;subst B;have hi:i<s.data.toList.length:=(by unfold Jf at hi;rwa [length_map]at hi);have e:s.data.toList.getD i 0=s.data.toList[i]:=(by rw[getD_eq_getElem?_getD,getElem?_eq_getElem hi];rfl);dsimp only;rw[e];unfold Lib.strCells;rw[Nat.mul_one,Nat.add_zero,getElem?_map,getElem?_eq_getElem hi];rfl
theorem Au6 (R:C8 P T) {c B:TI} {k:Nat} {s:ByteArray} (L:o.op = .call {callee:=.builtin .append,args:=#[x,y],argTypes:=#[t,t']}) (ht:T t=some i) (hd:i.d = .slice e) (C:T t'=some B) (M:B.d = .string) (he:T e=some c) (Z:c.size=1) (D:c.zero.length=c.size) (N:1<=c.bytes) (hx:ρ x = .arr h k 0 k) (f:xs.length=k) (hy:ρ y = .val (.string s)) (hb:(xs.length+(Jf s).length)*c.bytes<=140737488355328) : Ca P o ρ ⟨.arr h (k+(Jf s).length) 0 (k+(Jf s).length),[(h,.rows e c.size xs)],[(h,.rows e c.size (xs++Jf s))]⟩:=by
 intro σ ι H F W w a next Q Y l J hk
 have U:H h = .rows e c.size xs:=J (h,.rows e c.size xs) ψ;have j:=l x (by simp[L,Op.operands,Call.operands]);have E:=Dz hy (l y (by simp[L,Op.operands,Call.operands]));rw[hx]at j;have S:=j.arr_inv U f;rw[<-f]at S;obtain⟨u1,I,e1⟩:=Kb (R t i ht) hd;obtain⟨_,u2,_,_,G,_,_,_,_,V⟩:=Er (R t' B C);rw[M]at V;subst e1;subst V;obtain⟨Ci,g,K,h1,h2,h3⟩:=Au5 (P:=P) (w:=w) s;rw[<-Z]at K h1 h3;obtain⟨X,z,w',hr,le,s',b⟩:=Z2 (P:=P) (ty:=o.type) Y I G (.inr rfl) (R e c he) ω D U S N hb K h1 (h2 σ) h3 (Z3 ω K.size rfl h1 (h2 σ) h3);refine Fj (Tu L rfl (by rw[E];exact hr)) (hk σ X z w' le s' ?_);have q:Ew z=true:=by
  unfold Gz at b;split at b
  .rw[b.1];rfl
  .rw[b.2];rfl
  .exact b.elim
 refine .arr _ _ _ _ z (by show A4 H h _ h≠_;rw[Cd];intro e;cases e) (λE' A u e'=>?_) q;have e':A4 H h _ h = .rows E' A u:=e';rw[Cd]at e';cases e';refine⟨by rw[length_append];omega,λ_=>?_⟩;rw[f]at b;exact b
theorem Au7 (S:C8 P T) {c:TI} (h:Nat) (M:o.op = .call {callee:=.builtin .append,args:=#[x,y],argTypes:=#[t,t']}) (ht:T t=some i) (hd:i.d = .slice e) (C:T t'=some D) (N:D.d = .slice e') (Y:T e=some c) (l:0<c.size) (E:c.zero.length=c.size) (R:1<=c.bytes) (hx:ρ x = .val (.slice none 0 0)) (hy:ρ y = .sl c.size ys) (hb:ys.length*c.bytes<=140737488355328) : Ca P o ρ ⟨.arr h ys.length 0 ys.length,[(h,.none)],[(h,.rows e c.size ys)]⟩:=by
 intro σ ι H F W w a next Q s j J hk
 have X:H h = .none:=J (h,.none) ψ;have L:=Dz hx (j x (by simp[M,Op.operands,Call.operands]));have f:=j y (by simp[M,Op.operands,Call.operands]);rw[hy]at f;obtain⟨u1,I,e1⟩:=Kb (S t i ht) hd;obtain⟨u2,G,Z⟩:=Kb (S t' D C) N;subst e1;subst Z;obtain⟨K,B⟩:=s.newNil h X e c.size l;obtain⟨Ci,g,hs,h1,h2,h3⟩:=Z1 (P:=P) K l f.sl_inv;obtain⟨U,z,w',V,le,s',b⟩:=Z2 (P:=P) (ty:=o.type) (v:=.slice none 0 0) (xs:=[]) K I G (.inl ⟨_,rfl⟩) (S e c Y) l E (Cd _ _ _) (by rw[Cd];exact⟨rfl,rfl,rfl⟩) R (by simpa using hb) hs h1 h2 h3 (Z3 l hs.size rfl h1 h2 h3);have hH:A4 (A4 H h (.rows e c.size [])) h (.rows e c.size ([]++ys))=A4 H h (.rows e c.size ys):=by
  funext m;by_cases q:m=h
  .subst q;rw[Cd,Cd];rfl
  .rw[Cy _ _ q,Cy _ _ q,Cy _ _ q]
 rw[hH]at le s';simp only[length_nil,Nat.zero_add]at b;refine Fj (Tu M rfl (by rw[L];exact V)) (hk σ U z w' (B.trans le) s' ?_);have k:Ew z=true:=by
  unfold Gz at b;split at b
  .rw[b.1];rfl
  .rw[b.2];rfl
  .exact b.elim
 refine .arr _ _ _ _ z (by show A4 H h _ h≠_;rw[Cd];intro e;cases e) (λE' A u e'=>?_) k;have e':A4 H h _ h = .rows E' A u:=e';rw[Cd]at e';cases e';exact⟨Nat.le_refl _,λ_=>b⟩
theorem St.freeze {ι:Bx} {H:Hp} {F:Ax} {W:World} (s:St σ ι H F W w) {E:TypeId} (L:H h = .rows E sz xs) : ∃u,Le σ ι H u ι (A4 H h .dead)/\St u ι (A4 H h .dead) F W w /\ ∀off len v,off+len<=xs.length->Gz (ι h) sz off len v->CC u (.sl sz ((xs.drop off).take len)) v:=by
 have k:=s.obj h;unfold Cv at k;rw[L]at k;obtain⟨hz,hm,k⟩:=k;have f:∀u,σ.le u->Le σ ι H u ι (A4 H h .dead):=by intro u hs;have:=Le.upd (ι:=ι) (H:=H) hs h (ι h) .dead ⟨λ_ e=>e,(λ_ e=>by cases e),(λ_ E1 N M e=>by cases e)⟩;rwa [Iq]at this
 rcases k with⟨D,Z⟩|⟨b,G,C,D,X,V,U,p4,p5,g,S,I,R⟩
 .subst Z;refine⟨σ,f σ (Ax.le_refl _),?_,?_⟩
  .obtain⟨f1,f2⟩:=s.fresh;exact s.touch h w.heap.size (λ_ _=>rfl) (λx e=>Cy _ _ e) (f σ (Ax.le_refl _)) (λ_ _=>rfl) (λ_ _=>rfl) (λo A=>by rw[f1]at A;cases A) (λx e i hb=>by have:=(s.block i hb).1;omega) f2 (λb i hb=>by rw[Cd]at i;cases i) (by unfold Cv;rw[Cd];trivial) rfl rfl rfl
  .intro off len v q z;rw[D]at z;obtain⟨rfl,rfl,rfl⟩:=z;simp only[drop_nil,take_nil];exact .nil sz none 0
 .have q:σ.le (A4 σ b (some (.cells C E))):=(by intro b' o' K;rw[Cy _ _ (by intro e;subst e;rw[X]at K;cases K)];exact K);refine⟨A4 σ b (some (.cells C E)),f _ q,?_,?_⟩
  .refine s.touch h b (λ_ _=>rfl) (λx e=>Cy _ _ e) (f _ q) (λ_ _=>rfl) (λx e=>Cy _ _ e) (λo A=>by rw[Cd]at A;cases A;exact U)
    (λx e i hb=>e (s.inj x h b i (by rw[L];rfl) hb (by rw[D];rfl))) V (λb' i hb=>by rw[Cd]at i;cases i) (by unfold Cv;rw[Cd];trivial) rfl rfl rfl
  .intro off len v J z;rw[D]at z;obtain⟨_,rfl⟩:=z;have i:((xs.drop off).take len).length=len:=ζ;have l:∀(n:Nat) (y:AV),((xs.drop off).take len)[n]? = some y->n<len/\xs[off+n]? = some y:=(by intro n y hy;have B:n<len:=(by have:=(F8.1 hy).1;omega);rw[He B,getElem?_drop]at hy;exact⟨B,hy⟩);have:=CC.sl (σ:=A4 σ b (some (.cells C E))) ((xs.drop off).take len) b (off*sz) (G-off) sz C E (0,0) (λn j=>g (off+n) j) (Cd _ _ _)
    (λn y hy=>S _ y (l n y hy).2) (λn y j c hy hj=>((I _ y j c (l n y hy).2 hj).1).mono q) (λn y j c hy hj=>(I _ y j c (l n y hy).2 hj).2) (λn j Y hj=>by rw[i]at Y;have:=R (off+n) j ω hj;rw[Eg]at this;exact this) (by rw[i];omega) (by rw[i];omega);rw[i]at this;exact this
theorem Au8 (A:C8 P T) {b:TI} (h:Nat) (q:o.op = .assign x) (C:ρ x = .val (.slice none 0 0)) (G:T o.type=some i) (_hd:i.d = .slice e) (z:T e=some b) (u:0<b.size) : Ca P o ρ ⟨.arr h 0 0 0,[(h,.none)],[(h,.rows e b.size [])]⟩:=by
 intro σ ι H F W w a next Q s l j I
 have _:=A;have _:=G;have _:=z
 have y:H h = .none:=j (h,.none) ψ;have k:=Dz C (l x (by simp[q,Op.operands]));obtain⟨J,g⟩:=s.newNil h y e b.size u;refine Fj (v:=.slice none 0 0) (by simp[execOp,q,k]) (I σ _ _ w g J ?_);refine .arr _ _ _ _ _ (by show A4 H h _ h≠_;rw[Cd];intro e;cases e) (λB f c e'=>?_) rfl;have e':A4 H h _ h = .rows B f c:=e';rw[Cd]at e';cases e';exact⟨ψ,λ_=>by rw[Cd];exact⟨rfl,rfl,rfl⟩⟩
theorem Au9 {f:IntKind} (c:o.op = .call {callee:=.builtin .max,args:=#[x,y],argTypes:=#[t,t']}) (u:ρ x = .val (.int k m)) (A:ρ y = .val (.int f n)) : Ca P o ρ ⟨.val (.int k (if n>m then n else m)),[],[]⟩ := Ep λσ ι H a w b=>by have B:=Dz u (b x (by simp[c,Op.operands,Call.operands]));have C:=Dz A (b y (by simp[c,Op.operands,Call.operands]));exact⟨_,by simp[execOp,c,resolve,invoke,builtin,Builtin.max_,Builtin.max2,B,C],.of_val _⟩
theorem Ava {f:IntKind} (c:o.op = .call {callee:=.builtin .min,args:=#[x,y],argTypes:=#[t,t']}) (u:ρ x = .val (.int k m)) (A:ρ y = .val (.int f n)) : Ca P o ρ ⟨.val (.int k (if n<m then n else m)),[],[]⟩ := Ep λσ ι H a w b=>by have B:=Dz u (b x (by simp[c,Op.operands,Call.operands]));have C:=Dz A (b y (by simp[c,Op.operands,Call.operands]));exact⟨_,by simp[execOp,c,resolve,invoke,builtin,Builtin.min_,Builtin.min2,B,C],.of_val _⟩
end
section
variable {P:Program} {o:Oper} {ρ:Operand->AV} {a:Act} {w w':World} {next:Act->World->Prop} {Q:Exit->Act->World->Prop}
variable {F σ:Ax} {ι:Bx} {T:C6} {H:Hp} {xs ys:List AV} {b d h j k off sz:Nat} {g:Nat->Nat->Value} {x y:Operand} {i l:TI} {α:Type} {E e e' t t' ty:TypeId} {v:Value} {W:World}
def F9 (xs:List α) (d:Nat) (ys:List α):List α:=xs.take d++ys++xs.drop (d+ys.length)
theorem Akg {xs ys:List α} (B:d<=xs.length) (i:Nat):(F9 xs d ys)[i]? = if i<d then xs[i]? else if i<d+ys.length then ys[i-d]? else xs[i]?:=by
 unfold F9;have b:(xs.take d).length=d:=by rw[length_take];omega
 rw[append_assoc];by_cases u:i<d
 .rw[if_pos u,getElem?_append_left ω,He u]
 .rw[if_neg u,getElem?_append_right ω,b];by_cases A:i<d+ys.length
  .rw[if_pos A,getElem?_append_left ω]
  .rw[if_neg A,getElem?_append_right ω,getElem?_drop];congr 1;omega
theorem Z4 {xs ys:List α} (u:d<=xs.length):(F9 xs d ys).length=max xs.length (d+ys.length):=by unfold F9;simp only[length_append,length_take,length_drop];omega
structure Q6 (σ:Ax) (sz:Nat) (ys:List AV) (Ci:List Value) (g:Nat->Nat->Value):Prop where
 len:Ci.length=ys.length*sz
 el:∀(i:Nat) (x:AV),ys[i]? = some x->x.cells.length=sz
 cc:∀(i:Nat) (x:AV) (j:Nat) (c:AV),ys[i]? = some x->x.cells[j]? = some c->CC σ c (g i j)/\Ew (g i j)=true
 at_:∀(i j:Nat),i<ys.length->j<sz->Ci[i*sz+j]? = some (g i j)
theorem Ic.patch {C l:Array Value} {Ci:List Value} {z:Nat->Nat->Value} (hx:Ic σ sz xs C) (hd:d<=xs.length) (f:Q6 σ sz ys Ci z) (b:∀q:Nat,q<d*sz\/(d+ys.length)*sz<=q->l[q]? = C[q]?) (k:∀q,q<ys.length*sz->l[d*sz+q]? = Ci[q]?):Ic σ sz (F9 xs d ys) l:=by
 obtain⟨g,y,u,s⟩:=hx
 refine⟨λi j=>if i<d then g i j else if i<d+ys.length then z (i-d) j else g i j,?_,?_,?_⟩
 .intro i x hi
  rw[Akg hd]at hi
  split at hi
  .exact y i x hi
  .split at hi
   .exact f.el _ x hi
   .exact y i x hi
 .intro i x j c hi A
  rw[Akg hd]at hi
  dsimp only
  split at hi
  .rename_i h;rw[if_pos h];exact u i x j c hi A
  .rename_i h
   rw[if_neg h]
   split at hi
   .rename_i h2;rw[if_pos h2];exact f.cc _ x j c hi A
   .rename_i h2;rw[if_neg h2];exact u i x j c hi A
 .intro i j hi A
  rw[Z4 hd]at hi
  dsimp only
  by_cases h:i<d
  .rw[if_pos h]
   have:(i+1)*sz<=d*sz:=Nat.mul_le_mul_right _ ω
   rw[Eg]at this
   rw[b _ (.inl ω)];exact s i j ω A
  .rw[if_neg h]
   by_cases h2:i<d+ys.length
   .rw[if_pos h2]
    have e:i*sz+j=d*sz+((i-d)*sz+j):=by
     have:i=d+(i-d):=ω
     conv=>lhs;rw[this,Eg]
     omega
    have:(i-d+1)*sz<=ys.length*sz:=Nat.mul_le_mul_right _ ω
    rw[Eg]at this
    rw[e,k _ ω]
    exact f.at_ _ j ω A
   .rw[if_neg h2]
    have:(d+ys.length)*sz<=i*sz:=Nat.mul_le_mul_right _ ω
    rw[b _ (.inr ω)];exact s i j ω A
theorem Q6.one (b:0<sz) {Ci:List Value} (h:Q6 σ sz ys Ci g):∀u∈Ci,Ew u=true:=Z3 b h.len rfl h.el h.cc h.at_
theorem Ae8 (s:St σ ι H F W w) (z:H h = .rows e sz xs) {c:Nat} (hb:ι h = .blk b c) (N:d<=xs.length) (x:d+ys.length<=c) (J:d+ys.length<=140737488355328) (G:0<sz) {Ci:List Value} (l:Q6 σ sz ys Ci g) : ∃w',(storeCells (⟨b,d*sz,none⟩:Addr) Ci).run P w = .ok () w'/\Le σ ι H σ ι (A4 H h (.rows e sz (F9 xs d ys)))/\St σ ι (A4 H h (.rows e sz (F9 xs d ys))) F W w':=by
 obtain⟨C,E,D,I,B⟩:=s.rowsAt z hb;have A:xs.length<=140737488355328:=by have:=s.obj h;unfold Cv at this;rw[z]at this;exact this.2.1
 have j:d*sz+Ci.length<=C.size:=by rw[l.len,<-Eg,D];exact Nat.mul_le_mul_right _ x
 have k:=run_storeCells_at (P:=P) b (d*sz) e Ci 0 C w E (by simpa using j) (λu R=>by rw[Aev];exact l.one G u R);simp only[Nat.add_zero]at k;have f:Ic σ sz (F9 xs d ys) (C.toList.take (d*sz)++Ci++C.toList.drop (d*sz+Ci.length)).toArray:=by
  refine Ic.patch B N l ?_ ?_
  .intro q K;rw[Tt _ _ _ j];rcases K with K|K
   .rw[if_pos K]
   .rw[Eg]at K;rw[if_neg ω,if_neg (by rw[l.len];omega)]
  .intro q K;rw[Tt _ _ _ j,if_neg ω,if_pos (by rw[l.len];omega),Nat.add_sub_cancel_left]
 have y:(C.toList.take (d*sz)++Ci++C.toList.drop (d*sz+Ci.length)).toArray.size=c*sz:=by simp;omega
 have i:=Z4 (ys:=ys) N;by_cases L:d+ys.length<=xs.length
 .obtain⟨M,le⟩:=s.setRows h e sz xs (F9 xs d ys) z b c hb (by rw[i];omega) _ y f;exact⟨_,k,le,M⟩
 .obtain⟨M,le⟩:=s.growIn h e sz xs (F9 xs d ys) z b c hb (by rw[i];omega) (by rw[i];omega) (by rw[i];omega) _ y f;exact⟨_,k,le,M⟩
theorem Akh (s:St σ ι H F W w) (J:H h = .rows e sz xs) {len:Nat} (q:Gz (ι h) sz off len v) (N:off+len<=xs.length) (n:Nat) (M:n<=len) : ∃(Ci:List Value) (g:Nat->Nat->Value),(∃p c,v = .slice p len c)/\(∀d,(Builtin.firstCells sz n v).run P {w with drawn:=d} = .ok Ci.toArray {w with drawn:=d})/\Q6 σ sz ((xs.drop off).take n) Ci g:=by
 have l:((xs.drop off).take n).length=n:=by simp;omega
 unfold Gz at q;split at q
 .obtain⟨rfl,rfl,rfl⟩:=q;obtain rfl:n=0:=ω;refine⟨[],λ_ _=>undef,⟨none,0,rfl⟩,λd=>by simp[Builtin.firstCells],⟨ψ,(λi x h=>by simp at h),(λi x j c h=>by simp at h),(λi j h=>by simp at h)⟩⟩
 .rename_i b z V;obtain⟨I,rfl⟩:=q;obtain⟨C,G,E,L,g,D,B,A⟩:=s.rowsAt J V;have k:((C.toList.drop (off*sz)).take (n*sz)).length=n*sz:=(by have S:(off+n)*sz<=z*sz:=Nat.mul_le_mul_right _ ω;rw[Eg]at S;rw[length_take,length_drop,Array.length_toList,E];omega);have y:∀(i:Nat) (x:AV),((xs.drop off).take n)[i]? = some x->i<n/\xs[off+i]? = some x:=(by intro i x K;have f:i<n:=(by have:=(F8.1 K).1;omega);rw[He f,getElem?_drop]at K;exact⟨f,K⟩);refine⟨(C.toList.drop (off*sz)).take (n*sz),λi j=>g (off+i) j,⟨_,_,rfl⟩,λd=>?_,⟨by rw[k,l],?_,?_,?_⟩⟩
  .have U:({w with drawn:=d}:World).heap[b]? = some (.cells C e (0,0)):=G;have:=run_loadCells_list (P:=P) {w with drawn:=d} ⟨b,off*sz,none⟩ ((C.toList.drop (off*sz)).take (n*sz)) (by intro j u R;have f:j<n*sz:=(by have:=(F8.1 R).1;omega);rw[He f,getElem?_drop,Gi]at R;rw[Kq,J9 U];exact R);rw[k]at this;simp only[Builtin.firstCells];exact this
  .intro i x K;exact D _ x (y i x K).2
  .intro i x j c K R;exact B _ x j c (y i x K).2 R
  .intro i j hi R;rw[l]at hi;have S:(i+1)*sz<=n*sz:=Nat.mul_le_mul_right _ ω;rw[Eg]at S;rw[He ω,getElem?_drop,Gi];have:=A (off+i) j ω R;rw[Eg]at this;rw[<-this];congr 1;omega
 .exact q.elim
theorem Aki (s:St σ ι H F W w) {u':TypeDesc} (ht:P.underlying t=some (.slice e)) (a0:P.underlying t'=some u') (L:(∃e',u' = .slice e')\/u' = .string) (he:Ie P e=some i) (Z:0<i.size) (S:i.zero.length=i.size) (hh:H h = .rows e i.size xs) {len:Nat} (hl:len<=xs.length) {E:Value} (hv:Gz (ι h) i.size 0 len v) (Y:1<=i.bytes) (hb:(xs.length+ys.length)*i.bytes<=140737488355328) {Ci:List Value} (hs:Lb P w E i.size ys.length Ci) (D:Q6 σ i.size ys Ci g) : ∃(ι':Bx) (v':Value) (w':World),(Builtin.append_ #[t,t'] ty #[v,E]).run P w = .ok v' w'/\Le σ ι H σ ι' (A4 H h (.rows e i.size (F9 xs len ys)))/\St σ ι' (A4 H h (.rows e i.size (F9 xs len ys))) F W w' /\ Gz (ι' h) i.size 0 (len+ys.length) v':=by
 obtain⟨N,u,z,k1,k2,k3,M,k5,k6,k7⟩:=Er he;have a8:xs.length+ys.length<=140737488355328:=by have:(xs.length+ys.length)*1<=(xs.length+ys.length)*i.bytes:=Nat.mul_le_mul_left _ Y;omega
 by_cases B:len=xs.length
 .subst B;have e0:F9 xs xs.length ys=xs++ys:=(by unfold F9;rw[take_length,drop_eq_nil_of_le ω,append_nil]);rw[e0];exact Z2 (P:=P) (ty:=ty) s ht a0 L he Z S hh hv Y hb hs D.el D.cc D.at_ (D.one Z)
 have l:=s.obj h;unfold Cv at l;rw[hh]at l;obtain⟨_,_,l⟩:=l;rcases l with⟨_,e2⟩|⟨b,f,C,e1,p1,p2,p3,p4,p5,p6⟩
 .subst e2;simp only[length_nil,Nat.le_zero]at hl;exact (B (by rw[hl];rfl)).elim
 rw[e1]at hv;obtain⟨aa,rfl⟩:=hv;by_cases I:len+ys.length<=f
 .obtain⟨w',a6,le,s'⟩:=Ae8 (P:=P) s hh e1 hl I ω Z D;have hr:=Ake (P:=P) (ty:=ty) (w:=w) ht a0 L k1 ⟨b,0,none⟩ len f ys.length E Ci (by rw[M];exact hs) I (by rw[Kq,Nat.zero_add,M];exact a6);refine⟨ι,_,_,by simpa using hr,le,s',?_⟩;rw[e1];exact⟨ω,ψ⟩
 .have A:(C.toList.take (len*i.size)).length=len*i.size:=(by have:C.toList.length=f*i.size:=(by rw[Array.length_toList,p4]);rw[length_take,this];exact Nat.min_eq_left (Nat.mul_le_mul_right _ ω));have U:Lb P w (.slice (some ⟨b,0*i.size,none⟩) len (f-0)) N.size len (C.toList.take (len*i.size)):=(by refine⟨λd=>by simp[Builtin.lenOf],λd=>?_,by rw[M];exact A⟩;have a3:({w with drawn:=d}:World).heap[b]? = some (.cells C e (0,0)):=p3;have:=run_loadCells_list (P:=P) {w with drawn:=d} ⟨b,0,none⟩ (C.toList.take (len*i.size)) (by intro j u K;have y:j<len*i.size:=(by have:=(F8.1 K).1;omega);rw[He y,Gi]at K;rw[Kq,Nat.zero_add,J9 a3];exact K);rw[A]at this;simp only[Builtin.firstCells,Nat.zero_mul,M];exact this);have hr:=Ae7 (P:=P) (ty:=ty) (w:=w) ht a0 L k1 k3 (some ⟨b,0*i.size,none⟩) len (f-0) ys.length E _ Ci (by rw[M];exact hs) U ω ω (by rw[k5];exact Nat.le_trans (Nat.mul_le_mul_right _ ω) hb);have a2:=Z0 w (len+ys.length) (f-0) e;have a1:z.cells.size=i.size:=(by rw[<-S,k6];simp);have J:∀n,(Builtin.zeroCells z.cells n).size=n*i.size:=(by intro n;simp[Builtin.zeroCells,a1]);have V:(C.toList.take (len*i.size)++Ci).length=(len+ys.length)*i.size:=(by rw[length_append,A,D.len,Eg]);have e0:F9 xs len ys=xs.take len++ys:=(by unfold F9;rw[drop_eq_nil_of_le ω,append_nil]);have G:(xs.take len).length=len:=(by rw[length_take];omega);have a7:Ic σ i.size (xs.take len) C:=(by obtain⟨g,r1,r2,r3⟩:=p6;have X:∀(q:Nat) (x:AV),(xs.take len)[q]? = some x->q<len/\xs[q]? = some x:=(by intro q x hx;have y:q<len:=(by have:=(F8.1 hx).1;omega);rw[He y]at hx;exact⟨y,hx⟩);exact⟨g,λq x hx=>r1 q x (X q x hx).2,λq x j c hx K=>r2 q x j c (X q x hx).2 K,λq j hq K=>r3 q j ω K⟩);obtain⟨s',le⟩:=(s.drew (w.drawn+1)).newRows h e i.size (xs.take len++ys) (grownCap w (len+ys.length) (f-0) e) ((C.toList.take (len*i.size)++Ci).toArray++Builtin.zeroCells z.cells (grownCap w (len+ys.length) (f-0) e-(len+ys.length))) (.inr ⟨e,i.size,xs,hh,ζ⟩) Z (by rw[length_append,G];omega) (by rw[length_append,G];exact a2) (by rw[Array.size_append,J,size_toArray,V,<-Eg,Nat.add_sub_cancel' a2]) (by
    refine Ic.append a7 g D.el D.cc ?_ ?_
    .intro k hk;rw[G]at hk;rw[Array.getElem?_append_left (by rw[size_toArray,V,Eg];omega),getElem?_toArray,getElem?_append_left ω,He hk,Gi]
    .intro R j hi K;rw[G];have y:R*i.size+j<Ci.length:=(by have:(R+1)*i.size<=ys.length*i.size:=Nat.mul_le_mul_right _ ω;rw[Eg]at this;rw[D.len];omega);have e2:(len+R)*i.size+j=len*i.size+(R*i.size+j):=(by rw[Eg];omega);rw[Array.getElem?_append_left (by rw[size_toArray,length_append,A];omega),getElem?_toArray,e2,getElem?_append_right ω,A,Nat.add_sub_cancel_left];exact D.at_ R j hi K);rw[e0];refine⟨_,_,_,hr,le,s',?_⟩;rw[Cd];exact⟨ω,by rw[Nat.zero_mul];rfl⟩
theorem Akj {len:Nat} (i:len<=xs.length) (b:Gz (ι h) sz 0 len v):Conc σ ι (A4 H h (.rows e sz xs)) (.arr h xs.length 0 len) v:=by
 have c:Ew v=true:=by
  unfold Gz at b;split at b
  .rw[b.1];rfl
  .rw[b.2];rfl
  .exact b.elim
 refine .arr _ _ _ _ v (by rw[Cd];intro e;cases e) (λj g f e'=>?_) c;rw[Cd]at e';cases e';exact⟨Nat.le_refl _,λ_=>b⟩
theorem Avb (J:C8 P T) {b:TI} {len:Nat} (D:o.op = .call {callee:=.builtin .append,args:=#[x,y],argTypes:=#[t,t']}) (ht:T t=some i) (hd:i.d = .slice e) (C:T t'=some l) (G:l.d = .slice e') (V:T e=some b) (L:0<b.size) (q:b.zero.length=b.size) (I:1<=b.bytes) (hx:ρ x = .arr h k 0 len) (E:xs.length=k) (hl:len<=k) (hy:ρ y = .sl b.size ys) (hb:(xs.length+ys.length)*b.bytes<=140737488355328) : Ca P o ρ ⟨.arr h (F9 xs len ys).length 0 (len+ys.length),[(h,.rows e b.size xs)],[(h,.rows e b.size (F9 xs len ys))]⟩:=by
 intro σ ι H F W w a next Q s j B hk
 have M:H h = .rows e b.size xs:=B (h,.rows e b.size xs) ψ;have f:=j x (by simp[D,Op.operands,Call.operands]);have c:=j y (by simp[D,Op.operands,Call.operands]);rw[hx]at f;rw[hy]at c;have S:=f.arr_inv M E;obtain⟨u1,A,Y⟩:=Kb (J t i ht) hd;obtain⟨Z,z,X⟩:=Kb (J t' l C) G;subst Y;subst X;obtain⟨Ci,g,K,h1,h2,h3⟩:=Z1 (P:=P) s L c.sl_inv;obtain⟨N,R,w',U,le,s',u⟩:=Aki (P:=P) (ty:=o.type) s A z (.inl ⟨_,rfl⟩) (J e b V) L q M ω S I hb K ⟨K.size,h1,h2,h3⟩;exact Fj (Tu D rfl U) (hk σ N R w' le s' (Akj (by rw[Z4 ω];omega) u))
theorem Avc {i:TypeInfo} {k:TypeDesc} (C:P.underlying t=some (.slice e)) (u:P.underlying t'=some k) (h:(∃e',k = .slice e')\/k = .string) (hi:P.info? e=some i) (p:Option Addr) (c f:Nat) (g:Value) (G:Lb P w g i.size 0 []) (j:c<=f) : (Builtin.append_ #[t,t'] ty #[.slice p c f,g]).run P w = .ok (.slice p c f) w:=by
 have A:=G.len w.drawn;have B:=G.cells w.drawn;have q:({w with drawn:=w.drawn}:World)=w:=rfl;rw[q]at A B;cases p with
 | none=>rcases h with⟨e',rfl⟩|rfl <;> simp[Builtin.append_,run_underlying C,run_underlying u,sizeOf,typeInfo,hi,A,j,B]
 | some b=>have l:(storeCells (b.add (c*i.size)) []).run P w = .ok () w:=(by rw[storeCells];rfl);rcases h with⟨e',rfl⟩|rfl <;> simp[Builtin.append_,run_underlying C,run_underlying u,sizeOf,typeInfo,hi,A,j,B,l]
theorem Avd (A:Ca P o ρ ⟨.arr h k 0 k,[(h,.rows E sz xs)],[(h,.rows E sz ys)]⟩) (B:ys.length=k):Ca P o ρ ⟨.sl sz ys,[(h,.rows E sz xs)],[(h,.dead)]⟩:=by
 intro σ ι H F W w a next Q s f c y
 refine A σ ι H F W w a next Q s f c ?_
 intro z u v w' le x C;have j:Cq H [(h,Bf.rows E sz ys)] h = .rows E sz ys:=Cd _ _ _;obtain⟨l,b,i,g⟩:=x.freeze j;have G:A4 (Cq H [(h,Bf.rows E sz ys)]) h .dead=Cq H [(h,.dead)]:=by
  funext q;by_cases e:q=h
  .subst e;rw[Cd];exact (Cd _ _ _).symm
  .rw[Cy _ _ e];show A4 H h _ q=A4 H h _ q;rw[Cy _ _ e,Cy _ _ e]
 rw[G]at b i;refine y l u v w' (le.trans b) i ?_;have:=g 0 k v ω (C.arr_inv j B);rw[drop_zero,take_of_length_le ω]at this;exact .cc this
theorem Ave (M:C8 P T) {A:TI} (G:o.op = .call {callee:=.builtin .append,args:=#[x,y],argTypes:=#[t,t']}) (ht:T t=some i) (hd:i.d = .slice e) (a0:T t'=some A) (L:A.d = .slice e') (he:T e=some l) (Y:0<l.size) (hx:ρ x = .sl sz xs) (hy:ρ y = .sl l.size []) : Ca P o ρ ⟨.sl sz xs,[],[]⟩:=by
 intro σ ι H F W w a next Q s j Z hk
 have c:=j x (by simp[G,Op.operands,Call.operands]);have h:=j y (by simp[G,Op.operands,Call.operands]);rw[hx]at c;rw[hy]at h;obtain⟨u1,D,e1⟩:=Kb (M t i ht) hd;obtain⟨u2,B,e2⟩:=Kb (M t' A a0) L;subst e1;subst e2;obtain⟨Ci,g,hs,_,_,_⟩:=Z1 (P:=P) s Y h.sl_inv;have I:Ci = []:=by have:=hs.size;simp at this;exact this
 subst I;obtain⟨p,n,K,f,J⟩:∃p n K,a.eval x = .slice p n K/\n<=K:=by
  rcases c.sl_inv.sl_inv with⟨rfl,p,K,f⟩|⟨b,off,K,C,E,fr,g,f,hσ,hs,a1,hC,hl,k⟩
  .exact⟨_,_,_,f,Nat.zero_le _⟩
  .exact⟨_,_,_,f,k⟩
 obtain⟨z,u',z',u,X,V,q,U,S,R⟩:=Er (M e l he);have N:=Avc (P:=P) (w:=w) (ty:=o.type) D B (.inl ⟨_,rfl⟩) u p n K (a.eval y) (by rw[q];exact hs) J;rw[<-f]at N;exact Fj (Tu G rfl N) (hk σ ι _ w (Le.refl _ _ _) s c)
theorem Avf (X:C8 P T) {j D:TI} {len Y f:Nat} (N:o.op = .call {callee:=.builtin .append,args:=#[x,y],argTypes:=#[t,t']}) (K:T t=some i) (hd:i.d = .slice e) (C:T t'=some D) (U:D.d = .slice e') (he:T e=some j) (hz:0<j.size) (E:j.zero.length=j.size) (V:1<=j.bytes) (hx:ρ x = .arr h k 0 len) (S:xs.length=k) (hl:len<=k) (hy:ρ y = .arr h Y f b) (R:xs.length=Y) (a1:f+b<=k) (hb:(xs.length+b)*j.bytes<=140737488355328) : Ca P o ρ ⟨.arr h (F9 xs len ((xs.drop f).take b)).length 0 (len+b),[(h,.rows e j.size xs)],[(h,.rows e j.size (F9 xs len ((xs.drop f).take b)))]⟩:=by
 intro σ ι H F W w a next Q s A L hk
 have B:H h = .rows e j.size xs:=L (h,.rows e j.size xs) ψ;have z:=A x (by simp[N,Op.operands,Call.operands]);have u:=A y (by simp[N,Op.operands,Call.operands]);rw[hx]at z;rw[hy]at u;have hv:=z.arr_inv B S;have G:=u.arr_inv B R;obtain⟨u1,J,e1⟩:=Kb (X t i K) hd;obtain⟨u2,I,e2⟩:=Kb (X t' D C) U;subst e1;subst e2;have l:((xs.drop f).take b).length=b:=by simp;omega
 obtain⟨Ci,g,⟨p,c,M⟩,hf,Z⟩:=Akh (P:=P) s B G ω b (Nat.le_refl _);have hs:Lb P w (a.eval y) j.size ((xs.drop f).take b).length Ci:=by
  refine⟨λd=>?_,λd=>?_,Z.len⟩
  .rw[M,l];simp[Builtin.lenOf]
  .rw[l];exact hf d
 obtain⟨ι',v',w',hr,le,s',q⟩:=Aki (P:=P) (ty:=o.type) s J I (.inl ⟨_,rfl⟩) (X e j he) hz E B ω hv V (by rw[l];exact hb) hs Z;rw[l]at q;exact Fj (Tu N rfl hr) (hk σ ι' v' w' le s' (Akj (by rw[Z4 ω,l];omega) q))
theorem Ae9 (g:o.op = .call {callee:=.builtin .copy,args:=#[x,y],argTypes:=#[t,t']}) (b:o.type=ty) {c:Value} (f:(Builtin.copy_ #[t,t'] ty #[a.eval x,a.eval y]).run P w = .ok c w') : (execOp a.eval o).run P w = .ok (.value c) w':=by subst b;simp[execOp,g,resolve,invoke,builtin,f]
theorem Avg (Z:C8 P T) {len X f:Nat} (M:o.op = .call {callee:=.builtin .copy,args:=#[x,y],argTypes:=#[t,t']}) (ht:T t=some i) (hd:i.d = .slice e) (he:T e=some l) (hz:0<l.size) (hx:ρ x = .arr h k off len) (V:xs.length=k) (hl:off+len<=k) (hy:ρ y = .arr h X j f) (U:xs.length=X) (a7:j+f<=k) : Ca P o ρ ⟨.val (.int .i64 (min f len:Nat)),[(h,.rows e l.size xs)],[(h,.rows e l.size (F9 xs off ((xs.drop j).take (min f len))))]⟩:=by
 intro σ ι H F W w a next Q s I S K
 have z:H h = .rows e l.size xs:=S (h,.rows e l.size xs) ψ;have G:=I x (by simp[M,Op.operands,Call.operands]);have E:=I y (by simp[M,Op.operands,Call.operands]);rw[hx]at G;rw[hy]at E;have q:=G.arr_inv z V;have N:=E.arr_inv z U;obtain⟨u1,B,e1⟩:=Kb (Z t i ht) hd;subst e1;have D:=Mm (Z e l he);have A:((xs.drop j).take (min f len)).length=min f len:=by simp;omega
 obtain⟨Ci,g,⟨p,c,u⟩,C,hn⟩:=Akh (P:=P) s z N ω (min f len) ω;have C:=C w.drawn;have ew:({w with drawn:=w.drawn}:World)=w:=rfl;rw[ew,u]at C;have Y:xs.length<=140737488355328:=by have:=s.obj h;unfold Cv at this;rw[z]at this;exact this.2.1
 have J:Nat.min f len=min f len:=rfl;unfold Gz at q;split at q
 .obtain⟨q,rfl,rfl⟩:=q;have e0:F9 xs 0 ((xs.drop j).take (min f 0))=xs:=(by simp[F9]);refine Fj (v:=.int .i64 ((min f 0:Nat):Int)) (Ae9 M rfl ?_) (K σ ι _ w ?_ ?_ (.of_val _))
  .simp only[Builtin.copy_,q,u];simp[run_underlying B,Builtin.lenOf,D,C,goInt];have L:=C;simp at L;simp[L]
  .show Le σ ι H σ ι (A4 H h (.rows e l.size _));rw[e0,<-z,Iq];exact Le.refl _ _ _
  .show St σ ι (A4 H h (.rows e l.size _)) F W w;rw[e0,<-z,Iq];exact s
 .rename_i b a1 hb;obtain⟨a6,q⟩:=q;obtain⟨w',R,le,s'⟩:=Ae8 (P:=P) s z hb (d:=off) ω (by rw[A];omega) (by rw[A];omega) hz hn;refine Fj (v:=.int .i64 ((min f len:Nat):Int)) (Ae9 M rfl ?_) (K σ ι _ w' le s' (.of_val _));simp only[Builtin.copy_,q,u];simp[run_underlying B,Builtin.lenOf,D,C,R,goInt,J]
 .exact q.elim
theorem Avh (L:C8 P T) {f:TI} {J g:Nat} (G:o.op = .call {callee:=.builtin .copy,args:=#[x,y],argTypes:=#[t,t']}) (K:T t=some i) (V:i.d = .slice e) (R:T e=some f) (X:ρ x = .sl sz []) (hy:ρ y = .arr h J g j) (I:xs.length=J) : Ca P o ρ ⟨.val (.int .i64 0),[(h,.rows E f.size xs)],[]⟩:=by
 intro σ ι H F W w a next Q s A B hk
 have N:H h = .rows E f.size xs:=B (h,.rows E f.size xs) ψ;have z:=A x (by simp[G,Op.operands,Call.operands]);have u:=A y (by simp[G,Op.operands,Call.operands]);rw[X]at z;rw[hy]at u;have b:=u.arr_inv N I;obtain⟨_,q,a0,M⟩:=z.sl_inv.sl_len;obtain⟨U,k,S⟩:=Kb (L t i K) V;subst S;have l:=Mm (L e f R);obtain⟨p,c,m,D⟩:∃p c m,a.eval y = .slice p m c:=by
  unfold Gz at b;split at b
  .exact⟨_,_,_,b.1⟩
  .exact⟨_,_,_,b.2⟩
  .exact b.elim
 have C:(Builtin.firstCells f.size 0 (.slice p m c)).run P w = .ok #[] w:=by cases p with| none=>simp[Builtin.firstCells]| some a=>simp[Builtin.firstCells,loadCells,loadCellsFrom]
 refine Fj (v:=.int .i64 0) (Ae9 G rfl ?_) (hk σ ι _ w (Le.refl _ _ _) s (.of_val _));simp only[Builtin.copy_,M,D];cases q with| none=>simp[run_underlying k,Builtin.lenOf,l,C,goInt]| some a=>simp[run_underlying k,Builtin.lenOf,l,C,goInt,storeCells]
theorem Avi (S:C8 P T) {lo hi:Option Operand} {R:TI} {f len:Nat} {l:Nat} (B:o.op = .slice t x lo hi none) (ht:T t=some i) (hd:i.d = .slice e) (Z:T e=some R) (hx:ρ x = .arr f k off len) (I:xs.length=k) (D:Ig ρ 0 lo=some (l:Int)) (J:Ig ρ (len:Int) hi=some (l:Int)) (h2:l<=len) : Ca P o ρ ⟨.sl j [],[(f,.rows E sz xs)],[]⟩:=by
 intro σ ι H F W w a next Q s h A hk
 have Y:H f = .rows E sz xs:=A (f,.rows E sz xs) ψ;have hp:=h x (by simp[B,Op.operands]);rw[hx]at hp;have b:=hp.arr_inv Y I;obtain⟨N,u,z,k1,U,k3,k4,k5,k6,M⟩:=Er (S t i ht);rw[hd]at M;subst M;have hs:=Mm (S e R Z);have L:∀(C:Nat),len<=C->∀w,(Instr.sliceBounds true len C (lo.map a.eval) (hi.map a.eval) none).run P w = .ok (l,l,C) w :=
  λC g w=>Zw D J (λy hy=>h y (by rw[B];exact Zx hy)) (Nat.le_refl _) ω w
 have K:∀(p:Option Addr) (C:Nat),len<=C->a.eval x = .slice p len C->∃q c,(execOp a.eval o).run P w = .ok (.value (.slice q 0 c)) w:=by intro p C g b;have:=L C g w;simp only[execOp,B,b,Instr.sliceAt,Instr.slice,Sem.run_bind,run_underlying U,Result.andThen_ok,Option.map_none,this,hs w,Sem.run_pure,Nat.sub_self];exact⟨_,_,rfl⟩
 have:∃q c,(execOp a.eval o).run P w = .ok (.value (.slice q 0 c)) w:=by
  unfold Gz at b;split at b
  .obtain⟨b,_,G⟩:=b;exact K none 0 ω (by rw[G];exact b)
  .obtain⟨X,b⟩:=b;exact K _ _ ω b
  .exact b.elim
 obtain⟨q,c,V⟩:=this;exact Fj V (hk σ ι _ w (Le.refl _ _ _) s (.cc (.nil _ _ _)))
theorem Z5 (g:o.op = .call {callee:=.builtin .clear,args:=#[x],argTypes:=#[t]}) (b:o.type=ty) {c:Value} (f:(Builtin.clear_ #[t] ty #[a.eval x]).run P w = .ok c w') : (execOp a.eval o).run P w = .ok (.value c) w':=by subst b;simp[execOp,g,resolve,invoke,builtin,f]
theorem Avj (hT:C8 P T) {f:TI} {len:Nat} (M:o.op = .call {callee:=.builtin .clear,args:=#[x],argTypes:=#[t]}) (ht:T t=some i) (hd:i.d = .slice e) (he:T e=some f) (hz:0<f.size) (B:La f.size (Fq f)=true) (G:(Fq f).cells=f.zero.map .val) (hx:ρ x = .arr h k off len) (a8:xs.length=k) (hl:off+len<=k) : Ca P o ρ ⟨.tup [],[(h,.rows e f.size xs)],[(h,.rows e f.size (F9 xs off (replicate len (Fq f))))]⟩:=by
 intro σ ι H F W w a next Q s Y X hk
 have A:H h = .rows e f.size xs:=X (h,.rows e f.size xs) ψ;have I:=Y x (by simp[M,Op.operands,Call.operands]);rw[hx]at I;have g:=I.arr_inv A a8;obtain⟨u1,z,e1⟩:=Kb (hT t i ht) hd;subst e1;obtain⟨S,u',l,R,ag,N,af,ae,E,ad⟩:=Er (hT e f he);have U:(zeroValue e).run P w = .ok l w:=by simp[zeroValue,typeInfo,R,N]
 have u:l.cells.size=f.size:=by have:=congrArg length G;rw[(Nh B).1,length_map,E,Array.length_toList]at this;exact this.symm
 have ab:xs.length<=140737488355328:=by have:=s.obj h;unfold Cv at this;rw[A]at this;exact this.2.1
 have y:∀(σ:Ax) (ι:Bx) (H:Hp),Conc σ ι H (.tup []) (.tuple #[]):=λσ ι H=>.tup [] #[] rfl (λi c v h _=>by simp at h);unfold Gz at g;split at g
 .obtain⟨g,rfl,rfl⟩:=g;have L:F9 xs 0 (replicate 0 (Fq f))=xs:=(by simp[F9]);refine Fj (v:=.tuple #[]) (Z5 M rfl ?_) (hk σ ι _ w ?_ ?_ (y _ _ _))
  .simp only[Builtin.clear_,g];simp[run_underlying z]
  .show Le σ ι H σ ι (A4 H h (.rows e f.size _));rw[L,<-A,Iq];exact Le.refl _ _ _
  .show St σ ι (A4 H h (.rows e f.size _)) F W w;rw[L,<-A,Iq];exact s
 .rename_i b ac hb;obtain⟨ah,g⟩:=g;by_cases a7:len=0
  .subst a7;have L:F9 xs off (replicate 0 (Fq f))=xs:=(by simp[F9]);refine Fj (v:=.tuple #[]) (Z5 M rfl ?_) (hk σ ι _ w ?_ ?_ (y _ _ _))
   .simp only[Builtin.clear_,g];simp[run_underlying z]
   .show Le σ ι H σ ι (A4 H h (.rows e f.size _));rw[L,<-A,Iq];exact Le.refl _ _ _
   .show St σ ι (A4 H h (.rows e f.size _)) F W w;rw[L,<-A,Iq];exact s
  .have D:∀q,q<len*f.size->(Builtin.zeroCells l.cells len).toList[q]? = l.cells[q % f.size]?:=(by intro q C;have hm:q % f.size<l.cells.size:=(by rw[u];exact Nat.mod_lt _ hz);have Z:l.cells[q % f.size]! = l.cells[q % f.size]:=(by simp[hm]);simp[Builtin.zeroCells,C,u,Z,hm]);have hn:Q6 σ f.size (replicate len (Fq f)) (Builtin.zeroCells l.cells len).toList (λ_ j=>(l.cells[j]?).getD undef):=by
    refine⟨by simp[Builtin.zeroCells,u],?_,?_,?_⟩
    .intro j x' K;have:=E7 K;simp at this;rw[this.2];exact (Nh B).1
    .intro j x' q c' K C;have:=E7 K;simp at this;rw[this.2]at C;have aa:=(Nh B).2 c' (E7 C);rw[G,getElem?_map,E,Gi]at C;cases g:l.cells[q]? with| none=>rw[g]at C;simp at C| some v=>rw[g]at C;simp at C;subst C;exact⟨.val v,aa⟩
    .intro j q K C;have a0:j<len:=(by simpa using K);have a1:j*f.size+q<len*f.size:=(by have:(j+1)*f.size<=len*f.size:=Nat.mul_le_mul_right _ ω;rw[Eg]at this;omega);rw[D _ a1];have:(j*f.size+q) % f.size=q:=(by rw[Nat.mul_comm,Nat.mul_add_mod,Nat.mod_eq_of_lt C]);rw[this];have J:q<l.cells.size:=ω;simp[J]
   obtain⟨w',V,le,s'⟩:=Ae8 (P:=P) s A hb (d:=off) ω (by rw[length_replicate];omega) (by rw[length_replicate];omega) hz hn;refine Fj (v:=.tuple #[]) (Z5 M rfl ?_) (hk σ ι _ w' le s' (y _ _ _));have a6:∃m,len=m+1:=⟨len-1,ω⟩;obtain⟨m,rfl⟩:=a6;simp only[Builtin.clear_,g];simp[run_underlying z,U,V]
 .exact g.elim
theorem Avk (u:C8 P T) (j:o.op = .call {callee:=.builtin .clear,args:=#[x],argTypes:=#[t]}) (A:T t=some i) (B:i.d = .slice e) (C:ρ x = .sl sz []):Ca P o ρ ⟨.tup [],[],[]⟩:=by
 intro σ ι H F W w a next Q s g l G
 have b:=g x (by simp[j,Op.operands,Call.operands]);rw[C]at b;obtain⟨_,q,I,k⟩:=b.sl_inv.sl_len;obtain⟨z,f,y⟩:=Kb (u t i A) B;subst y;refine Fj (v:=.tuple #[]) (Z5 j rfl ?_) (G σ ι _ w (Le.refl _ _ _) s (.tup [] #[] rfl (λi c v h _=>by simp at h)));simp only[Builtin.clear_,k];cases q <;> simp[run_underlying f]
end
variable {F σ:Ax} {ι:Bx} {H:Hp} {W w:World}
theorem St.newMap (s:St σ ι H F W w) (h:Nat) (j:H h = .none) : St σ (A4 ι h (.box w.heap.size)) (A4 H h (.map [])) F W (w.alloc (.map #[] 0))/\Le σ ι H σ (A4 ι h (.box w.heap.size)) (A4 H h (.map [])):=by
 have g:ι h = .none:=by have:=s.obj h;unfold Cv at this;rw[j]at this;exact this
 have le:Le σ ι H σ (A4 ι h (.box w.heap.size)) (A4 H h (.map [])):=Le.upd (Ax.le_refl σ) h _ _ (by rw[g,j];exact HLe.of_none);obtain⟨c,f⟩:=s.fresh;refine⟨s.touch h w.heap.size (λx e=>Cy _ _ e) (λx e=>Cy _ _ e) le ?_ (λ_ _=>rfl) (λo i=>by rw[c]at i;cases i) ?_ f ?_ ?_ rfl rfl rfl,le⟩
 .intro b hb;show (w.heap.push _)[b]? = _;rw[Array.getElem?_push,if_neg hb]
 .intro x e k hb;have:=(s.block k hb).1;omega
 .intro b _ hb;rw[Cd]at hb;simp[Loc.block?]at hb;exact .inl hb.symm
 .unfold Cv;rw[Cd];refine⟨w.heap.size,#[],0,Cd _ _ _,c,f,?_,rfl,ψ⟩;show (w.heap.push _)[w.heap.size]? = _;simp
theorem St.setMap (s:St σ ι H F W w) (h:Nat) (es c:List (AV×AV)) (g:H h = .map es) (b:Nat) (hb:ι h = .box b) (i:Array MapEntry) (t':Nat) (y:To σ c i) : St σ ι (A4 H h (.map c)) F W {w with heap:=w.heap.setIfInBounds b (.map i t')}/\Le σ ι H σ ι (A4 H h (.map c)):=by
 have j:=s.obj h;unfold Cv at j;rw[g]at j;obtain⟨B,M,t,q,h1,h2,h3,z⟩:=j;rw[hb]at q;cases q;have le:Le σ ι H σ ι (A4 H h (.map c)):=by have:=Le.upd (ι:=ι) (H:=H) (Ax.le_refl σ) h (ι h) (.map c) (by rw[g];exact⟨λ_ e=>e,(λ_ e=>by cases e),(λ_ _ _ _ e=>by cases e)⟩);rwa [Iq]at this
 have f:=Go.MapKept.heap_set (w:=w) (o':=.map i t') h3;refine⟨s.touch h b (λ_ _=>rfl) (λx e=>Cy _ _ e) le (λx e=>f.2 x e) (λ_ _=>rfl) (λo e=>by rw[h1]at e;cases e) ?_ h2 ?_ ?_ rfl rfl rfl,le⟩
 .intro x e u k;exact e (s.inj x h b u (by rw[g];rfl) k (by rw[hb];rfl))
 .intro A _ l;exact .inr ⟨by rw[g];rfl,l⟩
 .unfold Cv;rw[Cd];exact⟨b,i,t',hb,h1,h2,f.1,y⟩
def Jg (s:ByteArray):List (AV×AV)->Nat->Option (Option (Nat×AV))
 | [],_=>some none
 | p::es,i=> match p.1 with
  | .val (.string t)=>bif s==t then some (some (i,p.2)) else Jg s es (i+1)
  | _=>none
def Z6 (s:ByteArray) (v:AV) (es:List (AV×AV)):Option (List (AV×AV)) := match Jg s es 0 with
 | none=>none
 | some none=>some (es++[(.val (.string s),v)])
 | some (some p)=>some (es.set p.1 (.val (.string s),v))
theorem Afa {σ:Ax} {s:ByteArray}:∀(es:List (AV×AV)) (L:List MapEntry) (i:Nat) (r:Option (Nat×AV)),L.length=es.length ->
  (∀(j:Nat) (p:AV×AV) (e:MapEntry),es[j]? = some p->L[j]? = some e->CC σ p.1 e.key/\CC σ p.2 e.val)->Jg s es i=some r ->
  (r=none/\Instr.findNow .string (.string s) L i=some none)\/∃j v e,r=some (i+j,v)/\Instr.findNow .string (.string s) L i=some (some (i+j,e.val))/\L[j]? = some e/\e.key = .string s/\CC σ v e.val/\j<es.length
 | [],[],i,r,g,h,b=>by
  simp only[Jg]at b;cases b
  exact .inl ⟨rfl,rfl⟩
 | [],e::L,i,r,g,h,b=>by simp at g
 | p::es,[],i,r,g,h,b=>by simp at g
 | p::es,e::L,i,r,g,h,b=>by
  obtain⟨C,l⟩:=h 0 p e rfl rfl
  simp only[Jg]at b
  split at b
  .rename_i t hp
   rw[hp]at C
   have f:e.key = .string t:=by
    generalize e.key=q at C
    cases C;rfl
   cases c:s==t with
   | true=>
    rw[c]at b
    cases b
    have G:s=t:=(Go.MapKept.bytes_beq s t).1 c
    refine .inr ⟨0,p.2,e,rfl,?_,rfl,?_,l,ψ⟩
    .unfold Instr.findNow
     rw[f]
     simp[Instr.sameNow,c]
    .rw[f,G]
   | false=>
    rw[c]at b
    have step:Instr.findNow .string (.string s) (e::L) i=Instr.findNow .string (.string s) L (i+1):=by
     conv=>lhs;unfold Instr.findNow
     rw[f]
     simp[Instr.sameNow,c]
    rcases Afa es L (i+1) r (by simpa using g) (λj k e' A B=>h (j+1) k e' (by simpa using A) (by simpa using B)) b with⟨A,B⟩|⟨j,v,e',A,B,I,y,x,u⟩
    .exact .inl ⟨A,by rw[step];exact B⟩
    .exact .inr ⟨j+1,v,e',by rw[A];congr 2;omega,by rw[step,B];congr 3;omega,by simpa using I,y,x,by simpa using u⟩
  .cases b
section
variable {P:Program} {o:Oper} {ρ:Operand->AV} {a:Act} {w w':World} {next:Act->World->Prop} {Q:Exit->Act->World->Prop}
variable {σ:Ax} {ι:Bx} {s:ByteArray} {T:C6} {H:Hp} {k:IntKind} {es:List (AV×AV)} {h:Nat} {x y:Operand} {i:TI} {G t:TypeId} {v:Value}
def Of:List AV->Option (List Value)
 | []=>some []
 | .val v::xs=>(Of xs).map (v :: ·)
 | _::_=>none
theorem Afb {σ:Ax} {ι:Bx} {H:Hp}:∀{xs:List AV} {b:List Value} {vs:List Value},Of xs=some b->vs.length=xs.length->(∀(i:Nat) (c:AV) (v:Value),xs[i]? = some c->vs[i]? = some v->Conc σ ι H c v)->vs=b
 | [],b,vs,h,f,_=>by simp only[Of]at h;cases h;exact length_eq_zero_iff.1 f
 | .val v::xs,b,[],h,f,_=>by simp at f
 | .val v::xs,b,w::vs,h,f,A=>by simp only[Of,Option.map_eq_some_iff]at h;obtain⟨g,B,rfl⟩:=h;have k:=(A 0 _ w rfl rfl).val_inv;have j:=Afb (vs:=vs) B (by simpa using f) λi c u C G=>A (i+1) c u (by simpa using C) (by simpa using G);rw[k,j]
 | .loc .. :: _,_,_,h,_,_ | .arr .. :: _,_,_,h,_,_ | .el .. :: _,_,_,h,_,_ | .mp .. :: _,_,_,h,_,_ | .ref .. :: _,_,_,h,_,_
 | .sl .. :: _,_,_,h,_,_ | .agg .. :: _,_,_,h,_,_ | .tup .. :: _,_,_,h,_,_ | .fn .. :: _,_,_,h,_,_=>by simp[Of]at h
def Afc (P:Program) (t:TypeId) (c vs:List Value) (b:Bool):Prop := ∀(w:World) (op:BinOp) (x y:Operand),(eqGuard op t x y (.agg c.toArray) (.agg vs.toArray)).run P w = .ok () w/\(Op.equal t (.agg c.toArray) (.agg vs.toArray)).run P w = .ok b w
theorem Akk {xs:Array Value} {off:Nat} (w:World) (u:P.underlying t=some (.int k)) (A:xs[off]? = some v):(part t xs off).run P w = .ok v w:=by simp[part,isAgg,run_underlying u,A]
theorem Akl {b:IntKind} (w:World) (u:P.underlying t=some (.int k)) (d:Nat) (m n:Int):(Op.equalIn (d+1) t (.int b m) (.int b n)).run P w = .ok (m==n) w:=by simp[Op.equalIn,run_underlying u]
theorem Akm {op:BinOp} {s:TypeId} {xs ys:List AV} {f vs:List Value} {b c:Bool} (g:o.op = .binOp op t x y s) (I:ρ x = .agg xs) (J:ρ y = .agg ys) (K:Of xs=some f) (L:Of ys=some vs) (hb:Afc P t f vs b) (M:(op = .eql/\c=b)\/(op = .neq/\c = !b)):Ca P o ρ ⟨.val (.bool c),[],[]⟩ := Ep λσ ι H a w h=>by
  refine⟨.bool c,?_,.of_val _⟩;have q:=h x (by simp[g,Op.operands]);have l:=h y (by simp[g,Op.operands]);rw[I]at q;rw[J]at l;obtain⟨k,E,B,N⟩:=q.agg_inv;obtain⟨j,D,A,R⟩:=l.agg_inv;have S:k=f.toArray:=(by have:=Afb (vs:=k.toList) K (by simpa using B) λi c v C G=>N i c v C (by simpa using G);rw[<-this]);have U:j=vs.toArray:=(by have:=Afb (vs:=j.toList) L (by simpa using A) λi c v C G=>R i c v C (by simpa using G);rw[<-this]);subst S;subst U;obtain⟨z,u⟩:=hb w op x y;rcases M with⟨rfl,rfl⟩|⟨rfl,rfl⟩;all_goals
   simp only[execOp,g,E,D,Sem.run_bind,z,Result.andThen_ok,binOp,u,Sem.run_pure]
def Afd (P:Program) (s:TypeId) (f:Nat):Option TypeId := match P.underlying s with
 | some (.struct u)=>(u[f]?).map (·.type)
 | _=>none
theorem Akn (E:C8 P T) {y:TypeId} {f:Nat} {g:TI} {fs:List (Nat×Nat)} {q:Nat×Nat} {cs:List AV} {r:AV} (D:o.op = .field t x f) (ht:T t=some i) (hd:i.d = .struct fs) (X:fs[f]? = some q) (K:Afd P t f=some y) (I:T y=some g) (hx:ρ x = .agg cs) (R:(g.isAgg=true/\q.1+g.size<=cs.length/\r = .agg ((cs.drop q.1).take g.size))\/(g.isAgg=false/\cs[q.1]? = some r)):Ca P o ρ ⟨r,[],[]⟩ := Ep λσ ι H a w h=>by
  have hc:=h x (by simp[D,Op.operands]);rw[hx]at hc;obtain⟨C,J,L,c1⟩:=hc.agg_inv;obtain⟨_,u,_,_,A,_,_,_,_,G⟩:=Er (E t i ht);rw[hd]at G;obtain⟨S,rfl,M,_⟩:=G;unfold Afd at K;rw[A]at K;simp only[Option.map_eq_some_iff]at K;obtain⟨fl,g1,g2⟩:=K;have b:q.1=fl.offset:=(by rw[M,getElem?_map,Gi,g1]at X;simp at X;rw[<-X]);have l:=Zv (E y g I) w;have B:=Mm (E y g I) w;subst g2;rcases R with⟨z,s,rfl⟩|⟨z,s⟩
  .refine⟨.agg (C.extract fl.offset (fl.offset+g.size)),?_,.agg _ _ (by simp[b]at s ⊢;omega) λj c u U V=>?_⟩
   .simp[execOp,D,J,Instr.field,run_underlying A,g1,asAgg,part,l,z,B,Result.andThen]
   .rw[b]at U;have hj:j<g.size:=(by have:=(F8.1 U).1;simp at this;omega);rw[He hj,getElem?_drop]at U;rw[Array.getElem?_extract]at V;split at V
    .exact c1 _ c u U V
    .cases V
  .have k:q.1<C.size:=(by rw[L];exact (F8.1 s).1);have N:C[fl.offset]? = some C[q.1]:=(by rw[<-b];simp[k]);refine⟨C[q.1],?_,c1 q.1 r _ s (by simp[k])⟩;simp[execOp,D,J,Instr.field,run_underlying A,g1,asAgg,part,l,z,N,Result.andThen]
theorem Avl (h:Nat) (c:o.op = .makeMap t none):Ca P o ρ ⟨.mp h,[(h,.none)],[(h,.map [])]⟩:=by
 intro σ ι H F W w a next Q s B b u
 have f:H h = .none:=b (h,.none) ψ;obtain⟨A,le⟩:=s.newMap h f;refine Fj (v:=.map (some w.heap.size)) (w':=w.alloc (.map #[] 0)) ?_ (u σ _ _ _ le A (.mp h w.heap.size (Cd _ _ _)));simp[execOp,c,Instr.makeMap,newObj,Sem.run]
theorem Conc.mp_inv (hc:Conc σ ι H (.mp h) v):∃b,ι h = .box b/\v = .map (some b):=by cases hc with| cc h=>cases h| mp _ b hb=>exact⟨b,hb,rfl⟩
def Afe (b:Bool) (i:TI):Option (Nat×AV)->AV
 | none=>bif b then .tup [Fq i,.val (.bool false)] else Fq i
 | some p=>bif b then .tup [p.2,.val (.bool true)] else p.2
theorem Avm {z:Value} (u:z.cells.toList=i.zero) (I:i.isAgg=true->∃A,z = .agg A) (B:i.isAgg=false->Ew z=true):Conc σ ι H (Fq i) z:=by
 cases b:i.isAgg with
 | true=>obtain⟨A,rfl⟩:=I b;have f:Fq i = .agg (i.zero.map .val):=(by unfold TI.isAgg at b;unfold Fq;cases C:i.d <;> rw[C]at b <;> first|rfl|cases b);rw[f,<-u];refine .agg _ A (by simp[Value.cells]) λj c v G J=>?_;simp only[Value.cells,getElem?_map,Gi,J]at G;simp at G;subst G;exact .of_val v
 | false=>have B:=B b;have f:z.cells = #[z]:=(by cases z <;> first|rfl|cases B);rw[f]at u;have:Fq i = .val z:=(by unfold TI.isAgg at b;unfold Fq;rw[<-u];cases C:i.d <;> rw[C]at b <;> first|rfl|cases b);rw[this];exact .of_val z
theorem Avn (hT:C8 P T) {U:TypeId} {D:Bool} {V C:TI} {r:Option (Nat×AV)} (B:o.op = .lookup t x y D) (ht:T t=some i) (hd:i.d = .map U G) (hk:T U=some V) (Z:V.d = .string) (he:T G=some C) (hx:ρ x = .mp h) (hy:ρ y = .val (.string s)) (hr:Jg s es 0=some r) : Ca P o ρ ⟨Afe D C r,[(h,.map es)],[]⟩:=by
 intro σ ι H F W w a next Q st L X Y
 have hh:H h = .map es:=X (h,.map es) ψ;have N:=L x (by simp[B,Op.operands]);rw[hx]at N;obtain⟨b,hb,S⟩:=N.mp_inv;have g:=Dz hy (L y (by simp[B,Op.operands]));have A:=st.obj h;unfold Cv at A;rw[hh]at A;obtain⟨b',M,q,e1,_,_,h3,h4⟩:=A;rw[hb]at e1;cases e1;obtain⟨_,u,_,_,R,_,_,_,_,k7⟩:=Er (hT t i ht);rw[hd]at k7;subst k7;obtain⟨_,u',_,_,f,_,_,_,_,E⟩:=Er (hT U V hk);rw[Z]at E;subst E;have k:Go.MapKept.IsKey .string (.string s):=trivial;have l:∀v,Conc σ ι H (Afe D C r) v->(execOp a.eval o).run P w = .ok (.value v) w->o.wp P a w next Q:=by intro v hc J;exact Fj J (Y σ ι v w (Le.refl _ _ _) st hc)
 rcases Afa es M.toList 0 r (by simpa using h4.1) (λj p e g1 g2=>h4.2 j p e g1 (by simpa using g2)) hr with⟨rfl,hf⟩|⟨j,v,e,rfl,hf,g1,g2,g3,_⟩
 .obtain⟨z,hz,c1,c2,c3⟩:=Atg (hT G C he) w;have I:Conc σ ι H (Fq C) z:=Avm c1 c2 c3;cases D with
  | true=>
   refine l (.tuple #[z,.bool false]) (.tup _ _ ψ λi c u K m2=>?_) ?_
   .match i with| 0=>simp at K m2;subst K;subst m2;exact I| 1=>simp at K m2;subst K;subst m2;exact .of_val _| i+2=>simp at K
   .simp[execOp,B,S,g,Instr.lookup,run_underlying R,Go.MapKept.run_getObj_map h3,Go.MapKept.run_checkKey f k,Go.MapKept.run_findKey f hf,hz,Result.andThen]
  | false=>refine l z I ?_;simp[execOp,B,S,g,Instr.lookup,run_underlying R,Go.MapKept.run_getObj_map h3,Go.MapKept.run_checkKey f k,Go.MapKept.run_findKey f hf,hz,Result.andThen]
 .cases D with
  | true=>
   refine l (.tuple #[e.val,.bool true]) (.tup _ _ ψ λi c u K m2=>?_) ?_
   .match i with| 0=>simp at K m2;subst K;subst m2;exact .cc g3| 1=>simp at K m2;subst K;subst m2;exact .of_val _| i+2=>simp at K
   .simp[execOp,B,S,g,Instr.lookup,run_underlying R,Go.MapKept.run_getObj_map h3,Go.MapKept.run_checkKey f k,Go.MapKept.run_findKey f hf,Result.andThen]
  | false=>refine l e.val (.cc g3) ?_;simp[execOp,B,S,g,Instr.lookup,run_underlying R,Go.MapKept.run_getObj_map h3,Go.MapKept.run_checkKey f k,Go.MapKept.run_findKey f hf,Result.andThen]
theorem Conc.cc_free1 {x:AV} (hx:x.free1=true) (h:Conc σ ι H x v):CC σ x v:=by cases x with| agg cs=>obtain⟨vs,rfl,b,h⟩:=h.agg_inv;exact .agg cs vs b λi c u h1 h2=>((h i c u h1 h2).cc_of (Ef.1 hx c (E7 h1))).1| val u=>exact (h.cc_of (x:=.val u) hx).1| sl sz xs=>exact (h.cc_of (x:=.sl sz xs) hx).1| _=>cases hx
theorem Avo (hT:C8 P T) {Y:TypeId} {z:Operand} {Z:TI} {g:List (AV×AV)} (R:o.op = .mapUpdate t x y z) (ht:T t=some i) (hd:i.d = .map Y G) (hk:T Y=some Z) (a7:Z.d = .string) (hx:ρ x = .mp h) (hy:ρ y = .val (.string s)) (hz:(ρ z).free1=true) (k:Z6 s (ρ z) es=some g) : Ca P o ρ ⟨.val undef,[(h,.map es)],[(h,.map g)]⟩:=by
 intro σ ι H F W w a next Q st l a1 a6
 have hh:H h = .map es:=a1 (h,.map es) ψ;have V:=l x (by simp[R,Op.operands]);rw[hx]at V;obtain⟨b,hb,hv⟩:=V.mp_inv;have L:=Dz hy (l y (by simp[R,Op.operands]));have U:=(l z (by simp[R,Op.operands])).cc_free1 hz;have A:=st.obj h;unfold Cv at A;rw[hh]at A;obtain⟨b',M,q,e1,_,_,h3,f⟩:=A;rw[hb]at e1;cases e1;obtain⟨_,u,_,_,k2,_,_,_,_,k7⟩:=Er (hT t i ht);rw[hd]at k7;subst k7;obtain⟨_,u',_,_,c,_,_,_,_,J⟩:=Er (hT Y Z hk);rw[a7]at J;subst J;have D:Go.MapKept.IsKey .string (.string s):=trivial;have S:∀X t',To σ g X->(execOp a.eval o).run P w = .ok .skip {w with heap:=w.heap.setIfInBounds b (.map X t')}->o.wp P a w next Q:=by intro X t' hM N;obtain⟨s',le⟩:=st.setMap h es g hh b hb X t' hM;exact Aes N (a6 σ ι undef _ le s' (.of_val _))
 unfold Z6 at k;cases C:Jg s es 0 with
 | none=>rw[C]at k;cases k
 | some r=>
  rw[C]at k;rcases Afa es M.toList 0 r (by simpa using f.1) (λj p e g1 g2=>f.2 j p e g1 (by simpa using g2)) C with⟨rfl,hf⟩|⟨j,v,e,rfl,hf,g1,g2,g3,g4⟩
  .simp only[Option.some.injEq]at k;subst k;refine S (M.push {key:=.string s,val:=a.eval z,born:=q}) (q+1) ⟨by simp[f.1],λI p e K m2=>?_⟩ ?_
   .rcases Nat.lt_or_ge I es.length with B|a0
    .rw[getElem?_append_left B]at K;rw[Array.getElem?_push_lt (by rw[f.1];exact B)]at m2;exact f.2 I p e K (by rw[Array.getElem?_eq_getElem (by rw[f.1];exact B)];exact m2)
    .rw[getElem?_append_right a0]at K;have a8:I=es.length:=(by have:=(F8.1 K).1;simp at this;omega);subst a8;simp at K;subst K;rw[<-f.1]at m2;simp at m2;subst m2;exact⟨.val _,U⟩
   .simp[execOp,R,hv,L,Instr.mapUpdate,run_underlying k2,Go.MapKept.run_getObj_map h3,Go.MapKept.run_checkKey c D,Go.MapKept.run_findKey c hf,Go.MapKept.run_setObj_map _ h3,Result.andThen]
  .simp only[Option.some.injEq]at k;subst k;have hj:M[j]? = some e:=(by simpa using g1);refine S (M.modify j λe=>{e with key:=.string s,val:=a.eval z}) q ⟨by simp[f.1],λI p e' K m2=>?_⟩ ?_
   .simp only[Nat.zero_add]at K;rw[getElem?_set]at K;rw[Array.getElem?_modify]at m2;by_cases E:j=I
    .subst E;simp only[if_true]at K m2;rw[if_pos g4]at K;cases K;rw[hj]at m2;simp at m2;subst m2;exact⟨.val _,U⟩
    .rw[if_neg E]at K;rw[if_neg E]at m2;exact f.2 I p e' K m2
   .simp[execOp,R,hv,L,Instr.mapUpdate,run_underlying k2,Go.MapKept.run_getObj_map h3,Go.MapKept.run_checkKey c D,Go.MapKept.run_findKey c hf,hj,g2,Go.MapKept.run_keyThatStays D,Go.MapKept.run_setObj_map _ h3,Result.andThen]
end
def ev (e:Bv):Operand->AV
 | .tmp t=>e t
 | .const v=>.val v
 | .global g=>.val (.pointer (some ⟨g,0,none⟩))
 | .func f=>.fn f []
def put (e:Bv) (d:Option Nat) (v:AV):Bv := match d with
 | none=>e
 | some n=>A4 e n v
def Aff:Operand->Option Nat
 | .tmp t=>some t
 | _=>none
def Tv (ops:Array Oper) (o:Oper):Option Nat := match o.guard with
 | none=>none
 | some p=>(ops[p.1]?).bind (·.dst)
def Kr (ops:Array Oper) (o:Oper):List Nat:=o.op.operands.toList.filterMap Aff++(Tv ops o).toList
def Fu (σ:Ax) (ι:Bx) (H:Hp) (e:Bv) (a:Act):Prop:=∀s,s<a.tmps.size->Conc σ ι H (e s) (a.tmps.getD s undef)
section
variable {σ:Ax} {ι:Bx} {H:Hp} {e:Bv} {a:Act}
theorem Fu.eval (h:Fu σ ι H e a) {x:Operand} (hx:∀t,Aff x=some t->t<a.tmps.size):Conc σ ι H (ev e x) (a.eval x):=by cases x with| tmp t=>exact h t (hx t rfl)| const v=>exact .of_val v| global g=>exact .of_val _| func f=>exact .fn f [] #[] rfl ψ
theorem Fu.mono {b:Ax} {c:Bx} {H':Hp} (h:Fu σ ι H e a) (le:Le σ ι H b c H'):Fu b c H' e a:=λs hs=>(h s hs).mono le
theorem Fu.put (h:Fu σ ι H e a) {d:Option Nat} {r:AV} {v:Value} (c:Conc σ ι H r v):Fu σ ι H (put e d r) (a.put d v):=by
 cases d with
 | none=>exact h
 | some n=>
  intro s hs;simp only[Act.put,Array.size_setIfInBounds]at hs;simp only[Ab.put,Act.put];by_cases b:s=n
  .subst b;rw[Cd];simpa[hs] using c
  .rw[Cy _ _ b];have:=h s hs;simp only[Array.getD_eq_getD_getElem?]at this ⊢;rw[Array.getElem?_setIfInBounds_ne ω];exact this
end
variable {a b:Act} {ops:Array Oper} {o:Oper}
def Q7:Value->Option Bool
 | .bool b=>some b
 | _=>none
def Lc (ops:Array Oper) (o:Oper) (e:Bv) (on:Bool):Prop := match o.guard with
 | none=>on=true
 | some p=>∃s v,(ops[p.1]?).bind (·.dst)=some s/\e s = .val v/\on=(Q7 v==some p.2)
theorem Ako {e:Bv} {on:Bool} {σ:Ax} {ι:Bx} {H:Hp} (hg:Lc ops o e on) (g:Fu σ ι H e a) (B:∀s,Tv ops o=some s->s<a.tmps.size) : Region.wanted o (yielded ops a.tmps)=on:=by unfold Lc at hg;unfold Region.wanted;cases h:o.guard with| none=>rw[h]at hg;exact hg.symm| some p=>rw[h]at hg;obtain⟨s,b,u,C,G⟩:=hg;have c:=B s (by unfold Tv;rw[h];exact u);have A:=g s c;rw[C]at A;have f:=A.val_inv;have:yielded ops a.tmps p.1=Q7 b:=(by unfold yielded;rw[u];simp only[Option.bind_some];have:a.tmps[s]? = some b:=(by rw[Array.getD_eq_getD_getElem?]at f;simp[c]at f ⊢;exact f);rw[this];cases b <;> rfl);show (yielded ops a.tmps p.1==some p.2)=on;rw[this,G]
abbrev Acc:=Nat->List Nat×List Nat
def Pp (P:Program) (ops:Array Oper) (acc:Acc) (i:Nat) (o:Oper) (e:Bv) (H:Hp) (r:AV) (c:List (Nat×Bf)):Prop := ops[i]? = some o /\ ((Lc ops o e true/\∃b,Ca P o (ev e) b/\(∀p∈b.rd,H p.1=p.2)/\(∀p∈b.rd,p.1∈(acc i).1)/\(∀p∈b.wr,p.1∈(acc i).2)/\r=b.r/\c=b.wr) \/ (Lc ops o e false/\r = .val undef/\c = []))
inductive Run (P:Program) (ops:Array Oper) (acc:Acc):List Nat->Bv->Hp->Bv->Hp->Prop where
 | nil (e:Bv) (H:Hp):Run P ops acc [] e H e H
 | cons {i:Nat} {l:List Nat} {e e':Bv} {H H':Hp} (o:Oper) (r:AV) (wr:List (Nat×Bf)) (hd:Pp P ops acc i o e H r wr)
   (rest:Run P ops acc l (put e o.dst r) (Cq H wr) e' H'):Run P ops acc (i::l) e H e' H'
def F4 (b:List Nat) (a c:Act):Prop:=∀s,s ∉ b->c.tmps.getD s undef=a.tmps.getD s undef
theorem F4.refl (b:List Nat) (a:Act):F4 b a a:=λ_ _=>rfl
theorem F4.trans {f:List Nat} {c:Act} (h:F4 f a b) (h':F4 f b c):F4 f a c:=λs hs=>(h' s hs).trans (h s hs)
theorem F4.mono {f c:List Nat} (h:F4 f a b) (g:∀s∈f,s∈c):F4 c a b:=λs hs=>h s (λx=>hs (g s x))
theorem F4.put (a:Act) (d:Option Nat) (v:Value) (b:List Nat) (h:∀s,d=some s->s∈b):F4 b a (a.put d v):=by cases d with| none=>exact F4.refl _ _| some n=>intro s hs;have c:s≠n:=λe=>hs (e ▸ h n rfl);simp only[Act.put,Array.getD_eq_getD_getElem?];rw[Array.getElem?_setIfInBounds_ne ω]
def V3 (ops:Array Oper):List Nat:=ops.toList.filterMap (·.dst)
theorem F4.step {i:Nat} (b:ops[i]? = some o) (a:Act) (v:Value):F4 (V3 ops) a (a.put o.dst v):=by refine F4.put a o.dst v _ λs hs=>?_;unfold V3;rw[mem_filterMap];exact⟨o,by simpa using Array.mem_of_getElem? b,hs⟩
def Z8 (ops:Array Oper) (n:Nat):Prop:=∀(i:Nat) (o:Oper),ops[i]? = some o->∀s∈Kr ops o,s<n
section
variable {P:Program} {ops:Array Oper} {acc:Acc} {F:Ax} {W:World} {Q:Exit->Act->World->Prop}
variable {r:AV} {e e':Bv} {H H':Hp} {l:List Nat} {i:Nat} {o:Oper} {d:Option Nat}
theorem V4 (a:Act) (d:Option Nat) (v:Value):(a.put d v).tmps.size=a.tmps.size:=by cases d <;> simp[Act.put]
theorem Run.wpOp (h:Run P ops acc (i::l) e H e' H') {σ:Ax} {ι:Bx} {a:Act} {w:World} (s:St σ ι H F W w) (q:Fu σ ι H e a) (hs:Z8 ops a.tmps.size) {K:Act->World->Prop} (hk:∀(A:Bv) (y:Hp),Run P ops acc l A y e' H'->∀g j u w',Le σ ι H g j y->St g j y F W w'->Fu g j y A u->u.tmps.size=a.tmps.size->u.defers=a.defers->F4 (V3 ops) a u->K u w') : wpOp P ops Q i K a w:=by
 have c:∀(d:Option Nat) (v:Value),(a.put d v).defers=a.defers:=by intro d v;cases d <;> rfl
 cases h with
 | cons o r wr hd rest=>
  obtain⟨k,hd⟩:=hd;unfold Go.wpOp;have f:=hs i o k;rcases hd with⟨G,B,b,z,_,_,rfl,rfl⟩|⟨G,rfl,rfl⟩
  .have I:=Ako G q λC h'=>f C (by simp[Kr,h']);rw[k];simp only[I,if_true];refine .inl (b σ ι H F W w a K Q s (λx hx=>q.eval λt J=>f t ?_) z ?_)
   .simp only[Kr,mem_append,mem_filterMap];exact .inl ⟨x,hx,J⟩
   .intro g j v w' le C hc;exact hk _ _ rest g j _ w' le C ((q.mono le).put hc) (V4 _ _ _) (c _ _) (F4.step k a v)
  .have I:=Ako G q λC h'=>f C (by simp[Kr,h']);rw[k];simp only[I,Bool.false_eq_true,if_false];exact hk _ _ rest σ ι _ w (Le.refl _ _ _) s (q.put (.of_val undef)) (V4 _ _ _) (c _ _) (F4.step k a undef)
theorem Run.wpOps (h:Run P ops acc l e H e' H'):∀{σ:Ax} {ι:Bx} {a:Act} {w:World},St σ ι H F W w->Fu σ ι H e a->Z8 ops a.tmps.size -> (∀j k g w',Le σ ι H j k H'->St j k H' F W w'->Fu j k H' e' g->g.tmps.size=a.tmps.size->g.defers=a.defers->F4 (V3 ops) a g->Q .normal g w')->wpOps P ops Q l a w:=by induction l generalizing e H with| nil=>intro σ ι a w s A hs hk;cases h;exact hk σ ι a w (Le.refl _ _ _) s A rfl rfl (F4.refl _ _)| cons i l ih=>intro σ ι a w s A hs hk;rw[wpOps_cons];refine h.wpOp s A hs ?_;intro S U L M N V R u J z c B C;refine ih L J z (by rw[c];exact hs) ?_;intro D E K G q I y b f x;exact hk D E K G (u.trans q) I y (b.trans c) (f.trans B) (C.trans x)
theorem Ca.congr {ρ f:Operand->AV} {b:Eff} (h:Ca P o ρ b) (i:∀x∈o.op.operands.toList,f x=ρ x):Ca P o f b := λσ ι H F W w a next Q s hx c hk=>h σ ι H F W w a next Q s (λx g=>by rw[<-i x g];exact hx x g) c hk
theorem Lc.congr {on:Bool} (h:Lc ops o e on) (c:∀s,Tv ops o=some s->e' s=e s):Lc ops o e' on:=by unfold Lc at *;cases u:o.guard with| none=>rw[u]at h;exact h| some p=>rw[u]at h;obtain⟨s,b,h1,h2,h3⟩:=h;exact⟨s,b,h1,by rw[c s (by unfold Tv;rw[u];exact h1)];exact h2,h3⟩
theorem Avp {x:Operand} (h:∀t,Aff x=some t->e' t=e t):ev e' x=ev e x:=by cases x with| tmp t=>exact h t rfl| _=>rfl
theorem Pp.congr {c:List (Nat×Bf)} (h:Pp P ops acc i o e H r c) (f:∀s∈Kr ops o,e' s=e s) (k:∀x∈(acc i).1,H' x=H x):Pp P ops acc i o e' H' r c:=by
 obtain⟨j,h⟩:=h;refine⟨j,?_⟩;have A:∀s,Tv ops o=some s->e' s=e s:=λs hs=>f s (by simp[Kr,hs]);rcases h with⟨h1,b,h2,h3,g,u,q,l⟩|⟨h1,h2,h3⟩
 .refine .inl ⟨h1.congr A,b,h2.congr λx hx=>Avp λt B=>f t ?_,λp hp=>?_,g,u,q,l⟩
  .simp only[Kr,mem_append,mem_filterMap];exact .inl ⟨x,hx,B⟩
  .rw[k p.1 (g p hp)];exact h3 p hp
 .exact .inr ⟨h1.congr A,h2,h3⟩
theorem V5 {H:Hp}:∀{b:List (Nat×Bf)} {x:Nat},(∀p∈b,p.1≠x)->Cq H b x=H x
 | [],_,_=>rfl
 | p::b,x,h=>by simp only[Cq];rw[V5 λq u=>h q (by simp[u]),Cy _ _ λe=>h p ψ e.symm]
theorem Akp {H:Hp} {h:Nat} {o:Bf}:∀{b:List (Nat×Bf)},(∀p∈b,p.1≠h)->Cq (A4 H h o) b=A4 (Cq H b) h o
 | [],_=>rfl
 | p::b,hp=>by simp only[Cq];rw[Aj4 _ _ _ λe=>hp p ψ e,Akp λq u=>hp q (by simp[u])]
theorem Akq {H:Hp}:∀{c b:List (Nat×Bf)},(∀p∈c,∀q∈b,p.1≠q.1)->Cq (Cq H c) b=Cq (Cq H b) c
 | [],_,_=>rfl
 | p::c,b,h=>by simp only[Cq];rw[Akq λq u f A=>h q (by simp[u]) f A,Akp λq u e=>h p ψ q u e.symm]
structure Ind (ops:Array Oper) (acc:Acc) (i j:Nat) (o o':Oper):Prop where
 d1:∀s,o.dst=some s->s ∉ Kr ops o'/\o'.dst≠some s
 d2:∀s,o'.dst=some s->s ∉ Kr ops o
 h1:∀x∈(acc i).2,x ∉ (acc j).1/\x ∉ (acc j).2
 h2:∀x∈(acc j).2,x ∉ (acc i).1
theorem Akr {s:Nat} (h:d≠some s):put e d r s=e s:=by cases d with| none=>rfl| some n=>exact Cy _ _ (λe=>h (by rw[e]))
theorem Avq {b:Option Nat} {c:AV} (h:∀s,d=some s->b≠some s):put (put e d r) b c=put (put e b c) d r:=by
 cases d with
 | none=>rfl
 | some n=>cases b with| none=>rfl| some m=>exact Aj4 _ _ _ (λe=>h n rfl (by rw[e]))
theorem Pp.wr {b:List (Nat×Bf)} (h:Pp P ops acc i o e H r b):∀p∈b,p.1∈(acc i).2:=by
 obtain⟨_,⟨_,g,_,_,_,f,_,c⟩|⟨_,_,h3⟩⟩:=h
 .subst c;exact f
 .subst h3;intro p hp;cases hp
theorem Run.swap {j:Nat} (h:Run P ops acc (i::j::l) e H e' H') (hi:∀o o',ops[i]? = some o->ops[j]? = some o'->Ind ops acc i j o o'):Run P ops acc (j::i::l) e H e' H':=by
 cases h with
 | cons o r wr hd rest=>cases rest with| cons o' f c b rest=>have ind:=hi o o' hd.1 b.1;have u:Pp P ops acc j o' e H f c:=b.congr (λs hs=>(Akr λe=>(ind.d1 s e).1 hs).symm) λx hx=>(V5 λp hp e=>(ind.h1 p.1 (hd.wr p hp)).1 (e ▸ hx)).symm;have A:Pp P ops acc i o (put e o'.dst f) (Cq H c) r wr:=hd.congr (λs hs=>Akr λe=>ind.d2 s e hs) λx hx=>V5 λp hp e=>ind.h2 p.1 (b.wr p hp) (e ▸ hx);refine .cons o' f c u (.cons o r wr A ?_);rw[Avq λs hs e=>(ind.d1 s e).2 hs,Akq λp hp q B e=>(ind.h1 q.1 (hd.wr q B)).2 (e ▸ b.wr p hp)];exact rest
theorem Run.bubble:∀{b c:List Nat} {e e':Bv} {H H':Hp},Run P ops acc (b++i::c) e H e' H'->(∀j∈b,∀o o',ops[j]? = some o->ops[i]? = some o'->Ind ops acc j i o o')->Run P ops acc (i::(b++c)) e H e' H'
 | [],_,_,_,_,_,h,_=>h
 | j::b,c,e,e',H,H',h,hi=>by cases h with| cons o r wr hd rest=>exact Run.swap (.cons o r wr hd (rest.bubble λk hk=>hi k (by simp[hk]))) (hi j ψ)
end
def Pq (u:List Nat) (o:Oper):Nat:=o.after.toList.foldl (λa x=>bif Region.binds .any x then a ||| ((1 <<< x.on) ||| u.getD x.on 0) else a) 0
def Jw:List Oper->List Nat->List Nat
 | [],u=>u
 | o::A,u=>Jw A (u++[Pq u o])
def V6 (l m:List Nat):Bool:=l.all λx=>!m.contains x
def Afg (ops:Array Oper) (a b:List Nat×List Nat) (o o':Oper):Bool := (match o.dst with
   | none=>true
   | some s=>!(Kr ops o').contains s && !(o'.dst==some s)) && (match o'.dst with
   | none=>true
   | some s=>!(Kr ops o).contains s) && V6 a.2 b.1&&V6 a.2 b.2&&V6 b.2 a.1
def Afh (ops:List Oper) (acc:List (List Nat×List Nat)):Bool :=
 let M:=Jw ops []
 (ops.zipIdx.all λp=>p.1.after.toList.all λx=>!Region.binds .any x||Nat.blt x.on p.2) && ops.zipIdx.all λp=>ops.zipIdx.all λq=>!Nat.blt q.2 p.2||(M.getD p.2 0).testBit q.2||Afg ops.toArray (acc.getD q.2 ([],[])) (acc.getD p.2 ([],[])) q.1 p.1
section
variable {P:Program} {F:Ax} {W:World} {Q:Exit->Act->World->Prop}
variable {ops:Array Oper} {i:Nat}
theorem Aks:∀(A:List Oper) (u:List Nat),(Jw A u).take u.length=u/\(Jw A u).length=u.length+A.length /\ ∀(k:Nat) (o:Oper),A[k]? = some o->(Jw A u).getD (u.length+k) 0=Pq ((Jw A u).take (u.length+k)) o
 | [],u=>⟨by simp[Jw],by simp[Jw],ψ⟩
 | o::A,u=>by
  obtain⟨B,I,G⟩:=Aks A (u++[Pq u o]);simp only[Jw];simp only[length_append,length_cons,length_nil]at B I G;have b:(Jw A (u++[Pq u o])).take u.length=u:=(by have:=congrArg (take u.length) B;rw[take_take]at this;simpa using this);refine⟨b,by simp only[length_cons];omega,λk J C=>?_⟩;cases k with
  | zero=>simp at C;subst C;rw[Nat.add_zero,b];have K:(Jw A (u++[Pq u o]))[u.length]? = some (Pq u o):=(by have c:((Jw A (u++[Pq u o])).take (u.length+1))[u.length]? = (Jw A (u++[Pq u o]))[u.length]?:=He ω;rw[<-c,B];simp);simp[getD,K]
  | succ k=>have:=G k J (by simpa using C);rwa [show u.length+1+k=u.length+(k+1) by omega]at this
theorem Akt (B:List Nat) (j:Nat):∀(l:List Edge) (a:Nat),(l.foldl (λa x=>bif Region.binds .any x then a ||| ((1 <<< x.on) ||| B.getD x.on 0) else a) a).testBit j=true -> a.testBit j=true\/∃x∈l,Region.binds .any x=true/\(x.on=j\/(B.getD x.on 0).testBit j=true)
 | [],a,h=>.inl h
 | x::l,a,h=>by
  simp only[foldl_cons]at h;rcases Akt B j l _ h with u|⟨y,C,A⟩
  .cases A:Region.binds .any x with
   | false=>rw[A]at u;exact .inl u
   | true=>
    rw[A]at u;simp only[cond_true,Nat.testBit_or,Bool.or_eq_true]at u;rcases u with u|u|u
    .exact .inl u
    .refine .inr ⟨x,ψ,A,.inl ?_⟩;rw[Nat.one_shiftLeft,Nat.testBit_two_pow]at u;simpa using u
    .exact .inr ⟨x,ψ,A,.inr u⟩
  .exact .inr ⟨y,by simp[C],A⟩
theorem Afi {l m:List Nat} (h:V6 l m=true):∀x∈l,x ∉ m:=by intro x u b;unfold V6 at h;rw[Ef]at h;have:=h x u;simp[b]at this
theorem Avr {acc:Acc} {j:Nat} {o o':Oper} (h:Afg ops (acc i) (acc j) o o'=true):Ind ops acc i j o o':=by
 unfold Afg at h;simp only[Fc]at h;obtain⟨⟨⟨⟨A,B⟩,G⟩,c⟩,b⟩:=h;refine⟨λs u=>?_,λs u=>?_,λx C=>⟨Afi G x C,Afi c x C⟩,Afi b⟩
 .rw[u]at A;simpa using A
 .rw[u]at B;simpa using B
def Avs (ops:Array Oper) (b:Array Bool):Prop := ∀(k:Nat) (o:Oper),ops[k]? = some o->b.getD k false=true->∀x∈o.after.toList,Region.binds .any x=true->b.getD x.on false=true
theorem Aku {b:Array Bool} (h:i∈Region.ready .any ops b) : i<ops.size/\b.getD i true=false/\∀o,ops[i]? = some o->∀x∈o.after.toList,Region.binds .any x=true->b.getD x.on false=true:=by unfold Region.ready at h;rw[mem_filter]at h;obtain⟨B,A⟩:=h;simp only[Fc,Bool.not_eq_true']at A;refine⟨by simpa using B,A.1,λo c x C G=>?_⟩;have u:=A.2;rw[c]at u;simp only[Option.map_some,Option.getD_some]at u;rw[<-Array.all_toList,Ef]at u;have:=u x C;simpa[G] using this
theorem Akv {ops:List Oper} {accs:List (List Nat×List Nat)} (N:Afh ops accs=true) {e':Bv} {H':Hp}:∀(fuel:Nat) (b:Array Bool) (l:List Nat) (e:Bv) (H:Hp) (σ:Ax) (ι:Bx) (a:Act) (w:World), Run P ops.toArray (λi=>accs.getD i ([],[])) l e H e' H'->l.Pairwise (· < ·)->(∀i,i∈l↔i<ops.length/\b.getD i true=false)->b.size=ops.length->Avs ops.toArray b->l.length=fuel -> St σ ι H F W w->Fu σ ι H e a->Z8 ops.toArray a.tmps.size -> (∀σ' ι' a' w',Le σ ι H σ' ι' H'->St σ' ι' H' F W w'->Fu σ' ι' H' e' a'->a'.tmps.size=a.tmps.size->a'.defers=a.defers->F4 (V3 ops.toArray) a a'->Q .normal a' w') -> wpAny P .any ops.toArray Q fuel b a w
 | 0,b,l,e,H,σ,ι,a,w,hr,hp,J,a6,U,f,s,he,hs,C=>by have D:l = []:=eq_nil_of_length_eq_zero f;subst D;cases hr;refine⟨?_,C σ ι a w (Le.refl _ _ _) s he rfl rfl (F4.refl _ _)⟩;apply eq_nil_iff_forall_not_mem.2;intro i hi;obtain⟨K,h2,_⟩:=Aku hi;have:=(J i).2 ⟨by simpa using K,h2⟩;cases this
 | fuel+1,b,l,e,H,σ,ι,a,w,hr,hp,J,a6,U,f,s,he,hs,C=>by
  unfold Afh at N;have I:=N;simp only[Fc,Ef]at I;obtain⟨S,M⟩:=I;have u:∀(i:Nat) (o:Oper),ops[i]? = some o->(o,i)∈ops.zipIdx:=(by intro i o h;rw[mem_iff_getElem?];exact⟨i,by simp[getElem?_zipIdx,h]⟩);have A:∀(i:Nat) (o:Oper),ops[i]? = some o->∀x∈o.after.toList,Region.binds .any x=true->x.on<i:=(by intro i o h x hx hb;have:=S (o,i) (u i o h) x hx;simp only[hb,Bool.not_true,Bool.false_or]at this;exact F3 this);refine⟨λaa=>?_,λi hi=>?_⟩
  .exfalso;cases l with
   | nil=>simp at f
   | cons i l=>
    have R:=(J i).1 ψ;have:i∈Region.ready .any ops.toArray b:=by
     unfold Region.ready;rw[mem_filter];refine⟨by simpa using R.1,?_⟩;simp only[Fc,Bool.not_eq_true'];refine⟨R.2,?_⟩;have ab:i<ops.length:=R.1;have ho:ops[i]? = some ops[i]:=getElem?_eq_getElem ab;have aq:ops.toArray[i]? = some ops[i]:=(by simp[ab]);rw[aq];simp only[Option.map_some,Option.getD_some];rw[<-Array.all_toList,Ef];intro x hx;cases hb:Region.binds .any x with
     | false=>rfl
     | true=>
      simp only[Bool.not_true,Bool.false_or];have b6:=A i _ ho x hx hb;cases D:b.getD x.on true with
      | true=>have g:x.on<b.size:=ω;simp only[Array.getD_eq_getD_getElem?]at D ⊢;simpa[g] using D
      | false=>
       have a0:=(J x.on).2 ⟨ω,D⟩;simp only[mem_cons]at a0;rcases a0 with a0|a0
       .omega
       .have:=(pairwise_cons.1 hp).1 _ a0;omega
    rw[aa]at this;cases this
  .obtain⟨b0,az,ae⟩:=Aku hi;have q:i<ops.length:=(by simpa using b0);have ay:=(J i).2 ⟨q,az⟩;obtain⟨l1,l2,rfl⟩:=append_of_mem ay;have b7:ops[i]? = some ops[i]:=getElem?_eq_getElem q;have b5:ops.toArray[i]? = some ops[i]:=(by simp[q]);have z:∀(k:Nat) (o:Oper),ops[k]? = some o->(b.getD k false=true\/k=i)->∀j,((Jw ops []).getD k 0).testBit j=true->b.getD j false=true:=by
    intro k;induction k using Nat.strongRecOn with
    | _ k ih=>
     intro o C a3 j hj;have a7:=(Aks ops []).2.2 k o C;simp only[length_nil,Nat.zero_add]at a7;rw[a7]at hj;rcases Akt _ j _ _ hj with h0|⟨x,hx,hb,a8⟩
     .simp at h0
     .have V:b.getD x.on false=true:=by
       rcases a3 with a3|a3
       .exact U k o (by simpa using C) a3 x hx hb
       .subst a3;exact ae o (by simpa using C) x hx hb
      rcases a8 with rfl|a4
      .exact V
      .have X:=A k o C x hx hb;have am:x.on<ops.length:=(by have:=(F8.1 C).1;omega);have e1:((Jw ops []).take k).getD x.on 0=(Jw ops []).getD x.on 0:=(by simp only[getD_eq_getElem?_getD];rw[He X]);rw[e1]at a4;exact ih x.on X _ (getElem?_eq_getElem am) (.inl V) j a4
   have ad:∀j∈l1,∀o o',ops.toArray[j]? = some o->ops.toArray[i]? = some o'->Ind ops.toArray (λi=>accs.getD i ([],[])) j i o o':=by
    intro j hj o o' ar ax;have av:j<i:=(by have:=(pairwise_append.1 hp).2.2 j hj i ψ;exact this);have au:=(J j).1 (by simp[hj]);have ac:ops[j]? = some o:=(by simpa using ar);have L:ops[i]? = some o':=(by simpa using ax);have:=M (o',i) (u i o' L) (o,j) (u j o ac);simp only[Bool.or_eq_true,Bool.not_eq_true']at this;rcases this with (K|K) | K
    .have:Nat.blt j i=true:=(by unfold Nat.blt;exact Nat.ble_eq_true_of_le av);rw[this]at K;cases K
    .have h2:=z i o' L (.inr rfl) j K;have g:j<b.size:=ω;have h3:=au.2;simp only[Array.getD_eq_getD_getElem?]at h2 h3;simp[g]at h2 h3;rw[h2]at h3;cases h3
    .exact Avr (acc:=λi=>accs.getD i ([],[])) K
   have ai:=hr.bubble ad;refine ai.wpOp s he hs ?_;intro e1 H1 r1 σ1 ι1 a1 w1 ak s1 b4 E ag ap;have G:∀(k:Nat) (d:Bool),(b.setIfInBounds i true).getD k d=if k=i then true else b.getD k d:=by
    intro k d;simp only[Array.getD_eq_getD_getElem?];by_cases c:k=i
    .subst c;rw[if_pos rfl,Array.getElem?_setIfInBounds_self_of_lt ω];rfl
    .rw[if_neg c,Array.getElem?_setIfInBounds_ne ω]
   have B:∀k∈l1++l2,k≠i:=by
    intro k C e;subst e;rw[pairwise_append]at hp;rcases mem_append.1 C with C|C
    .have:=hp.2.2 k C k ψ;omega
    .have:=(pairwise_cons.1 hp.2.1).1 k C;omega
   refine Akv N fuel _ (l1++l2) e1 H1 σ1 ι1 a1 w1 r1 ?_ ?_ (by simpa using a6) ?_ (by simp at f ⊢;omega) s1 b4 (by rw[E];exact hs) ?_
   .rw[pairwise_append]at hp ⊢;exact⟨hp.1,(pairwise_cons.1 hp.2.1).2,λx hx y hy=>hp.2.2 x hx y (by simp[hy])⟩
   .intro k;rw[G];constructor
    .intro C;have K:=(J k).1 (by
      rcases mem_append.1 C with C|C
      .simp[C]
      .simp[C])
     rw[if_neg (B k C)];exact K
    .rintro⟨K,h2⟩;by_cases c:k=i
     .rw[if_pos c]at h2;cases h2
     .rw[if_neg c]at h2;have:=(J k).2 ⟨K,h2⟩;simp only[mem_append,mem_cons]at this ⊢;rcases this with h|h|h
      .exact .inl h
      .exact (c h).elim
      .exact .inr h
   .intro k o C D x hx ah;rw[G]at D ⊢;by_cases Y:x.on=i
    .rw[if_pos Y]
    .rw[if_neg Y];by_cases c:k=i
     .subst c;exact ae o C x hx ah
     .rw[if_neg c]at D;exact U k o C D x hx ah
   .intro σ2 ι2 a2 w2 aj s2 b3 Z af ao;exact C σ2 ι2 a2 w2 (ak.trans aj) s2 b3 (Z.trans E) (af.trans ag) (ap.trans ao)
end
end Go.Ab
