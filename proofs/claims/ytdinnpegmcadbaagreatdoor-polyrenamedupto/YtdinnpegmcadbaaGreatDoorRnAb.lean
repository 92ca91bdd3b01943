/- Abstract values. -/
import Derived.Calls
import Derived.Orders
import Derived.Lib.ItoaNum
import Derived.Laws.CopyRow
import Derived.Laws.Cells
import Derived.Laws.Append
import Derived.Laws.IdiomStrings
import Derived.Lib.SliceRun
import Derived.Laws.FloatArith
import Derived.Laws.Cover2
import Derived.Laws.MakeOwn
import Derived.Lib.AppendStr
import Derived.MapKept
import Derived.WideKeyRuns
import Derived.Scope
open List
namespace Go.Ab
variable {i m n:Nat} {p:Prop} {α:Type _} {l:List α} {a:α}
abbrev OB:=Option Bool
theorem ζ (h:p:=by simp;omega):p:=h
theorem ω (h:p:=by omega):p:=h
theorem δ (h:p:=by decide):p:=h
theorem ψ (h:p:=by simp):p:=h
theorem G1:l[i]? = some a↔∃h:i<l.length,l[i]=a:=List.getElem?_eq_some_iff
theorem En {p:α->Bool}:l.all p=true↔∀x,x∈l->p x=true:=all_eq_true
theorem Fq (h:l[i]? = some a):a∈l:=mem_of_getElem? h
theorem G6 {xs:Array α}:xs.toList[i]? = xs[i]?:=Array.getElem?_toList
theorem G2 (h:n.ble m=true):n<=m:=Nat.le_of_ble_eq_true h
theorem Ha (h:n.beq m=true):n=m:=Nat.eq_of_beq_eq_true h
theorem H6 {j:Nat} (h:i<j):(l.take j)[i]? = l[i]?:=getElem?_take_of_lt h
variable {m n:Nat} {α:Type}
theorem Fw (a b:Bool):((a&&b)=true)=(a=true/\b=true):=Bool.and_eq_true a b
theorem E6 (a b c:Nat):(a+b)*c=a*c+b*c:=Nat.add_mul a b c
inductive AV where
 | val (v:Value)
 | loc (h off:Nat)
 | arr (h k off len:Nat)
 | el (h k i j:Nat)
 | mp (h:Nat)
 | ref (cs:List AV)
 | sl (sz:Nat) (xs:List AV)
 | agg (cs:List AV)
 | tup (cs:List AV)
 | fn (f:FuncId) (caps:List AV)
 | fb (s:ByteArray)
 | vec (h n:Nat)
inductive Bm where
 | none
 | dead
 | cells (elem:TypeId) (cs:List AV)
 | rows (elem:TypeId) (sz:Nat) (xs:List AV)
 | map (es:List (AV×AV))
abbrev B7:=Nat->AV
abbrev Hp:=Nat->Bm
abbrev A7:=Nat->Option Obj
def Az (e:Nat->α) (n:Nat) (v:α):Nat->α:=λm=>bif Nat.beq m n then v else e m
theorem Ch (e:Nat->α) (n:Nat) (v:α):Az e n v n=v:=by simp[Az]
theorem Cu (e:Nat->α) (v:α) (h:m≠n):Az e n v m=e m:=by
 have:Nat.beq m n=false:=by
  cases u:Nat.beq m n
  .rfl
  .exact absurd (Ha u) h
 simp[Az,this]
theorem An0 (e:Nat->α) (u v:α) (h:m≠n):Az (Az e n u) m v=Az (Az e m v) n u:=by
 funext k;by_cases A:k=n
 .subst A;rw[Cu _ _ (Ne.symm h),Ch,Ch]
 .by_cases C:k=m
  .subst C;rw[Ch,Cu _ _ A,Ch]
  .rw[Cu _ _ C,Cu _ _ A,Cu _ _ A,Cu _ _ C]
def AV.cells:AV->List AV
 | .agg cs=>cs
 | .val (.agg vs)=>vs.toList.map .val
 | x=>[x]
def Fi:Value->Bool
 | .agg _ | .tuple _=>false
 | _=>true
def AV.one:AV->Bool
 | .agg _ | .tup _=>false
 | .val v=>Fi v
 | _=>true
inductive CC (σ:A7):AV->Value->Prop where
 | val (v:Value):CC σ (.val v) v
 | nil (sz:Nat) (a:Option Addr) (cap:Nat):CC σ (.sl sz []) (.slice a 0 cap)
 | sl (xs:List AV) (b off cap sz:Nat) (C:Array Value) (E:TypeId) (fr:Nat×Nat) (g:Nat->Nat->Value) (hσ:σ b=some (.cells C E fr))
   (hs:∀(i:Nat) (x:AV),xs[i]? = some x->x.cells.length=sz)
   (hc:∀(i:Nat) (x:AV) (j:Nat) (c:AV),xs[i]? = some x->x.cells[j]? = some c->CC σ c (g i j))
   (h1:∀(i:Nat) (x:AV) (j:Nat) (c:AV),xs[i]? = some x->x.cells[j]? = some c->Fi (g i j)=true)
   (hC:∀(i j:Nat),i<xs.length->j<sz->C[off+i*sz+j]? = some (g i j))
   (hl:xs.length<=140737488355328) (hcap:xs.length<=cap):CC σ (.sl sz xs) (.slice (some ⟨b,off,Option.none⟩) xs.length cap)
 | agg (cs:List AV) (vs:Array Value) (hl:vs.size=cs.length) (h:∀(i:Nat) (c:AV) (v:Value),cs[i]? = some c->vs[i]? = some v->CC σ c v):CC σ (.agg cs) (.agg vs)
 | fbn (s:ByteArray) (a:Option Addr) (cap:Nat) (h0:s.size=0):CC σ (.fb s) (.slice a 0 cap)
 | fb (s:ByteArray) (b cap:Nat) (C:Array Value) (hσ:σ b=some (.cells C 5 (0,s.size))) (h0:s.size≠0) (hcap:s.size<=cap) (hC:s.size<=C.size) (hl:s.size<=140737488355328)
   (hb:∀(j:Nat) (x:UInt8),s.data[j]? = some x->C[j]? = some (Value.int .u8 x.toNat)):CC σ (.fb s) (.slice (some ⟨b,0,Option.none⟩) s.size cap)
inductive Loc where
 | none
 | box (b:Nat)
 | nil
 | blk (b tot:Nat)
abbrev Cb:=Nat->Loc
def Loc.block?:Loc->Option Nat
 | .box b=>some b
 | .blk b _=>some b
 | _=>Option.none
def Hq (l:Loc) (sz off len:Nat) (v:Value):Prop := match l with
 | .nil=>v = .slice Option.none 0 0/\off=0/\len=0
 | .blk b c=>off+len<=c/\v = .slice (some ⟨b,off*sz,Option.none⟩) len (c-off)
 | _=>False
def An1 (l:Loc) (sz i j:Nat) (v:Value):Prop := match l with
 | .blk b _=>v = .pointer (some ⟨b,i*sz+j,Option.none⟩)
 | _=>False
inductive Conc (σ:A7) (ι:Cb) (H:Hp):AV->Value->Prop where
 | cc {a:AV} {v:Value} (h:CC σ a v):Conc σ ι H a v
 | loc (h off b:Nat) (hb:ι h = .box b):Conc σ ι H (.loc h off) (.pointer (some ⟨b,off,Option.none⟩))
 | mp (h b:Nat) (hb:ι h = .box b):Conc σ ι H (.mp h) (.map (some b))
 | vec (h n b:Nat) (hb:ι h = .box b):Conc σ ι H (.vec h n) (.slice (some ⟨b,0,Option.none⟩) n n)
 | arr (h k off len:Nat) (v:Value) (hn:H h≠.none) (hv:∀E sz xs,H h = .rows E sz xs->k<=xs.length/\(xs.length=k->Hq (ι h) sz off len v))
   (hone:Fi v=true):Conc σ ι H (.arr h k off len) v
 | el (h k i j:Nat) (v:Value) (hn:H h≠.none) (hv:∀E sz xs,H h = .rows E sz xs->k<=xs.length/\(xs.length=k->An1 (ι h) sz i j v))
   (hone:Fi v=true):Conc σ ι H (.el h k i j) v
 | ref (cs:List AV) (b off:Nat) (C:Array Value) (E:TypeId) (fr:Nat×Nat) (g:Nat->Value) (hσ:σ b=some (.cells C E fr))
   (hc:∀(j:Nat) (c:AV),cs[j]? = some c->CC σ c (g j)) (h1:∀(j:Nat) (c:AV),cs[j]? = some c->Fi (g j)=true)
   (hC:∀(j:Nat),j<cs.length->C[off+j]? = some (g j)):Conc σ ι H (.ref cs) (.pointer (some ⟨b,off,Option.none⟩))
 | agg (cs:List AV) (vs:Array Value) (hl:vs.size=cs.length) (h:∀(i:Nat) (c:AV) (v:Value),cs[i]? = some c->vs[i]? = some v->Conc σ ι H c v):Conc σ ι H (.agg cs) (.agg vs)
 | tup (cs:List AV) (vs:Array Value) (hl:vs.size=cs.length) (h:∀(i:Nat) (c:AV) (v:Value),cs[i]? = some c->vs[i]? = some v->Conc σ ι H c v):Conc σ ι H (.tup cs) (.tuple vs)
 | fn (f:FuncId) (caps:List AV) (vs:Array Value) (hl:vs.size=caps.length) (h:∀(i:Nat) (c:AV) (v:Value),caps[i]? = some c->vs[i]? = some v->Conc σ ι H c v) :
   Conc σ ι H (.fn f caps) (.func (.func f) #[] vs)
def A7.le (σ c:A7):Prop:=∀b o,σ b=some o->c b=some o
theorem A7.le_refl (σ:A7):σ.le σ:=λ_ _ h=>h
theorem A7.le_trans {σ f c:A7} (h:A7.le σ f) (h':A7.le f c):A7.le σ c:=λb o e=>h' b o (h b o e)
variable {σ:A7} {ι:Cb} {H H':Hp} {v:Value}
structure HLe (l:Loc) (o:Bm) (l':Loc) (o':Bm):Prop where
 box:∀b,l = .box b->l' = .box b
 some:o≠.none->o'≠.none
 rows:o≠.none->∀E' sz' xs',o' = .rows E' sz' xs'->∃E sz xs,o = .rows E sz xs/\(xs.length<xs'.length\/(xs.length=xs'.length/\sz=sz'/\l=l'))
theorem HLe.refl (l:Loc) (o:Bm):HLe l o l o := ⟨λ_ h=>h,λh=>h,λ_ E sz xs h=>⟨E,sz,xs,h,.inr ⟨rfl,rfl,rfl⟩⟩⟩
theorem HLe.trans {l y i:Loc} {o o' g:Bm} (h:HLe l o y o') (h':HLe y o' i g):HLe l o i g:=by
 refine⟨λb e=>h'.box b (h.box b e),λe=>h'.some (h.some e),λe u f c s=>?_⟩;obtain⟨G,k,j,e',x⟩:=h'.rows (h.some e) u f c s;obtain⟨E,sz,xs,D,r⟩:=h.rows e G k j e';refine⟨E,sz,xs,D,?_⟩;rcases r with r|⟨J,I,z⟩ <;> rcases x with x|⟨B,A,q⟩
 .left;omega
 .left;omega
 .left;omega
 .exact .inr ⟨ω,ω,z.trans q⟩
structure Le (σ:A7) (ι:Cb) (H:Hp) (σ':A7) (ι':Cb) (H':Hp):Prop where
 sto:σ.le σ'
 obj:∀h,HLe (ι h) (H h) (ι' h) (H' h)
theorem Le.refl (σ:A7) (ι:Cb) (H:Hp):Le σ ι H σ ι H:=⟨A7.le_refl σ,λ_=>HLe.refl _ _⟩
theorem Le.trans {g b:A7} {i c:Cb} {f:Hp} (h:Le σ ι H g i H') (h':Le g i H' b c f):Le σ ι H b c f := ⟨A7.le_trans h.sto h'.sto,λx=>(h.obj x).trans (h'.obj x)⟩
theorem CC.mono {l:A7} (q:σ.le l) {a:AV} (h:CC σ a v):CC l a v:=by induction h with| val v=>exact .val v| nil sz a cap=>exact .nil sz a cap| sl xs b off cap sz C E fr g i j _ h1 k f c ih=>exact .sl xs b off cap sz C E fr g (q _ _ i) j ih h1 k f c| agg cs vs f _ ih=>exact .agg cs vs f ih| fbn s a cap h0=>exact .fbn s a cap h0| fb s b cap C i h0 c k f hb=>exact .fb s b cap C (q _ _ i) h0 c k f hb
theorem Conc.mono {J:A7} {L:Cb} (q:Le σ ι H J L H') {a:AV} (h:Conc σ ι H a v):Conc J L H' a v:=by
 induction h with
 | cc h=>exact .cc (h.mono q.sto)
 | loc h off b hb=>exact .loc h off b ((q.obj h).box b hb)
 | mp h b hb=>exact .mp h b ((q.obj h).box b hb)
 | vec h n b hb=>exact .vec h n b ((q.obj h).box b hb)
 | arr h k off len v y hv l=>
  refine .arr h k off len v ((q.obj h).some y) (λI u s e=>?_) l;obtain⟨E,sz,xs,G,r⟩:=(q.obj h).rows y I u s e;obtain⟨hk,hv⟩:=hv E sz xs G;rcases r with r|⟨M,D,B⟩
  .exact⟨ω,λx=>ω⟩
  .rw[<-D,<-B];exact⟨ω,λx=>hv ω⟩
 | el h k i j v y hv l=>
  refine .el h k i j v ((q.obj h).some y) (λI u s e=>?_) l;obtain⟨E,sz,xs,G,r⟩:=(q.obj h).rows y I u s e;obtain⟨hk,hv⟩:=hv E sz xs G;rcases r with r|⟨M,D,B⟩
  .exact⟨ω,λx=>ω⟩
  .rw[<-D,<-B];exact⟨ω,λx=>hv ω⟩
 | ref cs b off C E fr g N hc h1 R=>exact .ref cs b off C E fr g (q.sto _ _ N) (λj c h=>(hc j c h).mono q.sto) h1 R
 | agg cs vs z _ ih=>exact .agg cs vs z ih
 | tup cs vs z _ ih=>exact .tup cs vs z ih
 | fn f A vs z _ ih=>exact .fn f A vs z ih
variable {F b σ:A7} {ι:Cb} {H:Hp} {W w:World}
def I4 (σ:A7) (sz:Nat) (xs:List AV) (C:Array Value):Prop := ∃g:Nat->Nat->Value,(∀(i:Nat) (x:AV),xs[i]? = some x->x.cells.length=sz) /\ (∀(i:Nat) (x:AV) (j:Nat) (c:AV),xs[i]? = some x->x.cells[j]? = some c->CC σ c (g i j)/\Fi (g i j)=true) /\ (∀(i j:Nat),i<xs.length->j<sz->C[i*sz+j]? = some (g i j))
def Vn (σ:A7) (es:List (AV×AV)) (M:Array MapEntry):Prop := M.size=es.length/\∀(i:Nat) (p:AV×AV) (e:MapEntry),es[i]? = some p->M[i]? = some e->CC σ p.1 e.key/\CC σ p.2 e.val
theorem Vn.mono (c:σ.le b) {es:List (AV×AV)} {M:Array MapEntry} (h:Vn σ es M):Vn b es M := ⟨h.1,λi p e h1 h2=>⟨(h.2 i p e h1 h2).1.mono c,(h.2 i p e h1 h2).2.mono c⟩⟩
def C4 (σ:A7) (ι:Cb) (H:Hp) (F:A7) (w:World) (h:Nat):Prop := match H h with
 | .none=>ι h = .none
 | .dead=>True
 | .cells E cs=>∃(b:Nat) (C:Array Value),ι h = .box b/\σ b=none/\F b=none/\w.heap[b]? = some (.cells C E (0,0))/\C.size=cs.length /\ ∀(i:Nat) (c:AV) (v:Value),cs[i]? = some c->C[i]? = some v->Conc σ ι H c v
 | .rows E sz xs=>0<sz/\xs.length<=140737488355328/\((ι h = .nil/\xs = [])\/∃(b f:Nat) (C:Array Value),ι h = .blk b f/\σ b=none/\F b=none /\ w.heap[b]? = some (.cells C E (0,0))/\C.size=f*sz/\xs.length<=f/\I4 σ sz xs C)
 | .map es=>∃(b:Nat) (M:Array MapEntry) (t:Nat),ι h = .box b/\σ b=none/\F b=none/\w.heap[b]? = some (.map M t)/\Vn σ es M
def Bm.live:Bm->Bool
 | .none | .dead=>false
 | _=>true
def Vo (σ:A7):Prop:=∃(E:TypeId) (u:Nat×Nat),σ 0=some (.cells (Lib.pow10Tab.map λz=>Value.int .u64 z).toArray E u)
theorem Vo.mono (h:σ.le b) (g:Vo σ):Vo b:=by obtain⟨E,fr,e⟩:=g;exact⟨E,fr,h _ _ e⟩
structure St (σ:A7) (ι:Cb) (H:Hp) (F:A7) (W w:World):Prop where
 sto:∀b o,σ b=some o->w.heap[b]? = some o
 fra:∀b o,F b=some o->w.heap[b]? = some o/\σ b=none
 obj:∀h,C4 σ ι H F w h
 inj:∀h h' b,(H h).live=true->(H h').live=true->(ι h).block? = some b->(ι h').block? = some b->h=h'
 os:w.os=W.os
 tape:w.tape=W.tape
 output:w.output=W.output
 glo:Vo σ
 drw:W.drawn<=w.drawn
theorem I4.mono (f:σ.le b) {sz:Nat} {xs:List AV} {C:Array Value} (h:I4 σ sz xs C):I4 b sz xs C:=by obtain⟨g,h1,h2,h3⟩:=h;exact⟨g,h1,λi x j c hx hc=>⟨((h2 i x j c hx hc).1).mono f,(h2 i x j c hx hc).2⟩,h3⟩
theorem St.block (s:St σ ι H F W w) {h b:Nat} (f:(H h).live=true) (hb:(ι h).block? = some b) : b<w.heap.size/\σ b=none/\F b=none:=by
 have c:=s.obj h;unfold C4 at c;cases hh:H h with
 | none=>rw[hh]at f;cases f
 | dead=>rw[hh]at f;cases f
 | cells E cs=>rw[hh]at c;obtain⟨g,C,e,h1,h2,h3,_⟩:=c;rw[e]at hb;simp[Loc.block?]at hb;subst hb;refine⟨?_,h1,h2⟩;exact (Array.getElem?_eq_some_iff.1 h3).1
 | rows E sz xs=>
  rw[hh]at c;obtain⟨_,_,⟨e,_⟩|⟨g,i,C,e,h1,h2,h3,_⟩⟩:=c
  .rw[e]at hb;simp[Loc.block?]at hb
  .rw[e]at hb;simp[Loc.block?]at hb;subst hb;exact⟨(Array.getElem?_eq_some_iff.1 h3).1,h1,h2⟩
 | map es=>rw[hh]at c;obtain⟨g,M,t,e,h1,h2,h3,_⟩:=c;rw[e]at hb;simp[Loc.block?]at hb;subst hb;exact⟨(Array.getElem?_eq_some_iff.1 h3).1,h1,h2⟩
theorem St.touch {I:A7} {J:Cb} {H':Hp} {w':World} (s:St σ ι H F W w) (h t:Nat) (X:∀x,x≠h->J x=ι x) (Y:∀x,x≠h->H' x=H x) (le:Le σ ι H I J H') (f:∀b,b≠t->w'.heap[b]? = w.heap[b]?) (N:∀b,b≠t->I b=σ b) (a1:∀o,I t=some o->w'.heap[t]? = some o) (j:∀x,x≠h->(H x).live=true->(ι x).block?≠some t) (hF:F t=none) (A:∀b,(H' h).live=true->(J h).block? = some b->b=t\/((H h).live=true/\(ι h).block? = some b)) (S:C4 I J H' F w' h) (a6:w'.os=w.os) (D:w'.tape=w.tape) (R:w'.output=w.output) (hdrw:w.drawn<=w'.drawn:=by exact Nat.le_refl _):St I J H' F W w':=by
 refine⟨?_,?_,?_,?_,a6.trans s.os,D.trans s.tape,R.trans s.output,s.glo.mono le.sto,Nat.le_trans s.drw hdrw⟩
 .intro b o hb;by_cases e:b=t
  .subst e;exact a1 o hb
  .rw[f b e];exact s.sto b o (by rw[<-N b e];exact hb)
 .intro b o hb;have e:b≠t:=(by intro e;subst e;rw[hF]at hb;cases hb);rw[f b e,N b e];exact s.fra b o hb
 .intro x;by_cases e:x=h
  .subst e;exact S
  .have z:=s.obj x;unfold C4 at z ⊢;rw[Y x e,X x e];cases hx:H x with
   | none=>rw[hx]at z;exact z
   | dead=>trivial
   | cells E cs=>rw[hx]at z;obtain⟨b,C,u,h1,h2,h3,U,K⟩:=z;have g:b≠t:=(by intro l;subst l;exact j x e (by rw[hx];rfl) (by rw[u];rfl));exact⟨b,C,u,by rw[N b g];exact h1,h2,by rw[f b g];exact h3,U,λi c v hc hv=>(K i c v hc hv).mono le⟩
   | rows E sz xs=>
    rw[hx]at z;obtain⟨z1,z2,⟨u,e2⟩|⟨b,Z,C,u,h1,h2,h3,U,K,h6⟩⟩:=z
    .exact⟨z1,z2,.inl ⟨u,e2⟩⟩
    .have g:b≠t:=(by intro l;subst l;exact j x e (by rw[hx];rfl) (by rw[u];rfl));exact⟨z1,z2,.inr ⟨b,Z,C,u,by rw[N b g];exact h1,h2,by rw[f b g];exact h3,U,K,h6.mono le.sto⟩⟩
   | map es=>rw[hx]at z;obtain⟨b,M,q,u,h1,h2,h3,U⟩:=z;have g:b≠t:=(by intro l;subst l;exact j x e (by rw[hx];rfl) (by rw[u];rfl));exact⟨b,M,q,u,by rw[N b g];exact h1,h2,by rw[f b g];exact h3,U.mono le.sto⟩
 .intro x y b L G V k;by_cases ex:x=h
  .subst ex;by_cases B:y=x
   .exact B.symm
   .rw[Y y B]at G;rw[X y B]at k;rcases A b L V with e|⟨l0,b0⟩
    .subst e;exact (j y B G k).elim
    .exact s.inj x y b l0 G b0 k
  .rw[Y x ex]at L;rw[X x ex]at V;by_cases B:y=h
   .subst B;rcases A b G k with e|⟨l0,b0⟩
    .subst e;exact (j x ex L V).elim
    .exact s.inj x y b L l0 V b0
   .rw[Y y B]at G;rw[X y B]at k;exact s.inj x y b L G V k
theorem HLe.of_none {b:Loc} {o':Bm}:HLe .none .none b o':=⟨nofun,λh=>(h rfl).elim,λh=>(h rfl).elim⟩
theorem Le.upd (c:σ.le b) (h:Nat) (l:Loc) (o:Bm) (hh:HLe (ι h) (H h) l o):Le σ ι H b (Az ι h l) (Az H h o):=by
 refine⟨c,λx=>?_⟩;by_cases e:x=h
 .subst e;rw[Ch,Ch];exact hh
 .rw[Cu _ _ e,Cu _ _ e];exact HLe.refl _ _
theorem J8 {α:Type} (e:Nat->α) (n:Nat):Az e n (e n)=e:=by
 funext m;by_cases h:m=n
 .subst h;rw[Ch]
 .rw[Cu _ _ h]
theorem St.newBox (s:St σ ι H F W w) (h:Nat) (u:H h = .none) (E:TypeId) (cs:List AV) (C:Array Value) (l:C.size=cs.length) (hc:∀(i:Nat) (c:AV) (v:Value),cs[i]? = some c->C[i]? = some v->Conc σ ι H c v) : St σ (Az ι h (.box w.heap.size)) (Az H h (.cells E cs)) F W (w.alloc (.cells C E))/\Le σ ι H σ (Az ι h (.box w.heap.size)) (Az H h (.cells E cs)):=by
 have k:ι h = .none:=by have:=s.obj h;unfold C4 at this;rw[u]at this;exact this
 have le:Le σ ι H σ (Az ι h (.box w.heap.size)) (Az H h (.cells E cs)):=Le.upd (A7.le_refl σ) h _ _ (by rw[k,u];exact HLe.of_none);have f:∀(S:A7),(∀b o,S b=some o->w.heap[b]? = some o)->S w.heap.size=none:=by intro S y;cases e:S w.heap.size with| none=>rfl| some o=>have:=y _ _ e;simp at this
 have g:=f σ s.sto;have j:=f F λb o hb=>(s.fra b o hb).1;refine⟨s.touch h w.heap.size (λx e=>Cu _ _ e) (λx e=>Cu _ _ e) le ?_ (λ_ _=>rfl) (λo q=>by rw[g]at q;cases q) ?_ j ?_ ?_ rfl rfl rfl,le⟩
 .intro b hb;show (w.heap.push _)[b]? = _;rw[Array.getElem?_push,if_neg hb]
 .intro x e l hb;have:=(s.block l hb).1;omega
 .intro b _ hb;rw[Ch]at hb;simp[Loc.block?]at hb;exact .inl hb.symm
 .unfold C4;rw[Ch];refine⟨w.heap.size,C,Ch _ _ _,g,j,?_,l,λi c v h1 h2=>(hc i c v h1 h2).mono le⟩;show (w.heap.push _)[w.heap.size]? = _;simp
theorem St.newFrozen (s:St σ ι H F W w) (o:Obj) : St (Az σ w.heap.size (some o)) ι H F W (w.alloc o)/\Le σ ι H (Az σ w.heap.size (some o)) ι H:=by
 have k:∀(S:A7),(∀b o,S b=some o->w.heap[b]? = some o)->S w.heap.size=none:=by intro S G;cases e:S w.heap.size with| none=>rfl| some o=>have:=G _ _ e;simp at this
 have z:=k σ s.sto;have A:=k F λb o hb=>(s.fra b o hb).1;have j:σ.le (Az σ w.heap.size (some o)):=by intro b o' hb;rw[Cu _ _ (by intro e;subst e;rw[z]at hb;cases hb)];exact hb
 have le:Le σ ι H (Az σ w.heap.size (some o)) ι H:=⟨j,λ_=>HLe.refl _ _⟩;have f:∀b,b≠w.heap.size->(w.alloc o).heap[b]? = w.heap[b]?:=by intro b hb;show (w.heap.push _)[b]? = _;rw[Array.getElem?_push,if_neg hb]
 refine⟨⟨?_,?_,?_,s.inj,s.os,s.tape,s.output,s.glo.mono j,s.drw⟩,le⟩
 .intro b o' hb;by_cases e:b=w.heap.size
  .subst e;rw[Ch]at hb;cases hb;show (w.heap.push _)[w.heap.size]? = _;simp
  .rw[Cu _ _ e]at hb;rw[f b e];exact s.sto b o' hb
 .intro b o' hb;have e:b≠w.heap.size:=(by intro e;subst e;rw[A]at hb;cases hb);rw[f b e,Cu _ _ e];exact s.fra b o' hb
 .intro x;have h:=s.obj x;unfold C4 at h ⊢;cases hx:H x with
  | none=>rw[hx]at h;exact h
  | dead=>trivial
  | cells E cs=>rw[hx]at h;obtain⟨b,C,l,h1,h2,h3,u,B⟩:=h;have g:b≠w.heap.size:=(by have:=(Array.getElem?_eq_some_iff.1 h3).1;omega);exact⟨b,C,l,by rw[Cu _ _ g];exact h1,h2,by rw[f b g];exact h3,u,λi c v hc hv=>(B i c v hc hv).mono le⟩
  | rows E sz xs=>
   rw[hx]at h;obtain⟨D,K,⟨l,J⟩|⟨b,y,C,l,h1,h2,h3,u,B,I⟩⟩:=h
   .exact⟨D,K,.inl ⟨l,J⟩⟩
   .have g:b≠w.heap.size:=(by have:=(Array.getElem?_eq_some_iff.1 h3).1;omega);exact⟨D,K,.inr ⟨b,y,C,l,by rw[Cu _ _ g];exact h1,h2,by rw[f b g];exact h3,u,B,I.mono j⟩⟩
  | map es=>rw[hx]at h;obtain⟨b,M,q,l,h1,h2,h3,u⟩:=h;have g:b≠w.heap.size:=(by have:=(Array.getElem?_eq_some_iff.1 h3).1;omega);exact⟨b,M,q,l,by rw[Cu _ _ g];exact h1,h2,by rw[f b g];exact h3,u.mono j⟩
theorem St.drew (s:St σ ι H F W w) (n:Nat) (b:w.drawn<=n:=by first|exact Nat.le_succ _|exact Nat.le_refl _|omega):St σ ι H F W {w with drawn:=n}:=by refine⟨s.sto,s.fra,λh=>?_,s.inj,s.os,s.tape,s.output,s.glo,Nat.le_trans s.drw b⟩;have:=s.obj h;unfold C4 at this ⊢;exact this
theorem Aid (w:World) (g b:Nat) (C:Array Value) (h:b≠g):(w.setRow g C).heap[b]? = w.heap[b]?:=by simp only[World.setRow,Array.getElem?_modify];rw[if_neg ω]
theorem St.setBox (s:St σ ι H F W w) (h:Nat) (E:TypeId) (cs f:List AV) (hh:H h = .cells E cs) (b:Nat) (hb:ι h = .box b) (g:Array Value) (k:g.size=f.length) (hc:∀(i:Nat) (c:AV) (v:Value),f[i]? = some c->g[i]? = some v->Conc σ ι H c v) : St σ ι (Az H h (.cells E f)) F W (w.setRow b g)/\Le σ ι H σ ι (Az H h (.cells E f)):=by
 have j:=s.obj h;unfold C4 at j;rw[hh]at j;obtain⟨D,C,u,h1,h2,h3,A,z⟩:=j;rw[hb]at u;cases u;have le:Le σ ι H σ ι (Az H h (.cells E f)):=by have:=Le.upd (ι:=ι) (H:=H) (A7.le_refl σ) h (ι h) (.cells E f) (by rw[hh];exact⟨λ_ e=>e,(λ_ e=>by cases e),(λ_ _ _ _ e=>by cases e)⟩);rwa [J8]at this
 refine⟨s.touch h b (λ_ _=>rfl) (λx e=>Cu _ _ e) le (λx e=>Aid w b x g e) (λ_ _=>rfl) (λo e=>by rw[h1]at e;cases e) ?_ h2 ?_ ?_ rfl rfl rfl,le⟩
 .intro x e k l;exact e (s.inj x h b k (by rw[hh];rfl) l (by rw[hb];rfl))
 .intro B _ q;exact .inr ⟨by rw[hh];rfl,q⟩
 .unfold C4;rw[Ch];exact⟨b,g,hb,h1,h2,setRow_heap w b C g E (0,0) h3,k,λi c v x y=>(hc i c v x y).mono le⟩
theorem St.setRows (s:St σ ι H F W w) (h:Nat) (E:TypeId) (sz:Nat) (xs c:List AV) (hh:H h = .rows E sz xs) (b f:Nat) (hb:ι h = .blk b f) (k:c.length=xs.length) (g:Array Value) (D:g.size=f*sz) (B:I4 σ sz c g) : St σ ι (Az H h (.rows E sz c)) F W (w.setRow b g)/\Le σ ι H σ ι (Az H h (.rows E sz c)):=by
 have j:=s.obj h;unfold C4 at j;rw[hh]at j;obtain⟨y,K,⟨i,L⟩|⟨N,u,C,i,h1,h2,h3,J,I,G⟩⟩:=j
 .rw[hb]at i;cases i
 rw[hb]at i;cases i;have le:Le σ ι H σ ι (Az H h (.rows E sz c)):=by have:=Le.upd (ι:=ι) (H:=H) (A7.le_refl σ) h (ι h) (.rows E sz c) (by rw[hh];exact⟨λ_ e=>e,(λ_ e=>by cases e),λ_ R A z e=>by cases e;exact⟨E,sz,xs,rfl,.inr ⟨k.symm,rfl,rfl⟩⟩⟩);rwa [J8]at this
 refine⟨s.touch h b (λ_ _=>rfl) (λx e=>Cu _ _ e) le (λx e=>Aid w b x g e) (λ_ _=>rfl) (λo e=>by rw[h1]at e;cases e) ?_ h2 ?_ ?_ rfl rfl rfl,le⟩
 .intro x e k l;exact e (s.inj x h b k (by rw[hh];rfl) l (by rw[hb];rfl))
 .intro M _ q;exact .inr ⟨by rw[hh];rfl,q⟩
 .unfold C4;rw[Ch];exact⟨y,ω,.inr ⟨b,f,g,hb,h1,h2,setRow_heap w b C g E (0,0) h3,D,ω,B⟩⟩
theorem St.growIn (s:St σ ι H F W w) (h:Nat) (E:TypeId) (sz:Nat) (xs c:List AV) (hh:H h = .rows E sz xs) (b f:Nat) (hb:ι h = .blk b f) (k:xs.length<c.length) (D:c.length<=140737488355328) (ht:c.length<=f) (g:Array Value) (G:g.size=f*sz) (B:I4 σ sz c g) : St σ ι (Az H h (.rows E sz c)) F W (w.setRow b g)/\Le σ ι H σ ι (Az H h (.rows E sz c)):=by
 have j:=s.obj h;unfold C4 at j;rw[hh]at j;obtain⟨y,K,⟨i,M⟩|⟨R,u,C,i,h1,h2,h3,L,J,I⟩⟩:=j
 .rw[hb]at i;cases i
 rw[hb]at i;cases i;have le:Le σ ι H σ ι (Az H h (.rows E sz c)):=by have:=Le.upd (ι:=ι) (H:=H) (A7.le_refl σ) h (ι h) (.rows E sz c) (by rw[hh];exact⟨λ_ e=>e,(λ_ e=>by cases e),λ_ S A z e=>by cases e;exact⟨E,sz,xs,rfl,.inl k⟩⟩);rwa [J8]at this
 refine⟨s.touch h b (λ_ _=>rfl) (λx e=>Cu _ _ e) le (λx e=>Aid w b x g e) (λ_ _=>rfl) (λo e=>by rw[h1]at e;cases e) ?_ h2 ?_ ?_ rfl rfl rfl,le⟩
 .intro x e k l;exact e (s.inj x h b k (by rw[hh];rfl) l (by rw[hb];rfl))
 .intro N _ q;exact .inr ⟨by rw[hh];rfl,q⟩
 .unfold C4;rw[Ch];exact⟨y,D,.inr ⟨b,f,g,hb,h1,h2,setRow_heap w b C g E (0,0) h3,G,ht,B⟩⟩
theorem St.fresh (s:St σ ι H F W w):σ w.heap.size=none/\F w.heap.size=none:=by
 have c:∀(S:A7),(∀b o,S b=some o->w.heap[b]? = some o)->S w.heap.size=none:=by intro S f;cases e:S w.heap.size with| none=>rfl| some o=>have:=f _ _ e;simp at this
 exact⟨c σ s.sto,c F λb o hb=>(s.fra b o hb).1⟩
theorem St.newRows (s:St σ ι H F W w) (h:Nat) (E:TypeId) (sz:Nat) (xs:List AV) (c:Nat) (C:Array Value) (hh:H h = .none\/∃u g f,H h = .rows u g f/\f.length<xs.length) (D:0<sz) (I:xs.length<=140737488355328) (ht:xs.length<=c) (L:C.size=c*sz) (G:I4 σ sz xs C) : St σ (Az ι h (.blk w.heap.size c)) (Az H h (.rows E sz xs)) F W (w.alloc (.cells C E))/\Le σ ι H σ (Az ι h (.blk w.heap.size c)) (Az H h (.rows E sz xs)):=by
 obtain⟨i,k⟩:=s.fresh;have le:Le σ ι H σ (Az ι h (.blk w.heap.size c)) (Az H h (.rows E sz xs)):=by
  refine Le.upd (A7.le_refl σ) h _ _ ?_;rcases hh with j|⟨u,g,f,j,K⟩
  .have l:ι h = .none:=(by have:=s.obj h;unfold C4 at this;rw[j]at this;exact this);rw[l,j];exact HLe.of_none
  .rw[j];refine⟨λb e=>?_,(λ_ e=>by cases e),λ_ N B A e=>by cases e;exact⟨u,g,f,rfl,.inl K⟩⟩;have:=s.obj h;unfold C4 at this;rw[j]at this;obtain⟨_,_,⟨q,_⟩|⟨M,y,C,q,_⟩⟩:=this <;> rw[e]at q <;> cases q
 refine⟨s.touch h w.heap.size (λx e=>Cu _ _ e) (λx e=>Cu _ _ e) le ?_ (λ_ _=>rfl) (λo z=>by rw[i]at z;cases z) ?_ k ?_ ?_ rfl rfl rfl,le⟩
 .intro b hb;show (w.heap.push _)[b]? = _;rw[Array.getElem?_push,if_neg hb]
 .intro x e J hb;have:=(s.block J hb).1;omega
 .intro b _ hb;rw[Ch]at hb;simp[Loc.block?]at hb;exact .inl hb.symm
 .unfold C4;rw[Ch];refine⟨D,I,.inr ⟨w.heap.size,c,C,Ch _ _ _,i,k,?_,L,ht,G⟩⟩;show (w.heap.push _)[w.heap.size]? = _;simp
theorem St.newNil (s:St σ ι H F W w) (h:Nat) (j:H h = .none) (E:TypeId) (sz:Nat) (k:0<sz) : St σ (Az ι h .nil) (Az H h (.rows E sz [])) F W w/\Le σ ι H σ (Az ι h .nil) (Az H h (.rows E sz [])):=by
 obtain⟨c,g⟩:=s.fresh;have f:ι h = .none:=by have:=s.obj h;unfold C4 at this;rw[j]at this;exact this
 have le:Le σ ι H σ (Az ι h .nil) (Az H h (.rows E sz [])):=Le.upd (A7.le_refl σ) h _ _ (by rw[f,j];exact HLe.of_none);refine⟨s.touch h w.heap.size (λx e=>Cu _ _ e) (λx e=>Cu _ _ e) le (λ_ _=>rfl) (λ_ _=>rfl) (λo i=>by rw[c]at i;cases i) ?_ g ?_ ?_ rfl rfl rfl,le⟩
 .intro x e l hb;have:=(s.block l hb).1;omega
 .intro b _ hb;rw[Ch]at hb;simp[Loc.block?]at hb
 .unfold C4;rw[Ch];exact⟨k,ψ,.inl ⟨Ch _ _ _,rfl⟩⟩
inductive TD where
 | int (k:IntKind)
 | bool
 | string
 | slice (e:TypeId)
 | struct (fs:List (Nat×Nat))
 | map (k e:TypeId)
 | float (k:FloatKind)
 | other
structure TI where
 d:TD
 size:Nat
 bytes:Nat
 zero:List Value
def TI.isAgg (i:TI):Bool := match i.d with
 | .struct _=>true
 | _=>false
def zok (u:TypeDesc) (z:Value):Bool := match u with
 | .struct _=>(match z with|.agg _=>true|_=>false)
 | _=>Fi z
def I5 (P:Program) (t:TypeId):Option TI := match P.info? t,P.underlying t with
 | some b,some u=> match b.zero with
  | none=>none
  | some z=> bif !(zok u z) then none else match u with
   | .int k=>some ⟨.int k,b.size,b.bytes,z.cells.toList⟩
   | .bool=>some ⟨.bool,b.size,b.bytes,z.cells.toList⟩
   | .string=>some ⟨.string,b.size,b.bytes,z.cells.toList⟩
   | .slice e=>some ⟨.slice e,b.size,b.bytes,z.cells.toList⟩
   | .map k e=>some ⟨.map k e,b.size,b.bytes,z.cells.toList⟩
   | .float k=>some ⟨.float k,b.size,b.bytes,z.cells.toList⟩
   | .struct A=> if (A.toList.all λf=>decide (0<P.cellsOf f.type)) then some ⟨.struct (A.toList.map λf=>(f.offset,P.cellsOf f.type)),b.size,b.bytes,z.cells.toList⟩ else none
   | .array _ _=>none
   | _=>some ⟨.other,b.size,b.bytes,z.cells.toList⟩
 | _,_=>none
abbrev Dq:=Nat->Option TI
def Dt (P:Program) (T:Dq):Prop:=∀t i,T t=some i->I5 P t=some i
structure Eff where
 r:AV
 rd:List (Nat×Bm)
 wr:List (Nat×Bm)
def Cp (H:Hp):List (Nat×Bm)->Hp
 | []=>H
 | p::l=>Cp (Az H p.1 p.2) l
def Nk (cs:List AV) (off:Nat) (new:List AV):List AV:=cs.take off++(new++cs.drop (off+new.length))
def Vp (fs:List (Nat×Nat)):List AV->List (Nat×AV)->Option (List AV)
 | cs,[]=>some cs
 | cs,p::u=> match fs[p.1]? with
  | none=>none
  | some q=>bif Nat.beq p.2.cells.length q.2&&Nat.ble (q.1+q.2) cs.length then Vp fs (Nk cs q.1 p.2.cells) u else none
def AV.cl1:AV->Bool
 | .val v=>Fi v
 | .sl _ _=>true
 | _=>false
def L6 (sz:Nat) (x:AV):Bool:=Nat.beq x.cells.length sz&&x.cells.all AV.cl1
def AV.isPtr:AV->Bool
 | .loc .. | .ref _ | .fn ..=>true
 | _=>false
def AV.free1:AV->Bool
 | .agg cs=>cs.all AV.cl1
 | x=>x.cl1
def AV.free:AV->Bool
 | .val _ | .sl _ _ | .ref _=>true
 | .agg cs=>cs.all AV.cl1
 | .tup cs=>cs.all AV.free1
 | .fn _ cs=>cs.all AV.cl1
 | _=>false
def Aie (op:BinOp) (a b:Int):Option Bool := match op with
 | .eql=>some (a==b)
 | .neq=>some (a != b)
 | .lss=>some (decide (a<b))
 | .leq=>some (decide (a<=b))
 | .gtr=>some (decide (a>b))
 | .geq=>some (decide (a>=b))
 | _=>none
section conc
variable {σ:A7} {ι:Cb} {H:Hp}
variable {x:AV} {v:Value}
theorem Conc.val_inv {u:Value} (h:Conc σ ι H (.val u) v):v=u:=by cases h with| cc h=>cases h;rfl
theorem Conc.of_val (v:Value):Conc σ ι H (.val v) v:=.cc (.val v)
theorem Conc.sl_inv {sz:Nat} {xs:List AV} (h:Conc σ ι H (.sl sz xs) v):CC σ (.sl sz xs) v:=by cases h with| cc h=>exact h
theorem Conc.agg_inv {cs:List AV} (h:Conc σ ι H (.agg cs) v) : ∃vs:Array Value,v = .agg vs/\vs.size=cs.length/\∀(i:Nat) (c:AV) (u:Value),cs[i]? = some c->vs[i]? = some u->Conc σ ι H c u:=by
 cases h with
 | cc h=>cases h with
  | agg cs vs b h=>exact⟨vs,rfl,b,λi c u h1 h2=>.cc (h i c u h1 h2)⟩
 | agg cs vs b h=>exact⟨vs,rfl,b,h⟩
theorem Conc.tup_inv {cs:List AV} (h:Conc σ ι H (.tup cs) v) : ∃vs:Array Value,v = .tuple vs/\vs.size=cs.length/\∀(i:Nat) (c:AV) (u:Value),cs[i]? = some c->vs[i]? = some u->Conc σ ι H c u:=by cases h with| cc h=>cases h| tup cs vs b h=>exact⟨vs,rfl,b,h⟩
theorem Conc.loc_inv {x off:Nat} (h:Conc σ ι H (.loc x off) v):∃b,ι x = .box b/\v = .pointer (some ⟨b,off,none⟩):=by cases h with| cc h=>cases h| loc _ _ b hb=>exact⟨b,hb,rfl⟩
theorem Conc.vec_inv {x n:Nat} (h:Conc σ ι H (.vec x n) v):∃b,ι x = .box b/\v = .slice (some ⟨b,0,none⟩) n n:=by cases h with| cc h=>cases h| vec _ _ b hb=>exact⟨b,hb,rfl⟩
theorem Conc.one_of (hx:x.one=true) (h:Conc σ ι H x v):Fi v=true:=by
 cases h with
 | cc h=>cases h with
  | val v=>exact hx
  | nil=>rfl
  | sl=>rfl
  | fbn=>rfl
  | fb=>rfl
  | agg=>cases hx
 | loc=>rfl
 | mp=>rfl
 | vec=>rfl
 | arr _ _ _ _ _ _ _ h=>exact h
 | el _ _ _ _ _ _ _ h=>exact h
 | ref=>rfl
 | agg=>cases hx
 | tup=>cases hx
 | fn=>rfl
theorem Aif {α:Type} {x y:α} {i:Nat} (h:[x][i]? = some y):i=0/\y=x:=by cases i with| zero=>simp at h;exact⟨rfl,h.symm⟩| succ n=>simp at h
theorem Conc.cells (h:Conc σ ι H x v) : v.cells.size=x.cells.length/\∀(i:Nat) (c:AV) (u:Value),x.cells[i]? = some c->v.cells[i]? = some u->Conc σ ι H c u:=by
 have single:∀(x:AV) (v:Value),Conc σ ι H x v->x.cells = [x]->v.cells = #[v] ->
   v.cells.size=x.cells.length/\∀(i:Nat) (c:AV) (u:Value),x.cells[i]? = some c->v.cells[i]? = some u->Conc σ ι H c u:=by intro x v h J I;rw[J,I];refine⟨rfl,λi c u h1 h2=>?_⟩;obtain⟨rfl,rfl⟩:=Aif h1;simp at h2;subst h2;exact h
 cases h with
 | cc hc=>
  cases hc with
  | val v=>cases v with| agg vs=>refine⟨by simp[Value.cells,AV.cells],λi c u h1 h2=>?_⟩;simp only[AV.cells,Value.cells,getElem?_map]at h1 h2;rw[G6,h2]at h1;simp at h1;subst h1;exact .of_val u| _=>exact single _ _ (.of_val _) rfl rfl
  | nil sz a cap=>exact single _ _ (.cc (.nil sz a cap)) rfl rfl
  | sl xs b off cap sz C E fr g z G hc h1 A q y=>exact single _ _ (.cc (.sl xs b off cap sz C E fr g z G hc h1 A q y)) rfl rfl
  | agg cs vs q h=>exact⟨q,λi c u h1 h2=>.cc (h i c u h1 h2)⟩
  | fbn s a cap h0=>exact single _ _ (.cc (.fbn s a cap h0)) rfl rfl
  | fb s b cap C z h0 y A q hb=>exact single _ _ (.cc (.fb s b cap C z h0 y A q hb)) rfl rfl
 | loc x off b hb=>exact single _ _ (.loc x off b hb) rfl rfl
 | mp x b hb=>exact single _ _ (.mp x b hb) rfl rfl
 | vec x n b hb=>exact single _ _ (.vec x n b hb) rfl rfl
 | arr x k off len v D hv l=>exact single _ _ (.arr x k off len v D hv l) rfl (by cases v <;> first|rfl|cases l)
 | el x k i j v D hv l=>exact single _ _ (.el x k i j v D hv l) rfl (by cases v <;> first|rfl|cases l)
 | ref cs b off C E fr g z hc h1 A=>exact single _ _ (.ref cs b off C E fr g z hc h1 A) rfl rfl
 | agg cs vs q h=>exact⟨q,h⟩
 | tup cs vs q h=>exact single _ _ (.tup cs vs q h) rfl rfl
 | fn f B vs q h=>exact single _ _ (.fn f B vs q h) rfl rfl
theorem Conc.cc_of (hx:x.cl1=true) (h:Conc σ ι H x v):CC σ x v/\Fi v=true:=by
 cases h with
 | cc h=>cases h with
  | val v=>exact⟨.val v,hx⟩
  | nil sz a cap=>exact⟨.nil sz a cap,rfl⟩
  | sl xs b off cap sz C E fr g f i hc h1 k j c=>exact⟨.sl xs b off cap sz C E fr g f i hc h1 k j c,rfl⟩
  | agg=>cases hx
  | fbn=>cases hx
  | fb=>cases hx
 | _=>cases hx
end conc
def Cn (P:Program) (o:Oper) (ρ:Operand->AV) (b:Eff):Prop := ∀(σ:A7) (ι:Cb) (H:Hp) (F:A7) (W w:World) (a:Act) (next:Act->World->Prop) (Q:Exit->Act->World->Prop), St σ ι H F W w->(∀x∈o.op.operands.toList,Conc σ ι H (ρ x) (a.eval x))->(∀p∈b.rd,H p.1=p.2) -> (∀c f v w',Le σ ι H c f (Cp H b.wr)->St c f (Cp H b.wr) F W w'->Conc c f (Cp H b.wr) b.r v->next (a.put o.dst v) w')->o.wp P a w next Q
section
variable {P:Program} {o:Oper} {ρ:Operand->AV} {a:Act} {w w':World} {next:Act->World->Prop} {Q:Exit->Act->World->Prop}
variable {p:Addr} {T:Dq} {h off:Nat} {x:Operand} {i:TI} {E t:TypeId} {v:Value}
theorem Gx (h:(execOp a.eval o).run P w = .ok (.value v) w') (b:next (a.put o.dst v) w'):o.wp P a w next Q:=by unfold Oper.wp;rw[h];exact b
theorem Aig (h:(execOp a.eval o).run P w = .ok .skip w') (b:next (a.put o.dst undef) w'):o.wp P a w next Q:=by unfold Oper.wp;rw[h];exact b
theorem Fj {r:AV} (h:∀σ ι H a w,(∀x∈o.op.operands.toList,Conc σ ι H (ρ x) (Act.eval a x))->∃v,(execOp a.eval o).run P w = .ok (.value v) w/\Conc σ ι H r v) : Cn P o ρ ⟨r,[],[]⟩:=by
 intro σ ι H F W w a next Q s u _ A
 obtain⟨v,b,C⟩:=h σ ι H a w u;exact Gx b (A σ ι v w (Le.refl _ _ _) s C)
theorem Ayr (b:o.op = .move x):Cn P o ρ ⟨ρ x,[],[]⟩ := Fj λσ ι H a w u=>⟨a.eval x,by simp[execOp,b],u x (by simp[b,Op.operands])⟩
theorem Vq (b:o.op = .assign x):Cn P o ρ ⟨ρ x,[],[]⟩ := Fj λσ ι H a w u=>⟨a.eval x,by simp[execOp,b],u x (by simp[b,Op.operands])⟩
theorem Ays {c y:Operand} {t:Bool} (b:o.op = .pick c x y) (C:ρ c = .val (.bool t)):Cn P o ρ ⟨bif t then ρ x else ρ y,[],[]⟩ := Fj λσ ι H a w A=>by have u:=A c (by simp[b,Op.operands]);rw[C]at u;have u:=u.val_inv;cases t with| true=>exact⟨a.eval x,by simp[execOp,b,u,asBool],A x (by simp[b,Op.operands])⟩| false=>exact⟨a.eval y,by simp[execOp,b,u,asBool],A y (by simp[b,Op.operands])⟩
theorem Fg (h:I5 P t=some i) : ∃b u z,P.info? t=some b/\P.underlying t=some u/\b.zero=some z/\b.size=i.size/\b.bytes=i.bytes/\i.zero=z.cells.toList /\ (match i.d with
       | .int k=>u = .int k
       | .bool=>u = .bool
       | .string=>u = .string
       | .slice e=>u = .slice e
       | .map k e=>u = .map k e
       | .float k=>u = .float k
       | .struct fs=>∃A,u = .struct A/\fs=A.toList.map (λf=>(f.offset,P.cellsOf f.type))/\∀f∈A.toList,0<P.cellsOf f.type
       | .other=>(∀fs,u≠.struct fs)/\(∀n e,u≠.array n e)):=by
  unfold I5 at h;split at h
  . rename_i b u hi C;split at h
    . cases h
    . rename_i z j;refine⟨b,u,z,hi,C,j,?_⟩;cases g:zok u z with
      | false=>rw[g]at h;cases h
      | true=>
      rw[g]at h;simp only[Bool.not_true,cond_false]at h;split at h;all_goals first
        | (cases h;done)
        | (cases h;refine⟨rfl,rfl,rfl,?_⟩;first|rfl|exact⟨(by intro fs e;simp_all),(by intro n e' e;simp_all)⟩)
        | skip
      . split at h
        . rename_i c;cases h;refine⟨rfl,rfl,rfl,_,rfl,rfl,?_⟩;intro f D;simp only[En,decide_eq_true_eq]at c;exact c f D
        . cases h
  . cases h
theorem Ayt (h:I5 P t=some i) (w:World) : ∃z,(zeroValue t).run P w = .ok z w/\z.cells.toList=i.zero/\(i.isAgg=true->∃D,z = .agg D)/\(i.isAgg=false->Fi z=true):=by
  obtain⟨j,u,z,A,G,C,x,s,l,c⟩:=Fg h;refine⟨z,by simp[zeroValue,typeInfo,program,Sem.run,A,C],l.symm,?_⟩;have b:zok u z=true:=(by unfold I5 at h;rw[A,G]at h;simp only[C]at h;cases g:zok u z with| false=>rw[g]at h;cases h| true=>rfl);unfold TI.isAgg;cases I:i.d <;> rw[I]at c <;> simp only[]at c ⊢;all_goals first
    | (subst c;exact⟨nofun,λ_=>b⟩)
    | (obtain⟨f,rfl,_⟩:=c
       refine⟨λ_=>?_,λh=>by cases h⟩
       unfold zok at b
       cases z <;> first|exact⟨_,rfl⟩|cases b)
    | (obtain⟨k,q⟩:=c
       refine⟨nofun,λ_=>?_⟩
       unfold zok at b
       cases u <;> first|exact b|exact (k _ rfl).elim)
theorem Ac5 (h:I5 P t=some i) (w:World):(isAgg t).run P w = .ok i.isAgg w:=by
 obtain⟨c,u,z,D,A,G,q,l,k,b⟩:=Fg h;unfold isAgg TI.isAgg;rw[Sem.run_bind,run_underlying A];cases C:i.d <;> rw[C]at b <;> simp only[Result.andThen_ok];all_goals first
  | (subst b;rfl)
  | (obtain⟨f,rfl,_⟩:=b;rfl)
  | (obtain⟨j,g⟩:=b;cases u <;> first|rfl|exact (j _ rfl).elim|exact (g _ _ rfl).elim)
theorem Pp (h:I5 P t=some i) (w:World):(sizeOf t).run P w = .ok i.size w:=by obtain⟨b,u,z,A,C,D,c,j,g,f⟩:=Fg h;simp[sizeOf,typeInfo,program,Sem.run,A,c]
theorem An2 (h:I5 P t=some i) (w:World):∃z:Value,z.cells.toList=i.zero/\(zeroValue t).run P w = .ok z w:=by obtain⟨b,u,z,A,D,C,j,g,c,f⟩:=Fg h;exact⟨z,c.symm,by simp[zeroValue,typeInfo,program,Sem.run,A,C]⟩
theorem Ayu (q:Dt P T) (h:Nat) (k:o.op = .alloc t) (ht:T t=some i) : Cn P o ρ ⟨.loc h 0,[(h,.none)],[(h,.cells t (i.zero.map .val))]⟩:=by
 intro σ ι H F W w a next Q s G b A
 have l:H h = .none:=b (h,.none) ψ;obtain⟨z,f,g⟩:=An2 (q t i ht) w;obtain⟨C,le⟩:=s.newBox h l t (i.zero.map .val) z.cells (by simp[<-f]) (by intro j c v u D;rw[<-f,getElem?_map,G6,D]at u;simp at u;subst u;exact .of_val v);refine Gx (v:=.pointer (some ⟨w.heap.size,0,none⟩)) (w':=w.alloc (.cells z.cells t)) ?_ (A σ _ _ _ le C (.loc h 0 w.heap.size (Ch _ _ _)));simp[execOp,k,Instr.alloc,g,newVar,newRow,newObj,Sem.run]
theorem Ayv (h:Nat) (c:o.op = .box t x) : Cn P o ρ ⟨.loc h 0,[(h,.none)],[(h,.cells t (ρ x).cells)]⟩:=by
 intro σ ι H F W w a next Q s A b C
 have f:H h = .none:=b (h,.none) ψ;have u:=(A x (by simp[c,Op.operands])).cells;obtain⟨D,le⟩:=s.newBox h f t (ρ x).cells (a.eval x).cells u.1 u.2;refine Gx (v:=.pointer (some ⟨w.heap.size,0,none⟩)) (w':=w.alloc (.cells (a.eval x).cells t)) ?_ (C σ _ _ _ le D (.loc h 0 w.heap.size (Ch _ _ _)));simp[execOp,c,Instr.box,newVar,newRow,newObj,Sem.run]
theorem Kz {b:Nat} {C:Array Value} {c:Nat×Nat} (h:w.heap[b]? = some (.cells C E c)):w.cell? ⟨b,off,none⟩=C[off]?:=by simp[World.cell?,h]
theorem Lq (b off n:Nat):(⟨b,off,none⟩:Addr).add n=⟨b,off+n,none⟩:=by unfold Addr.add;split <;> simp_all
theorem Aih (c:o.op = .load t x) (hi:I5 P t=some i) (b:i.isAgg=false) (hp:a.eval x = .pointer (some p)) (A:w.cell? p=some v) : (execOp a.eval o).run P w = .ok (.value v) w:=by have u:=Ac5 hi w;rw[b]at u;simp[execOp,c,Instr.loadAt,hp,Instr.sureAddr,loadVar,u,A]
theorem Aii (c:o.op = .load t x) (hi:I5 P t=some i) (b:i.isAgg=true) (hp:a.eval x = .pointer (some p)) (cs:List Value) (f:cs.length=i.size) (C:∀(j:Nat) (v:Value),cs[j]? = some v->w.cell? (p.add j)=some v) : (execOp a.eval o).run P w = .ok (.value (.agg cs.toArray)) w:=by have u:=Ac5 hi w;rw[b]at u;have D:=Pp hi w;have A:=run_loadCells_list (P:=P) w p cs C;rw[f]at A;simp[execOp,c,Instr.loadAt,hp,Instr.sureAddr,loadVar,u,D,A]
theorem Conc.ref_inv {σ:A7} {ι:Cb} {H:Hp} {cs:List AV} (h:Conc σ ι H (.ref cs) v):∃(b off:Nat) (C:Array Value) (E:TypeId) (f:Nat×Nat) (g:Nat->Value), v = .pointer (some ⟨b,off,none⟩)/\σ b=some (.cells C E f)/\(∀(j:Nat) (c:AV),cs[j]? = some c->CC σ c (g j)/\Fi (g j)=true)/\(∀(j:Nat),j<cs.length->C[off+j]? = some (g j)):=by cases h with| cc h=>cases h| ref cs b off C E f g i hc h1 k=>exact⟨b,off,C,E,f,g,rfl,i,λj c h=>⟨hc j c h,h1 j c h⟩,k⟩
theorem Ayw (u:Dt P T) {c:AV} {cs:List AV} (l:o.op = .load t x) (ht:T t=some i) (k:i.isAgg=false) (A:ρ x = .ref (c::cs)) : Cn P o ρ ⟨c,[],[]⟩:=by
 intro σ ι H F W w a next Q s j _ D
 have h:=j x (by simp[l,Op.operands]);rw[A]at h;obtain⟨b,off,C,E,J,g,G,q,I,y⟩:=h.ref_inv;have f:w.cell? ⟨b,off,none⟩=some (g 0):=by rw[Kz (s.sto _ _ q)];exact y 0 ψ
 exact Gx (Aih l (u t i ht) k G f) (D σ ι _ w (Le.refl _ _ _) s (.cc (I 0 c ψ).1))
theorem Ayx (y:Dt P T) {cs:List AV} (l:o.op = .load t x) (ht:T t=some i) (k:i.isAgg=true) (K:ρ x = .ref cs) (A:i.size<=cs.length) : Cn P o ρ ⟨.agg (cs.take i.size),[],[]⟩:=by
 intro σ ι H F W w a next Q s f _ L
 have h:=f x (by simp[l,Op.operands]);rw[K]at h;obtain⟨b,off,C,E,R,g,M,q,N,z⟩:=h.ref_inv;refine Gx (Aii l (y t i ht) k M ((range i.size).map g) ψ ?_) (L σ ι _ w (Le.refl _ _ _) s ?_)
 .intro j v G;rw[getElem?_map]at G;by_cases D:j<i.size
  .rw[getElem?_range D]at G;simp at G;subst G;rw[Lq,Kz (s.sto _ _ q)];exact z j ω
  .rw[getElem?_eq_none ζ]at G;cases G
 .refine .agg _ _ ζ λj c u I J=>?_;have D:j<i.size:=(by have:=(G1.1 I).1;simp at this;omega);rw[H6 D]at I;simp[D]at J;subst J;exact .cc (N j c I).1
theorem Ayy (y:Dt P T) {cs:List AV} {c:AV} (q:o.op = .load t x) (ht:T t=some i) (l:i.isAgg=false) (I:ρ x = .loc h off) (G:cs[off]? = some c):Cn P o ρ ⟨c,[(h,.cells E cs)],[]⟩:=by
 intro σ ι H F W w a next Q s k j J
 have K:H h = .cells E cs:=j (h,.cells E cs) ψ;have hp:=k x (by simp[q,Op.operands]);rw[I]at hp;obtain⟨b,L,M⟩:=hp.loc_inv;have f:=s.obj h;unfold C4 at f;rw[K]at f;obtain⟨B,C,u,_,_,N,A,z⟩:=f;rw[L]at u;cases u;have D:off<C.size:=by rw[A];exact (G1.1 G).1
 have g:w.cell? ⟨b,off,none⟩=some C[off]:=by rw[Kz N];simp[D]
 exact Gx (Aih q (y t i ht) l M g) (J σ ι _ w (Le.refl _ _ _) s (z off c _ G (by simp[D])))
theorem Ayz (z:Dt P T) {cs:List AV} (q:o.op = .load t x) (ht:T t=some i) (l:i.isAgg=true) (M:ρ x = .loc h off) (B:off+i.size<=cs.length):Cn P o ρ ⟨.agg ((cs.drop off).take i.size),[(h,.cells E cs)],[]⟩:=by
 intro σ ι H F W w a next Q s k g N
 have R:H h = .cells E cs:=g (h,.cells E cs) ψ;have hp:=k x (by simp[q,Op.operands]);rw[M]at hp;obtain⟨b,S,U⟩:=hp.loc_inv;have f:=s.obj h;unfold C4 at f;rw[R]at f;obtain⟨G,C,y,_,_,V,D,A⟩:=f;rw[S]at y;cases y;refine Gx (Aii q (z t i ht) l U ((C.toList.drop off).take i.size) ζ ?_) (N σ ι _ w (Le.refl _ _ _) s ?_)
 .intro j v J;have I:j<i.size:=(by have:=(G1.1 J).1;simp at this;omega);rw[H6 I,getElem?_drop,G6]at J;rw[Lq,Kz V];exact J
 .refine .agg _ _ ζ λj c u K L=>?_;have I:j<i.size:=(by have:=(G1.1 K).1;simp at this;omega);rw[H6 I,getElem?_drop]at K;rw[getElem?_toArray,H6 I,getElem?_drop,G6]at L;exact A _ c u K L
end
section
variable {P:Program} {o:Oper} {ρ:Operand->AV} {a:Act} {w w':World} {next:Act->World->Prop} {Q:Exit->Act->World->Prop}
variable {σ:A7} {ι:Cb} {T:Dq} {H:Hp} {xs:List AV} {b h j k n off sz:Nat} {x y:Operand} {i:TI} {E t:TypeId} {v:Value}
theorem Conc.el_inv {i:Nat} (hh:H h = .rows E sz xs) (hk:xs.length=k) (hc:Conc σ ι H (.el h k i j) v) : ∃b c,ι h = .blk b c/\v = .pointer (some ⟨b,i*sz+j,none⟩):=by
 cases hc with
 | cc h=>cases h
 | el _ _ _ _ _ g hv f=>
  have:=(hv E sz xs hh).2 hk;unfold An1 at this;split at this
  .rename_i b c e;exact⟨b,c,e,this⟩
  .exact this.elim
theorem Conc.arr_inv {len:Nat} (hh:H h = .rows E sz xs) (hk:xs.length=k) (hc:Conc σ ι H (.arr h k off len) v) : Hq (ι h) sz off len v:=by cases hc with| cc h=>cases h| arr _ _ _ _ _ c hv b=>exact (hv E sz xs hh).2 hk
theorem St.rowsAt {F:A7} {W w:World} (s:St σ ι H F W w) (hh:H h = .rows E sz xs) {c:Nat} (hb:ι h = .blk b c) : ∃C,w.heap[b]? = some (.cells C E (0,0))/\C.size=c*sz/\xs.length<=c/\I4 σ sz xs C:=by
 have g:=s.obj h;unfold C4 at g;rw[hh]at g;obtain⟨_,_,⟨f,_⟩|⟨q,i,C,f,h1,h2,h3,l,k,j⟩⟩:=g
 .rw[hb]at f;cases f
 .rw[hb]at f;cases f;exact⟨C,h3,l,k,j⟩
theorem Ay0 (L:Dt P T) {y c:AV} (A:o.op = .load t x) (ht:T t=some i) (z:i.isAgg=false) (V:ρ x = .el h k n j) (u:xs.length=k) (K:xs[n]? = some y) (R:y.cells[j]? = some c):Cn P o ρ ⟨c,[(h,.rows E sz xs)],[]⟩:=by
 intro σ ι H F W w a next Q s q l X
 have S:H h = .rows E sz xs:=l (h,.rows E sz xs) ψ;have hp:=q x (by simp[A,Op.operands]);rw[V]at hp;obtain⟨b,B,hb,hv⟩:=hp.el_inv S u;obtain⟨C,h3,N,M,g,I,G,D⟩:=s.rowsAt S hb;have J:=(G1.1 K).1;have U:=(G1.1 R).1;rw[I n y K]at U;have f:w.cell? ⟨b,n*sz+j,none⟩=some (g n j):=by rw[Kz h3];exact D n j J U
 exact Gx (Aih A (L t i ht) z hv f) (X σ ι _ w (Le.refl _ _ _) s (.cc (G n y j c K R).1))
theorem Ay1 (N:Dt P T) {y:AV} (B:o.op = .load t x) (ht:T t=some i) (A:i.isAgg=true) (hx:ρ x = .el h k n j) (z:xs.length=k) (X:xs[n]? = some y) (R:j+i.size<=y.cells.length):Cn P o ρ ⟨.agg ((y.cells.drop j).take i.size),[(h,.rows E sz xs)],[]⟩:=by
 intro σ ι H F W w a next Q s l f hk
 have hh:H h = .rows E sz xs:=f (h,.rows E sz xs) ψ;have hp:=l x (by simp[B,Op.operands]);rw[hx]at hp;obtain⟨b,D,hb,hv⟩:=hp.el_inv hh z;obtain⟨C,h3,U,S,g,J,I,G⟩:=s.rowsAt hh hb;have M:=(G1.1 X).1;have L:=J n y X;refine Gx (Aii B (N t i ht) A hv ((range i.size).map λq=>g n (j+q)) ψ ?_) (hk σ ι _ w (Le.refl _ _ _) s ?_)
 .intro q v V;rw[getElem?_map]at V;by_cases K:q<i.size
  .rw[getElem?_range K]at V;simp at V;subst V;rw[Lq,Kz h3,Nat.add_assoc];exact G n (j+q) M ω
  .rw[getElem?_eq_none ζ]at V;cases V
 .refine .agg _ _ ζ λq c u h1 h2=>?_;have K:q<i.size:=(by have:=(G1.1 h1).1;simp at this;omega);rw[H6 K,getElem?_drop]at h1;simp[K]at h2;subst h2;exact .cc (I n y (j+q) c X h1).1
theorem Aij (v:Value):v.oneCell'=Fi v:=by cases v <;> rfl
theorem An3 (hi:I5 P t=some i) {C:Array Value} (hb:w.heap[b]? = some (.cells C E (0,0))) (c:v.cells.size=i.size) (f:off+v.cells.size<=C.size) (D:∀u∈v.cells.toList,Fi u=true) : (Instr.storeAt t (.pointer (some ⟨b,off,none⟩)) v).run P w = .ok () (w.setRow b (C.toList.take off++v.cells.toList++C.toList.drop (off+v.cells.toList.length)).toArray):=by have G:=Pp hi w;have A:=run_storeCells_at (P:=P) b off E v.cells.toList 0 C w hb (by simpa using f) (λu I=>by rw[Aij];exact D u I);simp only[Nat.add_zero]at A;simp[Instr.storeAt,Instr.sureAddr,storeVar,G,c,A]
theorem Aik (cs:List AV) (off:Nat) (new:List AV) (b:off+new.length<=cs.length) (i:Nat) : (Nk cs off new)[i]? = if i<off then cs[i]? else if i<off+new.length then new[i-off]? else cs[i]?:=by
 unfold Nk;by_cases u:i<off
 .rw[if_pos u,getElem?_append_left ζ,H6 u]
 .rw[if_neg u,getElem?_append_right ζ];have:(cs.take off).length=off:=ζ;rw[this];by_cases A:i<off+new.length
  .rw[if_pos A,getElem?_append_left ω]
  .rw[if_neg A,getElem?_append_right ω,getElem?_drop];congr 1;omega
theorem Ail (cs:List AV) (off:Nat) (new:List AV) (b:off+new.length<=cs.length):(Nk cs off new).length=cs.length:=by unfold Nk;simp;omega
theorem Vr (C:Array Value) (off:Nat) (new:List Value) (c:off+new.length<=C.size) (i:Nat) : ((C.toList.take off++new++C.toList.drop (off+new.length)).toArray)[i]? = if i<off then C[i]? else if i<off+new.length then new[i-off]? else C[i]?:=by
 rw[getElem?_toArray,append_assoc];have b:off+new.length<=C.toList.length:=by simpa using c
 by_cases u:i<off
 .rw[if_pos u,getElem?_append_left (by simp at b ⊢;omega),H6 u,G6]
 .rw[if_neg u,getElem?_append_right (by simp at b ⊢;omega)];have:(C.toList.take off).length=off:=(by simp at b ⊢;omega);rw[this];by_cases A:i<off+new.length
  .rw[if_pos A,getElem?_append_left ω]
  .rw[if_neg A,getElem?_append_right ω,getElem?_drop,G6];congr 1;omega
theorem Ay2 {x:AV} (C:Conc σ ι H x v) (D:x.cells.all AV.one=true):∀u∈v.cells.toList,Fi u=true:=by
 intro u G;obtain⟨n,b⟩:=getElem?_of_mem G;have c:=C.cells;rw[G6]at b;have A:n<x.cells.length:=by rw[<-c.1];exact (Array.getElem?_eq_some_iff.1 b).1
 have:=c.2 n x.cells[n] u (getElem?_eq_getElem A) b;exact this.one_of (En.1 D _ (getElem_mem A))
theorem Ay3 (D:Dt P T) {cs:List AV} (z:o.op = .store t x y) (ht:T t=some i) (V:ρ x = .loc h off) (G:(ρ y).cells.length=i.size) (I:off+i.size<=cs.length) (X:(ρ y).cells.all AV.one=true) : Cn P o ρ ⟨.val undef,[(h,.cells E cs)],[(h,.cells E (Nk cs off (ρ y).cells))]⟩:=by
 intro σ ι H F W w a next Q s q u hk
 have M:H h = .cells E cs:=u (h,.cells E cs) ψ;have hp:=q x (by simp[z,Op.operands]);have N:=q y (by simp[z,Op.operands]);rw[V]at hp;obtain⟨b,R,hv⟩:=hp.loc_inv;have g:=s.obj h;unfold C4 at g;rw[M]at g;obtain⟨L,C,B,_,_,h3,J,A⟩:=g;rw[R]at B;cases B;have k:=N.cells;have l:=An3 (P:=P) (w:=w) (D t i ht) (off:=off) (v:=a.eval y) h3 ω ω (Ay2 N X);obtain⟨s',le⟩:=s.setBox h E cs (Nk cs off (ρ y).cells) M b R (C.toList.take off++(a.eval y).cells.toList++C.toList.drop (off+(a.eval y).cells.toList.length)).toArray (by rw[Ail _ _ _ ω];simp;omega) (by
   intro j c v K f;rw[Aik _ _ _ ω]at K;rw[Vr _ _ _ ζ]at f;simp only[Array.length_toList,k.1]at f;by_cases S:j<off
   .rw[if_pos S]at K f;exact A j c v K f
   .rw[if_neg S]at K f;by_cases U:j<off+(ρ y).cells.length
    .rw[if_pos U]at K f;rw[G6]at f;exact k.2 _ c v K f
    .rw[if_neg U]at K f;exact A j c v K f);refine Aig (w':=_) ?_ (hk σ ι undef _ le s' (.of_val _));simp[execOp,z,hv,l]
def Yi (x:AV) (j:Nat) (new:List AV):AV := match x with
 | .agg cs=>.agg (Nk cs j new)
 | _=>new.headD x
theorem Ay4 {x:AV} {new:List AV} (f:j+new.length<=x.cells.length) (h:new≠[]) (C:∀c∈new,c.cl1=true) (D:∀G,x≠.val (.agg G)) : (Yi x j new).cells=Nk x.cells j new:=by
 unfold Yi;split
 .rfl
 .rename_i I;have b:x.cells = [x]:=by
   cases x with
   | val v=>cases v <;> first|rfl|exact (D _ rfl).elim
   | agg cs=>exact (I cs rfl).elim
   | _=>rfl
  rw[b]at f ⊢;cases new with
  | nil=>exact (h rfl).elim
  | cons c u=>
   simp at f;have J:j=0:=ω;have g:u = []:=eq_nil_of_length_eq_zero ω;subst J g;have A:=C c ψ;cases c with
   | val v=>cases v <;> first|rfl|cases A
   | sl _ _=>rfl
   | _=>cases A
theorem Ay5 (hT:Dt P T) {z:AV} (ho:o.op = .store t x y) (ht:T t=some i) (hx:ρ x = .el h k n j) (a7:xs.length=k) (U:xs[n]? = some z) (hs:(ρ y).cells.length=i.size) (ab:0<i.size) (hl:j+i.size<=z.cells.length) (h1:(ρ y).cells.all AV.cl1=true) (Y:∀vs,z≠.val (.agg vs)) : Cn P o ρ ⟨.val undef,[(h,.rows E sz xs)],[(h,.rows E sz (xs.set n (Yi z j (ρ y).cells)))]⟩:=by
 intro σ ι H F W w a next Q s M a1 hk
 have hh:H h = .rows E sz xs:=a1 (h,.rows E sz xs) ψ;have hp:=M x (by simp[ho,Op.operands]);have hy:=M y (by simp[ho,Op.operands]);rw[hx]at hp;obtain⟨b,I,hb,hv⟩:=hp.el_inv hh a7;obtain⟨C,h3,h4,h5,g,r1,X,S⟩:=s.rowsAt hh hb;have hn:=(G1.1 U).1;have Z:=r1 n z U;have G:=hy.cells;have a6:(ρ y).cells≠[]:=by intro e;rw[e]at hs;simp at hs;omega
 have L:=Ay4 (x:=z) (j:=j) (new:=(ρ y).cells) ω a6 (λc hc=>En.1 h1 c hc) Y;have a8:∀u∈(a.eval y).cells.toList,Fi u=true:=by intro u hu;obtain⟨q,hq⟩:=getElem?_of_mem hu;rw[G6]at hq;have K:q<(ρ y).cells.length:=(by rw[<-G.1];exact (Array.getElem?_eq_some_iff.1 hq).1);exact ((G.2 q _ u (getElem?_eq_getElem K) hq).cc_of (En.1 h1 _ (getElem_mem K))).2
 have aa:n*sz+sz<=C.size:=by rw[h4];have:(n+1)*sz<=I*sz:=Nat.mul_le_mul_right sz ω;rw[E6]at this;omega
 have J:=An3 (P:=P) (w:=w) (hT t i ht) (off:=n*sz+j) (v:=a.eval y) h3 ω ω a8;let D:Nat->Nat->Value:=λn' f=>if n'=n/\j<=f/\f<j+(ρ y).cells.length then ((a.eval y).cells[f-j]?).getD undef else g n' f
 obtain⟨s',le⟩:=s.setRows h E sz xs (xs.set n (Yi z j (ρ y).cells)) hh b I hb ψ (C.toList.take (n*sz+j)++(a.eval y).cells.toList++C.toList.drop (n*sz+j+(a.eval y).cells.toList.length)).toArray ζ (by
   refine⟨D,?_,?_,?_⟩
   .intro i' V A;by_cases e:i'=n
    .subst e;rw[getElem?_set_self hn]at A;cases A;rw[L,Ail _ _ _ ω];exact Z
    .rw[getElem?_set_ne ω]at A;exact r1 i' V A
   .intro i' V f R A l;by_cases e:i'=n
    .subst e;rw[getElem?_set_self hn]at A;cases A;rw[L,Aik _ _ _ ω]at l;show CC σ R (D i' f)/\Fi (D i' f)=true;by_cases g1:f<j
     .rw[if_pos g1]at l;have:D i' f=g i' f:=if_neg ω;rw[this];exact X i' z f R U l
     .rw[if_neg g1]at l;by_cases g2:f<j+(ρ y).cells.length
      .rw[if_pos g2]at l;have K:f-j<(a.eval y).cells.size:=ω;have:D i' f=(a.eval y).cells[f-j]:=(by show (if _ then _ else _)=_;rw[if_pos ⟨rfl,ω,g2⟩];simp[K]);rw[this];exact (G.2 (f-j) R _ l (by simp[K])).cc_of (En.1 h1 _ (Fq l))
      .rw[if_neg g2]at l;have:D i' f=g i' f:=if_neg ω;rw[this];exact X i' z f R U l
    .rw[getElem?_set_ne ω]at A;have:D i' f=g i' f:=if_neg ω;rw[this];exact X i' V f R A l
   .intro i' f B a0;simp at B;rw[Vr _ _ _ ζ];simp only[Array.length_toList,G.1];by_cases g0:i'=n
    .subst g0;by_cases g1:f<j
     .rw[if_pos ω];have:D i' f=g i' f:=if_neg ω;rw[this];exact S i' f B a0
     .rw[if_neg ω];by_cases g2:f<j+(ρ y).cells.length
      .rw[if_pos ω,G6];have K:f-j<(a.eval y).cells.size:=ω;have:D i' f=(a.eval y).cells[f-j]:=(by show (if _ then _ else _)=_;rw[if_pos ⟨rfl,ω,g2⟩];simp[K]);rw[this,show i' * sz+f-(i' * sz+j)=f-j by omega];simp[K]
      .rw[if_neg ω];have:D i' f=g i' f:=if_neg ω;rw[this];exact S i' f B a0
    .have:D i' f=g i' f:=if_neg ω;rw[this];have N:i' * sz+f<n*sz+j\/n*sz+j+(ρ y).cells.length<=i' * sz+f:=by
      rcases Nat.lt_or_gt_of_ne g0 with K|a2
      .left;have:(i' + 1)*sz<=n*sz:=Nat.mul_le_mul_right sz ω;rw[E6]at this;omega
      .right;have:(n+1)*sz<=i' * sz:=Nat.mul_le_mul_right sz ω;rw[E6]at this;omega
     rcases N with K|a3
     .rw[if_pos K];exact S i' f B a0
     .rw[if_neg ω,if_neg ω];exact S i' f B a0);refine Aig (w':=_) ?_ (hk σ ι undef _ le s' (.of_val _));simp[execOp,ho,hv,J]
end
section
variable {P:Program} {o:Oper} {ρ:Operand->AV} {a:Act} {w w':World} {next:Act->World->Prop} {Q:Exit->Act->World->Prop}
variable {σ:A7} {op:BinOp} {b:Bool} {T:Dq} {m:Int} {g k:IntKind} {fs:List (Nat×Nat)} {xs:List AV} {h n off sz:Nat} {q:Nat×Nat} {x y:Operand} {p:Option Addr} {i i' j:TI} {E d e s t:TypeId} {v:Value}
theorem D9 {ι:Cb} {H:Hp} (h:ρ x = .val v) (u:Conc σ ι H (ρ x) (a.eval x)):a.eval x=v:=by rw[h]at u;exact u.val_inv
theorem Ay6 (b:o.op = .nilCheck x) (hp:(ρ x).isPtr=true):Cn P o ρ ⟨ρ x,[],[]⟩ := Fj λσ ι H a w A=>by have h:=A x (by simp[b,Op.operands]);refine⟨a.eval x,?_,h⟩;have:(∃p,a.eval x = .pointer (some p))\/∃f u,a.eval x = .func (.func f) #[] u:=(by generalize ρ x=y at h hp;generalize a.eval x=v at h;cases h with| cc h=>cases h <;> cases hp| loc=>exact .inl ⟨_,rfl⟩| mp=>cases hp| vec=>cases hp| arr=>cases hp| el=>cases hp| ref=>exact .inl ⟨_,rfl⟩| agg=>cases hp| tup=>cases hp| fn=>exact .inr ⟨_,_,rfl⟩);rcases this with⟨p,hp⟩|⟨f,u,hp⟩ <;> simp[execOp,b,hp]
theorem S6 {b:TypeId} {n:Int} (f:o.op = .binOp op t x y b) (u:a.eval x = .int k m) (A:a.eval y = .int k n) {r:Value} (c:(binOp op t (.int k m) (.int k n)).run P w = .ok r w):(execOp a.eval o).run P w = .ok (.value r) w:=by
 have g:(eqGuard op t x y (.int k m) (.int k n)).run P w = .ok () w:=by unfold eqGuard;cases op <;> simp
 simp only[execOp,f,u,A,Sem.run_bind,g,Result.andThen_ok,c,Sem.run_pure]
theorem Ay7 {f:TypeId} {n c:Int} (b:o.op = .binOp .add t x y f) (u:ρ x = .val (.int k m)) (A:ρ y = .val (.int k n)) (C:k.wrap (m+n)=c) : Cn P o ρ ⟨.val (.int k c),[],[]⟩ := Fj λσ ι H a w h=>⟨_,S6 b (D9 u (h x (by simp[b,Op.operands]))) (D9 A (h y (by simp[b,Op.operands]))) (by simp[binOp,Op.intArith,C]),.of_val _⟩
theorem Ay8 {f:TypeId} {n c:Int} (b:o.op = .binOp .sub t x y f) (u:ρ x = .val (.int k m)) (A:ρ y = .val (.int k n)) (C:k.wrap (m-n)=c) : Cn P o ρ ⟨.val (.int k c),[],[]⟩ := Fj λσ ι H a w h=>⟨_,S6 b (D9 u (h x (by simp[b,Op.operands]))) (D9 A (h y (by simp[b,Op.operands]))) (by simp[binOp,Op.intArith,C]),.of_val _⟩
theorem Ay9 {f:TypeId} {n c:Int} (b:o.op = .binOp .mul t x y f) (u:ρ x = .val (.int k m)) (A:ρ y = .val (.int k n)) (C:k.wrap (m*n)=c) : Cn P o ρ ⟨.val (.int k c),[],[]⟩ := Fj λσ ι H a w h=>⟨_,S6 b (D9 u (h x (by simp[b,Op.operands]))) (D9 A (h y (by simp[b,Op.operands]))) (by simp[binOp,Op.intArith,C]),.of_val _⟩
theorem Aza {f:TypeId} {n c:Int} (b:o.op = .binOp .quo t x y f) (u:ρ x = .val (.int k m)) (A:ρ y = .val (.int k n)) (g:n≠0) (C:k.wrap (m.tdiv n)=c) : Cn P o ρ ⟨.val (.int k c),[],[]⟩ := Fj λσ ι H a w h=>⟨_,S6 b (D9 u (h x (by simp[b,Op.operands]))) (D9 A (h y (by simp[b,Op.operands]))) (by simp[binOp,Op.intDiv,g,C]),.of_val _⟩
theorem Azb {f:TypeId} {n c:Int} (b:o.op = .binOp .rem t x y f) (u:ρ x = .val (.int k m)) (A:ρ y = .val (.int k n)) (g:n≠0) (C:m.tmod n=c) : Cn P o ρ ⟨.val (.int k c),[],[]⟩ := Fj λσ ι H a w h=>⟨_,S6 b (D9 u (h x (by simp[b,Op.operands]))) (D9 A (h y (by simp[b,Op.operands]))) (by simp[binOp,Op.intDiv,g,C]),.of_val _⟩
theorem Azc {f:TypeId} {n:Int} (c:o.op = .binOp op t x y f) (A:ρ x = .val (.int k m)) (C:ρ y = .val (.int k n)) (u:Aie op m n=some b) : Cn P o ρ ⟨.val (.bool b),[],[]⟩ := Fj λσ ι H a w h=>by refine⟨.bool b,S6 c (D9 A (h x (by simp[c,Op.operands]))) (D9 C (h y (by simp[c,Op.operands]))) ?_,.of_val _⟩;cases op <;> simp only[Aie]at u <;> first | (cases u;done) | (cases u;simp[binOp,Op.intCmp])
def Aim (op:BinOp) (k:IntKind) (m n:Int):Option Int := match op with
 | .and=>some (k.wrap (BitVec.ofInt k.bits m &&& BitVec.ofInt k.bits n).toNat)
 | .or=>some (k.wrap (BitVec.ofInt k.bits m ||| BitVec.ofInt k.bits n).toNat)
 | .xor=>some (k.wrap (BitVec.ofInt k.bits m ^^^ BitVec.ofInt k.bits n).toNat)
 | _=>none
theorem Azd {f:TypeId} {n c:Int} (b:o.op = .binOp op t x y f) (A:ρ x = .val (.int k m)) (C:ρ y = .val (.int k n)) (u:Aim op k m n=some c) : Cn P o ρ ⟨.val (.int k c),[],[]⟩ := Fj λσ ι H a w h=>by refine⟨.int k c,S6 b (D9 A (h x (by simp[b,Op.operands]))) (D9 C (h y (by simp[b,Op.operands]))) ?_,.of_val _⟩;cases op <;> simp only[Aim]at u <;> first | (cases u;done) | (cases u;simp[binOp,Op.intBits])
theorem Aze {i:TypeId} {n c:Int} (b:o.op = .binOp .shr t x y i) (u:ρ x = .val (.int k m)) (A:ρ y = .val (.int g n)) (l:0<=n) (C:m.fdiv (2 ^ (min n.toNat k.bits))=c) : Cn P o ρ ⟨.val (.int k c),[],[]⟩ := Fj λσ ι H a w h=>by refine⟨.int k c,?_,.of_val _⟩;have D:=D9 u (h x (by simp[b,Op.operands]));have G:=D9 A (h y (by simp[b,Op.operands]));have j:(eqGuard .shr t x y (.int k m) (.int g n)).run P w = .ok () w:=(by unfold eqGuard;simp);have f:¬n<0:=ω;simp only[execOp,b,D,G,Sem.run_bind,j,Result.andThen_ok,binOp,Op.shift,if_neg f,C,Sem.run_pure]
theorem Azf {i:TypeId} {n c:Int} (b:o.op = .binOp .shl t x y i) (u:ρ x = .val (.int k m)) (A:ρ y = .val (.int g n)) (l:0<=n) (C:k.wrap (m*2 ^ (min n.toNat k.bits))=c) : Cn P o ρ ⟨.val (.int k c),[],[]⟩ := Fj λσ ι H a w h=>by refine⟨.int k c,?_,.of_val _⟩;have D:=D9 u (h x (by simp[b,Op.operands]));have G:=D9 A (h y (by simp[b,Op.operands]));have j:(eqGuard .shl t x y (.int k m) (.int g n)).run P w = .ok () w:=(by unfold eqGuard;simp);have f:¬n<0:=ω;simp only[execOp,b,D,G,Sem.run_bind,j,Result.andThen_ok,binOp,Op.shift,if_neg f,C,Sem.run_pure]
def Ain (op:BinOp) (m n:Bool):Option Bool := match op with
 | .eql=>some (m==n)
 | .neq=>some (m != n)
 | _=>none
theorem Azg (ht:P.underlying t=some .bool) (d:Nat) (m n:Bool) (w:World):(Op.equalIn (d+1) t (.bool m) (.bool n)).run P w = .ok (m==n) w:=by simp[Op.equalIn,run_underlying ht]
theorem Azh (ht:P.underlying t=some .bool) (m n:Bool) (w:World):(Op.equal t (.bool m) (.bool n)).run P w = .ok (m==n) w:=by exact Azg ht 9999 m n w
theorem Azi (q:Dt P T) {j:TypeId} {m n:Bool} (c:o.op = .binOp op t x y j) (ht:T t=some i) (G:i.d = .bool) (I:ρ x = .val (.bool m)) (J:ρ y = .val (.bool n)) (C:Ain op m n=some b) : Cn P o ρ ⟨.val (.bool b),[],[]⟩ := Fj λσ ι H a w h=>by
  refine⟨.bool b,?_,.of_val _⟩;have K:=D9 I (h x (by simp[c,Op.operands]));have L:=D9 J (h y (by simp[c,Op.operands]));obtain⟨g,u,z,E,k,D,B,A,s,f⟩:=Fg (q t i ht);rw[G]at f;subst f;have l:(eqGuard op t x y (.bool m) (.bool n)).run P w = .ok () w:=(by unfold eqGuard;cases op <;> simp);cases op <;> simp only[Ain]at C <;> first | (cases C;done) | skip
  all_goals
   cases C
   simp only[execOp,c,K,L,Sem.run_bind,l,Result.andThen_ok,binOp,Azh k,Sem.run_pure]
   try rfl
theorem Azj (A:Dt P T) {l:TypeId} {c b g:Nat} (f:o.op = .binOp .eql t x y l) (ht:T t=some i) (C:i.d = .slice e) (J:ρ x = .val (.slice p n c)) (K:ρ y = .val (.slice none b g)) : Cn P o ρ ⟨.val (.bool p.isNone),[],[]⟩ := Fj λσ ι H a w h=>by refine⟨.bool p.isNone,?_,.of_val _⟩;have L:=D9 J (h x (by simp[f,Op.operands]));have M:=D9 K (h y (by simp[f,Op.operands]));obtain⟨k,u,z,I,q,G,E,D,B,j⟩:=Fg (A t i ht);rw[C]at j;subst j;have s:(eqGuard .eql t x y (.slice p n c) (.slice none b g)).run P w = .ok () w:=(by unfold eqGuard;simp);simp only[execOp,f,L,M,Sem.run_bind,s,Result.andThen_ok,Lib.run_eql_slice_nil w t e p n c b g q,Sem.run_pure]
def Aio (op:BinOp) (m n:ByteArray):Option Bool := match op with
 | .eql=>some (m.toList==n.toList)
 | .neq=>some (!(m.toList==n.toList))
 | .lss=>some (Op.bytesLess m.toList n.toList)
 | _=>none
theorem Azk {f:TypeId} {m n:ByteArray} (c:o.op = .binOp op t x y f) (A:ρ x = .val (.string m)) (C:ρ y = .val (.string n)) (u:Aio op m n=some b) : Cn P o ρ ⟨.val (.bool b),[],[]⟩ := Fj λσ ι H a w h=>by
  refine⟨.bool b,?_,.of_val _⟩;have D:=D9 A (h x (by simp[c,Op.operands]));have G:=D9 C (h y (by simp[c,Op.operands]));have g:(eqGuard op t x y (.string m) (.string n)).run P w = .ok () w:=(by unfold eqGuard;cases op <;> simp);cases op <;> simp only[Aio]at u <;> first | (cases u;done) | skip
  all_goals
   cases u
   simp only[execOp,c,D,G,Sem.run_bind,g,Result.andThen_ok,binOp,Op.stringOp,Sem.run_pure]
theorem Azl {c:TypeId} {m n:ByteArray} (b:o.op = .binOp .add t x y c) (u:ρ x = .val (.string m)) (A:ρ y = .val (.string n)) (j:m.size+n.size<=9223372036854775807) : Cn P o ρ ⟨.val (.string (m++n)),[],[]⟩ := Fj λσ ι H a w h=>by refine⟨.string (m++n),?_,.of_val _⟩;have C:=D9 u (h x (by simp[b,Op.operands]));have D:=D9 A (h y (by simp[b,Op.operands]));have i:(eqGuard .add t x y (.string m) (.string n)).run P w = .ok () w:=(by unfold eqGuard;simp);have g:IntKind.i64.max=9223372036854775807:=δ;have f:¬((m.size+n.size:Nat):Int)>IntKind.i64.max:=(by rw[g];omega);simp only[execOp,b,C,D,Sem.run_bind,i,Result.andThen_ok,binOp,Op.stringOp,if_neg f,Sem.run_pure]
theorem Azm (c:o.op = .unOp .not t x) (u:ρ x = .val (.bool b)):Cn P o ρ ⟨.val (.bool !b),[],[]⟩ := Fj λσ ι H a w h=>⟨.bool !b,by simp[execOp,c,D9 u (h x (by simp[c,Op.operands])),Op.unary],.of_val _⟩
theorem Azn {c:Int} (b:o.op = .unOp .neg t x) (u:ρ x = .val (.int k m)) (A:k.wrap (0-m)=c):Cn P o ρ ⟨.val (.int k c),[],[]⟩ := Fj λσ ι H a w h=>⟨.int k c,by simp only[execOp,b,D9 u (h x (by simp[b,Op.operands])),Op.unary,Op.intArith,A,Sem.run_bind,Sem.run_pure,Result.andThen_ok],.of_val _⟩
theorem Azo (s:Dt P T) {I:IntKind} {c:Int} (q:o.op = .convert t d x) (ht:T t=some i) (C:T d=some j) (K:j.d = .int k) (X:ρ x = .val (.int I m)) (hc:k.wrap m=c) : Cn P o ρ ⟨.val (.int k c),[],[]⟩ := Fj λσ ι H a w h=>by refine⟨.int k c,?_,.of_val _⟩;have h1:=D9 X (h x (by simp[q,Op.operands]));obtain⟨l,u,z,V,E,U,S,R,N,M⟩:=Fg (s t i ht);obtain⟨g,L,J,G,f,D,B,A,y,b⟩:=Fg (s d j C);rw[K]at b;subst b;simp only[execOp,q,h1,convert,Sem.run_bind,run_underlying E,run_underlying f,Result.andThen_ok,Conv.intToInt,hc,Sem.run_pure]
theorem Azp {f:TypeId} {k:FloatKind} {m c:Nat} (b:o.op = .binOp op t x y f) (A:ρ x = .val (.float k m)) (C:ρ y = .val (.float k n)) (u:floatBits op k m n=some c) : Cn P o ρ ⟨.val (.float k c),[],[]⟩ := Fj λσ ι H a w h=>by refine⟨.float k c,?_,.of_val _⟩;have D:=D9 A (h x (by simp[b,Op.operands]));have G:=D9 C (h y (by simp[b,Op.operands]));have g:(eqGuard op t x y (.float k m) (.float k n)).run P w = .ok () w:=(by cases op <;> first | (unfold eqGuard;simp;done) | (simp[floatBits]at u));simp only[execOp,b,D,G,Sem.run_bind,g,Result.andThen_ok,run_float_arith w op t k m n c u,Sem.run_pure]
theorem Azq (s:Dt P T) {k:FloatKind} (q:o.op = .convert t d x) (ht:T t=some i) (C:T d=some j) (K:j.d = .float k) (V:ρ x = .val (.int g m)) : Cn P o ρ ⟨.val (.float k (floatOfInt k m)),[],[]⟩ := Fj λσ ι H a w h=>by refine⟨.float k (floatOfInt k m),?_,.of_val _⟩;have X:=D9 V (h x (by simp[q,Op.operands]));obtain⟨l,u,z,U,E,S,R,N,M,L⟩:=Fg (s t i ht);obtain⟨f,J,I,G,c,D,B,A,y,b⟩:=Fg (s d j C);rw[K]at b;subst b;have:=run_convert_int_float (P:=P) w t d g k m (by rw[E];rfl) c;simp only[execOp,q,X,Sem.run_bind,this,Result.andThen_ok,Sem.run_pure]
theorem Azr (y:Dt P T) {k:FloatKind} {f:IntKind} {m:Nat} {c:Int} (s:o.op = .convert t d x) (ht:T t=some i) (C:T d=some j) (K:j.d = .int f) (X:ρ x = .val (.float k m)) (hc:floatToIntVal k m f=some c) : Cn P o ρ ⟨.val (.int f c),[],[]⟩ := Fj λσ ι H a w h=>by refine⟨.int f c,?_,.of_val _⟩;have h1:=D9 X (h x (by simp[s,Op.operands]));obtain⟨q,u,z,V,G,U,S,R,N,M⟩:=Fg (y t i ht);obtain⟨l,L,J,I,g,E,D,B,A,b⟩:=Fg (y d j C);rw[K]at b;subst b;have:=run_convert_float_int (P:=P) w t d k f m c (by rw[G];rfl) g hc;simp only[execOp,s,h1,Sem.run_bind,this,Result.andThen_ok,Sem.run_pure]
theorem Azs {cs:List AV} {c:AV} (b:o.op = .extract x n) (G:ρ x = .tup cs) (A:cs[n]? = some c):Cn P o ρ ⟨c,[],[]⟩ := Fj λσ ι H a w h=>by have C:=h x (by simp[b,Op.operands]);rw[G]at C;obtain⟨D,e,f,I⟩:=C.tup_inv;have u:n<D.size:=(by rw[f];exact (G1.1 A).1);refine⟨D[n],?_,I n c _ A (by simp[u])⟩;simp[execOp,b,e,Instr.extract,u]
theorem Aip {f:Nat} (hi:I5 P s=some i) (R:i.d = .struct fs) (K:fs[f]? = some q) (b off:Nat) (w:World) : (Instr.fieldAt s (.pointer (some ⟨b,off,none⟩)) f).run P w = .ok (.pointer (some ⟨b,off+q.1,none⟩)) w:=by
 obtain⟨x,u,z,I,y,G,E,D,B,l⟩:=Fg hi;rw[R]at l;obtain⟨C,rfl,rfl,L⟩:=l;rw[getElem?_map]at K;cases N:C.toList[f]? with
 | none=>rw[N]at K;simp at K
 | some M=>rw[N]at K;simp at K;subst K;have k:C[f]? = some M:=(by rw[<-G6];exact N);have hp:=L M (Fq N);have h:∃J,P.info? M.type=some J/\J.size≠0:=(by unfold Program.cellsOf at hp;cases g:P.info? M.type with| none=>rw[g]at hp;simp at hp| some J=>rw[g]at hp;simp at hp;exact⟨J,rfl,ω⟩);obtain⟨J,c,j⟩:=h;have A:(sizeOf M.type).run P w = .ok J.size w:=(by simp[sizeOf,typeInfo,program,Sem.run,c]);simp[Instr.fieldAt,run_underlying y,k,Instr.sureAddr,fieldPlace,A,j,Lq]
theorem Azt (j:Dt P T) {f:Nat} (g:o.op = .fieldAddr s x f) (ht:T s=some i) (A:i.d = .struct fs) (C:fs[f]? = some q) (D:ρ x = .loc h off):Cn P o ρ ⟨.loc h (off+q.1),[],[]⟩ := Fj λσ ι H a w c=>by have u:=c x (by simp[g,Op.operands]);rw[D]at u;obtain⟨b,G,I⟩:=u.loc_inv;exact⟨_,by simp[execOp,g,I,Aip (j s i ht) A C],.loc h (off+q.1) b G⟩
theorem Azu (u:Dt P T) {f:Nat} {cs:List AV} (k:o.op = .fieldAddr s x f) (ht:T s=some i) (I:i.d = .struct fs) (J:fs[f]? = some q) (K:ρ x = .ref cs):Cn P o ρ ⟨.ref (cs.drop q.1),[],[]⟩ := Fj λσ ι H a w h=>by
  have D:=h x (by simp[k,Op.operands]);rw[K]at D;obtain⟨b,off,C,E,L,g,M,l,G,y⟩:=D.ref_inv;refine⟨_,by simp[execOp,k,M,Aip (u s i ht) I J],.ref _ b (off+q.1) C E L (λj=>g (q.1+j)) l ?_ ?_ ?_⟩
  .intro j c A;rw[getElem?_drop]at A;exact (G _ c A).1
  .intro j c A;rw[getElem?_drop]at A;exact (G _ c A).2
  .intro j A;rw[length_drop]at A;rw[Nat.add_assoc];exact y (q.1+j) ω
theorem Azv (B:Dt P T) {f:Nat} {k j:Nat} (z:o.op = .fieldAddr s x f) (ht:T s=some i) (G:i.d = .struct fs) (I:fs[f]? = some q) (J:ρ x = .el h k n j) (y:xs.length=k):Cn P o ρ ⟨.el h k n (j+q.1),[(h,.rows E sz xs)],[]⟩:=by
 intro σ ι H F W w a next Q s u l K
 have C:H h = .rows E sz xs:=l (h,.rows E sz xs) ψ;have hp:=u x (by simp[z,Op.operands]);rw[J]at hp;obtain⟨b,A,L,M⟩:=hp.el_inv C y;refine Gx (v:=.pointer (some ⟨b,n*sz+j+q.1,none⟩)) (by simp[execOp,z,M,Aip (B _ i ht) G I]) (K σ ι _ w (Le.refl _ _ _) s ?_);refine .el h k n (j+q.1) _ (by show H h≠_;rw[C];intro e;cases e) (λD g c e=>?_) rfl;have e:H h = .rows D g c:=e;rw[C]at e;cases e;refine⟨ω,λ_=>?_⟩;rw[L];show _=_
 rw[Nat.add_assoc]
theorem CC.sl_inv (h:CC σ (.sl sz xs) v) : (xs = []/\∃p f,v = .slice p 0 f)\/∃(b off f:Nat) (C:Array Value) (E:TypeId) (l:Nat×Nat) (g:Nat->Nat->Value),v = .slice (some ⟨b,off,none⟩) xs.length f/\σ b=some (.cells C E l) /\ (∀(i:Nat) (x:AV),xs[i]? = some x->x.cells.length=sz)/\(∀(i:Nat) (x:AV) (j:Nat) (c:AV),xs[i]? = some x->x.cells[j]? = some c->CC σ c (g i j)/\Fi (g i j)=true) /\ (∀(i j:Nat),i<xs.length->j<sz->C[off+i*sz+j]? = some (g i j))/\xs.length<=140737488355328/\xs.length<=f:=by cases h with| nil _ p f=>exact .inl ⟨rfl,p,f,rfl⟩| sl _ b off f _ C E l g q s hc h1 y u k=>exact .inr ⟨b,off,f,C,E,l,g,rfl,q,s,λi x j c hx A=>⟨hc i x j c hx A,h1 i x j c hx A⟩,y,u,k⟩
theorem CC.sl_len (h:CC σ (.sl sz xs) v):xs.length<=140737488355328/\∃p cap,v = .slice p xs.length cap:=by
 rcases h.sl_inv with⟨rfl,p,cap,e⟩|⟨b,off,cap,C,E,fr,g,e,_,_,_,_,c,_⟩
 .exact⟨ψ,p,cap,e⟩
 .exact⟨c,_,cap,e⟩
theorem An4 (j:Dt P T) (g:o.op = .call {callee:=.builtin .len,args:=#[x],argTypes:=#[t]}) (ht:T t=some i) (C:i.d = .slice e) (D:ρ x = .sl sz xs) : Cn P o ρ ⟨.val (.int .i64 xs.length),[],[]⟩ := Fj λσ ι H a w b=>by have A:=b x (by simp[g,Op.operands,Call.operands]);rw[D]at A;obtain⟨_,p,G,I⟩:=A.sl_inv.sl_len;obtain⟨f,u,z,y,h,s,q,l,k,c⟩:=Fg (j t i ht);rw[C]at c;subst c;refine⟨.int .i64 xs.length,?_,.of_val _⟩;simp[execOp,g,resolve,invoke,builtin,Builtin.len_,I,run_underlying h,goInt]
theorem Azw (k:Dt P T) {c:Nat} (h:o.op = .call {callee:=.builtin .len,args:=#[x],argTypes:=#[t]}) (ht:T t=some i) (C:i.d = .slice e) (D:ρ x = .val (.slice p n c)) : Cn P o ρ ⟨.val (.int .i64 n),[],[]⟩ := Fj λσ ι H a w b=>by have G:=D9 D (b x (by simp[h,Op.operands,Call.operands]));obtain⟨g,u,z,A,j,y,s,q,l,f⟩:=Fg (k t i ht);rw[C]at f;subst f;refine⟨.int .i64 n,?_,.of_val _⟩;simp[execOp,h,resolve,invoke,builtin,Builtin.len_,G,run_underlying j,goInt]
theorem Azx (k:Dt P T) {b:Nat} (h:o.op = .call {callee:=.builtin .cap,args:=#[x],argTypes:=#[t]}) (ht:T t=some i) (C:i.d = .slice e) (D:ρ x = .val (.slice p n b)) : Cn P o ρ ⟨.val (.int .i64 b),[],[]⟩ := Fj λσ ι H a w c=>by have G:=D9 D (c x (by simp[h,Op.operands,Call.operands]));obtain⟨g,u,z,A,j,y,s,q,l,f⟩:=Fg (k t i ht);rw[C]at f;subst f;refine⟨.int .i64 b,?_,.of_val _⟩;simp[execOp,h,resolve,invoke,builtin,Builtin.cap_,G,run_underlying j,goInt]
theorem Azy (j:Dt P T) {s:ByteArray} (g:o.op = .call {callee:=.builtin .len,args:=#[x],argTypes:=#[t]}) (ht:T t=some i) (C:i.d = .string) (D:ρ x = .val (.string s)) : Cn P o ρ ⟨.val (.int .i64 s.size),[],[]⟩ := Fj λσ ι H a w b=>by have G:=D9 D (b x (by simp[g,Op.operands,Call.operands]));obtain⟨f,u,z,A,h,y,q,l,k,c⟩:=Fg (j t i ht);rw[C]at c;subst c;refine⟨.int .i64 s.size,?_,.of_val _⟩;simp[execOp,g,resolve,invoke,builtin,Builtin.len_,G,run_underlying h,goInt]
theorem Azz (y:Dt P T) {k len:Nat} (l:o.op = .call {callee:=.builtin .len,args:=#[x],argTypes:=#[t]}) (ht:T t=some i) (M:i.d = .slice e) (N:ρ x = .arr h k off len) (f:xs.length=k):Cn P o ρ ⟨.val (.int .i64 len),[(h,.rows E sz xs)],[]⟩:=by
 intro σ ι H F W w a next Q s c b R
 have S:H h = .rows E sz xs:=b (h,.rows E sz xs) ψ;have hp:=c x (by simp[l,Op.operands,Call.operands]);rw[N]at hp;have C:=hp.arr_inv S f;obtain⟨j,u,z,L,q,J,I,G,D,g⟩:=Fg (y t i ht);rw[M]at g;subst g;have:∃p K,a.eval x = .slice p len K:=by
  unfold Hq at C;split at C
  .obtain⟨B,_,A⟩:=C;exact⟨none,0,by rw[B,A]⟩
  .exact⟨_,_,C.2⟩
  .exact C.elim
 obtain⟨p,K,C⟩:=this;refine Gx (v:=.int .i64 len) ?_ (R σ ι _ w (Le.refl _ _ _) s (.of_val _));simp[execOp,l,resolve,invoke,builtin,Builtin.len_,C,run_underlying q,goInt]
theorem Aiq (hi:I5 P t=some i) (D:i.d = .slice e) (l:I5 P e=some i') {b len c:Nat} (k:IntKind) (B:n<len) (w:World) : (Instr.indexAt t (.slice (some ⟨b,off,none⟩) len c) (.int k (n:Int))).run P w = .ok (.pointer (some ⟨b,off+n*i'.size,none⟩)) w:=by obtain⟨g,u,z,A,h,y,x,s,q,f⟩:=Fg hi;rw[D]at f;subst f;have j:=Pp l w;have C:0<=(n:Int)/\(n:Int)<(len:Int):=ω;simp only[Instr.indexAt,asIntOf,Sem.run_bind,Sem.run_pure,Result.andThen_ok,run_underlying h,if_pos C,j,Lq,Int.toNat_natCast]
theorem Az0 (u:Dt P T) {z:AV} (q:o.op = .indexAddr t x y) (ht:T t=some i) (M:i.d = .slice e) (G:T e=some i') (l:sz=i'.size) (N:ρ x = .sl sz xs) (R:ρ y = .val (.int k (n:Int))) (h:xs[n]? = some z) : Cn P o ρ ⟨.ref z.cells,[],[]⟩ := Fj λσ ι H a w f=>by
  have K:=f x (by simp[q,Op.operands]);have S:=D9 R (f y (by simp[q,Op.operands]));rw[N]at K;have s:=(G1.1 h).1;rcases K.sl_inv.sl_inv with⟨rfl,_⟩|⟨b,off,U,C,E,V,g,X,A,D,L,I,_⟩
  .simp at s
  .have B:=D n z h;refine⟨.pointer (some ⟨b,off+n*i'.size,none⟩),?_,.ref z.cells b (off+n*i'.size) C E V (g n) A (λj c J=>(L n z j c h J).1) (λj c J=>(L n z j c h J).2) λj J=>?_⟩
   .simp[execOp,q,X,S,Aiq (u t i ht) M (u e i' G) k s]
   .have:=I n j s ω;rw[<-l];exact this
theorem Az1 (g:Dt P T) {m:Nat} (f:o.op = .indexAddr t x y) (ht:T t=some i) (A:i.d = .slice e) (q:T e=some i') (j:i'.size=1) (C:ρ x = .vec h m) (D:ρ y = .val (.int k (n:Int))) (l:n<m) : Cn P o ρ ⟨.loc h n,[],[]⟩ := Fj λσ ι H a w c=>by have u:=c x (by simp[f,Op.operands]);have G:=D9 D (c y (by simp[f,Op.operands]));rw[C]at u;obtain⟨b,I,J⟩:=u.vec_inv;refine⟨.pointer (some ⟨b,n,none⟩),?_,.loc h n b I⟩;simp[execOp,f,J,G,Aiq (g t i ht) A (g e i' q) k l,j]
theorem Az2 (l:Dt P T) {m:Nat} (j:o.op = .call {callee:=.builtin .len,args:=#[x],argTypes:=#[t]}) (ht:T t=some i) (D:i.d = .slice e) (G:ρ x = .vec h m) : Cn P o ρ ⟨.val (.int .i64 m),[],[]⟩ := Fj λσ ι H a w c=>by have C:=c x (by simp[j,Op.operands,Call.operands]);rw[G]at C;obtain⟨b,J,I⟩:=C.vec_inv;obtain⟨g,u,z,B,k,A,y,s,q,f⟩:=Fg (l t i ht);rw[D]at f;subst f;refine⟨.int .i64 m,?_,.of_val _⟩;simp[execOp,j,resolve,invoke,builtin,Builtin.len_,I,run_underlying k,goInt]
theorem Az3 (A:Dt P T) {k len:Nat} {z:IntKind} (q:o.op = .indexAddr t x y) (ht:T t=some i) (L:i.d = .slice e) (I:T e=some i') (M:ρ x = .arr h k off len) (u:xs.length=k) (N:ρ y = .val (.int z (n:Int))) (D:n<len) (j:sz=i'.size):Cn P o ρ ⟨.el h k (off+n) 0,[(h,.rows E sz xs)],[]⟩:=by
 intro σ ι H F W w a next Q s c l R
 have K:H h = .rows E sz xs:=l (h,.rows E sz xs) ψ;have hp:=c x (by simp[q,Op.operands]);have S:=D9 N (c y (by simp[q,Op.operands]));rw[M]at hp;have C:=hp.arr_inv K u;unfold Hq at C;split at C
 .omega
 .rename_i b B U;obtain⟨G,C⟩:=C;refine Gx (v:=.pointer (some ⟨b,(off+n)*sz,none⟩)) ?_ (R σ ι _ w (Le.refl _ _ _) s ?_)
  .simp[execOp,q,C,S,Aiq (A t i ht) L (A e i' I) z D,j,E6]
  .refine .el h k (off+n) 0 _ (by show H h≠_;rw[K];intro e;cases e) (λJ g f e=>?_) rfl;have e:H h = .rows J g f:=e;rw[K]at e;cases e;refine⟨ω,λ_=>?_⟩;rw[U];rfl
 .exact C.elim
theorem Az4 (l:Dt P T) {s:ByteArray} {c:UInt8} (f:o.op = .index t x y) (ht:T t=some i) (C:i.d = .string) (G:ρ x = .val (.string s)) (I:ρ y = .val (.int k (n:Int))) (J:s[n]? = some c) : Cn P o ρ ⟨.val (.int .u8 c.toNat),[],[]⟩ := Fj λσ ι H a w b=>by have K:=D9 G (b x (by simp[f,Op.operands]));have L:=D9 I (b y (by simp[f,Op.operands]));obtain⟨h,u,z,E,j,D,B,A,q,g⟩:=Fg (l t i ht);rw[C]at g;subst g;refine⟨.int .u8 c.toNat,?_,.of_val _⟩;simp[execOp,f,K,L,Instr.index,asIntOf,run_underlying j,J]
theorem Az5 {f:FuncId} {b:Array Operand} (h:o.op = .makeFunc (.func f) #[] b):Cn P o ρ ⟨.fn f (b.toList.map ρ),[],[]⟩ := Fj λσ ι H a w g=>by refine⟨.func (.func f) #[] (b.map a.eval),by simp[execOp,h,Instr.makeFunc],.fn f _ _ ψ λi c v A u=>?_⟩;rw[getElem?_map]at A;rw[Array.getElem?_map]at u;cases C:b[i]? with| none=>rw[C]at u;simp at u| some x=>rw[C]at u;rw[G6,C]at A;simp at A u;subst A;subst u;exact g x (by simp[h,Op.operands];exact Array.mem_of_getElem? C)
end
section
variable {P:Program} {o:Oper} {ρ:Operand->AV} {a:Act} {w w':World} {next:Act->World->Prop} {Q:Exit->Act->World->Prop}
variable {σ:A7} {ι:Cb} {T:Dq} {H:Hp} {xs:List AV} {h l n sz:Nat} {x:Operand} {hi lo:Option Operand} {i i':TI} {e t:TypeId}
def I6 (ρ:Operand->AV) (d:Int):Option Operand->Option Int
 | none=>some d
 | some x=>match ρ x with
  | .val (.int _ n)=>some n
  | _=>none
theorem Air {k:IntKind} {y:Nat} (h:n<=y) (c:BoundsCode) (w:World):(Instr.sliceBound (.int k (n:Int)) y c).run P w = .ok n w:=by have:0<=(n:Int)/\(n:Int)<=(y:Int):=ω;simp only[Instr.sliceBound,asIntOf,Sem.run_bind,Sem.run_pure,Result.andThen_ok,if_pos this,Int.toNat_natCast]
theorem Ais {d:Int} (hb:I6 ρ d (some x)=some (n:Int)) (u:Conc σ ι H (ρ x) (a.eval x)):∃k,a.eval x = .int k (n:Int):=by
 unfold I6 at hb;simp only[]at hb;split at hb
 .rename_i k m e;rw[e]at u;cases hb;exact⟨k,u.val_inv⟩
 .cases hb
theorem Ac6 {j:Bool} {len f:Nat} (b:I6 ρ 0 lo=some (l:Int)) (g:I6 ρ (len:Int) hi=some (h:Int)) (u:∀x,lo=some x\/hi=some x->Conc σ ι H (ρ x) (a.eval x)) (A:l<=h) (C:h<=f) (w:World) : (Instr.sliceBounds j len f (lo.map a.eval) (hi.map a.eval) none).run P w = .ok (l,h,f) w:=by
 unfold Instr.sliceBounds;cases hi with
 | none=>simp[I6]at g;cases lo with| none=>simp[I6]at b;simp;omega| some x=>obtain⟨k,e⟩:=Ais b (u x (.inl rfl));have:=λc=>Air (P:=P) (k:=k) (n:=l) (y:=len) ω c w;simp[e,this];omega
 | some y=>obtain⟨q,e'⟩:=Ais g (u y (.inr rfl));have i:=λc=>Air (P:=P) (k:=q) C c w;cases lo with| none=>simp[I6]at b;simp[e',i];omega| some x=>obtain⟨k,e⟩:=Ais b (u x (.inl rfl));have:=λc=>Air (P:=P) (k:=k) A c w;simp[e,e',this,i]
theorem Ac7 {y:Operand} (h:lo=some y\/hi=some y):y∈(Op.slice t x lo hi none).operands.toList:=by rcases h with rfl|rfl <;> simp[Op.operands]
theorem Az6 (X:Dt P T) (D:o.op = .slice t x lo hi none) (ht:T t=some i) (hd:i.d = .slice e) (he:T e=some i') (s:sz=i'.size) (hx:ρ x = .sl sz xs) (I:I6 ρ 0 lo=some (l:Int)) (M:I6 ρ (xs.length:Int) hi=some (h:Int)) (h1:l<=h) (h2:h<=xs.length):Cn P o ρ ⟨.sl sz ((xs.take h).drop l),[],[]⟩ := Fj λσ ι H a w A=>by
  have hv:=A x (by simp[D,Op.operands]);rw[hx]at hv;obtain⟨U,u,z,k1,S,k3,k4,k5,k6,R⟩:=Fg (X t i ht);rw[hd]at R;subst R;have V:=Pp (X e i' he);have B:∀(K:Nat),xs.length<=K->∀w,(Instr.sliceBounds true xs.length K (lo.map a.eval) (hi.map a.eval) none).run P w = .ok (l,h,K) w :=
   λK q w=>Ac6 I M (λy hy=>A y (by rw[D];exact Ac7 hy)) h1 ω w
  rcases hv.sl_inv.sl_inv with⟨rfl,p,K,hv⟩|⟨b,off,K,C,E,fr,g,hv,Y,G,hc,hC,hl,q⟩
  .have L:l=0:=(by simp at h2;omega);have N:h=0:=(by simpa using h2);subst L;subst N;refine⟨.slice (if K=0 then p else p.map (·.add (0*i'.size))) (0-0) (K-0),?_,?_⟩
   .simp only[execOp,D,hv,Instr.sliceAt,Instr.slice,Sem.run_bind,run_underlying S,Result.andThen_ok,Option.map_none];have:=B K ψ w;simp only[length_nil]at this;simp only[this,Result.andThen_ok,V w,Sem.run_pure]
   .exact .cc (.nil sz _ _)
  .refine⟨.slice (if K=l then some ⟨b,off,none⟩ else some ⟨b,off+l*i'.size,none⟩) (h-l) (K-l),?_,?_⟩
   .simp only[execOp,D,hv,Instr.sliceAt,Instr.slice,Sem.run_bind,run_underlying S,Result.andThen_ok,Option.map_none,B K q w,V w,Sem.run_pure,Option.map_some,Lq]
   .by_cases J:l=h
    .subst J;have:(xs.take l).drop l = []:=ψ;rw[this,Nat.sub_self];exact .cc (.nil sz _ _)
    .rw[if_neg ω];have f:((xs.take h).drop l).length=h-l:=ζ;have k:∀(n:Nat) (y:AV),((xs.take h).drop l)[n]? = some y->xs[l+n]? = some y:=by
      intro n y hy;rw[getElem?_drop]at hy;by_cases a0:l+n<h
      .rwa [H6 a0]at hy
      .rw[getElem?_eq_none ζ]at hy;cases hy
     have:=CC.sl (σ:=σ) ((xs.take h).drop l) b (off+l*sz) (K-l) sz C E fr (λn j=>g (l+n) j) Y (λn y hy=>G _ y (k n y hy))
      (λn y j c hy hj=>(hc _ y j c (k n y hy) hj).1) (λn y j c hy hj=>(hc _ y j c (k n y hy) hj).2) (λn j Z hj=>by rw[f]at Z;have:=hC (l+n) j ω hj;rw[E6]at this;rw[<-this];congr 1;omega) (by rw[f];omega) (by rw[f];omega);rw[f,s]at this;rw[s];exact .cc this
theorem Az7 (B:Dt P T) {s:ByteArray} (c:o.op = .slice t x lo hi none) (ht:T t=some i) (C:i.d = .string) (K:ρ x = .val (.string s)) (f:I6 ρ 0 lo=some (l:Int)) (g:I6 ρ (s.size:Int) hi=some (h:Int)) (L:l<=h) (R:h<=s.size):Cn P o ρ ⟨.val (.string (s.extract l h)),[],[]⟩ := Fj λσ ι H a w b=>by
  have M:=D9 K (b x (by simp[c,Op.operands]));obtain⟨q,u,z,J,A,I,G,E,D,k⟩:=Fg (B t i ht);rw[C]at k;subst k;have j:(Instr.sliceBounds false s.size s.size (lo.map a.eval) (hi.map a.eval) none).run P w = .ok (l,h,s.size) w :=
   Ac6 f g (λy N=>b y (by rw[c];exact Ac7 N)) L ω w
  refine⟨.string (s.extract l h),?_,.of_val _⟩;simp[execOp,c,M,Instr.sliceAt,Instr.slice,run_underlying A,j]
theorem Az8 (hT:Dt P T) {c k off len:Nat} {E:TypeId} (D:o.op = .slice t x lo hi none) (ht:T t=some i) (hd:i.d = .slice e) (he:T e=some i') (G:sz=i'.size) (hx:ρ x = .arr c k off len) (N:xs.length=k) (L:I6 ρ 0 lo=some (l:Int)) (R:I6 ρ (len:Int) hi=some (h:Int)) (h1:l<=h) (h2:h<=len) (h3:l=0\/l<h) : Cn P o ρ ⟨.arr c k (off+l) (h-l),[(c,.rows E sz xs)],[]⟩:=by
 intro σ ι H F W w a next Q s q I hk
 have hh:H c = .rows E sz xs:=I (c,.rows E sz xs) ψ;have hp:=q x (by simp[D,Op.operands]);rw[hx]at hp;have C:=hp.arr_inv hh N;obtain⟨X,u,z,k1,V,k3,k4,k5,k6,U⟩:=Fg (hT t i ht);rw[hd]at U;subst U;have Y:=Pp (hT e i' he);have B:∀(K:Nat),len<=K->∀w,(Instr.sliceBounds true len K (lo.map a.eval) (hi.map a.eval) none).run P w = .ok (l,h,K) w :=
  λK Z w=>Ac6 L R (λy hy=>q y (by rw[D];exact Ac7 hy)) h1 ω w
 unfold Hq at C;split at C
 .rename_i A;obtain⟨C,J,M⟩:=C;subst M;subst J;have e1:l=0:=ω;have e2:h=0:=ω;subst e1;subst e2;refine Gx (v:=.slice none 0 0) ?_ (hk σ ι _ w (Le.refl _ _ _) s ?_)
  .simp only[execOp,D,C,Instr.sliceAt,Instr.slice,Sem.run_bind,run_underlying V,Result.andThen_ok,Option.map_none];have:=B 0 ω w;simp only[this,Result.andThen_ok,Y w,Sem.run_pure];rfl
  .refine .arr _ _ _ _ _ (by show H c≠_;rw[hh];intro e;cases e) (λS g f e=>?_) rfl;have e:H c = .rows S g f:=e;rw[hh]at e;cases e;exact⟨ω,λ_=>by rw[A];exact⟨rfl,rfl,rfl⟩⟩
 .rename_i b j hb;obtain⟨a1,C⟩:=C;refine Gx (v:=.slice (some ⟨b,(off+l)*sz,none⟩) (h-l) (j-(off+l))) ?_ (hk σ ι _ w (Le.refl _ _ _) s ?_)
  .simp only[execOp,D,C,Instr.sliceAt,Instr.slice,Sem.run_bind,run_underlying V,Result.andThen_ok,Option.map_none];have:=B (j-off) ω w;simp only[this,Result.andThen_ok,Y w,Sem.run_pure,Option.map_some,Lq];rcases h3 with rfl|h3
   .simp
   .rw[if_neg ω,E6,G,Nat.sub_sub]
  .refine .arr _ _ _ _ _ (by show H c≠_;rw[hh];intro e;cases e) (λS g f e=>?_) rfl;have e:H c = .rows S g f:=e;rw[hh]at e;cases e;refine⟨ω,λ_=>?_⟩;rw[hb];exact⟨ω,rfl⟩
 .exact C.elim
def Ac8 (σ:A7) (ι:Cb) (H:Hp) (cs:List AV) (C:Array Value):Prop := C.size=cs.length/\∀(i:Nat) (c:AV) (v:Value),cs[i]? = some c->C[i]? = some v->Conc σ ι H c v
theorem Ait (off:Nat):∀(l:List Value) (m:Nat) (cells:Array Value),off+m+l.length<=cells.size -> ((l.zipIdx m).foldl (λcs p=>cs.setIfInBounds (off+p.2) p.1) cells).size=cells.size /\ ∀k:Nat,((l.zipIdx m).foldl (λcs p=>cs.setIfInBounds (off+p.2) p.1) cells)[k]? = if off+m<=k/\k<off+m+l.length then l[k-(off+m)]? else cells[k]?
 | [],m,cells,_=>by refine⟨rfl,λk=>?_⟩;rw[if_neg (by simp only[length_nil];omega)];rfl
 | v::u,m,cells,h=>by
  simp only[length_cons]at h;obtain⟨c,b⟩:=Ait off u (m+1) (cells.setIfInBounds (off+m) v) ζ;simp only[zipIdx_cons,foldl_cons];refine⟨by rw[c];simp,λk=>?_⟩;rw[b k];by_cases C:k=off+m
  .subst C;rw[if_neg ω,if_pos ψ];rw[Array.getElem?_setIfInBounds_self_of_lt ω];simp
  .by_cases A:off+m<=k/\k<off+m+(u.length+1)
   .rw[if_pos ω,length_cons,if_pos A];rw[show k-(off+m)=(k-(off+(m+1)))+1 by omega];simp
   .rw[if_neg ω,length_cons,if_neg A,Array.getElem?_setIfInBounds_ne ω]
theorem An5 {σ:A7} {ι:Cb} {H:Hp} {fs:List (Nat×Nat)} {place:Nat->Option (Nat×Nat)} (hp:∀n,place n=fs[n]?):∀(ps:List (Nat×Operand)) (cs:List AV) (C:Array Value) (b:List AV),Ac8 σ ι H cs C -> (∀p∈ps,Conc σ ι H (ρ p.2) (a.eval p.2))->Vp fs cs (ps.map λp=>(p.1,ρ p.2))=some b -> ∃k,Instr.fill place C (ps.map λp=>(p.1,a.eval p.2))=some k/\Ac8 σ ι H b k
 | [],cs,C,b,g,_,h=>by simp only[map_nil,Vp]at h;cases h;exact⟨C,rfl,g⟩
 | p::ps,cs,C,b,g,K,h=>by
  simp only[map_cons,Vp]at h;cases J:fs[p.1]? with
  | none=>rw[J]at h;cases h
  | some q=>
   rw[J]at h;simp only[]at h;cases I:(Nat.beq (ρ p.2).cells.length q.2&&Nat.ble (q.1+q.2) cs.length) with
   | false=>rw[I]at h;cases h
   | true=>
    rw[I]at h;simp only[cond_true]at h;simp only[Fw]at I;have B:(ρ p.2).cells.length=q.2:=Ha I.1;have A:q.1+q.2<=cs.length:=G2 I.2;have L:=(K p ψ).cells;have z:=g.1;have j:=Ait q.1 (a.eval p.2).cells.toList 0 C ζ;have s:Ac8 σ ι H (Nk cs q.1 (ρ p.2).cells) (((a.eval p.2).cells.toList.zipIdx 0).foldl (λcs p=>cs.setIfInBounds (q.1+p.2) p.1) C):=by
     refine⟨by rw[j.1,Ail _ _ _ ω];exact g.1,λi c v D G=>?_⟩;rw[Aik _ _ _ ω]at D;rw[j.2 i]at G;simp only[Array.length_toList,L.1,Nat.add_zero]at G;by_cases M:i<q.1
     .rw[if_pos M]at D;rw[if_neg ω]at G;exact g.2 i c v D G
     .rw[if_neg M]at D;by_cases N:i<q.1+(ρ p.2).cells.length
      .rw[if_pos N]at D;rw[if_pos ω,G6]at G;exact L.2 _ c v D G
      .rw[if_neg N]at D;rw[if_neg ω]at G;exact g.2 i c v D G
    obtain⟨k,x,u⟩:=An5 hp ps _ _ b s (λy l=>K y (by simp[l])) h;refine⟨k,?_,u⟩;simp only[map_cons,Instr.fill,hp,J];have f:((a.eval p.2).cells.size≠q.2||decide (q.1+(a.eval p.2).cells.size>C.size))=false:=by have:=g.1;simp;omega
    rw[f];simp only[Bool.false_eq_true,if_false];rw[<-Array.foldl_toList,Array.toList_zipIdx];exact x
theorem Az9 (R:Dt P T) {b:Array (Nat×Operand)} {fs:List (Nat×Nat)} {cs:List AV} (G:o.op = .build t b) (ht:T t=some i) (hd:i.d = .struct fs) (hc:Vp fs (i.zero.map .val) (b.toList.map λp=>(p.1,ρ p.2))=some cs):Cn P o ρ ⟨.agg cs,[],[]⟩ := Fj λσ ι H a w q=>by
  obtain⟨E,u,z,M,L,J,V,U,D,B⟩:=Fg (R t i ht);rw[hd]at B;obtain⟨C,rfl,s,K⟩:=B;have l:∀(fl:List Field),(∀f∈fl,0<P.cellsOf f.type)->fl.mapM (λf=>(P.info? f.type).map λi=>(f.offset,i.size))=some (fl.map λf=>(f.offset,P.cellsOf f.type)):=by
   intro fl;induction fl with
   | nil=>intro _;rfl
   | cons f fl ih=>intro hp;have X:=hp f ψ;have h:=ih λS y=>hp S (by simp[y]);unfold Program.cellsOf at X ⊢;cases g:P.info? f.type with| none=>rw[g]at X;simp at X| some a0=>unfold Program.cellsOf at h;rw[mapM_cons,h,g];simp[g]
  have N:Ac8 σ ι H (i.zero.map .val) z.cells:=(by refine⟨by simp[D],λj c v h1 h2=>?_⟩;rw[D,getElem?_map,G6,h2]at h1;simp at h1;subst h1;exact .of_val v);obtain⟨k,I,A⟩:=An5 (a:=a) (place:=λn=>((C.toList.map λf=>(f.offset,P.cellsOf f.type)).toArray)[n]?) (fs:=fs) (λn=>by rw[s];simp) b.toList _ _ cs N (λp hp=>q p.2 (by simp only[G,Op.operands];simpa using ⟨p.1,by simpa using hp⟩)) hc;refine⟨.agg k,?_,.agg cs k A.1 A.2⟩;have hb:P.built t ((b.map λ(i,x)=>(i,a.eval x)).toList)=some k:=(by unfold Program.built;rw[M,L];simp only[J,l C.toList K];rw[<-I];simp);simp only[execOp,G,Sem.run_bind,run_build w t _ k hb,Result.andThen_ok,Sem.run_pure]
end
section
variable {P:Program} {o:Oper} {ρ:Operand->AV} {a:Act} {w w':World} {next:Act->World->Prop} {Q:Exit->Act->World->Prop}
variable {b:Array (Nat×Operand)} {T:Dq} {k:IntKind} {l:Nat} {x y:Operand} {i i':TI} {e t:TypeId}
theorem Oh {sz:Nat} {x:AV} (h:L6 sz x=true):x.cells.length=sz/\∀c∈x.cells,c.cl1=true:=by unfold L6 at h;simp only[Fw]at h;exact⟨Ha h.1,En.1 h.2⟩
def Ld (vs:List Value):List Value:=vs.flatMap λv=>v.cells.toList
theorem Aiu {σ:A7} {ι:Cb} {H:Hp} {sz:Nat}:∀(xs:List AV) (vs:List Value),xs.length=vs.length->(∀x∈xs,L6 sz x=true) -> (∀(i:Nat) (x:AV) (v:Value),xs[i]? = some x->vs[i]? = some v->Conc σ ι H x v) -> (Ld vs).length=xs.length*sz/\∃g:Nat->Nat->Value,(∀(i:Nat) (x:AV) (j:Nat) (c:AV),xs[i]? = some x->x.cells[j]? = some c->CC σ c (g i j)/\Fi (g i j)=true) /\ (∀(i j:Nat),i<xs.length->j<sz->(Ld vs)[i*sz+j]? = some (g i j))
 | [],[],_,_,_=>⟨by simp[Ld],λ_ _=>undef,ψ,ψ⟩
 | x::xs,v::vs,A,h,J=>by
  obtain⟨s,g,q,l⟩:=Aiu xs vs (by simpa using A) (λy G=>h y (by simp[G])) λi y u K L=>J (i+1) y u (by simpa using K) (by simpa using L);have M:=J 0 x v ψ ψ;have I:=Oh (h x ψ);have b:=M.cells;have f:v.cells.toList.length=sz:=(by simp[b.1,I.1]);have k:Ld (v::vs)=v.cells.toList++Ld vs:=(by simp[Ld]);refine⟨by rw[k,length_append,s,f,length_cons,E6];omega,λi j=>if i=0 then (v.cells[j]?).getD undef else g (i-1) j,?_,?_⟩
  .intro i y j c G D;cases i with
   | zero=>simp at G;subst G;have C:j<v.cells.size:=(by rw[b.1];exact (G1.1 D).1);have:(v.cells[j]?).getD undef=v.cells[j]:=(by simp[C]);simp only[if_pos];rw[this];exact (b.2 j c _ D (by simp[C])).cc_of (I.2 c (Fq D))
   | succ i=>have z:xs[i]? = some y:=(by simpa using G);simpa using q i y j c z D
  .intro i j hi D;rw[k];cases i with
   | zero=>rw[getElem?_append_left ω,Nat.zero_mul,Nat.zero_add,G6];have C:j<v.cells.size:=(by rw[b.1,I.1];exact D);simp[C]
   | succ i=>rw[getElem?_append_right (by rw[f,E6];omega),f,show (i+1)*sz+j-sz=i*sz+j by rw[E6];omega];rw[l i j (by simpa using hi) D];simp
theorem An6 {sz:Nat}:∀(vs:List Value) (m:Nat) (C:Array Value),(∀v∈vs,v.cells.size=sz)->C.size=(m+vs.length)*sz -> ∃f,Instr.fill (λi=>some (i*sz,sz)) C ((vs.zipIdx m).map λp=>(p.2,p.1))=some f/\f.size=C.size/\(∀k:Nat,k<m*sz->f[k]? = C[k]?) /\ ∀k:Nat,m*sz<=k->f[k]? = (Ld vs)[k-m*sz]?
 | [],m,C,_,g=>by refine⟨C,rfl,rfl,λ_ _=>rfl,λk A=>?_⟩;simp only[length_nil,Nat.add_zero]at g;simp[Ld];omega
 | v::vs,m,C,D,g=>by
  simp only[length_cons]at g;have G:=D v ψ;have l:(m+(vs.length+1))*sz=m*sz+sz+vs.length*sz:=(by rw[E6,E6];omega);have b:=Ait (m*sz) v.cells.toList 0 C ζ;simp only[Nat.add_zero,Array.length_toList,G]at b;obtain⟨f,x,s,j,q⟩:=An6 vs (m+1) (((v.cells.toList.zipIdx 0).foldl (λcs p=>cs.setIfInBounds (m*sz+p.2) p.1) C)) (λu I=>D u (by simp[I])) (by rw[b.1,g,show m+1+vs.length=m+(vs.length+1) by omega]);refine⟨f,?_,by rw[s,b.1],?_,?_⟩
  .simp only[zipIdx_cons,map_cons,Instr.fill];have c:(v.cells.size≠sz||decide (m*sz+v.cells.size>C.size))=false:=by simp;omega
   rw[c];simp only[Bool.false_eq_true,if_false];rw[<-Array.foldl_toList,Array.toList_zipIdx];exact x
  .intro k A;rw[j k (by rw[E6];omega),b.2 k,if_neg ω]
  .intro k A;have h:Ld (v::vs)=v.cells.toList++Ld vs:=(by simp[Ld]);rw[h];by_cases J:k<m*sz+sz
   .rw[j k (by rw[E6];omega),b.2 k,if_pos ω,getElem?_append_left ζ]
   .rw[q k (by rw[E6];omega),getElem?_append_right ζ];congr 1;simp only[Array.length_toList,G];rw[E6];omega
theorem A0a (ps:List (Nat×Operand)) (f:Operand->Value) (m:Nat) (h:ps.map (·.1)=range' m ps.length):ps.map (λp=>(p.1,f p.2))=((ps.map λp=>f p.2).zipIdx m).map λp=>(p.2,p.1):=by induction ps generalizing m with| nil=>rfl| cons p ps ih=>simp only[map_cons,length_cons,range'_succ,List.cons.injEq]at h;simp only[map_cons,zipIdx_cons,List.cons.injEq];exact⟨by rw[h.1],ih (m+1) h.2⟩
theorem An7 {len:Nat} (R:o.op = .buildSlice t len b) (hi:I5 P t=some i) (hd:i.d = .slice e) (S:I5 P e=some i') (Z:0<i'.size) (hp:b.toList.map (·.1)=range' 0 len) (a1:len*i'.size<=16777216) (hv:∀p∈b.toList,(a.eval p.2).cells.size=i'.size) : ∃C:Array Value,C.toList=Ld (b.toList.map λp=>a.eval p.2)/\(execOp a.eval o).run P w = .ok (.value (.slice (some ⟨w.heap.size,0,none⟩) len len)) (w.alloc (.cells C e)):=by
 obtain⟨M,u,z,k1,L,k3,k4,k5,k6,J⟩:=Fg hi;rw[hd]at J;subst J;obtain⟨j,Y,y⟩:=An2 S w;have N:=Pp S w;have c:b.toList.length=len:=by have:=congrArg length hp;simpa using this
 have A:∀v∈(b.toList.map λp=>a.eval p.2),v.cells.size=i'.size:=by intro v l;simp only[mem_map]at l;obtain⟨p,D,rfl⟩:=l;exact hv p D
 have G:∀(vs:List Value),(∀v∈vs,v.cells.size=i'.size)->(Ld vs).length=vs.length*i'.size:=by intro vs;induction vs with| nil=>intro _;simp[Ld]| cons v vs ih=>intro h;have:=ih λu hu=>h u (by simp[hu]);have h0:=h v ψ;simp only[Ld,flatMap_cons,length_append,Array.length_toList,h0,length_cons]at this ⊢;rw[this,E6];omega
 obtain⟨s,X,V,r3,U⟩:=An6 (sz:=i'.size) (b.toList.map λp=>a.eval p.2) 0 ((Array.range (len*i'.size)).map (j.cells[· % j.cells.size]!)) A (by simp[c]);refine⟨s,?_,?_⟩
 .apply ext_getElem?;intro k;rw[G6,U k ω];simp
 .have K:0<len\/len=0:=ω;have g:Instr.fill (λi=>some (i*i'.size,i'.size)) ((Array.range (len*i'.size)).map (j.cells[· % j.cells.size]!)) ((b.map λ(i,x)=>(i,a.eval x)).toList)=some s:=(by rw[<-X,<-A0a b.toList a.eval 0 (by rw[hp,c])];simp);rcases K with K|K
  .have E:¬len*i'.size=0:=(by have:=Nat.mul_pos K Z;omega);have q:¬len*i'.size>2 ^ 24:=ω;have f:Instr.fill (λi=>some (i*i'.size,i'.size)) ((Array.range (len*i'.size)).map (j.cells[· % j.cells.size]!)) (b.toList.map λx=>(x.1,a.eval x.2))=some s:=(by rw[<-g];simp);simp[execOp,R,Instr.buildSlice,run_underlying L,N,q,E,y,f,newRow,newObj,Sem.run]
  .subst K;have I:s = #[]:=(by apply Array.eq_empty_of_size_eq_zero;rw[V];simp);subst I;have B:b = #[]:=(by apply Array.eq_empty_of_size_eq_zero;simpa using c);subst B;have:(Array.map (λ_:Nat=>(default:Value)) (Array.range 0)) = #[]:=ψ;simp[execOp,R,Instr.buildSlice,run_underlying L,N,newRow,newObj,Sem.run,Instr.fill,this]
theorem Ac9 {len:Nat} {p:Nat×Operand} (h:p∈b.toList):p.2∈(Op.buildSlice t len b).operands.toList:=by simp only[Op.operands];simpa using ⟨p.1,by simpa using h⟩
theorem An8 (B:Dt P T) {len:Nat} (z:o.op = .buildSlice t len b) (ht:T t=some i) (U:i.d = .slice e) (I:T e=some i') (A:0<i'.size) (hp:b.toList.map (·.1)=range' 0 len) (y:len*i'.size<=16777216) (h:∀p∈b.toList,L6 i'.size (ρ p.2)=true) : Cn P o ρ ⟨.sl i'.size (b.toList.map λp=>ρ p.2),[],[]⟩:=by
  intro σ ι H F W w a next Q s k _ V
  have l:b.toList.length=len:=(by have:=congrArg length hp;simpa using this);have u:∀p∈b.toList,(a.eval p.2).cells.size=i'.size:=(by intro p f;rw[((k p.2 (by rw[z];exact Ac9 f)).cells).1];exact (Oh (h p f)).1);obtain⟨C,J,D⟩:=An7 (P:=P) (a:=a) (w:=w) z (B t i ht) U (B e i' I) A hp y u;obtain⟨G,g,R,X⟩:=Aiu (σ:=σ) (ι:=ι) (H:=H) (sz:=i'.size) (b.toList.map λp=>ρ p.2) (b.toList.map λp=>a.eval p.2) ψ (by intro x S;simp only[mem_map]at S;obtain⟨p,f,rfl⟩:=S;exact h p f) (by intro j x v L M;rw[getElem?_map]at L M;cases K:b.toList[j]? with| none=>rw[K]at L;simp at L| some p=>rw[K]at L M;simp at L M;subst L;subst M;exact k p.2 (by rw[z];exact Ac9 (Fq K)))
  obtain⟨s',le⟩:=s.newFrozen (.cells C e);refine Gx D (V _ ι _ _ le s' (.cc ?_));have E:len<=140737488355328:=(by have:len*1<=len*i'.size:=Nat.mul_le_mul_left len A;omega);have:=CC.sl (σ:=Az σ w.heap.size (some (.cells C e))) (b.toList.map λp=>ρ p.2) w.heap.size 0 len i'.size C e (0,0) g (Ch _ _ _)
    (by intro j x K
        rw[getElem?_map]at K
        cases N:b.toList[j]? with
        | none=>rw[N]at K;simp at K
        | some p=>rw[N]at K;simp at K;subst K;exact (Oh (h p (Fq N))).1) (λj x q c L M=>((R j x q c L M).1).mono le.sto) (λj x q c L M=>(R j x q c L M).2) (by intro j q K hq;rw[Nat.zero_add,<-G6,J];exact X j q K hq) (by rw[length_map];omega) (by rw[length_map];omega)
  rw[length_map,l]at this;exact this
theorem A0b (I:Dt P T) {len:Nat} (h:Nat) (E:o.op = .buildSlice t len b) (ht:T t=some i) (hd:i.d = .slice e) (R:T e=some i') (z:0<i'.size) (hp:b.toList.map (·.1)=range' 0 len) (B:len*i'.size<=16777216) (f:∀p∈b.toList,L6 i'.size (ρ p.2)=true) :
  Cn P o ρ ⟨.arr h len 0 len,[(h,.none)],[(h,.rows e i'.size (b.toList.map λp=>ρ p.2))]⟩:=by
 intro σ ι H F W w a next Q s k D hk
 have M:H h = .none:=D (h,.none) ψ
 have l:b.toList.length=len:=by have:=congrArg length hp;simpa using this
 have A:∀p∈b.toList,(a.eval p.2).cells.size=i'.size:=by
  intro p c
  rw[((k p.2 (by rw[E];exact Ac9 c)).cells).1]
  exact (Oh (f p c)).1
 obtain⟨C,J,L⟩:=An7 (P:=P) (a:=a) (w:=w) E (I t i ht) hd (I e i' R) z hp B A
 obtain⟨G,g,g1,g2⟩:=Aiu (σ:=σ) (ι:=ι) (H:=H) (sz:=i'.size) (b.toList.map λp=>ρ p.2) (b.toList.map λp=>a.eval p.2) ψ
  (by intro x hx;simp only[mem_map]at hx;obtain⟨p,c,rfl⟩:=hx;exact f p c)
  (by
   intro j x v V X
   rw[getElem?_map]at V X
   cases K:b.toList[j]? with
   | none=>rw[K]at V;simp at V
   | some p=>
    rw[K]at V X;simp at V X;subst V;subst X
    exact k p.2 (by rw[E];exact Ac9 (Fq K)))
 have N:len<=140737488355328:=by
  have:len*1<=len*i'.size:=Nat.mul_le_mul_left len z
  omega
 obtain⟨s',le⟩:=s.newRows h e i'.size (b.toList.map λp=>ρ p.2) len C (.inl M) z (by rw[length_map];omega) (by rw[length_map];omega)
  (by rw[<-Array.length_toList,J,G,length_map,l]) ⟨g,(by
    intro j x K
    rw[getElem?_map]at K
    cases U:b.toList[j]? with
    | none=>rw[U]at K;simp at K
    | some p=>rw[U]at K;simp at K;subst K;exact (Oh (f p (Fq U))).1),g1,(by
    intro j q K hq;rw[<-G6,J];exact g2 j q K hq)⟩
 refine Gx L (hk _ _ _ _ le s' ?_)
 refine .arr h len 0 len _ (by show Az H h _ h≠_;rw[Ch];intro e;cases e) (λS y u e'=>?_) rfl
 have e':Az H h _ h = .rows S y u:=e'
 rw[Ch]at e';cases e'
 refine⟨by rw[length_map];omega,λ_=>?_⟩
 rw[Ch]
 exact⟨ω,by rw[Nat.zero_mul];rfl⟩
def Gj (i:TI):AV := match i.d,i.zero with
 | .struct _,z=>.agg (z.map .val)
 | _,[v]=>.val v
 | _,z=>.agg (z.map .val)
theorem An9 (hT:Dt P T) {k':IntKind} {c:Nat} (I:AV) (h:Nat) (Y:o.op = .makeSlice t x y) (ht:T t=some i) (hd:i.d = .slice e) (he:T e=some i') (hz:0<i'.size) (hx:ρ x = .val (.int k (l:Int))) (hy:ρ y = .val (.int k' (c:Int))) (a1:l<=c) (hb:i'.bytes*c<=281474976710656) (hc:c<=140737488355328) (a7:I.cells.length=i'.size) (a6:i'.zero.length=i'.size) (U:∀(q:Nat) (c:AV) (v:Value),I.cells[q]? = some c->i'.zero[q]? = some v->(∀σ,CC σ c v)/\Fi v=true) :
  Cn P o ρ ⟨.arr h l 0 l,[(h,.none)],[(h,.rows e i'.size (replicate l I))]⟩:=by
 intro σ ι H F W w a next Q s E V hk
 have hn:H h = .none:=V (h,.none) ψ
 have h1:=D9 hx (E x (by simp[Y,Op.operands]))
 have h2:=D9 hy (E y (by simp[Y,Op.operands]))
 obtain⟨a8,u,z,k1,k2,k3,k4,k5,k6,k7⟩:=Fg (hT t i ht)
 rw[hd]at k7;subst k7
 obtain⟨A,u',b,S,ab,R,N,M,D,aa⟩:=Fg (hT e i' he)
 have g:=run_make (P:=P) w t e A b k2 S R k k' (l:Int) (c:Int) ω ω (by
   have h':((i'.bytes*c:Nat):Int)<=281474976710656:=ω
   rw[Int.natCast_mul]at h';rw[M];exact h') ω
 rw[Int.toNat_natCast,Int.toNat_natCast,N]at g
 have f:b.cells.size=i'.size:=by
  rw[<-a6,D,Array.length_toList]
 have B:∀q,q<c*i'.size->(madeCells b.cells (c*i'.size))[q]? = b.cells[q % i'.size]?:=by
  intro q C
  unfold madeCells
  have hm:q % i'.size<b.cells.size:=by rw[f];exact Nat.mod_lt _ hz
  have Z:b.cells[q % i'.size]! = b.cells[q % i'.size]:=by simp[hm]
  simp[C,f,Z]
 obtain⟨s',le⟩:=s.newRows h e i'.size (replicate l I) c (madeCells b.cells (c*i'.size)) (.inl hn) hz ζ (by simpa using a1) (by simp[madeCells])
  ⟨λ_ j=>(b.cells[j]?).getD undef,(by
   intro j x' K
   have:=Fq K
   simp at this
   rw[this.2];exact a7),(by
   intro j x' q c' K C
   have:=Fq K
   simp at this
   rw[this.2]at C
   have X:q<b.cells.size:=by
    have:=(G1.1 C).1
    omega
   have hv:b.cells[q]? = some b.cells[q]:=Array.getElem?_eq_getElem X
   have:=U q c' b.cells[q] C (by rw[D,G6,hv])
   show CC σ c' ((b.cells[q]?).getD undef)/\Fi ((b.cells[q]?).getD undef)=true
   rw[hv]
   exact⟨this.1 σ,this.2⟩),(by
   intro j q K C
   have a2:j<l:=by simpa using K
   have a0:j*i'.size+q<c*i'.size:=by
    have:(j+1)*i'.size<=c*i'.size:=Nat.mul_le_mul_right _ ω
    rw[E6]at this;omega
   rw[B _ a0]
   have:(j*i'.size+q) % i'.size=q:=by rw[Nat.mul_comm,Nat.mul_add_mod,Nat.mod_eq_of_lt C]
   rw[this]
   have G:q<b.cells.size:=ω
   simp[G])⟩
 refine Gx (v:=.slice (some ⟨w.heap.size,0,none⟩) l c) ?_ (hk _ _ _ _ le s' ?_)
 .simp[execOp,Y,h1,h2,g]
 .refine .arr h l 0 l _ (by show Az H h _ h≠_;rw[Ch];intro e;cases e) (λE' L J e'=>?_) rfl
  have e':Az H h _ h = .rows E' L J:=e'
  rw[Ch]at e';cases e'
  refine⟨ψ,λ_=>?_⟩
  rw[Ch]
  exact⟨ω,by rw[Nat.zero_mul];rfl⟩
theorem A0c (U:Dt P T) {R:IntKind} {m:Nat} {v:Value} (h:Nat) (L:o.op = .makeSlice t x y) (ht:T t=some i) (hd:i.d = .slice e) (he:T e=some i') (Z:i'.size=1) (hv:i'.zero = [v]) (hx:ρ x = .val (.int k (m:Int))) (hy:ρ y = .val (.int R (m:Int))) (hb:i'.bytes*m<=281474976710656) (hm:m<=16) : Cn P o ρ ⟨.vec h m,[(h,.none)],[(h,.cells e (replicate m (.val v)))]⟩:=by
 intro σ ι H F W w a next Q s g I hk
 have hn:H h = .none:=I (h,.none) ψ;have h1:=D9 hx (g x (by simp[L,Op.operands]));have h2:=D9 hy (g y (by simp[L,Op.operands]));obtain⟨S,u,z,k1,Y,k3,k4,k5,k6,N⟩:=Fg (U t i ht);rw[hd]at N;subst N;obtain⟨f,u',M,D,X,B,A,l,j,V⟩:=Fg (U e i' he);have b:=run_make (P:=P) w t e f M Y D B k R (m:Int) (m:Int) ω ω (by have K:((i'.bytes*m:Nat):Int)<=281474976710656:=ω;rw[Int.natCast_mul]at K;rw[l];exact K) ω;rw[Int.toNat_natCast,A,Z,Nat.mul_one]at b;have E:M.cells = #[v]:=by apply Array.ext';rw[<-j,hv]
 rw[E]at b;obtain⟨s',le⟩:=s.newBox h hn e (replicate m (.val v)) (madeCells #[v] m) (by simp[madeCells]) (by intro q c u hq C;have hc:=Fq hq;simp at hc;have J:q<m:=(by have:=(G1.1 hq).1;simpa using this);have G:u=v:=(by unfold madeCells at C;simp[J]at C;rw[<-C,Nat.mod_one];rfl);rw[hc.2,G];exact .of_val v);refine Gx (v:=.slice (some ⟨w.heap.size,0,none⟩) m m) ?_ (hk _ _ _ _ le s' ?_)
 .simp[execOp,L,h1,h2,b]
 .exact .vec h m _ (Ch _ _ _)
theorem A0d (D:Dt P T) {u:IntKind} {c:Nat} (h:Nat) (A:o.op = .makeSlice t x y) (ht:T t=some i) (I:i.d = .slice e) (B:T e=some i') (z:0<i'.size) (J:ρ x = .val (.int k (l:Int))) (K:ρ y = .val (.int u (c:Int))) (f:l<=c) (hb:i'.bytes*c<=281474976710656) (L:c<=140737488355328) (g:L6 i'.size (Gj i')=true) (b:(Gj i').cells=i'.zero.map .val) : Cn P o ρ ⟨.arr h l 0 l,[(h,.none)],[(h,.rows e i'.size (replicate l (Gj i')))]⟩:=by obtain⟨s,E⟩:=Oh g;refine An9 D (Gj i') h A ht I B z J K f hb L s (by rw[<-s,b,length_map]) ?_;intro q G v C M;have j:=E G (Fq C);rw[b,getElem?_map,M]at C;simp at C;subst C;exact⟨λσ=>.val v,j⟩
inductive G7:List AV->List AV->Prop
 | nil:G7 [] []
 | same (c:AV) {l l':List AV} (h:G7 l l'):G7 (c::l) (c::l')
 | sl (s:Nat) {l l':List AV} (h:G7 l l'):G7 (.val (.slice none 0 0)::l) (.sl s []::l')
theorem G7.spec {l g:List AV} (h:G7 l g):g.length=l.length/\∀(q:Nat) (c f:AV),l[q]? = some c->g[q]? = some f->f=c\/∃s,c = .val (.slice none 0 0)/\f = .sl s []:=by
 induction h with
 | nil=>exact⟨rfl,λq c f h=>by simp at h⟩
 | same c h ih=>refine⟨by simp[ih.1],λq a b h1 h2=>?_⟩;cases q with| zero=>cases h1;cases h2;exact .inl rfl| succ q=>exact ih.2 q a b h1 h2
 | sl s h ih=>refine⟨by simp[ih.1],λq a b h1 h2=>?_⟩;cases q with| zero=>cases h1;cases h2;exact .inr ⟨s,rfl,rfl⟩| succ q=>exact ih.2 q a b h1 h2
theorem A0e (J:Dt P T) {B:IntKind} {c:Nat} (g:AV) (h:Nat) (E:o.op = .makeSlice t x y) (ht:T t=some i) (C:i.d = .slice e) (I:T e=some i') (D:0<i'.size) (K:ρ x = .val (.int k (l:Int))) (S:ρ y = .val (.int B (c:Int))) (j:l<=c) (hb:i'.bytes*c<=281474976710656) (U:c<=140737488355328) (u:L6 i'.size (Gj i')=true) (b:(Gj i').cells=i'.zero.map .val) (G:G7 (Gj i').cells g.cells) : Cn P o ρ ⟨.arr h l 0 l,[(h,.none)],[(h,.rows e i'.size (replicate l g))]⟩:=by
 obtain⟨M,L⟩:=Oh u;obtain⟨R,A⟩:=G.spec;refine An9 J g h E ht C I D K S j hb U ω (by rw[<-M,b,length_map]) ?_;intro q N v V X;have f:(Gj i').cells[q]? = some (.val v):=by rw[b,getElem?_map,X];rfl
 have z:=L _ (Fq f);rcases A q _ N f V with rfl|⟨s,h1,rfl⟩
 .exact⟨λσ=>.val v,z⟩
 .cases h1;exact⟨λσ=>.nil s _ _,rfl⟩
end
section
variable {P:Program} {o:Oper} {ρ:Operand->AV} {a:Act} {w w':World} {next:Act->World->Prop} {Q:Exit->Act->World->Prop}
variable {F σ:A7} {ι:Cb} {H:Hp} {xs ys:List AV} {sz:Nat} {e t t' ty:TypeId} {i:TypeInfo} {v:Value} {W:World}
structure L7 (P:Program) (w:World) (src:Value) (sz n:Nat) (Cq:List Value):Prop where
 len:∀d,(Builtin.lenOf src).run P {w with drawn:=d} = .ok n {w with drawn:=d}
 cells:∀d,(Builtin.firstCells sz n src).run P {w with drawn:=d} = .ok Cq.toArray {w with drawn:=d}
 size:Cq.length=n*sz
theorem L8 {i:TI} (h:I5 P t=some i) (A:i.d = .slice e):∃u,P.underlying t=some u/\u = .slice e:=by obtain⟨c,u,z,q,f,l,k,j,g,b⟩:=Fg h;rw[A]at b;exact⟨u,f,b⟩
theorem Aoa {j:TypeDesc} (ht:P.underlying t=some (.slice e)) (u:P.underlying t'=some j) (k:(∃e',j = .slice e')\/j = .string) (hi:P.info? e=some i) (b:Addr) (c f n:Nat) (g:Value) (Cq:List Value) (q:L7 P w g i.size n Cq) (h:c+n<=f) (l:(storeCells (b.add (c*i.size)) Cq).run P w = .ok () w') : (Builtin.append_ #[t,t'] ty #[.slice (some b) c f,g]).run P w = .ok (.slice (some b) (c+n) f) w':=by have A:=q.len w.drawn;have C:=q.cells w.drawn;have s:({w with drawn:=w.drawn}:World)=w:=rfl;rw[s]at A C;rcases k with⟨e',rfl⟩|rfl <;> simp[Builtin.append_,run_underlying ht,run_underlying u,sizeOf,typeInfo,hi,A,h,C,l]
theorem A0f {c:TypeDesc} (ht:P.underlying t=some (.slice e)) (u:P.underlying t'=some c) (f:(∃e',c = .slice e')\/c = .string) (hi:P.info? e=some i) (b:Value) (g:L7 P w b i.size 0 []) : (Builtin.append_ #[t,t'] ty #[.slice none 0 0,b]).run P w = .ok (.slice none 0 0) w:=by have A:=g.len w.drawn;have C:=g.cells w.drawn;have h:({w with drawn:=w.drawn}:World)=w:=rfl;rw[h]at A C;rcases f with⟨e',rfl⟩|rfl <;> simp[Builtin.append_,run_underlying ht,run_underlying u,sizeOf,typeInfo,hi,A,C]
theorem Aiv {k:TypeDesc} {z:Value} (ht:P.underlying t=some (.slice e)) (C:P.underlying t'=some k) (l:(∃e',k = .slice e')\/k = .string) (hi:P.info? e=some i) (s:i.zero=some z) (p:Option Addr) (b c n:Nat) (g:Value) (f Cq:List Value) (q:L7 P w g i.size n Cq) (u:L7 P w (.slice p b c) i.size b f) (hg:c<b+n) (y:b+n<=9223372036854775807) (hb:(b+n)*i.bytes<=140737488355328) : (Builtin.append_ #[t,t'] ty #[.slice p b c,g]).run P w =
   .ok (.slice (some ⟨w.heap.size,0,none⟩) (b+n) (grownCap w (b+n) c e)) (w.drew.alloc (.cells ((f++Cq).toArray++Builtin.zeroCells z.cells (grownCap w (b+n) c e-(b+n))) e)):=by
 have D:=q.len w.drawn;have G:=q.cells (w.drawn+1);have I:=u.cells (w.drawn+1);have B:({w with drawn:=w.drawn}:World)=w:=rfl;have A:({w with drawn:=w.drawn+1}:World)=w.drew:=rfl;rw[B]at D;rw[A]at G I;have x:¬(b+n<=c):=ω;have h:¬(9223372036854775807<((b:Int)+(n:Int))):=ω;have j:¬(281474976710656<Builtin.nextslicecap (b+n) c*i.bytes):=by have:=growslice_fits hg hb;omega
 rcases l with⟨e',rfl⟩|rfl <;> simp[Builtin.append_,run_underlying ht,run_underlying C,sizeOf,typeInfo,zeroValue,hi,s,D,x,h,j,Question.forced,G,I,newRow,grownCap] <;>
 (congr 2;apply Array.ext';simp[append_assoc])
theorem Ada (w:World) (b c:Nat) (e:TypeId):b<=grownCap w b c e:=by unfold grownCap;show b<=b+_;omega
theorem Adb (s:St σ ι H F W w) (l:0<sz) (L:CC σ (.sl sz ys) v) : ∃(Cq:List Value) (g:Nat->Nat->Value),L7 P w v sz ys.length Cq/\(∀(i:Nat) (x:AV),ys[i]? = some x->x.cells.length=sz) /\ (∀(i:Nat) (x:AV) (j:Nat) (c:AV),ys[i]? = some x->x.cells[j]? = some c->CC σ c (g i j)/\Fi (g i j)=true)/\(∀(i j:Nat),i<ys.length->j<sz->Cq[i*sz+j]? = some (g i j)):=by
 rcases L.sl_inv with⟨rfl,p,I,rfl⟩|⟨b,off,I,C,E,M,g,rfl,y,z,k,A,G,u⟩
 .refine⟨[],λ_ _=>undef,⟨λd=>by simp[Builtin.lenOf],λd=>?_,ψ⟩,ψ,ψ,ψ⟩;cases p with| none=>simp[Builtin.firstCells]| some a=>simp[Builtin.firstCells,loadCells,loadCellsFrom]
 .refine⟨(range (ys.length*sz)).map λq=>g (q / sz) (q % sz),g,⟨λd=>by simp[Builtin.lenOf],λd=>?_,ψ⟩,z,k,λi j hi K=>?_⟩
  .have N:({w with drawn:=d}:World).heap[b]? = some (.cells C E M):=s.sto _ _ y;have:=run_loadCells (P:=P) {w with drawn:=d} ⟨b,off,none⟩ (ys.length*sz) (λq=>g (q / sz) (q % sz)) (by intro q R;rw[Lq,Kz N];have h:q / sz<ys.length:=Nat.div_lt_of_lt_mul (by rwa [Nat.mul_comm]at R);have f:q % sz<sz:=Nat.mod_lt _ l;have:=A (q / sz) (q % sz) h f;rw[<-this];congr 1;have:=Nat.div_add_mod q sz;rw[Nat.mul_comm]at this;omega);simp only[Builtin.firstCells];exact this
  .have J:i*sz+j<ys.length*sz:=(by have:(i+1)*sz<=ys.length*sz:=Nat.mul_le_mul_right _ ω;rw[E6]at this;omega);rw[getElem?_map,getElem?_range J];have D:(i*sz+j) / sz=i:=(by rw[Nat.mul_comm,Nat.mul_add_div l,Nat.div_eq_of_lt K];omega);have B:(i*sz+j) % sz=j:=(by rw[Nat.mul_comm,Nat.mul_add_mod,Nat.mod_eq_of_lt K]);simp[D,B]
theorem I4.append {C l:Array Value} (hx:I4 σ sz xs C) (b:Nat->Nat->Value) (h1:∀(i:Nat) (x:AV),ys[i]? = some x->x.cells.length=sz) (h2:∀(i:Nat) (x:AV) (j:Nat) (c:AV),ys[i]? = some x->x.cells[j]? = some c->CC σ c (b i j)/\Fi (b i j)=true) (h:∀k:Nat,k<xs.length*sz->l[k]? = C[k]?) (f:∀(i j:Nat),i<ys.length->j<sz->l[(xs.length+i)*sz+j]? = some (b i j)):I4 σ sz (xs++ys) l:=by
 obtain⟨g,u,s,q⟩:=hx;refine⟨λi j=>if i<xs.length then g i j else b (i-xs.length) j,?_,?_,?_⟩
 .intro i x hi;by_cases A:i<xs.length
  .rw[getElem?_append_left A]at hi;exact u i x hi
  .rw[getElem?_append_right ω]at hi;exact h1 _ x hi
 .intro i x j c hi D;by_cases A:i<xs.length
  .rw[getElem?_append_left A]at hi;simp only[if_pos A];exact s i x j c hi D
  .rw[getElem?_append_right ω]at hi;simp only[if_neg A];exact h2 _ x j c hi D
 .intro i j hi D;by_cases A:i<xs.length
  .simp only[if_pos A];rw[h _ (by have:(i+1)*sz<=xs.length*sz:=Nat.mul_le_mul_right _ ω;rw[E6]at this;omega)];exact q i j A D
  .simp only[if_neg A];have:=f (i-xs.length) j (by simp at hi;omega) D;rwa [show xs.length+(i-xs.length)=i by omega]at this
theorem Adc (s:St σ ι H F W w) {i:TI} {u':TypeDesc} (ht:P.underlying t=some (.slice e)) (a3:P.underlying t'=some u') (J:(∃e',u' = .slice e')\/u' = .string) (he:I5 P e=some i) (hz:0<i.size) (a6:i.zero.length=i.size) {h:Nat} (hh:H h = .rows e i.size xs) {q:Value} (hv:Hq (ι h) i.size 0 xs.length v) (ac:1<=i.bytes) (hb:(xs.length+ys.length)*i.bytes<=140737488355328) {Cq:List Value} {g:Nat->Nat->Value} (B:L7 P w q i.size ys.length Cq) (h1:∀(i':Nat) (x:AV),ys[i']? = some x->x.cells.length=i.size) (h2:∀(i':Nat) (x:AV) (j:Nat) (c:AV),ys[i']? = some x->x.cells[j]? = some c->CC σ c (g i' j)/\Fi (g i' j)=true) (h3:∀(i' j:Nat),i' < ys.length->j<i.size->Cq[i' * i.size+j]? = some (g i' j)) (V:∀u∈Cq,Fi u=true) : ∃(ι':Cb) (v':Value) (w':World),(Builtin.append_ #[t,t'] ty #[v,q]).run P w = .ok v' w'/\Le σ ι H σ ι' (Az H h (.rows e i.size (xs++ys)))/\St σ ι' (Az H h (.rows e i.size (xs++ys))) F W w' /\ Hq (ι' h) i.size 0 (xs.length+ys.length) v':=by
 obtain⟨L,u,z,k1,k2,k3,M,k5,k6,k7⟩:=Fg he;have l:xs.length+ys.length<=140737488355328:=by have:(xs.length+ys.length)*1<=(xs.length+ys.length)*i.bytes:=Nat.mul_le_mul_left _ ac;omega
 have a7:z.cells.size=i.size:=by rw[<-a6,k6];simp
 have A:∀n,(Builtin.zeroCells z.cells n).size=n*i.size:=by intro n;simp[Builtin.zeroCells,a7]
 have E:=s.obj h;unfold C4 at E;rw[hh]at E;obtain⟨_,_,E⟩:=E;unfold Hq at hv;split at hv
 .rename_i Y;obtain⟨rfl,_,aa⟩:=hv;have a8:xs = []:=eq_nil_of_length_eq_zero aa;subst a8;by_cases hy:ys = []
  .subst hy;have S:Cq = []:=eq_nil_of_length_eq_zero (by rw[B.size];simp);subst S;refine⟨ι,.slice none 0 0,w,A0f ht a3 J k1 q (by rw[M];exact B),?_,?_,?_⟩
   .rw[append_nil,<-hh,J8];exact Le.refl _ _ _
   .rw[append_nil,<-hh,J8];exact s
   .rw[Y];exact⟨rfl,rfl,rfl⟩
  .have K:0<ys.length:=length_pos_iff.2 hy;have ho:L7 P w (.slice none 0 0) L.size 0 []:=⟨λd=>by simp[Builtin.lenOf],λd=>by simp[Builtin.firstCells],ψ⟩;have R:=Aiv (P:=P) (ty:=ty) (w:=w) ht a3 J k1 k3 none 0 0 ys.length q [] Cq (by rw[M];exact B) ho ω (by simp at l;omega) (by rw[k5];simpa using hb);rw[Nat.zero_add,nil_append]at R;have a0:=Ada w ys.length 0 e;obtain⟨s',le⟩:=(s.drew (w.drawn+1)).newRows h e i.size ([]++ys) (grownCap w ys.length 0 e) (Cq.toArray++Builtin.zeroCells z.cells (grownCap w ys.length 0 e-ys.length)) (.inr ⟨e,i.size,[],hh,by simpa using K⟩) hz (by simpa using l) (by simpa using a0) (by rw[Array.size_append,A];simp[B.size,<-E6];rw[Nat.add_sub_cancel' a0]) ⟨g,(by simpa using h1),(by simpa using h2),(by intro i' j hi hj;simp only[nil_append]at hi;have a2:i' * i.size+j<Cq.length:=(by have:(i' + 1)*i.size<=ys.length*i.size:=Nat.mul_le_mul_right _ ω;rw[E6]at this;rw[B.size];omega);rw[Array.getElem?_append_left (by simpa using a2),getElem?_toArray];exact h3 i' j hi hj)⟩;refine⟨_,_,_,R,le,s',?_⟩;rw[Ch];simp only[length_nil,Nat.zero_add];exact⟨ω,by rw[Nat.zero_mul];rfl⟩
 .rename_i b f y;obtain⟨ab,rfl⟩:=hv;rcases E with⟨e1,_⟩|⟨b',ad,C,e1,p1,p2,p3,p4,p5,p6⟩
  .rw[y]at e1;cases e1
  rw[y]at e1;cases e1;by_cases I:xs.length+ys.length<=f
  .have N:xs.length*i.size+Cq.length<=C.size:=(by rw[B.size,<-E6,p4];exact Nat.mul_le_mul_right _ I);have U:=run_storeCells_at (P:=P) b (xs.length*i.size) e Cq 0 C w p3 (by simpa using N) (λu hu=>by rw[Aij];exact V u hu);simp only[Nat.add_zero]at U;have R:=Aoa (P:=P) (ty:=ty) (w:=w) ht a3 J k1 ⟨b,0,none⟩ xs.length f ys.length q Cq (by rw[M];exact B) I (by rw[Lq,Nat.zero_add,M];exact U);have D:I4 σ i.size (xs++ys) (C.toList.take (xs.length*i.size)++Cq++C.toList.drop (xs.length*i.size+Cq.length)).toArray:=by
    refine I4.append p6 g h1 h2 ?_ ?_
    .intro k hk;rw[Vr _ _ _ N,if_pos hk]
    .intro i' j hi hj;have a2:i' * i.size+j<Cq.length:=(by have:(i' + 1)*i.size<=ys.length*i.size:=Nat.mul_le_mul_right _ ω;rw[E6]at this;rw[B.size];omega);have e2:(xs.length+i')*i.size+j=xs.length*i.size+(i' * i.size+j):=(by rw[E6];omega);rw[Vr _ _ _ N,e2,if_neg ω,if_pos ω,Nat.add_sub_cancel_left];exact h3 i' j hi hj
   have a1:(C.toList.take (xs.length*i.size)++Cq++C.toList.drop (xs.length*i.size+Cq.length)).toArray.size=f*i.size:=ζ;by_cases hy:ys = []
   .subst hy;obtain⟨s',le⟩:=s.setRows h e i.size xs (xs++[]) hh b f y ψ _ a1 D;refine⟨ι,_,_,by simpa using R,le,s',?_⟩;rw[y];exact⟨by simpa using ab,ψ⟩
   .have K:0<ys.length:=length_pos_iff.2 hy;obtain⟨s',le⟩:=s.growIn h e i.size xs (xs++ys) hh b f y ζ (by simpa using l) (by simpa using I) _ a1 D;refine⟨ι,_,_,by simpa using R,le,s',?_⟩;rw[y];exact⟨ω,ψ⟩
  .have X:L7 P w (.slice (some ⟨b,0*i.size,none⟩) xs.length (f-0)) L.size xs.length (C.toList.take (xs.length*i.size)):=by
    refine⟨λd=>by simp[Builtin.lenOf],λd=>?_,?_⟩
    .have a4:({w with drawn:=d}:World).heap[b]? = some (.cells C e (0,0)):=p3;have G:(C.toList.take (xs.length*i.size)).length=xs.length*i.size:=(by have:C.toList.length=f*i.size:=(by rw[Array.length_toList,p4]);rw[length_take,this];exact Nat.min_eq_left (Nat.mul_le_mul_right _ p5));have:=run_loadCells_list (P:=P) {w with drawn:=d} ⟨b,0,none⟩ (C.toList.take (xs.length*i.size)) (by intro j u hj;have a2:j<xs.length*i.size:=(by have:=(G1.1 hj).1;omega);rw[H6 a2,G6]at hj;rw[Lq,Nat.zero_add,Kz a4];exact hj);rw[G]at this;simp only[Builtin.firstCells,Nat.zero_mul,M];exact this
    .have:C.toList.length=f*i.size:=(by rw[Array.length_toList,p4]);rw[M,length_take,this];exact Nat.min_eq_left (Nat.mul_le_mul_right _ p5)
   have R:=Aiv (P:=P) (ty:=ty) (w:=w) ht a3 J k1 k3 (some ⟨b,0*i.size,none⟩) xs.length (f-0) ys.length q _ Cq (by rw[M];exact B) X ω ω (by rw[k5];exact hb);have a0:=Ada w (xs.length+ys.length) (f-0) e;have G:(C.toList.take (xs.length*i.size)).length=xs.length*i.size:=(by have:C.toList.length=f*i.size:=(by rw[Array.length_toList,p4]);rw[length_take,this];exact Nat.min_eq_left (Nat.mul_le_mul_right _ p5));have K:0<ys.length:=ω;have Z:(C.toList.take (xs.length*i.size)++Cq).length=(xs.length+ys.length)*i.size:=(by rw[length_append,G,B.size,E6]);obtain⟨s',le⟩:=(s.drew (w.drawn+1)).newRows h e i.size (xs++ys) (grownCap w (xs.length+ys.length) (f-0) e) ((C.toList.take (xs.length*i.size)++Cq).toArray++Builtin.zeroCells z.cells (grownCap w (xs.length+ys.length) (f-0) e-(xs.length+ys.length))) (.inr ⟨e,i.size,xs,hh,ζ⟩) hz (by simpa using l) (by simpa using a0) (by rw[Array.size_append,A,size_toArray,Z,<-E6,Nat.add_sub_cancel' a0]) (by
     refine I4.append p6 g h1 h2 ?_ ?_
     .intro k hk;rw[Array.getElem?_append_left (by rw[size_toArray,Z,E6];omega),getElem?_toArray,getElem?_append_left ω,H6 hk,G6]
     .intro i' j hi hj;have a2:i' * i.size+j<Cq.length:=(by have:(i' + 1)*i.size<=ys.length*i.size:=Nat.mul_le_mul_right _ ω;rw[E6]at this;rw[B.size];omega);have e2:(xs.length+i')*i.size+j=xs.length*i.size+(i' * i.size+j):=(by rw[E6];omega);rw[Array.getElem?_append_left (by rw[size_toArray,length_append,G];omega),getElem?_toArray,e2,getElem?_append_right ω,G,Nat.add_sub_cancel_left];exact h3 i' j hi hj);refine⟨_,_,_,R,le,s',?_⟩;rw[Ch];exact⟨ω,by rw[Nat.zero_mul];rfl⟩
 .exact hv.elim
end
section
variable {P:Program} {o:Oper} {ρ:Operand->AV} {a:Act} {w w':World} {next:Act->World->Prop} {Q:Exit->Act->World->Prop}
variable {σ:A7} {T:Dq} {m n:Int} {k:IntKind} {xs ys:List AV} {h sz:Nat} {x y:Operand} {B i i':TI} {e e' t t':TypeId}
theorem Add {n:Nat} {Cq:List Value} {g:Nat->Nat->Value} (h:0<sz) (k:Cq.length=n*sz) (i:ys.length=n) (G:∀(i':Nat) (x:AV),ys[i']? = some x->x.cells.length=sz) (I:∀(i':Nat) (x:AV) (j:Nat) (c:AV),ys[i']? = some x->x.cells[j]? = some c->CC σ c (g i' j)/\Fi (g i' j)=true) (J:∀(i' j:Nat),i' < ys.length->j<sz->Cq[i' * sz+j]? = some (g i' j)) : ∀u∈Cq,Fi u=true:=by
 intro u K;obtain⟨q,C⟩:=getElem?_of_mem K;have A:=(G1.1 C).1;have f:q / sz<ys.length:=by rw[i];exact Nat.div_lt_of_lt_mul (by rw[k,Nat.mul_comm]at A;exact A)
 have b:q % sz<sz:=Nat.mod_lt _ h;have e:=J (q / sz) (q % sz) f b;rw[show q / sz*sz+q % sz=q by have:=Nat.div_add_mod q sz;rw[Nat.mul_comm]at this;omega,C]at e;cases e;have D:=getElem?_eq_getElem f;have L:(q % sz)<(ys[q / sz]).cells.length:=by rw[G _ _ D];exact b
 exact (I _ _ _ _ D (getElem?_eq_getElem L)).2
theorem Vs {ty:TypeId} (g:o.op = .call {callee:=.builtin .append,args:=#[x,y],argTypes:=#[t,t']}) (b:o.type=ty) {c:Value} (f:(Builtin.append_ #[t,t'] ty #[a.eval x,a.eval y]).run P w = .ok c w') : (execOp a.eval o).run P w = .ok (.value c) w':=by subst b;simp[execOp,g,resolve,invoke,builtin,f]
theorem Aob (R:Dt P T) {k:Nat} (L:o.op = .call {callee:=.builtin .append,args:=#[x,y],argTypes:=#[t,t']}) (ht:T t=some i) (hd:i.d = .slice e) (C:T t'=some B) (M:B.d = .slice e') (X:T e=some i') (E:0<i'.size) (D:i'.zero.length=i'.size) (N:1<=i'.bytes) (hx:ρ x = .arr h k 0 k) (c:xs.length=k) (hy:ρ y = .sl i'.size ys) (hb:(xs.length+ys.length)*i'.bytes<=140737488355328) : Cn P o ρ ⟨.arr h (k+ys.length) 0 (k+ys.length),[(h,.rows e i'.size xs)],[(h,.rows e i'.size (xs++ys))]⟩:=by
 intro σ ι H F W w a next Q s l J hk
 have K:H h = .rows e i'.size xs:=J (h,.rows e i'.size xs) ψ;have j:=l x (by simp[L,Op.operands,Call.operands]);have f:=l y (by simp[L,Op.operands,Call.operands]);rw[hx]at j;rw[hy]at f;have hv:=j.arr_inv K c;rw[<-c]at hv;obtain⟨u1,I,Z⟩:=L8 (R t i ht) hd;obtain⟨u2,G,Y⟩:=L8 (R t' B C) M;subst Z;subst Y;obtain⟨Cq,g,S,h1,h2,h3⟩:=Adb (P:=P) s E f.sl_inv;obtain⟨U,z,w',V,le,s',b⟩:=Adc (P:=P) (ty:=o.type) s I G (.inl ⟨_,rfl⟩) (R e i' X) E D K hv N hb S h1 h2 h3 (Add E S.size rfl h1 h2 h3);refine Gx (Vs L rfl V) (hk σ U z w' le s' ?_);have q:Fi z=true:=by
  unfold Hq at b;split at b
  .rw[b.1];rfl
  .rw[b.2];rfl
  .exact b.elim
 refine .arr _ _ _ _ z (by show Az H h _ h≠_;rw[Ch];intro e;cases e) (λE' A u e'=>?_) q;have e':Az H h _ h = .rows E' A u:=e';rw[Ch]at e';cases e';refine⟨by rw[length_append];omega,λ_=>?_⟩;rw[c]at b;exact b
def Kj (s:ByteArray):List AV:=s.data.toList.map λb=>.val (.int .u8 b.toNat)
theorem A0g (s:ByteArray):(Kj s).length=s.size:=by unfold Kj;rw[length_map,Array.length_toList];rfl
theorem A0h (s:ByteArray):∃(Cq:List Value) (g:Nat->Nat->Value),L7 P w (.string s) 1 (Kj s).length Cq/\(∀(i:Nat) (x:AV),(Kj s)[i]? = some x->x.cells.length=1) /\ (∀(σ:A7) (i:Nat) (x:AV) (j:Nat) (c:AV),(Kj s)[i]? = some x->x.cells[j]? = some c->CC σ c (g i j)/\Fi (g i j)=true)/\∀(i j:Nat),i<(Kj s).length->j<1->Cq[i*1+j]? = some (g i j):=by
 have f:=A0g s;refine⟨Lib.strCells s,λi _=>.int .u8 ((s.data.toList.getD i 0).toNat),⟨λd=>?_,λd=>?_,?_⟩,?_,?_,?_⟩
 .rw[f];simp[Builtin.lenOf]
 .rw[f];exact Lib.run_firstCells_string _ 1 s
 .rw[f,Lib.strCells_length];omega
 .intro i x u;simp only[Kj,getElem?_map,Option.map_eq_some_iff]at u;obtain⟨b,_,rfl⟩:=u;rfl
 .intro σ i x j c u A;simp only[Kj,getElem?_map,Option.map_eq_some_iff]at u;obtain⟨b,D,rfl⟩:=u;simp only[AV.cells]at A;cases j with
  | zero=>simp at A;subst A;have e:s.data.toList.getD i 0=b:=(by rw[getD_eq_getElem?_getD,D];rfl);dsimp only;rw[e];exact⟨.val _,rfl⟩
  | succ j=>simp at A
 .intro i j hi C;have C:j=0:=ω;subst C;have hi:i<s.data.toList.length:=(by unfold Kj at hi;rwa [length_map]at hi);have e:s.data.toList.getD i 0=s.data.toList[i]:=(by rw[getD_eq_getElem?_getD,getElem?_eq_getElem hi];rfl);dsimp only;rw[e];unfold Lib.strCells;rw[Nat.mul_one,Nat.add_zero,getElem?_map,getElem?_eq_getElem hi];rfl
theorem A0i (R:Dt P T) {A:TI} {k:Nat} {s:ByteArray} (L:o.op = .call {callee:=.builtin .append,args:=#[x,y],argTypes:=#[t,t']}) (ht:T t=some i) (hd:i.d = .slice e) (C:T t'=some A) (M:A.d = .string) (Z:T e=some i') (X:i'.size=1) (B:i'.zero.length=i'.size) (N:1<=i'.bytes) (hx:ρ x = .arr h k 0 k) (c:xs.length=k) (hy:ρ y = .val (.string s)) (hb:(xs.length+(Kj s).length)*i'.bytes<=140737488355328) : Cn P o ρ ⟨.arr h (k+(Kj s).length) 0 (k+(Kj s).length),[(h,.rows e i'.size xs)],[(h,.rows e i'.size (xs++Kj s))]⟩:=by
 intro σ ι H F W w a next Q V j J hk
 have hh:H h = .rows e i'.size xs:=J (h,.rows e i'.size xs) ψ;have f:=j x (by simp[L,Op.operands,Call.operands]);have D:=D9 hy (j y (by simp[L,Op.operands,Call.operands]));rw[hx]at f;have hv:=f.arr_inv hh c;rw[<-c]at hv;obtain⟨u1,G,e1⟩:=L8 (R t i ht) hd;obtain⟨_,u2,_,_,E,_,_,_,_,S⟩:=Fg (R t' A C);rw[M]at S;subst e1;subst S;obtain⟨Cq,g,I,K,h2,h3⟩:=A0h (P:=P) (w:=w) s;rw[<-X]at I K h3;obtain⟨U,u,w',Y,le,s',b⟩:=Adc (P:=P) (ty:=o.type) V G E (.inr rfl) (R e i' Z) ω B hh hv N hb I K (h2 σ) h3 (Add ω I.size rfl K (h2 σ) h3);refine Gx (Vs L rfl (by rw[D];exact Y)) (hk σ U u w' le s' ?_);have l:Fi u=true:=by
  unfold Hq at b;split at b
  .rw[b.1];rfl
  .rw[b.2];rfl
  .exact b.elim
 refine .arr _ _ _ _ u (by show Az H h _ h≠_;rw[Ch];intro e;cases e) (λE' z q e'=>?_) l;have e':Az H h _ h = .rows E' z q:=e';rw[Ch]at e';cases e';refine⟨by rw[length_append];omega,λ_=>?_⟩;rw[c]at b;exact b
theorem A0j (R:Dt P T) (h:Nat) (L:o.op = .call {callee:=.builtin .append,args:=#[x,y],argTypes:=#[t,t']}) (ht:T t=some i) (hd:i.d = .slice e) (C:T t'=some B) (M:B.d = .slice e') (Y:T e=some i') (k:0<i'.size) (D:i'.zero.length=i'.size) (N:1<=i'.bytes) (hx:ρ x = .val (.slice none 0 0)) (hy:ρ y = .sl i'.size ys) (hb:ys.length*i'.bytes<=140737488355328) : Cn P o ρ ⟨.arr h ys.length 0 ys.length,[(h,.none)],[(h,.rows e i'.size ys)]⟩:=by
 intro σ ι H F W w a next Q s f I hk
 have X:H h = .none:=I (h,.none) ψ;have J:=D9 hx (f x (by simp[L,Op.operands,Call.operands]));have c:=f y (by simp[L,Op.operands,Call.operands]);rw[hy]at c;obtain⟨u1,G,e1⟩:=L8 (R t i ht) hd;obtain⟨u2,E,Z⟩:=L8 (R t' B C) M;subst e1;subst Z;obtain⟨K,A⟩:=s.newNil h X e i'.size k;obtain⟨Cq,g,S,h1,h2,h3⟩:=Adb (P:=P) K k c.sl_inv;obtain⟨U,u,w',V,le,s',b⟩:=Adc (P:=P) (ty:=o.type) (v:=.slice none 0 0) (xs:=[]) K G E (.inl ⟨_,rfl⟩) (R e i' Y) k D (Ch _ _ _) (by rw[Ch];exact⟨rfl,rfl,rfl⟩) N (by simpa using hb) S h1 h2 h3 (Add k S.size rfl h1 h2 h3);have hH:Az (Az H h (.rows e i'.size [])) h (.rows e i'.size ([]++ys))=Az H h (.rows e i'.size ys):=by
  funext m;by_cases l:m=h
  .subst l;rw[Ch,Ch];rfl
  .rw[Cu _ _ l,Cu _ _ l,Cu _ _ l]
 rw[hH]at le s';simp only[length_nil,Nat.zero_add]at b;refine Gx (Vs L rfl (by rw[J];exact V)) (hk σ U u w' (A.trans le) s' ?_);have j:Fi u=true:=by
  unfold Hq at b;split at b
  .rw[b.1];rfl
  .rw[b.2];rfl
  .exact b.elim
 refine .arr _ _ _ _ u (by show Az H h _ h≠_;rw[Ch];intro e;cases e) (λE' z q e'=>?_) j;have e':Az H h _ h = .rows E' z q:=e';rw[Ch]at e';cases e';exact⟨Nat.le_refl _,λ_=>b⟩
theorem St.freeze {ι:Cb} {H:Hp} {F:A7} {W:World} (s:St σ ι H F W w) {E:TypeId} (hh:H h = .rows E sz xs) : ∃u,Le σ ι H u ι (Az H h .dead)/\St u ι (Az H h .dead) F W w /\ ∀off len v,off+len<=xs.length->Hq (ι h) sz off len v->CC u (.sl sz ((xs.drop off).take len)) v:=by
 have k:=s.obj h;unfold C4 at k;rw[hh]at k;obtain⟨hz,hm,k⟩:=k;have f:∀u,σ.le u->Le σ ι H u ι (Az H h .dead):=by intro u U;have:=Le.upd (ι:=ι) (H:=H) U h (ι h) .dead ⟨λ_ e=>e,(λ_ e=>by cases e),(λ_ E1 J I e=>by cases e)⟩;rwa [J8]at this
 rcases k with⟨A,X⟩|⟨b,B,C,A,S,R,N,p4,Z,g,M,D,L⟩
 .subst X;refine⟨σ,f σ (A7.le_refl _),?_,?_⟩
  .obtain⟨f1,f2⟩:=s.fresh;exact s.touch h w.heap.size (λ_ _=>rfl) (λx e=>Cu _ _ e) (f σ (A7.le_refl _)) (λ_ _=>rfl) (λ_ _=>rfl) (λo z=>by rw[f1]at z;cases z) (λx e i hb=>by have:=(s.block i hb).1;omega) f2 (λb i hb=>by rw[Ch]at i;cases i) (by unfold C4;rw[Ch];trivial) rfl rfl rfl
  .intro off len v q hv;rw[A]at hv;obtain⟨rfl,rfl,rfl⟩:=hv;simp only[drop_nil,take_nil];exact .nil sz none 0
 .have q:σ.le (Az σ b (some (.cells C E))):=(by intro Y o' K;rw[Cu _ _ (by intro e;subst e;rw[S]at K;cases K)];exact K);refine⟨Az σ b (some (.cells C E)),f _ q,?_,?_⟩
  .refine s.touch h b (λ_ _=>rfl) (λx e=>Cu _ _ e) (f _ q) (λ_ _=>rfl) (λx e=>Cu _ _ e) (λo z=>by rw[Ch]at z;cases z;exact N)
    (λx e i hb=>e (s.inj x h b i (by rw[hh];rfl) hb (by rw[A];rfl))) R (λY i hb=>by rw[Ch]at i;cases i) (by unfold C4;rw[Ch];trivial) rfl rfl rfl
  .intro off len v G hv;rw[A]at hv;obtain⟨_,rfl⟩:=hv;have i:((xs.drop off).take len).length=len:=ζ;have l:∀(n:Nat) (y:AV),((xs.drop off).take len)[n]? = some y->n<len/\xs[off+n]? = some y:=(by intro n y hy;have a0:n<len:=(by have:=(G1.1 hy).1;omega);rw[H6 a0,getElem?_drop]at hy;exact⟨a0,hy⟩);have:=CC.sl (σ:=Az σ b (some (.cells C E))) ((xs.drop off).take len) b (off*sz) (B-off) sz C E (0,0) (λn j=>g (off+n) j) (Ch _ _ _)
    (λn y hy=>M _ y (l n y hy).2) (λn y j c hy hj=>((D _ y j c (l n y hy).2 hj).1).mono q) (λn y j c hy hj=>(D _ y j c (l n y hy).2 hj).2) (λn j V hj=>by rw[i]at V;have:=L (off+n) j ω hj;rw[E6]at this;exact this) (by rw[i];omega) (by rw[i];omega);rw[i]at this;exact this
theorem A0k (z:Dt P T) (h:Nat) (l:o.op = .assign x) (C:ρ x = .val (.slice none 0 0)) (ht:T o.type=some i) (_hd:i.d = .slice e) (y:T e=some i') (q:0<i'.size) : Cn P o ρ ⟨.arr h 0 0 0,[(h,.none)],[(h,.rows e i'.size [])]⟩:=by
 intro σ ι H F W w a next Q s k g D
 have _:=z;have _:=ht;have _:=y
 have u:H h = .none:=g (h,.none) ψ;have j:=D9 C (k x (by simp[l,Op.operands]));obtain⟨G,f⟩:=s.newNil h u e i'.size q;refine Gx (v:=.slice none 0 0) (by simp[execOp,l,j]) (D σ _ _ w f G ?_);refine .arr _ _ _ _ _ (by show Az H h _ h≠_;rw[Ch];intro e;cases e) (λA c b e'=>?_) rfl;have e':Az H h _ h = .rows A c b:=e';rw[Ch]at e';cases e';exact⟨ψ,λ_=>by rw[Ch];exact⟨rfl,rfl,rfl⟩⟩
theorem A0l {f:IntKind} (c:o.op = .call {callee:=.builtin .max,args:=#[x,y],argTypes:=#[t,t']}) (u:ρ x = .val (.int k m)) (A:ρ y = .val (.int f n)) : Cn P o ρ ⟨.val (.int k (if n>m then n else m)),[],[]⟩ := Fj λσ ι H a w b=>by have C:=D9 u (b x (by simp[c,Op.operands,Call.operands]));have D:=D9 A (b y (by simp[c,Op.operands,Call.operands]));exact⟨_,by simp[execOp,c,resolve,invoke,builtin,Builtin.max_,Builtin.max2,C,D],.of_val _⟩
theorem A0m {f:IntKind} (c:o.op = .call {callee:=.builtin .min,args:=#[x,y],argTypes:=#[t,t']}) (u:ρ x = .val (.int k m)) (A:ρ y = .val (.int f n)) : Cn P o ρ ⟨.val (.int k (if n<m then n else m)),[],[]⟩ := Fj λσ ι H a w b=>by have C:=D9 u (b x (by simp[c,Op.operands,Call.operands]));have D:=D9 A (b y (by simp[c,Op.operands,Call.operands]));exact⟨_,by simp[execOp,c,resolve,invoke,builtin,Builtin.min_,Builtin.min2,C,D],.of_val _⟩
end
section
variable {P:Program} {o:Oper} {ρ:Operand->AV} {a:Act} {w w':World} {next:Act->World->Prop} {Q:Exit->Act->World->Prop}
variable {F σ:A7} {ι:Cb} {T:Dq} {H:Hp} {xs ys:List AV} {b d h k off sz:Nat} {g:Nat->Nat->Value} {x y:Operand} {i i':TI} {α:Type} {E e e' t t' ty:TypeId} {v:Value} {W:World}
def Gf (xs:List α) (d:Nat) (ys:List α):List α:=xs.take d++ys++xs.drop (d+ys.length)
theorem Aoc {xs ys:List α} (C:d<=xs.length) (i:Nat):(Gf xs d ys)[i]? = if i<d then xs[i]? else if i<d+ys.length then ys[i-d]? else xs[i]?:=by
 unfold Gf;have b:(xs.take d).length=d:=by rw[length_take];omega
 rw[append_assoc];by_cases u:i<d
 .rw[if_pos u,getElem?_append_left ω,H6 u]
 .rw[if_neg u,getElem?_append_right ω,b];by_cases A:i<d+ys.length
  .rw[if_pos A,getElem?_append_left ω]
  .rw[if_neg A,getElem?_append_right ω,getElem?_drop];congr 1;omega
theorem Yj {xs ys:List α} (u:d<=xs.length):(Gf xs d ys).length=max xs.length (d+ys.length):=by unfold Gf;simp only[length_append,length_take,length_drop];omega
structure S7 (σ:A7) (sz:Nat) (ys:List AV) (Cq:List Value) (g:Nat->Nat->Value):Prop where
 len:Cq.length=ys.length*sz
 el:∀(i:Nat) (x:AV),ys[i]? = some x->x.cells.length=sz
 cc:∀(i:Nat) (x:AV) (j:Nat) (c:AV),ys[i]? = some x->x.cells[j]? = some c->CC σ c (g i j)/\Fi (g i j)=true
 at_:∀(i j:Nat),i<ys.length->j<sz->Cq[i*sz+j]? = some (g i j)
theorem I4.patch {C l:Array Value} {Cq:List Value} {z:Nat->Nat->Value} (hx:I4 σ sz xs C) (hd:d<=xs.length) (f:S7 σ sz ys Cq z) (b:∀q:Nat,q<d*sz\/(d+ys.length)*sz<=q->l[q]? = C[q]?) (k:∀q,q<ys.length*sz->l[d*sz+q]? = Cq[q]?):I4 σ sz (Gf xs d ys) l:=by
 obtain⟨g,y,u,s⟩:=hx
 refine⟨λi j=>if i<d then g i j else if i<d+ys.length then z (i-d) j else g i j,?_,?_,?_⟩
 .intro i x hi
  rw[Aoc hd]at hi
  split at hi
  .exact y i x hi
  .split at hi
   .exact f.el _ x hi
   .exact y i x hi
 .intro i x j c hi A
  rw[Aoc hd]at hi
  dsimp only
  split at hi
  .rename_i h;rw[if_pos h];exact u i x j c hi A
  .rename_i h
   rw[if_neg h]
   split at hi
   .rename_i h2;rw[if_pos h2];exact f.cc _ x j c hi A
   .rename_i h2;rw[if_neg h2];exact u i x j c hi A
 .intro i j hi A
  rw[Yj hd]at hi
  dsimp only
  by_cases h:i<d
  .rw[if_pos h]
   have:(i+1)*sz<=d*sz:=Nat.mul_le_mul_right _ ω
   rw[E6]at this
   rw[b _ (.inl ω)];exact s i j ω A
  .rw[if_neg h]
   by_cases h2:i<d+ys.length
   .rw[if_pos h2]
    have e:i*sz+j=d*sz+((i-d)*sz+j):=by
     have:i=d+(i-d):=ω
     conv=>lhs;rw[this,E6]
     omega
    have:(i-d+1)*sz<=ys.length*sz:=Nat.mul_le_mul_right _ ω
    rw[E6]at this
    rw[e,k _ ω]
    exact f.at_ _ j ω A
   .rw[if_neg h2]
    have:(d+ys.length)*sz<=i*sz:=Nat.mul_le_mul_right _ ω
    rw[b _ (.inr ω)];exact s i j ω A
theorem S7.one (b:0<sz) {Cq:List Value} (h:S7 σ sz ys Cq g):∀u∈Cq,Fi u=true:=Add b h.len rfl h.el h.cc h.at_
theorem Aod (s:St σ ι H F W w) (hh:H h = .rows e sz xs) {c:Nat} (hb:ι h = .blk b c) (M:d<=xs.length) (x:d+ys.length<=c) (I:d+ys.length<=140737488355328) (E:0<sz) {Cq:List Value} (l:S7 σ sz ys Cq g) : ∃w',(storeCells (⟨b,d*sz,none⟩:Addr) Cq).run P w = .ok () w'/\Le σ ι H σ ι (Az H h (.rows e sz (Gf xs d ys)))/\St σ ι (Az H h (.rows e sz (Gf xs d ys))) F W w':=by
 obtain⟨C,D,B,G,A⟩:=s.rowsAt hh hb;have z:xs.length<=140737488355328:=by have:=s.obj h;unfold C4 at this;rw[hh]at this;exact this.2.1
 have j:d*sz+Cq.length<=C.size:=by rw[l.len,<-E6,B];exact Nat.mul_le_mul_right _ x
 have k:=run_storeCells_at (P:=P) b (d*sz) e Cq 0 C w D (by simpa using j) (λu N=>by rw[Aij];exact l.one E u N);simp only[Nat.add_zero]at k;have f:I4 σ sz (Gf xs d ys) (C.toList.take (d*sz)++Cq++C.toList.drop (d*sz+Cq.length)).toArray:=by
  refine I4.patch A M l ?_ ?_
  .intro q K;rw[Vr _ _ _ j];rcases K with K|K
   .rw[if_pos K]
   .rw[E6]at K;rw[if_neg ω,if_neg (by rw[l.len];omega)]
  .intro q K;rw[Vr _ _ _ j,if_neg ω,if_pos (by rw[l.len];omega),Nat.add_sub_cancel_left]
 have y:(C.toList.take (d*sz)++Cq++C.toList.drop (d*sz+Cq.length)).toArray.size=c*sz:=by simp;omega
 have i:=Yj (ys:=ys) M;by_cases J:d+ys.length<=xs.length
 .obtain⟨L,le⟩:=s.setRows h e sz xs (Gf xs d ys) hh b c hb (by rw[i];omega) _ y f;exact⟨_,k,le,L⟩
 .obtain⟨L,le⟩:=s.growIn h e sz xs (Gf xs d ys) hh b c hb (by rw[i];omega) (by rw[i];omega) (by rw[i];omega) _ y f;exact⟨_,k,le,L⟩
theorem A0n (s:St σ ι H F W w) (hh:H h = .rows e sz xs) {len:Nat} (N:Hq (ι h) sz off len v) (J:off+len<=xs.length) (n:Nat) (I:n<=len) : ∃(Cq:List Value) (g:Nat->Nat->Value),(∃p c,v = .slice p len c)/\(∀d,(Builtin.firstCells sz n v).run P {w with drawn:=d} = .ok Cq.toArray {w with drawn:=d})/\S7 σ sz ((xs.drop off).take n) Cq g:=by
 have k:((xs.drop off).take n).length=n:=by simp;omega
 unfold Hq at N;split at N
 .obtain⟨rfl,rfl,rfl⟩:=N;obtain rfl:n=0:=ω;refine⟨[],λ_ _=>undef,⟨none,0,rfl⟩,λd=>by simp[Builtin.firstCells],⟨ψ,(λi x h=>by simp at h),(λi x j c h=>by simp at h),(λi j h=>by simp at h)⟩⟩
 .rename_i b q U;obtain⟨E,rfl⟩:=N;obtain⟨C,D,B,G,g,A,z,y⟩:=s.rowsAt hh U;have f:((C.toList.drop (off*sz)).take (n*sz)).length=n*sz:=(by have R:(off+n)*sz<=q*sz:=Nat.mul_le_mul_right _ ω;rw[E6]at R;rw[length_take,length_drop,Array.length_toList,B];omega);have l:∀(i:Nat) (x:AV),((xs.drop off).take n)[i]? = some x->i<n/\xs[off+i]? = some x:=(by intro i x L;have K:i<n:=(by have:=(G1.1 L).1;omega);rw[H6 K,getElem?_drop]at L;exact⟨K,L⟩);refine⟨(C.toList.drop (off*sz)).take (n*sz),λi j=>g (off+i) j,⟨_,_,rfl⟩,λd=>?_,⟨by rw[f,k],?_,?_,?_⟩⟩
  .have S:({w with drawn:=d}:World).heap[b]? = some (.cells C e (0,0)):=D;have:=run_loadCells_list (P:=P) {w with drawn:=d} ⟨b,off*sz,none⟩ ((C.toList.drop (off*sz)).take (n*sz)) (by intro j u M;have K:j<n*sz:=(by have:=(G1.1 M).1;omega);rw[H6 K,getElem?_drop,G6]at M;rw[Lq,Kz S];exact M);rw[f]at this;simp only[Builtin.firstCells];exact this
  .intro i x L;exact A _ x (l i x L).2
  .intro i x j c L M;exact z _ x j c (l i x L).2 M
  .intro i j hi M;rw[k]at hi;have R:(i+1)*sz<=n*sz:=Nat.mul_le_mul_right _ ω;rw[E6]at R;rw[H6 ω,getElem?_drop,G6];have:=y (off+i) j ω M;rw[E6]at this;rw[<-this];congr 1;omega
 .exact N.elim
theorem Aoe (s:St σ ι H F W w) {Z:TypeDesc} (ht:P.underlying t=some (.slice e)) (a0:P.underlying t'=some Z) (J:(∃e',Z = .slice e')\/Z = .string) (he:I5 P e=some i) (X:0<i.size) (N:i.zero.length=i.size) (hh:H h = .rows e i.size xs) {len:Nat} (hl:len<=xs.length) {D:Value} (hv:Hq (ι h) i.size 0 len v) (V:1<=i.bytes) (hb:(xs.length+ys.length)*i.bytes<=140737488355328) {Cq:List Value} (hs:L7 P w D i.size ys.length Cq) (B:S7 σ i.size ys Cq g) : ∃(Y:Cb) (v':Value) (w':World),(Builtin.append_ #[t,t'] ty #[v,D]).run P w = .ok v' w'/\Le σ ι H σ Y (Az H h (.rows e i.size (Gf xs len ys)))/\St σ Y (Az H h (.rows e i.size (Gf xs len ys))) F W w' /\ Hq (Y h) i.size 0 (len+ys.length) v':=by
 obtain⟨M,u,z,k1,k2,k3,L,k5,k6,k7⟩:=Fg he;have a8:xs.length+ys.length<=140737488355328:=by have:(xs.length+ys.length)*1<=(xs.length+ys.length)*i.bytes:=Nat.mul_le_mul_left _ V;omega
 by_cases A:len=xs.length
 .subst A;have e0:Gf xs xs.length ys=xs++ys:=(by unfold Gf;rw[take_length,drop_eq_nil_of_le ω,append_nil]);rw[e0];exact Adc (P:=P) (ty:=ty) s ht a0 J he X N hh hv V hb hs B.el B.cc B.at_ (B.one X)
 have l:=s.obj h;unfold C4 at l;rw[hh]at l;obtain⟨_,_,l⟩:=l;rcases l with⟨_,e2⟩|⟨b,f,C,e1,p1,p2,p3,p4,p5,p6⟩
 .subst e2;simp only[length_nil,Nat.le_zero]at hl;exact (A (by rw[hl];rfl)).elim
 rw[e1]at hv;obtain⟨aa,rfl⟩:=hv;by_cases G:len+ys.length<=f
 .obtain⟨w',a6,le,s'⟩:=Aod (P:=P) s hh e1 hl G ω X B;have hr:=Aoa (P:=P) (ty:=ty) (w:=w) ht a0 J k1 ⟨b,0,none⟩ len f ys.length D Cq (by rw[L];exact hs) G (by rw[Lq,Nat.zero_add,L];exact a6);refine⟨ι,_,_,by simpa using hr,le,s',?_⟩;rw[e1];exact⟨ω,ψ⟩
 .have y:(C.toList.take (len*i.size)).length=len*i.size:=(by have:C.toList.length=f*i.size:=(by rw[Array.length_toList,p4]);rw[length_take,this];exact Nat.min_eq_left (Nat.mul_le_mul_right _ ω));have R:L7 P w (.slice (some ⟨b,0*i.size,none⟩) len (f-0)) M.size len (C.toList.take (len*i.size)):=(by refine⟨λd=>by simp[Builtin.lenOf],λd=>?_,by rw[L];exact y⟩;have a3:({w with drawn:=d}:World).heap[b]? = some (.cells C e (0,0)):=p3;have:=run_loadCells_list (P:=P) {w with drawn:=d} ⟨b,0,none⟩ (C.toList.take (len*i.size)) (by intro j u hj;have K:j<len*i.size:=(by have:=(G1.1 hj).1;omega);rw[H6 K,G6]at hj;rw[Lq,Nat.zero_add,Kz a3];exact hj);rw[y]at this;simp only[Builtin.firstCells,Nat.zero_mul,L];exact this);have hr:=Aiv (P:=P) (ty:=ty) (w:=w) ht a0 J k1 k3 (some ⟨b,0*i.size,none⟩) len (f-0) ys.length D _ Cq (by rw[L];exact hs) R ω ω (by rw[k5];exact Nat.le_trans (Nat.mul_le_mul_right _ ω) hb);have a2:=Ada w (len+ys.length) (f-0) e;have a1:z.cells.size=i.size:=(by rw[<-N,k6];simp);have I:∀n,(Builtin.zeroCells z.cells n).size=n*i.size:=(by intro n;simp[Builtin.zeroCells,a1]);have S:(C.toList.take (len*i.size)++Cq).length=(len+ys.length)*i.size:=(by rw[length_append,y,B.len,E6]);have e0:Gf xs len ys=xs.take len++ys:=(by unfold Gf;rw[drop_eq_nil_of_le ω,append_nil]);have E:(xs.take len).length=len:=(by rw[length_take];omega);have a7:I4 σ i.size (xs.take len) C:=(by obtain⟨g,r1,r2,r3⟩:=p6;have U:∀(q:Nat) (x:AV),(xs.take len)[q]? = some x->q<len/\xs[q]? = some x:=(by intro q x hx;have K:q<len:=(by have:=(G1.1 hx).1;omega);rw[H6 K]at hx;exact⟨K,hx⟩);exact⟨g,λq x hx=>r1 q x (U q x hx).2,λq x j c hx hj=>r2 q x j c (U q x hx).2 hj,λq j hq hj=>r3 q j ω hj⟩);obtain⟨s',le⟩:=(s.drew (w.drawn+1)).newRows h e i.size (xs.take len++ys) (grownCap w (len+ys.length) (f-0) e) ((C.toList.take (len*i.size)++Cq).toArray++Builtin.zeroCells z.cells (grownCap w (len+ys.length) (f-0) e-(len+ys.length))) (.inr ⟨e,i.size,xs,hh,ζ⟩) X (by rw[length_append,E];omega) (by rw[length_append,E];exact a2) (by rw[Array.size_append,I,size_toArray,S,<-E6,Nat.add_sub_cancel' a2]) (by
    refine I4.append a7 g B.el B.cc ?_ ?_
    .intro k hk;rw[E]at hk;rw[Array.getElem?_append_left (by rw[size_toArray,S,E6];omega),getElem?_toArray,getElem?_append_left ω,H6 hk,G6]
    .intro i' j hi hj;rw[E];have K:i' * i.size+j<Cq.length:=(by have:(i' + 1)*i.size<=ys.length*i.size:=Nat.mul_le_mul_right _ ω;rw[E6]at this;rw[B.len];omega);have e2:(len+i')*i.size+j=len*i.size+(i' * i.size+j):=(by rw[E6];omega);rw[Array.getElem?_append_left (by rw[size_toArray,length_append,y];omega),getElem?_toArray,e2,getElem?_append_right ω,y,Nat.add_sub_cancel_left];exact B.at_ i' j hi hj);rw[e0];refine⟨_,_,_,hr,le,s',?_⟩;rw[Ch];exact⟨ω,by rw[Nat.zero_mul];rfl⟩
theorem Aof {len:Nat} (g:len<=xs.length) (u:Hq (ι h) sz 0 len v):Conc σ ι (Az H h (.rows e sz xs)) (.arr h xs.length 0 len) v:=by
 have b:Fi v=true:=by
  unfold Hq at u;split at u
  .rw[u.1];rfl
  .rw[u.2];rfl
  .exact u.elim
 refine .arr _ _ _ _ v (by rw[Ch];intro e;cases e) (λi f c e'=>?_) b;rw[Ch]at e';cases e';exact⟨Nat.le_refl _,λ_=>u⟩
theorem A0o (I:Dt P T) {j:TI} {len:Nat} (B:o.op = .call {callee:=.builtin .append,args:=#[x,y],argTypes:=#[t,t']}) (ht:T t=some i) (hd:i.d = .slice e) (C:T t'=some j) (E:j.d = .slice e') (S:T e=some i') (J:0<i'.size) (l:i'.zero.length=i'.size) (G:1<=i'.bytes) (hx:ρ x = .arr h k 0 len) (D:xs.length=k) (Z:len<=k) (hy:ρ y = .sl i'.size ys) (hb:(xs.length+ys.length)*i'.bytes<=140737488355328) : Cn P o ρ ⟨.arr h (Gf xs len ys).length 0 (len+ys.length),[(h,.rows e i'.size xs)],[(h,.rows e i'.size (Gf xs len ys))]⟩:=by
 intro σ ι H F W w a next Q s f A hk
 have K:H h = .rows e i'.size xs:=A (h,.rows e i'.size xs) ψ;have c:=f x (by simp[B,Op.operands,Call.operands]);have b:=f y (by simp[B,Op.operands,Call.operands]);rw[hx]at c;rw[hy]at b;have hv:=c.arr_inv K D;obtain⟨Y,z,V⟩:=L8 (I t i ht) hd;obtain⟨X,u,U⟩:=L8 (I t' j C) E;subst V;subst U;obtain⟨Cq,g,L,h1,h2,h3⟩:=Adb (P:=P) s J b.sl_inv;obtain⟨M,N,w',R,le,s',q⟩:=Aoe (P:=P) (ty:=o.type) s z u (.inl ⟨_,rfl⟩) (I e i' S) J l K ω hv G hb L ⟨L.size,h1,h2,h3⟩;exact Gx (Vs B rfl R) (hk σ M N w' le s' (Aof (by rw[Yj ω];omega) q))
theorem A0p {i:TypeInfo} {k:TypeDesc} (ht:P.underlying t=some (.slice e)) (u:P.underlying t'=some k) (h:(∃e',k = .slice e')\/k = .string) (hi:P.info? e=some i) (p:Option Addr) (c f:Nat) (g:Value) (q:L7 P w g i.size 0 []) (j:c<=f) : (Builtin.append_ #[t,t'] ty #[.slice p c f,g]).run P w = .ok (.slice p c f) w:=by
 have A:=q.len w.drawn;have C:=q.cells w.drawn;have s:({w with drawn:=w.drawn}:World)=w:=rfl;rw[s]at A C;cases p with
 | none=>rcases h with⟨e',rfl⟩|rfl <;> simp[Builtin.append_,run_underlying ht,run_underlying u,sizeOf,typeInfo,hi,A,j,C]
 | some b=>have l:(storeCells (b.add (c*i.size)) []).run P w = .ok () w:=(by rw[storeCells];rfl);rcases h with⟨e',rfl⟩|rfl <;> simp[Builtin.append_,run_underlying ht,run_underlying u,sizeOf,typeInfo,hi,A,j,C,l]
theorem A0q (x:Cn P o ρ ⟨.arr h k 0 k,[(h,.rows E sz xs)],[(h,.rows E sz ys)]⟩) (C:ys.length=k):Cn P o ρ ⟨.sl sz ys,[(h,.rows E sz xs)],[(h,.dead)]⟩:=by
 intro σ ι H F W w a next Q s f c y
 refine x σ ι H F W w a next Q s f c ?_
 intro z l v w' le u D;have A:Cp H [(h,Bm.rows E sz ys)] h = .rows E sz ys:=Ch _ _ _;obtain⟨j,b,i,g⟩:=u.freeze A;have G:Az (Cp H [(h,Bm.rows E sz ys)]) h .dead=Cp H [(h,.dead)]:=by
  funext q;by_cases e:q=h
  .subst e;rw[Ch];exact (Ch _ _ _).symm
  .rw[Cu _ _ e];show Az H h _ q=Az H h _ q;rw[Cu _ _ e,Cu _ _ e]
 rw[G]at b i;refine y j l v w' (le.trans b) i ?_;have:=g 0 k v ω (D.arr_inv A C);rw[drop_zero,take_of_length_le ω]at this;exact .cc this
theorem A0r (L:Dt P T) {u:TI} (D:o.op = .call {callee:=.builtin .append,args:=#[x,y],argTypes:=#[t,t']}) (ht:T t=some i) (hd:i.d = .slice e) (a0:T t'=some u) (J:u.d = .slice e') (Z:T e=some i') (X:0<i'.size) (hx:ρ x = .sl sz xs) (hy:ρ y = .sl i'.size []) : Cn P o ρ ⟨.sl sz xs,[],[]⟩:=by
 intro σ ι H F W w a next Q s h Y hk
 have c:=h x (by simp[D,Op.operands,Call.operands]);have f:=h y (by simp[D,Op.operands,Call.operands]);rw[hx]at c;rw[hy]at f;obtain⟨u1,A,e1⟩:=L8 (L t i ht) hd;obtain⟨u2,z,e2⟩:=L8 (L t' u a0) J;subst e1;subst e2;obtain⟨Cq,g,B,_,_,_⟩:=Adb (P:=P) s X f.sl_inv;have G:Cq = []:=by have:=B.size;simp at this;exact this
 subst G;obtain⟨p,n,K,hv,I⟩:∃p n K,a.eval x = .slice p n K/\n<=K:=by
  rcases c.sl_inv.sl_inv with⟨rfl,p,K,hv⟩|⟨b,off,K,C,E,fr,g,hv,hσ,B,a1,hC,hl,j⟩
  .exact⟨_,_,_,hv,Nat.zero_le _⟩
  .exact⟨_,_,_,hv,j⟩
 obtain⟨q,u',z',l,V,U,k,S,R,N⟩:=Fg (L e i' Z);have M:=A0p (P:=P) (w:=w) (ty:=o.type) A z (.inl ⟨_,rfl⟩) l p n K (a.eval y) (by rw[k];exact B) I;rw[<-hv]at M;exact Gx (Vs D rfl M) (hk σ ι _ w (Le.refl _ _ _) s c)
theorem A0s (U:Dt P T) {A:TI} {len V f:Nat} (L:o.op = .call {callee:=.builtin .append,args:=#[x,y],argTypes:=#[t,t']}) (ht:T t=some i) (hd:i.d = .slice e) (K:T t'=some A) (R:A.d = .slice e') (he:T e=some i') (hz:0<i'.size) (B:i'.zero.length=i'.size) (S:1<=i'.bytes) (hx:ρ x = .arr h k 0 len) (N:xs.length=k) (hl:len<=k) (hy:ρ y = .arr h V f b) (M:xs.length=V) (a1:f+b<=k) (hb:(xs.length+b)*i'.bytes<=140737488355328) : Cn P o ρ ⟨.arr h (Gf xs len ((xs.drop f).take b)).length 0 (len+b),[(h,.rows e i'.size xs)],[(h,.rows e i'.size (Gf xs len ((xs.drop f).take b)))]⟩:=by
 intro σ ι H F W w a next Q s z I hk
 have C:H h = .rows e i'.size xs:=I (h,.rows e i'.size xs) ψ;have u:=z x (by simp[L,Op.operands,Call.operands]);have q:=z y (by simp[L,Op.operands,Call.operands]);rw[hx]at u;rw[hy]at q;have hv:=u.arr_inv C N;have D:=q.arr_inv C M;obtain⟨u1,G,e1⟩:=L8 (U t i ht) hd;obtain⟨u2,E,e2⟩:=L8 (U t' A K) R;subst e1;subst e2;have j:((xs.drop f).take b).length=b:=by simp;omega
 obtain⟨Cq,g,⟨p,c,J⟩,hf,X⟩:=A0n (P:=P) s C D ω b (Nat.le_refl _);have hs:L7 P w (a.eval y) i'.size ((xs.drop f).take b).length Cq:=by
  refine⟨λd=>?_,λd=>?_,X.len⟩
  .rw[J,j];simp[Builtin.lenOf]
  .rw[j];exact hf d
 obtain⟨Y,Z,w',hr,le,s',l⟩:=Aoe (P:=P) (ty:=o.type) s G E (.inl ⟨_,rfl⟩) (U e i' he) hz B C ω hv S (by rw[j];exact hb) hs X;rw[j]at l;exact Gx (Vs L rfl hr) (hk σ Y Z w' le s' (Aof (by rw[Yj ω,j];omega) l))
theorem A0t (N:Dt P T) {lo hi:Option Operand} {len:Nat} {l:Nat} (A:o.op = .slice t x lo hi none) (ht:T t=some i) (hd:i.d = .slice e) (X:T e=some i') (hx:ρ x = .arr b k off len) (G:xs.length=k) (B:I6 ρ 0 lo=some (l:Int)) (I:I6 ρ (len:Int) hi=some (l:Int)) (h2:l<=len) : Cn P o ρ ⟨.sl h [],[(b,.rows E sz xs)],[]⟩:=by
 intro σ ι H F W w a next Q s g j hk
 have hh:H b = .rows E sz xs:=j (b,.rows E sz xs) ψ;have hp:=g x (by simp[A,Op.operands]);rw[hx]at hp;have K:=hp.arr_inv hh G;obtain⟨M,u,z,k1,R,k3,k4,Z,Y,L⟩:=Fg (N t i ht);rw[hd]at L;subst L;have S:=Pp (N e i' X);have J:∀(C:Nat),len<=C->∀w,(Instr.sliceBounds true len C (lo.map a.eval) (hi.map a.eval) none).run P w = .ok (l,l,C) w :=
  λC f w=>Ac6 B I (λy hy=>g y (by rw[A];exact Ac7 hy)) (Nat.le_refl _) ω w
 have a0:∀(p:Option Addr) (C:Nat),len<=C->a.eval x = .slice p len C->∃q c,(execOp a.eval o).run P w = .ok (.value (.slice q 0 c)) w:=by intro p C f K;have:=J C f w;simp only[execOp,A,K,Instr.sliceAt,Instr.slice,Sem.run_bind,run_underlying R,Result.andThen_ok,Option.map_none,this,S w,Sem.run_pure,Nat.sub_self];exact⟨_,_,rfl⟩
 have:∃q c,(execOp a.eval o).run P w = .ok (.value (.slice q 0 c)) w:=by
  unfold Hq at K;split at K
  .obtain⟨K,_,D⟩:=K;exact a0 none 0 ω (by rw[D];exact K)
  .obtain⟨V,K⟩:=K;exact a0 _ _ ω K
  .exact K.elim
 obtain⟨q,c,U⟩:=this;exact Gx U (hk σ ι _ w (Le.refl _ _ _) s (.cc (.nil _ _ _)))
theorem Ade (g:o.op = .call {callee:=.builtin .clear,args:=#[x],argTypes:=#[t]}) (b:o.type=ty) {c:Value} (f:(Builtin.clear_ #[t] ty #[a.eval x]).run P w = .ok c w') : (execOp a.eval o).run P w = .ok (.value c) w':=by subst b;simp[execOp,g,resolve,invoke,builtin,f]
theorem A0u (hT:Dt P T) {len:Nat} (I:o.op = .call {callee:=.builtin .clear,args:=#[x],argTypes:=#[t]}) (ht:T t=some i) (hd:i.d = .slice e) (he:T e=some i') (hz:0<i'.size) (y:L6 i'.size (Gj i')=true) (B:(Gj i').cells=i'.zero.map .val) (hx:ρ x = .arr h k off len) (Z:xs.length=k) (hl:off+len<=k) : Cn P o ρ ⟨.tup [],[(h,.rows e i'.size xs)],[(h,.rows e i'.size (Gf xs off (replicate len (Gj i'))))]⟩:=by
 intro σ ι H F W w a next Q s U S hk
 have hh:H h = .rows e i'.size xs:=S (h,.rows e i'.size xs) ψ;have D:=U x (by simp[I,Op.operands,Call.operands]);rw[hx]at D;have C:=D.arr_inv hh Z;obtain⟨u1,u,e1⟩:=L8 (hT t i ht) hd;subst e1;obtain⟨M,u',f,L,ac,J,ab,aa,A,a8⟩:=Fg (hT e i' he);have N:(zeroValue e).run P w = .ok f w:=by simp[zeroValue,typeInfo,L,J]
 have g:f.cells.size=i'.size:=by have:=congrArg length B;rw[(Oh y).1,length_map,A,Array.length_toList]at this;exact this.symm
 have a6:xs.length<=140737488355328:=by have:=s.obj h;unfold C4 at this;rw[hh]at this;exact this.2.1
 have l:∀(σ:A7) (ι:Cb) (H:Hp),Conc σ ι H (.tup []) (.tuple #[]):=λσ ι H=>.tup [] #[] rfl (λi c v h _=>by simp at h);unfold Hq at C;split at C
 .obtain⟨C,rfl,rfl⟩:=C;have G:Gf xs 0 (replicate 0 (Gj i'))=xs:=(by simp[Gf]);refine Gx (v:=.tuple #[]) (Ade I rfl ?_) (hk σ ι _ w ?_ ?_ (l _ _ _))
  .simp only[Builtin.clear_,C];simp[run_underlying u]
  .show Le σ ι H σ ι (Az H h (.rows e i'.size _));rw[G,<-hh,J8];exact Le.refl _ _ _
  .show St σ ι (Az H h (.rows e i'.size _)) F W w;rw[G,<-hh,J8];exact s
 .rename_i b a7 hb;obtain⟨ad,C⟩:=C;by_cases Y:len=0
  .subst Y;have G:Gf xs off (replicate 0 (Gj i'))=xs:=(by simp[Gf]);refine Gx (v:=.tuple #[]) (Ade I rfl ?_) (hk σ ι _ w ?_ ?_ (l _ _ _))
   .simp only[Builtin.clear_,C];simp[run_underlying u]
   .show Le σ ι H σ ι (Az H h (.rows e i'.size _));rw[G,<-hh,J8];exact Le.refl _ _ _
   .show St σ ι (Az H h (.rows e i'.size _)) F W w;rw[G,<-hh,J8];exact s
  .have z:∀q,q<len*i'.size->(Builtin.zeroCells f.cells len).toList[q]? = f.cells[q % i'.size]?:=(by intro q K;have hm:q % i'.size<f.cells.size:=(by rw[g];exact Nat.mod_lt _ hz);have V:f.cells[q % i'.size]! = f.cells[q % i'.size]:=(by simp[hm]);simp[Builtin.zeroCells,K,g,V,hm]);have hn:S7 σ i'.size (replicate len (Gj i')) (Builtin.zeroCells f.cells len).toList (λ_ j=>(f.cells[j]?).getD undef):=by
    refine⟨by simp[Builtin.zeroCells,g],?_,?_,?_⟩
    .intro j x' hj;have:=Fq hj;simp at this;rw[this.2];exact (Oh y).1
    .intro j x' q c' hj K;have:=Fq hj;simp at this;rw[this.2]at K;have a1:=(Oh y).2 c' (Fq K);rw[B,getElem?_map,A,G6]at K;cases C:f.cells[q]? with| none=>rw[C]at K;simp at K| some v=>rw[C]at K;simp at K;subst K;exact⟨.val v,a1⟩
    .intro j q hj K;have a2:j<len:=(by simpa using hj);have a0:j*i'.size+q<len*i'.size:=(by have:(j+1)*i'.size<=len*i'.size:=Nat.mul_le_mul_right _ ω;rw[E6]at this;omega);rw[z _ a0];have:(j*i'.size+q) % i'.size=q:=(by rw[Nat.mul_comm,Nat.mul_add_mod,Nat.mod_eq_of_lt K]);rw[this];have E:q<f.cells.size:=ω;simp[E]
   obtain⟨w',R,le,s'⟩:=Aod (P:=P) s hh hb (d:=off) ω (by rw[length_replicate];omega) (by rw[length_replicate];omega) hz hn;refine Gx (v:=.tuple #[]) (Ade I rfl ?_) (hk σ ι _ w' le s' (l _ _ _));have X:∃m,len=m+1:=⟨len-1,ω⟩;obtain⟨m,rfl⟩:=X;simp only[Builtin.clear_,C];simp[run_underlying u,N,R]
 .exact C.elim
theorem A0v (l:Dt P T) (j:o.op = .call {callee:=.builtin .clear,args:=#[x],argTypes:=#[t]}) (ht:T t=some i) (A:i.d = .slice e) (C:ρ x = .sl sz []):Cn P o ρ ⟨.tup [],[],[]⟩:=by
 intro σ ι H F W w a next Q s g k D
 have b:=g x (by simp[j,Op.operands,Call.operands]);rw[C]at b;obtain⟨_,q,G,I⟩:=b.sl_inv.sl_len;obtain⟨y,f,u⟩:=L8 (l t i ht) A;subst u;refine Gx (v:=.tuple #[]) (Ade j rfl ?_) (D σ ι _ w (Le.refl _ _ _) s (.tup [] #[] rfl (λi c v h _=>by simp at h)));simp only[Builtin.clear_,I];cases q <;> simp[run_underlying f]
end
variable {F σ:A7} {ι:Cb} {H:Hp} {W w:World}
theorem St.newMap (s:St σ ι H F W w) (h:Nat) (j:H h = .none) : St σ (Az ι h (.box w.heap.size)) (Az H h (.map [])) F W (w.alloc (.map #[] 0))/\Le σ ι H σ (Az ι h (.box w.heap.size)) (Az H h (.map [])):=by
 have g:ι h = .none:=by have:=s.obj h;unfold C4 at this;rw[j]at this;exact this
 have le:Le σ ι H σ (Az ι h (.box w.heap.size)) (Az H h (.map [])):=Le.upd (A7.le_refl σ) h _ _ (by rw[g,j];exact HLe.of_none);obtain⟨c,f⟩:=s.fresh;refine⟨s.touch h w.heap.size (λx e=>Cu _ _ e) (λx e=>Cu _ _ e) le ?_ (λ_ _=>rfl) (λo i=>by rw[c]at i;cases i) ?_ f ?_ ?_ rfl rfl rfl,le⟩
 .intro b hb;show (w.heap.push _)[b]? = _;rw[Array.getElem?_push,if_neg hb]
 .intro x e k hb;have:=(s.block k hb).1;omega
 .intro b _ hb;rw[Ch]at hb;simp[Loc.block?]at hb;exact .inl hb.symm
 .unfold C4;rw[Ch];refine⟨w.heap.size,#[],0,Ch _ _ _,c,f,?_,rfl,ψ⟩;show (w.heap.push _)[w.heap.size]? = _;simp
theorem St.setMap (s:St σ ι H F W w) (h:Nat) (es c:List (AV×AV)) (hh:H h = .map es) (b:Nat) (hb:ι h = .box b) (g:Array MapEntry) (t':Nat) (u:Vn σ c g) : St σ ι (Az H h (.map c)) F W {w with heap:=w.heap.setIfInBounds b (.map g t')}/\Le σ ι H σ ι (Az H h (.map c)):=by
 have i:=s.obj h;unfold C4 at i;rw[hh]at i;obtain⟨A,M,t,l,h1,h2,h3,y⟩:=i;rw[hb]at l;cases l;have le:Le σ ι H σ ι (Az H h (.map c)):=by have:=Le.upd (ι:=ι) (H:=H) (A7.le_refl σ) h (ι h) (.map c) (by rw[hh];exact⟨λ_ e=>e,(λ_ e=>by cases e),(λ_ _ _ _ e=>by cases e)⟩);rwa [J8]at this
 have f:=Go.MapKept.heap_set (w:=w) (o':=.map g t') h3;refine⟨s.touch h b (λ_ _=>rfl) (λx e=>Cu _ _ e) le (λx e=>f.2 x e) (λ_ _=>rfl) (λo e=>by rw[h1]at e;cases e) ?_ h2 ?_ ?_ rfl rfl rfl,le⟩
 .intro x e q j;exact e (s.inj x h b q (by rw[hh];rfl) j (by rw[hb];rfl))
 .intro z _ k;exact .inr ⟨by rw[hh];rfl,k⟩
 .unfold C4;rw[Ch];exact⟨b,g,t',hb,h1,h2,f.1,u⟩
def Kk (s:ByteArray):List (AV×AV)->Nat->Option (Option (Nat×AV))
 | [],_=>some none
 | p::es,i=> match p.1 with
  | .val (.string t)=>bif s==t then some (some (i,p.2)) else Kk s es (i+1)
  | _=>none
def Adf (s:ByteArray) (v:AV) (es:List (AV×AV)):Option (List (AV×AV)) := match Kk s es 0 with
 | none=>none
 | some none=>some (es++[(.val (.string s),v)])
 | some (some p)=>some (es.set p.1 (.val (.string s),v))
theorem Aiw {σ:A7} {s:ByteArray}:∀(es:List (AV×AV)) (L:List MapEntry) (i:Nat) (r:Option (Nat×AV)),L.length=es.length ->
  (∀(j:Nat) (p:AV×AV) (e:MapEntry),es[j]? = some p->L[j]? = some e->CC σ p.1 e.key/\CC σ p.2 e.val)->Kk s es i=some r ->
  (r=none/\Instr.findNow .string (.string s) L i=some none)\/∃j v e,r=some (i+j,v)/\Instr.findNow .string (.string s) L i=some (some (i+j,e.val))/\L[j]? = some e/\e.key = .string s/\CC σ v e.val/\j<es.length
 | [],[],i,r,g,h,b=>by
  simp only[Kk]at b;cases b
  exact .inl ⟨rfl,rfl⟩
 | [],e::L,i,r,g,h,b=>by simp at g
 | p::es,[],i,r,g,h,b=>by simp at g
 | p::es,e::L,i,r,g,h,b=>by
  obtain⟨D,G⟩:=h 0 p e rfl rfl
  simp only[Kk]at b
  split at b
  .rename_i t hp
   rw[hp]at D
   have f:e.key = .string t:=by
    generalize e.key=q at D
    cases D;rfl
   cases c:s==t with
   | true=>
    rw[c]at b
    cases b
    have l:s=t:=(Go.MapKept.bytes_beq s t).1 c
    refine .inr ⟨0,p.2,e,rfl,?_,rfl,?_,G,ψ⟩
    .unfold Instr.findNow
     rw[f]
     simp[Instr.sameNow,c]
    .rw[f,l]
   | false=>
    rw[c]at b
    have step:Instr.findNow .string (.string s) (e::L) i=Instr.findNow .string (.string s) L (i+1):=by
     conv=>lhs;unfold Instr.findNow
     rw[f]
     simp[Instr.sameNow,c]
    rcases Aiw es L (i+1) r (by simpa using g) (λj k e' A C=>h (j+1) k e' (by simpa using A) (by simpa using C)) b with⟨A,C⟩|⟨j,v,e',A,C,I,y,x,u⟩
    .exact .inl ⟨A,by rw[step];exact C⟩
    .exact .inr ⟨j+1,v,e',by rw[A];congr 2;omega,by rw[step,C];congr 3;omega,by simpa using I,y,x,by simpa using u⟩
  .cases b
section
variable {P:Program} {o:Oper} {ρ:Operand->AV} {a:Act} {w w':World} {next:Act->World->Prop} {Q:Exit->Act->World->Prop}
variable {σ:A7} {s:ByteArray} {ι:Cb} {T:Dq} {H:Hp} {es:List (AV×AV)} {h:Nat} {x y:Operand} {i:TI} {G t:TypeId} {v:Value}
def Aix (P:Program) (s:TypeId) (f:Nat):Option TypeId := match P.underlying s with
 | some (.struct u)=>(u[f]?).map (·.type)
 | _=>none
theorem Aog (D:Dt P T) {s:TypeId} {f:Nat} {g:TI} {fs:List (Nat×Nat)} {q:Nat×Nat} {cs:List AV} {r:AV} (B:o.op = .field t x f) (ht:T t=some i) (hd:i.d = .struct fs) (V:fs[f]? = some q) (N:Aix P t f=some s) (G:T s=some g) (hx:ρ x = .agg cs) (M:(g.isAgg=true/\q.1+g.size<=cs.length/\r = .agg ((cs.drop q.1).take g.size))\/(g.isAgg=false/\cs[q.1]? = some r)):Cn P o ρ ⟨r,[],[]⟩ := Fj λσ ι H a w h=>by
  have hc:=h x (by simp[B,Op.operands]);rw[hx]at hc;obtain⟨C,I,J,c1⟩:=hc.agg_inv;obtain⟨_,u,_,_,z,_,_,_,_,E⟩:=Fg (D t i ht);rw[hd]at E;obtain⟨R,rfl,L,_⟩:=E;unfold Aix at N;rw[z]at N;simp only[Option.map_eq_some_iff]at N;obtain⟨fl,X,g2⟩:=N;have b:q.1=fl.offset:=(by rw[L,getElem?_map,G6,X]at V;simp at V;rw[<-V]);have k:=Ac5 (D s g G) w;have A:=Pp (D s g G) w;subst g2;rcases M with⟨y,l,rfl⟩|⟨y,l⟩
  .refine⟨.agg (C.extract fl.offset (fl.offset+g.size)),?_,.agg _ _ (by simp[b]at l ⊢;omega) λj c u S U=>?_⟩
   .simp[execOp,B,I,Instr.field,run_underlying z,X,asAgg,part,k,y,A,Result.andThen]
   .rw[b]at S;have hj:j<g.size:=(by have:=(G1.1 S).1;simp at this;omega);rw[H6 hj,getElem?_drop]at S;rw[Array.getElem?_extract]at U;split at U
    .exact c1 _ c u S U
    .cases U
  .have K:q.1<C.size:=(by rw[J];exact (G1.1 l).1);have hv:C[fl.offset]? = some C[q.1]:=(by rw[<-b];simp[K]);refine⟨C[q.1],?_,c1 q.1 r _ l (by simp[K])⟩;simp[execOp,B,I,Instr.field,run_underlying z,X,asAgg,part,k,y,hv,Result.andThen]
theorem A0w (h:Nat) (c:o.op = .makeMap t none):Cn P o ρ ⟨.mp h,[(h,.none)],[(h,.map [])]⟩:=by
 intro σ ι H F W w a next Q s C b u
 have f:H h = .none:=b (h,.none) ψ;obtain⟨A,le⟩:=s.newMap h f;refine Gx (v:=.map (some w.heap.size)) (w':=w.alloc (.map #[] 0)) ?_ (u σ _ _ _ le A (.mp h w.heap.size (Ch _ _ _)));simp[execOp,c,Instr.makeMap,newObj,Sem.run]
theorem Conc.mp_inv (hc:Conc σ ι H (.mp h) v):∃b,ι h = .box b/\v = .map (some b):=by cases hc with| cc h=>cases h| mp _ b hb=>exact⟨b,hb,rfl⟩
def Aiy (b:Bool) (i:TI):Option (Nat×AV)->AV
 | none=>bif b then .tup [Gj i,.val (.bool false)] else Gj i
 | some p=>bif b then .tup [p.2,.val (.bool true)] else p.2
theorem A0x {z:Value} (u:z.cells.toList=i.zero) (I:i.isAgg=true->∃A,z = .agg A) (C:i.isAgg=false->Fi z=true):Conc σ ι H (Gj i) z:=by
 cases b:i.isAgg with
 | true=>obtain⟨A,rfl⟩:=I b;have f:Gj i = .agg (i.zero.map .val):=(by unfold TI.isAgg at b;unfold Gj;cases D:i.d <;> rw[D]at b <;> first|rfl|cases b);rw[f,<-u];refine .agg _ A (by simp[Value.cells]) λj c v G J=>?_;simp only[Value.cells,getElem?_map,G6,J]at G;simp at G;subst G;exact .of_val v
 | false=>have C:=C b;have f:z.cells = #[z]:=(by cases z <;> first|rfl|cases C);rw[f]at u;have:Gj i = .val z:=(by unfold TI.isAgg at b;unfold Gj;rw[<-u];cases D:i.d <;> rw[D]at b <;> first|rfl|cases b);rw[this];exact .of_val z
theorem A0y (Z:Dt P T) {S:TypeId} {D:Bool} {U C:TI} {r:Option (Nat×AV)} (B:o.op = .lookup t x y D) (ht:T t=some i) (hd:i.d = .map S G) (hk:T S=some U) (Y:U.d = .string) (he:T G=some C) (hx:ρ x = .mp h) (hy:ρ y = .val (.string s)) (hr:Kk s es 0=some r) : Cn P o ρ ⟨Aiy D C r,[(h,.map es)],[]⟩:=by
 intro σ ι H F W w a next Q st L V X
 have hh:H h = .map es:=V (h,.map es) ψ;have N:=L x (by simp[B,Op.operands]);rw[hx]at N;obtain⟨b,hb,hv⟩:=N.mp_inv;have g:=D9 hy (L y (by simp[B,Op.operands]));have A:=st.obj h;unfold C4 at A;rw[hh]at A;obtain⟨b',M,q,e1,_,_,h3,h4⟩:=A;rw[hb]at e1;cases e1;obtain⟨_,u,_,_,R,_,_,_,_,k7⟩:=Fg (Z t i ht);rw[hd]at k7;subst k7;obtain⟨_,u',_,_,f,_,_,_,_,E⟩:=Fg (Z S U hk);rw[Y]at E;subst E;have k:Go.MapKept.IsKey .string (.string s):=trivial;have l:∀v,Conc σ ι H (Aiy D C r) v->(execOp a.eval o).run P w = .ok (.value v) w->o.wp P a w next Q:=by intro v hc J;exact Gx J (X σ ι v w (Le.refl _ _ _) st hc)
 rcases Aiw es M.toList 0 r (by simpa using h4.1) (λj p e g1 g2=>h4.2 j p e g1 (by simpa using g2)) hr with⟨rfl,hf⟩|⟨j,v,e,rfl,hf,g1,g2,g3,_⟩
 .obtain⟨z,hz,c1,c2,c3⟩:=Ayt (Z G C he) w;have I:Conc σ ι H (Gj C) z:=A0x c1 c2 c3;cases D with
  | true=>
   refine l (.tuple #[z,.bool false]) (.tup _ _ ψ λi c u K m2=>?_) ?_
   .match i with| 0=>simp at K m2;subst K;subst m2;exact I| 1=>simp at K m2;subst K;subst m2;exact .of_val _| i+2=>simp at K
   .simp[execOp,B,hv,g,Instr.lookup,run_underlying R,Go.MapKept.run_getObj_map h3,Go.MapKept.run_checkKey f k,Go.MapKept.run_findKey f hf,hz,Result.andThen]
  | false=>refine l z I ?_;simp[execOp,B,hv,g,Instr.lookup,run_underlying R,Go.MapKept.run_getObj_map h3,Go.MapKept.run_checkKey f k,Go.MapKept.run_findKey f hf,hz,Result.andThen]
 .cases D with
  | true=>
   refine l (.tuple #[e.val,.bool true]) (.tup _ _ ψ λi c u K m2=>?_) ?_
   .match i with| 0=>simp at K m2;subst K;subst m2;exact .cc g3| 1=>simp at K m2;subst K;subst m2;exact .of_val _| i+2=>simp at K
   .simp[execOp,B,hv,g,Instr.lookup,run_underlying R,Go.MapKept.run_getObj_map h3,Go.MapKept.run_checkKey f k,Go.MapKept.run_findKey f hf,Result.andThen]
  | false=>refine l e.val (.cc g3) ?_;simp[execOp,B,hv,g,Instr.lookup,run_underlying R,Go.MapKept.run_getObj_map h3,Go.MapKept.run_checkKey f k,Go.MapKept.run_findKey f hf,Result.andThen]
theorem Conc.cc_free1 {x:AV} (hx:x.free1=true) (h:Conc σ ι H x v):CC σ x v:=by cases x with| agg cs=>obtain⟨vs,rfl,b,h⟩:=h.agg_inv;exact .agg cs vs b λi c u h1 h2=>((h i c u h1 h2).cc_of (En.1 hx c (Fq h1))).1| val u=>exact (h.cc_of (x:=.val u) hx).1| sl sz xs=>exact (h.cc_of (x:=.sl sz xs) hx).1| _=>cases hx
theorem A0z (hT:Dt P T) {V:TypeId} {z:Operand} {X:TI} {g:List (AV×AV)} (L:o.op = .mapUpdate t x y z) (ht:T t=some i) (hd:i.d = .map V G) (hk:T V=some X) (a1:X.d = .string) (hx:ρ x = .mp h) (hy:ρ y = .val (.string s)) (hz:(ρ z).free1=true) (k:Adf s (ρ z) es=some g) : Cn P o ρ ⟨.val undef,[(h,.map es)],[(h,.map g)]⟩:=by
 intro σ ι H F W w a next Q st l Y Z
 have hh:H h = .map es:=Y (h,.map es) ψ;have S:=l x (by simp[L,Op.operands]);rw[hx]at S;obtain⟨b,hb,hv⟩:=S.mp_inv;have I:=D9 hy (l y (by simp[L,Op.operands]));have R:=(l z (by simp[L,Op.operands])).cc_free1 hz;have A:=st.obj h;unfold C4 at A;rw[hh]at A;obtain⟨b',M,q,e1,_,_,h3,f⟩:=A;rw[hb]at e1;cases e1;obtain⟨_,u,_,_,k2,_,_,_,_,k7⟩:=Fg (hT t i ht);rw[hd]at k7;subst k7;obtain⟨_,u',_,_,c,_,_,_,_,C⟩:=Fg (hT V X hk);rw[a1]at C;subst C;have B:Go.MapKept.IsKey .string (.string s):=trivial;have N:∀U t',Vn σ g U->(execOp a.eval o).run P w = .ok .skip {w with heap:=w.heap.setIfInBounds b (.map U t')}->o.wp P a w next Q:=by intro U t' hM J;obtain⟨s',le⟩:=st.setMap h es g hh b hb U t' hM;exact Aig J (Z σ ι undef _ le s' (.of_val _))
 unfold Adf at k;cases E:Kk s es 0 with
 | none=>rw[E]at k;cases k
 | some r=>
  rw[E]at k;rcases Aiw es M.toList 0 r (by simpa using f.1) (λj p e g1 g2=>f.2 j p e g1 (by simpa using g2)) E with⟨rfl,hf⟩|⟨j,v,e,rfl,hf,g1,g2,g3,g4⟩
  .simp only[Option.some.injEq]at k;subst k;refine N (M.push {key:=.string s,val:=a.eval z,born:=q}) (q+1) ⟨by simp[f.1],λi' p e K m2=>?_⟩ ?_
   .rcases Nat.lt_or_ge i' es.length with a0|a2
    .rw[getElem?_append_left a0]at K;rw[Array.getElem?_push_lt (by rw[f.1];exact a0)]at m2;exact f.2 i' p e K (by rw[Array.getElem?_eq_getElem (by rw[f.1];exact a0)];exact m2)
    .rw[getElem?_append_right a2]at K;have a6:i'=es.length:=(by have:=(G1.1 K).1;simp at this;omega);subst a6;simp at K;subst K;rw[<-f.1]at m2;simp at m2;subst m2;exact⟨.val _,R⟩
   .simp[execOp,L,hv,I,Instr.mapUpdate,run_underlying k2,Go.MapKept.run_getObj_map h3,Go.MapKept.run_checkKey c B,Go.MapKept.run_findKey c hf,Go.MapKept.run_setObj_map _ h3,Result.andThen]
  .simp only[Option.some.injEq]at k;subst k;have hj:M[j]? = some e:=(by simpa using g1);refine N (M.modify j λe=>{e with key:=.string s,val:=a.eval z}) q ⟨by simp[f.1],λi' p e' K m2=>?_⟩ ?_
   .simp only[Nat.zero_add]at K;rw[getElem?_set]at K;rw[Array.getElem?_modify]at m2;by_cases D:j=i'
    .subst D;simp only[if_true]at K m2;rw[if_pos g4]at K;cases K;rw[hj]at m2;simp at m2;subst m2;exact⟨.val _,R⟩
    .rw[if_neg D]at K;rw[if_neg D]at m2;exact f.2 i' p e' K m2
   .simp[execOp,L,hv,I,Instr.mapUpdate,run_underlying k2,Go.MapKept.run_getObj_map h3,Go.MapKept.run_checkKey c B,Go.MapKept.run_findKey c hf,hj,g2,Go.MapKept.run_keyThatStays B,Go.MapKept.run_setObj_map _ h3,Result.andThen]
end
def ev (e:B7):Operand->AV
 | .tmp t=>e t
 | .const v=>.val v
 | .global g=>.val (.pointer (some ⟨g,0,none⟩))
 | .func f=>.fn f []
def put (e:B7) (d:Option Nat) (v:AV):B7 := match d with
 | none=>e
 | some n=>Az e n v
def Aiz:Operand->Option Nat
 | .tmp t=>some t
 | _=>none
def Vt (ops:Array Oper) (o:Oper):Option Nat := match o.guard with
 | none=>none
 | some p=>(ops[p.1]?).bind (·.dst)
def Lr (ops:Array Oper) (o:Oper):List Nat:=o.op.operands.toList.filterMap Aiz++(Vt ops o).toList
def Fr (σ:A7) (ι:Cb) (H:Hp) (e:B7) (a:Act):Prop:=∀s,s<a.tmps.size->Conc σ ι H (e s) (a.tmps.getD s undef)
section
variable {σ:A7} {ι:Cb} {H:Hp} {e:B7} {a:Act}
theorem Fr.eval (h:Fr σ ι H e a) {x:Operand} (hx:∀t,Aiz x=some t->t<a.tmps.size):Conc σ ι H (ev e x) (a.eval x):=by cases x with| tmp t=>exact h t (hx t rfl)| const v=>exact .of_val v| global g=>exact .of_val _| func f=>exact .fn f [] #[] rfl ψ
theorem Fr.mono {b:A7} {c:Cb} {H':Hp} (h:Fr σ ι H e a) (le:Le σ ι H b c H'):Fr b c H' e a:=λs f=>(h s f).mono le
theorem Fr.put (h:Fr σ ι H e a) {d:Option Nat} {r:AV} {v:Value} (hv:Conc σ ι H r v):Fr σ ι H (put e d r) (a.put d v):=by
 cases d with
 | none=>exact h
 | some n=>
  intro s b;simp only[Act.put,Array.size_setIfInBounds]at b;simp only[Ab.put,Act.put];by_cases c:s=n
  .subst c;rw[Ch];simpa[b] using hv
  .rw[Cu _ _ c];have:=h s b;simp only[Array.getD_eq_getD_getElem?]at this ⊢;rw[Array.getElem?_setIfInBounds_ne ω];exact this
end
variable {a b:Act} {ops:Array Oper} {o:Oper}
def S8:Value->Option Bool
 | .bool b=>some b
 | _=>none
def L9 (ops:Array Oper) (o:Oper) (e:B7) (on:Bool):Prop := match o.guard with
 | none=>on=true
 | some p=>∃s v,(ops[p.1]?).bind (·.dst)=some s/\e s = .val v/\on=(S8 v==some p.2)
theorem Aoh {e:B7} {on:Bool} {σ:A7} {ι:Cb} {H:Hp} (hg:L9 ops o e on) (f:Fr σ ι H e a) (c:∀s,Vt ops o=some s->s<a.tmps.size) : Region.wanted o (yielded ops a.tmps)=on:=by unfold L9 at hg;unfold Region.wanted;cases h:o.guard with| none=>rw[h]at hg;exact hg.symm| some p=>rw[h]at hg;obtain⟨s,b,C,G,I⟩:=hg;have u:=c s (by unfold Vt;rw[h];exact C);have D:=f s u;rw[G]at D;have A:=D.val_inv;have:yielded ops a.tmps p.1=S8 b:=(by unfold yielded;rw[C];simp only[Option.bind_some];have:a.tmps[s]? = some b:=(by rw[Array.getD_eq_getD_getElem?]at A;simp[u]at A ⊢;exact A);rw[this];cases b <;> rfl);show (yielded ops a.tmps p.1==some p.2)=on;rw[this,I]
abbrev Acc:=Nat->List Nat×List Nat
def Q3 (P:Program) (ops:Array Oper) (acc:Acc) (i:Nat) (o:Oper) (e:B7) (H:Hp) (r:AV) (c:List (Nat×Bm)):Prop := ops[i]? = some o /\ ((L9 ops o e true/\∃b,Cn P o (ev e) b/\(∀p∈b.rd,H p.1=p.2)/\(∀p∈b.rd,p.1∈(acc i).1)/\(∀p∈b.wr,p.1∈(acc i).2)/\r=b.r/\c=b.wr) \/ (L9 ops o e false/\r = .val undef/\c = []))
inductive Run (P:Program) (ops:Array Oper) (acc:Acc):List Nat->B7->Hp->B7->Hp->Prop where
 | nil (e:B7) (H:Hp):Run P ops acc [] e H e H
 | cons {i:Nat} {l:List Nat} {e e':B7} {H H':Hp} (o:Oper) (r:AV) (wr:List (Nat×Bm)) (hd:Q3 P ops acc i o e H r wr)
   (rest:Run P ops acc l (put e o.dst r) (Cp H wr) e' H'):Run P ops acc (i::l) e H e' H'
def F9 (b:List Nat) (a c:Act):Prop:=∀s,s ∉ b->c.tmps.getD s undef=a.tmps.getD s undef
theorem F9.refl (b:List Nat) (a:Act):F9 b a a:=λ_ _=>rfl
theorem F9.trans {f:List Nat} {c:Act} (h:F9 f a b) (h':F9 f b c):F9 f a c:=λs g=>(h' s g).trans (h s g)
theorem F9.mono {f c:List Nat} (h:F9 f a b) (i:∀s∈f,s∈c):F9 c a b:=λs g=>h s (λx=>g (i s x))
theorem F9.put (a:Act) (d:Option Nat) (v:Value) (b:List Nat) (h:∀s,d=some s->s∈b):F9 b a (a.put d v):=by cases d with| none=>exact F9.refl _ _| some n=>intro s c;have f:s≠n:=λe=>c (e ▸ h n rfl);simp only[Act.put,Array.getD_eq_getD_getElem?];rw[Array.getElem?_setIfInBounds_ne ω]
def Yk (ops:Array Oper):List Nat:=ops.toList.filterMap (·.dst)
theorem F9.step {i:Nat} (c:ops[i]? = some o) (a:Act) (v:Value):F9 (Yk ops) a (a.put o.dst v):=by refine F9.put a o.dst v _ λs b=>?_;unfold Yk;rw[mem_filterMap];exact⟨o,by simpa using Array.mem_of_getElem? c,b⟩
def Adg (ops:Array Oper) (n:Nat):Prop:=∀(i:Nat) (o:Oper),ops[i]? = some o->∀s∈Lr ops o,s<n
section
variable {P:Program} {ops:Array Oper} {acc:Acc} {F:A7} {W:World} {Q:Exit->Act->World->Prop}
variable {r:AV} {e e':B7} {H H':Hp} {l:List Nat} {i:Nat} {o:Oper} {d:Option Nat}
theorem Yl (a:Act) (d:Option Nat) (v:Value):(a.put d v).tmps.size=a.tmps.size:=by cases d <;> simp[Act.put]
theorem Run.wpOp (h:Run P ops acc (i::l) e H e' H') {σ:A7} {ι:Cb} {a:Act} {w:World} (s:St σ ι H F W w) (q:Fr σ ι H e a) (B:Adg ops a.tmps.size) {K:Act->World->Prop} (hk:∀(A:B7) (y:Hp),Run P ops acc l A y e' H'->∀g j u w',Le σ ι H g j y->St g j y F W w'->Fr g j y A u->u.tmps.size=a.tmps.size->u.defers=a.defers->F9 (Yk ops) a u->K u w') : wpOp P ops Q i K a w:=by
 have c:∀(d:Option Nat) (v:Value),(a.put d v).defers=a.defers:=by intro d v;cases d <;> rfl
 cases h with
 | cons o r wr hd rest=>
  obtain⟨k,hd⟩:=hd;unfold Go.wpOp;have f:=B i o k;rcases hd with⟨G,D,b,z,_,_,rfl,rfl⟩|⟨G,rfl,rfl⟩
  .have I:=Aoh G q λC h'=>f C (by simp[Lr,h']);rw[k];simp only[I,if_true];refine .inl (b σ ι H F W w a K Q s (λx hx=>q.eval λt J=>f t ?_) z ?_)
   .simp only[Lr,mem_append,mem_filterMap];exact .inl ⟨x,hx,J⟩
   .intro g j v w' le C hc;exact hk _ _ rest g j _ w' le C ((q.mono le).put hc) (Yl _ _ _) (c _ _) (F9.step k a v)
  .have I:=Aoh G q λC h'=>f C (by simp[Lr,h']);rw[k];simp only[I,Bool.false_eq_true,if_false];exact hk _ _ rest σ ι _ w (Le.refl _ _ _) s (q.put (.of_val undef)) (Yl _ _ _) (c _ _) (F9.step k a undef)
theorem Run.wpOps (h:Run P ops acc l e H e' H'):∀{σ:A7} {ι:Cb} {a:Act} {w:World},St σ ι H F W w->Fr σ ι H e a->Adg ops a.tmps.size -> (∀j k g w',Le σ ι H j k H'->St j k H' F W w'->Fr j k H' e' g->g.tmps.size=a.tmps.size->g.defers=a.defers->F9 (Yk ops) a g->Q .normal g w')->wpOps P ops Q l a w:=by induction l generalizing e H with| nil=>intro σ ι a w s B y hk;cases h;exact hk σ ι a w (Le.refl _ _ _) s B rfl rfl (F9.refl _ _)| cons i l ih=>intro σ ι a w s B y hk;rw[wpOps_cons];refine h.wpOp s B y ?_;intro U V M N R X S u L A c D C;refine ih M L A (by rw[c];exact y) ?_;intro E G K I q J z b f x;exact hk E G K I (u.trans q) J z (b.trans c) (f.trans D) (C.trans x)
theorem Cn.congr {ρ f:Operand->AV} {b:Eff} (h:Cn P o ρ b) (i:∀x∈o.op.operands.toList,f x=ρ x):Cn P o f b := λσ ι H F W w a next Q s hx c hk=>h σ ι H F W w a next Q s (λx g=>by rw[<-i x g];exact hx x g) c hk
theorem L9.congr {on:Bool} (h:L9 ops o e on) (c:∀s,Vt ops o=some s->e' s=e s):L9 ops o e' on:=by unfold L9 at *;cases u:o.guard with| none=>rw[u]at h;exact h| some p=>rw[u]at h;obtain⟨s,b,h1,h2,h3⟩:=h;exact⟨s,b,h1,by rw[c s (by unfold Vt;rw[u];exact h1)];exact h2,h3⟩
theorem A00 {x:Operand} (h:∀t,Aiz x=some t->e' t=e t):ev e' x=ev e x:=by cases x with| tmp t=>exact h t rfl| _=>rfl
theorem Q3.congr {c:List (Nat×Bm)} (h:Q3 P ops acc i o e H r c) (f:∀s∈Lr ops o,e' s=e s) (l:∀x∈(acc i).1,H' x=H x):Q3 P ops acc i o e' H' r c:=by
 obtain⟨k,h⟩:=h;refine⟨k,?_⟩;have A:∀s,Vt ops o=some s->e' s=e s:=λs j=>f s (by simp[Lr,j]);rcases h with⟨h1,b,h2,h3,g,y,u,q⟩|⟨h1,h2,h3⟩
 .refine .inl ⟨h1.congr A,b,h2.congr λx hx=>A00 λt C=>f t ?_,λp hp=>?_,g,y,u,q⟩
  .simp only[Lr,mem_append,mem_filterMap];exact .inl ⟨x,hx,C⟩
  .rw[l p.1 (g p hp)];exact h3 p hp
 .exact .inr ⟨h1.congr A,h2,h3⟩
theorem Vu {H:Hp}:∀{b:List (Nat×Bm)} {x:Nat},(∀p∈b,p.1≠x)->Cp H b x=H x
 | [],_,_=>rfl
 | p::b,x,h=>by simp only[Cp];rw[Vu λq u=>h q (by simp[u]),Cu _ _ λe=>h p ψ e.symm]
theorem Aoi {H:Hp} {h:Nat} {o:Bm}:∀{b:List (Nat×Bm)},(∀p∈b,p.1≠h)->Cp (Az H h o) b=Az (Cp H b) h o
 | [],_=>rfl
 | p::b,hp=>by simp only[Cp];rw[An0 _ _ _ λe=>hp p ψ e,Aoi λq u=>hp q (by simp[u])]
theorem Aoj {H:Hp}:∀{c b:List (Nat×Bm)},(∀p∈c,∀q∈b,p.1≠q.1)->Cp (Cp H c) b=Cp (Cp H b) c
 | [],_,_=>rfl
 | p::c,b,h=>by simp only[Cp];rw[Aoj λq u f A=>h q (by simp[u]) f A,Aoi λq u e=>h p ψ q u e.symm]
structure Ind (ops:Array Oper) (acc:Acc) (i j:Nat) (o o':Oper):Prop where
 d1:∀s,o.dst=some s->s ∉ Lr ops o'/\o'.dst≠some s
 d2:∀s,o'.dst=some s->s ∉ Lr ops o
 h1:∀x∈(acc i).2,x ∉ (acc j).1/\x ∉ (acc j).2
 h2:∀x∈(acc j).2,x ∉ (acc i).1
theorem Aok {s:Nat} (h:d≠some s):put e d r s=e s:=by cases d with| none=>rfl| some n=>exact Cu _ _ (λe=>h (by rw[e]))
theorem A01 {b:Option Nat} {c:AV} (h:∀s,d=some s->b≠some s):put (put e d r) b c=put (put e b c) d r:=by
 cases d with
 | none=>rfl
 | some n=>cases b with| none=>rfl| some m=>exact An0 _ _ _ (λe=>h n rfl (by rw[e]))
theorem Q3.wr {b:List (Nat×Bm)} (h:Q3 P ops acc i o e H r b):∀p∈b,p.1∈(acc i).2:=by
 obtain⟨_,⟨_,g,_,_,_,f,_,c⟩|⟨_,_,h3⟩⟩:=h
 .subst c;exact f
 .subst h3;intro p hp;cases hp
theorem Run.swap {j:Nat} (h:Run P ops acc (i::j::l) e H e' H') (hi:∀o o',ops[i]? = some o->ops[j]? = some o'->Ind ops acc i j o o'):Run P ops acc (j::i::l) e H e' H':=by
 cases h with
 | cons o r wr hd rest=>cases rest with| cons o' g c b rest=>have ind:=hi o o' hd.1 b.1;have u:Q3 P ops acc j o' e H g c:=b.congr (λs f=>(Aok λe=>(ind.d1 s e).1 f).symm) λx hx=>(Vu λp hp e=>(ind.h1 p.1 (hd.wr p hp)).1 (e ▸ hx)).symm;have A:Q3 P ops acc i o (put e o'.dst g) (Cp H c) r wr:=hd.congr (λs f=>Aok λe=>ind.d2 s e f) λx hx=>Vu λp hp e=>ind.h2 p.1 (b.wr p hp) (e ▸ hx);refine .cons o' g c u (.cons o r wr A ?_);rw[A01 λs f e=>(ind.d1 s e).2 f,Aoj λp hp q C e=>(ind.h1 q.1 (hd.wr q C)).2 (e ▸ b.wr p hp)];exact rest
theorem Run.bubble:∀{b c:List Nat} {e e':B7} {H H':Hp},Run P ops acc (b++i::c) e H e' H'->(∀j∈b,∀o o',ops[j]? = some o->ops[i]? = some o'->Ind ops acc j i o o')->Run P ops acc (i::(b++c)) e H e' H'
 | [],_,_,_,_,_,h,_=>h
 | j::b,c,e,e',H,H',h,hi=>by cases h with| cons o r wr hd rest=>exact Run.swap (.cons o r wr hd (rest.bubble λk hk=>hi k (by simp[hk]))) (hi j ψ)
end
def Q4 (ms:List Nat) (o:Oper):Nat:=o.after.toList.foldl (λa x=>bif Region.binds .any x then a ||| ((1 <<< x.on) ||| ms.getD x.on 0) else a) 0
def K1:List Oper->List Nat->List Nat
 | [],u=>u
 | o::A,u=>K1 A (u++[Q4 u o])
def Ym (l m:List Nat):Bool:=l.all λx=>!m.contains x
def Ai0 (ops:Array Oper) (a b:List Nat×List Nat) (o o':Oper):Bool := (match o.dst with
   | none=>true
   | some s=>!(Lr ops o').contains s && !(o'.dst==some s)) && (match o'.dst with
   | none=>true
   | some s=>!(Lr ops o).contains s) && Ym a.2 b.1&&Ym a.2 b.2&&Ym b.2 a.1
def Ai1 (ops:List Oper) (acc:List (List Nat×List Nat)):Bool :=
 let M:=K1 ops []
 (ops.zipIdx.all λp=>p.1.after.toList.all λx=>!Region.binds .any x||Nat.blt x.on p.2) && ops.zipIdx.all λp=>ops.zipIdx.all λq=>!Nat.blt q.2 p.2||(M.getD p.2 0).testBit q.2||Ai0 ops.toArray (acc.getD q.2 ([],[])) (acc.getD p.2 ([],[])) q.1 p.1
section
variable {P:Program} {F:A7} {W:World} {Q:Exit->Act->World->Prop}
variable {ops:Array Oper} {i:Nat}
theorem Aol:∀(u:List Oper) (ms:List Nat),(K1 u ms).take ms.length=ms/\(K1 u ms).length=ms.length+u.length /\ ∀(k:Nat) (o:Oper),u[k]? = some o->(K1 u ms).getD (ms.length+k) 0=Q4 ((K1 u ms).take (ms.length+k)) o
 | [],ms=>⟨by simp[K1],by simp[K1],ψ⟩
 | o::u,ms=>by
  obtain⟨A,G,D⟩:=Aol u (ms++[Q4 ms o]);simp only[K1];simp only[length_append,length_cons,length_nil]at A G D;have b:(K1 u (ms++[Q4 ms o])).take ms.length=ms:=(by have:=congrArg (take ms.length) A;rw[take_take]at this;simpa using this);refine⟨b,by simp only[length_cons];omega,λk I C=>?_⟩;cases k with
  | zero=>simp at C;subst C;rw[Nat.add_zero,b];have J:(K1 u (ms++[Q4 ms o]))[ms.length]? = some (Q4 ms o):=(by have c:((K1 u (ms++[Q4 ms o])).take (ms.length+1))[ms.length]? = (K1 u (ms++[Q4 ms o]))[ms.length]?:=H6 ω;rw[<-c,A];simp);simp[getD,J]
  | succ k=>have:=D k I (by simpa using C);rwa [show ms.length+1+k=ms.length+(k+1) by omega]at this
theorem Aom (ms:List Nat) (j:Nat):∀(l:List Edge) (a:Nat),(l.foldl (λa x=>bif Region.binds .any x then a ||| ((1 <<< x.on) ||| ms.getD x.on 0) else a) a).testBit j=true -> a.testBit j=true\/∃x∈l,Region.binds .any x=true/\(x.on=j\/(ms.getD x.on 0).testBit j=true)
 | [],a,h=>.inl h
 | x::l,a,h=>by
  simp only[foldl_cons]at h;rcases Aom ms j l _ h with u|⟨y,C,A⟩
  .cases A:Region.binds .any x with
   | false=>rw[A]at u;exact .inl u
   | true=>
    rw[A]at u;simp only[cond_true,Nat.testBit_or,Bool.or_eq_true]at u;rcases u with u|u|u
    .exact .inl u
    .refine .inr ⟨x,ψ,A,.inl ?_⟩;rw[Nat.one_shiftLeft,Nat.testBit_two_pow]at u;simpa using u
    .exact .inr ⟨x,ψ,A,.inr u⟩
  .exact .inr ⟨y,by simp[C],A⟩
theorem Ai2 {l m:List Nat} (h:Ym l m=true):∀x∈l,x ∉ m:=by intro x u b;unfold Ym at h;rw[En]at h;have:=h x u;simp[b]at this
theorem A02 {acc:Acc} {j:Nat} {o o':Oper} (h:Ai0 ops (acc i) (acc j) o o'=true):Ind ops acc i j o o':=by
 unfold Ai0 at h;simp only[Fw]at h;obtain⟨⟨⟨⟨u,A⟩,D⟩,f⟩,c⟩:=h;refine⟨λs b=>?_,λs b=>?_,λx C=>⟨Ai2 D x C,Ai2 f x C⟩,Ai2 c⟩
 .rw[b]at u;simpa using u
 .rw[b]at A;simpa using A
def A03 (ops:Array Oper) (b:Array Bool):Prop := ∀(k:Nat) (o:Oper),ops[k]? = some o->b.getD k false=true->∀x∈o.after.toList,Region.binds .any x=true->b.getD x.on false=true
theorem Aon {b:Array Bool} (h:i∈Region.ready .any ops b) : i<ops.size/\b.getD i true=false/\∀o,ops[i]? = some o->∀x∈o.after.toList,Region.binds .any x=true->b.getD x.on false=true:=by unfold Region.ready at h;rw[mem_filter]at h;obtain⟨C,A⟩:=h;simp only[Fw,Bool.not_eq_true']at A;refine⟨by simpa using C,A.1,λo c x D G=>?_⟩;have u:=A.2;rw[c]at u;simp only[Option.map_some,Option.getD_some]at u;rw[<-Array.all_toList,En]at u;have:=u x D;simpa[G] using this
theorem Aoo {ops:List Oper} {accs:List (List Nat×List Nat)} (N:Ai1 ops accs=true) {e':B7} {H':Hp}:∀(fuel:Nat) (b:Array Bool) (l:List Nat) (e:B7) (H:Hp) (σ:A7) (ι:Cb) (a:Act) (w:World), Run P ops.toArray (λi=>accs.getD i ([],[])) l e H e' H'->l.Pairwise (· < ·)->(∀i,i∈l↔i<ops.length/\b.getD i true=false)->b.size=ops.length->A03 ops.toArray b->l.length=fuel -> St σ ι H F W w->Fr σ ι H e a->Adg ops.toArray a.tmps.size -> (∀σ' ι' a' w',Le σ ι H σ' ι' H'->St σ' ι' H' F W w'->Fr σ' ι' H' e' a'->a'.tmps.size=a.tmps.size->a'.defers=a.defers->F9 (Yk ops.toArray) a a'->Q .normal a' w') -> wpAny P .any ops.toArray Q fuel b a w
 | 0,b,l,e,H,σ,ι,a,w,hr,hp,J,a6,U,f,s,he,hs,C=>by have D:l = []:=eq_nil_of_length_eq_zero f;subst D;cases hr;refine⟨?_,C σ ι a w (Le.refl _ _ _) s he rfl rfl (F9.refl _ _)⟩;apply eq_nil_iff_forall_not_mem.2;intro i hi;obtain⟨K,h2,_⟩:=Aon hi;have:=(J i).2 ⟨by simpa using K,h2⟩;cases this
 | fuel+1,b,l,e,H,σ,ι,a,w,hr,hp,J,a6,U,f,s,he,hs,C=>by
  unfold Ai1 at N;have I:=N;simp only[Fw,En]at I;obtain⟨S,M⟩:=I;have u:∀(i:Nat) (o:Oper),ops[i]? = some o->(o,i)∈ops.zipIdx:=(by intro i o h;rw[mem_iff_getElem?];exact⟨i,by simp[getElem?_zipIdx,h]⟩);have A:∀(i:Nat) (o:Oper),ops[i]? = some o->∀x∈o.after.toList,Region.binds .any x=true->x.on<i:=(by intro i o h x hx hb;have:=S (o,i) (u i o h) x hx;simp only[hb,Bool.not_true,Bool.false_or]at this;exact G2 this);refine⟨λaa=>?_,λi hi=>?_⟩
  .exfalso;cases l with
   | nil=>simp at f
   | cons i l=>
    have R:=(J i).1 ψ;have:i∈Region.ready .any ops.toArray b:=by
     unfold Region.ready;rw[mem_filter];refine⟨by simpa using R.1,?_⟩;simp only[Fw,Bool.not_eq_true'];refine⟨R.2,?_⟩;have a4:i<ops.length:=R.1;have ho:ops[i]? = some ops[i]:=getElem?_eq_getElem a4;have ap:ops.toArray[i]? = some ops[i]:=(by simp[a4]);rw[ap];simp only[Option.map_some,Option.getD_some];rw[<-Array.all_toList,En];intro x hx;cases hb:Region.binds .any x with
     | false=>rfl
     | true=>
      simp only[Bool.not_true,Bool.false_or];have b5:=A i _ ho x hx hb;cases D:b.getD x.on true with
      | true=>have g:x.on<b.size:=ω;simp only[Array.getD_eq_getD_getElem?]at D ⊢;simpa[g] using D
      | false=>
       have a0:=(J x.on).2 ⟨ω,D⟩;simp only[mem_cons]at a0;rcases a0 with a0|a0
       .omega
       .have:=(pairwise_cons.1 hp).1 _ a0;omega
    rw[aa]at this;cases this
  .obtain⟨az,ay,ad⟩:=Aon hi;have q:i<ops.length:=(by simpa using az);have ax:=(J i).2 ⟨q,ay⟩;obtain⟨l1,l2,rfl⟩:=append_of_mem ax;have b6:ops[i]? = some ops[i]:=getElem?_eq_getElem q;have b4:ops.toArray[i]? = some ops[i]:=(by simp[q]);have z:∀(k:Nat) (o:Oper),ops[k]? = some o->(b.getD k false=true\/k=i)->∀j,((K1 ops []).getD k 0).testBit j=true->b.getD j false=true:=by
    intro k;induction k using Nat.strongRecOn with
    | _ k ih=>
     intro o C a3 j hj;have a7:=(Aol ops []).2.2 k o C;simp only[length_nil,Nat.zero_add]at a7;rw[a7]at hj;rcases Aom _ j _ _ hj with h0|⟨x,hx,hb,a8⟩
     .simp at h0
     .have V:b.getD x.on false=true:=by
       rcases a3 with a3|a3
       .exact U k o (by simpa using C) a3 x hx hb
       .subst a3;exact ad o (by simpa using C) x hx hb
      rcases a8 with rfl|a5
      .exact V
      .have X:=A k o C x hx hb;have ak:x.on<ops.length:=(by have:=(G1.1 C).1;omega);have e1:((K1 ops []).take k).getD x.on 0=(K1 ops []).getD x.on 0:=(by simp only[getD_eq_getElem?_getD];rw[H6 X]);rw[e1]at a5;exact ih x.on X _ (getElem?_eq_getElem ak) (.inl V) j a5
   have ac:∀j∈l1,∀o o',ops.toArray[j]? = some o->ops.toArray[i]? = some o'->Ind ops.toArray (λi=>accs.getD i ([],[])) j i o o':=by
    intro j hj o o' aq av;have au:j<i:=(by have:=(pairwise_append.1 hp).2.2 j hj i ψ;exact this);have ar:=(J j).1 (by simp[hj]);have ab:ops[j]? = some o:=(by simpa using aq);have L:ops[i]? = some o':=(by simpa using av);have:=M (o',i) (u i o' L) (o,j) (u j o ab);simp only[Bool.or_eq_true,Bool.not_eq_true']at this;rcases this with (K|K) | K
    .have:Nat.blt j i=true:=(by unfold Nat.blt;exact Nat.ble_eq_true_of_le au);rw[this]at K;cases K
    .have h2:=z i o' L (.inr rfl) j K;have g:j<b.size:=ω;have h3:=ar.2;simp only[Array.getD_eq_getD_getElem?]at h2 h3;simp[g]at h2 h3;rw[h2]at h3;cases h3
    .exact A02 (acc:=λi=>accs.getD i ([],[])) K
   have ah:=hr.bubble ac;refine ah.wpOp s he hs ?_;intro e1 H1 r1 σ1 ι1 a1 w1 aj s1 b3 E af ao;have G:∀(k:Nat) (d:Bool),(b.setIfInBounds i true).getD k d=if k=i then true else b.getD k d:=by
    intro k d;simp only[Array.getD_eq_getD_getElem?];by_cases c:k=i
    .subst c;rw[if_pos rfl,Array.getElem?_setIfInBounds_self_of_lt ω];rfl
    .rw[if_neg c,Array.getElem?_setIfInBounds_ne ω]
   have B:∀k∈l1++l2,k≠i:=by
    intro k C e;subst e;rw[pairwise_append]at hp;rcases mem_append.1 C with C|C
    .have:=hp.2.2 k C k ψ;omega
    .have:=(pairwise_cons.1 hp.2.1).1 k C;omega
   refine Aoo N fuel _ (l1++l2) e1 H1 σ1 ι1 a1 w1 r1 ?_ ?_ (by simpa using a6) ?_ (by simp at f ⊢;omega) s1 b3 (by rw[E];exact hs) ?_
   .rw[pairwise_append]at hp ⊢;exact⟨hp.1,(pairwise_cons.1 hp.2.1).2,λx hx y hy=>hp.2.2 x hx y (by simp[hy])⟩
   .intro k;rw[G];constructor
    .intro C;have K:=(J k).1 (by
      rcases mem_append.1 C with C|C
      .simp[C]
      .simp[C])
     rw[if_neg (B k C)];exact K
    .rintro⟨K,h2⟩;by_cases c:k=i
     .rw[if_pos c]at h2;cases h2
     .rw[if_neg c]at h2;have:=(J k).2 ⟨K,h2⟩;simp only[mem_append,mem_cons]at this ⊢;rcases this with h|h|h
      .exact .inl h
      .exact (c h).elim
      .exact .inr h
   .intro k o C D x hx ag;rw[G]at D ⊢;by_cases Y:x.on=i
    .rw[if_pos Y]
    .rw[if_neg Y];by_cases c:k=i
     .subst c;exact ad o C x hx ag
     .rw[if_neg c]at D;exact U k o C D x hx ag
   .intro σ2 ι2 a2 w2 ai s2 b0 Z ae am;exact C σ2 ι2 a2 w2 (aj.trans ai) s2 b0 (Z.trans E) (ae.trans af) (ao.trans am)
end
end Go.Ab
