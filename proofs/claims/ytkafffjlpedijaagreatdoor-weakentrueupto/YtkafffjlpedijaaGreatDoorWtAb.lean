/- A layer of abstract values over the model, and the conditions under which a function keeps its contract. -/
import Derived.Calls
import Derived.Orders
import Derived.Lib.ItoaNum
import Derived.Laws.CopyRow
import Derived.Laws.Cells
import Derived.Laws.Append
import Derived.Lib.SliceRun
import Derived.Laws.FloatArith
import Derived.Laws.Cover2
import Derived.Laws.MakeOwn
import Derived.Lib.AppendStr
import Derived.MapKept
import Derived.WideKeyRuns
import Derived.Scope
namespace Go.Ab
abbrev OB:=Option Bool
theorem ζ {p:Prop} (h:p:=by simp;omega):p:=h
theorem ω {p:Prop} (h:p:=by omega):p:=h
theorem δ {p:Prop} (h:p:=by decide):p:=h
theorem ψ {p:Prop} (h:p:=by simp):p:=h
theorem Gl {α:Type _} {i:Nat} {a:α} {l:List α}:l[i]? = some a↔∃h:i<l.length,l[i]=a:=List.getElem?_eq_some_iff
theorem D6 {α:Type _} {p:α->Bool} {l:List α}:l.all p=true↔∀x,x∈l->p x=true:=List.all_eq_true
theorem F6 {α:Type _} {l:List α} {i:Nat} {a:α} (h:l[i]? = some a):a∈l:=List.mem_of_getElem? h
theorem Gm {α:Type _} {xs:Array α} {i:Nat}:xs.toList[i]? = xs[i]?:=Array.getElem?_toList
theorem Gu {n m:Nat} (h:n.ble m=true):n<=m:=Nat.le_of_ble_eq_true h
theorem Gv {n m:Nat} (h:n.beq m=true):n=m:=Nat.eq_of_beq_eq_true h
theorem Hm {α:Type _} {l:List α} {i j:Nat} (h:i<j):(l.take j)[i]? = l[i]?:=List.getElem?_take_of_lt h
theorem Fq (a b:Bool):((a&&b)=true)=(a=true/\b=true):=Bool.and_eq_true a b
theorem Eh (a b c:Nat):(a+b)*c=a*c+b*c:=Nat.add_mul a b c
inductive AV where
 | val (v:Value)
 | loc (h off:Nat)
 | arr (h k off len:Nat)
 | el (h k i j:Nat)
 | mp (h:Nat)
 | ref (cs:List AV)
 | sl (sz:Nat) (xs:List AV)
 | agg (cs:List AV)
 | tup (cs:List AV)
 | fn (f:FuncId) (caps:List AV)
 | fb (s:ByteArray)
inductive Bu where
 | none
 | dead
 | cells (elem:TypeId) (cs:List AV)
 | rows (elem:TypeId) (sz:Nat) (xs:List AV)
 | map (es:List (AV×AV))
abbrev B6:=Nat->AV
abbrev Hp:=Nat->Bu
abbrev A5:=Nat->Option Obj
def Bg {α:Type} (e:Nat->α) (n:Nat) (v:α):Nat->α:=λm=>bif Nat.beq m n then v else e m
theorem Cy {α:Type} (e:Nat->α) (n:Nat) (v:α):Bg e n v n=v:=by simp[Bg]
theorem Di {α:Type} (e:Nat->α) {n m:Nat} (v:α) (h:m≠n):Bg e n v m=e m:=by
 have:Nat.beq m n=false:=by
  cases hb:Nat.beq m n
  .rfl
  .exact absurd (Gv hb) h
 simp[Bg,this]
theorem Ami {α:Type} (e:Nat->α) {n m:Nat} (u v:α) (h:m≠n):Bg (Bg e n u) m v=Bg (Bg e m v) n u:=by
 funext k;by_cases h1:k=n
 .subst h1;rw[Di _ _ (Ne.symm h),Cy,Cy]
 .by_cases h2:k=m
  .subst h2;rw[Cy,Di _ _ h1,Cy]
  .rw[Di _ _ h2,Di _ _ h1,Di _ _ h1,Di _ _ h2]
def AV.cells:AV->List AV
 | .agg cs=>cs
 | .val (.agg vs)=>vs.toList.map .val
 | x=>[x]
def E6:Value->Bool
 | .agg _ | .tuple _=>false
 | _=>true
def AV.one:AV->Bool
 | .agg _ | .tup _=>false
 | .val v=>E6 v
 | _=>true
inductive CC (σ:A5):AV->Value->Prop where
 | val (v:Value):CC σ (.val v) v
 | nil (sz:Nat) (a:Option Addr) (cap:Nat):CC σ (.sl sz []) (.slice a 0 cap)
 | sl (xs:List AV) (b off cap sz:Nat) (C:Array Value) (E:TypeId) (fr:Nat×Nat) (g:Nat->Nat->Value) (hσ:σ b=some (.cells C E fr))
   (hs:∀(i:Nat) (x:AV),xs[i]? = some x->x.cells.length=sz)
   (hc:∀(i:Nat) (x:AV) (j:Nat) (c:AV),xs[i]? = some x->x.cells[j]? = some c->CC σ c (g i j))
   (h1:∀(i:Nat) (x:AV) (j:Nat) (c:AV),xs[i]? = some x->x.cells[j]? = some c->E6 (g i j)=true)
   (hC:∀(i j:Nat),i<xs.length->j<sz->C[off+i*sz+j]? = some (g i j))
   (hl:xs.length<=140737488355328) (hcap:xs.length<=cap):CC σ (.sl sz xs) (.slice (some ⟨b,off,Option.none⟩) xs.length cap)
 | agg (cs:List AV) (vs:Array Value) (hl:vs.size=cs.length) (h:∀(i:Nat) (c:AV) (v:Value),cs[i]? = some c->vs[i]? = some v->CC σ c v):CC σ (.agg cs) (.agg vs)
 | fbn (s:ByteArray) (a:Option Addr) (cap:Nat) (h0:s.size=0):CC σ (.fb s) (.slice a 0 cap)
 | fb (s:ByteArray) (b cap:Nat) (C:Array Value) (hσ:σ b=some (.cells C 5 (0,s.size))) (h0:s.size≠0) (hcap:s.size<=cap) (hC:s.size<=C.size) (hl:s.size<=140737488355328)
   (hb:∀(j:Nat) (x:UInt8),s.data[j]? = some x->C[j]? = some (Value.int .u8 x.toNat)):CC σ (.fb s) (.slice (some ⟨b,0,Option.none⟩) s.size cap)
inductive Loc where
 | none
 | box (b:Nat)
 | nil
 | blk (b tot:Nat)
abbrev B9:=Nat->Loc
def Loc.block?:Loc->Option Nat
 | .box b=>some b
 | .blk b _=>some b
 | _=>Option.none
def G4 (l:Loc) (sz off len:Nat) (v:Value):Prop := match l with
 | .nil=>v = .slice Option.none 0 0/\off=0/\len=0
 | .blk b c=>off+len<=c/\v = .slice (some ⟨b,off*sz,Option.none⟩) len (c-off)
 | _=>False
def Amj (l:Loc) (sz i j:Nat) (v:Value):Prop := match l with
 | .blk b _=>v = .pointer (some ⟨b,i*sz+j,Option.none⟩)
 | _=>False
inductive Conc (σ:A5) (ι:B9) (H:Hp):AV->Value->Prop where
 | cc {a:AV} {v:Value} (h:CC σ a v):Conc σ ι H a v
 | loc (h off b:Nat) (hb:ι h = .box b):Conc σ ι H (.loc h off) (.pointer (some ⟨b,off,Option.none⟩))
 | mp (h b:Nat) (hb:ι h = .box b):Conc σ ι H (.mp h) (.map (some b))
 | arr (h k off len:Nat) (v:Value) (hn:H h≠.none) (hv:∀E sz xs,H h = .rows E sz xs->k<=xs.length/\(xs.length=k->G4 (ι h) sz off len v))
   (hone:E6 v=true):Conc σ ι H (.arr h k off len) v
 | el (h k i j:Nat) (v:Value) (hn:H h≠.none) (hv:∀E sz xs,H h = .rows E sz xs->k<=xs.length/\(xs.length=k->Amj (ι h) sz i j v))
   (hone:E6 v=true):Conc σ ι H (.el h k i j) v
 | ref (cs:List AV) (b off:Nat) (C:Array Value) (E:TypeId) (fr:Nat×Nat) (g:Nat->Value) (hσ:σ b=some (.cells C E fr))
   (hc:∀(j:Nat) (c:AV),cs[j]? = some c->CC σ c (g j)) (h1:∀(j:Nat) (c:AV),cs[j]? = some c->E6 (g j)=true)
   (hC:∀(j:Nat),j<cs.length->C[off+j]? = some (g j)):Conc σ ι H (.ref cs) (.pointer (some ⟨b,off,Option.none⟩))
 | agg (cs:List AV) (vs:Array Value) (hl:vs.size=cs.length) (h:∀(i:Nat) (c:AV) (v:Value),cs[i]? = some c->vs[i]? = some v->Conc σ ι H c v):Conc σ ι H (.agg cs) (.agg vs)
 | tup (cs:List AV) (vs:Array Value) (hl:vs.size=cs.length) (h:∀(i:Nat) (c:AV) (v:Value),cs[i]? = some c->vs[i]? = some v->Conc σ ι H c v):Conc σ ι H (.tup cs) (.tuple vs)
 | fn (f:FuncId) (caps:List AV) (vs:Array Value) (hl:vs.size=caps.length) (h:∀(i:Nat) (c:AV) (v:Value),caps[i]? = some c->vs[i]? = some v->Conc σ ι H c v) :
   Conc σ ι H (.fn f caps) (.func (.func f) #[] vs)
def A5.le (σ c:A5):Prop:=∀b o,σ b=some o->c b=some o
theorem A5.le_refl (σ:A5):σ.le σ:=λ_ _ h=>h
theorem A5.le_trans {σ f c:A5} (h:A5.le σ f) (h':A5.le f c):A5.le σ c:=λb o e=>h' b o (h b o e)
structure HLe (l:Loc) (o:Bu) (l':Loc) (o':Bu):Prop where
 box:∀b,l = .box b->l' = .box b
 some:o≠.none->o'≠.none
 rows:o≠.none->∀E' sz' xs',o' = .rows E' sz' xs'->∃E sz xs,o = .rows E sz xs/\(xs.length<xs'.length\/(xs.length=xs'.length/\sz=sz'/\l=l'))
theorem HLe.refl (l:Loc) (o:Bu):HLe l o l o := ⟨λ_ h=>h,λh=>h,λ_ E sz xs h=>⟨E,sz,xs,h,.inr ⟨rfl,rfl,rfl⟩⟩⟩
theorem HLe.trans {l y i:Loc} {o o' g:Bu} (h:HLe l o y o') (h':HLe y o' i g):HLe l o i g:=by
 refine⟨λb e=>h'.box b (h.box b e),λe=>h'.some (h.some e),λe u f c s=>?_⟩;obtain⟨G,k,j,e',x⟩:=h'.rows (h.some e) u f c s;obtain⟨E,sz,xs,D,r⟩:=h.rows e G k j e';refine⟨E,sz,xs,D,?_⟩;rcases r with r|⟨J,I,z⟩ <;> rcases x with x|⟨B,A,q⟩
 .left;omega
 .left;omega
 .left;omega
 .exact .inr ⟨ω,ω,z.trans q⟩
structure Le (σ:A5) (ι:B9) (H:Hp) (σ':A5) (ι':B9) (H':Hp):Prop where
 sto:σ.le σ'
 obj:∀h,HLe (ι h) (H h) (ι' h) (H' h)
theorem Le.refl (σ:A5) (ι:B9) (H:Hp):Le σ ι H σ ι H:=⟨A5.le_refl σ,λ_=>HLe.refl _ _⟩
theorem Le.trans {σ g b:A5} {ι i c:B9} {H H' f:Hp} (h:Le σ ι H g i H') (h':Le g i H' b c f):Le σ ι H b c f := ⟨A5.le_trans h.sto h'.sto,λx=>(h.obj x).trans (h'.obj x)⟩
theorem CC.mono {σ l:A5} (q:σ.le l) {a:AV} {v:Value} (h:CC σ a v):CC l a v:=by induction h with| val v=>exact .val v| nil sz a cap=>exact .nil sz a cap| sl xs b off cap sz C E fr g i j _ h1 k f c ih=>exact .sl xs b off cap sz C E fr g (q _ _ i) j ih h1 k f c| agg cs vs f _ ih=>exact .agg cs vs f ih| fbn s a cap h0=>exact .fbn s a cap h0| fb s b cap C i h0 c k f hb=>exact .fb s b cap C (q _ _ i) h0 c k f hb
theorem Conc.mono {σ J:A5} {ι L:B9} {H H':Hp} (q:Le σ ι H J L H') {a:AV} {v:Value} (h:Conc σ ι H a v):Conc J L H' a v:=by
 induction h with
 | cc h=>exact .cc (h.mono q.sto)
 | loc h off b hb=>exact .loc h off b ((q.obj h).box b hb)
 | mp h b hb=>exact .mp h b ((q.obj h).box b hb)
 | arr h k off len v y hv l=>
  refine .arr h k off len v ((q.obj h).some y) (λI u s e=>?_) l;obtain⟨E,sz,xs,G,r⟩:=(q.obj h).rows y I u s e;obtain⟨hk,hv⟩:=hv E sz xs G;rcases r with r|⟨M,D,B⟩
  .exact⟨ω,λx=>ω⟩
  .rw[<-D,<-B];exact⟨ω,λx=>hv ω⟩
 | el h k i j v y hv l=>
  refine .el h k i j v ((q.obj h).some y) (λI u s e=>?_) l;obtain⟨E,sz,xs,G,r⟩:=(q.obj h).rows y I u s e;obtain⟨hk,hv⟩:=hv E sz xs G;rcases r with r|⟨M,D,B⟩
  .exact⟨ω,λx=>ω⟩
  .rw[<-D,<-B];exact⟨ω,λx=>hv ω⟩
 | ref cs b off C E fr g N hc h1 R=>exact .ref cs b off C E fr g (q.sto _ _ N) (λj c h=>(hc j c h).mono q.sto) h1 R
 | agg cs vs z _ ih=>exact .agg cs vs z ih
 | tup cs vs z _ ih=>exact .tup cs vs z ih
 | fn f A vs z _ ih=>exact .fn f A vs z ih
end Go.Ab
namespace Go.Ab
def Il (σ:A5) (sz:Nat) (xs:List AV) (C:Array Value):Prop := ∃g:Nat->Nat->Value,(∀(i:Nat) (x:AV),xs[i]? = some x->x.cells.length=sz) /\ (∀(i:Nat) (x:AV) (j:Nat) (c:AV),xs[i]? = some x->x.cells[j]? = some c->CC σ c (g i j)/\E6 (g i j)=true) /\ (∀(i j:Nat),i<xs.length->j<sz->C[i*sz+j]? = some (g i j))
def Sp (σ:A5) (es:List (AV×AV)) (M:Array MapEntry):Prop := M.size=es.length/\∀(i:Nat) (p:AV×AV) (e:MapEntry),es[i]? = some p->M[i]? = some e->CC σ p.1 e.key/\CC σ p.2 e.val
theorem Sp.mono {σ b:A5} (c:σ.le b) {es:List (AV×AV)} {M:Array MapEntry} (h:Sp σ es M):Sp b es M := ⟨h.1,λi p e h1 h2=>⟨(h.2 i p e h1 h2).1.mono c,(h.2 i p e h1 h2).2.mono c⟩⟩
def C1 (σ:A5) (ι:B9) (H:Hp) (F:A5) (w:World) (h:Nat):Prop := match H h with
 | .none=>ι h = .none
 | .dead=>True
 | .cells E cs=>∃(b:Nat) (C:Array Value),ι h = .box b/\σ b=none/\F b=none/\w.heap[b]? = some (.cells C E (0,0))/\C.size=cs.length /\ ∀(i:Nat) (c:AV) (v:Value),cs[i]? = some c->C[i]? = some v->Conc σ ι H c v
 | .rows E sz xs=>0<sz/\xs.length<=140737488355328/\((ι h = .nil/\xs = [])\/∃(b f:Nat) (C:Array Value),ι h = .blk b f/\σ b=none/\F b=none /\ w.heap[b]? = some (.cells C E (0,0))/\C.size=f*sz/\xs.length<=f/\Il σ sz xs C)
 | .map es=>∃(b:Nat) (M:Array MapEntry) (t:Nat),ι h = .box b/\σ b=none/\F b=none/\w.heap[b]? = some (.map M t)/\Sp σ es M
def Bu.live:Bu->Bool
 | .none | .dead=>false
 | _=>true
def U3 (σ:A5):Prop:=∃(E:TypeId) (fr:Nat×Nat),σ 0=some (.cells (Lib.pow10Tab.map λz=>Value.int .u64 z).toArray E fr)
theorem U3.mono {σ b:A5} (h:σ.le b) (g:U3 σ):U3 b:=by obtain⟨E,fr,e⟩:=g;exact⟨E,fr,h _ _ e⟩
structure St (σ:A5) (ι:B9) (H:Hp) (F:A5) (W w:World):Prop where
 sto:∀b o,σ b=some o->w.heap[b]? = some o
 fra:∀b o,F b=some o->w.heap[b]? = some o/\σ b=none
 obj:∀h,C1 σ ι H F w h
 inj:∀h h' b,(H h).live=true->(H h').live=true->(ι h).block? = some b->(ι h').block? = some b->h=h'
 os:w.os=W.os
 tape:w.tape=W.tape
 output:w.output=W.output
 glo:U3 σ
 drw:W.drawn<=w.drawn
theorem Il.mono {σ b:A5} (f:σ.le b) {sz:Nat} {xs:List AV} {C:Array Value} (h:Il σ sz xs C):Il b sz xs C:=by obtain⟨g,h1,h2,h3⟩:=h;exact⟨g,h1,λi x j c hx hc=>⟨((h2 i x j c hx hc).1).mono f,(h2 i x j c hx hc).2⟩,h3⟩
theorem St.block {σ:A5} {ι:B9} {H:Hp} {F:A5} {W w:World} (s:St σ ι H F W w) {h b:Nat} (f:(H h).live=true) (hb:(ι h).block? = some b) : b<w.heap.size/\σ b=none/\F b=none:=by
 have c:=s.obj h;unfold C1 at c;cases hh:H h with
 | none=>rw[hh]at f;cases f
 | dead=>rw[hh]at f;cases f
 | cells E cs=>rw[hh]at c;obtain⟨g,C,e,h1,h2,h3,_⟩:=c;rw[e]at hb;simp[Loc.block?]at hb;subst hb;refine⟨?_,h1,h2⟩;exact (Array.getElem?_eq_some_iff.1 h3).1
 | rows E sz xs=>
  rw[hh]at c;obtain⟨_,_,⟨e,_⟩|⟨g,i,C,e,h1,h2,h3,_⟩⟩:=c
  .rw[e]at hb;simp[Loc.block?]at hb
  .rw[e]at hb;simp[Loc.block?]at hb;subst hb;exact⟨(Array.getElem?_eq_some_iff.1 h3).1,h1,h2⟩
 | map es=>rw[hh]at c;obtain⟨g,M,t,e,h1,h2,h3,_⟩:=c;rw[e]at hb;simp[Loc.block?]at hb;subst hb;exact⟨(Array.getElem?_eq_some_iff.1 h3).1,h1,h2⟩
theorem St.touch {σ I:A5} {ι J:B9} {H H':Hp} {F:A5} {W w w':World} (s:St σ ι H F W w) (h t:Nat) (X:∀x,x≠h->J x=ι x) (Y:∀x,x≠h->H' x=H x) (le:Le σ ι H I J H') (f:∀b,b≠t->w'.heap[b]? = w.heap[b]?) (N:∀b,b≠t->I b=σ b) (a1:∀o,I t=some o->w'.heap[t]? = some o) (j:∀x,x≠h->(H x).live=true->(ι x).block?≠some t) (hF:F t=none) (A:∀b,(H' h).live=true->(J h).block? = some b->b=t\/((H h).live=true/\(ι h).block? = some b)) (S:C1 I J H' F w' h) (a6:w'.os=w.os) (D:w'.tape=w.tape) (R:w'.output=w.output) (hdrw:w.drawn<=w'.drawn:=by exact Nat.le_refl _):St I J H' F W w':=by
 refine⟨?_,?_,?_,?_,a6.trans s.os,D.trans s.tape,R.trans s.output,s.glo.mono le.sto,Nat.le_trans s.drw hdrw⟩
 .intro b o hb;by_cases e:b=t
  .subst e;exact a1 o hb
  .rw[f b e];exact s.sto b o (by rw[<-N b e];exact hb)
 .intro b o hb;have e:b≠t:=(by intro e;subst e;rw[hF]at hb;cases hb);rw[f b e,N b e];exact s.fra b o hb
 .intro x;by_cases e:x=h
  .subst e;exact S
  .have z:=s.obj x;unfold C1 at z ⊢;rw[Y x e,X x e];cases hx:H x with
   | none=>rw[hx]at z;exact z
   | dead=>trivial
   | cells E cs=>rw[hx]at z;obtain⟨b,C,u,h1,h2,h3,U,h5⟩:=z;have g:b≠t:=(by intro l;subst l;exact j x e (by rw[hx];rfl) (by rw[u];rfl));exact⟨b,C,u,by rw[N b g];exact h1,h2,by rw[f b g];exact h3,U,λi c v hc hv=>(h5 i c v hc hv).mono le⟩
   | rows E sz xs=>
    rw[hx]at z;obtain⟨z1,z2,⟨u,e2⟩|⟨b,Z,C,u,h1,h2,h3,U,h5,h6⟩⟩:=z
    .exact⟨z1,z2,.inl ⟨u,e2⟩⟩
    .have g:b≠t:=(by intro l;subst l;exact j x e (by rw[hx];rfl) (by rw[u];rfl));exact⟨z1,z2,.inr ⟨b,Z,C,u,by rw[N b g];exact h1,h2,by rw[f b g];exact h3,U,h5,h6.mono le.sto⟩⟩
   | map es=>rw[hx]at z;obtain⟨b,M,q,u,h1,h2,h3,U⟩:=z;have g:b≠t:=(by intro l;subst l;exact j x e (by rw[hx];rfl) (by rw[u];rfl));exact⟨b,M,q,u,by rw[N b g];exact h1,h2,by rw[f b g];exact h3,U.mono le.sto⟩
 .intro x y b L G V k;by_cases ex:x=h
  .subst ex;by_cases B:y=x
   .exact B.symm
   .rw[Y y B]at G;rw[X y B]at k;rcases A b L V with e|⟨l0,b0⟩
    .subst e;exact (j y B G k).elim
    .exact s.inj x y b l0 G b0 k
  .rw[Y x ex]at L;rw[X x ex]at V;by_cases B:y=h
   .subst B;rcases A b G k with e|⟨l0,b0⟩
    .subst e;exact (j x ex L V).elim
    .exact s.inj x y b L l0 V b0
   .rw[Y y B]at G;rw[X y B]at k;exact s.inj x y b L G V k
theorem HLe.of_none {b:Loc} {o':Bu}:HLe .none .none b o':=⟨nofun,(λh=>(h rfl).elim),(λh=>(h rfl).elim)⟩
theorem Le.upd {σ:A5} {ι:B9} {H:Hp} {b:A5} (c:σ.le b) (h:Nat) (l:Loc) (o:Bu) (hh:HLe (ι h) (H h) l o):Le σ ι H b (Bg ι h l) (Bg H h o):=by
 refine⟨c,λx=>?_⟩;by_cases e:x=h
 .subst e;rw[Cy,Cy];exact hh
 .rw[Di _ _ e,Di _ _ e];exact HLe.refl _ _
theorem I9 {α:Type} (e:Nat->α) (n:Nat):Bg e n (e n)=e:=by
 funext m;by_cases h:m=n
 .subst h;rw[Cy]
 .rw[Di _ _ h]
theorem St.newBox {σ:A5} {ι:B9} {H:Hp} {F:A5} {W w:World} (s:St σ ι H F W w) (h:Nat) (u:H h = .none) (E:TypeId) (cs:List AV) (C:Array Value) (l:C.size=cs.length) (hc:∀(i:Nat) (c:AV) (v:Value),cs[i]? = some c->C[i]? = some v->Conc σ ι H c v) : St σ (Bg ι h (.box w.heap.size)) (Bg H h (.cells E cs)) F W (w.alloc (.cells C E))/\Le σ ι H σ (Bg ι h (.box w.heap.size)) (Bg H h (.cells E cs)):=by
 have k:ι h = .none:=by have:=s.obj h;unfold C1 at this;rw[u]at this;exact this
 have le:Le σ ι H σ (Bg ι h (.box w.heap.size)) (Bg H h (.cells E cs)):=Le.upd (A5.le_refl σ) h _ _ (by rw[k,u];exact HLe.of_none);have f:∀(S:A5),(∀b o,S b=some o->w.heap[b]? = some o)->S w.heap.size=none:=by intro S y;cases e:S w.heap.size with| none=>rfl| some o=>have:=y _ _ e;simp at this
 have g:=f σ s.sto;have j:=f F (λb o hb=>(s.fra b o hb).1);refine⟨s.touch h w.heap.size (λx e=>Di _ _ e) (λx e=>Di _ _ e) le ?_ (λ_ _=>rfl) (λo q=>by rw[g]at q;cases q) ?_ j ?_ ?_ rfl rfl rfl,le⟩
 .intro b hb;show (w.heap.push _)[b]? = _;rw[Array.getElem?_push,if_neg hb]
 .intro x e l hb;have:=(s.block l hb).1;omega
 .intro b _ hb;rw[Cy]at hb;simp[Loc.block?]at hb;exact .inl hb.symm
 .unfold C1;rw[Cy];refine⟨w.heap.size,C,Cy _ _ _,g,j,?_,l,λi c v h1 h2=>(hc i c v h1 h2).mono le⟩;show (w.heap.push _)[w.heap.size]? = _;simp
theorem St.newFrozen {σ:A5} {ι:B9} {H:Hp} {F:A5} {W w:World} (s:St σ ι H F W w) (o:Obj) : St (Bg σ w.heap.size (some o)) ι H F W (w.alloc o)/\Le σ ι H (Bg σ w.heap.size (some o)) ι H:=by
 have k:∀(S:A5),(∀b o,S b=some o->w.heap[b]? = some o)->S w.heap.size=none:=by intro S G;cases e:S w.heap.size with| none=>rfl| some o=>have:=G _ _ e;simp at this
 have z:=k σ s.sto;have A:=k F (λb o hb=>(s.fra b o hb).1);have j:σ.le (Bg σ w.heap.size (some o)):=by intro b o' hb;rw[Di _ _ (by intro e;subst e;rw[z]at hb;cases hb)];exact hb
 have le:Le σ ι H (Bg σ w.heap.size (some o)) ι H:=⟨j,λ_=>HLe.refl _ _⟩;have f:∀b,b≠w.heap.size->(w.alloc o).heap[b]? = w.heap[b]?:=by intro b hb;show (w.heap.push _)[b]? = _;rw[Array.getElem?_push,if_neg hb]
 refine⟨⟨?_,?_,?_,s.inj,s.os,s.tape,s.output,s.glo.mono j,s.drw⟩,le⟩
 .intro b o' hb;by_cases e:b=w.heap.size
  .subst e;rw[Cy]at hb;cases hb;show (w.heap.push _)[w.heap.size]? = _;simp
  .rw[Di _ _ e]at hb;rw[f b e];exact s.sto b o' hb
 .intro b o' hb;have e:b≠w.heap.size:=(by intro e;subst e;rw[A]at hb;cases hb);rw[f b e,Di _ _ e];exact s.fra b o' hb
 .intro x;have h:=s.obj x;unfold C1 at h ⊢;cases hx:H x with
  | none=>rw[hx]at h;exact h
  | dead=>trivial
  | cells E cs=>rw[hx]at h;obtain⟨b,C,l,h1,h2,h3,u,B⟩:=h;have g:b≠w.heap.size:=(by have:=(Array.getElem?_eq_some_iff.1 h3).1;omega);exact⟨b,C,l,by rw[Di _ _ g];exact h1,h2,by rw[f b g];exact h3,u,λi c v hc hv=>(B i c v hc hv).mono le⟩
  | rows E sz xs=>
   rw[hx]at h;obtain⟨D,z2,⟨l,J⟩|⟨b,y,C,l,h1,h2,h3,u,B,I⟩⟩:=h
   .exact⟨D,z2,.inl ⟨l,J⟩⟩
   .have g:b≠w.heap.size:=(by have:=(Array.getElem?_eq_some_iff.1 h3).1;omega);exact⟨D,z2,.inr ⟨b,y,C,l,by rw[Di _ _ g];exact h1,h2,by rw[f b g];exact h3,u,B,I.mono j⟩⟩
  | map es=>rw[hx]at h;obtain⟨b,M,q,l,h1,h2,h3,u⟩:=h;have g:b≠w.heap.size:=(by have:=(Array.getElem?_eq_some_iff.1 h3).1;omega);exact⟨b,M,q,l,by rw[Di _ _ g];exact h1,h2,by rw[f b g];exact h3,u.mono j⟩
theorem St.drew {σ:A5} {ι:B9} {H:Hp} {F:A5} {W w:World} (s:St σ ι H F W w) (n:Nat) (b:w.drawn<=n:=by first|exact Nat.le_succ _|exact Nat.le_refl _|omega):St σ ι H F W {w with drawn:=n}:=by refine⟨s.sto,s.fra,λh=>?_,s.inj,s.os,s.tape,s.output,s.glo,Nat.le_trans s.drw b⟩;have:=s.obj h;unfold C1 at this ⊢;exact this
theorem Agw (w:World) (g b:Nat) (C:Array Value) (h:b≠g):(w.setRow g C).heap[b]? = w.heap[b]?:=by simp only[World.setRow,Array.getElem?_modify];rw[if_neg ω]
theorem St.setBox {σ:A5} {ι:B9} {H:Hp} {F:A5} {W w:World} (s:St σ ι H F W w) (h:Nat) (E:TypeId) (cs f:List AV) (hh:H h = .cells E cs) (b:Nat) (hb:ι h = .box b) (g:Array Value) (k:g.size=f.length) (hc:∀(i:Nat) (c:AV) (v:Value),f[i]? = some c->g[i]? = some v->Conc σ ι H c v) : St σ ι (Bg H h (.cells E f)) F W (w.setRow b g)/\Le σ ι H σ ι (Bg H h (.cells E f)):=by
 have j:=s.obj h;unfold C1 at j;rw[hh]at j;obtain⟨D,C,u,h1,h2,h3,A,z⟩:=j;rw[hb]at u;cases u;have le:Le σ ι H σ ι (Bg H h (.cells E f)):=by have:=Le.upd (ι:=ι) (H:=H) (A5.le_refl σ) h (ι h) (.cells E f) (by rw[hh];exact⟨λ_ e=>e,(λ_ e=>by cases e),(λ_ _ _ _ e=>by cases e)⟩);rwa [I9]at this
 refine⟨s.touch h b (λ_ _=>rfl) (λx e=>Di _ _ e) le (λx e=>Agw w b x g e) (λ_ _=>rfl) (λo e=>by rw[h1]at e;cases e) ?_ h2 ?_ ?_ rfl rfl rfl,le⟩
 .intro x e k l;exact e (s.inj x h b k (by rw[hh];rfl) l (by rw[hb];rfl))
 .intro B _ q;exact .inr ⟨by rw[hh];rfl,q⟩
 .unfold C1;rw[Cy];exact⟨b,g,hb,h1,h2,setRow_heap w b C g E (0,0) h3,k,λi c v x y=>(hc i c v x y).mono le⟩
theorem St.setRows {σ:A5} {ι:B9} {H:Hp} {F:A5} {W w:World} (s:St σ ι H F W w) (h:Nat) (E:TypeId) (sz:Nat) (xs c:List AV) (hh:H h = .rows E sz xs) (b f:Nat) (hb:ι h = .blk b f) (k:c.length=xs.length) (g:Array Value) (D:g.size=f*sz) (B:Il σ sz c g) : St σ ι (Bg H h (.rows E sz c)) F W (w.setRow b g)/\Le σ ι H σ ι (Bg H h (.rows E sz c)):=by
 have j:=s.obj h;unfold C1 at j;rw[hh]at j;obtain⟨y,z2,⟨i,L⟩|⟨N,u,C,i,h1,h2,h3,J,I,G⟩⟩:=j
 .rw[hb]at i;cases i
 rw[hb]at i;cases i;have le:Le σ ι H σ ι (Bg H h (.rows E sz c)):=by have:=Le.upd (ι:=ι) (H:=H) (A5.le_refl σ) h (ι h) (.rows E sz c) (by rw[hh];exact⟨λ_ e=>e,(λ_ e=>by cases e),λ_ R A z e=>by cases e;exact⟨E,sz,xs,rfl,.inr ⟨k.symm,rfl,rfl⟩⟩⟩);rwa [I9]at this
 refine⟨s.touch h b (λ_ _=>rfl) (λx e=>Di _ _ e) le (λx e=>Agw w b x g e) (λ_ _=>rfl) (λo e=>by rw[h1]at e;cases e) ?_ h2 ?_ ?_ rfl rfl rfl,le⟩
 .intro x e k l;exact e (s.inj x h b k (by rw[hh];rfl) l (by rw[hb];rfl))
 .intro M _ q;exact .inr ⟨by rw[hh];rfl,q⟩
 .unfold C1;rw[Cy];exact⟨y,ω,.inr ⟨b,f,g,hb,h1,h2,setRow_heap w b C g E (0,0) h3,D,ω,B⟩⟩
theorem St.growIn {σ:A5} {ι:B9} {H:Hp} {F:A5} {W w:World} (s:St σ ι H F W w) (h:Nat) (E:TypeId) (sz:Nat) (xs c:List AV) (hh:H h = .rows E sz xs) (b f:Nat) (hb:ι h = .blk b f) (k:xs.length<c.length) (hm:c.length<=140737488355328) (ht:c.length<=f) (g:Array Value) (D:g.size=f*sz) (B:Il σ sz c g) : St σ ι (Bg H h (.rows E sz c)) F W (w.setRow b g)/\Le σ ι H σ ι (Bg H h (.rows E sz c)):=by
 have j:=s.obj h;unfold C1 at j;rw[hh]at j;obtain⟨y,z2,⟨i,L⟩|⟨N,u,C,i,h1,h2,h3,J,I,G⟩⟩:=j
 .rw[hb]at i;cases i
 rw[hb]at i;cases i;have le:Le σ ι H σ ι (Bg H h (.rows E sz c)):=by have:=Le.upd (ι:=ι) (H:=H) (A5.le_refl σ) h (ι h) (.rows E sz c) (by rw[hh];exact⟨λ_ e=>e,(λ_ e=>by cases e),λ_ R A z e=>by cases e;exact⟨E,sz,xs,rfl,.inl k⟩⟩);rwa [I9]at this
 refine⟨s.touch h b (λ_ _=>rfl) (λx e=>Di _ _ e) le (λx e=>Agw w b x g e) (λ_ _=>rfl) (λo e=>by rw[h1]at e;cases e) ?_ h2 ?_ ?_ rfl rfl rfl,le⟩
 .intro x e k l;exact e (s.inj x h b k (by rw[hh];rfl) l (by rw[hb];rfl))
 .intro M _ q;exact .inr ⟨by rw[hh];rfl,q⟩
 .unfold C1;rw[Cy];exact⟨y,hm,.inr ⟨b,f,g,hb,h1,h2,setRow_heap w b C g E (0,0) h3,D,ht,B⟩⟩
theorem St.fresh {σ:A5} {ι:B9} {H:Hp} {F:A5} {W w:World} (s:St σ ι H F W w):σ w.heap.size=none/\F w.heap.size=none:=by
 have c:∀(S:A5),(∀b o,S b=some o->w.heap[b]? = some o)->S w.heap.size=none:=by intro S f;cases e:S w.heap.size with| none=>rfl| some o=>have:=f _ _ e;simp at this
 exact⟨c σ s.sto,c F (λb o hb=>(s.fra b o hb).1)⟩
theorem St.newRows {σ:A5} {ι:B9} {H:Hp} {F:A5} {W w:World} (s:St σ ι H F W w) (h:Nat) (E:TypeId) (sz:Nat) (xs:List AV) (c:Nat) (C:Array Value) (hh:H h = .none\/∃y g f,H h = .rows y g f/\f.length<xs.length) (G:0<sz) (hm:xs.length<=140737488355328) (ht:xs.length<=c) (L:C.size=c*sz) (I:Il σ sz xs C) : St σ (Bg ι h (.blk w.heap.size c)) (Bg H h (.rows E sz xs)) F W (w.alloc (.cells C E))/\Le σ ι H σ (Bg ι h (.blk w.heap.size c)) (Bg H h (.rows E sz xs)):=by
 obtain⟨i,k⟩:=s.fresh;have le:Le σ ι H σ (Bg ι h (.blk w.heap.size c)) (Bg H h (.rows E sz xs)):=by
  refine Le.upd (A5.le_refl σ) h _ _ ?_;rcases hh with j|⟨y,g,f,j,q⟩
  .have l:ι h = .none:=(by have:=s.obj h;unfold C1 at this;rw[j]at this;exact this);rw[l,j];exact HLe.of_none
  .rw[j];refine⟨λb e=>?_,(λ_ e=>by cases e),λ_ N D B e=>by cases e;exact⟨y,g,f,rfl,.inl q⟩⟩;have:=s.obj h;unfold C1 at this;rw[j]at this;obtain⟨_,_,⟨u,_⟩|⟨M,z,C,u,_⟩⟩:=this <;> rw[e]at u <;> cases u
 refine⟨s.touch h w.heap.size (λx e=>Di _ _ e) (λx e=>Di _ _ e) le ?_ (λ_ _=>rfl) (λo A=>by rw[i]at A;cases A) ?_ k ?_ ?_ rfl rfl rfl,le⟩
 .intro b hb;show (w.heap.push _)[b]? = _;rw[Array.getElem?_push,if_neg hb]
 .intro x e J hb;have:=(s.block J hb).1;omega
 .intro b _ hb;rw[Cy]at hb;simp[Loc.block?]at hb;exact .inl hb.symm
 .unfold C1;rw[Cy];refine⟨G,hm,.inr ⟨w.heap.size,c,C,Cy _ _ _,i,k,?_,L,ht,I⟩⟩;show (w.heap.push _)[w.heap.size]? = _;simp
theorem St.newNil {σ:A5} {ι:B9} {H:Hp} {F:A5} {W w:World} (s:St σ ι H F W w) (h:Nat) (j:H h = .none) (E:TypeId) (sz:Nat) (k:0<sz) : St σ (Bg ι h .nil) (Bg H h (.rows E sz [])) F W w/\Le σ ι H σ (Bg ι h .nil) (Bg H h (.rows E sz [])):=by
 obtain⟨c,g⟩:=s.fresh;have f:ι h = .none:=by have:=s.obj h;unfold C1 at this;rw[j]at this;exact this
 have le:Le σ ι H σ (Bg ι h .nil) (Bg H h (.rows E sz [])):=Le.upd (A5.le_refl σ) h _ _ (by rw[f,j];exact HLe.of_none);refine⟨s.touch h w.heap.size (λx e=>Di _ _ e) (λx e=>Di _ _ e) le (λ_ _=>rfl) (λ_ _=>rfl) (λo i=>by rw[c]at i;cases i) ?_ g ?_ ?_ rfl rfl rfl,le⟩
 .intro x e l hb;have:=(s.block l hb).1;omega
 .intro b _ hb;rw[Cy]at hb;simp[Loc.block?]at hb
 .unfold C1;rw[Cy];exact⟨k,ψ,.inl ⟨Cy _ _ _,rfl⟩⟩
end Go.Ab
namespace Go.Ab
inductive TD where
 | int (k:IntKind)
 | bool
 | string
 | slice (e:TypeId)
 | struct (fs:List (Nat×Nat))
 | map (k e:TypeId)
 | float (k:FloatKind)
 | other
structure TI where
 d:TD
 size:Nat
 bytes:Nat
 zero:List Value
def TI.isAgg (i:TI):Bool := match i.d with
 | .struct _=>true
 | _=>false
def zok (u:TypeDesc) (z:Value):Bool := match u with
 | .struct _=>(match z with|.agg _=>true|_=>false)
 | _=>E6 z
def Im (P:Program) (t:TypeId):Option TI := match P.info? t,P.underlying t with
 | some b,some u=> match b.zero with
  | none=>none
  | some z=> bif !(zok u z) then none else match u with
   | .int k=>some ⟨.int k,b.size,b.bytes,z.cells.toList⟩
   | .bool=>some ⟨.bool,b.size,b.bytes,z.cells.toList⟩
   | .string=>some ⟨.string,b.size,b.bytes,z.cells.toList⟩
   | .slice e=>some ⟨.slice e,b.size,b.bytes,z.cells.toList⟩
   | .map k e=>some ⟨.map k e,b.size,b.bytes,z.cells.toList⟩
   | .float k=>some ⟨.float k,b.size,b.bytes,z.cells.toList⟩
   | .struct fields=> if (fields.toList.all λf=>decide (0<P.cellsOf f.type)) then some ⟨.struct (fields.toList.map λf=>(f.offset,P.cellsOf f.type)),b.size,b.bytes,z.cells.toList⟩ else none
   | .array _ _=>none
   | _=>some ⟨.other,b.size,b.bytes,z.cells.toList⟩
 | _,_=>none
abbrev C6:=Nat->Option TI
def C7 (P:Program) (T:C6):Prop:=∀t i,T t=some i->Im P t=some i
structure Eff where
 r:AV
 rd:List (Nat×Bu)
 wr:List (Nat×Bu)
def C2 (H:Hp):List (Nat×Bu)->Hp
 | []=>H
 | p::l=>C2 (Bg H p.1 p.2) l
def Nh (cs:List AV) (off:Nat) (new:List AV):List AV:=cs.take off++(new++cs.drop (off+new.length))
def U4 (fs:List (Nat×Nat)):List AV->List (Nat×AV)->Option (List AV)
 | cs,[]=>some cs
 | cs,p::rest=> match fs[p.1]? with
  | none=>none
  | some q=>bif Nat.beq p.2.cells.length q.2&&Nat.ble (q.1+q.2) cs.length then U4 fs (Nh cs q.1 p.2.cells) rest else none
def AV.cl1:AV->Bool
 | .val v=>E6 v
 | .sl _ _=>true
 | _=>false
def Lw (sz:Nat) (x:AV):Bool:=Nat.beq x.cells.length sz&&x.cells.all AV.cl1
def AV.isPtr:AV->Bool
 | .loc .. | .ref _ | .fn ..=>true
 | _=>false
def AV.free1:AV->Bool
 | .agg cs=>cs.all AV.cl1
 | x=>x.cl1
def AV.free:AV->Bool
 | .val _ | .sl _ _ | .ref _=>true
 | .agg cs=>cs.all AV.cl1
 | .tup cs=>cs.all AV.free1
 | .fn _ cs=>cs.all AV.cl1
 | _=>false
def Agx (op:BinOp) (a b:Int):Option Bool := match op with
 | .eql=>some (a==b)
 | .neq=>some (a != b)
 | .lss=>some (decide (a<b))
 | .leq=>some (decide (a<=b))
 | .gtr=>some (decide (a>b))
 | .geq=>some (decide (a>=b))
 | _=>none
section conc
variable {σ:A5} {ι:B9} {H:Hp}
theorem Conc.val_inv {u v:Value} (h:Conc σ ι H (.val u) v):v=u:=by cases h with| cc h=>cases h;rfl
theorem Conc.of_val (v:Value):Conc σ ι H (.val v) v:=.cc (.val v)
theorem Conc.sl_inv {sz:Nat} {xs:List AV} {v:Value} (h:Conc σ ι H (.sl sz xs) v):CC σ (.sl sz xs) v:=by cases h with| cc h=>exact h
theorem Conc.agg_inv {cs:List AV} {v:Value} (h:Conc σ ι H (.agg cs) v) : ∃vs:Array Value,v = .agg vs/\vs.size=cs.length/\∀(i:Nat) (c:AV) (u:Value),cs[i]? = some c->vs[i]? = some u->Conc σ ι H c u:=by
 cases h with
 | cc h=>cases h with
  | agg cs vs b h=>exact⟨vs,rfl,b,λi c u h1 h2=>.cc (h i c u h1 h2)⟩
 | agg cs vs b h=>exact⟨vs,rfl,b,h⟩
theorem Conc.tup_inv {cs:List AV} {v:Value} (h:Conc σ ι H (.tup cs) v) : ∃vs:Array Value,v = .tuple vs/\vs.size=cs.length/\∀(i:Nat) (c:AV) (u:Value),cs[i]? = some c->vs[i]? = some u->Conc σ ι H c u:=by cases h with| cc h=>cases h| tup cs vs b h=>exact⟨vs,rfl,b,h⟩
theorem Conc.loc_inv {x off:Nat} {v:Value} (h:Conc σ ι H (.loc x off) v):∃b,ι x = .box b/\v = .pointer (some ⟨b,off,none⟩):=by cases h with| cc h=>cases h| loc _ _ b hb=>exact⟨b,hb,rfl⟩
theorem Conc.one_of {x:AV} {v:Value} (hx:x.one=true) (h:Conc σ ι H x v):E6 v=true:=by
 cases h with
 | cc h=>cases h with
  | val v=>exact hx
  | nil=>rfl
  | sl=>rfl
  | fbn=>rfl
  | fb=>rfl
  | agg=>cases hx
 | loc=>rfl
 | mp=>rfl
 | arr _ _ _ _ _ _ _ h=>exact h
 | el _ _ _ _ _ _ _ h=>exact h
 | ref=>rfl
 | agg=>cases hx
 | tup=>cases hx
 | fn=>rfl
theorem Axr {α:Type} {x y:α} {i:Nat} (h:[x][i]? = some y):i=0/\y=x:=by cases i with| zero=>simp at h;exact⟨rfl,h.symm⟩| succ n=>simp at h
theorem Conc.cells {x:AV} {v:Value} (h:Conc σ ι H x v) : v.cells.size=x.cells.length/\∀(i:Nat) (c:AV) (u:Value),x.cells[i]? = some c->v.cells[i]? = some u->Conc σ ι H c u:=by
 have single:∀(x:AV) (v:Value),Conc σ ι H x v->x.cells = [x]->v.cells = #[v] ->
   v.cells.size=x.cells.length/\∀(i:Nat) (c:AV) (u:Value),x.cells[i]? = some c->v.cells[i]? = some u->Conc σ ι H c u:=by intro x v h J I;rw[J,I];refine⟨rfl,λi c u h1 h2=>?_⟩;obtain⟨rfl,rfl⟩:=Axr h1;simp at h2;subst h2;exact h
 cases h with
 | cc hc=>
  cases hc with
  | val v=>cases v with| agg vs=>refine⟨by simp[Value.cells,AV.cells],λi c u h1 h2=>?_⟩;simp only[AV.cells,Value.cells,List.getElem?_map]at h1 h2;rw[Gm,h2]at h1;simp at h1;subst h1;exact .of_val u| _=>exact single _ _ (.of_val _) rfl rfl
  | nil sz a cap=>exact single _ _ (.cc (.nil sz a cap)) rfl rfl
  | sl xs b off cap sz C E fr g z G hc h1 A q y=>exact single _ _ (.cc (.sl xs b off cap sz C E fr g z G hc h1 A q y)) rfl rfl
  | agg cs vs q h=>exact⟨q,λi c u h1 h2=>.cc (h i c u h1 h2)⟩
  | fbn s a cap h0=>exact single _ _ (.cc (.fbn s a cap h0)) rfl rfl
  | fb s b cap C z h0 y A q hb=>exact single _ _ (.cc (.fb s b cap C z h0 y A q hb)) rfl rfl
 | loc x off b hb=>exact single _ _ (.loc x off b hb) rfl rfl
 | mp x b hb=>exact single _ _ (.mp x b hb) rfl rfl
 | arr x k off len v D hv l=>exact single _ _ (.arr x k off len v D hv l) rfl (by cases v <;> first|rfl|cases l)
 | el x k i j v D hv l=>exact single _ _ (.el x k i j v D hv l) rfl (by cases v <;> first|rfl|cases l)
 | ref cs b off C E fr g z hc h1 A=>exact single _ _ (.ref cs b off C E fr g z hc h1 A) rfl rfl
 | agg cs vs q h=>exact⟨q,h⟩
 | tup cs vs q h=>exact single _ _ (.tup cs vs q h) rfl rfl
 | fn f B vs q h=>exact single _ _ (.fn f B vs q h) rfl rfl
theorem Conc.cc_of {x:AV} {v:Value} (hx:x.cl1=true) (h:Conc σ ι H x v):CC σ x v/\E6 v=true:=by
 cases h with
 | cc h=>cases h with
  | val v=>exact⟨.val v,hx⟩
  | nil sz a cap=>exact⟨.nil sz a cap,rfl⟩
  | sl xs b off cap sz C E fr g f i hc h1 k j c=>exact⟨.sl xs b off cap sz C E fr g f i hc h1 k j c,rfl⟩
  | agg=>cases hx
  | fbn=>cases hx
  | fb=>cases hx
 | _=>cases hx
end conc
end Go.Ab
namespace Go.Ab
def Cl (P:Program) (o:Oper) (ρ:Operand->AV) (b:Eff):Prop := ∀(σ:A5) (ι:B9) (H:Hp) (F:A5) (W w:World) (a:Act) (next:Act->World->Prop) (Q:Exit->Act->World->Prop), St σ ι H F W w->(∀x∈o.op.operands.toList,Conc σ ι H (ρ x) (a.eval x))->(∀p∈b.rd,H p.1=p.2) -> (∀c f v w',Le σ ι H c f (C2 H b.wr)->St c f (C2 H b.wr) F W w'->Conc c f (C2 H b.wr) b.r v->next (a.put o.dst v) w')->o.wp P a w next Q
section
variable {P:Program} {o:Oper} {ρ:Operand->AV} {a:Act} {w w':World} {next:Act->World->Prop} {Q:Exit->Act->World->Prop}
theorem F1 {v:Value} (h:(execOp a.eval o).run P w = .ok (.value v) w') (b:next (a.put o.dst v) w'):o.wp P a w next Q:=by unfold Oper.wp;rw[h];exact b
theorem Ab2 (h:(execOp a.eval o).run P w = .ok .skip w') (b:next (a.put o.dst undef) w'):o.wp P a w next Q:=by unfold Oper.wp;rw[h];exact b
theorem E7 {r:AV} (h:∀σ ι H a w,(∀x∈o.op.operands.toList,Conc σ ι H (ρ x) (Act.eval a x))->∃v,(execOp a.eval o).run P w = .ok (.value v) w/\Conc σ ι H r v) : Cl P o ρ ⟨r,[],[]⟩:=by
 intro σ ι H F W w a next Q s hx _ hk
 obtain⟨v,b,hc⟩:=h σ ι H a w hx;exact F1 b (hk σ ι v w (Le.refl _ _ _) s hc)
theorem Axs {x:Operand} (b:o.op = .move x):Cl P o ρ ⟨ρ x,[],[]⟩ := E7 λσ ι H a w hx=>⟨a.eval x,by simp[execOp,b],hx x (by simp[b,Op.operands])⟩
theorem X0 {x:Operand} (b:o.op = .assign x):Cl P o ρ ⟨ρ x,[],[]⟩ := E7 λσ ι H a w hx=>⟨a.eval x,by simp[execOp,b],hx x (by simp[b,Op.operands])⟩
theorem Axt {c x y:Operand} {t:Bool} (b:o.op = .pick c x y) (hc:ρ c = .val (.bool t)):Cl P o ρ ⟨bif t then ρ x else ρ y,[],[]⟩ := E7 λσ ι H a w hx=>by have h1:=hx c (by simp[b,Op.operands]);rw[hc]at h1;have h1:=h1.val_inv;cases t with| true=>exact⟨a.eval x,by simp[execOp,b,h1,asBool],hx x (by simp[b,Op.operands])⟩| false=>exact⟨a.eval y,by simp[execOp,b,h1,asBool],hx y (by simp[b,Op.operands])⟩
theorem Ez {t:TypeId} {i:TI} (h:Im P t=some i) : ∃b u z,P.info? t=some b/\P.underlying t=some u/\b.zero=some z/\b.size=i.size/\b.bytes=i.bytes/\i.zero=z.cells.toList /\ (match i.d with
       | .int k=>u = .int k
       | .bool=>u = .bool
       | .string=>u = .string
       | .slice e=>u = .slice e
       | .map k e=>u = .map k e
       | .float k=>u = .float k
       | .struct fs=>∃fields,u = .struct fields/\fs=fields.toList.map (λf=>(f.offset,P.cellsOf f.type))/\∀f∈fields.toList,0<P.cellsOf f.type
       | .other=>(∀fs,u≠.struct fs)/\(∀n e,u≠.array n e)):=by
  unfold Im at h;split at h
  . rename_i b u hi hu;split at h
    . cases h
    . rename_i z j;refine⟨b,u,z,hi,hu,j,?_⟩;cases g:zok u z with
      | false=>rw[g]at h;cases h
      | true=>
      rw[g]at h;simp only[Bool.not_true,cond_false]at h;split at h;all_goals first
        | (cases h;done)
        | (cases h;refine⟨rfl,rfl,rfl,?_⟩;first|rfl|exact⟨(by intro fs e;simp_all),(by intro n e' e;simp_all)⟩)
        | skip
      . split at h
        . rename_i c;cases h;refine⟨rfl,rfl,rfl,_,rfl,rfl,?_⟩;intro f l;simp only[D6,decide_eq_true_eq]at c;exact c f l
        . cases h
  . cases h
theorem Amk {t:TypeId} {i:TI} (h:Im P t=some i) (w:World) : ∃z,(zeroValue t).run P w = .ok z w/\z.cells.toList=i.zero/\(i.isAgg=true->∃vs,z = .agg vs)/\(i.isAgg=false->E6 z=true):=by
  obtain⟨j,u,z,h1,h2,h3,x,s,l,c⟩:=Ez h;refine⟨z,by simp[zeroValue,typeInfo,program,Sem.run,h1,h3],l.symm,?_⟩;have b:zok u z=true:=(by unfold Im at h;rw[h1,h2]at h;simp only[h3]at h;cases g:zok u z with| false=>rw[g]at h;cases h| true=>rfl);unfold TI.isAgg;cases hd:i.d <;> rw[hd]at c <;> simp only[]at c ⊢;all_goals first
    | (subst c;exact⟨nofun,λ_=>b⟩)
    | (obtain⟨f,rfl,_⟩:=c
       refine⟨λ_=>?_,λh=>by cases h⟩
       unfold zok at b
       cases z <;> first|exact⟨_,rfl⟩|cases b)
    | (obtain⟨k,q⟩:=c
       refine⟨nofun,λ_=>?_⟩
       unfold zok at b
       cases u <;> first|exact b|exact (k _ rfl).elim)
theorem Ab3 {t:TypeId} {i:TI} (h:Im P t=some i) (w:World):(isAgg t).run P w = .ok i.isAgg w:=by
 obtain⟨c,u,z,h1,h2,h3,q,l,k,b⟩:=Ez h;unfold isAgg TI.isAgg;rw[Sem.run_bind,run_underlying h2];cases hd:i.d <;> rw[hd]at b <;> simp only[Result.andThen_ok];all_goals first
  | (subst b;rfl)
  | (obtain⟨f,rfl,_⟩:=b;rfl)
  | (obtain⟨j,g⟩:=b;cases u <;> first|rfl|exact (j _ rfl).elim|exact (g _ _ rfl).elim)
theorem Ni {t:TypeId} {i:TI} (h:Im P t=some i) (w:World):(sizeOf t).run P w = .ok i.size w:=by obtain⟨b,u,z,h1,h2,h3,c,j,g,f⟩:=Ez h;simp[sizeOf,typeInfo,program,Sem.run,h1,c]
theorem Aml {t:TypeId} {i:TI} (h:Im P t=some i) (w:World):∃z:Value,z.cells.toList=i.zero/\(zeroValue t).run P w = .ok z w:=by obtain⟨b,u,z,h1,h2,h3,j,g,c,f⟩:=Ez h;exact⟨z,c.symm,by simp[zeroValue,typeInfo,program,Sem.run,h1,h3]⟩
theorem Axu {T:C6} (q:C7 P T) {t:TypeId} {i:TI} (h:Nat) (k:o.op = .alloc t) (ht:T t=some i) : Cl P o ρ ⟨.loc h 0,[(h,.none)],[(h,.cells t (i.zero.map .val))]⟩:=by
 intro σ ι H F W w a next Q s hx b hk
 have l:H h = .none:=b (h,.none) ψ;obtain⟨z,f,g⟩:=Aml (q t i ht) w;obtain⟨s',le⟩:=s.newBox h l t (i.zero.map .val) z.cells (by simp[<-f]) (by intro j c v h1 h2;rw[<-f,List.getElem?_map,Gm,h2]at h1;simp at h1;subst h1;exact .of_val v);refine F1 (v:=.pointer (some ⟨w.heap.size,0,none⟩)) (w':=w.alloc (.cells z.cells t)) ?_ (hk σ _ _ _ le s' (.loc h 0 w.heap.size (Cy _ _ _)));simp[execOp,k,Instr.alloc,g,newVar,newRow,newObj,Sem.run]
theorem Axv {t:TypeId} {x:Operand} (h:Nat) (c:o.op = .box t x) : Cl P o ρ ⟨.loc h 0,[(h,.none)],[(h,.cells t (ρ x).cells)]⟩:=by
 intro σ ι H F W w a next Q s hx b hk
 have f:H h = .none:=b (h,.none) ψ;have hc:=(hx x (by simp[c,Op.operands])).cells;obtain⟨s',le⟩:=s.newBox h f t (ρ x).cells (a.eval x).cells hc.1 hc.2;refine F1 (v:=.pointer (some ⟨w.heap.size,0,none⟩)) (w':=w.alloc (.cells (a.eval x).cells t)) ?_ (hk σ _ _ _ le s' (.loc h 0 w.heap.size (Cy _ _ _)));simp[execOp,c,Instr.box,newVar,newRow,newObj,Sem.run]
theorem J6 {b off:Nat} {C:Array Value} {E:TypeId} {c:Nat×Nat} (h:w.heap[b]? = some (.cells C E c)):w.cell? ⟨b,off,none⟩=C[off]?:=by simp[World.cell?,h]
theorem K9 (b off n:Nat):(⟨b,off,none⟩:Addr).add n=⟨b,off+n,none⟩:=by unfold Addr.add;split <;> simp_all
theorem Agy {t:TypeId} {x:Operand} {i:TI} (c:o.op = .load t x) (hi:Im P t=some i) (b:i.isAgg=false) {p:Addr} (hp:a.eval x = .pointer (some p)) {v:Value} (hv:w.cell? p=some v) : (execOp a.eval o).run P w = .ok (.value v) w:=by have h1:=Ab3 hi w;rw[b]at h1;simp[execOp,c,Instr.loadAt,hp,Instr.sureAddr,loadVar,h1,hv]
theorem Agz {t:TypeId} {x:Operand} {i:TI} (c:o.op = .load t x) (hi:Im P t=some i) (b:i.isAgg=true) {p:Addr} (hp:a.eval x = .pointer (some p)) (cs:List Value) (f:cs.length=i.size) (hv:∀(j:Nat) (v:Value),cs[j]? = some v->w.cell? (p.add j)=some v) : (execOp a.eval o).run P w = .ok (.value (.agg cs.toArray)) w:=by have h1:=Ab3 hi w;rw[b]at h1;have h2:=Ni hi w;have h3:=run_loadCells_list (P:=P) w p cs hv;rw[f]at h3;simp[execOp,c,Instr.loadAt,hp,Instr.sureAddr,loadVar,h1,h2,h3]
theorem Conc.ref_inv {σ:A5} {ι:B9} {H:Hp} {cs:List AV} {v:Value} (h:Conc σ ι H (.ref cs) v):∃(b off:Nat) (C:Array Value) (E:TypeId) (f:Nat×Nat) (g:Nat->Value), v = .pointer (some ⟨b,off,none⟩)/\σ b=some (.cells C E f)/\(∀(j:Nat) (c:AV),cs[j]? = some c->CC σ c (g j)/\E6 (g j)=true)/\(∀(j:Nat),j<cs.length->C[off+j]? = some (g j)):=by cases h with| cc h=>cases h| ref cs b off C E f g i hc h1 k=>exact⟨b,off,C,E,f,g,rfl,i,λj c h=>⟨hc j c h,h1 j c h⟩,k⟩
theorem Axw {T:C6} (u:C7 P T) {t:TypeId} {x:Operand} {i:TI} {c:AV} {cs:List AV} (l:o.op = .load t x) (ht:T t=some i) (k:i.isAgg=false) (hx:ρ x = .ref (c::cs)) : Cl P o ρ ⟨c,[],[]⟩:=by
 intro σ ι H F W w a next Q s j _ hk
 have h:=j x (by simp[l,Op.operands]);rw[hx]at h;obtain⟨b,off,C,E,fr,g,hv,q,hc,y⟩:=h.ref_inv;have f:w.cell? ⟨b,off,none⟩=some (g 0):=by rw[J6 (s.sto _ _ q)];exact y 0 ψ
 exact F1 (Agy l (u t i ht) k hv f) (hk σ ι _ w (Le.refl _ _ _) s (.cc (hc 0 c ψ).1))
theorem Axx {T:C6} (z:C7 P T) {t:TypeId} {x:Operand} {i:TI} {cs:List AV} (q:o.op = .load t x) (ht:T t=some i) (l:i.isAgg=true) (hx:ρ x = .ref cs) (B:i.size<=cs.length) : Cl P o ρ ⟨.agg (cs.take i.size),[],[]⟩:=by
 intro σ ι H F W w a next Q s k _ hk
 have h:=k x (by simp[q,Op.operands]);rw[hx]at h;obtain⟨b,off,C,E,fr,g,hv,y,hc,A⟩:=h.ref_inv;refine F1 (Agz q (z t i ht) l hv ((List.range i.size).map g) ψ ?_) (hk σ ι _ w (Le.refl _ _ _) s ?_)
 .intro j v hj;rw[List.getElem?_map]at hj;by_cases f:j<i.size
  .rw[List.getElem?_range f]at hj;simp at hj;subst hj;rw[K9,J6 (s.sto _ _ y)];exact A j ω
  .rw[List.getElem?_eq_none ζ]at hj;cases hj
 .refine .agg _ _ ζ (λj c u h1 h2=>?_);have f:j<i.size:=(by have:=(Gl.1 h1).1;simp at this;omega);rw[Hm f]at h1;simp[f]at h2;subst h2;exact .cc (hc j c h1).1
theorem Axy {T:C6} (z:C7 P T) {t:TypeId} {x:Operand} {i:TI} {h off:Nat} {E:TypeId} {cs:List AV} {c:AV} (u:o.op = .load t x) (ht:T t=some i) (q:i.isAgg=false) (hx:ρ x = .loc h off) (hc:cs[off]? = some c):Cl P o ρ ⟨c,[(h,.cells E cs)],[]⟩:=by
 intro σ ι H F W w a next Q s l k hk
 have hh:H h = .cells E cs:=k (h,.cells E cs) ψ;have hp:=l x (by simp[u,Op.operands]);rw[hx]at hp;obtain⟨b,hb,hv⟩:=hp.loc_inv;have f:=s.obj h;unfold C1 at f;rw[hh]at f;obtain⟨D,C,y,_,_,h3,B,A⟩:=f;rw[hb]at y;cases y;have j:off<C.size:=by rw[B];exact (Gl.1 hc).1
 have g:w.cell? ⟨b,off,none⟩=some C[off]:=by rw[J6 h3];simp[j]
 exact F1 (Agy u (z t i ht) q hv g) (hk σ ι _ w (Le.refl _ _ _) s (A off c _ hc (by simp[j])))
theorem Axz {T:C6} (A:C7 P T) {t:TypeId} {x:Operand} {i:TI} {h off:Nat} {E:TypeId} {cs:List AV} (y:o.op = .load t x) (ht:T t=some i) (q:i.isAgg=true) (hx:ρ x = .loc h off) (D:off+i.size<=cs.length):Cl P o ρ ⟨.agg ((cs.drop off).take i.size),[(h,.cells E cs)],[]⟩:=by
 intro σ ι H F W w a next Q s l k hk
 have hh:H h = .cells E cs:=k (h,.cells E cs) ψ;have hp:=l x (by simp[y,Op.operands]);rw[hx]at hp;obtain⟨b,hb,hv⟩:=hp.loc_inv;have g:=s.obj h;unfold C1 at g;rw[hh]at g;obtain⟨I,C,z,_,_,h3,G,B⟩:=g;rw[hb]at z;cases z;refine F1 (Agz y (A t i ht) q hv ((C.toList.drop off).take i.size) ζ ?_) (hk σ ι _ w (Le.refl _ _ _) s ?_)
 .intro j v hj;have f:j<i.size:=(by have:=(Gl.1 hj).1;simp at this;omega);rw[Hm f,List.getElem?_drop,Gm]at hj;rw[K9,J6 h3];exact hj
 .refine .agg _ _ ζ (λj c u h1 h2=>?_);have f:j<i.size:=(by have:=(Gl.1 h1).1;simp at this;omega);rw[Hm f,List.getElem?_drop]at h1;rw[List.getElem?_toArray,Hm f,List.getElem?_drop,Gm]at h2;exact B _ c u h1 h2
end
end Go.Ab
namespace Go.Ab
section
variable {P:Program} {o:Oper} {ρ:Operand->AV} {a:Act} {w w':World} {next:Act->World->Prop} {Q:Exit->Act->World->Prop}
theorem Conc.el_inv {σ:A5} {ι:B9} {H:Hp} {h k i j:Nat} {v:Value} {E:TypeId} {sz:Nat} {xs:List AV} (hh:H h = .rows E sz xs) (hk:xs.length=k) (hc:Conc σ ι H (.el h k i j) v) : ∃b c,ι h = .blk b c/\v = .pointer (some ⟨b,i*sz+j,none⟩):=by
 cases hc with
 | cc h=>cases h
 | el _ _ _ _ _ g hv f=>
  have:=(hv E sz xs hh).2 hk;unfold Amj at this;split at this
  .rename_i b c e;exact⟨b,c,e,this⟩
  .exact this.elim
theorem Conc.arr_inv {σ:A5} {ι:B9} {H:Hp} {h k off len:Nat} {v:Value} {E:TypeId} {sz:Nat} {xs:List AV} (hh:H h = .rows E sz xs) (hk:xs.length=k) (hc:Conc σ ι H (.arr h k off len) v) : G4 (ι h) sz off len v:=by cases hc with| cc h=>cases h| arr _ _ _ _ _ c hv b=>exact (hv E sz xs hh).2 hk
theorem St.rowsAt {σ:A5} {ι:B9} {H:Hp} {F:A5} {W w:World} (s:St σ ι H F W w) {h:Nat} {E:TypeId} {sz:Nat} {xs:List AV} (hh:H h = .rows E sz xs) {b c:Nat} (hb:ι h = .blk b c) : ∃C,w.heap[b]? = some (.cells C E (0,0))/\C.size=c*sz/\xs.length<=c/\Il σ sz xs C:=by
 have g:=s.obj h;unfold C1 at g;rw[hh]at g;obtain⟨_,_,⟨f,_⟩|⟨q,i,C,f,h1,h2,h3,l,k,j⟩⟩:=g
 .rw[hb]at f;cases f
 .rw[hb]at f;cases f;exact⟨C,h3,l,k,j⟩
theorem Ax0 {T:C6} (L:C7 P T) {t:TypeId} {x:Operand} {i:TI} {h k n j:Nat} {E:TypeId} {sz:Nat} {xs:List AV} {y c:AV} (A:o.op = .load t x) (ht:T t=some i) (z:i.isAgg=false) (hx:ρ x = .el h k n j) (u:xs.length=k) (hy:xs[n]? = some y) (hc:y.cells[j]? = some c):Cl P o ρ ⟨c,[(h,.rows E sz xs)],[]⟩:=by
 intro σ ι H F W w a next Q s q l hk
 have hh:H h = .rows E sz xs:=l (h,.rows E sz xs) ψ;have hp:=q x (by simp[A,Op.operands]);rw[hx]at hp;obtain⟨b,B,hb,hv⟩:=hp.el_inv hh u;obtain⟨C,h3,N,M,g,I,G,D⟩:=s.rowsAt hh hb;have J:=(Gl.1 hy).1;have hj:=(Gl.1 hc).1;rw[I n y hy]at hj;have f:w.cell? ⟨b,n*sz+j,none⟩=some (g n j):=by rw[J6 h3];exact D n j J hj
 exact F1 (Agy A (L t i ht) z hv f) (hk σ ι _ w (Le.refl _ _ _) s (.cc (G n y j c hy hc).1))
theorem Ax1 {T:C6} (R:C7 P T) {t:TypeId} {x:Operand} {i:TI} {h k n j:Nat} {E:TypeId} {sz:Nat} {xs:List AV} {y:AV} (D:o.op = .load t x) (ht:T t=some i) (B:i.isAgg=true) (hx:ρ x = .el h k n j) (A:xs.length=k) (hy:xs[n]? = some y) (S:j+i.size<=y.cells.length):Cl P o ρ ⟨.agg ((y.cells.drop j).take i.size),[(h,.rows E sz xs)],[]⟩:=by
 intro σ ι H F W w a next Q s z l hk
 have hh:H h = .rows E sz xs:=l (h,.rows E sz xs) ψ;have hp:=z x (by simp[D,Op.operands]);rw[hx]at hp;obtain⟨b,G,hb,hv⟩:=hp.el_inv hh A;obtain⟨C,h3,V,U,g,L,J,I⟩:=s.rowsAt hh hb;have N:=(Gl.1 hy).1;have M:=L n y hy;refine F1 (Agz D (R t i ht) B hv ((List.range i.size).map λq=>g n (j+q)) ψ ?_) (hk σ ι _ w (Le.refl _ _ _) s ?_)
 .intro q v hq;rw[List.getElem?_map]at hq;by_cases f:q<i.size
  .rw[List.getElem?_range f]at hq;simp at hq;subst hq;rw[K9,J6 h3,Nat.add_assoc];exact I n (j+q) N ω
  .rw[List.getElem?_eq_none ζ]at hq;cases hq
 .refine .agg _ _ ζ (λq c u h1 h2=>?_);have f:q<i.size:=(by have:=(Gl.1 h1).1;simp at this;omega);rw[Hm f,List.getElem?_drop]at h1;simp[f]at h2;subst h2;exact .cc (J n y (j+q) c hy h1).1
theorem Ag0 (v:Value):v.oneCell'=E6 v:=by cases v <;> rfl
theorem Amm {t:TypeId} {i:TI} (hi:Im P t=some i) {b off:Nat} {v:Value} {C:Array Value} {E:TypeId} (hb:w.heap[b]? = some (.cells C E (0,0))) (c:v.cells.size=i.size) (f:off+v.cells.size<=C.size) (h1:∀u∈v.cells.toList,E6 u=true) : (Instr.storeAt t (.pointer (some ⟨b,off,none⟩)) v).run P w = .ok () (w.setRow b (C.toList.take off++v.cells.toList++C.toList.drop (off+v.cells.toList.length)).toArray):=by have h2:=Ni hi w;have h3:=run_storeCells_at (P:=P) b off E v.cells.toList 0 C w hb (by simpa using f) (λu hu=>by rw[Ag0];exact h1 u hu);simp only[Nat.add_zero]at h3;simp[Instr.storeAt,Instr.sureAddr,storeVar,h2,c,h3]
theorem Ag1 (cs:List AV) (off:Nat) (new:List AV) (b:off+new.length<=cs.length) (i:Nat) : (Nh cs off new)[i]? = if i<off then cs[i]? else if i<off+new.length then new[i-off]? else cs[i]?:=by
 unfold Nh;by_cases h1:i<off
 .rw[if_pos h1,List.getElem?_append_left ζ,Hm h1]
 .rw[if_neg h1,List.getElem?_append_right ζ];have:(cs.take off).length=off:=ζ;rw[this];by_cases h2:i<off+new.length
  .rw[if_pos h2,List.getElem?_append_left ω]
  .rw[if_neg h2,List.getElem?_append_right ω,List.getElem?_drop];congr 1;omega
theorem Ag2 (cs:List AV) (off:Nat) (new:List AV) (b:off+new.length<=cs.length):(Nh cs off new).length=cs.length:=by unfold Nh;simp;omega
theorem U5 (C:Array Value) (off:Nat) (new:List Value) (c:off+new.length<=C.size) (i:Nat) : ((C.toList.take off++new++C.toList.drop (off+new.length)).toArray)[i]? = if i<off then C[i]? else if i<off+new.length then new[i-off]? else C[i]?:=by
 rw[List.getElem?_toArray,List.append_assoc];have b:off+new.length<=C.toList.length:=by simpa using c
 by_cases h1:i<off
 .rw[if_pos h1,List.getElem?_append_left (by simp at b ⊢;omega),Hm h1,Gm]
 .rw[if_neg h1,List.getElem?_append_right (by simp at b ⊢;omega)];have:(C.toList.take off).length=off:=(by simp at b ⊢;omega);rw[this];by_cases h2:i<off+new.length
  .rw[if_pos h2,List.getElem?_append_left ω]
  .rw[if_neg h2,List.getElem?_append_right ω,List.getElem?_drop,Gm];congr 1;omega
theorem Ax2 {σ:A5} {ι:B9} {H:Hp} {x:AV} {v:Value} (hc:Conc σ ι H x v) (h1:x.cells.all AV.one=true):∀u∈v.cells.toList,E6 u=true:=by
 intro u hu;obtain⟨n,c⟩:=List.getElem?_of_mem hu;have f:=hc.cells;rw[Gm]at c;have b:n<x.cells.length:=by rw[<-f.1];exact (Array.getElem?_eq_some_iff.1 c).1
 have:=f.2 n x.cells[n] u (List.getElem?_eq_getElem b) c;exact this.one_of (D6.1 h1 _ (List.getElem_mem b))
theorem Ax3 {T:C6} (D:C7 P T) {t:TypeId} {x y:Operand} {i:TI} {h off:Nat} {E:TypeId} {cs:List AV} (z:o.op = .store t x y) (ht:T t=some i) (hx:ρ x = .loc h off) (G:(ρ y).cells.length=i.size) (I:off+i.size<=cs.length) (h1:(ρ y).cells.all AV.one=true) : Cl P o ρ ⟨.val undef,[(h,.cells E cs)],[(h,.cells E (Nh cs off (ρ y).cells))]⟩:=by
 intro σ ι H F W w a next Q s q u hk
 have hh:H h = .cells E cs:=u (h,.cells E cs) ψ;have hp:=q x (by simp[z,Op.operands]);have hy:=q y (by simp[z,Op.operands]);rw[hx]at hp;obtain⟨b,hb,hv⟩:=hp.loc_inv;have g:=s.obj h;unfold C1 at g;rw[hh]at g;obtain⟨L,C,B,_,_,h3,J,A⟩:=g;rw[hb]at B;cases B;have k:=hy.cells;have l:=Amm (P:=P) (w:=w) (D t i ht) (off:=off) (v:=a.eval y) h3 ω ω (Ax2 hy h1);obtain⟨s',le⟩:=s.setBox h E cs (Nh cs off (ρ y).cells) hh b hb (C.toList.take off++(a.eval y).cells.toList++C.toList.drop (off+(a.eval y).cells.toList.length)).toArray (by rw[Ag2 _ _ _ ω];simp;omega) (by
   intro j c v hj f;rw[Ag1 _ _ _ ω]at hj;rw[U5 _ _ _ ζ]at f;simp only[Array.length_toList,k.1]at f;by_cases g1:j<off
   .rw[if_pos g1]at hj f;exact A j c v hj f
   .rw[if_neg g1]at hj f;by_cases g2:j<off+(ρ y).cells.length
    .rw[if_pos g2]at hj f;rw[Gm]at f;exact k.2 _ c v hj f
    .rw[if_neg g2]at hj f;exact A j c v hj f);refine Ab2 (w':=_) ?_ (hk σ ι undef _ le s' (.of_val _));simp[execOp,z,hv,l]
def X1 (x:AV) (j:Nat) (new:List AV):AV := match x with
 | .agg cs=>.agg (Nh cs j new)
 | _=>new.headD x
theorem Ax4 {x:AV} {j:Nat} {new:List AV} (f:j+new.length<=x.cells.length) (h:new≠[]) (h1:∀c∈new,c.cl1=true) (hv:∀vs,x≠.val (.agg vs)) : (X1 x j new).cells=Nh x.cells j new:=by
 unfold X1;split
 .rfl
 .rename_i hx;have b:x.cells = [x]:=by
   cases x with
   | val v=>cases v <;> first|rfl|exact (hv _ rfl).elim
   | agg cs=>exact (hx cs rfl).elim
   | _=>rfl
  rw[b]at f ⊢;cases new with
  | nil=>exact (h rfl).elim
  | cons c rest=>
   simp at f;have hj:j=0:=ω;have g:rest = []:=List.eq_nil_of_length_eq_zero ω;subst hj g;have hc:=h1 c ψ;cases c with
   | val v=>cases v <;> first|rfl|cases hc
   | sl _ _=>rfl
   | _=>cases hc
theorem Ax5 {T:C6} (hT:C7 P T) {t:TypeId} {x y:Operand} {i:TI} {h k n j:Nat} {E:TypeId} {sz:Nat} {xs:List AV} {z:AV} (ho:o.op = .store t x y) (ht:T t=some i) (hx:ρ x = .el h k n j) (a8:xs.length=k) (V:xs[n]? = some z) (hs:(ρ y).cells.length=i.size) (ac:0<i.size) (hl:j+i.size<=z.cells.length) (h1:(ρ y).cells.all AV.cl1=true) (Z:∀vs,z≠.val (.agg vs)) : Cl P o ρ ⟨.val undef,[(h,.rows E sz xs)],[(h,.rows E sz (xs.set n (X1 z j (ρ y).cells)))]⟩:=by
 intro σ ι H F W w a next Q s N a6 hk
 have hh:H h = .rows E sz xs:=a6 (h,.rows E sz xs) ψ;have hp:=N x (by simp[ho,Op.operands]);have hy:=N y (by simp[ho,Op.operands]);rw[hx]at hp;obtain⟨b,J,hb,hv⟩:=hp.el_inv hh a8;obtain⟨C,h3,h4,h5,g,r1,Y,U⟩:=s.rowsAt hh hb;have hn:=(Gl.1 V).1;have a1:=r1 n z V;have I:=hy.cells;have a7:(ρ y).cells≠[]:=by intro e;rw[e]at hs;simp at hs;omega
 have M:=Ax4 (x:=z) (j:=j) (new:=(ρ y).cells) ω a7 (λc hc=>D6.1 h1 c hc) Z;have aa:∀u∈(a.eval y).cells.toList,E6 u=true:=by intro u hu;obtain⟨q,hq⟩:=List.getElem?_of_mem hu;rw[Gm]at hq;have l:q<(ρ y).cells.length:=(by rw[<-I.1];exact (Array.getElem?_eq_some_iff.1 hq).1);exact ((I.2 q _ u (List.getElem?_eq_getElem l) hq).cc_of (D6.1 h1 _ (List.getElem_mem l))).2
 have ab:n*sz+sz<=C.size:=by rw[h4];have:(n+1)*sz<=J*sz:=Nat.mul_le_mul_right sz ω;rw[Eh]at this;omega
 have L:=Amm (P:=P) (w:=w) (hT t i ht) (off:=n*sz+j) (v:=a.eval y) h3 ω ω aa;let G:Nat->Nat->Value:=λn' f=>if n'=n/\j<=f/\f<j+(ρ y).cells.length then ((a.eval y).cells[f-j]?).getD undef else g n' f
 obtain⟨s',le⟩:=s.setRows h E sz xs (xs.set n (X1 z j (ρ y).cells)) hh b J hb ψ (C.toList.take (n*sz+j)++(a.eval y).cells.toList++C.toList.drop (n*sz+j+(a.eval y).cells.toList.length)).toArray ζ (by
   refine⟨G,?_,?_,?_⟩
   .intro i' X B;by_cases e:i'=n
    .subst e;rw[List.getElem?_set_self hn]at B;cases B;rw[M,Ag2 _ _ _ ω];exact a1
    .rw[List.getElem?_set_ne ω]at B;exact r1 i' X B
   .intro i' X f S B A;by_cases e:i'=n
    .subst e;rw[List.getElem?_set_self hn]at B;cases B;rw[M,Ag1 _ _ _ ω]at A;show CC σ S (G i' f)/\E6 (G i' f)=true;by_cases g1:f<j
     .rw[if_pos g1]at A;have:G i' f=g i' f:=if_neg ω;rw[this];exact Y i' z f S V A
     .rw[if_neg g1]at A;by_cases g2:f<j+(ρ y).cells.length
      .rw[if_pos g2]at A;have l:f-j<(a.eval y).cells.size:=ω;have:G i' f=(a.eval y).cells[f-j]:=(by show (if _ then _ else _)=_;rw[if_pos ⟨rfl,ω,g2⟩];simp[l]);rw[this];exact (I.2 (f-j) S _ A (by simp[l])).cc_of (D6.1 h1 _ (F6 A))
      .rw[if_neg g2]at A;have:G i' f=g i' f:=if_neg ω;rw[this];exact Y i' z f S V A
    .rw[List.getElem?_set_ne ω]at B;have:G i' f=g i' f:=if_neg ω;rw[this];exact Y i' X f S B A
   .intro i' f D hj';simp at D;rw[U5 _ _ _ ζ];simp only[Array.length_toList,I.1];by_cases g0:i'=n
    .subst g0;by_cases g1:f<j
     .rw[if_pos ω];have:G i' f=g i' f:=if_neg ω;rw[this];exact U i' f D hj'
     .rw[if_neg ω];by_cases g2:f<j+(ρ y).cells.length
      .rw[if_pos ω,Gm];have l:f-j<(a.eval y).cells.size:=ω;have:G i' f=(a.eval y).cells[f-j]:=(by show (if _ then _ else _)=_;rw[if_pos ⟨rfl,ω,g2⟩];simp[l]);rw[this,show i' * sz+f-(i' * sz+j)=f-j by omega];simp[l]
      .rw[if_neg ω];have:G i' f=g i' f:=if_neg ω;rw[this];exact U i' f D hj'
    .have:G i' f=g i' f:=if_neg ω;rw[this];have R:i' * sz+f<n*sz+j\/n*sz+j+(ρ y).cells.length<=i' * sz+f:=by
      rcases Nat.lt_or_gt_of_ne g0 with l|hgt
      .left;have:(i' + 1)*sz<=n*sz:=Nat.mul_le_mul_right sz ω;rw[Eh]at this;omega
      .right;have:(n+1)*sz<=i' * sz:=Nat.mul_le_mul_right sz ω;rw[Eh]at this;omega
     rcases R with l|hge
     .rw[if_pos l];exact U i' f D hj'
     .rw[if_neg ω,if_neg ω];exact U i' f D hj');refine Ab2 (w':=_) ?_ (hk σ ι undef _ le s' (.of_val _));simp[execOp,ho,hv,L]
end
end Go.Ab
namespace Go.Ab
section
variable {P:Program} {o:Oper} {ρ:Operand->AV} {a:Act} {w w':World} {next:Act->World->Prop} {Q:Exit->Act->World->Prop}
theorem Dv {σ:A5} {ι:B9} {H:Hp} {x:Operand} {v:Value} (h:ρ x = .val v) (hc:Conc σ ι H (ρ x) (a.eval x)):a.eval x=v:=by rw[h]at hc;exact hc.val_inv
theorem Ax6 {x:Operand} (b:o.op = .nilCheck x) (hp:(ρ x).isPtr=true):Cl P o ρ ⟨ρ x,[],[]⟩ := E7 λσ ι H a w hx=>by have h:=hx x (by simp[b,Op.operands]);refine⟨a.eval x,?_,h⟩;have:(∃p,a.eval x = .pointer (some p))\/∃f vs,a.eval x = .func (.func f) #[] vs:=(by generalize ρ x=y at h hp;generalize a.eval x=v at h;cases h with| cc h=>cases h <;> cases hp| loc=>exact .inl ⟨_,rfl⟩| mp=>cases hp| arr=>cases hp| el=>cases hp| ref=>exact .inl ⟨_,rfl⟩| agg=>cases hp| tup=>cases hp| fn=>exact .inr ⟨_,_,rfl⟩);rcases this with⟨p,hp⟩|⟨f,vs,hp⟩ <;> simp[execOp,b,hp]
theorem Sq {op:BinOp} {t b:TypeId} {x y:Operand} {k:IntKind} {m n:Int} (f:o.op = .binOp op t x y b) (hx:a.eval x = .int k m) (hy:a.eval y = .int k n) {r:Value} (c:(binOp op t (.int k m) (.int k n)).run P w = .ok r w):(execOp a.eval o).run P w = .ok (.value r) w:=by
 have g:(eqGuard op t x y (.int k m) (.int k n)).run P w = .ok () w:=by unfold eqGuard;cases op <;> simp
 simp only[execOp,f,hx,hy,Sem.run_bind,g,Result.andThen_ok,c,Sem.run_pure]
theorem Ax7 {t f:TypeId} {x y:Operand} {k:IntKind} {m n c:Int} (b:o.op = .binOp .add t x y f) (hx:ρ x = .val (.int k m)) (hy:ρ y = .val (.int k n)) (hc:k.wrap (m+n)=c) : Cl P o ρ ⟨.val (.int k c),[],[]⟩ := E7 λσ ι H a w h=>⟨_,Sq b (Dv hx (h x (by simp[b,Op.operands]))) (Dv hy (h y (by simp[b,Op.operands]))) (by simp[binOp,Op.intArith,hc]),.of_val _⟩
theorem Ax8 {t f:TypeId} {x y:Operand} {k:IntKind} {m n c:Int} (b:o.op = .binOp .sub t x y f) (hx:ρ x = .val (.int k m)) (hy:ρ y = .val (.int k n)) (hc:k.wrap (m-n)=c) : Cl P o ρ ⟨.val (.int k c),[],[]⟩ := E7 λσ ι H a w h=>⟨_,Sq b (Dv hx (h x (by simp[b,Op.operands]))) (Dv hy (h y (by simp[b,Op.operands]))) (by simp[binOp,Op.intArith,hc]),.of_val _⟩
theorem Ax9 {t f:TypeId} {x y:Operand} {k:IntKind} {m n c:Int} (b:o.op = .binOp .mul t x y f) (hx:ρ x = .val (.int k m)) (hy:ρ y = .val (.int k n)) (hc:k.wrap (m*n)=c) : Cl P o ρ ⟨.val (.int k c),[],[]⟩ := E7 λσ ι H a w h=>⟨_,Sq b (Dv hx (h x (by simp[b,Op.operands]))) (Dv hy (h y (by simp[b,Op.operands]))) (by simp[binOp,Op.intArith,hc]),.of_val _⟩
theorem Aya {t f:TypeId} {x y:Operand} {k:IntKind} {m n c:Int} (b:o.op = .binOp .quo t x y f) (hx:ρ x = .val (.int k m)) (hy:ρ y = .val (.int k n)) (g:n≠0) (hc:k.wrap (m.tdiv n)=c) : Cl P o ρ ⟨.val (.int k c),[],[]⟩ := E7 λσ ι H a w h=>⟨_,Sq b (Dv hx (h x (by simp[b,Op.operands]))) (Dv hy (h y (by simp[b,Op.operands]))) (by simp[binOp,Op.intDiv,g,hc]),.of_val _⟩
theorem Ayb {t f:TypeId} {x y:Operand} {k:IntKind} {m n c:Int} (b:o.op = .binOp .rem t x y f) (hx:ρ x = .val (.int k m)) (hy:ρ y = .val (.int k n)) (g:n≠0) (hc:m.tmod n=c) : Cl P o ρ ⟨.val (.int k c),[],[]⟩ := E7 λσ ι H a w h=>⟨_,Sq b (Dv hx (h x (by simp[b,Op.operands]))) (Dv hy (h y (by simp[b,Op.operands]))) (by simp[binOp,Op.intDiv,g,hc]),.of_val _⟩
theorem Ayc {op:BinOp} {t f:TypeId} {x y:Operand} {k:IntKind} {m n:Int} {b:Bool} (c:o.op = .binOp op t x y f) (hx:ρ x = .val (.int k m)) (hy:ρ y = .val (.int k n)) (hc:Agx op m n=some b) : Cl P o ρ ⟨.val (.bool b),[],[]⟩ := E7 λσ ι H a w h=>by refine⟨.bool b,Sq c (Dv hx (h x (by simp[c,Op.operands]))) (Dv hy (h y (by simp[c,Op.operands]))) ?_,.of_val _⟩;cases op <;> simp only[Agx]at hc <;> first | (cases hc;done) | (cases hc;simp[binOp,Op.intCmp])
def Ag3 (op:BinOp) (k:IntKind) (m n:Int):Option Int := match op with
 | .and=>some (k.wrap (BitVec.ofInt k.bits m &&& BitVec.ofInt k.bits n).toNat)
 | .or=>some (k.wrap (BitVec.ofInt k.bits m ||| BitVec.ofInt k.bits n).toNat)
 | .xor=>some (k.wrap (BitVec.ofInt k.bits m ^^^ BitVec.ofInt k.bits n).toNat)
 | _=>none
theorem Ayd {op:BinOp} {t f:TypeId} {x y:Operand} {k:IntKind} {m n c:Int} (b:o.op = .binOp op t x y f) (hx:ρ x = .val (.int k m)) (hy:ρ y = .val (.int k n)) (hc:Ag3 op k m n=some c) : Cl P o ρ ⟨.val (.int k c),[],[]⟩ := E7 λσ ι H a w h=>by refine⟨.int k c,Sq b (Dv hx (h x (by simp[b,Op.operands]))) (Dv hy (h y (by simp[b,Op.operands]))) ?_,.of_val _⟩;cases op <;> simp only[Ag3]at hc <;> first | (cases hc;done) | (cases hc;simp[binOp,Op.intBits])
theorem Aye {t i:TypeId} {x y:Operand} {k g:IntKind} {m n c:Int} (b:o.op = .binOp .shr t x y i) (hx:ρ x = .val (.int k m)) (hy:ρ y = .val (.int g n)) (l:0<=n) (hc:m.fdiv (2 ^ (min n.toNat k.bits))=c) : Cl P o ρ ⟨.val (.int k c),[],[]⟩ := E7 λσ ι H a w h=>by refine⟨.int k c,?_,.of_val _⟩;have h1:=Dv hx (h x (by simp[b,Op.operands]));have h2:=Dv hy (h y (by simp[b,Op.operands]));have j:(eqGuard .shr t x y (.int k m) (.int g n)).run P w = .ok () w:=(by unfold eqGuard;simp);have f:¬n<0:=ω;simp only[execOp,b,h1,h2,Sem.run_bind,j,Result.andThen_ok,binOp,Op.shift,if_neg f,hc,Sem.run_pure]
theorem Ayf {t i:TypeId} {x y:Operand} {k g:IntKind} {m n c:Int} (b:o.op = .binOp .shl t x y i) (hx:ρ x = .val (.int k m)) (hy:ρ y = .val (.int g n)) (l:0<=n) (hc:k.wrap (m*2 ^ (min n.toNat k.bits))=c) : Cl P o ρ ⟨.val (.int k c),[],[]⟩ := E7 λσ ι H a w h=>by refine⟨.int k c,?_,.of_val _⟩;have h1:=Dv hx (h x (by simp[b,Op.operands]));have h2:=Dv hy (h y (by simp[b,Op.operands]));have j:(eqGuard .shl t x y (.int k m) (.int g n)).run P w = .ok () w:=(by unfold eqGuard;simp);have f:¬n<0:=ω;simp only[execOp,b,h1,h2,Sem.run_bind,j,Result.andThen_ok,binOp,Op.shift,if_neg f,hc,Sem.run_pure]
def Ag4 (op:BinOp) (m n:Bool):Option Bool := match op with
 | .eql=>some (m==n)
 | .neq=>some (m != n)
 | _=>none
theorem Ayg {t:TypeId} (ht:P.underlying t=some .bool) (d:Nat) (m n:Bool) (w:World):(Op.equalIn (d+1) t (.bool m) (.bool n)).run P w = .ok (m==n) w:=by simp[Op.equalIn,run_underlying ht]
theorem Ayh {t:TypeId} (ht:P.underlying t=some .bool) (m n:Bool) (w:World):(Op.equal t (.bool m) (.bool n)).run P w = .ok (m==n) w:=by exact Ayg ht 9999 m n w
theorem Ayi {T:C6} (q:C7 P T) {op:BinOp} {t j:TypeId} {i:TI} {x y:Operand} {m n b:Bool} (c:o.op = .binOp op t x y j) (ht:T t=some i) (hd:i.d = .bool) (hx:ρ x = .val (.bool m)) (hy:ρ y = .val (.bool n)) (hc:Ag4 op m n=some b) : Cl P o ρ ⟨.val (.bool b),[],[]⟩ := E7 λσ ι H a w h=>by
  refine⟨.bool b,?_,.of_val _⟩;have h1:=Dv hx (h x (by simp[c,Op.operands]));have h2:=Dv hy (h y (by simp[c,Op.operands]));obtain⟨g,u,z,E,k,D,B,A,s,f⟩:=Ez (q t i ht);rw[hd]at f;subst f;have l:(eqGuard op t x y (.bool m) (.bool n)).run P w = .ok () w:=(by unfold eqGuard;cases op <;> simp);cases op <;> simp only[Ag4]at hc <;> first | (cases hc;done) | skip
  all_goals
   cases hc
   simp only[execOp,c,h1,h2,Sem.run_bind,l,Result.andThen_ok,binOp,Ayh k,Sem.run_pure]
   try rfl
theorem Ayj {T:C6} (A:C7 P T) {t l e:TypeId} {i:TI} {x y:Operand} {p:Option Addr} {n c b g:Nat} (f:o.op = .binOp .eql t x y l) (ht:T t=some i) (hd:i.d = .slice e) (hx:ρ x = .val (.slice p n c)) (hy:ρ y = .val (.slice none b g)) : Cl P o ρ ⟨.val (.bool p.isNone),[],[]⟩ := E7 λσ ι H a w h=>by refine⟨.bool p.isNone,?_,.of_val _⟩;have h1:=Dv hx (h x (by simp[f,Op.operands]));have h2:=Dv hy (h y (by simp[f,Op.operands]));obtain⟨k,u,z,I,q,G,E,D,B,j⟩:=Ez (A t i ht);rw[hd]at j;subst j;have s:(eqGuard .eql t x y (.slice p n c) (.slice none b g)).run P w = .ok () w:=(by unfold eqGuard;simp);simp only[execOp,f,h1,h2,Sem.run_bind,s,Result.andThen_ok,Lib.run_eql_slice_nil w t e p n c b g q,Sem.run_pure]
def Ag5 (op:BinOp) (m n:ByteArray):Option Bool := match op with
 | .eql=>some (m.toList==n.toList)
 | .neq=>some (!(m.toList==n.toList))
 | .lss=>some (Op.bytesLess m.toList n.toList)
 | _=>none
theorem Ayk {op:BinOp} {t f:TypeId} {x y:Operand} {m n:ByteArray} {b:Bool} (c:o.op = .binOp op t x y f) (hx:ρ x = .val (.string m)) (hy:ρ y = .val (.string n)) (hc:Ag5 op m n=some b) : Cl P o ρ ⟨.val (.bool b),[],[]⟩ := E7 λσ ι H a w h=>by
  refine⟨.bool b,?_,.of_val _⟩;have h1:=Dv hx (h x (by simp[c,Op.operands]));have h2:=Dv hy (h y (by simp[c,Op.operands]));have g:(eqGuard op t x y (.string m) (.string n)).run P w = .ok () w:=(by unfold eqGuard;cases op <;> simp);cases op <;> simp only[Ag5]at hc <;> first | (cases hc;done) | skip
  all_goals
   cases hc
   simp only[execOp,c,h1,h2,Sem.run_bind,g,Result.andThen_ok,binOp,Op.stringOp,Sem.run_pure]
theorem Ayl {t c:TypeId} {x y:Operand} {m n:ByteArray} (b:o.op = .binOp .add t x y c) (hx:ρ x = .val (.string m)) (hy:ρ y = .val (.string n)) (i:m.size+n.size<=9223372036854775807) : Cl P o ρ ⟨.val (.string (m++n)),[],[]⟩ := E7 λσ ι H a w h=>by refine⟨.string (m++n),?_,.of_val _⟩;have h1:=Dv hx (h x (by simp[b,Op.operands]));have h2:=Dv hy (h y (by simp[b,Op.operands]));have g:(eqGuard .add t x y (.string m) (.string n)).run P w = .ok () w:=(by unfold eqGuard;simp);have hm:IntKind.i64.max=9223372036854775807:=δ;have f:¬((m.size+n.size:Nat):Int)>IntKind.i64.max:=(by rw[hm];omega);simp only[execOp,b,h1,h2,Sem.run_bind,g,Result.andThen_ok,binOp,Op.stringOp,if_neg f,Sem.run_pure]
theorem Aym {t:TypeId} {x:Operand} {b:Bool} (c:o.op = .unOp .not t x) (hx:ρ x = .val (.bool b)):Cl P o ρ ⟨.val (.bool !b),[],[]⟩ := E7 λσ ι H a w h=>⟨.bool !b,by simp[execOp,c,Dv hx (h x (by simp[c,Op.operands])),Op.unary],.of_val _⟩
theorem Ayn {t:TypeId} {x:Operand} {k:IntKind} {m c:Int} (b:o.op = .unOp .neg t x) (hx:ρ x = .val (.int k m)) (hc:k.wrap (0-m)=c):Cl P o ρ ⟨.val (.int k c),[],[]⟩ := E7 λσ ι H a w h=>⟨.int k c,by simp only[execOp,b,Dv hx (h x (by simp[b,Op.operands])),Op.unary,Op.intArith,hc,Sem.run_bind,Sem.run_pure,Result.andThen_ok],.of_val _⟩
theorem Ayo {T:C6} (s:C7 P T) {t d:TypeId} {x:Operand} {i j:TI} {k I:IntKind} {m c:Int} (q:o.op = .convert t d x) (ht:T t=some i) (hd:T d=some j) (hj:j.d = .int k) (hx:ρ x = .val (.int I m)) (hc:k.wrap m=c) : Cl P o ρ ⟨.val (.int k c),[],[]⟩ := E7 λσ ι H a w h=>by refine⟨.int k c,?_,.of_val _⟩;have h1:=Dv hx (h x (by simp[q,Op.operands]));obtain⟨l,u,z,V,E,U,S,R,N,M⟩:=Ez (s t i ht);obtain⟨g,L,J,G,f,D,B,A,y,b⟩:=Ez (s d j hd);rw[hj]at b;subst b;simp only[execOp,q,h1,convert,Sem.run_bind,run_underlying E,run_underlying f,Result.andThen_ok,Conv.intToInt,hc,Sem.run_pure]
theorem Ayp {op:BinOp} {t f:TypeId} {x y:Operand} {k:FloatKind} {m n c:Nat} (b:o.op = .binOp op t x y f) (hx:ρ x = .val (.float k m)) (hy:ρ y = .val (.float k n)) (hc:floatBits op k m n=some c) : Cl P o ρ ⟨.val (.float k c),[],[]⟩ := E7 λσ ι H a w h=>by refine⟨.float k c,?_,.of_val _⟩;have h1:=Dv hx (h x (by simp[b,Op.operands]));have h2:=Dv hy (h y (by simp[b,Op.operands]));have g:(eqGuard op t x y (.float k m) (.float k n)).run P w = .ok () w:=(by cases op <;> first | (unfold eqGuard;simp;done) | (simp[floatBits]at hc));simp only[execOp,b,h1,h2,Sem.run_bind,g,Result.andThen_ok,run_float_arith w op t k m n c hc,Sem.run_pure]
theorem Ayq {T:C6} (s:C7 P T) {t d:TypeId} {x:Operand} {i j:TI} {k:FloatKind} {g:IntKind} {m:Int} (q:o.op = .convert t d x) (ht:T t=some i) (hd:T d=some j) (hj:j.d = .float k) (hx:ρ x = .val (.int g m)) : Cl P o ρ ⟨.val (.float k (floatOfInt k m)),[],[]⟩ := E7 λσ ι H a w h=>by refine⟨.float k (floatOfInt k m),?_,.of_val _⟩;have h1:=Dv hx (h x (by simp[q,Op.operands]));obtain⟨l,u,z,U,E,S,R,N,M,L⟩:=Ez (s t i ht);obtain⟨f,J,I,G,c,D,B,A,y,b⟩:=Ez (s d j hd);rw[hj]at b;subst b;have:=run_convert_int_float (P:=P) w t d g k m (by rw[E];rfl) c;simp only[execOp,q,h1,Sem.run_bind,this,Result.andThen_ok,Sem.run_pure]
theorem Ayr {T:C6} (y:C7 P T) {t d:TypeId} {x:Operand} {i j:TI} {k:FloatKind} {f:IntKind} {m:Nat} {c:Int} (s:o.op = .convert t d x) (ht:T t=some i) (hd:T d=some j) (hj:j.d = .int f) (hx:ρ x = .val (.float k m)) (hc:floatToIntVal k m f=some c) : Cl P o ρ ⟨.val (.int f c),[],[]⟩ := E7 λσ ι H a w h=>by refine⟨.int f c,?_,.of_val _⟩;have h1:=Dv hx (h x (by simp[s,Op.operands]));obtain⟨q,u,z,V,G,U,S,R,N,M⟩:=Ez (y t i ht);obtain⟨l,L,J,I,g,E,D,B,A,b⟩:=Ez (y d j hd);rw[hj]at b;subst b;have:=run_convert_float_int (P:=P) w t d k f m c (by rw[G];rfl) g hc;simp only[execOp,s,h1,Sem.run_bind,this,Result.andThen_ok,Sem.run_pure]
theorem Ays {x:Operand} {n:Nat} {cs:List AV} {c:AV} (f:o.op = .extract x n) (hx:ρ x = .tup cs) (hc:cs[n]? = some c):Cl P o ρ ⟨c,[],[]⟩ := E7 λσ ι H a w h=>by have h1:=h x (by simp[f,Op.operands]);rw[hx]at h1;obtain⟨vs,e,g,hv⟩:=h1.tup_inv;have b:n<vs.size:=(by rw[g];exact (Gl.1 hc).1);refine⟨vs[n],?_,hv n c _ hc (by simp[b])⟩;simp[execOp,f,e,Instr.extract,b]
theorem Ag6 {s:TypeId} {i:TI} {fs:List (Nat×Nat)} {f:Nat} {q:Nat×Nat} (hi:Im P s=some i) (hd:i.d = .struct fs) (c:fs[f]? = some q) (b off:Nat) (w:World) : (Instr.fieldAt s (.pointer (some ⟨b,off,none⟩)) f).run P w = .ok (.pointer (some ⟨b,off+q.1,none⟩)) w:=by
 obtain⟨y,u,z,J,A,I,G,E,D,x⟩:=Ez hi;rw[hd]at x;obtain⟨fields,rfl,rfl,hpos⟩:=x;rw[List.getElem?_map]at c;cases hg:fields.toList[f]? with
 | none=>rw[hg]at c;simp at c
 | some fd=>rw[hg]at c;simp at c;subst c;have l:fields[f]? = some fd:=(by rw[<-Gm];exact hg);have hp:=hpos fd (F6 hg);have j:∃inf,P.info? fd.type=some inf/\inf.size≠0:=(by unfold Program.cellsOf at hp;cases h:P.info? fd.type with| none=>rw[h]at hp;simp at hp| some inf=>rw[h]at hp;simp at hp;exact⟨inf,rfl,ω⟩);obtain⟨inf,g,k⟩:=j;have B:(sizeOf fd.type).run P w = .ok inf.size w:=(by simp[sizeOf,typeInfo,program,Sem.run,g]);simp[Instr.fieldAt,run_underlying A,l,Instr.sureAddr,fieldPlace,B,k,K9]
theorem Ayt {T:C6} (k:C7 P T) {s:TypeId} {x:Operand} {f:Nat} {i:TI} {fs:List (Nat×Nat)} {q:Nat×Nat} {h off:Nat} (g:o.op = .fieldAddr s x f) (ht:T s=some i) (hd:i.d = .struct fs) (j:fs[f]? = some q) (hx:ρ x = .loc h off):Cl P o ρ ⟨.loc h (off+q.1),[],[]⟩ := E7 λσ ι H a w c=>by have h1:=c x (by simp[g,Op.operands]);rw[hx]at h1;obtain⟨b,hb,hv⟩:=h1.loc_inv;exact⟨_,by simp[execOp,g,hv,Ag6 (k s i ht) hd j],.loc h (off+q.1) b hb⟩
theorem Ayu {T:C6} (y:C7 P T) {s:TypeId} {x:Operand} {f:Nat} {i:TI} {fs:List (Nat×Nat)} {q:Nat×Nat} {cs:List AV} (k:o.op = .fieldAddr s x f) (ht:T s=some i) (hd:i.d = .struct fs) (u:fs[f]? = some q) (hx:ρ x = .ref cs):Cl P o ρ ⟨.ref (cs.drop q.1),[],[]⟩ := E7 λσ ι H a w h=>by
  have h1:=h x (by simp[k,Op.operands]);rw[hx]at h1;obtain⟨b,off,C,E,fr,g,hv,l,hc,z⟩:=h1.ref_inv;refine⟨_,by simp[execOp,k,hv,Ag6 (y s i ht) hd u],.ref _ b (off+q.1) C E fr (λj=>g (q.1+j)) l ?_ ?_ ?_⟩
  .intro j c hj;rw[List.getElem?_drop]at hj;exact (hc _ c hj).1
  .intro j c hj;rw[List.getElem?_drop]at hj;exact (hc _ c hj).2
  .intro j hj;rw[List.length_drop]at hj;rw[Nat.add_assoc];exact z (q.1+j) ω
theorem Ayv {T:C6} (D:C7 P T) {s:TypeId} {x:Operand} {f:Nat} {i:TI} {fs:List (Nat×Nat)} {q:Nat×Nat} {h k n j:Nat} {E:TypeId} {sz:Nat} {xs:List AV} (z:o.op = .fieldAddr s x f) (ht:T s=some i) (hd:i.d = .struct fs) (B:fs[f]? = some q) (hx:ρ x = .el h k n j) (y:xs.length=k):Cl P o ρ ⟨.el h k n (j+q.1),[(h,.rows E sz xs)],[]⟩:=by
 intro σ ι H F W w a next Q s u l hk
 have hh:H h = .rows E sz xs:=l (h,.rows E sz xs) ψ;have hp:=u x (by simp[z,Op.operands]);rw[hx]at hp;obtain⟨b,A,hb,hv⟩:=hp.el_inv hh y;refine F1 (v:=.pointer (some ⟨b,n*sz+j+q.1,none⟩)) (by simp[execOp,z,hv,Ag6 (D _ i ht) hd B]) (hk σ ι _ w (Le.refl _ _ _) s ?_);refine .el h k n (j+q.1) _ (by show H h≠_;rw[hh];intro e;cases e) (λG g c e=>?_) rfl;have e:H h = .rows G g c:=e;rw[hh]at e;cases e;refine⟨ω,λ_=>?_⟩;rw[hb];show _=_
 rw[Nat.add_assoc]
theorem CC.sl_inv {σ:A5} {sz:Nat} {xs:List AV} {v:Value} (h:CC σ (.sl sz xs) v) : (xs = []/\∃p f,v = .slice p 0 f)\/∃(b off f:Nat) (C:Array Value) (E:TypeId) (l:Nat×Nat) (g:Nat->Nat->Value),v = .slice (some ⟨b,off,none⟩) xs.length f/\σ b=some (.cells C E l) /\ (∀(i:Nat) (x:AV),xs[i]? = some x->x.cells.length=sz)/\(∀(i:Nat) (x:AV) (j:Nat) (c:AV),xs[i]? = some x->x.cells[j]? = some c->CC σ c (g i j)/\E6 (g i j)=true) /\ (∀(i j:Nat),i<xs.length->j<sz->C[off+i*sz+j]? = some (g i j))/\xs.length<=140737488355328/\xs.length<=f:=by cases h with| nil _ p f=>exact .inl ⟨rfl,p,f,rfl⟩| sl _ b off f _ C E l g q s hc h1 y u k=>exact .inr ⟨b,off,f,C,E,l,g,rfl,q,s,λi x j c hx hj=>⟨hc i x j c hx hj,h1 i x j c hx hj⟩,y,u,k⟩
theorem CC.sl_len {σ:A5} {sz:Nat} {xs:List AV} {v:Value} (h:CC σ (.sl sz xs) v):xs.length<=140737488355328/\∃p cap,v = .slice p xs.length cap:=by
 rcases h.sl_inv with⟨rfl,p,cap,e⟩|⟨b,off,cap,C,E,fr,g,e,_,_,_,_,c,_⟩
 .exact⟨ψ,p,cap,e⟩
 .exact⟨c,_,cap,e⟩
theorem Amn {T:C6} (j:C7 P T) {t:TypeId} {x:Operand} {i:TI} {e:TypeId} {sz:Nat} {xs:List AV} (g:o.op = .call {callee:=.builtin .len,args:=#[x],argTypes:=#[t]}) (ht:T t=some i) (hd:i.d = .slice e) (hx:ρ x = .sl sz xs) : Cl P o ρ ⟨.val (.int .i64 xs.length),[],[]⟩ := E7 λσ ι H a w b=>by have h1:=b x (by simp[g,Op.operands,Call.operands]);rw[hx]at h1;obtain⟨_,p,cap,hv⟩:=h1.sl_inv.sl_len;obtain⟨f,u,z,y,h,s,q,l,k,c⟩:=Ez (j t i ht);rw[hd]at c;subst c;refine⟨.int .i64 xs.length,?_,.of_val _⟩;simp[execOp,g,resolve,invoke,builtin,Builtin.len_,hv,run_underlying h,goInt]
theorem Ayw {T:C6} (k:C7 P T) {t:TypeId} {x:Operand} {i:TI} {e:TypeId} {p:Option Addr} {n c:Nat} (h:o.op = .call {callee:=.builtin .len,args:=#[x],argTypes:=#[t]}) (ht:T t=some i) (hd:i.d = .slice e) (hx:ρ x = .val (.slice p n c)) : Cl P o ρ ⟨.val (.int .i64 n),[],[]⟩ := E7 λσ ι H a w b=>by have hv:=Dv hx (b x (by simp[h,Op.operands,Call.operands]));obtain⟨g,u,z,A,j,y,s,q,l,f⟩:=Ez (k t i ht);rw[hd]at f;subst f;refine⟨.int .i64 n,?_,.of_val _⟩;simp[execOp,h,resolve,invoke,builtin,Builtin.len_,hv,run_underlying j,goInt]
theorem Ayx {T:C6} (k:C7 P T) {t:TypeId} {x:Operand} {i:TI} {e:TypeId} {p:Option Addr} {n b:Nat} (h:o.op = .call {callee:=.builtin .cap,args:=#[x],argTypes:=#[t]}) (ht:T t=some i) (hd:i.d = .slice e) (hx:ρ x = .val (.slice p n b)) : Cl P o ρ ⟨.val (.int .i64 b),[],[]⟩ := E7 λσ ι H a w c=>by have hv:=Dv hx (c x (by simp[h,Op.operands,Call.operands]));obtain⟨g,u,z,A,j,y,s,q,l,f⟩:=Ez (k t i ht);rw[hd]at f;subst f;refine⟨.int .i64 b,?_,.of_val _⟩;simp[execOp,h,resolve,invoke,builtin,Builtin.cap_,hv,run_underlying j,goInt]
theorem Ayy {T:C6} (j:C7 P T) {t:TypeId} {x:Operand} {i:TI} {s:ByteArray} (g:o.op = .call {callee:=.builtin .len,args:=#[x],argTypes:=#[t]}) (ht:T t=some i) (hd:i.d = .string) (hx:ρ x = .val (.string s)) : Cl P o ρ ⟨.val (.int .i64 s.size),[],[]⟩ := E7 λσ ι H a w b=>by have hv:=Dv hx (b x (by simp[g,Op.operands,Call.operands]));obtain⟨f,u,z,A,h,y,q,l,k,c⟩:=Ez (j t i ht);rw[hd]at c;subst c;refine⟨.int .i64 s.size,?_,.of_val _⟩;simp[execOp,g,resolve,invoke,builtin,Builtin.len_,hv,run_underlying h,goInt]
theorem Ayz {T:C6} (y:C7 P T) {t:TypeId} {x:Operand} {i:TI} {e:TypeId} {h k off len:Nat} {E:TypeId} {sz:Nat} {xs:List AV} (l:o.op = .call {callee:=.builtin .len,args:=#[x],argTypes:=#[t]}) (ht:T t=some i) (hd:i.d = .slice e) (hx:ρ x = .arr h k off len) (f:xs.length=k):Cl P o ρ ⟨.val (.int .i64 len),[(h,.rows E sz xs)],[]⟩:=by
 intro σ ι H F W w a next Q s c b hk
 have hh:H h = .rows E sz xs:=b (h,.rows E sz xs) ψ;have hp:=c x (by simp[l,Op.operands,Call.operands]);rw[hx]at hp;have hv:=hp.arr_inv hh f;obtain⟨j,u,z,L,q,J,I,G,D,g⟩:=Ez (y t i ht);rw[hd]at g;subst g;have:∃p cap,a.eval x = .slice p len cap:=by
  unfold G4 at hv;split at hv
  .obtain⟨B,_,A⟩:=hv;exact⟨none,0,by rw[B,A]⟩
  .exact⟨_,_,hv.2⟩
  .exact hv.elim
 obtain⟨p,cap,hv⟩:=this;refine F1 (v:=.int .i64 len) ?_ (hk σ ι _ w (Le.refl _ _ _) s (.of_val _));simp[execOp,l,resolve,invoke,builtin,Builtin.len_,hv,run_underlying q,goInt]
theorem Amo {t:TypeId} {i i':TI} {e:TypeId} (hi:Im P t=some i) (hd:i.d = .slice e) (q:Im P e=some i') {b off len f n:Nat} (k:IntKind) (D:n<len) (w:World) : (Instr.indexAt t (.slice (some ⟨b,off,none⟩) len f) (.int k (n:Int))).run P w = .ok (.pointer (some ⟨b,off+n*i'.size,none⟩)) w:=by obtain⟨h,u,z,B,j,A,y,x,s,g⟩:=Ez hi;rw[hd]at g;subst g;have l:=Ni q w;have c:0<=(n:Int)/\(n:Int)<(len:Int):=ω;simp only[Instr.indexAt,asIntOf,Sem.run_bind,Sem.run_pure,Result.andThen_ok,run_underlying j,if_pos c,l,K9,Int.toNat_natCast]
theorem Ay0 {T:C6} (u:C7 P T) {t:TypeId} {x y:Operand} {i i':TI} {e:TypeId} {sz:Nat} {xs:List AV} {k:IntKind} {n:Nat} {z:AV} (q:o.op = .indexAddr t x y) (ht:T t=some i) (hd:i.d = .slice e) (G:T e=some i') (l:sz=i'.size) (hx:ρ x = .sl sz xs) (hy:ρ y = .val (.int k (n:Int))) (h:xs[n]? = some z) : Cl P o ρ ⟨.ref z.cells,[],[]⟩ := E7 λσ ι H a w f=>by
  have h1:=f x (by simp[q,Op.operands]);have h2:=Dv hy (f y (by simp[q,Op.operands]));rw[hx]at h1;have s:=(Gl.1 h).1;rcases h1.sl_inv.sl_inv with⟨rfl,_⟩|⟨b,off,cap,C,E,fr,g,hv,A,D,hc,I,_⟩
  .simp at s
  .have B:=D n z h;refine⟨.pointer (some ⟨b,off+n*i'.size,none⟩),?_,.ref z.cells b (off+n*i'.size) C E fr (g n) A (λj c hj=>(hc n z j c h hj).1) (λj c hj=>(hc n z j c h hj).2) (λj hj=>?_)⟩
   .simp[execOp,q,hv,h2,Amo (u t i ht) hd (u e i' G) k s]
   .have:=I n j s ω;rw[<-l];exact this
theorem Ay1 {T:C6} (A:C7 P T) {t:TypeId} {x y:Operand} {i i':TI} {e:TypeId} {h k off len:Nat} {E:TypeId} {sz:Nat} {xs:List AV} {z:IntKind} {n:Nat} (q:o.op = .indexAddr t x y) (ht:T t=some i) (hd:i.d = .slice e) (I:T e=some i') (hx:ρ x = .arr h k off len) (u:xs.length=k) (hy:ρ y = .val (.int z (n:Int))) (D:n<len) (j:sz=i'.size):Cl P o ρ ⟨.el h k (off+n) 0,[(h,.rows E sz xs)],[]⟩:=by
 intro σ ι H F W w a next Q s c l hk
 have hh:H h = .rows E sz xs:=l (h,.rows E sz xs) ψ;have hp:=c x (by simp[q,Op.operands]);have h2:=Dv hy (c y (by simp[q,Op.operands]));rw[hx]at hp;have hv:=hp.arr_inv hh u;unfold G4 at hv;split at hv
 .omega
 .rename_i b B hb;obtain⟨G,hv⟩:=hv;refine F1 (v:=.pointer (some ⟨b,(off+n)*sz,none⟩)) ?_ (hk σ ι _ w (Le.refl _ _ _) s ?_)
  .simp[execOp,q,hv,h2,Amo (A t i ht) hd (A e i' I) z D,j,Eh]
  .refine .el h k (off+n) 0 _ (by show H h≠_;rw[hh];intro e;cases e) (λJ g f e=>?_) rfl;have e:H h = .rows J g f:=e;rw[hh]at e;cases e;refine⟨ω,λ_=>?_⟩;rw[hb];rfl
 .exact hv.elim
theorem Ay2 {T:C6} (l:C7 P T) {t:TypeId} {x y:Operand} {i:TI} {s:ByteArray} {k:IntKind} {n:Nat} {c:UInt8} (f:o.op = .index t x y) (ht:T t=some i) (hd:i.d = .string) (hx:ρ x = .val (.string s)) (hy:ρ y = .val (.int k (n:Int))) (hc:s[n]? = some c) : Cl P o ρ ⟨.val (.int .u8 c.toNat),[],[]⟩ := E7 λσ ι H a w b=>by have h1:=Dv hx (b x (by simp[f,Op.operands]));have h2:=Dv hy (b y (by simp[f,Op.operands]));obtain⟨h,u,z,E,j,D,B,A,q,g⟩:=Ez (l t i ht);rw[hd]at g;subst g;refine⟨.int .u8 c.toNat,?_,.of_val _⟩;simp[execOp,f,h1,h2,Instr.index,asIntOf,run_underlying j,hc]
theorem Ay3 {f:FuncId} {b:Array Operand} (h:o.op = .makeFunc (.func f) #[] b):Cl P o ρ ⟨.fn f (b.toList.map ρ),[],[]⟩ := E7 λσ ι H a w g=>by refine⟨.func (.func f) #[] (b.map a.eval),by simp[execOp,h,Instr.makeFunc],.fn f _ _ ψ (λi c v h1 h2=>?_)⟩;rw[List.getElem?_map]at h1;rw[Array.getElem?_map]at h2;cases hc:b[i]? with| none=>rw[hc]at h2;simp at h2| some x=>rw[hc]at h2;rw[Gm,hc]at h1;simp at h1 h2;subst h1;subst h2;exact g x (by simp[h,Op.operands];exact Array.mem_of_getElem? hc)
end
end Go.Ab
namespace Go.Ab
section
variable {P:Program} {o:Oper} {ρ:Operand->AV} {a:Act} {w w':World} {next:Act->World->Prop} {Q:Exit->Act->World->Prop}
def Ip (ρ:Operand->AV) (d:Int):Option Operand->Option Int
 | none=>some d
 | some x=>match ρ x with
  | .val (.int _ n)=>some n
  | _=>none
theorem Ag7 {k:IntKind} {n y:Nat} (h:n<=y) (c:BoundsCode) (w:World):(Instr.sliceBound (.int k (n:Int)) y c).run P w = .ok n w:=by have:0<=(n:Int)/\(n:Int)<=(y:Int):=ω;simp only[Instr.sliceBound,asIntOf,Sem.run_bind,Sem.run_pure,Result.andThen_ok,if_pos this,Int.toNat_natCast]
theorem Ag8 {σ:A5} {ι:B9} {H:Hp} {x:Operand} {n:Nat} {d:Int} (hb:Ip ρ d (some x)=some (n:Int)) (hc:Conc σ ι H (ρ x) (a.eval x)):∃k,a.eval x = .int k (n:Int):=by
 unfold Ip at hb;simp only[]at hb;split at hb
 .rename_i k m e;rw[e]at hc;cases hb;exact⟨k,hc.val_inv⟩
 .cases hb
theorem Ab4 {σ:A5} {ι:B9} {H:Hp} {j:Bool} {len f l h:Nat} {lo hi:Option Operand} (b:Ip ρ 0 lo=some (l:Int)) (g:Ip ρ (len:Int) hi=some (h:Int)) (hx:∀x,lo=some x\/hi=some x->Conc σ ι H (ρ x) (a.eval x)) (h1:l<=h) (h2:h<=f) (w:World) : (Instr.sliceBounds j len f (lo.map a.eval) (hi.map a.eval) none).run P w = .ok (l,h,f) w:=by
 unfold Instr.sliceBounds;cases hi with
 | none=>simp[Ip]at g;cases lo with| none=>simp[Ip]at b;simp;omega| some x=>obtain⟨k,e⟩:=Ag8 b (hx x (.inl rfl));have:=λc=>Ag7 (P:=P) (k:=k) (n:=l) (y:=len) ω c w;simp[e,this];omega
 | some y=>obtain⟨q,e'⟩:=Ag8 g (hx y (.inr rfl));have i:=λc=>Ag7 (P:=P) (k:=q) h2 c w;cases lo with| none=>simp[Ip]at b;simp[e',i];omega| some x=>obtain⟨k,e⟩:=Ag8 b (hx x (.inl rfl));have:=λc=>Ag7 (P:=P) (k:=k) h1 c w;simp[e,e',this,i]
theorem Ab5 {t:TypeId} {x:Operand} {lo hi:Option Operand} {y:Operand} (h:lo=some y\/hi=some y):y∈(Op.slice t x lo hi none).operands.toList:=by rcases h with rfl|rfl <;> simp[Op.operands]
theorem Ay4 {T:C6} (Y:C7 P T) {t:TypeId} {x:Operand} {lo hi:Option Operand} {i i':TI} {e:TypeId} {sz:Nat} {xs:List AV} {l h:Nat} (D:o.op = .slice t x lo hi none) (ht:T t=some i) (hd:i.d = .slice e) (he:T e=some i') (s:sz=i'.size) (hx:ρ x = .sl sz xs) (J:Ip ρ 0 lo=some (l:Int)) (N:Ip ρ (xs.length:Int) hi=some (h:Int)) (h1:l<=h) (h2:h<=xs.length):Cl P o ρ ⟨.sl sz ((xs.take h).drop l),[],[]⟩ := E7 λσ ι H a w A=>by
  have hv:=A x (by simp[D,Op.operands]);rw[hx]at hv;obtain⟨V,u,z,k1,U,k3,k4,k5,k6,S⟩:=Ez (Y t i ht);rw[hd]at S;subst S;have X:=Ni (Y e i' he);have B:∀(cap:Nat),xs.length<=cap->∀w,(Instr.sliceBounds true xs.length cap (lo.map a.eval) (hi.map a.eval) none).run P w = .ok (l,h,cap) w :=
   λcap q w=>Ab4 J N (λy hy=>A y (by rw[D];exact Ab5 hy)) h1 ω w
  rcases hv.sl_inv.sl_inv with⟨rfl,p,cap,hv⟩|⟨b,off,cap,C,E,fr,g,hv,Z,G,hc,hC,hl,q⟩
  .have M:l=0:=(by simp at h2;omega);have R:h=0:=(by simpa using h2);subst M;subst R;refine⟨.slice (if cap=0 then p else p.map (·.add (0*i'.size))) (0-0) (cap-0),?_,?_⟩
   .simp only[execOp,D,hv,Instr.sliceAt,Instr.slice,Sem.run_bind,run_underlying U,Result.andThen_ok,Option.map_none];have:=B cap ψ w;simp only[List.length_nil]at this;simp only[this,Result.andThen_ok,X w,Sem.run_pure]
   .exact .cc (.nil sz _ _)
  .refine⟨.slice (if cap=l then some ⟨b,off,none⟩ else some ⟨b,off+l*i'.size,none⟩) (h-l) (cap-l),?_,?_⟩
   .simp only[execOp,D,hv,Instr.sliceAt,Instr.slice,Sem.run_bind,run_underlying U,Result.andThen_ok,Option.map_none,B cap q w,X w,Sem.run_pure,Option.map_some,K9]
   .by_cases L:l=h
    .subst L;have:(xs.take l).drop l = []:=ψ;rw[this,Nat.sub_self];exact .cc (.nil sz _ _)
    .rw[if_neg ω];have f:((xs.take h).drop l).length=h-l:=ζ;have k:∀(n:Nat) (y:AV),((xs.take h).drop l)[n]? = some y->xs[l+n]? = some y:=by
      intro n y hy;rw[List.getElem?_drop]at hy;by_cases I:l+n<h
      .rwa [Hm I]at hy
      .rw[List.getElem?_eq_none ζ]at hy;cases hy
     have:=CC.sl (σ:=σ) ((xs.take h).drop l) b (off+l*sz) (cap-l) sz C E fr (λn j=>g (l+n) j) Z (λn y hy=>G _ y (k n y hy))
      (λn y j c hy hj=>(hc _ y j c (k n y hy) hj).1) (λn y j c hy hj=>(hc _ y j c (k n y hy) hj).2) (λn j hn hj=>by rw[f]at hn;have:=hC (l+n) j ω hj;rw[Eh]at this;rw[<-this];congr 1;omega) (by rw[f];omega) (by rw[f];omega);rw[f,s]at this;rw[s];exact .cc this
theorem Ay5 {T:C6} (B:C7 P T) {t:TypeId} {x:Operand} {lo hi:Option Operand} {i:TI} {s:ByteArray} {l h:Nat} (c:o.op = .slice t x lo hi none) (ht:T t=some i) (hd:i.d = .string) (hx:ρ x = .val (.string s)) (f:Ip ρ 0 lo=some (l:Int)) (g:Ip ρ (s.size:Int) hi=some (h:Int)) (h1:l<=h) (h2:h<=s.size):Cl P o ρ ⟨.val (.string (s.extract l h)),[],[]⟩ := E7 λσ ι H a w b=>by
  have hv:=Dv hx (b x (by simp[c,Op.operands]));obtain⟨q,u,z,J,A,I,G,E,D,k⟩:=Ez (B t i ht);rw[hd]at k;subst k;have j:(Instr.sliceBounds false s.size s.size (lo.map a.eval) (hi.map a.eval) none).run P w = .ok (l,h,s.size) w :=
   Ab4 f g (λy hy=>b y (by rw[c];exact Ab5 hy)) h1 ω w
  refine⟨.string (s.extract l h),?_,.of_val _⟩;simp[execOp,c,hv,Instr.sliceAt,Instr.slice,run_underlying A,j]
theorem Ay6 {T:C6} (hT:C7 P T) {t:TypeId} {x:Operand} {lo hi:Option Operand} {i i':TI} {e:TypeId} {c k off len:Nat} {E:TypeId} {sz:Nat} {xs:List AV} {l h:Nat} (D:o.op = .slice t x lo hi none) (ht:T t=some i) (hd:i.d = .slice e) (he:T e=some i') (G:sz=i'.size) (hx:ρ x = .arr c k off len) (N:xs.length=k) (L:Ip ρ 0 lo=some (l:Int)) (R:Ip ρ (len:Int) hi=some (h:Int)) (h1:l<=h) (h2:h<=len) (h3:l=0\/l<h) : Cl P o ρ ⟨.arr c k (off+l) (h-l),[(c,.rows E sz xs)],[]⟩:=by
 intro σ ι H F W w a next Q s q I hk
 have hh:H c = .rows E sz xs:=I (c,.rows E sz xs) ψ;have hp:=q x (by simp[D,Op.operands]);rw[hx]at hp;have hv:=hp.arr_inv hh N;obtain⟨X,u,z,k1,V,k3,k4,k5,k6,U⟩:=Ez (hT t i ht);rw[hd]at U;subst U;have Y:=Ni (hT e i' he);have B:∀(cap:Nat),len<=cap->∀w,(Instr.sliceBounds true len cap (lo.map a.eval) (hi.map a.eval) none).run P w = .ok (l,h,cap) w :=
  λcap Z w=>Ab4 L R (λy hy=>q y (by rw[D];exact Ab5 hy)) h1 ω w
 unfold G4 at hv;split at hv
 .rename_i A;obtain⟨hv,J,M⟩:=hv;subst M;subst J;have e1:l=0:=ω;have e2:h=0:=ω;subst e1;subst e2;refine F1 (v:=.slice none 0 0) ?_ (hk σ ι _ w (Le.refl _ _ _) s ?_)
  .simp only[execOp,D,hv,Instr.sliceAt,Instr.slice,Sem.run_bind,run_underlying V,Result.andThen_ok,Option.map_none];have:=B 0 ω w;simp only[this,Result.andThen_ok,Y w,Sem.run_pure];rfl
  .refine .arr _ _ _ _ _ (by show H c≠_;rw[hh];intro e;cases e) (λS g f e=>?_) rfl;have e:H c = .rows S g f:=e;rw[hh]at e;cases e;exact⟨ω,λ_=>by rw[A];exact⟨rfl,rfl,rfl⟩⟩
 .rename_i b j hb;obtain⟨a1,hv⟩:=hv;refine F1 (v:=.slice (some ⟨b,(off+l)*sz,none⟩) (h-l) (j-(off+l))) ?_ (hk σ ι _ w (Le.refl _ _ _) s ?_)
  .simp only[execOp,D,hv,Instr.sliceAt,Instr.slice,Sem.run_bind,run_underlying V,Result.andThen_ok,Option.map_none];have:=B (j-off) ω w;simp only[this,Result.andThen_ok,Y w,Sem.run_pure,Option.map_some,K9];rcases h3 with rfl|h3
   .simp
   .rw[if_neg ω,Eh,G,Nat.sub_sub]
  .refine .arr _ _ _ _ _ (by show H c≠_;rw[hh];intro e;cases e) (λS g f e=>?_) rfl;have e:H c = .rows S g f:=e;rw[hh]at e;cases e;refine⟨ω,λ_=>?_⟩;rw[hb];exact⟨ω,rfl⟩
 .exact hv.elim
def Ab6 (σ:A5) (ι:B9) (H:Hp) (cs:List AV) (C:Array Value):Prop := C.size=cs.length/\∀(i:Nat) (c:AV) (v:Value),cs[i]? = some c->C[i]? = some v->Conc σ ι H c v
theorem Ag9 (off:Nat):∀(l:List Value) (m:Nat) (cells:Array Value),off+m+l.length<=cells.size -> ((l.zipIdx m).foldl (λcs p=>cs.setIfInBounds (off+p.2) p.1) cells).size=cells.size /\ ∀k:Nat,((l.zipIdx m).foldl (λcs p=>cs.setIfInBounds (off+p.2) p.1) cells)[k]? = if off+m<=k/\k<off+m+l.length then l[k-(off+m)]? else cells[k]?
 | [],m,cells,_=>by refine⟨rfl,λk=>?_⟩;rw[if_neg (by simp only[List.length_nil];omega)];rfl
 | v::rest,m,cells,h=>by
  simp only[List.length_cons]at h;obtain⟨c,b⟩:=Ag9 off rest (m+1) (cells.setIfInBounds (off+m) v) ζ;simp only[List.zipIdx_cons,List.foldl_cons];refine⟨by rw[c];simp,λk=>?_⟩;rw[b k];by_cases h1:k=off+m
  .subst h1;rw[if_neg ω,if_pos ψ];rw[Array.getElem?_setIfInBounds_self_of_lt ω];simp
  .by_cases h2:off+m<=k/\k<off+m+(rest.length+1)
   .rw[if_pos ω,List.length_cons,if_pos h2];rw[show k-(off+m)=(k-(off+(m+1)))+1 by omega];simp
   .rw[if_neg ω,List.length_cons,if_neg h2,Array.getElem?_setIfInBounds_ne ω]
theorem Amp {σ:A5} {ι:B9} {H:Hp} {fs:List (Nat×Nat)} {place:Nat->Option (Nat×Nat)} (hp:∀n,place n=fs[n]?):∀(ps:List (Nat×Operand)) (cs:List AV) (C:Array Value) (b:List AV),Ab6 σ ι H cs C -> (∀p∈ps,Conc σ ι H (ρ p.2) (a.eval p.2))->U4 fs cs (ps.map λp=>(p.1,ρ p.2))=some b -> ∃k,Instr.fill place C (ps.map λp=>(p.1,a.eval p.2))=some k/\Ab6 σ ι H b k
 | [],cs,C,b,g,_,h=>by simp only[List.map_nil,U4]at h;cases h;exact⟨C,rfl,g⟩
 | p::ps,cs,C,b,g,hx,h=>by
  simp only[List.map_cons,U4]at h;cases hq:fs[p.1]? with
  | none=>rw[hq]at h;cases h
  | some q=>
   rw[hq]at h;simp only[]at h;cases hb:(Nat.beq (ρ p.2).cells.length q.2&&Nat.ble (q.1+q.2) cs.length) with
   | false=>rw[hb]at h;cases h
   | true=>
    rw[hb]at h;simp only[cond_true]at h;simp only[Fq]at hb;have B:(ρ p.2).cells.length=q.2:=Gv hb.1;have A:q.1+q.2<=cs.length:=Gu hb.2;have hc:=(hx p ψ).cells;have z:=g.1;have j:=Ag9 q.1 (a.eval p.2).cells.toList 0 C ζ;have s:Ab6 σ ι H (Nh cs q.1 (ρ p.2).cells) (((a.eval p.2).cells.toList.zipIdx 0).foldl (λcs p=>cs.setIfInBounds (q.1+p.2) p.1) C):=by
     refine⟨by rw[j.1,Ag2 _ _ _ ω];exact g.1,λi c v h1 h2=>?_⟩;rw[Ag1 _ _ _ ω]at h1;rw[j.2 i]at h2;simp only[Array.length_toList,hc.1,Nat.add_zero]at h2;by_cases g1:i<q.1
     .rw[if_pos g1]at h1;rw[if_neg ω]at h2;exact g.2 i c v h1 h2
     .rw[if_neg g1]at h1;by_cases g2:i<q.1+(ρ p.2).cells.length
      .rw[if_pos g2]at h1;rw[if_pos ω,Gm]at h2;exact hc.2 _ c v h1 h2
      .rw[if_neg g2]at h1;rw[if_neg ω]at h2;exact g.2 i c v h1 h2
    obtain⟨k,x,u⟩:=Amp hp ps _ _ b s (λy l=>hx y (by simp[l])) h;refine⟨k,?_,u⟩;simp only[List.map_cons,Instr.fill,hp,hq];have f:((a.eval p.2).cells.size≠q.2||decide (q.1+(a.eval p.2).cells.size>C.size))=false:=by have:=g.1;simp;omega
    rw[f];simp only[Bool.false_eq_true,if_false];rw[<-Array.foldl_toList,Array.toList_zipIdx];exact x
theorem Ay7 {T:C6} (R:C7 P T) {t:TypeId} {b:Array (Nat×Operand)} {i:TI} {fs:List (Nat×Nat)} {cs:List AV} (G:o.op = .build t b) (ht:T t=some i) (hd:i.d = .struct fs) (hc:U4 fs (i.zero.map .val) (b.toList.map λp=>(p.1,ρ p.2))=some cs):Cl P o ρ ⟨.agg cs,[],[]⟩ := E7 λσ ι H a w q=>by
  obtain⟨E,u,z,M,L,J,V,U,D,B⟩:=Ez (R t i ht);rw[hd]at B;obtain⟨fields,rfl,s,hpos⟩:=B;have l:∀(fl:List Field),(∀f∈fl,0<P.cellsOf f.type)->fl.mapM (λf=>(P.info? f.type).map λi=>(f.offset,i.size))=some (fl.map λf=>(f.offset,P.cellsOf f.type)):=by
   intro fl;induction fl with
   | nil=>intro _;rfl
   | cons f fl ih=>intro hp;have h0:=hp f ψ;have h:=ih (λS y=>hp S (by simp[y]));unfold Program.cellsOf at h0 ⊢;cases g:P.info? f.type with| none=>rw[g]at h0;simp at h0| some inf=>unfold Program.cellsOf at h;rw[List.mapM_cons,h,g];simp[g]
  have N:Ab6 σ ι H (i.zero.map .val) z.cells:=(by refine⟨by simp[D],λj c v h1 h2=>?_⟩;rw[D,List.getElem?_map,Gm,h2]at h1;simp at h1;subst h1;exact .of_val v);obtain⟨k,I,A⟩:=Amp (a:=a) (place:=λn=>((fields.toList.map λf=>(f.offset,P.cellsOf f.type)).toArray)[n]?) (fs:=fs) (λn=>by rw[s];simp) b.toList _ _ cs N (λp hp=>q p.2 (by simp only[G,Op.operands];simpa using ⟨p.1,by simpa using hp⟩)) hc;refine⟨.agg k,?_,.agg cs k A.1 A.2⟩;have hb:P.built t ((b.map λ(i,x)=>(i,a.eval x)).toList)=some k:=(by unfold Program.built;rw[M,L];simp only[J,l fields.toList hpos];rw[<-I];simp);simp only[execOp,G,Sem.run_bind,run_build w t _ k hb,Result.andThen_ok,Sem.run_pure]
end
end Go.Ab
namespace Go.Ab
section
variable {P:Program} {o:Oper} {ρ:Operand->AV} {a:Act} {w w':World} {next:Act->World->Prop} {Q:Exit->Act->World->Prop}
theorem Ob {sz:Nat} {x:AV} (h:Lw sz x=true):x.cells.length=sz/\∀c∈x.cells,c.cl1=true:=by unfold Lw at h;simp only[Fq]at h;exact⟨Gv h.1,D6.1 h.2⟩
def Kk (vs:List Value):List Value:=vs.flatMap λv=>v.cells.toList
theorem Aha {σ:A5} {ι:B9} {H:Hp} {sz:Nat}:∀(xs:List AV) (vs:List Value),xs.length=vs.length->(∀x∈xs,Lw sz x=true) -> (∀(i:Nat) (x:AV) (v:Value),xs[i]? = some x->vs[i]? = some v->Conc σ ι H x v) -> (Kk vs).length=xs.length*sz/\∃g:Nat->Nat->Value,(∀(i:Nat) (x:AV) (j:Nat) (c:AV),xs[i]? = some x->x.cells[j]? = some c->CC σ c (g i j)/\E6 (g i j)=true) /\ (∀(i j:Nat),i<xs.length->j<sz->(Kk vs)[i*sz+j]? = some (g i j))
 | [],[],_,_,_=>⟨by simp[Kk],λ_ _=>undef,ψ,ψ⟩
 | x::xs,v::vs,B,k,hc=>by
  obtain⟨z,g,s,q⟩:=Aha xs vs (by simpa using B) (λy hy=>k y (by simp[hy])) (λi y u h1 h2=>hc (i+1) y u (by simpa using h1) (by simpa using h2));have h0:=hc 0 x v ψ ψ;have hx:=Ob (k x ψ);have f:=h0.cells;have h:v.cells.toList.length=sz:=(by simp[f.1,hx.1]);have l:Kk (v::vs)=v.cells.toList++Kk vs:=(by simp[Kk]);refine⟨by rw[l,List.length_append,z,h,List.length_cons,Eh];omega,λi j=>if i=0 then (v.cells[j]?).getD undef else g (i-1) j,?_,?_⟩
  .intro i y j c hy hj;cases i with
   | zero=>simp at hy;subst hy;have b:j<v.cells.size:=(by rw[f.1];exact (Gl.1 hj).1);have:(v.cells[j]?).getD undef=v.cells[j]:=(by simp[b]);simp only[if_pos];rw[this];exact (f.2 j c _ hj (by simp[b])).cc_of (hx.2 c (F6 hj))
   | succ i=>have A:xs[i]? = some y:=(by simpa using hy);simpa using s i y j c A hj
  .intro i j hi hj;rw[l];cases i with
   | zero=>rw[List.getElem?_append_left ω,Nat.zero_mul,Nat.zero_add,Gm];have b:j<v.cells.size:=(by rw[f.1,hx.1];exact hj);simp[b]
   | succ i=>rw[List.getElem?_append_right (by rw[h,Eh];omega),h,show (i+1)*sz+j-sz=i*sz+j by rw[Eh];omega];rw[q i j (by simpa using hi) hj];simp
theorem Amq {sz:Nat}:∀(vs:List Value) (m:Nat) (C:Array Value),(∀v∈vs,v.cells.size=sz)->C.size=(m+vs.length)*sz -> ∃f,Instr.fill (λi=>some (i*sz,sz)) C ((vs.zipIdx m).map λp=>(p.2,p.1))=some f/\f.size=C.size/\(∀k:Nat,k<m*sz->f[k]? = C[k]?) /\ ∀k:Nat,m*sz<=k->f[k]? = (Kk vs)[k-m*sz]?
 | [],m,C,_,g=>by refine⟨C,rfl,rfl,λ_ _=>rfl,λk hk=>?_⟩;simp only[List.length_nil,Nat.add_zero]at g;simp[Kk];omega
 | v::vs,m,C,hv,g=>by
  simp only[List.length_cons]at g;have h0:=hv v ψ;have l:(m+(vs.length+1))*sz=m*sz+sz+vs.length*sz:=(by rw[Eh,Eh];omega);have b:=Ag9 (m*sz) v.cells.toList 0 C ζ;simp only[Nat.add_zero,Array.length_toList,h0]at b;obtain⟨f,x,s,j,q⟩:=Amq vs (m+1) (((v.cells.toList.zipIdx 0).foldl (λcs p=>cs.setIfInBounds (m*sz+p.2) p.1) C)) (λu hu=>hv u (by simp[hu])) (by rw[b.1,g,show m+1+vs.length=m+(vs.length+1) by omega]);refine⟨f,?_,by rw[s,b.1],?_,?_⟩
  .simp only[List.zipIdx_cons,List.map_cons,Instr.fill];have c:(v.cells.size≠sz||decide (m*sz+v.cells.size>C.size))=false:=by simp;omega
   rw[c];simp only[Bool.false_eq_true,if_false];rw[<-Array.foldl_toList,Array.toList_zipIdx];exact x
  .intro k hk;rw[j k (by rw[Eh];omega),b.2 k,if_neg ω]
  .intro k hk;have h:Kk (v::vs)=v.cells.toList++Kk vs:=(by simp[Kk]);rw[h];by_cases h1:k<m*sz+sz
   .rw[j k (by rw[Eh];omega),b.2 k,if_pos ω,List.getElem?_append_left ζ]
   .rw[q k (by rw[Eh];omega),List.getElem?_append_right ζ];congr 1;simp only[Array.length_toList,h0];rw[Eh];omega
theorem Ay8 (ps:List (Nat×Operand)) (f:Operand->Value) (m:Nat) (h:ps.map (·.1)=List.range' m ps.length):ps.map (λp=>(p.1,f p.2))=((ps.map λp=>f p.2).zipIdx m).map λp=>(p.2,p.1):=by induction ps generalizing m with| nil=>rfl| cons p ps ih=>simp only[List.map_cons,List.length_cons,List.range'_succ,List.cons.injEq]at h;simp only[List.map_cons,List.zipIdx_cons,List.cons.injEq];exact⟨by rw[h.1],ih (m+1) h.2⟩
theorem Amr {t:TypeId} {len:Nat} {b:Array (Nat×Operand)} {i i':TI} {e:TypeId} (R:o.op = .buildSlice t len b) (hi:Im P t=some i) (hd:i.d = .slice e) (S:Im P e=some i') (Z:0<i'.size) (hp:b.toList.map (·.1)=List.range' 0 len) (a1:len*i'.size<=16777216) (hv:∀p∈b.toList,(a.eval p.2).cells.size=i'.size) : ∃C:Array Value,C.toList=Kk (b.toList.map λp=>a.eval p.2)/\(execOp a.eval o).run P w = .ok (.value (.slice (some ⟨w.heap.size,0,none⟩) len len)) (w.alloc (.cells C e)):=by
 obtain⟨M,u,z,k1,L,k3,k4,k5,k6,J⟩:=Ez hi;rw[hd]at J;subst J;obtain⟨j,Y,y⟩:=Aml S w;have N:=Ni S w;have c:b.toList.length=len:=by have:=congrArg List.length hp;simpa using this
 have A:∀v∈(b.toList.map λp=>a.eval p.2),v.cells.size=i'.size:=by intro v l;simp only[List.mem_map]at l;obtain⟨p,D,rfl⟩:=l;exact hv p D
 have G:∀(vs:List Value),(∀v∈vs,v.cells.size=i'.size)->(Kk vs).length=vs.length*i'.size:=by intro vs;induction vs with| nil=>intro _;simp[Kk]| cons v vs ih=>intro h;have:=ih (λu hu=>h u (by simp[hu]));have h0:=h v ψ;simp only[Kk,List.flatMap_cons,List.length_append,Array.length_toList,h0,List.length_cons]at this ⊢;rw[this,Eh];omega
 obtain⟨s,X,V,r3,U⟩:=Amq (sz:=i'.size) (b.toList.map λp=>a.eval p.2) 0 ((Array.range (len*i'.size)).map (j.cells[· % j.cells.size]!)) A (by simp[c]);refine⟨s,?_,?_⟩
 .apply List.ext_getElem?;intro k;rw[Gm,U k ω];simp
 .have hpos:0<len\/len=0:=ω;have g:Instr.fill (λi=>some (i*i'.size,i'.size)) ((Array.range (len*i'.size)).map (j.cells[· % j.cells.size]!)) ((b.map λ(i,x)=>(i,a.eval x)).toList)=some s:=(by rw[<-X,<-Ay8 b.toList a.eval 0 (by rw[hp,c])];simp);rcases hpos with hpos|hpos
  .have E:¬len*i'.size=0:=(by have:=Nat.mul_pos hpos Z;omega);have q:¬len*i'.size>2 ^ 24:=ω;have f:Instr.fill (λi=>some (i*i'.size,i'.size)) ((Array.range (len*i'.size)).map (j.cells[· % j.cells.size]!)) (b.toList.map λx=>(x.1,a.eval x.2))=some s:=(by rw[<-g];simp);simp[execOp,R,Instr.buildSlice,run_underlying L,N,q,E,y,f,newRow,newObj,Sem.run]
  .subst hpos;have I:s = #[]:=(by apply Array.eq_empty_of_size_eq_zero;rw[V];simp);subst I;have B:b = #[]:=(by apply Array.eq_empty_of_size_eq_zero;simpa using c);subst B;have:(Array.map (λ_:Nat=>(default:Value)) (Array.range 0)) = #[]:=ψ;simp[execOp,R,Instr.buildSlice,run_underlying L,N,newRow,newObj,Sem.run,Instr.fill,this]
theorem Ab7 {t:TypeId} {len:Nat} {b:Array (Nat×Operand)} {p:Nat×Operand} (h:p∈b.toList):p.2∈(Op.buildSlice t len b).operands.toList:=by simp only[Op.operands];simpa using ⟨p.1,by simpa using h⟩
theorem Ams {T:C6} (B:C7 P T) {t:TypeId} {len:Nat} {b:Array (Nat×Operand)} {i i':TI} {e:TypeId} (z:o.op = .buildSlice t len b) (ht:T t=some i) (hd:i.d = .slice e) (I:T e=some i') (A:0<i'.size) (hp:b.toList.map (·.1)=List.range' 0 len) (y:len*i'.size<=16777216) (h:∀p∈b.toList,Lw i'.size (ρ p.2)=true) : Cl P o ρ ⟨.sl i'.size (b.toList.map λp=>ρ p.2),[],[]⟩:=by
  intro σ ι H F W w a next Q s k _ hk
  have l:b.toList.length=len:=(by have:=congrArg List.length hp;simpa using this);have u:∀p∈b.toList,(a.eval p.2).cells.size=i'.size:=(by intro p f;rw[((k p.2 (by rw[z];exact Ab7 f)).cells).1];exact (Ob (h p f)).1);obtain⟨C,J,D⟩:=Amr (P:=P) (a:=a) (w:=w) z (B t i ht) hd (B e i' I) A hp y u;obtain⟨G,g,g1,g2⟩:=Aha (σ:=σ) (ι:=ι) (H:=H) (sz:=i'.size) (b.toList.map λp=>ρ p.2) (b.toList.map λp=>a.eval p.2) ψ (by intro x hx;simp only[List.mem_map]at hx;obtain⟨p,f,rfl⟩:=hx;exact h p f) (by intro j x v h1 h2;rw[List.getElem?_map]at h1 h2;cases hj:b.toList[j]? with| none=>rw[hj]at h1;simp at h1| some p=>rw[hj]at h1 h2;simp at h1 h2;subst h1;subst h2;exact k p.2 (by rw[z];exact Ab7 (F6 hj)))
  obtain⟨s',le⟩:=s.newFrozen (.cells C e);refine F1 D (hk _ ι _ _ le s' (.cc ?_));have E:len<=140737488355328:=(by have:len*1<=len*i'.size:=Nat.mul_le_mul_left len A;omega);have:=CC.sl (σ:=Bg σ w.heap.size (some (.cells C e))) (b.toList.map λp=>ρ p.2) w.heap.size 0 len i'.size C e (0,0) g (Cy _ _ _)
    (by intro j x hj
        rw[List.getElem?_map]at hj
        cases hj':b.toList[j]? with
        | none=>rw[hj']at hj;simp at hj
        | some p=>rw[hj']at hj;simp at hj;subst hj;exact (Ob (h p (F6 hj'))).1) (λj x q c h1 h2=>((g1 j x q c h1 h2).1).mono le.sto) (λj x q c h1 h2=>(g1 j x q c h1 h2).2) (by intro j q hj hq;rw[Nat.zero_add,<-Gm,J];exact g2 j q hj hq) (by rw[List.length_map];omega) (by rw[List.length_map];omega)
  rw[List.length_map,l]at this;exact this
theorem Ay9 {T:C6} (I:C7 P T) {t:TypeId} {len:Nat} {b:Array (Nat×Operand)} {i i':TI} {e:TypeId} (h:Nat) (E:o.op = .buildSlice t len b) (ht:T t=some i) (hd:i.d = .slice e) (R:T e=some i') (z:0<i'.size)
  (hp:b.toList.map (·.1)=List.range' 0 len) (B:len*i'.size<=16777216) (f:∀p∈b.toList,Lw i'.size (ρ p.2)=true) :
  Cl P o ρ ⟨.arr h len 0 len,[(h,.none)],[(h,.rows e i'.size (b.toList.map λp=>ρ p.2))]⟩:=by
 intro σ ι H F W w a next Q s k D hk
 have M:H h = .none:=D (h,.none) ψ
 have l:b.toList.length=len:=by have:=congrArg List.length hp;simpa using this
 have A:∀p∈b.toList,(a.eval p.2).cells.size=i'.size:=by
  intro p c
  rw[((k p.2 (by rw[E];exact Ab7 c)).cells).1]
  exact (Ob (f p c)).1
 obtain⟨C,J,L⟩:=Amr (P:=P) (a:=a) (w:=w) E (I t i ht) hd (I e i' R) z hp B A
 obtain⟨G,g,g1,g2⟩:=Aha (σ:=σ) (ι:=ι) (H:=H) (sz:=i'.size) (b.toList.map λp=>ρ p.2) (b.toList.map λp=>a.eval p.2) ψ
  (by intro x hx;simp only[List.mem_map]at hx;obtain⟨p,c,rfl⟩:=hx;exact f p c)
  (by
   intro j x v h1 h2
   rw[List.getElem?_map]at h1 h2
   cases hj:b.toList[j]? with
   | none=>rw[hj]at h1;simp at h1
   | some p=>
    rw[hj]at h1 h2;simp at h1 h2;subst h1;subst h2
    exact k p.2 (by rw[E];exact Ab7 (F6 hj)))
 have N:len<=140737488355328:=by
  have:len*1<=len*i'.size:=Nat.mul_le_mul_left len z
  omega
 obtain⟨s',le⟩:=s.newRows h e i'.size (b.toList.map λp=>ρ p.2) len C (.inl M) z (by rw[List.length_map];omega) (by rw[List.length_map];omega)
  (by rw[<-Array.length_toList,J,G,List.length_map,l]) ⟨g,(by
    intro j x hj
    rw[List.getElem?_map]at hj
    cases hj':b.toList[j]? with
    | none=>rw[hj']at hj;simp at hj
    | some p=>rw[hj']at hj;simp at hj;subst hj;exact (Ob (f p (F6 hj'))).1),g1,(by
    intro j q hj hq;rw[<-Gm,J];exact g2 j q hj hq)⟩
 refine F1 L (hk _ _ _ _ le s' ?_)
 refine .arr h len 0 len _ (by show Bg H h _ h≠_;rw[Cy];intro e;cases e) (λS y u e'=>?_) rfl
 have e':Bg H h _ h = .rows S y u:=e'
 rw[Cy]at e';cases e'
 refine⟨by rw[List.length_map];omega,λ_=>?_⟩
 rw[Cy]
 exact⟨ω,by rw[Nat.zero_mul];rfl⟩
def Fv (i:TI):AV := match i.d,i.zero with
 | .struct _,z=>.agg (z.map .val)
 | _,[v]=>.val v
 | _,z=>.agg (z.map .val)
theorem Amt {T:C6} (hT:C7 P T) {t:TypeId} {x y:Operand} {i i':TI} {e:TypeId} {k k':IntKind} {l c:Nat} (z0:AV) (h:Nat) (X:o.op = .makeSlice t x y) (ht:T t=some i) (hd:i.d = .slice e) (he:T e=some i') (hz:0<i'.size)
  (hx:ρ x = .val (.int k (l:Int))) (hy:ρ y = .val (.int k' (c:Int))) (a1:l<=c) (hb:i'.bytes*c<=281474976710656) (hc:c<=140737488355328) (a7:z0.cells.length=i'.size) (a6:i'.zero.length=i'.size) (S:∀(q:Nat) (c:AV) (v:Value),z0.cells[q]? = some c->i'.zero[q]? = some v->(∀σ,CC σ c v)/\E6 v=true) :
  Cl P o ρ ⟨.arr h l 0 l,[(h,.none)],[(h,.rows e i'.size (List.replicate l z0))]⟩:=by
 intro σ ι H F W w a next Q s E U hk
 have hn:H h = .none:=U (h,.none) ψ
 have h1:=Dv hx (E x (by simp[X,Op.operands]))
 have h2:=Dv hy (E y (by simp[X,Op.operands]))
 obtain⟨a8,u,z,k1,k2,k3,k4,k5,k6,k7⟩:=Ez (hT t i ht)
 rw[hd]at k7;subst k7
 obtain⟨A,u',b,R,ab,N,M,L,D,aa⟩:=Ez (hT e i' he)
 have g:=run_make (P:=P) w t e A b k2 R N k k' (l:Int) (c:Int) ω ω (by
   have h':((i'.bytes*c:Nat):Int)<=281474976710656:=ω
   rw[Int.natCast_mul]at h';rw[L];exact h') ω
 rw[Int.toNat_natCast,Int.toNat_natCast,M]at g
 have f:b.cells.size=i'.size:=by
  rw[<-a6,D,Array.length_toList]
 have B:∀q,q<c*i'.size->(madeCells b.cells (c*i'.size))[q]? = b.cells[q % i'.size]?:=by
  intro q hq
  unfold madeCells
  have hm:q % i'.size<b.cells.size:=by rw[f];exact Nat.mod_lt _ hz
  have Y:b.cells[q % i'.size]! = b.cells[q % i'.size]:=by simp[hm]
  simp[hq,f,Y]
 obtain⟨s',le⟩:=s.newRows h e i'.size (List.replicate l z0) c (madeCells b.cells (c*i'.size)) (.inl hn) hz ζ (by simpa using a1) (by simp[madeCells])
  ⟨λ_ j=>(b.cells[j]?).getD undef,(by
   intro j x' hj
   have:=F6 hj
   simp at this
   rw[this.2];exact a7),(by
   intro j x' q c' hj hq
   have:=F6 hj
   simp at this
   rw[this.2]at hq
   have V:q<b.cells.size:=by
    have:=(Gl.1 hq).1
    omega
   have hv:b.cells[q]? = some b.cells[q]:=Array.getElem?_eq_getElem V
   have:=S q c' b.cells[q] hq (by rw[D,Gm,hv])
   show CC σ c' ((b.cells[q]?).getD undef)/\E6 ((b.cells[q]?).getD undef)=true
   rw[hv]
   exact⟨this.1 σ,this.2⟩),(by
   intro j q hj hq
   have hj':j<l:=by simpa using hj
   have Z:j*i'.size+q<c*i'.size:=by
    have:(j+1)*i'.size<=c*i'.size:=Nat.mul_le_mul_right _ ω
    rw[Eh]at this;omega
   rw[B _ Z]
   have:(j*i'.size+q) % i'.size=q:=by rw[Nat.mul_comm,Nat.mul_add_mod,Nat.mod_eq_of_lt hq]
   rw[this]
   have G:q<b.cells.size:=ω
   simp[G])⟩
 refine F1 (v:=.slice (some ⟨w.heap.size,0,none⟩) l c) ?_ (hk _ _ _ _ le s' ?_)
 .simp[execOp,X,h1,h2,g]
 .refine .arr h l 0 l _ (by show Bg H h _ h≠_;rw[Cy];intro e;cases e) (λE' J I e'=>?_) rfl
  have e':Bg H h _ h = .rows E' J I:=e'
  rw[Cy]at e';cases e'
  refine⟨ψ,λ_=>?_⟩
  rw[Cy]
  exact⟨ω,by rw[Nat.zero_mul];rfl⟩
theorem Aza {T:C6} (D:C7 P T) {t:TypeId} {x y:Operand} {i i':TI} {e:TypeId} {k u:IntKind} {l c:Nat} (h:Nat) (A:o.op = .makeSlice t x y) (ht:T t=some i) (hd:i.d = .slice e) (B:T e=some i') (z:0<i'.size) (hx:ρ x = .val (.int k (l:Int))) (hy:ρ y = .val (.int u (c:Int))) (f:l<=c) (hb:i'.bytes*c<=281474976710656) (hc:c<=140737488355328) (g:Lw i'.size (Fv i')=true) (b:(Fv i').cells=i'.zero.map .val) : Cl P o ρ ⟨.arr h l 0 l,[(h,.none)],[(h,.rows e i'.size (List.replicate l (Fv i')))]⟩:=by obtain⟨s,E⟩:=Ob g;refine Amt D (Fv i') h A ht hd B z hx hy f hb hc s (by rw[<-s,b,List.length_map]) ?_;intro q G v hq hv;have j:=E G (F6 hq);rw[b,List.getElem?_map,hv]at hq;simp at hq;subst hq;exact⟨λσ=>.val v,j⟩
inductive Gn:List AV->List AV->Prop
 | nil:Gn [] []
 | same (c:AV) {l l':List AV} (h:Gn l l'):Gn (c::l) (c::l')
 | sl (s:Nat) {l l':List AV} (h:Gn l l'):Gn (.val (.slice none 0 0)::l) (.sl s []::l')
theorem Gn.spec {l g:List AV} (h:Gn l g):g.length=l.length/\∀(q:Nat) (c f:AV),l[q]? = some c->g[q]? = some f->f=c\/∃s,c = .val (.slice none 0 0)/\f = .sl s []:=by
 induction h with
 | nil=>exact⟨rfl,λq c f h=>by simp at h⟩
 | same c h ih=>refine⟨by simp[ih.1],λq a b h1 h2=>?_⟩;cases q with| zero=>cases h1;cases h2;exact .inl rfl| succ q=>exact ih.2 q a b h1 h2
 | sl s h ih=>refine⟨by simp[ih.1],λq a b h1 h2=>?_⟩;cases q with| zero=>cases h1;cases h2;exact .inr ⟨s,rfl,rfl⟩| succ q=>exact ih.2 q a b h1 h2
theorem Azb {T:C6} (I:C7 P T) {t:TypeId} {x y:Operand} {i i':TI} {e:TypeId} {k A:IntKind} {l c:Nat} (z0:AV) (h:Nat) (D:o.op = .makeSlice t x y) (ht:T t=some i) (hd:i.d = .slice e) (G:T e=some i') (B:0<i'.size) (hx:ρ x = .val (.int k (l:Int))) (hy:ρ y = .val (.int A (c:Int))) (g:l<=c) (hb:i'.bytes*c<=281474976710656) (hc:c<=140737488355328) (j:Lw i'.size (Fv i')=true) (b:(Fv i').cells=i'.zero.map .val) (E:Gn (Fv i').cells z0.cells) : Cl P o ρ ⟨.arr h l 0 l,[(h,.none)],[(h,.rows e i'.size (List.replicate l z0))]⟩:=by
 obtain⟨L,J⟩:=Ob j;obtain⟨N,z⟩:=E.spec;refine Amt I z0 h D ht hd G B hx hy g hb hc ω (by rw[<-L,b,List.length_map]) ?_;intro q M v hq hv;have f:(Fv i').cells[q]? = some (.val v):=by rw[b,List.getElem?_map,hv];rfl
 have u:=J _ (F6 f);rcases z q _ M f hq with rfl|⟨s,h1,rfl⟩
 .exact⟨λσ=>.val v,u⟩
 .cases h1;exact⟨λσ=>.nil s _ _,rfl⟩
end
end Go.Ab
namespace Go.Ab
section
variable {P:Program} {o:Oper} {ρ:Operand->AV} {a:Act} {w w':World} {next:Act->World->Prop} {Q:Exit->Act->World->Prop}
structure Lx (P:Program) (w:World) (src:Value) (sz n:Nat) (Cp:List Value):Prop where
 len:∀d,(Builtin.lenOf src).run P {w with drawn:=d} = .ok n {w with drawn:=d}
 cells:∀d,(Builtin.firstCells sz n src).run P {w with drawn:=d} = .ok Cp.toArray {w with drawn:=d}
 size:Cp.length=n*sz
theorem Kl {t:TypeId} {i:TI} {e:TypeId} (h:Im P t=some i) (hd:i.d = .slice e):∃u,P.underlying t=some u/\u = .slice e:=by obtain⟨c,u,z,q,f,l,k,j,g,b⟩:=Ez h;rw[hd]at b;exact⟨u,f,b⟩
theorem Amu {t q ty e:TypeId} {i:TypeInfo} {j:TypeDesc} (ht:P.underlying t=some (.slice e)) (ht':P.underlying q=some j) (k:(∃e',j = .slice e')\/j = .string) (hi:P.info? e=some i) (b:Addr) (c f n:Nat) (g:Value) (Cp:List Value) (s:Lx P w g i.size n Cp) (h:c+n<=f) (l:(storeCells (b.add (c*i.size)) Cp).run P w = .ok () w') : (Builtin.append_ #[t,q] ty #[.slice (some b) c f,g]).run P w = .ok (.slice (some b) (c+n) f) w':=by have h1:=s.len w.drawn;have h2:=s.cells w.drawn;have u:({w with drawn:=w.drawn}:World)=w:=rfl;rw[u]at h1 h2;rcases k with⟨e',rfl⟩|rfl <;> simp[Builtin.append_,run_underlying ht,run_underlying ht',sizeOf,typeInfo,hi,h1,h,h2,l]
theorem Azc {t g ty e:TypeId} {i:TypeInfo} {c:TypeDesc} (ht:P.underlying t=some (.slice e)) (ht':P.underlying g=some c) (f:(∃e',c = .slice e')\/c = .string) (hi:P.info? e=some i) (b:Value) (h:Lx P w b i.size 0 []) : (Builtin.append_ #[t,g] ty #[.slice none 0 0,b]).run P w = .ok (.slice none 0 0) w:=by have h1:=h.len w.drawn;have h2:=h.cells w.drawn;have j:({w with drawn:=w.drawn}:World)=w:=rfl;rw[j]at h1 h2;rcases f with⟨e',rfl⟩|rfl <;> simp[Builtin.append_,run_underlying ht,run_underlying ht',sizeOf,typeInfo,hi,h1,h2]
theorem Ahb {t q ty e:TypeId} {i:TypeInfo} {k:TypeDesc} {z:Value} (ht:P.underlying t=some (.slice e)) (ht':P.underlying q=some k) (l:(∃e',k = .slice e')\/k = .string) (hi:P.info? e=some i) (u:i.zero=some z) (p:Option Addr) (b c n:Nat) (g:Value) (f Cp:List Value) (s:Lx P w g i.size n Cp) (x:Lx P w (.slice p b c) i.size b f) (hg:c<b+n) (A:b+n<=9223372036854775807) (hb:(b+n)*i.bytes<=140737488355328) : (Builtin.append_ #[t,q] ty #[.slice p b c,g]).run P w =
   .ok (.slice (some ⟨w.heap.size,0,none⟩) (b+n) (grownCap w (b+n) c e)) (w.drew.alloc (.cells ((f++Cp).toArray++Builtin.zeroCells z.cells (grownCap w (b+n) c e-(b+n))) e)):=by
 have h1:=s.len w.drawn;have h2:=s.cells (w.drawn+1);have h3:=x.cells (w.drawn+1);have D:({w with drawn:=w.drawn}:World)=w:=rfl;have B:({w with drawn:=w.drawn+1}:World)=w.drew:=rfl;rw[D]at h1;rw[B]at h2 h3;have y:¬(b+n<=c):=ω;have h:¬(9223372036854775807<((b:Int)+(n:Int))):=ω;have j:¬(281474976710656<Builtin.nextslicecap (b+n) c*i.bytes):=by have:=growslice_fits hg hb;omega
 rcases l with⟨e',rfl⟩|rfl <;> simp[Builtin.append_,run_underlying ht,run_underlying ht',sizeOf,typeInfo,zeroValue,hi,u,h1,y,h,j,Question.forced,h2,h3,newRow,grownCap] <;>
 (congr 2;apply Array.ext';simp[List.append_assoc])
theorem Ab8 (w:World) (b c:Nat) (e:TypeId):b<=grownCap w b c e:=by unfold grownCap;show b<=b+_;omega
theorem Ab9 {σ:A5} {ι:B9} {H:Hp} {F:A5} {W:World} (s:St σ ι H F W w) {sz:Nat} (u:0<sz) {ys:List AV} {v:Value} (hc:CC σ (.sl sz ys) v) : ∃(Cp:List Value) (g:Nat->Nat->Value),Lx P w v sz ys.length Cp/\(∀(i:Nat) (x:AV),ys[i]? = some x->x.cells.length=sz) /\ (∀(i:Nat) (x:AV) (j:Nat) (c:AV),ys[i]? = some x->x.cells[j]? = some c->CC σ c (g i j)/\E6 (g i j)=true)/\(∀(i j:Nat),i<ys.length->j<sz->Cp[i*sz+j]? = some (g i j)):=by
 rcases hc.sl_inv with⟨rfl,p,cap,rfl⟩|⟨b,off,cap,C,E,fr,g,rfl,z,A,l,B,I,y⟩
 .refine⟨[],λ_ _=>undef,⟨λd=>by simp[Builtin.lenOf],λd=>?_,ψ⟩,ψ,ψ,ψ⟩;cases p with| none=>simp[Builtin.firstCells]| some a=>simp[Builtin.firstCells,loadCells,loadCellsFrom]
 .refine⟨(List.range (ys.length*sz)).map λq=>g (q / sz) (q % sz),g,⟨λd=>by simp[Builtin.lenOf],λd=>?_,ψ⟩,A,l,λi j hi hj=>?_⟩
  .have hb:({w with drawn:=d}:World).heap[b]? = some (.cells C E fr):=s.sto _ _ z;have:=run_loadCells (P:=P) {w with drawn:=d} ⟨b,off,none⟩ (ys.length*sz) (λq=>g (q / sz) (q % sz)) (by intro q hq;rw[K9,J6 hb];have h:q / sz<ys.length:=Nat.div_lt_of_lt_mul (by rwa [Nat.mul_comm]at hq);have f:q % sz<sz:=Nat.mod_lt _ u;have:=B (q / sz) (q % sz) h f;rw[<-this];congr 1;have:=Nat.div_add_mod q sz;rw[Nat.mul_comm]at this;omega);simp only[Builtin.firstCells];exact this
  .have k:i*sz+j<ys.length*sz:=(by have:(i+1)*sz<=ys.length*sz:=Nat.mul_le_mul_right _ ω;rw[Eh]at this;omega);rw[List.getElem?_map,List.getElem?_range k];have G:(i*sz+j) / sz=i:=(by rw[Nat.mul_comm,Nat.mul_add_div u,Nat.div_eq_of_lt hj];omega);have D:(i*sz+j) % sz=j:=(by rw[Nat.mul_comm,Nat.mul_add_mod,Nat.mod_eq_of_lt hj]);simp[G,D]
theorem Il.append {σ:A5} {sz:Nat} {xs ys:List AV} {C q:Array Value} (hx:Il σ sz xs C) (f:Nat->Nat->Value) (h1:∀(i:Nat) (x:AV),ys[i]? = some x->x.cells.length=sz) (h2:∀(i:Nat) (x:AV) (j:Nat) (c:AV),ys[i]? = some x->x.cells[j]? = some c->CC σ c (f i j)/\E6 (f i j)=true) (l:∀k:Nat,k<xs.length*sz->q[k]? = C[k]?) (h:∀(i j:Nat),i<ys.length->j<sz->q[(xs.length+i)*sz+j]? = some (f i j)):Il σ sz (xs++ys) q:=by
 obtain⟨g,y,u,s⟩:=hx;refine⟨λi j=>if i<xs.length then g i j else f (i-xs.length) j,?_,?_,?_⟩
 .intro i x hi;by_cases b:i<xs.length
  .rw[List.getElem?_append_left b]at hi;exact y i x hi
  .rw[List.getElem?_append_right ω]at hi;exact h1 _ x hi
 .intro i x j c hi hj;by_cases b:i<xs.length
  .rw[List.getElem?_append_left b]at hi;simp only[if_pos b];exact u i x j c hi hj
  .rw[List.getElem?_append_right ω]at hi;simp only[if_neg b];exact h2 _ x j c hi hj
 .intro i j hi hj;by_cases b:i<xs.length
  .simp only[if_pos b];rw[l _ (by have:(i+1)*sz<=xs.length*sz:=Nat.mul_le_mul_right _ ω;rw[Eh]at this;omega)];exact s i j b hj
  .simp only[if_neg b];have:=h (i-xs.length) j (by simp at hi;omega) hj;rwa [show xs.length+(i-xs.length)=i by omega]at this
theorem Aca {σ:A5} {ι:B9} {H:Hp} {F:A5} {W:World} (s:St σ ι H F W w) {t t' ty e:TypeId} {i:TI} {u':TypeDesc} (ht:P.underlying t=some (.slice e)) (ht':P.underlying t'=some u') (L:(∃e',u' = .slice e')\/u' = .string) (he:Im P e=some i) (hz:0<i.size) (a7:i.zero.length=i.size) {h:Nat} {xs ys:List AV} (hh:H h = .rows e i.size xs) {v q:Value} (hv:G4 (ι h) i.size 0 xs.length v) (ad:1<=i.bytes) (hb:(xs.length+ys.length)*i.bytes<=140737488355328) {Cp:List Value} {g:Nat->Nat->Value} (B:Lx P w q i.size ys.length Cp) (h1:∀(i':Nat) (x:AV),ys[i']? = some x->x.cells.length=i.size) (h2:∀(i':Nat) (x:AV) (j:Nat) (c:AV),ys[i']? = some x->x.cells[j]? = some c->CC σ c (g i' j)/\E6 (g i' j)=true) (h3:∀(i' j:Nat),i' < ys.length->j<i.size->Cp[i' * i.size+j]? = some (g i' j)) (X:∀u∈Cp,E6 u=true) : ∃(ι':B9) (v':Value) (w':World),(Builtin.append_ #[t,t'] ty #[v,q]).run P w = .ok v' w'/\Le σ ι H σ ι' (Bg H h (.rows e i.size (xs++ys)))/\St σ ι' (Bg H h (.rows e i.size (xs++ys))) F W w' /\ G4 (ι' h) i.size 0 (xs.length+ys.length) v':=by
 obtain⟨M,u,z,k1,k2,k3,N,k5,k6,k7⟩:=Ez he;have l:xs.length+ys.length<=140737488355328:=by have:(xs.length+ys.length)*1<=(xs.length+ys.length)*i.bytes:=Nat.mul_le_mul_left _ ad;omega
 have a8:z.cells.size=i.size:=by rw[<-a7,k6];simp
 have A:∀n,(Builtin.zeroCells z.cells n).size=n*i.size:=by intro n;simp[Builtin.zeroCells,a8]
 have E:=s.obj h;unfold C1 at E;rw[hh]at E;obtain⟨_,_,E⟩:=E;unfold G4 at hv;split at hv
 .rename_i Z;obtain⟨rfl,_,ab⟩:=hv;have aa:xs = []:=List.eq_nil_of_length_eq_zero ab;subst aa;by_cases hy:ys = []
  .subst hy;have U:Cp = []:=List.eq_nil_of_length_eq_zero (by rw[B.size];simp);subst U;refine⟨ι,.slice none 0 0,w,Azc ht ht' L k1 q (by rw[N];exact B),?_,?_,?_⟩
   .rw[List.append_nil,<-hh,I9];exact Le.refl _ _ _
   .rw[List.append_nil,<-hh,I9];exact s
   .rw[Z];exact⟨rfl,rfl,rfl⟩
  .have hpos:0<ys.length:=List.length_pos_iff.2 hy;have ho:Lx P w (.slice none 0 0) M.size 0 []:=⟨λd=>by simp[Builtin.lenOf],λd=>by simp[Builtin.firstCells],ψ⟩;have S:=Ahb (P:=P) (ty:=ty) (w:=w) ht ht' L k1 k3 none 0 0 ys.length q [] Cp (by rw[N];exact B) ho ω (by simp at l;omega) (by rw[k5];simpa using hb);rw[Nat.zero_add,List.nil_append]at S;have hge:=Ab8 w ys.length 0 e;obtain⟨s',le⟩:=(s.drew (w.drawn+1)).newRows h e i.size ([]++ys) (grownCap w ys.length 0 e) (Cp.toArray++Builtin.zeroCells z.cells (grownCap w ys.length 0 e-ys.length)) (.inr ⟨e,i.size,[],hh,by simpa using hpos⟩) hz (by simpa using l) (by simpa using hge) (by rw[Array.size_append,A];simp[B.size,<-Eh];rw[Nat.add_sub_cancel' hge]) ⟨g,(by simpa using h1),(by simpa using h2),(by intro i' j hi hj;simp only[List.nil_append]at hi;have G:i' * i.size+j<Cp.length:=(by have:(i' + 1)*i.size<=ys.length*i.size:=Nat.mul_le_mul_right _ ω;rw[Eh]at this;rw[B.size];omega);rw[Array.getElem?_append_left (by simpa using G),List.getElem?_toArray];exact h3 i' j hi hj)⟩;refine⟨_,_,_,S,le,s',?_⟩;rw[Cy];simp only[List.length_nil,Nat.zero_add];exact⟨ω,by rw[Nat.zero_mul];rfl⟩
 .rename_i b f y;obtain⟨ac,rfl⟩:=hv;rcases E with⟨e1,_⟩|⟨b',ae,C,e1,p1,p2,p3,p4,p5,p6⟩
  .rw[y]at e1;cases e1
  rw[y]at e1;cases e1;by_cases J:xs.length+ys.length<=f
  .have R:xs.length*i.size+Cp.length<=C.size:=(by rw[B.size,<-Eh,p4];exact Nat.mul_le_mul_right _ J);have V:=run_storeCells_at (P:=P) b (xs.length*i.size) e Cp 0 C w p3 (by simpa using R) (λu hu=>by rw[Ag0];exact X u hu);simp only[Nat.add_zero]at V;have S:=Amu (P:=P) (ty:=ty) (w:=w) ht ht' L k1 ⟨b,0,none⟩ xs.length f ys.length q Cp (by rw[N];exact B) J (by rw[K9,Nat.zero_add,N];exact V);have D:Il σ i.size (xs++ys) (C.toList.take (xs.length*i.size)++Cp++C.toList.drop (xs.length*i.size+Cp.length)).toArray:=by
    refine Il.append p6 g h1 h2 ?_ ?_
    .intro k hk;rw[U5 _ _ _ R,if_pos hk]
    .intro i' j hi hj;have G:i' * i.size+j<Cp.length:=(by have:(i' + 1)*i.size<=ys.length*i.size:=Nat.mul_le_mul_right _ ω;rw[Eh]at this;rw[B.size];omega);have e2:(xs.length+i')*i.size+j=xs.length*i.size+(i' * i.size+j):=(by rw[Eh];omega);rw[U5 _ _ _ R,e2,if_neg ω,if_pos ω,Nat.add_sub_cancel_left];exact h3 i' j hi hj
   have a6:(C.toList.take (xs.length*i.size)++Cp++C.toList.drop (xs.length*i.size+Cp.length)).toArray.size=f*i.size:=ζ;by_cases hy:ys = []
   .subst hy;obtain⟨s',le⟩:=s.setRows h e i.size xs (xs++[]) hh b f y ψ _ a6 D;refine⟨ι,_,_,by simpa using S,le,s',?_⟩;rw[y];exact⟨by simpa using ac,ψ⟩
   .have hpos:0<ys.length:=List.length_pos_iff.2 hy;obtain⟨s',le⟩:=s.growIn h e i.size xs (xs++ys) hh b f y ζ (by simpa using l) (by simpa using J) _ a6 D;refine⟨ι,_,_,by simpa using S,le,s',?_⟩;rw[y];exact⟨ω,ψ⟩
  .have Y:Lx P w (.slice (some ⟨b,0*i.size,none⟩) xs.length (f-0)) M.size xs.length (C.toList.take (xs.length*i.size)):=by
    refine⟨λd=>by simp[Builtin.lenOf],λd=>?_,?_⟩
    .have hb':({w with drawn:=d}:World).heap[b]? = some (.cells C e (0,0)):=p3;have I:(C.toList.take (xs.length*i.size)).length=xs.length*i.size:=(by have:C.toList.length=f*i.size:=(by rw[Array.length_toList,p4]);rw[List.length_take,this];exact Nat.min_eq_left (Nat.mul_le_mul_right _ p5));have:=run_loadCells_list (P:=P) {w with drawn:=d} ⟨b,0,none⟩ (C.toList.take (xs.length*i.size)) (by intro j u hj;have G:j<xs.length*i.size:=(by have:=(Gl.1 hj).1;omega);rw[Hm G,Gm]at hj;rw[K9,Nat.zero_add,J6 hb'];exact hj);rw[I]at this;simp only[Builtin.firstCells,Nat.zero_mul,N];exact this
    .have:C.toList.length=f*i.size:=(by rw[Array.length_toList,p4]);rw[N,List.length_take,this];exact Nat.min_eq_left (Nat.mul_le_mul_right _ p5)
   have S:=Ahb (P:=P) (ty:=ty) (w:=w) ht ht' L k1 k3 (some ⟨b,0*i.size,none⟩) xs.length (f-0) ys.length q _ Cp (by rw[N];exact B) Y ω ω (by rw[k5];exact hb);have hge:=Ab8 w (xs.length+ys.length) (f-0) e;have I:(C.toList.take (xs.length*i.size)).length=xs.length*i.size:=(by have:C.toList.length=f*i.size:=(by rw[Array.length_toList,p4]);rw[List.length_take,this];exact Nat.min_eq_left (Nat.mul_le_mul_right _ p5));have hpos:0<ys.length:=ω;have a1:(C.toList.take (xs.length*i.size)++Cp).length=(xs.length+ys.length)*i.size:=(by rw[List.length_append,I,B.size,Eh]);obtain⟨s',le⟩:=(s.drew (w.drawn+1)).newRows h e i.size (xs++ys) (grownCap w (xs.length+ys.length) (f-0) e) ((C.toList.take (xs.length*i.size)++Cp).toArray++Builtin.zeroCells z.cells (grownCap w (xs.length+ys.length) (f-0) e-(xs.length+ys.length))) (.inr ⟨e,i.size,xs,hh,ζ⟩) hz (by simpa using l) (by simpa using hge) (by rw[Array.size_append,A,List.size_toArray,a1,<-Eh,Nat.add_sub_cancel' hge]) (by
     refine Il.append p6 g h1 h2 ?_ ?_
     .intro k hk;rw[Array.getElem?_append_left (by rw[List.size_toArray,a1,Eh];omega),List.getElem?_toArray,List.getElem?_append_left ω,Hm hk,Gm]
     .intro i' j hi hj;have G:i' * i.size+j<Cp.length:=(by have:(i' + 1)*i.size<=ys.length*i.size:=Nat.mul_le_mul_right _ ω;rw[Eh]at this;rw[B.size];omega);have e2:(xs.length+i')*i.size+j=xs.length*i.size+(i' * i.size+j):=(by rw[Eh];omega);rw[Array.getElem?_append_left (by rw[List.size_toArray,List.length_append,I];omega),List.getElem?_toArray,e2,List.getElem?_append_right ω,I,Nat.add_sub_cancel_left];exact h3 i' j hi hj);refine⟨_,_,_,S,le,s',?_⟩;rw[Cy];exact⟨ω,by rw[Nat.zero_mul];rfl⟩
 .exact hv.elim
end
end Go.Ab
namespace Go.Ab
section
variable {P:Program} {o:Oper} {ρ:Operand->AV} {a:Act} {w w':World} {next:Act->World->Prop} {Q:Exit->Act->World->Prop}
theorem Acb {sz n:Nat} {Cp:List Value} {g:Nat->Nat->Value} (i:0<sz) (l:Cp.length=n*sz) {ys:List AV} (k:ys.length=n) (h1:∀(i':Nat) (x:AV),ys[i']? = some x->x.cells.length=sz) {σ:A5} (h2:∀(i':Nat) (x:AV) (j:Nat) (c:AV),ys[i']? = some x->x.cells[j]? = some c->CC σ c (g i' j)/\E6 (g i' j)=true) (h3:∀(i' j:Nat),i' < ys.length->j<sz->Cp[i' * sz+j]? = some (g i' j)) : ∀u∈Cp,E6 u=true:=by
 intro u hu;obtain⟨q,hq⟩:=List.getElem?_of_mem hu;have h:=(Gl.1 hq).1;have f:q / sz<ys.length:=by rw[k];exact Nat.div_lt_of_lt_mul (by rw[l,Nat.mul_comm]at h;exact h)
 have b:q % sz<sz:=Nat.mod_lt _ i;have e:=h3 (q / sz) (q % sz) f b;rw[show q / sz*sz+q % sz=q by have:=Nat.div_add_mod q sz;rw[Nat.mul_comm]at this;omega,hq]at e;cases e;have hx:=List.getElem?_eq_getElem f;have hc:(q % sz)<(ys[q / sz]).cells.length:=by rw[h1 _ _ hx];exact b
 exact (h2 _ _ _ _ hx (List.getElem?_eq_getElem hc)).2
theorem U6 {t f ty:TypeId} {x y:Operand} (h:o.op = .call {callee:=.builtin .append,args:=#[x,y],argTypes:=#[t,f]}) (b:o.type=ty) {c:Value} (g:(Builtin.append_ #[t,f] ty #[a.eval x,a.eval y]).run P w = .ok c w') : (execOp a.eval o).run P w = .ok (.value c) w':=by subst b;simp[execOp,h,resolve,invoke,builtin,g]
theorem Azd {T:C6} (S:C7 P T) {t A:TypeId} {x y:Operand} {i i' D:TI} {e e':TypeId} {h k:Nat} {xs ys:List AV} (M:o.op = .call {callee:=.builtin .append,args:=#[x,y],argTypes:=#[t,A]}) (ht:T t=some i) (hd:i.d = .slice e) (ht':T A=some D) (N:D.d = .slice e') (Y:T e=some i') (G:0<i'.size) (E:i'.zero.length=i'.size) (R:1<=i'.bytes) (hx:ρ x = .arr h k 0 k) (c:xs.length=k) (hy:ρ y = .sl i'.size ys) (hb:(xs.length+ys.length)*i'.bytes<=140737488355328) : Cl P o ρ ⟨.arr h (k+ys.length) 0 (k+ys.length),[(h,.rows e i'.size xs)],[(h,.rows e i'.size (xs++ys))]⟩:=by
 intro σ ι H F W w a next Q s l L hk
 have hh:H h = .rows e i'.size xs:=L (h,.rows e i'.size xs) ψ;have j:=l x (by simp[M,Op.operands,Call.operands]);have f:=l y (by simp[M,Op.operands,Call.operands]);rw[hx]at j;rw[hy]at f;have hv:=j.arr_inv hh c;rw[<-c]at hv;obtain⟨u1,J,e1⟩:=Kl (S t i ht) hd;obtain⟨u2,I,Z⟩:=Kl (S A D ht') N;subst e1;subst Z;obtain⟨Cp,g,U,h1,h2,h3⟩:=Ab9 (P:=P) s G f.sl_inv;obtain⟨V,z,w',X,le,s',b⟩:=Aca (P:=P) (ty:=o.type) s J I (.inl ⟨_,rfl⟩) (S e i' Y) G E hh hv R hb U h1 h2 h3 (Acb G U.size rfl h1 h2 h3);refine F1 (U6 M rfl X) (hk σ V z w' le s' ?_);have q:E6 z=true:=by
  unfold G4 at b;split at b
  .rw[b.1];rfl
  .rw[b.2];rfl
  .exact b.elim
 refine .arr _ _ _ _ z (by show Bg H h _ h≠_;rw[Cy];intro e;cases e) (λE' B u e'=>?_) q;have e':Bg H h _ h = .rows E' B u:=e';rw[Cy]at e';cases e';refine⟨by rw[List.length_append];omega,λ_=>?_⟩;rw[c]at b;exact b
def Jw (s:ByteArray):List AV:=s.data.toList.map λb=>.val (.int .u8 b.toNat)
theorem Aze (s:ByteArray):(Jw s).length=s.size:=by unfold Jw;rw[List.length_map,Array.length_toList];rfl
theorem Azf (s:ByteArray):∃(Cp:List Value) (g:Nat->Nat->Value),Lx P w (.string s) 1 (Jw s).length Cp/\(∀(i:Nat) (x:AV),(Jw s)[i]? = some x->x.cells.length=1) /\ (∀(σ:A5) (i:Nat) (x:AV) (j:Nat) (c:AV),(Jw s)[i]? = some x->x.cells[j]? = some c->CC σ c (g i j)/\E6 (g i j)=true)/\∀(i j:Nat),i<(Jw s).length->j<1->Cp[i*1+j]? = some (g i j):=by
 have f:=Aze s;refine⟨Lib.strCells s,λi _=>.int .u8 ((s.data.toList.getD i 0).toNat),⟨λd=>?_,λd=>?_,?_⟩,?_,?_,?_⟩
 .rw[f];simp[Builtin.lenOf]
 .rw[f];exact Lib.run_firstCells_string _ 1 s
 .rw[f,Lib.strCells_length];omega
 .intro i x hx;simp only[Jw,List.getElem?_map,Option.map_eq_some_iff]at hx;obtain⟨b,_,rfl⟩:=hx;rfl
 .intro σ i x j c hx hc;simp only[Jw,List.getElem?_map,Option.map_eq_some_iff]at hx;obtain⟨b,hb,rfl⟩:=hx;simp only[AV.cells]at hc;cases j with
  | zero=>simp at hc;subst hc;have e:s.data.toList.getD i 0=b:=(by rw[List.getD_eq_getElem?_getD,hb];rfl);dsimp only;rw[e];exact⟨.val _,rfl⟩
  | succ j=>simp at hc
 .intro i j hi hj;have hj:j=0:=ω;subst hj;have hi:i<s.data.toList.length:=(by unfold Jw at hi;rwa [List.length_map]at hi);have e:s.data.toList.getD i 0=s.data.toList[i]:=(by rw[List.getD_eq_getElem?_getD,List.getElem?_eq_getElem hi];rfl);dsimp only;rw[e];unfold Lib.strCells;rw[Nat.mul_one,Nat.add_zero,List.getElem?_map,List.getElem?_eq_getElem hi];rfl
theorem Azg {T:C6} (S:C7 P T) {t z:TypeId} {x y:Operand} {i i' B:TI} {e:TypeId} {h k:Nat} {xs:List AV} {s:ByteArray} (M:o.op = .call {callee:=.builtin .append,args:=#[x,y],argTypes:=#[t,z]}) (ht:T t=some i) (hd:i.d = .slice e) (ht':T z=some B) (N:B.d = .string) (he:T e=some i') (Y:i'.size=1) (D:i'.zero.length=i'.size) (R:1<=i'.bytes) (hx:ρ x = .arr h k 0 k) (c:xs.length=k) (hy:ρ y = .val (.string s)) (hb:(xs.length+(Jw s).length)*i'.bytes<=140737488355328) : Cl P o ρ ⟨.arr h (k+(Jw s).length) 0 (k+(Jw s).length),[(h,.rows e i'.size xs)],[(h,.rows e i'.size (xs++Jw s))]⟩:=by
 intro σ ι H F W w a next Q X j L hk
 have hh:H h = .rows e i'.size xs:=L (h,.rows e i'.size xs) ψ;have f:=j x (by simp[M,Op.operands,Call.operands]);have E:=Dv hy (j y (by simp[M,Op.operands,Call.operands]));rw[hx]at f;have hv:=f.arr_inv hh c;rw[<-c]at hv;obtain⟨u1,I,e1⟩:=Kl (S t i ht) hd;obtain⟨_,u2,_,_,G,_,_,_,_,U⟩:=Ez (S z B ht');rw[N]at U;subst e1;subst U;obtain⟨Cp,g,J,h1,h2,h3⟩:=Azf (P:=P) (w:=w) s;rw[<-Y]at J h1 h3;obtain⟨V,u,w',Z,le,s',b⟩:=Aca (P:=P) (ty:=o.type) X I G (.inr rfl) (S e i' he) ω D hh hv R hb J h1 (h2 σ) h3 (Acb ω J.size rfl h1 (h2 σ) h3);refine F1 (U6 M rfl (by rw[E];exact Z)) (hk σ V u w' le s' ?_);have l:E6 u=true:=by
  unfold G4 at b;split at b
  .rw[b.1];rfl
  .rw[b.2];rfl
  .exact b.elim
 refine .arr _ _ _ _ u (by show Bg H h _ h≠_;rw[Cy];intro e;cases e) (λE' A q e'=>?_) l;have e':Bg H h _ h = .rows E' A q:=e';rw[Cy]at e';cases e';refine⟨by rw[List.length_append];omega,λ_=>?_⟩;rw[c]at b;exact b
theorem Azh {T:C6} (S:C7 P T) {t z:TypeId} {x y:Operand} {i i' D:TI} {e e':TypeId} (h:Nat) {ys:List AV} (M:o.op = .call {callee:=.builtin .append,args:=#[x,y],argTypes:=#[t,z]}) (ht:T t=some i) (hd:i.d = .slice e) (ht':T z=some D) (N:D.d = .slice e') (Z:T e=some i') (k:0<i'.size) (E:i'.zero.length=i'.size) (R:1<=i'.bytes) (hx:ρ x = .val (.slice none 0 0)) (hy:ρ y = .sl i'.size ys) (hb:ys.length*i'.bytes<=140737488355328) : Cl P o ρ ⟨.arr h ys.length 0 ys.length,[(h,.none)],[(h,.rows e i'.size ys)]⟩:=by
 intro σ ι H F W w a next Q s f J hk
 have Y:H h = .none:=J (h,.none) ψ;have L:=Dv hx (f x (by simp[M,Op.operands,Call.operands]));have c:=f y (by simp[M,Op.operands,Call.operands]);rw[hy]at c;obtain⟨u1,I,e1⟩:=Kl (S t i ht) hd;obtain⟨u2,G,e2⟩:=Kl (S z D ht') N;subst e1;subst e2;obtain⟨s0,B⟩:=s.newNil h Y e i'.size k;obtain⟨Cp,g,U,h1,h2,h3⟩:=Ab9 (P:=P) s0 k c.sl_inv;obtain⟨V,u,w',X,le,s',b⟩:=Aca (P:=P) (ty:=o.type) (v:=.slice none 0 0) (xs:=[]) s0 I G (.inl ⟨_,rfl⟩) (S e i' Z) k E (Cy _ _ _) (by rw[Cy];exact⟨rfl,rfl,rfl⟩) R (by simpa using hb) U h1 h2 h3 (Acb k U.size rfl h1 h2 h3);have hH:Bg (Bg H h (.rows e i'.size [])) h (.rows e i'.size ([]++ys))=Bg H h (.rows e i'.size ys):=by
  funext m;by_cases l:m=h
  .subst l;rw[Cy,Cy];rfl
  .rw[Di _ _ l,Di _ _ l,Di _ _ l]
 rw[hH]at le s';simp only[List.length_nil,Nat.zero_add]at b;refine F1 (U6 M rfl (by rw[L];exact X)) (hk σ V u w' (B.trans le) s' ?_);have j:E6 u=true:=by
  unfold G4 at b;split at b
  .rw[b.1];rfl
  .rw[b.2];rfl
  .exact b.elim
 refine .arr _ _ _ _ u (by show Bg H h _ h≠_;rw[Cy];intro e;cases e) (λE' A q e'=>?_) j;have e':Bg H h _ h = .rows E' A q:=e';rw[Cy]at e';cases e';exact⟨Nat.le_refl _,λ_=>b⟩
theorem St.freeze {σ:A5} {ι:B9} {H:Hp} {F:A5} {W:World} (s:St σ ι H F W w) {h:Nat} {E:TypeId} {sz:Nat} {xs:List AV} (hh:H h = .rows E sz xs) : ∃u,Le σ ι H u ι (Bg H h .dead)/\St u ι (Bg H h .dead) F W w /\ ∀off len v,off+len<=xs.length->G4 (ι h) sz off len v->CC u (.sl sz ((xs.drop off).take len)) v:=by
 have k:=s.obj h;unfold C1 at k;rw[hh]at k;obtain⟨hz,hm,k⟩:=k;have f:∀u,σ.le u->Le σ ι H u ι (Bg H h .dead):=by intro u V;have:=Le.upd (ι:=ι) (H:=H) V h (ι h) .dead ⟨λ_ e=>e,(λ_ e=>by cases e),(λ_ E1 L J e=>by cases e)⟩;rwa [I9]at this
 rcases k with⟨B,Y⟩|⟨b,D,C,B,U,S,R,p4,p5,g,N,G,M⟩
 .subst Y;refine⟨σ,f σ (A5.le_refl _),?_,?_⟩
  .obtain⟨f1,f2⟩:=s.fresh;exact s.touch h w.heap.size (λ_ _=>rfl) (λx e=>Di _ _ e) (f σ (A5.le_refl _)) (λ_ _=>rfl) (λ_ _=>rfl) (λo z=>by rw[f1]at z;cases z) (λx e i hb=>by have:=(s.block i hb).1;omega) f2 (λb i hb=>by rw[Cy]at i;cases i) (by unfold C1;rw[Cy];trivial) rfl rfl rfl
  .intro off len v q hv;rw[B]at hv;obtain⟨rfl,rfl,rfl⟩:=hv;simp only[List.drop_nil,List.take_nil];exact .nil sz none 0
 .have q:σ.le (Bg σ b (some (.cells C E))):=(by intro Z o' hb';rw[Di _ _ (by intro e;subst e;rw[U]at hb';cases hb')];exact hb');refine⟨Bg σ b (some (.cells C E)),f _ q,?_,?_⟩
  .refine s.touch h b (λ_ _=>rfl) (λx e=>Di _ _ e) (f _ q) (λ_ _=>rfl) (λx e=>Di _ _ e) (λo z=>by rw[Cy]at z;cases z;exact R)
    (λx e i hb=>e (s.inj x h b i (by rw[hh];rfl) hb (by rw[B];rfl))) S (λZ i hb=>by rw[Cy]at i;cases i) (by unfold C1;rw[Cy];trivial) rfl rfl rfl
  .intro off len v I hv;rw[B]at hv;obtain⟨_,rfl⟩:=hv;have i:((xs.drop off).take len).length=len:=ζ;have l:∀(n:Nat) (y:AV),((xs.drop off).take len)[n]? = some y->n<len/\xs[off+n]? = some y:=(by intro n y hy;have A:n<len:=(by have:=(Gl.1 hy).1;omega);rw[Hm A,List.getElem?_drop]at hy;exact⟨A,hy⟩);have:=CC.sl (σ:=Bg σ b (some (.cells C E))) ((xs.drop off).take len) b (off*sz) (D-off) sz C E (0,0) (λn j=>g (off+n) j) (Cy _ _ _)
    (λn y hy=>N _ y (l n y hy).2) (λn y j c hy hj=>((G _ y j c (l n y hy).2 hj).1).mono q) (λn y j c hy hj=>(G _ y j c (l n y hy).2 hj).2) (λn j X hj=>by rw[i]at X;have:=M (off+n) j ω hj;rw[Eh]at this;exact this) (by rw[i];omega) (by rw[i];omega);rw[i]at this;exact this
theorem Azi {T:C6} (z:C7 P T) {x:Operand} {i i':TI} {e:TypeId} (h:Nat) (l:o.op = .assign x) (hx:ρ x = .val (.slice none 0 0)) (ht:T o.type=some i) (_hd:i.d = .slice e) (y:T e=some i') (q:0<i'.size) : Cl P o ρ ⟨.arr h 0 0 0,[(h,.none)],[(h,.rows e i'.size [])]⟩:=by
 intro σ ι H F W w a next Q s k g hk
 have _:=z;have _:=ht;have _:=y
 have u:H h = .none:=g (h,.none) ψ;have j:=Dv hx (k x (by simp[l,Op.operands]));obtain⟨s0,f⟩:=s.newNil h u e i'.size q;refine F1 (v:=.slice none 0 0) (by simp[execOp,l,j]) (hk σ _ _ w f s0 ?_);refine .arr _ _ _ _ _ (by show Bg H h _ h≠_;rw[Cy];intro e;cases e) (λA c b e'=>?_) rfl;have e':Bg H h _ h = .rows A c b:=e';rw[Cy]at e';cases e';exact⟨ψ,λ_=>by rw[Cy];exact⟨rfl,rfl,rfl⟩⟩
theorem Azj {x y:Operand} {t f:TypeId} {k g:IntKind} {m n:Int} (c:o.op = .call {callee:=.builtin .max,args:=#[x,y],argTypes:=#[t,f]}) (hx:ρ x = .val (.int k m)) (hy:ρ y = .val (.int g n)) : Cl P o ρ ⟨.val (.int k (if n>m then n else m)),[],[]⟩ := E7 λσ ι H a w b=>by have h1:=Dv hx (b x (by simp[c,Op.operands,Call.operands]));have h2:=Dv hy (b y (by simp[c,Op.operands,Call.operands]));exact⟨_,by simp[execOp,c,resolve,invoke,builtin,Builtin.max_,Builtin.max2,h1,h2],.of_val _⟩
theorem Azk {x y:Operand} {t f:TypeId} {k g:IntKind} {m n:Int} (c:o.op = .call {callee:=.builtin .min,args:=#[x,y],argTypes:=#[t,f]}) (hx:ρ x = .val (.int k m)) (hy:ρ y = .val (.int g n)) : Cl P o ρ ⟨.val (.int k (if n<m then n else m)),[],[]⟩ := E7 λσ ι H a w b=>by have h1:=Dv hx (b x (by simp[c,Op.operands,Call.operands]));have h2:=Dv hy (b y (by simp[c,Op.operands,Call.operands]));exact⟨_,by simp[execOp,c,resolve,invoke,builtin,Builtin.min_,Builtin.min2,h1,h2],.of_val _⟩
end
end Go.Ab
namespace Go.Ab
section
variable {P:Program} {o:Oper} {ρ:Operand->AV} {a:Act} {w w':World} {next:Act->World->Prop} {Q:Exit->Act->World->Prop}
def E8 {α:Type} (xs:List α) (d:Nat) (ys:List α):List α:=xs.take d++ys++xs.drop (d+ys.length)
theorem Amv {α:Type} {xs ys:List α} {d:Nat} (hd:d<=xs.length) (i:Nat):(E8 xs d ys)[i]? = if i<d then xs[i]? else if i<d+ys.length then ys[i-d]? else xs[i]?:=by
 unfold E8;have b:(xs.take d).length=d:=by rw[List.length_take];omega
 rw[List.append_assoc];by_cases h1:i<d
 .rw[if_pos h1,List.getElem?_append_left ω,Hm h1]
 .rw[if_neg h1,List.getElem?_append_right ω,b];by_cases h2:i<d+ys.length
  .rw[if_pos h2,List.getElem?_append_left ω]
  .rw[if_neg h2,List.getElem?_append_right ω,List.getElem?_drop];congr 1;omega
theorem X2 {α:Type} {xs ys:List α} {d:Nat} (hd:d<=xs.length):(E8 xs d ys).length=max xs.length (d+ys.length):=by unfold E8;simp only[List.length_append,List.length_take,List.length_drop];omega
structure Sr (σ:A5) (sz:Nat) (ys:List AV) (Cp:List Value) (g:Nat->Nat->Value):Prop where
 len:Cp.length=ys.length*sz
 el:∀(i:Nat) (x:AV),ys[i]? = some x->x.cells.length=sz
 cc:∀(i:Nat) (x:AV) (j:Nat) (c:AV),ys[i]? = some x->x.cells[j]? = some c->CC σ c (g i j)/\E6 (g i j)=true
 at_:∀(i j:Nat),i<ys.length->j<sz->Cp[i*sz+j]? = some (g i j)
theorem Il.patch {σ:A5} {sz d:Nat} {xs ys:List AV} {C l:Array Value} {Cp:List Value} {z:Nat->Nat->Value} (hx:Il σ sz xs C) (hd:d<=xs.length) (f:Sr σ sz ys Cp z)
  (b:∀q:Nat,q<d*sz\/(d+ys.length)*sz<=q->l[q]? = C[q]?) (k:∀q,q<ys.length*sz->l[d*sz+q]? = Cp[q]?):Il σ sz (E8 xs d ys) l:=by
 obtain⟨g,y,u,s⟩:=hx
 refine⟨λi j=>if i<d then g i j else if i<d+ys.length then z (i-d) j else g i j,?_,?_,?_⟩
 .intro i x hi
  rw[Amv hd]at hi
  split at hi
  .exact y i x hi
  .split at hi
   .exact f.el _ x hi
   .exact y i x hi
 .intro i x j c hi hj
  rw[Amv hd]at hi
  dsimp only
  split at hi
  .rename_i h;rw[if_pos h];exact u i x j c hi hj
  .rename_i h
   rw[if_neg h]
   split at hi
   .rename_i h2;rw[if_pos h2];exact f.cc _ x j c hi hj
   .rename_i h2;rw[if_neg h2];exact u i x j c hi hj
 .intro i j hi hj
  rw[X2 hd]at hi
  dsimp only
  by_cases h:i<d
  .rw[if_pos h]
   have:(i+1)*sz<=d*sz:=Nat.mul_le_mul_right _ ω
   rw[Eh]at this
   rw[b _ (.inl ω)];exact s i j ω hj
  .rw[if_neg h]
   by_cases h2:i<d+ys.length
   .rw[if_pos h2]
    have e:i*sz+j=d*sz+((i-d)*sz+j):=by
     have:i=d+(i-d):=ω
     conv=>lhs;rw[this,Eh]
     omega
    have:(i-d+1)*sz<=ys.length*sz:=Nat.mul_le_mul_right _ ω
    rw[Eh]at this
    rw[e,k _ ω]
    exact f.at_ _ j ω hj
   .rw[if_neg h2]
    have:(d+ys.length)*sz<=i*sz:=Nat.mul_le_mul_right _ ω
    rw[b _ (.inr ω)];exact s i j ω hj
theorem Sr.one {σ:A5} {sz:Nat} (b:0<sz) {ys:List AV} {Cp:List Value} {g:Nat->Nat->Value} (h:Sr σ sz ys Cp g):∀u∈Cp,E6 u=true:=Acb b h.len rfl h.el h.cc h.at_
theorem Ahc {σ:A5} {ι:B9} {H:Hp} {F:A5} {W:World} (s:St σ ι H F W w) {h:Nat} {e:TypeId} {sz:Nat} {xs ys:List AV} (hh:H h = .rows e sz xs) {b c:Nat} (hb:ι h = .blk b c) {d:Nat} (hd:d<=xs.length) (x:d+ys.length<=c) (hm:d+ys.length<=140737488355328) (E:0<sz) {Cp:List Value} {g:Nat->Nat->Value} (l:Sr σ sz ys Cp g) : ∃w',(storeCells (⟨b,d*sz,none⟩:Addr) Cp).run P w = .ok () w'/\Le σ ι H σ ι (Bg H h (.rows e sz (E8 xs d ys)))/\St σ ι (Bg H h (.rows e sz (E8 xs d ys))) F W w':=by
 obtain⟨C,D,B,G,A⟩:=s.rowsAt hh hb;have z:xs.length<=140737488355328:=by have:=s.obj h;unfold C1 at this;rw[hh]at this;exact this.2.1
 have j:d*sz+Cp.length<=C.size:=by rw[l.len,<-Eh,B];exact Nat.mul_le_mul_right _ x
 have k:=run_storeCells_at (P:=P) b (d*sz) e Cp 0 C w D (by simpa using j) (λu hu=>by rw[Ag0];exact l.one E u hu);simp only[Nat.add_zero]at k;have f:Il σ sz (E8 xs d ys) (C.toList.take (d*sz)++Cp++C.toList.drop (d*sz+Cp.length)).toArray:=by
  refine Il.patch A hd l ?_ ?_
  .intro q hq;rw[U5 _ _ _ j];rcases hq with hq|hq
   .rw[if_pos hq]
   .rw[Eh]at hq;rw[if_neg ω,if_neg (by rw[l.len];omega)]
  .intro q hq;rw[U5 _ _ _ j,if_neg ω,if_pos (by rw[l.len];omega),Nat.add_sub_cancel_left]
 have y:(C.toList.take (d*sz)++Cp++C.toList.drop (d*sz+Cp.length)).toArray.size=c*sz:=by simp;omega
 have i:=X2 (ys:=ys) hd;by_cases I:d+ys.length<=xs.length
 .obtain⟨s',le⟩:=s.setRows h e sz xs (E8 xs d ys) hh b c hb (by rw[i];omega) _ y f;exact⟨_,k,le,s'⟩
 .obtain⟨s',le⟩:=s.growIn h e sz xs (E8 xs d ys) hh b c hb (by rw[i];omega) (by rw[i];omega) (by rw[i];omega) _ y f;exact⟨_,k,le,s'⟩
theorem Amw {σ:A5} {ι:B9} {H:Hp} {F:A5} {W:World} (s:St σ ι H F W w) {h:Nat} {e:TypeId} {sz:Nat} {xs:List AV} (hh:H h = .rows e sz xs) {off len:Nat} {v:Value} (hv:G4 (ι h) sz off len v) (L:off+len<=xs.length) (n:Nat) (J:n<=len) : ∃(Cp:List Value) (g:Nat->Nat->Value),(∃p c,v = .slice p len c)/\(∀d,(Builtin.firstCells sz n v).run P {w with drawn:=d} = .ok Cp.toArray {w with drawn:=d})/\Sr σ sz ((xs.drop off).take n) Cp g:=by
 have l:((xs.drop off).take n).length=n:=by simp;omega
 unfold G4 at hv;split at hv
 .obtain⟨rfl,rfl,rfl⟩:=hv;obtain rfl:n=0:=ω;refine⟨[],λ_ _=>undef,⟨none,0,rfl⟩,λd=>by simp[Builtin.firstCells],⟨ψ,(λi x h=>by simp at h),(λi x j c h=>by simp at h),(λi j h=>by simp at h)⟩⟩
 .rename_i b y hb;obtain⟨G,rfl⟩:=hv;obtain⟨C,E,D,I,g,B,A,z⟩:=s.rowsAt hh hb;have k:((C.toList.drop (off*sz)).take (n*sz)).length=n*sz:=(by have h1:(off+n)*sz<=y*sz:=Nat.mul_le_mul_right _ ω;rw[Eh]at h1;rw[List.length_take,List.length_drop,Array.length_toList,D];omega);have q:∀(i:Nat) (x:AV),((xs.drop off).take n)[i]? = some x->i<n/\xs[off+i]? = some x:=(by intro i x hx;have f:i<n:=(by have:=(Gl.1 hx).1;omega);rw[Hm f,List.getElem?_drop]at hx;exact⟨f,hx⟩);refine⟨(C.toList.drop (off*sz)).take (n*sz),λi j=>g (off+i) j,⟨_,_,rfl⟩,λd=>?_,⟨by rw[k,l],?_,?_,?_⟩⟩
  .have hb':({w with drawn:=d}:World).heap[b]? = some (.cells C e (0,0)):=E;have:=run_loadCells_list (P:=P) {w with drawn:=d} ⟨b,off*sz,none⟩ ((C.toList.drop (off*sz)).take (n*sz)) (by intro j u hj;have f:j<n*sz:=(by have:=(Gl.1 hj).1;omega);rw[Hm f,List.getElem?_drop,Gm]at hj;rw[K9,J6 hb'];exact hj);rw[k]at this;simp only[Builtin.firstCells];exact this
  .intro i x hx;exact B _ x (q i x hx).2
  .intro i x j c hx hj;exact A _ x j c (q i x hx).2 hj
  .intro i j hi hj;rw[l]at hi;have h1:(i+1)*sz<=n*sz:=Nat.mul_le_mul_right _ ω;rw[Eh]at h1;rw[Hm ω,List.getElem?_drop,Gm];have:=z (off+i) j ω hj;rw[Eh]at this;rw[<-this];congr 1;omega
 .exact hv.elim
theorem Amx {σ:A5} {ι:B9} {H:Hp} {F:A5} {W:World} (s:St σ ι H F W w) {t t' ty e:TypeId} {i:TI} {u':TypeDesc} (ht:P.underlying t=some (.slice e)) (ht':P.underlying t'=some u') (L:(∃e',u' = .slice e')\/u' = .string) (he:Im P e=some i) (Y:0<i.size) (R:i.zero.length=i.size) {h:Nat} {xs ys:List AV} (hh:H h = .rows e i.size xs) {len:Nat} (hl:len<=xs.length) {v E:Value} (hv:G4 (ι h) i.size 0 len v) (X:1<=i.bytes) (hb:(xs.length+ys.length)*i.bytes<=140737488355328) {Cp:List Value} {g:Nat->Nat->Value} (hs:Lx P w E i.size ys.length Cp) (D:Sr σ i.size ys Cp g) : ∃(Z:B9) (v':Value) (w':World),(Builtin.append_ #[t,t'] ty #[v,E]).run P w = .ok v' w'/\Le σ ι H σ Z (Bg H h (.rows e i.size (E8 xs len ys)))/\St σ Z (Bg H h (.rows e i.size (E8 xs len ys))) F W w' /\ G4 (Z h) i.size 0 (len+ys.length) v':=by
 obtain⟨N,u,z,k1,k2,k3,M,k5,k6,k7⟩:=Ez he;have a8:xs.length+ys.length<=140737488355328:=by have:(xs.length+ys.length)*1<=(xs.length+ys.length)*i.bytes:=Nat.mul_le_mul_left _ X;omega
 by_cases B:len=xs.length
 .subst B;have e0:E8 xs xs.length ys=xs++ys:=(by unfold E8;rw[List.take_length,List.drop_eq_nil_of_le ω,List.append_nil]);rw[e0];exact Aca (P:=P) (ty:=ty) s ht ht' L he Y R hh hv X hb hs D.el D.cc D.at_ (D.one Y)
 have l:=s.obj h;unfold C1 at l;rw[hh]at l;obtain⟨_,_,l⟩:=l;rcases l with⟨_,e2⟩|⟨b,f,C,e1,p1,p2,p3,p4,p5,p6⟩
 .subst e2;simp only[List.length_nil,Nat.le_zero]at hl;exact (B (by rw[hl];rfl)).elim
 rw[e1]at hv;obtain⟨aa,rfl⟩:=hv;by_cases I:len+ys.length<=f
 .obtain⟨w',a6,le,s'⟩:=Ahc (P:=P) s hh e1 hl I ω Y D;have hr:=Amu (P:=P) (ty:=ty) (w:=w) ht ht' L k1 ⟨b,0,none⟩ len f ys.length E Cp (by rw[M];exact hs) I (by rw[K9,Nat.zero_add,M];exact a6);refine⟨ι,_,_,by simpa using hr,le,s',?_⟩;rw[e1];exact⟨ω,ψ⟩
 .have A:(C.toList.take (len*i.size)).length=len*i.size:=(by have:C.toList.length=f*i.size:=(by rw[Array.length_toList,p4]);rw[List.length_take,this];exact Nat.min_eq_left (Nat.mul_le_mul_right _ ω));have S:Lx P w (.slice (some ⟨b,0*i.size,none⟩) len (f-0)) N.size len (C.toList.take (len*i.size)):=(by refine⟨λd=>by simp[Builtin.lenOf],λd=>?_,by rw[M];exact A⟩;have hb':({w with drawn:=d}:World).heap[b]? = some (.cells C e (0,0)):=p3;have:=run_loadCells_list (P:=P) {w with drawn:=d} ⟨b,0,none⟩ (C.toList.take (len*i.size)) (by intro j u hj;have y:j<len*i.size:=(by have:=(Gl.1 hj).1;omega);rw[Hm y,Gm]at hj;rw[K9,Nat.zero_add,J6 hb'];exact hj);rw[A]at this;simp only[Builtin.firstCells,Nat.zero_mul,M];exact this);have hr:=Ahb (P:=P) (ty:=ty) (w:=w) ht ht' L k1 k3 (some ⟨b,0*i.size,none⟩) len (f-0) ys.length E _ Cp (by rw[M];exact hs) S ω ω (by rw[k5];exact Nat.le_trans (Nat.mul_le_mul_right _ ω) hb);have hge:=Ab8 w (len+ys.length) (f-0) e;have a1:z.cells.size=i.size:=(by rw[<-R,k6];simp);have J:∀n,(Builtin.zeroCells z.cells n).size=n*i.size:=(by intro n;simp[Builtin.zeroCells,a1]);have U:(C.toList.take (len*i.size)++Cp).length=(len+ys.length)*i.size:=(by rw[List.length_append,A,D.len,Eh]);have e0:E8 xs len ys=xs.take len++ys:=(by unfold E8;rw[List.drop_eq_nil_of_le ω,List.append_nil]);have G:(xs.take len).length=len:=(by rw[List.length_take];omega);have a7:Il σ i.size (xs.take len) C:=(by obtain⟨g,r1,r2,r3⟩:=p6;have V:∀(q:Nat) (x:AV),(xs.take len)[q]? = some x->q<len/\xs[q]? = some x:=(by intro q x hx;have y:q<len:=(by have:=(Gl.1 hx).1;omega);rw[Hm y]at hx;exact⟨y,hx⟩);exact⟨g,λq x hx=>r1 q x (V q x hx).2,λq x j c hx hj=>r2 q x j c (V q x hx).2 hj,λq j hq hj=>r3 q j ω hj⟩);obtain⟨s',le⟩:=(s.drew (w.drawn+1)).newRows h e i.size (xs.take len++ys) (grownCap w (len+ys.length) (f-0) e) ((C.toList.take (len*i.size)++Cp).toArray++Builtin.zeroCells z.cells (grownCap w (len+ys.length) (f-0) e-(len+ys.length))) (.inr ⟨e,i.size,xs,hh,ζ⟩) Y (by rw[List.length_append,G];omega) (by rw[List.length_append,G];exact hge) (by rw[Array.size_append,J,List.size_toArray,U,<-Eh,Nat.add_sub_cancel' hge]) (by
    refine Il.append a7 g D.el D.cc ?_ ?_
    .intro k hk;rw[G]at hk;rw[Array.getElem?_append_left (by rw[List.size_toArray,U,Eh];omega),List.getElem?_toArray,List.getElem?_append_left ω,Hm hk,Gm]
    .intro i' j hi hj;rw[G];have y:i' * i.size+j<Cp.length:=(by have:(i' + 1)*i.size<=ys.length*i.size:=Nat.mul_le_mul_right _ ω;rw[Eh]at this;rw[D.len];omega);have e2:(len+i')*i.size+j=len*i.size+(i' * i.size+j):=(by rw[Eh];omega);rw[Array.getElem?_append_left (by rw[List.size_toArray,List.length_append,A];omega),List.getElem?_toArray,e2,List.getElem?_append_right ω,A,Nat.add_sub_cancel_left];exact D.at_ i' j hi hj);rw[e0];refine⟨_,_,_,hr,le,s',?_⟩;rw[Cy];exact⟨ω,by rw[Nat.zero_mul];rfl⟩
theorem Amy {σ:A5} {ι:B9} {H:Hp} {h:Nat} {e:TypeId} {sz:Nat} {xs:List AV} {len:Nat} {v:Value} (g:len<=xs.length) (hv:G4 (ι h) sz 0 len v):Conc σ ι (Bg H h (.rows e sz xs)) (.arr h xs.length 0 len) v:=by
 have b:E6 v=true:=by
  unfold G4 at hv;split at hv
  .rw[hv.1];rfl
  .rw[hv.2];rfl
  .exact hv.elim
 refine .arr _ _ _ _ v (by rw[Cy];intro e;cases e) (λi f c e'=>?_) b;rw[Cy]at e';cases e';exact⟨Nat.le_refl _,λ_=>hv⟩
theorem Azl {T:C6} (J:C7 P T) {t j:TypeId} {x y:Operand} {i i' l:TI} {e e':TypeId} {h k len:Nat} {xs ys:List AV} (D:o.op = .call {callee:=.builtin .append,args:=#[x,y],argTypes:=#[t,j]}) (ht:T t=some i) (hd:i.d = .slice e) (ht':T j=some l) (G:l.d = .slice e') (U:T e=some i') (L:0<i'.size) (q:i'.zero.length=i'.size) (I:1<=i'.bytes) (hx:ρ x = .arr h k 0 len) (E:xs.length=k) (hl:len<=k) (hy:ρ y = .sl i'.size ys) (hb:(xs.length+ys.length)*i'.bytes<=140737488355328) : Cl P o ρ ⟨.arr h (E8 xs len ys).length 0 (len+ys.length),[(h,.rows e i'.size xs)],[(h,.rows e i'.size (E8 xs len ys))]⟩:=by
 intro σ ι H F W w a next Q s f B hk
 have hh:H h = .rows e i'.size xs:=B (h,.rows e i'.size xs) ψ;have c:=f x (by simp[D,Op.operands,Call.operands]);have b:=f y (by simp[D,Op.operands,Call.operands]);rw[hx]at c;rw[hy]at b;have hv:=c.arr_inv hh E;obtain⟨Z,A,X⟩:=Kl (J t i ht) hd;obtain⟨Y,z,V⟩:=Kl (J j l ht') G;subst X;subst V;obtain⟨Cp,g,M,h1,h2,h3⟩:=Ab9 (P:=P) s L b.sl_inv;obtain⟨N,R,w',S,le,s',u⟩:=Amx (P:=P) (ty:=o.type) s A z (.inl ⟨_,rfl⟩) (J e i' U) L q hh ω hv I hb M ⟨M.size,h1,h2,h3⟩;exact F1 (U6 D rfl S) (hk σ N R w' le s' (Amy (by rw[X2 ω];omega) u))
theorem Azm {t q ty e:TypeId} {i:TypeInfo} {k:TypeDesc} (ht:P.underlying t=some (.slice e)) (ht':P.underlying q=some k) (h:(∃e',k = .slice e')\/k = .string) (hi:P.info? e=some i) (p:Option Addr) (c f:Nat) (g:Value) (s:Lx P w g i.size 0 []) (j:c<=f) : (Builtin.append_ #[t,q] ty #[.slice p c f,g]).run P w = .ok (.slice p c f) w:=by
 have h1:=s.len w.drawn;have h2:=s.cells w.drawn;have u:({w with drawn:=w.drawn}:World)=w:=rfl;rw[u]at h1 h2;cases p with
 | none=>rcases h with⟨e',rfl⟩|rfl <;> simp[Builtin.append_,run_underlying ht,run_underlying ht',sizeOf,typeInfo,hi,h1,j,h2]
 | some b=>have l:(storeCells (b.add (c*i.size)) []).run P w = .ok () w:=(by rw[storeCells];rfl);rcases h with⟨e',rfl⟩|rfl <;> simp[Builtin.append_,run_underlying ht,run_underlying ht',sizeOf,typeInfo,hi,h1,j,h2,l]
theorem Azn {T:C6} (M:C7 P T) {t k:TypeId} {x y:Operand} {i i' z:TI} {e e':TypeId} {sz:Nat} {xs:List AV} (G:o.op = .call {callee:=.builtin .append,args:=#[x,y],argTypes:=#[t,k]}) (ht:T t=some i) (hd:i.d = .slice e) (ht':T k=some z) (L:z.d = .slice e') (he:T e=some i') (Y:0<i'.size) (hx:ρ x = .sl sz xs) (hy:ρ y = .sl i'.size []) : Cl P o ρ ⟨.sl sz xs,[],[]⟩:=by
 intro σ ι H F W w a next Q s h Z hk
 have c:=h x (by simp[G,Op.operands,Call.operands]);have f:=h y (by simp[G,Op.operands,Call.operands]);rw[hx]at c;rw[hy]at f;obtain⟨u1,B,e1⟩:=Kl (M t i ht) hd;obtain⟨u2,A,e2⟩:=Kl (M k z ht') L;subst e1;subst e2;obtain⟨Cp,g,D,_,_,_⟩:=Ab9 (P:=P) s Y f.sl_inv;have I:Cp = []:=by have:=D.size;simp at this;exact this
 subst I;obtain⟨p,n,cap,hv,J⟩:∃p n cap,a.eval x = .slice p n cap/\n<=cap:=by
  rcases c.sl_inv.sl_inv with⟨rfl,p,cap,hv⟩|⟨b,off,cap,C,E,fr,g,hv,hσ,D,a1,hC,hl,j⟩
  .exact⟨_,_,_,hv,Nat.zero_le _⟩
  .exact⟨_,_,_,hv,j⟩
 obtain⟨u,u',z',q,X,V,l,U,S,R⟩:=Ez (M e i' he);have N:=Azm (P:=P) (w:=w) (ty:=o.type) B A (.inl ⟨_,rfl⟩) q p n cap (a.eval y) (by rw[l];exact D) J;rw[<-hv]at N;exact F1 (U6 G rfl N) (hk σ ι _ w (Le.refl _ _ _) s c)
theorem Azo {T:C6} (V:C7 P T) {t A:TypeId} {x y:Operand} {i i' B:TI} {e e':TypeId} {h k len X f b:Nat} {xs:List AV} (M:o.op = .call {callee:=.builtin .append,args:=#[x,y],argTypes:=#[t,A]}) (ht:T t=some i) (hd:i.d = .slice e) (ht':T A=some B) (S:B.d = .slice e') (he:T e=some i') (hz:0<i'.size) (D:i'.zero.length=i'.size) (U:1<=i'.bytes) (hx:ρ x = .arr h k 0 len) (R:xs.length=k) (hl:len<=k) (hy:ρ y = .arr h X f b) (N:xs.length=X) (a1:f+b<=k) (hb:(xs.length+b)*i'.bytes<=140737488355328) : Cl P o ρ ⟨.arr h (E8 xs len ((xs.drop f).take b)).length 0 (len+b),[(h,.rows e i'.size xs)],[(h,.rows e i'.size (E8 xs len ((xs.drop f).take b)))]⟩:=by
 intro σ ι H F W w a next Q s z J hk
 have hh:H h = .rows e i'.size xs:=J (h,.rows e i'.size xs) ψ;have u:=z x (by simp[M,Op.operands,Call.operands]);have q:=z y (by simp[M,Op.operands,Call.operands]);rw[hx]at u;rw[hy]at q;have hv:=u.arr_inv hh R;have E:=q.arr_inv hh N;obtain⟨u1,I,e1⟩:=Kl (V t i ht) hd;obtain⟨u2,G,e2⟩:=Kl (V A B ht') S;subst e1;subst e2;have j:((xs.drop f).take b).length=b:=by simp;omega
 obtain⟨Cp,g,⟨p,c,L⟩,hf,Y⟩:=Amw (P:=P) s hh E ω b (Nat.le_refl _);have hs:Lx P w (a.eval y) i'.size ((xs.drop f).take b).length Cp:=by
  refine⟨λd=>?_,λd=>?_,Y.len⟩
  .rw[L,j];simp[Builtin.lenOf]
  .rw[j];exact hf d
 obtain⟨Z,v',w',hr,le,s',l⟩:=Amx (P:=P) (ty:=o.type) s I G (.inl ⟨_,rfl⟩) (V e i' he) hz D hh ω hv U (by rw[j];exact hb) hs Y;rw[j]at l;exact F1 (U6 M rfl hr) (hk σ Z v' w' le s' (Amy (by rw[X2 ω,j];omega) l))
theorem Ahd {t f ty:TypeId} {x y:Operand} (h:o.op = .call {callee:=.builtin .copy,args:=#[x,y],argTypes:=#[t,f]}) (b:o.type=ty) {c:Value} (g:(Builtin.copy_ #[t,f] ty #[a.eval x,a.eval y]).run P w = .ok c w') : (execOp a.eval o).run P w = .ok (.value c) w':=by subst b;simp[execOp,h,resolve,invoke,builtin,g]
theorem Azp {T:C6} (X:C7 P T) {t t':TypeId} {x y:Operand} {i i':TI} {e:TypeId} {h k off len U j f:Nat} {xs:List AV} (J:o.op = .call {callee:=.builtin .copy,args:=#[x,y],argTypes:=#[t,t']}) (ht:T t=some i) (hd:i.d = .slice e) (he:T e=some i') (hz:0<i'.size) (hx:ρ x = .arr h k off len) (S:xs.length=k) (hl:off+len<=k) (hy:ρ y = .arr h U j f) (R:xs.length=U) (a6:j+f<=k) : Cl P o ρ ⟨.val (.int .i64 (min f len:Nat)),[(h,.rows e i'.size xs)],[(h,.rows e i'.size (E8 xs off ((xs.drop j).take (min f len))))]⟩:=by
 intro σ ι H F W w a next Q s E N hk
 have hh:H h = .rows e i'.size xs:=N (h,.rows e i'.size xs) ψ;have D:=E x (by simp[J,Op.operands,Call.operands]);have B:=E y (by simp[J,Op.operands,Call.operands]);rw[hx]at D;rw[hy]at B;have hv:=D.arr_inv hh S;have L:=B.arr_inv hh R;obtain⟨u1,z,e1⟩:=Kl (X t i ht) hd;subst e1;have A:=Ni (X e i' he);have u:((xs.drop j).take (min f len)).length=min f len:=by simp;omega
 obtain⟨Cp,g,⟨p,c,l⟩,q,hn⟩:=Amw (P:=P) s hh L ω (min f len) ω;have q:=q w.drawn;have ew:({w with drawn:=w.drawn}:World)=w:=rfl;rw[ew,l]at q;have V:xs.length<=140737488355328:=by have:=s.obj h;unfold C1 at this;rw[hh]at this;exact this.2.1
 have G:Nat.min f len=min f len:=rfl;unfold G4 at hv;split at hv
 .obtain⟨hv,rfl,rfl⟩:=hv;have Y:E8 xs 0 ((xs.drop j).take (min f 0))=xs:=(by simp[E8]);refine F1 (v:=.int .i64 ((min f 0:Nat):Int)) (Ahd J rfl ?_) (hk σ ι _ w ?_ ?_ (.of_val _))
  .simp only[Builtin.copy_,hv,l];simp[run_underlying z,Builtin.lenOf,A,q,goInt];have I:=q;simp at I;simp[I]
  .show Le σ ι H σ ι (Bg H h (.rows e i'.size _));rw[Y,<-hh,I9];exact Le.refl _ _ _
  .show St σ ι (Bg H h (.rows e i'.size _)) F W w;rw[Y,<-hh,I9];exact s
 .rename_i b Z hb;obtain⟨a1,hv⟩:=hv;obtain⟨w',M,le,s'⟩:=Ahc (P:=P) s hh hb (d:=off) ω (by rw[u];omega) (by rw[u];omega) hz hn;refine F1 (v:=.int .i64 ((min f len:Nat):Int)) (Ahd J rfl ?_) (hk σ ι _ w' le s' (.of_val _));simp only[Builtin.copy_,hv,l];simp[run_underlying z,Builtin.lenOf,A,q,M,goInt,G]
 .exact hv.elim
theorem Azq {T:C6} (L:C7 P T) {t M:TypeId} {x y:Operand} {i i':TI} {e:TypeId} {sz h I f g:Nat} {E:TypeId} {xs:List AV} (D:o.op = .call {callee:=.builtin .copy,args:=#[x,y],argTypes:=#[t,M]}) (ht:T t=some i) (hd:i.d = .slice e) (N:T e=some i') (hx:ρ x = .sl sz []) (hy:ρ y = .arr h I f g) (G:xs.length=I) : Cl P o ρ ⟨.val (.int .i64 0),[(h,.rows E i'.size xs)],[]⟩:=by
 intro σ ι H F W w a next Q s z A hk
 have hh:H h = .rows E i'.size xs:=A (h,.rows E i'.size xs) ψ;have u:=z x (by simp[D,Op.operands,Call.operands]);have l:=z y (by simp[D,Op.operands,Call.operands]);rw[hx]at u;rw[hy]at l;have b:=l.arr_inv hh G;obtain⟨_,q,cap,hv⟩:=u.sl_inv.sl_len;obtain⟨S,j,R⟩:=Kl (L t i ht) hd;subst R;have k:=Ni (L e i' N);obtain⟨p,c,m,B⟩:∃p c m,a.eval y = .slice p m c:=by
  unfold G4 at b;split at b
  .exact⟨_,_,_,b.1⟩
  .exact⟨_,_,_,b.2⟩
  .exact b.elim
 have J:(Builtin.firstCells i'.size 0 (.slice p m c)).run P w = .ok #[] w:=by cases p with| none=>simp[Builtin.firstCells]| some a=>simp[Builtin.firstCells,loadCells,loadCellsFrom]
 refine F1 (v:=.int .i64 0) (Ahd D rfl ?_) (hk σ ι _ w (Le.refl _ _ _) s (.of_val _));simp only[Builtin.copy_,hv,B];cases q with| none=>simp[run_underlying j,Builtin.lenOf,k,J,goInt]| some a=>simp[run_underlying j,Builtin.lenOf,k,J,goInt,storeCells]
theorem Azr {T:C6} (N:C7 P T) {t:TypeId} {x:Operand} {lo hi:Option Operand} {i i':TI} {e:TypeId} {b k off len:Nat} {E:TypeId} {sz h:Nat} {xs:List AV} {l:Nat} (A:o.op = .slice t x lo hi none) (ht:T t=some i) (hd:i.d = .slice e) (X:T e=some i') (hx:ρ x = .arr b k off len) (G:xs.length=k) (B:Ip ρ 0 lo=some (l:Int)) (I:Ip ρ (len:Int) hi=some (l:Int)) (h2:l<=len) : Cl P o ρ ⟨.sl h [],[(b,.rows E sz xs)],[]⟩:=by
 intro σ ι H F W w a next Q s g j hk
 have hh:H b = .rows E sz xs:=j (b,.rows E sz xs) ψ;have hp:=g x (by simp[A,Op.operands]);rw[hx]at hp;have hv:=hp.arr_inv hh G;obtain⟨M,u,z,k1,R,k3,k4,Z,Y,L⟩:=Ez (N t i ht);rw[hd]at L;subst L;have S:=Ni (N e i' X);have J:∀(cap:Nat),len<=cap->∀w,(Instr.sliceBounds true len cap (lo.map a.eval) (hi.map a.eval) none).run P w = .ok (l,l,cap) w :=
  λcap f w=>Ab4 B I (λy hy=>g y (by rw[A];exact Ab5 hy)) (Nat.le_refl _) ω w
 have key:∀(p:Option Addr) (cap:Nat),len<=cap->a.eval x = .slice p len cap->∃q c,(execOp a.eval o).run P w = .ok (.value (.slice q 0 c)) w:=by intro p cap f hv;have:=J cap f w;simp only[execOp,A,hv,Instr.sliceAt,Instr.slice,Sem.run_bind,run_underlying R,Result.andThen_ok,Option.map_none,this,S w,Sem.run_pure,Nat.sub_self];exact⟨_,_,rfl⟩
 have:∃q c,(execOp a.eval o).run P w = .ok (.value (.slice q 0 c)) w:=by
  unfold G4 at hv;split at hv
  .obtain⟨hv,_,D⟩:=hv;exact key none 0 ω (by rw[D];exact hv)
  .obtain⟨V,hv⟩:=hv;exact key _ _ ω hv
  .exact hv.elim
 obtain⟨q,c,U⟩:=this;exact F1 U (hk σ ι _ w (Le.refl _ _ _) s (.cc (.nil _ _ _)))
theorem Acd {t ty:TypeId} {x:Operand} (g:o.op = .call {callee:=.builtin .clear,args:=#[x],argTypes:=#[t]}) (b:o.type=ty) {c:Value} (f:(Builtin.clear_ #[t] ty #[a.eval x]).run P w = .ok c w') : (execOp a.eval o).run P w = .ok (.value c) w':=by subst b;simp[execOp,g,resolve,invoke,builtin,f]
theorem Azs {T:C6} (hT:C7 P T) {t:TypeId} {x:Operand} {i i':TI} {e:TypeId} {h k off len:Nat} {xs:List AV} (I:o.op = .call {callee:=.builtin .clear,args:=#[x],argTypes:=#[t]}) (ht:T t=some i) (hd:i.d = .slice e) (he:T e=some i') (hz:0<i'.size) (y:Lw i'.size (Fv i')=true) (B:(Fv i').cells=i'.zero.map .val) (hx:ρ x = .arr h k off len) (a1:xs.length=k) (hl:off+len<=k) : Cl P o ρ ⟨.tup [],[(h,.rows e i'.size xs)],[(h,.rows e i'.size (E8 xs off (List.replicate len (Fv i'))))]⟩:=by
 intro σ ι H F W w a next Q s U S hk
 have hh:H h = .rows e i'.size xs:=S (h,.rows e i'.size xs) ψ;have D:=U x (by simp[I,Op.operands,Call.operands]);rw[hx]at D;have hv:=D.arr_inv hh a1;obtain⟨u1,u,e1⟩:=Kl (hT t i ht) hd;subst e1;obtain⟨M,u',f,L,ad,J,ac,ab,A,aa⟩:=Ez (hT e i' he);have N:(zeroValue e).run P w = .ok f w:=by simp[zeroValue,typeInfo,L,J]
 have g:f.cells.size=i'.size:=by have:=congrArg List.length B;rw[(Ob y).1,List.length_map,A,Array.length_toList]at this;exact this.symm
 have a7:xs.length<=140737488355328:=by have:=s.obj h;unfold C1 at this;rw[hh]at this;exact this.2.1
 have l:∀(σ:A5) (ι:B9) (H:Hp),Conc σ ι H (.tup []) (.tuple #[]):=λσ ι H=>.tup [] #[] rfl (λi c v h _=>by simp at h);unfold G4 at hv;split at hv
 .obtain⟨hv,rfl,rfl⟩:=hv;have G:E8 xs 0 (List.replicate 0 (Fv i'))=xs:=(by simp[E8]);refine F1 (v:=.tuple #[]) (Acd I rfl ?_) (hk σ ι _ w ?_ ?_ (l _ _ _))
  .simp only[Builtin.clear_,hv];simp[run_underlying u]
  .show Le σ ι H σ ι (Bg H h (.rows e i'.size _));rw[G,<-hh,I9];exact Le.refl _ _ _
  .show St σ ι (Bg H h (.rows e i'.size _)) F W w;rw[G,<-hh,I9];exact s
 .rename_i b a8 hb;obtain⟨ae,hv⟩:=hv;by_cases Z:len=0
  .subst Z;have G:E8 xs off (List.replicate 0 (Fv i'))=xs:=(by simp[E8]);refine F1 (v:=.tuple #[]) (Acd I rfl ?_) (hk σ ι _ w ?_ ?_ (l _ _ _))
   .simp only[Builtin.clear_,hv];simp[run_underlying u]
   .show Le σ ι H σ ι (Bg H h (.rows e i'.size _));rw[G,<-hh,I9];exact Le.refl _ _ _
   .show St σ ι (Bg H h (.rows e i'.size _)) F W w;rw[G,<-hh,I9];exact s
  .have z:∀q,q<len*i'.size->(Builtin.zeroCells f.cells len).toList[q]? = f.cells[q % i'.size]?:=(by intro q hq;have hm:q % i'.size<f.cells.size:=(by rw[g];exact Nat.mod_lt _ hz);have V:f.cells[q % i'.size]! = f.cells[q % i'.size]:=(by simp[hm]);simp[Builtin.zeroCells,hq,g,V,hm]);have hn:Sr σ i'.size (List.replicate len (Fv i')) (Builtin.zeroCells f.cells len).toList (λ_ j=>(f.cells[j]?).getD undef):=by
    refine⟨by simp[Builtin.zeroCells,g],?_,?_,?_⟩
    .intro j x' hj;have:=F6 hj;simp at this;rw[this.2];exact (Ob y).1
    .intro j x' q c' hj hq;have:=F6 hj;simp at this;rw[this.2]at hq;have a6:=(Ob y).2 c' (F6 hq);rw[B,List.getElem?_map,A,Gm]at hq;cases hv:f.cells[q]? with| none=>rw[hv]at hq;simp at hq| some v=>rw[hv]at hq;simp at hq;subst hq;exact⟨.val v,a6⟩
    .intro j q hj hq;have hj':j<len:=(by simpa using hj);have X:j*i'.size+q<len*i'.size:=(by have:(j+1)*i'.size<=len*i'.size:=Nat.mul_le_mul_right _ ω;rw[Eh]at this;omega);rw[z _ X];have:(j*i'.size+q) % i'.size=q:=(by rw[Nat.mul_comm,Nat.mul_add_mod,Nat.mod_eq_of_lt hq]);rw[this];have E:q<f.cells.size:=ω;simp[E]
   obtain⟨w',R,le,s'⟩:=Ahc (P:=P) s hh hb (d:=off) ω (by rw[List.length_replicate];omega) (by rw[List.length_replicate];omega) hz hn;refine F1 (v:=.tuple #[]) (Acd I rfl ?_) (hk σ ι _ w' le s' (l _ _ _));have Y:∃m,len=m+1:=⟨len-1,ω⟩;obtain⟨m,rfl⟩:=Y;simp only[Builtin.clear_,hv];simp[run_underlying u,N,R]
 .exact hv.elim
theorem Azt {T:C6} (l:C7 P T) {t:TypeId} {x:Operand} {i:TI} {e:TypeId} {sz:Nat} (j:o.op = .call {callee:=.builtin .clear,args:=#[x],argTypes:=#[t]}) (ht:T t=some i) (hd:i.d = .slice e) (hx:ρ x = .sl sz []):Cl P o ρ ⟨.tup [],[],[]⟩:=by
 intro σ ι H F W w a next Q s g k hk
 have b:=g x (by simp[j,Op.operands,Call.operands]);rw[hx]at b;obtain⟨_,q,cap,hv⟩:=b.sl_inv.sl_len;obtain⟨y,f,u⟩:=Kl (l t i ht) hd;subst u;refine F1 (v:=.tuple #[]) (Acd j rfl ?_) (hk σ ι _ w (Le.refl _ _ _) s (.tup [] #[] rfl (λi c v h _=>by simp at h)));simp only[Builtin.clear_,hv];cases q <;> simp[run_underlying f]
end
end Go.Ab
namespace Go.Ab
theorem St.newMap {σ:A5} {ι:B9} {H:Hp} {F:A5} {W w:World} (s:St σ ι H F W w) (h:Nat) (j:H h = .none) : St σ (Bg ι h (.box w.heap.size)) (Bg H h (.map [])) F W (w.alloc (.map #[] 0))/\Le σ ι H σ (Bg ι h (.box w.heap.size)) (Bg H h (.map [])):=by
 have g:ι h = .none:=by have:=s.obj h;unfold C1 at this;rw[j]at this;exact this
 have le:Le σ ι H σ (Bg ι h (.box w.heap.size)) (Bg H h (.map [])):=Le.upd (A5.le_refl σ) h _ _ (by rw[g,j];exact HLe.of_none);obtain⟨c,f⟩:=s.fresh;refine⟨s.touch h w.heap.size (λx e=>Di _ _ e) (λx e=>Di _ _ e) le ?_ (λ_ _=>rfl) (λo i=>by rw[c]at i;cases i) ?_ f ?_ ?_ rfl rfl rfl,le⟩
 .intro b hb;show (w.heap.push _)[b]? = _;rw[Array.getElem?_push,if_neg hb]
 .intro x e k hb;have:=(s.block k hb).1;omega
 .intro b _ hb;rw[Cy]at hb;simp[Loc.block?]at hb;exact .inl hb.symm
 .unfold C1;rw[Cy];refine⟨w.heap.size,#[],0,Cy _ _ _,c,f,?_,rfl,ψ⟩;show (w.heap.push _)[w.heap.size]? = _;simp
theorem St.setMap {σ:A5} {ι:B9} {H:Hp} {F:A5} {W w:World} (s:St σ ι H F W w) (h:Nat) (es c:List (AV×AV)) (hh:H h = .map es) (b:Nat) (hb:ι h = .box b) (g:Array MapEntry) (i:Nat) (y:Sp σ c g) : St σ ι (Bg H h (.map c)) F W {w with heap:=w.heap.setIfInBounds b (.map g i)}/\Le σ ι H σ ι (Bg H h (.map c)):=by
 have j:=s.obj h;unfold C1 at j;rw[hh]at j;obtain⟨B,M,t,q,h1,h2,h3,z⟩:=j;rw[hb]at q;cases q;have le:Le σ ι H σ ι (Bg H h (.map c)):=by have:=Le.upd (ι:=ι) (H:=H) (A5.le_refl σ) h (ι h) (.map c) (by rw[hh];exact⟨λ_ e=>e,(λ_ e=>by cases e),(λ_ _ _ _ e=>by cases e)⟩);rwa [I9]at this
 have f:=Go.MapKept.heap_set (w:=w) (o':=.map g i) h3;refine⟨s.touch h b (λ_ _=>rfl) (λx e=>Di _ _ e) le (λx e=>f.2 x e) (λ_ _=>rfl) (λo e=>by rw[h1]at e;cases e) ?_ h2 ?_ ?_ rfl rfl rfl,le⟩
 .intro x e u k;exact e (s.inj x h b u (by rw[hh];rfl) k (by rw[hb];rfl))
 .intro A _ l;exact .inr ⟨by rw[hh];rfl,l⟩
 .unfold C1;rw[Cy];exact⟨b,g,i,hb,h1,h2,f.1,y⟩
def Jx (s:ByteArray):List (AV×AV)->Nat->Option (Option (Nat×AV))
 | [],_=>some none
 | p::es,i=> match p.1 with
  | .val (.string t)=>bif s==t then some (some (i,p.2)) else Jx s es (i+1)
  | _=>none
def Ace (s:ByteArray) (v:AV) (es:List (AV×AV)):Option (List (AV×AV)) := match Jx s es 0 with
 | none=>none
 | some none=>some (es++[(.val (.string s),v)])
 | some (some p)=>some (es.set p.1 (.val (.string s),v))
theorem Ahe {σ:A5} {s:ByteArray}:∀(es:List (AV×AV)) (L:List MapEntry) (i:Nat) (r:Option (Nat×AV)),L.length=es.length ->
  (∀(j:Nat) (p:AV×AV) (e:MapEntry),es[j]? = some p->L[j]? = some e->CC σ p.1 e.key/\CC σ p.2 e.val)->Jx s es i=some r ->
  (r=none/\Instr.findNow .string (.string s) L i=some none)\/∃j v e,r=some (i+j,v)/\Instr.findNow .string (.string s) L i=some (some (i+j,e.val))/\L[j]? = some e/\e.key = .string s/\CC σ v e.val/\j<es.length
 | [],[],i,r,g,h,b=>by
  simp only[Jx]at b;cases b
  exact .inl ⟨rfl,rfl⟩
 | [],e::L,i,r,g,h,b=>by simp at g
 | p::es,[],i,r,g,h,b=>by simp at g
 | p::es,e::L,i,r,g,h,b=>by
  obtain⟨hk,hv⟩:=h 0 p e rfl rfl
  simp only[Jx]at b
  split at b
  .rename_i t hp
   rw[hp]at hk
   have f:e.key = .string t:=by
    generalize e.key=q at hk
    cases hk;rfl
   cases c:s==t with
   | true=>
    rw[c]at b
    cases b
    have l:s=t:=(Go.MapKept.bytes_beq s t).1 c
    refine .inr ⟨0,p.2,e,rfl,?_,rfl,?_,hv,ψ⟩
    .unfold Instr.findNow
     rw[f]
     simp[Instr.sameNow,c]
    .rw[f,l]
   | false=>
    rw[c]at b
    have step:Instr.findNow .string (.string s) (e::L) i=Instr.findNow .string (.string s) L (i+1):=by
     conv=>lhs;unfold Instr.findNow
     rw[f]
     simp[Instr.sameNow,c]
    rcases Ahe es L (i+1) r (by simpa using g) (λj k e' h1 h2=>h (j+1) k e' (by simpa using h1) (by simpa using h2)) b with⟨h1,h2⟩|⟨j,v,e',h1,h2,h3,y,x,u⟩
    .exact .inl ⟨h1,by rw[step];exact h2⟩
    .exact .inr ⟨j+1,v,e',by rw[h1];congr 2;omega,by rw[step,h2];congr 3;omega,by simpa using h3,y,x,by simpa using u⟩
  .cases b
section
variable {P:Program} {o:Oper} {ρ:Operand->AV} {a:Act} {w w':World} {next:Act->World->Prop} {Q:Exit->Act->World->Prop}
def Ja:List AV->Option (List Value)
 | []=>some []
 | .val v::xs=>(Ja xs).map (v :: ·)
 | _::_=>none
theorem Ss {σ:A5} {ι:B9} {H:Hp}:∀{xs:List AV} {b:List Value} {vs:List Value},Ja xs=some b->vs.length=xs.length->(∀(i:Nat) (c:AV) (v:Value),xs[i]? = some c->vs[i]? = some v->Conc σ ι H c v)->vs=b
 | [],b,vs,h,f,_=>by simp only[Ja]at h;cases h;exact List.length_eq_zero_iff.1 f
 | .val v::xs,b,[],h,f,_=>by simp at f
 | .val v::xs,b,w::vs,h,f,hc=>by simp only[Ja,Option.map_eq_some_iff]at h;obtain⟨g,h1,rfl⟩:=h;have k:=(hc 0 _ w rfl rfl).val_inv;have j:=Ss (vs:=vs) h1 (by simpa using f) (λi c u g1 g2=>hc (i+1) c u (by simpa using g1) (by simpa using g2));rw[k,j]
 | .loc .. :: _,_,_,h,_,_ | .arr .. :: _,_,_,h,_,_ | .el .. :: _,_,_,h,_,_ | .mp .. :: _,_,_,h,_,_ | .ref .. :: _,_,_,h,_,_
 | .sl .. :: _,_,_,h,_,_ | .agg .. :: _,_,_,h,_,_ | .tup .. :: _,_,_,h,_,_ | .fn .. :: _,_,_,h,_,_=>by simp[Ja]at h
def Acg (P:Program) (t:TypeId) (c vs:List Value) (b:Bool):Prop := ∀(w:World) (op:BinOp) (x y:Operand),(eqGuard op t x y (.agg c.toArray) (.agg vs.toArray)).run P w = .ok () w/\(Op.equal t (.agg c.toArray) (.agg vs.toArray)).run P w = .ok b w
theorem Amz {op:BinOp} {t s:TypeId} {x y:Operand} {xs ys:List AV} {f vs:List Value} {b c:Bool} (g:o.op = .binOp op t x y s) (hx:ρ x = .agg xs) (hy:ρ y = .agg ys) (h1:Ja xs=some f) (h2:Ja ys=some vs) (hb:Acg P t f vs b) (hc:(op = .eql/\c=b)\/(op = .neq/\c = !b)):Cl P o ρ ⟨.val (.bool c),[],[]⟩ := E7 λσ ι H a w h=>by
  refine⟨.bool c,?_,.of_val _⟩;have q:=h x (by simp[g,Op.operands]);have l:=h y (by simp[g,Op.operands]);rw[hx]at q;rw[hy]at l;obtain⟨k,E,B,I⟩:=q.agg_inv;obtain⟨j,D,A,G⟩:=l.agg_inv;have g1:k=f.toArray:=(by have:=Ss (vs:=k.toList) h1 (by simpa using B) (λi c v m1 m2=>I i c v m1 (by simpa using m2));rw[<-this]);have g2:j=vs.toArray:=(by have:=Ss (vs:=j.toList) h2 (by simpa using A) (λi c v m1 m2=>G i c v m1 (by simpa using m2));rw[<-this]);subst g1;subst g2;obtain⟨z,u⟩:=hb w op x y;rcases hc with⟨rfl,rfl⟩|⟨rfl,rfl⟩;all_goals
   simp only[execOp,g,E,D,Sem.run_bind,z,Result.andThen_ok,binOp,u,Sem.run_pure]
def Ahf (P:Program) (s:TypeId) (f:Nat):Option TypeId := match P.underlying s with
 | some (.struct fields)=>(fields[f]?).map (·.type)
 | _=>none
theorem Am0 {T:C6} (G:C7 P T) {t z:TypeId} {x:Operand} {f:Nat} {i g:TI} {fs:List (Nat×Nat)} {q:Nat×Nat} {cs:List AV} {r:AV} (E:o.op = .field t x f) (ht:T t=some i) (hd:i.d = .struct fs) (hq:fs[f]? = some q) (y:Ahf P t f=some z) (J:T z=some g) (hx:ρ x = .agg cs) (S:(g.isAgg=true/\q.1+g.size<=cs.length/\r = .agg ((cs.drop q.1).take g.size))\/(g.isAgg=false/\cs[q.1]? = some r)):Cl P o ρ ⟨r,[],[]⟩ := E7 λσ ι H a w h=>by
  have hc:=h x (by simp[E,Op.operands]);rw[hx]at hc;obtain⟨vs,L,N,M⟩:=hc.agg_inv;obtain⟨_,u,_,_,B,_,_,_,_,I⟩:=Ez (G t i ht);rw[hd]at I;obtain⟨fields,rfl,R,_⟩:=I;unfold Ahf at y;rw[B]at y;simp only[Option.map_eq_some_iff]at y;obtain⟨fl,g1,g2⟩:=y;have b:q.1=fl.offset:=(by rw[R,List.getElem?_map,Gm,g1]at hq;simp at hq;rw[<-hq]);have l:=Ab3 (G z g J) w;have D:=Ni (G z g J) w;subst g2;rcases S with⟨A,s,rfl⟩|⟨A,s⟩
  .refine⟨.agg (vs.extract fl.offset (fl.offset+g.size)),?_,.agg _ _ (by simp[b]at s ⊢;omega) λj c u m1 m2=>?_⟩
   .simp[execOp,E,L,Instr.field,run_underlying B,g1,asAgg,part,l,A,D,Result.andThen]
   .rw[b]at m1;have hj:j<g.size:=(by have:=(Gl.1 m1).1;simp at this;omega);rw[Hm hj,List.getElem?_drop]at m1;rw[Array.getElem?_extract]at m2;split at m2
    .exact M _ c u m1 m2
    .cases m2
  .have k:q.1<vs.size:=(by rw[N];exact (Gl.1 s).1);have hv:vs[fl.offset]? = some vs[q.1]:=(by rw[<-b];simp[k]);refine⟨vs[q.1],?_,M q.1 r _ s (by simp[k])⟩;simp[execOp,E,L,Instr.field,run_underlying B,g1,asAgg,part,l,A,hv,Result.andThen]
theorem Azu {t:TypeId} (h:Nat) (c:o.op = .makeMap t none):Cl P o ρ ⟨.mp h,[(h,.none)],[(h,.map [])]⟩:=by
 intro σ ι H F W w a next Q s hx b hk
 have f:H h = .none:=b (h,.none) ψ;obtain⟨s',le⟩:=s.newMap h f;refine F1 (v:=.map (some w.heap.size)) (w':=w.alloc (.map #[] 0)) ?_ (hk σ _ _ _ le s' (.mp h w.heap.size (Cy _ _ _)));simp[execOp,c,Instr.makeMap,newObj,Sem.run]
theorem Conc.mp_inv {σ:A5} {ι:B9} {H:Hp} {h:Nat} {v:Value} (hc:Conc σ ι H (.mp h) v):∃b,ι h = .box b/\v = .map (some b):=by cases hc with| cc h=>cases h| mp _ b hb=>exact⟨b,hb,rfl⟩
def U7 (b:Bool) (i:TI):Option (Nat×AV)->AV
 | none=>bif b then .tup [Fv i,.val (.bool false)] else Fv i
 | some p=>bif b then .tup [p.2,.val (.bool true)] else p.2
theorem Am1 {σ:A5} {ι:B9} {H:Hp} {i:TI} {z:Value} (h1:z.cells.toList=i.zero) (h2:i.isAgg=true->∃vs,z = .agg vs) (h3:i.isAgg=false->E6 z=true):Conc σ ι H (Fv i) z:=by
 cases b:i.isAgg with
 | true=>obtain⟨vs,rfl⟩:=h2 b;have f:Fv i = .agg (i.zero.map .val):=(by unfold TI.isAgg at b;unfold Fv;cases hd:i.d <;> rw[hd]at b <;> first|rfl|cases b);rw[f,<-h1];refine .agg _ vs (by simp[Value.cells]) λj c v g1 g2=>?_;simp only[Value.cells,List.getElem?_map,Gm,g2]at g1;simp at g1;subst g1;exact .of_val v
 | false=>have h3:=h3 b;have f:z.cells = #[z]:=(by cases z <;> first|rfl|cases h3);rw[f]at h1;have:Fv i = .val z:=(by unfold TI.isAgg at b;unfold Fv;rw[<-h1];cases hd:i.d <;> rw[hd]at b <;> first|rfl|cases b);rw[this];exact .of_val z
theorem Azv {T:C6} (hT:C7 P T) {t U et:TypeId} {x y:Operand} {D:Bool} {i V G:TI} {h:Nat} {es:List (AV×AV)} {s:ByteArray} {r:Option (Nat×AV)} (B:o.op = .lookup t x y D) (ht:T t=some i) (hd:i.d = .map U et) (hk:T U=some V) (Z:V.d = .string) (he:T et=some G) (hx:ρ x = .mp h) (hy:ρ y = .val (.string s)) (hr:Jx s es 0=some r) : Cl P o ρ ⟨U7 D G r,[(h,.map es)],[]⟩:=by
 intro σ ι H F W w a next Q st L X Y
 have hh:H h = .map es:=X (h,.map es) ψ;have R:=L x (by simp[B,Op.operands]);rw[hx]at R;obtain⟨b,hb,hv⟩:=R.mp_inv;have g:=Dv hy (L y (by simp[B,Op.operands]));have A:=st.obj h;unfold C1 at A;rw[hh]at A;obtain⟨b',M,q,e1,_,_,h3,h4⟩:=A;rw[hb]at e1;cases e1;obtain⟨_,u,_,_,S,_,_,_,_,k7⟩:=Ez (hT t i ht);rw[hd]at k7;subst k7;obtain⟨_,u',_,_,f,_,_,_,_,E⟩:=Ez (hT U V hk);rw[Z]at E;subst E;have k:Go.MapKept.IsKey .string (.string s):=trivial;have l:∀v,Conc σ ι H (U7 D G r) v->(execOp a.eval o).run P w = .ok (.value v) w->o.wp P a w next Q:=by intro v hc J;exact F1 J (Y σ ι v w (Le.refl _ _ _) st hc)
 rcases Ahe es M.toList 0 r (by simpa using h4.1) (λj p e g1 g2=>h4.2 j p e g1 (by simpa using g2)) hr with⟨rfl,N⟩|⟨j,v,e,rfl,N,g1,g2,g3,_⟩
 .obtain⟨z,hz,c1,c2,c3⟩:=Amk (hT et G he) w;have I:Conc σ ι H (Fv G) z:=Am1 c1 c2 c3;cases D with
  | true=>
   refine l (.tuple #[z,.bool false]) (.tup _ _ ψ λi c u m1 m2=>?_) ?_
   .match i with| 0=>simp at m1 m2;subst m1;subst m2;exact I| 1=>simp at m1 m2;subst m1;subst m2;exact .of_val _| i+2=>simp at m1
   .simp[execOp,B,hv,g,Instr.lookup,run_underlying S,Go.MapKept.run_getObj_map h3,Go.MapKept.run_checkKey f k,Go.MapKept.run_findKey f N,hz,Result.andThen]
  | false=>refine l z I ?_;simp[execOp,B,hv,g,Instr.lookup,run_underlying S,Go.MapKept.run_getObj_map h3,Go.MapKept.run_checkKey f k,Go.MapKept.run_findKey f N,hz,Result.andThen]
 .cases D with
  | true=>
   refine l (.tuple #[e.val,.bool true]) (.tup _ _ ψ λi c u m1 m2=>?_) ?_
   .match i with| 0=>simp at m1 m2;subst m1;subst m2;exact .cc g3| 1=>simp at m1 m2;subst m1;subst m2;exact .of_val _| i+2=>simp at m1
   .simp[execOp,B,hv,g,Instr.lookup,run_underlying S,Go.MapKept.run_getObj_map h3,Go.MapKept.run_checkKey f k,Go.MapKept.run_findKey f N,Result.andThen]
  | false=>refine l e.val (.cc g3) ?_;simp[execOp,B,hv,g,Instr.lookup,run_underlying S,Go.MapKept.run_getObj_map h3,Go.MapKept.run_checkKey f k,Go.MapKept.run_findKey f N,Result.andThen]
theorem Conc.cc_free1 {σ:A5} {ι:B9} {H:Hp} {x:AV} {v:Value} (hx:x.free1=true) (h:Conc σ ι H x v):CC σ x v:=by cases x with| agg cs=>obtain⟨vs,rfl,b,h⟩:=h.agg_inv;exact .agg cs vs b λi c u h1 h2=>((h i c u h1 h2).cc_of (D6.1 hx c (F6 h1))).1| val u=>exact (h.cc_of (x:=.val u) hx).1| sl sz xs=>exact (h.cc_of (x:=.sl sz xs) hx).1| _=>cases hx
theorem Azw {T:C6} (hT:C7 P T) {t Y et:TypeId} {x y z:Operand} {i Z:TI} {h:Nat} {es g:List (AV×AV)} {s:ByteArray} (N:o.op = .mapUpdate t x y z) (ht:T t=some i) (hd:i.d = .map Y et) (hk:T Y=some Z) (a7:Z.d = .string) (hx:ρ x = .mp h) (hy:ρ y = .val (.string s)) (hz:(ρ z).free1=true) (k:Ace s (ρ z) es=some g) : Cl P o ρ ⟨.val undef,[(h,.map es)],[(h,.map g)]⟩:=by
 intro σ ι H F W w a next Q st l a1 a6
 have hh:H h = .map es:=a1 (h,.map es) ψ;have U:=l x (by simp[N,Op.operands]);rw[hx]at U;obtain⟨b,hb,hv⟩:=U.mp_inv;have J:=Dv hy (l y (by simp[N,Op.operands]));have S:=(l z (by simp[N,Op.operands])).cc_free1 hz;have A:=st.obj h;unfold C1 at A;rw[hh]at A;obtain⟨b',M,q,e1,_,_,h3,f⟩:=A;rw[hb]at e1;cases e1;obtain⟨_,u,_,_,k2,_,_,_,_,k7⟩:=Ez (hT t i ht);rw[hd]at k7;subst k7;obtain⟨_,u',_,_,c,_,_,_,_,I⟩:=Ez (hT Y Z hk);rw[a7]at I;subst I;have D:Go.MapKept.IsKey .string (.string s):=trivial;have R:∀V X,Sp σ g V->(execOp a.eval o).run P w = .ok .skip {w with heap:=w.heap.setIfInBounds b (.map V X)}->o.wp P a w next Q:=by intro V X hM L;obtain⟨s',le⟩:=st.setMap h es g hh b hb V X hM;exact Ab2 L (a6 σ ι undef _ le s' (.of_val _))
 unfold Ace at k;cases G:Jx s es 0 with
 | none=>rw[G]at k;cases k
 | some r=>
  rw[G]at k;rcases Ahe es M.toList 0 r (by simpa using f.1) (λj p e g1 g2=>f.2 j p e g1 (by simpa using g2)) G with⟨rfl,hf⟩|⟨j,v,e,rfl,hf,g1,g2,g3,g4⟩
  .simp only[Option.some.injEq]at k;subst k;refine R (M.push {key:=.string s,val:=a.eval z,born:=q}) (q+1) ⟨by simp[f.1],λi' p e m1 m2=>?_⟩ ?_
   .rcases Nat.lt_or_ge i' es.length with B|hge
    .rw[List.getElem?_append_left B]at m1;rw[Array.getElem?_push_lt (by rw[f.1];exact B)]at m2;exact f.2 i' p e m1 (by rw[Array.getElem?_eq_getElem (by rw[f.1];exact B)];exact m2)
    .rw[List.getElem?_append_right hge]at m1;have a8:i'=es.length:=(by have:=(Gl.1 m1).1;simp at this;omega);subst a8;simp at m1;subst m1;rw[<-f.1]at m2;simp at m2;subst m2;exact⟨.val _,S⟩
   .simp[execOp,N,hv,J,Instr.mapUpdate,run_underlying k2,Go.MapKept.run_getObj_map h3,Go.MapKept.run_checkKey c D,Go.MapKept.run_findKey c hf,Go.MapKept.run_setObj_map _ h3,Result.andThen]
  .simp only[Option.some.injEq]at k;subst k;have hj:M[j]? = some e:=(by simpa using g1);refine R (M.modify j λe=>{e with key:=.string s,val:=a.eval z}) q ⟨by simp[f.1],λi' p e' m1 m2=>?_⟩ ?_
   .simp only[Nat.zero_add]at m1;rw[List.getElem?_set]at m1;rw[Array.getElem?_modify]at m2;by_cases E:j=i'
    .subst E;simp only[if_true]at m1 m2;rw[if_pos g4]at m1;cases m1;rw[hj]at m2;simp at m2;subst m2;exact⟨.val _,S⟩
    .rw[if_neg E]at m1;rw[if_neg E]at m2;exact f.2 i' p e' m1 m2
   .simp[execOp,N,hv,J,Instr.mapUpdate,run_underlying k2,Go.MapKept.run_getObj_map h3,Go.MapKept.run_checkKey c D,Go.MapKept.run_findKey c hf,hj,g2,Go.MapKept.run_keyThatStays D,Go.MapKept.run_setObj_map _ h3,Result.andThen]
def Ach (P:Program) (b:TypeId) (c:List Value):Prop := (∃fs,P.underlying b=some (.struct fs))/\∀(w:World) (e:Bool),(Instr.checkKey e 10000 b (.agg c.toArray)).run P w = .ok () w
inductive Oc (P:Program) (kt:TypeId) (us:List Value):List (AV×AV)->Nat->Option (Nat×AV)->Prop where
 | nil (i:Nat):Oc P kt us [] i none
 | hit {ys:List AV} {vs:List Value} {v:AV} {es:List (AV×AV)} {i:Nat} (h1:Ja ys=some vs) (h2:Acg P kt us vs true):Oc P kt us ((.agg ys,v)::es) i (some (i,v))
 | miss {ys:List AV} {vs:List Value} {v:AV} {es:List (AV×AV)} {i:Nat} {r:Option (Nat×AV)} (h1:Ja ys=some vs) (h2:Acg P kt us vs false) (h3:Oc P kt us es (i+1) r):Oc P kt us ((.agg ys,v)::es) i r
theorem Oc.sound {σ:A5} {l:TypeId} {k:List Value} {es:List (AV×AV)} {i:Nat} {r:Option (Nat×AV)} (h:Oc P l k es i r):∀(L:List MapEntry),L.length=es.length -> (∀(j:Nat) (p:AV×AV) (e:MapEntry),es[j]? = some p->L[j]? = some e->CC σ p.1 e.key/\CC σ p.2 e.val)->∀w:World, (r=none/\(Instr.findAsking l (.agg k.toArray) L i).run P w = .ok none w)\/∃j v e,r=some (i+j,v)/\(Instr.findAsking l (.agg k.toArray) L i).run P w = .ok (some (i+j,e.val)) w/\L[j]? = some e/\CC σ v e.val/\j<es.length:=by
 induction h with
 | nil i=>intro L g _ w;cases L with| nil=>exact .inl ⟨rfl,by simp[Instr.findAsking]⟩| cons e L=>simp at g
 | @hit ys vs v es i h1 h2=>
  intro L g hc w;cases L with
  | nil=>simp at g
  | cons e L=>obtain⟨s,x⟩:=hc 0 _ e rfl rfl;have hk:e.key = .agg vs.toArray:=(by generalize e.key=q at s;cases s with| agg _ b f hh=>have:=Ss (σ:=σ) (ι:=λ_=>.none) (H:=λ_=>.none) (vs:=b.toList) h1 (by simpa using f) (λi c u g1 g2=>.cc (hh i c u g1 (by simpa using g2)));rw[<-this]);refine .inr ⟨0,v,e,rfl,?_,rfl,x,ψ⟩;have:=(h2 w .eql default default).2;simp[Instr.findAsking,hk,this]
 | @miss ys vs v es i r h1 h2 h3 ih=>
  intro L g hc w;cases L with
  | nil=>simp at g
  | cons e L=>
   obtain⟨s,x⟩:=hc 0 _ e rfl rfl;have hk:e.key = .agg vs.toArray:=(by generalize e.key=q at s;cases s with| agg _ b f hh=>have:=Ss (σ:=σ) (ι:=λ_=>.none) (H:=λ_=>.none) (vs:=b.toList) h1 (by simpa using f) (λi c u g1 g2=>.cc (hh i c u g1 (by simpa using g2)));rw[<-this]);have:=(h2 w .eql default default).2;have step:(Instr.findAsking l (.agg k.toArray) (e::L) i).run P w=(Instr.findAsking l (.agg k.toArray) L (i+1)).run P w:=(by simp[Instr.findAsking,hk,this]);rcases ih L (by simpa using g) (λj z e' g1 g2=>hc (j+1) z e' (by simpa using g1) (by simpa using g2)) w with⟨g1,g2⟩|⟨j,y,e',g1,g2,g3,g4,g5⟩
   .exact .inl ⟨g1,by rw[step];exact g2⟩
   .exact .inr ⟨j+1,y,e',by rw[g1];congr 2;omega,by rw[step,g2];congr 3;omega,by simpa using g3,g4,by simpa using g5⟩
theorem Azx {T:C6} (hT:C7 P T) {t G et:TypeId} {x y:Operand} {E:Bool} {i I:TI} {h:Nat} {es:List (AV×AV)} {ks:List AV} {A:List Value} {r:Option (Nat×AV)} (D:o.op = .lookup t x y E) (ht:T t=some i) (hd:i.d = .map G et) (he:T et=some I) (hx:ρ x = .mp h) (hy:ρ y = .agg ks) (hu:Ja ks=some A) (hc:Ach P G A) (hr:Oc P G A es 0 r) : Cl P o ρ ⟨U7 E I r,[(h,.map es)],[]⟩:=by
 intro σ ι H F W w a next Q st N Z a1
 have hh:H h = .map es:=Z (h,.map es) ψ;have U:=N x (by simp[D,Op.operands]);rw[hx]at U;obtain⟨b,hb,hv⟩:=U.mp_inv;have S:=N y (by simp[D,Op.operands]);rw[hy]at S;obtain⟨X,f,a6,a8⟩:=S.agg_inv;have Y:X.toList=A:=Ss hu (by simpa using a6) (λi c u g1 g2=>a8 i c u g1 (by simpa using g2));have f:a.eval y = .agg A.toArray:=by rw[f,<-Y]
 have B:=st.obj h;unfold C1 at B;rw[hh]at B;obtain⟨b',M,q,e1,_,_,h3,h4⟩:=B;rw[hb]at e1;cases e1;obtain⟨_,u,_,_,V,_,_,_,_,k7⟩:=Ez (hT t i ht);rw[hd]at k7;subst k7;obtain⟨⟨fs,a7⟩,s⟩:=hc;have g:∀v,Conc σ ι H (U7 E I r) v->(execOp a.eval o).run P w = .ok (.value v) w->o.wp P a w next Q:=by intro v hc L;exact F1 L (a1 σ ι v w (Le.refl _ _ _) st hc)
 have k:∀l,(Instr.findKey G (.agg A.toArray) l).run P w=(Instr.findAsking G (.agg A.toArray) l).run P w:=λl=>run_findKey_eq w (by rw[a7]) _ l;rcases hr.sound M.toList (by simpa using h4.1) (λj p e g1 g2=>h4.2 j p e g1 (by simpa using g2)) w with⟨rfl,R⟩|⟨j,v,e,rfl,R,g1,g3,_⟩
 .obtain⟨z,hz,c1,c2,c3⟩:=Amk (hT et I he) w;have J:Conc σ ι H (Fv I) z:=Am1 c1 c2 c3;cases E with
  | true=>
   refine g (.tuple #[z,.bool false]) (.tup _ _ ψ λi c u m1 m2=>?_) ?_
   .match i with| 0=>simp at m1 m2;subst m1;subst m2;exact J| 1=>simp at m1 m2;subst m1;subst m2;exact .of_val _| i+2=>simp at m1
   .simp[execOp,D,hv,f,Instr.lookup,run_underlying V,Go.MapKept.run_getObj_map h3,s,k,R,hz,Result.andThen]
  | false=>refine g z J ?_;simp[execOp,D,hv,f,Instr.lookup,run_underlying V,Go.MapKept.run_getObj_map h3,s,k,R,hz,Result.andThen]
 .cases E with
  | true=>
   refine g (.tuple #[e.val,.bool true]) (.tup _ _ ψ λi c u m1 m2=>?_) ?_
   .match i with| 0=>simp at m1 m2;subst m1;subst m2;exact .cc g3| 1=>simp at m1 m2;subst m1;subst m2;exact .of_val _| i+2=>simp at m1
   .simp[execOp,D,hv,f,Instr.lookup,run_underlying V,Go.MapKept.run_getObj_map h3,s,k,R,Result.andThen]
  | false=>refine g e.val (.cc g3) ?_;simp[execOp,D,hv,f,Instr.lookup,run_underlying V,Go.MapKept.run_getObj_map h3,s,k,R,Result.andThen]
theorem Azy {T:C6} (hT:C7 P T) {t G et:TypeId} {x y z:Operand} {i:TI} {h:Nat} {es:List (AV×AV)} {g:List AV} {f:List Value} (L:o.op = .mapUpdate t x y z) (ht:T t=some i) (hd:i.d = .map G et) (hx:ρ x = .mp h) (hy:ρ y = .agg g) (hu:Ja g=some f) (hz:(ρ z).free1=true) (hc:Ach P G f) (hr:Oc P G f es 0 none) : Cl P o ρ ⟨.val undef,[(h,.map es)],[(h,.map (es++[(.agg g,ρ z)]))]⟩:=by
 intro σ ι H F W w a next Q st A S U
 have hh:H h = .map es:=S (h,.map es) ψ;have J:=A x (by simp[L,Op.operands]);rw[hx]at J;obtain⟨b,hb,hv⟩:=J.mp_inv;have I:=A y (by simp[L,Op.operands]);rw[hy]at I;obtain⟨N,k,V,a8⟩:=I.agg_inv;have R:N.toList=f:=Ss hu (by simpa using V) (λi c u g1 g2=>a8 i c u g1 (by simpa using g2));have k:a.eval y = .agg f.toArray:=by rw[k,<-R]
 have X:CC σ (.agg g) (.agg f.toArray):=by
  have s:∀(g:List AV) (f:List Value),Ja g=some f->g=f.map .val:=by
   intro g;induction g with
   | nil=>intro f h;simp only[Ja]at h;cases h;rfl
   | cons c g ih=>intro f h;cases c with| val v=>simp only[Ja,Option.map_eq_some_iff]at h;obtain⟨aa,h1,rfl⟩:=h;rw[ih _ h1];rfl| _=>simp[Ja]at h
  have e:=s g f hu;subst e;refine .agg _ _ ψ λi c v g1 g2=>?_;simp only[List.getElem?_map]at g1;have g2:f[i]? = some v:=(by simpa using g2);rw[g2]at g1;simp at g1;subst g1;exact .val v
 have a6:=(A z (by simp[L,Op.operands])).cc_free1 hz;have B:=st.obj h;unfold C1 at B;rw[hh]at B;obtain⟨b',M,q,e1,_,_,h3,E⟩:=B;rw[hb]at e1;cases e1;obtain⟨_,u,_,_,k2,_,_,_,_,k7⟩:=Ez (hT t i ht);rw[hd]at k7;subst k7;obtain⟨⟨fs,Z⟩,a7⟩:=hc;have a1:∀l,(Instr.findKey G (.agg f.toArray) l).run P w=(Instr.findAsking G (.agg f.toArray) l).run P w:=λl=>run_findKey_eq w (by rw[Z]) _ l;rcases hr.sound M.toList (by simpa using E.1) (λj p e g1 g2=>E.2 j p e g1 (by simpa using g2)) w with⟨_,hf⟩|⟨j,v,e,he,_⟩
 .have hM:Sp σ (es++[(.agg g,ρ z)]) (M.push {key:=.agg f.toArray,val:=a.eval z,born:=q}):=by
   refine⟨by simp[E.1],λi' p e m1 m2=>?_⟩;rcases Nat.lt_or_ge i' es.length with D|hge
   .rw[List.getElem?_append_left D]at m1;rw[Array.getElem?_push_lt (by rw[E.1];exact D)]at m2;exact E.2 i' p e m1 (by rw[Array.getElem?_eq_getElem (by rw[E.1];exact D)];exact m2)
   .rw[List.getElem?_append_right hge]at m1;have Y:i'=es.length:=(by have:=(Gl.1 m1).1;simp at this;omega);subst Y;simp at m1;subst m1;rw[<-E.1]at m2;simp at m2;subst m2;exact⟨X,a6⟩
  obtain⟨s',le⟩:=st.setMap h es _ hh b hb _ (q+1) hM;refine Ab2 ?_ (U σ ι undef _ le s' (.of_val _));simp[execOp,L,hv,k,Instr.mapUpdate,run_underlying k2,Go.MapKept.run_getObj_map h3,a7,a1,hf,Go.MapKept.run_setObj_map _ h3,Result.andThen]
 .cases he
end
end Go.Ab
namespace Go.Ab
def ev (e:B6):Operand->AV
 | .tmp t=>e t
 | .const v=>.val v
 | .global g=>.val (.pointer (some ⟨g,0,none⟩))
 | .func f=>.fn f []
def put (e:B6) (d:Option Nat) (v:AV):B6 := match d with
 | none=>e
 | some n=>Bg e n v
def Ahg:Operand->Option Nat
 | .tmp t=>some t
 | _=>none
def U8 (ops:Array Oper) (o:Oper):Option Nat := match o.guard with
 | none=>none
 | some p=>(ops[p.1]?).bind (·.dst)
def Ly (ops:Array Oper) (o:Oper):List Nat:=o.op.operands.toList.filterMap Ahg++(U8 ops o).toList
def Fe (σ:A5) (ι:B9) (H:Hp) (e:B6) (a:Act):Prop:=∀s,s<a.tmps.size->Conc σ ι H (e s) (a.tmps.getD s undef)
section
variable {σ:A5} {ι:B9} {H:Hp} {e:B6} {a:Act}
theorem Fe.eval (h:Fe σ ι H e a) {x:Operand} (hx:∀t,Ahg x=some t->t<a.tmps.size):Conc σ ι H (ev e x) (a.eval x):=by cases x with| tmp t=>exact h t (hx t rfl)| const v=>exact .of_val v| global g=>exact .of_val _| func f=>exact .fn f [] #[] rfl ψ
theorem Fe.mono {b:A5} {c:B9} {H':Hp} (h:Fe σ ι H e a) (le:Le σ ι H b c H'):Fe b c H' e a:=λs f=>(h s f).mono le
theorem Fe.put (h:Fe σ ι H e a) {d:Option Nat} {r:AV} {v:Value} (hv:Conc σ ι H r v):Fe σ ι H (put e d r) (a.put d v):=by
 cases d with
 | none=>exact h
 | some n=>
  intro s b;simp only[Act.put,Array.size_setIfInBounds]at b;simp only[Ab.put,Act.put];by_cases c:s=n
  .subst c;rw[Cy];simpa[b] using hv
  .rw[Di _ _ c];have:=h s b;simp only[Array.getD_eq_getD_getElem?]at this ⊢;rw[Array.getElem?_setIfInBounds_ne ω];exact this
end
def Su:Value->Option Bool
 | .bool b=>some b
 | _=>none
def Jb (ops:Array Oper) (o:Oper) (e:B6) (b:Bool):Prop := match o.guard with
 | none=>b=true
 | some p=>∃s v,(ops[p.1]?).bind (·.dst)=some s/\e s = .val v/\b=(Su v==some p.2)
theorem Am2 {ops:Array Oper} {o:Oper} {e:B6} {f:Bool} {σ:A5} {ι:B9} {H:Hp} {a:Act} (hg:Jb ops o e f) (i:Fe σ ι H e a) (g:∀s,U8 ops o=some s->s<a.tmps.size) : Region.wanted o (yielded ops a.tmps)=f:=by unfold Jb at hg;unfold Region.wanted;cases h:o.guard with| none=>rw[h]at hg;exact hg.symm| some p=>rw[h]at hg;obtain⟨s,b,h1,h2,h3⟩:=hg;have c:=g s (by unfold U8;rw[h];exact h1);have hc:=i s c;rw[h2]at hc;have hv:=hc.val_inv;have:yielded ops a.tmps p.1=Su b:=(by unfold yielded;rw[h1];simp only[Option.bind_some];have:a.tmps[s]? = some b:=(by rw[Array.getD_eq_getD_getElem?]at hv;simp[c]at hv ⊢;exact hv);rw[this];cases b <;> rfl);show (yielded ops a.tmps p.1==some p.2)=f;rw[this,h3]
abbrev Acc:=Nat->List Nat×List Nat
def Qm (P:Program) (ops:Array Oper) (acc:Acc) (i:Nat) (o:Oper) (e:B6) (H:Hp) (r:AV) (c:List (Nat×Bu)):Prop := ops[i]? = some o /\ ((Jb ops o e true/\∃b,Cl P o (ev e) b/\(∀p∈b.rd,H p.1=p.2)/\(∀p∈b.rd,p.1∈(acc i).1)/\(∀p∈b.wr,p.1∈(acc i).2)/\r=b.r/\c=b.wr) \/ (Jb ops o e false/\r = .val undef/\c = []))
inductive Run (P:Program) (ops:Array Oper) (acc:Acc):List Nat->B6->Hp->B6->Hp->Prop where
 | nil (e:B6) (H:Hp):Run P ops acc [] e H e H
 | cons {i:Nat} {l:List Nat} {e e':B6} {H H':Hp} (o:Oper) (r:AV) (wr:List (Nat×Bu)) (hd:Qm P ops acc i o e H r wr)
   (rest:Run P ops acc l (put e o.dst r) (C2 H wr) e' H'):Run P ops acc (i::l) e H e' H'
def F2 (b:List Nat) (a c:Act):Prop:=∀s,s ∉ b->c.tmps.getD s undef=a.tmps.getD s undef
theorem F2.refl (b:List Nat) (a:Act):F2 b a a:=λ_ _=>rfl
theorem F2.trans {f:List Nat} {a b c:Act} (h:F2 f a b) (h':F2 f b c):F2 f a c:=λs g=>(h' s g).trans (h s g)
theorem F2.mono {f c:List Nat} {a b:Act} (h:F2 f a b) (hm:∀s∈f,s∈c):F2 c a b:=λs g=>h s (λx=>g (hm s x))
theorem F2.put (a:Act) (d:Option Nat) (v:Value) (b:List Nat) (h:∀s,d=some s->s∈b):F2 b a (a.put d v):=by cases d with| none=>exact F2.refl _ _| some n=>intro s c;have f:s≠n:=λe=>c (e ▸ h n rfl);simp only[Act.put,Array.getD_eq_getD_getElem?];rw[Array.getElem?_setIfInBounds_ne ω]
def X3 (ops:Array Oper):List Nat:=ops.toList.filterMap (·.dst)
theorem F2.step {ops:Array Oper} {i:Nat} {o:Oper} (c:ops[i]? = some o) (a:Act) (v:Value):F2 (X3 ops) a (a.put o.dst v):=by refine F2.put a o.dst v _ (λs b=>?_);unfold X3;rw[List.mem_filterMap];exact⟨o,by simpa using Array.mem_of_getElem? c,b⟩
def Aci (ops:Array Oper) (n:Nat):Prop:=∀(i:Nat) (o:Oper),ops[i]? = some o->∀s∈Ly ops o,s<n
section
variable {P:Program} {ops:Array Oper} {acc:Acc} {F:A5} {W:World} {Q:Exit->Act->World->Prop}
theorem Am3 (a:Act) (d:Option Nat) (v:Value):(a.put d v).tmps.size=a.tmps.size:=by cases d <;> simp[Act.put]
theorem Run.wpOp {i:Nat} {l:List Nat} {e e':B6} {H H':Hp} (h:Run P ops acc (i::l) e H e' H') {σ:A5} {ι:B9} {a:Act} {w:World} (s:St σ ι H F W w) (q:Fe σ ι H e a) (B:Aci ops a.tmps.size) {K:Act->World->Prop} (hk:∀(A:B6) (y:Hp),Run P ops acc l A y e' H'->∀g j u w',Le σ ι H g j y->St g j y F W w'->Fe g j y A u->u.tmps.size=a.tmps.size->u.defers=a.defers->F2 (X3 ops) a u->K u w') : wpOp P ops Q i K a w:=by
 have c:∀(d:Option Nat) (v:Value),(a.put d v).defers=a.defers:=by intro d v;cases d <;> rfl
 cases h with
 | cons o r wr hd rest=>
  obtain⟨k,hd⟩:=hd;unfold Go.wpOp;have f:=B i o k;rcases hd with⟨hg,D,b,z,_,_,rfl,rfl⟩|⟨hg,rfl,rfl⟩
  .have hw:=Am2 hg q (λs' h'=>f s' (by simp[Ly,h']));rw[k];simp only[hw,if_true];refine .inl (b σ ι H F W w a K Q s (λx hx=>q.eval (λt ht=>f t ?_)) z ?_)
   .simp only[Ly,List.mem_append,List.mem_filterMap];exact .inl ⟨x,hx,ht⟩
   .intro g j v w' le s' hc;exact hk _ _ rest g j _ w' le s' ((q.mono le).put hc) (Am3 _ _ _) (c _ _) (F2.step k a v)
  .have hw:=Am2 hg q (λs' h'=>f s' (by simp[Ly,h']));rw[k];simp only[hw,Bool.false_eq_true,if_false];exact hk _ _ rest σ ι _ w (Le.refl _ _ _) s (q.put (.of_val undef)) (Am3 _ _ _) (c _ _) (F2.step k a undef)
theorem Run.wpOps {l:List Nat} {e e':B6} {H H':Hp} (h:Run P ops acc l e H e' H'):∀{σ:A5} {ι:B9} {a:Act} {w:World},St σ ι H F W w->Fe σ ι H e a->Aci ops a.tmps.size -> (∀j k g w',Le σ ι H j k H'->St j k H' F W w'->Fe j k H' e' g->g.tmps.size=a.tmps.size->g.defers=a.defers->F2 (X3 ops) a g->Q .normal g w')->wpOps P ops Q l a w:=by induction l generalizing e H with| nil=>intro σ ι a w s B y hk;cases h;exact hk σ ι a w (Le.refl _ _ _) s B rfl rfl (F2.refl _ _)| cons i l ih=>intro σ ι a w s B y hk;rw[wpOps_cons];refine h.wpOp s B y ?_;intro U V M N R a1 S u L A c D hu;refine ih M L A (by rw[c];exact y) ?_;intro E G a2 I q J z b f x;exact hk E G a2 I (u.trans q) J z (b.trans c) (f.trans D) (hu.trans x)
theorem Cl.congr {o:Oper} {ρ f:Operand->AV} {b:Eff} (h:Cl P o ρ b) (g:∀x∈o.op.operands.toList,f x=ρ x):Cl P o f b := λσ ι H F W w a next Q s hx c hk=>h σ ι H F W w a next Q s (λx hm=>by rw[<-g x hm];exact hx x hm) c hk
theorem Jb.congr {o:Oper} {e e':B6} {c:Bool} (h:Jb ops o e c) (f:∀s,U8 ops o=some s->e' s=e s):Jb ops o e' c:=by unfold Jb at *;cases hg:o.guard with| none=>rw[hg]at h;exact h| some p=>rw[hg]at h;obtain⟨s,b,h1,h2,h3⟩:=h;exact⟨s,b,h1,by rw[f s (by unfold U8;rw[hg];exact h1)];exact h2,h3⟩
theorem Azz {e e':B6} {x:Operand} (h:∀t,Ahg x=some t->e' t=e t):ev e' x=ev e x:=by cases x with| tmp t=>exact h t rfl| _=>rfl
theorem Qm.congr {i:Nat} {o:Oper} {e e':B6} {H H':Hp} {r:AV} {c:List (Nat×Bu)} (h:Qm P ops acc i o e H r c) (f:∀s∈Ly ops o,e' s=e s) (l:∀x∈(acc i).1,H' x=H x):Qm P ops acc i o e' H' r c:=by
 obtain⟨k,h⟩:=h;refine⟨k,?_⟩;have hg:∀s,U8 ops o=some s->e' s=e s:=λs j=>f s (by simp[Ly,j]);rcases h with⟨h1,b,h2,h3,g,y,u,q⟩|⟨h1,h2,h3⟩
 .refine .inl ⟨h1.congr hg,b,h2.congr (λx hx=>Azz λt ht=>f t ?_),λp hp=>?_,g,y,u,q⟩
  .simp only[Ly,List.mem_append,List.mem_filterMap];exact .inl ⟨x,hx,ht⟩
  .rw[l p.1 (g p hp)];exact h3 p hp
 .exact .inr ⟨h1.congr hg,h2,h3⟩
theorem U9 {H:Hp}:∀{b:List (Nat×Bu)} {x:Nat},(∀p∈b,p.1≠x)->C2 H b x=H x
 | [],_,_=>rfl
 | p::b,x,h=>by simp only[C2];rw[U9 (λq hq=>h q (by simp[hq])),Di _ _ (λe=>h p ψ e.symm)]
theorem Am4 {H:Hp} {h:Nat} {o:Bu}:∀{b:List (Nat×Bu)},(∀p∈b,p.1≠h)->C2 (Bg H h o) b=Bg (C2 H b) h o
 | [],_=>rfl
 | p::b,hp=>by simp only[C2];rw[Ami _ _ _ (λe=>hp p ψ e),Am4 (λq hq=>hp q (by simp[hq]))]
theorem Am5 {H:Hp}:∀{c b:List (Nat×Bu)},(∀p∈c,∀q∈b,p.1≠q.1)->C2 (C2 H c) b=C2 (C2 H b) c
 | [],_,_=>rfl
 | p::c,b,h=>by simp only[C2];rw[Am5 (λq hq f hq'=>h q (by simp[hq]) f hq'),Am4 (λq hq e=>h p ψ q hq e.symm)]
structure Ind (ops:Array Oper) (acc:Acc) (i j:Nat) (o o':Oper):Prop where
 d1:∀s,o.dst=some s->s ∉ Ly ops o'/\o'.dst≠some s
 d2:∀s,o'.dst=some s->s ∉ Ly ops o
 h1:∀x∈(acc i).2,x ∉ (acc j).1/\x ∉ (acc j).2
 h2:∀x∈(acc j).2,x ∉ (acc i).1
theorem Am6 {e:B6} {d:Option Nat} {r:AV} {s:Nat} (h:d≠some s):put e d r s=e s:=by cases d with| none=>rfl| some n=>exact Di _ _ (λe=>h (by rw[e]))
theorem Az0 {e:B6} {d b:Option Nat} {r c:AV} (h:∀s,d=some s->b≠some s):put (put e d r) b c=put (put e b c) d r:=by
 cases d with
 | none=>rfl
 | some n=>cases b with| none=>rfl| some m=>exact Ami _ _ _ (λe=>h n rfl (by rw[e]))
theorem Qm.wr {i:Nat} {o:Oper} {e:B6} {H:Hp} {r:AV} {b:List (Nat×Bu)} (h:Qm P ops acc i o e H r b):∀p∈b,p.1∈(acc i).2:=by
 obtain⟨_,⟨_,g,_,_,_,f,_,c⟩|⟨_,_,h3⟩⟩:=h
 .subst c;exact f
 .subst h3;intro p hp;cases hp
theorem Run.swap {i j:Nat} {l:List Nat} {e e':B6} {H H':Hp} (h:Run P ops acc (i::j::l) e H e' H') (hi:∀o o',ops[i]? = some o->ops[j]? = some o'->Ind ops acc i j o o'):Run P ops acc (j::i::l) e H e' H':=by
 cases h with
 | cons o r wr hd rest=>cases rest with| cons o' g c b rest=>have ind:=hi o o' hd.1 b.1;have a1:Qm P ops acc j o' e H g c:=b.congr (λs f=>(Am6 (λe=>(ind.d1 s e).1 f)).symm) (λx hx=>(U9 (λp hp e=>(ind.h1 p.1 (hd.wr p hp)).1 (e ▸ hx))).symm);have a2:Qm P ops acc i o (put e o'.dst g) (C2 H c) r wr:=hd.congr (λs f=>Am6 (λe=>ind.d2 s e f)) (λx hx=>U9 (λp hp e=>ind.h2 p.1 (b.wr p hp) (e ▸ hx)));refine .cons o' g c a1 (.cons o r wr a2 ?_);rw[Az0 (λs f e=>(ind.d1 s e).2 f),Am5 (λp hp q hq e=>(ind.h1 q.1 (hd.wr q hq)).2 (e ▸ b.wr p hp))];exact rest
theorem Run.bubble {i:Nat}:∀{b c:List Nat} {e e':B6} {H H':Hp},Run P ops acc (b++i::c) e H e' H'->(∀j∈b,∀o o',ops[j]? = some o->ops[i]? = some o'->Ind ops acc j i o o')->Run P ops acc (i::(b++c)) e H e' H'
 | [],_,_,_,_,_,h,_=>h
 | j::b,c,e,e',H,H',h,hi=>by cases h with| cons o r wr hd rest=>exact Run.swap (.cons o r wr hd (rest.bubble (λk hk=>hi k (by simp[hk])))) (hi j ψ)
end
def Qo (ms:List Nat) (o:Oper):Nat:=o.after.toList.foldl (λa x=>bif Region.binds .any x then a ||| ((1 <<< x.on) ||| ms.getD x.on 0) else a) 0
def J7:List Oper->List Nat->List Nat
 | [],ms=>ms
 | o::os,ms=>J7 os (ms++[Qo ms o])
def X4 (l m:List Nat):Bool:=l.all λx=>!m.contains x
def Ahh (ops:Array Oper) (a b:List Nat×List Nat) (o o':Oper):Bool := (match o.dst with
   | none=>true
   | some s=>!(Ly ops o').contains s && !(o'.dst==some s)) && (match o'.dst with
   | none=>true
   | some s=>!(Ly ops o).contains s) && X4 a.2 b.1&&X4 a.2 b.2&&X4 b.2 a.1
def Ahi (ops:List Oper) (acc:List (List Nat×List Nat)):Bool :=
 let M:=J7 ops []
 (ops.zipIdx.all λp=>p.1.after.toList.all λx=>!Region.binds .any x||Nat.blt x.on p.2) && ops.zipIdx.all λp=>ops.zipIdx.all λq=>!Nat.blt q.2 p.2||(M.getD p.2 0).testBit q.2||Ahh ops.toArray (acc.getD q.2 ([],[])) (acc.getD p.2 ([],[])) q.1 p.1
section
variable {P:Program} {F:A5} {W:World} {Q:Exit->Act->World->Prop}
theorem Am7:∀(os:List Oper) (ms:List Nat),(J7 os ms).take ms.length=ms/\(J7 os ms).length=ms.length+os.length /\ ∀(k:Nat) (o:Oper),os[k]? = some o->(J7 os ms).getD (ms.length+k) 0=Qo ((J7 os ms).take (ms.length+k)) o
 | [],ms=>⟨by simp[J7],by simp[J7],ψ⟩
 | o::os,ms=>by
  obtain⟨h1,h2,h3⟩:=Am7 os (ms++[Qo ms o]);simp only[J7];simp only[List.length_append,List.length_cons,List.length_nil]at h1 h2 h3;have b:(J7 os (ms++[Qo ms o])).take ms.length=ms:=(by have:=congrArg (List.take ms.length) h1;rw[List.take_take]at this;simpa using this);refine⟨b,by simp only[List.length_cons];omega,λk o' hk=>?_⟩;cases k with
  | zero=>simp at hk;subst hk;rw[Nat.add_zero,b];have hg:(J7 os (ms++[Qo ms o]))[ms.length]? = some (Qo ms o):=(by have c:((J7 os (ms++[Qo ms o])).take (ms.length+1))[ms.length]? = (J7 os (ms++[Qo ms o]))[ms.length]?:=Hm ω;rw[<-c,h1];simp);simp[List.getD,hg]
  | succ k=>have:=h3 k o' (by simpa using hk);rwa [show ms.length+1+k=ms.length+(k+1) by omega]at this
theorem Am8 (ms:List Nat) (j:Nat):∀(l:List Edge) (a:Nat),(l.foldl (λa x=>bif Region.binds .any x then a ||| ((1 <<< x.on) ||| ms.getD x.on 0) else a) a).testBit j=true -> a.testBit j=true\/∃x∈l,Region.binds .any x=true/\(x.on=j\/(ms.getD x.on 0).testBit j=true)
 | [],a,h=>.inl h
 | x::l,a,h=>by
  simp only[List.foldl_cons]at h;rcases Am8 ms j l _ h with h'|⟨y,hy,hb⟩
  .cases hb:Region.binds .any x with
   | false=>rw[hb]at h';exact .inl h'
   | true=>
    rw[hb]at h';simp only[cond_true,Nat.testBit_or,Bool.or_eq_true]at h';rcases h' with h'|h'|h'
    .exact .inl h'
    .refine .inr ⟨x,ψ,hb,.inl ?_⟩;rw[Nat.one_shiftLeft,Nat.testBit_two_pow]at h';simpa using h'
    .exact .inr ⟨x,ψ,hb,.inr h'⟩
  .exact .inr ⟨y,by simp[hy],hb⟩
theorem Ahj {l m:List Nat} (h:X4 l m=true):∀x∈l,x ∉ m:=by intro x hx hm;unfold X4 at h;rw[D6]at h;have:=h x hx;simp[hm]at this
theorem Az1 {ops:Array Oper} {acc:Acc} {i j:Nat} {o o':Oper} (h:Ahh ops (acc i) (acc j) o o'=true):Ind ops acc i j o o':=by
 unfold Ahh at h;simp only[Fq]at h;obtain⟨⟨⟨⟨h1,h2⟩,h3⟩,f⟩,c⟩:=h;refine⟨λs b=>?_,λs b=>?_,λx hx=>⟨Ahj h3 x hx,Ahj f x hx⟩,Ahj c⟩
 .rw[b]at h1;simpa using h1
 .rw[b]at h2;simpa using h2
def Az2 (ops:Array Oper) (b:Array Bool):Prop := ∀(k:Nat) (o:Oper),ops[k]? = some o->b.getD k false=true->∀x∈o.after.toList,Region.binds .any x=true->b.getD x.on false=true
theorem Am9 {ops:Array Oper} {b:Array Bool} {i:Nat} (h:i∈Region.ready .any ops b) : i<ops.size/\b.getD i true=false/\∀o,ops[i]? = some o->∀x∈o.after.toList,Region.binds .any x=true->b.getD x.on false=true:=by unfold Region.ready at h;rw[List.mem_filter]at h;obtain⟨h1,h2⟩:=h;simp only[Fq,Bool.not_eq_true']at h2;refine⟨by simpa using h1,h2.1,λo c x hx hb=>?_⟩;have h3:=h2.2;rw[c]at h3;simp only[Option.map_some,Option.getD_some]at h3;rw[<-Array.all_toList,D6]at h3;have:=h3 x hx;simpa[hb] using this
theorem Ahk {ops:List Oper} {accs:List (List Nat×List Nat)} (M:Ahi ops accs=true) {e':B6} {H':Hp}:∀(fuel:Nat) (b:Array Bool) (l:List Nat) (e:B6) (H:Hp) (σ:A5) (ι:B9) (a:Act) (w:World), Run P ops.toArray (λi=>accs.getD i ([],[])) l e H e' H'->l.Pairwise (· < ·)->(∀i,i∈l↔i<ops.length/\b.getD i true=false)->b.size=ops.length->Az2 ops.toArray b->l.length=fuel -> St σ ι H F W w->Fe σ ι H e a->Aci ops.toArray a.tmps.size -> (∀σ' ι' a' w',Le σ ι H σ' ι' H'->St σ' ι' H' F W w'->Fe σ' ι' H' e' a'->a'.tmps.size=a.tmps.size->a'.defers=a.defers->F2 (X3 ops.toArray) a a'->Q .normal a' w') -> wpAny P .any ops.toArray Q fuel b a w
 | 0,b,l,e,H,σ,ι,a,w,hr,hp,hm,Z,S,f,s,he,hs,hk=>by have D:l = []:=List.eq_nil_of_length_eq_zero f;subst D;cases hr;refine⟨?_,hk σ ι a w (Le.refl _ _ _) s he rfl rfl (F2.refl _ _)⟩;apply List.eq_nil_iff_forall_not_mem.2;intro i hi;obtain⟨h1,h2,_⟩:=Am9 hi;have:=(hm i).2 ⟨by simpa using h1,h2⟩;cases this
 | fuel+1,b,l,e,H,σ,ι,a,w,hr,hp,hm,Z,S,f,s,he,hs,hk=>by
  unfold Ahi at M;have I:=M;simp only[Fq,D6]at I;obtain⟨R,L⟩:=I;have u:∀(i:Nat) (o:Oper),ops[i]? = some o->(o,i)∈ops.zipIdx:=(by intro i o h;rw[List.mem_iff_getElem?];exact⟨i,by simp[List.getElem?_zipIdx,h]⟩);have A:∀(i:Nat) (o:Oper),ops[i]? = some o->∀x∈o.after.toList,Region.binds .any x=true->x.on<i:=(by intro i o h x hx hb;have:=R (o,i) (u i o h) x hx;simp only[hb,Bool.not_true,Bool.false_or]at this;exact Gu this);refine⟨λa8=>?_,λi hi=>?_⟩
  .exfalso;cases l with
   | nil=>simp at f
   | cons i l=>
    have N:=(hm i).1 ψ;have:i∈Region.ready .any ops.toArray b:=by
     unfold Region.ready;rw[List.mem_filter];refine⟨by simpa using N.1,?_⟩;simp only[Fq,Bool.not_eq_true'];refine⟨N.2,?_⟩;have aa:i<ops.length:=N.1;have ho:ops[i]? = some ops[i]:=List.getElem?_eq_getElem aa;have ap:ops.toArray[i]? = some ops[i]:=(by simp[aa]);rw[ap];simp only[Option.map_some,Option.getD_some];rw[<-Array.all_toList,D6];intro x hx;cases hb:Region.binds .any x with
     | false=>rfl
     | true=>
      simp only[Bool.not_true,Bool.false_or];have b5:=A i _ ho x hx hb;cases D:b.getD x.on true with
      | true=>have g:x.on<b.size:=ω;simp only[Array.getD_eq_getD_getElem?]at D ⊢;simpa[g] using D
      | false=>
       have hxm:=(hm x.on).2 ⟨ω,D⟩;simp only[List.mem_cons]at hxm;rcases hxm with hxm|hxm
       .omega
       .have:=(List.pairwise_cons.1 hp).1 _ hxm;omega
    rw[a8]at this;cases this
  .obtain⟨az,ay,ad⟩:=Am9 hi;have q:i<ops.length:=(by simpa using az);have ax:=(hm i).2 ⟨q,ay⟩;obtain⟨l1,l2,rfl⟩:=List.append_of_mem ax;have b6:ops[i]? = some ops[i]:=List.getElem?_eq_getElem q;have b4:ops.toArray[i]? = some ops[i]:=(by simp[q]);have z:∀(k:Nat) (o:Oper),ops[k]? = some o->(b.getD k false=true\/k=i)->∀j,((J7 ops []).getD k 0).testBit j=true->b.getD j false=true:=by
    intro k;induction k using Nat.strongRecOn with
    | _ k ih=>
     intro o hk hor j hj;have a6:=(Am7 ops []).2.2 k o hk;simp only[List.length_nil,Nat.zero_add]at a6;rw[a6]at hj;rcases Am8 _ j _ _ hj with h0|⟨x,hx,hb,a7⟩
     .simp at h0
     .have U:b.getD x.on false=true:=by
       rcases hor with hor|hor
       .exact S k o (by simpa using hk) hor x hx hb
       .subst hor;exact ad o (by simpa using hk) x hx hb
      rcases a7 with rfl|hj'
      .exact U
      .have V:=A k o hk x hx hb;have ak:x.on<ops.length:=(by have:=(Gl.1 hk).1;omega);have e1:((J7 ops []).take k).getD x.on 0=(J7 ops []).getD x.on 0:=(by simp only[List.getD_eq_getElem?_getD];rw[Hm V]);rw[e1]at hj';exact ih x.on V _ (List.getElem?_eq_getElem ak) (.inl U) j hj'
   have ac:∀j∈l1,∀o o',ops.toArray[j]? = some o->ops.toArray[i]? = some o'->Ind ops.toArray (λi=>accs.getD i ([],[])) j i o o':=by
    intro j hj o o' aq av;have au:j<i:=(by have:=(List.pairwise_append.1 hp).2.2 j hj i ψ;exact this);have ar:=(hm j).1 (by simp[hj]);have ab:ops[j]? = some o:=(by simpa using aq);have J:ops[i]? = some o':=(by simpa using av);have:=L (o',i) (u i o' J) (o,j) (u j o ab);simp only[Bool.or_eq_true,Bool.not_eq_true']at this;rcases this with (h1|h1) | h1
    .have:Nat.blt j i=true:=(by unfold Nat.blt;exact Nat.ble_eq_true_of_le au);rw[this]at h1;cases h1
    .have h2:=z i o' J (.inr rfl) j h1;have g:j<b.size:=ω;have h3:=ar.2;simp only[Array.getD_eq_getD_getElem?]at h2 h3;simp[g]at h2 h3;rw[h2]at h3;cases h3
    .exact Az1 (acc:=λi=>accs.getD i ([],[])) h1
   have ah:=hr.bubble ac;refine ah.wpOp s he hs ?_;intro e1 H1 r1 σ1 ι1 a1 w1 aj s1 b3 E af ao;have G:∀(k:Nat) (d:Bool),(b.setIfInBounds i true).getD k d=if k=i then true else b.getD k d:=by
    intro k d;simp only[Array.getD_eq_getD_getElem?];by_cases c:k=i
    .subst c;rw[if_pos rfl,Array.getElem?_setIfInBounds_self_of_lt ω];rfl
    .rw[if_neg c,Array.getElem?_setIfInBounds_ne ω]
   have B:∀k∈l1++l2,k≠i:=by
    intro k hk e;subst e;rw[List.pairwise_append]at hp;rcases List.mem_append.1 hk with hk|hk
    .have:=hp.2.2 k hk k ψ;omega
    .have:=(List.pairwise_cons.1 hp.2.1).1 k hk;omega
   refine Ahk M fuel _ (l1++l2) e1 H1 σ1 ι1 a1 w1 r1 ?_ ?_ (by simpa using Z) ?_ (by simp at f ⊢;omega) s1 b3 (by rw[E];exact hs) ?_
   .rw[List.pairwise_append]at hp ⊢;exact⟨hp.1,(List.pairwise_cons.1 hp.2.1).2,λx hx y hy=>hp.2.2 x hx y (by simp[hy])⟩
   .intro k;rw[G];constructor
    .intro hk;have h1:=(hm k).1 (by
      rcases List.mem_append.1 hk with hk|hk
      .simp[hk]
      .simp[hk])
     rw[if_neg (B k hk)];exact h1
    .rintro⟨h1,h2⟩;by_cases c:k=i
     .rw[if_pos c]at h2;cases h2
     .rw[if_neg c]at h2;have:=(hm k).2 ⟨h1,h2⟩;simp only[List.mem_append,List.mem_cons]at this ⊢;rcases this with h|h|h
      .exact .inl h
      .exact (c h).elim
      .exact .inr h
   .intro k o hk D x hx ag;rw[G]at D ⊢;by_cases X:x.on=i
    .rw[if_pos X]
    .rw[if_neg X];by_cases c:k=i
     .subst c;exact ad o hk x hx ag
     .rw[if_neg c]at D;exact S k o hk D x hx ag
   .intro σ2 ι2 a2 w2 ai s2 b0 Y ae am;exact hk σ2 ι2 a2 w2 (aj.trans ai) s2 b0 (Y.trans E) (ae.trans af) (ao.trans am)
end
end Go.Ab
