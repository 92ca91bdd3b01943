/- A layer of abstract values over the model, and the conditions under which a function keeps its contract. -/
import Derived.Calls
import Derived.Orders
import Derived.Lib.ItoaNum
import Derived.Laws.CopyRow
import Derived.Laws.Cells
import Derived.Laws.Append
import Derived.Lib.SliceRun
import Derived.Laws.FloatArith
import Derived.Laws.Cover2
import Derived.Laws.MakeOwn
import Derived.Lib.AppendStr
import Derived.MapKept
import Derived.WideKeyRuns
import Derived.Scope
namespace Go.Ab
abbrev OB:=Option Bool
theorem ω {p:Prop} (h:p:=by omega):p:=h
theorem δ {p:Prop} (h:p:=by decide):p:=h
theorem ψ {p:Prop} (h:p:=by simp):p:=h
inductive AV where
 | val (v:Value)
 | loc (h off:Nat)
 | arr (h k off len:Nat)
 | el (h k i j:Nat)
 | mp (h:Nat)
 | ref (cs:List AV)
 | sl (sz:Nat) (xs:List AV)
 | agg (cs:List AV)
 | tup (cs:List AV)
 | fn (f:FuncId) (caps:List AV)
 | fb (s:ByteArray)
inductive Bh where
 | none
 | dead
 | cells (elem:TypeId) (cs:List AV)
 | rows (elem:TypeId) (sz:Nat) (xs:List AV)
 | map (es:List (AV×AV))
abbrev Bn:=Nat->AV
abbrev Hp:=Nat->Bh
abbrev A1:=Nat->Option Obj
def A4 {α:Type} (e:Nat->α) (n:Nat) (v:α):Nat->α:=λm=>bif Nat.beq m n then v else e m
theorem Ce {α:Type} (e:Nat->α) (n:Nat) (v:α):A4 e n v n=v:=by simp [A4]
theorem Cz {α:Type} (e:Nat->α) {n m:Nat} (v:α) (h:m≠n):A4 e n v m=e m:=by
 have:Nat.beq m n=false:=by
  cases hb:Nat.beq m n
  .rfl
  .exact absurd (Nat.eq_of_beq_eq_true hb) h
 simp [A4,this]
theorem Ahk {α:Type} (e:Nat->α) {n m:Nat} (u v:α) (h:m≠n):A4 (A4 e n u) m v=A4 (A4 e m v) n u:=by
 funext k;by_cases h1:k=n
 .subst h1;rw [Cz _ _ (Ne.symm h),Ce,Ce]
 .by_cases h2:k=m
  .subst h2; rw [Ce,Cz _ _ h1,Ce]
  .rw [Cz _ _ h2,Cz _ _ h1,Cz _ _ h1,Cz _ _ h2]
def AV.cells:AV->List AV
 | .agg cs=>cs
 | .val (.agg vs)=>vs.toList.map .val
 | x=>[x]
def D5:Value->Bool
 | .agg _ | .tuple _=>false
 | _=>true
def AV.one:AV->Bool
 | .agg _ | .tup _=>false
 | .val v=>D5 v
 | _=>true
inductive CC (σ:A1):AV->Value->Prop where
 | val (v:Value):CC σ (.val v) v
 | nil (sz:Nat) (a:Option Addr) (cap:Nat):CC σ (.sl sz []) (.slice a 0 cap)
 | sl (xs:List AV) (b off cap sz:Nat) (C:Array Value) (E:TypeId) (fr:Nat×Nat) (g:Nat->Nat->Value) (hσ:σ b=some (.cells C E fr))
   (hs:∀(i:Nat) (x:AV),xs[i]? = some x->x.cells.length=sz)
   (hc:∀(i:Nat) (x:AV) (j:Nat) (c:AV),xs[i]? = some x->x.cells[j]? = some c->CC σ c (g i j))
   (h1:∀(i:Nat) (x:AV) (j:Nat) (c:AV),xs[i]? = some x->x.cells[j]? = some c->D5 (g i j)=true)
   (hC:∀(i j:Nat),i<xs.length->j<sz->C[off+i*sz+j]? = some (g i j))
   (hl:xs.length<=140737488355328) (hcap:xs.length<=cap):CC σ (.sl sz xs) (.slice (some ⟨b,off,Option.none⟩) xs.length cap)
 | agg (cs:List AV) (vs:Array Value) (hl:vs.size=cs.length) (h:∀(i:Nat) (c:AV) (v:Value),cs[i]? = some c->vs[i]? = some v->CC σ c v):CC σ (.agg cs) (.agg vs)
 | fbn (s:ByteArray) (a:Option Addr) (cap:Nat) (h0:s.size=0):CC σ (.fb s) (.slice a 0 cap)
 | fb (s:ByteArray) (b cap:Nat) (C:Array Value) (hσ:σ b=some (.cells C 5 (0,s.size))) (h0:s.size≠0) (hcap:s.size<=cap) (hC:s.size<=C.size) (hl:s.size<=140737488355328)
   (hb:∀(j:Nat) (x:UInt8),s.data[j]? = some x->C[j]? = some (Value.int .u8 x.toNat)):CC σ (.fb s) (.slice (some ⟨b,0,Option.none⟩) s.size cap)
inductive Loc where
 | none
 | box (b:Nat)
 | nil
 | blk (b tot:Nat)
abbrev Br:=Nat->Loc
def Loc.block?:Loc->Option Nat
 | .box b=>some b
 | .blk b _=>some b
 | _=>Option.none
def Ft (l:Loc) (sz off len:Nat) (v:Value):Prop := match l with
 | .nil=>v = .slice Option.none 0 0/\off=0/\len=0
 | .blk b c=>off+len<=c/\v = .slice (some ⟨b,off*sz,Option.none⟩) len (c-off)
 | _=>False
def Ahl (l:Loc) (sz i j:Nat) (v:Value):Prop := match l with
 | .blk b _=>v = .pointer (some ⟨b,i*sz+j,Option.none⟩)
 | _=>False
inductive Conc (σ:A1) (ι:Br) (H:Hp):AV->Value->Prop where
 | cc {a:AV} {v:Value} (h:CC σ a v):Conc σ ι H a v
 | loc (h off b:Nat) (hb:ι h = .box b):Conc σ ι H (.loc h off) (.pointer (some ⟨b,off,Option.none⟩))
 | mp (h b:Nat) (hb:ι h = .box b):Conc σ ι H (.mp h) (.map (some b))
 | arr (h k off len:Nat) (v:Value) (hn:H h≠.none) (hv:∀E sz xs,H h = .rows E sz xs->k<=xs.length/\(xs.length=k->Ft (ι h) sz off len v))
   (hone:D5 v=true):Conc σ ι H (.arr h k off len) v
 | el (h k i j:Nat) (v:Value) (hn:H h≠.none) (hv:∀E sz xs,H h = .rows E sz xs->k<=xs.length/\(xs.length=k->Ahl (ι h) sz i j v))
   (hone:D5 v=true):Conc σ ι H (.el h k i j) v
 | ref (cs:List AV) (b off:Nat) (C:Array Value) (E:TypeId) (fr:Nat×Nat) (g:Nat->Value) (hσ:σ b=some (.cells C E fr))
   (hc:∀(j:Nat) (c:AV),cs[j]? = some c->CC σ c (g j)) (h1:∀(j:Nat) (c:AV),cs[j]? = some c->D5 (g j)=true)
   (hC:∀(j:Nat),j<cs.length->C[off+j]? = some (g j)):Conc σ ι H (.ref cs) (.pointer (some ⟨b,off,Option.none⟩))
 | agg (cs:List AV) (vs:Array Value) (hl:vs.size=cs.length) (h:∀(i:Nat) (c:AV) (v:Value),cs[i]? = some c->vs[i]? = some v->Conc σ ι H c v):Conc σ ι H (.agg cs) (.agg vs)
 | tup (cs:List AV) (vs:Array Value) (hl:vs.size=cs.length) (h:∀(i:Nat) (c:AV) (v:Value),cs[i]? = some c->vs[i]? = some v->Conc σ ι H c v):Conc σ ι H (.tup cs) (.tuple vs)
 | fn (f:FuncId) (caps:List AV) (vs:Array Value) (hl:vs.size=caps.length) (h:∀(i:Nat) (c:AV) (v:Value),caps[i]? = some c->vs[i]? = some v->Conc σ ι H c v) :
   Conc σ ι H (.fn f caps) (.func (.func f) #[] vs)
def A1.le (σ c:A1):Prop:=∀b o,σ b=some o->c b=some o
theorem A1.le_refl (σ:A1):σ.le σ:=λ_ _ h=>h
theorem A1.le_trans {σ f c:A1} (h:A1.le σ f) (h':A1.le f c):A1.le σ c:=λb o e=>h' b o (h b o e)
structure HLe (l:Loc) (o:Bh) (l':Loc) (o':Bh):Prop where
 box:∀b,l = .box b->l' = .box b
 some:o≠.none->o'≠.none
 rows:o≠.none->∀E' sz' xs',o' = .rows E' sz' xs'->∃E sz xs,o = .rows E sz xs/\(xs.length<xs'.length\/(xs.length=xs'.length/\sz=sz'/\l=l'))
theorem HLe.refl (l:Loc) (o:Bh):HLe l o l o := ⟨λ_ h=>h,λh=>h,λ_ E sz xs h=>⟨E,sz,xs,h,.inr ⟨rfl,rfl,rfl⟩⟩⟩
theorem HLe.trans {l y i:Loc} {o o' g:Bh} (h:HLe l o y o') (h':HLe y o' i g):HLe l o i g:=by
 refine ⟨λb e=>h'.box b (h.box b e),λe=>h'.some (h.some e),λe u f c s=>?_⟩;obtain ⟨G,k,j,e',x⟩:=h'.rows (h.some e) u f c s;obtain ⟨E,sz,xs,D,r⟩:=h.rows e G k j e';refine ⟨E,sz,xs,D,?_⟩;rcases r with r | ⟨J,I,z⟩ <;> rcases x with x | ⟨B,A,q⟩
 .left; omega
 .left; omega
 .left; omega
 .exact .inr ⟨ω,ω,z.trans q⟩
structure Le (σ:A1) (ι:Br) (H:Hp) (σ':A1) (ι':Br) (H':Hp):Prop where
 sto:σ.le σ'
 obj:∀h,HLe (ι h) (H h) (ι' h) (H' h)
theorem Le.refl (σ:A1) (ι:Br) (H:Hp):Le σ ι H σ ι H:=⟨A1.le_refl σ,λ_=>HLe.refl _ _⟩
theorem Le.trans {σ g b:A1} {ι i c:Br} {H H' f:Hp} (h:Le σ ι H g i H') (h':Le g i H' b c f):Le σ ι H b c f := ⟨A1.le_trans h.sto h'.sto,λx=>(h.obj x).trans (h'.obj x)⟩
theorem CC.mono {σ l:A1} (q:σ.le l) {a:AV} {v:Value} (h:CC σ a v):CC l a v:=by induction h with| val v=>exact .val v| nil sz a cap=>exact .nil sz a cap| sl xs b off cap sz C E fr g i j _ h1 k f c ih=>exact .sl xs b off cap sz C E fr g (q _ _ i) j ih h1 k f c| agg cs vs f _ ih=>exact .agg cs vs f ih| fbn s a cap h0=>exact .fbn s a cap h0| fb s b cap C i h0 c k f hb=>exact .fb s b cap C (q _ _ i) h0 c k f hb
theorem Conc.mono {σ J:A1} {ι L:Br} {H H':Hp} (q:Le σ ι H J L H') {a:AV} {v:Value} (h:Conc σ ι H a v):Conc J L H' a v:=by
 induction h with
 | cc h=>exact .cc (h.mono q.sto)
 | loc h off b hb=>exact .loc h off b ((q.obj h).box b hb)
 | mp h b hb=>exact .mp h b ((q.obj h).box b hb)
 | arr h k off len v y hv l=>
  refine .arr h k off len v ((q.obj h).some y) (λI u s e=>?_) l;obtain ⟨E,sz,xs,G,r⟩:=(q.obj h).rows y I u s e;obtain ⟨hk,hv⟩:=hv E sz xs G;rcases r with r | ⟨M,D,B⟩
  .exact ⟨ω,λx=>ω⟩
  .rw [<-D,<-B]; exact ⟨ω,λx=>hv ω⟩
 | el h k i j v y hv l=>
  refine .el h k i j v ((q.obj h).some y) (λI u s e=>?_) l;obtain ⟨E,sz,xs,G,r⟩:=(q.obj h).rows y I u s e;obtain ⟨hk,hv⟩:=hv E sz xs G;rcases r with r | ⟨M,D,B⟩
  .exact ⟨ω,λx=>ω⟩
  .rw [<-D,<-B]; exact ⟨ω,λx=>hv ω⟩
 | ref cs b off C E fr g N hc h1 R=>exact .ref cs b off C E fr g (q.sto _ _ N) (λj c h=>(hc j c h).mono q.sto) h1 R
 | agg cs vs z _ ih=>exact .agg cs vs z ih
 | tup cs vs z _ ih=>exact .tup cs vs z ih
 | fn f A vs z _ ih=>exact .fn f A vs z ih
end Go.Ab
namespace Go.Ab
def Gx (σ:A1) (sz:Nat) (xs:List AV) (C:Array Value):Prop := ∃g:Nat->Nat->Value,(∀(i:Nat) (x:AV),xs[i]? = some x->x.cells.length=sz) /\ (∀(i:Nat) (x:AV) (j:Nat) (c:AV),xs[i]? = some x->x.cells[j]? = some c->CC σ c (g i j)/\D5 (g i j)=true) /\ (∀(i j:Nat),i<xs.length->j<sz->C[i*sz+j]? = some (g i j))
def Pm (σ:A1) (es:List (AV×AV)) (M:Array MapEntry):Prop := M.size=es.length/\∀(i:Nat) (p:AV×AV) (e:MapEntry),es[i]? = some p->M[i]? = some e->CC σ p.1 e.key/\CC σ p.2 e.val
theorem Pm.mono {σ b:A1} (c:σ.le b) {es:List (AV×AV)} {M:Array MapEntry} (h:Pm σ es M):Pm b es M := ⟨h.1,λi p e h1 h2=>⟨(h.2 i p e h1 h2).1.mono c,(h.2 i p e h1 h2).2.mono c⟩⟩
def Ci (σ:A1) (ι:Br) (H:Hp) (F:A1) (w:World) (h:Nat):Prop := match H h with
 | .none=>ι h = .none
 | .dead=>True
 | .cells E cs=>∃(b:Nat) (C:Array Value),ι h = .box b/\σ b=none/\F b=none/\w.heap[b]? = some (.cells C E (0,0))/\C.size=cs.length /\ ∀(i:Nat) (c:AV) (v:Value),cs[i]? = some c->C[i]? = some v->Conc σ ι H c v
 | .rows E sz xs=>0<sz/\xs.length<=140737488355328/\((ι h = .nil/\xs = [])\/∃(b f:Nat) (C:Array Value),ι h = .blk b f/\σ b=none/\F b=none /\ w.heap[b]? = some (.cells C E (0,0))/\C.size=f*sz/\xs.length<=f/\Gx σ sz xs C)
 | .map es=>∃(b:Nat) (M:Array MapEntry) (t:Nat),ι h = .box b/\σ b=none/\F b=none/\w.heap[b]? = some (.map M t)/\Pm σ es M
def Bh.live:Bh->Bool
 | .none | .dead=>false
 | _=>true
def Rx (σ:A1):Prop:=∃(E:TypeId) (fr:Nat×Nat),σ 0=some (.cells (Lib.pow10Tab.map λz=>Value.int .u64 z).toArray E fr)
theorem Rx.mono {σ b:A1} (h:σ.le b) (g:Rx σ):Rx b:=by obtain ⟨E,fr,e⟩:=g;exact ⟨E,fr,h _ _ e⟩
structure St (σ:A1) (ι:Br) (H:Hp) (F:A1) (W w:World):Prop where
 sto:∀b o,σ b=some o->w.heap[b]? = some o
 fra:∀b o,F b=some o->w.heap[b]? = some o/\σ b=none
 obj:∀h,Ci σ ι H F w h
 inj:∀h h' b,(H h).live=true->(H h').live=true->(ι h).block? = some b->(ι h').block? = some b->h=h'
 os:w.os=W.os
 tape:w.tape=W.tape
 output:w.output=W.output
 glo:Rx σ
 drw:W.drawn<=w.drawn
theorem Gx.mono {σ b:A1} (f:σ.le b) {sz:Nat} {xs:List AV} {C:Array Value} (h:Gx σ sz xs C):Gx b sz xs C:=by obtain ⟨g,h1,h2,h3⟩:=h;exact ⟨g,h1,λi x j c hx hc=>⟨((h2 i x j c hx hc).1).mono f,(h2 i x j c hx hc).2⟩,h3⟩
theorem St.block {σ:A1} {ι:Br} {H:Hp} {F:A1} {W w:World} (s:St σ ι H F W w) {h b:Nat} (f:(H h).live=true) (hb:(ι h).block? = some b) : b<w.heap.size/\σ b=none/\F b=none:=by
 have c:=s.obj h;unfold Ci at c;cases hh:H h with
 | none=>rw [hh] at f; cases f
 | dead=>rw [hh] at f; cases f
 | cells E cs=>rw [hh] at c;obtain ⟨g,C,e,h1,h2,h3,_⟩:=c;rw [e] at hb; simp [Loc.block?] at hb; subst hb;refine ⟨?_,h1,h2⟩;exact (Array.getElem?_eq_some_iff.1 h3).1
 | rows E sz xs=>
  rw [hh] at c;obtain ⟨_,_,⟨e,_⟩ | ⟨g,i,C,e,h1,h2,h3,_⟩⟩:=c
  .rw [e] at hb; simp [Loc.block?] at hb
  .rw [e] at hb; simp [Loc.block?] at hb; subst hb;exact ⟨(Array.getElem?_eq_some_iff.1 h3).1,h1,h2⟩
 | map es=>rw [hh] at c;obtain ⟨g,M,t,e,h1,h2,h3,_⟩:=c;rw [e] at hb; simp [Loc.block?] at hb; subst hb;exact ⟨(Array.getElem?_eq_some_iff.1 h3).1,h1,h2⟩
theorem St.touch {σ I:A1} {ι J:Br} {H H':Hp} {F:A1} {W w w':World} (s:St σ ι H F W w) (h t:Nat) (V:∀x,x≠h->J x=ι x) (X:∀x,x≠h->H' x=H x) (le:Le σ ι H I J H') (f:∀b,b≠t->w'.heap[b]? = w.heap[b]?) (N:∀b,b≠t->I b=σ b) (a1:∀o,I t=some o->w'.heap[t]? = some o) (j:∀x,x≠h->(H x).live=true->(ι x).block?≠some t) (hF:F t=none) (A:∀b,(H' h).live=true->(J h).block? = some b->b=t\/((H h).live=true/\(ι h).block? = some b)) (S:Ci I J H' F w' h) (a6:w'.os=w.os) (D:w'.tape=w.tape) (R:w'.output=w.output) (hdrw:w.drawn<=w'.drawn:=by exact Nat.le_refl _):St I J H' F W w':=by
 refine ⟨?_,?_,?_,?_,a6.trans s.os,D.trans s.tape,R.trans s.output,s.glo.mono le.sto,Nat.le_trans s.drw hdrw⟩
 .intro b o hb;by_cases e:b=t
  .subst e; exact a1 o hb
  .rw [f b e]; exact s.sto b o (by rw [<-N b e]; exact hb)
 .intro b o hb;have e:b≠t:=(by intro e; subst e; rw [hF] at hb; cases hb);rw [f b e,N b e]; exact s.fra b o hb
 .intro x;by_cases e:x=h
  .subst e; exact S
  .have z:=s.obj x;unfold Ci at z ⊢;rw [X x e,V x e];cases hx:H x with
   | none=>rw [hx] at z; exact z
   | dead=>trivial
   | cells E cs=>rw [hx] at z;obtain ⟨b,C,u,h1,h2,h3,h4,h5⟩:=z;have g:b≠t:=(by intro l; subst l;exact j x e (by rw [hx]; rfl) (by rw [u]; rfl));exact ⟨b,C,u,by rw [N b g]; exact h1,h2,by rw [f b g]; exact h3,h4,λi c v hc hv=>(h5 i c v hc hv).mono le⟩
   | rows E sz xs=>
    rw [hx] at z;obtain ⟨z1,z2,⟨u,e2⟩ | ⟨b,Y,C,u,h1,h2,h3,h4,h5,h6⟩⟩:=z
    .exact ⟨z1,z2,.inl ⟨u,e2⟩⟩
    .have g:b≠t:=(by intro l; subst l;exact j x e (by rw [hx]; rfl) (by rw [u]; rfl));exact ⟨z1,z2,.inr ⟨b,Y,C,u,by rw [N b g]; exact h1,h2,by rw [f b g]; exact h3,h4,h5,h6.mono le.sto⟩⟩
   | map es=>rw [hx] at z;obtain ⟨b,M,q,u,h1,h2,h3,h4⟩:=z;have g:b≠t:=(by intro l; subst l;exact j x e (by rw [hx]; rfl) (by rw [u]; rfl));exact ⟨b,M,q,u,by rw [N b g]; exact h1,h2,by rw [f b g]; exact h3,h4.mono le.sto⟩
 .intro x y b L G U k;by_cases ex:x=h
  .subst ex;by_cases B:y=x
   .exact B.symm
   .rw [X y B] at G; rw [V y B] at k;rcases A b L U with e | ⟨Z,b0⟩
    .subst e; exact (j y B G k).elim
    .exact s.inj x y b Z G b0 k
  .rw [X x ex] at L; rw [V x ex] at U;by_cases B:y=h
   .subst B;rcases A b G k with e | ⟨Z,b0⟩
    .subst e; exact (j x ex L U).elim
    .exact s.inj x y b L Z U b0
   .rw [X y B] at G; rw [V y B] at k;exact s.inj x y b L G U k
theorem HLe.of_none {b:Loc} {o':Bh}:HLe .none .none b o':=⟨(λ_ h=>by cases h),(λh=>(h rfl).elim),(λh=>(h rfl).elim)⟩
theorem Le.upd {σ:A1} {ι:Br} {H:Hp} {b:A1} (c:σ.le b) (h:Nat) (l:Loc) (o:Bh) (hh:HLe (ι h) (H h) l o):Le σ ι H b (A4 ι h l) (A4 H h o):=by
 refine ⟨c,λx=>?_⟩;by_cases e:x=h
 .subst e; rw [Ce,Ce]; exact hh
 .rw [Cz _ _ e,Cz _ _ e]; exact HLe.refl _ _
theorem Hi {α:Type} (e:Nat->α) (n:Nat):A4 e n (e n)=e:=by
 funext m;by_cases h:m=n
 .subst h; rw [Ce]
 .rw [Cz _ _ h]
theorem St.newBox {σ:A1} {ι:Br} {H:Hp} {F:A1} {W w:World} (s:St σ ι H F W w) (h:Nat) (u:H h = .none) (E:TypeId) (cs:List AV) (C:Array Value) (l:C.size=cs.length) (hc:∀(i:Nat) (c:AV) (v:Value),cs[i]? = some c->C[i]? = some v->Conc σ ι H c v) : St σ (A4 ι h (.box w.heap.size)) (A4 H h (.cells E cs)) F W (w.alloc (.cells C E))/\Le σ ι H σ (A4 ι h (.box w.heap.size)) (A4 H h (.cells E cs)):=by
 have k:ι h = .none:=by have:=s.obj h; unfold Ci at this; rw [u] at this; exact this
 have le:Le σ ι H σ (A4 ι h (.box w.heap.size)) (A4 H h (.cells E cs)):=Le.upd (A1.le_refl σ) h _ _ (by rw [k,u]; exact HLe.of_none);have f:∀(S:A1),(∀b o,S b=some o->w.heap[b]? = some o)->S w.heap.size=none:=by intro S y;cases e:S w.heap.size with| none=>rfl| some o=>have:=y _ _ e; simp at this
 have g:=f σ s.sto;have j:=f F (λb o hb=>(s.fra b o hb).1);refine ⟨s.touch h w.heap.size (λx e=>Cz _ _ e) (λx e=>Cz _ _ e) le ?_ (λ_ _=>rfl) (λo q=>by rw [g] at q; cases q) ?_ j ?_ ?_ rfl rfl rfl,le⟩
 .intro b hb;show (w.heap.push _)[b]? = _;rw [Array.getElem?_push,if_neg hb]
 .intro x e l hb;have:=(s.block l hb).1;omega
 .intro b _ hb;rw [Ce] at hb; simp [Loc.block?] at hb;exact .inl hb.symm
 .unfold Ci;rw [Ce];refine ⟨w.heap.size,C,Ce _ _ _,g,j,?_,l,λi c v h1 h2=>(hc i c v h1 h2).mono le⟩;show (w.heap.push _)[w.heap.size]? = _;simp
theorem St.newFrozen {σ:A1} {ι:Br} {H:Hp} {F:A1} {W w:World} (s:St σ ι H F W w) (o:Obj) : St (A4 σ w.heap.size (some o)) ι H F W (w.alloc o)/\Le σ ι H (A4 σ w.heap.size (some o)) ι H:=by
 have k:∀(S:A1),(∀b o,S b=some o->w.heap[b]? = some o)->S w.heap.size=none:=by intro S D;cases e:S w.heap.size with| none=>rfl| some o=>have:=D _ _ e; simp at this
 have y:=k σ s.sto;have z:=k F (λb o hb=>(s.fra b o hb).1);have j:σ.le (A4 σ w.heap.size (some o)):=by intro b o' hb;rw [Cz _ _ (by intro e; subst e; rw [y] at hb; cases hb)]; exact hb
 have le:Le σ ι H (A4 σ w.heap.size (some o)) ι H:=⟨j,λ_=>HLe.refl _ _⟩;have f:∀b,b≠w.heap.size->(w.alloc o).heap[b]? = w.heap[b]?:=by intro b hb;show (w.heap.push _)[b]? = _;rw [Array.getElem?_push,if_neg hb]
 refine ⟨⟨?_,?_,?_,s.inj,s.os,s.tape,s.output,s.glo.mono j,s.drw⟩,le⟩
 .intro b o' hb;by_cases e:b=w.heap.size
  .subst e; rw [Ce] at hb; cases hb;show (w.heap.push _)[w.heap.size]? = _;simp
  .rw [Cz _ _ e] at hb; rw [f b e]; exact s.sto b o' hb
 .intro b o' hb;have e:b≠w.heap.size:=(by intro e; subst e; rw [z] at hb; cases hb);rw [f b e,Cz _ _ e]; exact s.fra b o' hb
 .intro x;have h:=s.obj x;unfold Ci at h ⊢;cases hx:H x with
  | none=>rw [hx] at h; exact h
  | dead=>trivial
  | cells E cs=>rw [hx] at h;obtain ⟨b,C,l,h1,h2,h3,h4,A⟩:=h;have g:b≠w.heap.size:=(by have:=(Array.getElem?_eq_some_iff.1 h3).1; omega);exact ⟨b,C,l,by rw [Cz _ _ g]; exact h1,h2,by rw [f b g]; exact h3,h4,λi c v hc hv=>(A i c v hc hv).mono le⟩
  | rows E sz xs=>
   rw [hx] at h;obtain ⟨B,z2,⟨l,e2⟩ | ⟨b,u,C,l,h1,h2,h3,h4,A,G⟩⟩:=h
   .exact ⟨B,z2,.inl ⟨l,e2⟩⟩
   .have g:b≠w.heap.size:=(by have:=(Array.getElem?_eq_some_iff.1 h3).1; omega);exact ⟨B,z2,.inr ⟨b,u,C,l,by rw [Cz _ _ g]; exact h1,h2,by rw [f b g]; exact h3,h4,A,G.mono j⟩⟩
  | map es=>rw [hx] at h;obtain ⟨b,M,q,l,h1,h2,h3,h4⟩:=h;have g:b≠w.heap.size:=(by have:=(Array.getElem?_eq_some_iff.1 h3).1; omega);exact ⟨b,M,q,l,by rw [Cz _ _ g]; exact h1,h2,by rw [f b g]; exact h3,h4.mono j⟩
theorem St.drew {σ:A1} {ι:Br} {H:Hp} {F:A1} {W w:World} (s:St σ ι H F W w) (n:Nat) (b:w.drawn<=n:=by first | exact Nat.le_succ _ | exact Nat.le_refl _ | omega):St σ ι H F W {w with drawn:=n}:=by refine ⟨s.sto,s.fra,λh=>?_,s.inj,s.os,s.tape,s.output,s.glo,Nat.le_trans s.drw b⟩;have:=s.obj h;unfold Ci at this ⊢;exact this
theorem Ace (w:World) (g b:Nat) (C:Array Value) (h:b≠g):(w.setRow g C).heap[b]? = w.heap[b]?:=by simp only [World.setRow,Array.getElem?_modify];rw [if_neg ω]
theorem St.setBox {σ:A1} {ι:Br} {H:Hp} {F:A1} {W w:World} (s:St σ ι H F W w) (h:Nat) (E:TypeId) (cs f:List AV) (hh:H h = .cells E cs) (b:Nat) (hb:ι h = .box b) (g:Array Value) (k:g.size=f.length) (hc:∀(i:Nat) (c:AV) (v:Value),f[i]? = some c->g[i]? = some v->Conc σ ι H c v) : St σ ι (A4 H h (.cells E f)) F W (w.setRow b g)/\Le σ ι H σ ι (A4 H h (.cells E f)):=by
 have j:=s.obj h;unfold Ci at j;rw [hh] at j;obtain ⟨B,C,u,h1,h2,h3,h4,z⟩:=j;rw [hb] at u; cases u;have le:Le σ ι H σ ι (A4 H h (.cells E f)):=by have:=Le.upd (ι:=ι) (H:=H) (A1.le_refl σ) h (ι h) (.cells E f) (by rw [hh]; exact ⟨λ_ e=>e,(λ_ e=>by cases e),(λ_ _ _ _ e=>by cases e)⟩);rwa [Hi] at this
 refine ⟨s.touch h b (λ_ _=>rfl) (λx e=>Cz _ _ e) le (λx e=>Ace w b x g e) (λ_ _=>rfl) (λo e=>by rw [h1] at e; cases e) ?_ h2 ?_ ?_ rfl rfl rfl,le⟩
 .intro x e k l;exact e (s.inj x h b k (by rw [hh]; rfl) l (by rw [hb]; rfl))
 .intro A _ q;exact .inr ⟨by rw [hh]; rfl,q⟩
 .unfold Ci;rw [Ce];exact ⟨b,g,hb,h1,h2,setRow_heap w b C g E (0,0) h3,k,λi c v x y=>(hc i c v x y).mono le⟩
theorem St.setRows {σ:A1} {ι:Br} {H:Hp} {F:A1} {W w:World} (s:St σ ι H F W w) (h:Nat) (E:TypeId) (sz:Nat) (xs c:List AV) (hh:H h = .rows E sz xs) (b f:Nat) (hb:ι h = .blk b f) (k:c.length=xs.length) (g:Array Value) (D:g.size=f*sz) (B:Gx σ sz c g) : St σ ι (A4 H h (.rows E sz c)) F W (w.setRow b g)/\Le σ ι H σ ι (A4 H h (.rows E sz c)):=by
 have j:=s.obj h;unfold Ci at j;rw [hh] at j;obtain ⟨y,z2,⟨i,e2⟩ | ⟨L,u,C,i,h1,h2,h3,h4,I,G⟩⟩:=j
 .rw [hb] at i; cases i
 rw [hb] at i; cases i;have le:Le σ ι H σ ι (A4 H h (.rows E sz c)):=by have:=Le.upd (ι:=ι) (H:=H) (A1.le_refl σ) h (ι h) (.rows E sz c) (by rw [hh]; exact ⟨λ_ e=>e,(λ_ e=>by cases e),λ_ M A z e=>by cases e; exact ⟨E,sz,xs,rfl,.inr ⟨k.symm,rfl,rfl⟩⟩⟩);rwa [Hi] at this
 refine ⟨s.touch h b (λ_ _=>rfl) (λx e=>Cz _ _ e) le (λx e=>Ace w b x g e) (λ_ _=>rfl) (λo e=>by rw [h1] at e; cases e) ?_ h2 ?_ ?_ rfl rfl rfl,le⟩
 .intro x e k l;exact e (s.inj x h b k (by rw [hh]; rfl) l (by rw [hb]; rfl))
 .intro J _ q;exact .inr ⟨by rw [hh]; rfl,q⟩
 .unfold Ci;rw [Ce];exact ⟨y,ω,.inr ⟨b,f,g,hb,h1,h2,setRow_heap w b C g E (0,0) h3,D,ω,B⟩⟩
theorem St.growIn {σ:A1} {ι:Br} {H:Hp} {F:A1} {W w:World} (s:St σ ι H F W w) (h:Nat) (E:TypeId) (sz:Nat) (xs c:List AV) (hh:H h = .rows E sz xs) (b f:Nat) (hb:ι h = .blk b f) (k:xs.length<c.length) (D:c.length<=140737488355328) (ht:c.length<=f) (g:Array Value) (G:g.size=f*sz) (B:Gx σ sz c g) : St σ ι (A4 H h (.rows E sz c)) F W (w.setRow b g)/\Le σ ι H σ ι (A4 H h (.rows E sz c)):=by
 have j:=s.obj h;unfold Ci at j;rw [hh] at j;obtain ⟨y,z2,⟨i,e2⟩ | ⟨M,u,C,i,h1,h2,h3,h4,J,I⟩⟩:=j
 .rw [hb] at i; cases i
 rw [hb] at i; cases i;have le:Le σ ι H σ ι (A4 H h (.rows E sz c)):=by have:=Le.upd (ι:=ι) (H:=H) (A1.le_refl σ) h (ι h) (.rows E sz c) (by rw [hh]; exact ⟨λ_ e=>e,(λ_ e=>by cases e),λ_ N A z e=>by cases e; exact ⟨E,sz,xs,rfl,.inl k⟩⟩);rwa [Hi] at this
 refine ⟨s.touch h b (λ_ _=>rfl) (λx e=>Cz _ _ e) le (λx e=>Ace w b x g e) (λ_ _=>rfl) (λo e=>by rw [h1] at e; cases e) ?_ h2 ?_ ?_ rfl rfl rfl,le⟩
 .intro x e k l;exact e (s.inj x h b k (by rw [hh]; rfl) l (by rw [hb]; rfl))
 .intro L _ q;exact .inr ⟨by rw [hh]; rfl,q⟩
 .unfold Ci;rw [Ce];exact ⟨y,D,.inr ⟨b,f,g,hb,h1,h2,setRow_heap w b C g E (0,0) h3,G,ht,B⟩⟩
theorem St.fresh {σ:A1} {ι:Br} {H:Hp} {F:A1} {W w:World} (s:St σ ι H F W w):σ w.heap.size=none/\F w.heap.size=none:=by
 have c:∀(S:A1),(∀b o,S b=some o->w.heap[b]? = some o)->S w.heap.size=none:=by intro S f;cases e:S w.heap.size with| none=>rfl| some o=>have:=f _ _ e; simp at this
 exact ⟨c σ s.sto,c F (λb o hb=>(s.fra b o hb).1)⟩
theorem St.newRows {σ:A1} {ι:Br} {H:Hp} {F:A1} {W w:World} (s:St σ ι H F W w) (h:Nat) (E:TypeId) (sz:Nat) (xs:List AV) (c:Nat) (C:Array Value) (hh:H h = .none\/∃y g f,H h = .rows y g f/\f.length<xs.length) (G:0<sz) (J:xs.length<=140737488355328) (ht:xs.length<=c) (M:C.size=c*sz) (I:Gx σ sz xs C) : St σ (A4 ι h (.blk w.heap.size c)) (A4 H h (.rows E sz xs)) F W (w.alloc (.cells C E))/\Le σ ι H σ (A4 ι h (.blk w.heap.size c)) (A4 H h (.rows E sz xs)):=by
 obtain ⟨i,k⟩:=s.fresh;have le:Le σ ι H σ (A4 ι h (.blk w.heap.size c)) (A4 H h (.rows E sz xs)):=by
  refine Le.upd (A1.le_refl σ) h _ _ ?_;rcases hh with j | ⟨y,g,f,j,q⟩
  .have l:ι h = .none:=(by have:=s.obj h; unfold Ci at this; rw [j] at this; exact this);rw [l,j]; exact HLe.of_none
  .rw [j];refine ⟨λb e=>?_,(λ_ e=>by cases e),λ_ R D B e=>by cases e; exact ⟨y,g,f,rfl,.inl q⟩⟩;have:=s.obj h; unfold Ci at this; rw [j] at this;obtain ⟨_,_,⟨u,_⟩ | ⟨N,z,C,u,_⟩⟩:=this <;> rw [e] at u <;> cases u
 refine ⟨s.touch h w.heap.size (λx e=>Cz _ _ e) (λx e=>Cz _ _ e) le ?_ (λ_ _=>rfl) (λo A=>by rw [i] at A; cases A) ?_ k ?_ ?_ rfl rfl rfl,le⟩
 .intro b hb;show (w.heap.push _)[b]? = _;rw [Array.getElem?_push,if_neg hb]
 .intro x e L hb;have:=(s.block L hb).1;omega
 .intro b _ hb;rw [Ce] at hb; simp [Loc.block?] at hb;exact .inl hb.symm
 .unfold Ci;rw [Ce];refine ⟨G,J,.inr ⟨w.heap.size,c,C,Ce _ _ _,i,k,?_,M,ht,I⟩⟩;show (w.heap.push _)[w.heap.size]? = _;simp
theorem St.newNil {σ:A1} {ι:Br} {H:Hp} {F:A1} {W w:World} (s:St σ ι H F W w) (h:Nat) (j:H h = .none) (E:TypeId) (sz:Nat) (k:0<sz) : St σ (A4 ι h .nil) (A4 H h (.rows E sz [])) F W w/\Le σ ι H σ (A4 ι h .nil) (A4 H h (.rows E sz [])):=by
 obtain ⟨c,g⟩:=s.fresh;have f:ι h = .none:=by have:=s.obj h; unfold Ci at this; rw [j] at this; exact this
 have le:Le σ ι H σ (A4 ι h .nil) (A4 H h (.rows E sz [])):=Le.upd (A1.le_refl σ) h _ _ (by rw [f,j]; exact HLe.of_none);refine ⟨s.touch h w.heap.size (λx e=>Cz _ _ e) (λx e=>Cz _ _ e) le (λ_ _=>rfl) (λ_ _=>rfl) (λo i=>by rw [c] at i; cases i) ?_ g ?_ ?_ rfl rfl rfl,le⟩
 .intro x e l hb;have:=(s.block l hb).1;omega
 .intro b _ hb;rw [Ce] at hb; simp [Loc.block?] at hb
 .unfold Ci;rw [Ce];exact ⟨k,ψ,.inl ⟨Ce _ _ _,rfl⟩⟩
end Go.Ab
namespace Go.Ab
inductive TD where
 | int (k:IntKind)
 | bool
 | string
 | slice (e:TypeId)
 | struct (fs:List (Nat×Nat))
 | map (k e:TypeId)
 | float (k:FloatKind)
 | other
structure TI where
 d:TD
 size:Nat
 bytes:Nat
 zero:List Value
def TI.isAgg (i:TI):Bool := match i.d with
 | .struct _=>true
 | _=>false
def zok (u:TypeDesc) (z:Value):Bool := match u with
 | .struct _=>(match z with | .agg _=>true | _=>false)
 | _=>D5 z
def Gy (P:Program) (t:TypeId):Option TI := match P.info? t,P.underlying t with
 | some b,some u=> match b.zero with
  | none=>none
  | some z=> bif !(zok u z) then none else match u with
   | .int k=>some ⟨.int k,b.size,b.bytes,z.cells.toList⟩
   | .bool=>some ⟨.bool,b.size,b.bytes,z.cells.toList⟩
   | .string=>some ⟨.string,b.size,b.bytes,z.cells.toList⟩
   | .slice e=>some ⟨.slice e,b.size,b.bytes,z.cells.toList⟩
   | .map k e=>some ⟨.map k e,b.size,b.bytes,z.cells.toList⟩
   | .float k=>some ⟨.float k,b.size,b.bytes,z.cells.toList⟩
   | .struct fields=> if (fields.toList.all λf=>decide (0<P.cellsOf f.type)) then some ⟨.struct (fields.toList.map λf=>(f.offset,P.cellsOf f.type)),b.size,b.bytes,z.cells.toList⟩ else none
   | .array _ _=>none
   | _=>some ⟨.other,b.size,b.bytes,z.cells.toList⟩
 | _,_=>none
abbrev Cl:=Nat->Option TI
def Cm (P:Program) (T:Cl):Prop:=∀t i,T t=some i->Gy P t=some i
structure Eff where
 r:AV
 rd:List (Nat×Bh)
 wr:List (Nat×Bh)
def Cg (H:Hp):List (Nat×Bh)->Hp
 | []=>H
 | p::l=>Cg (A4 H p.1 p.2) l
def Kr (cs:List AV) (off:Nat) (new:List AV):List AV:=cs.take off++(new++cs.drop (off+new.length))
def Ry (fs:List (Nat×Nat)):List AV->List (Nat×AV)->Option (List AV)
 | cs,[]=>some cs
 | cs,p::rest=> match fs[p.1]? with
  | none=>none
  | some q=>bif Nat.beq p.2.cells.length q.2&&Nat.ble (q.1+q.2) cs.length then Ry fs (Kr cs q.1 p.2.cells) rest else none
def AV.cl1:AV->Bool
 | .val v=>D5 v
 | .sl _ _=>true
 | _=>false
def Jk (sz:Nat) (x:AV):Bool:=Nat.beq x.cells.length sz&&x.cells.all AV.cl1
def AV.isPtr:AV->Bool
 | .loc .. | .ref _ | .fn ..=>true
 | _=>false
def AV.free1:AV->Bool
 | .agg cs=>cs.all AV.cl1
 | x=>x.cl1
def AV.free:AV->Bool
 | .val _ | .sl _ _ | .ref _=>true
 | .agg cs=>cs.all AV.cl1
 | .tup cs=>cs.all AV.free1
 | .fn _ cs=>cs.all AV.cl1
 | _=>false
def Acf (op:BinOp) (a b:Int):Option Bool := match op with
 | .eql=>some (a==b)
 | .neq=>some (a != b)
 | .lss=>some (decide (a<b))
 | .leq=>some (decide (a<=b))
 | .gtr=>some (decide (a>b))
 | .geq=>some (decide (a>=b))
 | _=>none
section conc
variable {σ:A1} {ι:Br} {H:Hp}
theorem Conc.val_inv {u v:Value} (h:Conc σ ι H (.val u) v):v=u:=by cases h with| cc h=>cases h; rfl
theorem Conc.of_val (v:Value):Conc σ ι H (.val v) v:=.cc (.val v)
theorem Conc.sl_inv {sz:Nat} {xs:List AV} {v:Value} (h:Conc σ ι H (.sl sz xs) v):CC σ (.sl sz xs) v:=by cases h with| cc h=>exact h
theorem Conc.agg_inv {cs:List AV} {v:Value} (h:Conc σ ι H (.agg cs) v) : ∃vs:Array Value,v = .agg vs/\vs.size=cs.length/\∀(i:Nat) (c:AV) (u:Value),cs[i]? = some c->vs[i]? = some u->Conc σ ι H c u:=by
 cases h with
 | cc h=>cases h with
  | agg cs vs b h=>exact ⟨vs,rfl,b,λi c u h1 h2=>.cc (h i c u h1 h2)⟩
 | agg cs vs b h=>exact ⟨vs,rfl,b,h⟩
theorem Conc.tup_inv {cs:List AV} {v:Value} (h:Conc σ ι H (.tup cs) v) : ∃vs:Array Value,v = .tuple vs/\vs.size=cs.length/\∀(i:Nat) (c:AV) (u:Value),cs[i]? = some c->vs[i]? = some u->Conc σ ι H c u:=by cases h with| cc h=>cases h| tup cs vs b h=>exact ⟨vs,rfl,b,h⟩
theorem Conc.loc_inv {x off:Nat} {v:Value} (h:Conc σ ι H (.loc x off) v):∃b,ι x = .box b/\v = .pointer (some ⟨b,off,none⟩):=by cases h with| cc h=>cases h| loc _ _ b hb=>exact ⟨b,hb,rfl⟩
theorem Conc.one_of {x:AV} {v:Value} (hx:x.one=true) (h:Conc σ ι H x v):D5 v=true:=by
 cases h with
 | cc h=>cases h with
  | val v=>exact hx
  | nil=>rfl
  | sl=>rfl
  | fbn=>rfl
  | fb=>rfl
  | agg=>cases hx
 | loc=>rfl
 | mp=>rfl
 | arr _ _ _ _ _ _ _ h=>exact h
 | el _ _ _ _ _ _ _ h=>exact h
 | ref=>rfl
 | agg=>cases hx
 | tup=>cases hx
 | fn=>rfl
theorem Aqm {α:Type} {x y:α} {i:Nat} (h:[x][i]? = some y):i=0/\y=x:=by cases i with| zero=>simp at h; exact ⟨rfl,h.symm⟩| succ n=>simp at h
theorem Conc.cells {x:AV} {v:Value} (h:Conc σ ι H x v) : v.cells.size=x.cells.length/\∀(i:Nat) (c:AV) (u:Value),x.cells[i]? = some c->v.cells[i]? = some u->Conc σ ι H c u:=by
 have single:∀(x:AV) (v:Value),Conc σ ι H x v->x.cells = [x]->v.cells = #[v] ->
   v.cells.size=x.cells.length/\∀(i:Nat) (c:AV) (u:Value),x.cells[i]? = some c->v.cells[i]? = some u->Conc σ ι H c u:=by intro x v h I e2;rw [I,e2];refine ⟨rfl,λi c u h1 h2=>?_⟩;obtain ⟨rfl,rfl⟩:=Aqm h1;simp at h2; subst h2; exact h
 cases h with
 | cc hc=>
  cases hc with
  | val v=>cases v with| agg vs=>refine ⟨by simp [Value.cells,AV.cells],λi c u h1 h2=>?_⟩;simp only [AV.cells,Value.cells,List.getElem?_map] at h1 h2;rw [Array.getElem?_toList,h2] at h1;simp at h1; subst h1;exact .of_val u| _=>exact single _ _ (.of_val _) rfl rfl
  | nil sz a cap=>exact single _ _ (.cc (.nil sz a cap)) rfl rfl
  | sl xs b off cap sz C E fr g z G hc h1 A q y=>exact single _ _ (.cc (.sl xs b off cap sz C E fr g z G hc h1 A q y)) rfl rfl
  | agg cs vs q h=>exact ⟨q,λi c u h1 h2=>.cc (h i c u h1 h2)⟩
  | fbn s a cap h0=>exact single _ _ (.cc (.fbn s a cap h0)) rfl rfl
  | fb s b cap C z h0 y A q hb=>exact single _ _ (.cc (.fb s b cap C z h0 y A q hb)) rfl rfl
 | loc x off b hb=>exact single _ _ (.loc x off b hb) rfl rfl
 | mp x b hb=>exact single _ _ (.mp x b hb) rfl rfl
 | arr x k off len v D hv l=>exact single _ _ (.arr x k off len v D hv l) rfl (by cases v <;> first | rfl | cases l)
 | el x k i j v D hv l=>exact single _ _ (.el x k i j v D hv l) rfl (by cases v <;> first | rfl | cases l)
 | ref cs b off C E fr g z hc h1 A=>exact single _ _ (.ref cs b off C E fr g z hc h1 A) rfl rfl
 | agg cs vs q h=>exact ⟨q,h⟩
 | tup cs vs q h=>exact single _ _ (.tup cs vs q h) rfl rfl
 | fn f B vs q h=>exact single _ _ (.fn f B vs q h) rfl rfl
theorem Conc.cc_of {x:AV} {v:Value} (hx:x.cl1=true) (h:Conc σ ι H x v):CC σ x v/\D5 v=true:=by
 cases h with
 | cc h=>cases h with
  | val v=>exact ⟨.val v,hx⟩
  | nil sz a cap=>exact ⟨.nil sz a cap,rfl⟩
  | sl xs b off cap sz C E fr g f i hc h1 k j c=>exact ⟨.sl xs b off cap sz C E fr g f i hc h1 k j c,rfl⟩
  | agg=>cases hx
  | fbn=>cases hx
  | fb=>cases hx
 | _=>cases hx
end conc
end Go.Ab
namespace Go.Ab
def B0 (P:Program) (o:Oper) (ρ:Operand->AV) (b:Eff):Prop := ∀(σ:A1) (ι:Br) (H:Hp) (F:A1) (W w:World) (a:Act) (next:Act->World->Prop) (Q:Exit->Act->World->Prop), St σ ι H F W w->(∀x∈o.op.operands.toList,Conc σ ι H (ρ x) (a.eval x))->(∀p∈b.rd,H p.1=p.2) -> (∀c f v w',Le σ ι H c f (Cg H b.wr)->St c f (Cg H b.wr) F W w'->Conc c f (Cg H b.wr) b.r v->next (a.put o.dst v) w')->o.wp P a w next Q
section
variable {P:Program} {o:Oper} {ρ:Operand->AV} {a:Act} {w w':World} {next:Act->World->Prop} {Q:Exit->Act->World->Prop}
theorem Et {v:Value} (h:(execOp a.eval o).run P w = .ok (.value v) w') (b:next (a.put o.dst v) w'):o.wp P a w next Q:=by unfold Oper.wp; rw [h]; exact b
theorem X8 (h:(execOp a.eval o).run P w = .ok .skip w') (b:next (a.put o.dst undef) w'):o.wp P a w next Q:=by unfold Oper.wp; rw [h]; exact b
theorem D6 {r:AV} (h:∀σ ι H a w,(∀x∈o.op.operands.toList,Conc σ ι H (ρ x) (Act.eval a x))->∃v,(execOp a.eval o).run P w = .ok (.value v) w/\Conc σ ι H r v) : B0 P o ρ ⟨r,[],[]⟩:=by
 intro σ ι H F W w a next Q s hx _ hk
 obtain ⟨v,b,hc⟩:=h σ ι H a w hx;exact Et b (hk σ ι v w (Le.refl _ _ _) s hc)
theorem Aqn {x:Operand} (b:o.op = .move x):B0 P o ρ ⟨ρ x,[],[]⟩ := D6 λσ ι H a w hx=>⟨a.eval x,by simp [execOp,b],hx x (by simp [b,Op.operands])⟩
theorem Un {x:Operand} (b:o.op = .assign x):B0 P o ρ ⟨ρ x,[],[]⟩ := D6 λσ ι H a w hx=>⟨a.eval x,by simp [execOp,b],hx x (by simp [b,Op.operands])⟩
theorem Aqo {c x y:Operand} {t:Bool} (b:o.op = .pick c x y) (hc:ρ c = .val (.bool t)):B0 P o ρ ⟨bif t then ρ x else ρ y,[],[]⟩ := D6 λσ ι H a w hx=>by have h1:=hx c (by simp [b,Op.operands]);rw [hc] at h1;have h1:=h1.val_inv;cases t with| true=>exact ⟨a.eval x,by simp [execOp,b,h1,asBool],hx x (by simp [b,Op.operands])⟩| false=>exact ⟨a.eval y,by simp [execOp,b,h1,asBool],hx y (by simp [b,Op.operands])⟩
theorem D0 {t:TypeId} {i:TI} (h:Gy P t=some i) : ∃b u z,P.info? t=some b/\P.underlying t=some u/\b.zero=some z/\b.size=i.size/\b.bytes=i.bytes/\i.zero=z.cells.toList /\ (match i.d with
       | .int k=>u = .int k
       | .bool=>u = .bool
       | .string=>u = .string
       | .slice e=>u = .slice e
       | .map k e=>u = .map k e
       | .float k=>u = .float k
       | .struct fs=>∃fields,u = .struct fields/\fs=fields.toList.map (λf=>(f.offset,P.cellsOf f.type))/\∀f∈fields.toList,0<P.cellsOf f.type
       | .other=>(∀fs,u≠.struct fs)/\(∀n e,u≠.array n e)):=by
  unfold Gy at h;split at h
  . rename_i b u hi hu;split at h
    . cases h
    . rename_i z j;refine ⟨b,u,z,hi,hu,j,?_⟩;cases g:zok u z with
      | false=>rw [g] at h; cases h
      | true=>
      rw [g] at h;simp only [Bool.not_true,cond_false] at h;split at h;all_goals first
        | (cases h; done)
        | (cases h; refine ⟨rfl,rfl,rfl,?_⟩; first | rfl | exact ⟨(by intro fs e; simp_all),(by intro n e' e; simp_all)⟩)
        | skip
      . split at h
        . rename_i c;cases h;refine ⟨rfl,rfl,rfl,_,rfl,rfl,?_⟩;intro f l;simp only [List.all_eq_true,decide_eq_true_eq] at c;exact c f l
        . cases h
  . cases h
theorem Ahm {t:TypeId} {i:TI} (h:Gy P t=some i) (w:World) : ∃z,(zeroValue t).run P w = .ok z w/\z.cells.toList=i.zero/\(i.isAgg=true->∃vs,z = .agg vs)/\(i.isAgg=false->D5 z=true):=by
  obtain ⟨j,u,z,h1,h2,h3,h4,s,l,c⟩:=D0 h;refine ⟨z,by simp [zeroValue,typeInfo,program,Sem.run,h1,h3],l.symm,?_⟩;have b:zok u z=true:=(by unfold Gy at h;rw [h1,h2] at h;simp only [h3] at h;cases g:zok u z with| false=>rw [g] at h; cases h| true=>rfl);unfold TI.isAgg;cases hd:i.d <;> rw [hd] at c <;> simp only [] at c ⊢;all_goals first
    | (subst c; exact ⟨(λh=>by cases h),λ_=>b⟩)
    | (obtain ⟨f,rfl,_⟩:=c
       refine ⟨λ_=>?_,λh=>by cases h⟩
       unfold zok at b
       cases z <;> first | exact ⟨_,rfl⟩ | cases b)
    | (obtain ⟨k,q⟩:=c
       refine ⟨(λh=>by cases h),λ_=>?_⟩
       unfold zok at b
       cases u <;> first | exact b | exact (k _ rfl).elim)
theorem X9 {t:TypeId} {i:TI} (h:Gy P t=some i) (w:World):(isAgg t).run P w = .ok i.isAgg w:=by
 obtain ⟨c,u,z,h1,h2,h3,h4,l,k,b⟩:=D0 h;unfold isAgg TI.isAgg;rw [Sem.run_bind,run_underlying h2];cases hd:i.d <;> rw [hd] at b <;> simp only [Result.andThen_ok];all_goals first
  | (subst b; rfl)
  | (obtain ⟨f,rfl,_⟩:=b; rfl)
  | (obtain ⟨j,g⟩:=b; cases u <;> first | rfl | exact (j _ rfl).elim | exact (g _ _ rfl).elim)
theorem Ks {t:TypeId} {i:TI} (h:Gy P t=some i) (w:World):(sizeOf t).run P w = .ok i.size w:=by obtain ⟨b,u,z,h1,h2,h3,h4,g,f,c⟩:=D0 h;simp [sizeOf,typeInfo,program,Sem.run,h1,h4]
theorem Ahn {t:TypeId} {i:TI} (h:Gy P t=some i) (w:World):∃z:Value,z.cells.toList=i.zero/\(zeroValue t).run P w = .ok z w:=by obtain ⟨b,u,z,h1,h2,h3,h4,g,c,f⟩:=D0 h;exact ⟨z,c.symm,by simp [zeroValue,typeInfo,program,Sem.run,h1,h3]⟩
theorem Aqp {T:Cl} (q:Cm P T) {t:TypeId} {i:TI} (h:Nat) (k:o.op = .alloc t) (ht:T t=some i) : B0 P o ρ ⟨.loc h 0,[(h,.none)],[(h,.cells t (i.zero.map .val))]⟩:=by
 intro σ ι H F W w a next Q s hx b hk
 have l:H h = .none:=b (h,.none) ψ;obtain ⟨z,f,g⟩:=Ahn (q t i ht) w;obtain ⟨s',le⟩:=s.newBox h l t (i.zero.map .val) z.cells (by simp [<-f]) (by intro j c v h1 h2;rw [<-f,List.getElem?_map,Array.getElem?_toList,h2] at h1;simp at h1; subst h1; exact .of_val v);refine Et (v:=.pointer (some ⟨w.heap.size,0,none⟩)) (w':=w.alloc (.cells z.cells t)) ?_ (hk σ _ _ _ le s' (.loc h 0 w.heap.size (Ce _ _ _)));simp [execOp,k,Instr.alloc,g,newVar,newRow,newObj,Sem.run]
theorem Aqq {t:TypeId} {x:Operand} (h:Nat) (c:o.op = .box t x) : B0 P o ρ ⟨.loc h 0,[(h,.none)],[(h,.cells t (ρ x).cells)]⟩:=by
 intro σ ι H F W w a next Q s hx b hk
 have f:H h = .none:=b (h,.none) ψ;have hc:=(hx x (by simp [c,Op.operands])).cells;obtain ⟨s',le⟩:=s.newBox h f t (ρ x).cells (a.eval x).cells hc.1 hc.2;refine Et (v:=.pointer (some ⟨w.heap.size,0,none⟩)) (w':=w.alloc (.cells (a.eval x).cells t)) ?_ (hk σ _ _ _ le s' (.loc h 0 w.heap.size (Ce _ _ _)));simp [execOp,c,Instr.box,newVar,newRow,newObj,Sem.run]
theorem Ig {b off:Nat} {C:Array Value} {E:TypeId} {c:Nat×Nat} (h:w.heap[b]? = some (.cells C E c)):w.cell? ⟨b,off,none⟩=C[off]?:=by simp [World.cell?,h]
theorem I2 (b off n:Nat):(⟨b,off,none⟩:Addr).add n=⟨b,off+n,none⟩:=by unfold Addr.add; split <;> simp_all
theorem Acg {t:TypeId} {x:Operand} {i:TI} (c:o.op = .load t x) (hi:Gy P t=some i) (b:i.isAgg=false) {p:Addr} (hp:a.eval x = .pointer (some p)) {v:Value} (hv:w.cell? p=some v) : (execOp a.eval o).run P w = .ok (.value v) w:=by have h1:=X9 hi w;rw [b] at h1;simp [execOp,c,Instr.loadAt,hp,Instr.sureAddr,loadVar,h1,hv]
theorem Ach {t:TypeId} {x:Operand} {i:TI} (c:o.op = .load t x) (hi:Gy P t=some i) (b:i.isAgg=true) {p:Addr} (hp:a.eval x = .pointer (some p)) (cs:List Value) (f:cs.length=i.size) (hv:∀(j:Nat) (v:Value),cs[j]? = some v->w.cell? (p.add j)=some v) : (execOp a.eval o).run P w = .ok (.value (.agg cs.toArray)) w:=by have h1:=X9 hi w;rw [b] at h1;have h2:=Ks hi w;have h3:=run_loadCells_list (P:=P) w p cs hv;rw [f] at h3;simp [execOp,c,Instr.loadAt,hp,Instr.sureAddr,loadVar,h1,h2,h3]
theorem Conc.ref_inv {σ:A1} {ι:Br} {H:Hp} {cs:List AV} {v:Value} (h:Conc σ ι H (.ref cs) v):∃(b off:Nat) (C:Array Value) (E:TypeId) (f:Nat×Nat) (g:Nat->Value), v = .pointer (some ⟨b,off,none⟩)/\σ b=some (.cells C E f)/\(∀(j:Nat) (c:AV),cs[j]? = some c->CC σ c (g j)/\D5 (g j)=true)/\(∀(j:Nat),j<cs.length->C[off+j]? = some (g j)):=by cases h with| cc h=>cases h| ref cs b off C E f g i hc h1 k=>exact ⟨b,off,C,E,f,g,rfl,i,λj c h=>⟨hc j c h,h1 j c h⟩,k⟩
theorem Aqr {T:Cl} (u:Cm P T) {t:TypeId} {x:Operand} {i:TI} {c:AV} {cs:List AV} (l:o.op = .load t x) (ht:T t=some i) (k:i.isAgg=false) (hx:ρ x = .ref (c::cs)) : B0 P o ρ ⟨c,[],[]⟩:=by
 intro σ ι H F W w a next Q s j _ hk
 have h:=j x (by simp [l,Op.operands]);rw [hx] at h;obtain ⟨b,off,C,E,fr,g,hv,q,hc,y⟩:=h.ref_inv;have f:w.cell? ⟨b,off,none⟩=some (g 0):=by rw [Ig (s.sto _ _ q)]; exact y 0 ψ
 exact Et (Acg l (u t i ht) k hv f) (hk σ ι _ w (Le.refl _ _ _) s (.cc (hc 0 c ψ).1))
theorem Aqs {T:Cl} (z:Cm P T) {t:TypeId} {x:Operand} {i:TI} {cs:List AV} (q:o.op = .load t x) (ht:T t=some i) (l:i.isAgg=true) (hx:ρ x = .ref cs) (B:i.size<=cs.length) : B0 P o ρ ⟨.agg (cs.take i.size),[],[]⟩:=by
 intro σ ι H F W w a next Q s k _ hk
 have h:=k x (by simp [q,Op.operands]);rw [hx] at h;obtain ⟨b,off,C,E,fr,g,hv,y,hc,A⟩:=h.ref_inv;refine Et (Ach q (z t i ht) l hv ((List.range i.size).map g) ψ ?_) (hk σ ι _ w (Le.refl _ _ _) s ?_)
 .intro j v hj;rw [List.getElem?_map] at hj;by_cases f:j<i.size
  .rw [List.getElem?_range f] at hj;simp at hj; subst hj;rw [I2,Ig (s.sto _ _ y)]; exact A j ω
  .rw [List.getElem?_eq_none (by simp; omega)] at hj; cases hj
 .refine .agg _ _ (by simp; omega) (λj c u h1 h2=>?_);have f:j<i.size:=(by have:=(List.getElem?_eq_some_iff.1 h1).1; simp at this; omega);rw [List.getElem?_take_of_lt f] at h1;simp [f] at h2;subst h2;exact .cc (hc j c h1).1
theorem Aqt {T:Cl} (z:Cm P T) {t:TypeId} {x:Operand} {i:TI} {h off:Nat} {E:TypeId} {cs:List AV} {c:AV} (u:o.op = .load t x) (ht:T t=some i) (q:i.isAgg=false) (hx:ρ x = .loc h off) (hc:cs[off]? = some c):B0 P o ρ ⟨c,[(h,.cells E cs)],[]⟩:=by
 intro σ ι H F W w a next Q s l k hk
 have hh:H h = .cells E cs:=k (h,.cells E cs) ψ;have hp:=l x (by simp [u,Op.operands]);rw [hx] at hp;obtain ⟨b,hb,hv⟩:=hp.loc_inv;have f:=s.obj h;unfold Ci at f; rw [hh] at f;obtain ⟨B,C,y,_,_,h3,h4,A⟩:=f;rw [hb] at y; cases y;have j:off<C.size:=by rw [h4]; exact (List.getElem?_eq_some_iff.1 hc).1
 have g:w.cell? ⟨b,off,none⟩=some C[off]:=by rw [Ig h3]; simp [j]
 exact Et (Acg u (z t i ht) q hv g) (hk σ ι _ w (Le.refl _ _ _) s (A off c _ hc (by simp [j])))
theorem Aqu {T:Cl} (A:Cm P T) {t:TypeId} {x:Operand} {i:TI} {h off:Nat} {E:TypeId} {cs:List AV} (y:o.op = .load t x) (ht:T t=some i) (q:i.isAgg=true) (hx:ρ x = .loc h off) (D:off+i.size<=cs.length):B0 P o ρ ⟨.agg ((cs.drop off).take i.size),[(h,.cells E cs)],[]⟩:=by
 intro σ ι H F W w a next Q s l k hk
 have hh:H h = .cells E cs:=k (h,.cells E cs) ψ;have hp:=l x (by simp [y,Op.operands]);rw [hx] at hp;obtain ⟨b,hb,hv⟩:=hp.loc_inv;have g:=s.obj h;unfold Ci at g; rw [hh] at g;obtain ⟨G,C,z,_,_,h3,h4,B⟩:=g;rw [hb] at z; cases z;refine Et (Ach y (A t i ht) q hv ((C.toList.drop off).take i.size) (by simp; omega) ?_) (hk σ ι _ w (Le.refl _ _ _) s ?_)
 .intro j v hj;have f:j<i.size:=(by have:=(List.getElem?_eq_some_iff.1 hj).1; simp at this; omega);rw [List.getElem?_take_of_lt f,List.getElem?_drop,Array.getElem?_toList] at hj;rw [I2,Ig h3]; exact hj
 .refine .agg _ _ (by simp; omega) (λj c u h1 h2=>?_);have f:j<i.size:=(by have:=(List.getElem?_eq_some_iff.1 h1).1; simp at this; omega);rw [List.getElem?_take_of_lt f,List.getElem?_drop] at h1;rw [List.getElem?_toArray,List.getElem?_take_of_lt f,List.getElem?_drop,Array.getElem?_toList] at h2;exact B _ c u h1 h2
end
end Go.Ab
namespace Go.Ab
section
variable {P:Program} {o:Oper} {ρ:Operand->AV} {a:Act} {w w':World} {next:Act->World->Prop} {Q:Exit->Act->World->Prop}
theorem Conc.el_inv {σ:A1} {ι:Br} {H:Hp} {h k i j:Nat} {v:Value} {E:TypeId} {sz:Nat} {xs:List AV} (hh:H h = .rows E sz xs) (hk:xs.length=k) (hc:Conc σ ι H (.el h k i j) v) : ∃b c,ι h = .blk b c/\v = .pointer (some ⟨b,i*sz+j,none⟩):=by
 cases hc with
 | cc h=>cases h
 | el _ _ _ _ _ g hv f=>
  have:=(hv E sz xs hh).2 hk;unfold Ahl at this;split at this
  .rename_i b c e; exact ⟨b,c,e,this⟩
  .exact this.elim
theorem Conc.arr_inv {σ:A1} {ι:Br} {H:Hp} {h k off len:Nat} {v:Value} {E:TypeId} {sz:Nat} {xs:List AV} (hh:H h = .rows E sz xs) (hk:xs.length=k) (hc:Conc σ ι H (.arr h k off len) v) : Ft (ι h) sz off len v:=by cases hc with| cc h=>cases h| arr _ _ _ _ _ c hv b=>exact (hv E sz xs hh).2 hk
theorem St.rowsAt {σ:A1} {ι:Br} {H:Hp} {F:A1} {W w:World} (s:St σ ι H F W w) {h:Nat} {E:TypeId} {sz:Nat} {xs:List AV} (hh:H h = .rows E sz xs) {b c:Nat} (hb:ι h = .blk b c) : ∃C,w.heap[b]? = some (.cells C E (0,0))/\C.size=c*sz/\xs.length<=c/\Gx σ sz xs C:=by
 have g:=s.obj h;unfold Ci at g;rw [hh] at g;obtain ⟨_,_,⟨f,_⟩ | ⟨l,i,C,f,h1,h2,h3,h4,k,j⟩⟩:=g
 .rw [hb] at f; cases f
 .rw [hb] at f; cases f;exact ⟨C,h3,h4,k,j⟩
theorem Aqv {T:Cl} (L:Cm P T) {t:TypeId} {x:Operand} {i:TI} {h k n j:Nat} {E:TypeId} {sz:Nat} {xs:List AV} {y c:AV} (A:o.op = .load t x) (ht:T t=some i) (z:i.isAgg=false) (hx:ρ x = .el h k n j) (u:xs.length=k) (hy:xs[n]? = some y) (hc:y.cells[j]? = some c):B0 P o ρ ⟨c,[(h,.rows E sz xs)],[]⟩:=by
 intro σ ι H F W w a next Q s q l hk
 have hh:H h = .rows E sz xs:=l (h,.rows E sz xs) ψ;have hp:=q x (by simp [A,Op.operands]);rw [hx] at hp;obtain ⟨b,B,hb,hv⟩:=hp.el_inv hh u;obtain ⟨C,h3,h4,M,g,I,G,D⟩:=s.rowsAt hh hb;have J:=(List.getElem?_eq_some_iff.1 hy).1;have hj:=(List.getElem?_eq_some_iff.1 hc).1;rw [I n y hy] at hj;have f:w.cell? ⟨b,n*sz+j,none⟩=some (g n j):=by rw [Ig h3]; exact D n j J hj
 exact Et (Acg A (L t i ht) z hv f) (hk σ ι _ w (Le.refl _ _ _) s (.cc (G n y j c hy hc).1))
theorem Aqw {T:Cl} (R:Cm P T) {t:TypeId} {x:Operand} {i:TI} {h k n j:Nat} {E:TypeId} {sz:Nat} {xs:List AV} {y:AV} (D:o.op = .load t x) (ht:T t=some i) (B:i.isAgg=true) (hx:ρ x = .el h k n j) (A:xs.length=k) (hy:xs[n]? = some y) (S:j+i.size<=y.cells.length):B0 P o ρ ⟨.agg ((y.cells.drop j).take i.size),[(h,.rows E sz xs)],[]⟩:=by
 intro σ ι H F W w a next Q s z l hk
 have hh:H h = .rows E sz xs:=l (h,.rows E sz xs) ψ;have hp:=z x (by simp [D,Op.operands]);rw [hx] at hp;obtain ⟨b,G,hb,hv⟩:=hp.el_inv hh A;obtain ⟨C,h3,h4,U,g,L,J,I⟩:=s.rowsAt hh hb;have N:=(List.getElem?_eq_some_iff.1 hy).1;have M:=L n y hy;refine Et (Ach D (R t i ht) B hv ((List.range i.size).map λq=>g n (j+q)) ψ ?_) (hk σ ι _ w (Le.refl _ _ _) s ?_)
 .intro q v hq;rw [List.getElem?_map] at hq;by_cases f:q<i.size
  .rw [List.getElem?_range f] at hq;simp at hq; subst hq;rw [I2,Ig h3,Nat.add_assoc]; exact I n (j+q) N ω
  .rw [List.getElem?_eq_none (by simp; omega)] at hq; cases hq
 .refine .agg _ _ (by simp; omega) (λq c u h1 h2=>?_);have f:q<i.size:=(by have:=(List.getElem?_eq_some_iff.1 h1).1; simp at this; omega);rw [List.getElem?_take_of_lt f,List.getElem?_drop] at h1;simp [f] at h2;subst h2;exact .cc (J n y (j+q) c hy h1).1
theorem Aci (v:Value):v.oneCell'=D5 v:=by cases v <;> rfl
theorem Aho {t:TypeId} {i:TI} (hi:Gy P t=some i) {b off:Nat} {v:Value} {C:Array Value} {E:TypeId} (hb:w.heap[b]? = some (.cells C E (0,0))) (c:v.cells.size=i.size) (f:off+v.cells.size<=C.size) (h1:∀u∈v.cells.toList,D5 u=true) : (Instr.storeAt t (.pointer (some ⟨b,off,none⟩)) v).run P w = .ok () (w.setRow b (C.toList.take off++v.cells.toList++C.toList.drop (off+v.cells.toList.length)).toArray):=by have h2:=Ks hi w;have h3:=run_storeCells_at (P:=P) b off E v.cells.toList 0 C w hb (by simpa using f) (λu hu=>by rw [Aci]; exact h1 u hu);simp only [Nat.add_zero] at h3;simp [Instr.storeAt,Instr.sureAddr,storeVar,h2,c,h3]
theorem Acj (cs:List AV) (off:Nat) (new:List AV) (b:off+new.length<=cs.length) (i:Nat) : (Kr cs off new)[i]? = if i<off then cs[i]? else if i<off+new.length then new[i-off]? else cs[i]?:=by
 unfold Kr;by_cases h1:i<off
 .rw [if_pos h1,List.getElem?_append_left (by simp; omega),List.getElem?_take_of_lt h1]
 .rw [if_neg h1,List.getElem?_append_right (by simp; omega)];have:(cs.take off).length=off:=(by simp; omega);rw [this];by_cases h2:i<off+new.length
  .rw [if_pos h2,List.getElem?_append_left ω]
  .rw [if_neg h2,List.getElem?_append_right ω,List.getElem?_drop];congr 1; omega
theorem Ack (cs:List AV) (off:Nat) (new:List AV) (b:off+new.length<=cs.length):(Kr cs off new).length=cs.length:=by unfold Kr; simp; omega
theorem Rz (C:Array Value) (off:Nat) (new:List Value) (c:off+new.length<=C.size) (i:Nat) : ((C.toList.take off++new++C.toList.drop (off+new.length)).toArray)[i]? = if i<off then C[i]? else if i<off+new.length then new[i-off]? else C[i]?:=by
 rw [List.getElem?_toArray,List.append_assoc];have b:off+new.length<=C.toList.length:=by simpa using c
 by_cases h1:i<off
 .rw [if_pos h1,List.getElem?_append_left (by simp at b ⊢; omega),List.getElem?_take_of_lt h1,Array.getElem?_toList]
 .rw [if_neg h1,List.getElem?_append_right (by simp at b ⊢; omega)];have:(C.toList.take off).length=off:=(by simp at b ⊢; omega);rw [this];by_cases h2:i<off+new.length
  .rw [if_pos h2,List.getElem?_append_left ω]
  .rw [if_neg h2,List.getElem?_append_right ω,List.getElem?_drop,Array.getElem?_toList];congr 1; omega
theorem Aqx {σ:A1} {ι:Br} {H:Hp} {x:AV} {v:Value} (hc:Conc σ ι H x v) (h1:x.cells.all AV.one=true):∀u∈v.cells.toList,D5 u=true:=by
 intro u hu;obtain ⟨n,c⟩:=List.getElem?_of_mem hu;have f:=hc.cells;rw [Array.getElem?_toList] at c;have b:n<x.cells.length:=by rw [<-f.1]; exact (Array.getElem?_eq_some_iff.1 c).1
 have:=f.2 n x.cells[n] u (List.getElem?_eq_getElem b) c;exact this.one_of (List.all_eq_true.1 h1 _ (List.getElem_mem b))
theorem Aqy {T:Cl} (D:Cm P T) {t:TypeId} {x y:Operand} {i:TI} {h off:Nat} {E:TypeId} {cs:List AV} (z:o.op = .store t x y) (ht:T t=some i) (hx:ρ x = .loc h off) (G:(ρ y).cells.length=i.size) (I:off+i.size<=cs.length) (h1:(ρ y).cells.all AV.one=true) : B0 P o ρ ⟨.val undef,[(h,.cells E cs)],[(h,.cells E (Kr cs off (ρ y).cells))]⟩:=by
 intro σ ι H F W w a next Q s q u hk
 have hh:H h = .cells E cs:=u (h,.cells E cs) ψ;have hp:=q x (by simp [z,Op.operands]);have hy:=q y (by simp [z,Op.operands]);rw [hx] at hp;obtain ⟨b,hb,hv⟩:=hp.loc_inv;have g:=s.obj h;unfold Ci at g; rw [hh] at g;obtain ⟨J,C,B,_,_,h3,h4,A⟩:=g;rw [hb] at B; cases B;have k:=hy.cells;have l:=Aho (P:=P) (w:=w) (D t i ht) (off:=off) (v:=a.eval y) h3 ω ω (Aqx hy h1);obtain ⟨s',le⟩:=s.setBox h E cs (Kr cs off (ρ y).cells) hh b hb (C.toList.take off++(a.eval y).cells.toList++C.toList.drop (off+(a.eval y).cells.toList.length)).toArray (by rw [Ack _ _ _ ω]; simp; omega) (by
   intro j c v hj f;rw [Acj _ _ _ ω] at hj;rw [Rz _ _ _ (by simp; omega)] at f;simp only [Array.length_toList,k.1] at f;by_cases g1:j<off
   .rw [if_pos g1] at hj f; exact A j c v hj f
   .rw [if_neg g1] at hj f;by_cases g2:j<off+(ρ y).cells.length
    .rw [if_pos g2] at hj f;rw [Array.getElem?_toList] at f;exact k.2 _ c v hj f
    .rw [if_neg g2] at hj f; exact A j c v hj f);refine X8 (w':=_) ?_ (hk σ ι undef _ le s' (.of_val _));simp [execOp,z,hv,l]
def Uo (x:AV) (j:Nat) (new:List AV):AV := match x with
 | .agg cs=>.agg (Kr cs j new)
 | _=>new.headD x
theorem Aqz {x:AV} {j:Nat} {new:List AV} (f:j+new.length<=x.cells.length) (h:new≠[]) (h1:∀c∈new,c.cl1=true) (hv:∀vs,x≠.val (.agg vs)) : (Uo x j new).cells=Kr x.cells j new:=by
 unfold Uo;split
 .rfl
 .rename_i hx;have b:x.cells = [x]:=by
   cases x with
   | val v=>cases v <;> first | rfl | exact (hv _ rfl).elim
   | agg cs=>exact (hx cs rfl).elim
   | _=>rfl
  rw [b] at f ⊢;cases new with
  | nil=>exact (h rfl).elim
  | cons c rest=>
   simp at f;have hj:j=0:=ω;have g:rest = []:=List.eq_nil_of_length_eq_zero ω;subst hj g;have hc:=h1 c ψ;cases c with
   | val v=>cases v <;> first | rfl | cases hc
   | sl _ _=>rfl
   | _=>cases hc
theorem Aq0 {T:Cl} (hT:Cm P T) {t:TypeId} {x y:Operand} {i:TI} {h k n j:Nat} {E:TypeId} {sz:Nat} {xs:List AV} {z:AV} (ho:o.op = .store t x y) (ht:T t=some i) (hx:ρ x = .el h k n j) (a8:xs.length=k) (V:xs[n]? = some z) (hs:(ρ y).cells.length=i.size) (ac:0<i.size) (hl:j+i.size<=z.cells.length) (h1:(ρ y).cells.all AV.cl1=true) (Z:∀vs,z≠.val (.agg vs)) : B0 P o ρ ⟨.val undef,[(h,.rows E sz xs)],[(h,.rows E sz (xs.set n (Uo z j (ρ y).cells)))]⟩:=by
 intro σ ι H F W w a next Q s N a6 hk
 have hh:H h = .rows E sz xs:=a6 (h,.rows E sz xs) ψ;have hp:=N x (by simp [ho,Op.operands]);have hy:=N y (by simp [ho,Op.operands]);rw [hx] at hp;obtain ⟨b,J,hb,hv⟩:=hp.el_inv hh a8;obtain ⟨C,h3,h4,h5,g,r1,Y,U⟩:=s.rowsAt hh hb;have hn:=(List.getElem?_eq_some_iff.1 V).1;have a1:=r1 n z V;have I:=hy.cells;have a7:(ρ y).cells≠[]:=by intro e; rw [e] at hs; simp at hs; omega
 have M:=Aqz (x:=z) (j:=j) (new:=(ρ y).cells) ω a7 (λc hc=>List.all_eq_true.1 h1 c hc) Z;have aa:∀u∈(a.eval y).cells.toList,D5 u=true:=by intro u hu;obtain ⟨q,hq⟩:=List.getElem?_of_mem hu;rw [Array.getElem?_toList] at hq;have l:q<(ρ y).cells.length:=(by rw [<-I.1]; exact (Array.getElem?_eq_some_iff.1 hq).1);exact ((I.2 q _ u (List.getElem?_eq_getElem l) hq).cc_of (List.all_eq_true.1 h1 _ (List.getElem_mem l))).2
 have ab:n*sz+sz<=C.size:=by rw [h4];have:(n+1)*sz<=J*sz:=Nat.mul_le_mul_right sz ω;rw [Nat.add_mul] at this; omega
 have L:=Aho (P:=P) (w:=w) (hT t i ht) (off:=n*sz+j) (v:=a.eval y) h3 ω ω aa;let G:Nat->Nat->Value:=λn' f=>if n'=n/\j<=f/\f<j+(ρ y).cells.length then ((a.eval y).cells[f-j]?).getD undef else g n' f
 obtain ⟨s',le⟩:=s.setRows h E sz xs (xs.set n (Uo z j (ρ y).cells)) hh b J hb ψ (C.toList.take (n*sz+j)++(a.eval y).cells.toList++C.toList.drop (n*sz+j+(a.eval y).cells.toList.length)).toArray (by simp; omega) (by
   refine ⟨G,?_,?_,?_⟩
   .intro i' X B;by_cases e:i'=n
    .subst e;rw [List.getElem?_set_self hn] at B;cases B;rw [M,Ack _ _ _ ω]; exact a1
    .rw [List.getElem?_set_ne ω] at B; exact r1 i' X B
   .intro i' X f S B A;by_cases e:i'=n
    .subst e;rw [List.getElem?_set_self hn] at B;cases B;rw [M,Acj _ _ _ ω] at A;show CC σ S (G i' f)/\D5 (G i' f)=true;by_cases g1:f<j
     .rw [if_pos g1] at A;have:G i' f=g i' f:=if_neg ω;rw [this]; exact Y i' z f S V A
     .rw [if_neg g1] at A;by_cases g2:f<j+(ρ y).cells.length
      .rw [if_pos g2] at A;have l:f-j<(a.eval y).cells.size:=ω;have:G i' f=(a.eval y).cells[f-j]:=(by show (if _ then _ else _)=_;rw [if_pos ⟨rfl,ω,g2⟩]; simp [l]);rw [this];exact (I.2 (f-j) S _ A (by simp [l])).cc_of (List.all_eq_true.1 h1 _ (List.mem_of_getElem? A))
      .rw [if_neg g2] at A;have:G i' f=g i' f:=if_neg ω;rw [this]; exact Y i' z f S V A
    .rw [List.getElem?_set_ne ω] at B;have:G i' f=g i' f:=if_neg ω;rw [this]; exact Y i' X f S B A
   .intro i' f D hj';simp at D;rw [Rz _ _ _ (by simp; omega)];simp only [Array.length_toList,I.1];by_cases g0:i'=n
    .subst g0;by_cases g1:f<j
     .rw [if_pos ω];have:G i' f=g i' f:=if_neg ω;rw [this]; exact U i' f D hj'
     .rw [if_neg ω];by_cases g2:f<j+(ρ y).cells.length
      .rw [if_pos ω,Array.getElem?_toList];have l:f-j<(a.eval y).cells.size:=ω;have:G i' f=(a.eval y).cells[f-j]:=(by show (if _ then _ else _)=_;rw [if_pos ⟨rfl,ω,g2⟩]; simp [l]);rw [this,show i' * sz+f-(i' * sz+j)=f-j by omega];simp [l]
      .rw [if_neg ω];have:G i' f=g i' f:=if_neg ω;rw [this]; exact U i' f D hj'
    .have:G i' f=g i' f:=if_neg ω;rw [this];have R:i' * sz+f<n*sz+j\/n*sz+j+(ρ y).cells.length<=i' * sz+f:=by
      rcases Nat.lt_or_gt_of_ne g0 with l | hgt
      .left;have:(i' + 1)*sz<=n*sz:=Nat.mul_le_mul_right sz ω;rw [Nat.add_mul] at this; omega
      .right;have:(n+1)*sz<=i' * sz:=Nat.mul_le_mul_right sz ω;rw [Nat.add_mul] at this; omega
     rcases R with l | hge
     .rw [if_pos l]; exact U i' f D hj'
     .rw [if_neg ω,if_neg ω]; exact U i' f D hj');refine X8 (w':=_) ?_ (hk σ ι undef _ le s' (.of_val _));simp [execOp,ho,hv,L]
end
end Go.Ab
namespace Go.Ab
section
variable {P:Program} {o:Oper} {ρ:Operand->AV} {a:Act} {w w':World} {next:Act->World->Prop} {Q:Exit->Act->World->Prop}
theorem Da {σ:A1} {ι:Br} {H:Hp} {x:Operand} {v:Value} (h:ρ x = .val v) (hc:Conc σ ι H (ρ x) (a.eval x)):a.eval x=v:=by rw [h] at hc; exact hc.val_inv
theorem Aq1 {x:Operand} (b:o.op = .nilCheck x) (hp:(ρ x).isPtr=true):B0 P o ρ ⟨ρ x,[],[]⟩ := D6 λσ ι H a w hx=>by have h:=hx x (by simp [b,Op.operands]);refine ⟨a.eval x,?_,h⟩;have:(∃p,a.eval x = .pointer (some p))\/∃f vs,a.eval x = .func (.func f) #[] vs:=(by generalize ρ x=y at h hp;generalize a.eval x=v at h;cases h with| cc h=>cases h <;> cases hp| loc=>exact .inl ⟨_,rfl⟩| mp=>cases hp| arr=>cases hp| el=>cases hp| ref=>exact .inl ⟨_,rfl⟩| agg=>cases hp| tup=>cases hp| fn=>exact .inr ⟨_,_,rfl⟩);rcases this with ⟨p,hp⟩ | ⟨f,vs,hp⟩ <;> simp [execOp,b,hp]
theorem Pn {op:BinOp} {t b:TypeId} {x y:Operand} {k:IntKind} {m n:Int} (f:o.op = .binOp op t x y b) (hx:a.eval x = .int k m) (hy:a.eval y = .int k n) {r:Value} (c:(binOp op t (.int k m) (.int k n)).run P w = .ok r w):(execOp a.eval o).run P w = .ok (.value r) w:=by
 have g:(eqGuard op t x y (.int k m) (.int k n)).run P w = .ok () w:=by unfold eqGuard; cases op <;> simp
 simp only [execOp,f,hx,hy,Sem.run_bind,g,Result.andThen_ok,c,Sem.run_pure]
theorem Aq2 {t f:TypeId} {x y:Operand} {k:IntKind} {m n c:Int} (b:o.op = .binOp .add t x y f) (hx:ρ x = .val (.int k m)) (hy:ρ y = .val (.int k n)) (hc:k.wrap (m+n)=c) : B0 P o ρ ⟨.val (.int k c),[],[]⟩ := D6 λσ ι H a w h=>⟨_,Pn b (Da hx (h x (by simp [b,Op.operands]))) (Da hy (h y (by simp [b,Op.operands]))) (by simp [binOp,Op.intArith,hc]),.of_val _⟩
theorem Aq3 {t f:TypeId} {x y:Operand} {k:IntKind} {m n c:Int} (b:o.op = .binOp .sub t x y f) (hx:ρ x = .val (.int k m)) (hy:ρ y = .val (.int k n)) (hc:k.wrap (m-n)=c) : B0 P o ρ ⟨.val (.int k c),[],[]⟩ := D6 λσ ι H a w h=>⟨_,Pn b (Da hx (h x (by simp [b,Op.operands]))) (Da hy (h y (by simp [b,Op.operands]))) (by simp [binOp,Op.intArith,hc]),.of_val _⟩
theorem Aq4 {t f:TypeId} {x y:Operand} {k:IntKind} {m n c:Int} (b:o.op = .binOp .mul t x y f) (hx:ρ x = .val (.int k m)) (hy:ρ y = .val (.int k n)) (hc:k.wrap (m*n)=c) : B0 P o ρ ⟨.val (.int k c),[],[]⟩ := D6 λσ ι H a w h=>⟨_,Pn b (Da hx (h x (by simp [b,Op.operands]))) (Da hy (h y (by simp [b,Op.operands]))) (by simp [binOp,Op.intArith,hc]),.of_val _⟩
theorem Aq5 {t f:TypeId} {x y:Operand} {k:IntKind} {m n c:Int} (b:o.op = .binOp .quo t x y f) (hx:ρ x = .val (.int k m)) (hy:ρ y = .val (.int k n)) (g:n≠0) (hc:k.wrap (m.tdiv n)=c) : B0 P o ρ ⟨.val (.int k c),[],[]⟩ := D6 λσ ι H a w h=>⟨_,Pn b (Da hx (h x (by simp [b,Op.operands]))) (Da hy (h y (by simp [b,Op.operands]))) (by simp [binOp,Op.intDiv,g,hc]),.of_val _⟩
theorem Aq6 {t f:TypeId} {x y:Operand} {k:IntKind} {m n c:Int} (b:o.op = .binOp .rem t x y f) (hx:ρ x = .val (.int k m)) (hy:ρ y = .val (.int k n)) (g:n≠0) (hc:m.tmod n=c) : B0 P o ρ ⟨.val (.int k c),[],[]⟩ := D6 λσ ι H a w h=>⟨_,Pn b (Da hx (h x (by simp [b,Op.operands]))) (Da hy (h y (by simp [b,Op.operands]))) (by simp [binOp,Op.intDiv,g,hc]),.of_val _⟩
theorem Aq7 {op:BinOp} {t f:TypeId} {x y:Operand} {k:IntKind} {m n:Int} {b:Bool} (c:o.op = .binOp op t x y f) (hx:ρ x = .val (.int k m)) (hy:ρ y = .val (.int k n)) (hc:Acf op m n=some b) : B0 P o ρ ⟨.val (.bool b),[],[]⟩ := D6 λσ ι H a w h=>by refine ⟨.bool b,Pn c (Da hx (h x (by simp [c,Op.operands]))) (Da hy (h y (by simp [c,Op.operands]))) ?_,.of_val _⟩;cases op <;> simp only [Acf] at hc <;> first | (cases hc; done) | (cases hc; simp [binOp,Op.intCmp])
def Acl (op:BinOp) (k:IntKind) (m n:Int):Option Int := match op with
 | .and=>some (k.wrap (BitVec.ofInt k.bits m &&& BitVec.ofInt k.bits n).toNat)
 | .or=>some (k.wrap (BitVec.ofInt k.bits m ||| BitVec.ofInt k.bits n).toNat)
 | .xor=>some (k.wrap (BitVec.ofInt k.bits m ^^^ BitVec.ofInt k.bits n).toNat)
 | _=>none
theorem Aq8 {op:BinOp} {t f:TypeId} {x y:Operand} {k:IntKind} {m n c:Int} (b:o.op = .binOp op t x y f) (hx:ρ x = .val (.int k m)) (hy:ρ y = .val (.int k n)) (hc:Acl op k m n=some c) : B0 P o ρ ⟨.val (.int k c),[],[]⟩ := D6 λσ ι H a w h=>by refine ⟨.int k c,Pn b (Da hx (h x (by simp [b,Op.operands]))) (Da hy (h y (by simp [b,Op.operands]))) ?_,.of_val _⟩;cases op <;> simp only [Acl] at hc <;> first | (cases hc; done) | (cases hc; simp [binOp,Op.intBits])
theorem Aq9 {t i:TypeId} {x y:Operand} {k g:IntKind} {m n c:Int} (b:o.op = .binOp .shr t x y i) (hx:ρ x = .val (.int k m)) (hy:ρ y = .val (.int g n)) (l:0<=n) (hc:m.fdiv (2 ^ (min n.toNat k.bits))=c) : B0 P o ρ ⟨.val (.int k c),[],[]⟩ := D6 λσ ι H a w h=>by refine ⟨.int k c,?_,.of_val _⟩;have h1:=Da hx (h x (by simp [b,Op.operands]));have h2:=Da hy (h y (by simp [b,Op.operands]));have j:(eqGuard .shr t x y (.int k m) (.int g n)).run P w = .ok () w:=(by unfold eqGuard; simp);have f:¬n<0:=ω;simp only [execOp,b,h1,h2,Sem.run_bind,j,Result.andThen_ok,binOp,Op.shift,if_neg f,hc,Sem.run_pure]
theorem Ara {t i:TypeId} {x y:Operand} {k g:IntKind} {m n c:Int} (b:o.op = .binOp .shl t x y i) (hx:ρ x = .val (.int k m)) (hy:ρ y = .val (.int g n)) (l:0<=n) (hc:k.wrap (m*2 ^ (min n.toNat k.bits))=c) : B0 P o ρ ⟨.val (.int k c),[],[]⟩ := D6 λσ ι H a w h=>by refine ⟨.int k c,?_,.of_val _⟩;have h1:=Da hx (h x (by simp [b,Op.operands]));have h2:=Da hy (h y (by simp [b,Op.operands]));have j:(eqGuard .shl t x y (.int k m) (.int g n)).run P w = .ok () w:=(by unfold eqGuard; simp);have f:¬n<0:=ω;simp only [execOp,b,h1,h2,Sem.run_bind,j,Result.andThen_ok,binOp,Op.shift,if_neg f,hc,Sem.run_pure]
def Acm (op:BinOp) (m n:Bool):Option Bool := match op with
 | .eql=>some (m==n)
 | .neq=>some (m != n)
 | _=>none
theorem Arb {t:TypeId} (ht:P.underlying t=some .bool) (d:Nat) (m n:Bool) (w:World):(Op.equalIn (d+1) t (.bool m) (.bool n)).run P w = .ok (m==n) w:=by simp [Op.equalIn,run_underlying ht]
theorem Arc {t:TypeId} (ht:P.underlying t=some .bool) (m n:Bool) (w:World):(Op.equal t (.bool m) (.bool n)).run P w = .ok (m==n) w:=by exact Arb ht 9999 m n w
theorem Ard {T:Cl} (q:Cm P T) {op:BinOp} {t j:TypeId} {i:TI} {x y:Operand} {m n b:Bool} (c:o.op = .binOp op t x y j) (ht:T t=some i) (hd:i.d = .bool) (hx:ρ x = .val (.bool m)) (hy:ρ y = .val (.bool n)) (hc:Acm op m n=some b) : B0 P o ρ ⟨.val (.bool b),[],[]⟩ := D6 λσ ι H a w h=>by
  refine ⟨.bool b,?_,.of_val _⟩;have h1:=Da hx (h x (by simp [c,Op.operands]));have h2:=Da hy (h y (by simp [c,Op.operands]));obtain ⟨g,u,z,E,k,D,B,A,s,f⟩:=D0 (q t i ht);rw [hd] at f; subst f;have l:(eqGuard op t x y (.bool m) (.bool n)).run P w = .ok () w:=(by unfold eqGuard; cases op <;> simp);cases op <;> simp only [Acm] at hc <;> first | (cases hc; done) | skip
  all_goals
   cases hc
   simp only [execOp,c,h1,h2,Sem.run_bind,l,Result.andThen_ok,binOp,Arc k,Sem.run_pure]
   try rfl
theorem Are {T:Cl} (A:Cm P T) {t l e:TypeId} {i:TI} {x y:Operand} {p:Option Addr} {n c b g:Nat} (f:o.op = .binOp .eql t x y l) (ht:T t=some i) (hd:i.d = .slice e) (hx:ρ x = .val (.slice p n c)) (hy:ρ y = .val (.slice none b g)) : B0 P o ρ ⟨.val (.bool p.isNone),[],[]⟩ := D6 λσ ι H a w h=>by refine ⟨.bool p.isNone,?_,.of_val _⟩;have h1:=Da hx (h x (by simp [f,Op.operands]));have h2:=Da hy (h y (by simp [f,Op.operands]));obtain ⟨k,u,z,I,q,G,E,D,B,j⟩:=D0 (A t i ht);rw [hd] at j; subst j;have s:(eqGuard .eql t x y (.slice p n c) (.slice none b g)).run P w = .ok () w:=(by unfold eqGuard; simp);simp only [execOp,f,h1,h2,Sem.run_bind,s,Result.andThen_ok,Lib.run_eql_slice_nil w t e p n c b g q,Sem.run_pure]
def Acn (op:BinOp) (m n:ByteArray):Option Bool := match op with
 | .eql=>some (m.toList==n.toList)
 | .neq=>some (!(m.toList==n.toList))
 | .lss=>some (Op.bytesLess m.toList n.toList)
 | _=>none
theorem Arf {op:BinOp} {t f:TypeId} {x y:Operand} {m n:ByteArray} {b:Bool} (c:o.op = .binOp op t x y f) (hx:ρ x = .val (.string m)) (hy:ρ y = .val (.string n)) (hc:Acn op m n=some b) : B0 P o ρ ⟨.val (.bool b),[],[]⟩ := D6 λσ ι H a w h=>by
  refine ⟨.bool b,?_,.of_val _⟩;have h1:=Da hx (h x (by simp [c,Op.operands]));have h2:=Da hy (h y (by simp [c,Op.operands]));have g:(eqGuard op t x y (.string m) (.string n)).run P w = .ok () w:=(by unfold eqGuard; cases op <;> simp);cases op <;> simp only [Acn] at hc <;> first | (cases hc; done) | skip
  all_goals
   cases hc
   simp only [execOp,c,h1,h2,Sem.run_bind,g,Result.andThen_ok,binOp,Op.stringOp,Sem.run_pure]
theorem Arg {t c:TypeId} {x y:Operand} {m n:ByteArray} (b:o.op = .binOp .add t x y c) (hx:ρ x = .val (.string m)) (hy:ρ y = .val (.string n)) (j:m.size+n.size<=9223372036854775807) : B0 P o ρ ⟨.val (.string (m++n)),[],[]⟩ := D6 λσ ι H a w h=>by refine ⟨.string (m++n),?_,.of_val _⟩;have h1:=Da hx (h x (by simp [b,Op.operands]));have h2:=Da hy (h y (by simp [b,Op.operands]));have i:(eqGuard .add t x y (.string m) (.string n)).run P w = .ok () w:=(by unfold eqGuard; simp);have g:IntKind.i64.max=9223372036854775807:=δ;have f:¬((m.size+n.size:Nat):Int)>IntKind.i64.max:=(by rw [g]; omega);simp only [execOp,b,h1,h2,Sem.run_bind,i,Result.andThen_ok,binOp,Op.stringOp,if_neg f,Sem.run_pure]
theorem Arh {t:TypeId} {x:Operand} {b:Bool} (c:o.op = .unOp .not t x) (hx:ρ x = .val (.bool b)):B0 P o ρ ⟨.val (.bool !b),[],[]⟩ := D6 λσ ι H a w h=>⟨.bool !b,by simp [execOp,c,Da hx (h x (by simp [c,Op.operands])),Op.unary],.of_val _⟩
theorem Ari {t:TypeId} {x:Operand} {k:IntKind} {m c:Int} (b:o.op = .unOp .neg t x) (hx:ρ x = .val (.int k m)) (hc:k.wrap (0-m)=c):B0 P o ρ ⟨.val (.int k c),[],[]⟩ := D6 λσ ι H a w h=>⟨.int k c,by simp only [execOp,b,Da hx (h x (by simp [b,Op.operands])),Op.unary,Op.intArith,hc,Sem.run_bind,Sem.run_pure,Result.andThen_ok],.of_val _⟩
theorem Arj {T:Cl} (s:Cm P T) {t d:TypeId} {x:Operand} {i j:TI} {k I:IntKind} {m c:Int} (q:o.op = .convert t d x) (ht:T t=some i) (hd:T d=some j) (hj:j.d = .int k) (hx:ρ x = .val (.int I m)) (hc:k.wrap m=c) : B0 P o ρ ⟨.val (.int k c),[],[]⟩ := D6 λσ ι H a w h=>by refine ⟨.int k c,?_,.of_val _⟩;have h1:=Da hx (h x (by simp [q,Op.operands]));obtain ⟨l,u,z,V,E,U,S,R,N,M⟩:=D0 (s t i ht);obtain ⟨g,L,J,G,f,D,B,A,y,b⟩:=D0 (s d j hd);rw [hj] at b; subst b;simp only [execOp,q,h1,convert,Sem.run_bind,run_underlying E,run_underlying f,Result.andThen_ok,Conv.intToInt,hc,Sem.run_pure]
theorem Ark {op:BinOp} {t f:TypeId} {x y:Operand} {k:FloatKind} {m n c:Nat} (b:o.op = .binOp op t x y f) (hx:ρ x = .val (.float k m)) (hy:ρ y = .val (.float k n)) (hc:floatBits op k m n=some c) : B0 P o ρ ⟨.val (.float k c),[],[]⟩ := D6 λσ ι H a w h=>by refine ⟨.float k c,?_,.of_val _⟩;have h1:=Da hx (h x (by simp [b,Op.operands]));have h2:=Da hy (h y (by simp [b,Op.operands]));have g:(eqGuard op t x y (.float k m) (.float k n)).run P w = .ok () w:=(by cases op <;> first | (unfold eqGuard; simp; done) | (simp [floatBits] at hc));simp only [execOp,b,h1,h2,Sem.run_bind,g,Result.andThen_ok,run_float_arith w op t k m n c hc,Sem.run_pure]
theorem Arl {T:Cl} (s:Cm P T) {t d:TypeId} {x:Operand} {i j:TI} {k:FloatKind} {g:IntKind} {m:Int} (q:o.op = .convert t d x) (ht:T t=some i) (hd:T d=some j) (hj:j.d = .float k) (hx:ρ x = .val (.int g m)) : B0 P o ρ ⟨.val (.float k (floatOfInt k m)),[],[]⟩ := D6 λσ ι H a w h=>by refine ⟨.float k (floatOfInt k m),?_,.of_val _⟩;have h1:=Da hx (h x (by simp [q,Op.operands]));obtain ⟨l,u,z,U,E,S,R,N,M,L⟩:=D0 (s t i ht);obtain ⟨f,J,I,G,c,D,B,A,y,b⟩:=D0 (s d j hd);rw [hj] at b; subst b;have:=run_convert_int_float (P:=P) w t d g k m (by rw [E]; rfl) c;simp only [execOp,q,h1,Sem.run_bind,this,Result.andThen_ok,Sem.run_pure]
theorem Arm {T:Cl} (y:Cm P T) {t d:TypeId} {x:Operand} {i j:TI} {k:FloatKind} {f:IntKind} {m:Nat} {c:Int} (s:o.op = .convert t d x) (ht:T t=some i) (hd:T d=some j) (hj:j.d = .int f) (hx:ρ x = .val (.float k m)) (hc:floatToIntVal k m f=some c) : B0 P o ρ ⟨.val (.int f c),[],[]⟩ := D6 λσ ι H a w h=>by refine ⟨.int f c,?_,.of_val _⟩;have h1:=Da hx (h x (by simp [s,Op.operands]));obtain ⟨q,u,z,V,G,U,S,R,N,M⟩:=D0 (y t i ht);obtain ⟨l,L,J,I,g,E,D,B,A,b⟩:=D0 (y d j hd);rw [hj] at b; subst b;have:=run_convert_float_int (P:=P) w t d k f m c (by rw [G]; rfl) g hc;simp only [execOp,s,h1,Sem.run_bind,this,Result.andThen_ok,Sem.run_pure]
theorem Arn {x:Operand} {n:Nat} {cs:List AV} {c:AV} (f:o.op = .extract x n) (hx:ρ x = .tup cs) (hc:cs[n]? = some c):B0 P o ρ ⟨c,[],[]⟩ := D6 λσ ι H a w h=>by have h1:=h x (by simp [f,Op.operands]);rw [hx] at h1;obtain ⟨vs,e,g,hv⟩:=h1.tup_inv;have b:n<vs.size:=(by rw [g]; exact (List.getElem?_eq_some_iff.1 hc).1);refine ⟨vs[n],?_,hv n c _ hc (by simp [b])⟩;simp [execOp,f,e,Instr.extract,b]
theorem Aco {s:TypeId} {i:TI} {fs:List (Nat×Nat)} {f:Nat} {q:Nat×Nat} (hi:Gy P s=some i) (hd:i.d = .struct fs) (c:fs[f]? = some q) (b off:Nat) (w:World) : (Instr.fieldAt s (.pointer (some ⟨b,off,none⟩)) f).run P w = .ok (.pointer (some ⟨b,off+q.1,none⟩)) w:=by
 obtain ⟨A,u,z,L,B,J,I,G,E,y⟩:=D0 hi;rw [hd] at y;obtain ⟨fields,rfl,rfl,hpos⟩:=y;rw [List.getElem?_map] at c;cases j:fields.toList[f]? with
 | none=>rw [j] at c; simp at c
 | some fd=>rw [j] at c; simp at c; subst c;have x:fields[f]? = some fd:=(by rw [<-Array.getElem?_toList]; exact j);have hp:=hpos fd (List.mem_of_getElem? j);have k:∃inf,P.info? fd.type=some inf/\inf.size≠0:=(by unfold Program.cellsOf at hp;cases h:P.info? fd.type with| none=>rw [h] at hp; simp at hp| some inf=>rw [h] at hp; simp at hp; exact ⟨inf,rfl,ω⟩);obtain ⟨inf,g,l⟩:=k;have D:(sizeOf fd.type).run P w = .ok inf.size w:=(by simp [sizeOf,typeInfo,program,Sem.run,g]);simp [Instr.fieldAt,run_underlying B,x,Instr.sureAddr,fieldPlace,D,l,I2]
theorem Aro {T:Cl} (k:Cm P T) {s:TypeId} {x:Operand} {f:Nat} {i:TI} {fs:List (Nat×Nat)} {q:Nat×Nat} {h off:Nat} (g:o.op = .fieldAddr s x f) (ht:T s=some i) (hd:i.d = .struct fs) (j:fs[f]? = some q) (hx:ρ x = .loc h off):B0 P o ρ ⟨.loc h (off+q.1),[],[]⟩ := D6 λσ ι H a w c=>by have h1:=c x (by simp [g,Op.operands]);rw [hx] at h1;obtain ⟨b,hb,hv⟩:=h1.loc_inv;exact ⟨_,by simp [execOp,g,hv,Aco (k s i ht) hd j],.loc h (off+q.1) b hb⟩
theorem Arp {T:Cl} (y:Cm P T) {s:TypeId} {x:Operand} {f:Nat} {i:TI} {fs:List (Nat×Nat)} {q:Nat×Nat} {cs:List AV} (k:o.op = .fieldAddr s x f) (ht:T s=some i) (hd:i.d = .struct fs) (u:fs[f]? = some q) (hx:ρ x = .ref cs):B0 P o ρ ⟨.ref (cs.drop q.1),[],[]⟩ := D6 λσ ι H a w h=>by
  have h1:=h x (by simp [k,Op.operands]);rw [hx] at h1;obtain ⟨b,off,C,E,fr,g,hv,l,hc,z⟩:=h1.ref_inv;refine ⟨_,by simp [execOp,k,hv,Aco (y s i ht) hd u],.ref _ b (off+q.1) C E fr (λj=>g (q.1+j)) l ?_ ?_ ?_⟩
  .intro j c hj; rw [List.getElem?_drop] at hj; exact (hc _ c hj).1
  .intro j c hj; rw [List.getElem?_drop] at hj; exact (hc _ c hj).2
  .intro j hj; rw [List.length_drop] at hj; rw [Nat.add_assoc]; exact z (q.1+j) ω
theorem Arq {T:Cl} (D:Cm P T) {s:TypeId} {x:Operand} {f:Nat} {i:TI} {fs:List (Nat×Nat)} {q:Nat×Nat} {h k n j:Nat} {E:TypeId} {sz:Nat} {xs:List AV} (z:o.op = .fieldAddr s x f) (ht:T s=some i) (hd:i.d = .struct fs) (B:fs[f]? = some q) (hx:ρ x = .el h k n j) (y:xs.length=k):B0 P o ρ ⟨.el h k n (j+q.1),[(h,.rows E sz xs)],[]⟩:=by
 intro σ ι H F W w a next Q s u l hk
 have hh:H h = .rows E sz xs:=l (h,.rows E sz xs) ψ;have hp:=u x (by simp [z,Op.operands]);rw [hx] at hp;obtain ⟨b,A,hb,hv⟩:=hp.el_inv hh y;refine Et (v:=.pointer (some ⟨b,n*sz+j+q.1,none⟩)) (by simp [execOp,z,hv,Aco (D _ i ht) hd B]) (hk σ ι _ w (Le.refl _ _ _) s ?_);refine .el h k n (j+q.1) _ (by show H h≠_; rw [hh]; intro e; cases e) (λG g c e=>?_) rfl;have e:H h = .rows G g c:=e;rw [hh] at e; cases e;refine ⟨ω,λ_=>?_⟩;rw [hb]; show _=_
 rw [Nat.add_assoc]
theorem CC.sl_inv {σ:A1} {sz:Nat} {xs:List AV} {v:Value} (h:CC σ (.sl sz xs) v) : (xs = []/\∃p f,v = .slice p 0 f)\/∃(b off f:Nat) (C:Array Value) (E:TypeId) (l:Nat×Nat) (g:Nat->Nat->Value),v = .slice (some ⟨b,off,none⟩) xs.length f/\σ b=some (.cells C E l) /\ (∀(i:Nat) (x:AV),xs[i]? = some x->x.cells.length=sz)/\(∀(i:Nat) (x:AV) (j:Nat) (c:AV),xs[i]? = some x->x.cells[j]? = some c->CC σ c (g i j)/\D5 (g i j)=true) /\ (∀(i j:Nat),i<xs.length->j<sz->C[off+i*sz+j]? = some (g i j))/\xs.length<=140737488355328/\xs.length<=f:=by cases h with| nil _ p f=>exact .inl ⟨rfl,p,f,rfl⟩| sl _ b off f _ C E l g q s hc h1 y u k=>exact .inr ⟨b,off,f,C,E,l,g,rfl,q,s,λi x j c hx hj=>⟨hc i x j c hx hj,h1 i x j c hx hj⟩,y,u,k⟩
theorem CC.sl_len {σ:A1} {sz:Nat} {xs:List AV} {v:Value} (h:CC σ (.sl sz xs) v):xs.length<=140737488355328/\∃p cap,v = .slice p xs.length cap:=by
 rcases h.sl_inv with ⟨rfl,p,cap,e⟩ | ⟨b,off,cap,C,E,fr,g,e,_,_,_,_,c,_⟩
 .exact ⟨ψ,p,cap,e⟩
 .exact ⟨c,_,cap,e⟩
theorem Ahp {T:Cl} (j:Cm P T) {t:TypeId} {x:Operand} {i:TI} {e:TypeId} {sz:Nat} {xs:List AV} (g:o.op = .call {callee:=.builtin .len,args:=#[x],argTypes:=#[t]}) (ht:T t=some i) (hd:i.d = .slice e) (hx:ρ x = .sl sz xs) : B0 P o ρ ⟨.val (.int .i64 xs.length),[],[]⟩ := D6 λσ ι H a w b=>by have h1:=b x (by simp [g,Op.operands,Call.operands]);rw [hx] at h1;obtain ⟨_,p,cap,hv⟩:=h1.sl_inv.sl_len;obtain ⟨f,u,z,y,h,s,q,l,k,c⟩:=D0 (j t i ht);rw [hd] at c; subst c;refine ⟨.int .i64 xs.length,?_,.of_val _⟩;simp [execOp,g,resolve,invoke,builtin,Builtin.len_,hv,run_underlying h,goInt]
theorem Arr {T:Cl} (k:Cm P T) {t:TypeId} {x:Operand} {i:TI} {e:TypeId} {p:Option Addr} {n c:Nat} (h:o.op = .call {callee:=.builtin .len,args:=#[x],argTypes:=#[t]}) (ht:T t=some i) (hd:i.d = .slice e) (hx:ρ x = .val (.slice p n c)) : B0 P o ρ ⟨.val (.int .i64 n),[],[]⟩ := D6 λσ ι H a w b=>by have hv:=Da hx (b x (by simp [h,Op.operands,Call.operands]));obtain ⟨g,u,z,A,j,y,s,q,l,f⟩:=D0 (k t i ht);rw [hd] at f; subst f;refine ⟨.int .i64 n,?_,.of_val _⟩;simp [execOp,h,resolve,invoke,builtin,Builtin.len_,hv,run_underlying j,goInt]
theorem Ars {T:Cl} (k:Cm P T) {t:TypeId} {x:Operand} {i:TI} {e:TypeId} {p:Option Addr} {n b:Nat} (h:o.op = .call {callee:=.builtin .cap,args:=#[x],argTypes:=#[t]}) (ht:T t=some i) (hd:i.d = .slice e) (hx:ρ x = .val (.slice p n b)) : B0 P o ρ ⟨.val (.int .i64 b),[],[]⟩ := D6 λσ ι H a w c=>by have hv:=Da hx (c x (by simp [h,Op.operands,Call.operands]));obtain ⟨g,u,z,A,j,y,s,q,l,f⟩:=D0 (k t i ht);rw [hd] at f; subst f;refine ⟨.int .i64 b,?_,.of_val _⟩;simp [execOp,h,resolve,invoke,builtin,Builtin.cap_,hv,run_underlying j,goInt]
theorem Art {T:Cl} (j:Cm P T) {t:TypeId} {x:Operand} {i:TI} {s:ByteArray} (g:o.op = .call {callee:=.builtin .len,args:=#[x],argTypes:=#[t]}) (ht:T t=some i) (hd:i.d = .string) (hx:ρ x = .val (.string s)) : B0 P o ρ ⟨.val (.int .i64 s.size),[],[]⟩ := D6 λσ ι H a w b=>by have hv:=Da hx (b x (by simp [g,Op.operands,Call.operands]));obtain ⟨f,u,z,A,h,y,q,l,k,c⟩:=D0 (j t i ht);rw [hd] at c; subst c;refine ⟨.int .i64 s.size,?_,.of_val _⟩;simp [execOp,g,resolve,invoke,builtin,Builtin.len_,hv,run_underlying h,goInt]
theorem Aru {T:Cl} (y:Cm P T) {t:TypeId} {x:Operand} {i:TI} {e:TypeId} {h k off len:Nat} {E:TypeId} {sz:Nat} {xs:List AV} (l:o.op = .call {callee:=.builtin .len,args:=#[x],argTypes:=#[t]}) (ht:T t=some i) (hd:i.d = .slice e) (hx:ρ x = .arr h k off len) (f:xs.length=k):B0 P o ρ ⟨.val (.int .i64 len),[(h,.rows E sz xs)],[]⟩:=by
 intro σ ι H F W w a next Q s c b hk
 have hh:H h = .rows E sz xs:=b (h,.rows E sz xs) ψ;have hp:=c x (by simp [l,Op.operands,Call.operands]);rw [hx] at hp;have hv:=hp.arr_inv hh f;obtain ⟨j,u,z,L,q,J,I,G,D,g⟩:=D0 (y t i ht);rw [hd] at g; subst g;have:∃p cap,a.eval x = .slice p len cap:=by
  unfold Ft at hv;split at hv
  .obtain ⟨B,_,A⟩:=hv; exact ⟨none,0,by rw [B,A]⟩
  .exact ⟨_,_,hv.2⟩
  .exact hv.elim
 obtain ⟨p,cap,hv⟩:=this;refine Et (v:=.int .i64 len) ?_ (hk σ ι _ w (Le.refl _ _ _) s (.of_val _));simp [execOp,l,resolve,invoke,builtin,Builtin.len_,hv,run_underlying q,goInt]
theorem Ahq {t:TypeId} {i i':TI} {e:TypeId} (hi:Gy P t=some i) (hd:i.d = .slice e) (q:Gy P e=some i') {b off len f n:Nat} (k:IntKind) (D:n<len) (w:World) : (Instr.indexAt t (.slice (some ⟨b,off,none⟩) len f) (.int k (n:Int))).run P w = .ok (.pointer (some ⟨b,off+n*i'.size,none⟩)) w:=by obtain ⟨h,u,z,B,j,A,y,x,s,g⟩:=D0 hi;rw [hd] at g; subst g;have l:=Ks q w;have c:0<=(n:Int)/\(n:Int)<(len:Int):=ω;simp only [Instr.indexAt,asIntOf,Sem.run_bind,Sem.run_pure,Result.andThen_ok,run_underlying j,if_pos c,l,I2,Int.toNat_natCast]
theorem Arv {T:Cl} (u:Cm P T) {t:TypeId} {x y:Operand} {i i':TI} {e:TypeId} {sz:Nat} {xs:List AV} {k:IntKind} {n:Nat} {z:AV} (q:o.op = .indexAddr t x y) (ht:T t=some i) (hd:i.d = .slice e) (G:T e=some i') (l:sz=i'.size) (hx:ρ x = .sl sz xs) (hy:ρ y = .val (.int k (n:Int))) (h:xs[n]? = some z) : B0 P o ρ ⟨.ref z.cells,[],[]⟩ := D6 λσ ι H a w f=>by
  have h1:=f x (by simp [q,Op.operands]);have h2:=Da hy (f y (by simp [q,Op.operands]));rw [hx] at h1;have s:=(List.getElem?_eq_some_iff.1 h).1;rcases h1.sl_inv.sl_inv with ⟨rfl,_⟩ | ⟨b,off,cap,C,E,fr,g,hv,A,D,hc,I,_⟩
  .simp at s
  .have B:=D n z h;refine ⟨.pointer (some ⟨b,off+n*i'.size,none⟩),?_,.ref z.cells b (off+n*i'.size) C E fr (g n) A (λj c hj=>(hc n z j c h hj).1) (λj c hj=>(hc n z j c h hj).2) (λj hj=>?_)⟩
   .simp [execOp,q,hv,h2,Ahq (u t i ht) hd (u e i' G) k s]
   .have:=I n j s ω;rw [<-l]; exact this
theorem Arw {T:Cl} (A:Cm P T) {t:TypeId} {x y:Operand} {i i':TI} {e:TypeId} {h k off len:Nat} {E:TypeId} {sz:Nat} {xs:List AV} {z:IntKind} {n:Nat} (q:o.op = .indexAddr t x y) (ht:T t=some i) (hd:i.d = .slice e) (I:T e=some i') (hx:ρ x = .arr h k off len) (u:xs.length=k) (hy:ρ y = .val (.int z (n:Int))) (D:n<len) (j:sz=i'.size):B0 P o ρ ⟨.el h k (off+n) 0,[(h,.rows E sz xs)],[]⟩:=by
 intro σ ι H F W w a next Q s c l hk
 have hh:H h = .rows E sz xs:=l (h,.rows E sz xs) ψ;have hp:=c x (by simp [q,Op.operands]);have h2:=Da hy (c y (by simp [q,Op.operands]));rw [hx] at hp;have hv:=hp.arr_inv hh u;unfold Ft at hv;split at hv
 .omega
 .rename_i b B hb;obtain ⟨G,hv⟩:=hv;refine Et (v:=.pointer (some ⟨b,(off+n)*sz,none⟩)) ?_ (hk σ ι _ w (Le.refl _ _ _) s ?_)
  .simp [execOp,q,hv,h2,Ahq (A t i ht) hd (A e i' I) z D,j,Nat.add_mul]
  .refine .el h k (off+n) 0 _ (by show H h≠_; rw [hh]; intro e; cases e) (λJ g f e=>?_) rfl;have e:H h = .rows J g f:=e;rw [hh] at e; cases e;refine ⟨ω,λ_=>?_⟩;rw [hb]; rfl
 .exact hv.elim
theorem Arx {T:Cl} (l:Cm P T) {t:TypeId} {x y:Operand} {i:TI} {s:ByteArray} {k:IntKind} {n:Nat} {c:UInt8} (f:o.op = .index t x y) (ht:T t=some i) (hd:i.d = .string) (hx:ρ x = .val (.string s)) (hy:ρ y = .val (.int k (n:Int))) (hc:s[n]? = some c) : B0 P o ρ ⟨.val (.int .u8 c.toNat),[],[]⟩ := D6 λσ ι H a w b=>by have h1:=Da hx (b x (by simp [f,Op.operands]));have h2:=Da hy (b y (by simp [f,Op.operands]));obtain ⟨h,u,z,E,j,D,B,A,q,g⟩:=D0 (l t i ht);rw [hd] at g; subst g;refine ⟨.int .u8 c.toNat,?_,.of_val _⟩;simp [execOp,f,h1,h2,Instr.index,asIntOf,run_underlying j,hc]
theorem Ary {f:FuncId} {b:Array Operand} (h:o.op = .makeFunc (.func f) #[] b):B0 P o ρ ⟨.fn f (b.toList.map ρ),[],[]⟩ := D6 λσ ι H a w g=>by refine ⟨.func (.func f) #[] (b.map a.eval),by simp [execOp,h,Instr.makeFunc],.fn f _ _ ψ (λi c v h1 h2=>?_)⟩;rw [List.getElem?_map] at h1;rw [Array.getElem?_map] at h2;cases hc:b[i]? with| none=>rw [hc] at h2; simp at h2| some x=>rw [hc] at h2; rw [Array.getElem?_toList,hc] at h1;simp at h1 h2; subst h1; subst h2;exact g x (by simp [h,Op.operands]; exact Array.mem_of_getElem? hc)
end
end Go.Ab
namespace Go.Ab
section
variable {P:Program} {o:Oper} {ρ:Operand->AV} {a:Act} {w w':World} {next:Act->World->Prop} {Q:Exit->Act->World->Prop}
def Gz (ρ:Operand->AV) (d:Int):Option Operand->Option Int
 | none=>some d
 | some x=>match ρ x with
  | .val (.int _ n)=>some n
  | _=>none
theorem Acp {k:IntKind} {n y:Nat} (h:n<=y) (c:BoundsCode) (w:World):(Instr.sliceBound (.int k (n:Int)) y c).run P w = .ok n w:=by have:0<=(n:Int)/\(n:Int)<=(y:Int):=ω;simp only [Instr.sliceBound,asIntOf,Sem.run_bind,Sem.run_pure,Result.andThen_ok,if_pos this,Int.toNat_natCast]
theorem Acq {σ:A1} {ι:Br} {H:Hp} {x:Operand} {n:Nat} {d:Int} (hb:Gz ρ d (some x)=some (n:Int)) (hc:Conc σ ι H (ρ x) (a.eval x)):∃k,a.eval x = .int k (n:Int):=by
 unfold Gz at hb;simp only [] at hb;split at hb
 .rename_i k m e;rw [e] at hc;cases hb;exact ⟨k,hc.val_inv⟩
 .cases hb
theorem Ya {σ:A1} {ι:Br} {H:Hp} {j:Bool} {len f l h:Nat} {lo hi:Option Operand} (b:Gz ρ 0 lo=some (l:Int)) (g:Gz ρ (len:Int) hi=some (h:Int)) (hx:∀x,lo=some x\/hi=some x->Conc σ ι H (ρ x) (a.eval x)) (h1:l<=h) (h2:h<=f) (w:World) : (Instr.sliceBounds j len f (lo.map a.eval) (hi.map a.eval) none).run P w = .ok (l,h,f) w:=by
 unfold Instr.sliceBounds;cases hi with
 | none=>simp [Gz] at g;cases lo with| none=>simp [Gz] at b;simp; omega| some x=>obtain ⟨k,e⟩:=Acq b (hx x (.inl rfl));have:=λc=>Acp (P:=P) (k:=k) (n:=l) (y:=len) ω c w;simp [e,this]; omega
 | some y=>obtain ⟨q,e'⟩:=Acq g (hx y (.inr rfl));have i:=λc=>Acp (P:=P) (k:=q) h2 c w;cases lo with| none=>simp [Gz] at b;simp [e',i]; omega| some x=>obtain ⟨k,e⟩:=Acq b (hx x (.inl rfl));have:=λc=>Acp (P:=P) (k:=k) h1 c w;simp [e,e',this,i]
theorem Yb {t:TypeId} {x:Operand} {lo hi:Option Operand} {y:Operand} (h:lo=some y\/hi=some y):y∈(Op.slice t x lo hi none).operands.toList:=by rcases h with rfl | rfl <;> simp [Op.operands]
theorem Arz {T:Cl} (Y:Cm P T) {t:TypeId} {x:Operand} {lo hi:Option Operand} {i i':TI} {e:TypeId} {sz:Nat} {xs:List AV} {l h:Nat} (D:o.op = .slice t x lo hi none) (ht:T t=some i) (hd:i.d = .slice e) (he:T e=some i') (s:sz=i'.size) (hx:ρ x = .sl sz xs) (J:Gz ρ 0 lo=some (l:Int)) (N:Gz ρ (xs.length:Int) hi=some (h:Int)) (h1:l<=h) (h2:h<=xs.length):B0 P o ρ ⟨.sl sz ((xs.take h).drop l),[],[]⟩ := D6 λσ ι H a w A=>by
  have hv:=A x (by simp [D,Op.operands]);rw [hx] at hv;obtain ⟨V,u,z,k1,U,k3,k4,k5,k6,S⟩:=D0 (Y t i ht);rw [hd] at S; subst S;have X:=Ks (Y e i' he);have B:∀(cap:Nat),xs.length<=cap->∀w,(Instr.sliceBounds true xs.length cap (lo.map a.eval) (hi.map a.eval) none).run P w = .ok (l,h,cap) w :=
   λcap q w=>Ya J N (λy hy=>A y (by rw [D]; exact Yb hy)) h1 ω w
  rcases hv.sl_inv.sl_inv with ⟨rfl,p,cap,hv⟩ | ⟨b,off,cap,C,E,fr,g,hv,Z,G,hc,hC,hl,q⟩
  .have M:l=0:=(by simp at h2; omega);have R:h=0:=(by simpa using h2);subst M; subst R;refine ⟨.slice (if cap=0 then p else p.map (·.add (0*i'.size))) (0-0) (cap-0),?_,?_⟩
   .simp only [execOp,D,hv,Instr.sliceAt,Instr.slice,Sem.run_bind,run_underlying U,Result.andThen_ok,Option.map_none];have:=B cap ψ w;simp only [List.length_nil] at this;simp only [this,Result.andThen_ok,X w,Sem.run_pure]
   .exact .cc (.nil sz _ _)
  .refine ⟨.slice (if cap=l then some ⟨b,off,none⟩ else some ⟨b,off+l*i'.size,none⟩) (h-l) (cap-l),?_,?_⟩
   .simp only [execOp,D,hv,Instr.sliceAt,Instr.slice,Sem.run_bind,run_underlying U,Result.andThen_ok,Option.map_none,B cap q w,X w,Sem.run_pure,Option.map_some,I2]
   .by_cases L:l=h
    .subst L;have:(xs.take l).drop l = []:=ψ;rw [this,Nat.sub_self];exact .cc (.nil sz _ _)
    .rw [if_neg ω];have f:((xs.take h).drop l).length=h-l:=(by simp; omega);have k:∀(n:Nat) (y:AV),((xs.take h).drop l)[n]? = some y->xs[l+n]? = some y:=by
      intro n y hy;rw [List.getElem?_drop] at hy;by_cases I:l+n<h
      .rwa [List.getElem?_take_of_lt I] at hy
      .rw [List.getElem?_eq_none (by simp; omega)] at hy; cases hy
     have:=CC.sl (σ:=σ) ((xs.take h).drop l) b (off+l*sz) (cap-l) sz C E fr (λn j=>g (l+n) j) Z (λn y hy=>G _ y (k n y hy))
      (λn y j c hy hj=>(hc _ y j c (k n y hy) hj).1) (λn y j c hy hj=>(hc _ y j c (k n y hy) hj).2) (λn j hn hj=>by rw [f] at hn;have:=hC (l+n) j ω hj;rw [Nat.add_mul] at this;rw [<-this]; congr 1; omega) (by rw [f]; omega) (by rw [f]; omega);rw [f,s] at this;rw [s];exact .cc this
theorem Ar0 {T:Cl} (B:Cm P T) {t:TypeId} {x:Operand} {lo hi:Option Operand} {i:TI} {s:ByteArray} {l h:Nat} (c:o.op = .slice t x lo hi none) (ht:T t=some i) (hd:i.d = .string) (hx:ρ x = .val (.string s)) (f:Gz ρ 0 lo=some (l:Int)) (g:Gz ρ (s.size:Int) hi=some (h:Int)) (h1:l<=h) (h2:h<=s.size):B0 P o ρ ⟨.val (.string (s.extract l h)),[],[]⟩ := D6 λσ ι H a w b=>by
  have hv:=Da hx (b x (by simp [c,Op.operands]));obtain ⟨q,u,z,J,A,I,G,E,D,k⟩:=D0 (B t i ht);rw [hd] at k; subst k;have j:(Instr.sliceBounds false s.size s.size (lo.map a.eval) (hi.map a.eval) none).run P w = .ok (l,h,s.size) w :=
   Ya f g (λy hy=>b y (by rw [c]; exact Yb hy)) h1 ω w
  refine ⟨.string (s.extract l h),?_,.of_val _⟩;simp [execOp,c,hv,Instr.sliceAt,Instr.slice,run_underlying A,j]
theorem Ar1 {T:Cl} (hT:Cm P T) {t:TypeId} {x:Operand} {lo hi:Option Operand} {i i':TI} {e:TypeId} {c k off len:Nat} {E:TypeId} {sz:Nat} {xs:List AV} {l h:Nat} (D:o.op = .slice t x lo hi none) (ht:T t=some i) (hd:i.d = .slice e) (he:T e=some i') (G:sz=i'.size) (hx:ρ x = .arr c k off len) (N:xs.length=k) (L:Gz ρ 0 lo=some (l:Int)) (R:Gz ρ (len:Int) hi=some (h:Int)) (h1:l<=h) (h2:h<=len) (h3:l=0\/l<h) : B0 P o ρ ⟨.arr c k (off+l) (h-l),[(c,.rows E sz xs)],[]⟩:=by
 intro σ ι H F W w a next Q s q I hk
 have hh:H c = .rows E sz xs:=I (c,.rows E sz xs) ψ;have hp:=q x (by simp [D,Op.operands]);rw [hx] at hp;have hv:=hp.arr_inv hh N;obtain ⟨X,u,z,k1,V,k3,k4,k5,k6,U⟩:=D0 (hT t i ht);rw [hd] at U; subst U;have Y:=Ks (hT e i' he);have B:∀(cap:Nat),len<=cap->∀w,(Instr.sliceBounds true len cap (lo.map a.eval) (hi.map a.eval) none).run P w = .ok (l,h,cap) w :=
  λcap Z w=>Ya L R (λy hy=>q y (by rw [D]; exact Yb hy)) h1 ω w
 unfold Ft at hv;split at hv
 .rename_i A;obtain ⟨hv,J,M⟩:=hv;subst M; subst J;have e1:l=0:=ω;have e2:h=0:=ω;subst e1; subst e2;refine Et (v:=.slice none 0 0) ?_ (hk σ ι _ w (Le.refl _ _ _) s ?_)
  .simp only [execOp,D,hv,Instr.sliceAt,Instr.slice,Sem.run_bind,run_underlying V,Result.andThen_ok,Option.map_none];have:=B 0 ω w;simp only [this,Result.andThen_ok,Y w,Sem.run_pure];rfl
  .refine .arr _ _ _ _ _ (by show H c≠_; rw [hh]; intro e; cases e) (λS g f e=>?_) rfl;have e:H c = .rows S g f:=e;rw [hh] at e; cases e;exact ⟨ω,λ_=>by rw [A]; exact ⟨rfl,rfl,rfl⟩⟩
 .rename_i b j hb;obtain ⟨a1,hv⟩:=hv;refine Et (v:=.slice (some ⟨b,(off+l)*sz,none⟩) (h-l) (j-(off+l))) ?_ (hk σ ι _ w (Le.refl _ _ _) s ?_)
  .simp only [execOp,D,hv,Instr.sliceAt,Instr.slice,Sem.run_bind,run_underlying V,Result.andThen_ok,Option.map_none];have:=B (j-off) ω w;simp only [this,Result.andThen_ok,Y w,Sem.run_pure,Option.map_some,I2];rcases h3 with rfl | h3
   .simp
   .rw [if_neg ω,Nat.add_mul,G,Nat.sub_sub]
  .refine .arr _ _ _ _ _ (by show H c≠_; rw [hh]; intro e; cases e) (λS g f e=>?_) rfl;have e:H c = .rows S g f:=e;rw [hh] at e; cases e;refine ⟨ω,λ_=>?_⟩;rw [hb]; exact ⟨ω,rfl⟩
 .exact hv.elim
def Yc (σ:A1) (ι:Br) (H:Hp) (cs:List AV) (C:Array Value):Prop := C.size=cs.length/\∀(i:Nat) (c:AV) (v:Value),cs[i]? = some c->C[i]? = some v->Conc σ ι H c v
theorem Acr (off:Nat):∀(l:List Value) (m:Nat) (cells:Array Value),off+m+l.length<=cells.size -> ((l.zipIdx m).foldl (λcs p=>cs.setIfInBounds (off+p.2) p.1) cells).size=cells.size /\ ∀k:Nat,((l.zipIdx m).foldl (λcs p=>cs.setIfInBounds (off+p.2) p.1) cells)[k]? = if off+m<=k/\k<off+m+l.length then l[k-(off+m)]? else cells[k]?
 | [],m,cells,_=>by refine ⟨rfl,λk=>?_⟩;rw [if_neg (by simp only [List.length_nil]; omega)]; rfl
 | v::rest,m,cells,h=>by
  simp only [List.length_cons] at h;obtain ⟨c,b⟩:=Acr off rest (m+1) (cells.setIfInBounds (off+m) v) (by simp; omega);simp only [List.zipIdx_cons,List.foldl_cons];refine ⟨by rw [c]; simp,λk=>?_⟩;rw [b k];by_cases h1:k=off+m
  .subst h1;rw [if_neg ω,if_pos ψ];rw [Array.getElem?_setIfInBounds_self_of_lt ω];simp
  .by_cases h2:off+m<=k/\k<off+m+(rest.length+1)
   .rw [if_pos ω,List.length_cons,if_pos h2];rw [show k-(off+m)=(k-(off+(m+1)))+1 by omega];simp
   .rw [if_neg ω,List.length_cons,if_neg h2,Array.getElem?_setIfInBounds_ne ω]
theorem Ahr {σ:A1} {ι:Br} {H:Hp} {fs:List (Nat×Nat)} {place:Nat->Option (Nat×Nat)} (hp:∀n,place n=fs[n]?):∀(ps:List (Nat×Operand)) (cs:List AV) (C:Array Value) (b:List AV),Yc σ ι H cs C -> (∀p∈ps,Conc σ ι H (ρ p.2) (a.eval p.2))->Ry fs cs (ps.map λp=>(p.1,ρ p.2))=some b -> ∃k,Instr.fill place C (ps.map λp=>(p.1,a.eval p.2))=some k/\Yc σ ι H b k
 | [],cs,C,b,g,_,h=>by simp only [List.map_nil,Ry] at h; cases h;exact ⟨C,rfl,g⟩
 | p::ps,cs,C,b,g,hx,h=>by
  simp only [List.map_cons,Ry] at h;cases hq:fs[p.1]? with
  | none=>rw [hq] at h; cases h
  | some q=>
   rw [hq] at h;simp only [] at h;cases hb:(Nat.beq (ρ p.2).cells.length q.2&&Nat.ble (q.1+q.2) cs.length) with
   | false=>rw [hb] at h; cases h
   | true=>
    rw [hb] at h;simp only [cond_true] at h;simp only [Bool.and_eq_true] at hb;have A:(ρ p.2).cells.length=q.2:=Nat.eq_of_beq_eq_true hb.1;have e2:q.1+q.2<=cs.length:=Nat.le_of_ble_eq_true hb.2;have hc:=(hx p ψ).cells;have z:=g.1;have j:=Acr q.1 (a.eval p.2).cells.toList 0 C (by simp; omega);have s:Yc σ ι H (Kr cs q.1 (ρ p.2).cells) (((a.eval p.2).cells.toList.zipIdx 0).foldl (λcs p=>cs.setIfInBounds (q.1+p.2) p.1) C):=by
     refine ⟨by rw [j.1,Ack _ _ _ ω]; exact g.1,λi c v h1 h2=>?_⟩;rw [Acj _ _ _ ω] at h1;rw [j.2 i] at h2;simp only [Array.length_toList,hc.1,Nat.add_zero] at h2;by_cases g1:i<q.1
     .rw [if_pos g1] at h1; rw [if_neg ω] at h2; exact g.2 i c v h1 h2
     .rw [if_neg g1] at h1;by_cases g2:i<q.1+(ρ p.2).cells.length
      .rw [if_pos g2] at h1; rw [if_pos ω,Array.getElem?_toList] at h2; exact hc.2 _ c v h1 h2
      .rw [if_neg g2] at h1; rw [if_neg ω] at h2; exact g.2 i c v h1 h2
    obtain ⟨k,x,u⟩:=Ahr hp ps _ _ b s (λy l=>hx y (by simp [l])) h;refine ⟨k,?_,u⟩;simp only [List.map_cons,Instr.fill,hp,hq];have f:((a.eval p.2).cells.size≠q.2||decide (q.1+(a.eval p.2).cells.size>C.size))=false:=by have:=g.1;simp;omega
    rw [f];simp only [Bool.false_eq_true,if_false];rw [<-Array.foldl_toList,Array.toList_zipIdx];exact x
theorem Ar2 {T:Cl} (R:Cm P T) {t:TypeId} {b:Array (Nat×Operand)} {i:TI} {fs:List (Nat×Nat)} {cs:List AV} (G:o.op = .build t b) (ht:T t=some i) (hd:i.d = .struct fs) (hc:Ry fs (i.zero.map .val) (b.toList.map λp=>(p.1,ρ p.2))=some cs):B0 P o ρ ⟨.agg cs,[],[]⟩ := D6 λσ ι H a w q=>by
  obtain ⟨E,u,z,M,L,J,V,U,D,B⟩:=D0 (R t i ht);rw [hd] at B;obtain ⟨fields,rfl,s,hpos⟩:=B;have l:∀(fl:List Field),(∀f∈fl,0<P.cellsOf f.type)->fl.mapM (λf=>(P.info? f.type).map λi=>(f.offset,i.size))=some (fl.map λf=>(f.offset,P.cellsOf f.type)):=by
   intro fl;induction fl with
   | nil=>intro _; rfl
   | cons f fl ih=>intro hp;have h0:=hp f ψ;have h:=ih (λS y=>hp S (by simp [y]));unfold Program.cellsOf at h0 ⊢;cases g:P.info? f.type with| none=>rw [g] at h0; simp at h0| some inf=>unfold Program.cellsOf at h;rw [List.mapM_cons,h,g];simp [g]
  have N:Yc σ ι H (i.zero.map .val) z.cells:=(by refine ⟨by simp [D],λj c v h1 h2=>?_⟩;rw [D,List.getElem?_map,Array.getElem?_toList,h2] at h1;simp at h1; subst h1; exact .of_val v);obtain ⟨k,I,A⟩:=Ahr (a:=a) (place:=λn=>((fields.toList.map λf=>(f.offset,P.cellsOf f.type)).toArray)[n]?) (fs:=fs) (λn=>by rw [s]; simp) b.toList _ _ cs N (λp hp=>q p.2 (by simp only [G,Op.operands]; simpa using ⟨p.1,by simpa using hp⟩)) hc;refine ⟨.agg k,?_,.agg cs k A.1 A.2⟩;have hb:P.built t ((b.map λ(i,x)=>(i,a.eval x)).toList)=some k:=(by unfold Program.built;rw [M,L];simp only [J,l fields.toList hpos];rw [<-I];simp);simp only [execOp,G,Sem.run_bind,run_build w t _ k hb,Result.andThen_ok,Sem.run_pure]
end
end Go.Ab
namespace Go.Ab
section
variable {P:Program} {o:Oper} {ρ:Operand->AV} {a:Act} {w w':World} {next:Act->World->Prop} {Q:Exit->Act->World->Prop}
theorem Ls {sz:Nat} {x:AV} (h:Jk sz x=true):x.cells.length=sz/\∀c∈x.cells,c.cl1=true:=by unfold Jk at h;simp only [Bool.and_eq_true] at h;exact ⟨Nat.eq_of_beq_eq_true h.1,List.all_eq_true.1 h.2⟩
def Iq (vs:List Value):List Value:=vs.flatMap λv=>v.cells.toList
theorem Acs {σ:A1} {ι:Br} {H:Hp} {sz:Nat}:∀(xs:List AV) (vs:List Value),xs.length=vs.length->(∀x∈xs,Jk sz x=true) -> (∀(i:Nat) (x:AV) (v:Value),xs[i]? = some x->vs[i]? = some v->Conc σ ι H x v) -> (Iq vs).length=xs.length*sz/\∃g:Nat->Nat->Value,(∀(i:Nat) (x:AV) (j:Nat) (c:AV),xs[i]? = some x->x.cells[j]? = some c->CC σ c (g i j)/\D5 (g i j)=true) /\ (∀(i j:Nat),i<xs.length->j<sz->(Iq vs)[i*sz+j]? = some (g i j))
 | [],[],_,_,_=>⟨by simp [Iq],λ_ _=>undef,ψ,ψ⟩
 | x::xs,v::vs,B,k,hc=>by
  obtain ⟨z,g,s,q⟩:=Acs xs vs (by simpa using B) (λy hy=>k y (by simp [hy])) (λi y u h1 h2=>hc (i+1) y u (by simpa using h1) (by simpa using h2));have h0:=hc 0 x v ψ ψ;have hx:=Ls (k x ψ);have f:=h0.cells;have h:v.cells.toList.length=sz:=(by simp [f.1,hx.1]);have l:Iq (v::vs)=v.cells.toList++Iq vs:=(by simp [Iq]);refine ⟨by rw [l,List.length_append,z,h,List.length_cons,Nat.add_mul]; omega,λi j=>if i=0 then (v.cells[j]?).getD undef else g (i-1) j,?_,?_⟩
  .intro i y j c hy hj;cases i with
   | zero=>simp at hy; subst hy;have b:j<v.cells.size:=(by rw [f.1]; exact (List.getElem?_eq_some_iff.1 hj).1);have:(v.cells[j]?).getD undef=v.cells[j]:=(by simp [b]);simp only [if_pos];rw [this];exact (f.2 j c _ hj (by simp [b])).cc_of (hx.2 c (List.mem_of_getElem? hj))
   | succ i=>have A:xs[i]? = some y:=(by simpa using hy);simpa using s i y j c A hj
  .intro i j hi hj;rw [l];cases i with
   | zero=>rw [List.getElem?_append_left ω,Nat.zero_mul,Nat.zero_add,Array.getElem?_toList];have b:j<v.cells.size:=(by rw [f.1,hx.1]; exact hj);simp [b]
   | succ i=>rw [List.getElem?_append_right (by rw [h,Nat.add_mul]; omega),h,show (i+1)*sz+j-sz=i*sz+j by rw [Nat.add_mul]; omega];rw [q i j (by simpa using hi) hj];simp
theorem Ahs {sz:Nat}:∀(vs:List Value) (m:Nat) (C:Array Value),(∀v∈vs,v.cells.size=sz)->C.size=(m+vs.length)*sz -> ∃f,Instr.fill (λi=>some (i*sz,sz)) C ((vs.zipIdx m).map λp=>(p.2,p.1))=some f/\f.size=C.size/\(∀k:Nat,k<m*sz->f[k]? = C[k]?) /\ ∀k:Nat,m*sz<=k->f[k]? = (Iq vs)[k-m*sz]?
 | [],m,C,_,g=>by refine ⟨C,rfl,rfl,λ_ _=>rfl,λk hk=>?_⟩;simp only [List.length_nil,Nat.add_zero] at g;simp [Iq];omega
 | v::vs,m,C,hv,g=>by
  simp only [List.length_cons] at g;have h0:=hv v ψ;have l:(m+(vs.length+1))*sz=m*sz+sz+vs.length*sz:=(by rw [Nat.add_mul,Nat.add_mul]; omega);have b:=Acr (m*sz) v.cells.toList 0 C (by simp; omega);simp only [Nat.add_zero,Array.length_toList,h0] at b;obtain ⟨f,x,s,j,q⟩:=Ahs vs (m+1) (((v.cells.toList.zipIdx 0).foldl (λcs p=>cs.setIfInBounds (m*sz+p.2) p.1) C)) (λu hu=>hv u (by simp [hu])) (by rw [b.1,g,show m+1+vs.length=m+(vs.length+1) by omega]);refine ⟨f,?_,by rw [s,b.1],?_,?_⟩
  .simp only [List.zipIdx_cons,List.map_cons,Instr.fill];have c:(v.cells.size≠sz||decide (m*sz+v.cells.size>C.size))=false:=by simp; omega
   rw [c];simp only [Bool.false_eq_true,if_false];rw [<-Array.foldl_toList,Array.toList_zipIdx];exact x
  .intro k hk;rw [j k (by rw [Nat.add_mul]; omega),b.2 k,if_neg ω]
  .intro k hk;have h:Iq (v::vs)=v.cells.toList++Iq vs:=(by simp [Iq]);rw [h];by_cases h1:k<m*sz+sz
   .rw [j k (by rw [Nat.add_mul]; omega),b.2 k,if_pos ω,List.getElem?_append_left (by simp; omega)]
   .rw [q k (by rw [Nat.add_mul]; omega),List.getElem?_append_right (by simp; omega)];congr 1;simp only [Array.length_toList,h0];rw [Nat.add_mul]; omega
theorem Ar3 (ps:List (Nat×Operand)) (f:Operand->Value) (m:Nat) (h:ps.map (·.1)=List.range' m ps.length):ps.map (λp=>(p.1,f p.2))=((ps.map λp=>f p.2).zipIdx m).map λp=>(p.2,p.1):=by induction ps generalizing m with| nil=>rfl| cons p ps ih=>simp only [List.map_cons,List.length_cons,List.range'_succ,List.cons.injEq] at h;simp only [List.map_cons,List.zipIdx_cons,List.cons.injEq];exact ⟨by rw [h.1],ih (m+1) h.2⟩
theorem Aht {t:TypeId} {len:Nat} {b:Array (Nat×Operand)} {i i':TI} {e:TypeId} (R:o.op = .buildSlice t len b) (hi:Gy P t=some i) (hd:i.d = .slice e) (S:Gy P e=some i') (Z:0<i'.size) (hp:b.toList.map (·.1)=List.range' 0 len) (a1:len*i'.size<=16777216) (hv:∀p∈b.toList,(a.eval p.2).cells.size=i'.size) : ∃C:Array Value,C.toList=Iq (b.toList.map λp=>a.eval p.2)/\(execOp a.eval o).run P w = .ok (.value (.slice (some ⟨w.heap.size,0,none⟩) len len)) (w.alloc (.cells C e)):=by
 obtain ⟨M,u,z,k1,L,k3,k4,k5,k6,J⟩:=D0 hi;rw [hd] at J; subst J;obtain ⟨j,Y,y⟩:=Ahn S w;have N:=Ks S w;have c:b.toList.length=len:=by have:=congrArg List.length hp; simpa using this
 have A:∀v∈(b.toList.map λp=>a.eval p.2),v.cells.size=i'.size:=by intro v l;simp only [List.mem_map] at l;obtain ⟨p,D,rfl⟩:=l;exact hv p D
 have G:∀(vs:List Value),(∀v∈vs,v.cells.size=i'.size)->(Iq vs).length=vs.length*i'.size:=by intro vs;induction vs with| nil=>intro _; simp [Iq]| cons v vs ih=>intro h;have:=ih (λu hu=>h u (by simp [hu]));have h0:=h v ψ;simp only [Iq,List.flatMap_cons,List.length_append,Array.length_toList,h0,List.length_cons] at this ⊢;rw [this,Nat.add_mul]; omega
 obtain ⟨s,X,V,r3,U⟩:=Ahs (sz:=i'.size) (b.toList.map λp=>a.eval p.2) 0 ((Array.range (len*i'.size)).map (j.cells[· % j.cells.size]!)) A (by simp [c]);refine ⟨s,?_,?_⟩
 .apply List.ext_getElem?;intro k;rw [Array.getElem?_toList,U k ω];simp
 .have hpos:0<len\/len=0:=ω;have g:Instr.fill (λi=>some (i*i'.size,i'.size)) ((Array.range (len*i'.size)).map (j.cells[· % j.cells.size]!)) ((b.map λ(i,x)=>(i,a.eval x)).toList)=some s:=(by rw [<-X,<-Ar3 b.toList a.eval 0 (by rw [hp,c])];simp);rcases hpos with hpos | hpos
  .have E:¬len*i'.size=0:=(by have:=Nat.mul_pos hpos Z; omega);have q:¬len*i'.size>2 ^ 24:=ω;have f:Instr.fill (λi=>some (i*i'.size,i'.size)) ((Array.range (len*i'.size)).map (j.cells[· % j.cells.size]!)) (b.toList.map λx=>(x.1,a.eval x.2))=some s:=(by rw [<-g]; simp);simp [execOp,R,Instr.buildSlice,run_underlying L,N,q,E,y,f,newRow,newObj,Sem.run]
  .subst hpos;have I:s = #[]:=(by apply Array.eq_empty_of_size_eq_zero;rw [V]; simp);subst I;have B:b = #[]:=(by apply Array.eq_empty_of_size_eq_zero;simpa using c);subst B;have:(Array.map (λ_:Nat=>(default:Value)) (Array.range 0)) = #[]:=ψ;simp [execOp,R,Instr.buildSlice,run_underlying L,N,newRow,newObj,Sem.run,Instr.fill,this]
theorem Yd {t:TypeId} {len:Nat} {b:Array (Nat×Operand)} {p:Nat×Operand} (h:p∈b.toList):p.2∈(Op.buildSlice t len b).operands.toList:=by simp only [Op.operands];simpa using ⟨p.1,by simpa using h⟩
theorem Ahu {T:Cl} (B:Cm P T) {t:TypeId} {len:Nat} {b:Array (Nat×Operand)} {i i':TI} {e:TypeId} (z:o.op = .buildSlice t len b) (ht:T t=some i) (hd:i.d = .slice e) (I:T e=some i') (A:0<i'.size) (hp:b.toList.map (·.1)=List.range' 0 len) (y:len*i'.size<=16777216) (h:∀p∈b.toList,Jk i'.size (ρ p.2)=true) : B0 P o ρ ⟨.sl i'.size (b.toList.map λp=>ρ p.2),[],[]⟩:=by
  intro σ ι H F W w a next Q s k _ hk
  have l:b.toList.length=len:=(by have:=congrArg List.length hp; simpa using this);have u:∀p∈b.toList,(a.eval p.2).cells.size=i'.size:=(by intro p f;rw [((k p.2 (by rw [z]; exact Yd f)).cells).1];exact (Ls (h p f)).1);obtain ⟨C,J,D⟩:=Aht (P:=P) (a:=a) (w:=w) z (B t i ht) hd (B e i' I) A hp y u;obtain ⟨G,g,g1,g2⟩:=Acs (σ:=σ) (ι:=ι) (H:=H) (sz:=i'.size) (b.toList.map λp=>ρ p.2) (b.toList.map λp=>a.eval p.2) ψ (by intro x hx; simp only [List.mem_map] at hx; obtain ⟨p,f,rfl⟩:=hx; exact h p f) (by intro j x v h1 h2;rw [List.getElem?_map] at h1 h2;cases hj:b.toList[j]? with| none=>rw [hj] at h1; simp at h1| some p=>rw [hj] at h1 h2; simp at h1 h2; subst h1; subst h2;exact k p.2 (by rw [z]; exact Yd (List.mem_of_getElem? hj)))
  obtain ⟨s',le⟩:=s.newFrozen (.cells C e);refine Et D (hk _ ι _ _ le s' (.cc ?_));have E:len<=140737488355328:=(by have:len*1<=len*i'.size:=Nat.mul_le_mul_left len A;omega);have:=CC.sl (σ:=A4 σ w.heap.size (some (.cells C e))) (b.toList.map λp=>ρ p.2) w.heap.size 0 len i'.size C e (0,0) g (Ce _ _ _)
    (by intro j x hj
        rw [List.getElem?_map] at hj
        cases hj':b.toList[j]? with
        | none=>rw [hj'] at hj; simp at hj
        | some p=>rw [hj'] at hj; simp at hj; subst hj; exact (Ls (h p (List.mem_of_getElem? hj'))).1) (λj x q c h1 h2=>((g1 j x q c h1 h2).1).mono le.sto) (λj x q c h1 h2=>(g1 j x q c h1 h2).2) (by intro j q hj hq; rw [Nat.zero_add,<-Array.getElem?_toList,J]; exact g2 j q hj hq) (by rw [List.length_map]; omega) (by rw [List.length_map]; omega)
  rw [List.length_map,l] at this;exact this
theorem Ar4 {T:Cl} (I:Cm P T) {t:TypeId} {len:Nat} {b:Array (Nat×Operand)} {i i':TI} {e:TypeId} (h:Nat) (E:o.op = .buildSlice t len b) (ht:T t=some i) (hd:i.d = .slice e) (R:T e=some i') (z:0<i'.size)
  (hp:b.toList.map (·.1)=List.range' 0 len) (B:len*i'.size<=16777216) (f:∀p∈b.toList,Jk i'.size (ρ p.2)=true) :
  B0 P o ρ ⟨.arr h len 0 len,[(h,.none)],[(h,.rows e i'.size (b.toList.map λp=>ρ p.2))]⟩:=by
 intro σ ι H F W w a next Q s k D hk
 have M:H h = .none:=D (h,.none) ψ
 have l:b.toList.length=len:=by have:=congrArg List.length hp; simpa using this
 have A:∀p∈b.toList,(a.eval p.2).cells.size=i'.size:=by
  intro p c
  rw [((k p.2 (by rw [E]; exact Yd c)).cells).1]
  exact (Ls (f p c)).1
 obtain ⟨C,J,L⟩:=Aht (P:=P) (a:=a) (w:=w) E (I t i ht) hd (I e i' R) z hp B A
 obtain ⟨G,g,g1,g2⟩:=Acs (σ:=σ) (ι:=ι) (H:=H) (sz:=i'.size) (b.toList.map λp=>ρ p.2) (b.toList.map λp=>a.eval p.2) ψ
  (by intro x hx; simp only [List.mem_map] at hx; obtain ⟨p,c,rfl⟩:=hx; exact f p c)
  (by
   intro j x v h1 h2
   rw [List.getElem?_map] at h1 h2
   cases hj:b.toList[j]? with
   | none=>rw [hj] at h1; simp at h1
   | some p=>
    rw [hj] at h1 h2; simp at h1 h2; subst h1; subst h2
    exact k p.2 (by rw [E]; exact Yd (List.mem_of_getElem? hj)))
 have N:len<=140737488355328:=by
  have:len*1<=len*i'.size:=Nat.mul_le_mul_left len z
  omega
 obtain ⟨s',le⟩:=s.newRows h e i'.size (b.toList.map λp=>ρ p.2) len C (.inl M) z (by rw [List.length_map]; omega) (by rw [List.length_map]; omega)
  (by rw [<-Array.length_toList,J,G,List.length_map,l]) ⟨g,(by
    intro j x hj
    rw [List.getElem?_map] at hj
    cases hj':b.toList[j]? with
    | none=>rw [hj'] at hj; simp at hj
    | some p=>rw [hj'] at hj; simp at hj; subst hj; exact (Ls (f p (List.mem_of_getElem? hj'))).1),g1,(by
    intro j q hj hq; rw [<-Array.getElem?_toList,J]; exact g2 j q hj hq)⟩
 refine Et L (hk _ _ _ _ le s' ?_)
 refine .arr h len 0 len _ (by show A4 H h _ h≠_; rw [Ce]; intro e; cases e) (λS y u e'=>?_) rfl
 have e':A4 H h _ h = .rows S y u:=e'
 rw [Ce] at e'; cases e'
 refine ⟨by rw [List.length_map]; omega,λ_=>?_⟩
 rw [Ce]
 exact ⟨ω,by rw [Nat.zero_mul]; rfl⟩
def Eo (i:TI):AV := match i.d,i.zero with
 | .struct _,z=>.agg (z.map .val)
 | _,[v]=>.val v
 | _,z=>.agg (z.map .val)
theorem Ahv {T:Cl} (hT:Cm P T) {t:TypeId} {x y:Operand} {i i':TI} {e:TypeId} {k k':IntKind} {l c:Nat} (I:AV) (h:Nat) (Y:o.op = .makeSlice t x y) (ht:T t=some i) (hd:i.d = .slice e) (he:T e=some i') (hz:0<i'.size)
  (hx:ρ x = .val (.int k (l:Int))) (hy:ρ y = .val (.int k' (c:Int))) (a6:l<=c) (hb:i'.bytes*c<=281474976710656) (hc:c<=140737488355328) (a8:I.cells.length=i'.size) (a7:i'.zero.length=i'.size) (U:∀(q:Nat) (c:AV) (v:Value),I.cells[q]? = some c->i'.zero[q]? = some v->(∀σ,CC σ c v)/\D5 v=true) :
  B0 P o ρ ⟨.arr h l 0 l,[(h,.none)],[(h,.rows e i'.size (List.replicate l I))]⟩:=by
 intro σ ι H F W w a next Q s E V hk
 have hn:H h = .none:=V (h,.none) ψ
 have h1:=Da hx (E x (by simp [Y,Op.operands]))
 have h2:=Da hy (E y (by simp [Y,Op.operands]))
 obtain ⟨aa,u,z,k1,k2,k3,k4,k5,k6,k7⟩:=D0 (hT t i ht)
 rw [hd] at k7; subst k7
 obtain ⟨A,u',b,S,ac,R,N,M,D,ab⟩:=D0 (hT e i' he)
 have g:=run_make (P:=P) w t e A b k2 S R k k' (l:Int) (c:Int) ω ω (by
   have h':((i'.bytes*c:Nat):Int)<=281474976710656:=ω
   rw [Int.natCast_mul] at h'; rw [M]; exact h') ω
 rw [Int.toNat_natCast,Int.toNat_natCast,N] at g
 have f:b.cells.size=i'.size:=by
  rw [<-a7,D,Array.length_toList]
 have B:∀q,q<c*i'.size->(madeCells b.cells (c*i'.size))[q]? = b.cells[q % i'.size]?:=by
  intro q hq
  unfold madeCells
  have hm:q % i'.size<b.cells.size:=by rw [f]; exact Nat.mod_lt _ hz
  have Z:b.cells[q % i'.size]! = b.cells[q % i'.size]:=by simp [hm]
  simp [hq,f,Z]
 obtain ⟨s',le⟩:=s.newRows h e i'.size (List.replicate l I) c (madeCells b.cells (c*i'.size)) (.inl hn) hz (by simp; omega) (by simpa using a6) (by simp [madeCells])
  ⟨λ_ j=>(b.cells[j]?).getD undef,(by
   intro j x' hj
   have:=List.mem_of_getElem? hj
   simp at this
   rw [this.2]; exact a8),(by
   intro j x' q c' hj hq
   have:=List.mem_of_getElem? hj
   simp at this
   rw [this.2] at hq
   have X:q<b.cells.size:=by
    have:=(List.getElem?_eq_some_iff.1 hq).1
    omega
   have hv:b.cells[q]? = some b.cells[q]:=Array.getElem?_eq_getElem X
   have:=U q c' b.cells[q] hq (by rw [D,Array.getElem?_toList,hv])
   show CC σ c' ((b.cells[q]?).getD undef)/\D5 ((b.cells[q]?).getD undef)=true
   rw [hv]
   exact ⟨this.1 σ,this.2⟩),(by
   intro j q hj hq
   have hj':j<l:=by simpa using hj
   have a1:j*i'.size+q<c*i'.size:=by
    have:(j+1)*i'.size<=c*i'.size:=Nat.mul_le_mul_right _ ω
    rw [Nat.add_mul] at this; omega
   rw [B _ a1]
   have:(j*i'.size+q) % i'.size=q:=by rw [Nat.mul_comm,Nat.mul_add_mod,Nat.mod_eq_of_lt hq]
   rw [this]
   have G:q<b.cells.size:=ω
   simp [G])⟩
 refine Et (v:=.slice (some ⟨w.heap.size,0,none⟩) l c) ?_ (hk _ _ _ _ le s' ?_)
 .simp [execOp,Y,h1,h2,g]
 .refine .arr h l 0 l _ (by show A4 H h _ h≠_; rw [Ce]; intro e; cases e) (λE' L J e'=>?_) rfl
  have e':A4 H h _ h = .rows E' L J:=e'
  rw [Ce] at e'; cases e'
  refine ⟨ψ,λ_=>?_⟩
  rw [Ce]
  exact ⟨ω,by rw [Nat.zero_mul]; rfl⟩
theorem Ar5 {T:Cl} (D:Cm P T) {t:TypeId} {x y:Operand} {i i':TI} {e:TypeId} {k u:IntKind} {l c:Nat} (h:Nat) (A:o.op = .makeSlice t x y) (ht:T t=some i) (hd:i.d = .slice e) (B:T e=some i') (z:0<i'.size) (hx:ρ x = .val (.int k (l:Int))) (hy:ρ y = .val (.int u (c:Int))) (f:l<=c) (hb:i'.bytes*c<=281474976710656) (hc:c<=140737488355328) (g:Jk i'.size (Eo i')=true) (b:(Eo i').cells=i'.zero.map .val) : B0 P o ρ ⟨.arr h l 0 l,[(h,.none)],[(h,.rows e i'.size (List.replicate l (Eo i')))]⟩:=by obtain ⟨s,e2⟩:=Ls g;refine Ahv D (Eo i') h A ht hd B z hx hy f hb hc s (by rw [<-s,b,List.length_map]) ?_;intro q E v hq hv;have j:=e2 E (List.mem_of_getElem? hq);rw [b,List.getElem?_map,hv] at hq;simp at hq; subst hq;exact ⟨λσ=>.val v,j⟩
inductive E2:List AV->List AV->Prop
 | nil:E2 [] []
 | same (c:AV) {l l':List AV} (h:E2 l l'):E2 (c::l) (c::l')
 | sl (s:Nat) {l l':List AV} (h:E2 l l'):E2 (.val (.slice none 0 0)::l) (.sl s []::l')
theorem E2.spec {l g:List AV} (h:E2 l g):g.length=l.length/\∀(q:Nat) (c f:AV),l[q]? = some c->g[q]? = some f->f=c\/∃s,c = .val (.slice none 0 0)/\f = .sl s []:=by
 induction h with
 | nil=>exact ⟨rfl,λq c f h=>by simp at h⟩
 | same c h ih=>refine ⟨by simp [ih.1],λq a b h1 h2=>?_⟩;cases q with| zero=>cases h1; cases h2; exact .inl rfl| succ q=>exact ih.2 q a b h1 h2
 | sl s h ih=>refine ⟨by simp [ih.1],λq a b h1 h2=>?_⟩;cases q with| zero=>cases h1; cases h2; exact .inr ⟨s,rfl,rfl⟩| succ q=>exact ih.2 q a b h1 h2
theorem Ar6 {T:Cl} (J:Cm P T) {t:TypeId} {x y:Operand} {i i':TI} {e:TypeId} {k B:IntKind} {l c:Nat} (g:AV) (h:Nat) (E:o.op = .makeSlice t x y) (ht:T t=some i) (hd:i.d = .slice e) (I:T e=some i') (D:0<i'.size) (hx:ρ x = .val (.int k (l:Int))) (hy:ρ y = .val (.int B (c:Int))) (j:l<=c) (hb:i'.bytes*c<=281474976710656) (hc:c<=140737488355328) (u:Jk i'.size (Eo i')=true) (b:(Eo i').cells=i'.zero.map .val) (G:E2 (Eo i').cells g.cells) : B0 P o ρ ⟨.arr h l 0 l,[(h,.none)],[(h,.rows e i'.size (List.replicate l g))]⟩:=by
 obtain ⟨L,e2⟩:=Ls u;obtain ⟨N,A⟩:=G.spec;refine Ahv J g h E ht hd I D hx hy j hb hc ω (by rw [<-L,b,List.length_map]) ?_;intro q M v hq hv;have f:(Eo i').cells[q]? = some (.val v):=by rw [b,List.getElem?_map,hv]; rfl
 have z:=e2 _ (List.mem_of_getElem? f);rcases A q _ M f hq with rfl | ⟨s,h1,rfl⟩
 .exact ⟨λσ=>.val v,z⟩
 .cases h1;exact ⟨λσ=>.nil s _ _,rfl⟩
end
end Go.Ab
namespace Go.Ab
section
variable {P:Program} {o:Oper} {ρ:Operand->AV} {a:Act} {w w':World} {next:Act->World->Prop} {Q:Exit->Act->World->Prop}
structure Jl (P:Program) (w:World) (src:Value) (sz n:Nat) (B5:List Value):Prop where
 len:∀d,(Builtin.lenOf src).run P {w with drawn:=d} = .ok n {w with drawn:=d}
 cells:∀d,(Builtin.firstCells sz n src).run P {w with drawn:=d} = .ok B5.toArray {w with drawn:=d}
 size:B5.length=n*sz
theorem Ir {t:TypeId} {i:TI} {e:TypeId} (h:Gy P t=some i) (hd:i.d = .slice e):∃u,P.underlying t=some u/\u = .slice e:=by obtain ⟨c,u,z,q,f,l,k,j,g,b⟩:=D0 h;rw [hd] at b;exact ⟨u,f,b⟩
theorem Ahw {t s ty e:TypeId} {i:TypeInfo} {j:TypeDesc} (ht:P.underlying t=some (.slice e)) (l:P.underlying s=some j) (k:(∃e',j = .slice e')\/j = .string) (hi:P.info? e=some i) (b:Addr) (c f n:Nat) (g:Value) (B5:List Value) (u:Jl P w g i.size n B5) (h:c+n<=f) (q:(storeCells (b.add (c*i.size)) B5).run P w = .ok () w') : (Builtin.append_ #[t,s] ty #[.slice (some b) c f,g]).run P w = .ok (.slice (some b) (c+n) f) w':=by have h1:=u.len w.drawn;have h2:=u.cells w.drawn;have x:({w with drawn:=w.drawn}:World)=w:=rfl;rw [x] at h1 h2;rcases k with ⟨e',rfl⟩ | rfl <;> simp [Builtin.append_,run_underlying ht,run_underlying l,sizeOf,typeInfo,hi,h1,h,h2,q]
theorem Ar7 {t h ty e:TypeId} {i:TypeInfo} {c:TypeDesc} (ht:P.underlying t=some (.slice e)) (g:P.underlying h=some c) (f:(∃e',c = .slice e')\/c = .string) (hi:P.info? e=some i) (b:Value) (j:Jl P w b i.size 0 []) : (Builtin.append_ #[t,h] ty #[.slice none 0 0,b]).run P w = .ok (.slice none 0 0) w:=by have h1:=j.len w.drawn;have h2:=j.cells w.drawn;have k:({w with drawn:=w.drawn}:World)=w:=rfl;rw [k] at h1 h2;rcases f with ⟨e',rfl⟩ | rfl <;> simp [Builtin.append_,run_underlying ht,run_underlying g,sizeOf,typeInfo,hi,h1,h2]
theorem Acu {t s ty e:TypeId} {i:TypeInfo} {k:TypeDesc} {z:Value} (ht:P.underlying t=some (.slice e)) (q:P.underlying s=some k) (l:(∃e',k = .slice e')\/k = .string) (hi:P.info? e=some i) (x:i.zero=some z) (p:Option Addr) (b c n:Nat) (g:Value) (f B5:List Value) (u:Jl P w g i.size n B5) (y:Jl P w (.slice p b c) i.size b f) (B:c<b+n) (D:b+n<=9223372036854775807) (hb:(b+n)*i.bytes<=140737488355328) : (Builtin.append_ #[t,s] ty #[.slice p b c,g]).run P w =
   .ok (.slice (some ⟨w.heap.size,0,none⟩) (b+n) (grownCap w (b+n) c e)) (w.drew.alloc (.cells ((f++B5).toArray++Builtin.zeroCells z.cells (grownCap w (b+n) c e-(b+n))) e)):=by
 have h1:=u.len w.drawn;have h2:=u.cells (w.drawn+1);have h3:=y.cells (w.drawn+1);have E:({w with drawn:=w.drawn}:World)=w:=rfl;have e2:({w with drawn:=w.drawn+1}:World)=w.drew:=rfl;rw [E] at h1;rw [e2] at h2 h3;have A:¬(b+n<=c):=ω;have h:¬(9223372036854775807<((b:Int)+(n:Int))):=ω;have j:¬(281474976710656<Builtin.nextslicecap (b+n) c*i.bytes):=by have:=growslice_fits B hb; omega
 rcases l with ⟨e',rfl⟩ | rfl <;> simp [Builtin.append_,run_underlying ht,run_underlying q,sizeOf,typeInfo,zeroValue,hi,x,h1,A,h,j,Question.forced,h2,h3,newRow,grownCap] <;>
 (congr 2; apply Array.ext'; simp [List.append_assoc])
theorem Ye (w:World) (b c:Nat) (e:TypeId):b<=grownCap w b c e:=by unfold grownCap; show b<=b+_; omega
theorem Yf {σ:A1} {ι:Br} {H:Hp} {F:A1} {W:World} (s:St σ ι H F W w) {sz:Nat} (u:0<sz) {ys:List AV} {v:Value} (hc:CC σ (.sl sz ys) v) : ∃(B5:List Value) (g:Nat->Nat->Value),Jl P w v sz ys.length B5/\(∀(i:Nat) (x:AV),ys[i]? = some x->x.cells.length=sz) /\ (∀(i:Nat) (x:AV) (j:Nat) (c:AV),ys[i]? = some x->x.cells[j]? = some c->CC σ c (g i j)/\D5 (g i j)=true)/\(∀(i j:Nat),i<ys.length->j<sz->B5[i*sz+j]? = some (g i j)):=by
 rcases hc.sl_inv with ⟨rfl,p,cap,rfl⟩ | ⟨b,off,cap,C,E,fr,g,rfl,z,A,l,B,G,y⟩
 .refine ⟨[],λ_ _=>undef,⟨λd=>by simp [Builtin.lenOf],λd=>?_,ψ⟩,ψ,ψ,ψ⟩;cases p with| none=>simp [Builtin.firstCells]| some a=>simp [Builtin.firstCells,loadCells,loadCellsFrom]
 .refine ⟨(List.range (ys.length*sz)).map λq=>g (q / sz) (q % sz),g,⟨λd=>by simp [Builtin.lenOf],λd=>?_,ψ⟩,A,l,λi j hi hj=>?_⟩
  .have hb:({w with drawn:=d}:World).heap[b]? = some (.cells C E fr):=s.sto _ _ z;have:=run_loadCells (P:=P) {w with drawn:=d} ⟨b,off,none⟩ (ys.length*sz) (λq=>g (q / sz) (q % sz)) (by intro q hq;rw [I2,Ig hb];have h:q / sz<ys.length:=Nat.div_lt_of_lt_mul (by rwa [Nat.mul_comm] at hq);have f:q % sz<sz:=Nat.mod_lt _ u;have:=B (q / sz) (q % sz) h f;rw [<-this];congr 1;have:=Nat.div_add_mod q sz;rw [Nat.mul_comm] at this; omega);simp only [Builtin.firstCells];exact this
  .have k:i*sz+j<ys.length*sz:=(by have:(i+1)*sz<=ys.length*sz:=Nat.mul_le_mul_right _ ω;rw [Nat.add_mul] at this; omega);rw [List.getElem?_map,List.getElem?_range k];have D:(i*sz+j) / sz=i:=(by rw [Nat.mul_comm,Nat.mul_add_div u,Nat.div_eq_of_lt hj]; omega);have e2:(i*sz+j) % sz=j:=(by rw [Nat.mul_comm,Nat.mul_add_mod,Nat.mod_eq_of_lt hj]);simp [D,e2]
theorem Gx.append {σ:A1} {sz:Nat} {xs ys:List AV} {C q:Array Value} (hx:Gx σ sz xs C) (f:Nat->Nat->Value) (h1:∀(i:Nat) (x:AV),ys[i]? = some x->x.cells.length=sz) (h2:∀(i:Nat) (x:AV) (j:Nat) (c:AV),ys[i]? = some x->x.cells[j]? = some c->CC σ c (f i j)/\D5 (f i j)=true) (l:∀k:Nat,k<xs.length*sz->q[k]? = C[k]?) (h:∀(i j:Nat),i<ys.length->j<sz->q[(xs.length+i)*sz+j]? = some (f i j)):Gx σ sz (xs++ys) q:=by
 obtain ⟨g,y,u,s⟩:=hx;refine ⟨λi j=>if i<xs.length then g i j else f (i-xs.length) j,?_,?_,?_⟩
 .intro i x hi;by_cases b:i<xs.length
  .rw [List.getElem?_append_left b] at hi; exact y i x hi
  .rw [List.getElem?_append_right ω] at hi; exact h1 _ x hi
 .intro i x j c hi hj;by_cases b:i<xs.length
  .rw [List.getElem?_append_left b] at hi;simp only [if_pos b]; exact u i x j c hi hj
  .rw [List.getElem?_append_right ω] at hi;simp only [if_neg b]; exact h2 _ x j c hi hj
 .intro i j hi hj;by_cases b:i<xs.length
  .simp only [if_pos b];rw [l _ (by have:(i+1)*sz<=xs.length*sz:=Nat.mul_le_mul_right _ ω;rw [Nat.add_mul] at this; omega)];exact s i j b hj
  .simp only [if_neg b];have:=h (i-xs.length) j (by simp at hi; omega) hj;rwa [show xs.length+(i-xs.length)=i by omega] at this
theorem Yg {σ:A1} {ι:Br} {H:Hp} {F:A1} {W:World} (s:St σ ι H F W w) {t t' ty e:TypeId} {i:TI} {u':TypeDesc} (ht:P.underlying t=some (.slice e)) (M:P.underlying t'=some u') (L:(∃e',u' = .slice e')\/u' = .string) (he:Gy P e=some i) (hz:0<i.size) (a8:i.zero.length=i.size) {h:Nat} {xs ys:List AV} (hh:H h = .rows e i.size xs) {v q:Value} (hv:Ft (ι h) i.size 0 xs.length v) (ae:1<=i.bytes) (hb:(xs.length+ys.length)*i.bytes<=140737488355328) {B5:List Value} {g:Nat->Nat->Value} (B:Jl P w q i.size ys.length B5) (h1:∀(i':Nat) (x:AV),ys[i']? = some x->x.cells.length=i.size) (h2:∀(i':Nat) (x:AV) (j:Nat) (c:AV),ys[i']? = some x->x.cells[j]? = some c->CC σ c (g i' j)/\D5 (g i' j)=true) (h3:∀(i' j:Nat),i' < ys.length->j<i.size->B5[i' * i.size+j]? = some (g i' j)) (Y:∀u∈B5,D5 u=true) : ∃(ι':Br) (v':Value) (w':World),(Builtin.append_ #[t,t'] ty #[v,q]).run P w = .ok v' w'/\Le σ ι H σ ι' (A4 H h (.rows e i.size (xs++ys)))/\St σ ι' (A4 H h (.rows e i.size (xs++ys))) F W w' /\ Ft (ι' h) i.size 0 (xs.length+ys.length) v':=by
 obtain ⟨N,u,z,k1,k2,k3,R,k5,k6,k7⟩:=D0 he;have l:xs.length+ys.length<=140737488355328:=by have:(xs.length+ys.length)*1<=(xs.length+ys.length)*i.bytes:=Nat.mul_le_mul_left _ ae;omega
 have aa:z.cells.size=i.size:=by rw [<-a8,k6]; simp
 have A:∀n,(Builtin.zeroCells z.cells n).size=n*i.size:=by intro n; simp [Builtin.zeroCells,aa]
 have E:=s.obj h;unfold Ci at E; rw [hh] at E;obtain ⟨_,_,E⟩:=E;unfold Ft at hv;split at hv
 .rename_i a1;obtain ⟨rfl,_,ac⟩:=hv;have ab:xs = []:=List.eq_nil_of_length_eq_zero ac;subst ab;by_cases hy:ys = []
  .subst hy;have V:B5 = []:=List.eq_nil_of_length_eq_zero (by rw [B.size]; simp);subst V;refine ⟨ι,.slice none 0 0,w,Ar7 ht M L k1 q (by rw [R]; exact B),?_,?_,?_⟩
   .rw [List.append_nil,<-hh,Hi]; exact Le.refl _ _ _
   .rw [List.append_nil,<-hh,Hi]; exact s
   .rw [a1]; exact ⟨rfl,rfl,rfl⟩
  .have hpos:0<ys.length:=List.length_pos_iff.2 hy;have ho:Jl P w (.slice none 0 0) N.size 0 []:=⟨λd=>by simp [Builtin.lenOf],λd=>by simp [Builtin.firstCells],ψ⟩;have U:=Acu (P:=P) (ty:=ty) (w:=w) ht M L k1 k3 none 0 0 ys.length q [] B5 (by rw [R]; exact B) ho ω (by simp at l; omega) (by rw [k5]; simpa using hb);rw [Nat.zero_add,List.nil_append] at U;have hge:=Ye w ys.length 0 e;obtain ⟨s',le⟩:=(s.drew (w.drawn+1)).newRows h e i.size ([]++ys) (grownCap w ys.length 0 e) (B5.toArray++Builtin.zeroCells z.cells (grownCap w ys.length 0 e-ys.length)) (.inr ⟨e,i.size,[],hh,by simpa using hpos⟩) hz (by simpa using l) (by simpa using hge) (by rw [Array.size_append,A]; simp [B.size,<-Nat.add_mul]; rw [Nat.add_sub_cancel' hge]) ⟨g,(by simpa using h1),(by simpa using h2),(by intro i' j hi hj;simp only [List.nil_append] at hi;have G:i' * i.size+j<B5.length:=(by have:(i' + 1)*i.size<=ys.length*i.size:=Nat.mul_le_mul_right _ ω;rw [Nat.add_mul] at this; rw [B.size]; omega);rw [Array.getElem?_append_left (by simpa using G),List.getElem?_toArray];exact h3 i' j hi hj)⟩;refine ⟨_,_,_,U,le,s',?_⟩;rw [Ce];simp only [List.length_nil,Nat.zero_add];exact ⟨ω,by rw [Nat.zero_mul]; rfl⟩
 .rename_i b f y;obtain ⟨ad,rfl⟩:=hv;rcases E with ⟨e1,_⟩ | ⟨b',af,C,e1,p1,p2,p3,p4,p5,p6⟩
  .rw [y] at e1; cases e1
  rw [y] at e1; cases e1;by_cases J:xs.length+ys.length<=f
  .have S:xs.length*i.size+B5.length<=C.size:=(by rw [B.size,<-Nat.add_mul,p4]; exact Nat.mul_le_mul_right _ J);have X:=run_storeCells_at (P:=P) b (xs.length*i.size) e B5 0 C w p3 (by simpa using S) (λu hu=>by rw [Aci]; exact Y u hu);simp only [Nat.add_zero] at X;have U:=Ahw (P:=P) (ty:=ty) (w:=w) ht M L k1 ⟨b,0,none⟩ xs.length f ys.length q B5 (by rw [R]; exact B) J (by rw [I2,Nat.zero_add,R]; exact X);have D:Gx σ i.size (xs++ys) (C.toList.take (xs.length*i.size)++B5++C.toList.drop (xs.length*i.size+B5.length)).toArray:=by
    refine Gx.append p6 g h1 h2 ?_ ?_
    .intro k hk;rw [Rz _ _ _ S,if_pos hk]
    .intro i' j hi hj;have G:i' * i.size+j<B5.length:=(by have:(i' + 1)*i.size<=ys.length*i.size:=Nat.mul_le_mul_right _ ω;rw [Nat.add_mul] at this; rw [B.size]; omega);have e2:(xs.length+i')*i.size+j=xs.length*i.size+(i' * i.size+j):=(by rw [Nat.add_mul]; omega);rw [Rz _ _ _ S,e2,if_neg ω,if_pos ω,Nat.add_sub_cancel_left];exact h3 i' j hi hj
   have a7:(C.toList.take (xs.length*i.size)++B5++C.toList.drop (xs.length*i.size+B5.length)).toArray.size=f*i.size:=(by simp; omega);by_cases hy:ys = []
   .subst hy;obtain ⟨s',le⟩:=s.setRows h e i.size xs (xs++[]) hh b f y ψ _ a7 D;refine ⟨ι,_,_,by simpa using U,le,s',?_⟩;rw [y];exact ⟨by simpa using ad,ψ⟩
   .have hpos:0<ys.length:=List.length_pos_iff.2 hy;obtain ⟨s',le⟩:=s.growIn h e i.size xs (xs++ys) hh b f y (by simp; omega) (by simpa using l) (by simpa using J) _ a7 D;refine ⟨ι,_,_,by simpa using U,le,s',?_⟩;rw [y];exact ⟨ω,ψ⟩
  .have Z:Jl P w (.slice (some ⟨b,0*i.size,none⟩) xs.length (f-0)) N.size xs.length (C.toList.take (xs.length*i.size)):=by
    refine ⟨λd=>by simp [Builtin.lenOf],λd=>?_,?_⟩
    .have hb':({w with drawn:=d}:World).heap[b]? = some (.cells C e (0,0)):=p3;have I:(C.toList.take (xs.length*i.size)).length=xs.length*i.size:=(by have:C.toList.length=f*i.size:=(by rw [Array.length_toList,p4]);rw [List.length_take,this];exact Nat.min_eq_left (Nat.mul_le_mul_right _ p5));have:=run_loadCells_list (P:=P) {w with drawn:=d} ⟨b,0,none⟩ (C.toList.take (xs.length*i.size)) (by intro j u hj;have G:j<xs.length*i.size:=(by have:=(List.getElem?_eq_some_iff.1 hj).1; omega);rw [List.getElem?_take_of_lt G,Array.getElem?_toList] at hj;rw [I2,Nat.zero_add,Ig hb']; exact hj);rw [I] at this;simp only [Builtin.firstCells,Nat.zero_mul,R];exact this
    .have:C.toList.length=f*i.size:=(by rw [Array.length_toList,p4]);rw [R,List.length_take,this];exact Nat.min_eq_left (Nat.mul_le_mul_right _ p5)
   have U:=Acu (P:=P) (ty:=ty) (w:=w) ht M L k1 k3 (some ⟨b,0*i.size,none⟩) xs.length (f-0) ys.length q _ B5 (by rw [R]; exact B) Z ω ω (by rw [k5]; exact hb);have hge:=Ye w (xs.length+ys.length) (f-0) e;have I:(C.toList.take (xs.length*i.size)).length=xs.length*i.size:=(by have:C.toList.length=f*i.size:=(by rw [Array.length_toList,p4]);rw [List.length_take,this];exact Nat.min_eq_left (Nat.mul_le_mul_right _ p5));have hpos:0<ys.length:=ω;have a6:(C.toList.take (xs.length*i.size)++B5).length=(xs.length+ys.length)*i.size:=(by rw [List.length_append,I,B.size,Nat.add_mul]);obtain ⟨s',le⟩:=(s.drew (w.drawn+1)).newRows h e i.size (xs++ys) (grownCap w (xs.length+ys.length) (f-0) e) ((C.toList.take (xs.length*i.size)++B5).toArray++Builtin.zeroCells z.cells (grownCap w (xs.length+ys.length) (f-0) e-(xs.length+ys.length))) (.inr ⟨e,i.size,xs,hh,by simp; omega⟩) hz (by simpa using l) (by simpa using hge) (by rw [Array.size_append,A,List.size_toArray,a6,<-Nat.add_mul,Nat.add_sub_cancel' hge]) (by
     refine Gx.append p6 g h1 h2 ?_ ?_
     .intro k hk;rw [Array.getElem?_append_left (by rw [List.size_toArray,a6,Nat.add_mul]; omega),List.getElem?_toArray,List.getElem?_append_left ω,List.getElem?_take_of_lt hk,Array.getElem?_toList]
     .intro i' j hi hj;have G:i' * i.size+j<B5.length:=(by have:(i' + 1)*i.size<=ys.length*i.size:=Nat.mul_le_mul_right _ ω;rw [Nat.add_mul] at this; rw [B.size]; omega);have e2:(xs.length+i')*i.size+j=xs.length*i.size+(i' * i.size+j):=(by rw [Nat.add_mul]; omega);rw [Array.getElem?_append_left (by rw [List.size_toArray,List.length_append,I]; omega),List.getElem?_toArray,e2,List.getElem?_append_right ω,I,Nat.add_sub_cancel_left];exact h3 i' j hi hj);refine ⟨_,_,_,U,le,s',?_⟩;rw [Ce];exact ⟨ω,by rw [Nat.zero_mul]; rfl⟩
 .exact hv.elim
end
end Go.Ab
namespace Go.Ab
section
variable {P:Program} {o:Oper} {ρ:Operand->AV} {a:Act} {w w':World} {next:Act->World->Prop} {Q:Exit->Act->World->Prop}
theorem Yh {sz n:Nat} {B5:List Value} {g:Nat->Nat->Value} (i:0<sz) (l:B5.length=n*sz) {ys:List AV} (k:ys.length=n) (h1:∀(i':Nat) (x:AV),ys[i']? = some x->x.cells.length=sz) {σ:A1} (h2:∀(i':Nat) (x:AV) (j:Nat) (c:AV),ys[i']? = some x->x.cells[j]? = some c->CC σ c (g i' j)/\D5 (g i' j)=true) (h3:∀(i' j:Nat),i' < ys.length->j<sz->B5[i' * sz+j]? = some (g i' j)) : ∀u∈B5,D5 u=true:=by
 intro u hu;obtain ⟨q,hq⟩:=List.getElem?_of_mem hu;have h:=(List.getElem?_eq_some_iff.1 hq).1;have f:q / sz<ys.length:=by rw [k]; exact Nat.div_lt_of_lt_mul (by rw [l,Nat.mul_comm] at h; exact h)
 have b:q % sz<sz:=Nat.mod_lt _ i;have e:=h3 (q / sz) (q % sz) f b;rw [show q / sz*sz+q % sz=q by have:=Nat.div_add_mod q sz; rw [Nat.mul_comm] at this; omega,hq] at e;cases e;have hx:=List.getElem?_eq_getElem f;have hc:(q % sz)<(ys[q / sz]).cells.length:=by rw [h1 _ _ hx]; exact b
 exact (h2 _ _ _ _ hx (List.getElem?_eq_getElem hc)).2
theorem R0 {t f ty:TypeId} {x y:Operand} (h:o.op = .call {callee:=.builtin .append,args:=#[x,y],argTypes:=#[t,f]}) (b:o.type=ty) {c:Value} (g:(Builtin.append_ #[t,f] ty #[a.eval x,a.eval y]).run P w = .ok c w') : (execOp a.eval o).run P w = .ok (.value c) w':=by subst b;simp [execOp,h,resolve,invoke,builtin,g]
theorem Ar8 {T:Cl} (U:Cm P T) {t A:TypeId} {x y:Operand} {i i' D:TI} {e e':TypeId} {h k:Nat} {xs ys:List AV} (N:o.op = .call {callee:=.builtin .append,args:=#[x,y],argTypes:=#[t,A]}) (ht:T t=some i) (hd:i.d = .slice e) (L:T A=some D) (R:D.d = .slice e') (Z:T e=some i') (G:0<i'.size) (E:i'.zero.length=i'.size) (S:1<=i'.bytes) (hx:ρ x = .arr h k 0 k) (c:xs.length=k) (hy:ρ y = .sl i'.size ys) (hb:(xs.length+ys.length)*i'.bytes<=140737488355328) : B0 P o ρ ⟨.arr h (k+ys.length) 0 (k+ys.length),[(h,.rows e i'.size xs)],[(h,.rows e i'.size (xs++ys))]⟩:=by
 intro σ ι H F W w a next Q s l M hk
 have hh:H h = .rows e i'.size xs:=M (h,.rows e i'.size xs) ψ;have j:=l x (by simp [N,Op.operands,Call.operands]);have f:=l y (by simp [N,Op.operands,Call.operands]);rw [hx] at j; rw [hy] at f;have hv:=j.arr_inv hh c;rw [<-c] at hv;obtain ⟨u1,J,e1⟩:=Ir (U t i ht) hd;obtain ⟨u2,I,e2⟩:=Ir (U A D L) R;subst e1; subst e2;obtain ⟨B5,g,V,h1,h2,h3⟩:=Yf (P:=P) s G f.sl_inv;obtain ⟨X,z,w',Y,le,s',b⟩:=Yg (P:=P) (ty:=o.type) s J I (.inl ⟨_,rfl⟩) (U e i' Z) G E hh hv S hb V h1 h2 h3 (Yh G V.size rfl h1 h2 h3);refine Et (R0 N rfl Y) (hk σ X z w' le s' ?_);have q:D5 z=true:=by
  unfold Ft at b;split at b
  .rw [b.1]; rfl
  .rw [b.2]; rfl
  .exact b.elim
 refine .arr _ _ _ _ z (by show A4 H h _ h≠_; rw [Ce]; intro e; cases e) (λE' B u e'=>?_) q;have e':A4 H h _ h = .rows E' B u:=e';rw [Ce] at e'; cases e';refine ⟨by rw [List.length_append]; omega,λ_=>?_⟩;rw [c] at b;exact b
def H5 (s:ByteArray):List AV:=s.data.toList.map λb=>.val (.int .u8 b.toNat)
theorem Ar9 (s:ByteArray):(H5 s).length=s.size:=by unfold H5;rw [List.length_map,Array.length_toList]; rfl
theorem Asa (s:ByteArray):∃(B5:List Value) (g:Nat->Nat->Value),Jl P w (.string s) 1 (H5 s).length B5/\(∀(i:Nat) (x:AV),(H5 s)[i]? = some x->x.cells.length=1) /\ (∀(σ:A1) (i:Nat) (x:AV) (j:Nat) (c:AV),(H5 s)[i]? = some x->x.cells[j]? = some c->CC σ c (g i j)/\D5 (g i j)=true)/\∀(i j:Nat),i<(H5 s).length->j<1->B5[i*1+j]? = some (g i j):=by
 have f:=Ar9 s;refine ⟨Lib.strCells s,λi _=>.int .u8 ((s.data.toList.getD i 0).toNat),⟨λd=>?_,λd=>?_,?_⟩,?_,?_,?_⟩
 .rw [f]; simp [Builtin.lenOf]
 .rw [f]; exact Lib.run_firstCells_string _ 1 s
 .rw [f,Lib.strCells_length]; omega
 .intro i x hx;simp only [H5,List.getElem?_map,Option.map_eq_some_iff] at hx;obtain ⟨b,_,rfl⟩:=hx;rfl
 .intro σ i x j c hx hc;simp only [H5,List.getElem?_map,Option.map_eq_some_iff] at hx;obtain ⟨b,hb,rfl⟩:=hx;simp only [AV.cells] at hc;cases j with
  | zero=>simp at hc; subst hc;have e:s.data.toList.getD i 0=b:=(by rw [List.getD_eq_getElem?_getD,hb]; rfl);dsimp only;rw [e];exact ⟨.val _,rfl⟩
  | succ j=>simp at hc
 .intro i j hi hj;have hj:j=0:=ω;subst hj;have hi:i<s.data.toList.length:=(by unfold H5 at hi; rwa [List.length_map] at hi);have e:s.data.toList.getD i 0=s.data.toList[i]:=(by rw [List.getD_eq_getElem?_getD,List.getElem?_eq_getElem hi]; rfl);dsimp only;rw [e];unfold Lib.strCells;rw [Nat.mul_one,Nat.add_zero,List.getElem?_map,List.getElem?_eq_getElem hi]; rfl
theorem Asb {T:Cl} (U:Cm P T) {t z:TypeId} {x y:Operand} {i i' B:TI} {e:TypeId} {h k:Nat} {xs:List AV} {s:ByteArray} (N:o.op = .call {callee:=.builtin .append,args:=#[x,y],argTypes:=#[t,z]}) (ht:T t=some i) (hd:i.d = .slice e) (J:T z=some B) (R:B.d = .string) (he:T e=some i') (Y:i'.size=1) (D:i'.zero.length=i'.size) (S:1<=i'.bytes) (hx:ρ x = .arr h k 0 k) (c:xs.length=k) (hy:ρ y = .val (.string s)) (hb:(xs.length+(H5 s).length)*i'.bytes<=140737488355328) : B0 P o ρ ⟨.arr h (k+(H5 s).length) 0 (k+(H5 s).length),[(h,.rows e i'.size xs)],[(h,.rows e i'.size (xs++H5 s))]⟩:=by
 intro σ ι H F W w a next Q X j M hk
 have hh:H h = .rows e i'.size xs:=M (h,.rows e i'.size xs) ψ;have f:=j x (by simp [N,Op.operands,Call.operands]);have E:=Da hy (j y (by simp [N,Op.operands,Call.operands]));rw [hx] at f;have hv:=f.arr_inv hh c;rw [<-c] at hv;obtain ⟨u1,I,e1⟩:=Ir (U t i ht) hd;obtain ⟨_,u2,_,_,G,_,_,_,_,e2⟩:=D0 (U z B J);rw [R] at e2;subst e1; subst e2;obtain ⟨B5,g,L,h1,h2,h3⟩:=Asa (P:=P) (w:=w) s;rw [<-Y] at L h1 h3;obtain ⟨V,u,w',Z,le,s',b⟩:=Yg (P:=P) (ty:=o.type) X I G (.inr rfl) (U e i' he) ω D hh hv S hb L h1 (h2 σ) h3 (Yh ω L.size rfl h1 (h2 σ) h3);refine Et (R0 N rfl (by rw [E]; exact Z)) (hk σ V u w' le s' ?_);have l:D5 u=true:=by
  unfold Ft at b;split at b
  .rw [b.1]; rfl
  .rw [b.2]; rfl
  .exact b.elim
 refine .arr _ _ _ _ u (by show A4 H h _ h≠_; rw [Ce]; intro e; cases e) (λE' A q e'=>?_) l;have e':A4 H h _ h = .rows E' A q:=e';rw [Ce] at e'; cases e';refine ⟨by rw [List.length_append]; omega,λ_=>?_⟩;rw [c] at b;exact b
theorem Asd {T:Cl} (U:Cm P T) {t z:TypeId} {x y:Operand} {i i' D:TI} {e e':TypeId} (h:Nat) {ys:List AV} (N:o.op = .call {callee:=.builtin .append,args:=#[x,y],argTypes:=#[t,z]}) (ht:T t=some i) (hd:i.d = .slice e) (J:T z=some D) (R:D.d = .slice e') (he:T e=some i') (k:0<i'.size) (E:i'.zero.length=i'.size) (S:1<=i'.bytes) (hx:ρ x = .val (.slice none 0 0)) (hy:ρ y = .sl i'.size ys) (hb:ys.length*i'.bytes<=140737488355328) : B0 P o ρ ⟨.arr h ys.length 0 ys.length,[(h,.none)],[(h,.rows e i'.size ys)]⟩:=by
 intro σ ι H F W w a next Q s f L hk
 have Z:H h = .none:=L (h,.none) ψ;have M:=Da hx (f x (by simp [N,Op.operands,Call.operands]));have c:=f y (by simp [N,Op.operands,Call.operands]);rw [hy] at c;obtain ⟨u1,I,e1⟩:=Ir (U t i ht) hd;obtain ⟨u2,G,e2⟩:=Ir (U z D J) R;subst e1; subst e2;obtain ⟨s0,B⟩:=s.newNil h Z e i'.size k;obtain ⟨B5,g,V,h1,h2,h3⟩:=Yf (P:=P) s0 k c.sl_inv;obtain ⟨X,u,w',Y,le,s',b⟩:=Yg (P:=P) (ty:=o.type) (v:=.slice none 0 0) (xs:=[]) s0 I G (.inl ⟨_,rfl⟩) (U e i' he) k E (Ce _ _ _) (by rw [Ce]; exact ⟨rfl,rfl,rfl⟩) S (by simpa using hb) V h1 h2 h3 (Yh k V.size rfl h1 h2 h3);have hH:A4 (A4 H h (.rows e i'.size [])) h (.rows e i'.size ([]++ys))=A4 H h (.rows e i'.size ys):=by
  funext m;by_cases l:m=h
  .subst l; rw [Ce,Ce]; rfl
  .rw [Cz _ _ l,Cz _ _ l,Cz _ _ l]
 rw [hH] at le s';simp only [List.length_nil,Nat.zero_add] at b;refine Et (R0 N rfl (by rw [M]; exact Y)) (hk σ X u w' (B.trans le) s' ?_);have j:D5 u=true:=by
  unfold Ft at b;split at b
  .rw [b.1]; rfl
  .rw [b.2]; rfl
  .exact b.elim
 refine .arr _ _ _ _ u (by show A4 H h _ h≠_; rw [Ce]; intro e; cases e) (λE' A q e'=>?_) j;have e':A4 H h _ h = .rows E' A q:=e';rw [Ce] at e'; cases e';exact ⟨Nat.le_refl _,λ_=>b⟩
theorem St.freeze {σ:A1} {ι:Br} {H:Hp} {F:A1} {W:World} (s:St σ ι H F W w) {h:Nat} {E:TypeId} {sz:Nat} {xs:List AV} (hh:H h = .rows E sz xs) : ∃u,Le σ ι H u ι (A4 H h .dead)/\St u ι (A4 H h .dead) F W w /\ ∀off len v,off+len<=xs.length->Ft (ι h) sz off len v->CC u (.sl sz ((xs.drop off).take len)) v:=by
 have k:=s.obj h;unfold Ci at k; rw [hh] at k;obtain ⟨hz,hm,k⟩:=k;have f:∀u,σ.le u->Le σ ι H u ι (A4 H h .dead):=by intro u V;have:=Le.upd (ι:=ι) (H:=H) V h (ι h) .dead ⟨λ_ e=>e,(λ_ e=>by cases e),(λ_ E1 L J e=>by cases e)⟩;rwa [Hi] at this
 rcases k with ⟨B,e2⟩ | ⟨b,D,C,B,U,S,R,p4,Z,g,N,G,M⟩
 .subst e2;refine ⟨σ,f σ (A1.le_refl _),?_,?_⟩
  .obtain ⟨f1,f2⟩:=s.fresh;exact s.touch h w.heap.size (λ_ _=>rfl) (λx e=>Cz _ _ e) (f σ (A1.le_refl _)) (λ_ _=>rfl) (λ_ _=>rfl) (λo z=>by rw [f1] at z; cases z) (λx e i hb=>by have:=(s.block i hb).1; omega) f2 (λb i hb=>by rw [Ce] at i; cases i) (by unfold Ci; rw [Ce]; trivial) rfl rfl rfl
  .intro off len v q hv;rw [B] at hv;obtain ⟨rfl,rfl,rfl⟩:=hv;simp only [List.drop_nil,List.take_nil];exact .nil sz none 0
 .have q:σ.le (A4 σ b (some (.cells C E))):=(by intro Y o' hb';rw [Cz _ _ (by intro e; subst e; rw [U] at hb'; cases hb')]; exact hb');refine ⟨A4 σ b (some (.cells C E)),f _ q,?_,?_⟩
  .refine s.touch h b (λ_ _=>rfl) (λx e=>Cz _ _ e) (f _ q) (λ_ _=>rfl) (λx e=>Cz _ _ e) (λo z=>by rw [Ce] at z; cases z; exact R)
    (λx e i hb=>e (s.inj x h b i (by rw [hh]; rfl) hb (by rw [B]; rfl))) S (λY i hb=>by rw [Ce] at i; cases i) (by unfold Ci; rw [Ce]; trivial) rfl rfl rfl
  .intro off len v I hv;rw [B] at hv;obtain ⟨_,rfl⟩:=hv;have i:((xs.drop off).take len).length=len:=(by simp; omega);have l:∀(n:Nat) (y:AV),((xs.drop off).take len)[n]? = some y->n<len/\xs[off+n]? = some y:=(by intro n y hy;have A:n<len:=(by have:=(List.getElem?_eq_some_iff.1 hy).1; omega);rw [List.getElem?_take_of_lt A,List.getElem?_drop] at hy;exact ⟨A,hy⟩);have:=CC.sl (σ:=A4 σ b (some (.cells C E))) ((xs.drop off).take len) b (off*sz) (D-off) sz C E (0,0) (λn j=>g (off+n) j) (Ce _ _ _)
    (λn y hy=>N _ y (l n y hy).2) (λn y j c hy hj=>((G _ y j c (l n y hy).2 hj).1).mono q) (λn y j c hy hj=>(G _ y j c (l n y hy).2 hj).2) (λn j X hj=>by rw [i] at X;have:=M (off+n) j ω hj;rw [Nat.add_mul] at this; exact this) (by rw [i]; omega) (by rw [i]; omega);rw [i] at this;exact this
theorem Ase {T:Cl} (z:Cm P T) {x:Operand} {i i':TI} {e:TypeId} (h:Nat) (l:o.op = .assign x) (hx:ρ x = .val (.slice none 0 0)) (ht:T o.type=some i) (_hd:i.d = .slice e) (y:T e=some i') (q:0<i'.size) : B0 P o ρ ⟨.arr h 0 0 0,[(h,.none)],[(h,.rows e i'.size [])]⟩:=by
 intro σ ι H F W w a next Q s k g hk
 have _:=z; have _:=ht; have _:=y
 have u:H h = .none:=g (h,.none) ψ;have j:=Da hx (k x (by simp [l,Op.operands]));obtain ⟨s0,f⟩:=s.newNil h u e i'.size q;refine Et (v:=.slice none 0 0) (by simp [execOp,l,j]) (hk σ _ _ w f s0 ?_);refine .arr _ _ _ _ _ (by show A4 H h _ h≠_; rw [Ce]; intro e; cases e) (λA c b e'=>?_) rfl;have e':A4 H h _ h = .rows A c b:=e';rw [Ce] at e'; cases e';exact ⟨ψ,λ_=>by rw [Ce]; exact ⟨rfl,rfl,rfl⟩⟩
theorem Asf {x y:Operand} {t f:TypeId} {k g:IntKind} {m n:Int} (c:o.op = .call {callee:=.builtin .max,args:=#[x,y],argTypes:=#[t,f]}) (hx:ρ x = .val (.int k m)) (hy:ρ y = .val (.int g n)) : B0 P o ρ ⟨.val (.int k (if n>m then n else m)),[],[]⟩ := D6 λσ ι H a w b=>by have h1:=Da hx (b x (by simp [c,Op.operands,Call.operands]));have h2:=Da hy (b y (by simp [c,Op.operands,Call.operands]));exact ⟨_,by simp [execOp,c,resolve,invoke,builtin,Builtin.max_,Builtin.max2,h1,h2],.of_val _⟩
theorem Asg {x y:Operand} {t f:TypeId} {k g:IntKind} {m n:Int} (c:o.op = .call {callee:=.builtin .min,args:=#[x,y],argTypes:=#[t,f]}) (hx:ρ x = .val (.int k m)) (hy:ρ y = .val (.int g n)) : B0 P o ρ ⟨.val (.int k (if n<m then n else m)),[],[]⟩ := D6 λσ ι H a w b=>by have h1:=Da hx (b x (by simp [c,Op.operands,Call.operands]));have h2:=Da hy (b y (by simp [c,Op.operands,Call.operands]));exact ⟨_,by simp [execOp,c,resolve,invoke,builtin,Builtin.min_,Builtin.min2,h1,h2],.of_val _⟩
end
end Go.Ab
namespace Go.Ab
section
variable {P:Program} {o:Oper} {ρ:Operand->AV} {a:Act} {w w':World} {next:Act->World->Prop} {Q:Exit->Act->World->Prop}
def C8 {α:Type} (xs:List α) (d:Nat) (ys:List α):List α:=xs.take d++ys++xs.drop (d+ys.length)
theorem Up {α:Type} {xs ys:List α} {d:Nat} (hd:d<=xs.length) (i:Nat):(C8 xs d ys)[i]? = if i<d then xs[i]? else if i<d+ys.length then ys[i-d]? else xs[i]?:=by
 unfold C8;have b:(xs.take d).length=d:=by rw [List.length_take]; omega
 rw [List.append_assoc];by_cases h1:i<d
 .rw [if_pos h1,List.getElem?_append_left ω,List.getElem?_take_of_lt h1]
 .rw [if_neg h1,List.getElem?_append_right ω,b];by_cases h2:i<d+ys.length
  .rw [if_pos h2,List.getElem?_append_left ω]
  .rw [if_neg h2,List.getElem?_append_right ω,List.getElem?_drop];congr 1; omega
theorem Po {α:Type} {xs ys:List α} {d:Nat} (hd:d<=xs.length):(C8 xs d ys).length=max xs.length (d+ys.length):=by unfold C8;simp only [List.length_append,List.length_take,List.length_drop]; omega
structure Pp (σ:A1) (sz:Nat) (ys:List AV) (B5:List Value) (g:Nat->Nat->Value):Prop where
 len:B5.length=ys.length*sz
 el:∀(i:Nat) (x:AV),ys[i]? = some x->x.cells.length=sz
 cc:∀(i:Nat) (x:AV) (j:Nat) (c:AV),ys[i]? = some x->x.cells[j]? = some c->CC σ c (g i j)/\D5 (g i j)=true
 at_:∀(i j:Nat),i<ys.length->j<sz->B5[i*sz+j]? = some (g i j)
theorem Gx.patch {σ:A1} {sz d:Nat} {xs ys:List AV} {C l:Array Value} {B5:List Value} {z:Nat->Nat->Value} (hx:Gx σ sz xs C) (hd:d<=xs.length) (f:Pp σ sz ys B5 z)
  (b:∀q:Nat,q<d*sz\/(d+ys.length)*sz<=q->l[q]? = C[q]?) (k:∀q,q<ys.length*sz->l[d*sz+q]? = B5[q]?):Gx σ sz (C8 xs d ys) l:=by
 obtain ⟨g,y,u,s⟩:=hx
 refine ⟨λi j=>if i<d then g i j else if i<d+ys.length then z (i-d) j else g i j,?_,?_,?_⟩
 .intro i x hi
  rw [Up hd] at hi
  split at hi
  .exact y i x hi
  .split at hi
   .exact f.el _ x hi
   .exact y i x hi
 .intro i x j c hi hj
  rw [Up hd] at hi
  dsimp only
  split at hi
  .rename_i h; rw [if_pos h]; exact u i x j c hi hj
  .rename_i h
   rw [if_neg h]
   split at hi
   .rename_i h2; rw [if_pos h2]; exact f.cc _ x j c hi hj
   .rename_i h2; rw [if_neg h2]; exact u i x j c hi hj
 .intro i j hi hj
  rw [Po hd] at hi
  dsimp only
  by_cases h:i<d
  .rw [if_pos h]
   have:(i+1)*sz<=d*sz:=Nat.mul_le_mul_right _ ω
   rw [Nat.add_mul] at this
   rw [b _ (.inl ω)]; exact s i j ω hj
  .rw [if_neg h]
   by_cases h2:i<d+ys.length
   .rw [if_pos h2]
    have e:i*sz+j=d*sz+((i-d)*sz+j):=by
     have:i=d+(i-d):=ω
     conv=>lhs; rw [this,Nat.add_mul]
     omega
    have:(i-d+1)*sz<=ys.length*sz:=Nat.mul_le_mul_right _ ω
    rw [Nat.add_mul] at this
    rw [e,k _ ω]
    exact f.at_ _ j ω hj
   .rw [if_neg h2]
    have:(d+ys.length)*sz<=i*sz:=Nat.mul_le_mul_right _ ω
    rw [b _ (.inr ω)]; exact s i j ω hj
theorem Pp.one {σ:A1} {sz:Nat} (b:0<sz) {ys:List AV} {B5:List Value} {g:Nat->Nat->Value} (h:Pp σ sz ys B5 g):∀u∈B5,D5 u=true:=Yh b h.len rfl h.el h.cc h.at_
theorem Acv {σ:A1} {ι:Br} {H:Hp} {F:A1} {W:World} (s:St σ ι H F W w) {h:Nat} {e:TypeId} {sz:Nat} {xs ys:List AV} (hh:H h = .rows e sz xs) {b c:Nat} (hb:ι h = .blk b c) {d:Nat} (hd:d<=xs.length) (x:d+ys.length<=c) (I:d+ys.length<=140737488355328) (E:0<sz) {B5:List Value} {g:Nat->Nat->Value} (l:Pp σ sz ys B5 g) : ∃w',(storeCells (⟨b,d*sz,none⟩:Addr) B5).run P w = .ok () w'/\Le σ ι H σ ι (A4 H h (.rows e sz (C8 xs d ys)))/\St σ ι (A4 H h (.rows e sz (C8 xs d ys))) F W w':=by
 obtain ⟨C,D,B,G,A⟩:=s.rowsAt hh hb;have z:xs.length<=140737488355328:=by have:=s.obj h;unfold Ci at this; rw [hh] at this;exact this.2.1
 have j:d*sz+B5.length<=C.size:=by rw [l.len,<-Nat.add_mul,B]; exact Nat.mul_le_mul_right _ x
 have k:=run_storeCells_at (P:=P) b (d*sz) e B5 0 C w D (by simpa using j) (λu hu=>by rw [Aci]; exact l.one E u hu);simp only [Nat.add_zero] at k;have f:Gx σ sz (C8 xs d ys) (C.toList.take (d*sz)++B5++C.toList.drop (d*sz+B5.length)).toArray:=by
  refine Gx.patch A hd l ?_ ?_
  .intro q hq;rw [Rz _ _ _ j];rcases hq with hq | hq
   .rw [if_pos hq]
   .rw [Nat.add_mul] at hq;rw [if_neg ω,if_neg (by rw [l.len]; omega)]
  .intro q hq;rw [Rz _ _ _ j,if_neg ω,if_pos (by rw [l.len]; omega),Nat.add_sub_cancel_left]
 have y:(C.toList.take (d*sz)++B5++C.toList.drop (d*sz+B5.length)).toArray.size=c*sz:=by simp; omega
 have i:=Po (ys:=ys) hd;by_cases J:d+ys.length<=xs.length
 .obtain ⟨s',le⟩:=s.setRows h e sz xs (C8 xs d ys) hh b c hb (by rw [i]; omega) _ y f;exact ⟨_,k,le,s'⟩
 .obtain ⟨s',le⟩:=s.growIn h e sz xs (C8 xs d ys) hh b c hb (by rw [i]; omega) (by rw [i]; omega) (by rw [i]; omega) _ y f;exact ⟨_,k,le,s'⟩
theorem Ahx {σ:A1} {ι:Br} {H:Hp} {F:A1} {W:World} (s:St σ ι H F W w) {h:Nat} {e:TypeId} {sz:Nat} {xs:List AV} (hh:H h = .rows e sz xs) {off len:Nat} {v:Value} (hv:Ft (ι h) sz off len v) (L:off+len<=xs.length) (n:Nat) (J:n<=len) : ∃(B5:List Value) (g:Nat->Nat->Value),(∃p c,v = .slice p len c)/\(∀d,(Builtin.firstCells sz n v).run P {w with drawn:=d} = .ok B5.toArray {w with drawn:=d})/\Pp σ sz ((xs.drop off).take n) B5 g:=by
 have l:((xs.drop off).take n).length=n:=by simp; omega
 unfold Ft at hv;split at hv
 .obtain ⟨rfl,rfl,rfl⟩:=hv;obtain rfl:n=0:=ω;refine ⟨[],λ_ _=>undef,⟨none,0,rfl⟩,λd=>by simp [Builtin.firstCells],⟨ψ,(λi x h=>by simp at h),(λi x j c h=>by simp at h),(λi j h=>by simp at h)⟩⟩
 .rename_i b y hb;obtain ⟨G,rfl⟩:=hv;obtain ⟨C,E,D,I,g,B,A,z⟩:=s.rowsAt hh hb;have k:((C.toList.drop (off*sz)).take (n*sz)).length=n*sz:=(by have h1:(off+n)*sz<=y*sz:=Nat.mul_le_mul_right _ ω;rw [Nat.add_mul] at h1;rw [List.length_take,List.length_drop,Array.length_toList,D]; omega);have q:∀(i:Nat) (x:AV),((xs.drop off).take n)[i]? = some x->i<n/\xs[off+i]? = some x:=(by intro i x hx;have f:i<n:=(by have:=(List.getElem?_eq_some_iff.1 hx).1; omega);rw [List.getElem?_take_of_lt f,List.getElem?_drop] at hx;exact ⟨f,hx⟩);refine ⟨(C.toList.drop (off*sz)).take (n*sz),λi j=>g (off+i) j,⟨_,_,rfl⟩,λd=>?_,⟨by rw [k,l],?_,?_,?_⟩⟩
  .have hb':({w with drawn:=d}:World).heap[b]? = some (.cells C e (0,0)):=E;have:=run_loadCells_list (P:=P) {w with drawn:=d} ⟨b,off*sz,none⟩ ((C.toList.drop (off*sz)).take (n*sz)) (by intro j u hj;have f:j<n*sz:=(by have:=(List.getElem?_eq_some_iff.1 hj).1; omega);rw [List.getElem?_take_of_lt f,List.getElem?_drop,Array.getElem?_toList] at hj;rw [I2,Ig hb']; exact hj);rw [k] at this;simp only [Builtin.firstCells];exact this
  .intro i x hx; exact B _ x (q i x hx).2
  .intro i x j c hx hj; exact A _ x j c (q i x hx).2 hj
  .intro i j hi hj;rw [l] at hi;have h1:(i+1)*sz<=n*sz:=Nat.mul_le_mul_right _ ω;rw [Nat.add_mul] at h1;rw [List.getElem?_take_of_lt ω,List.getElem?_drop,Array.getElem?_toList];have:=z (off+i) j ω hj;rw [Nat.add_mul] at this;rw [<-this]; congr 1; omega
 .exact hv.elim
theorem Ahy {σ:A1} {ι:Br} {H:Hp} {F:A1} {W:World} (s:St σ ι H F W w) {t t' ty e:TypeId} {i:TI} {u':TypeDesc} (ht:P.underlying t=some (.slice e)) (M:P.underlying t'=some u') (L:(∃e',u' = .slice e')\/u' = .string) (he:Gy P e=some i) (Z:0<i.size) (S:i.zero.length=i.size) {h:Nat} {xs ys:List AV} (hh:H h = .rows e i.size xs) {len:Nat} (hl:len<=xs.length) {v E:Value} (hv:Ft (ι h) i.size 0 len v) (Y:1<=i.bytes) (hb:(xs.length+ys.length)*i.bytes<=140737488355328) {B5:List Value} {g:Nat->Nat->Value} (hs:Jl P w E i.size ys.length B5) (D:Pp σ i.size ys B5 g) : ∃(ι':Br) (v':Value) (w':World),(Builtin.append_ #[t,t'] ty #[v,E]).run P w = .ok v' w'/\Le σ ι H σ ι' (A4 H h (.rows e i.size (C8 xs len ys)))/\St σ ι' (A4 H h (.rows e i.size (C8 xs len ys))) F W w' /\ Ft (ι' h) i.size 0 (len+ys.length) v':=by
 obtain ⟨R,u,z,k1,k2,k3,N,k5,k6,k7⟩:=D0 he;have a8:xs.length+ys.length<=140737488355328:=by have:(xs.length+ys.length)*1<=(xs.length+ys.length)*i.bytes:=Nat.mul_le_mul_left _ Y;omega
 by_cases B:len=xs.length
 .subst B;have e0:C8 xs xs.length ys=xs++ys:=(by unfold C8;rw [List.take_length,List.drop_eq_nil_of_le ω,List.append_nil]);rw [e0];exact Yg (P:=P) (ty:=ty) s ht M L he Z S hh hv Y hb hs D.el D.cc D.at_ (D.one Z)
 have l:=s.obj h;unfold Ci at l; rw [hh] at l;obtain ⟨_,_,l⟩:=l;rcases l with ⟨_,e2⟩ | ⟨b,f,C,e1,p1,p2,p3,p4,p5,p6⟩
 .subst e2; simp only [List.length_nil,Nat.le_zero] at hl; exact (B (by rw [hl]; rfl)).elim
 rw [e1] at hv;obtain ⟨aa,rfl⟩:=hv;by_cases I:len+ys.length<=f
 .obtain ⟨w',a6,le,s'⟩:=Acv (P:=P) s hh e1 hl I ω Z D;have hr:=Ahw (P:=P) (ty:=ty) (w:=w) ht M L k1 ⟨b,0,none⟩ len f ys.length E B5 (by rw [N]; exact hs) I (by rw [I2,Nat.zero_add,N]; exact a6);refine ⟨ι,_,_,by simpa using hr,le,s',?_⟩;rw [e1];exact ⟨ω,ψ⟩
 .have A:(C.toList.take (len*i.size)).length=len*i.size:=(by have:C.toList.length=f*i.size:=(by rw [Array.length_toList,p4]);rw [List.length_take,this];exact Nat.min_eq_left (Nat.mul_le_mul_right _ ω));have U:Jl P w (.slice (some ⟨b,0*i.size,none⟩) len (f-0)) R.size len (C.toList.take (len*i.size)):=(by refine ⟨λd=>by simp [Builtin.lenOf],λd=>?_,by rw [N]; exact A⟩;have hb':({w with drawn:=d}:World).heap[b]? = some (.cells C e (0,0)):=p3;have:=run_loadCells_list (P:=P) {w with drawn:=d} ⟨b,0,none⟩ (C.toList.take (len*i.size)) (by intro j u hj;have y:j<len*i.size:=(by have:=(List.getElem?_eq_some_iff.1 hj).1; omega);rw [List.getElem?_take_of_lt y,Array.getElem?_toList] at hj;rw [I2,Nat.zero_add,Ig hb']; exact hj);rw [A] at this;simp only [Builtin.firstCells,Nat.zero_mul,N];exact this);have hr:=Acu (P:=P) (ty:=ty) (w:=w) ht M L k1 k3 (some ⟨b,0*i.size,none⟩) len (f-0) ys.length E _ B5 (by rw [N]; exact hs) U ω ω (by rw [k5];exact Nat.le_trans (Nat.mul_le_mul_right _ ω) hb);have hge:=Ye w (len+ys.length) (f-0) e;have a1:z.cells.size=i.size:=(by rw [<-S,k6]; simp);have J:∀n,(Builtin.zeroCells z.cells n).size=n*i.size:=(by intro n; simp [Builtin.zeroCells,a1]);have V:(C.toList.take (len*i.size)++B5).length=(len+ys.length)*i.size:=(by rw [List.length_append,A,D.len,Nat.add_mul]);have e0:C8 xs len ys=xs.take len++ys:=(by unfold C8;rw [List.drop_eq_nil_of_le ω,List.append_nil]);have G:(xs.take len).length=len:=(by rw [List.length_take]; omega);have a7:Gx σ i.size (xs.take len) C:=(by obtain ⟨g,r1,r2,r3⟩:=p6;have X:∀(q:Nat) (x:AV),(xs.take len)[q]? = some x->q<len/\xs[q]? = some x:=(by intro q x hx;have y:q<len:=(by have:=(List.getElem?_eq_some_iff.1 hx).1; omega);rw [List.getElem?_take_of_lt y] at hx;exact ⟨y,hx⟩);exact ⟨g,λq x hx=>r1 q x (X q x hx).2,λq x j c hx hj=>r2 q x j c (X q x hx).2 hj,λq j hq hj=>r3 q j ω hj⟩);obtain ⟨s',le⟩:=(s.drew (w.drawn+1)).newRows h e i.size (xs.take len++ys) (grownCap w (len+ys.length) (f-0) e) ((C.toList.take (len*i.size)++B5).toArray++Builtin.zeroCells z.cells (grownCap w (len+ys.length) (f-0) e-(len+ys.length))) (.inr ⟨e,i.size,xs,hh,by simp; omega⟩) Z (by rw [List.length_append,G]; omega) (by rw [List.length_append,G]; exact hge) (by rw [Array.size_append,J,List.size_toArray,V,<-Nat.add_mul,Nat.add_sub_cancel' hge]) (by
    refine Gx.append a7 g D.el D.cc ?_ ?_
    .intro k hk;rw [G] at hk;rw [Array.getElem?_append_left (by rw [List.size_toArray,V,Nat.add_mul]; omega),List.getElem?_toArray,List.getElem?_append_left ω,List.getElem?_take_of_lt hk,Array.getElem?_toList]
    .intro i' j hi hj;rw [G];have y:i' * i.size+j<B5.length:=(by have:(i' + 1)*i.size<=ys.length*i.size:=Nat.mul_le_mul_right _ ω;rw [Nat.add_mul] at this; rw [D.len]; omega);have e2:(len+i')*i.size+j=len*i.size+(i' * i.size+j):=(by rw [Nat.add_mul]; omega);rw [Array.getElem?_append_left (by rw [List.size_toArray,List.length_append,A]; omega),List.getElem?_toArray,e2,List.getElem?_append_right ω,A,Nat.add_sub_cancel_left];exact D.at_ i' j hi hj);rw [e0];refine ⟨_,_,_,hr,le,s',?_⟩;rw [Ce];exact ⟨ω,by rw [Nat.zero_mul]; rfl⟩
theorem Ahz {σ:A1} {ι:Br} {H:Hp} {h:Nat} {e:TypeId} {sz:Nat} {xs:List AV} {len:Nat} {v:Value} (g:len<=xs.length) (hv:Ft (ι h) sz 0 len v):Conc σ ι (A4 H h (.rows e sz xs)) (.arr h xs.length 0 len) v:=by
 have b:D5 v=true:=by
  unfold Ft at hv;split at hv
  .rw [hv.1]; rfl
  .rw [hv.2]; rfl
  .exact hv.elim
 refine .arr _ _ _ _ v (by rw [Ce]; intro e; cases e) (λi f c e'=>?_) b;rw [Ce] at e'; cases e';exact ⟨Nat.le_refl _,λ_=>hv⟩
theorem Ash {T:Cl} (L:Cm P T) {t j:TypeId} {x y:Operand} {i i' l:TI} {e e':TypeId} {h k len:Nat} {xs ys:List AV} (E:o.op = .call {callee:=.builtin .append,args:=#[x,y],argTypes:=#[t,j]}) (ht:T t=some i) (hd:i.d = .slice e) (B:T j=some l) (I:l.d = .slice e') (V:T e=some i') (M:0<i'.size) (q:i'.zero.length=i'.size) (J:1<=i'.bytes) (hx:ρ x = .arr h k 0 len) (G:xs.length=k) (hl:len<=k) (hy:ρ y = .sl i'.size ys) (hb:(xs.length+ys.length)*i'.bytes<=140737488355328) : B0 P o ρ ⟨.arr h (C8 xs len ys).length 0 (len+ys.length),[(h,.rows e i'.size xs)],[(h,.rows e i'.size (C8 xs len ys))]⟩:=by
 intro σ ι H F W w a next Q s f D hk
 have hh:H h = .rows e i'.size xs:=D (h,.rows e i'.size xs) ψ;have c:=f x (by simp [E,Op.operands,Call.operands]);have b:=f y (by simp [E,Op.operands,Call.operands]);rw [hx] at c; rw [hy] at b;have hv:=c.arr_inv hh G;obtain ⟨Z,A,X⟩:=Ir (L t i ht) hd;obtain ⟨Y,z,e2⟩:=Ir (L j l B) I;subst X; subst e2;obtain ⟨B5,g,N,h1,h2,h3⟩:=Yf (P:=P) s M b.sl_inv;obtain ⟨R,S,w',U,le,s',u⟩:=Ahy (P:=P) (ty:=o.type) s A z (.inl ⟨_,rfl⟩) (L e i' V) M q hh ω hv J hb N ⟨N.size,h1,h2,h3⟩;exact Et (R0 E rfl U) (hk σ R S w' le s' (Ahz (by rw [Po ω]; omega) u))
theorem Asi {t s ty e:TypeId} {i:TypeInfo} {l:TypeDesc} (ht:P.underlying t=some (.slice e)) (j:P.underlying s=some l) (h:(∃e',l = .slice e')\/l = .string) (hi:P.info? e=some i) (p:Option Addr) (c f:Nat) (g:Value) (u:Jl P w g i.size 0 []) (k:c<=f) : (Builtin.append_ #[t,s] ty #[.slice p c f,g]).run P w = .ok (.slice p c f) w:=by
 have h1:=u.len w.drawn;have h2:=u.cells w.drawn;have x:({w with drawn:=w.drawn}:World)=w:=rfl;rw [x] at h1 h2;cases p with
 | none=>rcases h with ⟨e',rfl⟩ | rfl <;> simp [Builtin.append_,run_underlying ht,run_underlying j,sizeOf,typeInfo,hi,h1,k,h2]
 | some b=>have q:(storeCells (b.add (c*i.size)) []).run P w = .ok () w:=(by rw [storeCells]; rfl);rcases h with ⟨e',rfl⟩ | rfl <;> simp [Builtin.append_,run_underlying ht,run_underlying j,sizeOf,typeInfo,hi,h1,k,h2,q]
theorem Asj {T:Cl} (N:Cm P T) {t k:TypeId} {x y:Operand} {i i' z:TI} {e e':TypeId} {sz:Nat} {xs:List AV} (I:o.op = .call {callee:=.builtin .append,args:=#[x,y],argTypes:=#[t,k]}) (ht:T t=some i) (hd:i.d = .slice e) (D:T k=some z) (M:z.d = .slice e') (he:T e=some i') (Z:0<i'.size) (hx:ρ x = .sl sz xs) (hy:ρ y = .sl i'.size []) : B0 P o ρ ⟨.sl sz xs,[],[]⟩:=by
 intro σ ι H F W w a next Q s h a1 hk
 have c:=h x (by simp [I,Op.operands,Call.operands]);have f:=h y (by simp [I,Op.operands,Call.operands]);rw [hx] at c; rw [hy] at f;obtain ⟨u1,B,e1⟩:=Ir (N t i ht) hd;obtain ⟨u2,A,e2⟩:=Ir (N k z D) M;subst e1; subst e2;obtain ⟨B5,g,G,_,_,_⟩:=Yf (P:=P) s Z f.sl_inv;have J:B5 = []:=by have:=G.size;simp at this;exact this
 subst J;obtain ⟨p,n,cap,hv,L⟩:∃p n cap,a.eval x = .slice p n cap/\n<=cap:=by
  rcases c.sl_inv.sl_inv with ⟨rfl,p,cap,hv⟩ | ⟨b,off,cap,C,E,fr,g,hv,hσ,G,a6,hC,hl,j⟩
  .exact ⟨_,_,_,hv,Nat.zero_le _⟩
  .exact ⟨_,_,_,hv,j⟩
 obtain ⟨u,u',z',q,Y,X,l,V,U,S⟩:=D0 (N e i' he);have R:=Asi (P:=P) (w:=w) (ty:=o.type) B A (.inl ⟨_,rfl⟩) q p n cap (a.eval y) (by rw [l]; exact G) L;rw [<-hv] at R;exact Et (R0 I rfl R) (hk σ ι _ w (Le.refl _ _ _) s c)
theorem Ask {T:Cl} (X:Cm P T) {t A:TypeId} {x y:Operand} {i i' B:TI} {e e':TypeId} {h k len Y f b:Nat} {xs:List AV} (N:o.op = .call {callee:=.builtin .append,args:=#[x,y],argTypes:=#[t,A]}) (ht:T t=some i) (hd:i.d = .slice e) (J:T A=some B) (U:B.d = .slice e') (he:T e=some i') (hz:0<i'.size) (D:i'.zero.length=i'.size) (V:1<=i'.bytes) (hx:ρ x = .arr h k 0 len) (S:xs.length=k) (hl:len<=k) (hy:ρ y = .arr h Y f b) (R:xs.length=Y) (a1:f+b<=k) (hb:(xs.length+b)*i'.bytes<=140737488355328) : B0 P o ρ ⟨.arr h (C8 xs len ((xs.drop f).take b)).length 0 (len+b),[(h,.rows e i'.size xs)],[(h,.rows e i'.size (C8 xs len ((xs.drop f).take b)))]⟩:=by
 intro σ ι H F W w a next Q s z L hk
 have hh:H h = .rows e i'.size xs:=L (h,.rows e i'.size xs) ψ;have u:=z x (by simp [N,Op.operands,Call.operands]);have q:=z y (by simp [N,Op.operands,Call.operands]);rw [hx] at u; rw [hy] at q;have hv:=u.arr_inv hh S;have E:=q.arr_inv hh R;obtain ⟨u1,I,e1⟩:=Ir (X t i ht) hd;obtain ⟨u2,G,e2⟩:=Ir (X A B J) U;subst e1; subst e2;have j:((xs.drop f).take b).length=b:=by simp; omega
 obtain ⟨B5,g,⟨p,c,M⟩,hf,Z⟩:=Ahx (P:=P) s hh E ω b (Nat.le_refl _);have hs:Jl P w (a.eval y) i'.size ((xs.drop f).take b).length B5:=by
  refine ⟨λd=>?_,λd=>?_,Z.len⟩
  .rw [M,j]; simp [Builtin.lenOf]
  .rw [j]; exact hf d
 obtain ⟨ι',v',w',hr,le,s',l⟩:=Ahy (P:=P) (ty:=o.type) s I G (.inl ⟨_,rfl⟩) (X e i' he) hz D hh ω hv V (by rw [j]; exact hb) hs Z;rw [j] at l;exact Et (R0 N rfl hr) (hk σ ι' v' w' le s' (Ahz (by rw [Po ω,j]; omega) l))
theorem Acw {t f ty:TypeId} {x y:Operand} (h:o.op = .call {callee:=.builtin .copy,args:=#[x,y],argTypes:=#[t,f]}) (b:o.type=ty) {c:Value} (g:(Builtin.copy_ #[t,f] ty #[a.eval x,a.eval y]).run P w = .ok c w') : (execOp a.eval o).run P w = .ok (.value c) w':=by subst b;simp [execOp,h,resolve,invoke,builtin,g]
theorem Asl {T:Cl} (X:Cm P T) {t t':TypeId} {x y:Operand} {i i':TI} {e:TypeId} {h k off len U j f:Nat} {xs:List AV} (J:o.op = .call {callee:=.builtin .copy,args:=#[x,y],argTypes:=#[t,t']}) (ht:T t=some i) (hd:i.d = .slice e) (he:T e=some i') (hz:0<i'.size) (hx:ρ x = .arr h k off len) (S:xs.length=k) (hl:off+len<=k) (hy:ρ y = .arr h U j f) (R:xs.length=U) (a6:j+f<=k) : B0 P o ρ ⟨.val (.int .i64 (min f len:Nat)),[(h,.rows e i'.size xs)],[(h,.rows e i'.size (C8 xs off ((xs.drop j).take (min f len))))]⟩:=by
 intro σ ι H F W w a next Q s E N hk
 have hh:H h = .rows e i'.size xs:=N (h,.rows e i'.size xs) ψ;have D:=E x (by simp [J,Op.operands,Call.operands]);have B:=E y (by simp [J,Op.operands,Call.operands]);rw [hx] at D; rw [hy] at B;have hv:=D.arr_inv hh S;have L:=B.arr_inv hh R;obtain ⟨u1,z,e1⟩:=Ir (X t i ht) hd;subst e1;have A:=Ks (X e i' he);have u:((xs.drop j).take (min f len)).length=min f len:=by simp; omega
 obtain ⟨B5,g,⟨p,c,l⟩,q,hn⟩:=Ahx (P:=P) s hh L ω (min f len) ω;have q:=q w.drawn;have ew:({w with drawn:=w.drawn}:World)=w:=rfl;rw [ew,l] at q;have V:xs.length<=140737488355328:=by have:=s.obj h;unfold Ci at this; rw [hh] at this;exact this.2.1
 have G:Nat.min f len=min f len:=rfl;unfold Ft at hv;split at hv
 .obtain ⟨hv,rfl,rfl⟩:=hv;have Y:C8 xs 0 ((xs.drop j).take (min f 0))=xs:=(by simp [C8]);refine Et (v:=.int .i64 ((min f 0:Nat):Int)) (Acw J rfl ?_) (hk σ ι _ w ?_ ?_ (.of_val _))
  .simp only [Builtin.copy_,hv,l];simp [run_underlying z,Builtin.lenOf,A,q,goInt];have I:=q;simp at I;simp [I]
  .show Le σ ι H σ ι (A4 H h (.rows e i'.size _)); rw [Y,<-hh,Hi]; exact Le.refl _ _ _
  .show St σ ι (A4 H h (.rows e i'.size _)) F W w; rw [Y,<-hh,Hi]; exact s
 .rename_i b Z hb;obtain ⟨a1,hv⟩:=hv;obtain ⟨w',M,le,s'⟩:=Acv (P:=P) s hh hb (d:=off) ω (by rw [u]; omega) (by rw [u]; omega) hz hn;refine Et (v:=.int .i64 ((min f len:Nat):Int)) (Acw J rfl ?_) (hk σ ι _ w' le s' (.of_val _));simp only [Builtin.copy_,hv,l];simp [run_underlying z,Builtin.lenOf,A,q,M,goInt,G]
 .exact hv.elim
theorem Asm {T:Cl} (L:Cm P T) {t M:TypeId} {x y:Operand} {i i':TI} {e:TypeId} {sz h I f g:Nat} {E:TypeId} {xs:List AV} (D:o.op = .call {callee:=.builtin .copy,args:=#[x,y],argTypes:=#[t,M]}) (ht:T t=some i) (hd:i.d = .slice e) (N:T e=some i') (hx:ρ x = .sl sz []) (hy:ρ y = .arr h I f g) (G:xs.length=I) : B0 P o ρ ⟨.val (.int .i64 0),[(h,.rows E i'.size xs)],[]⟩:=by
 intro σ ι H F W w a next Q s z A hk
 have hh:H h = .rows E i'.size xs:=A (h,.rows E i'.size xs) ψ;have u:=z x (by simp [D,Op.operands,Call.operands]);have l:=z y (by simp [D,Op.operands,Call.operands]);rw [hx] at u; rw [hy] at l;have b:=l.arr_inv hh G;obtain ⟨_,q,cap,hv⟩:=u.sl_inv.sl_len;obtain ⟨S,j,R⟩:=Ir (L t i ht) hd;subst R;have k:=Ks (L e i' N);obtain ⟨p,c,m,B⟩:∃p c m,a.eval y = .slice p m c:=by
  unfold Ft at b;split at b
  .exact ⟨_,_,_,b.1⟩
  .exact ⟨_,_,_,b.2⟩
  .exact b.elim
 have J:(Builtin.firstCells i'.size 0 (.slice p m c)).run P w = .ok #[] w:=by cases p with| none=>simp [Builtin.firstCells]| some a=>simp [Builtin.firstCells,loadCells,loadCellsFrom]
 refine Et (v:=.int .i64 0) (Acw D rfl ?_) (hk σ ι _ w (Le.refl _ _ _) s (.of_val _));simp only [Builtin.copy_,hv,B];cases q with| none=>simp [run_underlying j,Builtin.lenOf,k,J,goInt]| some a=>simp [run_underlying j,Builtin.lenOf,k,J,goInt,storeCells]
theorem Asn {T:Cl} (N:Cm P T) {t:TypeId} {x:Operand} {lo hi:Option Operand} {i i':TI} {e:TypeId} {b k off len:Nat} {E:TypeId} {sz h:Nat} {xs:List AV} {l:Nat} (A:o.op = .slice t x lo hi none) (ht:T t=some i) (hd:i.d = .slice e) (X:T e=some i') (hx:ρ x = .arr b k off len) (G:xs.length=k) (B:Gz ρ 0 lo=some (l:Int)) (I:Gz ρ (len:Int) hi=some (l:Int)) (h2:l<=len) : B0 P o ρ ⟨.sl h [],[(b,.rows E sz xs)],[]⟩:=by
 intro σ ι H F W w a next Q s g j hk
 have hh:H b = .rows E sz xs:=j (b,.rows E sz xs) ψ;have hp:=g x (by simp [A,Op.operands]);rw [hx] at hp;have hv:=hp.arr_inv hh G;obtain ⟨M,u,z,k1,R,k3,k4,Z,Y,L⟩:=D0 (N t i ht);rw [hd] at L; subst L;have S:=Ks (N e i' X);have J:∀(cap:Nat),len<=cap->∀w,(Instr.sliceBounds true len cap (lo.map a.eval) (hi.map a.eval) none).run P w = .ok (l,l,cap) w :=
  λcap f w=>Ya B I (λy hy=>g y (by rw [A]; exact Yb hy)) (Nat.le_refl _) ω w
 have key:∀(p:Option Addr) (cap:Nat),len<=cap->a.eval x = .slice p len cap->∃q c,(execOp a.eval o).run P w = .ok (.value (.slice q 0 c)) w:=by intro p cap f hv;have:=J cap f w;simp only [execOp,A,hv,Instr.sliceAt,Instr.slice,Sem.run_bind,run_underlying R,Result.andThen_ok,Option.map_none,this,S w,Sem.run_pure,Nat.sub_self];exact ⟨_,_,rfl⟩
 have:∃q c,(execOp a.eval o).run P w = .ok (.value (.slice q 0 c)) w:=by
  unfold Ft at hv;split at hv
  .obtain ⟨hv,_,D⟩:=hv;exact key none 0 ω (by rw [D]; exact hv)
  .obtain ⟨V,hv⟩:=hv;exact key _ _ ω hv
  .exact hv.elim
 obtain ⟨q,c,U⟩:=this;exact Et U (hk σ ι _ w (Le.refl _ _ _) s (.cc (.nil _ _ _)))
theorem Yi {t ty:TypeId} {x:Operand} (g:o.op = .call {callee:=.builtin .clear,args:=#[x],argTypes:=#[t]}) (b:o.type=ty) {c:Value} (f:(Builtin.clear_ #[t] ty #[a.eval x]).run P w = .ok c w') : (execOp a.eval o).run P w = .ok (.value c) w':=by subst b;simp [execOp,g,resolve,invoke,builtin,f]
theorem Aso {T:Cl} (hT:Cm P T) {t:TypeId} {x:Operand} {i i':TI} {e:TypeId} {h k off len:Nat} {xs:List AV} (I:o.op = .call {callee:=.builtin .clear,args:=#[x],argTypes:=#[t]}) (ht:T t=some i) (hd:i.d = .slice e) (he:T e=some i') (hz:0<i'.size) (y:Jk i'.size (Eo i')=true) (B:(Eo i').cells=i'.zero.map .val) (hx:ρ x = .arr h k off len) (a1:xs.length=k) (hl:off+len<=k) : B0 P o ρ ⟨.tup [],[(h,.rows e i'.size xs)],[(h,.rows e i'.size (C8 xs off (List.replicate len (Eo i'))))]⟩:=by
 intro σ ι H F W w a next Q s U S hk
 have hh:H h = .rows e i'.size xs:=S (h,.rows e i'.size xs) ψ;have D:=U x (by simp [I,Op.operands,Call.operands]);rw [hx] at D;have hv:=D.arr_inv hh a1;obtain ⟨u1,u,e1⟩:=Ir (hT t i ht) hd;subst e1;obtain ⟨M,u',f,L,ad,J,ac,ab,A,aa⟩:=D0 (hT e i' he);have N:(zeroValue e).run P w = .ok f w:=by simp [zeroValue,typeInfo,L,J]
 have g:f.cells.size=i'.size:=by have:=congrArg List.length B;rw [(Ls y).1,List.length_map,A,Array.length_toList] at this;exact this.symm
 have a7:xs.length<=140737488355328:=by have:=s.obj h;unfold Ci at this; rw [hh] at this;exact this.2.1
 have l:∀(σ:A1) (ι:Br) (H:Hp),Conc σ ι H (.tup []) (.tuple #[]):=λσ ι H=>.tup [] #[] rfl (λi c v h _=>by simp at h);unfold Ft at hv;split at hv
 .obtain ⟨hv,rfl,rfl⟩:=hv;have G:C8 xs 0 (List.replicate 0 (Eo i'))=xs:=(by simp [C8]);refine Et (v:=.tuple #[]) (Yi I rfl ?_) (hk σ ι _ w ?_ ?_ (l _ _ _))
  .simp only [Builtin.clear_,hv];simp [run_underlying u]
  .show Le σ ι H σ ι (A4 H h (.rows e i'.size _)); rw [G,<-hh,Hi]; exact Le.refl _ _ _
  .show St σ ι (A4 H h (.rows e i'.size _)) F W w; rw [G,<-hh,Hi]; exact s
 .rename_i b a8 hb;obtain ⟨ae,hv⟩:=hv;by_cases Z:len=0
  .subst Z;have G:C8 xs off (List.replicate 0 (Eo i'))=xs:=(by simp [C8]);refine Et (v:=.tuple #[]) (Yi I rfl ?_) (hk σ ι _ w ?_ ?_ (l _ _ _))
   .simp only [Builtin.clear_,hv];simp [run_underlying u]
   .show Le σ ι H σ ι (A4 H h (.rows e i'.size _)); rw [G,<-hh,Hi]; exact Le.refl _ _ _
   .show St σ ι (A4 H h (.rows e i'.size _)) F W w; rw [G,<-hh,Hi]; exact s
  .have z:∀q,q<len*i'.size->(Builtin.zeroCells f.cells len).toList[q]? = f.cells[q % i'.size]?:=(by intro q hq;have hm:q % i'.size<f.cells.size:=(by rw [g]; exact Nat.mod_lt _ hz);have V:f.cells[q % i'.size]! = f.cells[q % i'.size]:=(by simp [hm]);simp [Builtin.zeroCells,hq,g,V,hm]);have hn:Pp σ i'.size (List.replicate len (Eo i')) (Builtin.zeroCells f.cells len).toList (λ_ j=>(f.cells[j]?).getD undef):=by
    refine ⟨by simp [Builtin.zeroCells,g],?_,?_,?_⟩
    .intro j x' hj;have:=List.mem_of_getElem? hj;simp at this;rw [this.2]; exact (Ls y).1
    .intro j x' q c' hj hq;have:=List.mem_of_getElem? hj;simp at this;rw [this.2] at hq;have a6:=(Ls y).2 c' (List.mem_of_getElem? hq);rw [B,List.getElem?_map,A,Array.getElem?_toList] at hq;cases hv:f.cells[q]? with| none=>rw [hv] at hq; simp at hq| some v=>rw [hv] at hq; simp at hq; subst hq;exact ⟨.val v,a6⟩
    .intro j q hj hq;have hj':j<len:=(by simpa using hj);have X:j*i'.size+q<len*i'.size:=(by have:(j+1)*i'.size<=len*i'.size:=Nat.mul_le_mul_right _ ω;rw [Nat.add_mul] at this; omega);rw [z _ X];have:(j*i'.size+q) % i'.size=q:=(by rw [Nat.mul_comm,Nat.mul_add_mod,Nat.mod_eq_of_lt hq]);rw [this];have E:q<f.cells.size:=ω;simp [E]
   obtain ⟨w',R,le,s'⟩:=Acv (P:=P) s hh hb (d:=off) ω (by rw [List.length_replicate]; omega) (by rw [List.length_replicate]; omega) hz hn;refine Et (v:=.tuple #[]) (Yi I rfl ?_) (hk σ ι _ w' le s' (l _ _ _));have Y:∃m,len=m+1:=⟨len-1,ω⟩;obtain ⟨m,rfl⟩:=Y;simp only [Builtin.clear_,hv];simp [run_underlying u,N,R]
 .exact hv.elim
theorem Asp {T:Cl} (l:Cm P T) {t:TypeId} {x:Operand} {i:TI} {e:TypeId} {sz:Nat} (j:o.op = .call {callee:=.builtin .clear,args:=#[x],argTypes:=#[t]}) (ht:T t=some i) (hd:i.d = .slice e) (hx:ρ x = .sl sz []):B0 P o ρ ⟨.tup [],[],[]⟩:=by
 intro σ ι H F W w a next Q s g k hk
 have b:=g x (by simp [j,Op.operands,Call.operands]);rw [hx] at b;obtain ⟨_,q,cap,hv⟩:=b.sl_inv.sl_len;obtain ⟨y,f,u⟩:=Ir (l t i ht) hd;subst u;refine Et (v:=.tuple #[]) (Yi j rfl ?_) (hk σ ι _ w (Le.refl _ _ _) s (.tup [] #[] rfl (λi c v h _=>by simp at h)));simp only [Builtin.clear_,hv];cases q <;> simp [run_underlying f]
end
end Go.Ab
namespace Go.Ab
theorem St.newMap {σ:A1} {ι:Br} {H:Hp} {F:A1} {W w:World} (s:St σ ι H F W w) (h:Nat) (j:H h = .none) : St σ (A4 ι h (.box w.heap.size)) (A4 H h (.map [])) F W (w.alloc (.map #[] 0))/\Le σ ι H σ (A4 ι h (.box w.heap.size)) (A4 H h (.map [])):=by
 have g:ι h = .none:=by have:=s.obj h; unfold Ci at this; rw [j] at this; exact this
 have le:Le σ ι H σ (A4 ι h (.box w.heap.size)) (A4 H h (.map [])):=Le.upd (A1.le_refl σ) h _ _ (by rw [g,j]; exact HLe.of_none);obtain ⟨c,f⟩:=s.fresh;refine ⟨s.touch h w.heap.size (λx e=>Cz _ _ e) (λx e=>Cz _ _ e) le ?_ (λ_ _=>rfl) (λo i=>by rw [c] at i; cases i) ?_ f ?_ ?_ rfl rfl rfl,le⟩
 .intro b hb;show (w.heap.push _)[b]? = _;rw [Array.getElem?_push,if_neg hb]
 .intro x e k hb;have:=(s.block k hb).1;omega
 .intro b _ hb;rw [Ce] at hb; simp [Loc.block?] at hb;exact .inl hb.symm
 .unfold Ci;rw [Ce];refine ⟨w.heap.size,#[],0,Ce _ _ _,c,f,?_,rfl,ψ⟩;show (w.heap.push _)[w.heap.size]? = _;simp
theorem St.setMap {σ:A1} {ι:Br} {H:Hp} {F:A1} {W w:World} (s:St σ ι H F W w) (h:Nat) (es c:List (AV×AV)) (hh:H h = .map es) (b:Nat) (hb:ι h = .box b) (g:Array MapEntry) (i:Nat) (y:Pm σ c g) : St σ ι (A4 H h (.map c)) F W {w with heap:=w.heap.setIfInBounds b (.map g i)}/\Le σ ι H σ ι (A4 H h (.map c)):=by
 have j:=s.obj h;unfold Ci at j;rw [hh] at j;obtain ⟨A,M,t,q,h1,h2,h3,h4⟩:=j;rw [hb] at q; cases q;have le:Le σ ι H σ ι (A4 H h (.map c)):=by have:=Le.upd (ι:=ι) (H:=H) (A1.le_refl σ) h (ι h) (.map c) (by rw [hh]; exact ⟨λ_ e=>e,(λ_ e=>by cases e),(λ_ _ _ _ e=>by cases e)⟩);rwa [Hi] at this
 have f:=Go.MapKept.heap_set (w:=w) (o':=.map g i) h3;refine ⟨s.touch h b (λ_ _=>rfl) (λx e=>Cz _ _ e) le (λx e=>f.2 x e) (λ_ _=>rfl) (λo e=>by rw [h1] at e; cases e) ?_ h2 ?_ ?_ rfl rfl rfl,le⟩
 .intro x e u k;exact e (s.inj x h b u (by rw [hh]; rfl) k (by rw [hb]; rfl))
 .intro z _ l;exact .inr ⟨by rw [hh]; rfl,l⟩
 .unfold Ci;rw [Ce];exact ⟨b,g,i,hb,h1,h2,f.1,y⟩
def H6 (s:ByteArray):List (AV×AV)->Nat->Option (Option (Nat×AV))
 | [],_=>some none
 | p::es,i=> match p.1 with
  | .val (.string t)=>bif s==t then some (some (i,p.2)) else H6 s es (i+1)
  | _=>none
def Yj (s:ByteArray) (v:AV) (es:List (AV×AV)):Option (List (AV×AV)) := match H6 s es 0 with
 | none=>none
 | some none=>some (es++[(.val (.string s),v)])
 | some (some p)=>some (es.set p.1 (.val (.string s),v))
theorem Acx {σ:A1} {s:ByteArray}:∀(es:List (AV×AV)) (L:List MapEntry) (i:Nat) (r:Option (Nat×AV)),L.length=es.length ->
  (∀(j:Nat) (p:AV×AV) (e:MapEntry),es[j]? = some p->L[j]? = some e->CC σ p.1 e.key/\CC σ p.2 e.val)->H6 s es i=some r ->
  (r=none/\Instr.findNow .string (.string s) L i=some none)\/∃j v e,r=some (i+j,v)/\Instr.findNow .string (.string s) L i=some (some (i+j,e.val))/\L[j]? = some e/\e.key = .string s/\CC σ v e.val/\j<es.length
 | [],[],i,r,g,h,b=>by
  simp only [H6] at b; cases b
  exact .inl ⟨rfl,rfl⟩
 | [],e::L,i,r,g,h,b=>by simp at g
 | p::es,[],i,r,g,h,b=>by simp at g
 | p::es,e::L,i,r,g,h,b=>by
  obtain ⟨hk,hv⟩:=h 0 p e rfl rfl
  simp only [H6] at b
  split at b
  .rename_i t hp
   rw [hp] at hk
   have f:e.key = .string t:=by
    generalize e.key=q at hk
    cases hk; rfl
   cases c:s==t with
   | true=>
    rw [c] at b
    cases b
    have l:s=t:=(Go.MapKept.bytes_beq s t).1 c
    refine .inr ⟨0,p.2,e,rfl,?_,rfl,?_,hv,ψ⟩
    .unfold Instr.findNow
     rw [f]
     simp [Instr.sameNow,c]
    .rw [f,l]
   | false=>
    rw [c] at b
    have step:Instr.findNow .string (.string s) (e::L) i=Instr.findNow .string (.string s) L (i+1):=by
     conv=>lhs; unfold Instr.findNow
     rw [f]
     simp [Instr.sameNow,c]
    rcases Acx es L (i+1) r (by simpa using g) (λj k e' h1 h2=>h (j+1) k e' (by simpa using h1) (by simpa using h2)) b with ⟨h1,h2⟩ | ⟨j,v,e',h1,h2,h3,h4,x,u⟩
    .exact .inl ⟨h1,by rw [step]; exact h2⟩
    .exact .inr ⟨j+1,v,e',by rw [h1]; congr 2; omega,by rw [step,h2]; congr 3; omega,by simpa using h3,h4,x,by simpa using u⟩
  .cases b
section
variable {P:Program} {o:Oper} {ρ:Operand->AV} {a:Act} {w w':World} {next:Act->World->Prop} {Q:Exit->Act->World->Prop}
def Hj:List AV->Option (List Value)
 | []=>some []
 | .val v::xs=>(Hj xs).map (v :: ·)
 | _::_=>none
theorem Pq {σ:A1} {ι:Br} {H:Hp}:∀{xs:List AV} {b:List Value} {vs:List Value},Hj xs=some b->vs.length=xs.length->(∀(i:Nat) (c:AV) (v:Value),xs[i]? = some c->vs[i]? = some v->Conc σ ι H c v)->vs=b
 | [],b,vs,h,f,_=>by simp only [Hj] at h; cases h;exact List.length_eq_zero_iff.1 f
 | .val v::xs,b,[],h,f,_=>by simp at f
 | .val v::xs,b,w::vs,h,f,hc=>by simp only [Hj,Option.map_eq_some_iff] at h;obtain ⟨g,h1,rfl⟩:=h;have j:=(hc 0 _ w rfl rfl).val_inv;have e2:=Pq (vs:=vs) h1 (by simpa using f) (λi c u g1 g2=>hc (i+1) c u (by simpa using g1) (by simpa using g2));rw [j,e2]
 | .loc .. :: _,_,_,h,_,_ | .arr .. :: _,_,_,h,_,_ | .el .. :: _,_,_,h,_,_ | .mp .. :: _,_,_,h,_,_ | .ref .. :: _,_,_,h,_,_
 | .sl .. :: _,_,_,h,_,_ | .agg .. :: _,_,_,h,_,_ | .tup .. :: _,_,_,h,_,_ | .fn .. :: _,_,_,h,_,_=>by simp [Hj] at h
def Yl (P:Program) (t:TypeId) (c vs:List Value) (b:Bool):Prop := ∀(w:World) (op:BinOp) (x y:Operand),(eqGuard op t x y (.agg c.toArray) (.agg vs.toArray)).run P w = .ok () w/\(Op.equal t (.agg c.toArray) (.agg vs.toArray)).run P w = .ok b w
theorem Ah0 {op:BinOp} {t s:TypeId} {x y:Operand} {xs ys:List AV} {f vs:List Value} {b c:Bool} (g:o.op = .binOp op t x y s) (hx:ρ x = .agg xs) (hy:ρ y = .agg ys) (h1:Hj xs=some f) (h2:Hj ys=some vs) (hb:Yl P t f vs b) (hc:(op = .eql/\c=b)\/(op = .neq/\c = !b)):B0 P o ρ ⟨.val (.bool c),[],[]⟩ := D6 λσ ι H a w h=>by
  refine ⟨.bool c,?_,.of_val _⟩;have q:=h x (by simp [g,Op.operands]);have l:=h y (by simp [g,Op.operands]);rw [hx] at q; rw [hy] at l;obtain ⟨k,D,B,G⟩:=q.agg_inv;obtain ⟨j,e2,A,E⟩:=l.agg_inv;have g1:k=f.toArray:=(by have:=Pq (vs:=k.toList) h1 (by simpa using B) (λi c v m1 m2=>G i c v m1 (by simpa using m2));rw [<-this]);have g2:j=vs.toArray:=(by have:=Pq (vs:=j.toList) h2 (by simpa using A) (λi c v m1 m2=>E i c v m1 (by simpa using m2));rw [<-this]);subst g1; subst g2;obtain ⟨z,u⟩:=hb w op x y;rcases hc with ⟨rfl,rfl⟩ | ⟨rfl,rfl⟩;all_goals
   simp only [execOp,g,D,e2,Sem.run_bind,z,Result.andThen_ok,binOp,u,Sem.run_pure]
def Acy (P:Program) (s:TypeId) (f:Nat):Option TypeId := match P.underlying s with
 | some (.struct fields)=>(fields[f]?).map (·.type)
 | _=>none
theorem Ah1 {T:Cl} (G:Cm P T) {t z:TypeId} {x:Operand} {f:Nat} {i g:TI} {fs:List (Nat×Nat)} {q:Nat×Nat} {cs:List AV} {r:AV} (E:o.op = .field t x f) (ht:T t=some i) (hd:i.d = .struct fs) (hq:fs[f]? = some q) (y:Acy P t f=some z) (J:T z=some g) (hx:ρ x = .agg cs) (S:(g.isAgg=true/\q.1+g.size<=cs.length/\r = .agg ((cs.drop q.1).take g.size))\/(g.isAgg=false/\cs[q.1]? = some r)):B0 P o ρ ⟨r,[],[]⟩ := D6 λσ ι H a w h=>by
  have hc:=h x (by simp [E,Op.operands]);rw [hx] at hc;obtain ⟨vs,L,N,M⟩:=hc.agg_inv;obtain ⟨_,u,_,_,B,_,_,_,_,I⟩:=D0 (G t i ht);rw [hd] at I;obtain ⟨fields,rfl,R,_⟩:=I;unfold Acy at y;rw [B] at y;simp only [Option.map_eq_some_iff] at y;obtain ⟨fl,g1,g2⟩:=y;have b:q.1=fl.offset:=(by rw [R,List.getElem?_map,Array.getElem?_toList,g1] at hq;simp at hq; rw [<-hq]);have l:=X9 (G z g J) w;have D:=Ks (G z g J) w;subst g2;rcases S with ⟨A,s,rfl⟩ | ⟨A,s⟩
  .refine ⟨.agg (vs.extract fl.offset (fl.offset+g.size)),?_,.agg _ _ (by simp [b] at s ⊢; omega) λj c u m1 m2=>?_⟩
   .simp [execOp,E,L,Instr.field,run_underlying B,g1,asAgg,part,l,A,D,Result.andThen]
   .rw [b] at m1;have hj:j<g.size:=(by have:=(List.getElem?_eq_some_iff.1 m1).1; simp at this; omega);rw [List.getElem?_take_of_lt hj,List.getElem?_drop] at m1;rw [Array.getElem?_extract] at m2;split at m2
    .exact M _ c u m1 m2
    .cases m2
  .have k:q.1<vs.size:=(by rw [N]; exact (List.getElem?_eq_some_iff.1 s).1);have hv:vs[fl.offset]? = some vs[q.1]:=(by rw [<-b]; simp [k]);refine ⟨vs[q.1],?_,M q.1 r _ s (by simp [k])⟩;simp [execOp,E,L,Instr.field,run_underlying B,g1,asAgg,part,l,A,hv,Result.andThen]
theorem Asq {t:TypeId} (h:Nat) (c:o.op = .makeMap t none):B0 P o ρ ⟨.mp h,[(h,.none)],[(h,.map [])]⟩:=by
 intro σ ι H F W w a next Q s hx b hk
 have f:H h = .none:=b (h,.none) ψ;obtain ⟨s',le⟩:=s.newMap h f;refine Et (v:=.map (some w.heap.size)) (w':=w.alloc (.map #[] 0)) ?_ (hk σ _ _ _ le s' (.mp h w.heap.size (Ce _ _ _)));simp [execOp,c,Instr.makeMap,newObj,Sem.run]
theorem Conc.mp_inv {σ:A1} {ι:Br} {H:Hp} {h:Nat} {v:Value} (hc:Conc σ ι H (.mp h) v):∃b,ι h = .box b/\v = .map (some b):=by cases hc with| cc h=>cases h| mp _ b hb=>exact ⟨b,hb,rfl⟩
def R3 (b:Bool) (i:TI):Option (Nat×AV)->AV
 | none=>bif b then .tup [Eo i,.val (.bool false)] else Eo i
 | some p=>bif b then .tup [p.2,.val (.bool true)] else p.2
theorem Ah2 {σ:A1} {ι:Br} {H:Hp} {i:TI} {z:Value} (h1:z.cells.toList=i.zero) (h2:i.isAgg=true->∃vs,z = .agg vs) (h3:i.isAgg=false->D5 z=true):Conc σ ι H (Eo i) z:=by
 cases b:i.isAgg with
 | true=>obtain ⟨vs,rfl⟩:=h2 b;have f:Eo i = .agg (i.zero.map .val):=(by unfold TI.isAgg at b;unfold Eo;cases hd:i.d <;> rw [hd] at b <;> first | rfl | cases b);rw [f,<-h1];refine .agg _ vs (by simp [Value.cells]) λj c v g1 g2=>?_;simp only [Value.cells,List.getElem?_map,Array.getElem?_toList,g2] at g1;simp at g1; subst g1; exact .of_val v
 | false=>have h3:=h3 b;have f:z.cells = #[z]:=(by cases z <;> first | rfl | cases h3);rw [f] at h1;have:Eo i = .val z:=(by unfold TI.isAgg at b;unfold Eo;rw [<-h1];cases hd:i.d <;> rw [hd] at b <;> first | rfl | cases b);rw [this]; exact .of_val z
theorem Asr {T:Cl} (hT:Cm P T) {t U et:TypeId} {x y:Operand} {D:Bool} {i V G:TI} {h:Nat} {es:List (AV×AV)} {s:ByteArray} {r:Option (Nat×AV)} (B:o.op = .lookup t x y D) (ht:T t=some i) (hd:i.d = .map U et) (hk:T U=some V) (Z:V.d = .string) (he:T et=some G) (hx:ρ x = .mp h) (hy:ρ y = .val (.string s)) (hr:H6 s es 0=some r) : B0 P o ρ ⟨R3 D G r,[(h,.map es)],[]⟩:=by
 intro σ ι H F W w a next Q st L X Y
 have hh:H h = .map es:=X (h,.map es) ψ;have R:=L x (by simp [B,Op.operands]);rw [hx] at R;obtain ⟨b,hb,hv⟩:=R.mp_inv;have g:=Da hy (L y (by simp [B,Op.operands]));have A:=st.obj h;unfold Ci at A; rw [hh] at A;obtain ⟨b',M,q,e1,_,_,h3,h4⟩:=A;rw [hb] at e1; cases e1;obtain ⟨_,u,_,_,S,_,_,_,_,k7⟩:=D0 (hT t i ht);rw [hd] at k7; subst k7;obtain ⟨_,u',_,_,f,_,_,_,_,E⟩:=D0 (hT U V hk);rw [Z] at E; subst E;have k:Go.MapKept.IsKey .string (.string s):=trivial;have l:∀v,Conc σ ι H (R3 D G r) v->(execOp a.eval o).run P w = .ok (.value v) w->o.wp P a w next Q:=by intro v hc J;exact Et J (Y σ ι v w (Le.refl _ _ _) st hc)
 rcases Acx es M.toList 0 r (by simpa using h4.1) (λj p e g1 g2=>h4.2 j p e g1 (by simpa using g2)) hr with ⟨rfl,N⟩ | ⟨j,v,e,rfl,N,g1,g2,g3,_⟩
 .obtain ⟨z,hz,c1,c2,c3⟩:=Ahm (hT et G he) w;have I:Conc σ ι H (Eo G) z:=Ah2 c1 c2 c3;cases D with
  | true=>
   refine l (.tuple #[z,.bool false]) (.tup _ _ ψ λi c u m1 m2=>?_) ?_
   .match i with| 0=>simp at m1 m2; subst m1; subst m2; exact I| 1=>simp at m1 m2; subst m1; subst m2; exact .of_val _| i+2=>simp at m1
   .simp [execOp,B,hv,g,Instr.lookup,run_underlying S,Go.MapKept.run_getObj_map h3,Go.MapKept.run_checkKey f k,Go.MapKept.run_findKey f N,hz,Result.andThen]
  | false=>refine l z I ?_;simp [execOp,B,hv,g,Instr.lookup,run_underlying S,Go.MapKept.run_getObj_map h3,Go.MapKept.run_checkKey f k,Go.MapKept.run_findKey f N,hz,Result.andThen]
 .cases D with
  | true=>
   refine l (.tuple #[e.val,.bool true]) (.tup _ _ ψ λi c u m1 m2=>?_) ?_
   .match i with| 0=>simp at m1 m2; subst m1; subst m2; exact .cc g3| 1=>simp at m1 m2; subst m1; subst m2; exact .of_val _| i+2=>simp at m1
   .simp [execOp,B,hv,g,Instr.lookup,run_underlying S,Go.MapKept.run_getObj_map h3,Go.MapKept.run_checkKey f k,Go.MapKept.run_findKey f N,Result.andThen]
  | false=>refine l e.val (.cc g3) ?_;simp [execOp,B,hv,g,Instr.lookup,run_underlying S,Go.MapKept.run_getObj_map h3,Go.MapKept.run_checkKey f k,Go.MapKept.run_findKey f N,Result.andThen]
theorem Conc.cc_free1 {σ:A1} {ι:Br} {H:Hp} {x:AV} {v:Value} (hx:x.free1=true) (h:Conc σ ι H x v):CC σ x v:=by cases x with| agg cs=>obtain ⟨vs,rfl,b,h⟩:=h.agg_inv;exact .agg cs vs b λi c u h1 h2=>((h i c u h1 h2).cc_of (List.all_eq_true.1 hx c (List.mem_of_getElem? h1))).1| val u=>exact (h.cc_of (x:=.val u) hx).1| sl sz xs=>exact (h.cc_of (x:=.sl sz xs) hx).1| _=>cases hx
theorem Ass {T:Cl} (hT:Cm P T) {t X et:TypeId} {x y z:Operand} {i Y:TI} {h:Nat} {es f:List (AV×AV)} {s:ByteArray} (L:o.op = .mapUpdate t x y z) (ht:T t=some i) (hd:i.d = .map X et) (hk:T X=some Y) (a6:Y.d = .string) (hx:ρ x = .mp h) (hy:ρ y = .val (.string s)) (hz:(ρ z).free1=true) (g:Yj s (ρ z) es=some f) : B0 P o ρ ⟨.val undef,[(h,.map es)],[(h,.map f)]⟩:=by
 intro σ ι H F W w a next Q st k Z a1
 have hh:H h = .map es:=Z (h,.map es) ψ;have S:=k x (by simp [L,Op.operands]);rw [hx] at S;obtain ⟨b,hb,hv⟩:=S.mp_inv;have I:=Da hy (k y (by simp [L,Op.operands]));have R:=(k z (by simp [L,Op.operands])).cc_free1 hz;have l:=st.obj h;unfold Ci at l; rw [hh] at l;obtain ⟨b',M,q,e1,_,_,h3,h4⟩:=l;rw [hb] at e1; cases e1;obtain ⟨_,u,_,_,k2,_,_,_,_,k7⟩:=D0 (hT t i ht);rw [hd] at k7; subst k7;obtain ⟨_,u',_,_,c,_,_,_,_,G⟩:=D0 (hT X Y hk);rw [a6] at G; subst G;have B:Go.MapKept.IsKey .string (.string s):=trivial;have N:∀U V,Pm σ f U->(execOp a.eval o).run P w = .ok .skip {w with heap:=w.heap.setIfInBounds b (.map U V)}->o.wp P a w next Q:=by intro U V hM J;obtain ⟨s',le⟩:=st.setMap h es f hh b hb U V hM;exact X8 J (a1 σ ι undef _ le s' (.of_val _))
 unfold Yj at g;cases E:H6 s es 0 with
 | none=>rw [E] at g; cases g
 | some r=>
  rw [E] at g;rcases Acx es M.toList 0 r (by simpa using h4.1) (λj p e g1 g2=>h4.2 j p e g1 (by simpa using g2)) E with ⟨rfl,hf⟩ | ⟨j,v,e,rfl,hf,g1,g2,g3,g4⟩
  .simp only [Option.some.injEq] at g;subst g;refine N (M.push {key:=.string s,val:=a.eval z,born:=q}) (q+1) ⟨by simp [h4.1],λi' p e m1 m2=>?_⟩ ?_
   .rcases Nat.lt_or_ge i' es.length with A | hge
    .rw [List.getElem?_append_left A] at m1;rw [Array.getElem?_push_lt (by rw [h4.1]; exact A)] at m2;exact h4.2 i' p e m1 (by rw [Array.getElem?_eq_getElem (by rw [h4.1]; exact A)]; exact m2)
    .rw [List.getElem?_append_right hge] at m1;have a7:i'=es.length:=(by have:=(List.getElem?_eq_some_iff.1 m1).1; simp at this; omega);subst a7;simp at m1; subst m1;rw [<-h4.1] at m2;simp at m2; subst m2;exact ⟨.val _,R⟩
   .simp [execOp,L,hv,I,Instr.mapUpdate,run_underlying k2,Go.MapKept.run_getObj_map h3,Go.MapKept.run_checkKey c B,Go.MapKept.run_findKey c hf,Go.MapKept.run_setObj_map _ h3,Result.andThen]
  .simp only [Option.some.injEq] at g;subst g;have hj:M[j]? = some e:=(by simpa using g1);refine N (M.modify j λe=>{e with key:=.string s,val:=a.eval z}) q ⟨by simp [h4.1],λi' p e' m1 m2=>?_⟩ ?_
   .simp only [Nat.zero_add] at m1;rw [List.getElem?_set] at m1;rw [Array.getElem?_modify] at m2;by_cases D:j=i'
    .subst D;simp only [if_true] at m1 m2;rw [if_pos g4] at m1; cases m1;rw [hj] at m2; simp at m2; subst m2;exact ⟨.val _,R⟩
    .rw [if_neg D] at m1;rw [if_neg D] at m2;exact h4.2 i' p e' m1 m2
   .simp [execOp,L,hv,I,Instr.mapUpdate,run_underlying k2,Go.MapKept.run_getObj_map h3,Go.MapKept.run_checkKey c B,Go.MapKept.run_findKey c hf,hj,g2,Go.MapKept.run_keyThatStays B,Go.MapKept.run_setObj_map _ h3,Result.andThen]
def Ym (P:Program) (b:TypeId) (c:List Value):Prop := (∃fs,P.underlying b=some (.struct fs))/\∀(w:World) (e:Bool),(Instr.checkKey e 10000 b (.agg c.toArray)).run P w = .ok () w
inductive Lt (P:Program) (kt:TypeId) (us:List Value):List (AV×AV)->Nat->Option (Nat×AV)->Prop where
 | nil (i:Nat):Lt P kt us [] i none
 | hit {ys:List AV} {vs:List Value} {v:AV} {es:List (AV×AV)} {i:Nat} (h1:Hj ys=some vs) (h2:Yl P kt us vs true):Lt P kt us ((.agg ys,v)::es) i (some (i,v))
 | miss {ys:List AV} {vs:List Value} {v:AV} {es:List (AV×AV)} {i:Nat} {r:Option (Nat×AV)} (h1:Hj ys=some vs) (h2:Yl P kt us vs false) (h3:Lt P kt us es (i+1) r):Lt P kt us ((.agg ys,v)::es) i r
theorem Lt.sound {σ:A1} {l:TypeId} {k:List Value} {es:List (AV×AV)} {i:Nat} {r:Option (Nat×AV)} (h:Lt P l k es i r):∀(L:List MapEntry),L.length=es.length -> (∀(j:Nat) (p:AV×AV) (e:MapEntry),es[j]? = some p->L[j]? = some e->CC σ p.1 e.key/\CC σ p.2 e.val)->∀w:World, (r=none/\(Instr.findAsking l (.agg k.toArray) L i).run P w = .ok none w)\/∃j v e,r=some (i+j,v)/\(Instr.findAsking l (.agg k.toArray) L i).run P w = .ok (some (i+j,e.val)) w/\L[j]? = some e/\CC σ v e.val/\j<es.length:=by
 induction h with
 | nil i=>intro L g _ w;cases L with| nil=>exact .inl ⟨rfl,by simp [Instr.findAsking]⟩| cons e L=>simp at g
 | @hit ys vs v es i h1 h2=>
  intro L g hc w;cases L with
  | nil=>simp at g
  | cons e L=>obtain ⟨s,x⟩:=hc 0 _ e rfl rfl;have hk:e.key = .agg vs.toArray:=(by generalize e.key=q at s;cases s with| agg _ b f hh=>have:=Pq (σ:=σ) (ι:=λ_=>.none) (H:=λ_=>.none) (vs:=b.toList) h1 (by simpa using f) (λi c u g1 g2=>.cc (hh i c u g1 (by simpa using g2)));rw [<-this]);refine .inr ⟨0,v,e,rfl,?_,rfl,x,ψ⟩;have:=(h2 w .eql default default).2;simp [Instr.findAsking,hk,this]
 | @miss ys vs v es i r h1 h2 h3 ih=>
  intro L g hc w;cases L with
  | nil=>simp at g
  | cons e L=>
   obtain ⟨s,x⟩:=hc 0 _ e rfl rfl;have hk:e.key = .agg vs.toArray:=(by generalize e.key=q at s;cases s with| agg _ b f hh=>have:=Pq (σ:=σ) (ι:=λ_=>.none) (H:=λ_=>.none) (vs:=b.toList) h1 (by simpa using f) (λi c u g1 g2=>.cc (hh i c u g1 (by simpa using g2)));rw [<-this]);have:=(h2 w .eql default default).2;have step:(Instr.findAsking l (.agg k.toArray) (e::L) i).run P w=(Instr.findAsking l (.agg k.toArray) L (i+1)).run P w:=(by simp [Instr.findAsking,hk,this]);rcases ih L (by simpa using g) (λj z e' g1 g2=>hc (j+1) z e' (by simpa using g1) (by simpa using g2)) w with ⟨g1,g2⟩ | ⟨j,y,e',g1,g2,g3,g4,g5⟩
   .exact .inl ⟨g1,by rw [step]; exact g2⟩
   .exact .inr ⟨j+1,y,e',by rw [g1]; congr 2; omega,by rw [step,g2]; congr 3; omega,by simpa using g3,g4,by simpa using g5⟩
theorem Ast {T:Cl} (hT:Cm P T) {t G et:TypeId} {x y:Operand} {E:Bool} {i I:TI} {h:Nat} {es:List (AV×AV)} {ks:List AV} {A:List Value} {r:Option (Nat×AV)} (D:o.op = .lookup t x y E) (ht:T t=some i) (hd:i.d = .map G et) (he:T et=some I) (hx:ρ x = .mp h) (hy:ρ y = .agg ks) (hu:Hj ks=some A) (hc:Ym P G A) (hr:Lt P G A es 0 r) : B0 P o ρ ⟨R3 E I r,[(h,.map es)],[]⟩:=by
 intro σ ι H F W w a next Q st N Z a1
 have hh:H h = .map es:=Z (h,.map es) ψ;have U:=N x (by simp [D,Op.operands]);rw [hx] at U;obtain ⟨b,hb,hv⟩:=U.mp_inv;have S:=N y (by simp [D,Op.operands]);rw [hy] at S;obtain ⟨X,f,a6,a8⟩:=S.agg_inv;have Y:X.toList=A:=Pq hu (by simpa using a6) (λi c u g1 g2=>a8 i c u g1 (by simpa using g2));have f:a.eval y = .agg A.toArray:=by rw [f,<-Y]
 have B:=st.obj h;unfold Ci at B; rw [hh] at B;obtain ⟨b',M,q,e1,_,_,h3,h4⟩:=B;rw [hb] at e1; cases e1;obtain ⟨_,u,_,_,V,_,_,_,_,k7⟩:=D0 (hT t i ht);rw [hd] at k7; subst k7;obtain ⟨⟨fs,a7⟩,s⟩:=hc;have g:∀v,Conc σ ι H (R3 E I r) v->(execOp a.eval o).run P w = .ok (.value v) w->o.wp P a w next Q:=by intro v hc L;exact Et L (a1 σ ι v w (Le.refl _ _ _) st hc)
 have k:∀l,(Instr.findKey G (.agg A.toArray) l).run P w=(Instr.findAsking G (.agg A.toArray) l).run P w:=λl=>run_findKey_eq w (by rw [a7]) _ l;rcases hr.sound M.toList (by simpa using h4.1) (λj p e g1 g2=>h4.2 j p e g1 (by simpa using g2)) w with ⟨rfl,R⟩ | ⟨j,v,e,rfl,R,g1,g3,_⟩
 .obtain ⟨z,hz,c1,c2,c3⟩:=Ahm (hT et I he) w;have J:Conc σ ι H (Eo I) z:=Ah2 c1 c2 c3;cases E with
  | true=>
   refine g (.tuple #[z,.bool false]) (.tup _ _ ψ λi c u m1 m2=>?_) ?_
   .match i with| 0=>simp at m1 m2; subst m1; subst m2; exact J| 1=>simp at m1 m2; subst m1; subst m2; exact .of_val _| i+2=>simp at m1
   .simp [execOp,D,hv,f,Instr.lookup,run_underlying V,Go.MapKept.run_getObj_map h3,s,k,R,hz,Result.andThen]
  | false=>refine g z J ?_;simp [execOp,D,hv,f,Instr.lookup,run_underlying V,Go.MapKept.run_getObj_map h3,s,k,R,hz,Result.andThen]
 .cases E with
  | true=>
   refine g (.tuple #[e.val,.bool true]) (.tup _ _ ψ λi c u m1 m2=>?_) ?_
   .match i with| 0=>simp at m1 m2; subst m1; subst m2; exact .cc g3| 1=>simp at m1 m2; subst m1; subst m2; exact .of_val _| i+2=>simp at m1
   .simp [execOp,D,hv,f,Instr.lookup,run_underlying V,Go.MapKept.run_getObj_map h3,s,k,R,Result.andThen]
  | false=>refine g e.val (.cc g3) ?_;simp [execOp,D,hv,f,Instr.lookup,run_underlying V,Go.MapKept.run_getObj_map h3,s,k,R,Result.andThen]
theorem Asu {T:Cl} (hT:Cm P T) {t E et:TypeId} {x y z:Operand} {i:TI} {h:Nat} {es:List (AV×AV)} {g:List AV} {f:List Value} (J:o.op = .mapUpdate t x y z) (ht:T t=some i) (hd:i.d = .map E et) (hx:ρ x = .mp h) (hy:ρ y = .agg g) (hu:Hj g=some f) (hz:(ρ z).free1=true) (hc:Ym P E f) (hr:Lt P E f es 0 none) : B0 P o ρ ⟨.val undef,[(h,.map es)],[(h,.map (es++[(.agg g,ρ z)]))]⟩:=by
 intro σ ι H F W w a next Q st A R S
 have hh:H h = .map es:=R (h,.map es) ψ;have I:=A x (by simp [J,Op.operands]);rw [hx] at I;obtain ⟨b,hb,hv⟩:=I.mp_inv;have G:=A y (by simp [J,Op.operands]);rw [hy] at G;obtain ⟨L,k,U,a7⟩:=G.agg_inv;have N:L.toList=f:=Pq hu (by simpa using U) (λi c u g1 g2=>a7 i c u g1 (by simpa using g2));have k:a.eval y = .agg f.toArray:=by rw [k,<-N]
 have V:CC σ (.agg g) (.agg f.toArray):=by
  have s:∀(g:List AV) (f:List Value),Hj g=some f->g=f.map .val:=by
   intro g;induction g with
   | nil=>intro f h; simp only [Hj] at h; cases h; rfl
   | cons c g ih=>intro f h;cases c with| val v=>simp only [Hj,Option.map_eq_some_iff] at h;obtain ⟨a8,h1,rfl⟩:=h;rw [ih _ h1]; rfl| _=>simp [Hj] at h
  have e:=s g f hu;subst e;refine .agg _ _ ψ λi c v g1 g2=>?_;simp only [List.getElem?_map] at g1;have g2:f[i]? = some v:=(by simpa using g2);rw [g2] at g1; simp at g1; subst g1;exact .val v
 have a1:=(A z (by simp [J,Op.operands])).cc_free1 hz;have B:=st.obj h;unfold Ci at B; rw [hh] at B;obtain ⟨b',M,q,e1,_,_,h3,h4⟩:=B;rw [hb] at e1; cases e1;obtain ⟨_,u,_,_,k2,_,_,_,_,k7⟩:=D0 (hT t i ht);rw [hd] at k7; subst k7;obtain ⟨⟨fs,Y⟩,a6⟩:=hc;have Z:∀l,(Instr.findKey E (.agg f.toArray) l).run P w=(Instr.findAsking E (.agg f.toArray) l).run P w:=λl=>run_findKey_eq w (by rw [Y]) _ l;rcases hr.sound M.toList (by simpa using h4.1) (λj p e g1 g2=>h4.2 j p e g1 (by simpa using g2)) w with ⟨_,hf⟩ | ⟨j,v,e,he,_⟩
 .have hM:Pm σ (es++[(.agg g,ρ z)]) (M.push {key:=.agg f.toArray,val:=a.eval z,born:=q}):=by
   refine ⟨by simp [h4.1],λi' p e m1 m2=>?_⟩;rcases Nat.lt_or_ge i' es.length with D | hge
   .rw [List.getElem?_append_left D] at m1;rw [Array.getElem?_push_lt (by rw [h4.1]; exact D)] at m2;exact h4.2 i' p e m1 (by rw [Array.getElem?_eq_getElem (by rw [h4.1]; exact D)]; exact m2)
   .rw [List.getElem?_append_right hge] at m1;have X:i'=es.length:=(by have:=(List.getElem?_eq_some_iff.1 m1).1; simp at this; omega);subst X;simp at m1; subst m1;rw [<-h4.1] at m2;simp at m2; subst m2;exact ⟨V,a1⟩
  obtain ⟨s',le⟩:=st.setMap h es _ hh b hb _ (q+1) hM;refine X8 ?_ (S σ ι undef _ le s' (.of_val _));simp [execOp,J,hv,k,Instr.mapUpdate,run_underlying k2,Go.MapKept.run_getObj_map h3,a6,Z,hf,Go.MapKept.run_setObj_map _ h3,Result.andThen]
 .cases he
end
end Go.Ab
namespace Go.Ab
def ev (e:Bn):Operand->AV
 | .tmp t=>e t
 | .const v=>.val v
 | .global g=>.val (.pointer (some ⟨g,0,none⟩))
 | .func f=>.fn f []
def put (e:Bn) (d:Option Nat) (v:AV):Bn := match d with
 | none=>e
 | some n=>A4 e n v
def Acz:Operand->Option Nat
 | .tmp t=>some t
 | _=>none
def R4 (ops:Array Oper) (o:Oper):Option Nat := match o.guard with
 | none=>none
 | some p=>(ops[p.1]?).bind (·.dst)
def Jm (ops:Array Oper) (o:Oper):List Nat:=o.op.operands.toList.filterMap Acz++(R4 ops o).toList
def Ea (σ:A1) (ι:Br) (H:Hp) (e:Bn) (a:Act):Prop:=∀s,s<a.tmps.size->Conc σ ι H (e s) (a.tmps.getD s undef)
section
variable {σ:A1} {ι:Br} {H:Hp} {e:Bn} {a:Act}
theorem Ea.eval (h:Ea σ ι H e a) {x:Operand} (hx:∀t,Acz x=some t->t<a.tmps.size):Conc σ ι H (ev e x) (a.eval x):=by cases x with| tmp t=>exact h t (hx t rfl)| const v=>exact .of_val v| global g=>exact .of_val _| func f=>exact .fn f [] #[] rfl ψ
theorem Ea.mono {b:A1} {c:Br} {H':Hp} (h:Ea σ ι H e a) (le:Le σ ι H b c H'):Ea b c H' e a:=λs f=>(h s f).mono le
theorem Ea.put (h:Ea σ ι H e a) {d:Option Nat} {r:AV} {v:Value} (hv:Conc σ ι H r v):Ea σ ι H (put e d r) (a.put d v):=by
 cases d with
 | none=>exact h
 | some n=>
  intro s b;simp only [Act.put,Array.size_setIfInBounds] at b;simp only [Ab.put,Act.put];by_cases c:s=n
  .subst c;rw [Ce];simpa [b] using hv
  .rw [Cz _ _ c];have:=h s b;simp only [Array.getD_eq_getD_getElem?] at this ⊢;rw [Array.getElem?_setIfInBounds_ne ω];exact this
end
def Ps:Value->Option Bool
 | .bool b=>some b
 | _=>none
def Hk (ops:Array Oper) (o:Oper) (e:Bn) (b:Bool):Prop := match o.guard with
 | none=>b=true
 | some p=>∃s v,(ops[p.1]?).bind (·.dst)=some s/\e s = .val v/\b=(Ps v==some p.2)
theorem Ah3 {ops:Array Oper} {o:Oper} {e:Bn} {g:Bool} {σ:A1} {ι:Br} {H:Hp} {a:Act} (f:Hk ops o e g) (j:Ea σ ι H e a) (i:∀s,R4 ops o=some s->s<a.tmps.size) : Region.wanted o (yielded ops a.tmps)=g:=by unfold Hk at f;unfold Region.wanted;cases h:o.guard with| none=>rw [h] at f; exact f.symm| some p=>rw [h] at f;obtain ⟨s,b,h1,h2,h3⟩:=f;have c:=i s (by unfold R4; rw [h]; exact h1);have hc:=j s c;rw [h2] at hc;have hv:=hc.val_inv;have:yielded ops a.tmps p.1=Ps b:=(by unfold yielded;rw [h1];simp only [Option.bind_some];have:a.tmps[s]? = some b:=(by rw [Array.getD_eq_getD_getElem?] at hv;simp [c] at hv ⊢; exact hv);rw [this];cases b <;> rfl);show (yielded ops a.tmps p.1==some p.2)=g;rw [this,h3]
abbrev Acc:=Nat->List Nat×List Nat
def Nk (P:Program) (ops:Array Oper) (acc:Acc) (i:Nat) (o:Oper) (e:Bn) (H:Hp) (r:AV) (c:List (Nat×Bh)):Prop := ops[i]? = some o /\ ((Hk ops o e true/\∃b,B0 P o (ev e) b/\(∀p∈b.rd,H p.1=p.2)/\(∀p∈b.rd,p.1∈(acc i).1)/\(∀p∈b.wr,p.1∈(acc i).2)/\r=b.r/\c=b.wr) \/ (Hk ops o e false/\r = .val undef/\c = []))
inductive Run (P:Program) (ops:Array Oper) (acc:Acc):List Nat->Bn->Hp->Bn->Hp->Prop where
 | nil (e:Bn) (H:Hp):Run P ops acc [] e H e H
 | cons {i:Nat} {l:List Nat} {e e':Bn} {H H':Hp} (o:Oper) (r:AV) (wr:List (Nat×Bh)) (hd:Nk P ops acc i o e H r wr)
   (rest:Run P ops acc l (put e o.dst r) (Cg H wr) e' H'):Run P ops acc (i::l) e H e' H'
def Eu (b:List Nat) (a c:Act):Prop:=∀s,s ∉ b->c.tmps.getD s undef=a.tmps.getD s undef
theorem Eu.refl (b:List Nat) (a:Act):Eu b a a:=λ_ _=>rfl
theorem Eu.trans {f:List Nat} {a b c:Act} (h:Eu f a b) (h':Eu f b c):Eu f a c:=λs g=>(h' s g).trans (h s g)
theorem Eu.mono {f c:List Nat} {a b:Act} (h:Eu f a b) (i:∀s∈f,s∈c):Eu c a b:=λs g=>h s (λx=>g (i s x))
theorem Eu.put (a:Act) (d:Option Nat) (v:Value) (b:List Nat) (h:∀s,d=some s->s∈b):Eu b a (a.put d v):=by cases d with| none=>exact Eu.refl _ _| some n=>intro s c;have f:s≠n:=λe=>c (e ▸ h n rfl);simp only [Act.put,Array.getD_eq_getD_getElem?];rw [Array.getElem?_setIfInBounds_ne ω]
def Uq (ops:Array Oper):List Nat:=ops.toList.filterMap (·.dst)
theorem Eu.step {ops:Array Oper} {i:Nat} {o:Oper} (c:ops[i]? = some o) (a:Act) (v:Value):Eu (Uq ops) a (a.put o.dst v):=by refine Eu.put a o.dst v _ (λs b=>?_);unfold Uq;rw [List.mem_filterMap];exact ⟨o,by simpa using Array.mem_of_getElem? c,b⟩
def Yn (ops:Array Oper) (n:Nat):Prop:=∀(i:Nat) (o:Oper),ops[i]? = some o->∀s∈Jm ops o,s<n
section
variable {P:Program} {ops:Array Oper} {acc:Acc} {F:A1} {W:World} {Q:Exit->Act->World->Prop}
theorem Ah4 (a:Act) (d:Option Nat) (v:Value):(a.put d v).tmps.size=a.tmps.size:=by cases d <;> simp [Act.put]
theorem Run.wpOp {i:Nat} {l:List Nat} {e e':Bn} {H H':Hp} (h:Run P ops acc (i::l) e H e' H') {σ:A1} {ι:Br} {a:Act} {w:World} (s:St σ ι H F W w) (q:Ea σ ι H e a) (D:Yn ops a.tmps.size) {K:Act->World->Prop} (hk:∀(B:Bn) (y:Hp),Run P ops acc l B y e' H'->∀g j u w',Le σ ι H g j y->St g j y F W w'->Ea g j y B u->u.tmps.size=a.tmps.size->u.defers=a.defers->Eu (Uq ops) a u->K u w') : wpOp P ops Q i K a w:=by
 have c:∀(d:Option Nat) (v:Value),(a.put d v).defers=a.defers:=by intro d v; cases d <;> rfl
 cases h with
 | cons o r wr hd rest=>
  obtain ⟨k,hd⟩:=hd;unfold Go.wpOp;have f:=D i o k;rcases hd with ⟨A,E,b,z,_,_,rfl,rfl⟩ | ⟨A,rfl,rfl⟩
  .have hw:=Ah3 A q (λs' h'=>f s' (by simp [Jm,h']));rw [k];simp only [hw,if_true];refine .inl (b σ ι H F W w a K Q s (λx hx=>q.eval (λt ht=>f t ?_)) z ?_)
   .simp only [Jm,List.mem_append,List.mem_filterMap];exact .inl ⟨x,hx,ht⟩
   .intro g j v w' le s' hc;exact hk _ _ rest g j _ w' le s' ((q.mono le).put hc) (Ah4 _ _ _) (c _ _) (Eu.step k a v)
  .have hw:=Ah3 A q (λs' h'=>f s' (by simp [Jm,h']));rw [k];simp only [hw,Bool.false_eq_true,if_false];exact hk _ _ rest σ ι _ w (Le.refl _ _ _) s (q.put (.of_val undef)) (Ah4 _ _ _) (c _ _) (Eu.step k a undef)
theorem Run.wpOps {l:List Nat} {e e':Bn} {H H':Hp} (h:Run P ops acc l e H e' H'):∀{σ:A1} {ι:Br} {a:Act} {w:World},St σ ι H F W w->Ea σ ι H e a->Yn ops a.tmps.size -> (∀j k g w',Le σ ι H j k H'->St j k H' F W w'->Ea j k H' e' g->g.tmps.size=a.tmps.size->g.defers=a.defers->Eu (Uq ops) a g->Q .normal g w')->wpOps P ops Q l a w:=by induction l generalizing e H with| nil=>intro σ ι a w s B y hk;cases h;exact hk σ ι a w (Le.refl _ _ _) s B rfl rfl (Eu.refl _ _)| cons i l ih=>intro σ ι a w s B y hk;rw [wpOps_cons];refine h.wpOp s B y ?_;intro U V M N R a1 S u L A c D hu;refine ih M L A (by rw [c]; exact y) ?_;intro E G a2 I q J z b f x;exact hk E G a2 I (u.trans q) J z (b.trans c) (f.trans D) (hu.trans x)
theorem B0.congr {o:Oper} {ρ f:Operand->AV} {b:Eff} (h:B0 P o ρ b) (i:∀x∈o.op.operands.toList,f x=ρ x):B0 P o f b := λσ ι H F W w a next Q s hx c hk=>h σ ι H F W w a next Q s (λx g=>by rw [<-i x g]; exact hx x g) c hk
theorem Hk.congr {o:Oper} {e e':Bn} {f:Bool} (h:Hk ops o e f) (g:∀s,R4 ops o=some s->e' s=e s):Hk ops o e' f:=by unfold Hk at *;cases c:o.guard with| none=>rw [c] at h; exact h| some p=>rw [c] at h;obtain ⟨s,b,h1,h2,h3⟩:=h;exact ⟨s,b,h1,by rw [g s (by unfold R4; rw [c]; exact h1)]; exact h2,h3⟩
theorem Asv {e e':Bn} {x:Operand} (h:∀t,Acz x=some t->e' t=e t):ev e' x=ev e x:=by cases x with| tmp t=>exact h t rfl| _=>rfl
theorem Nk.congr {i:Nat} {o:Oper} {e e':Bn} {H H':Hp} {r:AV} {c:List (Nat×Bh)} (h:Nk P ops acc i o e H r c) (g:∀s∈Jm ops o,e' s=e s) (l:∀x∈(acc i).1,H' x=H x):Nk P ops acc i o e' H' r c:=by
 obtain ⟨k,h⟩:=h;refine ⟨k,?_⟩;have f:∀s,R4 ops o=some s->e' s=e s:=λs j=>g s (by simp [Jm,j]);rcases h with ⟨h1,b,h2,h3,h4,y,u,q⟩ | ⟨h1,h2,h3⟩
 .refine .inl ⟨h1.congr f,b,h2.congr (λx hx=>Asv λt ht=>g t ?_),λp hp=>?_,h4,y,u,q⟩
  .simp only [Jm,List.mem_append,List.mem_filterMap]; exact .inl ⟨x,hx,ht⟩
  .rw [l p.1 (h4 p hp)]; exact h3 p hp
 .exact .inr ⟨h1.congr f,h2,h3⟩
theorem R5 {H:Hp}:∀{b:List (Nat×Bh)} {x:Nat},(∀p∈b,p.1≠x)->Cg H b x=H x
 | [],_,_=>rfl
 | p::b,x,h=>by simp only [Cg];rw [R5 (λq hq=>h q (by simp [hq])),Cz _ _ (λe=>h p ψ e.symm)]
theorem Ah5 {H:Hp} {h:Nat} {o:Bh}:∀{b:List (Nat×Bh)},(∀p∈b,p.1≠h)->Cg (A4 H h o) b=A4 (Cg H b) h o
 | [],_=>rfl
 | p::b,hp=>by simp only [Cg];rw [Ahk _ _ _ (λe=>hp p ψ e),Ah5 (λq hq=>hp q (by simp [hq]))]
theorem Ah6 {H:Hp}:∀{c b:List (Nat×Bh)},(∀p∈c,∀q∈b,p.1≠q.1)->Cg (Cg H c) b=Cg (Cg H b) c
 | [],_,_=>rfl
 | p::c,b,h=>by simp only [Cg];rw [Ah6 (λq hq f hq'=>h q (by simp [hq]) f hq'),Ah5 (λq hq e=>h p ψ q hq e.symm)]
structure Ind (ops:Array Oper) (acc:Acc) (i j:Nat) (o o':Oper):Prop where
 d1:∀s,o.dst=some s->s ∉ Jm ops o'/\o'.dst≠some s
 d2:∀s,o'.dst=some s->s ∉ Jm ops o
 h1:∀x∈(acc i).2,x ∉ (acc j).1/\x ∉ (acc j).2
 h2:∀x∈(acc j).2,x ∉ (acc i).1
theorem Ah7 {e:Bn} {d:Option Nat} {r:AV} {s:Nat} (h:d≠some s):put e d r s=e s:=by cases d with| none=>rfl| some n=>exact Cz _ _ (λe=>h (by rw [e]))
theorem Asw {e:Bn} {d b:Option Nat} {r c:AV} (h:∀s,d=some s->b≠some s):put (put e d r) b c=put (put e b c) d r:=by
 cases d with
 | none=>rfl
 | some n=>cases b with| none=>rfl| some m=>exact Ahk _ _ _ (λe=>h n rfl (by rw [e]))
theorem Nk.wr {i:Nat} {o:Oper} {e:Bn} {H:Hp} {r:AV} {b:List (Nat×Bh)} (h:Nk P ops acc i o e H r b):∀p∈b,p.1∈(acc i).2:=by
 obtain ⟨_,⟨_,g,_,_,_,f,_,c⟩ | ⟨_,_,h3⟩⟩:=h
 .subst c; exact f
 .subst h3; intro p hp; cases hp
theorem Run.swap {i j:Nat} {l:List Nat} {e e':Bn} {H H':Hp} (h:Run P ops acc (i::j::l) e H e' H') (hi:∀o o',ops[i]? = some o->ops[j]? = some o'->Ind ops acc i j o o'):Run P ops acc (j::i::l) e H e' H':=by
 cases h with
 | cons o r wr hd rest=>cases rest with| cons o' k f c rest=>have b:=hi o o' hd.1 c.1;have a1:Nk P ops acc j o' e H k f:=c.congr (λs g=>(Ah7 (λe=>(b.d1 s e).1 g)).symm) (λx hx=>(R5 (λp hp e=>(b.h1 p.1 (hd.wr p hp)).1 (e ▸ hx))).symm);have a2:Nk P ops acc i o (put e o'.dst k) (Cg H f) r wr:=hd.congr (λs g=>Ah7 (λe=>b.d2 s e g)) (λx hx=>R5 (λp hp e=>b.h2 p.1 (c.wr p hp) (e ▸ hx)));refine .cons o' k f a1 (.cons o r wr a2 ?_);rw [Asw (λs g e=>(b.d1 s e).2 g),Ah6 (λp hp q hq e=>(b.h1 q.1 (hd.wr q hq)).2 (e ▸ c.wr p hp))];exact rest
theorem Run.bubble {i:Nat}:∀{b c:List Nat} {e e':Bn} {H H':Hp},Run P ops acc (b++i::c) e H e' H'->(∀j∈b,∀o o',ops[j]? = some o->ops[i]? = some o'->Ind ops acc j i o o')->Run P ops acc (i::(b++c)) e H e' H'
 | [],_,_,_,_,_,h,_=>h
 | j::b,c,e,e',H,H',h,hi=>by cases h with| cons o r wr hd rest=>exact Run.swap (.cons o r wr hd (rest.bubble (λk hk=>hi k (by simp [hk])))) (hi j ψ)
end
def Nl (ms:List Nat) (o:Oper):Nat:=o.after.toList.foldl (λa x=>bif Region.binds .any x then a ||| ((1 <<< x.on) ||| ms.getD x.on 0) else a) 0
def Ih:List Oper->List Nat->List Nat
 | [],ms=>ms
 | o::os,ms=>Ih os (ms++[Nl ms o])
def Ur (l m:List Nat):Bool:=l.all λx=>!m.contains x
def Ac0 (ops:Array Oper) (a b:List Nat×List Nat) (o o':Oper):Bool := (match o.dst with
   | none=>true
   | some s=>!(Jm ops o').contains s && !(o'.dst==some s)) && (match o'.dst with
   | none=>true
   | some s=>!(Jm ops o).contains s) && Ur a.2 b.1&&Ur a.2 b.2&&Ur b.2 a.1
def Ac1 (ops:List Oper) (acc:List (List Nat×List Nat)):Bool :=
 let M:=Ih ops []
 (ops.zipIdx.all λp=>p.1.after.toList.all λx=>!Region.binds .any x||Nat.blt x.on p.2) && ops.zipIdx.all λp=>ops.zipIdx.all λq=>!Nat.blt q.2 p.2||(M.getD p.2 0).testBit q.2||Ac0 ops.toArray (acc.getD q.2 ([],[])) (acc.getD p.2 ([],[])) q.1 p.1
section
variable {P:Program} {F:A1} {W:World} {Q:Exit->Act->World->Prop}
theorem Ah8:∀(os:List Oper) (ms:List Nat),(Ih os ms).take ms.length=ms/\(Ih os ms).length=ms.length+os.length /\ ∀(k:Nat) (o:Oper),os[k]? = some o->(Ih os ms).getD (ms.length+k) 0=Nl ((Ih os ms).take (ms.length+k)) o
 | [],ms=>⟨by simp [Ih],by simp [Ih],ψ⟩
 | o::os,ms=>by
  obtain ⟨h1,h2,h3⟩:=Ah8 os (ms++[Nl ms o]);simp only [Ih];simp only [List.length_append,List.length_cons,List.length_nil] at h1 h2 h3;have b:(Ih os (ms++[Nl ms o])).take ms.length=ms:=(by have:=congrArg (List.take ms.length) h1;rw [List.take_take] at this;simpa using this);refine ⟨b,by simp only [List.length_cons]; omega,λk o' hk=>?_⟩;cases k with
  | zero=>simp at hk; subst hk;rw [Nat.add_zero,b];have c:(Ih os (ms++[Nl ms o]))[ms.length]? = some (Nl ms o):=(by have f:((Ih os (ms++[Nl ms o])).take (ms.length+1))[ms.length]? = (Ih os (ms++[Nl ms o]))[ms.length]?:=List.getElem?_take_of_lt ω;rw [<-f,h1]; simp);simp [List.getD,c]
  | succ k=>have:=h3 k o' (by simpa using hk);rwa [show ms.length+1+k=ms.length+(k+1) by omega] at this
theorem Ah9 (ms:List Nat) (j:Nat):∀(l:List Edge) (a:Nat),(l.foldl (λa x=>bif Region.binds .any x then a ||| ((1 <<< x.on) ||| ms.getD x.on 0) else a) a).testBit j=true -> a.testBit j=true\/∃x∈l,Region.binds .any x=true/\(x.on=j\/(ms.getD x.on 0).testBit j=true)
 | [],a,h=>.inl h
 | x::l,a,h=>by
  simp only [List.foldl_cons] at h;rcases Ah9 ms j l _ h with h' | ⟨y,hy,hb⟩
  .cases hb:Region.binds .any x with
   | false=>rw [hb] at h'; exact .inl h'
   | true=>
    rw [hb] at h';simp only [cond_true,Nat.testBit_or,Bool.or_eq_true] at h';rcases h' with h' | h' | h'
    .exact .inl h'
    .refine .inr ⟨x,ψ,hb,.inl ?_⟩;rw [Nat.one_shiftLeft,Nat.testBit_two_pow] at h';simpa using h'
    .exact .inr ⟨x,ψ,hb,.inr h'⟩
  .exact .inr ⟨y,by simp [hy],hb⟩
theorem Ac2 {l m:List Nat} (h:Ur l m=true):∀x∈l,x ∉ m:=by intro x hx b;unfold Ur at h;rw [List.all_eq_true] at h;have:=h x hx;simp [b] at this
theorem Asx {ops:Array Oper} {acc:Acc} {i j:Nat} {o o':Oper} (h:Ac0 ops (acc i) (acc j) o o'=true):Ind ops acc i j o o':=by
 unfold Ac0 at h;simp only [Bool.and_eq_true] at h;obtain ⟨⟨⟨⟨h1,h2⟩,h3⟩,h4⟩,c⟩:=h;refine ⟨λs b=>?_,λs b=>?_,λx hx=>⟨Ac2 h3 x hx,Ac2 h4 x hx⟩,Ac2 c⟩
 .rw [b] at h1;simpa using h1
 .rw [b] at h2;simpa using h2
def Asy (ops:Array Oper) (b:Array Bool):Prop := ∀(k:Nat) (o:Oper),ops[k]? = some o->b.getD k false=true->∀x∈o.after.toList,Region.binds .any x=true->b.getD x.on false=true
theorem Aia {ops:Array Oper} {b:Array Bool} {i:Nat} (h:i∈Region.ready .any ops b) : i<ops.size/\b.getD i true=false/\∀o,ops[i]? = some o->∀x∈o.after.toList,Region.binds .any x=true->b.getD x.on false=true:=by unfold Region.ready at h;rw [List.mem_filter] at h;obtain ⟨h1,h2⟩:=h;simp only [Bool.and_eq_true,Bool.not_eq_true'] at h2;refine ⟨by simpa using h1,h2.1,λo c x hx hb=>?_⟩;have h3:=h2.2;rw [c] at h3;simp only [Option.map_some,Option.getD_some] at h3;rw [<-Array.all_toList,List.all_eq_true] at h3;have:=h3 x hx;simpa [hb] using this
theorem Ac3 {ops:List Oper} {accs:List (List Nat×List Nat)} (N:Ac1 ops accs=true) {e':Bn} {H':Hp}:∀(fuel:Nat) (b:Array Bool) (l:List Nat) (e:Bn) (H:Hp) (σ:A1) (ι:Br) (a:Act) (w:World), Run P ops.toArray (λi=>accs.getD i ([],[])) l e H e' H'->l.Pairwise (· < ·)->(∀i,i∈l↔i<ops.length/\b.getD i true=false)->b.size=ops.length->Asy ops.toArray b->l.length=fuel -> St σ ι H F W w->Ea σ ι H e a->Yn ops.toArray a.tmps.size -> (∀σ' ι' a' w',Le σ ι H σ' ι' H'->St σ' ι' H' F W w'->Ea σ' ι' H' e' a'->a'.tmps.size=a.tmps.size->a'.defers=a.defers->Eu (Uq ops.toArray) a a'->Q .normal a' w') -> wpAny P .any ops.toArray Q fuel b a w
 | 0,b,l,e,H,σ,ι,a,w,hr,hp,J,a6,U,f,s,he,hs,hk=>by have D:l = []:=List.eq_nil_of_length_eq_zero f;subst D;cases hr;refine ⟨?_,hk σ ι a w (Le.refl _ _ _) s he rfl rfl (Eu.refl _ _)⟩;apply List.eq_nil_iff_forall_not_mem.2;intro i hi;obtain ⟨h1,h2,_⟩:=Aia hi;have:=(J i).2 ⟨by simpa using h1,h2⟩;cases this
 | fuel+1,b,l,e,H,σ,ι,a,w,hr,hp,J,a6,U,f,s,he,hs,hk=>by
  unfold Ac1 at N;have I:=N;simp only [Bool.and_eq_true,List.all_eq_true] at I;obtain ⟨S,M⟩:=I;have u:∀(i:Nat) (o:Oper),ops[i]? = some o->(o,i)∈ops.zipIdx:=(by intro i o h;rw [List.mem_iff_getElem?];exact ⟨i,by simp [List.getElem?_zipIdx,h]⟩);have A:∀(i:Nat) (o:Oper),ops[i]? = some o->∀x∈o.after.toList,Region.binds .any x=true->x.on<i:=(by intro i o h x hx hb;have:=S (o,i) (u i o h) x hx;simp only [hb,Bool.not_true,Bool.false_or] at this;exact Nat.le_of_ble_eq_true this);refine ⟨λaa=>?_,λi hi=>?_⟩
  .exfalso;cases l with
   | nil=>simp at f
   | cons i l=>
    have R:=(J i).1 ψ;have:i∈Region.ready .any ops.toArray b:=by
     unfold Region.ready;rw [List.mem_filter];refine ⟨by simpa using R.1,?_⟩;simp only [Bool.and_eq_true,Bool.not_eq_true'];refine ⟨R.2,?_⟩;have ab:i<ops.length:=R.1;have ho:ops[i]? = some ops[i]:=List.getElem?_eq_getElem ab;have aq:ops.toArray[i]? = some ops[i]:=(by simp [ab]);rw [aq];simp only [Option.map_some,Option.getD_some];rw [<-Array.all_toList,List.all_eq_true];intro x hx;cases hb:Region.binds .any x with
     | false=>rfl
     | true=>
      simp only [Bool.not_true,Bool.false_or];have b6:=A i _ ho x hx hb;cases D:b.getD x.on true with
      | true=>have g:x.on<b.size:=ω;simp only [Array.getD_eq_getD_getElem?] at D ⊢;simpa [g] using D
      | false=>
       have hxm:=(J x.on).2 ⟨ω,D⟩;simp only [List.mem_cons] at hxm;rcases hxm with hxm | hxm
       .omega
       .have:=(List.pairwise_cons.1 hp).1 _ hxm; omega
    rw [aa] at this;cases this
  .obtain ⟨b0,az,ae⟩:=Aia hi;have q:i<ops.length:=(by simpa using b0);have ay:=(J i).2 ⟨q,az⟩;obtain ⟨l1,l2,rfl⟩:=List.append_of_mem ay;have b7:ops[i]? = some ops[i]:=List.getElem?_eq_getElem q;have b5:ops.toArray[i]? = some ops[i]:=(by simp [q]);have z:∀(k:Nat) (o:Oper),ops[k]? = some o->(b.getD k false=true\/k=i)->∀j,((Ih ops []).getD k 0).testBit j=true->b.getD j false=true:=by
    intro k;induction k using Nat.strongRecOn with
    | _ k ih=>
     intro o hk hor j hj;have a7:=(Ah8 ops []).2.2 k o hk;simp only [List.length_nil,Nat.zero_add] at a7;rw [a7] at hj;rcases Ah9 _ j _ _ hj with h0 | ⟨x,hx,hb,a8⟩
     .simp at h0
     .have V:b.getD x.on false=true:=by
       rcases hor with hor | hor
       .exact U k o (by simpa using hk) hor x hx hb
       .subst hor; exact ae o (by simpa using hk) x hx hb
      rcases a8 with rfl | hj'
      .exact V
      .have X:=A k o hk x hx hb;have am:x.on<ops.length:=(by have:=(List.getElem?_eq_some_iff.1 hk).1; omega);have e1:((Ih ops []).take k).getD x.on 0=(Ih ops []).getD x.on 0:=(by simp only [List.getD_eq_getElem?_getD];rw [List.getElem?_take_of_lt X]);rw [e1] at hj';exact ih x.on X _ (List.getElem?_eq_getElem am) (.inl V) j hj'
   have ad:∀j∈l1,∀o o',ops.toArray[j]? = some o->ops.toArray[i]? = some o'->Ind ops.toArray (λi=>accs.getD i ([],[])) j i o o':=by
    intro j hj o o' ar ax;have av:j<i:=(by have:=(List.pairwise_append.1 hp).2.2 j hj i ψ;exact this);have au:=(J j).1 (by simp [hj]);have ac:ops[j]? = some o:=(by simpa using ar);have L:ops[i]? = some o':=(by simpa using ax);have:=M (o',i) (u i o' L) (o,j) (u j o ac);simp only [Bool.or_eq_true,Bool.not_eq_true'] at this;rcases this with (h1 | h1) | h1
    .have:Nat.blt j i=true:=(by unfold Nat.blt; exact Nat.ble_eq_true_of_le av);rw [this] at h1; cases h1
    .have h2:=z i o' L (.inr rfl) j h1;have g:j<b.size:=ω;have h3:=au.2;simp only [Array.getD_eq_getD_getElem?] at h2 h3;simp [g] at h2 h3;rw [h2] at h3; cases h3
    .exact Asx (acc:=λi=>accs.getD i ([],[])) h1
   have ai:=hr.bubble ad;refine ai.wpOp s he hs ?_;intro e1 H1 r1 σ1 ι1 a1 w1 ak s1 b4 E ag ap;have G:∀(k:Nat) (d:Bool),(b.setIfInBounds i true).getD k d=if k=i then true else b.getD k d:=by
    intro k d;simp only [Array.getD_eq_getD_getElem?];by_cases c:k=i
    .subst c;rw [if_pos rfl,Array.getElem?_setIfInBounds_self_of_lt ω];rfl
    .rw [if_neg c,Array.getElem?_setIfInBounds_ne ω]
   have B:∀k∈l1++l2,k≠i:=by
    intro k hk e;subst e;rw [List.pairwise_append] at hp;rcases List.mem_append.1 hk with hk | hk
    .have:=hp.2.2 k hk k ψ; omega
    .have:=(List.pairwise_cons.1 hp.2.1).1 k hk; omega
   refine Ac3 N fuel _ (l1++l2) e1 H1 σ1 ι1 a1 w1 r1 ?_ ?_ (by simpa using a6) ?_ (by simp at f ⊢; omega) s1 b4 (by rw [E]; exact hs) ?_
   .rw [List.pairwise_append] at hp ⊢;exact ⟨hp.1,(List.pairwise_cons.1 hp.2.1).2,λx hx y hy=>hp.2.2 x hx y (by simp [hy])⟩
   .intro k;rw [G];constructor
    .intro hk;have h1:=(J k).1 (by
      rcases List.mem_append.1 hk with hk | hk
      .simp [hk]
      .simp [hk])
     rw [if_neg (B k hk)]; exact h1
    .rintro ⟨h1,h2⟩;by_cases c:k=i
     .rw [if_pos c] at h2; cases h2
     .rw [if_neg c] at h2;have:=(J k).2 ⟨h1,h2⟩;simp only [List.mem_append,List.mem_cons] at this ⊢;rcases this with h | h | h
      .exact .inl h
      .exact (c h).elim
      .exact .inr h
   .intro k o hk D x hx ah;rw [G] at D ⊢;by_cases Y:x.on=i
    .rw [if_pos Y]
    .rw [if_neg Y];by_cases c:k=i
     .subst c; exact ae o hk x hx ah
     .rw [if_neg c] at D; exact U k o hk D x hx ah
   .intro σ2 ι2 a2 w2 aj s2 b3 Z af ao;exact hk σ2 ι2 a2 w2 (ak.trans aj) s2 b3 (Z.trans E) (af.trans ag) (ap.trans ao)
end
end Go.Ab
