/- Abstract values. -/
import Derived.Calls
import Derived.Orders
import Derived.Lib.ItoaNum
import Derived.Laws.CopyRow
import Derived.Laws.Cells
import Derived.Laws.Append
import Derived.Laws.IdiomStrings
import Derived.Lib.SliceRun
import Derived.Laws.FloatArith
import Derived.Laws.Cover2
import Derived.Laws.MakeOwn
import Derived.Lib.AppendStr
import Derived.MapKept
import Derived.WideKeyRuns
import Derived.Scope
open List
namespace Go.Ab
variable {i m n:Nat} {p:Prop} {α:Type _} {l:List α} {a:α}
abbrev OB:=Option Bool
theorem ζ (h:p:=by simp;omega):p:=h
theorem ω (h:p:=by omega):p:=h
theorem δ (h:p:=by decide):p:=h
theorem ψ (h:p:=by simp):p:=h
theorem Eo:l[i]? = some a↔∃h:i<l.length,l[i]=a:=List.getElem?_eq_some_iff
theorem Dh {p:α->Bool}:l.all p=true↔∀x,x∈l->p x=true:=all_eq_true
theorem Dz (h:l[i]? = some a):a∈l:=mem_of_getElem? h
theorem Ft {xs:Array α}:xs.toList[i]? = xs[i]?:=Array.getElem?_toList
theorem Fu (h:n.ble m=true):n<=m:=Nat.le_of_ble_eq_true h
theorem Fj (h:n.beq m=true):n=m:=Nat.eq_of_beq_eq_true h
theorem Gz {j:Nat} (h:i<j):(l.take j)[i]? = l[i]?:=getElem?_take_of_lt h
theorem Ec (a b:Bool):((a&&b)=true)=(a=true/\b=true):=Bool.and_eq_true a b
theorem Ed (a b c:Nat):(a+b)*c=a*c+b*c:=Nat.add_mul a b c
inductive AV where
 | val (v:Value)
 | loc (h off:Nat)
 | arr (h k off len:Nat)
 | el (h k i j:Nat)
 | mp (h:Nat)
 | ref (cs:List AV)
 | sl (sz:Nat) (xs:List AV)
 | agg (cs:List AV)
 | tup (cs:List AV)
 | fn (f:FuncId) (caps:List AV)
 | fb (s:ByteArray)
 | vec (h n:Nat)
 | fm (es:List (AV×AV))
inductive NC where
 | own (xs:List AV)
 | lent (h n:Nat)
inductive Bg where
 | none
 | dead
 | cells (elem:TypeId) (cs:List AV)
 | rows (elem:TypeId) (sz:Nat) (xs:List AV)
 | map (es:List (AV×AV))
 | nest (elem inner:TypeId) (sz:Nat) (ys:List NC)
abbrev Bs:=Nat->AV
abbrev Hp:=Nat->Bg
abbrev Aw:=Nat->Option Obj
variable {m n:Nat} {α:Type}
def Aj (e:Nat->α) (n:Nat) (v:α):Nat->α:=λm=>bif Nat.beq m n then v else e m
theorem Ba (e:Nat->α) (n:Nat) (v:α):Aj e n v n=v:=by simp[Aj]
theorem Be (e:Nat->α) (v:α) (h:m≠n):Aj e n v m=e m:=by
 have:Nat.beq m n=false:=by
  cases z:Nat.beq m n
  .rfl
  .exact absurd (Fj z) h
 simp[Aj,this]
theorem Agv (e:Nat->α) (u v:α) (h:m≠n):Aj (Aj e n u) m v=Aj (Aj e m v) n u:=by
 funext k;by_cases z:k=n
 .subst z;rw[Be _ _ (Ne.symm h),Ba,Ba]
 .by_cases A:k=m
  .subst A;rw[Ba,Be _ _ z,Ba]
  .rw[Be _ _ A,Be _ _ z,Be _ _ z,Be _ _ A]
def AV.cells:AV->List AV
 | .agg cs=>cs
 | .val (.agg vs)=>vs.toList.map .val
 | x=>[x]
def Dy:Value->Bool
 | .agg _ | .tuple _=>false
 | _=>true
def AV.one:AV->Bool
 | .agg _ | .tup _=>false
 | .val v=>Dy v
 | _=>true
inductive CC (σ:Aw):AV->Value->Prop where
 | val (v:Value):CC σ (.val v) v
 | nil (sz:Nat) (a:Option Addr) (cap:Nat):CC σ (.sl sz []) (.slice a 0 cap)
 | sl (xs:List AV) (b off cap sz:Nat) (C:Array Value) (E:TypeId) (fr:Nat×Nat) (g:Nat->Nat->Value) (hσ:σ b=some (.cells C E fr))
   (hs:∀(i:Nat) (x:AV),xs[i]? = some x->x.cells.length=sz)
   (hc:∀(i:Nat) (x:AV) (j:Nat) (c:AV),xs[i]? = some x->x.cells[j]? = some c->CC σ c (g i j))
   (h1:∀(i:Nat) (x:AV) (j:Nat) (c:AV),xs[i]? = some x->x.cells[j]? = some c->Dy (g i j)=true)
   (hC:∀(i j:Nat),i<xs.length->j<sz->C[off+i*sz+j]? = some (g i j))
   (hl:xs.length<=140737488355328) (hcap:xs.length<=cap):CC σ (.sl sz xs) (.slice (some ⟨b,off,Option.none⟩) xs.length cap)
 | agg (cs:List AV) (vs:Array Value) (hl:vs.size=cs.length) (h:∀(i:Nat) (c:AV) (v:Value),cs[i]? = some c->vs[i]? = some v->CC σ c v):CC σ (.agg cs) (.agg vs)
 | fbn (s:ByteArray) (a:Option Addr) (cap:Nat) (h0:s.size=0):CC σ (.fb s) (.slice a 0 cap)
 | fb (s:ByteArray) (b cap:Nat) (C:Array Value) (hσ:σ b=some (.cells C 5 (0,s.size))) (h0:s.size≠0) (hcap:s.size<=cap) (hC:s.size<=C.size) (hl:s.size<=140737488355328)
   (hb:∀(j:Nat) (x:UInt8),s.data[j]? = some x->C[j]? = some (Value.int .u8 x.toNat)):CC σ (.fb s) (.slice (some ⟨b,0,Option.none⟩) s.size cap)
 | ref (cs:List AV) (b off:Nat) (C:Array Value) (E:TypeId) (fr:Nat×Nat) (g:Nat->Value) (hσ:σ b=some (.cells C E fr))
   (hc:∀(j:Nat) (c:AV),cs[j]? = some c->CC σ c (g j)) (h1:∀(j:Nat) (c:AV),cs[j]? = some c->Dy (g j)=true)
   (hC:∀(j:Nat),j<cs.length->C[off+j]? = some (g j)):CC σ (.ref cs) (.pointer (some ⟨b,off,Option.none⟩))
 | fm (es:List (AV×AV)) (b:Nat) (M:Array MapEntry) (t:Nat) (hσ:σ b=some (.map M t)) (hl:M.size=es.length)
   (hk:∀(i:Nat) (p:AV×AV) (e:MapEntry),es[i]? = some p->M[i]? = some e->CC σ p.1 e.key)
   (hv:∀(i:Nat) (p:AV×AV) (e:MapEntry),es[i]? = some p->M[i]? = some e->CC σ p.2 e.val):CC σ (.fm es) (.map (some b))
inductive Loc where
 | none
 | box (b:Nat)
 | nil
 | blk (b A8:Nat)
 | nst (b:Nat) (ls:Nat->Option (Nat×Nat))
abbrev Bq:=Nat->Loc
def Loc.has:Loc->Nat->Prop
 | .box c,b=>c=b
 | .blk c _,b=>c=b
 | .nst c f,b=>c=b\/∃(i t:Nat),f i=some (b,t)
 | _,_=>False
def Loc.base?:Loc->Option Nat
 | .box b=>some b
 | .nst b _=>some b
 | _=>Option.none
def Gg (l:Loc) (sz off len:Nat) (v:Value):Prop := match l with
 | .nil=>v = .slice Option.none 0 0/\off=0/\len=0
 | .blk b A8=>off+len<=A8/\v = .slice (some ⟨b,off*sz,Option.none⟩) len (A8-off)
 | _=>False
def Agw (l:Loc) (sz i j:Nat) (v:Value):Prop := match l with
 | .blk b _=>v = .pointer (some ⟨b,i*sz+j,Option.none⟩)
 | _=>False
inductive Conc (σ:Aw) (ι:Bq) (H:Hp):AV->Value->Prop where
 | cc {a:AV} {v:Value} (h:CC σ a v):Conc σ ι H a v
 | loc (h off b:Nat) (hb:(ι h).base? = some b):Conc σ ι H (.loc h off) (.pointer (some ⟨b,off,Option.none⟩))
 | mp (h b:Nat) (hb:(ι h).base? = some b):Conc σ ι H (.mp h) (.map (some b))
 | vec (h n b:Nat) (hb:(ι h).base? = some b):Conc σ ι H (.vec h n) (.slice (some ⟨b,0,Option.none⟩) n n)
 | arr (h k off len:Nat) (v:Value) (hn:H h≠.none) (hv:∀E sz xs,H h = .rows E sz xs->k<=xs.length/\(xs.length=k->Gg (ι h) sz off len v))
   (hone:Dy v=true):Conc σ ι H (.arr h k off len) v
 | el (h k i j:Nat) (v:Value) (hn:H h≠.none) (hv:∀E sz xs,H h = .rows E sz xs->k<=xs.length/\(xs.length=k->Agw (ι h) sz i j v))
   (hone:Dy v=true):Conc σ ι H (.el h k i j) v
 | ref (cs:List AV) (b off:Nat) (C:Array Value) (E:TypeId) (fr:Nat×Nat) (g:Nat->Value) (hσ:σ b=some (.cells C E fr))
   (hc:∀(j:Nat) (c:AV),cs[j]? = some c->CC σ c (g j)) (h1:∀(j:Nat) (c:AV),cs[j]? = some c->Dy (g j)=true)
   (hC:∀(j:Nat),j<cs.length->C[off+j]? = some (g j)):Conc σ ι H (.ref cs) (.pointer (some ⟨b,off,Option.none⟩))
 | agg (cs:List AV) (vs:Array Value) (hl:vs.size=cs.length) (h:∀(i:Nat) (c:AV) (v:Value),cs[i]? = some c->vs[i]? = some v->Conc σ ι H c v):Conc σ ι H (.agg cs) (.agg vs)
 | tup (cs:List AV) (vs:Array Value) (hl:vs.size=cs.length) (h:∀(i:Nat) (c:AV) (v:Value),cs[i]? = some c->vs[i]? = some v->Conc σ ι H c v):Conc σ ι H (.tup cs) (.tuple vs)
 | fn (f:FuncId) (caps:List AV) (vs:Array Value) (hl:vs.size=caps.length) (h:∀(i:Nat) (c:AV) (v:Value),caps[i]? = some c->vs[i]? = some v->Conc σ ι H c v) :
   Conc σ ι H (.fn f caps) (.func (.func f) #[] vs)
def Aw.le (σ σ':Aw):Prop:=∀b o,σ b=some o->σ' b=some o
theorem Aw.le_refl (σ:Aw):σ.le σ:=λ_ _ h=>h
theorem Aw.le_trans {σ σ' c:Aw} (h:Aw.le σ σ') (h':Aw.le σ' c):Aw.le σ c:=λb o e=>h' b o (h b o e)
structure HLe (l:Loc) (o:Bg) (l':Loc) (o':Bg):Prop where
 box:∀b,l.base? = some b->l'.base? = some b
 some:o≠.none->o'≠.none
 rows:o≠.none->∀E' sz' xs',o' = .rows E' sz' xs'->∃E sz xs,o = .rows E sz xs/\(xs.length<xs'.length\/(xs.length=xs'.length/\sz=sz'/\l=l'))
theorem HLe.refl (l:Loc) (o:Bg):HLe l o l o := ⟨λ_ h=>h,λh=>h,λ_ E sz xs h=>⟨E,sz,xs,h,.inr ⟨rfl,rfl,rfl⟩⟩⟩
variable {σ σ':Aw} {ι ι':Bq} {H H':Hp} {v:Value}
theorem HLe.trans {l z j:Loc} {o o' i:Bg} (h:HLe l o z o') (h':HLe z o' j i):HLe l o j i:=by
 refine⟨λb e=>h'.box b (h.box b e),λe=>h'.some (h.some e),λe x f c u=>?_⟩;obtain⟨I,q,k,e',y⟩:=h'.rows (h.some e) x f c u;obtain⟨E,sz,xs,G,r⟩:=h.rows e I q k e';refine⟨E,sz,xs,G,?_⟩;rcases r with r|⟨L,J,A⟩ <;> rcases y with y|⟨D,B,s⟩
 .left;omega
 .left;omega
 .left;omega
 .exact .inr ⟨ω,ω,A.trans s⟩
structure Le (σ:Aw) (ι:Bq) (H:Hp) (σ':Aw) (ι':Bq) (H':Hp):Prop where
 sto:σ.le σ'
 obj:∀h,HLe (ι h) (H h) (ι' h) (H' h)
theorem Le.refl (σ:Aw) (ι:Bq) (H:Hp):Le σ ι H σ ι H:=⟨Aw.le_refl σ,λ_=>HLe.refl _ _⟩
theorem Le.trans {b:Aw} {c:Bq} {f:Hp} (h:Le σ ι H σ' ι' H') (h':Le σ' ι' H' b c f):Le σ ι H b c f := ⟨Aw.le_trans h.sto h'.sto,λx=>(h.obj x).trans (h'.obj x)⟩
theorem CC.mono (k:σ.le σ') {a:AV} (h:CC σ a v):CC σ' a v:=by induction h with| val v=>exact .val v| nil sz a cap=>exact .nil sz a cap| sl xs b off cap sz C E fr g f q _ h1 j i c ih=>exact .sl xs b off cap sz C E fr g (k _ _ f) q ih h1 j i c| agg cs vs i _ ih=>exact .agg cs vs i ih| fbn s a cap h0=>exact .fbn s a cap h0| fb s b cap C f h0 c j i hb=>exact .fb s b cap C (k _ _ f) h0 c j i hb| ref cs b off C E fr g f _ h1 j ih=>exact .ref cs b off C E fr g (k _ _ f) ih h1 j| fm es b M t f i _ _ x u=>exact .fm es b M t (k _ _ f) i x u
theorem Conc.mono (s:Le σ ι H σ' ι' H') {a:AV} (h:Conc σ ι H a v):Conc σ' ι' H' a v:=by
 induction h with
 | cc h=>exact .cc (h.mono s.sto)
 | loc h off b hb=>exact .loc h off b ((s.obj h).box b hb)
 | mp h b hb=>exact .mp h b ((s.obj h).box b hb)
 | vec h n b hb=>exact .vec h n b ((s.obj h).box b hb)
 | arr h k off len v A y q=>
  refine .arr h k off len v ((s.obj h).some A) (λJ x u e=>?_) q;obtain⟨E,sz,xs,I,r⟩:=(s.obj h).rows A J x u e;obtain⟨hk,y⟩:=y E sz xs I;rcases r with r|⟨L,G,D⟩
  .exact⟨ω,λz=>ω⟩
  .rw[<-G,<-D];exact⟨ω,λz=>y ω⟩
 | el h k i j v A y q=>
  refine .el h k i j v ((s.obj h).some A) (λJ x u e=>?_) q;obtain⟨E,sz,xs,I,r⟩:=(s.obj h).rows A J x u e;obtain⟨hk,y⟩:=y E sz xs I;rcases r with r|⟨L,G,D⟩
  .exact⟨ω,λz=>ω⟩
  .rw[<-G,<-D];exact⟨ω,λz=>y ω⟩
 | ref cs b off C E fr g M hc h1 N=>exact .ref cs b off C E fr g (s.sto _ _ M) (λj c h=>(hc j c h).mono s.sto) h1 N
 | agg cs vs B _ ih=>exact .agg cs vs B ih
 | tup cs vs B _ ih=>exact .tup cs vs B ih
 | fn f caps vs B _ ih=>exact .fn f caps vs B ih
variable {F σ σ':Aw} {ι ι':Bq} {H H':Hp} {ys:List NC} {l:Loc} {b sz:Nat} {E Ei:TypeId} {W w w':World}
def G8 (σ:Aw) (sz:Nat) (xs:List AV) (C:Array Value):Prop := ∃g:Nat->Nat->Value,(∀(i:Nat) (x:AV),xs[i]? = some x->x.cells.length=sz) /\ (∀(i:Nat) (x:AV) (j:Nat) (c:AV),xs[i]? = some x->x.cells[j]? = some c->CC σ c (g i j)/\Dy (g i j)=true) /\ (∀(i j:Nat),i<xs.length->j<sz->C[i*sz+j]? = some (g i j))
def Pd (σ:Aw) (es:List (AV×AV)) (M:Array MapEntry):Prop := M.size=es.length/\∀(i:Nat) (p:AV×AV) (e:MapEntry),es[i]? = some p->M[i]? = some e->CC σ p.1 e.key/\CC σ p.2 e.val
theorem Pd.mono (b:σ.le σ') {es:List (AV×AV)} {M:Array MapEntry} (h:Pd σ es M):Pd σ' es M := ⟨h.1,λi p e h1 h2=>⟨(h.2 i p e h1 h2).1.mono b,(h.2 i p e h1 h2).2.mono b⟩⟩
def Apy (σ:Aw) (ι:Bq) (H:Hp) (F:Aw) (w:World) (E:TypeId) (sz:Nat) (l:Option (Nat×Nat)) (y:NC) (v:Value):Prop := match y with
 | .own xs=>xs.length<=140737488355328 /\ match l with
  | none=>xs = []/\v = .slice none 0 0
  | some p=>σ p.1=none/\F p.1=none/\v = .slice (some ⟨p.1,0,none⟩) xs.length p.2 /\ ∃D:Array Value,w.heap[p.1]? = some (.cells D E (0,0))/\D.size=p.2*sz/\xs.length<=p.2/\G8 σ sz xs D
 | .lent h n=>l=none/\Conc σ ι H (.arr h n 0 n) v
def Gc (σ:Aw) (ι:Bq) (H:Hp) (F:Aw) (w:World) (l:Loc) (E Ei:TypeId) (sz:Nat) (ys:List NC):Prop := (0<sz/\ys.length<=140737488355328)/\∃(b:Nat) (c:Nat->Option (Nat×Nat)) (C:Array Value),l = .nst b c/\σ b=none/\F b=none/\w.heap[b]? = some (.cells C E (0,0))/\C.size=ys.length /\ (∀(i:Nat) (p:Nat×Nat),c i=some p->p.1≠b/\∃xs,ys[i]? = some (.own xs)) /\ (∀(i j f t k:Nat),c i=some (f,t)->c j=some (f,k)->i=j) /\ ∀(i:Nat) (y:NC) (v:Value),ys[i]? = some y->C[i]? = some v->Apy σ ι H F w Ei sz (c i) y v
def Bw (σ:Aw) (ι:Bq) (H:Hp) (F:Aw) (w:World) (h:Nat):Prop := match H h with
 | .none=>ι h = .none
 | .dead=>True
 | .cells E cs=>∃(b:Nat) (C:Array Value),ι h = .box b/\σ b=none/\F b=none/\w.heap[b]? = some (.cells C E (0,0))/\C.size=cs.length /\ ∀(i:Nat) (c:AV) (v:Value),cs[i]? = some c->C[i]? = some v->Conc σ ι H c v
 | .rows E sz xs=>0<sz/\xs.length<=140737488355328/\((ι h = .nil/\xs = [])\/∃(b A8:Nat) (C:Array Value),ι h = .blk b A8/\σ b=none/\F b=none /\ w.heap[b]? = some (.cells C E (0,0))/\C.size=A8*sz/\xs.length<=A8/\G8 σ sz xs C)
 | .map es=>∃(b:Nat) (M:Array MapEntry) (t:Nat),ι h = .box b/\σ b=none/\F b=none/\w.heap[b]? = some (.map M t)/\Pd σ es M
 | .nest E Ei sz ys=>Gc σ ι H F w (ι h) E Ei sz ys
def Bg.live:Bg->Bool
 | .none | .dead=>false
 | _=>true
def Q7 (σ:Aw):Prop:=∃(E:TypeId) (A:Nat×Nat),σ 0=some (.cells (Lib.pow10Tab.map λz=>Value.int .u64 z).toArray E A)
theorem Q7.mono (h:σ.le σ') (g:Q7 σ):Q7 σ':=by obtain⟨E,fr,e⟩:=g;exact⟨E,fr,h _ _ e⟩
structure St (σ:Aw) (ι:Bq) (H:Hp) (F:Aw) (W w:World):Prop where
 sto:∀b o,σ b=some o->w.heap[b]? = some o
 fra:∀b o,F b=some o->w.heap[b]? = some o/\σ b=none
 obj:∀h,Bw σ ι H F w h
 inj:∀h h' b,(H h).live=true->(H h').live=true->(ι h).has b->(ι h').has b->h=h'
 os:w.os=W.os
 tape:w.tape=W.tape
 output:w.output=W.output
 glo:Q7 σ
 drw:W.drawn<=w.drawn
theorem G8.mono (b:σ.le σ') {xs:List AV} {C:Array Value} (h:G8 σ sz xs C):G8 σ' sz xs C:=by obtain⟨g,h1,h2,h3⟩:=h;exact⟨g,h1,λi x j c hx hc=>⟨((h2 i x j c hx hc).1).mono b,(h2 i x j c hx hc).2⟩,h3⟩
theorem Gc.keep {O:Aw} (le:Le σ ι H σ' ι' H') (hk:∀b,l.has b->(σ b=none->σ' b=none)/\(F b=none->O b=none)/\w'.heap[b]? = w.heap[b]?) (h:Gc σ ι H F w l E Ei sz ys):Gc σ' ι' H' O w' l E Ei sz ys:=by
 obtain⟨h0,b,f,C,rfl,h1,h2,h3,L,J,I,G⟩:=h;have hb:=hk b (.inl rfl);refine⟨h0,b,f,C,rfl,hb.1 h1,hb.2.1 h2,by rw[hb.2.2];exact h3,L,J,I,λi y v hy B=>?_⟩;have:=G i y v hy B;cases y with
 | lent h n=>exact⟨this.1,this.2.mono le⟩
 | own xs=>refine⟨this.1,?_⟩;have q:=this.2;cases c:f i with| none=>rw[c]at q;exact q| some p=>rw[c]at q;have hp:=hk p.1 (.inr ⟨i,p.2,c⟩);obtain⟨A,z,x,D,u,s,k,j⟩:=q;exact⟨hp.1 A,hp.2.1 z,x,D,by rw[hp.2.2];exact u,s,k,j.mono le.sto⟩
theorem Gc.block (h:Gc σ ι H F w l E Ei sz ys) (hb:l.has b):b<w.heap.size/\σ b=none/\F b=none:=by
 obtain⟨h0,A,y,C,rfl,h1,h2,h3,x,u,z,s⟩:=h;rcases hb with rfl|⟨i,t,hi⟩
 .exact⟨(Array.getElem?_eq_some_iff.1 h3).1,h1,h2⟩
 .obtain⟨_,xs,hx⟩:=u i _ hi;have c:i<C.size:=(by rw[x];exact (Eo.1 hx).1);have q:=(s i _ C[i] hx (by simp[c])).2;rw[hi]at q;obtain⟨k,j,_,D,f,_⟩:=q;exact⟨(Array.getElem?_eq_some_iff.1 f).1,k,j⟩
theorem St.block (s:St σ ι H F W w) {h:Nat} (i:(H h).live=true) (hb:(ι h).has b) : b<w.heap.size/\σ b=none/\F b=none:=by
 have c:=s.obj h;unfold Bw at c;cases f:H h with
 | none=>rw[f]at i;cases i
 | dead=>rw[f]at i;cases i
 | cells E cs=>rw[f]at c;obtain⟨j,C,e,h1,h2,h3,_⟩:=c;rw[e]at hb;simp only[Loc.has]at hb;subst hb;refine⟨?_,h1,h2⟩;exact (Array.getElem?_eq_some_iff.1 h3).1
 | rows E sz xs=>
  rw[f]at c;obtain⟨_,_,⟨e,_⟩|⟨j,A8,C,e,h1,h2,h3,_⟩⟩:=c
  .rw[e]at hb;simp only[Loc.has]at hb
  .rw[e]at hb;simp only[Loc.has]at hb;subst hb;exact⟨(Array.getElem?_eq_some_iff.1 h3).1,h1,h2⟩
 | map es=>rw[f]at c;obtain⟨j,M,t,e,h1,h2,h3,_⟩:=c;rw[e]at hb;simp only[Loc.has]at hb;subst hb;exact⟨(Array.getElem?_eq_some_iff.1 h3).1,h1,h2⟩
 | nest E Ei sz ys=>rw[f]at c;exact Gc.block c hb
theorem St.touch (s:St σ ι H F W w) (h t:Nat) (V:∀x,x≠h->ι' x=ι x) (X:∀x,x≠h->H' x=H x) (le:Le σ ι H σ' ι' H') (j:∀b,b≠t->w'.heap[b]? = w.heap[b]?) (L:∀b,b≠t->σ' b=σ b) (Z:∀o,σ' t=some o->w'.heap[t]? = some o) (k:∀x,x≠h->(H x).live=true->¬(ι x).has t) (hF:F t=none) (D:∀b,(H' h).live=true->(ι' h).has b->b=t\/((H h).live=true/\(ι h).has b)) (R:Bw σ' ι' H' F w' h) (a1:w'.os=w.os) (I:w'.tape=w.tape) (O:w'.output=w.output) (hdrw:w.drawn<=w'.drawn:=by exact Nat.le_refl _):St σ' ι' H' F W w':=by
 refine⟨?_,?_,?_,?_,a1.trans s.os,I.trans s.tape,O.trans s.output,s.glo.mono le.sto,Nat.le_trans s.drw hdrw⟩
 .intro b o hb;by_cases e:b=t
  .subst e;exact Z o hb
  .rw[j b e];exact s.sto b o (by rw[<-L b e];exact hb)
 .intro b o hb;have e:b≠t:=(by intro e;subst e;rw[hF]at hb;cases hb);rw[j b e,L b e];exact s.fra b o hb
 .intro x;by_cases e:x=h
  .subst e;exact R
  .have A:=s.obj x;unfold Bw at A ⊢;rw[X x e,V x e];cases hx:H x with
   | none=>rw[hx]at A;exact A
   | dead=>trivial
   | cells E cs=>rw[hx]at A;obtain⟨b,C,B,h1,h2,h3,S,h5⟩:=A;have f:b≠t:=(by intro u;subst u;exact k x e (by rw[hx];rfl) (by rw[B];rfl));exact⟨b,C,B,by rw[L b f];exact h1,h2,by rw[j b f];exact h3,S,λi c v hc hv=>(h5 i c v hc hv).mono le⟩
   | rows E sz xs=>
    rw[hx]at A;obtain⟨z1,z2,⟨B,e2⟩|⟨b,A8,C,B,h1,h2,h3,S,h5,h6⟩⟩:=A
    .exact⟨z1,z2,.inl ⟨B,e2⟩⟩
    .have f:b≠t:=(by intro u;subst u;exact k x e (by rw[hx];rfl) (by rw[B];rfl));exact⟨z1,z2,.inr ⟨b,A8,C,B,by rw[L b f];exact h1,h2,by rw[j b f];exact h3,S,h5,h6.mono le.sto⟩⟩
   | map es=>rw[hx]at A;obtain⟨b,M,q,B,h1,h2,h3,S⟩:=A;have f:b≠t:=(by intro u;subst u;exact k x e (by rw[hx];rfl) (by rw[B];rfl));exact⟨b,M,q,B,by rw[L b f];exact h1,h2,by rw[j b f];exact h3,S.mono le.sto⟩
   | nest E Ei sz ys=>rw[hx]at A;refine Gc.keep le (λb hb=>?_) A;have f:b≠t:=(by intro u;subst u;exact k x e (by rw[hx];rfl) hb);exact⟨λq=>by rw[L b f];exact q,λq=>q,j b f⟩
 .intro x y b N J U z;by_cases K:x=h
  .subst K;by_cases G:y=x
   .exact G.symm
   .rw[X y G]at J;rw[V y G]at z;rcases D b N U with e|⟨Y,b0⟩
    .subst e;exact (k y G J z).elim
    .exact s.inj x y b Y J b0 z
  .rw[X x K]at N;rw[V x K]at U;by_cases G:y=h
   .subst G;rcases D b J z with e|⟨Y,b0⟩
    .subst e;exact (k x K N U).elim
    .exact s.inj x y b N Y U b0
   .rw[X y G]at J;rw[V y G]at z;exact s.inj x y b N J U z
theorem HLe.of_none {b:Loc} {o':Bg}:HLe .none .none b o':=⟨nofun,λh=>(h rfl).elim,λh=>(h rfl).elim⟩
theorem Le.upd (b:σ.le σ') (h:Nat) (l:Loc) (o:Bg) (c:HLe (ι h) (H h) l o):Le σ ι H σ' (Aj ι h l) (Aj H h o):=by
 refine⟨b,λx=>?_⟩;by_cases e:x=h
 .subst e;rw[Ba,Ba];exact c
 .rw[Be _ _ e,Be _ _ e];exact HLe.refl _ _
theorem Hk {α:Type} (e:Nat->α) (n:Nat):Aj e n (e n)=e:=by
 funext m;by_cases h:m=n
 .subst h;rw[Ba]
 .rw[Be _ _ h]
theorem St.newBox (s:St σ ι H F W w) (h:Nat) (z:H h = .none) (E:TypeId) (cs:List AV) (C:Array Value) (u:C.size=cs.length) (hc:∀(i:Nat) (c:AV) (v:Value),cs[i]? = some c->C[i]? = some v->Conc σ ι H c v) : St σ (Aj ι h (.box w.heap.size)) (Aj H h (.cells E cs)) F W (w.alloc (.cells C E))/\Le σ ι H σ (Aj ι h (.box w.heap.size)) (Aj H h (.cells E cs)):=by
 have q:ι h = .none:=by have:=s.obj h;unfold Bw at this;rw[z]at this;exact this
 have le:Le σ ι H σ (Aj ι h (.box w.heap.size)) (Aj H h (.cells E cs)):=Le.upd (Aw.le_refl σ) h _ _ (by rw[q,z];exact HLe.of_none);have f:∀(S:Aw),(∀b o,S b=some o->w.heap[b]? = some o)->S w.heap.size=none:=by intro S A;cases e:S w.heap.size with| none=>rfl| some o=>have:=A _ _ e;simp at this
 have j:=f σ s.sto;have k:=f F λb o hb=>(s.fra b o hb).1;refine⟨s.touch h w.heap.size (λx e=>Be _ _ e) (λx e=>Be _ _ e) le ?_ (λ_ _=>rfl) (λo y=>by rw[j]at y;cases y) ?_ k ?_ ?_ rfl rfl rfl,le⟩
 .intro b hb;show (w.heap.push _)[b]? = _;rw[Array.getElem?_push,if_neg hb]
 .intro x e u hb;have:=(s.block u hb).1;omega
 .intro b _ hb;rw[Ba]at hb;simp only[Loc.has]at hb;exact .inl hb.symm
 .unfold Bw;rw[Ba];refine⟨w.heap.size,C,Ba _ _ _,j,k,?_,u,λi c v h1 h2=>(hc i c v h1 h2).mono le⟩;show (w.heap.push _)[w.heap.size]? = _;simp
theorem St.newFrozen (s:St σ ι H F W w) (o:Obj) : St (Aj σ w.heap.size (some o)) ι H F W (w.alloc o)/\Le σ ι H (Aj σ w.heap.size (some o)) ι H:=by
 have y:∀(S:Aw),(∀b o,S b=some o->w.heap[b]? = some o)->S w.heap.size=none:=by intro S L;cases e:S w.heap.size with| none=>rfl| some o=>have:=L _ _ e;simp at this
 have B:=y σ s.sto;have D:=y F λb o hb=>(s.fra b o hb).1;have u:σ.le (Aj σ w.heap.size (some o)):=by intro b o' hb;rw[Be _ _ (by intro e;subst e;rw[B]at hb;cases hb)];exact hb
 have le:Le σ ι H (Aj σ w.heap.size (some o)) ι H:=⟨u,λ_=>HLe.refl _ _⟩;have f:∀b,b≠w.heap.size->(w.alloc o).heap[b]? = w.heap[b]?:=by intro b hb;show (w.heap.push _)[b]? = _;rw[Array.getElem?_push,if_neg hb]
 refine⟨⟨?_,?_,?_,s.inj,s.os,s.tape,s.output,s.glo.mono u,s.drw⟩,le⟩
 .intro b o' hb;by_cases e:b=w.heap.size
  .subst e;rw[Ba]at hb;cases hb;show (w.heap.push _)[w.heap.size]? = _;simp
  .rw[Be _ _ e]at hb;rw[f b e];exact s.sto b o' hb
 .intro b o' hb;have e:b≠w.heap.size:=(by intro e;subst e;rw[D]at hb;cases hb);rw[f b e,Be _ _ e];exact s.fra b o' hb
 .intro x;have k:=s.obj x;unfold Bw at k ⊢;cases hx:H x with
  | none=>rw[hx]at k;exact k
  | dead=>trivial
  | cells E cs=>rw[hx]at k;obtain⟨b,C,z,h1,h2,h3,A,G⟩:=k;have j:b≠w.heap.size:=(by have:=(Array.getElem?_eq_some_iff.1 h3).1;omega);exact⟨b,C,z,by rw[Be _ _ j];exact h1,h2,by rw[f b j];exact h3,A,λi c v hc J=>(G i c v hc J).mono le⟩
  | rows E sz xs=>
   rw[hx]at k;obtain⟨I,K,⟨z,O⟩|⟨b,A8,C,z,h1,h2,h3,A,G,N⟩⟩:=k
   .exact⟨I,K,.inl ⟨z,O⟩⟩
   .have j:b≠w.heap.size:=(by have:=(Array.getElem?_eq_some_iff.1 h3).1;omega);exact⟨I,K,.inr ⟨b,A8,C,z,by rw[Be _ _ j];exact h1,h2,by rw[f b j];exact h3,A,G,N.mono u⟩⟩
  | map es=>rw[hx]at k;obtain⟨b,M,q,z,h1,h2,h3,A⟩:=k;have j:b≠w.heap.size:=(by have:=(Array.getElem?_eq_some_iff.1 h3).1;omega);exact⟨b,M,q,z,by rw[Be _ _ j];exact h1,h2,by rw[f b j];exact h3,A.mono u⟩
  | nest E Ei sz ys=>rw[hx]at k;refine Gc.keep le (λb hb=>?_) k;have j:b≠w.heap.size:=(by have:=(Gc.block k hb).1;omega);exact⟨λq=>by rw[Be _ _ j];exact q,λq=>q,f b j⟩
theorem St.drew (s:St σ ι H F W w) (n:Nat) (b:w.drawn<=n:=by first|exact Nat.le_succ _|exact Nat.le_refl _|omega):St σ ι H F W {w with drawn:=n}:=by refine⟨s.sto,s.fra,λh=>?_,s.inj,s.os,s.tape,s.output,s.glo,Nat.le_trans s.drw b⟩;have:=s.obj h;unfold Bw at this ⊢;exact this
theorem W6 (w:World) (g b:Nat) (C:Array Value) (h:b≠g):(w.setRow g C).heap[b]? = w.heap[b]?:=by simp only[World.setRow,Array.getElem?_modify];rw[if_neg ω]
theorem St.setBox (s:St σ ι H F W w) (h:Nat) (E:TypeId) (cs f:List AV) (k:H h = .cells E cs) (b:Nat) (hb:ι h = .box b) (j:Array Value) (u:j.size=f.length) (hc:∀(i:Nat) (c:AV) (v:Value),f[i]? = some c->j[i]? = some v->Conc σ ι H c v) : St σ ι (Aj H h (.cells E f)) F W (w.setRow b j)/\Le σ ι H σ ι (Aj H h (.cells E f)):=by
 have q:=s.obj h;unfold Bw at q;rw[k]at q;obtain⟨J,C,B,h1,h2,h3,G,D⟩:=q;rw[hb]at B;cases B;have le:Le σ ι H σ ι (Aj H h (.cells E f)):=by have:=Le.upd (ι:=ι) (H:=H) (Aw.le_refl σ) h (ι h) (.cells E f) (by rw[k];exact⟨λ_ e=>e,(λ_ e=>by cases e),(λ_ _ _ _ e=>by cases e)⟩);rwa [Hk]at this
 refine⟨s.touch h b (λ_ _=>rfl) (λx e=>Be _ _ e) le (λx e=>W6 w b x j e) (λ_ _=>rfl) (λo e=>by rw[h1]at e;cases e) ?_ h2 ?_ ?_ rfl rfl rfl,le⟩
 .intro x e u z;exact e (s.inj x h b u (by rw[k];rfl) z (by rw[hb];rfl))
 .intro I _ A;exact .inr ⟨by rw[k];rfl,A⟩
 .unfold Bw;rw[Ba];exact⟨b,j,hb,h1,h2,setRow_heap w b C j E (0,0) h3,u,λi c v x y=>(hc i c v x y).mono le⟩
theorem St.setRows (s:St σ ι H F W w) (h:Nat) (E:TypeId) (sz:Nat) (xs c:List AV) (j:H h = .rows E sz xs) (b A8:Nat) (hb:ι h = .blk b A8) (q:c.length=xs.length) (f:Array Value) (I:f.size=A8*sz) (G:G8 σ sz c f) : St σ ι (Aj H h (.rows E sz c)) F W (w.setRow b f)/\Le σ ι H σ ι (Aj H h (.rows E sz c)):=by
 have k:=s.obj h;unfold Bw at k;rw[j]at k;obtain⟨A,K,⟨i,N⟩|⟨R,z,C,i,h1,h2,h3,M,L,J⟩⟩:=k
 .rw[hb]at i;cases i
 rw[hb]at i;cases i;have le:Le σ ι H σ ι (Aj H h (.rows E sz c)):=by have:=Le.upd (ι:=ι) (H:=H) (Aw.le_refl σ) h (ι h) (.rows E sz c) (by rw[j];exact⟨λ_ e=>e,(λ_ e=>by cases e),λ_ S D B e=>by cases e;exact⟨E,sz,xs,rfl,.inr ⟨q.symm,rfl,rfl⟩⟩⟩);rwa [Hk]at this
 refine⟨s.touch h b (λ_ _=>rfl) (λx e=>Be _ _ e) le (λx e=>W6 w b x f e) (λ_ _=>rfl) (λo e=>by rw[h1]at e;cases e) ?_ h2 ?_ ?_ rfl rfl rfl,le⟩
 .intro x e q u;exact e (s.inj x h b q (by rw[j];rfl) u (by rw[hb];rfl))
 .intro O _ y;exact .inr ⟨by rw[j];rfl,y⟩
 .unfold Bw;rw[Ba];exact⟨A,ω,.inr ⟨b,A8,f,hb,h1,h2,setRow_heap w b C f E (0,0) h3,I,ω,G⟩⟩
theorem St.growIn (s:St σ ι H F W w) (h:Nat) (E:TypeId) (sz:Nat) (xs c:List AV) (j:H h = .rows E sz xs) (b A8:Nat) (hb:ι h = .blk b A8) (q:xs.length<c.length) (hm:c.length<=140737488355328) (K:c.length<=A8) (f:Array Value) (I:f.size=A8*sz) (G:G8 σ sz c f) : St σ ι (Aj H h (.rows E sz c)) F W (w.setRow b f)/\Le σ ι H σ ι (Aj H h (.rows E sz c)):=by
 have k:=s.obj h;unfold Bw at k;rw[j]at k;obtain⟨A,U,⟨i,N⟩|⟨R,z,C,i,h1,h2,h3,M,L,J⟩⟩:=k
 .rw[hb]at i;cases i
 rw[hb]at i;cases i;have le:Le σ ι H σ ι (Aj H h (.rows E sz c)):=by have:=Le.upd (ι:=ι) (H:=H) (Aw.le_refl σ) h (ι h) (.rows E sz c) (by rw[j];exact⟨λ_ e=>e,(λ_ e=>by cases e),λ_ S D B e=>by cases e;exact⟨E,sz,xs,rfl,.inl q⟩⟩);rwa [Hk]at this
 refine⟨s.touch h b (λ_ _=>rfl) (λx e=>Be _ _ e) le (λx e=>W6 w b x f e) (λ_ _=>rfl) (λo e=>by rw[h1]at e;cases e) ?_ h2 ?_ ?_ rfl rfl rfl,le⟩
 .intro x e q u;exact e (s.inj x h b q (by rw[j];rfl) u (by rw[hb];rfl))
 .intro O _ y;exact .inr ⟨by rw[j];rfl,y⟩
 .unfold Bw;rw[Ba];exact⟨A,hm,.inr ⟨b,A8,f,hb,h1,h2,setRow_heap w b C f E (0,0) h3,I,K,G⟩⟩
theorem St.fresh (s:St σ ι H F W w):σ w.heap.size=none/\F w.heap.size=none:=by
 have c:∀(S:Aw),(∀b o,S b=some o->w.heap[b]? = some o)->S w.heap.size=none:=by intro S f;cases e:S w.heap.size with| none=>rfl| some o=>have:=f _ _ e;simp at this
 exact⟨c σ s.sto,c F λb o hb=>(s.fra b o hb).1⟩
theorem St.newRows (s:St σ ι H F W w) (h:Nat) (E:TypeId) (sz:Nat) (xs:List AV) (A8:Nat) (C:Array Value) (M:H h = .none\/∃y f c,H h = .rows y f c/\c.length<xs.length) (I:0<sz) (hm:xs.length<=140737488355328) (K:xs.length<=A8) (N:C.size=A8*sz) (J:G8 σ sz xs C) : St σ (Aj ι h (.blk w.heap.size A8)) (Aj H h (.rows E sz xs)) F W (w.alloc (.cells C E))/\Le σ ι H σ (Aj ι h (.blk w.heap.size A8)) (Aj H h (.rows E sz xs)):=by
 obtain⟨i,k⟩:=s.fresh;have le:Le σ ι H σ (Aj ι h (.blk w.heap.size A8)) (Aj H h (.rows E sz xs)):=by
  refine Le.upd (Aw.le_refl σ) h _ _ ?_;rcases M with j|⟨y,f,c,j,u⟩
  .have q:ι h = .none:=(by have:=s.obj h;unfold Bw at this;rw[j]at this;exact this);rw[q,j];exact HLe.of_none
  .rw[j];refine⟨λb e=>?_,(λ_ e=>by cases e),λ_ R G D e=>by cases e;exact⟨y,f,c,rfl,.inl u⟩⟩;have:=s.obj h;unfold Bw at this;rw[j]at this;obtain⟨_,_,⟨B,_⟩|⟨O,z,C,B,_⟩⟩:=this <;> rw[B]at e <;> cases e
 refine⟨s.touch h w.heap.size (λx e=>Be _ _ e) (λx e=>Be _ _ e) le ?_ (λ_ _=>rfl) (λo A=>by rw[i]at A;cases A) ?_ k ?_ ?_ rfl rfl rfl,le⟩
 .intro b hb;show (w.heap.push _)[b]? = _;rw[Array.getElem?_push,if_neg hb]
 .intro x e L hb;have:=(s.block L hb).1;omega
 .intro b _ hb;rw[Ba]at hb;simp only[Loc.has]at hb;exact .inl hb.symm
 .unfold Bw;rw[Ba];refine⟨I,hm,.inr ⟨w.heap.size,A8,C,Ba _ _ _,i,k,?_,N,K,J⟩⟩;show (w.heap.push _)[w.heap.size]? = _;simp
theorem St.newNil (s:St σ ι H F W w) (h:Nat) (k:H h = .none) (E:TypeId) (sz:Nat) (q:0<sz) : St σ (Aj ι h .nil) (Aj H h (.rows E sz [])) F W w/\Le σ ι H σ (Aj ι h .nil) (Aj H h (.rows E sz [])):=by
 obtain⟨c,i⟩:=s.fresh;have f:ι h = .none:=by have:=s.obj h;unfold Bw at this;rw[k]at this;exact this
 have le:Le σ ι H σ (Aj ι h .nil) (Aj H h (.rows E sz [])):=Le.upd (Aw.le_refl σ) h _ _ (by rw[f,k];exact HLe.of_none);refine⟨s.touch h w.heap.size (λx e=>Be _ _ e) (λx e=>Be _ _ e) le (λ_ _=>rfl) (λ_ _=>rfl) (λo j=>by rw[c]at j;cases j) ?_ i ?_ ?_ rfl rfl rfl,le⟩
 .intro x e u hb;have:=(s.block u hb).1;omega
 .intro b _ hb;rw[Ba]at hb;simp only[Loc.has]at hb
 .unfold Bw;rw[Ba];exact⟨q,ψ,.inl ⟨Ba _ _ _,rfl⟩⟩
inductive TD where
 | int (k:IntKind)
 | bool
 | string
 | slice (e:TypeId)
 | struct (fs:List (Nat×Nat))
 | map (k e:TypeId)
 | float (k:FloatKind)
 | other
structure TI where
 d:TD
 size:Nat
 bytes:Nat
 zero:List Value
def TI.isAgg (i:TI):Bool := match i.d with
 | .struct _=>true
 | _=>false
def zok (u:TypeDesc) (z:Value):Bool := match u with
 | .struct _=>(match z with|.agg _=>true|_=>false)
 | _=>Dy z
def Hw (P:Program) (t:TypeId):Option TI := match P.info? t,P.underlying t with
 | some b,some u=> match b.zero with
  | none=>none
  | some z=> bif !(zok u z) then none else match u with
   | .int k=>some ⟨.int k,b.size,b.bytes,z.cells.toList⟩
   | .bool=>some ⟨.bool,b.size,b.bytes,z.cells.toList⟩
   | .string=>some ⟨.string,b.size,b.bytes,z.cells.toList⟩
   | .slice e=>some ⟨.slice e,b.size,b.bytes,z.cells.toList⟩
   | .map k e=>some ⟨.map k e,b.size,b.bytes,z.cells.toList⟩
   | .float k=>some ⟨.float k,b.size,b.bytes,z.cells.toList⟩
   | .struct A=> if (A.toList.all λf=>decide (0<P.cellsOf f.type)) then some ⟨.struct (A.toList.map λf=>(f.offset,P.cellsOf f.type)),b.size,b.bytes,z.cells.toList⟩ else none
   | .array _ _=>none
   | _=>some ⟨.other,b.size,b.bytes,z.cells.toList⟩
 | _,_=>none
abbrev Cw:=Nat->Option TI
def C3 (P:Program) (T:Cw):Prop:=∀t i,T t=some i->Hw P t=some i
structure Eff where
 r:AV
 rd:List (Nat×Bg)
 wr:List (Nat×Bg)
def Bz (H:Hp):List (Nat×Bg)->Hp
 | []=>H
 | p::l=>Bz (Aj H p.1 p.2) l
def Lb (cs:List AV) (off:Nat) (new:List AV):List AV:=cs.take off++(new++cs.drop (off+new.length))
def Q8 (fs:List (Nat×Nat)):List AV->List (Nat×AV)->Option (List AV)
 | cs,[]=>some cs
 | cs,p::z=> match fs[p.1]? with
  | none=>none
  | some q=>bif Nat.beq p.2.cells.length q.2&&Nat.ble (q.1+q.2) cs.length then Q8 fs (Lb cs q.1 p.2.cells) z else none
def AV.cl1:AV->Bool
 | .val v=>Dy v
 | .sl _ _=>true
 | _=>false
def Jy (sz:Nat) (x:AV):Bool:=Nat.beq x.cells.length sz&&x.cells.all AV.cl1
def AV.isPtr:AV->Bool
 | .loc .. | .ref _ | .fn ..=>true
 | _=>false
def AV.free1:AV->Bool
 | .agg cs=>cs.all AV.cl1
 | x=>x.cl1
def AV.free:AV->Bool
 | .val _ | .sl _ _ | .ref _ | .fm _=>true
 | .agg cs=>cs.all AV.cl1
 | .tup cs=>cs.all AV.free1
 | .fn _ cs=>cs.all AV.cl1
 | _=>false
def Aaw (op:BinOp) (a b:Int):Option Bool := match op with
 | .eql=>some (a==b)
 | .neq=>some (a != b)
 | .lss=>some (decide (a<b))
 | .leq=>some (decide (a<=b))
 | .gtr=>some (decide (a>b))
 | .geq=>some (decide (a>=b))
 | _=>none
section conc
variable {σ:Aw} {ι:Bq} {H:Hp}
variable {x:AV} {cs:List AV} {v:Value}
theorem Conc.val_inv {u:Value} (h:Conc σ ι H (.val u) v):v=u:=by cases h with| cc h=>cases h;rfl
theorem Conc.of_val (v:Value):Conc σ ι H (.val v) v:=.cc (.val v)
theorem Conc.sl_inv {sz:Nat} {xs:List AV} (h:Conc σ ι H (.sl sz xs) v):CC σ (.sl sz xs) v:=by cases h with| cc h=>exact h
theorem Conc.agg_inv (h:Conc σ ι H (.agg cs) v) : ∃vs:Array Value,v = .agg vs/\vs.size=cs.length/\∀(i:Nat) (c:AV) (u:Value),cs[i]? = some c->vs[i]? = some u->Conc σ ι H c u:=by
 cases h with
 | cc h=>cases h with
  | agg cs vs b h=>exact⟨vs,rfl,b,λi c u h1 h2=>.cc (h i c u h1 h2)⟩
 | agg cs vs b h=>exact⟨vs,rfl,b,h⟩
theorem Conc.tup_inv (h:Conc σ ι H (.tup cs) v) : ∃vs:Array Value,v = .tuple vs/\vs.size=cs.length/\∀(i:Nat) (c:AV) (u:Value),cs[i]? = some c->vs[i]? = some u->Conc σ ι H c u:=by cases h with| cc h=>cases h| tup cs vs b h=>exact⟨vs,rfl,b,h⟩
theorem Conc.loc_inv {x off:Nat} (h:Conc σ ι H (.loc x off) v):∃b,(ι x).base? = some b/\v = .pointer (some ⟨b,off,none⟩):=by cases h with| cc h=>cases h| loc _ _ b hb=>exact⟨b,hb,rfl⟩
theorem Conc.vec_inv {x n:Nat} (h:Conc σ ι H (.vec x n) v):∃b,(ι x).base? = some b/\v = .slice (some ⟨b,0,none⟩) n n:=by cases h with| cc h=>cases h| vec _ _ b hb=>exact⟨b,hb,rfl⟩
theorem Conc.one_of (hx:x.one=true) (h:Conc σ ι H x v):Dy v=true:=by
 cases h with
 | cc h=>cases h with
  | val v=>exact hx
  | nil=>rfl
  | sl=>rfl
  | fbn=>rfl
  | fb=>rfl
  | ref=>rfl
  | fm=>rfl
  | agg=>cases hx
 | loc=>rfl
 | mp=>rfl
 | vec=>rfl
 | arr _ _ _ _ _ _ _ h=>exact h
 | el _ _ _ _ _ _ _ h=>exact h
 | ref=>rfl
 | agg=>cases hx
 | tup=>cases hx
 | fn=>rfl
theorem Aax {α:Type} {x y:α} {i:Nat} (h:[x][i]? = some y):i=0/\y=x:=by cases i with| zero=>simp at h;exact⟨rfl,h.symm⟩| succ n=>simp at h
theorem Conc.cells (h:Conc σ ι H x v) : v.cells.size=x.cells.length/\∀(i:Nat) (c:AV) (u:Value),x.cells[i]? = some c->v.cells[i]? = some u->Conc σ ι H c u:=by
 have single:∀(x:AV) (v:Value),Conc σ ι H x v->x.cells = [x]->v.cells = #[v] ->
   v.cells.size=x.cells.length/\∀(i:Nat) (c:AV) (u:Value),x.cells[i]? = some c->v.cells[i]? = some u->Conc σ ι H c u:=by intro x v h L J;rw[L,J];refine⟨rfl,λi c u h1 h2=>?_⟩;obtain⟨rfl,rfl⟩:=Aax h1;simp at h2;subst h2;exact h
 cases h with
 | cc hc=>
  cases hc with
  | val v=>cases v with| agg vs=>refine⟨by simp[Value.cells,AV.cells],λi c u h1 h2=>?_⟩;simp only[AV.cells,Value.cells,getElem?_map]at h1 h2;rw[Ft,h2]at h1;simp at h1;subst h1;exact .of_val u| _=>exact single _ _ (.of_val _) rfl rfl
  | nil sz a cap=>exact single _ _ (.cc (.nil sz a cap)) rfl rfl
  | sl xs b off cap sz C E fr g A I hc h1 B y z=>exact single _ _ (.cc (.sl xs b off cap sz C E fr g A I hc h1 B y z)) rfl rfl
  | agg cs vs y h=>exact⟨y,λi c u h1 h2=>.cc (h i c u h1 h2)⟩
  | fbn s a cap h0=>exact single _ _ (.cc (.fbn s a cap h0)) rfl rfl
  | fb s b cap C A h0 z B y hb=>exact single _ _ (.cc (.fb s b cap C A h0 z B y hb)) rfl rfl
  | ref cs b off C E fr g A hc h1 B=>exact single _ _ (.cc (.ref cs b off C E fr g A hc h1 B)) rfl rfl
  | fm es b M t A y hk D=>exact single _ _ (.cc (.fm es b M t A y hk D)) rfl rfl
 | loc x off b hb=>exact single _ _ (.loc x off b hb) rfl rfl
 | mp x b hb=>exact single _ _ (.mp x b hb) rfl rfl
 | vec x n b hb=>exact single _ _ (.vec x n b hb) rfl rfl
 | arr x k off len v G D q=>exact single _ _ (.arr x k off len v G D q) rfl (by cases v <;> first|rfl|cases q)
 | el x k i j v G D q=>exact single _ _ (.el x k i j v G D q) rfl (by cases v <;> first|rfl|cases q)
 | ref cs b off C E fr g A hc h1 B=>exact single _ _ (.ref cs b off C E fr g A hc h1 B) rfl rfl
 | agg cs vs y h=>exact⟨y,h⟩
 | tup cs vs y h=>exact single _ _ (.tup cs vs y h) rfl rfl
 | fn f caps vs y h=>exact single _ _ (.fn f caps vs y h) rfl rfl
theorem Conc.cc_of (hx:x.cl1=true) (h:Conc σ ι H x v):CC σ x v/\Dy v=true:=by
 cases h with
 | cc h=>cases h with
  | val v=>exact⟨.val v,hx⟩
  | nil sz a cap=>exact⟨.nil sz a cap,rfl⟩
  | sl xs b off cap sz C E fr g f i hc h1 k j c=>exact⟨.sl xs b off cap sz C E fr g f i hc h1 k j c,rfl⟩
  | agg=>cases hx
  | fbn=>cases hx
  | fb=>cases hx
  | ref=>cases hx
  | fm=>cases hx
 | _=>cases hx
end conc
def B2 (P:Program) (o:Oper) (ρ:Operand->AV) (b:Eff):Prop := ∀(σ:Aw) (ι:Bq) (H:Hp) (F:Aw) (W w:World) (a:Act) (next:Act->World->Prop) (Q:Exit->Act->World->Prop), St σ ι H F W w->(∀x∈o.op.operands.toList,Conc σ ι H (ρ x) (a.eval x))->(∀p∈b.rd,H p.1=p.2) -> (∀σ' ι' v w',Le σ ι H σ' ι' (Bz H b.wr)->St σ' ι' (Bz H b.wr) F W w'->Conc σ' ι' (Bz H b.wr) b.r v->next (a.put o.dst v) w')->o.wp P a w next Q
section
variable {P:Program} {o:Oper} {ρ:Operand->AV} {a:Act} {w w':World} {next:Act->World->Prop} {Q:Exit->Act->World->Prop}
variable {c:AV} {p:Addr} {T:Cw} {cs:List AV} {h off:Nat} {x:Operand} {i:TI} {E t:TypeId} {v:Value}
theorem Fc (h:(execOp a.eval o).run P w = .ok (.value v) w') (b:next (a.put o.dst v) w'):o.wp P a w next Q:=by unfold Oper.wp;rw[h];exact b
theorem W7 (h:(execOp a.eval o).run P w = .ok .skip w') (b:next (a.put o.dst undef) w'):o.wp P a w next Q:=by unfold Oper.wp;rw[h];exact b
theorem Em {r:AV} (h:∀σ ι H a w,(∀x∈o.op.operands.toList,Conc σ ι H (ρ x) (Act.eval a x))->∃v,(execOp a.eval o).run P w = .ok (.value v) w/\Conc σ ι H r v) : B2 P o ρ ⟨r,[],[]⟩:=by
 intro σ ι H F W w a next Q s z _ A
 obtain⟨v,b,D⟩:=h σ ι H a w z;exact Fc b (A σ ι v w (Le.refl _ _ _) s D)
theorem Apz (b:o.op = .move x):B2 P o ρ ⟨ρ x,[],[]⟩ := Em λσ ι H a w z=>⟨a.eval x,by simp[execOp,b],z x (by simp[b,Op.operands])⟩
theorem Pe (b:o.op = .assign x):B2 P o ρ ⟨ρ x,[],[]⟩ := Em λσ ι H a w z=>⟨a.eval x,by simp[execOp,b],z x (by simp[b,Op.operands])⟩
theorem Ap0 {c y:Operand} {t:Bool} (b:o.op = .pick c x y) (D:ρ c = .val (.bool t)):B2 P o ρ ⟨bif t then ρ x else ρ y,[],[]⟩ := Em λσ ι H a w A=>by have z:=A c (by simp[b,Op.operands]);rw[D]at z;have z:=z.val_inv;cases t with| true=>exact⟨a.eval x,by simp[execOp,b,z,asBool],A x (by simp[b,Op.operands])⟩| false=>exact⟨a.eval y,by simp[execOp,b,z,asBool],A y (by simp[b,Op.operands])⟩
theorem D6 (h:Hw P t=some i) : ∃b u z,P.info? t=some b/\P.underlying t=some u/\b.zero=some z/\b.size=i.size/\b.bytes=i.bytes/\i.zero=z.cells.toList /\ (match i.d with
       | .int k=>u = .int k
       | .bool=>u = .bool
       | .string=>u = .string
       | .slice e=>u = .slice e
       | .map k e=>u = .map k e
       | .float k=>u = .float k
       | .struct fs=>∃A,u = .struct A/\fs=A.toList.map (λf=>(f.offset,P.cellsOf f.type))/\∀f∈A.toList,0<P.cellsOf f.type
       | .other=>(∀fs,u≠.struct fs)/\(∀n e,u≠.array n e)):=by
  unfold Hw at h;split at h
  . rename_i b u hi D;split at h
    . cases h
    . rename_i z q;refine⟨b,u,z,hi,D,q,?_⟩;cases j:zok u z with
      | false=>rw[j]at h;cases h
      | true=>
      rw[j]at h;simp only[Bool.not_true,cond_false]at h;split at h;all_goals first
        | (cases h;done)
        | (cases h;refine⟨rfl,rfl,rfl,?_⟩;first|rfl|exact⟨(by intro fs e;simp_all),(by intro n e' e;simp_all)⟩)
        | skip
      . split at h
        . rename_i c;cases h;refine⟨rfl,rfl,rfl,_,rfl,rfl,?_⟩;intro f I;simp only[Dh,decide_eq_true_eq]at c;exact c f I
        . cases h
  . cases h
theorem Agx (h:Hw P t=some i) (w:World) : ∃z,(zeroValue t).run P w = .ok z w/\z.cells.toList=i.zero/\(i.isAgg=true->∃J,z = .agg J)/\(i.isAgg=false->Dy z=true):=by
  obtain⟨k,u,z,D,K,I,A,y,s,c⟩:=D6 h;refine⟨z,by simp[zeroValue,typeInfo,program,Sem.run,D,I],s.symm,?_⟩;have b:zok u z=true:=(by unfold Hw at h;rw[D,K]at h;simp only[I]at h;cases j:zok u z with| false=>rw[j]at h;cases h| true=>rfl);unfold TI.isAgg;cases L:i.d <;> rw[L]at c <;> simp only[]at c ⊢;all_goals first
    | (subst c;exact⟨nofun,λ_=>b⟩)
    | (obtain⟨f,rfl,_⟩:=c
       refine⟨λ_=>?_,λh=>by cases h⟩
       unfold zok at b
       cases z <;> first|exact⟨_,rfl⟩|cases b)
    | (obtain⟨q,x⟩:=c
       refine⟨nofun,λ_=>?_⟩
       unfold zok at b
       cases u <;> first|exact b|exact (q _ rfl).elim)
theorem W8 (h:Hw P t=some i) (w:World):(isAgg t).run P w = .ok i.isAgg w:=by
 obtain⟨c,u,z,I,A,J,x,s,q,b⟩:=D6 h;unfold isAgg TI.isAgg;rw[Sem.run_bind,run_underlying A];cases D:i.d <;> rw[D]at b <;> simp only[Result.andThen_ok];all_goals first
  | (subst b;rfl)
  | (obtain⟨f,rfl,_⟩:=b;rfl)
  | (obtain⟨k,j⟩:=b;cases u <;> first|rfl|exact (k _ rfl).elim|exact (j _ _ rfl).elim)
theorem M0 (h:Hw P t=some i) (w:World):(sizeOf t).run P w = .ok i.size w:=by obtain⟨b,u,z,A,D,I,c,k,j,f⟩:=D6 h;simp[sizeOf,typeInfo,program,Sem.run,A,c]
theorem Agy (h:Hw P t=some i) (w:World):∃z:Value,z.cells.toList=i.zero/\(zeroValue t).run P w = .ok z w:=by obtain⟨b,u,z,A,I,D,k,j,c,f⟩:=D6 h;exact⟨z,c.symm,by simp[zeroValue,typeInfo,program,Sem.run,A,D]⟩
theorem Agz (x:C3 P T) (h:Nat) (q:o.op = .alloc t) (D:T t=some i) : B2 P o ρ ⟨.loc h 0,[(h,.none)],[(h,.cells t (i.zero.map .val))]⟩:=by
 intro σ ι H F W w a next Q s L b I
 have u:H h = .none:=b (h,.none) ψ;obtain⟨z,f,k⟩:=Agy (x t i D) w;obtain⟨J,le⟩:=s.newBox h u t (i.zero.map .val) z.cells (by simp[<-f]) (by intro j c v A K;rw[<-f,getElem?_map,Ft,K]at A;simp at A;subst A;exact .of_val v);refine Fc (v:=.pointer (some ⟨w.heap.size,0,none⟩)) (w':=w.alloc (.cells z.cells t)) ?_ (I σ _ _ _ le J (.loc h 0 w.heap.size (by rw[Ba];rfl)));simp[execOp,q,Instr.alloc,k,newVar,newRow,newObj,Sem.run]
theorem Ap1 (h:Nat) (c:o.op = .box t x) : B2 P o ρ ⟨.loc h 0,[(h,.none)],[(h,.cells t (ρ x).cells)]⟩:=by
 intro σ ι H F W w a next Q s A b D
 have f:H h = .none:=b (h,.none) ψ;have z:=(A x (by simp[c,Op.operands])).cells;obtain⟨I,le⟩:=s.newBox h f t (ρ x).cells (a.eval x).cells z.1 z.2;refine Fc (v:=.pointer (some ⟨w.heap.size,0,none⟩)) (w':=w.alloc (.cells (a.eval x).cells t)) ?_ (D σ _ _ _ le I (.loc h 0 w.heap.size (by rw[Ba];rfl)));simp[execOp,c,Instr.box,newVar,newRow,newObj,Sem.run]
theorem I1 {b:Nat} {C:Array Value} {c:Nat×Nat} (h:w.heap[b]? = some (.cells C E c)):w.cell? ⟨b,off,none⟩=C[off]?:=by simp[World.cell?,h]
theorem Jn (b off n:Nat):(⟨b,off,none⟩:Addr).add n=⟨b,off+n,none⟩:=by unfold Addr.add;split <;> simp_all
theorem W9 (f:o.op = .load t x) (hi:Hw P t=some i) (b:i.isAgg=false) (hp:a.eval x = .pointer (some p)) (c:w.cell? p=some v) : (execOp a.eval o).run P w = .ok (.value v) w:=by have z:=W8 hi w;rw[b]at z;simp[execOp,f,Instr.loadAt,hp,Instr.sureAddr,loadVar,z,c]
theorem Aay (f:o.op = .load t x) (hi:Hw P t=some i) (b:i.isAgg=true) (hp:a.eval x = .pointer (some p)) (cs:List Value) (k:cs.length=i.size) (c:∀(j:Nat) (v:Value),cs[j]? = some v->w.cell? (p.add j)=some v) : (execOp a.eval o).run P w = .ok (.value (.agg cs.toArray)) w:=by have z:=W8 hi w;rw[b]at z;have D:=M0 hi w;have A:=run_loadCells_list (P:=P) w p cs c;rw[k]at A;simp[execOp,f,Instr.loadAt,hp,Instr.sureAddr,loadVar,z,D,A]
theorem Conc.ref_inv {σ:Aw} {ι:Bq} {H:Hp} (h:Conc σ ι H (.ref cs) v):∃(b off:Nat) (C:Array Value) (E:TypeId) (f:Nat×Nat) (g:Nat->Value), v = .pointer (some ⟨b,off,none⟩)/\σ b=some (.cells C E f)/\(∀(j:Nat) (c:AV),cs[j]? = some c->CC σ c (g j)/\Dy (g j)=true)/\(∀(j:Nat),j<cs.length->C[off+j]? = some (g j)):=by
 cases h with
 | cc h=>cases h with
  | ref cs b off C E f g i hc h1 k=>exact⟨b,off,C,E,f,g,rfl,i,λj c h=>⟨hc j c h,h1 j c h⟩,k⟩
 | ref cs b off C E f g i hc h1 k=>exact⟨b,off,C,E,f,g,rfl,i,λj c h=>⟨hc j c h,h1 j c h⟩,k⟩
theorem Ap2 (z:C3 P T) (q:o.op = .load t x) (D:T t=some i) (k:i.isAgg=false) (I:ρ x = .ref (c::cs)) : B2 P o ρ ⟨c,[],[]⟩:=by
 intro σ ι H F W w a next Q s j _ J
 have h:=j x (by simp[q,Op.operands]);rw[I]at h;obtain⟨b,off,C,E,L,g,y,u,K,A⟩:=h.ref_inv;have f:w.cell? ⟨b,off,none⟩=some (g 0):=by rw[I1 (s.sto _ _ u)];exact A 0 ψ
 exact Fc (W9 q (z t i D) k y f) (J σ ι _ w (Le.refl _ _ _) s (.cc (K 0 c ψ).1))
theorem Ap3 (B:C3 P T) (y:o.op = .load t x) (L:T t=some i) (q:i.isAgg=true) (M:ρ x = .ref cs) (G:i.size<=cs.length) : B2 P o ρ ⟨.agg (cs.take i.size),[],[]⟩:=by
 intro σ ι H F W w a next Q s k _ N
 have h:=k x (by simp[y,Op.operands]);rw[M]at h;obtain⟨b,off,C,E,R,g,A,z,O,D⟩:=h.ref_inv;refine Fc (Aay y (B t i L) q A ((range i.size).map g) ψ ?_) (N σ ι _ w (Le.refl _ _ _) s ?_)
 .intro j v I;rw[getElem?_map]at I;by_cases f:j<i.size
  .rw[getElem?_range f]at I;simp at I;subst I;rw[Jn,I1 (s.sto _ _ z)];exact D j ω
  .rw[getElem?_eq_none ζ]at I;cases I
 .refine .agg _ _ ζ λj c u J K=>?_;have f:j<i.size:=(by have:=(Eo.1 J).1;simp at this;omega);rw[Gz f]at J;simp[f]at K;subst K;exact .cc (O j c J).1
theorem Ag0 (G:C3 P T) (z:o.op = .load t x) (N:T t=some i) (y:i.isAgg=false) (O:ρ x = .loc h off) (M:cs[off]? = some c):B2 P o ρ ⟨c,[(h,.cells E cs)],[]⟩:=by
 intro σ ι H F W w a next Q s u q R
 have D:H h = .cells E cs:=q (h,.cells E cs) ψ;have hp:=u x (by simp[z,Op.operands]);rw[O]at hp;obtain⟨b,K,B⟩:=hp.loc_inv;have f:=s.obj h;unfold Bw at f;rw[D]at f;obtain⟨L,C,A,_,_,S,J,I⟩:=f;rw[A]at K;cases K;have K:=A
 have k:off<C.size:=by rw[J];exact (Eo.1 M).1
 have j:w.cell? ⟨b,off,none⟩=some C[off]:=by rw[I1 S];simp[k]
 exact Fc (W9 z (G t i N) y B j) (R σ ι _ w (Le.refl _ _ _) s (I off c _ M (by simp[k])))
theorem Ap4 (I:C3 P T) (A:o.op = .load t x) (U:T t=some i) (z:i.isAgg=true) (V:ρ x = .loc h off) (L:off+i.size<=cs.length):B2 P o ρ ⟨.agg ((cs.drop off).take i.size),[(h,.cells E cs)],[]⟩:=by
 intro σ ι H F W w a next Q s y q X
 have G:H h = .cells E cs:=q (h,.cells E cs) ψ;have hp:=y x (by simp[A,Op.operands]);rw[V]at hp;obtain⟨b,K,D⟩:=hp.loc_inv;have k:=s.obj h;unfold Bw at k;rw[G]at k;obtain⟨N,C,B,_,_,h3,M,J⟩:=k;rw[B]at K;cases K;have K:=B
 refine Fc (Aay A (I t i U) z D ((C.toList.drop off).take i.size) ζ ?_) (X σ ι _ w (Le.refl _ _ _) s ?_)
 .intro j v O;have f:j<i.size:=(by have:=(Eo.1 O).1;simp at this;omega);rw[Gz f,getElem?_drop,Ft]at O;rw[Jn,I1 h3];exact O
 .refine .agg _ _ ζ λj c u R S=>?_;have f:j<i.size:=(by have:=(Eo.1 R).1;simp at this;omega);rw[Gz f,getElem?_drop]at R;rw[getElem?_toArray,Gz f,getElem?_drop,Ft]at S;exact J _ c u R S
end
section
variable {P:Program} {o:Oper} {ρ:Operand->AV} {a:Act} {w w':World} {next:Act->World->Prop} {Q:Exit->Act->World->Prop}
variable {σ:Aw} {ι:Bq} {T:Cw} {H:Hp} {xs:List AV} {b h j k n off sz:Nat} {x y:Operand} {i:TI} {E t:TypeId} {v:Value}
theorem Conc.el_inv {i:Nat} (q:H h = .rows E sz xs) (hk:xs.length=k) (hc:Conc σ ι H (.el h k i j) v) : ∃b A8,ι h = .blk b A8/\v = .pointer (some ⟨b,i*sz+j,none⟩):=by
 cases hc with
 | cc h=>cases h
 | el _ _ _ _ _ s f c=>
  have:=(f E sz xs q).2 hk;unfold Agw at this;split at this
  .rename_i b A8 e;exact⟨b,A8,e,this⟩
  .exact this.elim
theorem Conc.arr_inv {len:Nat} (f:H h = .rows E sz xs) (hk:xs.length=k) (hc:Conc σ ι H (.arr h k off len) v) : Gg (ι h) sz off len v:=by cases hc with| cc h=>cases h| arr _ _ _ _ _ i c b=>exact (c E sz xs f).2 hk
theorem St.rowsAt {F:Aw} {W w:World} (s:St σ ι H F W w) (j:H h = .rows E sz xs) {A8:Nat} (hb:ι h = .blk b A8) : ∃C,w.heap[b]? = some (.cells C E (0,0))/\C.size=A8*sz/\xs.length<=A8/\G8 σ sz xs C:=by
 have f:=s.obj h;unfold Bw at f;rw[j]at f;obtain⟨_,_,⟨c,_⟩|⟨x,i,C,c,h1,h2,h3,u,q,k⟩⟩:=f
 .rw[hb]at c;cases c
 .rw[hb]at c;cases c;exact⟨C,h3,u,q,k⟩
theorem Ap5 (N:C3 P T) {y c:AV} (B:o.op = .load t x) (V:T t=some i) (A:i.isAgg=false) (X:ρ x = .el h k n j) (z:xs.length=k) (K:xs[n]? = some y) (S:y.cells[j]? = some c):B2 P o ρ ⟨c,[(h,.rows E sz xs)],[]⟩:=by
 intro σ ι H F W w a next Q s u q hk
 have D:H h = .rows E sz xs:=q (h,.rows E sz xs) ψ;have hp:=u x (by simp[B,Op.operands]);rw[X]at hp;obtain⟨b,A8,hb,L⟩:=hp.el_inv D z;obtain⟨C,h3,R,O,g,J,I,G⟩:=s.rowsAt D hb;have M:=(Eo.1 K).1;have U:=(Eo.1 S).1;rw[J n y K]at U;have f:w.cell? ⟨b,n*sz+j,none⟩=some (g n j):=by rw[I1 h3];exact G n j M U
 exact Fc (W9 B (N t i V) A L f) (hk σ ι _ w (Le.refl _ _ _) s (.cc (I n y j c K S).1))
theorem Ap6 (S:C3 P T) {y:AV} (G:o.op = .load t x) (ht:T t=some i) (D:i.isAgg=true) (hx:ρ x = .el h k n j) (B:xs.length=k) (hy:xs[n]? = some y) (U:j+i.size<=y.cells.length):B2 P o ρ ⟨.agg ((y.cells.drop j).take i.size),[(h,.rows E sz xs)],[]⟩:=by
 intro σ ι H F W w a next Q s A z hk
 have I:H h = .rows E sz xs:=z (h,.rows E sz xs) ψ;have hp:=A x (by simp[G,Op.operands]);rw[hx]at hp;obtain⟨b,A8,hb,N⟩:=hp.el_inv I B;obtain⟨C,h3,X,V,g,M,L,J⟩:=s.rowsAt I hb;have R:=(Eo.1 hy).1;have O:=M n y hy;refine Fc (Aay G (S t i ht) D N ((range i.size).map λq=>g n (j+q)) ψ ?_) (hk σ ι _ w (Le.refl _ _ _) s ?_)
 .intro q v K;rw[getElem?_map]at K;by_cases f:q<i.size
  .rw[getElem?_range f]at K;simp at K;subst K;rw[Jn,I1 h3,Nat.add_assoc];exact J n (j+q) R ω
  .rw[getElem?_eq_none ζ]at K;cases K
 .refine .agg _ _ ζ λq c u h1 h2=>?_;have f:q<i.size:=(by have:=(Eo.1 h1).1;simp at this;omega);rw[Gz f,getElem?_drop]at h1;simp[f]at h2;subst h2;exact .cc (L n y (j+q) c hy h1).1
theorem Aaz (v:Value):v.oneCell'=Dy v:=by cases v <;> rfl
theorem Aa0 (hi:Hw P t=some i) {C:Array Value} (hb:w.heap[b]? = some (.cells C E (0,0))) (c:v.cells.size=i.size) (f:off+v.cells.size<=C.size) (A:∀u∈v.cells.toList,Dy u=true) : (Instr.storeAt t (.pointer (some ⟨b,off,none⟩)) v).run P w = .ok () (w.setRow b (C.toList.take off++v.cells.toList++C.toList.drop (off+v.cells.toList.length)).toArray):=by have D:=M0 hi w;have z:=run_storeCells_at (P:=P) b off E v.cells.toList 0 C w hb (by simpa using f) (λu I=>by rw[Aaz];exact A u I);simp only[Nat.add_zero]at z;simp[Instr.storeAt,Instr.sureAddr,storeVar,D,c,z]
theorem Aa1 (cs:List AV) (off:Nat) (new:List AV) (b:off+new.length<=cs.length) (i:Nat) : (Lb cs off new)[i]? = if i<off then cs[i]? else if i<off+new.length then new[i-off]? else cs[i]?:=by
 unfold Lb;by_cases z:i<off
 .rw[if_pos z,getElem?_append_left ζ,Gz z]
 .rw[if_neg z,getElem?_append_right ζ];have:(cs.take off).length=off:=ζ;rw[this];by_cases A:i<off+new.length
  .rw[if_pos A,getElem?_append_left ω]
  .rw[if_neg A,getElem?_append_right ω,getElem?_drop];congr 1;omega
theorem Aa2 (cs:List AV) (off:Nat) (new:List AV) (b:off+new.length<=cs.length):(Lb cs off new).length=cs.length:=by unfold Lb;simp;omega
theorem Q9 (C:Array Value) (off:Nat) (new:List Value) (c:off+new.length<=C.size) (i:Nat) : ((C.toList.take off++new++C.toList.drop (off+new.length)).toArray)[i]? = if i<off then C[i]? else if i<off+new.length then new[i-off]? else C[i]?:=by
 rw[getElem?_toArray,append_assoc];have b:off+new.length<=C.toList.length:=by simpa using c
 by_cases z:i<off
 .rw[if_pos z,getElem?_append_left (by simp at b ⊢;omega),Gz z,Ft]
 .rw[if_neg z,getElem?_append_right (by simp at b ⊢;omega)];have:(C.toList.take off).length=off:=(by simp at b ⊢;omega);rw[this];by_cases A:i<off+new.length
  .rw[if_pos A,getElem?_append_left ω]
  .rw[if_neg A,getElem?_append_right ω,getElem?_drop,Ft];congr 1;omega
theorem Ap7 {x:AV} (z:Conc σ ι H x v) (A:x.cells.all AV.one=true):∀u∈v.cells.toList,Dy u=true:=by
 intro u D;obtain⟨n,c⟩:=getElem?_of_mem D;have f:=z.cells;rw[Ft]at c;have b:n<x.cells.length:=by rw[<-f.1];exact (Array.getElem?_eq_some_iff.1 c).1
 have:=f.2 n x.cells[n] u (getElem?_eq_getElem b) c;exact this.one_of (Dh.1 A _ (getElem_mem b))
theorem Ag1 (L:C3 P T) {cs:List AV} (B:o.op = .store t x y) (ht:T t=some i) (hx:ρ x = .loc h off) (M:(ρ y).cells.length=i.size) (N:off+i.size<=cs.length) (h1:(ρ y).cells.all AV.one=true) : B2 P o ρ ⟨.val undef,[(h,.cells E cs)],[(h,.cells E (Lb cs off (ρ y).cells))]⟩:=by
 intro σ ι H F W w a next Q s z A hk
 have D:H h = .cells E cs:=A (h,.cells E cs) ψ;have hp:=z x (by simp[B,Op.operands]);have U:=z y (by simp[B,Op.operands]);rw[hx]at hp;obtain⟨b,S,J⟩:=hp.loc_inv;have k:=s.obj h;unfold Bw at k;rw[D]at k;obtain⟨R,C,I,_,_,h3,O,G⟩:=k;rw[I]at S;cases S;have S:=I
 have q:=U.cells;have u:=Aa0 (P:=P) (w:=w) (L t i ht) (off:=off) (v:=a.eval y) h3 ω ω (Ap7 U h1);obtain⟨s',le⟩:=s.setBox h E cs (Lb cs off (ρ y).cells) D b S (C.toList.take off++(a.eval y).cells.toList++C.toList.drop (off+(a.eval y).cells.toList.length)).toArray (by rw[Aa2 _ _ _ ω];simp;omega) (by
   intro j c v K f;rw[Aa1 _ _ _ ω]at K;rw[Q9 _ _ _ ζ]at f;simp only[Array.length_toList,q.1]at f;by_cases V:j<off
   .rw[if_pos V]at K f;exact G j c v K f
   .rw[if_neg V]at K f;by_cases X:j<off+(ρ y).cells.length
    .rw[if_pos X]at K f;rw[Ft]at f;exact q.2 _ c v K f
    .rw[if_neg X]at K f;exact G j c v K f);refine W7 (w':=_) ?_ (hk σ ι undef _ le s' (.of_val _));simp[execOp,B,J,u]
def Tx (x:AV) (j:Nat) (new:List AV):AV := match x with
 | .agg cs=>.agg (Lb cs j new)
 | _=>new.headD x
theorem Ap8 {x:AV} {new:List AV} (f:j+new.length<=x.cells.length) (q:new≠[]) (D:∀c∈new,c.cl1=true) (i:∀I,x≠.val (.agg I)) : (Tx x j new).cells=Lb x.cells j new:=by
 unfold Tx;split
 .rfl
 .rename_i J;have b:x.cells = [x]:=by
   cases x with
   | val v=>cases v <;> first|rfl|exact (i _ rfl).elim
   | agg cs=>exact (J cs rfl).elim
   | _=>rfl
  rw[b]at f ⊢;cases new with
  | nil=>exact (q rfl).elim
  | cons c z=>
   simp at f;have K:j=0:=ω;have k:z = []:=eq_nil_of_length_eq_zero ω;subst K k;have A:=D c ψ;cases c with
   | val v=>cases v <;> first|rfl|cases A
   | sl _ _=>rfl
   | _=>cases A
theorem Ap9 (hT:C3 P T) {z:AV} (ho:o.op = .store t x y) (ht:T t=some i) (hx:ρ x = .el h k n j) (a8:xs.length=k) (V:xs[n]? = some z) (hs:(ρ y).cells.length=i.size) (ac:0<i.size) (hl:j+i.size<=z.cells.length) (h1:(ρ y).cells.all AV.cl1=true) (Z:∀vs,z≠.val (.agg vs)) : B2 P o ρ ⟨.val undef,[(h,.rows E sz xs)],[(h,.rows E sz (xs.set n (Tx z j (ρ y).cells)))]⟩:=by
 intro σ ι H F W w a next Q s O a6 hk
 have hh:H h = .rows E sz xs:=a6 (h,.rows E sz xs) ψ;have hp:=O x (by simp[ho,Op.operands]);have hy:=O y (by simp[ho,Op.operands]);rw[hx]at hp;obtain⟨b,A8,hb,hv⟩:=hp.el_inv hh a8;obtain⟨C,h3,h4,h5,g,r1,Y,U⟩:=s.rowsAt hh hb;have hn:=(Eo.1 V).1;have a1:=r1 n z V;have L:=hy.cells;have a7:(ρ y).cells≠[]:=by intro e;rw[e]at hs;simp at hs;omega
 have N:=Ap8 (x:=z) (j:=j) (new:=(ρ y).cells) ω a7 (λc hc=>Dh.1 h1 c hc) Z;have aa:∀u∈(a.eval y).cells.toList,Dy u=true:=by intro u hu;obtain⟨q,hq⟩:=getElem?_of_mem hu;rw[Ft]at hq;have B:q<(ρ y).cells.length:=(by rw[<-L.1];exact (Array.getElem?_eq_some_iff.1 hq).1);exact ((L.2 q _ u (getElem?_eq_getElem B) hq).cc_of (Dh.1 h1 _ (getElem_mem B))).2
 have ab:n*sz+sz<=C.size:=by rw[h4];have:(n+1)*sz<=A8*sz:=Nat.mul_le_mul_right sz ω;rw[Ed]at this;omega
 have M:=Aa0 (P:=P) (w:=w) (hT t i ht) (off:=n*sz+j) (v:=a.eval y) h3 ω ω aa;let J:Nat->Nat->Value:=λn' f=>if n'=n/\j<=f/\f<j+(ρ y).cells.length then ((a.eval y).cells[f-j]?).getD undef else g n' f
 obtain⟨s',le⟩:=s.setRows h E sz xs (xs.set n (Tx z j (ρ y).cells)) hh b A8 hb ψ (C.toList.take (n*sz+j)++(a.eval y).cells.toList++C.toList.drop (n*sz+j+(a.eval y).cells.toList.length)).toArray ζ (by
   refine⟨J,?_,?_,?_⟩
   .intro A X G;by_cases e:A=n
    .subst e;rw[getElem?_set_self hn]at G;cases G;rw[N,Aa2 _ _ _ ω];exact a1
    .rw[getElem?_set_ne ω]at G;exact r1 A X G
   .intro A X f S G D;by_cases e:A=n
    .subst e;rw[getElem?_set_self hn]at G;cases G;rw[N,Aa1 _ _ _ ω]at D;show CC σ S (J A f)/\Dy (J A f)=true;by_cases g1:f<j
     .rw[if_pos g1]at D;have:J A f=g A f:=if_neg ω;rw[this];exact Y A z f S V D
     .rw[if_neg g1]at D;by_cases g2:f<j+(ρ y).cells.length
      .rw[if_pos g2]at D;have B:f-j<(a.eval y).cells.size:=ω;have:J A f=(a.eval y).cells[f-j]:=(by show (if _ then _ else _)=_;rw[if_pos ⟨rfl,ω,g2⟩];simp[B]);rw[this];exact (L.2 (f-j) S _ D (by simp[B])).cc_of (Dh.1 h1 _ (Dz D))
      .rw[if_neg g2]at D;have:J A f=g A f:=if_neg ω;rw[this];exact Y A z f S V D
    .rw[getElem?_set_ne ω]at G;have:J A f=g A f:=if_neg ω;rw[this];exact Y A X f S G D
   .intro A f I K;simp at I;rw[Q9 _ _ _ ζ];simp only[Array.length_toList,L.1];by_cases g0:A=n
    .subst g0;by_cases g1:f<j
     .rw[if_pos ω];have:J A f=g A f:=if_neg ω;rw[this];exact U A f I K
     .rw[if_neg ω];by_cases g2:f<j+(ρ y).cells.length
      .rw[if_pos ω,Ft];have B:f-j<(a.eval y).cells.size:=ω;have:J A f=(a.eval y).cells[f-j]:=(by show (if _ then _ else _)=_;rw[if_pos ⟨rfl,ω,g2⟩];simp[B]);rw[this,show A*sz+f-(A*sz+j)=f-j by omega];simp[B]
      .rw[if_neg ω];have:J A f=g A f:=if_neg ω;rw[this];exact U A f I K
    .have:J A f=g A f:=if_neg ω;rw[this];have R:A*sz+f<n*sz+j\/n*sz+j+(ρ y).cells.length<=A*sz+f:=by
      rcases Nat.lt_or_gt_of_ne g0 with B|a0
      .left;have:(A+1)*sz<=n*sz:=Nat.mul_le_mul_right sz ω;rw[Ed]at this;omega
      .right;have:(n+1)*sz<=A*sz:=Nat.mul_le_mul_right sz ω;rw[Ed]at this;omega
     rcases R with B|a2
     .rw[if_pos B];exact U A f I K
     .rw[if_neg ω,if_neg ω];exact U A f I K);refine W7 (w':=_) ?_ (hk σ ι undef _ le s' (.of_val _));simp[execOp,ho,hv,M]
end
section
variable {P:Program} {o:Oper} {ρ:Operand->AV} {a:Act} {w w':World} {next:Act->World->Prop} {Q:Exit->Act->World->Prop}
variable {σ:Aw} {op:BinOp} {b:Bool} {T:Cw} {c m:Int} {k:IntKind} {fs:List (Nat×Nat)} {cs xs:List AV} {h n off sz:Nat} {q:Nat×Nat} {x y:Operand} {p:Option Addr} {i:TI} {E d e f j s t:TypeId} {v:Value}
theorem Dj {ι:Bq} {H:Hp} (h:ρ x = .val v) (z:Conc σ ι H (ρ x) (a.eval x)):a.eval x=v:=by rw[h]at z;exact z.val_inv
theorem Aqa (b:o.op = .nilCheck x) (hp:(ρ x).isPtr=true):B2 P o ρ ⟨ρ x,[],[]⟩ := Em λσ ι H a w A=>by
  have h:=A x (by simp[b,Op.operands]);refine⟨a.eval x,?_,h⟩;have:(∃p,a.eval x = .pointer (some p))\/∃f z,a.eval x = .func (.func f) #[] z:=by
   generalize ρ x=y at h hp;generalize a.eval x=v at h;cases h with
   | cc h=>cases h with
    | ref=>exact .inl ⟨_,rfl⟩
    | _=>cases hp
   | loc=>exact .inl ⟨_,rfl⟩
   | mp=>cases hp
   | vec=>cases hp
   | arr=>cases hp
   | el=>cases hp
   | ref=>exact .inl ⟨_,rfl⟩
   | agg=>cases hp
   | tup=>cases hp
   | fn=>exact .inr ⟨_,_,rfl⟩
  rcases this with⟨p,hp⟩|⟨f,z,hp⟩ <;> simp[execOp,b,hp]
theorem Pf {b:TypeId} {n:Int} (f:o.op = .binOp op t x y b) (z:a.eval x = .int k m) (A:a.eval y = .int k n) {r:Value} (c:(binOp op t (.int k m) (.int k n)).run P w = .ok r w):(execOp a.eval o).run P w = .ok (.value r) w:=by
 have i:(eqGuard op t x y (.int k m) (.int k n)).run P w = .ok () w:=by unfold eqGuard;cases op <;> simp
 simp only[execOp,f,z,A,Sem.run_bind,i,Result.andThen_ok,c,Sem.run_pure]
theorem Aqb {n:Int} (b:o.op = .binOp .add t x y f) (z:ρ x = .val (.int k m)) (A:ρ y = .val (.int k n)) (D:k.wrap (m+n)=c) : B2 P o ρ ⟨.val (.int k c),[],[]⟩ := Em λσ ι H a w h=>⟨_,Pf b (Dj z (h x (by simp[b,Op.operands]))) (Dj A (h y (by simp[b,Op.operands]))) (by simp[binOp,Op.intArith,D]),.of_val _⟩
theorem Aqc {n:Int} (b:o.op = .binOp .sub t x y f) (z:ρ x = .val (.int k m)) (A:ρ y = .val (.int k n)) (D:k.wrap (m-n)=c) : B2 P o ρ ⟨.val (.int k c),[],[]⟩ := Em λσ ι H a w h=>⟨_,Pf b (Dj z (h x (by simp[b,Op.operands]))) (Dj A (h y (by simp[b,Op.operands]))) (by simp[binOp,Op.intArith,D]),.of_val _⟩
theorem Aqd {n:Int} (b:o.op = .binOp .mul t x y f) (z:ρ x = .val (.int k m)) (A:ρ y = .val (.int k n)) (D:k.wrap (m*n)=c) : B2 P o ρ ⟨.val (.int k c),[],[]⟩ := Em λσ ι H a w h=>⟨_,Pf b (Dj z (h x (by simp[b,Op.operands]))) (Dj A (h y (by simp[b,Op.operands]))) (by simp[binOp,Op.intArith,D]),.of_val _⟩
theorem Aqe {n:Int} (b:o.op = .binOp .quo t x y f) (z:ρ x = .val (.int k m)) (A:ρ y = .val (.int k n)) (i:n≠0) (D:k.wrap (m.tdiv n)=c) : B2 P o ρ ⟨.val (.int k c),[],[]⟩ := Em λσ ι H a w h=>⟨_,Pf b (Dj z (h x (by simp[b,Op.operands]))) (Dj A (h y (by simp[b,Op.operands]))) (by simp[binOp,Op.intDiv,i,D]),.of_val _⟩
theorem Aqf {n:Int} (b:o.op = .binOp .rem t x y f) (z:ρ x = .val (.int k m)) (A:ρ y = .val (.int k n)) (i:n≠0) (D:m.tmod n=c) : B2 P o ρ ⟨.val (.int k c),[],[]⟩ := Em λσ ι H a w h=>⟨_,Pf b (Dj z (h x (by simp[b,Op.operands]))) (Dj A (h y (by simp[b,Op.operands]))) (by simp[binOp,Op.intDiv,i,D]),.of_val _⟩
theorem Aqg {n:Int} (c:o.op = .binOp op t x y f) (A:ρ x = .val (.int k m)) (D:ρ y = .val (.int k n)) (z:Aaw op m n=some b) : B2 P o ρ ⟨.val (.bool b),[],[]⟩ := Em λσ ι H a w h=>by refine⟨.bool b,Pf c (Dj A (h x (by simp[c,Op.operands]))) (Dj D (h y (by simp[c,Op.operands]))) ?_,.of_val _⟩;cases op <;> simp only[Aaw]at z <;> first | (cases z;done) | (cases z;simp[binOp,Op.intCmp])
def Aa3 (op:BinOp) (k:IntKind) (m n:Int):Option Int := match op with
 | .and=>some (k.wrap (BitVec.ofInt k.bits m &&& BitVec.ofInt k.bits n).toNat)
 | .or=>some (k.wrap (BitVec.ofInt k.bits m ||| BitVec.ofInt k.bits n).toNat)
 | .xor=>some (k.wrap (BitVec.ofInt k.bits m ^^^ BitVec.ofInt k.bits n).toNat)
 | _=>none
theorem Aqh {n:Int} (b:o.op = .binOp op t x y f) (A:ρ x = .val (.int k m)) (D:ρ y = .val (.int k n)) (z:Aa3 op k m n=some c) : B2 P o ρ ⟨.val (.int k c),[],[]⟩ := Em λσ ι H a w h=>by refine⟨.int k c,Pf b (Dj A (h x (by simp[b,Op.operands]))) (Dj D (h y (by simp[b,Op.operands]))) ?_,.of_val _⟩;cases op <;> simp only[Aa3]at z <;> first | (cases z;done) | (cases z;simp[binOp,Op.intBits])
theorem Aqi {i:IntKind} {n:Int} (b:o.op = .binOp .shr t x y j) (z:ρ x = .val (.int k m)) (A:ρ y = .val (.int i n)) (s:0<=n) (D:m.fdiv (2 ^ (min n.toNat k.bits))=c) : B2 P o ρ ⟨.val (.int k c),[],[]⟩ := Em λσ ι H a w h=>by refine⟨.int k c,?_,.of_val _⟩;have I:=Dj z (h x (by simp[b,Op.operands]));have J:=Dj A (h y (by simp[b,Op.operands]));have q:(eqGuard .shr t x y (.int k m) (.int i n)).run P w = .ok () w:=(by unfold eqGuard;simp);have f:¬n<0:=ω;simp only[execOp,b,I,J,Sem.run_bind,q,Result.andThen_ok,binOp,Op.shift,if_neg f,D,Sem.run_pure]
theorem Aqj {i:IntKind} {n:Int} (b:o.op = .binOp .shl t x y j) (z:ρ x = .val (.int k m)) (A:ρ y = .val (.int i n)) (s:0<=n) (D:k.wrap (m*2 ^ (min n.toNat k.bits))=c) : B2 P o ρ ⟨.val (.int k c),[],[]⟩ := Em λσ ι H a w h=>by refine⟨.int k c,?_,.of_val _⟩;have I:=Dj z (h x (by simp[b,Op.operands]));have J:=Dj A (h y (by simp[b,Op.operands]));have q:(eqGuard .shl t x y (.int k m) (.int i n)).run P w = .ok () w:=(by unfold eqGuard;simp);have f:¬n<0:=ω;simp only[execOp,b,I,J,Sem.run_bind,q,Result.andThen_ok,binOp,Op.shift,if_neg f,D,Sem.run_pure]
def Aa4 (op:BinOp) (m n:Bool):Option Bool := match op with
 | .eql=>some (m==n)
 | .neq=>some (m != n)
 | _=>none
theorem Aqk (z:P.underlying t=some .bool) (d:Nat) (m n:Bool) (w:World):(Op.equalIn (d+1) t (.bool m) (.bool n)).run P w = .ok (m==n) w:=by simp[Op.equalIn,run_underlying z]
theorem Aql (z:P.underlying t=some .bool) (m n:Bool) (w:World):(Op.equal t (.bool m) (.bool n)).run P w = .ok (m==n) w:=by exact Aqk z 9999 m n w
theorem Aqm (A:C3 P T) {k:TypeId} {m n:Bool} (c:o.op = .binOp op t x y k) (K:T t=some i) (L:i.d = .bool) (M:ρ x = .val (.bool m)) (N:ρ y = .val (.bool n)) (J:Aa4 op m n=some b) : B2 P o ρ ⟨.val (.bool b),[],[]⟩ := Em λσ ι H a w h=>by
  refine⟨.bool b,?_,.of_val _⟩;have O:=Dj M (h x (by simp[c,Op.operands]));have R:=Dj N (h y (by simp[c,Op.operands]));obtain⟨j,u,z,I,q,G,E,D,B,f⟩:=D6 (A t i K);rw[L]at f;subst f;have s:(eqGuard op t x y (.bool m) (.bool n)).run P w = .ok () w:=(by unfold eqGuard;cases op <;> simp);cases op <;> simp only[Aa4]at J <;> first | (cases J;done) | skip
  all_goals
   cases J
   simp only[execOp,c,O,R,Sem.run_bind,s,Result.andThen_ok,binOp,Aql q,Sem.run_pure]
   try rfl
theorem Aqn (D:C3 P T) {c b j:Nat} (f:o.op = .binOp .eql t x y s) (K:T t=some i) (M:i.d = .slice e) (N:ρ x = .val (.slice p n c)) (O:ρ y = .val (.slice none b j)) : B2 P o ρ ⟨.val (.bool p.isNone),[],[]⟩ := Em λσ ι H a w h=>by refine⟨.bool p.isNone,?_,.of_val _⟩;have R:=Dj N (h x (by simp[f,Op.operands]));have S:=Dj O (h y (by simp[f,Op.operands]));obtain⟨q,u,z,L,A,J,I,G,E,k⟩:=D6 (D t i K);rw[M]at k;subst k;have B:(eqGuard .eql t x y (.slice p n c) (.slice none b j)).run P w = .ok () w:=(by unfold eqGuard;simp);simp only[execOp,f,R,S,Sem.run_bind,B,Result.andThen_ok,Lib.run_eql_slice_nil w t e p n c b j A,Sem.run_pure]
def Aa5 (op:BinOp) (m n:ByteArray):Option Bool := match op with
 | .eql=>some (m.toList==n.toList)
 | .neq=>some (!(m.toList==n.toList))
 | .lss=>some (Op.bytesLess m.toList n.toList)
 | _=>none
theorem Aqo {m n:ByteArray} (c:o.op = .binOp op t x y f) (A:ρ x = .val (.string m)) (D:ρ y = .val (.string n)) (z:Aa5 op m n=some b) : B2 P o ρ ⟨.val (.bool b),[],[]⟩ := Em λσ ι H a w h=>by
  refine⟨.bool b,?_,.of_val _⟩;have I:=Dj A (h x (by simp[c,Op.operands]));have J:=Dj D (h y (by simp[c,Op.operands]));have i:(eqGuard op t x y (.string m) (.string n)).run P w = .ok () w:=(by unfold eqGuard;cases op <;> simp);cases op <;> simp only[Aa5]at z <;> first | (cases z;done) | skip
  all_goals
   cases z
   simp only[execOp,c,I,J,Sem.run_bind,i,Result.andThen_ok,binOp,Op.stringOp,Sem.run_pure]
theorem Aqp {c:TypeId} {m n:ByteArray} (b:o.op = .binOp .add t x y c) (z:ρ x = .val (.string m)) (A:ρ y = .val (.string n)) (j:m.size+n.size<=9223372036854775807) : B2 P o ρ ⟨.val (.string (m++n)),[],[]⟩ := Em λσ ι H a w h=>by refine⟨.string (m++n),?_,.of_val _⟩;have D:=Dj z (h x (by simp[b,Op.operands]));have I:=Dj A (h y (by simp[b,Op.operands]));have i:(eqGuard .add t x y (.string m) (.string n)).run P w = .ok () w:=(by unfold eqGuard;simp);have J:IntKind.i64.max=9223372036854775807:=δ;have f:¬((m.size+n.size:Nat):Int)>IntKind.i64.max:=(by rw[J];omega);simp only[execOp,b,D,I,Sem.run_bind,i,Result.andThen_ok,binOp,Op.stringOp,if_neg f,Sem.run_pure]
theorem Aqq (c:o.op = .unOp .not t x) (z:ρ x = .val (.bool b)):B2 P o ρ ⟨.val (.bool !b),[],[]⟩ := Em λσ ι H a w h=>⟨.bool !b,by simp[execOp,c,Dj z (h x (by simp[c,Op.operands])),Op.unary],.of_val _⟩
theorem Aqr (b:o.op = .unOp .neg t x) (z:ρ x = .val (.int k m)) (A:k.wrap (0-m)=c):B2 P o ρ ⟨.val (.int k c),[],[]⟩ := Em λσ ι H a w h=>⟨.int k c,by simp only[execOp,b,Dj z (h x (by simp[b,Op.operands])),Op.unary,Op.intArith,A,Sem.run_bind,Sem.run_pure,Result.andThen_ok],.of_val _⟩
theorem Aqs (A:C3 P T) {j:TI} {L:IntKind} (y:o.op = .convert t d x) (K:T t=some i) (hd:T d=some j) (hj:j.d = .int k) (hx:ρ x = .val (.int L m)) (hc:k.wrap m=c) : B2 P o ρ ⟨.val (.int k c),[],[]⟩ := Em λσ ι H a w h=>by refine⟨.int k c,?_,.of_val _⟩;have h1:=Dj hx (h x (by simp[y,Op.operands]));obtain⟨s,u,z,X,I,V,U,S,R,O⟩:=D6 (A t i K);obtain⟨q,N,M,J,f,G,E,D,B,b⟩:=D6 (A d j hd);rw[hj]at b;subst b;simp only[execOp,y,h1,convert,Sem.run_bind,run_underlying I,run_underlying f,Result.andThen_ok,Conv.intToInt,hc,Sem.run_pure]
theorem Aqt {k:FloatKind} {m c:Nat} (b:o.op = .binOp op t x y f) (A:ρ x = .val (.float k m)) (D:ρ y = .val (.float k n)) (z:floatBits op k m n=some c) : B2 P o ρ ⟨.val (.float k c),[],[]⟩ := Em λσ ι H a w h=>by refine⟨.float k c,?_,.of_val _⟩;have I:=Dj A (h x (by simp[b,Op.operands]));have J:=Dj D (h y (by simp[b,Op.operands]));have i:(eqGuard op t x y (.float k m) (.float k n)).run P w = .ok () w:=(by cases op <;> first | (unfold eqGuard;simp;done) | (simp[floatBits]at z));simp only[execOp,b,I,J,Sem.run_bind,i,Result.andThen_ok,run_float_arith w op t k m n c z,Sem.run_pure]
theorem Aqu (A:C3 P T) {j:TI} {k:FloatKind} {q:IntKind} (y:o.op = .convert t d x) (K:T t=some i) (X:T d=some j) (hj:j.d = .float k) (hx:ρ x = .val (.int q m)) : B2 P o ρ ⟨.val (.float k (floatOfInt k m)),[],[]⟩ := Em λσ ι H a w h=>by refine⟨.float k (floatOfInt k m),?_,.of_val _⟩;have h1:=Dj hx (h x (by simp[y,Op.operands]));obtain⟨s,u,z,V,I,U,S,R,O,N⟩:=D6 (A t i K);obtain⟨f,M,L,J,c,G,E,D,B,b⟩:=D6 (A d j X);rw[hj]at b;subst b;have:=run_convert_int_float (P:=P) w t d q k m (by rw[I];rfl) c;simp only[execOp,y,h1,Sem.run_bind,this,Result.andThen_ok,Sem.run_pure]
theorem Aqv (B:C3 P T) {j:TI} {k:FloatKind} {f:IntKind} {m:Nat} (A:o.op = .convert t d x) (K:T t=some i) (hd:T d=some j) (hj:j.d = .int f) (hx:ρ x = .val (.float k m)) (hc:floatToIntVal k m f=some c) : B2 P o ρ ⟨.val (.int f c),[],[]⟩ := Em λσ ι H a w h=>by refine⟨.int f c,?_,.of_val _⟩;have h1:=Dj hx (h x (by simp[A,Op.operands]));obtain⟨y,u,z,X,J,V,U,S,R,O⟩:=D6 (B t i K);obtain⟨s,N,M,L,q,I,G,E,D,b⟩:=D6 (B d j hd);rw[hj]at b;subst b;have:=run_convert_float_int (P:=P) w t d k f m c (by rw[J];rfl) q hc;simp only[execOp,A,h1,Sem.run_bind,this,Result.andThen_ok,Sem.run_pure]
theorem Aqw {c:AV} (f:o.op = .extract x n) (I:ρ x = .tup cs) (z:cs[n]? = some c):B2 P o ρ ⟨c,[],[]⟩ := Em λσ ι H a w h=>by have A:=h x (by simp[f,Op.operands]);rw[I]at A;obtain⟨D,e,j,i⟩:=A.tup_inv;have b:n<D.size:=(by rw[j];exact (Eo.1 z).1);refine⟨D[n],?_,i n c _ z (by simp[b])⟩;simp[execOp,f,e,Instr.extract,b]
theorem Aa6 {f:Nat} (hi:Hw P s=some i) (V:i.d = .struct fs) (R:fs[f]? = some q) (b off:Nat) (w:World) : (Instr.fieldAt s (.pointer (some ⟨b,off,none⟩)) f).run P w = .ok (.pointer (some ⟨b,off+q.1,none⟩)) w:=by
 obtain⟨D,u,z,N,E,M,L,J,I,B⟩:=D6 hi;rw[V]at B;obtain⟨K,rfl,rfl,S⟩:=B;rw[getElem?_map]at R;cases k:K.toList[f]? with
 | none=>rw[k]at R;simp at R
 | some U=>rw[k]at R;simp at R;subst R;have A:K[f]? = some U:=(by rw[<-Ft];exact k);have hp:=S U (Dz k);have x:∃O,P.info? U.type=some O/\O.size≠0:=(by unfold Program.cellsOf at hp;cases j:P.info? U.type with| none=>rw[j]at hp;simp at hp| some O=>rw[j]at hp;simp at hp;exact⟨O,rfl,ω⟩);obtain⟨O,c,y⟩:=x;have G:(sizeOf U.type).run P w = .ok O.size w:=(by simp[sizeOf,typeInfo,program,Sem.run,c]);simp[Instr.fieldAt,run_underlying E,A,Instr.sureAddr,fieldPlace,G,y,Jn]
theorem Aqx (u:C3 P T) {f:Nat} (j:o.op = .fieldAddr s x f) (A:T s=some i) (D:i.d = .struct fs) (I:fs[f]? = some q) (J:ρ x = .loc h off):B2 P o ρ ⟨.loc h (off+q.1),[],[]⟩ := Em λσ ι H a w c=>by have z:=c x (by simp[j,Op.operands]);rw[J]at z;obtain⟨b,K,k⟩:=z.loc_inv;exact⟨_,by simp[execOp,j,k,Aa6 (u s i A) D I],.loc h (off+q.1) b K⟩
theorem Aqy (A:C3 P T) {f:Nat} (u:o.op = .fieldAddr s x f) (K:T s=some i) (L:i.d = .struct fs) (M:fs[f]? = some q) (N:ρ x = .ref cs):B2 P o ρ ⟨.ref (cs.drop q.1),[],[]⟩ := Em λσ ι H a w k=>by
  have I:=k x (by simp[u,Op.operands]);rw[N]at I;obtain⟨b,off,C,E,O,g,z,y,J,B⟩:=I.ref_inv;refine⟨_,by simp[execOp,u,z,Aa6 (A s i K) L M],.ref _ b (off+q.1) C E O (λj=>g (q.1+j)) y ?_ ?_ ?_⟩
  .intro j c D;rw[getElem?_drop]at D;exact (J _ c D).1
  .intro j c D;rw[getElem?_drop]at D;exact (J _ c D).2
  .intro j D;rw[length_drop]at D;rw[Nat.add_assoc];exact B (q.1+j) ω
theorem Aqz (I:C3 P T) {f:Nat} {k j:Nat} (D:o.op = .fieldAddr s x f) (K:T s=some i) (L:i.d = .struct fs) (M:fs[f]? = some q) (N:ρ x = .el h k n j) (A:xs.length=k):B2 P o ρ ⟨.el h k n (j+q.1),[(h,.rows E sz xs)],[]⟩:=by
 intro σ ι H F W w a next Q s z y O
 have B:H h = .rows E sz xs:=y (h,.rows E sz xs) ψ;have hp:=z x (by simp[D,Op.operands]);rw[N]at hp;obtain⟨b,A8,R,G⟩:=hp.el_inv B A;refine Fc (v:=.pointer (some ⟨b,n*sz+j+q.1,none⟩)) (by simp[execOp,D,G,Aa6 (I _ i K) L M]) (O σ ι _ w (Le.refl _ _ _) s ?_);refine .el h k n (j+q.1) _ (by show H h≠_;rw[B];intro e;cases e) (λJ u c e=>?_) rfl;have e:H h = .rows J u c:=e;rw[B]at e;cases e;refine⟨ω,λ_=>?_⟩;rw[R];show _=_
 rw[Nat.add_assoc]
theorem CC.sl_inv (h:CC σ (.sl sz xs) v) : (xs = []/\∃p f,v = .slice p 0 f)\/∃(b off f:Nat) (C:Array Value) (E:TypeId) (q:Nat×Nat) (g:Nat->Nat->Value),v = .slice (some ⟨b,off,none⟩) xs.length f/\σ b=some (.cells C E q) /\ (∀(i:Nat) (x:AV),xs[i]? = some x->x.cells.length=sz)/\(∀(i:Nat) (x:AV) (j:Nat) (c:AV),xs[i]? = some x->x.cells[j]? = some c->CC σ c (g i j)/\Dy (g i j)=true) /\ (∀(i j:Nat),i<xs.length->j<sz->C[off+i*sz+j]? = some (g i j))/\xs.length<=140737488355328/\xs.length<=f:=by cases h with| nil _ p f=>exact .inl ⟨rfl,p,f,rfl⟩| sl _ b off f _ C E q g s u hc h1 z y k=>exact .inr ⟨b,off,f,C,E,q,g,rfl,s,u,λi x j c hx A=>⟨hc i x j c hx A,h1 i x j c hx A⟩,z,y,k⟩
theorem CC.sl_len (h:CC σ (.sl sz xs) v):xs.length<=140737488355328/\∃p cap,v = .slice p xs.length cap:=by
 rcases h.sl_inv with⟨rfl,p,cap,e⟩|⟨b,off,cap,C,E,fr,g,e,_,_,_,_,c,_⟩
 .exact⟨ψ,p,cap,e⟩
 .exact⟨c,_,cap,e⟩
theorem Ag2 (s:C3 P T) (j:o.op = .call {callee:=.builtin .len,args:=#[x],argTypes:=#[t]}) (J:T t=some i) (K:i.d = .slice e) (L:ρ x = .sl sz xs) : B2 P o ρ ⟨.val (.int .i64 xs.length),[],[]⟩ := Em λσ ι H a w b=>by have I:=b x (by simp[j,Op.operands,Call.operands]);rw[L]at I;obtain⟨_,p,M,q⟩:=I.sl_inv.sl_len;obtain⟨f,u,z,E,k,D,B,A,y,c⟩:=D6 (s t i J);rw[K]at c;subst c;refine⟨.int .i64 xs.length,?_,.of_val _⟩;simp[execOp,j,resolve,invoke,builtin,Builtin.len_,q,run_underlying k,goInt]
theorem Aq0 (y:C3 P T) {c:Nat} (k:o.op = .call {callee:=.builtin .len,args:=#[x],argTypes:=#[t]}) (I:T t=some i) (J:i.d = .slice e) (K:ρ x = .val (.slice p n c)) : B2 P o ρ ⟨.val (.int .i64 n),[],[]⟩ := Em λσ ι H a w b=>by have s:=Dj K (b x (by simp[k,Op.operands,Call.operands]));obtain⟨j,u,z,G,q,E,D,B,A,f⟩:=D6 (y t i I);rw[J]at f;subst f;refine⟨.int .i64 n,?_,.of_val _⟩;simp[execOp,k,resolve,invoke,builtin,Builtin.len_,s,run_underlying q,goInt]
theorem Aq1 (y:C3 P T) {b:Nat} (k:o.op = .call {callee:=.builtin .cap,args:=#[x],argTypes:=#[t]}) (I:T t=some i) (J:i.d = .slice e) (K:ρ x = .val (.slice p n b)) : B2 P o ρ ⟨.val (.int .i64 b),[],[]⟩ := Em λσ ι H a w c=>by have s:=Dj K (c x (by simp[k,Op.operands,Call.operands]));obtain⟨j,u,z,G,q,E,D,B,A,f⟩:=D6 (y t i I);rw[J]at f;subst f;refine⟨.int .i64 b,?_,.of_val _⟩;simp[execOp,k,resolve,invoke,builtin,Builtin.cap_,s,run_underlying q,goInt]
theorem Aq2 (y:C3 P T) {s:ByteArray} (j:o.op = .call {callee:=.builtin .len,args:=#[x],argTypes:=#[t]}) (I:T t=some i) (J:i.d = .string) (K:ρ x = .val (.string s)) : B2 P o ρ ⟨.val (.int .i64 s.size),[],[]⟩ := Em λσ ι H a w b=>by have q:=Dj K (b x (by simp[j,Op.operands,Call.operands]));obtain⟨f,u,z,G,k,E,D,B,A,c⟩:=D6 (y t i I);rw[J]at c;subst c;refine⟨.int .i64 s.size,?_,.of_val _⟩;simp[execOp,j,resolve,invoke,builtin,Builtin.len_,q,run_underlying k,goInt]
theorem Aq3 (G:C3 P T) {k len:Nat} (A:o.op = .call {callee:=.builtin .len,args:=#[x],argTypes:=#[t]}) (S:T t=some i) (U:i.d = .slice e) (V:ρ x = .arr h k off len) (j:xs.length=k):B2 P o ρ ⟨.val (.int .i64 len),[(h,.rows E sz xs)],[]⟩:=by
 intro σ ι H F W w a next Q s f c X
 have D:H h = .rows E sz xs:=c (h,.rows E sz xs) ψ;have hp:=f x (by simp[A,Op.operands,Call.operands]);rw[V]at hp;have b:=hp.arr_inv D j;obtain⟨y,u,z,R,B,O,N,M,L,q⟩:=D6 (G t i S);rw[U]at q;subst q;have:∃p K,a.eval x = .slice p len K:=by
  unfold Gg at b;split at b
  .obtain⟨J,_,I⟩:=b;exact⟨none,0,by rw[J,I]⟩
  .exact⟨_,_,b.2⟩
  .exact b.elim
 obtain⟨p,K,b⟩:=this;refine Fc (v:=.int .i64 len) ?_ (X σ ι _ w (Le.refl _ _ _) s (.of_val _));simp[execOp,A,resolve,invoke,builtin,Builtin.len_,b,run_underlying B,goInt]
theorem Aa7 {s:TI} (hi:Hw P t=some i) (K:i.d = .slice e) (A:Hw P e=some s) {b len f:Nat} (k:IntKind) (J:n<len) (w:World) : (Instr.indexAt t (.slice (some ⟨b,off,none⟩) len f) (.int k (n:Int))).run P w = .ok (.pointer (some ⟨b,off+n*s.size,none⟩)) w:=by obtain⟨q,u,z,I,x,G,E,D,B,j⟩:=D6 hi;rw[K]at j;subst j;have y:=M0 A w;have c:0<=(n:Int)/\(n:Int)<(len:Int):=ω;simp only[Instr.indexAt,asIntOf,Sem.run_bind,Sem.run_pure,Result.andThen_ok,run_underlying x,if_pos c,y,Jn,Int.toNat_natCast]
theorem Aq4 (D:C3 P T) {f:TI} {z:AV} (A:o.op = .indexAddr t x y) (S:T t=some i) (U:i.d = .slice e) (M:T e=some f) (u:sz=f.size) (V:ρ x = .sl sz xs) (X:ρ y = .val (.int k (n:Int))) (s:xs[n]? = some z) : B2 P o ρ ⟨.ref z.cells,[],[]⟩ := Em λσ ι H a w q=>by
  have O:=q x (by simp[A,Op.operands]);have h2:=Dj X (q y (by simp[A,Op.operands]));rw[V]at O;have B:=(Eo.1 s).1;rcases O.sl_inv.sl_inv with⟨rfl,_⟩|⟨b,off,a0,C,E,fr,g,J,G,L,R,N,_⟩
  .simp at B
  .have I:=L n z s;refine⟨.pointer (some ⟨b,off+n*f.size,none⟩),?_,.ref z.cells b (off+n*f.size) C E fr (g n) G (λj c K=>(R n z j c s K).1) (λj c K=>(R n z j c s K).2) λj K=>?_⟩
   .simp[execOp,A,J,h2,Aa7 (D t i S) U (D e f M) k B]
   .have:=N n j B ω;rw[<-u];exact this
theorem Aq5 (q:C3 P T) {f:TI} {m:Nat} (j:o.op = .indexAddr t x y) (I:T t=some i) (J:i.d = .slice e) (A:T e=some f) (s:f.size=1) (K:ρ x = .vec h m) (L:ρ y = .val (.int k (n:Int))) (z:n<m) : B2 P o ρ ⟨.loc h n,[],[]⟩ := Em λσ ι H a w c=>by have D:=c x (by simp[j,Op.operands]);have M:=Dj L (c y (by simp[j,Op.operands]));rw[K]at D;obtain⟨b,N,u⟩:=D.vec_inv;refine⟨.pointer (some ⟨b,n,none⟩),?_,.loc h n b N⟩;simp[execOp,j,u,M,Aa7 (q t i I) J (q e f A) k z,s]
theorem Aq6 (y:C3 P T) {m:Nat} (k:o.op = .call {callee:=.builtin .len,args:=#[x],argTypes:=#[t]}) (J:T t=some i) (K:i.d = .slice e) (L:ρ x = .vec h m) : B2 P o ρ ⟨.val (.int .i64 m),[],[]⟩ := Em λσ ι H a w c=>by have I:=c x (by simp[k,Op.operands,Call.operands]);rw[L]at I;obtain⟨b,M,s⟩:=I.vec_inv;obtain⟨j,u,z,G,q,E,D,B,A,f⟩:=D6 (y t i J);rw[K]at f;subst f;refine⟨.int .i64 m,?_,.of_val _⟩;simp[execOp,k,resolve,invoke,builtin,Builtin.len_,s,run_underlying q,goInt]
theorem Aq7 (I:C3 P T) {u:TI} {k len:Nat} {K:IntKind} (B:o.op = .indexAddr t x y) (O:T t=some i) (R:i.d = .slice e) (M:T e=some u) (S:ρ x = .arr h k off len) (D:xs.length=k) (U:ρ y = .val (.int K (n:Int))) (J:n<len) (z:sz=u.size):B2 P o ρ ⟨.el h k (off+n) 0,[(h,.rows E sz xs)],[]⟩:=by
 intro σ ι H F W w a next Q s f A V
 have G:H h = .rows E sz xs:=A (h,.rows E sz xs) ψ;have hp:=f x (by simp[B,Op.operands]);have X:=Dj U (f y (by simp[B,Op.operands]));rw[S]at hp;have c:=hp.arr_inv G D;unfold Gg at c;split at c
 .omega
 .rename_i b A8 hb;obtain⟨L,c⟩:=c;refine Fc (v:=.pointer (some ⟨b,(off+n)*sz,none⟩)) ?_ (V σ ι _ w (Le.refl _ _ _) s ?_)
  .simp[execOp,B,c,X,Aa7 (I t i O) R (I e u M) K J,z,Ed]
  .refine .el h k (off+n) 0 _ (by show H h≠_;rw[G];intro e;cases e) (λN q j e=>?_) rfl;have e:H h = .rows N q j:=e;rw[G]at e;cases e;refine⟨ω,λ_=>?_⟩;rw[hb];rfl
 .exact c.elim
theorem Aq8 (B:C3 P T) {s:ByteArray} {c:UInt8} (f:o.op = .index t x y) (K:T t=some i) (L:i.d = .string) (M:ρ x = .val (.string s)) (N:ρ y = .val (.int k (n:Int))) (O:s[n]? = some c) : B2 P o ρ ⟨.val (.int .u8 c.toNat),[],[]⟩ := Em λσ ι H a w b=>by have R:=Dj M (b x (by simp[f,Op.operands]));have S:=Dj N (b y (by simp[f,Op.operands]));obtain⟨q,u,z,J,A,I,G,E,D,j⟩:=D6 (B t i K);rw[L]at j;subst j;refine⟨.int .u8 c.toNat,?_,.of_val _⟩;simp[execOp,f,R,S,Instr.index,asIntOf,run_underlying A,O]
theorem Aq9 {f:FuncId} {caps:Array Operand} (j:o.op = .makeFunc (.func f) #[] caps):B2 P o ρ ⟨.fn f (caps.toList.map ρ),[],[]⟩ := Em λσ ι H a w b=>by refine⟨.func (.func f) #[] (caps.map a.eval),by simp[execOp,j,Instr.makeFunc],.fn f _ _ ψ λi c v A z=>?_⟩;rw[getElem?_map]at A;rw[Array.getElem?_map]at z;cases D:caps[i]? with| none=>rw[D]at z;simp at z| some x=>rw[D]at z;rw[Ft,D]at A;simp at A z;subst A;subst z;exact b x (by simp[j,Op.operands];exact Array.mem_of_getElem? D)
end
section
variable {P:Program} {o:Oper} {ρ:Operand->AV} {a:Act} {w w':World} {next:Act->World->Prop} {Q:Exit->Act->World->Prop}
variable {σ:Aw} {ι:Bq} {T:Cw} {H:Hp} {xs:List AV} {h l n sz:Nat} {x:Operand} {hi lo:Option Operand} {i:TI} {e t:TypeId}
def Hx (ρ:Operand->AV) (d:Int):Option Operand->Option Int
 | none=>some d
 | some x=>match ρ x with
  | .val (.int _ n)=>some n
  | _=>none
theorem Aa8 {k:IntKind} {y:Nat} (h:n<=y) (c:BoundsCode) (w:World):(Instr.sliceBound (.int k (n:Int)) y c).run P w = .ok n w:=by have:0<=(n:Int)/\(n:Int)<=(y:Int):=ω;simp only[Instr.sliceBound,asIntOf,Sem.run_bind,Sem.run_pure,Result.andThen_ok,if_pos this,Int.toNat_natCast]
theorem Aa9 {d:Int} (hb:Hx ρ d (some x)=some (n:Int)) (z:Conc σ ι H (ρ x) (a.eval x)):∃k,a.eval x = .int k (n:Int):=by
 unfold Hx at hb;simp only[]at hb;split at hb
 .rename_i k m e;rw[e]at z;cases hb;exact⟨k,z.val_inv⟩
 .cases hb
theorem Xa {q:Bool} {len f:Nat} (b:Hx ρ 0 lo=some (l:Int)) (i:Hx ρ (len:Int) hi=some (h:Int)) (z:∀x,lo=some x\/hi=some x->Conc σ ι H (ρ x) (a.eval x)) (A:l<=h) (D:h<=f) (w:World) : (Instr.sliceBounds q len f (lo.map a.eval) (hi.map a.eval) none).run P w = .ok (l,h,f) w:=by
 unfold Instr.sliceBounds;cases hi with
 | none=>simp[Hx]at i;cases lo with| none=>simp[Hx]at b;simp;omega| some x=>obtain⟨k,e⟩:=Aa9 b (z x (.inl rfl));have:=λc=>Aa8 (P:=P) (k:=k) (n:=l) (y:=len) ω c w;simp[e,this];omega
 | some y=>obtain⟨s,e'⟩:=Aa9 i (z y (.inr rfl));have j:=λc=>Aa8 (P:=P) (k:=s) D c w;cases lo with| none=>simp[Hx]at b;simp[e',j];omega| some x=>obtain⟨k,e⟩:=Aa9 b (z x (.inl rfl));have:=λc=>Aa8 (P:=P) (k:=k) A c w;simp[e,e',this,j]
theorem Xb {y:Operand} (h:lo=some y\/hi=some y):y∈(Op.slice t x lo hi none).operands.toList:=by rcases h with rfl|rfl <;> simp[Op.operands]
theorem Ara (Z:C3 P T) {A:TI} (I:o.op = .slice t x lo hi none) (ht:T t=some i) (hd:i.d = .slice e) (he:T e=some A) (B:sz=A.size) (hx:ρ x = .sl sz xs) (M:Hx ρ 0 lo=some (l:Int)) (R:Hx ρ (xs.length:Int) hi=some (h:Int)) (h1:l<=h) (h2:h<=xs.length):B2 P o ρ ⟨.sl sz ((xs.take h).drop l),[],[]⟩ := Em λσ ι H a w D=>by
  have s:=D x (by simp[I,Op.operands]);rw[hx]at s;obtain⟨X,u,z,k1,V,k3,k4,k5,k6,U⟩:=D6 (Z t i ht);rw[hd]at U;subst U;have Y:=M0 (Z e A he);have G:∀(K:Nat),xs.length<=K->∀w,(Instr.sliceBounds true xs.length K (lo.map a.eval) (hi.map a.eval) none).run P w = .ok (l,h,K) w :=
   λK q w=>Xa M R (λy hy=>D y (by rw[I];exact Xb hy)) h1 ω w
  rcases s.sl_inv.sl_inv with⟨rfl,p,K,s⟩|⟨b,off,K,C,E,fr,g,s,hσ,J,hc,hC,hl,q⟩
  .have O:l=0:=(by simp at h2;omega);have S:h=0:=(by simpa using h2);subst O;subst S;refine⟨.slice (if K=0 then p else p.map (·.add (0*A.size))) (0-0) (K-0),?_,?_⟩
   .simp only[execOp,I,s,Instr.sliceAt,Instr.slice,Sem.run_bind,run_underlying V,Result.andThen_ok,Option.map_none];have:=G K ψ w;simp only[length_nil]at this;simp only[this,Result.andThen_ok,Y w,Sem.run_pure]
   .exact .cc (.nil sz _ _)
  .refine⟨.slice (if K=l then some ⟨b,off,none⟩ else some ⟨b,off+l*A.size,none⟩) (h-l) (K-l),?_,?_⟩
   .simp only[execOp,I,s,Instr.sliceAt,Instr.slice,Sem.run_bind,run_underlying V,Result.andThen_ok,Option.map_none,G K q w,Y w,Sem.run_pure,Option.map_some,Jn]
   .by_cases N:l=h
    .subst N;have:(xs.take l).drop l = []:=ψ;rw[this,Nat.sub_self];exact .cc (.nil sz _ _)
    .rw[if_neg ω];have f:((xs.take h).drop l).length=h-l:=ζ;have k:∀(n:Nat) (y:AV),((xs.take h).drop l)[n]? = some y->xs[l+n]? = some y:=by
      intro n y hy;rw[getElem?_drop]at hy;by_cases L:l+n<h
      .rwa [Gz L]at hy
      .rw[getElem?_eq_none ζ]at hy;cases hy
     have:=CC.sl (σ:=σ) ((xs.take h).drop l) b (off+l*sz) (K-l) sz C E fr (λn j=>g (l+n) j) hσ (λn y hy=>J _ y (k n y hy))
      (λn y j c hy hj=>(hc _ y j c (k n y hy) hj).1) (λn y j c hy hj=>(hc _ y j c (k n y hy) hj).2) (λn j hn hj=>by rw[f]at hn;have:=hC (l+n) j ω hj;rw[Ed]at this;rw[<-this];congr 1;omega) (by rw[f];omega) (by rw[f];omega);rw[f,B]at this;rw[B];exact .cc this
theorem Arb (E:C3 P T) {s:ByteArray} (c:o.op = .slice t x lo hi none) (K:T t=some i) (N:i.d = .string) (O:ρ x = .val (.string s)) (f:Hx ρ 0 lo=some (l:Int)) (j:Hx ρ (s.size:Int) hi=some (h:Int)) (R:l<=h) (U:h<=s.size):B2 P o ρ ⟨.val (.string (s.extract l h)),[],[]⟩ := Em λσ ι H a w b=>by
  have D:=Dj O (b x (by simp[c,Op.operands]));obtain⟨A,u,z,M,B,L,J,I,G,q⟩:=D6 (E t i K);rw[N]at q;subst q;have k:(Instr.sliceBounds false s.size s.size (lo.map a.eval) (hi.map a.eval) none).run P w = .ok (l,h,s.size) w :=
   Xa f j (λy S=>b y (by rw[c];exact Xb S)) R ω w
  refine⟨.string (s.extract l h),?_,.of_val _⟩;simp[execOp,c,D,Instr.sliceAt,Instr.slice,run_underlying B,k]
theorem Arc (hT:C3 P T) {J:TI} {c k off len:Nat} {E:TypeId} (I:o.op = .slice t x lo hi none) (ht:T t=some i) (hd:i.d = .slice e) (he:T e=some J) (L:sz=J.size) (hx:ρ x = .arr c k off len) (S:xs.length=k) (O:Hx ρ 0 lo=some (l:Int)) (U:Hx ρ (len:Int) hi=some (h:Int)) (h1:l<=h) (h2:h<=len) (h3:l=0\/l<h) : B2 P o ρ ⟨.arr c k (off+l) (h-l),[(c,.rows E sz xs)],[]⟩:=by
 intro σ ι H F W w a next Q s A M hk
 have D:H c = .rows E sz xs:=M (c,.rows E sz xs) ψ;have hp:=A x (by simp[I,Op.operands]);rw[hx]at hp;have f:=hp.arr_inv D S;obtain⟨Z,u,z,k1,Y,k3,k4,k5,k6,X⟩:=D6 (hT t i ht);rw[hd]at X;subst X;have hs:=M0 (hT e J he);have G:∀(K:Nat),len<=K->∀w,(Instr.sliceBounds true len K (lo.map a.eval) (hi.map a.eval) none).run P w = .ok (l,h,K) w :=
  λK a1 w=>Xa O U (λy hy=>A y (by rw[I];exact Xb hy)) h1 ω w
 unfold Gg at f;split at f
 .rename_i B;obtain⟨f,N,R⟩:=f;subst R;subst N;have e1:l=0:=ω;have e2:h=0:=ω;subst e1;subst e2;refine Fc (v:=.slice none 0 0) ?_ (hk σ ι _ w (Le.refl _ _ _) s ?_)
  .simp only[execOp,I,f,Instr.sliceAt,Instr.slice,Sem.run_bind,run_underlying Y,Result.andThen_ok,Option.map_none];have:=G 0 ω w;simp only[this,Result.andThen_ok,hs w,Sem.run_pure];rfl
  .refine .arr _ _ _ _ _ (by show H c≠_;rw[D];intro e;cases e) (λV q j e=>?_) rfl;have e:H c = .rows V q j:=e;rw[D]at e;cases e;exact⟨ω,λ_=>by rw[B];exact⟨rfl,rfl,rfl⟩⟩
 .rename_i b A8 hb;obtain⟨a6,f⟩:=f;refine Fc (v:=.slice (some ⟨b,(off+l)*sz,none⟩) (h-l) (A8-(off+l))) ?_ (hk σ ι _ w (Le.refl _ _ _) s ?_)
  .simp only[execOp,I,f,Instr.sliceAt,Instr.slice,Sem.run_bind,run_underlying Y,Result.andThen_ok,Option.map_none];have:=G (A8-off) ω w;simp only[this,Result.andThen_ok,hs w,Sem.run_pure,Option.map_some,Jn];rcases h3 with rfl|h3
   .simp
   .rw[if_neg ω,Ed,L,Nat.sub_sub]
  .refine .arr _ _ _ _ _ (by show H c≠_;rw[D];intro e;cases e) (λV q j e=>?_) rfl;have e:H c = .rows V q j:=e;rw[D]at e;cases e;refine⟨ω,λ_=>?_⟩;rw[hb];exact⟨ω,rfl⟩
 .exact f.elim
def Xc (σ:Aw) (ι:Bq) (H:Hp) (cs:List AV) (C:Array Value):Prop := C.size=cs.length/\∀(i:Nat) (c:AV) (v:Value),cs[i]? = some c->C[i]? = some v->Conc σ ι H c v
theorem Aba (off:Nat):∀(l:List Value) (m:Nat) (cells:Array Value),off+m+l.length<=cells.size -> ((l.zipIdx m).foldl (λcs p=>cs.setIfInBounds (off+p.2) p.1) cells).size=cells.size /\ ∀k:Nat,((l.zipIdx m).foldl (λcs p=>cs.setIfInBounds (off+p.2) p.1) cells)[k]? = if off+m<=k/\k<off+m+l.length then l[k-(off+m)]? else cells[k]?
 | [],m,cells,_=>by refine⟨rfl,λk=>?_⟩;rw[if_neg (by simp only[length_nil];omega)];rfl
 | v::z,m,cells,h=>by
  simp only[length_cons]at h;obtain⟨c,b⟩:=Aba off z (m+1) (cells.setIfInBounds (off+m) v) ζ;simp only[zipIdx_cons,foldl_cons];refine⟨by rw[c];simp,λk=>?_⟩;rw[b k];by_cases D:k=off+m
  .subst D;rw[if_neg ω,if_pos ψ];rw[Array.getElem?_setIfInBounds_self_of_lt ω];simp
  .by_cases A:off+m<=k/\k<off+m+(z.length+1)
   .rw[if_pos ω,length_cons,if_pos A];rw[show k-(off+m)=(k-(off+(m+1)))+1 by omega];simp
   .rw[if_neg ω,length_cons,if_neg A,Array.getElem?_setIfInBounds_ne ω]
theorem Ag3 {σ:Aw} {ι:Bq} {H:Hp} {fs:List (Nat×Nat)} {place:Nat->Option (Nat×Nat)} (hp:∀n,place n=fs[n]?):∀(k:List (Nat×Operand)) (cs:List AV) (C:Array Value) (b:List AV),Xc σ ι H cs C -> (∀p∈k,Conc σ ι H (ρ p.2) (a.eval p.2))->Q8 fs cs (k.map λp=>(p.1,ρ p.2))=some b -> ∃u,Instr.fill place C (k.map λp=>(p.1,a.eval p.2))=some u/\Xc σ ι H b u
 | [],cs,C,b,j,_,h=>by simp only[map_nil,Q8]at h;cases h;exact⟨C,rfl,j⟩
 | p::k,cs,C,b,j,M,h=>by
  simp only[map_cons,Q8]at h;cases L:fs[p.1]? with
  | none=>rw[L]at h;cases h
  | some q=>
   rw[L]at h;simp only[]at h;cases K:(Nat.beq (ρ p.2).cells.length q.2&&Nat.ble (q.1+q.2) cs.length) with
   | false=>rw[K]at h;cases h
   | true=>
    rw[K]at h;simp only[cond_true]at h;simp only[Ec]at K;have G:(ρ p.2).cells.length=q.2:=Fj K.1;have E:q.1+q.2<=cs.length:=Fu K.2;have N:=(M p ψ).cells;have D:=j.1;have s:=Aba q.1 (a.eval p.2).cells.toList 0 C ζ;have y:Xc σ ι H (Lb cs q.1 (ρ p.2).cells) (((a.eval p.2).cells.toList.zipIdx 0).foldl (λcs p=>cs.setIfInBounds (q.1+p.2) p.1) C):=by
     refine⟨by rw[s.1,Aa2 _ _ _ ω];exact j.1,λi c v I J=>?_⟩;rw[Aa1 _ _ _ ω]at I;rw[s.2 i]at J;simp only[Array.length_toList,N.1,Nat.add_zero]at J;by_cases O:i<q.1
     .rw[if_pos O]at I;rw[if_neg ω]at J;exact j.2 i c v I J
     .rw[if_neg O]at I;by_cases R:i<q.1+(ρ p.2).cells.length
      .rw[if_pos R]at I;rw[if_pos ω,Ft]at J;exact N.2 _ c v I J
      .rw[if_neg R]at I;rw[if_neg ω]at J;exact j.2 i c v I J
    obtain⟨u,A,z⟩:=Ag3 hp k _ _ b y (λB x=>M B (by simp[x])) h;refine⟨u,?_,z⟩;simp only[map_cons,Instr.fill,hp,L];have f:((a.eval p.2).cells.size≠q.2||decide (q.1+(a.eval p.2).cells.size>C.size))=false:=by have:=j.1;simp;omega
    rw[f];simp only[Bool.false_eq_true,if_false];rw[<-Array.foldl_toList,Array.toList_zipIdx];exact A
theorem Ard (U:C3 P T) {b:Array (Nat×Operand)} {fs:List (Nat×Nat)} {cs:List AV} (L:o.op = .build t b) (ht:T t=some i) (hd:i.d = .struct fs) (hc:Q8 fs (i.zero.map .val) (b.toList.map λp=>(p.1,ρ p.2))=some cs):B2 P o ρ ⟨.agg cs,[],[]⟩ := Em λσ ι H a w B=>by
  obtain⟨J,u,z,R,O,N,Y,X,I,G⟩:=D6 (U t i ht);rw[hd]at G;obtain⟨K,rfl,D,a0⟩:=G;have A:∀(q:List Field),(∀f∈q,0<P.cellsOf f.type)->q.mapM (λf=>(P.info? f.type).map λi=>(f.offset,i.size))=some (q.map λf=>(f.offset,P.cellsOf f.type)):=by
   intro q;induction q with
   | nil=>intro _;rfl
   | cons f q ih=>intro hp;have h0:=hp f ψ;have s:=ih λV a1=>hp V (by simp[a1]);unfold Program.cellsOf at h0 ⊢;cases k:P.info? f.type with| none=>rw[k]at h0;simp at h0| some a2=>unfold Program.cellsOf at s;rw[mapM_cons,s,k];simp[k]
  have S:Xc σ ι H (i.zero.map .val) z.cells:=(by refine⟨by simp[I],λj c v h1 h2=>?_⟩;rw[I,getElem?_map,Ft,h2]at h1;simp at h1;subst h1;exact .of_val v);obtain⟨y,M,E⟩:=Ag3 (a:=a) (place:=λn=>((K.toList.map λf=>(f.offset,P.cellsOf f.type)).toArray)[n]?) (fs:=fs) (λn=>by rw[D];simp) b.toList _ _ cs S (λp hp=>B p.2 (by simp only[L,Op.operands];simpa using ⟨p.1,by simpa using hp⟩)) hc;refine⟨.agg y,?_,.agg cs y E.1 E.2⟩;have hb:P.built t ((b.map λ(i,x)=>(i,a.eval x)).toList)=some y:=(by unfold Program.built;rw[R,O];simp only[N,A K.toList a0];rw[<-M];simp);simp only[execOp,L,Sem.run_bind,run_build w t _ y hb,Result.andThen_ok,Sem.run_pure]
end
section
variable {P:Program} {o:Oper} {ρ:Operand->AV} {a:Act} {w w':World} {next:Act->World->Prop} {Q:Exit->Act->World->Prop}
variable {b:Array (Nat×Operand)} {T:Cw} {k:IntKind} {c l:Nat} {x y:Operand} {i:TI} {e t:TypeId}
theorem Lz {sz:Nat} {x:AV} (h:Jy sz x=true):x.cells.length=sz/\∀c∈x.cells,c.cl1=true:=by unfold Jy at h;simp only[Ec]at h;exact⟨Fj h.1,Dh.1 h.2⟩
def Jb (vs:List Value):List Value:=vs.flatMap λv=>v.cells.toList
theorem Abb {σ:Aw} {ι:Bq} {H:Hp} {sz:Nat}:∀(xs:List AV) (vs:List Value),xs.length=vs.length->(∀x∈xs,Jy sz x=true) -> (∀(i:Nat) (x:AV) (v:Value),xs[i]? = some x->vs[i]? = some v->Conc σ ι H x v) -> (Jb vs).length=xs.length*sz/\∃g:Nat->Nat->Value,(∀(i:Nat) (x:AV) (j:Nat) (c:AV),xs[i]? = some x->x.cells[j]? = some c->CC σ c (g i j)/\Dy (g i j)=true) /\ (∀(i j:Nat),i<xs.length->j<sz->(Jb vs)[i*sz+j]? = some (g i j))
 | [],[],_,_,_=>⟨by simp[Jb],λ_ _=>undef,ψ,ψ⟩
 | x::xs,v::vs,E,q,L=>by
  obtain⟨B,g,A,z⟩:=Abb xs vs (by simpa using E) (λy J=>q y (by simp[J])) λi y u M N=>L (i+1) y u (by simpa using M) (by simpa using N);have O:=L 0 x v ψ ψ;have K:=Lz (q x ψ);have f:=O.cells;have k:v.cells.toList.length=sz:=(by simp[f.1,K.1]);have s:Jb (v::vs)=v.cells.toList++Jb vs:=(by simp[Jb]);refine⟨by rw[s,length_append,B,k,length_cons,Ed];omega,λi j=>if i=0 then (v.cells[j]?).getD undef else g (i-1) j,?_,?_⟩
  .intro i y j c J I;cases i with
   | zero=>simp at J;subst J;have b:j<v.cells.size:=(by rw[f.1];exact (Eo.1 I).1);have:(v.cells[j]?).getD undef=v.cells[j]:=(by simp[b]);simp only[if_pos];rw[this];exact (f.2 j c _ I (by simp[b])).cc_of (K.2 c (Dz I))
   | succ i=>have D:xs[i]? = some y:=(by simpa using J);simpa using A i y j c D I
  .intro i j hi I;rw[s];cases i with
   | zero=>rw[getElem?_append_left ω,Nat.zero_mul,Nat.zero_add,Ft];have b:j<v.cells.size:=(by rw[f.1,K.1];exact I);simp[b]
   | succ i=>rw[getElem?_append_right (by rw[k,Ed];omega),k,show (i+1)*sz+j-sz=i*sz+j by rw[Ed];omega];rw[z i j (by simpa using hi) I];simp
theorem Ag4 {sz:Nat}:∀(vs:List Value) (m:Nat) (C:Array Value),(∀v∈vs,v.cells.size=sz)->C.size=(m+vs.length)*sz -> ∃f,Instr.fill (λi=>some (i*sz,sz)) C ((vs.zipIdx m).map λp=>(p.2,p.1))=some f/\f.size=C.size/\(∀k:Nat,k<m*sz->f[k]? = C[k]?) /\ ∀k:Nat,m*sz<=k->f[k]? = (Jb vs)[k-m*sz]?
 | [],m,C,_,j=>by refine⟨C,rfl,rfl,λ_ _=>rfl,λk D=>?_⟩;simp only[length_nil,Nat.add_zero]at j;simp[Jb];omega
 | v::vs,m,C,x,j=>by
  simp only[length_cons]at j;have I:=x v ψ;have y:(m+(vs.length+1))*sz=m*sz+sz+vs.length*sz:=(by rw[Ed,Ed];omega);have b:=Aba (m*sz) v.cells.toList 0 C ζ;simp only[Nat.add_zero,Array.length_toList,I]at b;obtain⟨f,B,A,s,z⟩:=Ag4 vs (m+1) (((v.cells.toList.zipIdx 0).foldl (λcs p=>cs.setIfInBounds (m*sz+p.2) p.1) C)) (λu J=>x u (by simp[J])) (by rw[b.1,j,show m+1+vs.length=m+(vs.length+1) by omega]);refine⟨f,?_,by rw[A,b.1],?_,?_⟩
  .simp only[zipIdx_cons,map_cons,Instr.fill];have c:(v.cells.size≠sz||decide (m*sz+v.cells.size>C.size))=false:=by simp;omega
   rw[c];simp only[Bool.false_eq_true,if_false];rw[<-Array.foldl_toList,Array.toList_zipIdx];exact B
  .intro k D;rw[s k (by rw[Ed];omega),b.2 k,if_neg ω]
  .intro k D;have q:Jb (v::vs)=v.cells.toList++Jb vs:=(by simp[Jb]);rw[q];by_cases K:k<m*sz+sz
   .rw[s k (by rw[Ed];omega),b.2 k,if_pos ω,getElem?_append_left ζ]
   .rw[z k (by rw[Ed];omega),getElem?_append_right ζ];congr 1;simp only[Array.length_toList,I];rw[Ed];omega
theorem Are (b:List (Nat×Operand)) (f:Operand->Value) (m:Nat) (h:b.map (·.1)=range' m b.length):b.map (λp=>(p.1,f p.2))=((b.map λp=>f p.2).zipIdx m).map λp=>(p.2,p.1):=by induction b generalizing m with| nil=>rfl| cons p b ih=>simp only[map_cons,length_cons,range'_succ,List.cons.injEq]at h;simp only[map_cons,zipIdx_cons,List.cons.injEq];exact⟨by rw[h.1],ih (m+1) h.2⟩
theorem Ag5 {len:Nat} {c:TI} (U:o.op = .buildSlice t len b) (hi:Hw P t=some i) (hd:i.d = .slice e) (V:Hw P e=some c) (hz:0<c.size) (hp:b.toList.map (·.1)=range' 0 len) (a6:len*c.size<=16777216) (hv:∀p∈b.toList,(a.eval p.2).cells.size=c.size) : ∃C:Array Value,C.toList=Jb (b.toList.map λp=>a.eval p.2)/\(execOp a.eval o).run P w = .ok (.value (.slice (some ⟨w.heap.size,0,none⟩) len len)) (w.alloc (.cells C e)):=by
 obtain⟨R,u,z,k1,O,k3,k4,k5,k6,N⟩:=D6 hi;rw[hd]at N;subst N;obtain⟨s,a1,D⟩:=Agy V w;have S:=M0 V w;have f:b.toList.length=len:=by have:=congrArg length hp;simpa using this
 have E:∀v∈(b.toList.map λp=>a.eval p.2),v.cells.size=c.size:=by intro v y;simp only[mem_map]at y;obtain⟨p,I,rfl⟩:=y;exact hv p I
 have L:∀(vs:List Value),(∀v∈vs,v.cells.size=c.size)->(Jb vs).length=vs.length*c.size:=by intro vs;induction vs with| nil=>intro _;simp[Jb]| cons v vs ih=>intro h;have:=ih λu hu=>h u (by simp[hu]);have h0:=h v ψ;simp only[Jb,flatMap_cons,length_append,Array.length_toList,h0,length_cons]at this ⊢;rw[this,Ed];omega
 obtain⟨B,Z,Y,r3,X⟩:=Ag4 (sz:=c.size) (b.toList.map λp=>a.eval p.2) 0 ((Array.range (len*c.size)).map (s.cells[· % s.cells.size]!)) E (by simp[f]);refine⟨B,?_,?_⟩
 .apply ext_getElem?;intro k;rw[Ft,X k ω];simp
 .have K:0<len\/len=0:=ω;have q:Instr.fill (λi=>some (i*c.size,c.size)) ((Array.range (len*c.size)).map (s.cells[· % s.cells.size]!)) ((b.map λ(i,x)=>(i,a.eval x)).toList)=some B:=(by rw[<-Z,<-Are b.toList a.eval 0 (by rw[hp,f])];simp);rcases K with K|K
  .have J:¬len*c.size=0:=(by have:=Nat.mul_pos K hz;omega);have A:¬len*c.size>2 ^ 24:=ω;have j:Instr.fill (λi=>some (i*c.size,c.size)) ((Array.range (len*c.size)).map (s.cells[· % s.cells.size]!)) (b.toList.map λx=>(x.1,a.eval x.2))=some B:=(by rw[<-q];simp);simp[execOp,U,Instr.buildSlice,run_underlying O,S,A,J,D,j,newRow,newObj,Sem.run]
  .subst K;have M:B = #[]:=(by apply Array.eq_empty_of_size_eq_zero;rw[Y];simp);subst M;have G:b = #[]:=(by apply Array.eq_empty_of_size_eq_zero;simpa using f);subst G;have:(Array.map (λ_:Nat=>(default:Value)) (Array.range 0)) = #[]:=ψ;simp[execOp,U,Instr.buildSlice,run_underlying O,S,newRow,newObj,Sem.run,Instr.fill,this]
theorem Xd {len:Nat} {p:Nat×Operand} (h:p∈b.toList):p.2∈(Op.buildSlice t len b).operands.toList:=by simp only[Op.operands];simpa using ⟨p.1,by simpa using h⟩
theorem Ag6 (G:C3 P T) {len:Nat} {f:TI} (D:o.op = .buildSlice t len b) (X:T t=some i) (hd:i.d = .slice e) (M:T e=some f) (E:0<f.size) (hp:b.toList.map (·.1)=range' 0 len) (B:len*f.size<=16777216) (u:∀p∈b.toList,Jy f.size (ρ p.2)=true) : B2 P o ρ ⟨.sl f.size (b.toList.map λp=>ρ p.2),[],[]⟩:=by
  intro σ ι H F W w a next Q s y _ hk
  have z:b.toList.length=len:=(by have:=congrArg length hp;simpa using this);have A:∀p∈b.toList,(a.eval p.2).cells.size=f.size:=(by intro p k;rw[((y p.2 (by rw[D];exact Xd k)).cells).1];exact (Lz (u p k)).1);obtain⟨C,N,I⟩:=Ag5 (P:=P) (a:=a) (w:=w) D (G t i X) hd (G e f M) E hp B A;obtain⟨L,g,U,g2⟩:=Abb (σ:=σ) (ι:=ι) (H:=H) (sz:=f.size) (b.toList.map λp=>ρ p.2) (b.toList.map λp=>a.eval p.2) ψ (by intro x V;simp only[mem_map]at V;obtain⟨p,k,rfl⟩:=V;exact u p k) (by intro j x v O R;rw[getElem?_map]at O R;cases K:b.toList[j]? with| none=>rw[K]at O;simp at O| some p=>rw[K]at O R;simp at O R;subst O;subst R;exact y p.2 (by rw[D];exact Xd (Dz K)))
  obtain⟨s',le⟩:=s.newFrozen (.cells C e);refine Fc I (hk _ ι _ _ le s' (.cc ?_));have J:len<=140737488355328:=(by have:len*1<=len*f.size:=Nat.mul_le_mul_left len E;omega);have:=CC.sl (σ:=Aj σ w.heap.size (some (.cells C e))) (b.toList.map λp=>ρ p.2) w.heap.size 0 len f.size C e (0,0) g (Ba _ _ _)
    (by intro j x K
        rw[getElem?_map]at K
        cases S:b.toList[j]? with
        | none=>rw[S]at K;simp at K
        | some p=>rw[S]at K;simp at K;subst K;exact (Lz (u p (Dz S))).1) (λj x q c O R=>((U j x q c O R).1).mono le.sto) (λj x q c O R=>(U j x q c O R).2) (by intro j q K hq;rw[Nat.zero_add,<-Ft,N];exact g2 j q K hq) (by rw[length_map];omega) (by rw[length_map];omega)
  rw[length_map,z]at this;exact this
theorem Arf (L:C3 P T) {len:Nat} {c:TI} (h:Nat) (I:o.op = .buildSlice t len b) (ht:T t=some i) (hd:i.d = .slice e) (S:T e=some c) (B:0<c.size) (hp:b.toList.map (·.1)=range' 0 len) (E:len*c.size<=16777216) (k:∀p∈b.toList,Jy c.size (ρ p.2)=true) :
  B2 P o ρ ⟨.arr h len 0 len,[(h,.none)],[(h,.rows e c.size (b.toList.map λp=>ρ p.2))]⟩:=by
 intro σ ι H F W w a next Q s u G hk
 have O:H h = .none:=G (h,.none) ψ
 have y:b.toList.length=len:=by have:=congrArg length hp;simpa using this
 have D:∀p∈b.toList,(a.eval p.2).cells.size=c.size:=by
  intro p f
  rw[((u p.2 (by rw[I];exact Xd f)).cells).1]
  exact (Lz (k p f)).1
 obtain⟨C,M,N⟩:=Ag5 (P:=P) (a:=a) (w:=w) I (L t i ht) hd (L e c S) B hp E D
 obtain⟨J,g,g1,g2⟩:=Abb (σ:=σ) (ι:=ι) (H:=H) (sz:=c.size) (b.toList.map λp=>ρ p.2) (b.toList.map λp=>a.eval p.2) ψ
  (by intro x hx;simp only[mem_map]at hx;obtain⟨p,f,rfl⟩:=hx;exact k p f)
  (by
   intro j x v X h2
   rw[getElem?_map]at X h2
   cases K:b.toList[j]? with
   | none=>rw[K]at X;simp at X
   | some p=>
    rw[K]at X h2;simp at X h2;subst X;subst h2
    exact u p.2 (by rw[I];exact Xd (Dz K)))
 have R:len<=140737488355328:=by
  have:len*1<=len*c.size:=Nat.mul_le_mul_left len B
  omega
 obtain⟨s',le⟩:=s.newRows h e c.size (b.toList.map λp=>ρ p.2) len C (.inl O) B (by rw[length_map];omega) (by rw[length_map];omega)
  (by rw[<-Array.length_toList,M,J,length_map,y]) ⟨g,(by
    intro j x K
    rw[getElem?_map]at K
    cases V:b.toList[j]? with
    | none=>rw[V]at K;simp at K
    | some p=>rw[V]at K;simp at K;subst K;exact (Lz (k p (Dz V))).1),g1,(by
    intro j q K hq;rw[<-Ft,M];exact g2 j q K hq)⟩
 refine Fc N (hk _ _ _ _ le s' ?_)
 refine .arr h len 0 len _ (by show Aj H h _ h≠_;rw[Ba];intro e;cases e) (λU A z e'=>?_) rfl
 have e':Aj H h _ h = .rows U A z:=e'
 rw[Ba]at e';cases e'
 refine⟨by rw[length_map];omega,λ_=>?_⟩
 rw[Ba]
 exact⟨ω,by rw[Nat.zero_mul];rfl⟩
def Fd (i:TI):AV := match i.d,i.zero with
 | .struct _,z=>.agg (z.map .val)
 | _,[v]=>.val v
 | _,z=>.agg (z.map .val)
theorem Ag7 (hT:C3 P T) {b:TI} {k':IntKind} (L:AV) (h:Nat) (Z:o.op = .makeSlice t x y) (ht:T t=some i) (hd:i.d = .slice e) (he:T e=some b) (hz:0<b.size) (hx:ρ x = .val (.int k (l:Int))) (hy:ρ y = .val (.int k' (c:Int))) (a7:l<=c) (hb:b.bytes*c<=281474976710656) (hc:c<=140737488355328) (aa:L.cells.length=b.size) (a8:b.zero.length=b.size) (V:∀(q:Nat) (c:AV) (v:Value),L.cells[q]? = some c->b.zero[q]? = some v->(∀σ,CC σ c v)/\Dy v=true) :
  B2 P o ρ ⟨.arr h l 0 l,[(h,.none)],[(h,.rows e b.size (replicate l L))]⟩:=by
 intro σ ι H F W w a next Q s I X hk
 have hn:H h = .none:=X (h,.none) ψ
 have h1:=Dj hx (I x (by simp[Z,Op.operands]))
 have h2:=Dj hy (I y (by simp[Z,Op.operands]))
 obtain⟨ab,u,z,k1,k2,k3,k4,k5,k6,k7⟩:=D6 (hT t i ht)
 rw[hd]at k7;subst k7
 obtain⟨D,u',f,U,ad,S,R,O,G,ac⟩:=D6 (hT e b he)
 have B:=run_make (P:=P) w t e D f k2 U S k k' (l:Int) (c:Int) ω ω (by
   have h':((b.bytes*c:Nat):Int)<=281474976710656:=ω
   rw[Int.natCast_mul]at h';rw[O];exact h') ω
 rw[Int.toNat_natCast,Int.toNat_natCast,R]at B
 have A:f.cells.size=b.size:=by
  rw[<-a8,G,Array.length_toList]
 have E:∀q,q<c*b.size->(madeCells f.cells (c*b.size))[q]? = f.cells[q % b.size]?:=by
  intro q K
  unfold madeCells
  have hm:q % b.size<f.cells.size:=by rw[A];exact Nat.mod_lt _ hz
  have a1:f.cells[q % b.size]! = f.cells[q % b.size]:=by simp[hm]
  simp[K,A,a1]
 obtain⟨s',le⟩:=s.newRows h e b.size (replicate l L) c (madeCells f.cells (c*b.size)) (.inl hn) hz ζ (by simpa using a7) (by simp[madeCells])
  ⟨λ_ j=>(f.cells[j]?).getD undef,(by
   intro j x' hj
   have:=Dz hj
   simp at this
   rw[this.2];exact aa),(by
   intro j x' q c' hj K
   have:=Dz hj
   simp at this
   rw[this.2]at K
   have Y:q<f.cells.size:=by
    have:=(Eo.1 K).1
    omega
   have hv:f.cells[q]? = some f.cells[q]:=Array.getElem?_eq_getElem Y
   have:=V q c' f.cells[q] K (by rw[G,Ft,hv])
   show CC σ c' ((f.cells[q]?).getD undef)/\Dy ((f.cells[q]?).getD undef)=true
   rw[hv]
   exact⟨this.1 σ,this.2⟩),(by
   intro j q hj K
   have a0:j<l:=by simpa using hj
   have a6:j*b.size+q<c*b.size:=by
    have:(j+1)*b.size<=c*b.size:=Nat.mul_le_mul_right _ ω
    rw[Ed]at this;omega
   rw[E _ a6]
   have:(j*b.size+q) % b.size=q:=by rw[Nat.mul_comm,Nat.mul_add_mod,Nat.mod_eq_of_lt K]
   rw[this]
   have J:q<f.cells.size:=ω
   simp[J])⟩
 refine Fc (v:=.slice (some ⟨w.heap.size,0,none⟩) l c) ?_ (hk _ _ _ _ le s' ?_)
 .simp[execOp,Z,h1,h2,B]
 .refine .arr h l 0 l _ (by show Aj H h _ h≠_;rw[Ba];intro e;cases e) (λE' N M e'=>?_) rfl
  have e':Aj H h _ h = .rows E' N M:=e'
  rw[Ba]at e';cases e'
  refine⟨ψ,λ_=>?_⟩
  rw[Ba]
  exact⟨ω,by rw[Nat.zero_mul];rfl⟩
theorem Arg (X:C3 P T) {j:TI} {U:IntKind} {m:Nat} {v:Value} (h:Nat) (O:o.op = .makeSlice t x y) (ht:T t=some i) (hd:i.d = .slice e) (he:T e=some j) (hz:j.size=1) (hv:j.zero = [v]) (hx:ρ x = .val (.int k (m:Int))) (hy:ρ y = .val (.int U (m:Int))) (hb:j.bytes*m<=281474976710656) (hm:m<=16) : B2 P o ρ ⟨.vec h m,[(h,.none)],[(h,.cells e (replicate m (.val v)))]⟩:=by
 intro σ ι H F W w a next Q s A M hk
 have hn:H h = .none:=M (h,.none) ψ;have h1:=Dj hx (A x (by simp[O,Op.operands]));have h2:=Dj hy (A y (by simp[O,Op.operands]));obtain⟨V,u,z,k1,k2,k3,k4,k5,k6,S⟩:=D6 (X t i ht);rw[hd]at S;subst S;obtain⟨f,u',R,I,Z,G,E,D,B,Y⟩:=D6 (X e j he);have b:=run_make (P:=P) w t e f R k2 I G k U (m:Int) (m:Int) ω ω (by have h':((j.bytes*m:Nat):Int)<=281474976710656:=ω;rw[Int.natCast_mul]at h';rw[D];exact h') ω;rw[Int.toNat_natCast,E,hz,Nat.mul_one]at b;have J:R.cells = #[v]:=by apply Array.ext';rw[<-B,hv]
 rw[J]at b;obtain⟨s',le⟩:=s.newBox h hn e (replicate m (.val v)) (madeCells #[v] m) (by simp[madeCells]) (by intro q c u hq K;have hc:=Dz hq;simp at hc;have N:q<m:=(by have:=(Eo.1 hq).1;simpa using this);have L:u=v:=(by unfold madeCells at K;simp[N]at K;rw[<-K,Nat.mod_one];rfl);rw[hc.2,L];exact .of_val v);refine Fc (v:=.slice (some ⟨w.heap.size,0,none⟩) m m) ?_ (hk _ _ _ _ le s' ?_)
 .simp[execOp,O,h1,h2,b]
 .exact .vec h m _ (by rw[Ba];rfl)
theorem Arh (I:C3 P T) {b:TI} {A:IntKind} (h:Nat) (E:o.op = .makeSlice t x y) (M:T t=some i) (N:i.d = .slice e) (G:T e=some b) (B:0<b.size) (O:ρ x = .val (.int k (l:Int))) (R:ρ y = .val (.int A (c:Int))) (j:l<=c) (hb:b.bytes*c<=281474976710656) (S:c<=140737488355328) (s:Jy b.size (Fd b)=true) (f:(Fd b).cells=b.zero.map .val) : B2 P o ρ ⟨.arr h l 0 l,[(h,.none)],[(h,.rows e b.size (replicate l (Fd b)))]⟩:=by obtain⟨z,J⟩:=Lz s;refine Ag7 I (Fd b) h E M N G B O R j hb S z (by rw[<-z,f,length_map]) ?_;intro q L v K D;have u:=J L (Dz K);rw[f,getElem?_map,D]at K;simp at K;subst K;exact⟨λσ=>.val v,u⟩
inductive Gi:List AV->List AV->Prop
 | nil:Gi [] []
 | same (c:AV) {l l':List AV} (h:Gi l l'):Gi (c::l) (c::l')
 | sl (s:Nat) {l l':List AV} (h:Gi l l'):Gi (.val (.slice none 0 0)::l) (.sl s []::l')
theorem Gi.spec {l i:List AV} (h:Gi l i):i.length=l.length/\∀(q:Nat) (c f:AV),l[q]? = some c->i[q]? = some f->f=c\/∃s,c = .val (.slice none 0 0)/\f = .sl s []:=by
 induction h with
 | nil=>exact⟨rfl,λq c f h=>by simp at h⟩
 | same c h ih=>refine⟨by simp[ih.1],λq a b h1 h2=>?_⟩;cases q with| zero=>cases h1;cases h2;exact .inl rfl| succ q=>exact ih.2 q a b h1 h2
 | sl s h ih=>refine⟨by simp[ih.1],λq a b h1 h2=>?_⟩;cases q with| zero=>cases h1;cases h2;exact .inr ⟨s,rfl,rfl⟩| succ q=>exact ih.2 q a b h1 h2
theorem Ari (N:C3 P T) {b:TI} {E:IntKind} (u:AV) (h:Nat) (J:o.op = .makeSlice t x y) (K:T t=some i) (U:i.d = .slice e) (M:T e=some b) (G:0<b.size) (V:ρ x = .val (.int k (l:Int))) (X:ρ y = .val (.int E (c:Int))) (z:l<=c) (hb:b.bytes*c<=281474976710656) (hc:c<=140737488355328) (A:Jy b.size (Fd b)=true) (f:(Fd b).cells=b.zero.map .val) (L:Gi (Fd b).cells u.cells) : B2 P o ρ ⟨.arr h l 0 l,[(h,.none)],[(h,.rows e b.size (replicate l u))]⟩:=by
 obtain⟨R,O⟩:=Lz A;obtain⟨n1,D⟩:=L.spec;refine Ag7 N u h J K U M G V X z hb hc ω (by rw[<-R,f,length_map]) ?_;intro q S v hq I;have j:(Fd b).cells[q]? = some (.val v):=by rw[f,getElem?_map,I];rfl
 have B:=O _ (Dz j);rcases D q _ S j hq with rfl|⟨s,h1,rfl⟩
 .exact⟨λσ=>.val v,B⟩
 .cases h1;exact⟨λσ=>.nil s _ _,rfl⟩
end
section
variable {P:Program} {o:Oper} {ρ:Operand->AV} {a:Act} {w w':World} {next:Act->World->Prop} {Q:Exit->Act->World->Prop}
variable {F σ:Aw} {ι:Bq} {H:Hp} {xs ys:List AV} {sz:Nat} {e t ty y:TypeId} {i:TypeInfo} {v:Value} {W:World}
structure Jz (P:Program) (w:World) (src:Value) (sz n:Nat) (Ca:List Value):Prop where
 len:∀d,(Builtin.lenOf src).run P {w with drawn:=d} = .ok n {w with drawn:=d}
 cells:∀d,(Builtin.firstCells sz n src).run P {w with drawn:=d} = .ok Ca.toArray {w with drawn:=d}
 size:Ca.length=n*sz
theorem J0 {i:TI} (h:Hw P t=some i) (A:i.d = .slice e):∃u,P.underlying t=some u/\u = .slice e:=by obtain⟨c,u,z,x,f,s,q,k,j,b⟩:=D6 h;rw[A]at b;exact⟨u,f,b⟩
theorem Ag8 {q:TypeDesc} (J:P.underlying t=some (.slice e)) (u:P.underlying y=some q) (s:(∃e',q = .slice e')\/q = .string) (hi:P.info? e=some i) (b:Addr) (c f n:Nat) (j:Value) (Ca:List Value) (z:Jz P w j i.size n Ca) (k:c+n<=f) (x:(storeCells (b.add (c*i.size)) Ca).run P w = .ok () w') : (Builtin.append_ #[t,y] ty #[.slice (some b) c f,j]).run P w = .ok (.slice (some b) (c+n) f) w':=by have D:=z.len w.drawn;have I:=z.cells w.drawn;have A:({w with drawn:=w.drawn}:World)=w:=rfl;rw[A]at D I;rcases s with⟨e',rfl⟩|rfl <;> simp[Builtin.append_,run_underlying J,run_underlying u,sizeOf,typeInfo,hi,D,k,I,x]
theorem Arj {k:TypeId} {c:TypeDesc} (D:P.underlying t=some (.slice e)) (j:P.underlying k=some c) (f:(∃e',c = .slice e')\/c = .string) (hi:P.info? e=some i) (b:Value) (q:Jz P w b i.size 0 []) : (Builtin.append_ #[t,k] ty #[.slice none 0 0,b]).run P w = .ok (.slice none 0 0) w:=by have z:=q.len w.drawn;have A:=q.cells w.drawn;have s:({w with drawn:=w.drawn}:World)=w:=rfl;rw[s]at z A;rcases f with⟨e',rfl⟩|rfl <;> simp[Builtin.append_,run_underlying D,run_underlying j,sizeOf,typeInfo,hi,z,A]
theorem Abc {s:TypeDesc} {z:Value} (O:P.underlying t=some (.slice e)) (x:P.underlying y=some s) (u:(∃e',s = .slice e')\/s = .string) (hi:P.info? e=some i) (B:i.zero=some z) (p:Option Addr) (b c n:Nat) (j:Value) (f Ca:List Value) (A:Jz P w j i.size n Ca) (D:Jz P w (.slice p b c) i.size b f) (G:c<b+n) (I:b+n<=9223372036854775807) (hb:(b+n)*i.bytes<=140737488355328) : (Builtin.append_ #[t,y] ty #[.slice p b c,j]).run P w =
   .ok (.slice (some ⟨w.heap.size,0,none⟩) (b+n) (grownCap w (b+n) c e)) (w.drew.alloc (.cells ((f++Ca).toArray++Builtin.zeroCells z.cells (grownCap w (b+n) c e-(b+n))) e)):=by
 have K:=A.len w.drawn;have M:=A.cells (w.drawn+1);have N:=D.cells (w.drawn+1);have L:({w with drawn:=w.drawn}:World)=w:=rfl;have J:({w with drawn:=w.drawn+1}:World)=w.drew:=rfl;rw[L]at K;rw[J]at M N;have E:¬(b+n<=c):=ω;have k:¬(9223372036854775807<((b:Int)+(n:Int))):=ω;have q:¬(281474976710656<Builtin.nextslicecap (b+n) c*i.bytes):=by have:=growslice_fits G hb;omega
 rcases u with⟨e',rfl⟩|rfl <;> simp[Builtin.append_,run_underlying O,run_underlying x,sizeOf,typeInfo,zeroValue,hi,B,K,E,k,q,Question.forced,M,N,newRow,grownCap] <;>
 (congr 2;apply Array.ext';simp[append_assoc])
theorem Xe (w:World) (b c:Nat) (e:TypeId):b<=grownCap w b c e:=by unfold grownCap;show b<=b+_;omega
theorem Xf (s:St σ ι H F W w) (z:0<sz) (N:CC σ (.sl sz ys) v) : ∃(Ca:List Value) (g:Nat->Nat->Value),Jz P w v sz ys.length Ca/\(∀(i:Nat) (x:AV),ys[i]? = some x->x.cells.length=sz) /\ (∀(i:Nat) (x:AV) (j:Nat) (c:AV),ys[i]? = some x->x.cells[j]? = some c->CC σ c (g i j)/\Dy (g i j)=true)/\(∀(i j:Nat),i<ys.length->j<sz->Ca[i*sz+j]? = some (g i j)):=by
 rcases N.sl_inv with⟨rfl,p,K,rfl⟩|⟨b,off,K,C,E,O,g,rfl,B,D,y,G,L,A⟩
 .refine⟨[],λ_ _=>undef,⟨λd=>by simp[Builtin.lenOf],λd=>?_,ψ⟩,ψ,ψ,ψ⟩;cases p with| none=>simp[Builtin.firstCells]| some a=>simp[Builtin.firstCells,loadCells,loadCellsFrom]
 .refine⟨(range (ys.length*sz)).map λq=>g (q / sz) (q % sz),g,⟨λd=>by simp[Builtin.lenOf],λd=>?_,ψ⟩,D,y,λi j hi M=>?_⟩
  .have R:({w with drawn:=d}:World).heap[b]? = some (.cells C E O):=s.sto _ _ B;have:=run_loadCells (P:=P) {w with drawn:=d} ⟨b,off,none⟩ (ys.length*sz) (λq=>g (q / sz) (q % sz)) (by intro q S;rw[Jn,I1 R];have k:q / sz<ys.length:=Nat.div_lt_of_lt_mul (by rwa [Nat.mul_comm]at S);have f:q % sz<sz:=Nat.mod_lt _ z;have:=G (q / sz) (q % sz) k f;rw[<-this];congr 1;have:=Nat.div_add_mod q sz;rw[Nat.mul_comm]at this;omega);simp only[Builtin.firstCells];exact this
  .have u:i*sz+j<ys.length*sz:=(by have:(i+1)*sz<=ys.length*sz:=Nat.mul_le_mul_right _ ω;rw[Ed]at this;omega);rw[getElem?_map,getElem?_range u];have J:(i*sz+j) / sz=i:=(by rw[Nat.mul_comm,Nat.mul_add_div z,Nat.div_eq_of_lt M];omega);have I:(i*sz+j) % sz=j:=(by rw[Nat.mul_comm,Nat.mul_add_mod,Nat.mod_eq_of_lt M]);simp[J,I]
theorem G8.append {C u:Array Value} (hx:G8 σ sz xs C) (f:Nat->Nat->Value) (h1:∀(i:Nat) (x:AV),ys[i]? = some x->x.cells.length=sz) (h2:∀(i:Nat) (x:AV) (j:Nat) (c:AV),ys[i]? = some x->x.cells[j]? = some c->CC σ c (f i j)/\Dy (f i j)=true) (s:∀k:Nat,k<xs.length*sz->u[k]? = C[k]?) (q:∀(i j:Nat),i<ys.length->j<sz->u[(xs.length+i)*sz+j]? = some (f i j)):G8 σ sz (xs++ys) u:=by
 obtain⟨g,A,z,y⟩:=hx;refine⟨λi j=>if i<xs.length then g i j else f (i-xs.length) j,?_,?_,?_⟩
 .intro i x hi;by_cases b:i<xs.length
  .rw[getElem?_append_left b]at hi;exact A i x hi
  .rw[getElem?_append_right ω]at hi;exact h1 _ x hi
 .intro i x j c hi D;by_cases b:i<xs.length
  .rw[getElem?_append_left b]at hi;simp only[if_pos b];exact z i x j c hi D
  .rw[getElem?_append_right ω]at hi;simp only[if_neg b];exact h2 _ x j c hi D
 .intro i j hi D;by_cases b:i<xs.length
  .simp only[if_pos b];rw[s _ (by have:(i+1)*sz<=xs.length*sz:=Nat.mul_le_mul_right _ ω;rw[Ed]at this;omega)];exact y i j b D
  .simp only[if_neg b];have:=q (i-xs.length) j (by simp at hi;omega) D;rwa [show xs.length+(i-xs.length)=i by omega]at this
theorem Xg (s:St σ ι H F W w) {t':TypeId} {i:TI} {u':TypeDesc} (ht:P.underlying t=some (.slice e)) (N:P.underlying t'=some u') (M:(∃e',u' = .slice e')\/u' = .string) (he:Hw P e=some i) (hz:0<i.size) (ab:i.zero.length=i.size) {h:Nat} (X:H h = .rows e i.size xs) {y:Value} (Y:Gg (ι h) i.size 0 xs.length v) (ag:1<=i.bytes) (hb:(xs.length+ys.length)*i.bytes<=140737488355328) {Ca:List Value} {g:Nat->Nat->Value} (D:Jz P w y i.size ys.length Ca) (h1:∀(f:Nat) (x:AV),ys[f]? = some x->x.cells.length=i.size) (h2:∀(f:Nat) (x:AV) (j:Nat) (c:AV),ys[f]? = some x->x.cells[j]? = some c->CC σ c (g f j)/\Dy (g f j)=true) (h3:∀(f j:Nat),f<ys.length->j<i.size->Ca[f*i.size+j]? = some (g f j)) (a1:∀u∈Ca,Dy u=true) : ∃(ι':Bq) (v':Value) (w':World),(Builtin.append_ #[t,t'] ty #[v,y]).run P w = .ok v' w'/\Le σ ι H σ ι' (Aj H h (.rows e i.size (xs++ys)))/\St σ ι' (Aj H h (.rows e i.size (xs++ys))) F W w' /\ Gg (ι' h) i.size 0 (xs.length+ys.length) v':=by
 obtain⟨O,u,z,k1,k2,k3,R,k5,k6,k7⟩:=D6 he;have q:xs.length+ys.length<=140737488355328:=by have:(xs.length+ys.length)*1<=(xs.length+ys.length)*i.bytes:=Nat.mul_le_mul_left _ ag;omega
 have ac:z.cells.size=i.size:=by rw[<-ab,k6];simp
 have B:∀n,(Builtin.zeroCells z.cells n).size=n*i.size:=by intro n;simp[Builtin.zeroCells,ac]
 have G:=s.obj h;unfold Bw at G;rw[X]at G;obtain⟨_,_,G⟩:=G;unfold Gg at Y;split at Y
 .rename_i a7;obtain⟨rfl,_,ae⟩:=Y;have ad:xs = []:=eq_nil_of_length_eq_zero ae;subst ad;by_cases hy:ys = []
  .subst hy;have V:Ca = []:=eq_nil_of_length_eq_zero (by rw[D.size];simp);subst V;refine⟨ι,.slice none 0 0,w,Arj ht N M k1 y (by rw[R];exact D),?_,?_,?_⟩
   .rw[append_nil,<-X,Hk];exact Le.refl _ _ _
   .rw[append_nil,<-X,Hk];exact s
   .rw[a7];exact⟨rfl,rfl,rfl⟩
  .have K:0<ys.length:=length_pos_iff.2 hy;have ho:Jz P w (.slice none 0 0) O.size 0 []:=⟨λd=>by simp[Builtin.lenOf],λd=>by simp[Builtin.firstCells],ψ⟩;have U:=Abc (P:=P) (ty:=ty) (w:=w) ht N M k1 k3 none 0 0 ys.length y [] Ca (by rw[R];exact D) ho ω (by simp at q;omega) (by rw[k5];simpa using hb);rw[Nat.zero_add,nil_append]at U;have a0:=Xe w ys.length 0 e;obtain⟨s',le⟩:=(s.drew (w.drawn+1)).newRows h e i.size ([]++ys) (grownCap w ys.length 0 e) (Ca.toArray++Builtin.zeroCells z.cells (grownCap w ys.length 0 e-ys.length)) (.inr ⟨e,i.size,[],X,by simpa using K⟩) hz (by simpa using q) (by simpa using a0) (by rw[Array.size_append,B];simp[D.size,<-Ed];rw[Nat.add_sub_cancel' a0]) ⟨g,(by simpa using h1),(by simpa using h2),(by intro f j hi hj;simp only[nil_append]at hi;have I:f*i.size+j<Ca.length:=(by have:(f+1)*i.size<=ys.length*i.size:=Nat.mul_le_mul_right _ ω;rw[Ed]at this;rw[D.size];omega);rw[Array.getElem?_append_left (by simpa using I),getElem?_toArray];exact h3 f j hi hj)⟩;refine⟨_,_,_,U,le,s',?_⟩;rw[Ba];simp only[length_nil,Nat.zero_add];exact⟨ω,by rw[Nat.zero_mul];rfl⟩
 .rename_i b A8 A;obtain⟨af,rfl⟩:=Y;rcases G with⟨e1,_⟩|⟨b',ah,C,e1,p1,p2,p3,p4,p5,p6⟩
  .rw[A]at e1;cases e1
  rw[A]at e1;cases e1;by_cases L:xs.length+ys.length<=A8
  .have S:xs.length*i.size+Ca.length<=C.size:=(by rw[D.size,<-Ed,p4];exact Nat.mul_le_mul_right _ L);have Z:=run_storeCells_at (P:=P) b (xs.length*i.size) e Ca 0 C w p3 (by simpa using S) (λu hu=>by rw[Aaz];exact a1 u hu);simp only[Nat.add_zero]at Z;have U:=Ag8 (P:=P) (ty:=ty) (w:=w) ht N M k1 ⟨b,0,none⟩ xs.length A8 ys.length y Ca (by rw[R];exact D) L (by rw[Jn,Nat.zero_add,R];exact Z);have E:G8 σ i.size (xs++ys) (C.toList.take (xs.length*i.size)++Ca++C.toList.drop (xs.length*i.size+Ca.length)).toArray:=by
    refine G8.append p6 g h1 h2 ?_ ?_
    .intro k hk;rw[Q9 _ _ _ S,if_pos hk]
    .intro f j hi hj;have I:f*i.size+j<Ca.length:=(by have:(f+1)*i.size<=ys.length*i.size:=Nat.mul_le_mul_right _ ω;rw[Ed]at this;rw[D.size];omega);have e2:(xs.length+f)*i.size+j=xs.length*i.size+(f*i.size+j):=(by rw[Ed];omega);rw[Q9 _ _ _ S,e2,if_neg ω,if_pos ω,Nat.add_sub_cancel_left];exact h3 f j hi hj
   have aa:(C.toList.take (xs.length*i.size)++Ca++C.toList.drop (xs.length*i.size+Ca.length)).toArray.size=A8*i.size:=ζ;by_cases hy:ys = []
   .subst hy;obtain⟨s',le⟩:=s.setRows h e i.size xs (xs++[]) X b A8 A ψ _ aa E;refine⟨ι,_,_,by simpa using U,le,s',?_⟩;rw[A];exact⟨by simpa using af,ψ⟩
   .have K:0<ys.length:=length_pos_iff.2 hy;obtain⟨s',le⟩:=s.growIn h e i.size xs (xs++ys) X b A8 A ζ (by simpa using q) (by simpa using L) _ aa E;refine⟨ι,_,_,by simpa using U,le,s',?_⟩;rw[A];exact⟨ω,ψ⟩
  .have a6:Jz P w (.slice (some ⟨b,0*i.size,none⟩) xs.length (A8-0)) O.size xs.length (C.toList.take (xs.length*i.size)):=by
    refine⟨λd=>by simp[Builtin.lenOf],λd=>?_,?_⟩
    .have a2:({w with drawn:=d}:World).heap[b]? = some (.cells C e (0,0)):=p3;have J:(C.toList.take (xs.length*i.size)).length=xs.length*i.size:=(by have:C.toList.length=A8*i.size:=(by rw[Array.length_toList,p4]);rw[length_take,this];exact Nat.min_eq_left (Nat.mul_le_mul_right _ p5));have:=run_loadCells_list (P:=P) {w with drawn:=d} ⟨b,0,none⟩ (C.toList.take (xs.length*i.size)) (by intro j u hj;have I:j<xs.length*i.size:=(by have:=(Eo.1 hj).1;omega);rw[Gz I,Ft]at hj;rw[Jn,Nat.zero_add,I1 a2];exact hj);rw[J]at this;simp only[Builtin.firstCells,Nat.zero_mul,R];exact this
    .have:C.toList.length=A8*i.size:=(by rw[Array.length_toList,p4]);rw[R,length_take,this];exact Nat.min_eq_left (Nat.mul_le_mul_right _ p5)
   have U:=Abc (P:=P) (ty:=ty) (w:=w) ht N M k1 k3 (some ⟨b,0*i.size,none⟩) xs.length (A8-0) ys.length y _ Ca (by rw[R];exact D) a6 ω ω (by rw[k5];exact hb);have a0:=Xe w (xs.length+ys.length) (A8-0) e;have J:(C.toList.take (xs.length*i.size)).length=xs.length*i.size:=(by have:C.toList.length=A8*i.size:=(by rw[Array.length_toList,p4]);rw[length_take,this];exact Nat.min_eq_left (Nat.mul_le_mul_right _ p5));have K:0<ys.length:=ω;have a8:(C.toList.take (xs.length*i.size)++Ca).length=(xs.length+ys.length)*i.size:=(by rw[length_append,J,D.size,Ed]);obtain⟨s',le⟩:=(s.drew (w.drawn+1)).newRows h e i.size (xs++ys) (grownCap w (xs.length+ys.length) (A8-0) e) ((C.toList.take (xs.length*i.size)++Ca).toArray++Builtin.zeroCells z.cells (grownCap w (xs.length+ys.length) (A8-0) e-(xs.length+ys.length))) (.inr ⟨e,i.size,xs,X,ζ⟩) hz (by simpa using q) (by simpa using a0) (by rw[Array.size_append,B,size_toArray,a8,<-Ed,Nat.add_sub_cancel' a0]) (by
     refine G8.append p6 g h1 h2 ?_ ?_
     .intro k hk;rw[Array.getElem?_append_left (by rw[size_toArray,a8,Ed];omega),getElem?_toArray,getElem?_append_left ω,Gz hk,Ft]
     .intro f j hi hj;have I:f*i.size+j<Ca.length:=(by have:(f+1)*i.size<=ys.length*i.size:=Nat.mul_le_mul_right _ ω;rw[Ed]at this;rw[D.size];omega);have e2:(xs.length+f)*i.size+j=xs.length*i.size+(f*i.size+j):=(by rw[Ed];omega);rw[Array.getElem?_append_left (by rw[size_toArray,length_append,J];omega),getElem?_toArray,e2,getElem?_append_right ω,J,Nat.add_sub_cancel_left];exact h3 f j hi hj);refine⟨_,_,_,U,le,s',?_⟩;rw[Ba];exact⟨ω,by rw[Nat.zero_mul];rfl⟩
 .exact Y.elim
end
section
variable {P:Program} {o:Oper} {ρ:Operand->AV} {a:Act} {w w':World} {next:Act->World->Prop} {Q:Exit->Act->World->Prop}
variable {σ:Aw} {T:Cw} {m n:Int} {k:IntKind} {xs ys:List AV} {h sz:Nat} {x y:Operand} {G c i:TI} {B e e' f t:TypeId}
theorem Xh {n:Nat} {Ca:List Value} {g:Nat->Nat->Value} (s:0<sz) (z:Ca.length=n*sz) (y:ys.length=n) (I:∀(b:Nat) (x:AV),ys[b]? = some x->x.cells.length=sz) (J:∀(b:Nat) (x:AV) (j:Nat) (c:AV),ys[b]? = some x->x.cells[j]? = some c->CC σ c (g b j)/\Dy (g b j)=true) (K:∀(b j:Nat),b<ys.length->j<sz->Ca[b*sz+j]? = some (g b j)) : ∀u∈Ca,Dy u=true:=by
 intro u L;obtain⟨q,A⟩:=getElem?_of_mem L;have k:=(Eo.1 A).1;have i:q / sz<ys.length:=by rw[y];exact Nat.div_lt_of_lt_mul (by rw[z,Nat.mul_comm]at k;exact k)
 have f:q % sz<sz:=Nat.mod_lt _ s;have e:=K (q / sz) (q % sz) i f;rw[show q / sz*sz+q % sz=q by have:=Nat.div_add_mod q sz;rw[Nat.mul_comm]at this;omega,A]at e;cases e;have D:=getElem?_eq_getElem i;have M:(q % sz)<(ys[q / sz]).cells.length:=by rw[I _ _ D];exact f
 exact (J _ _ _ _ D (getElem?_eq_getElem M)).2
theorem Ra {ty:TypeId} (j:o.op = .call {callee:=.builtin .append,args:=#[x,y],argTypes:=#[t,f]}) (b:o.type=ty) {c:Value} (i:(Builtin.append_ #[t,f] ty #[a.eval x,a.eval y]).run P w = .ok c w') : (execOp a.eval o).run P w = .ok (.value c) w':=by subst b;simp[execOp,j,resolve,invoke,builtin,i]
theorem Ag9 (V:C3 P T) {D:TypeId} {k:Nat} (R:o.op = .call {callee:=.builtin .append,args:=#[x,y],argTypes:=#[t,D]}) (ht:T t=some i) (hd:i.d = .slice e) (N:T D=some G) (S:G.d = .slice e') (he:T e=some c) (J:0<c.size) (I:c.zero.length=c.size) (U:1<=c.bytes) (hx:ρ x = .arr h k 0 k) (f:xs.length=k) (hy:ρ y = .sl c.size ys) (hb:(xs.length+ys.length)*c.bytes<=140737488355328) : B2 P o ρ ⟨.arr h (k+ys.length) 0 (k+ys.length),[(h,.rows e c.size xs)],[(h,.rows e c.size (xs++ys))]⟩:=by
 intro σ ι H F W w a next Q s u O hk
 have Z:H h = .rows e c.size xs:=O (h,.rows e c.size xs) ψ;have q:=u x (by simp[R,Op.operands,Call.operands]);have j:=u y (by simp[R,Op.operands,Call.operands]);rw[hx]at q;rw[hy]at j;have X:=q.arr_inv Z f;rw[<-f]at X;obtain⟨u1,M,e1⟩:=J0 (V t i ht) hd;obtain⟨u2,L,e2⟩:=J0 (V D G N) S;subst e1;subst e2;obtain⟨Ca,g,Y,K,h2,h3⟩:=Xf (P:=P) s J j.sl_inv;obtain⟨ι',B,w',hr,le,s',b⟩:=Xg (P:=P) (ty:=o.type) s M L (.inl ⟨_,rfl⟩) (V e c he) J I Z X U hb Y K h2 h3 (Xh J Y.size rfl K h2 h3);refine Fc (Ra R rfl hr) (hk σ ι' B w' le s' ?_);have z:Dy B=true:=by
  unfold Gg at b;split at b
  .rw[b.1];rfl
  .rw[b.2];rfl
  .exact b.elim
 refine .arr _ _ _ _ B (by show Aj H h _ h≠_;rw[Ba];intro e;cases e) (λE' E A e'=>?_) z;have e':Aj H h _ h = .rows E' E A:=e';rw[Ba]at e';cases e';refine⟨by rw[length_append];omega,λ_=>?_⟩;rw[f]at b;exact b
def Iu (s:ByteArray):List AV:=s.data.toList.map λb=>.val (.int .u8 b.toNat)
theorem Ark (s:ByteArray):(Iu s).length=s.size:=by unfold Iu;rw[length_map,Array.length_toList];rfl
theorem Arl (s:ByteArray):∃(Ca:List Value) (g:Nat->Nat->Value),Jz P w (.string s) 1 (Iu s).length Ca/\(∀(i:Nat) (x:AV),(Iu s)[i]? = some x->x.cells.length=1) /\ (∀(σ:Aw) (i:Nat) (x:AV) (j:Nat) (c:AV),(Iu s)[i]? = some x->x.cells[j]? = some c->CC σ c (g i j)/\Dy (g i j)=true)/\∀(i j:Nat),i<(Iu s).length->j<1->Ca[i*1+j]? = some (g i j):=by
 have f:=Ark s;refine⟨Lib.strCells s,λi _=>.int .u8 ((s.data.toList.getD i 0).toNat),⟨λd=>?_,λd=>?_,?_⟩,?_,?_,?_⟩
 .rw[f];simp[Builtin.lenOf]
 .rw[f];exact Lib.run_firstCells_string _ 1 s
 .rw[f,Lib.strCells_length];omega
 .intro i x z;simp only[Iu,getElem?_map,Option.map_eq_some_iff]at z;obtain⟨b,_,rfl⟩:=z;rfl
 .intro σ i x j c z A;simp only[Iu,getElem?_map,Option.map_eq_some_iff]at z;obtain⟨b,I,rfl⟩:=z;simp only[AV.cells]at A;cases j with
  | zero=>simp at A;subst A;have e:s.data.toList.getD i 0=b:=(by rw[getD_eq_getElem?_getD,I];rfl);dsimp only;rw[e];exact⟨.val _,rfl⟩
  | succ j=>simp at A
 .intro i j hi D;have D:j=0:=ω;subst D;have hi:i<s.data.toList.length:=(by unfold Iu at hi;rwa [length_map]at hi);have e:s.data.toList.getD i 0=s.data.toList[i]:=(by rw[getD_eq_getElem?_getD,getElem?_eq_getElem hi];rfl);dsimp only;rw[e];unfold Lib.strCells;rw[Nat.mul_one,Nat.add_zero,getElem?_map,getElem?_eq_getElem hi];rfl
theorem Arm (V:C3 P T) {E:TI} {k:Nat} {s:ByteArray} (R:o.op = .call {callee:=.builtin .append,args:=#[x,y],argTypes:=#[t,B]}) (ht:T t=some i) (hd:i.d = .slice e) (M:T B=some E) (S:E.d = .string) (he:T e=some c) (hz:c.size=1) (G:c.zero.length=c.size) (U:1<=c.bytes) (hx:ρ x = .arr h k 0 k) (f:xs.length=k) (hy:ρ y = .val (.string s)) (hb:(xs.length+(Iu s).length)*c.bytes<=140737488355328) : B2 P o ρ ⟨.arr h (k+(Iu s).length) 0 (k+(Iu s).length),[(h,.rows e c.size xs)],[(h,.rows e c.size (xs++Iu s))]⟩:=by
 intro σ ι H F W w a next Q st q O hk
 have Y:H h = .rows e c.size xs:=O (h,.rows e c.size xs) ψ;have j:=q x (by simp[R,Op.operands,Call.operands]);have I:=Dj hy (q y (by simp[R,Op.operands,Call.operands]));rw[hx]at j;have X:=j.arr_inv Y f;rw[<-f]at X;obtain⟨u1,L,e1⟩:=J0 (V t i ht) hd;obtain⟨_,u2,_,_,J,_,_,_,_,Z⟩:=D6 (V B E M);rw[S]at Z;subst e1;subst Z;obtain⟨Ca,g,N,K,h2,h3⟩:=Arl (P:=P) (w:=w) s;rw[<-hz]at N K h3;obtain⟨ι',A,w',hr,le,s',b⟩:=Xg (P:=P) (ty:=o.type) st L J (.inr rfl) (V e c he) ω G Y X U hb N K (h2 σ) h3 (Xh ω N.size rfl K (h2 σ) h3);refine Fc (Ra R rfl (by rw[I];exact hr)) (hk σ ι' A w' le s' ?_);have u:Dy A=true:=by
  unfold Gg at b;split at b
  .rw[b.1];rfl
  .rw[b.2];rfl
  .exact b.elim
 refine .arr _ _ _ _ A (by show Aj H h _ h≠_;rw[Ba];intro e;cases e) (λE' D z e'=>?_) u;have e':Aj H h _ h = .rows E' D z:=e';rw[Ba]at e';cases e';refine⟨by rw[length_append];omega,λ_=>?_⟩;rw[f]at b;exact b
theorem Arn (V:C3 P T) (h:Nat) (R:o.op = .call {callee:=.builtin .append,args:=#[x,y],argTypes:=#[t,B]}) (ht:T t=some i) (hd:i.d = .slice e) (M:T B=some G) (S:G.d = .slice e') (he:T e=some c) (q:0<c.size) (I:c.zero.length=c.size) (U:1<=c.bytes) (hx:ρ x = .val (.slice none 0 0)) (hy:ρ y = .sl c.size ys) (hb:ys.length*c.bytes<=140737488355328) : B2 P o ρ ⟨.arr h ys.length 0 ys.length,[(h,.none)],[(h,.rows e c.size ys)]⟩:=by
 intro σ ι H F W w a next Q s j N hk
 have Z:H h = .none:=N (h,.none) ψ;have O:=Dj hx (j x (by simp[R,Op.operands,Call.operands]));have f:=j y (by simp[R,Op.operands,Call.operands]);rw[hy]at f;obtain⟨u1,L,e1⟩:=J0 (V t i ht) hd;obtain⟨u2,J,e2⟩:=J0 (V B G M) S;subst e1;subst e2;obtain⟨K,E⟩:=s.newNil h Z e c.size q;obtain⟨Ca,g,X,h1,h2,h3⟩:=Xf (P:=P) K q f.sl_inv;obtain⟨ι',A,w',Y,le,s',b⟩:=Xg (P:=P) (ty:=o.type) (v:=.slice none 0 0) (xs:=[]) K L J (.inl ⟨_,rfl⟩) (V e c he) q I (Ba _ _ _) (by rw[Ba];exact⟨rfl,rfl,rfl⟩) U (by simpa using hb) X h1 h2 h3 (Xh q X.size rfl h1 h2 h3);have hH:Aj (Aj H h (.rows e c.size [])) h (.rows e c.size ([]++ys))=Aj H h (.rows e c.size ys):=by
  funext m;by_cases u:m=h
  .subst u;rw[Ba,Ba];rfl
  .rw[Be _ _ u,Be _ _ u,Be _ _ u]
 rw[hH]at le s';simp only[length_nil,Nat.zero_add]at b;refine Fc (Ra R rfl (by rw[O];exact Y)) (hk σ ι' A w' (E.trans le) s' ?_);have k:Dy A=true:=by
  unfold Gg at b;split at b
  .rw[b.1];rfl
  .rw[b.2];rfl
  .exact b.elim
 refine .arr _ _ _ _ A (by show Aj H h _ h≠_;rw[Ba];intro e;cases e) (λE' D z e'=>?_) k;have e':Aj H h _ h = .rows E' D z:=e';rw[Ba]at e';cases e';exact⟨Nat.le_refl _,λ_=>b⟩
theorem St.freeze {ι:Bq} {H:Hp} {F:Aw} {W:World} (s:St σ ι H F W w) {E:TypeId} (J:H h = .rows E sz xs) : ∃σ',Le σ ι H σ' ι (Aj H h .dead)/\St σ' ι (Aj H h .dead) F W w /\ ∀off len v,off+len<=xs.length->Gg (ι h) sz off len v->CC σ' (.sl sz ((xs.drop off).take len)) v:=by
 have k:=s.obj h;unfold Bw at k;rw[J]at k;obtain⟨hz,hm,k⟩:=k;have f:∀σ',σ.le σ'->Le σ ι H σ' ι (Aj H h .dead):=by intro σ' V;have:=Le.upd (ι:=ι) (H:=H) V h (ι h) .dead ⟨λ_ e=>e,(λ_ e=>by cases e),(λ_ E1 M L e=>by cases e)⟩;rwa [Hk]at this
 rcases k with⟨D,Y⟩|⟨b,A8,C,D,U,S,R,p4,p5,g,O,G,N⟩
 .subst Y;refine⟨σ,f σ (Aw.le_refl _),?_,?_⟩
  .obtain⟨f1,f2⟩:=s.fresh;exact s.touch h w.heap.size (λ_ _=>rfl) (λx e=>Be _ _ e) (f σ (Aw.le_refl _)) (λ_ _=>rfl) (λ_ _=>rfl) (λo A=>by rw[f1]at A;cases A) (λx e i hb=>by have:=(s.block i hb).1;omega) f2 (λb i hb=>by rw[Ba]at i;cases i) (by unfold Bw;rw[Ba];trivial) rfl rfl rfl
  .intro off len v u z;rw[D]at z;obtain⟨rfl,rfl,rfl⟩:=z;simp only[drop_nil,take_nil];exact .nil sz none 0
 .have u:σ.le (Aj σ b (some (.cells C E))):=(by intro Z o' K;rw[Be _ _ (by intro e;subst e;rw[U]at K;cases K)];exact K);refine⟨Aj σ b (some (.cells C E)),f _ u,?_,?_⟩
  .refine s.touch h b (λ_ _=>rfl) (λx e=>Be _ _ e) (f _ u) (λ_ _=>rfl) (λx e=>Be _ _ e) (λo A=>by rw[Ba]at A;cases A;exact R)
    (λx e i hb=>e (s.inj x h b i (by rw[J];rfl) hb (by rw[D];rfl))) S (λZ i hb=>by rw[Ba]at i;cases i) (by unfold Bw;rw[Ba];trivial) rfl rfl rfl
  .intro off len v I z;rw[D]at z;obtain⟨_,rfl⟩:=z;have i:((xs.drop off).take len).length=len:=ζ;have q:∀(n:Nat) (y:AV),((xs.drop off).take len)[n]? = some y->n<len/\xs[off+n]? = some y:=(by intro n y hy;have B:n<len:=(by have:=(Eo.1 hy).1;omega);rw[Gz B,getElem?_drop]at hy;exact⟨B,hy⟩);have:=CC.sl (σ:=Aj σ b (some (.cells C E))) ((xs.drop off).take len) b (off*sz) (A8-off) sz C E (0,0) (λn j=>g (off+n) j) (Ba _ _ _)
    (λn y hy=>O _ y (q n y hy).2) (λn y j c hy hj=>((G _ y j c (q n y hy).2 hj).1).mono u) (λn y j c hy hj=>(G _ y j c (q n y hy).2 hj).2) (λn j X hj=>by rw[i]at X;have:=N (off+n) j ω hj;rw[Ed]at this;exact this) (by rw[i];omega) (by rw[i];omega);rw[i]at this;exact this
theorem Aro (D:C3 P T) {b:TI} (h:Nat) (y:o.op = .assign x) (I:ρ x = .val (.slice none 0 0)) (J:T o.type=some i) (_hd:i.d = .slice e) (B:T e=some b) (z:0<b.size) : B2 P o ρ ⟨.arr h 0 0 0,[(h,.none)],[(h,.rows e b.size [])]⟩:=by
 intro σ ι H F W w a next Q s u k K
 have _:=D;have _:=J;have _:=B
 have A:H h = .none:=k (h,.none) ψ;have q:=Dj I (u x (by simp[y,Op.operands]));obtain⟨L,j⟩:=s.newNil h A e b.size z;refine Fc (v:=.slice none 0 0) (by simp[execOp,y,q]) (K σ _ _ w j L ?_);refine .arr _ _ _ _ _ (by show Aj H h _ h≠_;rw[Ba];intro e;cases e) (λE f c e'=>?_) rfl;have e':Aj H h _ h = .rows E f c:=e';rw[Ba]at e';cases e';exact⟨ψ,λ_=>by rw[Ba];exact⟨rfl,rfl,rfl⟩⟩
theorem Arp {i:IntKind} (c:o.op = .call {callee:=.builtin .max,args:=#[x,y],argTypes:=#[t,f]}) (z:ρ x = .val (.int k m)) (A:ρ y = .val (.int i n)) : B2 P o ρ ⟨.val (.int k (if n>m then n else m)),[],[]⟩ := Em λσ ι H a w b=>by have D:=Dj z (b x (by simp[c,Op.operands,Call.operands]));have I:=Dj A (b y (by simp[c,Op.operands,Call.operands]));exact⟨_,by simp[execOp,c,resolve,invoke,builtin,Builtin.max_,Builtin.max2,D,I],.of_val _⟩
theorem Arq {i:IntKind} (c:o.op = .call {callee:=.builtin .min,args:=#[x,y],argTypes:=#[t,f]}) (z:ρ x = .val (.int k m)) (A:ρ y = .val (.int i n)) : B2 P o ρ ⟨.val (.int k (if n<m then n else m)),[],[]⟩ := Em λσ ι H a w b=>by have D:=Dj z (b x (by simp[c,Op.operands,Call.operands]));have I:=Dj A (b y (by simp[c,Op.operands,Call.operands]));exact⟨_,by simp[execOp,c,resolve,invoke,builtin,Builtin.min_,Builtin.min2,D,I],.of_val _⟩
end
section
variable {P:Program} {o:Oper} {ρ:Operand->AV} {a:Act} {w w':World} {next:Act->World->Prop} {Q:Exit->Act->World->Prop}
variable {F σ:Aw} {ι:Bq} {T:Cw} {H:Hp} {xs ys:List AV} {b d f h k off sz:Nat} {g:Nat->Nat->Value} {x y:Operand} {G i u:TI} {α:Type} {E e e' t ty:TypeId} {v:Value} {W:World}
def Gj (xs:List α) (d:Nat) (ys:List α):List α:=xs.take d++ys++xs.drop (d+ys.length)
theorem Aha {xs ys:List α} (D:d<=xs.length) (i:Nat):(Gj xs d ys)[i]? = if i<d then xs[i]? else if i<d+ys.length then ys[i-d]? else xs[i]?:=by
 unfold Gj;have b:(xs.take d).length=d:=by rw[length_take];omega
 rw[append_assoc];by_cases z:i<d
 .rw[if_pos z,getElem?_append_left ω,Gz z]
 .rw[if_neg z,getElem?_append_right ω,b];by_cases A:i<d+ys.length
  .rw[if_pos A,getElem?_append_left ω]
  .rw[if_neg A,getElem?_append_right ω,getElem?_drop];congr 1;omega
theorem Xi {xs ys:List α} (z:d<=xs.length):(Gj xs d ys).length=max xs.length (d+ys.length):=by unfold Gj;simp only[length_append,length_take,length_drop];omega
structure Pg (σ:Aw) (sz:Nat) (ys:List AV) (Ca:List Value) (g:Nat->Nat->Value):Prop where
 len:Ca.length=ys.length*sz
 el:∀(i:Nat) (x:AV),ys[i]? = some x->x.cells.length=sz
 cc:∀(i:Nat) (x:AV) (j:Nat) (c:AV),ys[i]? = some x->x.cells[j]? = some c->CC σ c (g i j)/\Dy (g i j)=true
 at_:∀(i j:Nat),i<ys.length->j<sz->Ca[i*sz+j]? = some (g i j)
theorem G8.patch {C s:Array Value} {Ca:List Value} {A:Nat->Nat->Value} (hx:G8 σ sz xs C) (hd:d<=xs.length) (f:Pg σ sz ys Ca A) (b:∀q:Nat,q<d*sz\/(d+ys.length)*sz<=q->s[q]? = C[q]?) (k:∀q,q<ys.length*sz->s[d*sz+q]? = Ca[q]?):G8 σ sz (Gj xs d ys) s:=by
 obtain⟨g,z,y,u⟩:=hx
 refine⟨λi j=>if i<d then g i j else if i<d+ys.length then A (i-d) j else g i j,?_,?_,?_⟩
 .intro i x hi
  rw[Aha hd]at hi
  split at hi
  .exact z i x hi
  .split at hi
   .exact f.el _ x hi
   .exact z i x hi
 .intro i x j c hi D
  rw[Aha hd]at hi
  dsimp only
  split at hi
  .rename_i h;rw[if_pos h];exact y i x j c hi D
  .rename_i h
   rw[if_neg h]
   split at hi
   .rename_i h2;rw[if_pos h2];exact f.cc _ x j c hi D
   .rename_i h2;rw[if_neg h2];exact y i x j c hi D
 .intro i j hi D
  rw[Xi hd]at hi
  dsimp only
  by_cases h:i<d
  .rw[if_pos h]
   have:(i+1)*sz<=d*sz:=Nat.mul_le_mul_right _ ω
   rw[Ed]at this
   rw[b _ (.inl ω)];exact u i j ω D
  .rw[if_neg h]
   by_cases h2:i<d+ys.length
   .rw[if_pos h2]
    have e:i*sz+j=d*sz+((i-d)*sz+j):=by
     have:i=d+(i-d):=ω
     conv=>lhs;rw[this,Ed]
     omega
    have:(i-d+1)*sz<=ys.length*sz:=Nat.mul_le_mul_right _ ω
    rw[Ed]at this
    rw[e,k _ ω]
    exact f.at_ _ j ω D
   .rw[if_neg h2]
    have:(d+ys.length)*sz<=i*sz:=Nat.mul_le_mul_right _ ω
    rw[b _ (.inr ω)];exact u i j ω D
theorem Pg.one (b:0<sz) {Ca:List Value} (h:Pg σ sz ys Ca g):∀u∈Ca,Dy u=true:=Xh b h.len rfl h.el h.cc h.at_
theorem Ahb (s:St σ ι H F W w) (z:H h = .rows e sz xs) {A8:Nat} (hb:ι h = .blk b A8) (M:d<=xs.length) (x:d+ys.length<=A8) (O:d+ys.length<=140737488355328) (G:0<sz) {Ca:List Value} (k:Pg σ sz ys Ca g) : ∃w',(storeCells (⟨b,d*sz,none⟩:Addr) Ca).run P w = .ok () w'/\Le σ ι H σ ι (Aj H h (.rows e sz (Gj xs d ys)))/\St σ ι (Aj H h (.rows e sz (Gj xs d ys))) F W w':=by
 obtain⟨C,E,D,I,B⟩:=s.rowsAt z hb;have A:xs.length<=140737488355328:=by have:=s.obj h;unfold Bw at this;rw[z]at this;exact this.2.1
 have i:d*sz+Ca.length<=C.size:=by rw[k.len,<-Ed,D];exact Nat.mul_le_mul_right _ x
 have j:=run_storeCells_at (P:=P) b (d*sz) e Ca 0 C w E (by simpa using i) (λu N=>by rw[Aaz];exact k.one G u N);simp only[Nat.add_zero]at j;have c:G8 σ sz (Gj xs d ys) (C.toList.take (d*sz)++Ca++C.toList.drop (d*sz+Ca.length)).toArray:=by
  refine G8.patch B M k ?_ ?_
  .intro q K;rw[Q9 _ _ _ i];rcases K with K|K
   .rw[if_pos K]
   .rw[Ed]at K;rw[if_neg ω,if_neg (by rw[k.len];omega)]
  .intro q K;rw[Q9 _ _ _ i,if_neg ω,if_pos (by rw[k.len];omega),Nat.add_sub_cancel_left]
 have y:(C.toList.take (d*sz)++Ca++C.toList.drop (d*sz+Ca.length)).toArray.size=A8*sz:=by simp;omega
 have f:=Xi (ys:=ys) M;by_cases J:d+ys.length<=xs.length
 .obtain⟨L,le⟩:=s.setRows h e sz xs (Gj xs d ys) z b A8 hb (by rw[f];omega) _ y c;exact⟨_,j,le,L⟩
 .obtain⟨L,le⟩:=s.growIn h e sz xs (Gj xs d ys) z b A8 hb (by rw[f];omega) (by rw[f];omega) (by rw[f];omega) _ y c;exact⟨_,j,le,L⟩
theorem Arr (s:St σ ι H F W w) (J:H h = .rows e sz xs) {len:Nat} (y:Gg (ι h) sz off len v) (N:off+len<=xs.length) (n:Nat) (M:n<=len) : ∃(Ca:List Value) (g:Nat->Nat->Value),(∃p c,v = .slice p len c)/\(∀d,(Builtin.firstCells sz n v).run P {w with drawn:=d} = .ok Ca.toArray {w with drawn:=d})/\Pg σ sz ((xs.drop off).take n) Ca g:=by
 have q:((xs.drop off).take n).length=n:=by simp;omega
 unfold Gg at y;split at y
 .obtain⟨rfl,rfl,rfl⟩:=y;obtain rfl:n=0:=ω;refine⟨[],λ_ _=>undef,⟨none,0,rfl⟩,λd=>by simp[Builtin.firstCells],⟨ψ,(λi x h=>by simp at h),(λi x j c h=>by simp at h),(λi j h=>by simp at h)⟩⟩
 .rename_i b A8 U;obtain⟨I,rfl⟩:=y;obtain⟨C,G,E,L,g,D,B,A⟩:=s.rowsAt J U;have k:((C.toList.drop (off*sz)).take (n*sz)).length=n*sz:=(by have R:(off+n)*sz<=A8*sz:=Nat.mul_le_mul_right _ ω;rw[Ed]at R;rw[length_take,length_drop,Array.length_toList,E];omega);have z:∀(i:Nat) (x:AV),((xs.drop off).take n)[i]? = some x->i<n/\xs[off+i]? = some x:=(by intro i x K;have f:i<n:=(by have:=(Eo.1 K).1;omega);rw[Gz f,getElem?_drop]at K;exact⟨f,K⟩);refine⟨(C.toList.drop (off*sz)).take (n*sz),λi j=>g (off+i) j,⟨_,_,rfl⟩,λd=>?_,⟨by rw[k,q],?_,?_,?_⟩⟩
  .have S:({w with drawn:=d}:World).heap[b]? = some (.cells C e (0,0)):=G;have:=run_loadCells_list (P:=P) {w with drawn:=d} ⟨b,off*sz,none⟩ ((C.toList.drop (off*sz)).take (n*sz)) (by intro j u O;have f:j<n*sz:=(by have:=(Eo.1 O).1;omega);rw[Gz f,getElem?_drop,Ft]at O;rw[Jn,I1 S];exact O);rw[k]at this;simp only[Builtin.firstCells];exact this
  .intro i x K;exact D _ x (z i x K).2
  .intro i x j c K O;exact B _ x j c (z i x K).2 O
  .intro i j hi O;rw[q]at hi;have R:(i+1)*sz<=n*sz:=Nat.mul_le_mul_right _ ω;rw[Ed]at R;rw[Gz ω,getElem?_drop,Ft];have:=A (off+i) j ω O;rw[Ed]at this;rw[<-this];congr 1;omega
 .exact y.elim
theorem Ahc (s:St σ ι H F W w) {t':TypeId} {u':TypeDesc} (ht:P.underlying t=some (.slice e)) (M:P.underlying t'=some u') (L:(∃e',u' = .slice e')\/u' = .string) (he:Hw P e=some i) (Z:0<i.size) (S:i.zero.length=i.size) (hh:H h = .rows e i.size xs) {len:Nat} (hl:len<=xs.length) {E:Value} (hv:Gg (ι h) i.size 0 len v) (Y:1<=i.bytes) (hb:(xs.length+ys.length)*i.bytes<=140737488355328) {Ca:List Value} (hs:Jz P w E i.size ys.length Ca) (D:Pg σ i.size ys Ca g) : ∃(ι':Bq) (v':Value) (w':World),(Builtin.append_ #[t,t'] ty #[v,E]).run P w = .ok v' w'/\Le σ ι H σ ι' (Aj H h (.rows e i.size (Gj xs len ys)))/\St σ ι' (Aj H h (.rows e i.size (Gj xs len ys))) F W w' /\ Gg (ι' h) i.size 0 (len+ys.length) v':=by
 obtain⟨O,u,z,k1,k2,k3,N,k5,k6,k7⟩:=D6 he;have a8:xs.length+ys.length<=140737488355328:=by have:(xs.length+ys.length)*1<=(xs.length+ys.length)*i.bytes:=Nat.mul_le_mul_left _ Y;omega
 by_cases B:len=xs.length
 .subst B;have e0:Gj xs xs.length ys=xs++ys:=(by unfold Gj;rw[take_length,drop_eq_nil_of_le ω,append_nil]);rw[e0];exact Xg (P:=P) (ty:=ty) s ht M L he Z S hh hv Y hb hs D.el D.cc D.at_ (D.one Z)
 have f:=s.obj h;unfold Bw at f;rw[hh]at f;obtain⟨_,_,f⟩:=f;rcases f with⟨_,e2⟩|⟨b,A8,C,e1,p1,p2,p3,p4,p5,p6⟩
 .subst e2;simp only[length_nil,Nat.le_zero]at hl;exact (B (by rw[hl];rfl)).elim
 rw[e1]at hv;obtain⟨aa,rfl⟩:=hv;by_cases I:len+ys.length<=A8
 .obtain⟨w',a6,le,s'⟩:=Ahb (P:=P) s hh e1 hl I ω Z D;have hr:=Ag8 (P:=P) (ty:=ty) (w:=w) ht M L k1 ⟨b,0,none⟩ len A8 ys.length E Ca (by rw[N];exact hs) I (by rw[Jn,Nat.zero_add,N];exact a6);refine⟨ι,_,_,by simpa using hr,le,s',?_⟩;rw[e1];exact⟨ω,ψ⟩
 .have A:(C.toList.take (len*i.size)).length=len*i.size:=(by have:C.toList.length=A8*i.size:=(by rw[Array.length_toList,p4]);rw[length_take,this];exact Nat.min_eq_left (Nat.mul_le_mul_right _ ω));have U:Jz P w (.slice (some ⟨b,0*i.size,none⟩) len (A8-0)) O.size len (C.toList.take (len*i.size)):=(by refine⟨λd=>by simp[Builtin.lenOf],λd=>?_,by rw[N];exact A⟩;have a2:({w with drawn:=d}:World).heap[b]? = some (.cells C e (0,0)):=p3;have:=run_loadCells_list (P:=P) {w with drawn:=d} ⟨b,0,none⟩ (C.toList.take (len*i.size)) (by intro j u K;have y:j<len*i.size:=(by have:=(Eo.1 K).1;omega);rw[Gz y,Ft]at K;rw[Jn,Nat.zero_add,I1 a2];exact K);rw[A]at this;simp only[Builtin.firstCells,Nat.zero_mul,N];exact this);have hr:=Abc (P:=P) (ty:=ty) (w:=w) ht M L k1 k3 (some ⟨b,0*i.size,none⟩) len (A8-0) ys.length E _ Ca (by rw[N];exact hs) U ω ω (by rw[k5];exact Nat.le_trans (Nat.mul_le_mul_right _ ω) hb);have a0:=Xe w (len+ys.length) (A8-0) e;have a1:z.cells.size=i.size:=(by rw[<-S,k6];simp);have J:∀n,(Builtin.zeroCells z.cells n).size=n*i.size:=(by intro n;simp[Builtin.zeroCells,a1]);have V:(C.toList.take (len*i.size)++Ca).length=(len+ys.length)*i.size:=(by rw[length_append,A,D.len,Ed]);have e0:Gj xs len ys=xs.take len++ys:=(by unfold Gj;rw[drop_eq_nil_of_le ω,append_nil]);have G:(xs.take len).length=len:=(by rw[length_take];omega);have a7:G8 σ i.size (xs.take len) C:=(by obtain⟨g,r1,r2,r3⟩:=p6;have X:∀(q:Nat) (x:AV),(xs.take len)[q]? = some x->q<len/\xs[q]? = some x:=(by intro q x hx;have y:q<len:=(by have:=(Eo.1 hx).1;omega);rw[Gz y]at hx;exact⟨y,hx⟩);exact⟨g,λq x hx=>r1 q x (X q x hx).2,λq x j c hx K=>r2 q x j c (X q x hx).2 K,λq j hq K=>r3 q j ω K⟩);obtain⟨s',le⟩:=(s.drew (w.drawn+1)).newRows h e i.size (xs.take len++ys) (grownCap w (len+ys.length) (A8-0) e) ((C.toList.take (len*i.size)++Ca).toArray++Builtin.zeroCells z.cells (grownCap w (len+ys.length) (A8-0) e-(len+ys.length))) (.inr ⟨e,i.size,xs,hh,ζ⟩) Z (by rw[length_append,G];omega) (by rw[length_append,G];exact a0) (by rw[Array.size_append,J,size_toArray,V,<-Ed,Nat.add_sub_cancel' a0]) (by
    refine G8.append a7 g D.el D.cc ?_ ?_
    .intro k hk;rw[G]at hk;rw[Array.getElem?_append_left (by rw[size_toArray,V,Ed];omega),getElem?_toArray,getElem?_append_left ω,Gz hk,Ft]
    .intro R j hi K;rw[G];have y:R*i.size+j<Ca.length:=(by have:(R+1)*i.size<=ys.length*i.size:=Nat.mul_le_mul_right _ ω;rw[Ed]at this;rw[D.len];omega);have e2:(len+R)*i.size+j=len*i.size+(R*i.size+j):=(by rw[Ed];omega);rw[Array.getElem?_append_left (by rw[size_toArray,length_append,A];omega),getElem?_toArray,e2,getElem?_append_right ω,A,Nat.add_sub_cancel_left];exact D.at_ R j hi K);rw[e0];refine⟨_,_,_,hr,le,s',?_⟩;rw[Ba];exact⟨ω,by rw[Nat.zero_mul];rfl⟩
theorem Ahd {len:Nat} (j:len<=xs.length) (b:Gg (ι h) sz 0 len v):Conc σ ι (Aj H h (.rows e sz xs)) (.arr h xs.length 0 len) v:=by
 have c:Dy v=true:=by
  unfold Gg at b;split at b
  .rw[b.1];rfl
  .rw[b.2];rfl
  .exact b.elim
 refine .arr _ _ _ _ v (by rw[Ba];intro e;cases e) (λk i f e'=>?_) c;rw[Ba]at e';cases e';exact⟨Nat.le_refl _,λ_=>b⟩
theorem Ars (N:C3 P T) {q:TypeId} {b:TI} {len:Nat} (I:o.op = .call {callee:=.builtin .append,args:=#[x,y],argTypes:=#[t,q]}) (K:T t=some i) (hd:i.d = .slice e) (E:T q=some u) (L:u.d = .slice e') (Y:T e=some b) (O:0<b.size) (z:b.zero.length=b.size) (M:1<=b.bytes) (hx:ρ x = .arr h k 0 len) (J:xs.length=k) (hl:len<=k) (hy:ρ y = .sl b.size ys) (hb:(xs.length+ys.length)*b.bytes<=140737488355328) : B2 P o ρ ⟨.arr h (Gj xs len ys).length 0 (len+ys.length),[(h,.rows e b.size xs)],[(h,.rows e b.size (Gj xs len ys))]⟩:=by
 intro σ ι H F W w a next Q s j G hk
 have S:H h = .rows e b.size xs:=G (h,.rows e b.size xs) ψ;have f:=j x (by simp[I,Op.operands,Call.operands]);have c:=j y (by simp[I,Op.operands,Call.operands]);rw[hx]at f;rw[hy]at c;have V:=f.arr_inv S J;obtain⟨u1,D,e1⟩:=J0 (N t i K) hd;obtain⟨u2,B,Z⟩:=J0 (N q u E) L;subst e1;subst Z;obtain⟨Ca,g,R,h1,h2,h3⟩:=Xf (P:=P) s O c.sl_inv;obtain⟨ι',U,w',X,le,s',A⟩:=Ahc (P:=P) (ty:=o.type) s D B (.inl ⟨_,rfl⟩) (N e b Y) O z S ω V M hb R ⟨R.size,h1,h2,h3⟩;exact Fc (Ra I rfl X) (hk σ ι' U w' le s' (Ahd (by rw[Xi ω];omega) A))
theorem Art {y:TypeId} {i:TypeInfo} {u:TypeDesc} (J:P.underlying t=some (.slice e)) (q:P.underlying y=some u) (k:(∃e',u = .slice e')\/u = .string) (hi:P.info? e=some i) (p:Option Addr) (c f:Nat) (j:Value) (z:Jz P w j i.size 0 []) (s:c<=f) : (Builtin.append_ #[t,y] ty #[.slice p c f,j]).run P w = .ok (.slice p c f) w:=by
 have D:=z.len w.drawn;have I:=z.cells w.drawn;have A:({w with drawn:=w.drawn}:World)=w:=rfl;rw[A]at D I;cases p with
 | none=>rcases k with⟨e',rfl⟩|rfl <;> simp[Builtin.append_,run_underlying J,run_underlying q,sizeOf,typeInfo,hi,D,s,I]
 | some b=>have x:(storeCells (b.add (c*i.size)) []).run P w = .ok () w:=(by rw[storeCells];rfl);rcases k with⟨e',rfl⟩|rfl <;> simp[Builtin.append_,run_underlying J,run_underlying q,sizeOf,typeInfo,hi,D,s,I,x]
theorem Aru (z:B2 P o ρ ⟨.arr h k 0 k,[(h,.rows E sz xs)],[(h,.rows E sz ys)]⟩) (D:ys.length=k):B2 P o ρ ⟨.sl sz ys,[(h,.rows E sz xs)],[(h,.dead)]⟩:=by
 intro σ ι H F W w a next Q s f c A
 refine z σ ι H F W w a next Q s f c ?_
 intro σ' ι' v w' le y I;have u:Bz H [(h,Bg.rows E sz ys)] h = .rows E sz ys:=Ba _ _ _;obtain⟨x,b,j,i⟩:=y.freeze u;have J:Aj (Bz H [(h,Bg.rows E sz ys)]) h .dead=Bz H [(h,.dead)]:=by
  funext q;by_cases e:q=h
  .subst e;rw[Ba];exact (Ba _ _ _).symm
  .rw[Be _ _ e];show Aj H h _ q=Aj H h _ q;rw[Be _ _ e,Be _ _ e]
 rw[J]at b j;refine A x ι' v w' (le.trans b) j ?_;have:=i 0 k v ω (I.arr_inv u D);rw[drop_zero,take_of_length_le ω]at this;exact .cc this
theorem Arv (U:C3 P T) {z:TypeId} (N:o.op = .call {callee:=.builtin .append,args:=#[x,y],argTypes:=#[t,z]}) (ht:T t=some i) (hd:i.d = .slice e) (L:T z=some G) (S:G.d = .slice e') (he:T e=some u) (hz:0<u.size) (hx:ρ x = .sl sz xs) (hy:ρ y = .sl u.size []) : B2 P o ρ ⟨.sl sz xs,[],[]⟩:=by
 intro σ ι H F W w a next Q s k a7 hk
 have c:=k x (by simp[N,Op.operands,Call.operands]);have j:=k y (by simp[N,Op.operands,Call.operands]);rw[hx]at c;rw[hy]at j;obtain⟨u1,J,e1⟩:=J0 (U t i ht) hd;obtain⟨u2,I,e2⟩:=J0 (U z G L) S;subst e1;subst e2;obtain⟨Ca,g,M,_,_,_⟩:=Xf (P:=P) s hz j.sl_inv;have O:Ca = []:=by have:=M.size;simp at this;exact this
 subst O;obtain⟨p,n,K,f,R⟩:∃p n K,a.eval x = .slice p n K/\n<=K:=by
  rcases c.sl_inv.sl_inv with⟨rfl,p,K,f⟩|⟨b,off,K,C,E,fr,g,f,hσ,M,a8,hC,hl,q⟩
  .exact⟨_,_,_,f,Nat.zero_le _⟩
  .exact⟨_,_,_,f,q⟩
 obtain⟨D,u',z',B,a6,a1,A,Z,Y,X⟩:=D6 (U e u he);have V:=Art (P:=P) (w:=w) (ty:=o.type) J I (.inl ⟨_,rfl⟩) B p n K (a.eval y) (by rw[A];exact M) R;rw[<-f]at V;exact Fc (Ra N rfl V) (hk σ ι _ w (Le.refl _ _ _) s c)
theorem Arw (Z:C3 P T) {j:TI} {len K:Nat} (S:o.op = .call {callee:=.builtin .append,args:=#[x,y],argTypes:=#[t,E]}) (ht:T t=some i) (hd:i.d = .slice e) (N:T E=some G) (X:G.d = .slice e') (he:T e=some j) (hz:0<j.size) (I:j.zero.length=j.size) (Y:1<=j.bytes) (hx:ρ x = .arr h k 0 len) (V:xs.length=k) (hl:len<=k) (hy:ρ y = .arr h K f b) (U:xs.length=K) (a1:f+b<=k) (hb:(xs.length+b)*j.bytes<=140737488355328) : B2 P o ρ ⟨.arr h (Gj xs len ((xs.drop f).take b)).length 0 (len+b),[(h,.rows e j.size xs)],[(h,.rows e j.size (Gj xs len ((xs.drop f).take b)))]⟩:=by
 intro σ ι H F W w a next Q s B O hk
 have D:H h = .rows e j.size xs:=O (h,.rows e j.size xs) ψ;have A:=B x (by simp[S,Op.operands,Call.operands]);have z:=B y (by simp[S,Op.operands,Call.operands]);rw[hx]at A;rw[hy]at z;have hv:=A.arr_inv D V;have J:=z.arr_inv D U;obtain⟨u1,M,e1⟩:=J0 (Z t i ht) hd;obtain⟨u2,L,e2⟩:=J0 (Z E G N) X;subst e1;subst e2;have q:((xs.drop f).take b).length=b:=by simp;omega
 obtain⟨Ca,g,⟨p,c,R⟩,hf,hn⟩:=Arr (P:=P) s D J ω b (Nat.le_refl _);have hs:Jz P w (a.eval y) j.size ((xs.drop f).take b).length Ca:=by
  refine⟨λd=>?_,λd=>?_,hn.len⟩
  .rw[R,q];simp[Builtin.lenOf]
  .rw[q];exact hf d
 obtain⟨ι',v',w',hr,le,s',u⟩:=Ahc (P:=P) (ty:=o.type) s M L (.inl ⟨_,rfl⟩) (Z e j he) hz I D ω hv Y (by rw[q];exact hb) hs hn;rw[q]at u;exact Fc (Ra S rfl hr) (hk σ ι' v' w' le s' (Ahd (by rw[Xi ω,q];omega) u))
theorem Arx (U:C3 P T) {lo hi:Option Operand} {S:TI} {len:Nat} {B:Nat} {l:Nat} (G:o.op = .slice t x lo hi none) (ht:T t=some i) (hd:i.d = .slice e) (he:T e=some S) (hx:ρ x = .arr f k off len) (L:xs.length=k) (I:Hx ρ 0 lo=some (l:Int)) (M:Hx ρ (len:Int) hi=some (l:Int)) (h2:l<=len) : B2 P o ρ ⟨.sl B [],[(f,.rows E sz xs)],[]⟩:=by
 intro σ ι H F W w a next Q s A D hk
 have hh:H f = .rows E sz xs:=D (f,.rows E sz xs) ψ;have hp:=A x (by simp[G,Op.operands]);rw[hx]at hp;have b:=hp.arr_inv hh L;obtain⟨R,u,z,k1,V,k3,k4,k5,k6,O⟩:=D6 (U t i ht);rw[hd]at O;subst O;have X:=M0 (U e S he);have N:∀(K:Nat),len<=K->∀w,(Instr.sliceBounds true len K (lo.map a.eval) (hi.map a.eval) none).run P w = .ok (l,l,K) w :=
  λK j w=>Xa I M (λy hy=>A y (by rw[G];exact Xb hy)) (Nat.le_refl _) ω w
 have a0:∀(p:Option Addr) (K:Nat),len<=K->a.eval x = .slice p len K->∃q c,(execOp a.eval o).run P w = .ok (.value (.slice q 0 c)) w:=by intro p K j b;have:=N K j w;simp only[execOp,G,b,Instr.sliceAt,Instr.slice,Sem.run_bind,run_underlying V,Result.andThen_ok,Option.map_none,this,X w,Sem.run_pure,Nat.sub_self];exact⟨_,_,rfl⟩
 have:∃q c,(execOp a.eval o).run P w = .ok (.value (.slice q 0 c)) w:=by
  unfold Gg at b;split at b
  .obtain⟨b,_,J⟩:=b;exact a0 none 0 ω (by rw[J];exact b)
  .obtain⟨Z,b⟩:=b;exact a0 _ _ ω b
  .exact b.elim
 obtain⟨q,c,Y⟩:=this;exact Fc Y (hk σ ι _ w (Le.refl _ _ _) s (.cc (.nil _ _ _)))
theorem Xj (i:o.op = .call {callee:=.builtin .clear,args:=#[x],argTypes:=#[t]}) (b:o.type=ty) {c:Value} (f:(Builtin.clear_ #[t] ty #[a.eval x]).run P w = .ok c w') : (execOp a.eval o).run P w = .ok (.value c) w':=by subst b;simp[execOp,i,resolve,invoke,builtin,f]
theorem Ary (hT:C3 P T) {f:TI} {len:Nat} (O:o.op = .call {callee:=.builtin .clear,args:=#[x],argTypes:=#[t]}) (ht:T t=some i) (hd:i.d = .slice e) (he:T e=some f) (hz:0<f.size) (E:Jy f.size (Fd f)=true) (J:(Fd f).cells=f.zero.map .val) (hx:ρ x = .arr h k off len) (aa:xs.length=k) (hl:off+len<=k) : B2 P o ρ ⟨.tup [],[(h,.rows e f.size xs)],[(h,.rows e f.size (Gj xs off (replicate len (Fd f))))]⟩:=by
 intro σ ι H F W w a next Q s Z Y hk
 have D:H h = .rows e f.size xs:=Y (h,.rows e f.size xs) ψ;have L:=Z x (by simp[O,Op.operands,Call.operands]);rw[hx]at L;have u:=L.arr_inv D aa;obtain⟨u1,B,e1⟩:=J0 (hT t i ht) hd;subst e1;obtain⟨U,u',y,S,ag,R,af,ae,I,ad⟩:=D6 (hT e f he);have V:(zeroValue e).run P w = .ok y w:=by simp[zeroValue,typeInfo,S,R]
 have z:y.cells.size=f.size:=by have:=congrArg length J;rw[(Lz E).1,length_map,I,Array.length_toList]at this;exact this.symm
 have ac:xs.length<=140737488355328:=by have:=s.obj h;unfold Bw at this;rw[D]at this;exact this.2.1
 have A:∀(σ:Aw) (ι:Bq) (H:Hp),Conc σ ι H (.tup []) (.tuple #[]):=λσ ι H=>.tup [] #[] rfl (λi c v h _=>by simp at h);unfold Gg at u;split at u
 .obtain⟨u,rfl,rfl⟩:=u;have N:Gj xs 0 (replicate 0 (Fd f))=xs:=(by simp[Gj]);refine Fc (v:=.tuple #[]) (Xj O rfl ?_) (hk σ ι _ w ?_ ?_ (A _ _ _))
  .simp only[Builtin.clear_,u];simp[run_underlying B]
  .show Le σ ι H σ ι (Aj H h (.rows e f.size _));rw[N,<-D,Hk];exact Le.refl _ _ _
  .show St σ ι (Aj H h (.rows e f.size _)) F W w;rw[N,<-D,Hk];exact s
 .rename_i b A8 hb;obtain⟨ah,u⟩:=u;by_cases a8:len=0
  .subst a8;have N:Gj xs off (replicate 0 (Fd f))=xs:=(by simp[Gj]);refine Fc (v:=.tuple #[]) (Xj O rfl ?_) (hk σ ι _ w ?_ ?_ (A _ _ _))
   .simp only[Builtin.clear_,u];simp[run_underlying B]
   .show Le σ ι H σ ι (Aj H h (.rows e f.size _));rw[N,<-D,Hk];exact Le.refl _ _ _
   .show St σ ι (Aj H h (.rows e f.size _)) F W w;rw[N,<-D,Hk];exact s
  .have G:∀q,q<len*f.size->(Builtin.zeroCells y.cells len).toList[q]? = y.cells[q % f.size]?:=(by intro q K;have hm:q % f.size<y.cells.size:=(by rw[z];exact Nat.mod_lt _ hz);have a1:y.cells[q % f.size]! = y.cells[q % f.size]:=(by simp[hm]);simp[Builtin.zeroCells,K,z,a1,hm]);have hn:Pg σ f.size (replicate len (Fd f)) (Builtin.zeroCells y.cells len).toList (λ_ j=>(y.cells[j]?).getD undef):=by
    refine⟨by simp[Builtin.zeroCells,z],?_,?_,?_⟩
    .intro j x' hj;have:=Dz hj;simp at this;rw[this.2];exact (Lz E).1
    .intro j x' q c' hj K;have:=Dz hj;simp at this;rw[this.2]at K;have ab:=(Lz E).2 c' (Dz K);rw[J,getElem?_map,I,Ft]at K;cases u:y.cells[q]? with| none=>rw[u]at K;simp at K| some v=>rw[u]at K;simp at K;subst K;exact⟨.val v,ab⟩
    .intro j q hj K;have a0:j<len:=(by simpa using hj);have a6:j*f.size+q<len*f.size:=(by have:(j+1)*f.size<=len*f.size:=Nat.mul_le_mul_right _ ω;rw[Ed]at this;omega);rw[G _ a6];have:(j*f.size+q) % f.size=q:=(by rw[Nat.mul_comm,Nat.mul_add_mod,Nat.mod_eq_of_lt K]);rw[this];have M:q<y.cells.size:=ω;simp[M]
   obtain⟨w',X,le,s'⟩:=Ahb (P:=P) s D hb (d:=off) ω (by rw[length_replicate];omega) (by rw[length_replicate];omega) hz hn;refine Fc (v:=.tuple #[]) (Xj O rfl ?_) (hk σ ι _ w' le s' (A _ _ _));have a7:∃m,len=m+1:=⟨len-1,ω⟩;obtain⟨m,rfl⟩:=a7;simp only[Builtin.clear_,u];simp[run_underlying B,V,X]
 .exact u.elim
theorem Arz (z:C3 P T) (k:o.op = .call {callee:=.builtin .clear,args:=#[x],argTypes:=#[t]}) (D:T t=some i) (I:i.d = .slice e) (J:ρ x = .sl sz []):B2 P o ρ ⟨.tup [],[],[]⟩:=by
 intro σ ι H F W w a next Q s j y K
 have b:=j x (by simp[k,Op.operands,Call.operands]);rw[J]at b;obtain⟨_,q,L,u⟩:=b.sl_inv.sl_len;obtain⟨B,f,A⟩:=J0 (z t i D) I;subst A;refine Fc (v:=.tuple #[]) (Xj k rfl ?_) (K σ ι _ w (Le.refl _ _ _) s (.tup [] #[] rfl (λi c v h _=>by simp at h)));simp only[Builtin.clear_,u];cases q <;> simp[run_underlying f]
end
section
variable {σ σ':Aw} {ι ι':Bq} {H H':Hp} {F O:Aw} {W w w':World}
variable {C:Array Value} {xs:List AV} {ys:List NC} {b h i n sz:Nat} {E Ei:TypeId} {v:Value}
theorem Bw.keep {x:Nat} (le:Le σ ι H σ' ι' H') (y:ι' x=ι x) (A:H' x=H x) (hk:∀b,(H x).live=true->(ι x).has b->(σ b=none->σ' b=none)/\(F b=none->O b=none)/\w'.heap[b]? = w.heap[b]?) (h:Bw σ ι H F w x):Bw σ' ι' H' O w' x:=by
 unfold Bw at h ⊢;rw[A,y];cases hx:H x with
 | none=>rw[hx]at h;exact h
 | dead=>trivial
 | cells E cs=>rw[hx]at h;obtain⟨b,C,f,h1,h2,h3,j,s⟩:=h;have k:=hk b (by rw[hx];rfl) (by rw[f];rfl);exact⟨b,C,f,k.1 h1,k.2.1 h2,by rw[k.2.2];exact h3,j,λi c v hc z=>(s i c v hc z).mono le⟩
 | rows E sz xs=>
  rw[hx]at h;obtain⟨u,I,⟨f,D⟩|⟨b,A8,C,f,h1,h2,h3,j,s,B⟩⟩:=h
  .exact⟨u,I,.inl ⟨f,D⟩⟩
  .have k:=hk b (by rw[hx];rfl) (by rw[f];rfl);exact⟨u,I,.inr ⟨b,A8,C,f,k.1 h1,k.2.1 h2,by rw[k.2.2];exact h3,j,s,B.mono le.sto⟩⟩
 | map es=>rw[hx]at h;obtain⟨b,M,q,f,h1,h2,h3,j⟩:=h;have k:=hk b (by rw[hx];rfl) (by rw[f];rfl);exact⟨b,M,q,f,k.1 h1,k.2.1 h2,by rw[k.2.2];exact h3,j.mono le.sto⟩
 | nest E Ei sz ys=>rw[hx]at h;exact Gc.keep le (λb hb=>hk b (by rw[hx];rfl) hb) h
theorem Gc.of {l:Loc} {c:List NC} (j:c.length=ys.length) (z:∀b,l.has b->F b=none->O b=none) (hy:∀(i:Nat) (y:NC),ys[i]? = some y->match y with
   | .own xs=>c[i]? = some (.own xs)
   | .lent h n=>∃h',c[i]? = some (.lent h' n)/\∀v,Conc σ ι H (.arr h n 0 n) v->Conc σ ι' H' (.arr h' n 0 n) v) (h:Gc σ ι H F w l E Ei sz ys):Gc σ ι' H' O w l E Ei sz c:=by
 obtain⟨h0,b,u,C,rfl,h1,h2,h3,J,G,D,B⟩:=h;refine⟨⟨h0.1,by rw[j];exact h0.2⟩,b,u,C,rfl,h1,z b (.inl rfl) h2,h3,ω,λi p hp=>?_,D,λi I v f A=>?_⟩
 .obtain⟨K,xs,L⟩:=G i p hp;exact⟨K,xs,hy i _ L⟩
 .have k:i<ys.length:=(by rw[<-j];exact (Eo.1 f).1);have hi:ys[i]? = some ys[i]:=getElem?_eq_getElem k;have q:=B i _ v hi A;have g:=hy i _ hi;cases x:ys[i] with
  | lent h n=>rw[x]at g q;obtain⟨h',K,L⟩:=g;rw[K]at f;cases f;exact⟨q.1,L v q.2⟩
  | own xs=>rw[x]at g q;have g:c[i]? = some (.own xs):=g;rw[g]at f;cases f;refine⟨q.1,?_⟩;have q:=q.2;cases s:u i with| none=>rw[s]at q;exact q| some p=>rw[s]at q;exact⟨q.1,z p.1 (.inr ⟨i,p.2,s⟩) q.2.1,q.2.2⟩
def Xk:Option (Nat×Nat)->Loc
 | none=>.nil
 | some p=>.blk p.1 p.2
theorem St.takeN (s:St σ ι H F W w) {f:Nat->Option (Nat×Nat)} (hh:H h = .nest E Ei sz ys) (hb:ι h = .nst b f) (hn:H n = .none) (hx:ys[i]? = some (.own xs)) : St σ (Aj (Aj ι h (.nst b (Aj f i none))) n (Xk (f i))) (Aj (Aj H h (.nest E Ei sz (ys.set i (.lent n xs.length)))) n (.rows Ei sz xs)) F W w /\ Le σ ι H σ (Aj (Aj ι h (.nst b (Aj f i none))) n (Xk (f i))) (Aj (Aj H h (.nest E Ei sz (ys.set i (.lent n xs.length)))) n (.rows Ei sz xs)):=by
 have X:h≠n:=by intro e;subst e;rw[hh]at hn;cases hn
 have a8:ι n = .none:=by have:=s.obj n;unfold Bw at this;rw[hn]at this;exact this
 have O:=s.obj h;unfold Bw at O;rw[hh]at O;obtain⟨h0,b',ad,C,G,h1,h2,h3,h4,h5,h6,h7⟩:=O;rw[hb]at G;cases G;have Z:i<C.size:=by rw[h4];exact (Eo.1 hx).1
 have u:=h7 i _ C[i] hx (by simp[Z]);have a7:Le σ ι H σ (Aj ι h (.nst b (Aj f i none))) (Aj H h (.nest E Ei sz (ys.set i (.lent n xs.length)))) :=
  Le.upd (Aw.le_refl σ) h _ _ (by rw[hh,hb];exact⟨λ_ e=>e,(λ_ e=>by cases e),(λ_ _ _ _ e=>by cases e)⟩);have le:Le σ ι H σ (Aj (Aj ι h (.nst b (Aj f i none))) n (Xk (f i))) (Aj (Aj H h (.nest E Ei sz (ys.set i (.lent n xs.length)))) n (.rows Ei sz xs)) :=
  a7.trans (Le.upd (Aw.le_refl σ) n _ _ (by rw[Be _ _ (Ne.symm X),Be _ _ (Ne.symm X),a8,hn];exact HLe.of_none));have L:∀x c,((Aj (Aj H h (.nest E Ei sz (ys.set i (.lent n xs.length)))) n (.rows Ei sz xs)) x).live=true->((Aj (Aj ι h (.nst b (Aj f i none))) n (Xk (f i))) x).has c ->
   (x=n/\∃t,f i=some (c,t))\/(x=h/\(c=b\/∃j t,j≠i/\f j=some (c,t)))\/(x≠n/\x≠h/\(H x).live=true/\(ι x).has c):=by
  intro x c hl hc;by_cases G:x=n
  .subst G;rw[Ba]at hc;cases hp:f i with| none=>rw[hp]at hc;exact hc.elim| some p=>rw[hp]at hc;left;exact⟨rfl,p.2,by rw[<-show p.1=c from hc]⟩
  .rw[Be _ _ G]at hc hl;by_cases S:x=h
   .subst S;rw[Ba]at hc;right;left;refine⟨rfl,?_⟩;rcases hc with hc|⟨j,t,hc⟩
    .exact .inl hc.symm
    .by_cases B:j=i
     .subst B;rw[Ba]at hc;cases hc
     .rw[Be _ _ B]at hc;exact .inr ⟨j,t,B,hc⟩
   .rw[Be _ _ S]at hc hl;exact .inr (.inr ⟨G,S,hl,hc⟩)
 have R:(H h).live=true:=by rw[hh];rfl
 have J:(ι h).has b:=by rw[hb];exact .inl rfl
 have A:∀j c t,f j=some (c,t)->(ι h).has c:=λj c t e=>by rw[hb];exact .inr ⟨j,t,e⟩
 refine⟨⟨s.sto,s.fra,λx=>?_,λx y c lx ly bx ab=>?_,s.os,s.tape,s.output,s.glo,s.drw⟩,le⟩
 .by_cases G:x=n
  .subst G;unfold Bw;rw[Ba,Ba];refine⟨h0.1,u.1,?_⟩;have q:=u.2;cases hp:f i with| none=>rw[hp]at q;exact .inl ⟨rfl,q.1⟩| some p=>rw[hp]at q;obtain⟨q1,q2,_,D,q4,q5,q6,q7⟩:=q;exact .inr ⟨p.1,p.2,D,rfl,q1,q2,q4,q5,q6,q7⟩
  .by_cases S:x=h
   .subst S;unfold Bw;rw[Be _ _ G,Ba,Be _ _ G,Ba];refine⟨⟨h0.1,by rw[length_set];exact h0.2⟩,b,Aj f i none,C,rfl,h1,h2,h3,by rw[length_set];exact h4,λj p hj=>?_,λj k c t U hj hk=>?_,λj y v hj hv=>?_⟩
    .by_cases B:j=i
     .subst B;rw[Ba]at hj;cases hj
     .rw[Be _ _ B]at hj;obtain⟨g1,V,g2⟩:=h5 j p hj;exact⟨g1,V,by rw[getElem?_set_ne (Ne.symm B)];exact g2⟩
    .by_cases B:j=i
     .subst B;rw[Ba]at hj;cases hj
     .by_cases e4:k=i
      .subst e4;rw[Ba]at hk;cases hk
      .rw[Be _ _ B]at hj;rw[Be _ _ e4]at hk;exact h6 j k c t U hj hk
    .by_cases B:j=i
     .subst B;have Y:j<ys.length:=ω;rw[getElem?_set_self Y]at hj;cases hj;rw[Ba];refine⟨rfl,?_⟩;have aa:v=C[j]:=(by simp[Z]at hv;exact hv.symm);subst aa;refine .arr n xs.length 0 xs.length _ (by rw[Ba];intro e;cases e) (λE' ac V e=>?_) ?_
      .rw[Ba]at e;cases e;refine⟨Nat.le_refl _,λ_=>?_⟩;rw[Ba];have q:=u.2;cases hp:f j with| none=>rw[hp]at q;rw[q.1,q.2];exact⟨rfl,rfl,rfl⟩| some p=>rw[hp]at q;obtain⟨q1,q2,q3,D,q4,q5,q6,q7⟩:=q;exact⟨ω,by rw[q3];simp⟩
      .have q:=u.2;cases hp:f j with| none=>rw[hp]at q;rw[q.2];rfl| some p=>rw[hp]at q;rw[q.2.2.1];rfl
     .rw[getElem?_set_ne (Ne.symm B)]at hj;rw[Be _ _ B];have q:=h7 j y v hj hv;cases y with| lent h' m=>exact⟨q.1,q.2.mono le⟩| own zs=>exact q
   .exact Bw.keep le (by rw[Be _ _ G,Be _ _ S]) (by rw[Be _ _ G,Be _ _ S]) (λ_ _ _=>⟨λq=>q,λq=>q,rfl⟩) (s.obj x)
 .have I:∀z c,z≠h->(H z).live=true->(ι z).has c->(ι h).has c->False:=λz c e l1 l2 l3=>e (s.inj z h c l1 R l2 l3);rcases L x c lx bx with⟨ex,t,K⟩|⟨ex,K⟩|⟨af,a6,K,N⟩ <;> rcases L y c ly ab with⟨ey,U,a0⟩|⟨ey,a0⟩|⟨ae,a1,a0,M⟩
  .rw[ex,ey]
  .rcases a0 with a0|⟨j,U,hj,a0⟩
   .exact ((h5 i _ K).1 a0).elim
   .exact (hj (h6 j i c U t a0 K)).elim
  .exact (I y c a1 a0 M (A i c t K)).elim
  .rcases K with K|⟨j,t,hj,K⟩
   .exact ((h5 i _ a0).1 K).elim
   .exact (hj (h6 j i c t U K a0)).elim
  .rw[ex,ey]
  .refine (I y c a1 a0 M ?_).elim;rcases K with rfl|⟨j,t,_,K⟩
   .exact J
   .exact A j c t K
  .exact (I x c a6 K N (A i c U a0)).elim
  .refine (I x c a6 K N ?_).elim;rcases a0 with rfl|⟨j,t,_,a0⟩
   .exact J
   .exact A j c t a0
  .exact s.inj x y c K a0 N M
def L0 (xs b:List AV):Prop:=b.length=xs.length/\∀(q:Nat) (c f:AV),xs[q]? = some c->b[q]? = some f->f=c\/∃s,c = .val (.slice none 0 0)/\f = .sl s []
theorem L0.refl (xs:List AV):L0 xs xs:=⟨rfl,λq c b h h'=>by rw[h]at h';cases h';exact .inl rfl⟩
theorem L0.nil1 (s:Nat):L0 [.val (.slice none 0 0)] [.sl s []]:=⟨rfl,λq c b h h'=>by cases q with| zero=>cases h;cases h';exact .inr ⟨s,rfl,rfl⟩| succ q=>cases h⟩
theorem L0.rows {σ:Aw} {u:List AV} (h:L0 xs u) (D:G8 σ sz xs C):G8 σ sz u C:=by
 obtain⟨g,h1,h2,h3⟩:=D;have k:∀(i:Nat) (f:AV),u[i]? = some f->∃x,xs[i]? = some x:=λi f hx=>⟨_,getElem?_eq_getElem (by rw[<-h.1];exact (Eo.1 hx).1)⟩;refine⟨g,λi f b=>?_,λi f j c b hc=>?_,λi j hi I=>h3 i j (by rw[<-h.1];exact hi) I⟩
 .obtain⟨x,hx⟩:=k i f b;rcases h.2 i x f hx b with rfl|⟨s,z,y⟩
  .exact h1 i _ hx
  .subst z;subst y;have q:=h1 i (.val (.slice none 0 0)) hx;exact q
 .obtain⟨x,hx⟩:=k i f b;rcases h.2 i x f hx b with rfl|⟨s,z,y⟩
  .exact h2 i _ j c hx hc
  .subst z;subst y;cases j with| succ j=>cases hc| zero=>cases hc;obtain⟨A,B⟩:=h2 i _ 0 _ hx rfl;refine⟨?_,B⟩;generalize g i 0=v at A;cases A;exact .nil s none 0
theorem St.rerow (s:St σ ι H F W w) {c:List AV} (i:H n = .rows E sz xs) (h:L0 xs c) : St σ ι (Aj H n (.rows E sz c)) F W w/\Le σ ι H σ ι (Aj H n (.rows E sz c)):=by
 have le:Le σ ι H σ ι (Aj H n (.rows E sz c)):=by have:=Le.upd (ι:=ι) (H:=H) (Aw.le_refl σ) n (ι n) (.rows E sz c) (by rw[i];exact⟨λ_ e=>e,(λ_ e=>by cases e),λ_ N A z e=>by cases e;exact⟨E,sz,xs,rfl,.inr ⟨h.1.symm,rfl,rfl⟩⟩⟩);rwa [Hk]at this
 have live:∀x,(Aj H n (.rows E sz c) x).live=true->(H x).live=true:=by
  intro x hx;by_cases e:x=n
  .subst e;rw[i];rfl
  .rwa [Be _ _ e]at hx
 refine⟨⟨s.sto,s.fra,λx=>?_,λx y b D B M k=>s.inj x y b (live x D) (live y B) M k,s.os,s.tape,s.output,s.glo,s.drw⟩,le⟩;by_cases e:x=n
 .subst e;have f:=s.obj x;unfold Bw at f ⊢;rw[i]at f;rw[Ba];obtain⟨u,K,⟨j,L⟩|⟨b,A8,C,j,h1,h2,h3,J,I,G⟩⟩:=f
  .refine⟨u,by rw[h.1];exact K,.inl ⟨j,?_⟩⟩;have:=h.1;rw[L]at this;exact length_eq_zero_iff.1 this
  .exact⟨u,by rw[h.1];exact K,.inr ⟨b,A8,C,j,h1,h2,h3,J,by rw[h.1];exact I,h.rows G⟩⟩
 .exact Bw.keep le rfl (Be _ _ e) (λ_ _ _=>⟨λq=>q,λq=>q,rfl⟩) (s.obj x)
def Kk:Loc->Option (Nat×Nat)
 | .blk b t=>some (b,t)
 | _=>none
theorem St.putN (s:St σ ι H F W w) {L:Nat->Option (Nat×Nat)} (hh:H h = .nest E Ei sz ys) (hb:ι h = .nst b L) (hn:H n = .rows Ei sz xs) (hi:i<ys.length) (hv:Gg (ι n) sz 0 xs.length v) (hC:w.heap[b]? = some (.cells C E (0,0))) (w':World) (C':Array Value) (hs:C'.size=C.size) (ae:C'[i]? = some v) (ad:∀j,j≠i->C'[j]? = C[j]?) (hw:w'.heap[b]? = some (.cells C' E (0,0))) (M:∀c,c≠b->w'.heap[c]? = w.heap[c]?) (ac:w'.os=w.os) (Z:w'.tape=w.tape) (a6:w'.output=w.output) (hdrw:w.drawn<=w'.drawn) : St σ (Aj ι h (.nst b (Aj L i (Kk (ι n))))) (Aj (Aj H h (.nest E Ei sz (ys.set i (.own xs)))) n .dead) F W w' /\ Le σ ι H σ (Aj ι h (.nst b (Aj L i (Kk (ι n))))) (Aj (Aj H h (.nest E Ei sz (ys.set i (.own xs)))) n .dead):=by
 have S:h≠n:=by intro e;subst e;rw[hh]at hn;cases hn
 have B:=s.obj h;unfold Bw at B;rw[hh]at B;obtain⟨h0,b',ak,C0,O,h1,h2,h3,h4,h5,h6,h7⟩:=B;rw[hb]at O;cases O;rw[hC]at h3;cases h3;have B:=s.obj n;unfold Bw at B;rw[hn]at B;obtain⟨r0,r1,r2⟩:=B;have aa:Le σ ι H σ (Aj ι h (.nst b (Aj L i (Kk (ι n))))) (Aj H h (.nest E Ei sz (ys.set i (.own xs)))) :=
  Le.upd (Aw.le_refl σ) h _ _ (by rw[hh,hb];exact⟨λ_ e=>e,(λ_ e=>by cases e),(λ_ _ _ _ e=>by cases e)⟩);have le:Le σ ι H σ (Aj ι h (.nst b (Aj L i (Kk (ι n))))) (Aj (Aj H h (.nest E Ei sz (ys.set i (.own xs)))) n .dead):=by
  refine aa.trans ?_;have:=Le.upd (ι:=Aj ι h (.nst b (Aj L i (Kk (ι n))))) (H:=Aj H h (.nest E Ei sz (ys.set i (.own xs)))) (Aw.le_refl σ) n (ι n) .dead
   (by rw[Be _ _ (Ne.symm S),Be _ _ (Ne.symm S),hn];exact⟨λ_ e=>e,(λ_ e=>by cases e),(λ_ _ _ _ e=>by cases e)⟩);have e:Aj (Aj ι h (.nst b (Aj L i (Kk (ι n))))) n (ι n)=Aj ι h (.nst b (Aj L i (Kk (ι n)))):=(by have:=Hk (Aj ι h (.nst b (Aj L i (Kk (ι n))))) n;rwa [Be _ _ (Ne.symm S)]at this);rwa [e]at this
 have f:(H h).live=true:=by rw[hh];rfl
 have A:(H n).live=true:=by rw[hn];rfl
 have J:(ι h).has b:=by rw[hb];exact .inl rfl
 have N:∀j c t,L j=some (c,t)->(ι h).has c:=λj c t e=>by rw[hb];exact .inr ⟨j,t,e⟩
 have a1:∀c t,Kk (ι n)=some (c,t)->ι n = .blk c t:=by intro c t e;cases G:ι n with| blk b' t'=>rw[G]at e;cases e;rfl| _=>rw[G]at e;cases e
 have I:∀c t,Kk (ι n)=some (c,t)->(ι n).has c:=λc t e=>by rw[a1 c t e];exact rfl
 have R:∀c,(ι n).has c->(ι h).has c->False:=λc l1 l2=>S (s.inj h n c f A l2 l1);have V:∀x c,((Aj (Aj H h (.nest E Ei sz (ys.set i (.own xs)))) n .dead) x).live=true->((Aj ι h (.nst b (Aj L i (Kk (ι n))))) x).has c ->
   (x=h/\((ι h).has c\/(ι n).has c))\/(x≠n/\x≠h/\(H x).live=true/\(ι x).has c):=by
  intro x c G hc;by_cases O:x=n
  .subst O;rw[Ba]at G;cases G
  .rw[Be _ _ O]at G;by_cases U:x=h
   .subst U;rw[Ba]at hc;refine .inl ⟨rfl,?_⟩;rcases hc with hc|⟨j,t,hc⟩
    .rw[<-hc];exact .inl J
    .by_cases z:j=i
     .subst z;rw[Ba]at hc;exact .inr (I c t hc)
     .rw[Be _ _ z]at hc;exact .inl (N j c t hc)
   .rw[Be _ _ U]at hc G;exact .inr ⟨O,U,G,hc⟩
 have a7:∀c,σ c≠none->c≠b:=λc hc e=>by subst e;exact hc h1
 refine⟨⟨λc o hc=>by rw[M c (a7 c (by rw[hc];intro e;cases e))];exact s.sto c o hc, λc o hc=>by have e:c≠b:=(by intro e;subst e;rw[h2]at hc;cases hc);rw[M c e];exact s.fra c o hc,λx=>?_,λx y c lx ly bx aj=>?_,ac.trans s.os,Z.trans s.tape,a6.trans s.output,s.glo,Nat.le_trans s.drw hdrw⟩,le⟩
 .by_cases O:x=n
  .subst O;unfold Bw;rw[Ba];trivial
  .by_cases U:x=h
   .subst U;unfold Bw;rw[Be _ _ O,Ba,Ba];refine⟨⟨h0.1,by rw[length_set];exact h0.2⟩,b,Aj L i (Kk (ι n)),C',rfl,h1,h2,hw,by rw[length_set];omega,λj p hj=>?_,λj k c t t' hj hk=>?_,λj y u hj hu=>?_⟩
    .by_cases z:j=i
     .subst z;rw[Ba]at hj;refine⟨λe=>?_,xs,getElem?_set_self hi⟩;exact R p.1 (I p.1 p.2 hj) (by rw[e];exact J)
     .rw[Be _ _ z]at hj;obtain⟨g1,a8,g2⟩:=h5 j p hj;exact⟨g1,a8,by rw[getElem?_set_ne (Ne.symm z)];exact g2⟩
    .by_cases z:j=i
     .by_cases e4:k=i
      .rw[z,e4]
      .subst z;rw[Ba]at hj;rw[Be _ _ e4]at hk;exact (R c (I c t hj) (N k c t' hk)).elim
     .by_cases e4:k=i
      .subst e4;rw[Ba]at hk;rw[Be _ _ z]at hj;exact (R c (I c t' hk) (N j c t hj)).elim
      .rw[Be _ _ z]at hj;rw[Be _ _ e4]at hk;exact h6 j k c t t' hj hk
    .by_cases z:j=i
     .subst z;rw[getElem?_set_self hi]at hj;cases hj;rw[ae]at hu;cases hu;rw[Ba];refine⟨r1,?_⟩;rcases r2 with⟨l1,l2⟩|⟨p,A8,D,l1,l2,l3,l4,l5,l6,l7⟩
      .rw[l1]at hv ⊢;exact⟨l2,hv.1⟩
      .rw[l1]at hv ⊢;refine⟨l2,l3,by rw[hv.2];simp,D,?_,l5,l6,l7⟩;have ab:p≠b:=(by intro e;subst e;exact R p (by rw[l1];exact rfl) J);rw[M p ab];exact l4
     .rw[getElem?_set_ne (Ne.symm z)]at hj;rw[ad j z]at hu;rw[Be _ _ z];have q:=h7 j y u hj hu;cases y with
      | lent h' m=>exact⟨q.1,q.2.mono le⟩
      | own zs=>refine⟨q.1,?_⟩;have q:=q.2;cases G:L j with| none=>rw[G]at q;exact q| some p=>rw[G]at q;obtain⟨q1,q2,q3,D,q4,q5⟩:=q;exact⟨q1,q2,q3,D,by rw[M p.1 (h5 j p G).1];exact q4,q5⟩
   .refine Bw.keep le (by rw[Be _ _ U]) (by rw[Be _ _ O,Be _ _ U]) (λc G hc=>⟨λq=>q,λq=>q,M c ?_⟩) (s.obj x);intro e;subst e;exact U (s.inj x h c G f hc J)
 .rcases V x c lx bx with⟨ex,K⟩|⟨ai,ah,K,Y⟩ <;> rcases V y c ly aj with⟨ey,a0⟩|⟨ag,af,a0,X⟩
  .rw[ex,ey]
  .rcases K with K|K
   .exact (af (s.inj y h c a0 f X K)).elim
   .exact (ag (s.inj y n c a0 A X K)).elim
  .rcases a0 with a0|a0
   .exact (ah (s.inj x h c K f Y a0)).elim
   .exact (ai (s.inj x n c K A Y a0)).elim
  .exact s.inj x y c K a0 Y X
theorem St.lendN (s:St σ ι H F W w) {len:Nat} {B:Nat->Option (Nat×Nat)} (N:H h = .nest E Ei sz ys) (hb:ι h = .nst b B) (hi:i<ys.length) (hv:Conc σ ι H (.arr n len 0 len) v) (hC:w.heap[b]? = some (.cells C E (0,0))) (w':World) (M:Array Value) (hs:M.size=C.size) (V:M[i]? = some v) (U:∀j,j≠i->M[j]? = C[j]?) (hw:w'.heap[b]? = some (.cells M E (0,0))) (G:∀c,c≠b->w'.heap[c]? = w.heap[c]?) (R:w'.os=w.os) (z:w'.tape=w.tape) (I:w'.output=w.output) (hdrw:w.drawn<=w'.drawn) : St σ (Aj ι h (.nst b (Aj B i none))) (Aj H h (.nest E Ei sz (ys.set i (.lent n len)))) F W w'/\Le σ ι H σ (Aj ι h (.nst b (Aj B i none))) (Aj H h (.nest E Ei sz (ys.set i (.lent n len)))):=by
 have A:=s.obj h;unfold Bw at A;rw[N]at A;obtain⟨h0,b',a1,C0,Z,h1,h2,h3,h4,X,h6,h7⟩:=A;rw[hb]at Z;cases Z;rw[hC]at h3;cases h3;have le:Le σ ι H σ (Aj ι h (.nst b (Aj B i none))) (Aj H h (.nest E Ei sz (ys.set i (.lent n len)))) :=
  Le.upd (Aw.le_refl σ) h _ _ (by rw[N,hb];exact⟨λ_ e=>e,(λ_ e=>by cases e),(λ_ _ _ _ e=>by cases e)⟩);have L:(ι h).has b:=by rw[hb];exact .inl rfl
 refine⟨s.touch h b (λx e=>Be _ _ e) (λx e=>Be _ _ e) le G (λ_ _=>rfl) (λo e=>by rw[h1]at e;cases e) ?_ h2 ?_ ?_ R z I hdrw,le⟩
 .intro x e J S;exact e (s.inj x h b J (by rw[N];rfl) S L)
 .intro c _ hc;rw[Ba]at hc;rcases hc with hc|⟨j,t,hc⟩
  .exact .inl hc.symm
  .by_cases f:j=i
   .subst f;rw[Ba]at hc;cases hc
   .rw[Be _ _ f]at hc;exact .inr ⟨by rw[N];rfl,by rw[hb];exact .inr ⟨j,t,hc⟩⟩
 .unfold Bw;rw[Ba,Ba];refine⟨⟨h0.1,by rw[length_set];exact h0.2⟩,b,Aj B i none,M,rfl,h1,h2,hw,by rw[length_set];omega,λj p K=>?_,λj k c t t' K hk=>?_,λj y u K hu=>?_⟩
  .by_cases f:j=i
   .subst f;rw[Ba]at K;cases K
   .rw[Be _ _ f]at K;obtain⟨g1,O,g2⟩:=X j p K;exact⟨g1,O,by rw[getElem?_set_ne (Ne.symm f)];exact g2⟩
  .by_cases f:j=i
   .subst f;rw[Ba]at K;cases K
   .by_cases Y:k=i
    .subst Y;rw[Ba]at hk;cases hk
    .rw[Be _ _ f]at K;rw[Be _ _ Y]at hk;exact h6 j k c t t' K hk
  .by_cases f:j=i
   .subst f;rw[getElem?_set_self hi]at K;cases K;rw[V]at hu;cases hu;rw[Ba];exact⟨rfl,hv.mono le⟩
   .rw[getElem?_set_ne (Ne.symm f)]at K;rw[U j f]at hu;rw[Be _ _ f];have q:=h7 j y u K hu;cases y with
    | lent h' m=>exact⟨q.1,q.2.mono le⟩
    | own zs=>refine⟨q.1,?_⟩;have q:=q.2;cases J:B j with| none=>rw[J]at q;exact q| some p=>rw[J]at q;obtain⟨q1,q2,q3,D,q4,q5⟩:=q;exact⟨q1,q2,q3,D,by rw[G p.1 (X j p J).1];exact q4,q5⟩
theorem St.freezeN (s:St σ ι H F W w) {f:List (List AV)} (hh:H h = .nest E Ei sz ys) (hy:ys=f.map .own) : ∃σ',Le σ ι H σ' ι (Aj H h .dead)/\St σ' ι (Aj H h .dead) F W w/\∀v,Conc σ ι H (.vec h f.length) v->CC σ' (.sl 1 (f.map (.sl sz))) v:=by
 have G:=s.obj h;unfold Bw at G;rw[hh]at G;have I:=G;obtain⟨h0,b,ls,C,e1,h1,h2,h3,h4,h5,h6,h7⟩:=G
 classical let σ':Aw:=λc=>if (ι h).has c then w.heap[c]? else σ c
 have N:∀c,(ι h).has c->σ' c=w.heap[c]?:=λc hc=>if_pos hc;have A:∀c,¬(ι h).has c->σ' c=σ c:=λc hc=>if_neg hc;have M:σ.le σ':=by intro c o hc;rw[A c (λhx=>by have:=(Gc.block I hx).2.1;rw[hc]at this;cases this)];exact hc
 have L:(H h).live=true:=by rw[hh];rfl
 have B:Le σ ι H σ' ι (Aj H h .dead):=by have:=Le.upd (ι:=ι) (H:=H) M h (ι h) .dead ⟨λ_ e=>e,(λ_ e=>by cases e),(λ_ E1 aa a8 e=>by cases e)⟩;rwa [Hk]at this
 refine⟨σ',B,⟨λc o hc=>?_,λc o hc=>?_,λx=>?_,λx y c lx ly bx a7=>?_,s.os,s.tape,s.output,s.glo.mono M,s.drw⟩,λv hc=>?_⟩
 .by_cases e:(ι h).has c
  .rw[N c e]at hc;exact hc
  .rw[A c e]at hc;exact s.sto c o hc
 .refine⟨(s.fra c o hc).1,?_⟩;rw[A c (λhx=>by have:=(Gc.block I hx).2.2;rw[hc]at this;cases this)];exact (s.fra c o hc).2
 .by_cases e:x=h
  .subst e;unfold Bw;rw[Ba];trivial
  .refine Bw.keep B rfl (Be _ _ e) (λc Z hc=>⟨λq=>?_,λq=>q,rfl⟩) (s.obj x);rw[A c λhx=>e (s.inj x h c Z L hc hx)];exact q
 .have ne:∀z,(Aj H h .dead z).live=true->(H z).live=true:=by
   intro z Y;by_cases e:z=h
   .subst e;rw[Ba]at Y;cases Y
   .rwa [Be _ _ e]at Y
  exact s.inj x y c (ne x lx) (ne y ly) bx a7
 .obtain⟨b2,V,rfl⟩:=hc.vec_inv;rw[e1]at V;cases V;have Z:f.length<=140737488355328:=(by have:=h0.2;rwa [hy,length_map]at this);have a6:σ' b=some (.cells C E (0,0)):=(by rw[N b (by rw[e1];exact .inl rfl)];exact h3);have U:C.size=f.length:=(by rw[h4,hy,length_map]);have k:∀(i:Nat) (xs:List AV),f[i]? = some xs->∃u,C[i]? = some u/\CC σ' (.sl sz xs) u/\Dy u=true:=(by intro i xs hx;have S:i<C.size:=(by rw[U];exact (Eo.1 hx).1);refine⟨C[i],by simp[S],?_⟩;have q:=h7 i (.own xs) C[i] (by rw[hy,getElem?_map,hx];rfl) (by simp[S]);have R:=q.2;cases J:ls i with| none=>rw[J]at R;rw[R.1,R.2];exact⟨.nil _ _ _,rfl⟩| some p=>rw[J]at R;obtain⟨q3,q4,q5,D,q6,q7,q8,g,g1,g2,g3⟩:=R;rw[q5];refine⟨?_,rfl⟩;refine CC.sl xs p.1 0 p.2 sz D Ei (0,0) g ?_ g1 (λi x j c a X=>(g2 i x j c a X).1.mono M) (λi x j c a X=>(g2 i x j c a X).2) (λi j a X=>by rw[Nat.zero_add];exact g3 i j a X) q.1 q8;rw[N p.1 (by rw[e1];exact .inr ⟨i,p.2,J⟩)];exact q6);have:=CC.sl (σ:=σ') (f.map (.sl sz)) b 0 f.length 1 C E (0,0) (λn _=>(C[n]?).getD undef) a6
   (λi x hx=>by rw[getElem?_map]at hx;cases K:f[i]? with| none=>rw[K]at hx;cases hx| some xs=>rw[K]at hx;cases hx;rfl) (λi x j c hx hj=>by
    rw[getElem?_map]at hx;cases K:f[i]? with
    | none=>rw[K]at hx;cases hx
    | some xs=>rw[K]at hx;cases hx;obtain⟨u,O,u2,_⟩:=k i xs K;cases j with| zero=>cases hj;rw[O];exact u2| succ j=>cases hj) (λi x j c hx hj=>by rw[getElem?_map]at hx;cases K:f[i]? with| none=>rw[K]at hx;cases hx| some xs=>obtain⟨u,O,_,u3⟩:=k i xs K;rw[O];exact u3) (λi j hi hj=>by have a1:j=0:=ω;subst a1;rw[length_map]at hi;rw[Nat.zero_add,Nat.mul_one,Nat.add_zero];obtain⟨u,O,_⟩:=k i f[i] (getElem?_eq_getElem hi);rw[O];rfl) (by rw[length_map];exact Z) (by rw[length_map];exact Nat.le_refl _)
  rwa [length_map]at this
theorem St.newNest (s:St σ ι H F W w) (h:Nat) (A:H h = .none) (E Ei:TypeId) (sz m:Nat) (B:0<sz) (hm:m<=140737488355328) (C:Array Value) (u:C.size=m) (hc:∀(i:Nat) (v:Value),C[i]? = some v->v = .slice none 0 0) : St σ (Aj ι h (.nst w.heap.size λ_=>none)) (Aj H h (.nest E Ei sz (replicate m (.own [])))) F W (w.alloc (.cells C E)) /\ Le σ ι H σ (Aj ι h (.nst w.heap.size λ_=>none)) (Aj H h (.nest E Ei sz (replicate m (.own [])))):=by
 have q:ι h = .none:=by have:=s.obj h;unfold Bw at this;rw[A]at this;exact this
 have le:Le σ ι H σ (Aj ι h (.nst w.heap.size λ_=>none)) (Aj H h (.nest E Ei sz (replicate m (.own [])))):=Le.upd (Aw.le_refl σ) h _ _ (by rw[q,A];exact HLe.of_none);obtain⟨f,k⟩:=s.fresh;refine⟨s.touch h w.heap.size (λx e=>Be _ _ e) (λx e=>Be _ _ e) le ?_ (λ_ _=>rfl) (λo z=>by rw[f]at z;cases z) ?_ k ?_ ?_ rfl rfl rfl,le⟩
 .intro b hb;show (w.heap.push _)[b]? = _;rw[Array.getElem?_push,if_neg hb]
 .intro x e u hb;have:=(s.block u hb).1;omega
 .intro b _ hb;rw[Ba]at hb;rcases hb with hb|⟨i,t,hb⟩
  .exact .inl hb.symm
  .cases hb
 .unfold Bw;rw[Ba,Ba];refine⟨⟨B,by rw[length_replicate];exact hm⟩,w.heap.size,_,C,rfl,f,k,?_,by rw[length_replicate];exact u,(λi p e=>by cases e),(λi j c t G e=>by cases e),λi y v hy D=>?_⟩
  .show (w.heap.push _)[w.heap.size]? = _;simp
  .have:=Dz hy;simp at this;rw[this.2];exact⟨Nat.zero_le _,rfl,hc i v D⟩
section
variable {P:Program} {o:Oper} {ρ:Operand->AV} {a:Act} {next:Act->World->Prop} {Q:Exit->Act->World->Prop}
variable {T:Cw} {ys:List NC} {h n off sz:Nat} {x y:Operand} {i:TI} {E Ei t:TypeId}
theorem Ar0 (V:C3 P T) {f:TI} {e:TypeId} {k S:IntKind} {m:Nat} (h:Nat) (N:o.op = .makeSlice t x y) (ht:T t=some i) (hd:i.d = .slice e) (he:T e=some f) (hz:f.size=1) (hv:f.zero = [.slice none 0 0]) (hx:ρ x = .val (.int k (m:Int))) (hy:ρ y = .val (.int S (m:Int))) (hb:f.bytes*m<=281474976710656) (hm:m<=100000) (J:0<sz) : B2 P o ρ ⟨.vec h m,[(h,.none)],[(h,.nest e Ei sz (replicate m (.own [])))]⟩:=by
 intro σ ι H F W w a next Q s j L hk
 have hn:H h = .none:=L (h,.none) ψ;have h1:=Dj hx (j x (by simp[N,Op.operands]));have h2:=Dj hy (j y (by simp[N,Op.operands]));obtain⟨U,u,z,k1,Z,k3,k4,k5,k6,R⟩:=D6 (V t i ht);rw[hd]at R;subst R;obtain⟨c,u',O,G,Y,E,D,B,A,X⟩:=D6 (V e f he);have b:=run_make (P:=P) w t e c O Z G E k S (m:Int) (m:Int) ω ω (by have h':((f.bytes*m:Nat):Int)<=281474976710656:=ω;rw[Int.natCast_mul]at h';rw[B];exact h') ω;rw[Int.toNat_natCast,D,hz,Nat.mul_one]at b;have I:O.cells = #[.slice none 0 0]:=by apply Array.ext';rw[<-A,hv]
 rw[I]at b;obtain⟨s',le⟩:=s.newNest h hn e Ei sz m J ω (madeCells #[.slice none 0 0] m) (by simp[madeCells]) (by intro q u K;have M:q<m:=(by have:=(Array.getElem?_eq_some_iff.1 K).1;simpa[madeCells] using this);unfold madeCells at K;simp[M]at K;rw[<-K,Nat.mod_one];rfl);refine Fc (v:=.slice (some ⟨w.heap.size,0,none⟩) m m) ?_ (hk _ _ _ _ le s' ?_)
 .simp[execOp,N,h1,h2,b]
 .exact .vec h m _ (by rw[Ba];rfl)
theorem Ar1 (N:C3 P T) {xs:List AV} (I:o.op = .load t x) (ht:T t=some i) (B:i.isAgg=false) (hx:ρ x = .loc h off) (K:ys[off]? = some (.own xs)) : B2 P o ρ ⟨.arr n xs.length 0 xs.length,[(h,.nest E Ei sz ys),(n,.none)],[(h,.nest E Ei sz (ys.set off (.lent n xs.length))),(n,.rows Ei sz xs)]⟩:=by
 intro σ ι H F W w a next Q s y j hk
 have A:H h = .nest E Ei sz ys:=j (h,.nest E Ei sz ys) ψ;have z:H n = .none:=j (n,.none) ψ;have hp:=y x (by simp[I,Op.operands]);rw[hx]at hp;obtain⟨b,hb,M⟩:=hp.loc_inv;have c:=s.obj h;unfold Bw at c;rw[A]at c;obtain⟨h0,R,S,C,J,h1,h2,h3,O,X,V,U⟩:=c;rw[J]at hb;cases hb;have q:off<C.size:=by rw[O];exact (Eo.1 K).1
 have f:w.cell? ⟨b,off,none⟩=some C[off]:=by rw[I1 h3];simp[q]
 obtain⟨s',le⟩:=s.takeN A J z K;refine Fc (W9 I (N t i ht) B M f) (hk σ _ _ w le s' ?_);have c:=s'.obj h;have k:h≠n:=by intro e;subst e;rw[A]at z;cases z
 unfold Bw at c;rw[Be _ _ k,Ba,Be _ _ k,Ba]at c;obtain⟨_,R,L,Y,G,_,_,u,_,_,_,D⟩:=c;cases G;rw[h3]at u;cases u;exact (D off (.lent n xs.length) C[off] (getElem?_set_self ω) (by simp[q])).2
theorem Ar2 (O:C3 P T) {len:Nat} (I:o.op = .store t x y) (ht:T t=some i) (N:i.size=1) (hx:ρ x = .loc h off) (hy:ρ y = .arr n len 0 len) (hi:off<ys.length) : B2 P o ρ ⟨.val undef,[(h,.nest E Ei sz ys)],[(h,.nest E Ei sz (ys.set off (.lent n len)))]⟩:=by
 intro σ ι H F W w a next Q s B G hk
 have J:H h = .nest E Ei sz ys:=G (h,.nest E Ei sz ys) ψ;have hp:=B x (by simp[I,Op.operands]);have K:=B y (by simp[I,Op.operands]);rw[hx]at hp;rw[hy]at K;obtain⟨b,hb,M⟩:=hp.loc_inv;have z:=s.obj h;unfold Bw at z;rw[J]at z;obtain⟨h0,Y,R,C,L,h1,h2,h3,X,V,U,S⟩:=z;rw[L]at hb;cases hb;have f:Dy (a.eval y)=true:=by cases K with| cc h=>cases h| arr _ _ _ _ _ g1 g2 g3=>exact g3
 have k:(a.eval y).cells = #[a.eval y]:=by cases A:a.eval y with| agg vs=>rw[A]at f;cases f| _=>rfl
 have q:=Aa0 (P:=P) (w:=w) (O t i ht) (off:=off) (v:=a.eval y) h3 (by rw[k,N];rfl) (by rw[k];simp;omega) (by rw[k];intro u hu;simp at hu;subst hu;exact f);rw[k]at q;obtain⟨s',le⟩:=s.lendN (i:=off) (n:=n) (len:=len) J L hi K h3 (w.setRow b (C.toList.take off ++ #[a.eval y].toList++C.toList.drop (off + #[a.eval y].toList.length)).toArray) (C.toList.take off ++ #[a.eval y].toList++C.toList.drop (off + #[a.eval y].toList.length)).toArray ζ (by have D:(C.toList.take off).length=off:=ζ;rw[getElem?_toArray,append_assoc,getElem?_append_right ω,D,Nat.sub_self];rfl)
  (λj hj=>by
   rw[getElem?_toArray];rcases Nat.lt_or_ge j off with e|e
   .rw[getElem?_append_left ζ,getElem?_append_left ζ,Gz e,Ft]
   .rw[getElem?_append_right ζ,getElem?_drop,Ft];congr 1;simp;omega) (setRow_heap w b C _ E (0,0) h3) (λc e=>W6 w b c _ e) rfl rfl rfl (Nat.le_refl _);refine W7 (w':=_) ?_ (hk σ _ undef _ le s' (.of_val _));simp[execOp,I,M,q]
end
end
variable {F σ:Aw} {ι:Bq} {H:Hp} {W w:World}
theorem St.newMap (s:St σ ι H F W w) (h:Nat) (k:H h = .none) : St σ (Aj ι h (.box w.heap.size)) (Aj H h (.map [])) F W (w.alloc (.map #[] 0))/\Le σ ι H σ (Aj ι h (.box w.heap.size)) (Aj H h (.map [])):=by
 have i:ι h = .none:=by have:=s.obj h;unfold Bw at this;rw[k]at this;exact this
 have le:Le σ ι H σ (Aj ι h (.box w.heap.size)) (Aj H h (.map [])):=Le.upd (Aw.le_refl σ) h _ _ (by rw[i,k];exact HLe.of_none);obtain⟨c,f⟩:=s.fresh;refine⟨s.touch h w.heap.size (λx e=>Be _ _ e) (λx e=>Be _ _ e) le ?_ (λ_ _=>rfl) (λo j=>by rw[c]at j;cases j) ?_ f ?_ ?_ rfl rfl rfl,le⟩
 .intro b hb;show (w.heap.push _)[b]? = _;rw[Array.getElem?_push,if_neg hb]
 .intro x e q hb;have:=(s.block q hb).1;omega
 .intro b _ hb;rw[Ba]at hb;simp only[Loc.has]at hb;exact .inl hb.symm
 .unfold Bw;rw[Ba];refine⟨w.heap.size,#[],0,Ba _ _ _,c,f,?_,rfl,ψ⟩;show (w.heap.push _)[w.heap.size]? = _;simp
theorem St.setMap (s:St σ ι H F W w) (h:Nat) (es c:List (AV×AV)) (i:H h = .map es) (b:Nat) (hb:ι h = .box b) (j:Array MapEntry) (k:Nat) (B:Pd σ c j) : St σ ι (Aj H h (.map c)) F W {w with heap:=w.heap.setIfInBounds b (.map j k)}/\Le σ ι H σ ι (Aj H h (.map c)):=by
 have q:=s.obj h;unfold Bw at q;rw[i]at q;obtain⟨G,M,t,z,h1,h2,h3,D⟩:=q;rw[z]at hb;cases hb;have hb:=z
 have le:Le σ ι H σ ι (Aj H h (.map c)):=by have:=Le.upd (ι:=ι) (H:=H) (Aw.le_refl σ) h (ι h) (.map c) (by rw[i];exact⟨λ_ e=>e,(λ_ e=>by cases e),(λ_ _ _ _ e=>by cases e)⟩);rwa [Hk]at this
 have f:=Go.MapKept.heap_set (w:=w) (o':=.map j k) h3;refine⟨s.touch h b (λ_ _=>rfl) (λx e=>Be _ _ e) le (λx e=>f.2 x e) (λ_ _=>rfl) (λo e=>by rw[h1]at e;cases e) ?_ h2 ?_ ?_ rfl rfl rfl,le⟩
 .intro x e A u;exact e (s.inj x h b A (by rw[i];rfl) u (by rw[hb];rfl))
 .intro E _ y;exact .inr ⟨by rw[i];rfl,y⟩
 .unfold Bw;rw[Ba];exact⟨b,j,k,hb,h1,h2,f.1,B⟩
def Il (s:ByteArray):List (AV×AV)->Nat->Option (Option (Nat×AV))
 | [],_=>some none
 | p::es,i=> match p.1 with
  | .val (.string t)=>bif s==t then some (some (i,p.2)) else Il s es (i+1)
  | _=>none
def Xl (s:ByteArray) (v:AV) (es:List (AV×AV)):Option (List (AV×AV)) := match Il s es 0 with
 | none=>none
 | some none=>some (es++[(.val (.string s),v)])
 | some (some p)=>some (es.set p.1 (.val (.string s),v))
theorem Xm {σ:Aw} {s:ByteArray}:∀(es:List (AV×AV)) (L:List MapEntry) (i:Nat) (r:Option (Nat×AV)),L.length=es.length ->
  (∀(j:Nat) (p:AV×AV) (e:MapEntry),es[j]? = some p->L[j]? = some e->CC σ p.1 e.key/\CC σ p.2 e.val)->Il s es i=some r ->
  (r=none/\Instr.findNow .string (.string s) L i=some none)\/∃j v e,r=some (i+j,v)/\Instr.findNow .string (.string s) L i=some (some (i+j,e.val))/\L[j]? = some e/\e.key = .string s/\CC σ v e.val/\j<es.length
 | [],[],i,r,k,h,b=>by
  simp only[Il]at b;cases b
  exact .inl ⟨rfl,rfl⟩
 | [],e::L,i,r,k,h,b=>by simp at k
 | p::es,[],i,r,k,h,b=>by simp at k
 | p::es,e::L,i,r,k,h,b=>by
  obtain⟨J,x⟩:=h 0 p e rfl rfl
  simp only[Il]at b
  split at b
  .rename_i t hp
   rw[hp]at J
   have f:e.key = .string t:=by
    generalize e.key=q at J
    cases J;rfl
   cases c:s==t with
   | true=>
    rw[c]at b
    cases b
    have y:s=t:=(Go.MapKept.bytes_beq s t).1 c
    refine .inr ⟨0,p.2,e,rfl,?_,rfl,?_,x,ψ⟩
    .unfold Instr.findNow
     rw[f]
     simp[Instr.sameNow,c]
    .rw[f,y]
   | false=>
    rw[c]at b
    have step:Instr.findNow .string (.string s) (e::L) i=Instr.findNow .string (.string s) L (i+1):=by
     conv=>lhs;unfold Instr.findNow
     rw[f]
     simp[Instr.sameNow,c]
    rcases Xm es L (i+1) r (by simpa using k) (λj u e' D I=>h (j+1) u e' (by simpa using D) (by simpa using I)) b with⟨D,I⟩|⟨j,v,e',D,I,K,B,A,z⟩
    .exact .inl ⟨D,by rw[step];exact I⟩
    .exact .inr ⟨j+1,v,e',by rw[D];congr 2;omega,by rw[step,I];congr 3;omega,by simpa using K,B,A,by simpa using z⟩
  .cases b
section
variable {P:Program} {o:Oper} {ρ:Operand->AV} {a:Act} {w w':World} {next:Act->World->Prop} {Q:Exit->Act->World->Prop}
variable {σ:Aw} {ι:Bq} {s:ByteArray} {T:Cw} {H:Hp} {k:IntKind} {es:List (AV×AV)} {h:Nat} {x y:Operand} {r:Option (Nat×AV)} {i:TI} {A t:TypeId} {v:Value}
def M1:List AV->Option (List Value)
 | []=>some []
 | .val v::xs=>(M1 xs).map (v :: ·)
 | _::_=>none
theorem Abd {σ:Aw} {ι:Bq} {H:Hp}:∀{xs:List AV} {us:List Value} {vs:List Value},M1 xs=some us->vs.length=xs.length->(∀(i:Nat) (c:AV) (v:Value),xs[i]? = some c->vs[i]? = some v->Conc σ ι H c v)->vs=us
 | [],us,vs,h,b,_=>by simp only[M1]at h;cases h;exact length_eq_zero_iff.1 b
 | .val v::xs,us,[],h,b,_=>by simp at b
 | .val v::xs,us,w::vs,h,b,z=>by simp only[M1,Option.map_eq_some_iff]at h;obtain⟨f,A,rfl⟩:=h;have k:=(z 0 _ w rfl rfl).val_inv;have j:=Abd (vs:=vs) A (by simpa using b) λi c u D I=>z (i+1) c u (by simpa using D) (by simpa using I);rw[k,j]
 | .loc .. :: _,_,_,h,_,_ | .arr .. :: _,_,_,h,_,_ | .el .. :: _,_,_,h,_,_ | .mp .. :: _,_,_,h,_,_ | .ref .. :: _,_,_,h,_,_
 | .fm .. :: _,_,_,h,_,_ | .sl .. :: _,_,_,h,_,_ | .agg .. :: _,_,_,h,_,_ | .tup .. :: _,_,_,h,_,_ | .fn .. :: _,_,_,h,_,_=>by simp[M1]at h
def Abe (P:Program) (t:TypeId) (us vs:List Value) (b:Bool):Prop := ∀(w:World) (op:BinOp) (x y:Operand),(eqGuard op t x y (.agg us.toArray) (.agg vs.toArray)).run P w = .ok () w/\(Op.equal t (.agg us.toArray) (.agg vs.toArray)).run P w = .ok b w
theorem Ahe {xs:Array Value} {off:Nat} (w:World) (z:P.underlying t=some (.int k)) (A:xs[off]? = some v):(part t xs off).run P w = .ok v w:=by simp[part,isAgg,run_underlying z,A]
theorem Ahf {b:IntKind} (w:World) (z:P.underlying t=some (.int k)) (d:Nat) (m n:Int):(Op.equalIn (d+1) t (.int b m) (.int b n)).run P w = .ok (m==n) w:=by simp[Op.equalIn,run_underlying z]
theorem Ahg {op:BinOp} {s:TypeId} {xs ys:List AV} {us vs:List Value} {b c:Bool} (f:o.op = .binOp op t x y s) (L:ρ x = .agg xs) (M:ρ y = .agg ys) (N:M1 xs=some us) (O:M1 ys=some vs) (hb:Abe P t us vs b) (R:(op = .eql/\c=b)\/(op = .neq/\c = !b)):B2 P o ρ ⟨.val (.bool c),[],[]⟩ := Em λσ ι H a w h=>by
  refine⟨.bool c,?_,.of_val _⟩;have q:=h x (by simp[f,Op.operands]);have k:=h y (by simp[f,Op.operands]);rw[L]at q;rw[M]at k;obtain⟨j,E,B,S⟩:=q.agg_inv;obtain⟨K,D,A,U⟩:=k.agg_inv;have V:j=us.toArray:=(by have:=Abd (vs:=j.toList) N (by simpa using B) λi c v I J=>S i c v I (by simpa using J);rw[<-this]);have X:K=vs.toArray:=(by have:=Abd (vs:=K.toList) O (by simpa using A) λi c v I J=>U i c v I (by simpa using J);rw[<-this]);subst V;subst X;obtain⟨z,u⟩:=hb w op x y;rcases R with⟨rfl,rfl⟩|⟨rfl,rfl⟩;all_goals
   simp only[execOp,f,E,D,Sem.run_bind,z,Result.andThen_ok,binOp,u,Sem.run_pure]
def Abf (P:Program) (s:TypeId) (f:Nat):Option TypeId := match P.underlying s with
 | some (.struct z)=>(z[f]?).map (·.type)
 | _=>none
theorem Ahh (J:C3 P T) {A:TypeId} {f:Nat} {k:TI} {fs:List (Nat×Nat)} {q:Nat×Nat} {cs:List AV} {r:AV} (I:o.op = .field t x f) (ht:T t=some i) (hd:i.d = .struct fs) (hq:fs[f]? = some q) (V:Abf P t f=some A) (M:T A=some k) (hx:ρ x = .agg cs) (U:(k.isAgg=true/\q.1+k.size<=cs.length/\r = .agg ((cs.drop q.1).take k.size))\/(k.isAgg=false/\cs[q.1]? = some r)):B2 P o ρ ⟨r,[],[]⟩ := Em λσ ι H a w h=>by
  have hc:=h x (by simp[I,Op.operands]);rw[hx]at hc;obtain⟨K,N,O,c1⟩:=hc.agg_inv;obtain⟨_,u,_,_,E,_,_,_,_,L⟩:=D6 (J t i ht);rw[hd]at L;obtain⟨X,rfl,R,_⟩:=L;unfold Abf at V;rw[E]at V;simp only[Option.map_eq_some_iff]at V;obtain⟨B,g1,g2⟩:=V;have b:q.1=B.offset:=(by rw[R,getElem?_map,Ft,g1]at hq;simp at hq;rw[<-hq]);have y:=W8 (J A k M) w;have G:=M0 (J A k M) w;subst g2;rcases U with⟨D,z,rfl⟩|⟨D,z⟩
  .refine⟨.agg (K.extract B.offset (B.offset+k.size)),?_,.agg _ _ (by simp[b]at z ⊢;omega) λj c u m1 m2=>?_⟩
   .simp[execOp,I,N,Instr.field,run_underlying E,g1,asAgg,part,y,D,G,Result.andThen]
   .rw[b]at m1;have hj:j<k.size:=(by have:=(Eo.1 m1).1;simp at this;omega);rw[Gz hj,getElem?_drop]at m1;rw[Array.getElem?_extract]at m2;split at m2
    .exact c1 _ c u m1 m2
    .cases m2
  .have s:q.1<K.size:=(by rw[O];exact (Eo.1 z).1);have S:K[B.offset]? = some K[q.1]:=(by rw[<-b];simp[s]);refine⟨K[q.1],?_,c1 q.1 r _ z (by simp[s])⟩;simp[execOp,I,N,Instr.field,run_underlying E,g1,asAgg,part,y,D,S,Result.andThen]
theorem Ar3 (h:Nat) (c:o.op = .makeMap t none):B2 P o ρ ⟨.mp h,[(h,.none)],[(h,.map [])]⟩:=by
 intro σ ι H F W w a next Q s D b z
 have f:H h = .none:=b (h,.none) ψ;obtain⟨A,le⟩:=s.newMap h f;refine Fc (v:=.map (some w.heap.size)) (w':=w.alloc (.map #[] 0)) ?_ (z σ _ _ _ le A (.mp h w.heap.size (by rw[Ba];rfl)));simp[execOp,c,Instr.makeMap,newObj,Sem.run]
theorem Conc.mp_inv (hc:Conc σ ι H (.mp h) v):∃b,(ι h).base? = some b/\v = .map (some b):=by cases hc with| cc h=>cases h| mp _ b hb=>exact⟨b,hb,rfl⟩
def Rb (b:Bool) (i:TI):Option (Nat×AV)->AV
 | none=>bif b then .tup [Fd i,.val (.bool false)] else Fd i
 | some p=>bif b then .tup [p.2,.val (.bool true)] else p.2
theorem Ahi {z:Value} (A:z.cells.toList=i.zero) (L:i.isAgg=true->∃D,z = .agg D) (I:i.isAgg=false->Dy z=true):Conc σ ι H (Fd i) z:=by
 cases b:i.isAgg with
 | true=>obtain⟨D,rfl⟩:=L b;have f:Fd i = .agg (i.zero.map .val):=(by unfold TI.isAgg at b;unfold Fd;cases J:i.d <;> rw[J]at b <;> first|rfl|cases b);rw[f,<-A];refine .agg _ D (by simp[Value.cells]) λj c v K M=>?_;simp only[Value.cells,getElem?_map,Ft,M]at K;simp at K;subst K;exact .of_val v
 | false=>have I:=I b;have f:z.cells = #[z]:=(by cases z <;> first|rfl|cases I);rw[f]at A;have:Fd i = .val z:=(by unfold TI.isAgg at b;unfold Fd;rw[<-A];cases J:i.d <;> rw[J]at b <;> first|rfl|cases b);rw[this];exact .of_val z
theorem Ar4 (hT:C3 P T) {V:TypeId} {G:Bool} {X J:TI} (E:o.op = .lookup t x y G) (ht:T t=some i) (hd:i.d = .map V A) (hk:T V=some X) (a1:X.d = .string) (he:T A=some J) (hx:ρ x = .mp h) (hy:ρ y = .val (.string s)) (hr:Il s es 0=some r) : B2 P o ρ ⟨Rb G J r,[(h,.map es)],[]⟩:=by
 intro σ ι H F W w a next Q st O Y Z
 have hh:H h = .map es:=Y (h,.map es) ψ;have R:=O x (by simp[E,Op.operands]);rw[hx]at R;obtain⟨b,hb,U⟩:=R.mp_inv;have k:=Dj hy (O y (by simp[E,Op.operands]));have D:=st.obj h;unfold Bw at D;rw[hh]at D;obtain⟨b',M,q,e1,_,_,h3,h4⟩:=D;rw[e1]at hb;cases hb;have hb:=e1
 obtain⟨_,u,_,_,S,_,_,_,_,k7⟩:=D6 (hT t i ht);rw[hd]at k7;subst k7;obtain⟨_,u',_,_,f,_,_,_,_,I⟩:=D6 (hT V X hk);rw[a1]at I;subst I;have K:Go.MapKept.IsKey .string (.string s):=trivial;have B:∀v,Conc σ ι H (Rb G J r) v->(execOp a.eval o).run P w = .ok (.value v) w->o.wp P a w next Q:=by intro v hc N;exact Fc N (Z σ ι v w (Le.refl _ _ _) st hc)
 rcases Xm es M.toList 0 r (by simpa using h4.1) (λj p e g1 g2=>h4.2 j p e g1 (by simpa using g2)) hr with⟨rfl,hf⟩|⟨j,v,e,rfl,hf,g1,g2,g3,_⟩
 .obtain⟨z,hz,c1,c2,c3⟩:=Agx (hT A J he) w;have L:Conc σ ι H (Fd J) z:=Ahi c1 c2 c3;cases G with
  | true=>
   refine B (.tuple #[z,.bool false]) (.tup _ _ ψ λi c u m1 m2=>?_) ?_
   .match i with| 0=>simp at m1 m2;subst m1;subst m2;exact L| 1=>simp at m1 m2;subst m1;subst m2;exact .of_val _| i+2=>simp at m1
   .simp[execOp,E,U,k,Instr.lookup,run_underlying S,Go.MapKept.run_getObj_map h3,Go.MapKept.run_checkKey f K,Go.MapKept.run_findKey f hf,hz,Result.andThen]
  | false=>refine B z L ?_;simp[execOp,E,U,k,Instr.lookup,run_underlying S,Go.MapKept.run_getObj_map h3,Go.MapKept.run_checkKey f K,Go.MapKept.run_findKey f hf,hz,Result.andThen]
 .cases G with
  | true=>
   refine B (.tuple #[e.val,.bool true]) (.tup _ _ ψ λi c u m1 m2=>?_) ?_
   .match i with| 0=>simp at m1 m2;subst m1;subst m2;exact .cc g3| 1=>simp at m1 m2;subst m1;subst m2;exact .of_val _| i+2=>simp at m1
   .simp[execOp,E,U,k,Instr.lookup,run_underlying S,Go.MapKept.run_getObj_map h3,Go.MapKept.run_checkKey f K,Go.MapKept.run_findKey f hf,Result.andThen]
  | false=>refine B e.val (.cc g3) ?_;simp[execOp,E,U,k,Instr.lookup,run_underlying S,Go.MapKept.run_getObj_map h3,Go.MapKept.run_checkKey f K,Go.MapKept.run_findKey f hf,Result.andThen]
theorem Conc.fm_inv (hc:Conc σ ι H (.fm es) v):∃(b:Nat) (M:Array MapEntry) (t:Nat),σ b=some (.map M t)/\v = .map (some b)/\Pd σ es M:=by
 cases hc with
 | cc h=>cases h with| fm _ b M t c j hk f=>exact⟨b,M,t,c,rfl,j,λi p e h1 h2=>⟨hk i p e h1 h2,f i p e h1 h2⟩⟩
theorem Ar5 (Z:C3 P T) {U:TypeId} {E:Bool} {V I:TI} (D:o.op = .lookup t x y E) (ht:T t=some i) (hd:i.d = .map U A) (hk:T U=some V) (Y:V.d = .string) (he:T A=some I) (hx:ρ x = .fm es) (hy:ρ y = .val (.string s)) (hr:Il s es 0=some r) : B2 P o ρ ⟨Rb E I r,[],[]⟩:=by
 intro σ ι H F W w a next Q st N a1 X
 have O:=N x (by simp[D,Op.operands]);rw[hx]at O;obtain⟨b,M,q,hσ,S,h4⟩:=O.fm_inv;have k:=Dj hy (N y (by simp[D,Op.operands]));have h3:=st.sto _ _ hσ;obtain⟨_,u,_,_,R,_,_,_,_,k7⟩:=D6 (Z t i ht);rw[hd]at k7;subst k7;obtain⟨_,u',_,_,f,_,_,_,_,G⟩:=D6 (Z U V hk);rw[Y]at G;subst G;have K:Go.MapKept.IsKey .string (.string s):=trivial;have B:∀v,Conc σ ι H (Rb E I r) v->(execOp a.eval o).run P w = .ok (.value v) w->o.wp P a w next Q:=by intro v hc L;exact Fc L (X σ ι v w (Le.refl _ _ _) st hc)
 rcases Xm es M.toList 0 r (by simpa using h4.1) (λj p e g1 g2=>h4.2 j p e g1 (by simpa using g2)) hr with⟨rfl,hf⟩|⟨j,v,e,rfl,hf,g1,g2,g3,_⟩
 .obtain⟨z,hz,c1,c2,c3⟩:=Agx (Z A I he) w;have J:Conc σ ι H (Fd I) z:=Ahi c1 c2 c3;cases E with
  | true=>
   refine B (.tuple #[z,.bool false]) (.tup _ _ ψ λi c u m1 m2=>?_) ?_
   .match i with| 0=>simp at m1 m2;subst m1;subst m2;exact J| 1=>simp at m1 m2;subst m1;subst m2;exact .of_val _| i+2=>simp at m1
   .simp[execOp,D,S,k,Instr.lookup,run_underlying R,Go.MapKept.run_getObj_map h3,Go.MapKept.run_checkKey f K,Go.MapKept.run_findKey f hf,hz,Result.andThen]
  | false=>refine B z J ?_;simp[execOp,D,S,k,Instr.lookup,run_underlying R,Go.MapKept.run_getObj_map h3,Go.MapKept.run_checkKey f K,Go.MapKept.run_findKey f hf,hz,Result.andThen]
 .cases E with
  | true=>
   refine B (.tuple #[e.val,.bool true]) (.tup _ _ ψ λi c u m1 m2=>?_) ?_
   .match i with| 0=>simp at m1 m2;subst m1;subst m2;exact .cc g3| 1=>simp at m1 m2;subst m1;subst m2;exact .of_val _| i+2=>simp at m1
   .simp[execOp,D,S,k,Instr.lookup,run_underlying R,Go.MapKept.run_getObj_map h3,Go.MapKept.run_checkKey f K,Go.MapKept.run_findKey f hf,Result.andThen]
  | false=>refine B e.val (.cc g3) ?_;simp[execOp,D,S,k,Instr.lookup,run_underlying R,Go.MapKept.run_getObj_map h3,Go.MapKept.run_checkKey f K,Go.MapKept.run_findKey f hf,Result.andThen]
theorem Conc.cc_free1 {x:AV} (hx:x.free1=true) (h:Conc σ ι H x v):CC σ x v:=by cases x with| agg cs=>obtain⟨vs,rfl,b,h⟩:=h.agg_inv;exact .agg cs vs b λi c u h1 h2=>((h i c u h1 h2).cc_of (Dh.1 hx c (Dz h1))).1| val u=>exact (h.cc_of (x:=.val u) hx).1| sl sz xs=>exact (h.cc_of (x:=.sl sz xs) hx).1| _=>cases hx
theorem Ar6 (hT:C3 P T) {kt:TypeId} {z:Operand} {ik:TI} {k:List (AV×AV)} (S:o.op = .mapUpdate t x y z) (ht:T t=some i) (hd:i.d = .map kt A) (hk:T kt=some ik) (a7:ik.d = .string) (hx:ρ x = .mp h) (hy:ρ y = .val (.string s)) (hz:(ρ z).free1=true) (K:Xl s (ρ z) es=some k) : B2 P o ρ ⟨.val undef,[(h,.map es)],[(h,.map k)]⟩:=by
 intro σ ι H F W w a next Q st B a1 a6
 have hh:H h = .map es:=a1 (h,.map es) ψ;have X:=B x (by simp[S,Op.operands]);rw[hx]at X;obtain⟨b,hb,hv⟩:=X.mp_inv;have O:=Dj hy (B y (by simp[S,Op.operands]));have V:=(B z (by simp[S,Op.operands])).cc_free1 hz;have D:=st.obj h;unfold Bw at D;rw[hh]at D;obtain⟨b',M,q,e1,_,_,h3,f⟩:=D;rw[e1]at hb;cases hb;have hb:=e1
 obtain⟨_,u,_,_,k2,_,_,_,_,k7⟩:=D6 (hT t i ht);rw[hd]at k7;subst k7;obtain⟨_,u',_,_,c,_,_,_,_,N⟩:=D6 (hT kt ik hk);rw[a7]at N;subst N;have G:Go.MapKept.IsKey .string (.string s):=trivial;have U:∀Y Z,Pd σ k Y->(execOp a.eval o).run P w = .ok .skip {w with heap:=w.heap.setIfInBounds b (.map Y Z)}->o.wp P a w next Q:=by intro Y Z hM R;obtain⟨s',le⟩:=st.setMap h es k hh b hb Y Z hM;exact W7 R (a6 σ ι undef _ le s' (.of_val _))
 unfold Xl at K;cases J:Il s es 0 with
 | none=>rw[J]at K;cases K
 | some r=>
  rw[J]at K;rcases Xm es M.toList 0 r (by simpa using f.1) (λj p e g1 g2=>f.2 j p e g1 (by simpa using g2)) J with⟨rfl,hf⟩|⟨j,v,e,rfl,hf,g1,g2,g3,g4⟩
  .simp only[Option.some.injEq]at K;subst K;refine U (M.push {key:=.string s,val:=a.eval z,born:=q}) (q+1) ⟨by simp[f.1],λL p e m1 m2=>?_⟩ ?_
   .rcases Nat.lt_or_ge L es.length with E|a0
    .rw[getElem?_append_left E]at m1;rw[Array.getElem?_push_lt (by rw[f.1];exact E)]at m2;exact f.2 L p e m1 (by rw[Array.getElem?_eq_getElem (by rw[f.1];exact E)];exact m2)
    .rw[getElem?_append_right a0]at m1;have a8:L=es.length:=(by have:=(Eo.1 m1).1;simp at this;omega);subst a8;simp at m1;subst m1;rw[<-f.1]at m2;simp at m2;subst m2;exact⟨.val _,V⟩
   .simp[execOp,S,hv,O,Instr.mapUpdate,run_underlying k2,Go.MapKept.run_getObj_map h3,Go.MapKept.run_checkKey c G,Go.MapKept.run_findKey c hf,Go.MapKept.run_setObj_map _ h3,Result.andThen]
  .simp only[Option.some.injEq]at K;subst K;have hj:M[j]? = some e:=(by simpa using g1);refine U (M.modify j λe=>{e with key:=.string s,val:=a.eval z}) q ⟨by simp[f.1],λL p e' m1 m2=>?_⟩ ?_
   .simp only[Nat.zero_add]at m1;rw[getElem?_set]at m1;rw[Array.getElem?_modify]at m2;by_cases I:j=L
    .subst I;simp only[if_true]at m1 m2;rw[if_pos g4]at m1;cases m1;rw[hj]at m2;simp at m2;subst m2;exact⟨.val _,V⟩
    .rw[if_neg I]at m1;rw[if_neg I]at m2;exact f.2 L p e' m1 m2
   .simp[execOp,S,hv,O,Instr.mapUpdate,run_underlying k2,Go.MapKept.run_getObj_map h3,Go.MapKept.run_checkKey c G,Go.MapKept.run_findKey c hf,hj,g2,Go.MapKept.run_keyThatStays G,Go.MapKept.run_setObj_map _ h3,Result.andThen]
end
def ev (e:Bs):Operand->AV
 | .tmp t=>e t
 | .const v=>.val v
 | .global g=>.val (.pointer (some ⟨g,0,none⟩))
 | .func f=>.fn f []
def put (e:Bs) (d:Option Nat) (v:AV):Bs := match d with
 | none=>e
 | some n=>Aj e n v
def Abg:Operand->Option Nat
 | .tmp t=>some t
 | _=>none
def Rc (ops:Array Oper) (o:Oper):Option Nat := match o.guard with
 | none=>none
 | some p=>(ops[p.1]?).bind (·.dst)
def J1 (ops:Array Oper) (o:Oper):List Nat:=o.op.operands.toList.filterMap Abg++(Rc ops o).toList
def Ee (σ:Aw) (ι:Bq) (H:Hp) (e:Bs) (a:Act):Prop:=∀s,s<a.tmps.size->Conc σ ι H (e s) (a.tmps.getD s undef)
section
variable {σ:Aw} {ι:Bq} {H:Hp} {e:Bs} {a:Act}
theorem Ee.eval (h:Ee σ ι H e a) {x:Operand} (hx:∀t,Abg x=some t->t<a.tmps.size):Conc σ ι H (ev e x) (a.eval x):=by cases x with| tmp t=>exact h t (hx t rfl)| const v=>exact .of_val v| global g=>exact .of_val _| func f=>exact .fn f [] #[] rfl ψ
theorem Ee.mono {σ':Aw} {ι':Bq} {H':Hp} (h:Ee σ ι H e a) (le:Le σ ι H σ' ι' H'):Ee σ' ι' H' e a:=λs b=>(h s b).mono le
theorem Ee.put (h:Ee σ ι H e a) {d:Option Nat} {r:AV} {v:Value} (f:Conc σ ι H r v):Ee σ ι H (put e d r) (a.put d v):=by
 cases d with
 | none=>exact h
 | some n=>
  intro s b;simp only[Act.put,Array.size_setIfInBounds]at b;simp only[Ab.put,Act.put];by_cases c:s=n
  .subst c;rw[Ba];simpa[b] using f
  .rw[Be _ _ c];have:=h s b;simp only[Array.getD_eq_getD_getElem?]at this ⊢;rw[Array.getElem?_setIfInBounds_ne ω];exact this
end
variable {a b:Act} {ops:Array Oper} {f:List Nat} {o:Oper}
def Ph:Value->Option Bool
 | .bool b=>some b
 | _=>none
def Jc (ops:Array Oper) (o:Oper) (e:Bs) (on:Bool):Prop := match o.guard with
 | none=>on=true
 | some p=>∃s v,(ops[p.1]?).bind (·.dst)=some s/\e s = .val v/\on=(Ph v==some p.2)
theorem Ahj {e:Bs} {on:Bool} {σ:Aw} {ι:Bq} {H:Hp} (f:Jc ops o e on) (k:Ee σ ι H e a) (j:∀s,Rc ops o=some s->s<a.tmps.size) : Region.wanted o (yielded ops a.tmps)=on:=by unfold Jc at f;unfold Region.wanted;cases h:o.guard with| none=>rw[h]at f;exact f.symm| some p=>rw[h]at f;obtain⟨s,b,z,D,I⟩:=f;have c:=j s (by unfold Rc;rw[h];exact z);have A:=k s c;rw[D]at A;have i:=A.val_inv;have:yielded ops a.tmps p.1=Ph b:=(by unfold yielded;rw[z];simp only[Option.bind_some];have:a.tmps[s]? = some b:=(by rw[Array.getD_eq_getD_getElem?]at i;simp[c]at i ⊢;exact i);rw[this];cases b <;> rfl);show (yielded ops a.tmps p.1==some p.2)=on;rw[this,I]
abbrev Acc:=Nat->List Nat×List Nat
def J2 (P:Program) (ops:Array Oper) (acc:Acc) (i:Nat) (o:Oper) (e:Bs) (H:Hp) (r:AV) (c:List (Nat×Bg)):Prop := ops[i]? = some o /\ ((Jc ops o e true/\∃b,B2 P o (ev e) b/\(∀p∈b.rd,H p.1=p.2)/\(∀p∈b.rd,p.1∈(acc i).1)/\(∀p∈b.wr,p.1∈(acc i).2)/\r=b.r/\c=b.wr) \/ (Jc ops o e false/\r = .val undef/\c = []))
inductive Run (P:Program) (ops:Array Oper) (acc:Acc):List Nat->Bs->Hp->Bs->Hp->Prop where
 | nil (e:Bs) (H:Hp):Run P ops acc [] e H e H
 | cons {i:Nat} {l:List Nat} {e e':Bs} {H H':Hp} (o:Oper) (r:AV) (wr:List (Nat×Bg)) (hd:J2 P ops acc i o e H r wr)
   (rest:Run P ops acc l (put e o.dst r) (Bz H wr) e' H'):Run P ops acc (i::l) e H e' H'
def Ez (b:List Nat) (a c:Act):Prop:=∀s,s ∉ b->c.tmps.getD s undef=a.tmps.getD s undef
theorem Ez.refl (b:List Nat) (a:Act):Ez b a a:=λ_ _=>rfl
theorem Ez.trans {c:Act} (h:Ez f a b) (h':Ez f b c):Ez f a c:=λs i=>(h' s i).trans (h s i)
theorem Ez.mono {c:List Nat} (h:Ez f a b) (hm:∀s∈f,s∈c):Ez c a b:=λs i=>h s (λx=>i (hm s x))
theorem Ez.put (a:Act) (d:Option Nat) (v:Value) (b:List Nat) (h:∀s,d=some s->s∈b):Ez b a (a.put d v):=by cases d with| none=>exact Ez.refl _ _| some n=>intro s c;have f:s≠n:=λe=>c (e ▸ h n rfl);simp only[Act.put,Array.getD_eq_getD_getElem?];rw[Array.getElem?_setIfInBounds_ne ω]
def N2 (ops:Array Oper):List Nat:=ops.toList.filterMap (·.dst)
theorem Ez.step {i:Nat} (c:ops[i]? = some o) (a:Act) (v:Value):Ez (N2 ops) a (a.put o.dst v):=by refine Ez.put a o.dst v _ λs b=>?_;unfold N2;rw[mem_filterMap];exact⟨o,by simpa using Array.mem_of_getElem? c,b⟩
def Ty (ops:Array Oper) (n:Nat):Prop:=∀(i:Nat) (o:Oper),ops[i]? = some o->∀s∈J1 ops o,s<n
section
variable {P:Program} {ops:Array Oper} {acc:Acc} {F:Aw} {W:World} {Q:Exit->Act->World->Prop}
variable {r:AV} {e e':Bs} {H H':Hp} {l:List Nat} {i:Nat} {o:Oper} {d:Option Nat}
theorem Ahk (a:Act) (d:Option Nat) (v:Value):(a.put d v).tmps.size=a.tmps.size:=by cases d <;> simp[Act.put]
theorem Run.wpOp (h:Run P ops acc (i::l) e H e' H') {σ:Aw} {ι:Bq} {a:Act} {w:World} (s:St σ ι H F W w) (k:Ee σ ι H e a) (D:Ty ops a.tmps.size) {K:Act->World->Prop} (hk:∀(B:Bs) (u:Hp),Run P ops acc l B u e' H'->∀σ' ι' q w',Le σ ι H σ' ι' u->St σ' ι' u F W w'->Ee σ' ι' u B q->q.tmps.size=a.tmps.size->q.defers=a.defers->Ez (N2 ops) a q->K q w') : wpOp P ops Q i K a w:=by
 have c:∀(d:Option Nat) (v:Value),(a.put d v).defers=a.defers:=by intro d v;cases d <;> rfl
 cases h with
 | cons o r wr hd rest=>
  obtain⟨j,hd⟩:=hd;unfold Go.wpOp;have f:=D i o j;rcases hd with⟨A,E,b,z,_,_,rfl,rfl⟩|⟨A,rfl,rfl⟩
  .have y:=Ahj A k λI h'=>f I (by simp[J1,h']);rw[j];simp only[y,if_true];refine .inl (b σ ι H F W w a K Q s (λx hx=>k.eval λt J=>f t ?_) z ?_)
   .simp only[J1,mem_append,mem_filterMap];exact .inl ⟨x,hx,J⟩
   .intro σ' ι' v w' le I hc;exact hk _ _ rest σ' ι' _ w' le I ((k.mono le).put hc) (Ahk _ _ _) (c _ _) (Ez.step j a v)
  .have y:=Ahj A k λI h'=>f I (by simp[J1,h']);rw[j];simp only[y,Bool.false_eq_true,if_false];exact hk _ _ rest σ ι _ w (Le.refl _ _ _) s (k.put (.of_val undef)) (Ahk _ _ _) (c _ _) (Ez.step j a undef)
theorem Run.wpOps (h:Run P ops acc l e H e' H'):∀{σ:Aw} {ι:Bq} {a:Act} {w:World},St σ ι H F W w->Ee σ ι H e a->Ty ops a.tmps.size -> (∀σ' ι' j w',Le σ ι H σ' ι' H'->St σ' ι' H' F W w'->Ee σ' ι' H' e' j->j.tmps.size=a.tmps.size->j.defers=a.defers->Ez (N2 ops) a j->Q .normal j w')->wpOps P ops Q l a w:=by induction l generalizing e H with| nil=>intro σ ι a w s A x hk;cases h;exact hk σ ι a w (Le.refl _ _ _) s A rfl rfl (Ez.refl _ _)| cons i l ih=>intro σ ι a w s A x hk;rw[wpOps_cons];refine h.wpOp s A x ?_;intro R S L M N V O q J z c B K;refine ih L J z (by rw[c];exact x) ?_;intro D E U G k I y b f u;exact hk D E U G (q.trans k) I y (b.trans c) (f.trans B) (K.trans u)
theorem B2.congr {ρ f:Operand->AV} {b:Eff} (h:B2 P o ρ b) (i:∀x∈o.op.operands.toList,f x=ρ x):B2 P o f b := λσ ι H F W w a next Q s hx c hk=>h σ ι H F W w a next Q s (λx hm=>by rw[<-i x hm];exact hx x hm) c hk
theorem Jc.congr {on:Bool} (h:Jc ops o e on) (f:∀s,Rc ops o=some s->e' s=e s):Jc ops o e' on:=by unfold Jc at *;cases c:o.guard with| none=>rw[c]at h;exact h| some p=>rw[c]at h;obtain⟨s,b,h1,h2,h3⟩:=h;exact⟨s,b,h1,by rw[f s (by unfold Rc;rw[c];exact h1)];exact h2,h3⟩
theorem Ar7 {x:Operand} (h:∀t,Abg x=some t->e' t=e t):ev e' x=ev e x:=by cases x with| tmp t=>exact h t rfl| _=>rfl
theorem J2.congr {c:List (Nat×Bg)} (h:J2 P ops acc i o e H r c) (j:∀s∈J1 ops o,e' s=e s) (y:∀x∈(acc i).1,H' x=H x):J2 P ops acc i o e' H' r c:=by
 obtain⟨u,h⟩:=h;refine⟨u,?_⟩;have f:∀s,Rc ops o=some s->e' s=e s:=λs q=>j s (by simp[J1,q]);rcases h with⟨h1,b,h2,h3,k,B,A,z⟩|⟨h1,h2,h3⟩
 .refine .inl ⟨h1.congr f,b,h2.congr λx hx=>Ar7 λt D=>j t ?_,λp hp=>?_,k,B,A,z⟩
  .simp only[J1,mem_append,mem_filterMap];exact .inl ⟨x,hx,D⟩
  .rw[y p.1 (k p hp)];exact h3 p hp
 .exact .inr ⟨h1.congr f,h2,h3⟩
theorem Re {H:Hp}:∀{b:List (Nat×Bg)} {x:Nat},(∀p∈b,p.1≠x)->Bz H b x=H x
 | [],_,_=>rfl
 | p::b,x,h=>by simp only[Bz];rw[Re λq z=>h q (by simp[z]),Be _ _ λe=>h p ψ e.symm]
theorem Ahl {H:Hp} {h:Nat} {o:Bg}:∀{b:List (Nat×Bg)},(∀p∈b,p.1≠h)->Bz (Aj H h o) b=Aj (Bz H b) h o
 | [],_=>rfl
 | p::b,hp=>by simp only[Bz];rw[Agv _ _ _ λe=>hp p ψ e,Ahl λq z=>hp q (by simp[z])]
theorem Ahm {H:Hp}:∀{c b:List (Nat×Bg)},(∀p∈c,∀q∈b,p.1≠q.1)->Bz (Bz H c) b=Bz (Bz H b) c
 | [],_,_=>rfl
 | p::c,b,h=>by simp only[Bz];rw[Ahm λq z f A=>h q (by simp[z]) f A,Ahl λq z e=>h p ψ q z e.symm]
structure Ind (ops:Array Oper) (acc:Acc) (i j:Nat) (o o':Oper):Prop where
 d1:∀s,o.dst=some s->s ∉ J1 ops o'/\o'.dst≠some s
 d2:∀s,o'.dst=some s->s ∉ J1 ops o
 h1:∀x∈(acc i).2,x ∉ (acc j).1/\x ∉ (acc j).2
 h2:∀x∈(acc j).2,x ∉ (acc i).1
theorem Ahn {s:Nat} (h:d≠some s):put e d r s=e s:=by cases d with| none=>rfl| some n=>exact Be _ _ (λe=>h (by rw[e]))
theorem Ar8 {b:Option Nat} {c:AV} (h:∀s,d=some s->b≠some s):put (put e d r) b c=put (put e b c) d r:=by
 cases d with
 | none=>rfl
 | some n=>cases b with| none=>rfl| some m=>exact Agv _ _ _ (λe=>h n rfl (by rw[e]))
theorem J2.wr {b:List (Nat×Bg)} (h:J2 P ops acc i o e H r b):∀p∈b,p.1∈(acc i).2:=by
 obtain⟨_,⟨_,j,_,_,_,f,_,c⟩|⟨_,_,h3⟩⟩:=h
 .subst c;exact f
 .subst h3;intro p hp;cases hp
theorem Run.swap {j:Nat} (h:Run P ops acc (i::j::l) e H e' H') (hi:∀o o',ops[i]? = some o->ops[j]? = some o'->Ind ops acc i j o o'):Run P ops acc (j::i::l) e H e' H':=by
 cases h with
 | cons o r wr hd rest=>cases rest with| cons o' u f c rest=>have b:=hi o o' hd.1 c.1;have z:J2 P ops acc j o' e H u f:=c.congr (λs k=>(Ahn λe=>(b.d1 s e).1 k).symm) λx hx=>(Re λp hp e=>(b.h1 p.1 (hd.wr p hp)).1 (e ▸ hx)).symm;have A:J2 P ops acc i o (put e o'.dst u) (Bz H f) r wr:=hd.congr (λs k=>Ahn λe=>b.d2 s e k) λx hx=>Re λp hp e=>b.h2 p.1 (c.wr p hp) (e ▸ hx);refine .cons o' u f z (.cons o r wr A ?_);rw[Ar8 λs k e=>(b.d1 s e).2 k,Ahm λp hp q D e=>(b.h1 q.1 (hd.wr q D)).2 (e ▸ c.wr p hp)];exact rest
theorem Run.bubble:∀{b c:List Nat} {e e':Bs} {H H':Hp},Run P ops acc (b++i::c) e H e' H'->(∀j∈b,∀o o',ops[j]? = some o->ops[i]? = some o'->Ind ops acc j i o o')->Run P ops acc (i::(b++c)) e H e' H'
 | [],_,_,_,_,_,h,_=>h
 | j::b,c,e,e',H,H',h,hi=>by cases h with| cons o r wr hd rest=>exact Run.swap (.cons o r wr hd (rest.bubble λk hk=>hi k (by simp[hk]))) (hi j ψ)
end
def N3 (z:List Nat) (o:Oper):Nat:=o.after.toList.foldl (λa x=>bif Region.binds .any x then a ||| ((1 <<< x.on) ||| z.getD x.on 0) else a) 0
def I2:List Oper->List Nat->List Nat
 | [],z=>z
 | o::A,z=>I2 A (z++[N3 z o])
def Tz (l m:List Nat):Bool:=l.all λx=>!m.contains x
def Abh (ops:Array Oper) (a b:List Nat×List Nat) (o o':Oper):Bool := (match o.dst with
   | none=>true
   | some s=>!(J1 ops o').contains s && !(o'.dst==some s)) && (match o'.dst with
   | none=>true
   | some s=>!(J1 ops o).contains s) && Tz a.2 b.1&&Tz a.2 b.2&&Tz b.2 a.1
def Abi (ops:List Oper) (acc:List (List Nat×List Nat)):Bool :=
 let M:=I2 ops []
 (ops.zipIdx.all λp=>p.1.after.toList.all λx=>!Region.binds .any x||Nat.blt x.on p.2) && ops.zipIdx.all λp=>ops.zipIdx.all λq=>!Nat.blt q.2 p.2||(M.getD p.2 0).testBit q.2||Abh ops.toArray (acc.getD q.2 ([],[])) (acc.getD p.2 ([],[])) q.1 p.1
section
variable {P:Program} {F:Aw} {W:World} {Q:Exit->Act->World->Prop}
variable {ops:Array Oper} {i:Nat}
theorem Aho:∀(os:List Oper) (z:List Nat),(I2 os z).take z.length=z/\(I2 os z).length=z.length+os.length /\ ∀(k:Nat) (o:Oper),os[k]? = some o->(I2 os z).getD (z.length+k) 0=N3 ((I2 os z).take (z.length+k)) o
 | [],z=>⟨by simp[I2],by simp[I2],ψ⟩
 | o::os,z=>by
  obtain⟨A,J,I⟩:=Aho os (z++[N3 z o]);simp only[I2];simp only[length_append,length_cons,length_nil]at A J I;have b:(I2 os (z++[N3 z o])).take z.length=z:=(by have:=congrArg (take z.length) A;rw[take_take]at this;simpa using this);refine⟨b,by simp only[length_cons];omega,λk K D=>?_⟩;cases k with
  | zero=>simp at D;subst D;rw[Nat.add_zero,b];have c:(I2 os (z++[N3 z o]))[z.length]? = some (N3 z o):=(by have f:((I2 os (z++[N3 z o])).take (z.length+1))[z.length]? = (I2 os (z++[N3 z o]))[z.length]?:=Gz ω;rw[<-f,A];simp);simp[getD,c]
  | succ k=>have:=I k K (by simpa using D);rwa [show z.length+1+k=z.length+(k+1) by omega]at this
theorem Ahp (D:List Nat) (j:Nat):∀(l:List Edge) (a:Nat),(l.foldl (λa x=>bif Region.binds .any x then a ||| ((1 <<< x.on) ||| D.getD x.on 0) else a) a).testBit j=true -> a.testBit j=true\/∃x∈l,Region.binds .any x=true/\(x.on=j\/(D.getD x.on 0).testBit j=true)
 | [],a,h=>.inl h
 | x::l,a,h=>by
  simp only[foldl_cons]at h;rcases Ahp D j l _ h with z|⟨y,I,A⟩
  .cases A:Region.binds .any x with
   | false=>rw[A]at z;exact .inl z
   | true=>
    rw[A]at z;simp only[cond_true,Nat.testBit_or,Bool.or_eq_true]at z;rcases z with z|z|z
    .exact .inl z
    .refine .inr ⟨x,ψ,A,.inl ?_⟩;rw[Nat.one_shiftLeft,Nat.testBit_two_pow]at z;simpa using z
    .exact .inr ⟨x,ψ,A,.inr z⟩
  .exact .inr ⟨y,by simp[I],A⟩
theorem Abj {l m:List Nat} (h:Tz l m=true):∀x∈l,x ∉ m:=by intro x z A;unfold Tz at h;rw[Dh]at h;have:=h x z;simp[A]at this
theorem Ar9 {acc:Acc} {j:Nat} {o o':Oper} (h:Abh ops (acc i) (acc j) o o'=true):Ind ops acc i j o o':=by
 unfold Abh at h;simp only[Ec]at h;obtain⟨⟨⟨⟨z,A⟩,I⟩,f⟩,c⟩:=h;refine⟨λs b=>?_,λs b=>?_,λx D=>⟨Abj I x D,Abj f x D⟩,Abj c⟩
 .rw[b]at z;simpa using z
 .rw[b]at A;simpa using A
def Asa (ops:Array Oper) (b:Array Bool):Prop := ∀(k:Nat) (o:Oper),ops[k]? = some o->b.getD k false=true->∀x∈o.after.toList,Region.binds .any x=true->b.getD x.on false=true
theorem Ahq {b:Array Bool} (h:i∈Region.ready .any ops b) : i<ops.size/\b.getD i true=false/\∀o,ops[i]? = some o->∀x∈o.after.toList,Region.binds .any x=true->b.getD x.on false=true:=by unfold Region.ready at h;rw[mem_filter]at h;obtain⟨D,A⟩:=h;simp only[Ec,Bool.not_eq_true']at A;refine⟨by simpa using D,A.1,λo c x I J=>?_⟩;have z:=A.2;rw[c]at z;simp only[Option.map_some,Option.getD_some]at z;rw[<-Array.all_toList,Dh]at z;have:=z x I;simpa[J] using this
theorem Ahr {ops:List Oper} {accs:List (List Nat×List Nat)} (N:Abi ops accs=true) {e':Bs} {H':Hp}:∀(fuel:Nat) (b:Array Bool) (l:List Nat) (e:Bs) (H:Hp) (σ:Aw) (ι:Bq) (a:Act) (w:World), Run P ops.toArray (λi=>accs.getD i ([],[])) l e H e' H'->l.Pairwise (· < ·)->(∀i,i∈l↔i<ops.length/\b.getD i true=false)->b.size=ops.length->Asa ops.toArray b->l.length=fuel -> St σ ι H F W w->Ee σ ι H e a->Ty ops.toArray a.tmps.size -> (∀σ' ι' a' w',Le σ ι H σ' ι' H'->St σ' ι' H' F W w'->Ee σ' ι' H' e' a'->a'.tmps.size=a.tmps.size->a'.defers=a.defers->Ez (N2 ops.toArray) a a'->Q .normal a' w') -> wpAny P .any ops.toArray Q fuel b a w
 | 0,b,l,e,H,σ,ι,a,w,hr,hp,hm,Z,S,f,s,he,hs,K=>by have E:l = []:=eq_nil_of_length_eq_zero f;subst E;cases hr;refine⟨?_,K σ ι a w (Le.refl _ _ _) s he rfl rfl (Ez.refl _ _)⟩;apply eq_nil_iff_forall_not_mem.2;intro i hi;obtain⟨h1,h2,_⟩:=Ahq hi;have:=(hm i).2 ⟨by simpa using h1,h2⟩;cases this
 | fuel+1,b,l,e,H,σ,ι,a,w,hr,hp,hm,Z,S,f,s,he,hs,K=>by
  unfold Abi at N;have J:=N;simp only[Ec,Dh]at J;obtain⟨R,M⟩:=J;have z:∀(i:Nat) (o:Oper),ops[i]? = some o->(o,i)∈ops.zipIdx:=(by intro i o h;rw[mem_iff_getElem?];exact⟨i,by simp[getElem?_zipIdx,h]⟩);have B:∀(i:Nat) (o:Oper),ops[i]? = some o->∀x∈o.after.toList,Region.binds .any x=true->x.on<i:=(by intro i o h x hx hb;have:=R (o,i) (z i o h) x hx;simp only[hb,Bool.not_true,Bool.false_or]at this;exact Fu this);refine⟨λa8=>?_,λi hi=>?_⟩
  .exfalso;cases l with
   | nil=>simp at f
   | cons i l=>
    have O:=(hm i).1 ψ;have:i∈Region.ready .any ops.toArray b:=by
     unfold Region.ready;rw[mem_filter];refine⟨by simpa using O.1,?_⟩;simp only[Ec,Bool.not_eq_true'];refine⟨O.2,?_⟩;have aa:i<ops.length:=O.1;have ho:ops[i]? = some ops[i]:=getElem?_eq_getElem aa;have ap:ops.toArray[i]? = some ops[i]:=(by simp[aa]);rw[ap];simp only[Option.map_some,Option.getD_some];rw[<-Array.all_toList,Dh];intro x hx;cases hb:Region.binds .any x with
     | false=>rfl
     | true=>
      simp only[Bool.not_true,Bool.false_or];have a5:=B i _ ho x hx hb;cases E:b.getD x.on true with
      | true=>have q:x.on<b.size:=ω;simp only[Array.getD_eq_getD_getElem?]at E ⊢;simpa[q] using E
      | false=>
       have a0:=(hm x.on).2 ⟨ω,E⟩;simp only[mem_cons]at a0;rcases a0 with a0|a0
       .omega
       .have:=(pairwise_cons.1 hp).1 _ a0;omega
    rw[a8]at this;cases this
  .obtain⟨az,ay,ad⟩:=Ahq hi;have u:i<ops.length:=(by simpa using az);have ax:=(hm i).2 ⟨u,ay⟩;obtain⟨l1,l2,rfl⟩:=append_of_mem ax;have b5:ops[i]? = some ops[i]:=getElem?_eq_getElem u;have b4:ops.toArray[i]? = some ops[i]:=(by simp[u]);have A:∀(k:Nat) (o:Oper),ops[k]? = some o->(b.getD k false=true\/k=i)->∀j,((I2 ops []).getD k 0).testBit j=true->b.getD j false=true:=by
    intro k;induction k using Nat.strongRecOn with
    | _ k ih=>
     intro o K a3 j hj;have a6:=(Aho ops []).2.2 k o K;simp only[length_nil,Nat.zero_add]at a6;rw[a6]at hj;rcases Ahp _ j _ _ hj with h0|⟨x,hx,hb,a7⟩
     .simp at h0
     .have U:b.getD x.on false=true:=by
       rcases a3 with a3|a3
       .exact S k o (by simpa using K) a3 x hx hb
       .subst a3;exact ad o (by simpa using K) x hx hb
      rcases a7 with rfl|a4
      .exact U
      .have V:=B k o K x hx hb;have ak:x.on<ops.length:=(by have:=(Eo.1 K).1;omega);have e1:((I2 ops []).take k).getD x.on 0=(I2 ops []).getD x.on 0:=(by simp only[getD_eq_getElem?_getD];rw[Gz V]);rw[e1]at a4;exact ih x.on V _ (getElem?_eq_getElem ak) (.inl U) j a4
   have ac:∀j∈l1,∀o o',ops.toArray[j]? = some o->ops.toArray[i]? = some o'->Ind ops.toArray (λi=>accs.getD i ([],[])) j i o o':=by
    intro j hj o o' aq av;have au:j<i:=(by have:=(pairwise_append.1 hp).2.2 j hj i ψ;exact this);have ar:=(hm j).1 (by simp[hj]);have ab:ops[j]? = some o:=(by simpa using aq);have L:ops[i]? = some o':=(by simpa using av);have:=M (o',i) (z i o' L) (o,j) (z j o ab);simp only[Bool.or_eq_true,Bool.not_eq_true']at this;rcases this with (h1|h1) | h1
    .have:Nat.blt j i=true:=(by unfold Nat.blt;exact Nat.ble_eq_true_of_le au);rw[this]at h1;cases h1
    .have h2:=A i o' L (.inr rfl) j h1;have q:j<b.size:=ω;have h3:=ar.2;simp only[Array.getD_eq_getD_getElem?]at h2 h3;simp[q]at h2 h3;rw[h2]at h3;cases h3
    .exact Ar9 (acc:=λi=>accs.getD i ([],[])) h1
   have ah:=hr.bubble ac;refine ah.wpOp s he hs ?_;intro e1 H1 r1 σ1 ι1 a1 w1 aj s1 b3 G af ao;have I:∀(k:Nat) (d:Bool),(b.setIfInBounds i true).getD k d=if k=i then true else b.getD k d:=by
    intro k d;simp only[Array.getD_eq_getD_getElem?];by_cases c:k=i
    .subst c;rw[if_pos rfl,Array.getElem?_setIfInBounds_self_of_lt ω];rfl
    .rw[if_neg c,Array.getElem?_setIfInBounds_ne ω]
   have D:∀k∈l1++l2,k≠i:=by
    intro k K e;subst e;rw[pairwise_append]at hp;rcases mem_append.1 K with K|K
    .have:=hp.2.2 k K k ψ;omega
    .have:=(pairwise_cons.1 hp.2.1).1 k K;omega
   refine Ahr N fuel _ (l1++l2) e1 H1 σ1 ι1 a1 w1 r1 ?_ ?_ (by simpa using Z) ?_ (by simp at f ⊢;omega) s1 b3 (by rw[G];exact hs) ?_
   .rw[pairwise_append]at hp ⊢;exact⟨hp.1,(pairwise_cons.1 hp.2.1).2,λx hx y hy=>hp.2.2 x hx y (by simp[hy])⟩
   .intro k;rw[I];constructor
    .intro K;have h1:=(hm k).1 (by
      rcases mem_append.1 K with K|K
      .simp[K]
      .simp[K])
     rw[if_neg (D k K)];exact h1
    .rintro⟨h1,h2⟩;by_cases c:k=i
     .rw[if_pos c]at h2;cases h2
     .rw[if_neg c]at h2;have:=(hm k).2 ⟨h1,h2⟩;simp only[mem_append,mem_cons]at this ⊢;rcases this with h|h|h
      .exact .inl h
      .exact (c h).elim
      .exact .inr h
   .intro k o K E x hx ag;rw[I]at E ⊢;by_cases X:x.on=i
    .rw[if_pos X]
    .rw[if_neg X];by_cases c:k=i
     .subst c;exact ad o K x hx ag
     .rw[if_neg c]at E;exact S k o K E x hx ag
   .intro σ2 ι2 a2 w2 ai s2 b0 Y ae am;exact K σ2 ι2 a2 w2 (aj.trans ai) s2 b0 (Y.trans G) (ae.trans af) (ao.trans am)
end
end Go.Ab
