/- How the readings of the arguments stand as plain values. -/
import Derived.Test.YthjgkpbilpojpaaGreatDoorRows
import Derived.Test.YthjgkpbilpojpaaGreatDoorBzTy
import Derived.ReaderBy
import Derived.Test.YthjgkpbilpojpaaGreatDoorBzPl2
import Derived.Test.YthjgkpbilpojpaaGreatDoorCards
import Derived.Test.YthjgkpbilpojpaaGreatDoorTie
import Derived.ChangeOld
import Derived.ChangeSame
import Derived.Carry
import Derived.RowKit
import Derived.WalkKit
import Derived.ProofKit
import Derived.OpenShut
import Derived.Deep.DeepHandedRow
import Derived.Lib.LaidTab
namespace Go.Ab
open Go
open Go.Proofs.YthjgkpbilpojpaaGreatDoor.Rows (uptoBulk uptoBulkAll)
def Ma (w:World):Aq:=fun b=>w.heap[b]?
def CCs (σ:Aq) (xs:List AV) (cs:List Value):Prop :=
 cs.length=xs.length/\∀(j:Nat) (a:AV) (c:Value),xs[j]? = some a->cs[j]? = some c->CC σ a c/\Ds c=true
section
variable {H:Type} {enc:TypeId×Value->H} {P:Program} {w:World}
def Rd (enc:TypeId×Value->H) (P:Program) (w:World) (n:Nat) (t:TypeId) {α:Type} (f:α->List AV) (Q:α->Nat->Prop):Prop :=
 ∀(cs:List Value) (d:DataW H),DataW.ofBy (keyOf P) enc P w 0 true true n t cs=some d->uptoBulk d<=1048576->∃a:α,CCs (Ma w) (f a) cs/\Q a (uptoBulk d)
theorem Axz (t:TypeId) {α:Type} (f:α->List AV) (Q:α->Nat->Prop):Rd enc P w 0 t f Q:=fun _ _ h=>by cases h
theorem Ax0 (d:DataW H):1<=uptoBulk d:=by
 cases d with
 | lit l=>cases l <;> simp [uptoBulk]
 | _=>simp [uptoBulk]
theorem Zc {σ:Aq} {a:AV} {c:Value} (h:CC σ a c) (h1:Ds c=true):CCs σ [a] [c]:=by
 refine ⟨rfl,fun j x y hx hy=>?_⟩
 cases j with
 | zero=>cases hx; cases hy; exact ⟨h,h1⟩
 | succ j=>cases hx
theorem Ad1 (k:IntKind) {t:TypeId} (n:Nat) (hu:P.underlying t=some (.int k)):Rd enc P w n t (fun a:Int=>[O k a]) (fun a _=>k.min<=a/\a<=k.max):=by
 intro cs d h _
 cases n with
 | zero=>cases h
 | succ n=>
  rcases cs with _ | ⟨c,_ | ⟨f,r⟩⟩
  .simp [DataW.ofBy,hu] at h
  .cases c <;> simp [DataW.ofBy,hu] at h
   rename_i b m
   obtain ⟨⟨rfl,hw⟩,_⟩:=h
   exact ⟨m,Zc (.val _) rfl,by simpa [Lit.wf] using hw⟩
  .simp [DataW.ofBy,hu] at h
def QL {α:Type} (Q:α->Nat->Prop):List α->Nat->Prop
 | [],_=>True
 | a::l,m=>∃m1 m2,1<=m1/\m1+m2<=m/\Q a m1/\QL Q l m2
theorem Ax1 {e:TypeId} {sz n:Nat} {α:Type} {f:α->List AV} {Q:α->Nat->Prop} (ih:Rd enc P w n e f Q) (g:Nat->Option (List Value)):∀(L:List Nat) (c:List (DataW H)),
  L.mapM (fun i=>(g i).bind (DataW.ofBy (keyOf P) enc P w 0 true true n e))=some c->uptoBulkAll c<=1048576 ->
  ∃l:List α,l.length=L.length/\QL Q l (uptoBulkAll c)/\∀(i:Nat) (a:α),l[i]? = some a->∃k cs,L[i]? = some k/\g k=some cs/\CCs (Ma w) (f a) cs:=by
 intro L
 induction L with
 | nil=>
  intro c h _
  exact ⟨[],rfl,trivial,fun i a h=>by cases h⟩
 | cons k L j=>
  intro c h hb
  simp only [List.mapM_cons,Option.pure_def,Option.bind_eq_bind,Option.bind_eq_some_iff] at h
  obtain ⟨d,⟨cs,h1,h2⟩,b,h3,A⟩:=h
  cases A
  simp only [uptoBulkAll] at hb
  obtain ⟨a,ha,hq⟩:=ih cs d h2 (by omega)
  obtain ⟨l,y,u,s⟩:=j b h3 (by omega)
  refine ⟨a::l,by simp [y],⟨uptoBulk d,uptoBulkAll b,Ax0 d,by simp [uptoBulkAll],hq,u⟩,?_⟩
  intro i x hx
  cases i with
  | zero=>cases hx; exact ⟨k,cs,rfl,h1,ha⟩
  | succ i=>
   obtain ⟨z,q,g1,g2,g3⟩:=s i x hx
   exact ⟨z,q,g1,g2,g3⟩
theorem Alz {α:Type} {Q:α->Nat->Prop}:∀{l:List α} {m:Nat},QL Q l m->l.length<=m
 | [],_,_=>Nat.zero_le _
 | _::l,_,⟨m1,m2,h1,h2,_,b⟩=>by have:=Alz b; simp only [List.length_cons]; omega
theorem Al0 {α:Type} {Q:α->Nat->Prop}:∀{l:List α} {m:Nat},QL Q l m->∀a∈l,∃b,b<=m/\Q a b
 | _::l,_,⟨m1,m2,h1,h2,h3,c⟩,a,ha=>by
  rcases List.mem_cons.1 ha with rfl | ha
  .exact ⟨m1,by omega,h3⟩
  .obtain ⟨b,g1,g2⟩:=Al0 c a ha
   exact ⟨b,by omega,g2⟩
theorem Zd {a:Addr} {n:Nat} {cs:List Value} (h:w.cells? 0 a n=some cs):cs.length=n/\∀j,j<n->w.cell? (a.add j)=cs[j]?:=by
 unfold World.cells? at h
 rw [if_pos (Nat.zero_le _)] at h
 have key:∀(L:List Nat) (cs:List Value),L.mapM (fun i=>w.cell? (a.add i))=some cs->cs.length=L.length/\∀(i k:Nat),L[i]? = some k->w.cell? (a.add k)=cs[i]?:=by
  intro L
  induction L with
  | nil=>intro cs h; cases h; exact ⟨rfl,fun i k h=>by cases h⟩
  | cons x L ih=>
   intro cs h
   simp only [List.mapM_cons,Option.pure_def,Option.bind_eq_bind,Option.bind_eq_some_iff] at h
   obtain ⟨v,h1,vs,h2,h3⟩:=h
   cases h3
   obtain ⟨i1,i2⟩:=ih vs h2
   refine ⟨by simp [i1],fun i k hk=>?_⟩
   cases i with
   | zero=>cases hk; simpa using h1
   | succ i=>simpa using i2 i k hk
 obtain ⟨h1,h2⟩:=key _ _ h
 rw [List.length_range] at h1
 exact ⟨h1,fun j b=>h2 j j (by simp [b])⟩
theorem Al1 {a:Addr} (h:a.spot=none) (m:Nat):a.add m=⟨a.block,a.off+m,none⟩:=by
 unfold Addr.add
 split
 .rename_i e; subst e; cases a; simp_all
 .rfl
theorem Ax2 {t e:TypeId} (sz:Nat) {n:Nat} {α:Type} {f:α->List AV} (g:α->AV) {Q:α->Nat->Prop} (hu:P.underlying t=some (.slice e)) (M:P.cellsOf e=sz) (hpos:0<sz)
  (U:∀a,(g a).cells=f a) (V:∀a,(f a).length=sz) (ih:Rd enc P w n e f Q):Rd enc P w (n+1) t (fun l:List α=>[.sl sz (l.map g)]) (fun l b=>∃m,m+1<=b/\QL Q l m):=by
 intro cs d h hb
 rcases cs with _ | ⟨c,_ | ⟨c',r⟩⟩
 .simp [DataW.ofBy,hu] at h
 .cases c
  case slice base len cap=>
   cases base with
   | none=>
    have:d = .nil/\len=0:=by
     unfold DataW.ofBy at h
     rw [hu] at h
     split at h <;> simp_all
    obtain ⟨rfl,rfl⟩:=this
    exact ⟨[],Zc (.nil sz _ _) rfl,0,by simp [uptoBulk],trivial⟩
   | some a=>
    have h':(if 0<=a.block/\len<=cap/\cap<=maxLen then
     ((List.range len).mapM fun i=>(w.cells? 0 (a.add (i*P.cellsOf e)) (P.cellsOf e)).bind (DataW.ofBy (keyOf P) enc P w 0 true true n e)).bind fun u=>
     (if true=true then (List.range (cap-len)).mapM fun j=>(w.cells? 0 (a.add ((len+j)*P.cellsOf e)) (P.cellsOf e)).bind (DataW.ofBy (keyOf P) enc P w 0 true true n e) else some []).map fun rest=>DataW.slice u rest
     else none)=some d:=by
     unfold DataW.ofBy at h
     rw [hu] at h
     exact h
    split at h'
    .rename_i hc
     simp only [Option.bind_eq_some_iff,Option.map_eq_some_iff] at h'
     obtain ⟨u,h1,rest,h2,rfl⟩:=h'
     rw [M] at h1
     simp only [uptoBulk] at hb
     obtain ⟨l,I,Z,l3⟩:=Ax1 (sz:=sz) ih (fun i=>w.cells? 0 (a.add (i*sz)) sz) _ _ h1 (by omega)
     have a1:=Alz Z
     rw [List.length_range] at I
     refine ⟨l,?_,uptoBulkAll u,by simp only [uptoBulk]; omega,Z⟩
     cases S:l with
     | nil=>
      rw [S] at I
      have:len=0:=I.symm
      subst this
      exact Zc (.nil sz _ _) rfl
     | cons x l'=>
      rw [<-S]
      refine Zc ?_ rfl
      have at0:∀(i:Nat) (y:α),l[i]? = some y->∃cs,w.cells? 0 (a.add (i*sz)) sz=some cs/\CCs (Ma w) (f y) cs:=by
       intro i y hy
       obtain ⟨k,cs,g1,g2,g3⟩:=l3 i y hy
       have hk:k=i:=by
        rw [List.getElem?_range (by have:=(List.getElem?_eq_some_iff.1 hy).1; omega)] at g1
        exact (Option.some.inj g1).symm
       subst hk
       exact ⟨cs,g2,g3⟩
      have L:l[0]? = some x:=by rw [S]; rfl
      obtain ⟨Y,c1,c2⟩:=at0 0 x L
      have A:=(Zd c1).2 0 hpos
      have a6:Y.length=sz:=(Zd c1).1
      rw [List.getElem?_eq_getElem (by omega)] at A
      have s:a.spot=none/\∃C E fr,w.heap[a.block]? = some (.cells C E fr):=by
       have X:(a.add (0*sz)).add 0=a:=by simp [Addr.add]
       rw [X] at A
       unfold World.cell? at A
       split at A
       .rename_i C E fr J
        split at A
        .cases A
        .rename_i hs
         refine ⟨?_,C,E,fr,J⟩
         cases N:a.spot with
         | none=>rfl
         | some _=>rw [N] at hs; simp at hs
       .cases A
      obtain ⟨s,C,E,fr,J⟩:=s
      have z:∀i j:Nat,w.cell? ((a.add (i*sz)).add j)=C[a.off+i*sz+j]?:=by
       intro i j
       rw [Al1 s,Al1 rfl]
       unfold World.cell?
       rw [J]; rfl
      have q:∀(i:Nat) (y:α) (j:Nat) (c:AV),l[i]? = some y->(g y).cells[j]? = some c->∃v,C[a.off+i*sz+j]? = some v/\CC (Ma w) c v/\Ds v=true:=by
       intro i y j c hy hc
       obtain ⟨cs,e1,e2⟩:=at0 i y hy
       rw [U] at hc
       have G:=(List.getElem?_eq_some_iff.1 hc).1
       rw [V] at G
       have D:j<cs.length:=by rw [(Zd e1).1]; exact G
       have:=(Zd e1).2 j G
       rw [z,List.getElem?_eq_getElem D] at this
       exact ⟨_,this,e2.2 j c _ hc (List.getElem?_eq_getElem D)⟩
      have hb':a=⟨a.block,a.off,none⟩:=by cases a; simp_all
      rw [hb']
      have R:l.length=(l.map g).length:=by simp
      rw [<-I,R]
      refine CC.sl (l.map g) a.block a.off cap sz C E fr (fun i j=>(C[a.off+i*sz+j]?).getD undef) J ?_ ?_ ?_ ?_ (by simp; omega) (by simp; omega)
      .intro i y hy
       simp only [List.getElem?_map,Option.map_eq_some_iff] at hy
       obtain ⟨y,_,rfl⟩:=hy
       rw [U,V]
      .intro i y j c hy hc
       simp only [List.getElem?_map,Option.map_eq_some_iff] at hy
       obtain ⟨y,hy,rfl⟩:=hy
       obtain ⟨v,B,v2,v3⟩:=q i y j c hy hc
       rw [B]; exact v2
      .intro i y j c hy hc
       simp only [List.getElem?_map,Option.map_eq_some_iff] at hy
       obtain ⟨y,hy,rfl⟩:=hy
       obtain ⟨v,B,v2,v3⟩:=q i y j c hy hc
       rw [B]; exact v3
      .intro i j hi G
       rw [List.length_map] at hi
       have hy:l[i]? = some l[i]:=List.getElem?_eq_getElem hi
       have hc:(g l[i]).cells[j]? = some ((g l[i]).cells[j]'(by rw [U,V]; exact G)):=List.getElem?_eq_getElem _
       obtain ⟨v,B,_⟩:=q i _ j _ hy hc
       rw [B]; rfl
    .cases h'
  all_goals simp [DataW.ofBy,hu] at h
 .simp [DataW.ofBy,hu] at h
end
end Go.Ab
namespace Go.Ab
open Go Go.Proofs
open Go.Proofs.YthjgkpbilpojpaaGreatDoor.Rows (uptoBulk uptoBulkAll)
section
variable {H:Type} {enc:TypeId×Value->H} {w:World}
theorem Ax3 {t e:TypeId} (sz:Nat) {α:Type} {f:α->List AV} (g:α->AV) {Q:α->Nat->Prop} (hu:Go.Proofs.Tryz.prog.underlying t=some (.slice e)) (c:Go.Proofs.Tryz.prog.cellsOf e=sz) (hpos:0<sz)
  (h:∀a,(g a).cells=f a) (i:∀a,(f a).length=sz) (ih:∀n,Rd enc Go.Proofs.Tryz.prog w n e f Q) (n:Nat):Rd enc Go.Proofs.Tryz.prog w n t (fun l:List α=>[.sl sz (l.map g)]) (fun l b=>∃m,m+1<=b/\QL Q l m):=by
 cases n with
 | zero=>exact Axz _ _ _
 | succ n=>exact Ax2 sz g hu c hpos h i (ih n)
theorem Ax4 {α:Type} {Q:α->Nat->Prop} (P:α->Prop) (h:∀a b,Q a b->P a) {l:List α} {m:Nat} (hq:QL Q l m):∀a∈l,P a:=fun a ha=>by
 obtain ⟨c,_,g⟩:=Al0 hq a ha
 exact h a c g
theorem Ax5 (n:Nat):Rd enc Go.Proofs.Tryz.prog w n 22 (fun l:List Int=>[.sl 1 (l.map (O .i8))]) (fun l _=>∀x∈l,-128<=x/\x<=127):=by
 intro cs d h hb
 obtain ⟨a,h1,m,h2,h3⟩:=Ax3 (Q:=fun a _=>IntKind.i8.min<=a/\a<=IntKind.i8.max) 1 (O .i8) Go.Proofs.Tryz.underlying22 (by kernel_rfl) (by decide) (fun _=>rfl) (fun _=>rfl) (fun n=>Ad1 .i8 n Go.Proofs.Tryz.underlying36) n cs d h hb
 refine ⟨a,h1,fun x hx=>?_⟩
 have:=Ax4 (fun x=>IntKind.i8.min<=x/\x<=IntKind.i8.max) (fun _ _ h=>h) h3 x hx
 have c:IntKind.i8.min = -128:=by decide
 have b:IntKind.i8.max=127:=by decide
 rw [c,b] at this
 exact this
end
end Go.Ab
namespace Go.Ab
open Go Go.Proofs Go.ChangeShapes Go.WideShapes Go.ChangeAt Go.RowKit
open Go.Proofs.YthjgkpbilpojpaaGreatDoor.Rows (uptoBulk uptoBulkAll uptoSmall)
set_option maxRecDepth 100000
theorem Al2 {P:Program} {W:World} {x:String×DataW Unit} {l:List (String×DataW Unit)} (h:laidMet P (x::l) W):laidMet P l W:=by
 obtain ⟨ps,⟨u,s,cs,fuel,p,q,k,g,f,hd,i,c⟩,j,hc⟩:=h
 subst c
 refine ⟨q,i,(List.nodup_append.1 j).2.1,fun b off hb=>hc b off ?_⟩
 simp [hb]
theorem Ax6 {W:World} (h:laidMetH Go.Proofs.Tryz.prog YthjgkpbilpojpaaGreatDoor.Rows.boundSizesRow.laid W):Ph (Ma W):=by
 have h1:laidMet Go.Proofs.Tryz.prog [("internal/strconv.uint64pow10",YthjgkpbilpojpaaGreatDoor.Rows.laid_internal_strconv_uint64pow10)] W:=Al2 (Al2 h)
 have h2:Lib.TabIs Go.Proofs.Tryz.prog W "internal/strconv.uint64pow10" .u64 Lib.pow10Tab :=
  Lib.tabIs_of_head (g:=0) (rest:=[]) (by kernel_rfl) (by kernel_rfl) Go.Proofs.Tryz.underlying374 Go.Proofs.Tryz.underlying104 (by kernel_rfl) (by kernel_rfl) h1
 have g:Go.Proofs.Tryz.prog.globalNamed "internal/strconv.uint64pow10" = some 0:=by kernel_rfl
 unfold Lib.TabIs World.var? at h2
 rw [g] at h2
 simp only [Option.bind_some] at h2
 split at h2
 .rename_i cs E fr hc
  cases h2
  exact ⟨E,fr,hc⟩
 .cases h2
theorem Ax7 {W:World} (g:Ph (Ma W)):St (Ma W) ι0 H0 (fun _=>none) W W :=
 ⟨(fun _ _ h=>h),(fun _ _ h=>by cases h),(fun _=>rfl),(fun _ _ _ h=>by cases h),rfl,rfl,rfl,g,Nat.le_refl _⟩
section
variable {H:Type} {enc:TypeId×Value->H} {W:World} {base:Nat} {t:TypeId} {v:Value} {d:DataW H} {p:List MemPlace}
theorem Ad2 {α:Type} {g:α->AV} {Q:α->Nat->Prop} (c:v.cells = #[v])
  (hd:DataW.Trod enc Go.Proofs.Tryz.prog W 0 (fun _=>true) true t v d p) (hb:uptoBulk d<=1048576) (b:∀n,Rd enc Go.Proofs.Tryz.prog W n t (fun a=>[g a]) Q):∃a,CC (Ma W) (g a) v/\Q a (uptoBulk d):=by
 obtain ⟨n,f⟩:=hd.by
 obtain ⟨a,h1,h2⟩:=b n _ d f hb
 rw [c] at h1
 exact ⟨a,(h1.2 0 _ _ rfl rfl).1,h2⟩
theorem Ax8 {e:TypeId} (hu:Go.Proofs.Tryz.prog.underlying t=some (.slice e)) (b:Value.okWide Go.Proofs.Tryz.prog W .any base t v):v.cells = #[v]:=by
 unfold Value.okWide at b
 rw [hu] at b
 cases v with
 | agg cs=>simp only [Cell.okWide,Cell.ok,hu] at b
 | _=>rfl
theorem Al3 {k:IntKind} (hu:Go.Proofs.Tryz.prog.underlying t=some (.int k)) (b:Value.okWide Go.Proofs.Tryz.prog W .any base t v):v.cells = #[v]:=by
 unfold Value.okWide at b
 rw [hu] at b
 cases v with
 | agg cs=>simp only [Cell.okWide,Cell.ok,hu] at b
 | _=>rfl
end
section
variable {H:Type} {enc:TypeId×Value->H} {P:Program}
theorem Al4 (f:laidOutB P=true) {w w':World} {c:Nat->Bool}:∀{ts:List TypeId} {vs:List Value} {g:List (DataW H)} {ps:List MemPlace},
  (ts.all fun t=>P.readableRec t&&decide (t<P.types.size))=true->DataW.TrodAll enc P w 0 (fun _=>true) true ts vs g ps->(∀p∈ps,w.sameAt w' p)->(∀p∈ps,c p.block=true)->DataW.TrodAll enc P w' 0 c true ts vs g ps
 | [],[],[],_,_,h,_,_=>h
 | t::ts,_::_,_::_,_,b,⟨p,q,h,i,e⟩,hk,hp=>by
  subst e
  simp only [List.all_cons,Bool.and_eq_true,decide_eq_true_eq] at b
  exact ⟨p,q,WideElems.Trod_stays f b.1.1 b.1.2 h (fun x hx=>hk x (by simp [hx])) (fun x hx=>hp x (by simp [hx])),Al4 f b.2 i (fun x hx=>hk x (by simp [hx])) (fun x hx=>hp x (by simp [hx])),rfl⟩
theorem Ax9 (S:laidOutB P=true) {f:Func} {s:ChangeSpec} {g:Bool} {W l:World} {args:Array Value} {k:List (DataW H)} {j:List MemPlace} {t:TypeId}
  (G:s.vars = []) (I:DataW.Whole enc P f.params.toList s.vars false W args.toList k [] j) (R:(f.params.toList.all fun t=>P.readableRec t&&decide (t<P.types.size))=true)
  (E:(s.fn H k).results = [.lit (.bool true)]/\(s.fn H k).args=k/\(s.fn H k).vars = [])
  (B:f.resultTypes = #[t]) (ht:P.underlying t=some .bool)
  (z:∀(b:Nat) (o:Obj),W.heap[b]? = some o->l.heap[b]? = some o) (D:l.os=W.os) (u:l.output=W.output) :
  s.post enc P f false true g false W args (.bool true) l:=by
 have A:=I
 obtain ⟨p,q,X,J,rfl,V,_⟩:=I
 rw [G] at J
 obtain rfl:q = []:=J
 have y:=A.lt
 rw [List.append_nil] at *
 have c:∀b,b<W.heap.size->l.heap[b]? = W.heap[b]?:=fun b hb=>by
  rw [Array.getElem?_eq_getElem hb]
  exact z b _ (Array.getElem?_eq_getElem hb)
 have same:∀x∈p,W.sameAt l x:=by
  intro x hx
  have:=c x.block (y x hx)
  cases x with
  | cell b o=>exact World.cell?_of_block (w:=W) this
  | map b=>exact this
 obtain ⟨N,M,L⟩:=E
 refine ⟨k,[],p,[],p,[],A,?_,?_,?_,⟨D,u,fun i U=>?_⟩,fun h=>by cases h⟩
 .rw [List.append_nil,N,B]
  exact trodAll_mk1 (shut_bool ht _)
 .rw [List.append_nil,M]
  exact Al4 S R X same (fun x hx=>by simpa using y x hx)
 .rw [List.append_nil,L,G]; rfl
 .rw [c i U]
  split <;> simp_all
end
end Go.Ab
