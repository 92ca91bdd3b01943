/- How the readings of the arguments stand as plain values. -/
import Derived.Test.YtpgmgplnkdhlbaaGreatDoorRows
import Derived.Test.YtpgmgplnkdhlbaaGreatDoorPtTy
import Derived.ReaderBy
import Derived.Test.YtpgmgplnkdhlbaaGreatDoorPtPl3
import Derived.Test.YtpgmgplnkdhlbaaGreatDoorCards
import Derived.Test.YtpgmgplnkdhlbaaGreatDoorTie
import Derived.ChangeOld
import Derived.ChangeSame
import Derived.Carry
import Derived.RowKit
import Derived.WalkKit
import Derived.ProofKit
import Derived.OpenShut
import Derived.Deep.DeepHandedRow
import Derived.Lib.LaidTab
namespace Go.Ab
open Go
open Go.Proofs.YtpgmgplnkdhlbaaGreatDoor.Rows (uptoBulk uptoBulkAll)
def Km (w:World):Aw:=fun b=>w.heap[b]?
def CCs (σ:Aw) (xs:List AV) (cs:List Value):Prop :=
 cs.length=xs.length/\∀(j:Nat) (a:AV) (c:Value),xs[j]? = some a->cs[j]? = some c->CC σ a c/\Du c=true
section
variable {H:Type} {enc:TypeId×Value->H} {P:Program} {w:World}
def Rd (enc:TypeId×Value->H) (P:Program) (w:World) (n:Nat) (t:TypeId) {α:Type} (f:α->List AV) (Q:α->Nat->Prop):Prop :=
 ∀(cs:List Value) (d:DataW H),DataW.ofBy (keyOf P) enc P w 0 true true n t cs=some d->uptoBulk d<=1048576->∃a:α,CCs (Km w) (f a) cs/\Q a (uptoBulk d)
theorem Ht (t:TypeId) {α:Type} (f:α->List AV) (Q:α->Nat->Prop):Rd enc P w 0 t f Q:=fun _ _ h=>by cases h
theorem Aw6 (d:DataW H):1<=uptoBulk d:=by
 cases d with
 | lit l=>cases l <;> simp [uptoBulk]
 | _=>simp [uptoBulk]
theorem R0 {σ:Aw} {a:AV} {c:Value} (h:CC σ a c) (h1:Du c=true):CCs σ [a] [c]:=by
 refine ⟨rfl,fun j x y hx hy=>?_⟩
 cases j with
 | zero=>cases hx; cases hy; exact ⟨h,h1⟩
 | succ j=>cases hx
theorem Aw7 {σ:Aw} {xs bs:List AV} {cs b:List Value} (h:CCs σ xs cs) (h':CCs σ bs b):CCs σ (xs++bs) (cs++b):=by
 refine ⟨by simp [h.1,h'.1],fun j x y hx hy=>?_⟩
 rcases Nat.lt_or_ge j xs.length with hj | hj
 .rw [List.getElem?_append_left hj] at hx
  rw [List.getElem?_append_left (by rw [h.1]; exact hj)] at hy
  exact h.2 j x y hx hy
 .rw [List.getElem?_append_right hj] at hx
  rw [List.getElem?_append_right (by rw [h.1]; exact hj),h.1] at hy
  exact h'.2 _ x y hx hy
theorem K6 (k:IntKind) {t:TypeId} (n:Nat) (hu:P.underlying t=some (.int k)):Rd enc P w n t (fun a:Int=>[O k a]) (fun a _=>k.min<=a/\a<=k.max):=by
 intro cs d h _
 cases n with
 | zero=>cases h
 | succ n=>
  rcases cs with _ | ⟨c,_ | ⟨g,r⟩⟩
  .simp [DataW.ofBy,hu] at h
  .cases c <;> simp [DataW.ofBy,hu] at h
   rename_i f m
   obtain ⟨⟨rfl,b⟩,_⟩:=h
   exact ⟨m,R0 (.val _) rfl,by simpa [Lit.wf] using b⟩
  .simp [DataW.ofBy,hu] at h
theorem Aw8 {t:TypeId} (n:Nat) (hu:P.underlying t=some .bool):Rd enc P w n t (fun a:Bool=>[Am a]) (fun _ _=>True):=by
 intro cs d h _
 cases n with
 | zero=>cases h
 | succ n=>
  rcases cs with _ | ⟨c,_ | ⟨b,r⟩⟩
  .simp [DataW.ofBy,hu] at h
  .cases c <;> simp [DataW.ofBy,hu] at h
   exact ⟨_,R0 (.val _) rfl,trivial⟩
  .simp [DataW.ofBy,hu] at h
theorem Amy {t:TypeId} (n:Nat) (hu:P.underlying t=some .string):Rd enc P w n t (fun a:ByteArray=>[Bk a]) (fun a b=>a.size<=b):=by
 intro cs d h _
 cases n with
 | zero=>cases h
 | succ n=>
  rcases cs with _ | ⟨c,_ | ⟨f,r⟩⟩
  .simp [DataW.ofBy,hu] at h
  .cases c
   case string s=>
    have h':(if s.size<=maxLen then some (DataW.lit (H:=H) (.string s.data.toList)) else none)=some d:=by unfold DataW.ofBy at h; rw [hu] at h; exact h
    split at h'
    .cases h'
     refine ⟨_,R0 (.val _) rfl,?_⟩
     have e:s.data.toList.length=s.size:=by rw [Array.length_toList]; rfl
     simp only [uptoBulk]
     omega
    .cases h'
   all_goals (unfold DataW.ofBy at h; rw [hu] at h; cases h)
  .simp [DataW.ofBy,hu] at h
def QL {α:Type} (Q:α->Nat->Prop):List α->Nat->Prop
 | [],_=>True
 | a::l,m=>∃m1 m2,1<=m1/\m1+m2<=m/\Q a m1/\QL Q l m2
theorem Aw9 {e:TypeId} {sz n:Nat} {α:Type} {f:α->List AV} {Q:α->Nat->Prop} (ih:Rd enc P w n e f Q) (g:Nat->Option (List Value)):∀(L:List Nat) (c:List (DataW H)),
  L.mapM (fun i=>(g i).bind (DataW.ofBy (keyOf P) enc P w 0 true true n e))=some c->uptoBulkAll c<=1048576 ->
  ∃l:List α,l.length=L.length/\QL Q l (uptoBulkAll c)/\∀(i:Nat) (a:α),l[i]? = some a->∃k cs,L[i]? = some k/\g k=some cs/\CCs (Km w) (f a) cs:=by
 intro L
 induction L with
 | nil=>
  intro c h _
  exact ⟨[],rfl,trivial,fun i a h=>by cases h⟩
 | cons k L j=>
  intro c h hb
  simp only [List.mapM_cons,Option.pure_def,Option.bind_eq_bind,Option.bind_eq_some_iff] at h
  obtain ⟨d,⟨cs,h1,h2⟩,b,h3,h4⟩:=h
  cases h4
  simp only [uptoBulkAll] at hb
  obtain ⟨a,ha,hq⟩:=ih cs d h2 (by omega)
  obtain ⟨l,y,u,s⟩:=j b h3 (by omega)
  refine ⟨a::l,by simp [y],⟨uptoBulk d,uptoBulkAll b,Aw6 d,by simp [uptoBulkAll],hq,u⟩,?_⟩
  intro i x hx
  cases i with
  | zero=>cases hx; exact ⟨k,cs,rfl,h1,ha⟩
  | succ i=>
   obtain ⟨z,q,g1,g2,g3⟩:=s i x hx
   exact ⟨z,q,g1,g2,g3⟩
theorem K7 {α:Type} {Q:α->Nat->Prop}:∀{l:List α} {m:Nat},QL Q l m->l.length<=m
 | [],_,_=>Nat.zero_le _
 | _::l,_,⟨m1,m2,h1,h2,_,h4⟩=>by have:=K7 h4; simp only [List.length_cons]; omega
theorem Nn {α:Type} {Q:α->Nat->Prop}:∀{l:List α} {m:Nat},QL Q l m->∀a∈l,∃b,b<=m/\Q a b
 | _::l,_,⟨m1,m2,h1,h2,h3,h4⟩,a,ha=>by
  rcases List.mem_cons.1 ha with rfl | ha
  .exact ⟨m1,by omega,h3⟩
  .obtain ⟨b,g1,g2⟩:=Nn h4 a ha
   exact ⟨b,by omega,g2⟩
theorem Y9 {a:Addr} {n:Nat} {cs:List Value} (h:w.cells? 0 a n=some cs):cs.length=n/\∀j,j<n->w.cell? (a.add j)=cs[j]?:=by
 unfold World.cells? at h
 rw [if_pos (Nat.zero_le _)] at h
 have key:∀(L:List Nat) (cs:List Value),L.mapM (fun i=>w.cell? (a.add i))=some cs->cs.length=L.length/\∀(i k:Nat),L[i]? = some k->w.cell? (a.add k)=cs[i]?:=by
  intro L
  induction L with
  | nil=>intro cs h; cases h; exact ⟨rfl,fun i k h=>by cases h⟩
  | cons x L ih=>
   intro cs h
   simp only [List.mapM_cons,Option.pure_def,Option.bind_eq_bind,Option.bind_eq_some_iff] at h
   obtain ⟨v,h1,vs,h2,h3⟩:=h
   cases h3
   obtain ⟨i1,i2⟩:=ih vs h2
   refine ⟨by simp [i1],fun i k hk=>?_⟩
   cases i with
   | zero=>cases hk; simpa using h1
   | succ i=>simpa using i2 i k hk
 obtain ⟨h1,h2⟩:=key _ _ h
 rw [List.length_range] at h1
 exact ⟨h1,fun j hj=>h2 j j (by simp [hj])⟩
theorem Amz {a:Addr} (h:a.spot=none) (m:Nat):a.add m=⟨a.block,a.off+m,none⟩:=by
 unfold Addr.add
 split
 .rename_i e; subst e; cases a; simp_all
 .rfl
theorem Za {t e:TypeId} (sz:Nat) {n:Nat} {α:Type} {f:α->List AV} (g:α->AV) {Q:α->Nat->Prop} (hu:P.underlying t=some (.slice e)) (M:P.cellsOf e=sz) (hpos:0<sz)
  (U:∀a,(g a).cells=f a) (V:∀a,(f a).length=sz) (ih:Rd enc P w n e f Q):Rd enc P w (n+1) t (fun l:List α=>[.sl sz (l.map g)]) (fun l b=>∃m,m+1<=b/\QL Q l m):=by
 intro cs d h hb
 rcases cs with _ | ⟨c,_ | ⟨c',r⟩⟩
 .simp [DataW.ofBy,hu] at h
 .cases c
  case slice base len cap=>
   cases base with
   | none=>
    have:d = .nil/\len=0:=by
     unfold DataW.ofBy at h
     rw [hu] at h
     split at h <;> simp_all
    obtain ⟨rfl,rfl⟩:=this
    exact ⟨[],R0 (.nil sz _ _) rfl,0,by simp [uptoBulk],trivial⟩
   | some a=>
    have h':(if 0<=a.block/\len<=cap/\cap<=maxLen then
     ((List.range len).mapM fun i=>(w.cells? 0 (a.add (i*P.cellsOf e)) (P.cellsOf e)).bind (DataW.ofBy (keyOf P) enc P w 0 true true n e)).bind fun u=>
     (if true=true then (List.range (cap-len)).mapM fun j=>(w.cells? 0 (a.add ((len+j)*P.cellsOf e)) (P.cellsOf e)).bind (DataW.ofBy (keyOf P) enc P w 0 true true n e) else some []).map fun rest=>DataW.slice u rest
     else none)=some d:=by
     unfold DataW.ofBy at h
     rw [hu] at h
     exact h
    split at h'
    .rename_i hc
     simp only [Option.bind_eq_some_iff,Option.map_eq_some_iff] at h'
     obtain ⟨u,h1,rest,h2,rfl⟩:=h'
     rw [M] at h1
     simp only [uptoBulk] at hb
     obtain ⟨l,I,Z,l3⟩:=Aw9 (sz:=sz) ih (fun i=>w.cells? 0 (a.add (i*sz)) sz) _ _ h1 (by omega)
     have a1:=K7 Z
     rw [List.length_range] at I
     refine ⟨l,?_,uptoBulkAll u,by simp only [uptoBulk]; omega,Z⟩
     cases S:l with
     | nil=>
      rw [S] at I
      have:len=0:=I.symm
      subst this
      exact R0 (.nil sz _ _) rfl
     | cons x l'=>
      rw [<-S]
      refine R0 ?_ rfl
      have G:∀(i:Nat) (y:α),l[i]? = some y->∃cs,w.cells? 0 (a.add (i*sz)) sz=some cs/\CCs (Km w) (f y) cs:=by
       intro i y hy
       obtain ⟨k,cs,g1,g2,g3⟩:=l3 i y hy
       have hk:k=i:=by
        rw [List.getElem?_range (by have:=(List.getElem?_eq_some_iff.1 hy).1; omega)] at g1
        exact (Option.some.inj g1).symm
       subst hk
       exact ⟨cs,g2,g3⟩
      have L:l[0]? = some x:=by rw [S]; rfl
      obtain ⟨Y,c1,c2⟩:=G 0 x L
      have A:=(Y9 c1).2 0 hpos
      have a6:Y.length=sz:=(Y9 c1).1
      rw [List.getElem?_eq_getElem (by omega)] at A
      have s:a.spot=none/\∃C E fr,w.heap[a.block]? = some (.cells C E fr):=by
       have X:(a.add (0*sz)).add 0=a:=by simp [Addr.add]
       rw [X] at A
       unfold World.cell? at A
       split at A
       .rename_i C E fr J
        split at A
        .cases A
        .rename_i hs
         refine ⟨?_,C,E,fr,J⟩
         cases N:a.spot with
         | none=>rfl
         | some _=>rw [N] at hs; simp at hs
       .cases A
      obtain ⟨s,C,E,fr,J⟩:=s
      have z:∀i j:Nat,w.cell? ((a.add (i*sz)).add j)=C[a.off+i*sz+j]?:=by
       intro i j
       rw [Amz s,Amz rfl]
       unfold World.cell?
       rw [J]; rfl
      have q:∀(i:Nat) (y:α) (j:Nat) (c:AV),l[i]? = some y->(g y).cells[j]? = some c->∃v,C[a.off+i*sz+j]? = some v/\CC (Km w) c v/\Du v=true:=by
       intro i y j c hy hc
       obtain ⟨cs,e1,e2⟩:=G i y hy
       rw [U] at hc
       have hj:=(List.getElem?_eq_some_iff.1 hc).1
       rw [V] at hj
       have D:j<cs.length:=by rw [(Y9 e1).1]; exact hj
       have:=(Y9 e1).2 j hj
       rw [z,List.getElem?_eq_getElem D] at this
       exact ⟨_,this,e2.2 j c _ hc (List.getElem?_eq_getElem D)⟩
      have hb':a=⟨a.block,a.off,none⟩:=by cases a; simp_all
      rw [hb']
      have R:l.length=(l.map g).length:=by simp
      rw [<-I,R]
      refine CC.sl (l.map g) a.block a.off cap sz C E fr (fun i j=>(C[a.off+i*sz+j]?).getD undef) J ?_ ?_ ?_ ?_ (by simp; omega) (by simp; omega)
      .intro i y hy
       simp only [List.getElem?_map,Option.map_eq_some_iff] at hy
       obtain ⟨y,_,rfl⟩:=hy
       rw [U,V]
      .intro i y j c hy hc
       simp only [List.getElem?_map,Option.map_eq_some_iff] at hy
       obtain ⟨y,hy,rfl⟩:=hy
       obtain ⟨v,B,v2,v3⟩:=q i y j c hy hc
       rw [B]; exact v2
      .intro i y j c hy hc
       simp only [List.getElem?_map,Option.map_eq_some_iff] at hy
       obtain ⟨y,hy,rfl⟩:=hy
       obtain ⟨v,B,v2,v3⟩:=q i y j c hy hc
       rw [B]; exact v3
      .intro i j hi hj
       rw [List.length_map] at hi
       have hy:l[i]? = some l[i]:=List.getElem?_eq_getElem hi
       have hc:(g l[i]).cells[j]? = some ((g l[i]).cells[j]'(by rw [U,V]; exact hj)):=List.getElem?_eq_getElem _
       obtain ⟨v,B,_⟩:=q i _ j _ hy hc
       rw [B]; rfl
    .cases h'
  all_goals simp [DataW.ofBy,hu] at h
 .simp [DataW.ofBy,hu] at h
def RdL (enc:TypeId×Value->H) (P:Program) (w:World) (n b off:Nat) (fs:List (TypeId×Nat×Nat)) {α:Type} (f:α->List AV) (Q:α->Nat->Prop):Prop :=
 ∀(cs:List Value) (ds:List (DataW H)),cs.length=b->fs.mapM (fun x=>DataW.ofBy (keyOf P) enc P w 0 true true n x.1 ((cs.drop x.2.1).take x.2.2))=some ds->uptoBulkAll ds<=1048576 ->
  ∃a:α,CCs (Km w) (f a) (cs.drop off)/\Q a (uptoBulkAll ds)
theorem Jq (n b:Nat):RdL enc P w n b b [] (fun _:Unit=>[]) (fun _ _=>True):=by
 intro cs ds h _ _
 exact ⟨(),⟨by simp [h],fun j a c h=>by cases h⟩,trivial⟩
theorem E4 {n c off:Nat} (sz:Nat) {t:TypeId} {fs:List (TypeId×Nat×Nat)} {α β:Type} {f:α->List AV} {g:β->List AV} {Q:α->Nat->Prop} {R:β->Nat->Prop}
  (h1:Rd enc P w n t f Q) (h2:RdL enc P w n c (off+sz) fs g R):RdL enc P w n c off ((t,off,sz)::fs) (fun p:α×β=>f p.1++g p.2) (fun p m=>∃m1 m2,m1+m2=m/\Q p.1 m1/\R p.2 m2):=by
 intro cs ds j h hb
 simp only [List.mapM_cons,Option.pure_def,Option.bind_eq_bind,Option.bind_eq_some_iff] at h
 obtain ⟨d,q,i,l,k⟩:=h
 cases k
 simp only [uptoBulkAll] at hb ⊢
 obtain ⟨a,a1,a2⟩:=h1 _ d q (by omega)
 obtain ⟨b,b1,b2⟩:=h2 cs i j l (by omega)
 refine ⟨(a,b),?_,_,_,rfl,a2,b2⟩
 have:=Aw7 a1 b1
 rwa [<-List.drop_drop,List.take_append_drop] at this
theorem Jr {t:TypeId} {fs:Array Field} {n i:Nat} {L:List (TypeId×Nat×Nat)} {α β:Type} {g:β->List AV} {f:α->List AV} {R:β->Nat->Prop} {Q:α->Nat->Prop} (φ:β->α)
  (hu:P.underlying t=some (.struct fs)) (l:fs.toList.map (fun x=>(x.type,x.offset,P.cellsOf x.type))=L) (ht:P.cellsOf t=i)
  (j:∀b,f (φ b)=g b) (k:∀b m,R b m->Q (φ b) (m+1)) (h:RdL enc P w n i 0 L g R):Rd enc P w (n+1) t f Q:=by
 intro cs d hd hb
 have c:(if cs.length=P.cellsOf t then (fs.toList.mapM fun x=>DataW.ofBy (keyOf P) enc P w 0 true true n x.type ((cs.drop x.offset).take (P.cellsOf x.type))).map DataW.agg else none)=some d:=by
  unfold DataW.ofBy at hd
  rw [hu] at hd
  split at hd <;> simp_all
 split at c
 .rename_i hc
  simp only [Option.map_eq_some_iff] at c
  obtain ⟨ds,h1,rfl⟩:=c
  simp only [uptoBulk] at hb
  obtain ⟨b,b1,b2⟩:=h cs ds (hc.trans ht) (by rw [<-l,List.mapM_map]; exact h1) (by omega)
  refine ⟨φ b,?_,k b _ b2⟩
  rw [j]; simpa using b1
 .cases c
end
end Go.Ab
namespace Go.Ab
open Go Go.Proofs
open Go.Proofs.YtpgmgplnkdhlbaaGreatDoor.Rows (uptoBulk uptoBulkAll)
section
variable {H:Type} {enc:TypeId×Value->H} {w:World}
theorem Am0 {a:Int} (h:IntKind.i64.min<=a/\a<=IntKind.i64.max):I64 a:=by
 have c:IntKind.i64.min = -9223372036854775808:=by decide
 have b:IntKind.i64.max=9223372036854775807:=by decide
 rw [c,b] at h; exact h
theorem Aes:∀{l:List Af} {m:Nat},QL (fun a b=>A9 a<=b) l m->Ce l<=m
 | [],_,_=>Nat.zero_le _
 | _::l,_,⟨m1,m2,h1,h2,h3,h4⟩=>by have:=Aes h4; simp only [Ce]; omega
theorem Am1:∀{l:List Az} {m:Nat},QL (fun a b=>Cm a<=b/\iR a) l m->Db l<=m/\iRs l
 | [],_,_=>⟨Nat.zero_le _,trivial⟩
 | _::l,_,⟨m1,m2,h1,h2,h3,h4⟩=>by have:=Am1 h4; simp only [Db,iRs]; exact ⟨by omega,h3.2,this.2⟩
theorem Am2 {n:Nat} (h:Rd enc Go.Proofs.Tryz.prog w n 23 (fun l:List Af=>[.sl 3 (l.map Cv)]) (fun l b=>∃m,m+1<=b/\QL (fun a b=>A9 a<=b) l m)) :
  Rd enc Go.Proofs.Tryz.prog w (n+1) 25 (fun a:Af=>(Cv a).cells) (fun a b=>A9 a<=b):=by
 refine Jr (fun p:Int×Int×List Af×Unit=>⟨p.1,p.2.1,p.2.2.1⟩) Go.Proofs.Tryz.underlying25 (by kernel_rfl) (by kernel_rfl) (fun b=>?_) ?_
  (E4 1 (K6 .i64 n Go.Proofs.Tryz.underlying3) (E4 1 (K6 .i64 n Go.Proofs.Tryz.underlying3) (E4 1 h (Jq n 3))))
 .simp [Cv,AV.cells,Il]
 .rintro ⟨a,b,l,_⟩ m ⟨m1,m2,rfl,_,m3,m4,rfl,_,m5,m6,rfl,⟨k,hk,hq⟩,_⟩
  have:=Aes hq
  simp only [A9] at *; omega
theorem Aet:∀n:Nat,Rd enc Go.Proofs.Tryz.prog w n 25 (fun a:Af=>(Cv a).cells) (fun a b=>A9 a<=b)
 | 0=>Ht _ _ _
 | 1=>Am2 (Ht _ _ _)
 | n+2=>Am2 (Za 3 Cv Go.Proofs.Tryz.underlying23 (by kernel_rfl) (by decide) (fun _=>rfl) (fun _=>rfl) (Aet n))
theorem Am3 (n:Nat):Rd enc Go.Proofs.Tryz.prog w n 23 (fun l:List Af=>[.sl 3 (l.map Cv)]) (fun l b=>∃m,m+1<=b/\QL (fun a b=>A9 a<=b) l m):=by
 cases n with
 | zero=>exact Ht _ _ _
 | succ n=>exact Za 3 Cv Go.Proofs.Tryz.underlying23 (by kernel_rfl) (by decide) (fun _=>rfl) (fun _=>rfl) (Aet n)
theorem Am4 {n:Nat} (h:Rd enc Go.Proofs.Tryz.prog w n 61 (fun l:List Az=>[.sl 2 (l.map D7)]) (fun l b=>∃m,m+1<=b/\QL (fun a b=>Cm a<=b/\iR a) l m)) :
  Rd enc Go.Proofs.Tryz.prog w (n+1) 63 (fun a:Az=>(D7 a).cells) (fun a b=>Cm a<=b/\iR a):=by
 refine Jr (fun p:Int×List Az×Unit=>⟨p.1,p.2.1⟩) Go.Proofs.Tryz.underlying63 (by kernel_rfl) (by kernel_rfl) (fun b=>?_) ?_
  (E4 1 (K6 .i64 n Go.Proofs.Tryz.underlying3) (E4 1 h (Jq n 2)))
 .simp [D7,AV.cells,Jd]
 .rintro ⟨a,l,_⟩ m ⟨m1,m2,rfl,ha,m5,m6,rfl,⟨k,hk,hq⟩,_⟩
  have:=Am1 hq
  have ha:=Am0 ha
  simp only [Cm,iR] at *
  exact ⟨by omega,ha,this.2⟩
theorem Am5:∀n:Nat,Rd enc Go.Proofs.Tryz.prog w n 63 (fun a:Az=>(D7 a).cells) (fun a b=>Cm a<=b/\iR a)
 | 0=>Ht _ _ _
 | 1=>Am4 (Ht _ _ _)
 | n+2=>Am4 (Za 2 D7 Go.Proofs.Tryz.underlying61 (by kernel_rfl) (by decide) (fun _=>rfl) (fun _=>rfl) (Am5 n))
theorem Pq {t e:TypeId} (sz:Nat) {α:Type} {f:α->List AV} (g:α->AV) {Q:α->Nat->Prop} (hu:Go.Proofs.Tryz.prog.underlying t=some (.slice e)) (c:Go.Proofs.Tryz.prog.cellsOf e=sz) (hpos:0<sz)
  (h:∀a,(g a).cells=f a) (i:∀a,(f a).length=sz) (ih:∀n,Rd enc Go.Proofs.Tryz.prog w n e f Q) (n:Nat):Rd enc Go.Proofs.Tryz.prog w n t (fun l:List α=>[.sl sz (l.map g)]) (fun l b=>∃m,m+1<=b/\QL Q l m):=by
 cases n with
 | zero=>exact Ht _ _ _
 | succ n=>exact Za sz g hu c hpos h i (ih n)
theorem Axa (n:Nat):Rd enc Go.Proofs.Tryz.prog w n 125 (fun a:Ka=>(Xh a).cells) (fun a b=>a.Name.size<=b/\Ce a.Args<=b):=by
 cases n with
 | zero=>exact Ht _ _ _
 | succ n=>
  refine Jr (fun p:ByteArray×List Af×Unit=>⟨p.1,p.2.1⟩) Go.Proofs.Tryz.underlying125 (by kernel_rfl) (by kernel_rfl) (fun b=>?_) ?_
   (E4 1 (Amy n Go.Proofs.Tryz.underlying9) (E4 1 (Am3 n) (Jq n 2)))
  .simp [Xh,AV.cells,Il]
  .rintro ⟨a,l,_⟩ m ⟨m1,m2,rfl,ha,m5,m6,rfl,⟨k,hk,hq⟩,_⟩
   have:=Aes hq
   simp only at *
   exact ⟨by omega,by omega⟩
theorem Axb (n:Nat):Rd enc Go.Proofs.Tryz.prog w n 123 (fun a:Ao=>(Bt a).cells) (fun a b=>a.Name.size<=b/\a.Cons.length<=b/\∀y∈a.Cons,y.Name.size<=b/\Ce y.Args<=b):=by
 cases n with
 | zero=>exact Ht _ _ _
 | succ n=>
  refine Jr (fun p:ByteArray×Int×List Ka×Unit=>⟨p.1,p.2.1,p.2.2.1⟩) Go.Proofs.Tryz.underlying123 (by kernel_rfl) (by kernel_rfl) (fun b=>?_) ?_
   (E4 1 (Amy n Go.Proofs.Tryz.underlying9) (E4 1 (K6 .i64 n Go.Proofs.Tryz.underlying3) (E4 1 (Pq 2 Xh Go.Proofs.Tryz.underlying121 (by kernel_rfl) (by decide) (fun _=>rfl) (fun _=>rfl) Axa n) (Jq n 3))))
  .simp [Bt,AV.cells]
  .rintro ⟨a,b,l,_⟩ m ⟨m1,m2,rfl,ha,m3,m4,rfl,_,m5,m6,rfl,⟨k,hk,hq⟩,_⟩
   have h1:=K7 hq
   have h2:=Nn hq
   simp only at *
   refine ⟨by omega,by omega,fun y hy=>?_⟩
   obtain ⟨c,g1,g2,g3⟩:=h2 y hy
   exact ⟨by omega,by omega⟩
theorem Axc (n:Nat):Rd enc Go.Proofs.Tryz.prog w n 27 (fun a:Ck=>(G8 a).cells) (fun a b=>b<=1048576->CSz a):=by
 cases n with
 | zero=>exact Ht _ _ _
 | succ n=>
  refine Jr (fun p:List Ao×List Af×Af×Unit=>⟨p.1,p.2.1,p.2.2.1⟩) Go.Proofs.Tryz.underlying27 (by kernel_rfl) (by kernel_rfl) (fun b=>?_) ?_
   (E4 1 (Pq 3 Bt Go.Proofs.Tryz.underlying22 (by kernel_rfl) (by decide) (fun _=>rfl) (fun _=>rfl) Axb n) (E4 1 (Am3 n) (E4 3 (Aet n) (Jq n 5))))
  .simp [G8,Cv,AV.cells,Il]
  .rintro ⟨a,b,l,_⟩ m ⟨m1,m2,rfl,⟨k,hk,hq⟩,m3,m4,rfl,⟨g,f,hq'⟩,m5,m6,rfl,i,_⟩ h
   have h1:=K7 hq
   have h2:=Nn hq
   have h3:=K7 hq'
   have h4:=Nn hq'
   simp only at *
   refine ⟨⟨by dsimp only; omega,fun x hx=>?_,fun x hx=>?_,fun x hx y hy=>?_⟩,by dsimp only; omega,fun t ht=>?_,by dsimp only; omega⟩
   .obtain ⟨c,g1,g2,g3,g4⟩:=h2 x hx
    refine ⟨by omega,fun y hy=>?_⟩
    have:=(g4 y hy).2
    omega
   .obtain ⟨c,g1,g2,g3,g4⟩:=h2 x hx
    omega
   .obtain ⟨c,g1,g2,g3,g4⟩:=h2 x hx
    have:=(g4 y hy).1
    omega
   .obtain ⟨c,g1,g2⟩:=h4 t ht
    omega
theorem Axd {α:Type} {Q:α->Nat->Prop} (P:α->Prop) (h:∀a b,Q a b->P a) {l:List α} {m:Nat} (hq:QL Q l m):∀a∈l,P a:=fun a ha=>by
 obtain ⟨c,_,g⟩:=Nn hq a ha
 exact h a c g
theorem Am6 (n:Nat):Rd enc Go.Proofs.Tryz.prog w n 43 (fun l:List Int=>[.sl 1 (l.map (O .u32))]) (fun l b=>l.length<=b/\Jf l):=by
 intro cs d h hb
 obtain ⟨a,h1,m,h2,h3⟩:=Pq (Q:=fun a _=>IntKind.u32.min<=a/\a<=IntKind.u32.max) 1 (O .u32) Go.Proofs.Tryz.underlying43 (by kernel_rfl) (by decide) (fun _=>rfl) (fun _=>rfl) (fun n=>K6 .u32 n Go.Proofs.Tryz.underlying119) n cs d h hb
 refine ⟨a,h1,by have:=K7 h3; omega,fun x hx=>?_⟩
 have:=Axd (fun x=>IntKind.u32.min<=x/\x<=IntKind.u32.max) (fun _ _ h=>h) h3 x hx
 have f:IntKind.u32.min=0:=by decide
 have c:IntKind.u32.max=4294967295:=by decide
 rw [f,c] at this
 omega
theorem Axe (n:Nat):Rd enc Go.Proofs.Tryz.prog w n 45 (fun a:A4=>(Cb a).cells) (fun a b=>RB b a):=by
 cases n with
 | zero=>exact Ht _ _ _
 | succ n=>
  refine Jr (fun p:Bool×List Int×List Int×Unit=>⟨p.1,p.2.1,p.2.2.1⟩) Go.Proofs.Tryz.underlying45 (by kernel_rfl) (by kernel_rfl) (fun b=>?_) ?_
   (E4 1 (Aw8 n Go.Proofs.Tryz.underlying4) (E4 1 (Am6 n) (E4 1 (Am6 n) (Jq n 3))))
  .simp [Cb,AV.cells]
  .rintro ⟨a,b,l,_⟩ m ⟨m1,m2,rfl,_,m3,m4,rfl,h1,m5,m6,rfl,h2,_⟩
   simp only at *
   exact ⟨h1.2,h2.2,by dsimp only; omega,by dsimp only; omega⟩
theorem Axf (n:Nat):Rd enc Go.Proofs.Tryz.prog w n 65 (fun a:Cd=>(Ei a).cells) (fun a b=>Cm a.Index<=b/\iR a.Index/\I64 a.Var):=by
 cases n with
 | zero=>exact Ht _ _ _
 | succ n=>
  refine Jr (fun p:Int×Az×Unit=>⟨p.1,p.2.1⟩) Go.Proofs.Tryz.underlying65 (by kernel_rfl) (by kernel_rfl) (fun b=>?_) ?_
   (E4 1 (K6 .i64 n Go.Proofs.Tryz.underlying3) (E4 2 (Am5 n) (Jq n 3)))
  .simp [Ei,D7,AV.cells]
  .rintro ⟨a,b,_⟩ m ⟨m1,m2,rfl,h1,m3,m4,rfl,h2,_⟩
   have h1:=Am0 h1
   simp only at *
   exact ⟨by omega,h2.2,h1⟩
theorem Axg (n:Nat):Rd enc Go.Proofs.Tryz.prog w n 113 (fun a:Dd=>(Gf a).cells) (fun _ _=>True):=by
 cases n with
 | zero=>exact Ht _ _ _
 | succ n=>
  refine Jr (fun p:Int×Int×Unit=>⟨p.1,p.2.1⟩) Go.Proofs.Tryz.underlying113 (by kernel_rfl) (by kernel_rfl) (fun b=>?_) (fun _ _ _=>trivial)
   (E4 1 (K6 .i64 n Go.Proofs.Tryz.underlying3) (E4 1 (K6 .i64 n Go.Proofs.Tryz.underlying2) (Jq n 2)))
  simp [Gf,AV.cells]
theorem Axh (n:Nat):Rd enc Go.Proofs.Tryz.prog w n 73 (fun a:C2=>(G9 a).cells) (fun a b=>a.Terms.length<=b):=by
 cases n with
 | zero=>exact Ht _ _ _
 | succ n=>
  refine Jr (fun p:Int×List Dd×Unit=>⟨p.1,p.2.1⟩) Go.Proofs.Tryz.underlying73 (by kernel_rfl) (by kernel_rfl) (fun b=>?_) ?_
   (E4 1 (K6 .i64 n Go.Proofs.Tryz.underlying2) (E4 1 (Pq 2 Gf Go.Proofs.Tryz.underlying71 (by kernel_rfl) (by decide) (fun _=>rfl) (fun _=>rfl) Axg n) (Jq n 2)))
  .simp [G9,AV.cells]
  .rintro ⟨a,l,_⟩ m ⟨m1,m2,rfl,ha,m5,m6,rfl,⟨k,hk,hq⟩,_⟩
   have:=K7 hq
   simp only at *
   omega
theorem Axi (n:Nat):Rd enc Go.Proofs.Tryz.prog w n 75 (fun a:B1=>(Dw a).cells) (fun a b=>a.Lin.Terms.length<=b):=by
 cases n with
 | zero=>exact Ht _ _ _
 | succ n=>
  refine Jr (fun p:C2×Int×Unit=>⟨p.1,p.2.1⟩) Go.Proofs.Tryz.underlying75 (by kernel_rfl) (by kernel_rfl) (fun b=>?_) ?_
   (E4 2 (Axh n) (E4 1 (K6 .i64 n Go.Proofs.Tryz.underlying3) (Jq n 3)))
  .simp [Dw,G9,AV.cells]
  .rintro ⟨a,l,_⟩ m ⟨m1,m2,rfl,ha,m5,m6,rfl,_,_⟩
   simp only at *
   omega
theorem Axj (n:Nat):Rd enc Go.Proofs.Tryz.prog w n 49 (fun a:B8=>(F0 a).cells) (fun a b=>b<=1048576->MSz a):=by
 cases n with
 | zero=>exact Ht _ _ _
 | succ n=>
  refine Jr (fun p:List Cd×List B1×Unit=>⟨p.1,p.2.1⟩) Go.Proofs.Tryz.underlying49 (by kernel_rfl) (by kernel_rfl) (fun b=>?_) ?_
   (E4 1 (Pq 3 Ei Go.Proofs.Tryz.underlying46 (by kernel_rfl) (by decide) (fun _=>rfl) (fun _=>rfl) Axf n) (E4 1 (Pq 3 Dw Go.Proofs.Tryz.underlying47 (by kernel_rfl) (by decide) (fun _=>rfl) (fun _=>rfl) Axi n) (Jq n 2)))
  .simp [F0,AV.cells]
  .rintro ⟨a,l,_⟩ m ⟨m1,m2,rfl,⟨i,h,hq'⟩,m5,m6,rfl,⟨k,hk,hq⟩,_⟩ j
   have h1:=K7 hq
   have h2:=Nn hq
   have h3:=K7 hq'
   have h4:=Nn hq'
   simp only at *
   refine ⟨by dsimp only; omega,by dsimp only; omega,fun f c=>?_,fun f c=>?_,fun x hx=>?_⟩
   .obtain ⟨g,g1,g2,g3⟩:=h4 f c
    omega
   .obtain ⟨g,g1,g2,g3⟩:=h4 f c
    exact g3
   .obtain ⟨g,g1,g2⟩:=h2 x hx
    omega
theorem Axk (n:Nat):Rd enc Go.Proofs.Tryz.prog w n 51 (fun a:A6=>(Cq a).cells) (fun a b=>b<=1048576->TSz a):=by
 cases n with
 | zero=>exact Ht _ _ _
 | succ n=>
  refine Jr (fun p:A4×B8×Unit=>⟨p.1,p.2.1⟩) Go.Proofs.Tryz.underlying51 (by kernel_rfl) (by kernel_rfl) (fun b=>?_) ?_
   (E4 3 (Axe n) (E4 2 (Axj n) (Jq n 5)))
  .simp [Cq,Cb,F0,AV.cells]
  .rintro ⟨a,l,_⟩ m ⟨m1,m2,rfl,h1,m5,m6,rfl,h2,_⟩ c
   simp only at *
   exact ⟨RB.mono h1 (by omega),h2 (by omega)⟩
theorem Axl (n:Nat):Rd enc Go.Proofs.Tryz.prog w n 28 (fun l:List A6=>[.sl 5 (l.map Cq)]) (fun l b=>b<=1048576->l.length<=1048576/\∀t∈l,TSz t):=by
 intro cs d h hb
 obtain ⟨a,h1,m,h2,h3⟩:=Pq (Q:=fun a b=>b<=1048576->TSz a) 5 Cq Go.Proofs.Tryz.underlying28 (by kernel_rfl) (by decide) (fun _=>rfl) (fun _=>rfl) Axk n cs d h hb
 refine ⟨a,h1,fun f=>⟨by have:=K7 h3; omega,fun x hx=>?_⟩⟩
 obtain ⟨c,g1,g2⟩:=Nn h3 x hx
 exact g2 (by omega)
end
end Go.Ab
namespace Go.Ab
open Go Go.Proofs Go.ChangeShapes Go.WideShapes Go.ChangeAt Go.RowKit
open Go.Proofs.YtpgmgplnkdhlbaaGreatDoor.Rows (uptoBulk uptoBulkAll uptoSmall)
set_option maxRecDepth 100000
theorem Am7 {P:Program} {W:World} {x:String×DataW Unit} {l:List (String×DataW Unit)} (h:laidMet P (x::l) W):laidMet P l W:=by
 obtain ⟨u,⟨y,s,cs,fuel,p,q,k,g,f,hd,i,c⟩,j,hc⟩:=h
 subst c
 refine ⟨q,i,(List.nodup_append.1 j).2.1,fun b off hb=>hc b off ?_⟩
 simp [hb]
theorem Axm {W:World} (h:laidMetH Go.Proofs.Tryz.prog YtpgmgplnkdhlbaaGreatDoor.Rows.polyTextsRow.laid W):Ps (Km W):=by
 have h1:laidMet Go.Proofs.Tryz.prog [("internal/strconv.uint64pow10",YtpgmgplnkdhlbaaGreatDoor.Rows.laid_internal_strconv_uint64pow10)] W:=Am7 (Am7 h)
 have h2:Lib.TabIs Go.Proofs.Tryz.prog W "internal/strconv.uint64pow10" .u64 Lib.pow10Tab :=
  Lib.tabIs_of_head (g:=0) (rest:=[]) (by kernel_rfl) (by kernel_rfl) Go.Proofs.Tryz.underlying303 Go.Proofs.Tryz.underlying118 (by kernel_rfl) (by kernel_rfl) h1
 have g:Go.Proofs.Tryz.prog.globalNamed "internal/strconv.uint64pow10" = some 0:=by kernel_rfl
 unfold Lib.TabIs World.var? at h2
 rw [g] at h2
 simp only [Option.bind_some] at h2
 split at h2
 .rename_i cs E fr hc
  cases h2
  exact ⟨E,fr,hc⟩
 .cases h2
theorem Axn {W:World} (g:Ps (Km W)):St (Km W) ι0 H0 (fun _=>none) W W :=
 ⟨(fun _ _ h=>h),(fun _ _ h=>by cases h),(fun _=>rfl),(fun _ _ _ h=>by cases h),rfl,rfl,rfl,g,trivial⟩
theorem Axo {σ:Aw} {xs:List AV} {cs:Array Value} (h:CCs σ xs cs.toList):CC σ (.agg xs) (.agg cs) :=
 .agg xs cs (by simpa using h.1) (fun i c v h1 h2=>(h.2 i c v h1 (by simpa using h2)).1)
section
variable {H:Type} {enc:TypeId×Value->H} {W:World} {base:Nat} {t:TypeId} {v:Value} {d:DataW H} {p:List MemPlace}
theorem Axp {α:Type} {g:α->List AV} {Q:α->Nat->Prop} {fs:Array Field} (hu:Go.Proofs.Tryz.prog.underlying t=some (.struct fs)) (b:Value.okWide Go.Proofs.Tryz.prog W .any base t v)
  (hd:DataW.Trod enc Go.Proofs.Tryz.prog W 0 (fun _=>true) true t v d p) (hb:uptoBulk d<=1048576) (rd:∀n,Rd enc Go.Proofs.Tryz.prog W n t g Q):∃a,CC (Km W) (.agg (g a)) v/\Q a (uptoBulk d):=by
 unfold Value.okWide at b
 rw [hu] at b
 obtain ⟨cs,rfl,_⟩:=b
 obtain ⟨n,c⟩:=hd.by
 obtain ⟨a,h1,h2⟩:=rd n _ d c hb
 exact ⟨a,Axo h1,h2⟩
theorem Axq {α:Type} {g:α->AV} {Q:α->Nat->Prop} (b:v.cells = #[v])
  (hd:DataW.Trod enc Go.Proofs.Tryz.prog W 0 (fun _=>true) true t v d p) (hb:uptoBulk d<=1048576) (rd:∀n,Rd enc Go.Proofs.Tryz.prog W n t (fun a=>[g a]) Q):∃a,CC (Km W) (g a) v/\Q a (uptoBulk d):=by
 obtain ⟨n,c⟩:=hd.by
 obtain ⟨a,h1,h2⟩:=rd n _ d c hb
 rw [b] at h1
 exact ⟨a,(h1.2 0 _ _ rfl rfl).1,h2⟩
theorem Axr {e:TypeId} (hu:Go.Proofs.Tryz.prog.underlying t=some (.slice e)) (b:Value.okWide Go.Proofs.Tryz.prog W .any base t v):v.cells = #[v]:=by
 unfold Value.okWide at b
 rw [hu] at b
 cases v with
 | agg cs=>simp only [Cell.okWide,Cell.ok,hu] at b
 | _=>rfl
end
section
variable {H:Type} {enc:TypeId×Value->H} {P:Program}
theorem Am8 (i:laidOutB P=true) {w w':World} {g:Nat->Bool}:∀{b:List TypeId} {vs:List Value} {j:List (DataW H)} {c:List MemPlace},
  (b.all fun t=>P.readableRec t&&decide (t<P.types.size))=true->DataW.TrodAll enc P w 0 (fun _=>true) true b vs j c->(∀p∈c,w.sameAt w' p)->(∀p∈c,g p.block=true)->DataW.TrodAll enc P w' 0 g true b vs j c
 | [],[],[],_,_,h,_,_=>h
 | t::b,_::_,_::_,_,f,⟨p,q,h,hs,e⟩,hk,hp=>by
  subst e
  simp only [List.all_cons,Bool.and_eq_true,decide_eq_true_eq] at f
  exact ⟨p,q,WideElems.Trod_stays i f.1.1 f.1.2 h (fun x hx=>hk x (by simp [hx])) (fun x hx=>hp x (by simp [hx])),Am8 i f.2 hs (fun x hx=>hk x (by simp [hx])) (fun x hx=>hp x (by simp [hx])),rfl⟩
theorem Axs (S:laidOutB P=true) {f:Func} {s:ChangeSpec} {g:Bool} {W l:World} {args:Array Value} {k:List (DataW H)} {j:List MemPlace} {t:TypeId}
  (G:s.vars = []) (I:DataW.Whole enc P f.params.toList s.vars false W args.toList k [] j) (R:(f.params.toList.all fun t=>P.readableRec t&&decide (t<P.types.size))=true)
  (E:(s.fn H k).results = [.lit (.bool true)]/\(s.fn H k).args=k/\(s.fn H k).vars = [])
  (B:f.resultTypes = #[t]) (ht:P.underlying t=some .bool)
  (z:∀(b:Nat) (o:Obj),W.heap[b]? = some o->l.heap[b]? = some o) (D:l.os=W.os) (u:l.output=W.output) :
  s.post enc P f false true g false W args (.bool true) l:=by
 have A:=I
 obtain ⟨p,q,V,J,rfl,U,_⟩:=I
 rw [G] at J
 obtain rfl:q = []:=J
 have y:=A.lt
 rw [List.append_nil] at *
 have c:∀b,b<W.heap.size->l.heap[b]? = W.heap[b]?:=fun b hb=>by
  rw [Array.getElem?_eq_getElem hb]
  exact z b _ (Array.getElem?_eq_getElem hb)
 have same:∀x∈p,W.sameAt l x:=by
  intro x hx
  have:=c x.block (y x hx)
  cases x with
  | cell b o=>exact World.cell?_of_block (w:=W) this
  | map b=>exact this
 obtain ⟨N,M,L⟩:=E
 refine ⟨k,[],p,[],p,[],A,?_,?_,?_,⟨D,u,fun i hi=>?_⟩,fun h=>by cases h⟩
 .rw [List.append_nil,N,B]
  exact trodAll_mk1 (shut_bool ht _)
 .rw [List.append_nil,M]
  exact Am8 S R V same (fun x hx=>by simpa using y x hx)
 .rw [List.append_nil,L,G]; rfl
 .rw [c i hi]
  split <;> simp_all
end
end Go.Ab
