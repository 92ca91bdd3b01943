/- How the readings of the arguments stand as plain values. -/
import Derived.Test.YtbobikfnkmhgnaaGreatDoorRows
import Derived.Test.YtbobikfnkmhgnaaGreatDoorPbTy
import Derived.ReaderBy
import Derived.Test.YtbobikfnkmhgnaaGreatDoorPbPl3
import Derived.Test.YtbobikfnkmhgnaaGreatDoorCards
import Derived.Test.YtbobikfnkmhgnaaGreatDoorTie
import Derived.ChangeOld
import Derived.ChangeSame
import Derived.Carry
import Derived.RowKit
import Derived.WalkKit
import Derived.ProofKit
import Derived.OpenShut
import Derived.Deep.DeepHandedRow
import Derived.Lib.LaidTab
namespace Go.Ab
open Go
open Go.Proofs.YtbobikfnkmhgnaaGreatDoor.Rows (uptoBulk uptoBulkAll)
def Lz (w:World):Aw:=fun b=>w.heap[b]?
def CCs (σ:Aw) (xs:List AV) (cs:List Value):Prop :=
 cs.length=xs.length/\∀(j:Nat) (a:AV) (c:Value),xs[j]? = some a->cs[j]? = some c->CC σ a c/\D7 c=true
section
variable {H:Type} {enc:TypeId×Value->H} {P:Program} {w:World}
def Rd (enc:TypeId×Value->H) (P:Program) (w:World) (n:Nat) (t:TypeId) {α:Type} (f:α->List AV) (Q:α->Nat->Prop):Prop :=
 ∀(cs:List Value) (d:DataW H),DataW.ofBy (keyOf P) enc P w 0 true true n t cs=some d->uptoBulk d<=1048576->∃a:α,CCs (Lz w) (f a) cs/\Q a (uptoBulk d)
theorem Kx (t:TypeId) {α:Type} (f:α->List AV) (Q:α->Nat->Prop):Rd enc P w 0 t f Q:=fun _ _ h=>by cases h
theorem A2e (d:DataW H):1<=uptoBulk d:=by
 cases d with
 | lit l=>cases l <;> simp [uptoBulk]
 | _=>simp [uptoBulk]
theorem Uw {σ:Aw} {a:AV} {c:Value} (h:CC σ a c) (h1:D7 c=true):CCs σ [a] [c]:=by
 refine ⟨rfl,fun j x y hx hy=>?_⟩
 cases j with
 | zero=>cases hx; cases hy; exact ⟨h,h1⟩
 | succ j=>cases hx
theorem A2f {σ:Aw} {xs bs:List AV} {cs b:List Value} (h:CCs σ xs cs) (h':CCs σ bs b):CCs σ (xs++bs) (cs++b):=by
 refine ⟨by simp [h.1,h'.1],fun j x y hx hy=>?_⟩
 rcases Nat.lt_or_ge j xs.length with hj | hj
 .rw [List.getElem?_append_left hj] at hx
  rw [List.getElem?_append_left (by rw [h.1]; exact hj)] at hy
  exact h.2 j x y hx hy
 .rw [List.getElem?_append_right hj] at hx
  rw [List.getElem?_append_right (by rw [h.1]; exact hj),h.1] at hy
  exact h'.2 _ x y hx hy
theorem Mn (k:IntKind) {t:TypeId} (n:Nat) (hu:P.underlying t=some (.int k)):Rd enc P w n t (fun a:Int=>[O k a]) (fun a _=>k.min<=a/\a<=k.max):=by
 intro cs d h _
 cases n with
 | zero=>cases h
 | succ n=>
  rcases cs with _ | ⟨c,_ | ⟨f,r⟩⟩
  .simp [DataW.ofBy,hu] at h
  .cases c <;> simp [DataW.ofBy,hu] at h
   rename_i b m
   obtain ⟨⟨rfl,hw⟩,_⟩:=h
   exact ⟨m,Uw (.val _) rfl,by simpa [Lit.wf] using hw⟩
  .simp [DataW.ofBy,hu] at h
theorem A2g {t:TypeId} (n:Nat) (hu:P.underlying t=some .bool):Rd enc P w n t (fun a:Bool=>[Ao a]) (fun _ _=>True):=by
 intro cs d h _
 cases n with
 | zero=>cases h
 | succ n=>
  rcases cs with _ | ⟨c,_ | ⟨b,r⟩⟩
  .simp [DataW.ofBy,hu] at h
  .cases c <;> simp [DataW.ofBy,hu] at h
   exact ⟨_,Uw (.val _) rfl,trivial⟩
  .simp [DataW.ofBy,hu] at h
theorem Apu {t:TypeId} (n:Nat) (hu:P.underlying t=some .string):Rd enc P w n t (fun a:ByteArray=>[Dl a]) (fun a b=>a.size<=b):=by
 intro cs d h _
 cases n with
 | zero=>cases h
 | succ n=>
  rcases cs with _ | ⟨c,_ | ⟨f,r⟩⟩
  .simp [DataW.ofBy,hu] at h
  .cases c
   case string s=>
    have h':(if s.size<=maxLen then some (DataW.lit (H:=H) (.string s.data.toList)) else none)=some d:=by unfold DataW.ofBy at h; rw [hu] at h; exact h
    split at h'
    .cases h'
     refine ⟨_,Uw (.val _) rfl,?_⟩
     have e:s.data.toList.length=s.size:=by rw [Array.length_toList]; rfl
     simp only [uptoBulk]
     omega
    .cases h'
   all_goals (unfold DataW.ofBy at h; rw [hu] at h; cases h)
  .simp [DataW.ofBy,hu] at h
def QL {α:Type} (Q:α->Nat->Prop):List α->Nat->Prop
 | [],_=>True
 | a::l,m=>∃m1 m2,1<=m1/\m1+m2<=m/\Q a m1/\QL Q l m2
theorem A2h {e:TypeId} {sz n:Nat} {α:Type} {f:α->List AV} {Q:α->Nat->Prop} (ih:Rd enc P w n e f Q) (g:Nat->Option (List Value)):∀(L:List Nat) (c:List (DataW H)),
  L.mapM (fun i=>(g i).bind (DataW.ofBy (keyOf P) enc P w 0 true true n e))=some c->uptoBulkAll c<=1048576 ->
  ∃l:List α,l.length=L.length/\QL Q l (uptoBulkAll c)/\∀(i:Nat) (a:α),l[i]? = some a->∃k cs,L[i]? = some k/\g k=some cs/\CCs (Lz w) (f a) cs:=by
 intro L
 induction L with
 | nil=>
  intro c h _
  exact ⟨[],rfl,trivial,fun i a h=>by cases h⟩
 | cons k L j=>
  intro c h hb
  simp only [List.mapM_cons,Option.pure_def,Option.bind_eq_bind,Option.bind_eq_some_iff] at h
  obtain ⟨d,⟨cs,h1,h2⟩,b,h3,A⟩:=h
  cases A
  simp only [uptoBulkAll] at hb
  obtain ⟨a,ha,hq⟩:=ih cs d h2 (by omega)
  obtain ⟨l,y,u,s⟩:=j b h3 (by omega)
  refine ⟨a::l,by simp [y],⟨uptoBulk d,uptoBulkAll b,A2e d,by simp [uptoBulkAll],hq,u⟩,?_⟩
  intro i x hx
  cases i with
  | zero=>cases hx; exact ⟨k,cs,rfl,h1,ha⟩
  | succ i=>
   obtain ⟨z,q,g1,g2,g3⟩:=s i x hx
   exact ⟨z,q,g1,g2,g3⟩
theorem R8 {α:Type} {Q:α->Nat->Prop}:∀{l:List α} {m:Nat},QL Q l m->l.length<=m
 | [],_,_=>Nat.zero_le _
 | _::l,_,⟨m1,m2,h1,h2,_,b⟩=>by have:=R8 b; simp only [List.length_cons]; omega
theorem Yb {α:Type} {Q:α->Nat->Prop}:∀{l:List α} {m:Nat},QL Q l m->∀a∈l,∃b,b<=m/\Q a b
 | _::l,_,⟨m1,m2,h1,h2,h3,c⟩,a,ha=>by
  rcases List.mem_cons.1 ha with rfl | ha
  .exact ⟨m1,by omega,h3⟩
  .obtain ⟨b,g1,g2⟩:=Yb c a ha
   exact ⟨b,by omega,g2⟩
theorem Ab7 {a:Addr} {n:Nat} {cs:List Value} (h:w.cells? 0 a n=some cs):cs.length=n/\∀j,j<n->w.cell? (a.add j)=cs[j]?:=by
 unfold World.cells? at h
 rw [if_pos (Nat.zero_le _)] at h
 have key:∀(L:List Nat) (cs:List Value),L.mapM (fun i=>w.cell? (a.add i))=some cs->cs.length=L.length/\∀(i k:Nat),L[i]? = some k->w.cell? (a.add k)=cs[i]?:=by
  intro L
  induction L with
  | nil=>intro cs h; cases h; exact ⟨rfl,fun i k h=>by cases h⟩
  | cons x L ih=>
   intro cs h
   simp only [List.mapM_cons,Option.pure_def,Option.bind_eq_bind,Option.bind_eq_some_iff] at h
   obtain ⟨v,h1,vs,h2,h3⟩:=h
   cases h3
   obtain ⟨i1,i2⟩:=ih vs h2
   refine ⟨by simp [i1],fun i k hk=>?_⟩
   cases i with
   | zero=>cases hk; simpa using h1
   | succ i=>simpa using i2 i k hk
 obtain ⟨h1,h2⟩:=key _ _ h
 rw [List.length_range] at h1
 exact ⟨h1,fun j hj=>h2 j j (by simp [hj])⟩
theorem Apv {a:Addr} (h:a.spot=none) (m:Nat):a.add m=⟨a.block,a.off+m,none⟩:=by
 unfold Addr.add
 split
 .rename_i e; subst e; cases a; simp_all
 .rfl
theorem Ab8 {t e:TypeId} (sz:Nat) {n:Nat} {α:Type} {f:α->List AV} (g:α->AV) {Q:α->Nat->Prop} (hu:P.underlying t=some (.slice e)) (L:P.cellsOf e=sz) (hpos:0<sz)
  (S:∀a,(g a).cells=f a) (U:∀a,(f a).length=sz) (ih:Rd enc P w n e f Q):Rd enc P w (n+1) t (fun l:List α=>[.sl sz (l.map g)]) (fun l b=>∃m,m+1<=b/\QL Q l m):=by
 intro cs d h hb
 rcases cs with _ | ⟨c,_ | ⟨c',r⟩⟩
 .simp [DataW.ofBy,hu] at h
 .cases c
  case slice base len cap=>
   cases base with
   | none=>
    have:d = .nil/\len=0:=by
     unfold DataW.ofBy at h
     rw [hu] at h
     split at h <;> simp_all
    obtain ⟨rfl,rfl⟩:=this
    exact ⟨[],Uw (.nil sz _ _) rfl,0,by simp [uptoBulk],trivial⟩
   | some a=>
    have h':(if 0<=a.block/\len<=cap/\cap<=maxLen then
     ((List.range len).mapM fun i=>(w.cells? 0 (a.add (i*P.cellsOf e)) (P.cellsOf e)).bind (DataW.ofBy (keyOf P) enc P w 0 true true n e)).bind fun u=>
     (if true=true then (List.range (cap-len)).mapM fun j=>(w.cells? 0 (a.add ((len+j)*P.cellsOf e)) (P.cellsOf e)).bind (DataW.ofBy (keyOf P) enc P w 0 true true n e) else some []).map fun rest=>DataW.slice u rest
     else none)=some d:=by
     unfold DataW.ofBy at h
     rw [hu] at h
     exact h
    split at h'
    .rename_i hc
     simp only [Option.bind_eq_some_iff,Option.map_eq_some_iff] at h'
     obtain ⟨u,h1,rest,h2,rfl⟩:=h'
     rw [L] at h1
     simp only [uptoBulk] at hb
     obtain ⟨l,G,Y,l3⟩:=A2h (sz:=sz) ih (fun i=>w.cells? 0 (a.add (i*sz)) sz) _ _ h1 (by omega)
     have a1:=R8 Y
     rw [List.length_range] at G
     refine ⟨l,?_,uptoBulkAll u,by simp only [uptoBulk]; omega,Y⟩
     cases R:l with
     | nil=>
      rw [R] at G
      have:len=0:=G.symm
      subst this
      exact Uw (.nil sz _ _) rfl
     | cons x l'=>
      rw [<-R]
      refine Uw ?_ rfl
      have at0:∀(i:Nat) (y:α),l[i]? = some y->∃cs,w.cells? 0 (a.add (i*sz)) sz=some cs/\CCs (Lz w) (f y) cs:=by
       intro i y hy
       obtain ⟨k,cs,g1,g2,g3⟩:=l3 i y hy
       have hk:k=i:=by
        rw [List.getElem?_range (by have:=(List.getElem?_eq_some_iff.1 hy).1; omega)] at g1
        exact (Option.some.inj g1).symm
       subst hk
       exact ⟨cs,g2,g3⟩
      have J:l[0]? = some x:=by rw [R]; rfl
      obtain ⟨X,c1,c2⟩:=at0 0 x J
      have A:=(Ab7 c1).2 0 hpos
      have a6:X.length=sz:=(Ab7 c1).1
      rw [List.getElem?_eq_getElem (by omega)] at A
      have s:a.spot=none/\∃C E fr,w.heap[a.block]? = some (.cells C E fr):=by
       have V:(a.add (0*sz)).add 0=a:=by simp [Addr.add]
       rw [V] at A
       unfold World.cell? at A
       split at A
       .rename_i C E fr I
        split at A
        .cases A
        .rename_i Z
         refine ⟨?_,C,E,fr,I⟩
         cases M:a.spot with
         | none=>rfl
         | some _=>rw [M] at Z; simp at Z
       .cases A
      obtain ⟨s,C,E,fr,I⟩:=s
      have z:∀i j:Nat,w.cell? ((a.add (i*sz)).add j)=C[a.off+i*sz+j]?:=by
       intro i j
       rw [Apv s,Apv rfl]
       unfold World.cell?
       rw [I]; rfl
      have q:∀(i:Nat) (y:α) (j:Nat) (c:AV),l[i]? = some y->(g y).cells[j]? = some c->∃v,C[a.off+i*sz+j]? = some v/\CC (Lz w) c v/\D7 v=true:=by
       intro i y j c hy hc
       obtain ⟨cs,e1,e2⟩:=at0 i y hy
       rw [S] at hc
       have hj:=(List.getElem?_eq_some_iff.1 hc).1
       rw [U] at hj
       have D:j<cs.length:=by rw [(Ab7 e1).1]; exact hj
       have:=(Ab7 e1).2 j hj
       rw [z,List.getElem?_eq_getElem D] at this
       exact ⟨_,this,e2.2 j c _ hc (List.getElem?_eq_getElem D)⟩
      have hb':a=⟨a.block,a.off,none⟩:=by cases a; simp_all
      rw [hb']
      have N:l.length=(l.map g).length:=by simp
      rw [<-G,N]
      refine CC.sl (l.map g) a.block a.off cap sz C E fr (fun i j=>(C[a.off+i*sz+j]?).getD undef) I ?_ ?_ ?_ ?_ (by simp; omega) (by simp; omega)
      .intro i y hy
       simp only [List.getElem?_map,Option.map_eq_some_iff] at hy
       obtain ⟨y,_,rfl⟩:=hy
       rw [S,U]
      .intro i y j c hy hc
       simp only [List.getElem?_map,Option.map_eq_some_iff] at hy
       obtain ⟨y,hy,rfl⟩:=hy
       obtain ⟨v,B,v2,v3⟩:=q i y j c hy hc
       rw [B]; exact v2
      .intro i y j c hy hc
       simp only [List.getElem?_map,Option.map_eq_some_iff] at hy
       obtain ⟨y,hy,rfl⟩:=hy
       obtain ⟨v,B,v2,v3⟩:=q i y j c hy hc
       rw [B]; exact v3
      .intro i j hi hj
       rw [List.length_map] at hi
       have hy:l[i]? = some l[i]:=List.getElem?_eq_getElem hi
       have hc:(g l[i]).cells[j]? = some ((g l[i]).cells[j]'(by rw [S,U]; exact hj)):=List.getElem?_eq_getElem _
       obtain ⟨v,B,_⟩:=q i _ j _ hy hc
       rw [B]; rfl
    .cases h'
  all_goals simp [DataW.ofBy,hu] at h
 .simp [DataW.ofBy,hu] at h
def RdL (enc:TypeId×Value->H) (P:Program) (w:World) (n b off:Nat) (fs:List (TypeId×Nat×Nat)) {α:Type} (f:α->List AV) (Q:α->Nat->Prop):Prop :=
 ∀(cs:List Value) (ds:List (DataW H)),cs.length=b->fs.mapM (fun x=>DataW.ofBy (keyOf P) enc P w 0 true true n x.1 ((cs.drop x.2.1).take x.2.2))=some ds->uptoBulkAll ds<=1048576 ->
  ∃a:α,CCs (Lz w) (f a) (cs.drop off)/\Q a (uptoBulkAll ds)
theorem Pg (n b:Nat):RdL enc P w n b b [] (fun _:Unit=>[]) (fun _ _=>True):=by
 intro cs ds h _ _
 exact ⟨(),⟨by simp [h],fun j a c h=>by cases h⟩,trivial⟩
theorem G6 {n c off:Nat} (sz:Nat) {t:TypeId} {fs:List (TypeId×Nat×Nat)} {α β:Type} {f:α->List AV} {g:β->List AV} {Q:α->Nat->Prop} {R:β->Nat->Prop}
  (h1:Rd enc P w n t f Q) (h2:RdL enc P w n c (off+sz) fs g R):RdL enc P w n c off ((t,off,sz)::fs) (fun p:α×β=>f p.1++g p.2) (fun p m=>∃m1 m2,m1+m2=m/\Q p.1 m1/\R p.2 m2):=by
 intro cs ds j h hb
 simp only [List.mapM_cons,Option.pure_def,Option.bind_eq_bind,Option.bind_eq_some_iff] at h
 obtain ⟨d,q,i,l,k⟩:=h
 cases k
 simp only [uptoBulkAll] at hb ⊢
 obtain ⟨a,a1,a2⟩:=h1 _ d q (by omega)
 obtain ⟨b,b1,b2⟩:=h2 cs i j l (by omega)
 refine ⟨(a,b),?_,_,_,rfl,a2,b2⟩
 have:=A2f a1 b1
 rwa [<-List.drop_drop,List.take_append_drop] at this
theorem Ph {t:TypeId} {fs:Array Field} {n i:Nat} {L:List (TypeId×Nat×Nat)} {α β:Type} {g:β->List AV} {f:α->List AV} {R:β->Nat->Prop} {Q:α->Nat->Prop} (φ:β->α)
  (hu:P.underlying t=some (.struct fs)) (l:fs.toList.map (fun x=>(x.type,x.offset,P.cellsOf x.type))=L) (ht:P.cellsOf t=i)
  (j:∀b,f (φ b)=g b) (k:∀b m,R b m->Q (φ b) (m+1)) (h:RdL enc P w n i 0 L g R):Rd enc P w (n+1) t f Q:=by
 intro cs d hd hb
 have c:(if cs.length=P.cellsOf t then (fs.toList.mapM fun x=>DataW.ofBy (keyOf P) enc P w 0 true true n x.type ((cs.drop x.offset).take (P.cellsOf x.type))).map DataW.agg else none)=some d:=by
  unfold DataW.ofBy at hd
  rw [hu] at hd
  split at hd <;> simp_all
 split at c
 .rename_i hc
  simp only [Option.map_eq_some_iff] at c
  obtain ⟨ds,h1,rfl⟩:=c
  simp only [uptoBulk] at hb
  obtain ⟨b,b1,b2⟩:=h cs ds (hc.trans ht) (by rw [<-l,List.mapM_map]; exact h1) (by omega)
  refine ⟨φ b,?_,k b _ b2⟩
  rw [j]; simpa using b1
 .cases c
end
end Go.Ab
namespace Go.Ab
open Go Go.Proofs
open Go.Proofs.YtbobikfnkmhgnaaGreatDoor.Rows (uptoBulk uptoBulkAll)
section
variable {H:Type} {enc:TypeId×Value->H} {w:World}
theorem Apw {a:Int} (h:IntKind.i64.min<=a/\a<=IntKind.i64.max):I64 a:=by
 have c:IntKind.i64.min = -9223372036854775808:=by decide
 have b:IntKind.i64.max=9223372036854775807:=by decide
 rw [c,b] at h; exact h
theorem Ahb:∀{l:List Ah} {m:Nat},QL (fun a b=>Bg a<=b) l m->Cp l<=m
 | [],_,_=>Nat.zero_le _
 | _::l,_,⟨m1,m2,h1,h2,h3,c⟩=>by have:=Ahb c; simp only [Cp]; omega
theorem Apx:∀{l:List A9} {m:Nat},QL (fun a b=>C4 a<=b/\iR a) l m->Fd l<=m/\iRs l
 | [],_,_=>⟨Nat.zero_le _,trivial⟩
 | _::l,_,⟨m1,m2,h1,h2,h3,c⟩=>by have:=Apx c; simp only [Fd,iRs]; exact ⟨by omega,h3.2,this.2⟩
theorem Apy {n:Nat} (h:Rd enc Go.Proofs.Tryz.prog w n 23 (fun l:List Ah=>[.sl 3 (l.map Dw)]) (fun l b=>∃m,m+1<=b/\QL (fun a b=>Bg a<=b) l m)) :
  Rd enc Go.Proofs.Tryz.prog w (n+1) 25 (fun a:Ah=>(Dw a).cells) (fun a b=>Bg a<=b):=by
 refine Ph (fun p:Int×Int×List Ah×Unit=>⟨p.1,p.2.1,p.2.2.1⟩) Go.Proofs.Tryz.underlying25 (by kernel_rfl) (by kernel_rfl) (fun b=>?_) ?_
  (G6 1 (Mn .i64 n Go.Proofs.Tryz.underlying3) (G6 1 (Mn .i64 n Go.Proofs.Tryz.underlying3) (G6 1 h (Pg n 3))))
 .simp [Dw,AV.cells,Jf]
 .rintro ⟨a,b,l,_⟩ m ⟨m1,m2,rfl,_,m3,m4,rfl,_,m5,m6,rfl,⟨k,hk,hq⟩,_⟩
  have:=Ahb hq
  simp only [Bg] at *; omega
theorem Ahc:∀n:Nat,Rd enc Go.Proofs.Tryz.prog w n 25 (fun a:Ah=>(Dw a).cells) (fun a b=>Bg a<=b)
 | 0=>Kx _ _ _
 | 1=>Apy (Kx _ _ _)
 | n+2=>Apy (Ab8 3 Dw Go.Proofs.Tryz.underlying23 (by kernel_rfl) (by decide) (fun _=>rfl) (fun _=>rfl) (Ahc n))
theorem Apz (n:Nat):Rd enc Go.Proofs.Tryz.prog w n 23 (fun l:List Ah=>[.sl 3 (l.map Dw)]) (fun l b=>∃m,m+1<=b/\QL (fun a b=>Bg a<=b) l m):=by
 cases n with
 | zero=>exact Kx _ _ _
 | succ n=>exact Ab8 3 Dw Go.Proofs.Tryz.underlying23 (by kernel_rfl) (by decide) (fun _=>rfl) (fun _=>rfl) (Ahc n)
theorem Ap0 {n:Nat} (h:Rd enc Go.Proofs.Tryz.prog w n 40 (fun l:List A9=>[.sl 2 (l.map Ev)]) (fun l b=>∃m,m+1<=b/\QL (fun a b=>C4 a<=b/\iR a) l m)) :
  Rd enc Go.Proofs.Tryz.prog w (n+1) 42 (fun a:A9=>(Ev a).cells) (fun a b=>C4 a<=b/\iR a):=by
 refine Ph (fun p:Int×List A9×Unit=>⟨p.1,p.2.1⟩) Go.Proofs.Tryz.underlying42 (by kernel_rfl) (by kernel_rfl) (fun b=>?_) ?_
  (G6 1 (Mn .i64 n Go.Proofs.Tryz.underlying3) (G6 1 h (Pg n 2)))
 .simp [Ev,AV.cells,Kk]
 .rintro ⟨a,l,_⟩ m ⟨m1,m2,rfl,ha,m5,m6,rfl,⟨k,hk,hq⟩,_⟩
  have:=Apx hq
  have ha:=Apw ha
  simp only [C4,iR] at *
  exact ⟨by omega,ha,this.2⟩
theorem Ap1:∀n:Nat,Rd enc Go.Proofs.Tryz.prog w n 42 (fun a:A9=>(Ev a).cells) (fun a b=>C4 a<=b/\iR a)
 | 0=>Kx _ _ _
 | 1=>Ap0 (Kx _ _ _)
 | n+2=>Ap0 (Ab8 2 Ev Go.Proofs.Tryz.underlying40 (by kernel_rfl) (by decide) (fun _=>rfl) (fun _=>rfl) (Ap1 n))
theorem Ab9 {t e:TypeId} (sz:Nat) {α:Type} {f:α->List AV} (g:α->AV) {Q:α->Nat->Prop} (hu:Go.Proofs.Tryz.prog.underlying t=some (.slice e)) (c:Go.Proofs.Tryz.prog.cellsOf e=sz) (hpos:0<sz)
  (h:∀a,(g a).cells=f a) (i:∀a,(f a).length=sz) (ih:∀n,Rd enc Go.Proofs.Tryz.prog w n e f Q) (n:Nat):Rd enc Go.Proofs.Tryz.prog w n t (fun l:List α=>[.sl sz (l.map g)]) (fun l b=>∃m,m+1<=b/\QL Q l m):=by
 cases n with
 | zero=>exact Kx _ _ _
 | succ n=>exact Ab8 sz g hu c hpos h i (ih n)
theorem A2i (n:Nat):Rd enc Go.Proofs.Tryz.prog w n 99 (fun a:Lp=>(Z6 a).cells) (fun a b=>a.Name.size<=b/\Cp a.Args<=b):=by
 cases n with
 | zero=>exact Kx _ _ _
 | succ n=>
  refine Ph (fun p:ByteArray×List Ah×Unit=>⟨p.1,p.2.1⟩) Go.Proofs.Tryz.underlying99 (by kernel_rfl) (by kernel_rfl) (fun b=>?_) ?_
   (G6 1 (Apu n Go.Proofs.Tryz.underlying9) (G6 1 (Apz n) (Pg n 2)))
  .simp [Z6,AV.cells,Jf]
  .rintro ⟨a,l,_⟩ m ⟨m1,m2,rfl,ha,m5,m6,rfl,⟨k,hk,hq⟩,_⟩
   have:=Ahb hq
   simp only at *
   exact ⟨by omega,by omega⟩
theorem A2j (n:Nat):Rd enc Go.Proofs.Tryz.prog w n 102 (fun a:Az=>(Cn a).cells) (fun a b=>a.Name.size<=b/\a.Cons.length<=b/\∀y∈a.Cons,y.Name.size<=b/\Cp y.Args<=b):=by
 cases n with
 | zero=>exact Kx _ _ _
 | succ n=>
  refine Ph (fun p:ByteArray×Int×List Lp×Unit=>⟨p.1,p.2.1,p.2.2.1⟩) Go.Proofs.Tryz.underlying102 (by kernel_rfl) (by kernel_rfl) (fun b=>?_) ?_
   (G6 1 (Apu n Go.Proofs.Tryz.underlying9) (G6 1 (Mn .i64 n Go.Proofs.Tryz.underlying3) (G6 1 (Ab9 2 Z6 Go.Proofs.Tryz.underlying100 (by kernel_rfl) (by decide) (fun _=>rfl) (fun _=>rfl) A2i n) (Pg n 3))))
  .simp [Cn,AV.cells]
  .rintro ⟨a,b,l,_⟩ m ⟨m1,m2,rfl,ha,m3,m4,rfl,_,m5,m6,rfl,⟨k,hk,hq⟩,_⟩
   have h1:=R8 hq
   have h2:=Yb hq
   simp only at *
   refine ⟨by omega,by omega,fun y hy=>?_⟩
   obtain ⟨c,g1,g2,g3⟩:=h2 y hy
   exact ⟨by omega,by omega⟩
theorem A2k (n:Nat):Rd enc Go.Proofs.Tryz.prog w n 27 (fun a:Ce=>(Ij a).cells) (fun a b=>b<=1048576->CSz a):=by
 cases n with
 | zero=>exact Kx _ _ _
 | succ n=>
  refine Ph (fun p:List Az×List Ah×Ah×Unit=>⟨p.1,p.2.1,p.2.2.1⟩) Go.Proofs.Tryz.underlying27 (by kernel_rfl) (by kernel_rfl) (fun b=>?_) ?_
   (G6 1 (Ab9 3 Cn Go.Proofs.Tryz.underlying22 (by kernel_rfl) (by decide) (fun _=>rfl) (fun _=>rfl) A2j n) (G6 1 (Apz n) (G6 3 (Ahc n) (Pg n 5))))
  .simp [Ij,Dw,AV.cells,Jf]
  .rintro ⟨a,b,l,_⟩ m ⟨m1,m2,rfl,⟨k,hk,hq⟩,m3,m4,rfl,⟨h,f,hq'⟩,m5,m6,rfl,i,_⟩ hm
   have h1:=R8 hq
   have h2:=Yb hq
   have h3:=R8 hq'
   have g:=Yb hq'
   simp only at *
   refine ⟨⟨by dsimp only; omega,fun x hx=>?_,fun x hx=>?_,fun x hx y hy=>?_⟩,by dsimp only; omega,fun t ht=>?_,by dsimp only; omega⟩
   .obtain ⟨c,g1,g2,g3,g4⟩:=h2 x hx
    refine ⟨by omega,fun y hy=>?_⟩
    have:=(g4 y hy).2
    omega
   .obtain ⟨c,g1,g2,g3,g4⟩:=h2 x hx
    omega
   .obtain ⟨c,g1,g2,g3,g4⟩:=h2 x hx
    have:=(g4 y hy).1
    omega
   .obtain ⟨c,g1,g2⟩:=g t ht
    omega
theorem A2l {α:Type} {Q:α->Nat->Prop} (P:α->Prop) (h:∀a b,Q a b->P a) {l:List α} {m:Nat} (hq:QL Q l m):∀a∈l,P a:=fun a ha=>by
 obtain ⟨c,_,g⟩:=Yb hq a ha
 exact h a c g
theorem Ap2 (n:Nat):Rd enc Go.Proofs.Tryz.prog w n 37 (fun l:List Int=>[.sl 1 (l.map (O .u32))]) (fun l b=>l.length<=b/\Kl l):=by
 intro cs d h hb
 obtain ⟨a,h1,m,h2,h3⟩:=Ab9 (Q:=fun a _=>IntKind.u32.min<=a/\a<=IntKind.u32.max) 1 (O .u32) Go.Proofs.Tryz.underlying37 (by kernel_rfl) (by decide) (fun _=>rfl) (fun _=>rfl) (fun n=>Mn .u32 n Go.Proofs.Tryz.underlying106) n cs d h hb
 refine ⟨a,h1,by have:=R8 h3; omega,fun x hx=>?_⟩
 have:=A2l (fun x=>IntKind.u32.min<=x/\x<=IntKind.u32.max) (fun _ _ h=>h) h3 x hx
 have f:IntKind.u32.min=0:=by decide
 have c:IntKind.u32.max=4294967295:=by decide
 rw [f,c] at this
 omega
theorem A2m (n:Nat):Rd enc Go.Proofs.Tryz.prog w n 39 (fun a:Aq=>(B9 a).cells) (fun a b=>RB b a):=by
 cases n with
 | zero=>exact Kx _ _ _
 | succ n=>
  refine Ph (fun p:Bool×List Int×List Int×Unit=>⟨p.1,p.2.1,p.2.2.1⟩) Go.Proofs.Tryz.underlying39 (by kernel_rfl) (by kernel_rfl) (fun b=>?_) ?_
   (G6 1 (A2g n Go.Proofs.Tryz.underlying4) (G6 1 (Ap2 n) (G6 1 (Ap2 n) (Pg n 3))))
  .simp [B9,AV.cells]
  .rintro ⟨a,b,l,_⟩ m ⟨m1,m2,rfl,_,m3,m4,rfl,h1,m5,m6,rfl,h2,_⟩
   simp only at *
   exact ⟨h1.2,h2.2,by dsimp only; omega,by dsimp only; omega⟩
theorem A2n (n:Nat):Rd enc Go.Proofs.Tryz.prog w n 156 (fun a:Dk=>(G2 a).cells) (fun _ _=>True):=by
 cases n with
 | zero=>exact Kx _ _ _
 | succ n=>
  refine Ph (fun p:Int×Int×Unit=>⟨p.1,p.2.1⟩) Go.Proofs.Tryz.underlying156 (by kernel_rfl) (by kernel_rfl) (fun b=>?_) (fun _ _ _=>trivial)
   (G6 1 (Mn .i64 n Go.Proofs.Tryz.underlying3) (G6 1 (Mn .i64 n Go.Proofs.Tryz.underlying2) (Pg n 2)))
  simp [G2,AV.cells]
theorem A2o (n:Nat):Rd enc Go.Proofs.Tryz.prog w n 45 (fun a:Ca=>(Gk a).cells) (fun a b=>a.Terms.length<=b):=by
 cases n with
 | zero=>exact Kx _ _ _
 | succ n=>
  refine Ph (fun p:Int×List Dk×Unit=>⟨p.1,p.2.1⟩) Go.Proofs.Tryz.underlying45 (by kernel_rfl) (by kernel_rfl) (fun b=>?_) ?_
   (G6 1 (Mn .i64 n Go.Proofs.Tryz.underlying2) (G6 1 (Ab9 2 G2 Go.Proofs.Tryz.underlying43 (by kernel_rfl) (by decide) (fun _=>rfl) (fun _=>rfl) A2n n) (Pg n 2)))
  .simp [Gk,AV.cells]
  .rintro ⟨a,l,_⟩ m ⟨m1,m2,rfl,ha,m5,m6,rfl,⟨k,hk,hq⟩,_⟩
   have:=R8 hq
   simp only at *
   omega
end
end Go.Ab
namespace Go.Ab
open Go Go.Proofs Go.ChangeShapes Go.WideShapes Go.ChangeAt Go.RowKit
open Go.Proofs.YtbobikfnkmhgnaaGreatDoor.Rows (uptoBulk uptoBulkAll uptoSmall)
set_option maxRecDepth 100000
theorem Ap3 {P:Program} {W:World} {x:String×DataW Unit} {l:List (String×DataW Unit)} (h:laidMet P (x::l) W):laidMet P l W:=by
 obtain ⟨ps,⟨u,s,cs,fuel,p,q,k,g,f,hd,i,c⟩,j,hc⟩:=h
 subst c
 refine ⟨q,i,(List.nodup_append.1 j).2.1,fun b off hb=>hc b off ?_⟩
 simp [hb]
theorem A2p {W:World} (h:laidMetH Go.Proofs.Tryz.prog YtbobikfnkmhgnaaGreatDoor.Rows.boundComparesRow.laid W):R9 (Lz W):=by
 have h1:laidMet Go.Proofs.Tryz.prog [("internal/strconv.uint64pow10",YtbobikfnkmhgnaaGreatDoor.Rows.laid_internal_strconv_uint64pow10)] W:=Ap3 (Ap3 h)
 have h2:Lib.TabIs Go.Proofs.Tryz.prog W "internal/strconv.uint64pow10" .u64 Lib.pow10Tab :=
  Lib.tabIs_of_head (g:=0) (rest:=[]) (by kernel_rfl) (by kernel_rfl) Go.Proofs.Tryz.underlying397 Go.Proofs.Tryz.underlying105 (by kernel_rfl) (by kernel_rfl) h1
 have g:Go.Proofs.Tryz.prog.globalNamed "internal/strconv.uint64pow10" = some 0:=by kernel_rfl
 unfold Lib.TabIs World.var? at h2
 rw [g] at h2
 simp only [Option.bind_some] at h2
 split at h2
 .rename_i cs E fr hc
  cases h2
  exact ⟨E,fr,hc⟩
 .cases h2
theorem A2q {W:World} (g:R9 (Lz W)):St (Lz W) ι0 H0 (fun _=>none) W W :=
 ⟨(fun _ _ h=>h),(fun _ _ h=>by cases h),(fun _=>rfl),(fun _ _ _ h=>by cases h),rfl,rfl,rfl,g,Nat.le_refl _⟩
theorem A2r {σ:Aw} {xs:List AV} {cs:Array Value} (h:CCs σ xs cs.toList):CC σ (.agg xs) (.agg cs) :=
 .agg xs cs (by simpa using h.1) (fun i c v h1 h2=>(h.2 i c v h1 (by simpa using h2)).1)
section
variable {H:Type} {enc:TypeId×Value->H} {W:World} {base:Nat} {t:TypeId} {v:Value} {d:DataW H} {p:List MemPlace}
theorem Aca {α:Type} {g:α->List AV} {Q:α->Nat->Prop} {fs:Array Field} (hu:Go.Proofs.Tryz.prog.underlying t=some (.struct fs)) (b:Value.okWide Go.Proofs.Tryz.prog W .any base t v)
  (hd:DataW.Trod enc Go.Proofs.Tryz.prog W 0 (fun _=>true) true t v d p) (hb:uptoBulk d<=1048576) (c:∀n,Rd enc Go.Proofs.Tryz.prog W n t g Q):∃a,CC (Lz W) (.agg (g a)) v/\Q a (uptoBulk d):=by
 unfold Value.okWide at b
 rw [hu] at b
 obtain ⟨cs,rfl,_⟩:=b
 obtain ⟨n,f⟩:=hd.by
 obtain ⟨a,h1,h2⟩:=c n _ d f hb
 exact ⟨a,A2r h1,h2⟩
theorem Ap4 {α:Type} {g:α->AV} {Q:α->Nat->Prop} (c:v.cells = #[v])
  (hd:DataW.Trod enc Go.Proofs.Tryz.prog W 0 (fun _=>true) true t v d p) (hb:uptoBulk d<=1048576) (b:∀n,Rd enc Go.Proofs.Tryz.prog W n t (fun a=>[g a]) Q):∃a,CC (Lz W) (g a) v/\Q a (uptoBulk d):=by
 obtain ⟨n,f⟩:=hd.by
 obtain ⟨a,h1,h2⟩:=b n _ d f hb
 rw [c] at h1
 exact ⟨a,(h1.2 0 _ _ rfl rfl).1,h2⟩
theorem Ap5 {k:IntKind} (hu:Go.Proofs.Tryz.prog.underlying t=some (.int k)) (b:Value.okWide Go.Proofs.Tryz.prog W .any base t v):v.cells = #[v]:=by
 unfold Value.okWide at b
 rw [hu] at b
 cases v with
 | agg cs=>simp only [Cell.okWide,Cell.ok,hu] at b
 | _=>rfl
end
section
variable {H:Type} {enc:TypeId×Value->H} {P:Program}
theorem Ap6 (f:laidOutB P=true) {w w':World} {c:Nat->Bool}:∀{ts:List TypeId} {vs:List Value} {g:List (DataW H)} {ps:List MemPlace},
  (ts.all fun t=>P.readableRec t&&decide (t<P.types.size))=true->DataW.TrodAll enc P w 0 (fun _=>true) true ts vs g ps->(∀p∈ps,w.sameAt w' p)->(∀p∈ps,c p.block=true)->DataW.TrodAll enc P w' 0 c true ts vs g ps
 | [],[],[],_,_,h,_,_=>h
 | t::ts,_::_,_::_,_,b,⟨p,q,h,i,e⟩,hk,hp=>by
  subst e
  simp only [List.all_cons,Bool.and_eq_true,decide_eq_true_eq] at b
  exact ⟨p,q,WideElems.Trod_stays f b.1.1 b.1.2 h (fun x hx=>hk x (by simp [hx])) (fun x hx=>hp x (by simp [hx])),Ap6 f b.2 i (fun x hx=>hk x (by simp [hx])) (fun x hx=>hp x (by simp [hx])),rfl⟩
theorem A2s (S:laidOutB P=true) {f:Func} {s:ChangeSpec} {g:Bool} {W l:World} {args:Array Value} {k:List (DataW H)} {j:List MemPlace} {t:TypeId}
  (G:s.vars = []) (I:DataW.Whole enc P f.params.toList s.vars false W args.toList k [] j) (R:(f.params.toList.all fun t=>P.readableRec t&&decide (t<P.types.size))=true)
  (E:(s.fn H k).results = [.lit (.bool true)]/\(s.fn H k).args=k/\(s.fn H k).vars = [])
  (B:f.resultTypes = #[t]) (ht:P.underlying t=some .bool)
  (z:∀(b:Nat) (o:Obj),W.heap[b]? = some o->l.heap[b]? = some o) (D:l.os=W.os) (u:l.output=W.output) :
  s.post enc P f false true g false W args (.bool true) l:=by
 have A:=I
 obtain ⟨p,q,V,J,rfl,U,_⟩:=I
 rw [G] at J
 obtain rfl:q = []:=J
 have y:=A.lt
 rw [List.append_nil] at *
 have c:∀b,b<W.heap.size->l.heap[b]? = W.heap[b]?:=fun b hb=>by
  rw [Array.getElem?_eq_getElem hb]
  exact z b _ (Array.getElem?_eq_getElem hb)
 have same:∀x∈p,W.sameAt l x:=by
  intro x hx
  have:=c x.block (y x hx)
  cases x with
  | cell b o=>exact World.cell?_of_block (w:=W) this
  | map b=>exact this
 obtain ⟨N,M,L⟩:=E
 refine ⟨k,[],p,[],p,[],A,?_,?_,?_,⟨D,u,fun i hi=>?_⟩,fun h=>by cases h⟩
 .rw [List.append_nil,N,B]
  exact trodAll_mk1 (shut_bool ht _)
 .rw [List.append_nil,M]
  exact Ap6 S R V same (fun x hx=>by simpa using y x hx)
 .rw [List.append_nil,L,G]; rfl
 .rw [c i hi]
  split <;> simp_all
end
end Go.Ab
