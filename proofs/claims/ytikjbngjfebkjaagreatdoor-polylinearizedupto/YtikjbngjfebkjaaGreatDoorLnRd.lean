/- Readings. -/
import Derived.Test.YtikjbngjfebkjaaGreatDoorRows
import Derived.Test.YtikjbngjfebkjaaGreatDoorLnTy
import Derived.ReaderBy
import Derived.Test.YtikjbngjfebkjaaGreatDoorLnPl2
import Derived.Test.YtikjbngjfebkjaaGreatDoorCards
import Derived.Test.YtikjbngjfebkjaaGreatDoorTie
import Derived.ChangeOld
import Derived.ChangeSame
import Derived.Carry
import Derived.RowKit
import Derived.WalkKit
import Derived.ProofKit
import Derived.OpenShut
import Derived.Deep.DeepHandedRow
import Derived.Lib.LaidTab
open List
namespace Go.Ab
open Go
open Go.Proofs.YtikjbngjfebkjaaGreatDoor.Rows (uptoBulk uptoBulkAll)
def O2 (w:World):A8:=λb=>w.heap[b]?
def CCs (σ:A8) (xs:List AV) (cs:List Value):Prop := cs.length=xs.length/\∀(j:Nat) (a:AV) (c:Value),xs[j]? = some a->cs[j]? = some c->CC σ a c/\Fm c=true
section
variable {H:Type} {enc:TypeId×Value->H} {P:Program} {w:World}
variable {σ:A8} {a:Addr} {n:Nat} {α β:Type} {e t:TypeId} {Q:α->Nat->Prop} {g:β->List AV} {R:β->Nat->Prop}
def Rd (enc:TypeId×Value->H) (P:Program) (w:World) (n:Nat) (t:TypeId) (f:α->List AV) (Q:α->Nat->Prop):Prop := ∀(cs:List Value) (d:DataW H),DataW.ofBy (keyOf P) enc P w 0 true true n t cs=some d->uptoBulk d<=1048576->∃a:α,CCs (O2 w) (f a) cs/\Q a (uptoBulk d)
theorem J1 (t:TypeId) (f:α->List AV) (Q:α->Nat->Prop):Rd enc P w 0 t f Q:=λ_ _ h=>by cases h
theorem Bfl (d:DataW H):1<=uptoBulk d:=by cases d with| lit l=>cases l <;> simp[uptoBulk]| _=>simp[uptoBulk]
theorem Y2 {a:AV} {c:Value} (h:CC σ a c) (i:Fm c=true):CCs σ [a] [c]:=by refine⟨rfl,λj x y b k=>?_⟩;cases j with| zero=>cases b;cases k;exact⟨h,i⟩| succ j=>cases b
theorem Bfm {xs bs:List AV} {cs b:List Value} (h:CCs σ xs cs) (m:CCs σ bs b):CCs σ (xs++bs) (cs++b):=by
 refine⟨by simp[h.1,m.1],λj x y k l=>?_⟩;rcases Nat.lt_or_ge j xs.length with i|i
 .rw[getElem?_append_left i]at k;rw[getElem?_append_left (by rw[h.1];exact i)]at l;exact h.2 j x y k l
 .rw[getElem?_append_right i]at k;rw[getElem?_append_right (by rw[h.1];exact i),h.1]at l;exact m.2 _ x y k l
theorem L5 (k:IntKind) (n:Nat) (i:P.underlying t=some (.int k)):Rd enc P w n t (λa:Int=>[O k a]) (λa _=>k.min<=a/\a<=k.max):=by
 intro cs d h _;cases n with
 | zero=>cases h
 | succ n=>
  rcases cs with _|⟨c,_|⟨f,r⟩⟩
  .simp[DataW.ofBy,i]at h
  .cases c <;> simp[DataW.ofBy,i]at h;rename_i b m;obtain⟨⟨rfl,j⟩,_⟩:=h;exact⟨m,Y2 (.val _) rfl,by simpa[Lit.wf] using j⟩
  .simp[DataW.ofBy,i]at h
theorem Bfn (n:Nat) (i:P.underlying t=some .bool):Rd enc P w n t (λa:Bool=>[Av a]) (λ_ _=>True):=by
 intro cs d h _;cases n with
 | zero=>cases h
 | succ n=>
  rcases cs with _|⟨c,_|⟨b,r⟩⟩
  .simp[DataW.ofBy,i]at h
  .cases c <;> simp[DataW.ofBy,i]at h;exact⟨_,Y2 (.val _) rfl,trivial⟩
  .simp[DataW.ofBy,i]at h
theorem Ay3 (n:Nat) (i:P.underlying t=some .string):Rd enc P w n t (λa:ByteArray=>[G0 a]) (λa b=>a.size<=b):=by
 intro cs d h _;cases n with
 | zero=>cases h
 | succ n=>
  rcases cs with _|⟨c,_|⟨f,r⟩⟩
  .simp[DataW.ofBy,i]at h
  .cases c
   case string s=>
    have j:(if s.size<=maxLen then some (DataW.lit (H:=H) (.string s.data.toList)) else none)=some d:=(by unfold DataW.ofBy at h;rw[i]at h;exact h);split at j
    .cases j;refine⟨_,Y2 (.val _) rfl,?_⟩;have e:s.data.toList.length=s.size:=(by rw[Array.length_toList];rfl);simp only[uptoBulk];omega
    .cases j
   all_goals (unfold DataW.ofBy at h;rw[i]at h;cases h)
  .simp[DataW.ofBy,i]at h
def QL {α:Type} (Q:α->Nat->Prop):List α->Nat->Prop
 | [],_=>True
 | a::l,m=>∃b h,1<=b/\b+h<=m/\Q a b/\QL Q l h
theorem Bfo {sz:Nat} {f:α->List AV} (ih:Rd enc P w n e f Q) (g:Nat->Option (List Value)):∀(L:List Nat) (c:List (DataW H)), L.mapM (λi=>(g i).bind (DataW.ofBy (keyOf P) enc P w 0 true true n e))=some c->uptoBulkAll c<=1048576 -> ∃l:List α,l.length=L.length/\QL Q l (uptoBulkAll c)/\∀(i:Nat) (a:α),l[i]? = some a->∃k cs,L[i]? = some k/\g k=some cs/\CCs (O2 w) (f a) cs:=by
 intro L;induction L with
 | nil=>intro c h _;exact⟨[],rfl,trivial,λi a h=>by cases h⟩
 | cons k L j=>intro c h o;simp only[mapM_cons,Option.pure_def,Option.bind_eq_bind,Option.bind_eq_some_iff]at h;obtain⟨d,⟨cs,r,A⟩,b,B,C⟩:=h;cases C;simp only[uptoBulkAll]at o;obtain⟨a,D,E⟩:=ih cs d A ω;obtain⟨l,y,u,s⟩:=j b B ω;refine⟨a::l,by simp[y],⟨uptoBulk d,uptoBulkAll b,Bfl d,by simp[uptoBulkAll],E,u⟩,?_⟩;intro i x m;cases i with| zero=>cases m;exact⟨k,cs,rfl,r,D⟩| succ i=>obtain⟨z,q,F,G,I⟩:=s i x m;exact⟨z,q,F,G,I⟩
theorem O3 {α:Type} {Q:α->Nat->Prop}:∀{l:List α} {m:Nat},QL Q l m->l.length<=m
 | [],_,_=>Nat.zero_le _
 | _::l,_,⟨h,i,j,k,_,b⟩=>by have:=O3 b;simp only[length_cons];omega
theorem Rk {α:Type} {Q:α->Nat->Prop}:∀{l:List α} {m:Nat},QL Q l m->∀a∈l,∃b,b<=m/\Q a b
 | _::l,_,⟨i,q,r,s,j,k⟩,a,h=>by
  rcases mem_cons.1 h with rfl|h
  .exact⟨i,ω,j⟩
  .obtain⟨b,u,o⟩:=Rk k a h;exact⟨b,ω,o⟩
theorem Ai3 {cs:List Value} (h:w.cells? 0 a n=some cs):cs.length=n/\∀j,j<n->w.cell? (a.add j)=cs[j]?:=by
 unfold World.cells? at h;rw[if_pos (Nat.zero_le _)]at h;have l:∀(L:List Nat) (cs:List Value),L.mapM (λi=>w.cell? (a.add i))=some cs->cs.length=L.length/\∀(i k:Nat),L[i]? = some k->w.cell? (a.add k)=cs[i]?:=by
  intro L;induction L with
  | nil=>intro cs h;cases h;exact⟨rfl,λi k h=>by cases h⟩
  | cons x L ih=>intro cs h;simp only[mapM_cons,Option.pure_def,Option.bind_eq_bind,Option.bind_eq_some_iff]at h;obtain⟨v,b,q,m,r⟩:=h;cases r;obtain⟨s,u⟩:=ih q m;refine⟨by simp[s],λi k o=>?_⟩;cases i with| zero=>cases o;simpa using b| succ i=>simpa using u i k o
 obtain⟨b,m⟩:=l _ _ h;rw[length_range]at b;exact⟨b,λj y=>m j j (by simp[y])⟩
theorem Ay4 (h:a.spot=none) (m:Nat):a.add m=⟨a.block,a.off+m,none⟩:=by
 unfold Addr.add;split
 .rename_i e;subst e;cases a;simp_all
 .rfl
theorem Y3 (sz:Nat) {f:α->List AV} (g:α->AV) (hu:P.underlying t=some (.slice e)) (L:P.cellsOf e=sz) (a2:0<sz) (hg:∀a,(g a).cells=f a) (hf:∀a,(f a).length=sz) (ih:Rd enc P w n e f Q):Rd enc P w (n+1) t (λl:List α=>[.sl sz (l.map g)]) (λl b=>∃m,m+1<=b/\QL Q l m):=by
 intro cs d h hb;rcases cs with _|⟨c,_|⟨c',r⟩⟩
 .simp[DataW.ofBy,hu]at h
 .cases c
  case slice G len T=>
   cases G with
   | none=>have:d = .nil/\len=0:=(by unfold DataW.ofBy at h;rw[hu]at h;split at h <;> simp_all);obtain⟨rfl,rfl⟩:=this;exact⟨[],Y2 (.nil sz _ _) rfl,0,by simp[uptoBulk],trivial⟩
   | some a=>
    have h':(if 0<=a.block/\len<=T/\T<=maxLen then
     ((range len).mapM λi=>(w.cells? 0 (a.add (i*P.cellsOf e)) (P.cellsOf e)).bind (DataW.ofBy (keyOf P) enc P w 0 true true n e)).bind λu=> (if true=true then (range (T-len)).mapM λj=>(w.cells? 0 (a.add ((len+j)*P.cellsOf e)) (P.cellsOf e)).bind (DataW.ofBy (keyOf P) enc P w 0 true true n e) else some []).map λa0=>DataW.slice u a0 else none)=some d:=by unfold DataW.ofBy at h;rw[hu]at h;exact h
    split at h'
    .rename_i K;simp only[Option.bind_eq_some_iff,Option.map_eq_some_iff]at h';obtain⟨u,h1,a0,h2,rfl⟩:=h';rw[L]at h1;simp only[uptoBulk]at hb;obtain⟨l,o,V,l3⟩:=Bfo (sz:=sz) ih (λi=>w.cells? 0 (a.add (i*sz)) sz) _ _ h1 ω;have Y:=O3 V;rw[length_range]at o;refine⟨l,?_,uptoBulkAll u,by simp only[uptoBulk];omega,V⟩;cases R:l with
     | nil=>rw[R]at o;have:len=0:=o.symm;subst this;exact Y2 (.nil sz _ _) rfl
     | cons x l'=>
      rw[<-R];refine Y2 ?_ rfl;have D:∀(i:Nat) (y:α),l[i]? = some y->∃cs,w.cells? 0 (a.add (i*sz)) sz=some cs/\CCs (O2 w) (f y) cs:=(by intro i y F;obtain⟨k,cs,g1,g2,g3⟩:=l3 i y F;have hk:k=i:=(by rw[getElem?_range (by have:=(List.getElem?_eq_some_iff.1 F).1;omega)]at g1;exact (Option.some.inj g1).symm);subst hk;exact⟨cs,g2,g3⟩);have J:l[0]? = some x:=(by rw[R];rfl);obtain⟨U,c1,c2⟩:=D 0 x J;have c3:=(Ai3 c1).2 0 a2;have a1:U.length=sz:=(Ai3 c1).1;rw[getElem?_eq_getElem ω]at c3;have s:a.spot=none/\∃C E fr,w.heap[a.block]? = some (.cells C E fr):=by
       have S:(a.add (0*sz)).add 0=a:=(by simp[Addr.add]);rw[S]at c3;unfold World.cell? at c3;split at c3
       .rename_i C E fr I;split at c3
        .cases c3
        .rename_i X;refine⟨?_,C,E,fr,I⟩;cases M:a.spot with| none=>rfl| some _=>rw[M]at X;simp at X
       .cases c3
      obtain⟨s,C,E,fr,I⟩:=s;have z:∀i j:Nat,w.cell? ((a.add (i*sz)).add j)=C[a.off+i*sz+j]?:=(by intro i j;rw[Ay4 s,Ay4 rfl];unfold World.cell?;rw[I];rfl);have q:∀(i:Nat) (y:α) (j:Nat) (c:AV),l[i]? = some y->(g y).cells[j]? = some c->∃v,C[a.off+i*sz+j]? = some v/\CC (O2 w) c v/\Fm v=true:=(by intro i y j c F K;obtain⟨cs,Z,e2⟩:=D i y F;rw[hg]at K;have hj:=(List.getElem?_eq_some_iff.1 K).1;rw[hf]at hj;have B:j<cs.length:=(by rw[(Ai3 Z).1];exact hj);have:=(Ai3 Z).2 j hj;rw[z,getElem?_eq_getElem B]at this;exact⟨_,this,e2.2 j c _ K (getElem?_eq_getElem B)⟩);have a3:a=⟨a.block,a.off,none⟩:=(by cases a;simp_all);rw[a3];have N:l.length=(l.map g).length:=ψ;rw[<-o,N];refine CC.sl (l.map g) a.block a.off T sz C E fr (λi j=>(C[a.off+i*sz+j]?).getD undef) I ?_ ?_ ?_ ?_ ζ ζ
      .intro i y F;simp only[getElem?_map,Option.map_eq_some_iff]at F;obtain⟨y,_,rfl⟩:=F;rw[hg,hf]
      .intro i y j c F K;simp only[getElem?_map,Option.map_eq_some_iff]at F;obtain⟨y,F,rfl⟩:=F;obtain⟨v,A,v2,v3⟩:=q i y j c F K;rw[A];exact v2
      .intro i y j c F K;simp only[getElem?_map,Option.map_eq_some_iff]at F;obtain⟨y,F,rfl⟩:=F;obtain⟨v,A,v2,v3⟩:=q i y j c F K;rw[A];exact v3
      .intro i j hi hj;rw[length_map]at hi;have F:l[i]? = some l[i]:=getElem?_eq_getElem hi;have K:(g l[i]).cells[j]? = some ((g l[i]).cells[j]'(by rw[hg,hf];exact hj)):=getElem?_eq_getElem _;obtain⟨v,A,_⟩:=q i _ j _ F K;rw[A];rfl
    .cases h'
  all_goals simp[DataW.ofBy,hu]at h
 .simp[DataW.ofBy,hu]at h
def RdL (enc:TypeId×Value->H) (P:Program) (w:World) (n b off:Nat) (fs:List (TypeId×Nat×Nat)) (f:α->List AV) (Q:α->Nat->Prop):Prop := ∀(cs:List Value) (h:List (DataW H)),cs.length=b->fs.mapM (λx=>DataW.ofBy (keyOf P) enc P w 0 true true n x.1 ((cs.drop x.2.1).take x.2.2))=some h->uptoBulkAll h<=1048576 -> ∃a:α,CCs (O2 w) (f a) (cs.drop off)/\Q a (uptoBulkAll h)
theorem Mn (n b:Nat):RdL enc P w n b b [] (λ_:Unit=>[]) (λ_ _=>True):=by intro cs i h _ _;exact⟨(),⟨by simp[h],λj a c h=>by cases h⟩,trivial⟩
theorem G5 {c off:Nat} (sz:Nat) {fs:List (TypeId×Nat×Nat)} {f:α->List AV} (s:Rd enc P w n t f Q) (u:RdL enc P w n c (off+sz) fs g R):RdL enc P w n c off ((t,off,sz)::fs) (λp:α×β=>f p.1++g p.2) (λp m=>∃o r,o+r=m/\Q p.1 o/\R p.2 r):=by intro cs D j h x;simp only[mapM_cons,Option.pure_def,Option.bind_eq_bind,Option.bind_eq_some_iff]at h;obtain⟨d,q,i,l,k⟩:=h;cases k;simp only[uptoBulkAll]at x ⊢;obtain⟨a,y,A⟩:=s _ d q ω;obtain⟨b,B,C⟩:=u cs i j l ω;refine⟨(a,b),?_,_,_,rfl,A,C⟩;have:=Bfm y B;rwa [<-drop_drop,take_append_drop]at this
theorem Mo {fs:Array Field} {i:Nat} {L:List (TypeId×Nat×Nat)} {f:α->List AV} (φ:β->α) (q:P.underlying t=some (.struct fs)) (l:fs.toList.map (λx=>(x.type,x.offset,P.cellsOf x.type))=L) (ht:P.cellsOf t=i) (j:∀b,f (φ b)=g b) (k:∀b m,R b m->Q (φ b) (m+1)) (h:RdL enc P w n i 0 L g R):Rd enc P w (n+1) t f Q:=by
 intro cs d o r;have c:(if cs.length=P.cellsOf t then (fs.toList.mapM λx=>DataW.ofBy (keyOf P) enc P w 0 true true n x.type ((cs.drop x.offset).take (P.cellsOf x.type))).map DataW.agg else none)=some d:=by unfold DataW.ofBy at o;rw[q]at o;split at o <;> simp_all
 split at c
 .rename_i s;simp only[Option.map_eq_some_iff]at c;obtain⟨u,y,rfl⟩:=c;simp only[uptoBulk]at r;obtain⟨b,A,B⟩:=h cs u (s.trans ht) (by rw[<-l,mapM_map];exact y) ω;refine⟨φ b,?_,k b _ B⟩;rw[j];simpa using A
 .cases c
end
end Go.Ab
namespace Go.Ab
open Go Go.Proofs Go.Proofs.Tryz
open Go.Proofs.YtikjbngjfebkjaaGreatDoor.Rows (uptoBulk uptoBulkAll)
section
variable {H:Type} {enc:TypeId×Value->H} {w:World}
variable {n:Nat} {α:Type} {Q:α->Nat->Prop}
theorem Aot {a:Int} (h:IntKind.i64.min<=a/\a<=IntKind.i64.max):Ee a:=by have c:IntKind.i64.min = -9223372036854775808:=δ;have b:IntKind.i64.max=9223372036854775807:=δ;rw[c,b]at h;exact h
theorem Aou:∀{l:List Af} {m:Nat},QL (λa b=>B0 a<=b) l m->Dx l<=m
 | [],_,_=>Nat.zero_le _
 | _::l,_,⟨i,j,k,o,q,h⟩=>by have:=Aou h;simp only[Dx];omega
theorem Aov:∀{l:List Az} {m:Nat},QL (λa b=>C1 a<=b) l m->Ec l<=m
 | [],_,_=>Nat.zero_le _
 | _::l,_,⟨i,j,k,o,q,h⟩=>by have:=Aov h;simp only[Ec];omega
theorem Ay5:∀{l:List Ai} {m:Nat},QL (λa b=>Bw a<=b/\iR a) l m->Ci l<=m/\Ff l
 | [],_,_=>⟨Nat.zero_le _,trivial⟩
 | _::l,_,⟨j,k,o,q,h,i⟩=>by have:=Ay5 i;simp only[Ci,Ff];exact⟨ω,h.2,this.2⟩
theorem Ay6 (h:Rd enc prog w n 23 (λl:List Af=>[.sl 3 (l.map Em)]) (λl b=>∃m,m+1<=b/\QL (λa b=>B0 a<=b) l m)) : Rd enc prog w (n+1) 25 (λa:Af=>(Em a).cells) (λa b=>B0 a<=b):=by
 refine Mo (λp:Int×Int×List Af×Unit=>⟨p.1,p.2.1,p.2.2.1⟩) underlying25 κ κ (λb=>?_) ?_ (G5 1 (L5 .i64 n underlying3) (G5 1 (L5 .i64 n underlying3) (G5 1 h (Mn n 3))))
 .simp[Em,AV.cells,Lp]
 .rintro⟨a,b,l,_⟩ m ⟨j,o,rfl,_,q,r,rfl,_,s,u,rfl,⟨k,x,i⟩,_⟩;have:=Aou i;simp only[B0]at *;omega
theorem Aow:∀n:Nat,Rd enc prog w n 25 (λa:Af=>(Em a).cells) (λa b=>B0 a<=b)
 | 0=>J1 _ _ _
 | 1=>Ay6 (J1 _ _ _)
 | n+2=>Ay6 (Y3 3 Em underlying23 κ δ (λ_=>rfl) (λ_=>rfl) (Aow n))
theorem Ay7 (n:Nat):Rd enc prog w n 23 (λl:List Af=>[.sl 3 (l.map Em)]) (λl b=>∃m,m+1<=b/\QL (λa b=>B0 a<=b) l m):=by cases n with| zero=>exact J1 _ _ _| succ n=>exact Y3 3 Em underlying23 κ δ (λ_=>rfl) (λ_=>rfl) (Aow n)
theorem Ay8 (h:Rd enc prog w n 32 (λl:List Az=>[.sl 3 (l.map Fq)]) (λl b=>∃m,m+1<=b/\QL (λa b=>C1 a<=b) l m)) : Rd enc prog w (n+1) 34 (λa:Az=>(Fq a).cells) (λa b=>C1 a<=b):=by
 refine Mo (λp:Int×Int×List Az×Unit=>⟨p.1,p.2.1,p.2.2.1⟩) underlying34 κ κ (λb=>?_) ?_ (G5 1 (L5 .i64 n underlying3) (G5 1 (L5 .i64 n underlying2) (G5 1 h (Mn n 3))))
 .simp[Fq,AV.cells,Jl]
 .rintro⟨a,b,l,_⟩ m ⟨j,o,rfl,_,q,r,rfl,_,s,u,rfl,⟨k,x,i⟩,_⟩;have:=Aov i;simp only[C1]at *;omega
theorem Ay9:∀n:Nat,Rd enc prog w n 34 (λa:Az=>(Fq a).cells) (λa b=>C1 a<=b)
 | 0=>J1 _ _ _
 | 1=>Ay8 (J1 _ _ _)
 | n+2=>Ay8 (Y3 3 Fq underlying32 κ δ (λ_=>rfl) (λ_=>rfl) (Ay9 n))
theorem Aza (h:Rd enc prog w n 32 (λl:List Az=>[.sl 3 (l.map Fq)]) (λl b=>∃m,m+1<=b/\QL (λa b=>C1 a<=b) l m)) : Rd enc prog w (n+1) 34 (λa:Az=>(Fq a).cells) (λa b=>C1 a<=b/\Ee a.U):=by
 refine Mo (λp:Int×Int×List Az×Unit=>⟨p.1,p.2.1,p.2.2.1⟩) underlying34 κ κ (λb=>?_) ?_ (G5 1 (L5 .i64 n underlying3) (G5 1 (L5 .i64 n underlying2) (G5 1 h (Mn n 3))))
 .simp[Fq,AV.cells,Jl]
 .rintro⟨a,b,l,_⟩ m ⟨o,q,rfl,_,r,s,rfl,i,u,x,rfl,⟨k,y,j⟩,_⟩;have:=Aov j;have i:=Aot i;simp only[C1]at *;exact⟨ω,i⟩
theorem Azb:∀n:Nat,Rd enc prog w n 34 (λa:Az=>(Fq a).cells) (λa b=>C1 a<=b/\Ee a.U)
 | 0=>J1 _ _ _
 | 1=>Aza (J1 _ _ _)
 | n+2=>Aza (Y3 3 Fq underlying32 κ δ (λ_=>rfl) (λ_=>rfl) (Ay9 n))
theorem Azc (h:Rd enc prog w n 96 (λl:List Ai=>[.sl 2 (l.map Fy)]) (λl b=>∃m,m+1<=b/\QL (λa b=>Bw a<=b/\iR a) l m)) : Rd enc prog w (n+1) 98 (λa:Ai=>(Fy a).cells) (λa b=>Bw a<=b/\iR a):=by
 refine Mo (λp:Int×List Ai×Unit=>⟨p.1,p.2.1⟩) underlying98 κ κ (λb=>?_) ?_ (G5 1 (L5 .i64 n underlying3) (G5 1 h (Mn n 2)))
 .simp[Fy,AV.cells,Lq]
 .rintro⟨a,l,_⟩ m ⟨o,q,rfl,i,r,s,rfl,⟨k,u,j⟩,_⟩;have:=Ay5 j;have i:=Aot i;simp only[Bw,iR]at *;exact⟨ω,i,this.2⟩
theorem Azd:∀n:Nat,Rd enc prog w n 98 (λa:Ai=>(Fy a).cells) (λa b=>Bw a<=b/\iR a)
 | 0=>J1 _ _ _
 | 1=>Azc (J1 _ _ _)
 | n+2=>Azc (Y3 2 Fy underlying96 κ δ (λ_=>rfl) (λ_=>rfl) (Azd n))
theorem Tq {t e:TypeId} (sz:Nat) {f:α->List AV} (g:α->AV) (i:prog.underlying t=some (.slice e)) (c:prog.cellsOf e=sz) (h:0<sz) (hg:∀a,(g a).cells=f a) (j:∀a,(f a).length=sz) (ih:∀n,Rd enc prog w n e f Q) (n:Nat):Rd enc prog w n t (λl:List α=>[.sl sz (l.map g)]) (λl b=>∃m,m+1<=b/\QL Q l m):=by cases n with| zero=>exact J1 _ _ _| succ n=>exact Y3 sz g i c h hg j (ih n)
theorem Bfp (n:Nat):Rd enc prog w n 160 (λa:Qw=>(Af2 a).cells) (λa b=>a.S.size<=b/\Dx a.R<=b):=by
 cases n with
 | zero=>exact J1 _ _ _
 | succ n=>
  refine Mo (λp:ByteArray×List Af×Unit=>⟨p.1,p.2.1⟩) underlying160 κ κ (λb=>?_) ?_ (G5 1 (Ay3 n underlying9) (G5 1 (Ay7 n) (Mn n 2)))
  .simp[Af2,AV.cells,Lp]
  .rintro⟨a,l,_⟩ m ⟨i,j,rfl,o,q,r,rfl,⟨k,s,h⟩,_⟩;have:=Aou h;simp only at *;exact⟨ω,ω⟩
theorem Bfq (n:Nat):Rd enc prog w n 158 (λa:Aj=>(B8 a).cells) (λa b=>a.S.size<=b/\a.O.length<=b/\∀y∈a.O,y.S.size<=b/\Dx y.R<=b):=by
 cases n with
 | zero=>exact J1 _ _ _
 | succ n=>
  refine Mo (λp:ByteArray×Int×List Qw×Unit=>⟨p.1,p.2.1,p.2.2.1⟩) underlying158 κ κ (λb=>?_) ?_ (G5 1 (Ay3 n underlying9) (G5 1 (L5 .i64 n underlying3) (G5 1 (Tq 2 Af2 underlying156 κ δ (λ_=>rfl) (λ_=>rfl) Bfp n) (Mn n 3))))
  .simp[B8,AV.cells]
  .rintro⟨a,b,l,_⟩ m ⟨o,q,rfl,r,s,u,rfl,_,x,A,rfl,⟨k,B,h⟩,_⟩;have C:=O3 h;have i:=Rk h;simp only at *;refine⟨ω,ω,λy j=>?_⟩;obtain⟨c,D,E,F⟩:=i y j;exact⟨ω,ω⟩
theorem Bfr (n:Nat):Rd enc prog w n 27 (λa:Ck=>(Oq a).cells) (λa b=>b<=1048576->CSz a):=by
 cases n with
 | zero=>exact J1 _ _ _
 | succ n=>
  refine Mo (λp:List Aj×List Af×Af×Unit=>⟨p.1,p.2.1,p.2.2.1⟩) underlying27 κ κ (λb=>?_) ?_ (G5 1 (Tq 3 B8 underlying22 κ δ (λ_=>rfl) (λ_=>rfl) Bfq n) (G5 1 (Ay7 n) (G5 3 (Aow n) (Mn n 5))))
  .simp[Oq,Em,AV.cells,Lp]
  .rintro⟨a,b,l,_⟩ m ⟨F,G,rfl,⟨k,I,B⟩,J,K,rfl,⟨g,f,j⟩,L,M,rfl,i,_⟩ h;have N:=O3 B;have r:=Rk B;have S:=O3 j;have D:=Rk j;simp only at *;refine⟨⟨by dsimp only;omega,λx o=>?_,λx o=>?_,λx o y s=>?_⟩,by dsimp only;omega,λt E=>?_,by dsimp only;omega⟩
   .obtain⟨c,u,A,C,q⟩:=r x o;refine⟨ω,λy s=>?_⟩;have:=(q y s).2;omega
   .obtain⟨c,u,A,C,q⟩:=r x o;omega
   .obtain⟨c,u,A,C,q⟩:=r x o;have:=(q y s).1;omega
   .obtain⟨c,u,A⟩:=D t E;omega
theorem Bfs (P:α->Prop) (h:∀a b,Q a b->P a) {l:List α} {m:Nat} (i:QL Q l m):∀a∈l,P a:=λa j=>by obtain⟨c,_,g⟩:=Rk i a j;exact h a c g
theorem Aze (n:Nat):Rd enc prog w n 48 (λl:List Int=>[.sl 1 (l.map (O .u32))]) (λl b=>l.length<=b/\Nu l):=by intro cs d h j;obtain⟨a,k,m,q,i⟩:=Tq (Q:=λa _=>IntKind.u32.min<=a/\a<=IntKind.u32.max) 1 (O .u32) underlying48 κ δ (λ_=>rfl) (λ_=>rfl) (λn=>L5 .u32 n underlying92) n cs d h j;refine⟨a,k,by have:=O3 i;omega,λx o=>?_⟩;have:=Bfs (λx=>IntKind.u32.min<=x/\x<=IntKind.u32.max) (λ_ _ h=>h) i x o;have f:IntKind.u32.min=0:=δ;have c:IntKind.u32.max=4294967295:=δ;rw[f,c]at this;omega
theorem Bft (n:Nat):Rd enc prog w n 50 (λa:Ao=>(Cy a).cells) (λa b=>RB b a):=by
 cases n with
 | zero=>exact J1 _ _ _
 | succ n=>
  refine Mo (λp:Bool×List Int×List Int×Unit=>⟨p.1,p.2.1,p.2.2.1⟩) underlying50 κ κ (λb=>?_) ?_ (G5 1 (Bfn n underlying4) (G5 1 (Aze n) (G5 1 (Aze n) (Mn n 3))))
  .simp[Cy,AV.cells]
  .rintro⟨a,b,l,_⟩ m ⟨j,k,rfl,_,o,q,rfl,h,r,s,rfl,i,_⟩;simp only at *;exact⟨h.2,i.2,by dsimp only;omega,by dsimp only;omega⟩
theorem Bfu (n:Nat):Rd enc prog w n 100 (λa:Bi=>(Gq a).cells) (λa b=>Bw a.I<=b/\iR a.I/\Ee a.v):=by
 cases n with
 | zero=>exact J1 _ _ _
 | succ n=>
  refine Mo (λp:Int×Ai×Unit=>⟨p.1,p.2.1⟩) underlying100 κ κ (λb=>?_) ?_ (G5 1 (L5 .i64 n underlying3) (G5 2 (Azd n) (Mn n 3)))
  .simp[Gq,Fy,AV.cells]
  .rintro⟨a,b,_⟩ m ⟨j,k,rfl,h,l,o,rfl,i,_⟩;have h:=Aot h;simp only at *;exact⟨ω,i.2,h⟩
theorem Bfv (n:Nat):Rd enc prog w n 45 (λa:Bt=>(Fa a).cells) (λ_ _=>True):=by cases n with| zero=>exact J1 _ _ _| succ n=>refine Mo (λp:Int×Int×Unit=>⟨p.1,p.2.1⟩) underlying45 κ κ (λb=>?_) (λ_ _ _=>trivial) (G5 1 (L5 .i64 n underlying3) (G5 1 (L5 .i64 n underlying2) (Mn n 2)));simp[Fa,AV.cells]
theorem Azf (n:Nat):Rd enc prog w n 31 (λa:Bg=>(H4 a).cells) (λa b=>a.T.length<=b):=by
 cases n with
 | zero=>exact J1 _ _ _
 | succ n=>
  refine Mo (λp:Int×List Bt×Unit=>⟨p.1,p.2.1⟩) underlying31 κ κ (λb=>?_) ?_ (G5 1 (L5 .i64 n underlying2) (G5 1 (Tq 2 Fa underlying29 κ δ (λ_=>rfl) (λ_=>rfl) Bfv n) (Mn n 2)))
  .simp[H4,AV.cells]
  .rintro⟨a,l,_⟩ m ⟨i,j,rfl,o,q,r,rfl,⟨k,s,h⟩,_⟩;have:=O3 h;simp only at *;omega
theorem Bfw (n:Nat):Rd enc prog w n 103 (λa:Bh=>(Gb a).cells) (λa b=>a.L.T.length<=b):=by
 cases n with
 | zero=>exact J1 _ _ _
 | succ n=>
  refine Mo (λp:Bg×Int×Unit=>⟨p.1,p.2.1⟩) underlying103 κ κ (λb=>?_) ?_ (G5 2 (Azf n) (G5 1 (L5 .i64 n underlying3) (Mn n 3)))
  .simp[Gb,H4,AV.cells]
  .rintro⟨a,l,_⟩ m ⟨h,i,rfl,j,k,o,rfl,_,_⟩;simp only at *;omega
theorem Bfx (n:Nat):Rd enc prog w n 81 (λa:A7=>(Im a).cells) (λa b=>b<=1048576->MSz a):=by
 cases n with
 | zero=>exact J1 _ _ _
 | succ n=>
  refine Mo (λp:List Bi×List Bh×Unit=>⟨p.1,p.2.1⟩) underlying81 κ κ (λb=>?_) ?_ (G5 1 (Tq 3 Gq underlying78 κ δ (λ_=>rfl) (λ_=>rfl) Bfu n) (G5 1 (Tq 3 Gb underlying79 κ δ (λ_=>rfl) (λ_=>rfl) Bfw n) (Mn n 2)))
  .simp[Im,AV.cells]
  .rintro⟨a,l,_⟩ m ⟨C,D,rfl,⟨h,g,j⟩,E,F,rfl,⟨k,G,q⟩,_⟩ i;have I:=O3 q;have A:=Rk q;have J:=O3 j;have r:=Rk j;simp only at *;refine⟨by dsimp only;omega,by dsimp only;omega,λf o=>?_,λf o=>?_,λx B=>?_⟩
   .obtain⟨c,s,u,y⟩:=r f o;omega
   .obtain⟨c,s,u,y⟩:=r f o;exact y
   .obtain⟨c,s,u⟩:=A x B;omega
theorem Bfy (n:Nat):Rd enc prog w n 83 (λa:An=>(Dv a).cells) (λa b=>b<=1048576->TSz a):=by
 cases n with
 | zero=>exact J1 _ _ _
 | succ n=>
  refine Mo (λp:Ao×A7×Unit=>⟨p.1,p.2.1⟩) underlying83 κ κ (λb=>?_) ?_ (G5 3 (Bft n) (G5 2 (Bfx n) (Mn n 5)))
  .simp[Dv,Cy,Im,AV.cells]
  .rintro⟨a,l,_⟩ m ⟨j,k,rfl,h,o,q,rfl,i,_⟩ c;simp only at *;exact⟨RB.mono h ω,i ω⟩
theorem Bfz (n:Nat):Rd enc prog w n 28 (λl:List An=>[.sl 5 (l.map Dv)]) (λl b=>b<=1048576->l.length<=1048576/\∀t∈l,TSz t):=by intro cs d h j;obtain⟨a,k,m,r,i⟩:=Tq (Q:=λa b=>b<=1048576->TSz a) 5 Dv underlying28 κ δ (λ_=>rfl) (λ_=>rfl) Bfy n cs d h j;refine⟨a,k,λf=>⟨by have:=O3 i;omega,λx o=>?_⟩⟩;obtain⟨c,s,q⟩:=Rk i x o;exact q ω
theorem Bf0 (n:Nat):Rd enc prog w n 32 (λl:List Az=>[.sl 3 (G8 l)]) (λl b=>l.length<=b/\∀v∈l,C1 v<=b/\Ee v.U):=by
 intro cs d h j;obtain⟨a,k,m,r,i⟩:=Tq (Q:=λa b=>C1 a<=b/\Ee a.U) 3 Fq underlying32 κ δ (λ_=>rfl) (λ_=>rfl) Azb n cs d h j;refine⟨a,?_,by have:=O3 i;omega,λx o=>?_⟩
 .show CCs _ [AV.sl 3 (G8 a)] cs;rw[Jl];exact k
 .obtain⟨c,s,q⟩:=Rk i x o;exact⟨ω,q.2⟩
end
end Go.Ab
namespace Go.Ab
open Go Go.Proofs Go.ChangeShapes Go.WideShapes Go.ChangeAt Go.RowKit Go.Proofs.Tryz
open Go.Proofs.YtikjbngjfebkjaaGreatDoor.Rows (uptoBulk uptoBulkAll uptoSmall)
set_option maxRecDepth 100000
variable {W:World}
theorem Azg {P:Program} {x:String×DataW Unit} {l:List (String×DataW Unit)} (h:laidMet P (x::l) W):laidMet P l W:=by obtain⟨u,⟨k,t',cs,fuel,p,q,j,o,f,y,g,c⟩,i,r⟩:=h;subst c;refine⟨q,g,(nodup_append.1 i).2.1,λb m s=>r b m ?_⟩;simp[s]
theorem Bf1 (h:laidMetH prog YtikjbngjfebkjaaGreatDoor.Rows.polyLinearizedRow.laid W):V9 (O2 W):=by
 have i:laidMet prog [("internal/strconv.uint64pow10",YtikjbngjfebkjaaGreatDoor.Rows.laid_internal_strconv_uint64pow10)] W:=Azg (Azg h);have b:Lib.TabIs prog W "internal/strconv.uint64pow10" .u64 Lib.pow10Tab :=
  Lib.tabIs_of_head (g:=0) (rest:=[]) κ κ underlying421 underlying91 κ κ i
 have g:prog.globalNamed "internal/strconv.uint64pow10" = some 0:=κ;unfold Lib.TabIs World.var? at b;rw[g]at b;simp only[Option.bind_some]at b;split at b
 .rename_i cs E j k;cases b;exact⟨E,j,k⟩
 .cases b
theorem Akr (g:V9 (O2 W)):St (O2 W) ι0 H0 (λ_=>none) W W := ⟨λ_ _ h=>h,(λ_ _ h=>by cases h),λ_=>rfl,(λ_ _ _ h=>by cases h),rfl,rfl,rfl,g,Nat.le_refl _⟩
theorem Bf2 {σ:A8} {xs:List AV} {cs:Array Value} (h:CCs σ xs cs.toList):CC σ (.agg xs) (.agg cs) :=
 .agg xs cs (by simpa using h.1) (λi c v b j=>(h.2 i c v b (by simpa using j)).1)
section
variable {H:Type} {enc:TypeId×Value->H} {W:World} {G:Nat} {t:TypeId} {v:Value} {d:DataW H} {p:List MemPlace}
variable {α:Type} {Q:α->Nat->Prop}
theorem Aox {g:α->List AV} {fs:Array Field} (h:prog.underlying t=some (.struct fs)) (b:Value.okWide prog W .any G t v) (i:DataW.Trod enc prog W 0 (λ_=>true) true t v d p) (hb:uptoBulk d<=1048576) (rd:∀n,Rd enc prog W n t g Q):∃a,CC (O2 W) (.agg (g a)) v/\Q a (uptoBulk d):=by unfold Value.okWide at b;rw[h]at b;obtain⟨cs,rfl,_⟩:=b;obtain⟨n,c⟩:=i.by;obtain⟨a,j,k⟩:=rd n _ d c hb;exact⟨a,Bf2 j,k⟩
theorem Aoy {g:α->AV} (i:v.cells = #[v]) (j:DataW.Trod enc prog W 0 (λ_=>true) true t v d p) (hb:uptoBulk d<=1048576) (rd:∀n,Rd enc prog W n t (λa=>[g a]) Q):∃a,CC (O2 W) (g a) v/\Q a (uptoBulk d):=by obtain⟨n,b⟩:=j.by;obtain⟨a,h,k⟩:=rd n _ d b hb;rw[i]at h;exact⟨a,(h.2 0 _ _ rfl rfl).1,k⟩
theorem Azh {e:TypeId} (h:prog.underlying t=some (.slice e)) (b:Value.okWide prog W .any G t v):v.cells = #[v]:=by unfold Value.okWide at b;rw[h]at b;cases v with| agg cs=>simp only[Cell.okWide,Cell.ok,h]at b| _=>rfl
theorem Bf3 {k:IntKind} (h:prog.underlying t=some (.int k)) (b:Value.okWide prog W .any G t v):v.cells = #[v]:=by unfold Value.okWide at b;rw[h]at b;cases v with| agg cs=>simp only[Cell.okWide,Cell.ok,h]at b| _=>rfl
end
section
variable {H:Type} {enc:TypeId×Value->H} {P:Program}
theorem Azi (f:laidOutB P=true) {w w':World} {c:Nat->Bool}:∀{ts:List TypeId} {vs:List Value} {g:List (DataW H)} {ps:List MemPlace}, (ts.all λt=>P.readableRec t&&decide (t<P.types.size))=true->DataW.TrodAll enc P w 0 (λ_=>true) true ts vs g ps->(∀p∈ps,w.sameAt w' p)->(∀p∈ps,c p.block=true)->DataW.TrodAll enc P w' 0 c true ts vs g ps
 | [],[],[],_,_,h,_,_=>h
 | t::ts,_::_,_::_,_,b,⟨p,q,h,i,e⟩,k,hp=>by subst e;simp only[all_cons,Bool.and_eq_true,decide_eq_true_eq]at b;exact⟨p,q,WideElems.Trod_stays f b.1.1 b.1.2 h (λx j=>k x (by simp[j])) λx j=>hp x (by simp[j]),Azi f b.2 i (λx j=>k x (by simp[j])) λx j=>hp x (by simp[j]),rfl⟩
theorem Bf4 (R:laidOutB P=true) {f:Func} {s:ChangeSpec} {g:Bool} {W l:World} {args:Array Value} {k:List (DataW H)} {j:List MemPlace} {t:TypeId} (r:s.vars = []) (G:DataW.Whole enc P f.params.toList s.vars false W args.toList k [] j) (N:(f.params.toList.all λt=>P.readableRec t&&decide (t<P.types.size))=true) (E:(s.fn H k).results = [.lit (.bool true)]/\(s.fn H k).args=k/\(s.fn H k).vars = []) (B:f.resultTypes = #[t]) (ht:P.underlying t=some .bool) (z:∀(b:Nat) (o:Obj),W.heap[b]? = some o->l.heap[b]? = some o) (D:l.os=W.os) (u:l.output=W.output) : s.post enc P f false true g false W args (.bool true) l:=by
 have A:=G;obtain⟨p,q,U,I,rfl,S,_⟩:=G;rw[r]at I;obtain rfl:q = []:=I;have y:=A.lt;rw[append_nil]at *;have c:∀b,b<W.heap.size->l.heap[b]? = W.heap[b]?:=λb C=>by rw[Array.getElem?_eq_getElem C];exact z b _ (Array.getElem?_eq_getElem C)
 have same:∀x∈p,W.sameAt l x:=by intro x m;have:=c x.block (y x m);cases x with| cell b o=>exact World.cell?_of_block (w:=W) this| map b=>exact this
 obtain⟨M,L,J⟩:=E;refine⟨k,[],p,[],p,[],A,?_,?_,?_,⟨D,u,λi F=>?_⟩,λh=>by cases h⟩
 .rw[append_nil,M,B];exact trodAll_mk1 (shut_bool ht _)
 .rw[append_nil,L];exact Azi R N U same (λx m=>by simpa using y x m)
 .rw[append_nil,J,r];rfl
 .rw[c i F];split <;> simp_all
end
end Go.Ab
