/- Readings. -/
import Derived.Test.YtbpbaimlddncnaaGreatDoorRows
import Derived.Test.YtbpbaimlddncnaaGreatDoorPcTy
import Derived.ReaderBy
import Derived.Test.YtbpbaimlddncnaaGreatDoorPcPl2
import Derived.Test.YtbpbaimlddncnaaGreatDoorCards
import Derived.Test.YtbpbaimlddncnaaGreatDoorTie
import Derived.ChangeOld
import Derived.ChangeSame
import Derived.Carry
import Derived.RowKit
import Derived.WalkKit
import Derived.ProofKit
import Derived.OpenShut
import Derived.Deep.DeepHandedRow
import Derived.Lib.LaidTab
open List
namespace Go.Ab
open Go
open Go.Proofs.YtbpbaimlddncnaaGreatDoor.Rows (uptoBulk uptoBulkAll)
def Nf (w:World):Ax:=λb=>w.heap[b]?
def CCs (σ:Ax) (xs:List AV) (cs:List Value):Prop := cs.length=xs.length/\∀(j:Nat) (a:AV) (c:Value),xs[j]? = some a->cs[j]? = some c->CC σ a c/\Ew c=true
section
variable {H:Type} {enc:TypeId×Value->H} {P:Program} {w:World}
variable {a:Addr} {σ:Ax} {n:Nat} {α β:Type} {e t:TypeId} {Q:α->Nat->Prop} {g:β->List AV} {R:β->Nat->Prop}
def Rd (enc:TypeId×Value->H) (P:Program) (w:World) (n:Nat) (t:TypeId) (f:α->List AV) (Q:α->Nat->Prop):Prop := ∀(cs:List Value) (d:DataW H),DataW.ofBy (keyOf P) enc P w 0 true true n t cs=some d->uptoBulk d<=1048576->∃a:α,CCs (Nf w) (f a) cs/\Q a (uptoBulk d)
theorem J8 (t:TypeId) (f:α->List AV) (Q:α->Nat->Prop):Rd enc P w 0 t f Q:=λ_ _ h=>by cases h
theorem A6j (d:DataW H):1<=uptoBulk d:=by cases d with| lit l=>cases l <;> simp[uptoBulk]| _=>simp[uptoBulk]
theorem V1 {a:AV} {c:Value} (h:CC σ a c) (i:Ew c=true):CCs σ [a] [c]:=by refine⟨rfl,λj x y b k=>?_⟩;cases j with| zero=>cases b;cases k;exact⟨h,i⟩| succ j=>cases b
theorem A6k {xs bs:List AV} {cs b:List Value} (h:CCs σ xs cs) (m:CCs σ bs b):CCs σ (xs++bs) (cs++b):=by
 refine⟨by simp[h.1,m.1],λj x y k l=>?_⟩;rcases Nat.lt_or_ge j xs.length with i|i
 .rw[getElem?_append_left i]at k;rw[getElem?_append_left (by rw[h.1];exact i)]at l;exact h.2 j x y k l
 .rw[getElem?_append_right i]at k;rw[getElem?_append_right (by rw[h.1];exact i),h.1]at l;exact m.2 _ x y k l
theorem Ng (k:IntKind) (n:Nat) (i:P.underlying t=some (.int k)):Rd enc P w n t (λa:Int=>[O k a]) (λa _=>k.min<=a/\a<=k.max):=by
 intro cs d h _;cases n with
 | zero=>cases h
 | succ n=>
  rcases cs with _|⟨c,_|⟨f,r⟩⟩
  .simp[DataW.ofBy,i]at h
  .cases c <;> simp[DataW.ofBy,i]at h;rename_i b m;obtain⟨⟨rfl,j⟩,_⟩:=h;exact⟨m,V1 (.val _) rfl,by simpa[Lit.wf] using j⟩
  .simp[DataW.ofBy,i]at h
theorem A6l (n:Nat) (i:P.underlying t=some .bool):Rd enc P w n t (λa:Bool=>[As a]) (λ_ _=>True):=by
 intro cs d h _;cases n with
 | zero=>cases h
 | succ n=>
  rcases cs with _|⟨c,_|⟨b,r⟩⟩
  .simp[DataW.ofBy,i]at h
  .cases c <;> simp[DataW.ofBy,i]at h;exact⟨_,V1 (.val _) rfl,trivial⟩
  .simp[DataW.ofBy,i]at h
theorem As2 (n:Nat) (i:P.underlying t=some .string):Rd enc P w n t (λa:ByteArray=>[Fy a]) (λa b=>a.size<=b):=by
 intro cs d h _;cases n with
 | zero=>cases h
 | succ n=>
  rcases cs with _|⟨c,_|⟨f,r⟩⟩
  .simp[DataW.ofBy,i]at h
  .cases c
   case string s=>
    have j:(if s.size<=maxLen then some (DataW.lit (H:=H) (.string s.data.toList)) else none)=some d:=(by unfold DataW.ofBy at h;rw[i]at h;exact h);split at j
    .cases j;refine⟨_,V1 (.val _) rfl,?_⟩;have e:s.data.toList.length=s.size:=(by rw[Array.length_toList];rfl);simp only[uptoBulk];omega
    .cases j
   all_goals (unfold DataW.ofBy at h;rw[i]at h;cases h)
  .simp[DataW.ofBy,i]at h
def QL {α:Type} (Q:α->Nat->Prop):List α->Nat->Prop
 | [],_=>True
 | a::l,m=>∃b h,1<=b/\b+h<=m/\Q a b/\QL Q l h
theorem A6m {sz:Nat} {f:α->List AV} (ih:Rd enc P w n e f Q) (g:Nat->Option (List Value)):∀(L:List Nat) (c:List (DataW H)), L.mapM (λi=>(g i).bind (DataW.ofBy (keyOf P) enc P w 0 true true n e))=some c->uptoBulkAll c<=1048576 -> ∃l:List α,l.length=L.length/\QL Q l (uptoBulkAll c)/\∀(i:Nat) (a:α),l[i]? = some a->∃k cs,L[i]? = some k/\g k=some cs/\CCs (Nf w) (f a) cs:=by
 intro L;induction L with
 | nil=>intro c h _;exact⟨[],rfl,trivial,λi a h=>by cases h⟩
 | cons k L j=>intro c h o;simp only[mapM_cons,Option.pure_def,Option.bind_eq_bind,Option.bind_eq_some_iff]at h;obtain⟨d,⟨cs,r,B⟩,b,C,A⟩:=h;cases A;simp only[uptoBulkAll]at o;obtain⟨a,D,E⟩:=ih cs d B ω;obtain⟨l,y,u,s⟩:=j b C ω;refine⟨a::l,by simp[y],⟨uptoBulk d,uptoBulkAll b,A6j d,by simp[uptoBulkAll],E,u⟩,?_⟩;intro i x m;cases i with| zero=>cases m;exact⟨k,cs,rfl,r,D⟩| succ i=>obtain⟨z,q,F,G,I⟩:=s i x m;exact⟨z,q,F,G,I⟩
theorem Oe {α:Type} {Q:α->Nat->Prop}:∀{l:List α} {m:Nat},QL Q l m->l.length<=m
 | [],_,_=>Nat.zero_le _
 | _::l,_,⟨h,i,j,k,_,b⟩=>by have:=Oe b;simp only[length_cons];omega
theorem Q4 {α:Type} {Q:α->Nat->Prop}:∀{l:List α} {m:Nat},QL Q l m->∀a∈l,∃b,b<=m/\Q a b
 | _::l,_,⟨i,o,q,r,j,c⟩,a,h=>by
  rcases mem_cons.1 h with rfl|h
  .exact⟨i,ω,j⟩
  .obtain⟨b,s,k⟩:=Q4 c a h;exact⟨b,ω,k⟩
theorem Aen {cs:List Value} (h:w.cells? 0 a n=some cs):cs.length=n/\∀j,j<n->w.cell? (a.add j)=cs[j]?:=by
 unfold World.cells? at h;rw[if_pos (Nat.zero_le _)]at h;have l:∀(L:List Nat) (cs:List Value),L.mapM (λi=>w.cell? (a.add i))=some cs->cs.length=L.length/\∀(i k:Nat),L[i]? = some k->w.cell? (a.add k)=cs[i]?:=by
  intro L;induction L with
  | nil=>intro cs h;cases h;exact⟨rfl,λi k h=>by cases h⟩
  | cons x L ih=>intro cs h;simp only[mapM_cons,Option.pure_def,Option.bind_eq_bind,Option.bind_eq_some_iff]at h;obtain⟨v,b,q,m,r⟩:=h;cases r;obtain⟨s,u⟩:=ih q m;refine⟨by simp[s],λi k o=>?_⟩;cases i with| zero=>cases o;simpa using b| succ i=>simpa using u i k o
 obtain⟨b,m⟩:=l _ _ h;rw[length_range]at b;exact⟨b,λj y=>m j j (by simp[y])⟩
theorem As3 (h:a.spot=none) (m:Nat):a.add m=⟨a.block,a.off+m,none⟩:=by
 unfold Addr.add;split
 .rename_i e;subst e;cases a;simp_all
 .rfl
theorem Aeo (sz:Nat) {f:α->List AV} (g:α->AV) (hu:P.underlying t=some (.slice e)) (L:P.cellsOf e=sz) (a2:0<sz) (hg:∀a,(g a).cells=f a) (hf:∀a,(f a).length=sz) (ih:Rd enc P w n e f Q):Rd enc P w (n+1) t (λl:List α=>[.sl sz (l.map g)]) (λl b=>∃m,m+1<=b/\QL Q l m):=by
 intro cs d h hb;rcases cs with _|⟨c,_|⟨c',r⟩⟩
 .simp[DataW.ofBy,hu]at h
 .cases c
  case slice G len T=>
   cases G with
   | none=>have:d = .nil/\len=0:=(by unfold DataW.ofBy at h;rw[hu]at h;split at h <;> simp_all);obtain⟨rfl,rfl⟩:=this;exact⟨[],V1 (.nil sz _ _) rfl,0,by simp[uptoBulk],trivial⟩
   | some a=>
    have h':(if 0<=a.block/\len<=T/\T<=maxLen then
     ((range len).mapM λi=>(w.cells? 0 (a.add (i*P.cellsOf e)) (P.cellsOf e)).bind (DataW.ofBy (keyOf P) enc P w 0 true true n e)).bind λu=> (if true=true then (range (T-len)).mapM λj=>(w.cells? 0 (a.add ((len+j)*P.cellsOf e)) (P.cellsOf e)).bind (DataW.ofBy (keyOf P) enc P w 0 true true n e) else some []).map λa0=>DataW.slice u a0 else none)=some d:=by unfold DataW.ofBy at h;rw[hu]at h;exact h
    split at h'
    .rename_i K;simp only[Option.bind_eq_some_iff,Option.map_eq_some_iff]at h';obtain⟨u,h1,a0,h2,rfl⟩:=h';rw[L]at h1;simp only[uptoBulk]at hb;obtain⟨l,o,V,Z⟩:=A6m (sz:=sz) ih (λi=>w.cells? 0 (a.add (i*sz)) sz) _ _ h1 ω;have X:=Oe V;rw[length_range]at o;refine⟨l,?_,uptoBulkAll u,by simp only[uptoBulk];omega,V⟩;cases R:l with
     | nil=>rw[R]at o;have:len=0:=o.symm;subst this;exact V1 (.nil sz _ _) rfl
     | cons x l'=>
      rw[<-R];refine V1 ?_ rfl;have D:∀(i:Nat) (y:α),l[i]? = some y->∃cs,w.cells? 0 (a.add (i*sz)) sz=some cs/\CCs (Nf w) (f y) cs:=(by intro i y F;obtain⟨k,cs,g1,g2,g3⟩:=Z i y F;have hk:k=i:=(by rw[getElem?_range (by have:=(List.getElem?_eq_some_iff.1 F).1;omega)]at g1;exact (Option.some.inj g1).symm);subst hk;exact⟨cs,g2,g3⟩);have J:l[0]? = some x:=(by rw[R];rfl);obtain⟨U,c1,c2⟩:=D 0 x J;have c3:=(Aen c1).2 0 a2;have a1:U.length=sz:=(Aen c1).1;rw[getElem?_eq_getElem ω]at c3;have s:a.spot=none/\∃C E fr,w.heap[a.block]? = some (.cells C E fr):=by
       have S:(a.add (0*sz)).add 0=a:=(by simp[Addr.add]);rw[S]at c3;unfold World.cell? at c3;split at c3
       .rename_i C E fr I;split at c3
        .cases c3
        .rename_i hs;refine⟨?_,C,E,fr,I⟩;cases M:a.spot with| none=>rfl| some _=>rw[M]at hs;simp at hs
       .cases c3
      obtain⟨s,C,E,fr,I⟩:=s;have z:∀i j:Nat,w.cell? ((a.add (i*sz)).add j)=C[a.off+i*sz+j]?:=(by intro i j;rw[As3 s,As3 rfl];unfold World.cell?;rw[I];rfl);have q:∀(i:Nat) (y:α) (j:Nat) (c:AV),l[i]? = some y->(g y).cells[j]? = some c->∃v,C[a.off+i*sz+j]? = some v/\CC (Nf w) c v/\Ew v=true:=(by intro i y j c F K;obtain⟨cs,Y,e2⟩:=D i y F;rw[hg]at K;have hj:=(List.getElem?_eq_some_iff.1 K).1;rw[hf]at hj;have B:j<cs.length:=(by rw[(Aen Y).1];exact hj);have:=(Aen Y).2 j hj;rw[z,getElem?_eq_getElem B]at this;exact⟨_,this,e2.2 j c _ K (getElem?_eq_getElem B)⟩);have a3:a=⟨a.block,a.off,none⟩:=(by cases a;simp_all);rw[a3];have N:l.length=(l.map g).length:=ψ;rw[<-o,N];refine CC.sl (l.map g) a.block a.off T sz C E fr (λi j=>(C[a.off+i*sz+j]?).getD undef) I ?_ ?_ ?_ ?_ ζ ζ
      .intro i y F;simp only[getElem?_map,Option.map_eq_some_iff]at F;obtain⟨y,_,rfl⟩:=F;rw[hg,hf]
      .intro i y j c F K;simp only[getElem?_map,Option.map_eq_some_iff]at F;obtain⟨y,F,rfl⟩:=F;obtain⟨v,A,v2,v3⟩:=q i y j c F K;rw[A];exact v2
      .intro i y j c F K;simp only[getElem?_map,Option.map_eq_some_iff]at F;obtain⟨y,F,rfl⟩:=F;obtain⟨v,A,v2,v3⟩:=q i y j c F K;rw[A];exact v3
      .intro i j hi hj;rw[length_map]at hi;have F:l[i]? = some l[i]:=getElem?_eq_getElem hi;have K:(g l[i]).cells[j]? = some ((g l[i]).cells[j]'(by rw[hg,hf];exact hj)):=getElem?_eq_getElem _;obtain⟨v,A,_⟩:=q i _ j _ F K;rw[A];rfl
    .cases h'
  all_goals simp[DataW.ofBy,hu]at h
 .simp[DataW.ofBy,hu]at h
def RdL (enc:TypeId×Value->H) (P:Program) (w:World) (n b off:Nat) (fs:List (TypeId×Nat×Nat)) (f:α->List AV) (Q:α->Nat->Prop):Prop := ∀(cs:List Value) (h:List (DataW H)),cs.length=b->fs.mapM (λx=>DataW.ofBy (keyOf P) enc P w 0 true true n x.1 ((cs.drop x.2.1).take x.2.2))=some h->uptoBulkAll h<=1048576 -> ∃a:α,CCs (Nf w) (f a) (cs.drop off)/\Q a (uptoBulkAll h)
theorem Mj (n b:Nat):RdL enc P w n b b [] (λ_:Unit=>[]) (λ_ _=>True):=by intro cs i h _ _;exact⟨(),⟨by simp[h],λj a c h=>by cases h⟩,trivial⟩
theorem G5 {c off:Nat} (sz:Nat) {fs:List (TypeId×Nat×Nat)} {f:α->List AV} (s:Rd enc P w n t f Q) (u:RdL enc P w n c (off+sz) fs g R):RdL enc P w n c off ((t,off,sz)::fs) (λp:α×β=>f p.1++g p.2) (λp m=>∃o r,o+r=m/\Q p.1 o/\R p.2 r):=by intro cs D j h x;simp only[mapM_cons,Option.pure_def,Option.bind_eq_bind,Option.bind_eq_some_iff]at h;obtain⟨d,q,i,l,k⟩:=h;cases k;simp only[uptoBulkAll]at x ⊢;obtain⟨a,y,A⟩:=s _ d q ω;obtain⟨b,B,C⟩:=u cs i j l ω;refine⟨(a,b),?_,_,_,rfl,A,C⟩;have:=A6k y B;rwa [<-drop_drop,take_append_drop]at this
theorem Mk {fs:Array Field} {i:Nat} {L:List (TypeId×Nat×Nat)} {f:α->List AV} (φ:β->α) (q:P.underlying t=some (.struct fs)) (l:fs.toList.map (λx=>(x.type,x.offset,P.cellsOf x.type))=L) (r:P.cellsOf t=i) (j:∀b,f (φ b)=g b) (k:∀b m,R b m->Q (φ b) (m+1)) (h:RdL enc P w n i 0 L g R):Rd enc P w (n+1) t f Q:=by
 intro cs d o s;have c:(if cs.length=P.cellsOf t then (fs.toList.mapM λx=>DataW.ofBy (keyOf P) enc P w 0 true true n x.type ((cs.drop x.offset).take (P.cellsOf x.type))).map DataW.agg else none)=some d:=by unfold DataW.ofBy at o;rw[q]at o;split at o <;> simp_all
 split at c
 .rename_i u;simp only[Option.map_eq_some_iff]at c;obtain⟨y,A,rfl⟩:=c;simp only[uptoBulk]at s;obtain⟨b,B,C⟩:=h cs y (u.trans r) (by rw[<-l,mapM_map];exact A) ω;refine⟨φ b,?_,k b _ C⟩;rw[j];simpa using B
 .cases c
end
end Go.Ab
namespace Go.Ab
open Go Go.Proofs Go.Proofs.Tryz
open Go.Proofs.YtbpbaimlddncnaaGreatDoor.Rows (uptoBulk uptoBulkAll)
section
variable {H:Type} {enc:TypeId×Value->H} {w:World}
variable {n:Nat} {α:Type} {Q:α->Nat->Prop}
theorem As4 {a:Int} (h:IntKind.i64.min<=a/\a<=IntKind.i64.max):El a:=by have c:IntKind.i64.min = -9223372036854775808:=δ;have b:IntKind.i64.max=9223372036854775807:=δ;rw[c,b]at h;exact h
theorem Aj2:∀{l:List Ag} {m:Nat},QL (λa b=>Bw a<=b) l m->De l<=m
 | [],_,_=>Nat.zero_le _
 | _::l,_,⟨h,i,j,k,o,c⟩=>by have:=Aj2 c;simp only[De];omega
theorem As5:∀{l:List Ai} {m:Nat},QL (λa b=>Bt a<=b/\iR a) l m->B5 l<=m/\En l
 | [],_,_=>⟨Nat.zero_le _,trivial⟩
 | _::l,_,⟨i,j,k,o,h,c⟩=>by have:=As5 c;simp only[B5,En];exact⟨ω,h.2,this.2⟩
theorem As6 (h:Rd enc prog w n 23 (λl:List Ag=>[.sl 3 (l.map Et)]) (λl b=>∃m,m+1<=b/\QL (λa b=>Bw a<=b) l m)) : Rd enc prog w (n+1) 25 (λa:Ag=>(Et a).cells) (λa b=>Bw a<=b):=by
 refine Mk (λp:Int×Int×List Ag×Unit=>⟨p.1,p.2.1,p.2.2.1⟩) underlying25 κ κ (λb=>?_) ?_ (G5 1 (Ng .i64 n underlying3) (G5 1 (Ng .i64 n underlying3) (G5 1 h (Mj n 3))))
 .simp[Et,AV.cells,Kg]
 .rintro⟨a,b,l,_⟩ m ⟨j,o,rfl,_,q,r,rfl,_,s,u,rfl,⟨k,x,i⟩,_⟩;have:=Aj2 i;simp only[Bw]at *;omega
theorem Aj3:∀n:Nat,Rd enc prog w n 25 (λa:Ag=>(Et a).cells) (λa b=>Bw a<=b)
 | 0=>J8 _ _ _
 | 1=>As6 (J8 _ _ _)
 | n+2=>As6 (Aeo 3 Et underlying23 κ δ (λ_=>rfl) (λ_=>rfl) (Aj3 n))
theorem As7 (n:Nat):Rd enc prog w n 23 (λl:List Ag=>[.sl 3 (l.map Et)]) (λl b=>∃m,m+1<=b/\QL (λa b=>Bw a<=b) l m):=by cases n with| zero=>exact J8 _ _ _| succ n=>exact Aeo 3 Et underlying23 κ δ (λ_=>rfl) (λ_=>rfl) (Aj3 n)
theorem As8 (h:Rd enc prog w n 91 (λl:List Ai=>[.sl 2 (l.map E4)]) (λl b=>∃m,m+1<=b/\QL (λa b=>Bt a<=b/\iR a) l m)) : Rd enc prog w (n+1) 93 (λa:Ai=>(E4 a).cells) (λa b=>Bt a<=b/\iR a):=by
 refine Mk (λp:Int×List Ai×Unit=>⟨p.1,p.2.1⟩) underlying93 κ κ (λb=>?_) ?_ (G5 1 (Ng .i64 n underlying3) (G5 1 h (Mj n 2)))
 .simp[E4,AV.cells,Kh]
 .rintro⟨a,l,_⟩ m ⟨o,q,rfl,i,r,s,rfl,⟨k,u,j⟩,_⟩;have:=As5 j;have i:=As4 i;simp only[Bt,iR]at *;exact⟨ω,i,this.2⟩
theorem As9:∀n:Nat,Rd enc prog w n 93 (λa:Ai=>(E4 a).cells) (λa b=>Bt a<=b/\iR a)
 | 0=>J8 _ _ _
 | 1=>As8 (J8 _ _ _)
 | n+2=>As8 (Aeo 2 E4 underlying91 κ δ (λ_=>rfl) (λ_=>rfl) (As9 n))
theorem Tn {t e:TypeId} (sz:Nat) {f:α->List AV} (g:α->AV) (i:prog.underlying t=some (.slice e)) (c:prog.cellsOf e=sz) (h:0<sz) (hg:∀a,(g a).cells=f a) (j:∀a,(f a).length=sz) (ih:∀n,Rd enc prog w n e f Q) (n:Nat):Rd enc prog w n t (λl:List α=>[.sl sz (l.map g)]) (λl b=>∃m,m+1<=b/\QL Q l m):=by cases n with| zero=>exact J8 _ _ _| succ n=>exact Aeo sz g i c h hg j (ih n)
theorem A6n (n:Nat):Rd enc prog w n 143 (λa:O2=>(Abq a).cells) (λa b=>a.S.size<=b/\De a.R<=b):=by
 cases n with
 | zero=>exact J8 _ _ _
 | succ n=>
  refine Mk (λp:ByteArray×List Ag×Unit=>⟨p.1,p.2.1⟩) underlying143 κ κ (λb=>?_) ?_ (G5 1 (As2 n underlying9) (G5 1 (As7 n) (Mj n 2)))
  .simp[Abq,AV.cells,Kg]
  .rintro⟨a,l,_⟩ m ⟨i,j,rfl,o,q,r,rfl,⟨k,s,h⟩,_⟩;have:=Aj2 h;simp only at *;exact⟨ω,ω⟩
theorem A6o (n:Nat):Rd enc prog w n 141 (λa:Am=>(Cf a).cells) (λa b=>a.S.size<=b/\a.O.length<=b/\∀y∈a.O,y.S.size<=b/\De y.R<=b):=by
 cases n with
 | zero=>exact J8 _ _ _
 | succ n=>
  refine Mk (λp:ByteArray×Int×List O2×Unit=>⟨p.1,p.2.1,p.2.2.1⟩) underlying141 κ κ (λb=>?_) ?_ (G5 1 (As2 n underlying9) (G5 1 (Ng .i64 n underlying3) (G5 1 (Tn 2 Abq underlying139 κ δ (λ_=>rfl) (λ_=>rfl) A6n n) (Mj n 3))))
  .simp[Cf,AV.cells]
  .rintro⟨a,b,l,_⟩ m ⟨o,q,rfl,r,s,u,rfl,_,x,A,rfl,⟨k,B,h⟩,_⟩;have C:=Oe h;have i:=Q4 h;simp only at *;refine⟨ω,ω,λy j=>?_⟩;obtain⟨c,D,E,F⟩:=i y j;exact⟨ω,ω⟩
theorem A6p (n:Nat):Rd enc prog w n 27 (λa:Cu=>(M6 a).cells) (λa b=>b<=1048576->CSz a):=by
 cases n with
 | zero=>exact J8 _ _ _
 | succ n=>
  refine Mk (λp:List Am×List Ag×Ag×Unit=>⟨p.1,p.2.1,p.2.2.1⟩) underlying27 κ κ (λb=>?_) ?_ (G5 1 (Tn 3 Cf underlying22 κ δ (λ_=>rfl) (λ_=>rfl) A6o n) (G5 1 (As7 n) (G5 3 (Aj3 n) (Mj n 5))))
  .simp[M6,Et,AV.cells,Kg]
  .rintro⟨a,b,l,_⟩ m ⟨F,G,rfl,⟨k,I,C⟩,J,K,rfl,⟨h,f,o⟩,L,M,rfl,j,_⟩ i;have N:=Oe C;have s:=Q4 C;have S:=Oe o;have g:=Q4 o;simp only at *;refine⟨⟨by dsimp only;omega,λx q=>?_,λx q=>?_,λx q y u=>?_⟩,by dsimp only;omega,λt E=>?_,by dsimp only;omega⟩
   .obtain⟨c,A,B,D,r⟩:=s x q;refine⟨ω,λy u=>?_⟩;have:=(r y u).2;omega
   .obtain⟨c,A,B,D,r⟩:=s x q;omega
   .obtain⟨c,A,B,D,r⟩:=s x q;have:=(r y u).1;omega
   .obtain⟨c,A,B⟩:=g t E;omega
theorem A6q (P:α->Prop) (h:∀a b,Q a b->P a) {l:List α} {m:Nat} (i:QL Q l m):∀a∈l,P a:=λa j=>by obtain⟨c,_,g⟩:=Q4 i a j;exact h a c g
theorem Ata (n:Nat):Rd enc prog w n 35 (λl:List Int=>[.sl 1 (l.map (O .u32))]) (λl b=>l.length<=b/\Ma l):=by intro cs d h j;obtain⟨a,k,m,q,i⟩:=Tn (Q:=λa _=>IntKind.u32.min<=a/\a<=IntKind.u32.max) 1 (O .u32) underlying35 κ δ (λ_=>rfl) (λ_=>rfl) (λn=>Ng .u32 n underlying74) n cs d h j;refine⟨a,k,by have:=Oe i;omega,λx o=>?_⟩;have:=A6q (λx=>IntKind.u32.min<=x/\x<=IntKind.u32.max) (λ_ _ h=>h) i x o;have f:IntKind.u32.min=0:=δ;have c:IntKind.u32.max=4294967295:=δ;rw[f,c]at this;omega
theorem A6r (n:Nat):Rd enc prog w n 37 (λa:A3=>(Dj a).cells) (λa b=>RB b a):=by
 cases n with
 | zero=>exact J8 _ _ _
 | succ n=>
  refine Mk (λp:Bool×List Int×List Int×Unit=>⟨p.1,p.2.1,p.2.2.1⟩) underlying37 κ κ (λb=>?_) ?_ (G5 1 (A6l n underlying4) (G5 1 (Ata n) (G5 1 (Ata n) (Mj n 3))))
  .simp[Dj,AV.cells]
  .rintro⟨a,b,l,_⟩ m ⟨j,k,rfl,_,o,q,rfl,h,r,s,rfl,i,_⟩;simp only at *;exact⟨h.2,i.2,by dsimp only;omega,by dsimp only;omega⟩
theorem A6s (n:Nat):Rd enc prog w n 95 (λa:Bg=>(Fo a).cells) (λa b=>Bt a.I<=b/\iR a.I/\El a.v):=by
 cases n with
 | zero=>exact J8 _ _ _
 | succ n=>
  refine Mk (λp:Int×Ai×Unit=>⟨p.1,p.2.1⟩) underlying95 κ κ (λb=>?_) ?_ (G5 1 (Ng .i64 n underlying3) (G5 2 (As9 n) (Mj n 3)))
  .simp[Fo,E4,AV.cells]
  .rintro⟨a,b,_⟩ m ⟨j,k,rfl,h,l,o,rfl,i,_⟩;have h:=As4 h;simp only at *;exact⟨ω,i.2,h⟩
theorem A6t (n:Nat):Rd enc prog w n 102 (λa:B0=>(E9 a).cells) (λ_ _=>True):=by cases n with| zero=>exact J8 _ _ _| succ n=>refine Mk (λp:Int×Int×Unit=>⟨p.1,p.2.1⟩) underlying102 κ κ (λb=>?_) (λ_ _ _=>trivial) (G5 1 (Ng .i64 n underlying3) (G5 1 (Ng .i64 n underlying2) (Mj n 2)));simp[E9,AV.cells]
theorem A6u (n:Nat):Rd enc prog w n 60 (λa:Bz=>(Jz a).cells) (λa b=>a.T.length<=b):=by
 cases n with
 | zero=>exact J8 _ _ _
 | succ n=>
  refine Mk (λp:Int×List B0×Unit=>⟨p.1,p.2.1⟩) underlying60 κ κ (λb=>?_) ?_ (G5 1 (Ng .i64 n underlying2) (G5 1 (Tn 2 E9 underlying58 κ δ (λ_=>rfl) (λ_=>rfl) A6t n) (Mj n 2)))
  .simp[Jz,AV.cells]
  .rintro⟨a,l,_⟩ m ⟨i,j,rfl,o,q,r,rfl,⟨k,s,h⟩,_⟩;have:=Oe h;simp only at *;omega
theorem A6v (n:Nat):Rd enc prog w n 62 (λa:Bc=>(Fd a).cells) (λa b=>a.L.T.length<=b):=by
 cases n with
 | zero=>exact J8 _ _ _
 | succ n=>
  refine Mk (λp:Bz×Int×Unit=>⟨p.1,p.2.1⟩) underlying62 κ κ (λb=>?_) ?_ (G5 2 (A6u n) (G5 1 (Ng .i64 n underlying3) (Mj n 3)))
  .simp[Fd,Jz,AV.cells]
  .rintro⟨a,l,_⟩ m ⟨h,i,rfl,j,k,o,rfl,_,_⟩;simp only at *;omega
theorem A6w (n:Nat):Rd enc prog w n 51 (λa:Br=>(It a).cells) (λa b=>b<=1048576->MSz a):=by
 cases n with
 | zero=>exact J8 _ _ _
 | succ n=>
  refine Mk (λp:List Bg×List Bc×Unit=>⟨p.1,p.2.1⟩) underlying51 κ κ (λb=>?_) ?_ (G5 1 (Tn 3 Fo underlying48 κ δ (λ_=>rfl) (λ_=>rfl) A6s n) (G5 1 (Tn 3 Fd underlying49 κ δ (λ_=>rfl) (λ_=>rfl) A6v n) (Mj n 2)))
  .simp[It,AV.cells]
  .rintro⟨a,l,_⟩ m ⟨C,D,rfl,⟨i,h,o⟩,E,F,rfl,⟨k,G,r⟩,_⟩ j;have I:=Oe r;have A:=Q4 r;have J:=Oe o;have g:=Q4 o;simp only at *;refine⟨by dsimp only;omega,by dsimp only;omega,λf q=>?_,λf q=>?_,λx B=>?_⟩
   .obtain⟨c,s,u,y⟩:=g f q;omega
   .obtain⟨c,s,u,y⟩:=g f q;exact y
   .obtain⟨c,s,u⟩:=A x B;omega
theorem A6x (n:Nat):Rd enc prog w n 53 (λa:Aj=>(C9 a).cells) (λa b=>b<=1048576->TSz a):=by
 cases n with
 | zero=>exact J8 _ _ _
 | succ n=>
  refine Mk (λp:A3×Br×Unit=>⟨p.1,p.2.1⟩) underlying53 κ κ (λb=>?_) ?_ (G5 3 (A6r n) (G5 2 (A6w n) (Mj n 5)))
  .simp[C9,Dj,It,AV.cells]
  .rintro⟨a,l,_⟩ m ⟨j,k,rfl,h,o,q,rfl,i,_⟩ c;simp only at *;exact⟨RB.mono h ω,i ω⟩
theorem A6y (n:Nat):Rd enc prog w n 28 (λl:List Aj=>[.sl 5 (l.map C9)]) (λl b=>b<=1048576->l.length<=1048576/\∀t∈l,TSz t):=by intro cs d h j;obtain⟨a,k,m,r,i⟩:=Tn (Q:=λa b=>b<=1048576->TSz a) 5 C9 underlying28 κ δ (λ_=>rfl) (λ_=>rfl) A6x n cs d h j;refine⟨a,k,λf=>⟨by have:=Oe i;omega,λx o=>?_⟩⟩;obtain⟨c,s,q⟩:=Q4 i x o;exact q ω
end
end Go.Ab
namespace Go.Ab
open Go Go.Proofs Go.ChangeShapes Go.WideShapes Go.ChangeAt Go.RowKit Go.Proofs.Tryz
open Go.Proofs.YtbpbaimlddncnaaGreatDoor.Rows (uptoBulk uptoBulkAll uptoSmall)
set_option maxRecDepth 100000
variable {W:World}
theorem Atb {P:Program} {x:String×DataW Unit} {l:List (String×DataW Unit)} (h:laidMet P (x::l) W):laidMet P l W:=by obtain⟨u,⟨k,t',cs,fuel,p,q,j,o,f,y,g,c⟩,i,r⟩:=h;subst c;refine⟨q,g,(nodup_append.1 i).2.1,λb m s=>r b m ?_⟩;simp[s]
theorem A6z (h:laidMetH prog YtbpbaimlddncnaaGreatDoor.Rows.polyCollectsRow.laid W):Tp (Nf W):=by
 have i:laidMet prog [("internal/strconv.uint64pow10",YtbpbaimlddncnaaGreatDoor.Rows.laid_internal_strconv_uint64pow10)] W:=Atb (Atb h);have b:Lib.TabIs prog W "internal/strconv.uint64pow10" .u64 Lib.pow10Tab :=
  Lib.tabIs_of_head (g:=0) (rest:=[]) κ κ underlying368 underlying73 κ κ i
 have g:prog.globalNamed "internal/strconv.uint64pow10" = some 0:=κ;unfold Lib.TabIs World.var? at b;rw[g]at b;simp only[Option.bind_some]at b;split at b
 .rename_i cs E j k;cases b;exact⟨E,j,k⟩
 .cases b
theorem A60 (g:Tp (Nf W)):St (Nf W) ι0 H0 (λ_=>none) W W := ⟨λ_ _ h=>h,(λ_ _ h=>by cases h),λ_=>rfl,(λ_ _ _ h=>by cases h),rfl,rfl,rfl,g,Nat.le_refl _⟩
theorem A61 {σ:Ax} {xs:List AV} {cs:Array Value} (h:CCs σ xs cs.toList):CC σ (.agg xs) (.agg cs) :=
 .agg xs cs (by simpa using h.1) (λi c v b j=>(h.2 i c v b (by simpa using j)).1)
section
variable {H:Type} {enc:TypeId×Value->H} {W:World} {G:Nat} {t:TypeId} {v:Value} {d:DataW H} {p:List MemPlace}
variable {α:Type} {Q:α->Nat->Prop}
theorem A62 {g:α->List AV} {fs:Array Field} (h:prog.underlying t=some (.struct fs)) (b:Value.okWide prog W .any G t v) (i:DataW.Trod enc prog W 0 (λ_=>true) true t v d p) (hb:uptoBulk d<=1048576) (rd:∀n,Rd enc prog W n t g Q):∃a,CC (Nf W) (.agg (g a)) v/\Q a (uptoBulk d):=by unfold Value.okWide at b;rw[h]at b;obtain⟨cs,rfl,_⟩:=b;obtain⟨n,c⟩:=i.by;obtain⟨a,j,k⟩:=rd n _ d c hb;exact⟨a,A61 j,k⟩
theorem Atc {g:α->AV} (b:v.cells = #[v]) (i:DataW.Trod enc prog W 0 (λ_=>true) true t v d p) (hb:uptoBulk d<=1048576) (rd:∀n,Rd enc prog W n t (λa=>[g a]) Q):∃a,CC (Nf W) (g a) v/\Q a (uptoBulk d):=by obtain⟨n,c⟩:=i.by;obtain⟨a,h,j⟩:=rd n _ d c hb;rw[b]at h;exact⟨a,(h.2 0 _ _ rfl rfl).1,j⟩
theorem A63 {e:TypeId} (h:prog.underlying t=some (.slice e)) (b:Value.okWide prog W .any G t v):v.cells = #[v]:=by unfold Value.okWide at b;rw[h]at b;cases v with| agg cs=>simp only[Cell.okWide,Cell.ok,h]at b| _=>rfl
theorem A64 {k:IntKind} (h:prog.underlying t=some (.int k)) (b:Value.okWide prog W .any G t v):v.cells = #[v]:=by unfold Value.okWide at b;rw[h]at b;cases v with| agg cs=>simp only[Cell.okWide,Cell.ok,h]at b| _=>rfl
end
section
variable {H:Type} {enc:TypeId×Value->H} {P:Program}
theorem Atd (f:laidOutB P=true) {w w':World} {c:Nat->Bool}:∀{ts:List TypeId} {vs:List Value} {g:List (DataW H)} {ps:List MemPlace}, (ts.all λt=>P.readableRec t&&decide (t<P.types.size))=true->DataW.TrodAll enc P w 0 (λ_=>true) true ts vs g ps->(∀p∈ps,w.sameAt w' p)->(∀p∈ps,c p.block=true)->DataW.TrodAll enc P w' 0 c true ts vs g ps
 | [],[],[],_,_,h,_,_=>h
 | t::ts,_::_,_::_,_,b,⟨p,q,h,k,e⟩,j,hp=>by subst e;simp only[all_cons,Bool.and_eq_true,decide_eq_true_eq]at b;exact⟨p,q,WideElems.Trod_stays f b.1.1 b.1.2 h (λx i=>j x (by simp[i])) λx i=>hp x (by simp[i]),Atd f b.2 k (λx i=>j x (by simp[i])) λx i=>hp x (by simp[i]),rfl⟩
theorem A65 (S:laidOutB P=true) {f:Func} {s:ChangeSpec} {g:Bool} {W l:World} {args:Array Value} {k:List (DataW H)} {j:List MemPlace} {t:TypeId} (G:s.vars = []) (I:DataW.Whole enc P f.params.toList s.vars false W args.toList k [] j) (R:(f.params.toList.all λt=>P.readableRec t&&decide (t<P.types.size))=true) (E:(s.fn H k).results = [.lit (.bool true)]/\(s.fn H k).args=k/\(s.fn H k).vars = []) (B:f.resultTypes = #[t]) (C:P.underlying t=some .bool) (z:∀(b:Nat) (o:Obj),W.heap[b]? = some o->l.heap[b]? = some o) (D:l.os=W.os) (u:l.output=W.output) : s.post enc P f false true g false W args (.bool true) l:=by
 have A:=I;obtain⟨p,q,V,J,rfl,U,_⟩:=I;rw[G]at J;obtain rfl:q = []:=J;have y:=A.lt;rw[append_nil]at *;have c:∀b,b<W.heap.size->l.heap[b]? = W.heap[b]?:=λb r=>by rw[Array.getElem?_eq_getElem r];exact z b _ (Array.getElem?_eq_getElem r)
 have same:∀x∈p,W.sameAt l x:=by intro x m;have:=c x.block (y x m);cases x with| cell b o=>exact World.cell?_of_block (w:=W) this| map b=>exact this
 obtain⟨N,M,L⟩:=E;refine⟨k,[],p,[],p,[],A,?_,?_,?_,⟨D,u,λi F=>?_⟩,λh=>by cases h⟩
 .rw[append_nil,N,B];exact trodAll_mk1 (shut_bool C _)
 .rw[append_nil,M];exact Atd S R V same (λx m=>by simpa using y x m)
 .rw[append_nil,L,G];rfl
 .rw[c i F];split <;> simp_all
end
end Go.Ab
