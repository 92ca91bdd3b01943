/- Readings. -/
import Derived.Test.YtdinnpegmcadbaaGreatDoorRows
import Derived.Test.YtdinnpegmcadbaaGreatDoorRnTy
import Derived.ReaderBy
import Derived.Test.YtdinnpegmcadbaaGreatDoorRnPl2
import Derived.Test.YtdinnpegmcadbaaGreatDoorCards
import Derived.Test.YtdinnpegmcadbaaGreatDoorTie
import Derived.ChangeOld
import Derived.ChangeSame
import Derived.Carry
import Derived.RowKit
import Derived.WalkKit
import Derived.ProofKit
import Derived.OpenShut
import Derived.Deep.DeepHandedRow
import Derived.Lib.LaidTab
open List
namespace Go.Ab
open Go
open Go.Proofs.YtdinnpegmcadbaaGreatDoor.Rows (uptoBulk uptoBulkAll)
def Of (w:World):A7:=λb=>w.heap[b]?
def CCs (σ:A7) (xs:List AV) (cs:List Value):Prop := cs.length=xs.length/\∀(j:Nat) (a:AV) (c:Value),xs[j]? = some a->cs[j]? = some c->CC σ a c/\Fi c=true
section
variable {H:Type} {enc:TypeId×Value->H} {P:Program} {w:World}
variable {σ:A7} {a:Addr} {n:Nat} {α β:Type} {e t:TypeId} {Q:α->Nat->Prop} {g:β->List AV} {R:β->Nat->Prop}
def Rd (enc:TypeId×Value->H) (P:Program) (w:World) (n:Nat) (t:TypeId) (f:α->List AV) (Q:α->Nat->Prop):Prop := ∀(cs:List Value) (d:DataW H),DataW.ofBy (keyOf P) enc P w 0 true true n t cs=some d->uptoBulk d<=1048576->∃a:α,CCs (Of w) (f a) cs/\Q a (uptoBulk d)
theorem Ki (t:TypeId) (f:α->List AV) (Q:α->Nat->Prop):Rd enc P w 0 t f Q:=λ_ _ h=>by cases h
theorem Bee (d:DataW H):1<=uptoBulk d:=by cases d with| lit l=>cases l <;> simp[uptoBulk]| _=>simp[uptoBulk]
theorem Yh {a:AV} {c:Value} (h:CC σ a c) (i:Fi c=true):CCs σ [a] [c]:=by refine⟨rfl,λj x y b k=>?_⟩;cases j with| zero=>cases b;cases k;exact⟨h,i⟩| succ j=>cases b
theorem Bef {xs bs:List AV} {cs b:List Value} (h:CCs σ xs cs) (m:CCs σ bs b):CCs σ (xs++bs) (cs++b):=by
 refine⟨by simp[h.1,m.1],λj x y k l=>?_⟩;rcases Nat.lt_or_ge j xs.length with i|i
 .rw[getElem?_append_left i]at k;rw[getElem?_append_left (by rw[h.1];exact i)]at l;exact h.2 j x y k l
 .rw[getElem?_append_right i]at k;rw[getElem?_append_right (by rw[h.1];exact i),h.1]at l;exact m.2 _ x y k l
theorem Mv (k:IntKind) (n:Nat) (i:P.underlying t=some (.int k)):Rd enc P w n t (λa:Int=>[O k a]) (λa _=>k.min<=a/\a<=k.max):=by
 intro cs d h _;cases n with
 | zero=>cases h
 | succ n=>
  rcases cs with _|⟨c,_|⟨f,r⟩⟩
  .simp[DataW.ofBy,i]at h
  .cases c <;> simp[DataW.ofBy,i]at h;rename_i b m;obtain⟨⟨rfl,j⟩,_⟩:=h;exact⟨m,Yh (.val _) rfl,by simpa[Lit.wf] using j⟩
  .simp[DataW.ofBy,i]at h
theorem Beg (n:Nat) (i:P.underlying t=some .bool):Rd enc P w n t (λa:Bool=>[Aw a]) (λ_ _=>True):=by
 intro cs d h _;cases n with
 | zero=>cases h
 | succ n=>
  rcases cs with _|⟨c,_|⟨b,r⟩⟩
  .simp[DataW.ofBy,i]at h
  .cases c <;> simp[DataW.ofBy,i]at h;exact⟨_,Yh (.val _) rfl,trivial⟩
  .simp[DataW.ofBy,i]at h
theorem Ayc (n:Nat) (i:P.underlying t=some .string):Rd enc P w n t (λa:ByteArray=>[Gq a]) (λa b=>a.size<=b):=by
 intro cs d h _;cases n with
 | zero=>cases h
 | succ n=>
  rcases cs with _|⟨c,_|⟨f,r⟩⟩
  .simp[DataW.ofBy,i]at h
  .cases c
   case string s=>
    have j:(if s.size<=maxLen then some (DataW.lit (H:=H) (.string s.data.toList)) else none)=some d:=(by unfold DataW.ofBy at h;rw[i]at h;exact h);split at j
    .cases j;refine⟨_,Yh (.val _) rfl,?_⟩;have e:s.data.toList.length=s.size:=(by rw[Array.length_toList];rfl);simp only[uptoBulk];omega
    .cases j
   all_goals (unfold DataW.ofBy at h;rw[i]at h;cases h)
  .simp[DataW.ofBy,i]at h
def QL {α:Type} (Q:α->Nat->Prop):List α->Nat->Prop
 | [],_=>True
 | a::l,m=>∃b h,1<=b/\b+h<=m/\Q a b/\QL Q l h
theorem Beh {sz:Nat} {f:α->List AV} (ih:Rd enc P w n e f Q) (g:Nat->Option (List Value)):∀(L:List Nat) (c:List (DataW H)), L.mapM (λi=>(g i).bind (DataW.ofBy (keyOf P) enc P w 0 true true n e))=some c->uptoBulkAll c<=1048576 -> ∃l:List α,l.length=L.length/\QL Q l (uptoBulkAll c)/\∀(i:Nat) (a:α),l[i]? = some a->∃k cs,L[i]? = some k/\g k=some cs/\CCs (Of w) (f a) cs:=by
 intro L;induction L with
 | nil=>intro c h _;exact⟨[],rfl,trivial,λi a h=>by cases h⟩
 | cons k L j=>intro c h o;simp only[mapM_cons,Option.pure_def,Option.bind_eq_bind,Option.bind_eq_some_iff]at h;obtain⟨d,⟨cs,r,B⟩,b,C,A⟩:=h;cases A;simp only[uptoBulkAll]at o;obtain⟨a,D,E⟩:=ih cs d B ω;obtain⟨l,y,u,s⟩:=j b C ω;refine⟨a::l,by simp[y],⟨uptoBulk d,uptoBulkAll b,Bee d,by simp[uptoBulkAll],E,u⟩,?_⟩;intro i x m;cases i with| zero=>cases m;exact⟨k,cs,rfl,r,D⟩| succ i=>obtain⟨z,q,F,G,I⟩:=s i x m;exact⟨z,q,F,G,I⟩
theorem Og {α:Type} {Q:α->Nat->Prop}:∀{l:List α} {m:Nat},QL Q l m->l.length<=m
 | [],_,_=>Nat.zero_le _
 | _::l,_,⟨h,i,j,k,_,b⟩=>by have:=Og b;simp only[length_cons];omega
theorem Qz {α:Type} {Q:α->Nat->Prop}:∀{l:List α} {m:Nat},QL Q l m->∀a∈l,∃b,b<=m/\Q a b
 | _::l,_,⟨i,o,q,r,j,c⟩,a,h=>by
  rcases mem_cons.1 h with rfl|h
  .exact⟨i,ω,j⟩
  .obtain⟨b,s,k⟩:=Qz c a h;exact⟨b,ω,k⟩
theorem Aia {cs:List Value} (h:w.cells? 0 a n=some cs):cs.length=n/\∀j,j<n->w.cell? (a.add j)=cs[j]?:=by
 unfold World.cells? at h;rw[if_pos (Nat.zero_le _)]at h;have l:∀(L:List Nat) (cs:List Value),L.mapM (λi=>w.cell? (a.add i))=some cs->cs.length=L.length/\∀(i k:Nat),L[i]? = some k->w.cell? (a.add k)=cs[i]?:=by
  intro L;induction L with
  | nil=>intro cs h;cases h;exact⟨rfl,λi k h=>by cases h⟩
  | cons x L ih=>intro cs h;simp only[mapM_cons,Option.pure_def,Option.bind_eq_bind,Option.bind_eq_some_iff]at h;obtain⟨v,b,q,m,r⟩:=h;cases r;obtain⟨s,u⟩:=ih q m;refine⟨by simp[s],λi k o=>?_⟩;cases i with| zero=>cases o;simpa using b| succ i=>simpa using u i k o
 obtain⟨b,m⟩:=l _ _ h;rw[length_range]at b;exact⟨b,λj y=>m j j (by simp[y])⟩
theorem Ayd (h:a.spot=none) (m:Nat):a.add m=⟨a.block,a.off+m,none⟩:=by
 unfold Addr.add;split
 .rename_i e;subst e;cases a;simp_all
 .rfl
theorem Ac4 (sz:Nat) {f:α->List AV} (g:α->AV) (hu:P.underlying t=some (.slice e)) (L:P.cellsOf e=sz) (a2:0<sz) (hg:∀a,(g a).cells=f a) (hf:∀a,(f a).length=sz) (ih:Rd enc P w n e f Q):Rd enc P w (n+1) t (λl:List α=>[.sl sz (l.map g)]) (λl b=>∃m,m+1<=b/\QL Q l m):=by
 intro cs d h hb;rcases cs with _|⟨c,_|⟨c',r⟩⟩
 .simp[DataW.ofBy,hu]at h
 .cases c
  case slice G len T=>
   cases G with
   | none=>have:d = .nil/\len=0:=(by unfold DataW.ofBy at h;rw[hu]at h;split at h <;> simp_all);obtain⟨rfl,rfl⟩:=this;exact⟨[],Yh (.nil sz _ _) rfl,0,by simp[uptoBulk],trivial⟩
   | some a=>
    have h':(if 0<=a.block/\len<=T/\T<=maxLen then
     ((range len).mapM λi=>(w.cells? 0 (a.add (i*P.cellsOf e)) (P.cellsOf e)).bind (DataW.ofBy (keyOf P) enc P w 0 true true n e)).bind λu=> (if true=true then (range (T-len)).mapM λj=>(w.cells? 0 (a.add ((len+j)*P.cellsOf e)) (P.cellsOf e)).bind (DataW.ofBy (keyOf P) enc P w 0 true true n e) else some []).map λa0=>DataW.slice u a0 else none)=some d:=by unfold DataW.ofBy at h;rw[hu]at h;exact h
    split at h'
    .rename_i K;simp only[Option.bind_eq_some_iff,Option.map_eq_some_iff]at h';obtain⟨u,h1,a0,h2,rfl⟩:=h';rw[L]at h1;simp only[uptoBulk]at hb;obtain⟨l,o,V,l3⟩:=Beh (sz:=sz) ih (λi=>w.cells? 0 (a.add (i*sz)) sz) _ _ h1 ω;have Y:=Og V;rw[length_range]at o;refine⟨l,?_,uptoBulkAll u,by simp only[uptoBulk];omega,V⟩;cases R:l with
     | nil=>rw[R]at o;have:len=0:=o.symm;subst this;exact Yh (.nil sz _ _) rfl
     | cons x l'=>
      rw[<-R];refine Yh ?_ rfl;have D:∀(i:Nat) (y:α),l[i]? = some y->∃cs,w.cells? 0 (a.add (i*sz)) sz=some cs/\CCs (Of w) (f y) cs:=(by intro i y F;obtain⟨k,cs,g1,g2,g3⟩:=l3 i y F;have hk:k=i:=(by rw[getElem?_range (by have:=(List.getElem?_eq_some_iff.1 F).1;omega)]at g1;exact (Option.some.inj g1).symm);subst hk;exact⟨cs,g2,g3⟩);have J:l[0]? = some x:=(by rw[R];rfl);obtain⟨U,c1,c2⟩:=D 0 x J;have c3:=(Aia c1).2 0 a2;have a1:U.length=sz:=(Aia c1).1;rw[getElem?_eq_getElem ω]at c3;have s:a.spot=none/\∃C E fr,w.heap[a.block]? = some (.cells C E fr):=by
       have S:(a.add (0*sz)).add 0=a:=(by simp[Addr.add]);rw[S]at c3;unfold World.cell? at c3;split at c3
       .rename_i C E fr I;split at c3
        .cases c3
        .rename_i X;refine⟨?_,C,E,fr,I⟩;cases M:a.spot with| none=>rfl| some _=>rw[M]at X;simp at X
       .cases c3
      obtain⟨s,C,E,fr,I⟩:=s;have z:∀i j:Nat,w.cell? ((a.add (i*sz)).add j)=C[a.off+i*sz+j]?:=(by intro i j;rw[Ayd s,Ayd rfl];unfold World.cell?;rw[I];rfl);have q:∀(i:Nat) (y:α) (j:Nat) (c:AV),l[i]? = some y->(g y).cells[j]? = some c->∃v,C[a.off+i*sz+j]? = some v/\CC (Of w) c v/\Fi v=true:=(by intro i y j c F K;obtain⟨cs,Z,e2⟩:=D i y F;rw[hg]at K;have hj:=(List.getElem?_eq_some_iff.1 K).1;rw[hf]at hj;have B:j<cs.length:=(by rw[(Aia Z).1];exact hj);have:=(Aia Z).2 j hj;rw[z,getElem?_eq_getElem B]at this;exact⟨_,this,e2.2 j c _ K (getElem?_eq_getElem B)⟩);have a3:a=⟨a.block,a.off,none⟩:=(by cases a;simp_all);rw[a3];have N:l.length=(l.map g).length:=ψ;rw[<-o,N];refine CC.sl (l.map g) a.block a.off T sz C E fr (λi j=>(C[a.off+i*sz+j]?).getD undef) I ?_ ?_ ?_ ?_ ζ ζ
      .intro i y F;simp only[getElem?_map,Option.map_eq_some_iff]at F;obtain⟨y,_,rfl⟩:=F;rw[hg,hf]
      .intro i y j c F K;simp only[getElem?_map,Option.map_eq_some_iff]at F;obtain⟨y,F,rfl⟩:=F;obtain⟨v,A,v2,v3⟩:=q i y j c F K;rw[A];exact v2
      .intro i y j c F K;simp only[getElem?_map,Option.map_eq_some_iff]at F;obtain⟨y,F,rfl⟩:=F;obtain⟨v,A,v2,v3⟩:=q i y j c F K;rw[A];exact v3
      .intro i j hi hj;rw[length_map]at hi;have F:l[i]? = some l[i]:=getElem?_eq_getElem hi;have K:(g l[i]).cells[j]? = some ((g l[i]).cells[j]'(by rw[hg,hf];exact hj)):=getElem?_eq_getElem _;obtain⟨v,A,_⟩:=q i _ j _ F K;rw[A];rfl
    .cases h'
  all_goals simp[DataW.ofBy,hu]at h
 .simp[DataW.ofBy,hu]at h
def RdL (enc:TypeId×Value->H) (P:Program) (w:World) (n b off:Nat) (fs:List (TypeId×Nat×Nat)) (f:α->List AV) (Q:α->Nat->Prop):Prop := ∀(cs:List Value) (h:List (DataW H)),cs.length=b->fs.mapM (λx=>DataW.ofBy (keyOf P) enc P w 0 true true n x.1 ((cs.drop x.2.1).take x.2.2))=some h->uptoBulkAll h<=1048576 -> ∃a:α,CCs (Of w) (f a) (cs.drop off)/\Q a (uptoBulkAll h)
theorem Mw (n b:Nat):RdL enc P w n b b [] (λ_:Unit=>[]) (λ_ _=>True):=by intro cs i h _ _;exact⟨(),⟨by simp[h],λj a c h=>by cases h⟩,trivial⟩
theorem G9 {c off:Nat} (sz:Nat) {fs:List (TypeId×Nat×Nat)} {f:α->List AV} (s:Rd enc P w n t f Q) (u:RdL enc P w n c (off+sz) fs g R):RdL enc P w n c off ((t,off,sz)::fs) (λp:α×β=>f p.1++g p.2) (λp m=>∃o r,o+r=m/\Q p.1 o/\R p.2 r):=by intro cs D j h x;simp only[mapM_cons,Option.pure_def,Option.bind_eq_bind,Option.bind_eq_some_iff]at h;obtain⟨d,q,i,l,k⟩:=h;cases k;simp only[uptoBulkAll]at x ⊢;obtain⟨a,y,A⟩:=s _ d q ω;obtain⟨b,B,C⟩:=u cs i j l ω;refine⟨(a,b),?_,_,_,rfl,A,C⟩;have:=Bef y B;rwa [<-drop_drop,take_append_drop]at this
theorem Mx {fs:Array Field} {i:Nat} {L:List (TypeId×Nat×Nat)} {f:α->List AV} (φ:β->α) (q:P.underlying t=some (.struct fs)) (l:fs.toList.map (λx=>(x.type,x.offset,P.cellsOf x.type))=L) (ht:P.cellsOf t=i) (j:∀b,f (φ b)=g b) (k:∀b m,R b m->Q (φ b) (m+1)) (h:RdL enc P w n i 0 L g R):Rd enc P w (n+1) t f Q:=by
 intro cs d o r;have c:(if cs.length=P.cellsOf t then (fs.toList.mapM λx=>DataW.ofBy (keyOf P) enc P w 0 true true n x.type ((cs.drop x.offset).take (P.cellsOf x.type))).map DataW.agg else none)=some d:=by unfold DataW.ofBy at o;rw[q]at o;split at o <;> simp_all
 split at c
 .rename_i s;simp only[Option.map_eq_some_iff]at c;obtain⟨u,y,rfl⟩:=c;simp only[uptoBulk]at r;obtain⟨b,A,B⟩:=h cs u (s.trans ht) (by rw[<-l,mapM_map];exact y) ω;refine⟨φ b,?_,k b _ B⟩;rw[j];simpa using A
 .cases c
end
end Go.Ab
namespace Go.Ab
open Go Go.Proofs Go.Proofs.Tryz
open Go.Proofs.YtdinnpegmcadbaaGreatDoor.Rows (uptoBulk uptoBulkAll)
section
variable {H:Type} {enc:TypeId×Value->H} {w:World}
variable {n:Nat} {α:Type} {Q:α->Nat->Prop}
theorem Aye {a:Int} (h:IntKind.i64.min<=a/\a<=IntKind.i64.max):E5 a:=by have c:IntKind.i64.min = -9223372036854775808:=δ;have b:IntKind.i64.max=9223372036854775807:=δ;rw[c,b]at h;exact h
theorem Anw:∀{l:List Af} {m:Nat},QL (λa b=>Bx a<=b) l m->Dv l<=m
 | [],_,_=>Nat.zero_le _
 | _::l,_,⟨h,i,j,k,o,c⟩=>by have:=Anw c;simp only[Dv];omega
theorem Ayf:∀{l:List Ay} {m:Nat},QL (λa b=>Co a<=b) l m->Ed l<=m
 | [],_,_=>Nat.zero_le _
 | _::l,_,⟨h,i,j,k,o,c⟩=>by have:=Ayf c;simp only[Ed];omega
theorem Ayg:∀{l:List Ah} {m:Nat},QL (λa b=>Bw a<=b/\iR a) l m->Cd l<=m/\Fc l
 | [],_,_=>⟨Nat.zero_le _,trivial⟩
 | _::l,_,⟨i,j,k,o,h,c⟩=>by have:=Ayg c;simp only[Cd,Fc];exact⟨ω,h.2,this.2⟩
theorem Ayh (h:Rd enc prog w n 23 (λl:List Af=>[.sl 3 (l.map Ee)]) (λl b=>∃m,m+1<=b/\QL (λa b=>Bx a<=b) l m)) : Rd enc prog w (n+1) 25 (λa:Af=>(Ee a).cells) (λa b=>Bx a<=b):=by
 refine Mx (λp:Int×Int×List Af×Unit=>⟨p.1,p.2.1,p.2.2.1⟩) underlying25 κ κ (λb=>?_) ?_ (G9 1 (Mv .i64 n underlying3) (G9 1 (Mv .i64 n underlying3) (G9 1 h (Mw n 3))))
 .simp[Ee,AV.cells,Li]
 .rintro⟨a,b,l,_⟩ m ⟨j,o,rfl,_,q,r,rfl,_,s,u,rfl,⟨k,x,i⟩,_⟩;have:=Anw i;simp only[Bx]at *;omega
theorem Anx:∀n:Nat,Rd enc prog w n 25 (λa:Af=>(Ee a).cells) (λa b=>Bx a<=b)
 | 0=>Ki _ _ _
 | 1=>Ayh (Ki _ _ _)
 | n+2=>Ayh (Ac4 3 Ee underlying23 κ δ (λ_=>rfl) (λ_=>rfl) (Anx n))
theorem Ayi (n:Nat):Rd enc prog w n 23 (λl:List Af=>[.sl 3 (l.map Ee)]) (λl b=>∃m,m+1<=b/\QL (λa b=>Bx a<=b) l m):=by cases n with| zero=>exact Ki _ _ _| succ n=>exact Ac4 3 Ee underlying23 κ δ (λ_=>rfl) (λ_=>rfl) (Anx n)
theorem Ayj (h:Rd enc prog w n 30 (λl:List Ay=>[.sl 3 (l.map Gg)]) (λl b=>∃m,m+1<=b/\QL (λa b=>Co a<=b) l m)) : Rd enc prog w (n+1) 32 (λa:Ay=>(Gg a).cells) (λa b=>Co a<=b):=by
 refine Mx (λp:Int×Int×List Ay×Unit=>⟨p.1,p.2.1,p.2.2.1⟩) underlying32 κ κ (λb=>?_) ?_ (G9 1 (Mv .i64 n underlying3) (G9 1 (Mv .i64 n underlying2) (G9 1 h (Mw n 3))))
 .simp[Gg,AV.cells,Jo]
 .rintro⟨a,b,l,_⟩ m ⟨j,o,rfl,_,q,r,rfl,_,s,u,rfl,⟨k,x,i⟩,_⟩;have:=Ayf i;simp only[Co]at *;omega
theorem Anz:∀n:Nat,Rd enc prog w n 32 (λa:Ay=>(Gg a).cells) (λa b=>Co a<=b)
 | 0=>Ki _ _ _
 | 1=>Ayj (Ki _ _ _)
 | n+2=>Ayj (Ac4 3 Gg underlying30 κ δ (λ_=>rfl) (λ_=>rfl) (Anz n))
theorem Ayk (h:Rd enc prog w n 70 (λl:List Ah=>[.sl 2 (l.map Fu)]) (λl b=>∃m,m+1<=b/\QL (λa b=>Bw a<=b/\iR a) l m)) : Rd enc prog w (n+1) 72 (λa:Ah=>(Fu a).cells) (λa b=>Bw a<=b/\iR a):=by
 refine Mx (λp:Int×List Ah×Unit=>⟨p.1,p.2.1⟩) underlying72 κ κ (λb=>?_) ?_ (G9 1 (Mv .i64 n underlying3) (G9 1 h (Mw n 2)))
 .simp[Fu,AV.cells,Lj]
 .rintro⟨a,l,_⟩ m ⟨o,q,rfl,i,r,s,rfl,⟨k,u,j⟩,_⟩;have:=Ayg j;have i:=Aye i;simp only[Bw,iR]at *;exact⟨ω,i,this.2⟩
theorem Ayl:∀n:Nat,Rd enc prog w n 72 (λa:Ah=>(Fu a).cells) (λa b=>Bw a<=b/\iR a)
 | 0=>Ki _ _ _
 | 1=>Ayk (Ki _ _ _)
 | n+2=>Ayk (Ac4 2 Fu underlying70 κ δ (λ_=>rfl) (λ_=>rfl) (Ayl n))
theorem Q2 {t e:TypeId} (sz:Nat) {f:α->List AV} (g:α->AV) (i:prog.underlying t=some (.slice e)) (c:prog.cellsOf e=sz) (h:0<sz) (hg:∀a,(g a).cells=f a) (j:∀a,(f a).length=sz) (ih:∀n,Rd enc prog w n e f Q) (n:Nat):Rd enc prog w n t (λl:List α=>[.sl sz (l.map g)]) (λl b=>∃m,m+1<=b/\QL Q l m):=by cases n with| zero=>exact Ki _ _ _| succ n=>exact Ac4 sz g i c h hg j (ih n)
theorem Bei (n:Nat):Rd enc prog w n 160 (λa:P9=>(Afc a).cells) (λa b=>a.S.size<=b/\Dv a.R<=b):=by
 cases n with
 | zero=>exact Ki _ _ _
 | succ n=>
  refine Mx (λp:ByteArray×List Af×Unit=>⟨p.1,p.2.1⟩) underlying160 κ κ (λb=>?_) ?_ (G9 1 (Ayc n underlying9) (G9 1 (Ayi n) (Mw n 2)))
  .simp[Afc,AV.cells,Li]
  .rintro⟨a,l,_⟩ m ⟨i,j,rfl,o,q,r,rfl,⟨k,s,h⟩,_⟩;have:=Anw h;simp only at *;exact⟨ω,ω⟩
theorem Bej (n:Nat):Rd enc prog w n 158 (λa:Ai=>(B4 a).cells) (λa b=>a.S.size<=b/\a.O.length<=b/\∀y∈a.O,y.S.size<=b/\Dv y.R<=b):=by
 cases n with
 | zero=>exact Ki _ _ _
 | succ n=>
  refine Mx (λp:ByteArray×Int×List P9×Unit=>⟨p.1,p.2.1,p.2.2.1⟩) underlying158 κ κ (λb=>?_) ?_ (G9 1 (Ayc n underlying9) (G9 1 (Mv .i64 n underlying3) (G9 1 (Q2 2 Afc underlying156 κ δ (λ_=>rfl) (λ_=>rfl) Bei n) (Mw n 3))))
  .simp[B4,AV.cells]
  .rintro⟨a,b,l,_⟩ m ⟨o,q,rfl,r,s,u,rfl,_,x,A,rfl,⟨k,B,h⟩,_⟩;have C:=Og h;have i:=Qz h;simp only at *;refine⟨ω,ω,λy j=>?_⟩;obtain⟨c,D,E,F⟩:=i y j;exact⟨ω,ω⟩
theorem Bek (n:Nat):Rd enc prog w n 27 (λa:B9=>(N6 a).cells) (λa b=>b<=1048576->CSz a):=by
 cases n with
 | zero=>exact Ki _ _ _
 | succ n=>
  refine Mx (λp:List Ai×List Af×Af×Unit=>⟨p.1,p.2.1,p.2.2.1⟩) underlying27 κ κ (λb=>?_) ?_ (G9 1 (Q2 3 B4 underlying22 κ δ (λ_=>rfl) (λ_=>rfl) Bej n) (G9 1 (Ayi n) (G9 3 (Anx n) (Mw n 5))))
  .simp[N6,Ee,AV.cells,Li]
  .rintro⟨a,b,l,_⟩ m ⟨F,G,rfl,⟨k,I,C⟩,J,K,rfl,⟨h,f,o⟩,L,M,rfl,j,_⟩ i;have N:=Og C;have s:=Qz C;have S:=Og o;have g:=Qz o;simp only at *;refine⟨⟨by dsimp only;omega,λx q=>?_,λx q=>?_,λx q y u=>?_⟩,by dsimp only;omega,λt E=>?_,by dsimp only;omega⟩
   .obtain⟨c,A,B,D,r⟩:=s x q;refine⟨ω,λy u=>?_⟩;have:=(r y u).2;omega
   .obtain⟨c,A,B,D,r⟩:=s x q;omega
   .obtain⟨c,A,B,D,r⟩:=s x q;have:=(r y u).1;omega
   .obtain⟨c,A,B⟩:=g t E;omega
theorem Bel (P:α->Prop) (h:∀a b,Q a b->P a) {l:List α} {m:Nat} (i:QL Q l m):∀a∈l,P a:=λa j=>by obtain⟨c,_,g⟩:=Qz i a j;exact h a c g
theorem Aym (n:Nat):Rd enc prog w n 43 (λl:List Int=>[.sl 1 (l.map (O .u32))]) (λl b=>l.length<=b/\Qb l):=by intro cs d h j;obtain⟨a,k,m,q,i⟩:=Q2 (Q:=λa _=>IntKind.u32.min<=a/\a<=IntKind.u32.max) 1 (O .u32) underlying43 κ δ (λ_=>rfl) (λ_=>rfl) (λn=>Mv .u32 n underlying141) n cs d h j;refine⟨a,k,by have:=Og i;omega,λx o=>?_⟩;have:=Bel (λx=>IntKind.u32.min<=x/\x<=IntKind.u32.max) (λ_ _ h=>h) i x o;have f:IntKind.u32.min=0:=δ;have c:IntKind.u32.max=4294967295:=δ;rw[f,c]at this;omega
theorem Bem (n:Nat):Rd enc prog w n 45 (λa:Aq=>(Dd a).cells) (λa b=>RB b a):=by
 cases n with
 | zero=>exact Ki _ _ _
 | succ n=>
  refine Mx (λp:Bool×List Int×List Int×Unit=>⟨p.1,p.2.1,p.2.2.1⟩) underlying45 κ κ (λb=>?_) ?_ (G9 1 (Beg n underlying4) (G9 1 (Aym n) (G9 1 (Aym n) (Mw n 3))))
  .simp[Dd,AV.cells]
  .rintro⟨a,b,l,_⟩ m ⟨j,k,rfl,_,o,q,rfl,h,r,s,rfl,i,_⟩;simp only at *;exact⟨h.2,i.2,by dsimp only;omega,by dsimp only;omega⟩
theorem Ben (n:Nat):Rd enc prog w n 74 (λa:Be=>(Gb a).cells) (λa b=>Bw a.I<=b/\iR a.I/\E5 a.v):=by
 cases n with
 | zero=>exact Ki _ _ _
 | succ n=>
  refine Mx (λp:Int×Ah×Unit=>⟨p.1,p.2.1⟩) underlying74 κ κ (λb=>?_) ?_ (G9 1 (Mv .i64 n underlying3) (G9 2 (Ayl n) (Mw n 3)))
  .simp[Gb,Fu,AV.cells]
  .rintro⟨a,b,_⟩ m ⟨j,k,rfl,h,l,o,rfl,i,_⟩;have h:=Aye h;simp only at *;exact⟨ω,i.2,h⟩
theorem Beo (n:Nat):Rd enc prog w n 99 (λa:Bq=>(E7 a).cells) (λ_ _=>True):=by cases n with| zero=>exact Ki _ _ _| succ n=>refine Mx (λp:Int×Int×Unit=>⟨p.1,p.2.1⟩) underlying99 κ κ (λb=>?_) (λ_ _ _=>trivial) (G9 1 (Mv .i64 n underlying3) (G9 1 (Mv .i64 n underlying2) (Mw n 2)));simp[E7,AV.cells]
theorem Bep (n:Nat):Rd enc prog w n 68 (λa:Bg=>(H3 a).cells) (λa b=>a.T.length<=b):=by
 cases n with
 | zero=>exact Ki _ _ _
 | succ n=>
  refine Mx (λp:Int×List Bq×Unit=>⟨p.1,p.2.1⟩) underlying68 κ κ (λb=>?_) ?_ (G9 1 (Mv .i64 n underlying2) (G9 1 (Q2 2 E7 underlying66 κ δ (λ_=>rfl) (λ_=>rfl) Beo n) (Mw n 2)))
  .simp[H3,AV.cells]
  .rintro⟨a,l,_⟩ m ⟨i,j,rfl,o,q,r,rfl,⟨k,s,h⟩,_⟩;have:=Og h;simp only at *;omega
theorem Ayn (n:Nat):Rd enc prog w n 29 (λl:List Int=>[.sl 1 (l.map (O .i64))]) (λ_ _=>True):=by intro cs d h b;obtain⟨a,i,_⟩:=Q2 (Q:=λa _=>IntKind.i64.min<=a/\a<=IntKind.i64.max) 1 (O .i64) underlying29 κ δ (λ_=>rfl) (λ_=>rfl) (λn=>Mv .i64 n underlying3) n cs d h b;exact⟨a,i,trivial⟩
theorem Beq (n:Nat):Rd enc prog w n 97 (λa:Bf=>(F2 a).cells) (λa b=>a.L.T.length<=b):=by
 cases n with
 | zero=>exact Ki _ _ _
 | succ n=>
  refine Mx (λp:Bg×Int×Unit=>⟨p.1,p.2.1⟩) underlying97 κ κ (λb=>?_) ?_ (G9 2 (Bep n) (G9 1 (Mv .i64 n underlying3) (Mw n 3)))
  .simp[F2,H3,AV.cells]
  .rintro⟨a,l,_⟩ m ⟨h,i,rfl,j,k,o,rfl,_,_⟩;simp only at *;omega
theorem Ber (n:Nat):Rd enc prog w n 86 (λa:A5=>(H4 a).cells) (λa b=>b<=1048576->MSz a):=by
 cases n with
 | zero=>exact Ki _ _ _
 | succ n=>
  refine Mx (λp:List Be×List Bf×Unit=>⟨p.1,p.2.1⟩) underlying86 κ κ (λb=>?_) ?_ (G9 1 (Q2 3 Gb underlying83 κ δ (λ_=>rfl) (λ_=>rfl) Ben n) (G9 1 (Q2 3 F2 underlying84 κ δ (λ_=>rfl) (λ_=>rfl) Beq n) (Mw n 2)))
  .simp[H4,AV.cells]
  .rintro⟨a,l,_⟩ m ⟨C,D,rfl,⟨i,h,o⟩,E,F,rfl,⟨k,G,r⟩,_⟩ j;have I:=Og r;have A:=Qz r;have J:=Og o;have g:=Qz o;simp only at *;refine⟨by dsimp only;omega,by dsimp only;omega,λf q=>?_,λf q=>?_,λx B=>?_⟩
   .obtain⟨c,s,u,y⟩:=g f q;omega
   .obtain⟨c,s,u,y⟩:=g f q;exact y
   .obtain⟨c,s,u⟩:=A x B;omega
theorem Bes (n:Nat):Rd enc prog w n 88 (λa:Aj=>(Dr a).cells) (λa b=>b<=1048576->TSz a):=by
 cases n with
 | zero=>exact Ki _ _ _
 | succ n=>
  refine Mx (λp:Aq×A5×Unit=>⟨p.1,p.2.1⟩) underlying88 κ κ (λb=>?_) ?_ (G9 3 (Bem n) (G9 2 (Ber n) (Mw n 5)))
  .simp[Dr,Dd,H4,AV.cells]
  .rintro⟨a,l,_⟩ m ⟨j,k,rfl,h,o,q,rfl,i,_⟩ c;simp only at *;exact⟨RB.mono h ω,i ω⟩
theorem Bet (n:Nat):Rd enc prog w n 28 (λl:List Aj=>[.sl 5 (l.map Dr)]) (λl b=>b<=1048576->l.length<=1048576/\∀t∈l,TSz t):=by intro cs d h j;obtain⟨a,k,m,r,i⟩:=Q2 (Q:=λa b=>b<=1048576->TSz a) 5 Dr underlying28 κ δ (λ_=>rfl) (λ_=>rfl) Bes n cs d h j;refine⟨a,k,λf=>⟨by have:=Og i;omega,λx o=>?_⟩⟩;obtain⟨c,s,q⟩:=Qz i x o;exact q ω
theorem Beu (n:Nat):Rd enc prog w n 30 (λl:List Ay=>[.sl 3 (Gl l)]) (λl b=>l.length<=b/\∀v∈l,Co v<=b):=by
 intro cs d h j;obtain⟨a,k,m,q,i⟩:=Q2 (Q:=λa b=>Co a<=b) 3 Gg underlying30 κ δ (λ_=>rfl) (λ_=>rfl) Anz n cs d h j;refine⟨a,?_,by have:=Og i;omega,λx o=>?_⟩
 .show CCs _ [AV.sl 3 (Gl a)] cs;rw[Jo];exact k
 .obtain⟨c,r,s⟩:=Qz i x o;omega
end
end Go.Ab
namespace Go.Ab
open Go Go.Proofs Go.ChangeShapes Go.WideShapes Go.ChangeAt Go.RowKit Go.Proofs.Tryz
open Go.Proofs.YtdinnpegmcadbaaGreatDoor.Rows (uptoBulk uptoBulkAll uptoSmall)
set_option maxRecDepth 100000
variable {W:World}
theorem Ayo {P:Program} {x:String×DataW Unit} {l:List (String×DataW Unit)} (h:laidMet P (x::l) W):laidMet P l W:=by obtain⟨u,⟨k,t',cs,fuel,p,q,j,o,f,y,g,c⟩,i,r⟩:=h;subst c;refine⟨q,g,(nodup_append.1 i).2.1,λb m s=>r b m ?_⟩;simp[s]
theorem Bev (h:laidMetH prog YtdinnpegmcadbaaGreatDoor.Rows.polyRenamedRow.laid W):Vo (Of W):=by
 have i:laidMet prog [("internal/strconv.uint64pow10",YtdinnpegmcadbaaGreatDoor.Rows.laid_internal_strconv_uint64pow10)] W:=Ayo (Ayo h);have b:Lib.TabIs prog W "internal/strconv.uint64pow10" .u64 Lib.pow10Tab :=
  Lib.tabIs_of_head (g:=0) (rest:=[]) κ κ underlying420 underlying140 κ κ i
 have g:prog.globalNamed "internal/strconv.uint64pow10" = some 0:=κ;unfold Lib.TabIs World.var? at b;rw[g]at b;simp only[Option.bind_some]at b;split at b
 .rename_i cs E j k;cases b;exact⟨E,j,k⟩
 .cases b
theorem Aj1 (g:Vo (Of W)):St (Of W) ι0 H0 (λ_=>none) W W := ⟨λ_ _ h=>h,(λ_ _ h=>by cases h),λ_=>rfl,(λ_ _ _ h=>by cases h),rfl,rfl,rfl,g,Nat.le_refl _⟩
theorem Bew {σ:A7} {xs:List AV} {cs:Array Value} (h:CCs σ xs cs.toList):CC σ (.agg xs) (.agg cs) :=
 .agg xs cs (by simpa using h.1) (λi c v b j=>(h.2 i c v b (by simpa using j)).1)
section
variable {H:Type} {enc:TypeId×Value->H} {W:World} {G:Nat} {t:TypeId} {v:Value} {d:DataW H} {p:List MemPlace}
variable {α:Type} {Q:α->Nat->Prop}
theorem Ayp {g:α->List AV} {fs:Array Field} (h:prog.underlying t=some (.struct fs)) (b:Value.okWide prog W .any G t v) (i:DataW.Trod enc prog W 0 (λ_=>true) true t v d p) (hb:uptoBulk d<=1048576) (rd:∀n,Rd enc prog W n t g Q):∃a,CC (Of W) (.agg (g a)) v/\Q a (uptoBulk d):=by unfold Value.okWide at b;rw[h]at b;obtain⟨cs,rfl,_⟩:=b;obtain⟨n,c⟩:=i.by;obtain⟨a,j,k⟩:=rd n _ d c hb;exact⟨a,Bew j,k⟩
theorem Aib {g:α->AV} (i:v.cells = #[v]) (j:DataW.Trod enc prog W 0 (λ_=>true) true t v d p) (hb:uptoBulk d<=1048576) (rd:∀n,Rd enc prog W n t (λa=>[g a]) Q):∃a,CC (Of W) (g a) v/\Q a (uptoBulk d):=by obtain⟨n,b⟩:=j.by;obtain⟨a,h,k⟩:=rd n _ d b hb;rw[i]at h;exact⟨a,(h.2 0 _ _ rfl rfl).1,k⟩
theorem Aic {e:TypeId} (h:prog.underlying t=some (.slice e)) (b:Value.okWide prog W .any G t v):v.cells = #[v]:=by unfold Value.okWide at b;rw[h]at b;cases v with| agg cs=>simp only[Cell.okWide,Cell.ok,h]at b| _=>rfl
end
section
variable {H:Type} {enc:TypeId×Value->H} {P:Program}
theorem Ayq (f:laidOutB P=true) {w w':World} {c:Nat->Bool}:∀{ts:List TypeId} {vs:List Value} {g:List (DataW H)} {ps:List MemPlace}, (ts.all λt=>P.readableRec t&&decide (t<P.types.size))=true->DataW.TrodAll enc P w 0 (λ_=>true) true ts vs g ps->(∀p∈ps,w.sameAt w' p)->(∀p∈ps,c p.block=true)->DataW.TrodAll enc P w' 0 c true ts vs g ps
 | [],[],[],_,_,h,_,_=>h
 | t::ts,_::_,_::_,_,b,⟨p,q,h,i,e⟩,k,hp=>by subst e;simp only[all_cons,Bool.and_eq_true,decide_eq_true_eq]at b;exact⟨p,q,WideElems.Trod_stays f b.1.1 b.1.2 h (λx j=>k x (by simp[j])) λx j=>hp x (by simp[j]),Ayq f b.2 i (λx j=>k x (by simp[j])) λx j=>hp x (by simp[j]),rfl⟩
theorem Bex (N:laidOutB P=true) {f:Func} {s:ChangeSpec} {g:Bool} {W l:World} {args:Array Value} {k:List (DataW H)} {j:List MemPlace} {t:TypeId} (C:s.vars = []) (E:DataW.Whole enc P f.params.toList s.vars false W args.toList k [] j) (M:(f.params.toList.all λt=>P.readableRec t&&decide (t<P.types.size))=true) (D:(s.fn H k).results = [.lit (.bool true)]/\(s.fn H k).args=k/\(s.fn H k).vars = []) (A:f.resultTypes = #[t]) (ht:P.underlying t=some .bool) (y:∀(b:Nat) (o:Obj),W.heap[b]? = some o->l.heap[b]? = some o) (B:l.os=W.os) (u:l.output=W.output) : s.post enc P f false true g false W args (.bool true) l:=by
 have z:=E;obtain⟨p,q,S,G,rfl,R,_⟩:=E;rw[C]at G;obtain rfl:q = []:=G;have m:=z.lt;rw[append_nil]at *;have c:∀b,b<W.heap.size->l.heap[b]? = W.heap[b]?:=λb F=>by rw[Array.getElem?_eq_getElem F];exact y b _ (Array.getElem?_eq_getElem F)
 have same:∀x∈p,W.sameAt l x:=by intro x r;have:=c x.block (m x r);cases x with| cell b o=>exact World.cell?_of_block (w:=W) this| map b=>exact this
 obtain⟨L,J,I⟩:=D;refine⟨k,[],p,[],p,[],z,?_,?_,?_,⟨B,u,λi K=>?_⟩,λh=>by cases h⟩
 .rw[append_nil,L,A];exact trodAll_mk1 (shut_bool ht _)
 .rw[append_nil,J];exact Ayq N M S same (λx r=>by simpa using m x r)
 .rw[append_nil,I,C];rfl
 .rw[c i K];split <;> simp_all
end
end Go.Ab
