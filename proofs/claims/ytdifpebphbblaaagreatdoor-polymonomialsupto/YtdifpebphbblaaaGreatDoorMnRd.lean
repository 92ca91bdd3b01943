/- Readings. -/
import Derived.Test.YtdifpebphbblaaaGreatDoorRows
import Derived.Test.YtdifpebphbblaaaGreatDoorMnTy
import Derived.ReaderBy
import Derived.Test.YtdifpebphbblaaaGreatDoorMnPl2
import Derived.Test.YtdifpebphbblaaaGreatDoorCards
import Derived.Test.YtdifpebphbblaaaGreatDoorTie
import Derived.ChangeOld
import Derived.ChangeSame
import Derived.Carry
import Derived.RowKit
import Derived.WalkKit
import Derived.ProofKit
import Derived.OpenShut
import Derived.Deep.DeepHandedRow
import Derived.Lib.LaidTab
open List
namespace Go.Ab
open Go
open Go.Proofs.YtdifpebphbblaaaGreatDoor.Rows (uptoBulk uptoBulkAll)
def Ly (w:World):Aw:=λb=>w.heap[b]?
def CCs (σ:Aw) (xs:List AV) (cs:List Value):Prop := cs.length=xs.length/\∀(j:Nat) (a:AV) (c:Value),xs[j]? = some a->cs[j]? = some c->CC σ a c/\Dy c=true
section
variable {H:Type} {enc:TypeId×Value->H} {P:Program} {w:World}
variable {a:Addr} {σ:Aw} {cs:List Value} {n:Nat} {α β:Type} {e t:TypeId} {f:α->List AV} {Q:α->Nat->Prop} {g:β->List AV} {R:β->Nat->Prop}
def Rd (enc:TypeId×Value->H) (P:Program) (w:World) (n:Nat) (t:TypeId) (f:α->List AV) (Q:α->Nat->Prop):Prop := ∀(cs:List Value) (d:DataW H),DataW.ofBy (keyOf P) enc P w 0 true true n t cs=some d->uptoBulk d<=1048576->∃a:α,CCs (Ly w) (f a) cs/\Q a (uptoBulk d)
theorem N1 (t:TypeId) (f:α->List AV) (Q:α->Nat->Prop):Rd enc P w 0 t f Q:=λ_ _ h=>by cases h
theorem A0j (d:DataW H):1<=uptoBulk d:=by cases d with| lit l=>cases l <;> simp[uptoBulk]| _=>simp[uptoBulk]
theorem W3 {a:AV} {c:Value} (h:CC σ a c) (i:Dy c=true):CCs σ [a] [c]:=by refine⟨rfl,λj x y b k=>?_⟩;cases j with| zero=>cases b;cases k;exact⟨h,i⟩| succ j=>cases b
theorem A0k {xs bs:List AV} {b:List Value} (h:CCs σ xs cs) (l:CCs σ bs b):CCs σ (xs++bs) (cs++b):=by
 refine⟨by simp[h.1,l.1],λj x y i k=>?_⟩;rcases Nat.lt_or_ge j xs.length with c|c
 .rw[getElem?_append_left c]at i;rw[getElem?_append_left (by rw[h.1];exact c)]at k;exact h.2 j x y i k
 .rw[getElem?_append_right c]at i;rw[getElem?_append_right (by rw[h.1];exact c),h.1]at k;exact l.2 _ x y i k
theorem Pc (k:IntKind) (n:Nat) (j:P.underlying t=some (.int k)):Rd enc P w n t (λa:Int=>[Aa k a]) (λa _=>k.min<=a/\a<=k.max):=by
 intro cs d h _;cases n with
 | zero=>cases h
 | succ n=>
  rcases cs with _|⟨c,_|⟨i,r⟩⟩
  .simp[DataW.ofBy,j]at h
  .cases c <;> simp[DataW.ofBy,j]at h;rename_i f m;obtain⟨⟨rfl,b⟩,_⟩:=h;exact⟨m,W3 (.val _) rfl,by simpa[Lit.wf] using b⟩
  .simp[DataW.ofBy,j]at h
theorem Apr (n:Nat) (i:P.underlying t=some .string):Rd enc P w n t (λa:ByteArray=>[Ej a]) (λa b=>a.size<=b):=by
 intro cs d h _;cases n with
 | zero=>cases h
 | succ n=>
  rcases cs with _|⟨c,_|⟨f,r⟩⟩
  .simp[DataW.ofBy,i]at h
  .cases c
   case string s=>
    have j:(if s.size<=maxLen then some (DataW.lit (H:=H) (.string s.data.toList)) else none)=some d:=(by unfold DataW.ofBy at h;rw[i]at h;exact h);split at j
    .cases j;refine⟨_,W3 (.val _) rfl,?_⟩;have e:s.data.toList.length=s.size:=(by rw[Array.length_toList];rfl);simp only[uptoBulk];omega
    .cases j
   all_goals (unfold DataW.ofBy at h;rw[i]at h;cases h)
  .simp[DataW.ofBy,i]at h
def QL {α:Type} (Q:α->Nat->Prop):List α->Nat->Prop
 | [],_=>True
 | a::l,m=>∃b c,1<=b/\b+c<=m/\Q a b/\QL Q l c
theorem A0l {sz:Nat} (ih:Rd enc P w n e f Q) (j:Nat->Option (List Value)):∀(L:List Nat) (c:List (DataW H)), L.mapM (λi=>(j i).bind (DataW.ofBy (keyOf P) enc P w 0 true true n e))=some c->uptoBulkAll c<=1048576 -> ∃l:List α,l.length=L.length/\QL Q l (uptoBulkAll c)/\∀(i:Nat) (a:α),l[i]? = some a->∃k cs,L[i]? = some k/\j k=some cs/\CCs (Ly w) (f a) cs:=by
 intro L;induction L with
 | nil=>intro c h _;exact⟨[],rfl,trivial,λi a h=>by cases h⟩
 | cons k L q=>intro c h o;simp only[mapM_cons,Option.pure_def,Option.bind_eq_bind,Option.bind_eq_some_iff]at h;obtain⟨d,⟨cs,r,C⟩,b,D,B⟩:=h;cases B;simp only[uptoBulkAll]at o;obtain⟨a,E,F⟩:=ih cs d C ω;obtain⟨l,z,y,u⟩:=q b D ω;refine⟨a::l,by simp[z],⟨uptoBulk d,uptoBulkAll b,A0j d,by simp[uptoBulkAll],F,y⟩,?_⟩;intro i x m;cases i with| zero=>cases m;exact⟨k,cs,rfl,r,E⟩| succ i=>obtain⟨A,s,G,I,J⟩:=u i x m;exact⟨A,s,G,I,J⟩
theorem Q6 {α:Type} {Q:α->Nat->Prop}:∀{l:List α} {m:Nat},QL Q l m->l.length<=m
 | [],_,_=>Nat.zero_le _
 | _::l,_,⟨c,h,i,j,_,b⟩=>by have:=Q6 b;simp only[length_cons];omega
theorem W4 {α:Type} {Q:α->Nat->Prop}:∀{l:List α} {m:Nat},QL Q l m->∀a∈l,∃b,b<=m/\Q a b
 | _::l,_,⟨i,o,q,r,j,c⟩,a,h=>by
  rcases mem_cons.1 h with rfl|h
  .exact⟨i,ω,j⟩
  .obtain⟨b,s,k⟩:=W4 c a h;exact⟨b,ω,k⟩
theorem Aav (h:w.cells? 0 a n=some cs):cs.length=n/\∀j,j<n->w.cell? (a.add j)=cs[j]?:=by
 unfold World.cells? at h;rw[if_pos (Nat.zero_le _)]at h;have c:∀(L:List Nat) (cs:List Value),L.mapM (λi=>w.cell? (a.add i))=some cs->cs.length=L.length/\∀(i k:Nat),L[i]? = some k->w.cell? (a.add k)=cs[i]?:=by
  intro L;induction L with
  | nil=>intro cs h;cases h;exact⟨rfl,λi k h=>by cases h⟩
  | cons x L ih=>intro cs h;simp only[mapM_cons,Option.pure_def,Option.bind_eq_bind,Option.bind_eq_some_iff]at h;obtain⟨v,b,o,l,q⟩:=h;cases q;obtain⟨r,s⟩:=ih o l;refine⟨by simp[r],λi k m=>?_⟩;cases i with| zero=>cases m;simpa using b| succ i=>simpa using s i k m
 obtain⟨b,l⟩:=c _ _ h;rw[length_range]at b;exact⟨b,λj u=>l j j (by simp[u])⟩
theorem Aps (h:a.spot=none) (m:Nat):a.add m=⟨a.block,a.off+m,none⟩:=by
 unfold Addr.add;split
 .rename_i e;subst e;cases a;simp_all
 .rfl
theorem Agr (sz:Nat) (g:α->AV) (hu:P.underlying t=some (.slice e)) (L:P.cellsOf e=sz) (a2:0<sz) (R:∀a,(g a).cells=f a) (hf:∀a,(f a).length=sz) (ih:Rd enc P w n e f Q):Rd enc P w (n+1) t (λl:List α=>[.sl sz (l.map g)]) (λl b=>∃m,m+1<=b/\QL Q l m):=by
 intro cs d h hb;rcases cs with _|⟨c,_|⟨c',r⟩⟩
 .simp[DataW.ofBy,hu]at h
 .cases c
  case slice o len T=>
   cases o with
   | none=>have:d = .nil/\len=0:=(by unfold DataW.ofBy at h;rw[hu]at h;split at h <;> simp_all);obtain⟨rfl,rfl⟩:=this;exact⟨[],W3 (.nil sz _ _) rfl,0,by simp[uptoBulk],trivial⟩
   | some a=>
    have h':(if 0<=a.block/\len<=T/\T<=maxLen then
     ((range len).mapM λi=>(w.cells? 0 (a.add (i*P.cellsOf e)) (P.cellsOf e)).bind (DataW.ofBy (keyOf P) enc P w 0 true true n e)).bind λu=> (if true=true then (range (T-len)).mapM λj=>(w.cells? 0 (a.add ((len+j)*P.cellsOf e)) (P.cellsOf e)).bind (DataW.ofBy (keyOf P) enc P w 0 true true n e) else some []).map λa0=>DataW.slice u a0 else none)=some d:=by unfold DataW.ofBy at h;rw[hu]at h;exact h
    split at h'
    .rename_i K;simp only[Option.bind_eq_some_iff,Option.map_eq_some_iff]at h';obtain⟨u,h1,a0,h2,rfl⟩:=h';rw[L]at h1;simp only[uptoBulk]at hb;obtain⟨l,G,V,l3⟩:=A0l (sz:=sz) ih (λi=>w.cells? 0 (a.add (i*sz)) sz) _ _ h1 ω;have Y:=Q6 V;rw[length_range]at G;refine⟨l,?_,uptoBulkAll u,by simp only[uptoBulk];omega,V⟩;cases O:l with
     | nil=>rw[O]at G;have:len=0:=G.symm;subst this;exact W3 (.nil sz _ _) rfl
     | cons x l'=>
      rw[<-O];refine W3 ?_ rfl;have D:∀(i:Nat) (y:α),l[i]? = some y->∃cs,w.cells? 0 (a.add (i*sz)) sz=some cs/\CCs (Ly w) (f y) cs:=(by intro i y F;obtain⟨k,cs,g1,g2,g3⟩:=l3 i y F;have hk:k=i:=(by rw[getElem?_range (by have:=(List.getElem?_eq_some_iff.1 F).1;omega)]at g1;exact (Option.some.inj g1).symm);subst hk;exact⟨cs,g2,g3⟩);have J:l[0]? = some x:=(by rw[O];rfl);obtain⟨U,c1,c2⟩:=D 0 x J;have c3:=(Aav c1).2 0 a2;have a1:U.length=sz:=(Aav c1).1;rw[getElem?_eq_getElem ω]at c3;have s:a.spot=none/\∃C E fr,w.heap[a.block]? = some (.cells C E fr):=by
       have S:(a.add (0*sz)).add 0=a:=(by simp[Addr.add]);rw[S]at c3;unfold World.cell? at c3;split at c3
       .rename_i C E fr I;split at c3
        .cases c3
        .rename_i X;refine⟨?_,C,E,fr,I⟩;cases M:a.spot with| none=>rfl| some _=>rw[M]at X;simp at X
       .cases c3
      obtain⟨s,C,E,fr,I⟩:=s;have z:∀i j:Nat,w.cell? ((a.add (i*sz)).add j)=C[a.off+i*sz+j]?:=(by intro i j;rw[Aps s,Aps rfl];unfold World.cell?;rw[I];rfl);have q:∀(i:Nat) (y:α) (j:Nat) (c:AV),l[i]? = some y->(g y).cells[j]? = some c->∃v,C[a.off+i*sz+j]? = some v/\CC (Ly w) c v/\Dy v=true:=(by intro i y j c F K;obtain⟨cs,Z,e2⟩:=D i y F;rw[R]at K;have hj:=(List.getElem?_eq_some_iff.1 K).1;rw[hf]at hj;have B:j<cs.length:=(by rw[(Aav Z).1];exact hj);have:=(Aav Z).2 j hj;rw[z,getElem?_eq_getElem B]at this;exact⟨_,this,e2.2 j c _ K (getElem?_eq_getElem B)⟩);have a3:a=⟨a.block,a.off,none⟩:=(by cases a;simp_all);rw[a3];have N:l.length=(l.map g).length:=ψ;rw[<-G,N];refine CC.sl (l.map g) a.block a.off T sz C E fr (λi j=>(C[a.off+i*sz+j]?).getD undef) I ?_ ?_ ?_ ?_ ζ ζ
      .intro i y F;simp only[getElem?_map,Option.map_eq_some_iff]at F;obtain⟨y,_,rfl⟩:=F;rw[R,hf]
      .intro i y j c F K;simp only[getElem?_map,Option.map_eq_some_iff]at F;obtain⟨y,F,rfl⟩:=F;obtain⟨v,A,v2,v3⟩:=q i y j c F K;rw[A];exact v2
      .intro i y j c F K;simp only[getElem?_map,Option.map_eq_some_iff]at F;obtain⟨y,F,rfl⟩:=F;obtain⟨v,A,v2,v3⟩:=q i y j c F K;rw[A];exact v3
      .intro i j hi hj;rw[length_map]at hi;have F:l[i]? = some l[i]:=getElem?_eq_getElem hi;have K:(g l[i]).cells[j]? = some ((g l[i]).cells[j]'(by rw[R,hf];exact hj)):=getElem?_eq_getElem _;obtain⟨v,A,_⟩:=q i _ j _ F K;rw[A];rfl
    .cases h'
  all_goals simp[DataW.ofBy,hu]at h
 .simp[DataW.ofBy,hu]at h
def RdL (enc:TypeId×Value->H) (P:Program) (w:World) (n A8 off:Nat) (fs:List (TypeId×Nat×Nat)) (f:α->List AV) (Q:α->Nat->Prop):Prop := ∀(cs:List Value) (b:List (DataW H)),cs.length=A8->fs.mapM (λx=>DataW.ofBy (keyOf P) enc P w 0 true true n x.1 ((cs.drop x.2.1).take x.2.2))=some b->uptoBulkAll b<=1048576 -> ∃a:α,CCs (Ly w) (f a) (cs.drop off)/\Q a (uptoBulkAll b)
theorem Tv (n A8:Nat):RdL enc P w n A8 A8 [] (λ_:Unit=>[]) (λ_ _=>True):=by intro cs b h _ _;exact⟨(),⟨by simp[h],λj a c h=>by cases h⟩,trivial⟩
theorem Jm {A8 off:Nat} (sz:Nat) {fs:List (TypeId×Nat×Nat)} (r:Rd enc P w n t f Q) (s:RdL enc P w n A8 (off+sz) fs g R):RdL enc P w n A8 off ((t,off,sz)::fs) (λp:α×β=>f p.1++g p.2) (λp m=>∃l o,l+o=m/\Q p.1 l/\R p.2 o):=by intro cs B i h u;simp only[mapM_cons,Option.pure_def,Option.bind_eq_bind,Option.bind_eq_some_iff]at h;obtain⟨d,q,c,k,j⟩:=h;cases j;simp only[uptoBulkAll]at u ⊢;obtain⟨a,x,y⟩:=r _ d q ω;obtain⟨b,z,A⟩:=s cs c i k ω;refine⟨(a,b),?_,_,_,rfl,y,A⟩;have:=A0k x z;rwa [<-drop_drop,take_append_drop]at this
theorem Tw {fs:Array Field} {A8:Nat} {L:List (TypeId×Nat×Nat)} (φ:β->α) (o:P.underlying t=some (.struct fs)) (k:fs.toList.map (λx=>(x.type,x.offset,P.cellsOf x.type))=L) (q:P.cellsOf t=A8) (i:∀b,f (φ b)=g b) (j:∀b m,R b m->Q (φ b) (m+1)) (h:RdL enc P w n A8 0 L g R):Rd enc P w (n+1) t f Q:=by
 intro cs d l r;have c:(if cs.length=P.cellsOf t then (fs.toList.mapM λx=>DataW.ofBy (keyOf P) enc P w 0 true true n x.type ((cs.drop x.offset).take (P.cellsOf x.type))).map DataW.agg else none)=some d:=by unfold DataW.ofBy at l;rw[o]at l;split at l <;> simp_all
 split at c
 .rename_i s;simp only[Option.map_eq_some_iff]at c;obtain⟨u,y,rfl⟩:=c;simp only[uptoBulk]at r;obtain⟨b,z,A⟩:=h cs u (s.trans q) (by rw[<-k,mapM_map];exact y) ω;refine⟨φ b,?_,j b _ A⟩;rw[i];simpa using z
 .cases c
end
end Go.Ab
namespace Go.Ab
open Go Go.Proofs Go.Proofs.Tryz
open Go.Proofs.YtdifpebphbblaaaGreatDoor.Rows (uptoBulk uptoBulkAll)
section
variable {H:Type} {enc:TypeId×Value->H} {w:World}
theorem Ags:∀{l:List Ai} {m:Nat},QL (λa b=>Bi a<=b) l m->Cl l<=m
 | [],_,_=>Nat.zero_le _
 | _::l,_,⟨h,i,j,k,o,c⟩=>by have:=Ags c;simp only[Cl];omega
theorem Apt {n:Nat} (h:Rd enc prog w n 23 (λl:List Ai=>[.sl 3 (l.map Dl)]) (λl b=>∃m,m+1<=b/\QL (λa b=>Bi a<=b) l m)) : Rd enc prog w (n+1) 25 (λa:Ai=>(Dl a).cells) (λa b=>Bi a<=b):=by
 refine Tw (λp:Int×Int×List Ai×Unit=>⟨p.1,p.2.1,p.2.2.1⟩) underlying25 κ κ (λb=>?_) ?_ (Jm 1 (Pc .i64 n underlying3) (Jm 1 (Pc .i64 n underlying3) (Jm 1 h (Tv n 3))))
 .simp[Dl,AV.cells,Ji]
 .rintro⟨a,b,l,_⟩ m ⟨i,j,rfl,_,o,q,rfl,_,r,s,rfl,⟨k,u,c⟩,_⟩;have:=Ags c;simp only[Bi]at *;omega
theorem Agt:∀n:Nat,Rd enc prog w n 25 (λa:Ai=>(Dl a).cells) (λa b=>Bi a<=b)
 | 0=>N1 _ _ _
 | 1=>Apt (N1 _ _ _)
 | n+2=>Apt (Agr 3 Dl underlying23 κ δ (λ_=>rfl) (λ_=>rfl) (Agt n))
theorem Apu (n:Nat):Rd enc prog w n 23 (λl:List Ai=>[.sl 3 (l.map Dl)]) (λl b=>∃m,m+1<=b/\QL (λa b=>Bi a<=b) l m):=by cases n with| zero=>exact N1 _ _ _| succ n=>exact Agr 3 Dl underlying23 κ δ (λ_=>rfl) (λ_=>rfl) (Agt n)
theorem W5 {t e:TypeId} (sz:Nat) {α:Type} {f:α->List AV} (g:α->AV) {Q:α->Nat->Prop} (j:prog.underlying t=some (.slice e)) (c:prog.cellsOf e=sz) (h:0<sz) (i:∀a,(g a).cells=f a) (k:∀a,(f a).length=sz) (ih:∀n,Rd enc prog w n e f Q) (n:Nat):Rd enc prog w n t (λl:List α=>[.sl sz (l.map g)]) (λl b=>∃m,m+1<=b/\QL Q l m):=by cases n with| zero=>exact N1 _ _ _| succ n=>exact Agr sz g j c h i k (ih n)
theorem A0m (n:Nat):Rd enc prog w n 150 (λa:Lr=>(Zc a).cells) (λa b=>a.S.size<=b/\Cl a.R<=b):=by
 cases n with
 | zero=>exact N1 _ _ _
 | succ n=>
  refine Tw (λp:ByteArray×List Ai×Unit=>⟨p.1,p.2.1⟩) underlying150 κ κ (λb=>?_) ?_ (Jm 1 (Apr n underlying9) (Jm 1 (Apu n) (Tv n 2)))
  .simp[Zc,AV.cells,Ji]
  .rintro⟨a,l,_⟩ m ⟨h,i,rfl,j,o,q,rfl,⟨k,r,c⟩,_⟩;have:=Ags c;simp only at *;exact⟨ω,ω⟩
theorem A0n (n:Nat):Rd enc prog w n 148 (λa:Ao=>(B7 a).cells) (λa b=>a.S.size<=b/\a.O.length<=b/\∀y∈a.O,y.S.size<=b/\Cl y.R<=b):=by
 cases n with
 | zero=>exact N1 _ _ _
 | succ n=>
  refine Tw (λp:ByteArray×Int×List Lr×Unit=>⟨p.1,p.2.1,p.2.2.1⟩) underlying148 κ κ (λb=>?_) ?_ (Jm 1 (Apr n underlying9) (Jm 1 (Pc .i64 n underlying3) (Jm 1 (W5 2 Zc underlying146 κ δ (λ_=>rfl) (λ_=>rfl) A0m n) (Tv n 3))))
  .simp[B7,AV.cells]
  .rintro⟨a,b,l,_⟩ m ⟨o,q,rfl,r,s,u,rfl,_,x,z,rfl,⟨k,A,h⟩,_⟩;have B:=Q6 h;have i:=W4 h;simp only at *;refine⟨ω,ω,λy j=>?_⟩;obtain⟨c,C,D,E⟩:=i y j;exact⟨ω,ω⟩
theorem A0o (n:Nat):Rd enc prog w n 27 (λa:B0=>(Jt a).cells) (λa b=>b<=1048576->CSz a):=by
 cases n with
 | zero=>exact N1 _ _ _
 | succ n=>
  refine Tw (λp:List Ao×List Ai×Ai×Unit=>⟨p.1,p.2.1,p.2.2.1⟩) underlying27 κ κ (λb=>?_) ?_ (Jm 1 (W5 3 B7 underlying22 κ δ (λ_=>rfl) (λ_=>rfl) A0n n) (Jm 1 (Apu n) (Jm 3 (Agt n) (Tv n 5))))
  .simp[Jt,Dl,AV.cells,Ji]
  .rintro⟨a,b,l,_⟩ m ⟨E,F,rfl,⟨k,G,B⟩,I,J,rfl,⟨j,f,h⟩,K,L,rfl,q,_⟩ M;have N:=Q6 B;have s:=W4 B;have O:=Q6 h;have i:=W4 h;simp only at *;refine⟨⟨by dsimp only;omega,λx o=>?_,λx o=>?_,λx o y u=>?_⟩,by dsimp only;omega,λt D=>?_,by dsimp only;omega⟩
   .obtain⟨c,z,A,C,r⟩:=s x o;refine⟨ω,λy u=>?_⟩;have:=(r y u).2;omega
   .obtain⟨c,z,A,C,r⟩:=s x o;omega
   .obtain⟨c,z,A,C,r⟩:=s x o;have:=(r y u).1;omega
   .obtain⟨c,z,A⟩:=i t D;omega
theorem A0p (n:Nat):Rd enc prog w n 110 (λa:Gd=>(Iw a).cells) (λ_ _=>True):=by cases n with| zero=>exact N1 _ _ _| succ n=>refine Tw (λp:Int×Int×Unit=>⟨p.1,p.2.1⟩) underlying110 κ κ (λb=>?_) (λ_ _ _=>trivial) (Jm 1 (Pc .i64 n underlying3) (Jm 1 (Pc .i64 n underlying2) (Tv n 2)));simp[Iw,AV.cells]
theorem A0q (n:Nat):Rd enc prog w n 33 (λa:Cm=>(Ha a).cells) (λa b=>a.T.length<=b):=by
 cases n with
 | zero=>exact N1 _ _ _
 | succ n=>
  refine Tw (λp:Int×List Gd×Unit=>⟨p.1,p.2.1⟩) underlying33 κ κ (λb=>?_) ?_ (Jm 1 (Pc .i64 n underlying2) (Jm 1 (W5 2 Iw underlying31 κ δ (λ_=>rfl) (λ_=>rfl) A0p n) (Tv n 2)))
  .simp[Ha,AV.cells]
  .rintro⟨a,l,_⟩ m ⟨h,i,rfl,j,o,q,rfl,⟨k,r,c⟩,_⟩;have:=Q6 c;simp only at *;omega
theorem A0r (n:Nat):Rd enc prog w n 29 (λl:List Cm=>[.sl 2 (l.map Ha)]) (λl b=>l.length<=b/\∀f∈l,f.T.length<=b):=by intro cs d h j;obtain⟨a,k,m,q,i⟩:=W5 (Q:=λa b=>a.T.length<=b) 2 Ha underlying29 κ δ (λ_=>rfl) (λ_=>rfl) A0q n cs d h j;refine⟨a,k,by have:=Q6 i;omega,λx o=>?_⟩;obtain⟨c,r,s⟩:=W4 i x o;omega
theorem A0s (n:Nat):Rd enc prog w n 28 (λl:List Int=>[.sl 1 (l.map (Aa .i64))]) (λ_ _=>True):=by intro cs d h b;obtain⟨a,c,_⟩:=W5 (Q:=λa _=>IntKind.i64.min<=a/\a<=IntKind.i64.max) 1 (Aa .i64) underlying28 κ δ (λ_=>rfl) (λ_=>rfl) (λn=>Pc .i64 n underlying3) n cs d h b;exact⟨a,c,trivial⟩
end
end Go.Ab
namespace Go.Ab
open Go Go.Proofs Go.ChangeShapes Go.WideShapes Go.ChangeAt Go.RowKit Go.Proofs.Tryz
open Go.Proofs.YtdifpebphbblaaaGreatDoor.Rows (uptoBulk uptoBulkAll uptoSmall)
set_option maxRecDepth 100000
variable {W:World}
theorem Apv {P:Program} {x:String×DataW Unit} {l:List (String×DataW Unit)} (h:laidMet P (x::l) W):laidMet P l W:=by obtain⟨y,⟨z,u,cs,fuel,p,q,s,i,f,A,j,c⟩,k,o⟩:=h;subst c;refine⟨q,j,(nodup_append.1 k).2.1,λb m r=>o b m ?_⟩;simp[r]
theorem A0t (h:laidMetH prog YtdifpebphbblaaaGreatDoor.Rows.polyMonomialsRow.laid W):Q7 (Ly W):=by
 have c:laidMet prog [("internal/strconv.uint64pow10",YtdifpebphbblaaaGreatDoor.Rows.laid_internal_strconv_uint64pow10)] W:=Apv (Apv h);have b:Lib.TabIs prog W "internal/strconv.uint64pow10" .u64 Lib.pow10Tab :=
  Lib.tabIs_of_head (g:=0) (rest:=[]) κ κ underlying397 underlying143 κ κ c
 have g:prog.globalNamed "internal/strconv.uint64pow10" = some 0:=κ;unfold Lib.TabIs World.var? at b;rw[g]at b;simp only[Option.bind_some]at b;split at b
 .rename_i cs E i j;cases b;exact⟨E,i,j⟩
 .cases b
theorem Acu (g:Q7 (Ly W)):St (Ly W) ι0 H0 (λ_=>none) W W := ⟨λ_ _ h=>h,(λ_ _ h=>by cases h),λ_=>rfl,(λ_ _ _ h=>by cases h),rfl,rfl,rfl,g,Nat.le_refl _⟩
theorem A0u {σ:Aw} {xs:List AV} {cs:Array Value} (h:CCs σ xs cs.toList):CC σ (.agg xs) (.agg cs) :=
 .agg xs cs (by simpa using h.1) (λi c v b j=>(h.2 i c v b (by simpa using j)).1)
section
variable {H:Type} {enc:TypeId×Value->H} {W:World} {o:Nat} {t:TypeId} {v:Value} {d:DataW H} {p:List MemPlace}
variable {α:Type} {Q:α->Nat->Prop}
theorem A0v {g:α->List AV} {fs:Array Field} (h:prog.underlying t=some (.struct fs)) (b:Value.okWide prog W .any o t v) (i:DataW.Trod enc prog W 0 (λ_=>true) true t v d p) (hb:uptoBulk d<=1048576) (rd:∀n,Rd enc prog W n t g Q):∃a,CC (Ly W) (.agg (g a)) v/\Q a (uptoBulk d):=by unfold Value.okWide at b;rw[h]at b;obtain⟨cs,rfl,_⟩:=b;obtain⟨n,c⟩:=i.by;obtain⟨a,j,k⟩:=rd n _ d c hb;exact⟨a,A0u j,k⟩
theorem Agu {g:α->AV} (b:v.cells = #[v]) (i:DataW.Trod enc prog W 0 (λ_=>true) true t v d p) (hb:uptoBulk d<=1048576) (rd:∀n,Rd enc prog W n t (λa=>[g a]) Q):∃a,CC (Ly W) (g a) v/\Q a (uptoBulk d):=by obtain⟨n,c⟩:=i.by;obtain⟨a,h,j⟩:=rd n _ d c hb;rw[b]at h;exact⟨a,(h.2 0 _ _ rfl rfl).1,j⟩
theorem Apw {e:TypeId} (c:prog.underlying t=some (.slice e)) (b:Value.okWide prog W .any o t v):v.cells = #[v]:=by unfold Value.okWide at b;rw[c]at b;cases v with| agg cs=>simp only[Cell.okWide,Cell.ok,c]at b| _=>rfl
theorem A0w {k:IntKind} (c:prog.underlying t=some (.int k)) (b:Value.okWide prog W .any o t v):v.cells = #[v]:=by unfold Value.okWide at b;rw[c]at b;cases v with| agg cs=>simp only[Cell.okWide,Cell.ok,c]at b| _=>rfl
end
section
variable {H:Type} {enc:TypeId×Value->H} {P:Program}
theorem Apx (j:laidOutB P=true) {w w':World} {i:Nat->Bool}:∀{b:List TypeId} {vs:List Value} {k:List (DataW H)} {c:List MemPlace}, (b.all λt=>P.readableRec t&&decide (t<P.types.size))=true->DataW.TrodAll enc P w 0 (λ_=>true) true b vs k c->(∀p∈c,w.sameAt w' p)->(∀p∈c,i p.block=true)->DataW.TrodAll enc P w' 0 i true b vs k c
 | [],[],[],_,_,h,_,_=>h
 | t::b,_::_,_::_,_,f,⟨p,q,h,s,e⟩,m,hp=>by subst e;simp only[all_cons,Bool.and_eq_true,decide_eq_true_eq]at f;exact⟨p,q,WideElems.Trod_stays j f.1.1 f.1.2 h (λx l=>m x (by simp[l])) λx l=>hp x (by simp[l]),Apx j f.2 s (λx l=>m x (by simp[l])) λx l=>hp x (by simp[l]),rfl⟩
theorem A0x (U:laidOutB P=true) {f:Func} {s:ChangeSpec} {j:Bool} {W y:World} {args:Array Value} {u:List (DataW H)} {k:List MemPlace} {t:TypeId} (J:s.vars = []) (L:DataW.Whole enc P f.params.toList s.vars false W args.toList u [] k) (S:(f.params.toList.all λt=>P.readableRec t&&decide (t<P.types.size))=true) (I:(s.fn H u).results = [.lit (.bool true)]/\(s.fn H u).args=u/\(s.fn H u).vars = []) (E:f.resultTypes = #[t]) (r:P.underlying t=some .bool) (B:∀(b:Nat) (o:Obj),W.heap[b]? = some o->y.heap[b]? = some o) (G:y.os=W.os) (z:y.output=W.output) : s.post enc P f false true j false W args (.bool true) y:=by
 have D:=L;obtain⟨p,q,X,M,rfl,V,_⟩:=L;rw[J]at M;obtain rfl:q = []:=M;have A:=D.lt;rw[append_nil]at *;have c:∀b,b<W.heap.size->y.heap[b]? = W.heap[b]?:=λb m=>by rw[Array.getElem?_eq_getElem m];exact B b _ (Array.getElem?_eq_getElem m)
 have same:∀x∈p,W.sameAt y x:=by intro x l;have:=c x.block (A x l);cases x with| cell b o=>exact World.cell?_of_block (w:=W) this| map b=>exact this
 obtain⟨R,O,N⟩:=I;refine⟨u,[],p,[],p,[],D,?_,?_,?_,⟨G,z,λi C=>?_⟩,λh=>by cases h⟩
 .rw[append_nil,R,E];exact trodAll_mk1 (shut_bool r _)
 .rw[append_nil,O];exact Apx U S X same (λx l=>by simpa using A x l)
 .rw[append_nil,N,J];rfl
 .rw[c i C];split <;> simp_all
end
end Go.Ab
