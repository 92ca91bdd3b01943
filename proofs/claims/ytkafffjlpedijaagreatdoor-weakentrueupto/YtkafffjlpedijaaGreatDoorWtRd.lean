/- How the readings of the arguments stand as plain values. -/
import Derived.Test.YtkafffjlpedijaaGreatDoorRows
import Derived.Test.YtkafffjlpedijaaGreatDoorWtTy
import Derived.ReaderBy
import Derived.Test.YtkafffjlpedijaaGreatDoorWtPl2
import Derived.Test.YtkafffjlpedijaaGreatDoorCards
import Derived.Test.YtkafffjlpedijaaGreatDoorTie
import Derived.ChangeOld
import Derived.ChangeSame
import Derived.Carry
import Derived.RowKit
import Derived.WalkKit
import Derived.ProofKit
import Derived.OpenShut
import Derived.Deep.DeepHandedRow
import Derived.Lib.LaidTab
namespace Go.Ab
open Go
open Go.Proofs.YtkafffjlpedijaaGreatDoor.Rows (uptoBulk uptoBulkAll)
def N9 (w:World):A5:=λb=>w.heap[b]?
def CCs (σ:A5) (xs:List AV) (cs:List Value):Prop := cs.length=xs.length/\∀(j:Nat) (a:AV) (c:Value),xs[j]? = some a->cs[j]? = some c->CC σ a c/\E6 c=true
section
variable {H:Type} {enc:TypeId×Value->H} {P:Program} {w:World}
def Rd (enc:TypeId×Value->H) (P:Program) (w:World) (n:Nat) (t:TypeId) {α:Type} (f:α->List AV) (Q:α->Nat->Prop):Prop := ∀(cs:List Value) (d:DataW H),DataW.ofBy (keyOf P) enc P w 0 true true n t cs=some d->uptoBulk d<=1048576->∃a:α,CCs (N9 w) (f a) cs/\Q a (uptoBulk d)
theorem Ik (t:TypeId) {α:Type} (f:α->List AV) (Q:α->Nat->Prop):Rd enc P w 0 t f Q:=λ_ _ h=>by cases h
theorem Bb6 (d:DataW H):1<=uptoBulk d:=by cases d with| lit l=>cases l <;> simp[uptoBulk]| _=>simp[uptoBulk]
theorem Xy {σ:A5} {a:AV} {c:Value} (h:CC σ a c) (h1:E6 c=true):CCs σ [a] [c]:=by refine⟨rfl,λj x y hx hy=>?_⟩;cases j with| zero=>cases hx;cases hy;exact⟨h,h1⟩| succ j=>cases hx
theorem Bb7 {σ:A5} {xs bs:List AV} {cs b:List Value} (h:CCs σ xs cs) (h':CCs σ bs b):CCs σ (xs++bs) (cs++b):=by
 refine⟨by simp[h.1,h'.1],λj x y hx hy=>?_⟩;rcases Nat.lt_or_ge j xs.length with hj|hj
 .rw[List.getElem?_append_left hj]at hx;rw[List.getElem?_append_left (by rw[h.1];exact hj)]at hy;exact h.2 j x y hx hy
 .rw[List.getElem?_append_right hj]at hx;rw[List.getElem?_append_right (by rw[h.1];exact hj),h.1]at hy;exact h'.2 _ x y hx hy
theorem Kh (k:IntKind) {t:TypeId} (n:Nat) (hu:P.underlying t=some (.int k)):Rd enc P w n t (λa:Int=>[O k a]) (λa _=>k.min<=a/\a<=k.max):=by
 intro cs d h _;cases n with
 | zero=>cases h
 | succ n=>
  rcases cs with _|⟨c,_|⟨f,r⟩⟩
  .simp[DataW.ofBy,hu]at h
  .cases c <;> simp[DataW.ofBy,hu]at h;rename_i b m;obtain⟨⟨rfl,hw⟩,_⟩:=h;exact⟨m,Xy (.val _) rfl,by simpa[Lit.wf] using hw⟩
  .simp[DataW.ofBy,hu]at h
theorem Bb8 {t:TypeId} (n:Nat) (hu:P.underlying t=some .bool):Rd enc P w n t (λa:Bool=>[Au a]) (λ_ _=>True):=by
 intro cs d h _;cases n with
 | zero=>cases h
 | succ n=>
  rcases cs with _|⟨c,_|⟨b,r⟩⟩
  .simp[DataW.ofBy,hu]at h
  .cases c <;> simp[DataW.ofBy,hu]at h;exact⟨_,Xy (.val _) rfl,trivial⟩
  .simp[DataW.ofBy,hu]at h
theorem Aw9 {t:TypeId} (n:Nat) (hu:P.underlying t=some .string):Rd enc P w n t (λa:ByteArray=>[F9 a]) (λa b=>a.size<=b):=by
 intro cs d h _;cases n with
 | zero=>cases h
 | succ n=>
  rcases cs with _|⟨c,_|⟨f,r⟩⟩
  .simp[DataW.ofBy,hu]at h
  .cases c
   case string s=>
    have h':(if s.size<=maxLen then some (DataW.lit (H:=H) (.string s.data.toList)) else none)=some d:=(by unfold DataW.ofBy at h;rw[hu]at h;exact h);split at h'
    .cases h';refine⟨_,Xy (.val _) rfl,?_⟩;have e:s.data.toList.length=s.size:=(by rw[Array.length_toList];rfl);simp only[uptoBulk];omega
    .cases h'
   all_goals (unfold DataW.ofBy at h;rw[hu]at h;cases h)
  .simp[DataW.ofBy,hu]at h
def QL {α:Type} (Q:α->Nat->Prop):List α->Nat->Prop
 | [],_=>True
 | a::l,m=>∃m1 m2,1<=m1/\m1+m2<=m/\Q a m1/\QL Q l m2
theorem Bb9 {e:TypeId} {sz n:Nat} {α:Type} {f:α->List AV} {Q:α->Nat->Prop} (ih:Rd enc P w n e f Q) (g:Nat->Option (List Value)):∀(L:List Nat) (c:List (DataW H)), L.mapM (λi=>(g i).bind (DataW.ofBy (keyOf P) enc P w 0 true true n e))=some c->uptoBulkAll c<=1048576 -> ∃l:List α,l.length=L.length/\QL Q l (uptoBulkAll c)/\∀(i:Nat) (a:α),l[i]? = some a->∃k cs,L[i]? = some k/\g k=some cs/\CCs (N9 w) (f a) cs:=by
 intro L;induction L with
 | nil=>intro c h _;exact⟨[],rfl,trivial,λi a h=>by cases h⟩
 | cons k L j=>intro c h hb;simp only[List.mapM_cons,Option.pure_def,Option.bind_eq_bind,Option.bind_eq_some_iff]at h;obtain⟨d,⟨cs,h1,h2⟩,b,h3,A⟩:=h;cases A;simp only[uptoBulkAll]at hb;obtain⟨a,ha,hq⟩:=ih cs d h2 ω;obtain⟨l,y,u,s⟩:=j b h3 ω;refine⟨a::l,by simp[y],⟨uptoBulk d,uptoBulkAll b,Bb6 d,by simp[uptoBulkAll],hq,u⟩,?_⟩;intro i x hx;cases i with| zero=>cases hx;exact⟨k,cs,rfl,h1,ha⟩| succ i=>obtain⟨z,q,g1,g2,g3⟩:=s i x hx;exact⟨z,q,g1,g2,g3⟩
theorem Lv {α:Type} {Q:α->Nat->Prop}:∀{l:List α} {m:Nat},QL Q l m->l.length<=m
 | [],_,_=>Nat.zero_le _
 | _::l,_,⟨m1,m2,h1,h2,_,b⟩=>by have:=Lv b;simp only[List.length_cons];omega
theorem Ng {α:Type} {Q:α->Nat->Prop}:∀{l:List α} {m:Nat},QL Q l m->∀a∈l,∃b,b<=m/\Q a b
 | _::l,_,⟨m1,m2,h1,h2,h3,c⟩,a,ha=>by
  rcases List.mem_cons.1 ha with rfl|ha
  .exact⟨m1,ω,h3⟩
  .obtain⟨b,g1,g2⟩:=Ng c a ha;exact⟨b,ω,g2⟩
theorem Agu {a:Addr} {n:Nat} {cs:List Value} (h:w.cells? 0 a n=some cs):cs.length=n/\∀j,j<n->w.cell? (a.add j)=cs[j]?:=by
 unfold World.cells? at h;rw[if_pos (Nat.zero_le _)]at h;have key:∀(L:List Nat) (cs:List Value),L.mapM (λi=>w.cell? (a.add i))=some cs->cs.length=L.length/\∀(i k:Nat),L[i]? = some k->w.cell? (a.add k)=cs[i]?:=by
  intro L;induction L with
  | nil=>intro cs h;cases h;exact⟨rfl,λi k h=>by cases h⟩
  | cons x L ih=>intro cs h;simp only[List.mapM_cons,Option.pure_def,Option.bind_eq_bind,Option.bind_eq_some_iff]at h;obtain⟨v,h1,vs,h2,h3⟩:=h;cases h3;obtain⟨i1,i2⟩:=ih vs h2;refine⟨by simp[i1],λi k hk=>?_⟩;cases i with| zero=>cases hk;simpa using h1| succ i=>simpa using i2 i k hk
 obtain⟨h1,h2⟩:=key _ _ h;rw[List.length_range]at h1;exact⟨h1,λj hj=>h2 j j (by simp[hj])⟩
theorem Axa {a:Addr} (h:a.spot=none) (m:Nat):a.add m=⟨a.block,a.off+m,none⟩:=by
 unfold Addr.add;split
 .rename_i e;subst e;cases a;simp_all
 .rfl
theorem Xz {t e:TypeId} (sz:Nat) {n:Nat} {α:Type} {f:α->List AV} (g:α->AV) {Q:α->Nat->Prop} (hu:P.underlying t=some (.slice e)) (M:P.cellsOf e=sz) (hpos:0<sz) (hg:∀a,(g a).cells=f a) (U:∀a,(f a).length=sz) (ih:Rd enc P w n e f Q):Rd enc P w (n+1) t (λl:List α=>[.sl sz (l.map g)]) (λl b=>∃m,m+1<=b/\QL Q l m):=by
 intro cs d h hb;rcases cs with _|⟨c,_|⟨c',r⟩⟩
 .simp[DataW.ofBy,hu]at h
 .cases c
  case slice base len cap=>
   cases base with
   | none=>have:d = .nil/\len=0:=(by unfold DataW.ofBy at h;rw[hu]at h;split at h <;> simp_all);obtain⟨rfl,rfl⟩:=this;exact⟨[],Xy (.nil sz _ _) rfl,0,by simp[uptoBulk],trivial⟩
   | some a=>
    have h':(if 0<=a.block/\len<=cap/\cap<=maxLen then
     ((List.range len).mapM λi=>(w.cells? 0 (a.add (i*P.cellsOf e)) (P.cellsOf e)).bind (DataW.ofBy (keyOf P) enc P w 0 true true n e)).bind λu=> (if true=true then (List.range (cap-len)).mapM λj=>(w.cells? 0 (a.add ((len+j)*P.cellsOf e)) (P.cellsOf e)).bind (DataW.ofBy (keyOf P) enc P w 0 true true n e) else some []).map λrest=>DataW.slice u rest else none)=some d:=by unfold DataW.ofBy at h;rw[hu]at h;exact h
    split at h'
    .rename_i hc;simp only[Option.bind_eq_some_iff,Option.map_eq_some_iff]at h';obtain⟨u,h1,rest,h2,rfl⟩:=h';rw[M]at h1;simp only[uptoBulk]at hb;obtain⟨l,I,Y,l3⟩:=Bb9 (sz:=sz) ih (λi=>w.cells? 0 (a.add (i*sz)) sz) _ _ h1 ω;have a1:=Lv Y;rw[List.length_range]at I;refine⟨l,?_,uptoBulkAll u,by simp only[uptoBulk];omega,Y⟩;cases S:l with
     | nil=>rw[S]at I;have:len=0:=I.symm;subst this;exact Xy (.nil sz _ _) rfl
     | cons x l'=>
      rw[<-S];refine Xy ?_ rfl;have G:∀(i:Nat) (y:α),l[i]? = some y->∃cs,w.cells? 0 (a.add (i*sz)) sz=some cs/\CCs (N9 w) (f y) cs:=(by intro i y hy;obtain⟨k,cs,g1,g2,g3⟩:=l3 i y hy;have hk:k=i:=(by rw[List.getElem?_range (by have:=(List.getElem?_eq_some_iff.1 hy).1;omega)]at g1;exact (Option.some.inj g1).symm);subst hk;exact⟨cs,g2,g3⟩);have L:l[0]? = some x:=(by rw[S];rfl);obtain⟨X,c1,c2⟩:=G 0 x L;have A:=(Agu c1).2 0 hpos;have a6:X.length=sz:=(Agu c1).1;rw[List.getElem?_eq_getElem ω]at A;have s:a.spot=none/\∃C E fr,w.heap[a.block]? = some (.cells C E fr):=by
       have V:(a.add (0*sz)).add 0=a:=(by simp[Addr.add]);rw[V]at A;unfold World.cell? at A;split at A
       .rename_i C E fr J;split at A
        .cases A
        .rename_i Z;refine⟨?_,C,E,fr,J⟩;cases N:a.spot with| none=>rfl| some _=>rw[N]at Z;simp at Z
       .cases A
      obtain⟨s,C,E,fr,J⟩:=s;have z:∀i j:Nat,w.cell? ((a.add (i*sz)).add j)=C[a.off+i*sz+j]?:=(by intro i j;rw[Axa s,Axa rfl];unfold World.cell?;rw[J];rfl);have q:∀(i:Nat) (y:α) (j:Nat) (c:AV),l[i]? = some y->(g y).cells[j]? = some c->∃v,C[a.off+i*sz+j]? = some v/\CC (N9 w) c v/\E6 v=true:=(by intro i y j c hy hc;obtain⟨cs,e1,e2⟩:=G i y hy;rw[hg]at hc;have hj:=(List.getElem?_eq_some_iff.1 hc).1;rw[U]at hj;have D:j<cs.length:=(by rw[(Agu e1).1];exact hj);have:=(Agu e1).2 j hj;rw[z,List.getElem?_eq_getElem D]at this;exact⟨_,this,e2.2 j c _ hc (List.getElem?_eq_getElem D)⟩);have hb':a=⟨a.block,a.off,none⟩:=(by cases a;simp_all);rw[hb'];have R:l.length=(l.map g).length:=ψ;rw[<-I,R];refine CC.sl (l.map g) a.block a.off cap sz C E fr (λi j=>(C[a.off+i*sz+j]?).getD undef) J ?_ ?_ ?_ ?_ ζ ζ
      .intro i y hy;simp only[List.getElem?_map,Option.map_eq_some_iff]at hy;obtain⟨y,_,rfl⟩:=hy;rw[hg,U]
      .intro i y j c hy hc;simp only[List.getElem?_map,Option.map_eq_some_iff]at hy;obtain⟨y,hy,rfl⟩:=hy;obtain⟨v,B,v2,v3⟩:=q i y j c hy hc;rw[B];exact v2
      .intro i y j c hy hc;simp only[List.getElem?_map,Option.map_eq_some_iff]at hy;obtain⟨y,hy,rfl⟩:=hy;obtain⟨v,B,v2,v3⟩:=q i y j c hy hc;rw[B];exact v3
      .intro i j hi hj;rw[List.length_map]at hi;have hy:l[i]? = some l[i]:=List.getElem?_eq_getElem hi;have hc:(g l[i]).cells[j]? = some ((g l[i]).cells[j]'(by rw[hg,U];exact hj)):=List.getElem?_eq_getElem _;obtain⟨v,B,_⟩:=q i _ j _ hy hc;rw[B];rfl
    .cases h'
  all_goals simp[DataW.ofBy,hu]at h
 .simp[DataW.ofBy,hu]at h
def RdL (enc:TypeId×Value->H) (P:Program) (w:World) (n b off:Nat) (fs:List (TypeId×Nat×Nat)) {α:Type} (f:α->List AV) (Q:α->Nat->Prop):Prop := ∀(cs:List Value) (ds:List (DataW H)),cs.length=b->fs.mapM (λx=>DataW.ofBy (keyOf P) enc P w 0 true true n x.1 ((cs.drop x.2.1).take x.2.2))=some ds->uptoBulkAll ds<=1048576 -> ∃a:α,CCs (N9 w) (f a) (cs.drop off)/\Q a (uptoBulkAll ds)
theorem Ki (n b:Nat):RdL enc P w n b b [] (λ_:Unit=>[]) (λ_ _=>True):=by intro cs ds h _ _;exact⟨(),⟨by simp[h],λj a c h=>by cases h⟩,trivial⟩
theorem Ew {n c off:Nat} (sz:Nat) {t:TypeId} {fs:List (TypeId×Nat×Nat)} {α β:Type} {f:α->List AV} {g:β->List AV} {Q:α->Nat->Prop} {R:β->Nat->Prop} (h1:Rd enc P w n t f Q) (h2:RdL enc P w n c (off+sz) fs g R):RdL enc P w n c off ((t,off,sz)::fs) (λp:α×β=>f p.1++g p.2) (λp m=>∃m1 m2,m1+m2=m/\Q p.1 m1/\R p.2 m2):=by intro cs ds j h hb;simp only[List.mapM_cons,Option.pure_def,Option.bind_eq_bind,Option.bind_eq_some_iff]at h;obtain⟨d,q,i,l,k⟩:=h;cases k;simp only[uptoBulkAll]at hb ⊢;obtain⟨a,a1,a2⟩:=h1 _ d q ω;obtain⟨b,b1,b2⟩:=h2 cs i j l ω;refine⟨(a,b),?_,_,_,rfl,a2,b2⟩;have:=Bb7 a1 b1;rwa [<-List.drop_drop,List.take_append_drop]at this
theorem Kj {t:TypeId} {fs:Array Field} {n i:Nat} {L:List (TypeId×Nat×Nat)} {α β:Type} {g:β->List AV} {f:α->List AV} {R:β->Nat->Prop} {Q:α->Nat->Prop} (φ:β->α) (hu:P.underlying t=some (.struct fs)) (l:fs.toList.map (λx=>(x.type,x.offset,P.cellsOf x.type))=L) (ht:P.cellsOf t=i) (j:∀b,f (φ b)=g b) (k:∀b m,R b m->Q (φ b) (m+1)) (h:RdL enc P w n i 0 L g R):Rd enc P w (n+1) t f Q:=by
 intro cs d hd hb;have c:(if cs.length=P.cellsOf t then (fs.toList.mapM λx=>DataW.ofBy (keyOf P) enc P w 0 true true n x.type ((cs.drop x.offset).take (P.cellsOf x.type))).map DataW.agg else none)=some d:=by unfold DataW.ofBy at hd;rw[hu]at hd;split at hd <;> simp_all
 split at c
 .rename_i hc;simp only[Option.map_eq_some_iff]at c;obtain⟨ds,h1,rfl⟩:=c;simp only[uptoBulk]at hb;obtain⟨b,b1,b2⟩:=h cs ds (hc.trans ht) (by rw[<-l,List.mapM_map];exact h1) ω;refine⟨φ b,?_,k b _ b2⟩;rw[j];simpa using b1
 .cases c
end
end Go.Ab
namespace Go.Ab
open Go Go.Proofs Go.Proofs.Tryz
open Go.Proofs.YtkafffjlpedijaaGreatDoor.Rows (uptoBulk uptoBulkAll)
section
variable {H:Type} {enc:TypeId×Value->H} {w:World}
theorem Amd {a:Int} (h:IntKind.i64.min<=a/\a<=IntKind.i64.max):I64 a:=by have c:IntKind.i64.min = -9223372036854775808:=δ;have b:IntKind.i64.max=9223372036854775807:=δ;rw[c,b]at h;exact h
theorem Ame:∀{l:List Ah} {m:Nat},QL (λa b=>B5 a<=b) l m->Dd l<=m
 | [],_,_=>Nat.zero_le _
 | _::l,_,⟨m1,m2,h1,h2,h3,c⟩=>by have:=Ame c;simp only[Dd];omega
theorem Amf:∀{l:List A3} {m:Nat},QL (λa b=>Da a<=b) l m->Et l<=m
 | [],_,_=>Nat.zero_le _
 | _::l,_,⟨m1,m2,h1,h2,h3,c⟩=>by have:=Amf c;simp only[Et];omega
theorem Axb:∀{l:List Bj} {m:Nat},QL (λa b=>Dl a<=b/\iR a) l m->Gj l<=m/\iRs l
 | [],_,_=>⟨Nat.zero_le _,trivial⟩
 | _::l,_,⟨m1,m2,h1,h2,h3,c⟩=>by have:=Axb c;simp only[Gj,iRs];exact⟨ω,h3.2,this.2⟩
theorem Axc {n:Nat} (h:Rd enc prog w n 23 (λl:List Ah=>[.sl 3 (l.map E3)]) (λl b=>∃m,m+1<=b/\QL (λa b=>B5 a<=b) l m)) : Rd enc prog w (n+1) 25 (λa:Ah=>(E3 a).cells) (λa b=>B5 a<=b):=by
 refine Kj (λp:Int×Int×List Ah×Unit=>⟨p.1,p.2.1,p.2.2.1⟩) Go.Proofs.Tryz.underlying25 κ κ (λb=>?_) ?_ (Ew 1 (Kh .i64 n Go.Proofs.Tryz.underlying3) (Ew 1 (Kh .i64 n Go.Proofs.Tryz.underlying3) (Ew 1 h (Ki n 3))))
 .simp[E3,AV.cells,Lj]
 .rintro⟨a,b,l,_⟩ m ⟨m1,m2,rfl,_,m3,m4,rfl,_,m5,m6,rfl,⟨k,hk,hq⟩,_⟩;have:=Ame hq;simp only[B5]at *;omega
theorem Amg:∀n:Nat,Rd enc prog w n 25 (λa:Ah=>(E3 a).cells) (λa b=>B5 a<=b)
 | 0=>Ik _ _ _
 | 1=>Axc (Ik _ _ _)
 | n+2=>Axc (Xz 3 E3 Go.Proofs.Tryz.underlying23 κ δ (λ_=>rfl) (λ_=>rfl) (Amg n))
theorem Axd (n:Nat):Rd enc prog w n 23 (λl:List Ah=>[.sl 3 (l.map E3)]) (λl b=>∃m,m+1<=b/\QL (λa b=>B5 a<=b) l m):=by cases n with| zero=>exact Ik _ _ _| succ n=>exact Xz 3 E3 Go.Proofs.Tryz.underlying23 κ δ (λ_=>rfl) (λ_=>rfl) (Amg n)
theorem Axe {n:Nat} (h:Rd enc prog w n 31 (λl:List A3=>[.sl 3 (l.map Gf)]) (λl b=>∃m,m+1<=b/\QL (λa b=>Da a<=b) l m)) : Rd enc prog w (n+1) 33 (λa:A3=>(Gf a).cells) (λa b=>Da a<=b):=by
 refine Kj (λp:Int×Int×List A3×Unit=>⟨p.1,p.2.1,p.2.2.1⟩) Go.Proofs.Tryz.underlying33 κ κ (λb=>?_) ?_ (Ew 1 (Kh .i64 n Go.Proofs.Tryz.underlying3) (Ew 1 (Kh .i64 n Go.Proofs.Tryz.underlying2) (Ew 1 h (Ki n 3))))
 .simp[Gf,AV.cells,J1]
 .rintro⟨a,b,l,_⟩ m ⟨m1,m2,rfl,_,m3,m4,rfl,_,m5,m6,rfl,⟨k,hk,hq⟩,_⟩;have:=Amf hq;simp only[Da]at *;omega
theorem Axf:∀n:Nat,Rd enc prog w n 33 (λa:A3=>(Gf a).cells) (λa b=>Da a<=b)
 | 0=>Ik _ _ _
 | 1=>Axe (Ik _ _ _)
 | n+2=>Axe (Xz 3 Gf Go.Proofs.Tryz.underlying31 κ δ (λ_=>rfl) (λ_=>rfl) (Axf n))
theorem Axg {n:Nat} (h:Rd enc prog w n 31 (λl:List A3=>[.sl 3 (l.map Gf)]) (λl b=>∃m,m+1<=b/\QL (λa b=>Da a<=b) l m)) : Rd enc prog w (n+1) 33 (λa:A3=>(Gf a).cells) (λa b=>Da a<=b/\I64 a.U):=by
 refine Kj (λp:Int×Int×List A3×Unit=>⟨p.1,p.2.1,p.2.2.1⟩) Go.Proofs.Tryz.underlying33 κ κ (λb=>?_) ?_ (Ew 1 (Kh .i64 n Go.Proofs.Tryz.underlying3) (Ew 1 (Kh .i64 n Go.Proofs.Tryz.underlying2) (Ew 1 h (Ki n 3))))
 .simp[Gf,AV.cells,J1]
 .rintro⟨a,b,l,_⟩ m ⟨m1,m2,rfl,_,m3,m4,rfl,hb,m5,m6,rfl,⟨k,hk,hq⟩,_⟩;have:=Amf hq;have hb:=Amd hb;simp only[Da]at *;exact⟨ω,hb⟩
theorem Axh:∀n:Nat,Rd enc prog w n 33 (λa:A3=>(Gf a).cells) (λa b=>Da a<=b/\I64 a.U)
 | 0=>Ik _ _ _
 | 1=>Axg (Ik _ _ _)
 | n+2=>Axg (Xz 3 Gf Go.Proofs.Tryz.underlying31 κ δ (λ_=>rfl) (λ_=>rfl) (Axf n))
theorem Axi {n:Nat} (h:Rd enc prog w n 90 (λl:List Bj=>[.sl 2 (l.map Hb)]) (λl b=>∃m,m+1<=b/\QL (λa b=>Dl a<=b/\iR a) l m)) : Rd enc prog w (n+1) 92 (λa:Bj=>(Hb a).cells) (λa b=>Dl a<=b/\iR a):=by
 refine Kj (λp:Int×List Bj×Unit=>⟨p.1,p.2.1⟩) Go.Proofs.Tryz.underlying92 κ κ (λb=>?_) ?_ (Ew 1 (Kh .i64 n Go.Proofs.Tryz.underlying3) (Ew 1 h (Ki n 2)))
 .simp[Hb,AV.cells,M2]
 .rintro⟨a,l,_⟩ m ⟨m1,m2,rfl,ha,m5,m6,rfl,⟨k,hk,hq⟩,_⟩;have:=Axb hq;have ha:=Amd ha;simp only[Dl,iR]at *;exact⟨ω,ha,this.2⟩
theorem Axj:∀n:Nat,Rd enc prog w n 92 (λa:Bj=>(Hb a).cells) (λa b=>Dl a<=b/\iR a)
 | 0=>Ik _ _ _
 | 1=>Axi (Ik _ _ _)
 | n+2=>Axi (Xz 2 Hb Go.Proofs.Tryz.underlying90 κ δ (λ_=>rfl) (λ_=>rfl) (Axj n))
theorem Oa {t e:TypeId} (sz:Nat) {α:Type} {f:α->List AV} (g:α->AV) {Q:α->Nat->Prop} (hu:prog.underlying t=some (.slice e)) (c:prog.cellsOf e=sz) (hpos:0<sz) (hg:∀a,(g a).cells=f a) (h:∀a,(f a).length=sz) (ih:∀n,Rd enc prog w n e f Q) (n:Nat):Rd enc prog w n t (λl:List α=>[.sl sz (l.map g)]) (λl b=>∃m,m+1<=b/\QL Q l m):=by cases n with| zero=>exact Ik _ _ _| succ n=>exact Xz sz g hu c hpos hg h (ih n)
theorem Bca (n:Nat):Rd enc prog w n 208 (λa:Pz=>(Ad4 a).cells) (λa b=>a.S.size<=b/\Dd a.R<=b):=by
 cases n with
 | zero=>exact Ik _ _ _
 | succ n=>
  refine Kj (λp:ByteArray×List Ah×Unit=>⟨p.1,p.2.1⟩) Go.Proofs.Tryz.underlying208 κ κ (λb=>?_) ?_ (Ew 1 (Aw9 n Go.Proofs.Tryz.underlying9) (Ew 1 (Axd n) (Ki n 2)))
  .simp[Ad4,AV.cells,Lj]
  .rintro⟨a,l,_⟩ m ⟨m1,m2,rfl,ha,m5,m6,rfl,⟨k,hk,hq⟩,_⟩;have:=Ame hq;simp only at *;exact⟨ω,ω⟩
theorem Bcb (n:Nat):Rd enc prog w n 206 (λa:Aw=>(Co a).cells) (λa b=>a.S.size<=b/\a.O.length<=b/\∀y∈a.O,y.S.size<=b/\Dd y.R<=b):=by
 cases n with
 | zero=>exact Ik _ _ _
 | succ n=>
  refine Kj (λp:ByteArray×Int×List Pz×Unit=>⟨p.1,p.2.1,p.2.2.1⟩) Go.Proofs.Tryz.underlying206 κ κ (λb=>?_) ?_ (Ew 1 (Aw9 n Go.Proofs.Tryz.underlying9) (Ew 1 (Kh .i64 n Go.Proofs.Tryz.underlying3) (Ew 1 (Oa 2 Ad4 Go.Proofs.Tryz.underlying204 κ δ (λ_=>rfl) (λ_=>rfl) Bca n) (Ki n 3))))
  .simp[Co,AV.cells]
  .rintro⟨a,b,l,_⟩ m ⟨m1,m2,rfl,ha,m3,m4,rfl,_,m5,m6,rfl,⟨k,hk,hq⟩,_⟩;have h1:=Lv hq;have h2:=Ng hq;simp only at *;refine⟨ω,ω,λy hy=>?_⟩;obtain⟨c,g1,g2,g3⟩:=h2 y hy;exact⟨ω,ω⟩
theorem Bcc (n:Nat):Rd enc prog w n 27 (λa:Bh=>(Iu a).cells) (λa b=>b<=1048576->CSz a):=by
 cases n with
 | zero=>exact Ik _ _ _
 | succ n=>
  refine Kj (λp:List Aw×List Ah×Ah×Unit=>⟨p.1,p.2.1,p.2.2.1⟩) Go.Proofs.Tryz.underlying27 κ κ (λb=>?_) ?_ (Ew 1 (Oa 3 Co Go.Proofs.Tryz.underlying22 κ δ (λ_=>rfl) (λ_=>rfl) Bcb n) (Ew 1 (Axd n) (Ew 3 (Amg n) (Ki n 5))))
  .simp[Iu,E3,AV.cells,Lj]
  .rintro⟨a,b,l,_⟩ m ⟨m1,m2,rfl,⟨k,hk,hq⟩,m3,m4,rfl,⟨h,f,hq'⟩,m5,m6,rfl,i,_⟩ hm;have h1:=Lv hq;have h2:=Ng hq;have h3:=Lv hq';have g:=Ng hq';simp only at *;refine⟨⟨by dsimp only;omega,λx hx=>?_,λx hx=>?_,λx hx y hy=>?_⟩,by dsimp only;omega,λt ht=>?_,by dsimp only;omega⟩
   .obtain⟨c,g1,g2,g3,g4⟩:=h2 x hx;refine⟨ω,λy hy=>?_⟩;have:=(g4 y hy).2;omega
   .obtain⟨c,g1,g2,g3,g4⟩:=h2 x hx;omega
   .obtain⟨c,g1,g2,g3,g4⟩:=h2 x hx;have:=(g4 y hy).1;omega
   .obtain⟨c,g1,g2⟩:=g t ht;omega
theorem Bcd {α:Type} {Q:α->Nat->Prop} (P:α->Prop) (h:∀a b,Q a b->P a) {l:List α} {m:Nat} (hq:QL Q l m):∀a∈l,P a:=λa ha=>by obtain⟨c,_,g⟩:=Ng hq a ha;exact h a c g
theorem Axk (n:Nat):Rd enc prog w n 41 (λl:List Int=>[.sl 1 (l.map (O .u32))]) (λl b=>l.length<=b/\Ma l):=by intro cs d h hb;obtain⟨a,h1,m,h2,h3⟩:=Oa (Q:=λa _=>IntKind.u32.min<=a/\a<=IntKind.u32.max) 1 (O .u32) Go.Proofs.Tryz.underlying41 κ δ (λ_=>rfl) (λ_=>rfl) (λn=>Kh .u32 n Go.Proofs.Tryz.underlying101) n cs d h hb;refine⟨a,h1,by have:=Lv h3;omega,λx hx=>?_⟩;have:=Bcd (λx=>IntKind.u32.min<=x/\x<=IntKind.u32.max) (λ_ _ h=>h) h3 x hx;have f:IntKind.u32.min=0:=δ;have c:IntKind.u32.max=4294967295:=δ;rw[f,c]at this;omega
theorem Amh (n:Nat):Rd enc prog w n 43 (λa:Aj=>(B2 a).cells) (λa b=>RB b a):=by
 cases n with
 | zero=>exact Ik _ _ _
 | succ n=>
  refine Kj (λp:Bool×List Int×List Int×Unit=>⟨p.1,p.2.1,p.2.2.1⟩) Go.Proofs.Tryz.underlying43 κ κ (λb=>?_) ?_ (Ew 1 (Bb8 n Go.Proofs.Tryz.underlying4) (Ew 1 (Axk n) (Ew 1 (Axk n) (Ki n 3))))
  .simp[B2,AV.cells]
  .rintro⟨a,b,l,_⟩ m ⟨m1,m2,rfl,_,m3,m4,rfl,h1,m5,m6,rfl,h2,_⟩;simp only at *;exact⟨h1.2,h2.2,by dsimp only;omega,by dsimp only;omega⟩
theorem Bce (n:Nat):Rd enc prog w n 94 (λa:Ca=>(Fg a).cells) (λa b=>Dl a.I<=b/\iR a.I/\I64 a.v):=by
 cases n with
 | zero=>exact Ik _ _ _
 | succ n=>
  refine Kj (λp:Int×Bj×Unit=>⟨p.1,p.2.1⟩) Go.Proofs.Tryz.underlying94 κ κ (λb=>?_) ?_ (Ew 1 (Kh .i64 n Go.Proofs.Tryz.underlying3) (Ew 2 (Axj n) (Ki n 3)))
  .simp[Fg,Hb,AV.cells]
  .rintro⟨a,b,_⟩ m ⟨m1,m2,rfl,h1,m3,m4,rfl,h2,_⟩;have h1:=Amd h1;simp only at *;exact⟨ω,h2.2,h1⟩
theorem Bcf (n:Nat):Rd enc prog w n 50 (λa:Bk=>(Dr a).cells) (λ_ _=>True):=by cases n with| zero=>exact Ik _ _ _| succ n=>refine Kj (λp:Int×Int×Unit=>⟨p.1,p.2.1⟩) Go.Proofs.Tryz.underlying50 κ κ (λb=>?_) (λ_ _ _=>trivial) (Ew 1 (Kh .i64 n Go.Proofs.Tryz.underlying3) (Ew 1 (Kh .i64 n Go.Proofs.Tryz.underlying2) (Ki n 2)));simp[Dr,AV.cells]
theorem Agv (n:Nat):Rd enc prog w n 53 (λa:As=>(Dn a).cells) (λa b=>a.T.length<=b):=by
 cases n with
 | zero=>exact Ik _ _ _
 | succ n=>
  refine Kj (λp:Int×List Bk×Unit=>⟨p.1,p.2.1⟩) Go.Proofs.Tryz.underlying53 κ κ (λb=>?_) ?_ (Ew 1 (Kh .i64 n Go.Proofs.Tryz.underlying2) (Ew 1 (Oa 2 Dr Go.Proofs.Tryz.underlying51 κ δ (λ_=>rfl) (λ_=>rfl) Bcf n) (Ki n 2)))
  .simp[Dn,AV.cells]
  .rintro⟨a,l,_⟩ m ⟨m1,m2,rfl,ha,m5,m6,rfl,⟨k,hk,hq⟩,_⟩;have:=Lv hq;simp only at *;omega
theorem Bcg (n:Nat):Rd enc prog w n 63 (λa:Hy=>(Ou a).cells) (λa b=>a.E.T.length<=b/\a.F.T.length<=b):=by
 cases n with
 | zero=>exact Ik _ _ _
 | succ n=>
  refine Kj (λp:Int×As×As×Int×Unit=>⟨p.1,p.2.1,p.2.2.1,p.2.2.2.1⟩) Go.Proofs.Tryz.underlying63 κ κ (λb=>?_) ?_ (Ew 1 (Kh .i64 n Go.Proofs.Tryz.underlying3) (Ew 2 (Agv n) (Ew 2 (Agv n) (Ew 1 (Kh .i64 n Go.Proofs.Tryz.underlying3) (Ki n 6)))))
  .simp[Ou,Dn,AV.cells]
  .rintro⟨a,l,f,c,_⟩ m ⟨m1,m2,rfl,_,m3,m4,rfl,h1,m5,m6,rfl,h2,_⟩;simp only at *;exact⟨ω,ω⟩
theorem Bch (n:Nat):Rd enc prog w n 28 (λl:List As=>[.sl 2 (l.map Dn)]) (λl b=>l.length<=b/\∀f∈l,f.T.length<=b):=by intro cs d h hb;obtain⟨a,h1,m,h2,h3⟩:=Oa (Q:=λa b=>a.T.length<=b) 2 Dn Go.Proofs.Tryz.underlying28 κ δ (λ_=>rfl) (λ_=>rfl) Agv n cs d h hb;refine⟨a,h1,by have:=Lv h3;omega,λx hx=>?_⟩;obtain⟨c,g1,g2⟩:=Ng h3 x hx;omega
theorem Axl (n:Nat):Rd enc prog w n 64 (λl:List Aj=>[.sl 3 (l.map B2)]) (λl b=>l.length<=b/\∀r∈l,RB b r):=by intro cs d h hb;obtain⟨a,h1,m,h2,h3⟩:=Oa (Q:=λa b=>RB b a) 3 B2 Go.Proofs.Tryz.underlying64 κ δ (λ_=>rfl) (λ_=>rfl) Amh n cs d h hb;refine⟨a,h1,by have:=Lv h3;omega,λx hx=>?_⟩;obtain⟨c,g1,g2⟩:=Ng h3 x hx;exact g2.mono ω
theorem Bci (n:Nat):Rd enc prog w n 55 (λa:Be=>(Ff a).cells) (λa b=>a.L.T.length<=b):=by
 cases n with
 | zero=>exact Ik _ _ _
 | succ n=>
  refine Kj (λp:As×Int×Unit=>⟨p.1,p.2.1⟩) Go.Proofs.Tryz.underlying55 κ κ (λb=>?_) ?_ (Ew 2 (Agv n) (Ew 1 (Kh .i64 n Go.Proofs.Tryz.underlying3) (Ki n 3)))
  .simp[Ff,Dn,AV.cells]
  .rintro⟨a,l,_⟩ m ⟨m1,m2,rfl,ha,m5,m6,rfl,_,_⟩;simp only at *;omega
theorem Axm (n:Nat):Rd enc prog w n 59 (λa:A7=>(H8 a).cells) (λa b=>b<=1048576->MSz a):=by
 cases n with
 | zero=>exact Ik _ _ _
 | succ n=>
  refine Kj (λp:List Ca×List Be×Unit=>⟨p.1,p.2.1⟩) Go.Proofs.Tryz.underlying59 κ κ (λb=>?_) ?_ (Ew 1 (Oa 3 Fg Go.Proofs.Tryz.underlying57 κ δ (λ_=>rfl) (λ_=>rfl) Bce n) (Ew 1 (Oa 3 Ff Go.Proofs.Tryz.underlying56 κ δ (λ_=>rfl) (λ_=>rfl) Bci n) (Ki n 2)))
  .simp[H8,AV.cells]
  .rintro⟨a,l,_⟩ m ⟨m1,m2,rfl,⟨j,i,hq'⟩,m5,m6,rfl,⟨k,hk,hq⟩,_⟩ hm;have h1:=Lv hq;have h2:=Ng hq;have h3:=Lv hq';have h:=Ng hq';simp only at *;refine⟨by dsimp only;omega,by dsimp only;omega,λf c=>?_,λf c=>?_,λx hx=>?_⟩
   .obtain⟨g,g1,g2,g3⟩:=h f c;omega
   .obtain⟨g,g1,g2,g3⟩:=h f c;exact g3
   .obtain⟨g,g1,g2⟩:=h2 x hx;omega
theorem Bcj (n:Nat):Rd enc prog w n 61 (λa:Ai=>(B4 a).cells) (λa b=>b<=1048576->TSz a):=by
 cases n with
 | zero=>exact Ik _ _ _
 | succ n=>
  refine Kj (λp:Aj×A7×Unit=>⟨p.1,p.2.1⟩) Go.Proofs.Tryz.underlying61 κ κ (λb=>?_) ?_ (Ew 3 (Amh n) (Ew 2 (Axm n) (Ki n 5)))
  .simp[B4,B2,H8,AV.cells]
  .rintro⟨a,l,_⟩ m ⟨m1,m2,rfl,h1,m5,m6,rfl,h2,_⟩ hm;simp only at *;exact⟨RB.mono h1 ω,h2 ω⟩
theorem Axn (n:Nat):Rd enc prog w n 29 (λl:List Ai=>[.sl 5 (l.map B4)]) (λl b=>b<=1048576->l.length<=1048576/\∀t∈l,TSz t):=by intro cs d h hb;obtain⟨a,h1,m,h2,h3⟩:=Oa (Q:=λa b=>b<=1048576->TSz a) 5 B4 Go.Proofs.Tryz.underlying29 κ δ (λ_=>rfl) (λ_=>rfl) Bcj n cs d h hb;refine⟨a,h1,λhm=>⟨by have:=Lv h3;omega,λx hx=>?_⟩⟩;obtain⟨c,g1,g2⟩:=Ng h3 x hx;exact g2 ω
theorem Bck (n:Nat):Rd enc prog w n 66 (λa:Ee=>(Ny a).cells) (λa b=>b<=1048576->(a.X.E.T.length<=1048576/\a.X.F.T.length<=1048576)/\RB 1048576 a.C/\MSz a.W/\(a.Y.length<=1048576/\∀r∈a.Y,RB 1048576 r)/\(a.Z.length<=1048576/\∀r∈a.Z,RB 1048576 r)):=by
 cases n with
 | zero=>exact Ik _ _ _
 | succ n=>
  refine Kj (λp:Hy×Aj×A7×List Aj×List Aj×Unit=>⟨p.1,p.2.1,p.2.2.1,p.2.2.2.1,p.2.2.2.2.1⟩) Go.Proofs.Tryz.underlying66 κ κ (λb=>?_) ?_ (Ew 6 (Bcg n) (Ew 3 (Amh n) (Ew 2 (Axm n) (Ew 1 (Axl n) (Ew 1 (Axl n) (Ki n 13))))))
  .simp[Ny,Ou,B2,H8,AV.cells]
  .rintro⟨a,c,k,f,g,_⟩ m ⟨m1,m2,rfl,h1,m3,m4,rfl,h2,m5,m6,rfl,h3,m7,m8,rfl,j,m9,m10,rfl,i,_⟩ hm;simp only at *;exact⟨⟨ω,ω⟩,h2.mono ω,h3 ω,⟨ω,λr h=>(j.2 r h).mono ω⟩,ω,λr h=>(i.2 r h).mono ω⟩
theorem Bcl (n:Nat):Rd enc prog w n 30 (λl:List Ee=>[.sl 13 (l.map Ny)]) (λl b=>b<=1048576->l.length<=1048576/\∀a∈l,(a.X.E.T.length<=1048576/\a.X.F.T.length<=1048576)/\RB 1048576 a.C/\MSz a.W/\(a.Y.length<=1048576/\∀r∈a.Y,RB 1048576 r)/\(a.Z.length<=1048576/\∀r∈a.Z,RB 1048576 r)):=by intro cs d h hb;obtain⟨a,h1,m,h2,h3⟩:=Oa (Q:=λ(a:Ee) b=>b<=1048576->(a.X.E.T.length<=1048576/\a.X.F.T.length<=1048576)/\RB 1048576 a.C/\MSz a.W/\(a.Y.length<=1048576/\∀r∈a.Y,RB 1048576 r)/\(a.Z.length<=1048576/\∀r∈a.Z,RB 1048576 r)) 13 Ny Go.Proofs.Tryz.underlying30 κ δ (λ_=>rfl) (λ_=>rfl) Bck n cs d h hb;refine⟨a,h1,λhm=>⟨by have:=Lv h3;omega,λx hx=>?_⟩⟩;obtain⟨c,g1,g2⟩:=Ng h3 x hx;exact g2 ω
theorem Bcm (n:Nat):Rd enc prog w n 31 (λl:List A3=>[.sl 3 (Ha l)]) (λl b=>l.length<=b/\∀v∈l,Da v<=b/\I64 v.U):=by
 intro cs d h hb;obtain⟨a,h1,m,h2,h3⟩:=Oa (Q:=λa b=>Da a<=b/\I64 a.U) 3 Gf Go.Proofs.Tryz.underlying31 κ δ (λ_=>rfl) (λ_=>rfl) Axh n cs d h hb;refine⟨a,?_,by have:=Lv h3;omega,λx hx=>?_⟩
 .show CCs _ [AV.sl 3 (Ha a)] cs;rw[J1];exact h1
 .obtain⟨c,g1,g2⟩:=Ng h3 x hx;exact⟨ω,g2.2⟩
end
end Go.Ab
namespace Go.Ab
open Go Go.Proofs Go.ChangeShapes Go.WideShapes Go.ChangeAt Go.RowKit Go.Proofs.Tryz
open Go.Proofs.YtkafffjlpedijaaGreatDoor.Rows (uptoBulk uptoBulkAll uptoSmall)
set_option maxRecDepth 100000
theorem Axo {P:Program} {W:World} {x:String×DataW Unit} {l:List (String×DataW Unit)} (h:laidMet P (x::l) W):laidMet P l W:=by obtain⟨ps,⟨s,k,cs,fuel,p,q,j,ht',f,hd,g,c⟩,i,hc⟩:=h;subst c;refine⟨q,g,(List.nodup_append.1 i).2.1,λb off hb=>hc b off ?_⟩;simp[hb]
theorem Bcn {W:World} (h:laidMetH prog YtkafffjlpedijaaGreatDoor.Rows.weakenTrueRow.laid W):U3 (N9 W):=by
 have h1:laidMet prog [("internal/strconv.uint64pow10",YtkafffjlpedijaaGreatDoor.Rows.laid_internal_strconv_uint64pow10)] W:=Axo (Axo h);have h2:Lib.TabIs prog W "internal/strconv.uint64pow10" .u64 Lib.pow10Tab :=
  Lib.tabIs_of_head (g:=0) (rest:=[]) κ κ Go.Proofs.Tryz.underlying424 Go.Proofs.Tryz.underlying100 κ κ h1
 have g:prog.globalNamed "internal/strconv.uint64pow10" = some 0:=κ;unfold Lib.TabIs World.var? at h2;rw[g]at h2;simp only[Option.bind_some]at h2;split at h2
 .rename_i cs E fr hc;cases h2;exact⟨E,fr,hc⟩
 .cases h2
theorem Bco {W:World} (g:U3 (N9 W)):St (N9 W) ι0 H0 (λ_=>none) W W := ⟨(λ_ _ h=>h),(λ_ _ h=>by cases h),(λ_=>rfl),(λ_ _ _ h=>by cases h),rfl,rfl,rfl,g,Nat.le_refl _⟩
theorem Bcp {σ:A5} {xs:List AV} {cs:Array Value} (h:CCs σ xs cs.toList):CC σ (.agg xs) (.agg cs) :=
 .agg xs cs (by simpa using h.1) (λi c v h1 h2=>(h.2 i c v h1 (by simpa using h2)).1)
section
variable {H:Type} {enc:TypeId×Value->H} {W:World} {base:Nat} {t:TypeId} {v:Value} {d:DataW H} {p:List MemPlace}
theorem Axp {α:Type} {g:α->List AV} {Q:α->Nat->Prop} {fs:Array Field} (hu:prog.underlying t=some (.struct fs)) (b:Value.okWide prog W .any base t v) (hd:DataW.Trod enc prog W 0 (λ_=>true) true t v d p) (hb:uptoBulk d<=1048576) (c:∀n,Rd enc prog W n t g Q):∃a,CC (N9 W) (.agg (g a)) v/\Q a (uptoBulk d):=by unfold Value.okWide at b;rw[hu]at b;obtain⟨cs,rfl,_⟩:=b;obtain⟨n,f⟩:=hd.by;obtain⟨a,h1,h2⟩:=c n _ d f hb;exact⟨a,Bcp h1,h2⟩
theorem Ab0 {α:Type} {g:α->AV} {Q:α->Nat->Prop} (hv:v.cells = #[v]) (hd:DataW.Trod enc prog W 0 (λ_=>true) true t v d p) (hb:uptoBulk d<=1048576) (b:∀n,Rd enc prog W n t (λa=>[g a]) Q):∃a,CC (N9 W) (g a) v/\Q a (uptoBulk d):=by obtain⟨n,c⟩:=hd.by;obtain⟨a,h1,h2⟩:=b n _ d c hb;rw[hv]at h1;exact⟨a,(h1.2 0 _ _ rfl rfl).1,h2⟩
theorem Ab1 {e:TypeId} (hu:prog.underlying t=some (.slice e)) (b:Value.okWide prog W .any base t v):v.cells = #[v]:=by unfold Value.okWide at b;rw[hu]at b;cases v with| agg cs=>simp only[Cell.okWide,Cell.ok,hu]at b| _=>rfl
end
section
variable {H:Type} {enc:TypeId×Value->H} {P:Program}
theorem Axq (f:laidOutB P=true) {w w':World} {c:Nat->Bool}:∀{ts:List TypeId} {vs:List Value} {g:List (DataW H)} {ps:List MemPlace}, (ts.all λt=>P.readableRec t&&decide (t<P.types.size))=true->DataW.TrodAll enc P w 0 (λ_=>true) true ts vs g ps->(∀p∈ps,w.sameAt w' p)->(∀p∈ps,c p.block=true)->DataW.TrodAll enc P w' 0 c true ts vs g ps
 | [],[],[],_,_,h,_,_=>h
 | t::ts,_::_,_::_,_,b,⟨p,q,h,i,e⟩,hk,hp=>by subst e;simp only[List.all_cons,Bool.and_eq_true,decide_eq_true_eq]at b;exact⟨p,q,WideElems.Trod_stays f b.1.1 b.1.2 h (λx hx=>hk x (by simp[hx])) (λx hx=>hp x (by simp[hx])),Axq f b.2 i (λx hx=>hk x (by simp[hx])) (λx hx=>hp x (by simp[hx])),rfl⟩
theorem Bcq (R:laidOutB P=true) {f:Func} {s:ChangeSpec} {g:Bool} {W l:World} {args:Array Value} {k:List (DataW H)} {j:List MemPlace} {t:TypeId} (hv:s.vars = []) (G:DataW.Whole enc P f.params.toList s.vars false W args.toList k [] j) (N:(f.params.toList.all λt=>P.readableRec t&&decide (t<P.types.size))=true) (E:(s.fn H k).results = [.lit (.bool true)]/\(s.fn H k).args=k/\(s.fn H k).vars = []) (B:f.resultTypes = #[t]) (ht:P.underlying t=some .bool) (z:∀(b:Nat) (o:Obj),W.heap[b]? = some o->l.heap[b]? = some o) (D:l.os=W.os) (u:l.output=W.output) : s.post enc P f false true g false W args (.bool true) l:=by
 have A:=G;obtain⟨p,q,U,I,rfl,S,_⟩:=G;rw[hv]at I;obtain rfl:q = []:=I;have y:=A.lt;rw[List.append_nil]at *;have c:∀b,b<W.heap.size->l.heap[b]? = W.heap[b]?:=λb hb=>by rw[Array.getElem?_eq_getElem hb];exact z b _ (Array.getElem?_eq_getElem hb)
 have same:∀x∈p,W.sameAt l x:=by intro x hx;have:=c x.block (y x hx);cases x with| cell b o=>exact World.cell?_of_block (w:=W) this| map b=>exact this
 obtain⟨M,L,J⟩:=E;refine⟨k,[],p,[],p,[],A,?_,?_,?_,⟨D,u,λi hi=>?_⟩,λh=>by cases h⟩
 .rw[List.append_nil,M,B];exact trodAll_mk1 (shut_bool ht _)
 .rw[List.append_nil,L];exact Axq R N U same (λx hx=>by simpa using y x hx)
 .rw[List.append_nil,J,hv];rfl
 .rw[c i hi];split <;> simp_all
end
end Go.Ab
