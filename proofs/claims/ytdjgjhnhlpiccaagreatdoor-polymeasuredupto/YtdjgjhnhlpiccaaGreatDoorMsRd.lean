/- How the readings of the arguments stand as plain values. -/
import Derived.Test.YtdjgjhnhlpiccaaGreatDoorRows
import Derived.Test.YtdjgjhnhlpiccaaGreatDoorMsTy
import Derived.ReaderBy
import Derived.Test.YtdjgjhnhlpiccaaGreatDoorMsPl2
import Derived.Test.YtdjgjhnhlpiccaaGreatDoorCards
import Derived.Test.YtdjgjhnhlpiccaaGreatDoorTie
import Derived.ChangeOld
import Derived.ChangeSame
import Derived.Carry
import Derived.RowKit
import Derived.WalkKit
import Derived.ProofKit
import Derived.OpenShut
import Derived.Deep.DeepHandedRow
import Derived.Lib.LaidTab
open List
namespace Go.Ab
open Go
open Go.Proofs.YtdjgjhnhlpiccaaGreatDoor.Rows (uptoBulk uptoBulkAll)
def Om (w:World):A7:=λb=>w.heap[b]?
def CCs (σ:A7) (xs:List AV) (cs:List Value):Prop := cs.length=xs.length/\∀(j:Nat) (a:AV) (c:Value),xs[j]? = some a->cs[j]? = some c->CC σ a c/\Fj c=true
section
variable {H:Type} {enc:TypeId×Value->H} {P:Program} {w:World}
variable {σ:A7} {a:Addr} {n:Nat} {α β:Type} {e t:TypeId} {Q:α->Nat->Prop} {g:β->List AV} {R:β->Nat->Prop}
def Rd (enc:TypeId×Value->H) (P:Program) (w:World) (n:Nat) (t:TypeId) (f:α->List AV) (Q:α->Nat->Prop):Prop := ∀(cs:List Value) (d:DataW H),DataW.ofBy (keyOf P) enc P w 0 true true n t cs=some d->uptoBulk d<=1048576->∃a:α,CCs (Om w) (f a) cs/\Q a (uptoBulk d)
theorem Kh (t:TypeId) (f:α->List AV) (Q:α->Nat->Prop):Rd enc P w 0 t f Q:=λ_ _ h=>by cases h
theorem Bdg (d:DataW H):1<=uptoBulk d:=by cases d with| lit l=>cases l <;> simp[uptoBulk]| _=>simp[uptoBulk]
theorem Yl {a:AV} {c:Value} (h:CC σ a c) (h1:Fj c=true):CCs σ [a] [c]:=by refine⟨rfl,λj x y hx hy=>?_⟩;cases j with| zero=>cases hx;cases hy;exact⟨h,h1⟩| succ j=>cases hx
theorem Bdh {xs bs:List AV} {cs b:List Value} (h:CCs σ xs cs) (h':CCs σ bs b):CCs σ (xs++bs) (cs++b):=by
 refine⟨by simp[h.1,h'.1],λj x y hx hy=>?_⟩;rcases Nat.lt_or_ge j xs.length with hj|hj
 .rw[getElem?_append_left hj]at hx;rw[getElem?_append_left (by rw[h.1];exact hj)]at hy;exact h.2 j x y hx hy
 .rw[getElem?_append_right hj]at hx;rw[getElem?_append_right (by rw[h.1];exact hj),h.1]at hy;exact h'.2 _ x y hx hy
theorem Ly (k:IntKind) (n:Nat) (hu:P.underlying t=some (.int k)):Rd enc P w n t (λa:Int=>[O k a]) (λa _=>k.min<=a/\a<=k.max):=by
 intro cs d h _;cases n with
 | zero=>cases h
 | succ n=>
  rcases cs with _|⟨c,_|⟨f,r⟩⟩
  .simp[DataW.ofBy,hu]at h
  .cases c <;> simp[DataW.ofBy,hu]at h;rename_i b m;obtain⟨⟨rfl,hw⟩,_⟩:=h;exact⟨m,Yl (.val _) rfl,by simpa[Lit.wf] using hw⟩
  .simp[DataW.ofBy,hu]at h
theorem Bdi (n:Nat) (hu:P.underlying t=some .bool):Rd enc P w n t (λa:Bool=>[Aw a]) (λ_ _=>True):=by
 intro cs d h _;cases n with
 | zero=>cases h
 | succ n=>
  rcases cs with _|⟨c,_|⟨b,r⟩⟩
  .simp[DataW.ofBy,hu]at h
  .cases c <;> simp[DataW.ofBy,hu]at h;exact⟨_,Yl (.val _) rfl,trivial⟩
  .simp[DataW.ofBy,hu]at h
theorem Ayh (n:Nat) (hu:P.underlying t=some .string):Rd enc P w n t (λa:ByteArray=>[Gv a]) (λa b=>a.size<=b):=by
 intro cs d h _;cases n with
 | zero=>cases h
 | succ n=>
  rcases cs with _|⟨c,_|⟨f,r⟩⟩
  .simp[DataW.ofBy,hu]at h
  .cases c
   case string s=>
    have h':(if s.size<=maxLen then some (DataW.lit (H:=H) (.string s.data.toList)) else none)=some d:=(by unfold DataW.ofBy at h;rw[hu]at h;exact h);split at h'
    .cases h';refine⟨_,Yl (.val _) rfl,?_⟩;have e:s.data.toList.length=s.size:=(by rw[Array.length_toList];rfl);simp only[uptoBulk];omega
    .cases h'
   all_goals (unfold DataW.ofBy at h;rw[hu]at h;cases h)
  .simp[DataW.ofBy,hu]at h
def QL {α:Type} (Q:α->Nat->Prop):List α->Nat->Prop
 | [],_=>True
 | a::l,m=>∃m1 m2,1<=m1/\m1+m2<=m/\Q a m1/\QL Q l m2
theorem Bdj {sz:Nat} {f:α->List AV} (ih:Rd enc P w n e f Q) (g:Nat->Option (List Value)):∀(L:List Nat) (c:List (DataW H)), L.mapM (λi=>(g i).bind (DataW.ofBy (keyOf P) enc P w 0 true true n e))=some c->uptoBulkAll c<=1048576 -> ∃l:List α,l.length=L.length/\QL Q l (uptoBulkAll c)/\∀(i:Nat) (a:α),l[i]? = some a->∃k cs,L[i]? = some k/\g k=some cs/\CCs (Om w) (f a) cs:=by
 intro L;induction L with
 | nil=>intro c h _;exact⟨[],rfl,trivial,λi a h=>by cases h⟩
 | cons k L j=>intro c h hb;simp only[mapM_cons,Option.pure_def,Option.bind_eq_bind,Option.bind_eq_some_iff]at h;obtain⟨d,⟨cs,h1,h2⟩,b,h3,A⟩:=h;cases A;simp only[uptoBulkAll]at hb;obtain⟨a,ha,hq⟩:=ih cs d h2 ω;obtain⟨l,y,u,s⟩:=j b h3 ω;refine⟨a::l,by simp[y],⟨uptoBulk d,uptoBulkAll b,Bdg d,by simp[uptoBulkAll],hq,u⟩,?_⟩;intro i x hx;cases i with| zero=>cases hx;exact⟨k,cs,rfl,h1,ha⟩| succ i=>obtain⟨z,q,g1,g2,g3⟩:=s i x hx;exact⟨z,q,g1,g2,g3⟩
theorem On {α:Type} {Q:α->Nat->Prop}:∀{l:List α} {m:Nat},QL Q l m->l.length<=m
 | [],_,_=>Nat.zero_le _
 | _::l,_,⟨m1,m2,h1,h2,_,b⟩=>by have:=On b;simp only[length_cons];omega
theorem Q9 {α:Type} {Q:α->Nat->Prop}:∀{l:List α} {m:Nat},QL Q l m->∀a∈l,∃b,b<=m/\Q a b
 | _::l,_,⟨m1,m2,h1,h2,h3,c⟩,a,ha=>by
  rcases mem_cons.1 ha with rfl|ha
  .exact⟨m1,ω,h3⟩
  .obtain⟨b,g1,g2⟩:=Q9 c a ha;exact⟨b,ω,g2⟩
theorem Aia {cs:List Value} (h:w.cells? 0 a n=some cs):cs.length=n/\∀j,j<n->w.cell? (a.add j)=cs[j]?:=by
 unfold World.cells? at h;rw[if_pos (Nat.zero_le _)]at h;have key:∀(L:List Nat) (cs:List Value),L.mapM (λi=>w.cell? (a.add i))=some cs->cs.length=L.length/\∀(i k:Nat),L[i]? = some k->w.cell? (a.add k)=cs[i]?:=by
  intro L;induction L with
  | nil=>intro cs h;cases h;exact⟨rfl,λi k h=>by cases h⟩
  | cons x L ih=>intro cs h;simp only[mapM_cons,Option.pure_def,Option.bind_eq_bind,Option.bind_eq_some_iff]at h;obtain⟨v,h1,vs,h2,h3⟩:=h;cases h3;obtain⟨i1,i2⟩:=ih vs h2;refine⟨by simp[i1],λi k hk=>?_⟩;cases i with| zero=>cases hk;simpa using h1| succ i=>simpa using i2 i k hk
 obtain⟨h1,h2⟩:=key _ _ h;rw[length_range]at h1;exact⟨h1,λj hj=>h2 j j (by simp[hj])⟩
theorem Ayi (h:a.spot=none) (m:Nat):a.add m=⟨a.block,a.off+m,none⟩:=by
 unfold Addr.add;split
 .rename_i e;subst e;cases a;simp_all
 .rfl
theorem Acz (sz:Nat) {f:α->List AV} (g:α->AV) (hu:P.underlying t=some (.slice e)) (L:P.cellsOf e=sz) (hpos:0<sz) (hg:∀a,(g a).cells=f a) (hf:∀a,(f a).length=sz) (ih:Rd enc P w n e f Q):Rd enc P w (n+1) t (λl:List α=>[.sl sz (l.map g)]) (λl b=>∃m,m+1<=b/\QL Q l m):=by
 intro cs d h hb;rcases cs with _|⟨c,_|⟨c',r⟩⟩
 .simp[DataW.ofBy,hu]at h
 .cases c
  case slice base len cap=>
   cases base with
   | none=>have:d = .nil/\len=0:=(by unfold DataW.ofBy at h;rw[hu]at h;split at h <;> simp_all);obtain⟨rfl,rfl⟩:=this;exact⟨[],Yl (.nil sz _ _) rfl,0,by simp[uptoBulk],trivial⟩
   | some a=>
    have h':(if 0<=a.block/\len<=cap/\cap<=maxLen then
     ((range len).mapM λi=>(w.cells? 0 (a.add (i*P.cellsOf e)) (P.cellsOf e)).bind (DataW.ofBy (keyOf P) enc P w 0 true true n e)).bind λu=> (if true=true then (range (cap-len)).mapM λj=>(w.cells? 0 (a.add ((len+j)*P.cellsOf e)) (P.cellsOf e)).bind (DataW.ofBy (keyOf P) enc P w 0 true true n e) else some []).map λrest=>DataW.slice u rest else none)=some d:=by unfold DataW.ofBy at h;rw[hu]at h;exact h
    split at h'
    .rename_i hc;simp only[Option.bind_eq_some_iff,Option.map_eq_some_iff]at h';obtain⟨u,h1,rest,h2,rfl⟩:=h';rw[L]at h1;simp only[uptoBulk]at hb;obtain⟨l,G,V,l3⟩:=Bdj (sz:=sz) ih (λi=>w.cells? 0 (a.add (i*sz)) sz) _ _ h1 ω;have Y:=On V;rw[length_range]at G;refine⟨l,?_,uptoBulkAll u,by simp only[uptoBulk];omega,V⟩;cases R:l with
     | nil=>rw[R]at G;have:len=0:=G.symm;subst this;exact Yl (.nil sz _ _) rfl
     | cons x l'=>
      rw[<-R];refine Yl ?_ rfl;have D:∀(i:Nat) (y:α),l[i]? = some y->∃cs,w.cells? 0 (a.add (i*sz)) sz=some cs/\CCs (Om w) (f y) cs:=(by intro i y hy;obtain⟨k,cs,g1,g2,g3⟩:=l3 i y hy;have hk:k=i:=(by rw[getElem?_range (by have:=(List.getElem?_eq_some_iff.1 hy).1;omega)]at g1;exact (Option.some.inj g1).symm);subst hk;exact⟨cs,g2,g3⟩);have J:l[0]? = some x:=(by rw[R];rfl);obtain⟨U,c1,c2⟩:=D 0 x J;have c3:=(Aia c1).2 0 hpos;have a1:U.length=sz:=(Aia c1).1;rw[getElem?_eq_getElem ω]at c3;have s:a.spot=none/\∃C E fr,w.heap[a.block]? = some (.cells C E fr):=by
       have S:(a.add (0*sz)).add 0=a:=(by simp[Addr.add]);rw[S]at c3;unfold World.cell? at c3;split at c3
       .rename_i C E fr I;split at c3
        .cases c3
        .rename_i X;refine⟨?_,C,E,fr,I⟩;cases M:a.spot with| none=>rfl| some _=>rw[M]at X;simp at X
       .cases c3
      obtain⟨s,C,E,fr,I⟩:=s;have z:∀i j:Nat,w.cell? ((a.add (i*sz)).add j)=C[a.off+i*sz+j]?:=(by intro i j;rw[Ayi s,Ayi rfl];unfold World.cell?;rw[I];rfl);have q:∀(i:Nat) (y:α) (j:Nat) (c:AV),l[i]? = some y->(g y).cells[j]? = some c->∃v,C[a.off+i*sz+j]? = some v/\CC (Om w) c v/\Fj v=true:=(by intro i y j c hy hc;obtain⟨cs,Z,e2⟩:=D i y hy;rw[hg]at hc;have hj:=(List.getElem?_eq_some_iff.1 hc).1;rw[hf]at hj;have B:j<cs.length:=(by rw[(Aia Z).1];exact hj);have:=(Aia Z).2 j hj;rw[z,getElem?_eq_getElem B]at this;exact⟨_,this,e2.2 j c _ hc (getElem?_eq_getElem B)⟩);have hb':a=⟨a.block,a.off,none⟩:=(by cases a;simp_all);rw[hb'];have N:l.length=(l.map g).length:=ψ;rw[<-G,N];refine CC.sl (l.map g) a.block a.off cap sz C E fr (λi j=>(C[a.off+i*sz+j]?).getD undef) I ?_ ?_ ?_ ?_ ζ ζ
      .intro i y hy;simp only[getElem?_map,Option.map_eq_some_iff]at hy;obtain⟨y,_,rfl⟩:=hy;rw[hg,hf]
      .intro i y j c hy hc;simp only[getElem?_map,Option.map_eq_some_iff]at hy;obtain⟨y,hy,rfl⟩:=hy;obtain⟨v,A,v2,v3⟩:=q i y j c hy hc;rw[A];exact v2
      .intro i y j c hy hc;simp only[getElem?_map,Option.map_eq_some_iff]at hy;obtain⟨y,hy,rfl⟩:=hy;obtain⟨v,A,v2,v3⟩:=q i y j c hy hc;rw[A];exact v3
      .intro i j hi hj;rw[length_map]at hi;have hy:l[i]? = some l[i]:=getElem?_eq_getElem hi;have hc:(g l[i]).cells[j]? = some ((g l[i]).cells[j]'(by rw[hg,hf];exact hj)):=getElem?_eq_getElem _;obtain⟨v,A,_⟩:=q i _ j _ hy hc;rw[A];rfl
    .cases h'
  all_goals simp[DataW.ofBy,hu]at h
 .simp[DataW.ofBy,hu]at h
def RdL (enc:TypeId×Value->H) (P:Program) (w:World) (n b off:Nat) (fs:List (TypeId×Nat×Nat)) (f:α->List AV) (Q:α->Nat->Prop):Prop := ∀(cs:List Value) (ds:List (DataW H)),cs.length=b->fs.mapM (λx=>DataW.ofBy (keyOf P) enc P w 0 true true n x.1 ((cs.drop x.2.1).take x.2.2))=some ds->uptoBulkAll ds<=1048576 -> ∃a:α,CCs (Om w) (f a) (cs.drop off)/\Q a (uptoBulkAll ds)
theorem My (n b:Nat):RdL enc P w n b b [] (λ_:Unit=>[]) (λ_ _=>True):=by intro cs ds h _ _;exact⟨(),⟨by simp[h],λj a c h=>by cases h⟩,trivial⟩
theorem Hf {c off:Nat} (sz:Nat) {fs:List (TypeId×Nat×Nat)} {f:α->List AV} (h1:Rd enc P w n t f Q) (h2:RdL enc P w n c (off+sz) fs g R):RdL enc P w n c off ((t,off,sz)::fs) (λp:α×β=>f p.1++g p.2) (λp m=>∃m1 m2,m1+m2=m/\Q p.1 m1/\R p.2 m2):=by intro cs ds j h hb;simp only[mapM_cons,Option.pure_def,Option.bind_eq_bind,Option.bind_eq_some_iff]at h;obtain⟨d,q,i,l,k⟩:=h;cases k;simp only[uptoBulkAll]at hb ⊢;obtain⟨a,a1,a2⟩:=h1 _ d q ω;obtain⟨b,b1,b2⟩:=h2 cs i j l ω;refine⟨(a,b),?_,_,_,rfl,a2,b2⟩;have:=Bdh a1 b1;rwa [<-drop_drop,take_append_drop]at this
theorem Mz {fs:Array Field} {i:Nat} {L:List (TypeId×Nat×Nat)} {f:α->List AV} (φ:β->α) (hu:P.underlying t=some (.struct fs)) (l:fs.toList.map (λx=>(x.type,x.offset,P.cellsOf x.type))=L) (ht:P.cellsOf t=i) (j:∀b,f (φ b)=g b) (k:∀b m,R b m->Q (φ b) (m+1)) (h:RdL enc P w n i 0 L g R):Rd enc P w (n+1) t f Q:=by
 intro cs d hd hb;have c:(if cs.length=P.cellsOf t then (fs.toList.mapM λx=>DataW.ofBy (keyOf P) enc P w 0 true true n x.type ((cs.drop x.offset).take (P.cellsOf x.type))).map DataW.agg else none)=some d:=by unfold DataW.ofBy at hd;rw[hu]at hd;split at hd <;> simp_all
 split at c
 .rename_i hc;simp only[Option.map_eq_some_iff]at c;obtain⟨ds,h1,rfl⟩:=c;simp only[uptoBulk]at hb;obtain⟨b,b1,b2⟩:=h cs ds (hc.trans ht) (by rw[<-l,mapM_map];exact h1) ω;refine⟨φ b,?_,k b _ b2⟩;rw[j];simpa using b1
 .cases c
end
end Go.Ab
namespace Go.Ab
open Go Go.Proofs Go.Proofs.Tryz
open Go.Proofs.YtdjgjhnhlpiccaaGreatDoor.Rows (uptoBulk uptoBulkAll)
section
variable {H:Type} {enc:TypeId×Value->H} {w:World}
variable {n:Nat} {α:Type} {Q:α->Nat->Prop}
theorem Ayj {a:Int} (h:IntKind.i64.min<=a/\a<=IntKind.i64.max):Ev a:=by have c:IntKind.i64.min = -9223372036854775808:=δ;have b:IntKind.i64.max=9223372036854775807:=δ;rw[c,b]at h;exact h
theorem Ans:∀{l:List Af} {m:Nat},QL (λa b=>B3 a<=b) l m->Ds l<=m
 | [],_,_=>Nat.zero_le _
 | _::l,_,⟨m1,m2,h1,h2,h3,c⟩=>by have:=Ans c;simp only[Ds];omega
theorem Ayk:∀{l:List Ax} {m:Nat},QL (λa b=>Cp a<=b) l m->D0 l<=m
 | [],_,_=>Nat.zero_le _
 | _::l,_,⟨m1,m2,h1,h2,h3,c⟩=>by have:=Ayk c;simp only[D0];omega
theorem Ayl:∀{l:List Ah} {m:Nat},QL (λa b=>Bv a<=b/\iR a) l m->Cb l<=m/\E6 l
 | [],_,_=>⟨Nat.zero_le _,trivial⟩
 | _::l,_,⟨m1,m2,h1,h2,h3,c⟩=>by have:=Ayl c;simp only[Cb,E6];exact⟨ω,h3.2,this.2⟩
theorem Aym (h:Rd enc prog w n 23 (λl:List Af=>[.sl 3 (l.map Ee)]) (λl b=>∃m,m+1<=b/\QL (λa b=>B3 a<=b) l m)) : Rd enc prog w (n+1) 25 (λa:Af=>(Ee a).cells) (λa b=>B3 a<=b):=by
 refine Mz (λp:Int×Int×List Af×Unit=>⟨p.1,p.2.1,p.2.2.1⟩) Go.Proofs.Tryz.underlying25 κ κ (λb=>?_) ?_ (Hf 1 (Ly .i64 n Go.Proofs.Tryz.underlying3) (Hf 1 (Ly .i64 n Go.Proofs.Tryz.underlying3) (Hf 1 h (My n 3))))
 .simp[Ee,AV.cells,Ll]
 .rintro⟨a,b,l,_⟩ m ⟨m1,m2,rfl,_,m3,m4,rfl,_,m5,m6,rfl,⟨k,hk,hq⟩,_⟩;have:=Ans hq;simp only[B3]at *;omega
theorem Ant:∀n:Nat,Rd enc prog w n 25 (λa:Af=>(Ee a).cells) (λa b=>B3 a<=b)
 | 0=>Kh _ _ _
 | 1=>Aym (Kh _ _ _)
 | n+2=>Aym (Acz 3 Ee Go.Proofs.Tryz.underlying23 κ δ (λ_=>rfl) (λ_=>rfl) (Ant n))
theorem Ayn (n:Nat):Rd enc prog w n 23 (λl:List Af=>[.sl 3 (l.map Ee)]) (λl b=>∃m,m+1<=b/\QL (λa b=>B3 a<=b) l m):=by cases n with| zero=>exact Kh _ _ _| succ n=>exact Acz 3 Ee Go.Proofs.Tryz.underlying23 κ δ (λ_=>rfl) (λ_=>rfl) (Ant n)
theorem Ayo (h:Rd enc prog w n 29 (λl:List Ax=>[.sl 3 (l.map Gg)]) (λl b=>∃m,m+1<=b/\QL (λa b=>Cp a<=b) l m)) : Rd enc prog w (n+1) 31 (λa:Ax=>(Gg a).cells) (λa b=>Cp a<=b):=by
 refine Mz (λp:Int×Int×List Ax×Unit=>⟨p.1,p.2.1,p.2.2.1⟩) Go.Proofs.Tryz.underlying31 κ κ (λb=>?_) ?_ (Hf 1 (Ly .i64 n Go.Proofs.Tryz.underlying3) (Hf 1 (Ly .i64 n Go.Proofs.Tryz.underlying2) (Hf 1 h (My n 3))))
 .simp[Gg,AV.cells,Jn]
 .rintro⟨a,b,l,_⟩ m ⟨m1,m2,rfl,_,m3,m4,rfl,_,m5,m6,rfl,⟨k,hk,hq⟩,_⟩;have:=Ayk hq;simp only[Cp]at *;omega
theorem Anu:∀n:Nat,Rd enc prog w n 31 (λa:Ax=>(Gg a).cells) (λa b=>Cp a<=b)
 | 0=>Kh _ _ _
 | 1=>Ayo (Kh _ _ _)
 | n+2=>Ayo (Acz 3 Gg Go.Proofs.Tryz.underlying29 κ δ (λ_=>rfl) (λ_=>rfl) (Anu n))
theorem Ayp (h:Rd enc prog w n 65 (λl:List Ah=>[.sl 2 (l.map Fv)]) (λl b=>∃m,m+1<=b/\QL (λa b=>Bv a<=b/\iR a) l m)) : Rd enc prog w (n+1) 67 (λa:Ah=>(Fv a).cells) (λa b=>Bv a<=b/\iR a):=by
 refine Mz (λp:Int×List Ah×Unit=>⟨p.1,p.2.1⟩) Go.Proofs.Tryz.underlying67 κ κ (λb=>?_) ?_ (Hf 1 (Ly .i64 n Go.Proofs.Tryz.underlying3) (Hf 1 h (My n 2)))
 .simp[Fv,AV.cells,Lm]
 .rintro⟨a,l,_⟩ m ⟨m1,m2,rfl,ha,m5,m6,rfl,⟨k,hk,hq⟩,_⟩;have:=Ayl hq;have ha:=Ayj ha;simp only[Bv,iR]at *;exact⟨ω,ha,this.2⟩
theorem Ayq:∀n:Nat,Rd enc prog w n 67 (λa:Ah=>(Fv a).cells) (λa b=>Bv a<=b/\iR a)
 | 0=>Kh _ _ _
 | 1=>Ayp (Kh _ _ _)
 | n+2=>Ayp (Acz 2 Fv Go.Proofs.Tryz.underlying65 κ δ (λ_=>rfl) (λ_=>rfl) (Ayq n))
theorem Ta {t e:TypeId} (sz:Nat) {f:α->List AV} (g:α->AV) (hu:prog.underlying t=some (.slice e)) (c:prog.cellsOf e=sz) (hpos:0<sz) (hg:∀a,(g a).cells=f a) (hf:∀a,(f a).length=sz) (ih:∀n,Rd enc prog w n e f Q) (n:Nat):Rd enc prog w n t (λl:List α=>[.sl sz (l.map g)]) (λl b=>∃m,m+1<=b/\QL Q l m):=by cases n with| zero=>exact Kh _ _ _| succ n=>exact Acz sz g hu c hpos hg hf (ih n)
theorem Bdk (n:Nat):Rd enc prog w n 161 (λa:Qh=>(Afd a).cells) (λa b=>a.S.size<=b/\Ds a.R<=b):=by
 cases n with
 | zero=>exact Kh _ _ _
 | succ n=>
  refine Mz (λp:ByteArray×List Af×Unit=>⟨p.1,p.2.1⟩) Go.Proofs.Tryz.underlying161 κ κ (λb=>?_) ?_ (Hf 1 (Ayh n Go.Proofs.Tryz.underlying9) (Hf 1 (Ayn n) (My n 2)))
  .simp[Afd,AV.cells,Ll]
  .rintro⟨a,l,_⟩ m ⟨m1,m2,rfl,ha,m5,m6,rfl,⟨k,hk,hq⟩,_⟩;have:=Ans hq;simp only at *;exact⟨ω,ω⟩
theorem Bdl (n:Nat):Rd enc prog w n 159 (λa:Ai=>(B6 a).cells) (λa b=>a.S.size<=b/\a.O.length<=b/\∀y∈a.O,y.S.size<=b/\Ds y.R<=b):=by
 cases n with
 | zero=>exact Kh _ _ _
 | succ n=>
  refine Mz (λp:ByteArray×Int×List Qh×Unit=>⟨p.1,p.2.1,p.2.2.1⟩) Go.Proofs.Tryz.underlying159 κ κ (λb=>?_) ?_ (Hf 1 (Ayh n Go.Proofs.Tryz.underlying9) (Hf 1 (Ly .i64 n Go.Proofs.Tryz.underlying3) (Hf 1 (Ta 2 Afd Go.Proofs.Tryz.underlying157 κ δ (λ_=>rfl) (λ_=>rfl) Bdk n) (My n 3))))
  .simp[B6,AV.cells]
  .rintro⟨a,b,l,_⟩ m ⟨m1,m2,rfl,ha,m3,m4,rfl,_,m5,m6,rfl,⟨k,hk,hq⟩,_⟩;have h1:=On hq;have h2:=Q9 hq;simp only at *;refine⟨ω,ω,λy hy=>?_⟩;obtain⟨c,g1,g2,g3⟩:=h2 y hy;exact⟨ω,ω⟩
theorem Bdm (n:Nat):Rd enc prog w n 27 (λa:B9=>(Nh a).cells) (λa b=>b<=1048576->CSz a):=by
 cases n with
 | zero=>exact Kh _ _ _
 | succ n=>
  refine Mz (λp:List Ai×List Af×Af×Unit=>⟨p.1,p.2.1,p.2.2.1⟩) Go.Proofs.Tryz.underlying27 κ κ (λb=>?_) ?_ (Hf 1 (Ta 3 B6 Go.Proofs.Tryz.underlying22 κ δ (λ_=>rfl) (λ_=>rfl) Bdl n) (Hf 1 (Ayn n) (Hf 3 (Ant n) (My n 5))))
  .simp[Nh,Ee,AV.cells,Ll]
  .rintro⟨a,b,l,_⟩ m ⟨m1,m2,rfl,⟨k,hk,hq⟩,m3,m4,rfl,⟨h,f,hq'⟩,m5,m6,rfl,j,_⟩ i;have h1:=On hq;have h2:=Q9 hq;have h3:=On hq';have g:=Q9 hq';simp only at *;refine⟨⟨by dsimp only;omega,λx hx=>?_,λx hx=>?_,λx hx y hy=>?_⟩,by dsimp only;omega,λt ht=>?_,by dsimp only;omega⟩
   .obtain⟨c,g1,g2,g3,g4⟩:=h2 x hx;refine⟨ω,λy hy=>?_⟩;have:=(g4 y hy).2;omega
   .obtain⟨c,g1,g2,g3,g4⟩:=h2 x hx;omega
   .obtain⟨c,g1,g2,g3,g4⟩:=h2 x hx;have:=(g4 y hy).1;omega
   .obtain⟨c,g1,g2⟩:=g t ht;omega
theorem Bdn (P:α->Prop) (h:∀a b,Q a b->P a) {l:List α} {m:Nat} (hq:QL Q l m):∀a∈l,P a:=λa ha=>by obtain⟨c,_,g⟩:=Q9 hq a ha;exact h a c g
theorem Ayr (n:Nat):Rd enc prog w n 45 (λl:List Int=>[.sl 1 (l.map (O .u32))]) (λl b=>l.length<=b/\Qj l):=by intro cs d h hb;obtain⟨a,h1,m,h2,h3⟩:=Ta (Q:=λa _=>IntKind.u32.min<=a/\a<=IntKind.u32.max) 1 (O .u32) Go.Proofs.Tryz.underlying45 κ δ (λ_=>rfl) (λ_=>rfl) (λn=>Ly .u32 n Go.Proofs.Tryz.underlying132) n cs d h hb;refine⟨a,h1,by have:=On h3;omega,λx hx=>?_⟩;have:=Bdn (λx=>IntKind.u32.min<=x/\x<=IntKind.u32.max) (λ_ _ h=>h) h3 x hx;have f:IntKind.u32.min=0:=δ;have c:IntKind.u32.max=4294967295:=δ;rw[f,c]at this;omega
theorem Bdo (n:Nat):Rd enc prog w n 47 (λa:Ao=>(C8 a).cells) (λa b=>RB b a):=by
 cases n with
 | zero=>exact Kh _ _ _
 | succ n=>
  refine Mz (λp:Bool×List Int×List Int×Unit=>⟨p.1,p.2.1,p.2.2.1⟩) Go.Proofs.Tryz.underlying47 κ κ (λb=>?_) ?_ (Hf 1 (Bdi n Go.Proofs.Tryz.underlying4) (Hf 1 (Ayr n) (Hf 1 (Ayr n) (My n 3))))
  .simp[C8,AV.cells]
  .rintro⟨a,b,l,_⟩ m ⟨m1,m2,rfl,_,m3,m4,rfl,h1,m5,m6,rfl,h2,_⟩;simp only at *;exact⟨h1.2,h2.2,by dsimp only;omega,by dsimp only;omega⟩
theorem Bdp (n:Nat):Rd enc prog w n 69 (λa:Bb=>(Ga a).cells) (λa b=>Bv a.I<=b/\iR a.I/\Ev a.v):=by
 cases n with
 | zero=>exact Kh _ _ _
 | succ n=>
  refine Mz (λp:Int×Ah×Unit=>⟨p.1,p.2.1⟩) Go.Proofs.Tryz.underlying69 κ κ (λb=>?_) ?_ (Hf 1 (Ly .i64 n Go.Proofs.Tryz.underlying3) (Hf 2 (Ayq n) (My n 3)))
  .simp[Ga,Fv,AV.cells]
  .rintro⟨a,b,_⟩ m ⟨m1,m2,rfl,h1,m3,m4,rfl,h2,_⟩;have h1:=Ayj h1;simp only at *;exact⟨ω,h2.2,h1⟩
theorem Bdq (n:Nat):Rd enc prog w n 92 (λa:Es=>(H7 a).cells) (λ_ _=>True):=by cases n with| zero=>exact Kh _ _ _| succ n=>refine Mz (λp:Int×Int×Unit=>⟨p.1,p.2.1⟩) Go.Proofs.Tryz.underlying92 κ κ (λb=>?_) (λ_ _ _=>trivial) (Hf 1 (Ly .i64 n Go.Proofs.Tryz.underlying3) (Hf 1 (Ly .i64 n Go.Proofs.Tryz.underlying2) (My n 2)));simp[H7,AV.cells]
theorem Bdr (n:Nat):Rd enc prog w n 39 (λa:Bn=>(L3 a).cells) (λa b=>a.T.length<=b):=by
 cases n with
 | zero=>exact Kh _ _ _
 | succ n=>
  refine Mz (λp:Int×List Es×Unit=>⟨p.1,p.2.1⟩) Go.Proofs.Tryz.underlying39 κ κ (λb=>?_) ?_ (Hf 1 (Ly .i64 n Go.Proofs.Tryz.underlying2) (Hf 1 (Ta 2 H7 Go.Proofs.Tryz.underlying37 κ δ (λ_=>rfl) (λ_=>rfl) Bdq n) (My n 2)))
  .simp[L3,AV.cells]
  .rintro⟨a,l,_⟩ m ⟨m1,m2,rfl,ha,m5,m6,rfl,⟨k,hk,hq⟩,_⟩;have:=On hq;simp only at *;omega
theorem Bds (n:Nat):Rd enc prog w n 73 (λa:Bd=>(F0 a).cells) (λa b=>a.L.T.length<=b):=by
 cases n with
 | zero=>exact Kh _ _ _
 | succ n=>
  refine Mz (λp:Bn×Int×Unit=>⟨p.1,p.2.1⟩) Go.Proofs.Tryz.underlying73 κ κ (λb=>?_) ?_ (Hf 2 (Bdr n) (Hf 1 (Ly .i64 n Go.Proofs.Tryz.underlying3) (My n 3)))
  .simp[F0,L3,AV.cells]
  .rintro⟨a,l,_⟩ m ⟨m1,m2,rfl,ha,m5,m6,rfl,_,_⟩;simp only at *;omega
theorem Bdt (n:Nat):Rd enc prog w n 77 (λa:A3=>(G6 a).cells) (λa b=>b<=1048576->MSz a):=by
 cases n with
 | zero=>exact Kh _ _ _
 | succ n=>
  refine Mz (λp:List Bb×List Bd×Unit=>⟨p.1,p.2.1⟩) Go.Proofs.Tryz.underlying77 κ κ (λb=>?_) ?_ (Hf 1 (Ta 3 Ga Go.Proofs.Tryz.underlying75 κ δ (λ_=>rfl) (λ_=>rfl) Bdp n) (Hf 1 (Ta 3 F0 Go.Proofs.Tryz.underlying74 κ δ (λ_=>rfl) (λ_=>rfl) Bds n) (My n 2)))
  .simp[G6,AV.cells]
  .rintro⟨a,l,_⟩ m ⟨m1,m2,rfl,⟨i,h,hq'⟩,m5,m6,rfl,⟨k,hk,hq⟩,_⟩ j;have h1:=On hq;have h2:=Q9 hq;have h3:=On hq';have g:=Q9 hq';simp only at *;refine⟨by dsimp only;omega,by dsimp only;omega,λf hf=>?_,λf hf=>?_,λx hx=>?_⟩
   .obtain⟨c,g1,g2,g3⟩:=g f hf;omega
   .obtain⟨c,g1,g2,g3⟩:=g f hf;exact g3
   .obtain⟨c,g1,g2⟩:=h2 x hx;omega
theorem Bdu (n:Nat):Rd enc prog w n 82 (λa:Aj=>(C9 a).cells) (λa b=>b<=1048576->TSz a):=by
 cases n with
 | zero=>exact Kh _ _ _
 | succ n=>
  refine Mz (λp:Ao×A3×Unit=>⟨p.1,p.2.1⟩) Go.Proofs.Tryz.underlying82 κ κ (λb=>?_) ?_ (Hf 3 (Bdo n) (Hf 2 (Bdt n) (My n 5)))
  .simp[C9,C8,G6,AV.cells]
  .rintro⟨a,l,_⟩ m ⟨m1,m2,rfl,h1,m5,m6,rfl,h2,_⟩ c;simp only at *;exact⟨RB.mono h1 ω,h2 ω⟩
theorem Bdv (n:Nat):Rd enc prog w n 28 (λl:List Aj=>[.sl 5 (l.map C9)]) (λl b=>b<=1048576->l.length<=1048576/\∀t∈l,TSz t):=by intro cs d h hb;obtain⟨a,h1,m,h2,h3⟩:=Ta (Q:=λa b=>b<=1048576->TSz a) 5 C9 Go.Proofs.Tryz.underlying28 κ δ (λ_=>rfl) (λ_=>rfl) Bdu n cs d h hb;refine⟨a,h1,λf=>⟨by have:=On h3;omega,λx hx=>?_⟩⟩;obtain⟨c,g1,g2⟩:=Q9 h3 x hx;exact g2 ω
theorem Bdw (n:Nat):Rd enc prog w n 29 (λl:List Ax=>[.sl 3 (Gw l)]) (λl b=>l.length<=b/\∀v∈l,Cp v<=b):=by
 intro cs d h hb;obtain⟨a,h1,m,h2,h3⟩:=Ta (Q:=λa b=>Cp a<=b) 3 Gg Go.Proofs.Tryz.underlying29 κ δ (λ_=>rfl) (λ_=>rfl) Anu n cs d h hb;refine⟨a,?_,by have:=On h3;omega,λx hx=>?_⟩
 .show CCs _ [AV.sl 3 (Gw a)] cs;rw[Jn];exact h1
 .obtain⟨c,g1,g2⟩:=Q9 h3 x hx;omega
end
end Go.Ab
namespace Go.Ab
open Go Go.Proofs Go.ChangeShapes Go.WideShapes Go.ChangeAt Go.RowKit Go.Proofs.Tryz
open Go.Proofs.YtdjgjhnhlpiccaaGreatDoor.Rows (uptoBulk uptoBulkAll uptoSmall)
set_option maxRecDepth 100000
variable {W:World}
theorem Ays {P:Program} {x:String×DataW Unit} {l:List (String×DataW Unit)} (h:laidMet P (x::l) W):laidMet P l W:=by obtain⟨ps,⟨s,t',cs,fuel,p,q,k,g,f,hd,i,c⟩,j,hc⟩:=h;subst c;refine⟨q,i,(nodup_append.1 j).2.1,λb off hb=>hc b off ?_⟩;simp[hb]
theorem Bdx (h:laidMetH prog YtdjgjhnhlpiccaaGreatDoor.Rows.polyMeasuredRow.laid W):Vr (Om W):=by
 have h1:laidMet prog [("internal/strconv.uint64pow10",YtdjgjhnhlpiccaaGreatDoor.Rows.laid_internal_strconv_uint64pow10)] W:=Ays (Ays h);have h2:Lib.TabIs prog W "internal/strconv.uint64pow10" .u64 Lib.pow10Tab :=
  Lib.tabIs_of_head (g:=0) (rest:=[]) κ κ Go.Proofs.Tryz.underlying404 Go.Proofs.Tryz.underlying131 κ κ h1
 have g:prog.globalNamed "internal/strconv.uint64pow10" = some 0:=κ;unfold Lib.TabIs World.var? at h2;rw[g]at h2;simp only[Option.bind_some]at h2;split at h2
 .rename_i cs E fr hc;cases h2;exact⟨E,fr,hc⟩
 .cases h2
theorem Ajz (g:Vr (Om W)):St (Om W) ι0 H0 (λ_=>none) W W := ⟨(λ_ _ h=>h),(λ_ _ h=>by cases h),(λ_=>rfl),(λ_ _ _ h=>by cases h),rfl,rfl,rfl,g,Nat.le_refl _⟩
theorem Bdy {σ:A7} {xs:List AV} {cs:Array Value} (h:CCs σ xs cs.toList):CC σ (.agg xs) (.agg cs) :=
 .agg xs cs (by simpa using h.1) (λi c v h1 h2=>(h.2 i c v h1 (by simpa using h2)).1)
section
variable {H:Type} {enc:TypeId×Value->H} {W:World} {base:Nat} {t:TypeId} {v:Value} {d:DataW H} {p:List MemPlace}
variable {α:Type} {Q:α->Nat->Prop}
theorem Ayt {g:α->List AV} {fs:Array Field} (hu:prog.underlying t=some (.struct fs)) (b:Value.okWide prog W .any base t v) (hd:DataW.Trod enc prog W 0 (λ_=>true) true t v d p) (hb:uptoBulk d<=1048576) (rd:∀n,Rd enc prog W n t g Q):∃a,CC (Om W) (.agg (g a)) v/\Q a (uptoBulk d):=by unfold Value.okWide at b;rw[hu]at b;obtain⟨cs,rfl,_⟩:=b;obtain⟨n,c⟩:=hd.by;obtain⟨a,h1,h2⟩:=rd n _ d c hb;exact⟨a,Bdy h1,h2⟩
theorem Ac0 {g:α->AV} (hv:v.cells = #[v]) (hd:DataW.Trod enc prog W 0 (λ_=>true) true t v d p) (hb:uptoBulk d<=1048576) (rd:∀n,Rd enc prog W n t (λa=>[g a]) Q):∃a,CC (Om W) (g a) v/\Q a (uptoBulk d):=by obtain⟨n,b⟩:=hd.by;obtain⟨a,h1,h2⟩:=rd n _ d b hb;rw[hv]at h1;exact⟨a,(h1.2 0 _ _ rfl rfl).1,h2⟩
theorem Ayu {e:TypeId} (hu:prog.underlying t=some (.slice e)) (b:Value.okWide prog W .any base t v):v.cells = #[v]:=by unfold Value.okWide at b;rw[hu]at b;cases v with| agg cs=>simp only[Cell.okWide,Cell.ok,hu]at b| _=>rfl
theorem Anv {k:IntKind} (hu:prog.underlying t=some (.int k)) (b:Value.okWide prog W .any base t v):v.cells = #[v]:=by unfold Value.okWide at b;rw[hu]at b;cases v with| agg cs=>simp only[Cell.okWide,Cell.ok,hu]at b| _=>rfl
end
section
variable {H:Type} {enc:TypeId×Value->H} {P:Program}
theorem Ayv (f:laidOutB P=true) {w w':World} {c:Nat->Bool}:∀{ts:List TypeId} {vs:List Value} {g:List (DataW H)} {ps:List MemPlace}, (ts.all λt=>P.readableRec t&&decide (t<P.types.size))=true->DataW.TrodAll enc P w 0 (λ_=>true) true ts vs g ps->(∀p∈ps,w.sameAt w' p)->(∀p∈ps,c p.block=true)->DataW.TrodAll enc P w' 0 c true ts vs g ps
 | [],[],[],_,_,h,_,_=>h
 | t::ts,_::_,_::_,_,b,⟨p,q,h,i,e⟩,hk,hp=>by subst e;simp only[all_cons,Bool.and_eq_true,decide_eq_true_eq]at b;exact⟨p,q,WideElems.Trod_stays f b.1.1 b.1.2 h (λx hx=>hk x (by simp[hx])) (λx hx=>hp x (by simp[hx])),Ayv f b.2 i (λx hx=>hk x (by simp[hx])) (λx hx=>hp x (by simp[hx])),rfl⟩
theorem Bdz (R:laidOutB P=true) {f:Func} {s:ChangeSpec} {g:Bool} {W l:World} {args:Array Value} {k:List (DataW H)} {j:List MemPlace} {t:TypeId} (hv:s.vars = []) (G:DataW.Whole enc P f.params.toList s.vars false W args.toList k [] j) (N:(f.params.toList.all λt=>P.readableRec t&&decide (t<P.types.size))=true) (E:(s.fn H k).results = [.lit (.bool true)]/\(s.fn H k).args=k/\(s.fn H k).vars = []) (B:f.resultTypes = #[t]) (ht:P.underlying t=some .bool) (z:∀(b:Nat) (o:Obj),W.heap[b]? = some o->l.heap[b]? = some o) (D:l.os=W.os) (u:l.output=W.output) : s.post enc P f false true g false W args (.bool true) l:=by
 have A:=G;obtain⟨p,q,U,I,rfl,S,_⟩:=G;rw[hv]at I;obtain rfl:q = []:=I;have y:=A.lt;rw[append_nil]at *;have c:∀b,b<W.heap.size->l.heap[b]? = W.heap[b]?:=λb hb=>by rw[Array.getElem?_eq_getElem hb];exact z b _ (Array.getElem?_eq_getElem hb)
 have same:∀x∈p,W.sameAt l x:=by intro x hx;have:=c x.block (y x hx);cases x with| cell b o=>exact World.cell?_of_block (w:=W) this| map b=>exact this
 obtain⟨M,L,J⟩:=E;refine⟨k,[],p,[],p,[],A,?_,?_,?_,⟨D,u,λi hi=>?_⟩,λh=>by cases h⟩
 .rw[append_nil,M,B];exact trodAll_mk1 (shut_bool ht _)
 .rw[append_nil,L];exact Ayv R N U same (λx hx=>by simpa using y x hx)
 .rw[append_nil,J,hv];rfl
 .rw[c i hi];split <;> simp_all
end
end Go.Ab
